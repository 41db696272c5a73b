/- Parts of the proof: QFlD, QFl2. -/
import Derived.Test.YtpffhoefmcpniaaGreatDoorB1
import Derived.Test.YtpffhoefmcpniaaGreatDoorB4
namespace Go.Proofs.YtpffhoefmcpniaaGreatDoor
open Go.RowKit

def rm (f : List Int) (y : Int) (k : Lnk) : Prop := f.getD k.e 0 ≠ y * k.y
def Go1 (ls : List (List Lnk)) (f : List Int) (y : Int) (u v : Nat) : Prop := ∃ k ∈ ls.getD u [], k.v = v ∧ rm f y k
def dAt (d : List Int) (v : Nat) : Int := d.getD v (-1)
structure Dep (n : Nat) (ls : List (List Lnk)) (f : List Int) (y : Int) (s : List Nat) (d : List Int) : Prop where
 len : d.length = n
 lo : ∀ v, -1 ≤ dAt d v
 hi : ∀ v, dAt d v < n
 zero : ∀ v, dAt d v = 0 → v ∈ s
 pre : ∀ v, 0 < dAt d v → ∃ u, dAt d u + 1 = dAt d v ∧ Go1 ls f y u v
 src : ∀ v ∈ s, 0 ≤ dAt d v
 closed : ∀ u v, 0 ≤ dAt d u → Go1 ls f y u v → 0 ≤ dAt d v
structure Inv1 (n : Nat) (ls : List (List Lnk)) (f : List Int) (y : Int) (s : List Nat) (d : List Int) (q : List Nat) : Prop where
 len : d.length = n
 nodup : q.Nodup
 lt : ∀ v ∈ q, v < n
 lo : ∀ v, -1 ≤ dAt d v
 mem : ∀ v, v ∈ q ↔ 0 ≤ dAt d v
 hi : ∀ (p v : Nat), q[p]? = some v → dAt d v ≤ p
 pre : ∀ v ∈ q, (dAt d v = 0 ∧ v ∈ s) ∨ ∃ u, dAt d u + 1 = dAt d v ∧ 0 ≤ dAt d u ∧ Go1 ls f y u v
theorem dAt_rep (n v : Nat) : dAt (List.replicate n (-1)) v = -1 := by
 unfold dAt
 rw [List.getD_eq_getElem?_getD, List.getElem?_replicate]
 split <;> rfl
theorem dAt_set {d : List Int} {a : Nat} {x : Int} (ha : a < d.length) (v : Nat) : dAt (d.set a x) v = if v = a then x else dAt d v := by
 unfold dAt
 rw [List.getD_eq_getElem?_getD, List.getElem?_set]
 by_cases e : a = v
 · subst e
   rw [if_pos rfl, if_pos ha, if_pos rfl]
   rfl
 · rw [if_neg e, if_neg (Ne.symm e), ← List.getD_eq_getElem?_getD]
theorem Inv1.start (n : Nat) (ls : List (List Lnk)) (f : List Int) (y : Int) (s : List Nat) : Inv1 n ls f y s (List.replicate n (-1)) [] :=
 ⟨by simp, List.nodup_nil, (fun v h => by cases h), (fun v => by rw [dAt_rep]; omega), (fun v => by rw [dAt_rep]; simp), (fun p v h => by simp at h), (fun v h => by cases h)⟩
theorem Inv1.size {n : Nat} {ls : List (List Lnk)} {f : List Int} {y : Int} {s : List Nat} {d : List Int} {q : List Nat} (h : Inv1 n ls f y s d q) : q.length ≤ n := by
 have h1 : q.length ≤ (List.range n).length := h.nodup.length_le_of_subset (fun v hv => List.mem_range.2 (h.lt v hv))
 simpa using h1
theorem Inv1.add {n : Nat} {ls : List (List Lnk)} {f : List Int} {y : Int} {s : List Nat} {d : List Int} {q : List Nat} {a : Nat} {x : Int} (h : Inv1 n ls f y s d q) (ha : a < n) (hd : dAt d a < 0) (hx0 : 0 ≤ x) (hx : x ≤ q.length)
 (hp : (x = 0 ∧ a ∈ s) ∨ ∃ u, dAt d u + 1 = x ∧ 0 ≤ dAt d u ∧ Go1 ls f y u a) : Inv1 n ls f y s (d.set a x) (q ++ [a]) := by
 have hal : a < d.length := by rw [h.len]; exact ha
 have hna : a ∉ q := fun e => by have := (h.mem a).1 e; omega
 have old : ∀ v, v ∈ q → dAt (d.set a x) v = dAt d v := fun v hv => by
  rw [dAt_set hal, if_neg (fun e => hna (by rw [← e]; exact hv))]
 refine ⟨by rw [List.length_set]; exact h.len, ?_, fun v hv => ?_, fun v => ?_, fun v => ?_, fun p v hv => ?_, fun v hv => ?_⟩
 · rw [List.nodup_append]
   exact ⟨h.nodup, by simp, fun b hb c hc e => hna (by rw [List.mem_singleton.1 hc] at e; rw [← e]; exact hb)⟩
 · rcases List.mem_append.1 hv with h1 | h1
   · exact h.lt v h1
   · rw [List.mem_singleton.1 h1]; exact ha
 · rw [dAt_set hal]
   split
   · omega
   · exact h.lo v
 · rw [dAt_set hal, List.mem_append, List.mem_singleton]
   by_cases e : v = a
   · rw [if_pos e]; simp [e, hx0]
   · rw [if_neg e, ← h.mem v]; simp [e]
 · rcases Nat.lt_trichotomy p q.length with h1 | h1 | h1
   · rw [List.getElem?_append_left h1] at hv
     rw [old v (List.mem_of_getElem? hv)]
     exact h.hi p v hv
   · subst h1
     rw [List.getElem?_append_right (Nat.le_refl _), Nat.sub_self] at hv
     cases hv
     rw [dAt_set hal, if_pos rfl]
     exact hx
   · rw [List.getElem?_eq_none (by simp; omega)] at hv
     cases hv
 · rcases List.mem_append.1 hv with h1 | h1
   · rw [old v h1]
     rcases h.pre v h1 with h2 | ⟨u, k1, k2, k3⟩
     · exact .inl h2
     · exact .inr ⟨u, by rw [old u ((h.mem u).2 k2)]; exact k1, by rw [old u ((h.mem u).2 k2)]; exact k2, k3⟩
   · rw [List.mem_singleton.1 h1, dAt_set hal, if_pos rfl]
     rcases hp with hp | ⟨u, k1, k2, k3⟩
     · exact .inl hp
     · exact .inr ⟨u, by rw [old u ((h.mem u).2 k2)]; exact k1, by rw [old u ((h.mem u).2 k2)]; exact k2, k3⟩
def Gone (ls : List (List Lnk)) (f : List Int) (y : Int) (q : List Nat) (i j : Nat) : Prop :=
 (∀ (p v : Nat) (k : Lnk), p < i → q[p]? = some v → k ∈ ls.getD v [] → rm f y k → k.v ∈ q) ∧ ∀ (v : Nat) (k : Lnk), q[i]? = some v → k ∈ (ls.getD v []).take j → rm f y k → k.v ∈ q
theorem Gone.start (ls : List (List Lnk)) (f : List Int) (y : Int) (q : List Nat) : Gone ls f y q 0 0 := ⟨fun _ _ _ h => absurd h (by omega), fun _ _ _ h => by simp at h⟩
theorem Gone.more {ls : List (List Lnk)} {f : List Int} {y : Int} {q q' : List Nat} {i j : Nat} (h : Gone ls f y q i j) (hi : i < q.length) (t : List Nat) (hq : q' = q ++ t) : Gone ls f y q' i j := by
 subst hq
 refine ⟨fun p v k hp hv hk hr => List.mem_append_left _ (h.1 p v k hp ?_ hk hr), fun v k hv hk hr => List.mem_append_left _ (h.2 v k ?_ hk hr)⟩
 · rwa [List.getElem?_append_left (by omega)] at hv
 · rwa [List.getElem?_append_left hi] at hv
theorem Gone.link {ls : List (List Lnk)} {f : List Int} {y : Int} {q : List Nat} {i j v : Nat} {k : Lnk} (h : Gone ls f y q i j) (hv : q[i]? = some v) (hk : (ls.getD v [])[j]? = some k) (hr : rm f y k → k.v ∈ q) : Gone ls f y q i (j + 1) := by
 refine ⟨h.1, fun v' k' hv' hk' hr' => ?_⟩
 rw [hv] at hv'
 cases hv'
 have hlt := (List.getElem?_eq_some_iff.1 hk).1
 rw [List.take_succ_eq_append_getElem hlt, List.mem_append, List.mem_singleton] at hk'
 rcases hk' with hk' | hk'
 · exact h.2 v k' hv hk' hr'
 · rw [(List.getElem?_eq_some_iff.1 hk).2] at hk'
   subst hk'
   exact hr hr'
theorem Gone.next {ls : List (List Lnk)} {f : List Int} {y : Int} {q : List Nat} {i v : Nat} (hv : q[i]? = some v) (h : Gone ls f y q i (ls.getD v []).length) : Gone ls f y q (i + 1) 0 := by
 refine ⟨fun p v' k hp hv' hk hr => ?_, fun _ _ _ h => by simp at h⟩
 rcases Nat.lt_or_ge p i with h1 | h1
 · exact h.1 p v' k h1 hv' hk hr
 · obtain rfl : p = i := by omega
   rw [hv] at hv'
   cases hv'
   exact h.2 v k hv (by rw [List.take_length]; exact hk) hr
theorem dep_of {n : Nat} {ls : List (List Lnk)} {f : List Int} {y : Int} {s : List Nat} {d : List Int} {q : List Nat} (h : Inv1 n ls f y s d q) (hs : ∀ v ∈ s, v ∈ q) (hg : Gone ls f y q q.length 0) : Dep n ls f y s d :=
 ⟨h.len, h.lo, (fun v => by
  by_cases h1 : dAt d v < 0
  · omega
  · have h1 : 0 ≤ dAt d v := by omega
    have hv := (h.mem v).2 h1
    obtain ⟨p, hp, e⟩ := List.getElem_of_mem hv
    have := h.hi p v (by rw [List.getElem?_eq_getElem hp, e])
    have := h.size
    omega), (fun v hv => by
  rcases h.pre v ((h.mem v).2 (by omega)) with h1 | ⟨u, k1, k2, _⟩
  · exact h1.2
  · omega), (fun v hv => by
  rcases h.pre v ((h.mem v).2 (by omega)) with h1 | ⟨u, k1, k2, k3⟩
  · omega
  · exact ⟨u, k1, k3⟩), (fun v hv => (h.mem v).1 (hs v hv)), fun u v hu ⟨k, hk, hkv, hr⟩ => by
  obtain ⟨p, hp, e⟩ := List.getElem_of_mem ((h.mem u).2 hu)
  have := hg.1 p u k hp (by rw [List.getElem?_eq_getElem hp, e]) hk hr
  rw [hkv] at this
  exact (h.mem v).1 this⟩
end Go.Proofs.YtpffhoefmcpniaaGreatDoor

namespace Go.Proofs.YtpffhoefmcpniaaGreatDoor
open Go.RowKit

attribute [local go_sem ↓] Go.wp_at_zero Go.wp_at_succ

def nats (l : List Nat) : List Int := l.map (fun v : Nat => (v : Int))
theorem nats_app (l m : List Nat) : nats (l ++ m) = nats l ++ nats m := by simp [nats]
theorem nats_len (l : List Nat) : (nats l).length = l.length := by simp [nats]
theorem nats_get {l : List Nat} {i v : Nat} (h : l[i]? = some v) : (nats l)[i]? = some (v : Int) := by simp [nats, h]
theorem nats_inv {l : List Nat} {i : Nat} {x : Int} (h : (nats l)[i]? = some x) : ∃ v, l[i]? = some v ∧ x = v := by
 unfold nats at h
 rw [List.getElem?_map] at h
 cases e : l[i]? with
 | none => rw [e] at h; cases h
 | some v => rw [e] at h; cases h; exact ⟨v, rfl, rfl⟩
theorem int1_one (x : Int) : ∀ u ∈ [Value.int .i64 x], u.oneCell' = true := icells_one [x]
def minus1 (n k : Nat) : List Int := List.replicate k (-1) ++ List.replicate (n - k) 0
theorem minus1_next {n k : Nat} (h : k < n) : (minus1 n k).set k (-1) = minus1 n (k + 1) := by
 unfold minus1
 rw [List.set_append_right _ _ (by simp)]
 obtain ⟨m, hm⟩ : ∃ m, n - k = m + 1 := ⟨n - k - 1, by omega⟩
 rw [hm, show n - (k + 1) = m by omega, List.replicate_succ' (n := k)]
 simp [List.replicate_succ]
theorem minus1_all (n : Nat) : minus1 n n = List.replicate n (-1) := by simp [minus1]
theorem minus1_zero (n : Nat) : ints (minus1 n 0) = zeros (.int .i64 0) n := by simp [minus1, ints, zeros]
theorem minus1_len {n k : Nat} (h : k ≤ n) : (minus1 n k).length = n := by simp [minus1]; omega

set_option maxHeartbeats 8000000 in
theorem depths_any (AT AF AS : Option Addr) (n ct mf cf ks cs : Nat) (y : Int) (ls : List (List Lnk)) (f : List Int) (s : List Nat) (w : World) (h : RdN w AT n ls) (hf : RdI w AF mf f) (hs : RdI w AS ks (nats s)) (hsn : ∀ v ∈ s, v < n) (hy : y = 1 ∨ y = -1)
 (hk : ∀ (a : Nat) (l : List Lnk) (k : Lnk), ls[a]? = some l → k ∈ l → k.v < n ∧ k.e < mf ∧ (k.y = 1 ∨ k.y = -1)) (hn : n ≤ 1000000) (hl : ∀ (a : Nat) (l : List Lnk), ls[a]? = some l → l.length ≤ 3000000) (hks : ks ≤ 1000000) :
 Calls Tryz.prog 131 #[.slice AT n ct, .slice AF mf cf, .slice AS ks cs, .int .i64 y] w fun e w' => ∃ d, e = .returned (.slice (some ⟨w.heap.size, 0, none⟩) n n) ∧ RdI w' (some ⟨w.heap.size, 0, none⟩) n d ∧ Blk w' w.heap.size 3 (ints d) ∧ Dep n ls f y s d ∧ Below w.heap.size w w' := by
 have hmk := run_makeI n (by omega)
 have HSN := Lib.hid hsn
 have HK := Lib.hid hk
 have HL := Lib.hid hl
 have HSL := Lib.hid hs.1
 clear hsn hk hl
 go_enter Tryz.func131, Tryz.ntmps131
 go_wp2_with fail
 (refine wp_named ?_; intro w1 hw1)
 have hb1 : Below w.heap.size w w1 := by rw [hw1]; exact bELt
 have hB1 : Blk w1 w.heap.size 3 (ints (minus1 n 0)) := by rw [hw1, minus1_zero]; exact Blk.new _ _ _
 clear hw1 hmk
 go_loopw [23] (fun i W => Below w.heap.size w W ∧ ∃ k : Nat, k ≤ n ∧ i = .int .i64 k ∧ Blk W w.heap.size 3 (ints (minus1 n k))) (fun i _ => n - (intOf i).toNat)
 case atStart => exact ⟨hb1, 0, Nat.zero_le _, rfl, hB1⟩
 case round =>
  clear hb1 hB1
  obtain ⟨hbl, k, hk, rfl, hB⟩ := hrel
  by_cases hlt : k < n
  · obtain ⟨v, hv⟩ : ∃ v, (minus1 n k)[k]? = some v := ⟨_, List.getElem?_eq_getElem (by rw [minus1_len hk]; exact hlt)⟩
    have c1 := hB.cellI hv
    have c1f := hB.frozen k
    have HN := Lib.hid (hB.setI (minus1_next hlt))
    have i1 : (0 : Int) ≤ (k : Int) := by omega
    have i2 : (k : Int) < (n : Int) := by omega
    have hbn : Below w.heap.size w (wr.setCell ⟨w.heap.size, k, none⟩ (.int .i64 (-1))) := hbl.setCell (Nat.le_refl _) _
    clear hB hbl hv
    go_wp2_with fail
    go_roundw
    case rel => exact ⟨hbn, k + 1, by omega, by go_num, HN.out⟩
    case measure => simp [intOf]; omega
  · obtain rfl : n = k := by omega
    rw [minus1_all] at hB
    have HI0 := Lib.hid (Inv1.start n ls f y s)
    go_wp2_with fail
    go_loopw [11, 32] (fun r i W => Below w.heap.size w W ∧ ∃ (k : Nat) (d : List Int) (q : List Nat) (A : Option Addr) (c : Nat), k ≤ ks ∧ i = .int .i64 k ∧ r = .slice A q.length c ∧ Blk W w.heap.size 3 (ints d) ∧ Own W (w.heap.size + 1) 3 1 A q.length c (icells (nats q)) ∧ Inv1 n ls f y s d q ∧ ∀ v ∈ s.take k, v ∈ q) (fun _ i _ => ks - (intOf i).toNat)
    case atStart => exact ⟨hbl, 0, _, [], none, 0, Nat.zero_le _, rfl, rfl, hB, Own.nil _ _ _ _, HI0.out, fun v hv => by simp at hv⟩
    case round =>
     clear hbl hB
     obtain ⟨hbl, k, d, q, A, c, hk, rfl, rfl, hB, hown, hinv, hsq⟩ := hrel
     have HI := Lib.hid hinv
     have HSQ := Lib.hid hsq
     have hqn := hinv.size
     have hdl := hinv.len
     clear hinv hsq
     by_cases hlt2 : k < ks
     · obtain ⟨b, o, x, rfl, hx, hc⟩ := hs.at_ hlt2
       obtain ⟨a, hsa, rfl⟩ := nats_inv hx
       have han := HSN.out a (List.mem_of_getElem? hsa)
       have j1 := Below.cellOf hbl (Nat.le_refl _) hc
       obtain ⟨z, hz⟩ : ∃ z, d[a]? = some z := ⟨_, List.getElem?_eq_getElem (by omega)⟩
       have hdz : dAt d a = z := by unfold dAt; rw [List.getD_eq_getElem?_getD, hz]; rfl
       have c1 := hB.cellI hz
       have c1f := hB.frozen a
       have HTK := Lib.hid (show s.take (k + 1) = s.take k ++ [a] by
        have hlt := (List.getElem?_eq_some_iff.1 hsa).1
        rw [List.take_succ_eq_append_getElem hlt, (List.getElem?_eq_some_iff.1 hsa).2])
       have i1 : (0 : Int) ≤ (k : Int) := by omega
       have i2 : (k : Int) < (ks : Int) := by omega
       have i3 : (0 : Int) ≤ (a : Int) := by omega
       have i4 : (a : Int) < (n : Int) := by omega
       have hmem : a ∈ s := List.mem_of_getElem? hsa
       clear hx hc hsa
       by_cases hneg : z < 0
       · have HI2 := Lib.hid (HI.out.add (x := 0) han (by omega) (by omega) (by omega) (.inl ⟨rfl, hmem⟩))
         have hB2 := Lib.hid (hB.setI (l' := d.set a 0) rfl)
         obtain ⟨W2, hW2⟩ : ∃ W2, W2 = wr.setCell ⟨w.heap.size, a, none⟩ (.int .i64 0) := ⟨_, rfl⟩
         have hown2 : Own W2 (w.heap.size + 1) 3 1 A q.length c (icells (nats q)) := by rw [hW2]; exact hown.far (grownBy_set _ _ _ _) (.inr (hown.ne (by omega)))
         have hBW : Blk W2 w.heap.size 3 (ints (d.set a 0)) := by rw [hW2]; exact hB2.out
         have hblW : Below w.heap.size w W2 := by rw [hW2]; exact hbl.setCell (Nat.le_refl _) _
         have hlt3 := hBW.lt
         have hszr := hB.lt
         have hown3 := hown2.alloc (.cells #[.int .i64 (a : Int)] 3)
         have hB3 := hBW.alloc (.cells #[.int .i64 (a : Int)] 3)
         have hbn : Blk (W2.alloc (.cells #[.int .i64 (a : Int)] 3)) W2.heap.size 3 #[.int .i64 (a : Int)] := Blk.new _ _ _
         have hrd := hbn.rds (s := 1) (m := 1) rfl
         have hbel : Below w.heap.size w (W2.alloc (.cells #[.int .i64 (a : Int)] 3)) := hblW.alloc (by omega) _
         rw [show W2.heap.size = wr.heap.size by rw [hW2]; simp [World.setCell]] at hrd
         have hszW : w.heap.size + 1 ≤ W2.heap.size := by omega
         rw [hW2] at hown3 hrd
         clear hown hB hown2 hBW hblW hbn hbl
         go_wp2_with (at_builtin; with_reducible refine wpList_app rfl (.tmp 44) (.tmp 46) 27 rfl 3 _ 1 8 infoInt Tryz.underlying27 rfl (by omega) rfl rfl hown3 hrd (int1_one _) (by omega) (by omega) (by simp [World.setCell]; omega) ?_)
         intro A' c' w' hown' hg _
         rw [← hW2] at hown3 hg
         have hbn : Below w.heap.size w w' := Bel.grownOwn hbel hg (hown3.mono (by omega)) (by simp; omega)
         have HB := Lib.hid (hB3.grown hg (hown3.ne (by omega)))
         have HO := Lib.hid hown'
         clear hown' hg hown3 hrd hB3 hbel hB2 hW2
         go_wp2
         go_roundw
         case rel => exact ⟨hbn, k + 1, d.set a 0, q ++ [a], A', c', by omega, by go_num, by simp, HB.out, by rw [List.length_append, nats_app, icells_app]; exact HO.out, HI2.out, fun v hv => by
          rw [HTK.out, List.mem_append, List.mem_singleton] at hv
          rcases hv with hv | hv
          · exact List.mem_append_left _ (HSQ.out v hv)
          · rw [hv]; simp⟩
         case measure => simp [intOf]; omega
       · have HM := Lib.hid ((HI.out.mem a).2 (by omega))
         go_wp2_with fail
         go_roundw
         case rel => exact ⟨hbl, k + 1, d, q, A, c, by omega, by go_num, rfl, hB, hown, HI.out, fun v hv => by
          rw [HTK.out, List.mem_append, List.mem_singleton] at hv
          rcases hv with hv | hv
          · exact HSQ.out v hv
          · rw [hv]; exact HM.out⟩
         case measure => simp [intOf]; omega
     · obtain rfl : k = ks := by omega
       have hsq := HSQ.out
       rw [List.take_of_length_le (by have := HSL.out; rw [nats_len] at this; omega)] at hsq
       have HSS := Lib.hid hsq
       have HG0 := Lib.hid (Gone.start ls f y q)
       clear hsq HSQ
       go_wp2_with fail
       have HH := Lib.hid h
       have HF := Lib.hid hf
       go_loopw [11, 14] (fun r i W => Below w.heap.size w W ∧ ∃ (p : Nat) (d : List Int) (q : List Nat) (A : Option Addr) (c : Nat), p ≤ q.length ∧ i = .int .i64 p ∧ r = .slice A q.length c ∧ Blk W w.heap.size 3 (ints d) ∧ Own W (w.heap.size + 1) 3 1 A q.length c (icells (nats q)) ∧ Inv1 n ls f y s d q ∧ (∀ v ∈ s, v ∈ q) ∧ Gone ls f y q p 0) (fun _ i _ => n - (intOf i).toNat)
       case atStart => exact ⟨hbl, 0, d, q, A, c, Nat.zero_le _, rfl, rfl, hB, hown, HI.out, HSS.out, HG0.out⟩
       case round =>
        clear hbl hB hown HI HSS HG0 hqn hdl
        obtain ⟨hbl, p, d, q, A, c, hp, rfl, rfl, hB, hown, hinv, hsq, hgo⟩ := hrel
        have HI := Lib.hid hinv
        have HSS := Lib.hid hsq
        have HG := Lib.hid hgo
        have hqn := hinv.size
        clear hinv hsq hgo
        by_cases hlt3 : p < q.length
        · obtain ⟨v, hv⟩ : ∃ v, q[p]? = some v := ⟨_, List.getElem?_eq_getElem hlt3⟩
          have hvn := HI.out.lt v (List.mem_of_getElem? hv)
          obtain ⟨rb, ro, x, rfl, hx, hcx⟩ := hown.rds.rdI.at_ hlt3
          obtain rfl : x = (v : Int) := by rw [nats_get hv] at hx; exact (Option.some.inj hx).symm
          obtain ⟨b, o, A', c', l, rfl, hlv, hcl, hrl, _, _⟩ := HH.out.at_ hvn
          have hll := HL.out v l hlv
          have j1 := Below.cellOf hbl (Nat.le_refl _) hcl
          have hld : ls.getD v [] = l := by rw [List.getD_eq_getElem?_getD, hlv]; rfl
          have i1 : (0 : Int) ≤ (p : Int) := by omega
          have i2 : (p : Int) < (q.length : Int) := by omega
          have i3 : (0 : Int) ≤ (v : Int) := by omega
          have i4 : (v : Int) < (n : Int) := by omega
          have HV := Lib.hid hv
          have HLV := Lib.hid hlv
          have HLD := Lib.hid hld
          clear hx hv hlv hld
          go_wp2_with fail
          go_loopw [11, 64] (fun r i W => Below w.heap.size w W ∧ ∃ (j : Nat) (d : List Int) (q : List Nat) (A : Option Addr) (c : Nat), j ≤ l.length ∧ i = .int .i64 j ∧ r = .slice A q.length c ∧ Blk W w.heap.size 3 (ints d) ∧ Own W (w.heap.size + 1) 3 1 A q.length c (icells (nats q)) ∧ Inv1 n ls f y s d q ∧ (∀ v ∈ s, v ∈ q) ∧ Gone ls f y q p j ∧ q[p]? = some v) (fun _ i _ => l.length - (intOf i).toNat)
          case atStart => exact ⟨hbl, 0, d, q, _, c, Nat.zero_le _, rfl, rfl, hB, hown, HI.out, HSS.out, HG.out, HV.out⟩
          case round =>
           clear hbl hB hown HI HSS HG HV hqn hcx j1 i2 hlt3 hp
           obtain ⟨hbl, j, d, q, A, c, hj, rfl, rfl, hB, hown, hinv, hsq, hgo, hv⟩ := hrel
           have HI := Lib.hid hinv
           have HSS := Lib.hid hsq
           have HG := Lib.hid hgo
           have HV := Lib.hid hv
           have hqn := hinv.size
           have hdl := hinv.len
           have hpq := (List.getElem?_eq_some_iff.1 hv).1
           have hdp := hinv.hi p v hv
           have hd0 := (hinv.mem v).1 (List.mem_of_getElem? hv)
           clear hinv hsq hgo hv
           by_cases hlt4 : j < l.length
           · obtain ⟨lb, lo, k, rfl, hk, k0, k1, k2, k3⟩ := hrl.at_ hlt4
             obtain ⟨hkv, hke, hky⟩ := HK.out v l k HLV.out (List.mem_of_getElem? hk)
             obtain ⟨fb, fo, fx, rfl, hfx, hfc⟩ := HF.out.at_ hke
             have HFX := Lib.hid (show f.getD k.e 0 = fx by rw [List.getD_eq_getElem?_getD, hfx]; rfl)
             have HKJ := Lib.hid (show (ls.getD v [])[j]? = some k by rw [HLD.out]; exact hk)
             have HKM := Lib.hid (show k ∈ ls.getD v [] by rw [HLD.out]; exact List.mem_of_getElem? hk)
             obtain ⟨zt, hzt⟩ : ∃ z, d[k.v]? = some z := ⟨_, List.getElem?_eq_getElem (by omega)⟩
             obtain ⟨zv, hzv⟩ : ∃ z, d[v]? = some z := ⟨_, List.getElem?_eq_getElem (by omega)⟩
             have hdt : dAt d k.v = zt := by unfold dAt; rw [List.getD_eq_getElem?_getD, hzt]; rfl
             have hdv : dAt d v = zv := by unfold dAt; rw [List.getD_eq_getElem?_getD, hzv]; rfl
             rw [hdv] at hdp hd0
             have q0 := Below.cellOf hbl (Nat.le_refl _) k0
             have q1 := Below.cellOf hbl (Nat.le_refl _) k1
             have q2 := Below.cellOf hbl (Nat.le_refl _) k2
             have q3 := Below.cellOf hbl (Nat.le_refl _) k3
             have qf := Below.cellOf hbl (Nat.le_refl _) hfc
             have ct := hB.cellI hzt
             have cv := hB.cellI hzv
             obtain ⟨W2, hW2⟩ : ∃ W2, W2 = wr.alloc (.cells #[.int .i64 k.e, .int .i64 k.u, .int .i64 k.v, .int .i64 k.y] 230) := ⟨_, rfl⟩
             have hbox : Blk W2 wr.heap.size 230 #[.int .i64 k.e, .int .i64 k.u, .int .i64 k.v, .int .i64 k.y] := by rw [hW2]; exact Blk.new _ _ _
             have hr2 : Below wr.heap.size wr W2 := by rw [hW2]; exact bELt
             have ct2 := Below.cellOf hr2 (Nat.le_refl _) ct
             have cv2 := Below.cellOf hr2 (Nat.le_refl _) cv
             have cf2 := Below.cellOf hr2 (Nat.le_refl _) qf
             have hB2 := hB.below hr2 hB.lt
             have hown2 := hown.below hr2
             have hbl2 : Below w.heap.size w W2 := Bel.step hbl hr2
             have HSX := Lib.hid (show ∀ V, Below W2.heap.size W2 V → V.cell? ⟨wr.heap.size, 0, none⟩ = some (.int .i64 k.e) ∧ V.cell? ⟨wr.heap.size, 2, none⟩ = some (.int .i64 k.v) ∧ V.cell? ⟨wr.heap.size, 3, none⟩ = some (.int .i64 k.y) ∧ V.cell? ⟨w.heap.size, k.v, none⟩ = some (.int .i64 zt) ∧ V.cell? ⟨fb, fo + k.e, none⟩ = some (.int .i64 fx) from
              fun V hb => ⟨(hbox.below hb hbox.lt).four.1, (hbox.below hb hbox.lt).four.2.2.1, (hbox.below hb hbox.lt).four.2.2.2, Below.cellOf hb (Nat.le_refl _) ct2, Below.cellOf hb (Nat.le_refl _) cf2⟩)
             have e1 : IntKind.i64.wrap (y * k.y) = y * k.y := by
              rcases hy with rfl | rfl <;> rcases hky with e | e <;> rw [e] <;> decide
             have i5 : (0 : Int) ≤ (j : Int) := by omega
             have i6 : (j : Int) < (l.length : Int) := by omega
             have i7 : (0 : Int) ≤ (k.v : Int) := by omega
             have i8 : (k.v : Int) < (n : Int) := by omega
             have i9 : (0 : Int) ≤ (k.e : Int) := by omega
             have i10 : (k.e : Int) < (mf : Int) := by omega
             have HB2 := Lib.hid hB2
             have HO2 := Lib.hid hown2
             have HT := Lib.hid (show zt < 0 → dAt d k.v < 0 from fun g => by omega)
             have HT2 := Lib.hid (show ¬ zt < 0 → k.v ∈ q from fun g => (HI.out.mem k.v).2 (by omega))
             have hbx2 := hbox.four.2.2.1
             have HVK := Lib.hid (show zt < 0 → v ≠ k.v from fun g e => by rw [e] at hdv; omega)
             have hltg := hB.lt
             have hszW : W2.heap.size = wr.heap.size + 1 := by rw [hW2]; simp
             clear hB hown hbl k0 k1 k2 k3 qf ct cv hk hfx hfc hzt hzv hdt cf2 hB2 hown2
             by_cases hneg : zt < 0
             · go_wp2_with fail
               rw [← hW2]
               clear hW2
               refine wp_region_held_drew (S := fun V => Below W2.heap.size W2 V) (by kernel_rfl) (Below.refl _ _).drew (fun _ => ?_)
               refine tk 0 68 (h := ⟨_, tv, ?_⟩)
               simp only [pE, List.set]
               refine tk 1 69 (h := ⟨_, tv, ?_⟩)
               simp only [pE, List.set]
               refine tk 2 70 (h := ⟨_, tv, ?_⟩)
               simp only [pE, List.set]
               refine tk 3 71 (h := ⟨_, tv, ?_⟩)
               simp only [pE, List.set]
               refine tk 4 72 (h := ⟨_, tv, ?_⟩)
               simp only [pE, List.set]
               refine tk 5 73 (h := ⟨_, tv, ?_⟩)
               simp only [pE, List.set]
               refine tk 6 74 (h := ⟨_, tv, ?_⟩)
               simp only [pE, List.set]
               refine tk 7 75 (h := ⟨_, tv, ?_⟩)
               simp only [pE, List.set]
               refine tk 8 76 (h := ⟨_, tv, ?_⟩)
               simp only [pE, List.set]
               refine tk 9 77 (h := ⟨_, tv, ?_⟩)
               simp only [pE, List.set]
               refine tk 10 78 (h := ⟨_, tv, ?_⟩)
               simp only [pE, List.set]
               refine tk 11 79 (h := ⟨_, tv, ?_⟩)
               simp only [pE, List.set]
               refine tk 12 80 (h := ⟨_, tv, ?_⟩)
               simp only [pE, List.set]
               refine tk 13 81 (h := ⟨_, tv, ?_⟩)
               simp only [pE, List.set]
               refine tk 14 82 (h := ⟨_, tv, ?_⟩)
               simp only [pE, List.set]
               refine tk 15 83 (h := ⟨_, tv, ?_⟩)
               simp only [pE, List.set]
               refine tk 16 84 (h := ⟨_, tv, ?_⟩)
               simp only [pE, List.set]
               refine tk 17 85 (h := ⟨_, tv, ?_⟩)
               simp only [pE, List.set]
               refine wpAnyH_done (by kernel_rfl) ?_ _
               by_cases hrm : fx = y * k.y
               · have e3 : (fx == y * k.y) = true := by rw [hrm]; simp
                 have hbn : Below w.heap.size w W2.drew := hbl2.drew
                 have HNR := Lib.hid (show ¬ rm f y k from fun h => h (by rw [HFX.out]; exact hrm))
                 clear hrm
                 go_wp2_with fail
                 go_roundw
                 case rel => exact ⟨hbn, j + 1, d, q, A, c, by omega, by go_num, rfl, HB2.out.drew, HO2.out.drew, HI.out, HSS.out, HG.out.link HV.out HKJ.out (fun h => absurd h HNR.out), HV.out⟩
                 case measure => simp [intOf]; omega
               · have e3 : (fx == y * k.y) = false := by simp only [beq_eq_false_iff_ne]; exact hrm
                 have HRM := Lib.hid (show rm f y k from fun h => hrm (by rw [← HFX.out]; exact h))
                 obtain ⟨W3, hW3⟩ : ∃ W3, W3 = W2.drew := ⟨_, rfl⟩
                 rw [← hW3]
                 have hB3 : Blk W3 w.heap.size 3 (ints d) := by rw [hW3]; exact HB2.out.drew
                 have hown3 : Own W3 (w.heap.size + 1) 3 1 A q.length c (icells (nats q)) := by rw [hW3]; exact HO2.out.drew
                 have hbl3 : Below w.heap.size w W3 := by rw [hW3]; exact hbl2.drew
                 have s1 : W3.cell? ⟨wr.heap.size, 2, none⟩ = some (.int .i64 k.v) := by rw [hW3]; exact hbx2
                 have s2 : W3.cell? ⟨w.heap.size, v, none⟩ = some (.int .i64 zv) := by rw [hW3]; exact cv2
                 have s3 : W3.cell? ⟨w.heap.size, k.v, none⟩ = some (.int .i64 zt) := by rw [hW3]; exact ct2
                 have s3f := hB3.frozen k.v
                 have hsz3 : wr.heap.size + 1 = W3.heap.size := by rw [hW3]; show _ = W2.heap.size; exact hszW.symm
                 have hvk : v ≠ k.v := HVK.out hneg
                 have hgb : wr.heap.size ≠ w.heap.size := by omega
                 have t1 : (W3.setCell ⟨w.heap.size, k.v, none⟩ (.int .i64 (zv + 1))).cell? ⟨wr.heap.size, 2, none⟩ = some (.int .i64 k.v) := by
                  rw [World.cell?_setCell_other _ _ _ _ (fun e => hgb (by injection e with e1; exact e1.symm))]; exact s1
                 have t2 : (W3.setCell ⟨w.heap.size, k.v, none⟩ (.int .i64 (zv + 1))).cell? ⟨w.heap.size, v, none⟩ = some (.int .i64 zv) := by
                  rw [World.cell?_setCell_other _ _ _ _ (fun e => hvk (by injection e with _ e1; exact e1.symm))]; exact s2
                 have HI2 := Lib.hid (HI.out.add (x := zv + 1) hkv (HT.out hneg) (by omega) (by omega) (.inr ⟨v, by rw [hdv], by rw [hdv]; exact hd0, k, HKM.out, rfl, HRM.out⟩))
                 have e4 : IntKind.i64.wrap (zv + 1) = zv + 1 := IntWalk.i64_in _ (by omega)
                 clear HSX
                 have HSX := Lib.hid (show ∀ V : World, (V.cell? ⟨wr.heap.size, 2, none⟩ = some (.int .i64 k.v) ∧ V.cell? ⟨w.heap.size, v, none⟩ = some (.int .i64 zv)) → V.cell? ⟨wr.heap.size, 2, none⟩ = some (.int .i64 k.v) ∧ V.cell? ⟨w.heap.size, v, none⟩ = some (.int .i64 zv) from fun V h => h)
                 clear hW3 hbox hr2 ct2 cv2 hbl2 HB2 HO2 hbx2 hrm
                 go_wp2_with fail
                 refine wp_region_held_drew (S := fun V => V.cell? ⟨wr.heap.size, 2, none⟩ = some (.int .i64 k.v) ∧ V.cell? ⟨w.heap.size, v, none⟩ = some (.int .i64 zv)) (by kernel_rfl) ⟨s1, s2⟩ (fun _ => ?_)
                 refine tk 0 86 (h := ⟨_, tv, ?_⟩)
                 simp only [pE, List.set]
                 refine tk 1 87 (h := ⟨_, tv, ?_⟩)
                 simp only [pE, List.set]
                 refine tk 2 88 (h := ⟨_, tv, ?_⟩)
                 simp only [pE, List.set]
                 refine tk 3 89 (h := ⟨_, tv, ?_⟩)
                 simp only [pE, List.set]
                 refine tk 4 90 (h := ⟨_, tv, ?_⟩)
                 simp only [pE, List.set]
                 refine tk 5 91 (h := ⟨_, tv, ?_⟩)
                 simp only [pE, List.set]
                 refine tk 6 92 (h := ⟨_, tv, ?_⟩)
                 simp only [pE, List.set]
                 refine tk 7 93 (h := ⟨_, tv, ?_⟩)
                 simp only [pE, List.set]
                 refine tk 8 94 (h := ⟨_, tv, ?_⟩)
                 simp only [pE, List.set]
                 refine wpAnyH_ready (rs := [9]) (by kernel_rfl) (by simp) ?_
                 refine AllReadyH.cons (o := _) rfl (fun K hK => ?_) AllReadyH.nil
                 go_simp
                 refine hK.out _ _ ⟨t1, t2⟩ (fun _ => ?_)
                 clear hK K
                 refine wpAnyH_done (by kernel_rfl) ?_ _
                 obtain ⟨W4, hW4⟩ : ∃ W4, W4 = (W3.setCell ⟨w.heap.size, k.v, none⟩ (.int .i64 (zv + 1))).drew := ⟨_, rfl⟩
                 rw [← hW4]
                 have hB4 : Blk W4 w.heap.size 3 (ints (d.set k.v (zv + 1))) := by rw [hW4]; exact (hB3.setI rfl).drew
                 have hown4 : Own W4 (w.heap.size + 1) 3 1 A q.length c (icells (nats q)) := by rw [hW4]; exact (hown3.far (grownBy_set _ _ _ _) (.inr (hown3.ne (by omega)))).drew
                 have hbl4 : Below w.heap.size w W4 := by rw [hW4]; exact (hbl3.setCell (Nat.le_refl _) _).drew
                 have u1 : W4.cell? ⟨wr.heap.size, 2, none⟩ = some (.int .i64 k.v) := by rw [hW4]; exact t1
                 have hlt5 := hB4.lt
                 clear hW4 hB3 hown3 hbl3 s1 s2 s3 s3f t1 t2 HSX
                 have hown5 := hown4.alloc (.cells #[.int .i64 (k.v : Int)] 3)
                 have hB5 := hB4.alloc (.cells #[.int .i64 (k.v : Int)] 3)
                 have hbn5 : Blk (W4.alloc (.cells #[.int .i64 (k.v : Int)] 3)) W4.heap.size 3 #[.int .i64 (k.v : Int)] := Blk.new _ _ _
                 have hrd := hbn5.rds (s := 1) (m := 1) rfl
                 have hbel : Below w.heap.size w (W4.alloc (.cells #[.int .i64 (k.v : Int)] 3)) := hbl4.alloc (by omega) _
                 clear hbn5 hown4 hB4 hbl4
                 go_wp2_with (at_builtin; with_reducible refine wpList_app rfl (.tmp 95) (.tmp 98) 27 rfl 3 _ 1 8 infoInt Tryz.underlying27 rfl (by omega) rfl rfl hown5 hrd (int1_one _) (by omega) (by omega) (by simp; omega) ?_)
                 intro A' c' w' hown' hg _
                 have hbn : Below w.heap.size w w' := Bel.grownOwn hbel hg (hown5.mono (by omega)) (by simp; omega)
                 have HB := Lib.hid (hB5.grown hg (hown5.ne (by omega)))
                 have HO := Lib.hid hown'
                 have HV2 := Lib.hid (show (q ++ [k.v])[p]? = some v by rw [List.getElem?_append_left hpq]; exact HV.out)
                 clear hown' hg hown5 hrd hB5 hbel
                 go_wp2
                 go_roundw
                 case rel => exact ⟨hbn, j + 1, d.set k.v (zv + 1), q ++ [k.v], A', c', by omega, by go_num, by simp, HB.out, by rw [List.length_append, nats_app, icells_app]; exact HO.out, HI2.out, fun v hv => List.mem_append_left _ (HSS.out v hv), (HG.out.more hpq [k.v] rfl).link HV2.out HKJ.out (fun _ => by simp), HV2.out⟩
                 case measure => simp [intOf]; omega
             · have e2 : decide (zt < 0) = false := by simp; omega
               go_wp2_with fail
               rw [← hW2]
               clear hW2
               refine wp_region_held_drew (S := fun V => Below W2.heap.size W2 V) (by kernel_rfl) (Below.refl _ _).drew (fun _ => ?_)
               refine tk 0 68 (h := ⟨_, tv, ?_⟩)
               simp only [pE, List.set]
               refine tk 1 69 (h := ⟨_, tv, ?_⟩)
               simp only [pE, List.set]
               refine tk 2 70 (h := ⟨_, tv, ?_⟩)
               simp only [pE, List.set]
               refine tk 3 71 (h := ⟨_, tv, ?_⟩)
               simp only [pE, List.set]
               refine tk 4 72 (h := ⟨_, tv, ?_⟩)
               simp only [pE, List.set]
               refine tk 5 73 (h := ⟨_, tv, ?_⟩)
               simp only [pE, List.set]
               refine tk 6 74 (h := ⟨_, tv, ?_⟩)
               simp only [pE, List.set]
               refine tu 7 75 (h := ?_)
               simp only [pE, List.set]
               refine tu 8 76 (h := ?_)
               simp only [pE, List.set]
               refine tu 9 77 (h := ?_)
               simp only [pE, List.set]
               refine tu 10 78 (h := ?_)
               simp only [pE, List.set]
               refine tu 11 79 (h := ?_)
               simp only [pE, List.set]
               refine tu 12 80 (h := ?_)
               simp only [pE, List.set]
               refine tu 13 81 (h := ?_)
               simp only [pE, List.set]
               refine tu 14 82 (h := ?_)
               simp only [pE, List.set]
               refine tu 15 83 (h := ?_)
               simp only [pE, List.set]
               refine tu 16 84 (h := ?_)
               simp only [pE, List.set]
               refine tk 17 85 (h := ⟨_, tv, ?_⟩)
               simp only [pE, List.set]
               refine wpAnyH_done (by kernel_rfl) ?_ _
               have hbn : Below w.heap.size w W2.drew := hbl2.drew
               go_wp2_with fail
               go_roundw
               case rel => exact ⟨hbn, j + 1, d, q, A, c, by omega, by go_num, rfl, HB2.out.drew, HO2.out.drew, HI.out, HSS.out, HG.out.link HV.out HKJ.out (fun _ => HT2.out hneg), HV.out⟩
               case measure => simp [intOf]; omega
           · obtain rfl : j = l.length := by omega
             go_wp2_with fail
             go_roundw
             case rel => exact ⟨hbl, p + 1, d, q, A, c, by omega, by go_num, rfl, hB, hown, HI.out, HSS.out, Gone.next HV.out (by rw [HLD.out]; exact HG.out)⟩
             case measure => simp [intOf]; omega
        · obtain rfl : p = q.length := by omega
          have hlen := HI.out.len
          have HR := Lib.hid (hB.rdI hlen)
          have HBB := Lib.hid hB
          have HD := Lib.hid (dep_of HI.out HSS.out HG.out)
          go_wp2_with fail
          go_ret
          exact ⟨d, rfl, HR.out, HBB.out, HD.out, hbl⟩
end Go.Proofs.YtpffhoefmcpniaaGreatDoor
