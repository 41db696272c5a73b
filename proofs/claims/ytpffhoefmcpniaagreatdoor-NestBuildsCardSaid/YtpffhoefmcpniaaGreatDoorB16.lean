/- Parts of the proof: Nf1, NeF, NeV. -/
import Derived.Test.YtpffhoefmcpniaaGreatDoorB1
import Derived.Test.YtpffhoefmcpniaaGreatDoorB2
import Derived.Test.YtpffhoefmcpniaaGreatDoorB9
import Derived.Test.YtpffhoefmcpniaaGreatDoorB15
namespace Go.Proofs.YtpffhoefmcpniaaGreatDoor
open Go.RowKit

attribute [local go_sem ↓] Go.wp_at_zero Go.wp_at_succ

theorem uneven_any (A : Option Addr) (n c : Nat) (b : List Bool) (w : World) (h : RdB w A n b) (hn : n ≤ 1000000000) :
 Calls Tryz.prog 94 #[.slice A n c] w fun e w' => e = .returned (.int .i64 (offB b)) ∧ w = w' := by
 have hbl := h.1
 go_enter Tryz.func94, Tryz.ntmps94
 go_wp2
 go_loop [3, 4] (fun t i => ∃ k : Nat, k ≤ n ∧ i = .int .i64 k ∧ t = .int .i64 ((cnt (b.take k) : Nat) : Int)) (fun _ i => n - (intOf i).toNat)
 case atStart => exact ⟨0, Nat.zero_le _, rfl, by simp [cnt]⟩
 case round =>
  obtain ⟨k, hk, rfl, rfl⟩ := hrel
  have hbd := cnt_le b k
  by_cases hlt : k < n
  · obtain ⟨g, o, x, rfl, hx, hc⟩ := h.at_ hlt
    have HS := Lib.hid (cnt_take hx)
    have i1 : (0 : Int) ≤ (k : Int) := by omega
    have i2 : (k : Int) < (n : Int) := by omega
    clear hx
    generalize cnt (b.take k) = t at *
    cases x
    all_goals
     go_wp2
     go_round
     case rel => exact ⟨k + 1, by omega, by go_num, by first | (rw [HS.out]; done) | (rw [HS.out]; rfl) | (rw [HS.out]; simp; done) | (rw [HS.out]; go_num)⟩
     case measure => simp [intOf]; omega
  · obtain rfl : k = n := by omega
    rw [List.take_of_length_le (by omega)] at *
    have HO := Lib.hid (show offB b = max (2 * (cnt b : Int) - (k : Int)) (-(2 * (cnt b : Int) - (k : Int))) by unfold offB; rw [hbl])
    generalize cnt b = t at *
    clear hbl
    go_wp2
    all_goals
     go_ret
     exact ⟨ret_int (by first | (rw [HO.out]; done) | (rw [HO.out]; omega)), rfl⟩
set_option maxHeartbeats 1000000 in
theorem refHalf_any (A : Option Addr) (n c : Nat) (l : List Int) (w : World) (h : RdI w A n l) (hn : n ≤ 1000000000) (hc : n ≤ c) :
 Calls Tryz.prog 101 #[.slice A n c] w fun e w' => ∃ A1 c1, e = .returned (.slice A1 ((n + 1) / 2) c1) ∧ RdI w' A1 ((n + 1) / 2) (l.take ((n + 1) / 2)) ∧ Below w.heap.size w w' := by
 have hh : (n + 1) / 2 ≤ n := by omega
 obtain ⟨k, hk⟩ : ∃ k, k = (n + 1) / 2 := ⟨_, rfl⟩
 have e1 : ((n : Int) + 1) / 2 = (k : Int) := by omega
 rw [← hk] at hh ⊢
 have H1 := Lib.hid (h.take hh)
 have i1 : (0 : Int) ≤ (k : Int) := by omega
 have i2 : (k : Int) ≤ (n : Int) := by omega
 have i3 : (k : Int) ≤ (c : Int) := by omega
 obtain ⟨W1, hW1⟩ : ∃ W, W = w.alloc (.cells #[] 3) := ⟨_, rfl⟩
 have hO : Own W1 w.heap.size 3 1 (some ⟨w.heap.size, 0, none⟩) 0 0 [] := by rw [hW1]; exact lit0 (Nat.le_refl _)
 have hb1 : Below w.heap.size w W1 := by rw [hW1]; exact bELt
 have HW1 := Lib.hid hW1
 clear hk hW1 h
 go_enter Tryz.func101, Tryz.ntmps101
 go_wp2_with (at_builtin; rw [← HW1.out]; with_reducible refine wpList_app rfl (.tmp 3) (.tmp 9) 27 rfl 3 _ 1 8 infoInt Tryz.underlying27 rfl (by omega) rfl rfl hO (H1.out.below hb1).rdsI (icells_one _) (by omega) (by omega) hb1.size ?_)
 intro A1 c1 w5 hown5 hg5 hat5
 have hb5 : Below w.heap.size w w5 := Bel.grownOwn hb1 hg5 hO hb1.size
 have hr : RdI w5 A1 k (l.take k) := hown5.rds.rdI
 have HR := Lib.hid hr
 clear hr hown5 hg5 hat5 hO
 go_wp2_with fail
 go_ret
 exact ⟨A1, c1, rfl, HR.out, hb5⟩
end Go.Proofs.YtpffhoefmcpniaaGreatDoor

namespace Go.Proofs.YtpffhoefmcpniaaGreatDoor
open Go.RowKit

def RoomI (E : List Edg) (f : List Int) (i : Nat) (u v : Int) : Prop := ∃ x : Int, f[i]? = some x ∧ u ≠ v ∧ ((E[i]? = some (u, v) ∧ x ≠ 1) ∨ (E[i]? = some (v, u) ∧ x ≠ -1))
theorem room_iff {E : List Edg} {f : List Int} {u v : Int} : Room E f u v ↔ ∃ i, RoomI E f i u v := by
 constructor
 · rintro ⟨i, x, h1, h2, h3⟩; exact ⟨i, x, h1, h2, h3⟩
 · rintro ⟨i, x, h1, h2, h3⟩; exact ⟨i, x, h1, h2, h3⟩
def roomF (e : Edg) (x u : Int) : Option Int := if e.1 = e.2 then none else if e.1 = u ∧ x ≠ 1 then some e.2 else if e.2 = u ∧ x ≠ -1 then some e.1 else none
theorem roomF_iff {E : List Edg} {f : List Int} {i : Nat} {e : Edg} {x u v : Int} (he : E[i]? = some e) (hx : f[i]? = some x) : RoomI E f i u v ↔ roomF e x u = some v := by
 obtain ⟨a, b⟩ := e
 unfold RoomI roomF
 rw [he, hx]
 constructor
 · rintro ⟨y, hy, hne, h⟩
   cases hy
   rcases h with ⟨h, hx1⟩ | ⟨h, hx1⟩
   · cases h
     simp only
     rw [if_neg hne, if_pos ⟨trivial, hx1⟩]
   · cases h
     simp only
     rw [if_neg (Ne.symm hne), if_neg (fun q => hne q.1.symm), if_pos ⟨trivial, hx1⟩]
 · intro h
   simp only at h
   split at h
   · cases h
   · rename_i hne
     split at h
     · rename_i g
       obtain ⟨rfl, g2⟩ := g
       cases h
       exact ⟨x, rfl, hne, .inl ⟨by first | rfl | trivial, g2⟩⟩
     · split at h
       · rename_i g
         obtain ⟨rfl, g2⟩ := g
         cases h
         exact ⟨x, rfl, Ne.symm hne, .inr ⟨by first | rfl | trivial, g2⟩⟩
       · cases h
structure Bfs (n : Nat) (E : List Edg) (f : List Int) (s : List Nat) (b : List Int) (q : List Nat) : Prop where
 len : b.length = n
 nodup : q.Nodup
 lt : ∀ v ∈ q, v < n
 out : ∀ v, v < n → v ∉ q → b[v]? = some (-2)
 inn : ∀ (p v : Nat), q[p]? = some v → (b[v]? = some (-1) ∧ v ∈ s) ∨ ∃ (i p' u : Nat), p' < p ∧ q[p']? = some u ∧ b[v]? = some (i : Int) ∧ RoomI E f i u v
section
variable {n : Nat} {E : List Edg} {f : List Int} {s : List Nat} {b : List Int} {q : List Nat}
theorem Bfs.start (n : Nat) (E : List Edg) (f : List Int) (s : List Nat) : Bfs n E f s (List.replicate n (-2)) [] :=
 ⟨by simp, List.nodup_nil, fun v hv => by (cases hv), fun v hv _ => by simp [hv], fun p v h => by simp at h⟩
theorem Bfs.size (h : Bfs n E f s b q) : q.length ≤ n := by
 have := List.Nodup.length_le_of_subset h.nodup (l₂ := List.range n) (fun v hv => List.mem_range.2 (h.lt v hv))
 simpa using this
theorem nodup_pos {l : List Nat} (h : l.Nodup) {i j v : Nat} (h1 : l[i]? = some v) (h2 : l[j]? = some v) : i = j := by
 obtain ⟨a1, e1⟩ := List.getElem?_eq_some_iff.1 h1
 obtain ⟨a2, e2⟩ := List.getElem?_eq_some_iff.1 h2
 have hp := List.pairwise_iff_getElem.1 h
 rcases Nat.lt_trichotomy i j with hlt | rfl | hlt
 · exact absurd (e1.trans e2.symm) (hp i j a1 a2 hlt)
 · rfl
 · exact absurd (e2.trans e1.symm) (hp j i a2 a1 hlt)
theorem Bfs.add (h : Bfs n E f s b q) {v : Nat} {x : Int} (hv : v < n) (hn : v ∉ q) (hx : (x = -1 ∧ v ∈ s) ∨ ∃ (i p' u : Nat), q[p']? = some u ∧ x = (i : Int) ∧ RoomI E f i u v) : Bfs n E f s (b.set v x) (q ++ [v]) := by
 have hne : ∀ u ∈ q, v ≠ u := fun u hu e => hn (e ▸ hu)
 refine ⟨by rw [List.length_set, h.len], ?_, fun u hu => ?_, fun u hu1 hu2 => ?_, fun p u hp => ?_⟩
 · rw [List.nodup_append]
   exact ⟨h.nodup, by simp, fun a ha c hc => by rw [List.mem_singleton.1 hc]; exact fun e => hne a ha e.symm⟩
 · rcases List.mem_append.1 hu with hu | hu
   · exact h.lt u hu
   · rw [List.mem_singleton.1 hu]; exact hv
 · rw [List.getElem?_set_ne (fun e => hu2 (by subst e; simp))]
   exact h.out u hu1 (fun hu => hu2 (List.mem_append_left _ hu))
 · rcases Nat.lt_or_ge p q.length with hlt | hge
   · rw [List.getElem?_append_left hlt] at hp
     have hm := List.mem_of_getElem? hp
     rw [List.getElem?_set_ne (hne u hm)]
     rcases h.inn p u hp with g | ⟨i, p', w, g1, g2, g3, g4⟩
     · exact .inl g
     · exact .inr ⟨i, p', w, g1, by rw [List.getElem?_append_left (by omega)]; exact g2, g3, g4⟩
   · have hpe : p = q.length := by
      have := (List.getElem?_eq_some_iff.1 hp).1
      simp at this; omega
     subst hpe
     rw [List.getElem?_append_right (Nat.le_refl _), Nat.sub_self] at hp
     cases hp
     have hs : (b.set v x)[v]? = some x := List.getElem?_set_self (by rw [h.len]; exact hv)
     rcases hx with ⟨rfl, g⟩ | ⟨i, p', w, g1, rfl, g2⟩
     · exact .inl ⟨hs, g⟩
     · have := (List.getElem?_eq_some_iff.1 g1).1
       exact .inr ⟨i, p', w, this, by rw [List.getElem?_append_left this]; exact g1, hs, g2⟩
theorem Bfs.mem (h : Bfs n E f s b q) {v : Nat} (hv : v < n) : v ∈ q ↔ b[v]? ≠ some (-2) := by
 constructor
 · intro hm e
   obtain ⟨p, hp, ep⟩ := List.getElem_of_mem hm
   rcases h.inn p v (by rw [List.getElem?_eq_getElem hp, ep]) with ⟨g, _⟩ | ⟨i, _, _, _, _, g, _⟩
   · rw [e] at g; cases g
   · rw [e] at g; have := Option.some.inj g; omega
 · intro hne
   by_cases hm : v ∈ q
   · exact hm
   · exact absurd (h.out v hv hm) hne
def Gon (E : List Edg) (f : List Int) (q : List Nat) (h k : Nat) : Prop := ∀ (p u v i : Nat), q[p]? = some u → (p < h ∨ (p = h ∧ i < k)) → RoomI E f i u v → v ∈ q
theorem Gon.start (E : List Edg) (f : List Int) (q : List Nat) : Gon E f q 0 0 := fun p u v i _ h _ => by omega
theorem Gon.more {h k : Nat} (g : Gon E f q h k) (hh : h < q.length) (t : List Nat) : Gon E f (q ++ t) h k := fun p u v i hp hlt hr => by
 have : p < q.length := by omega
 rw [List.getElem?_append_left this] at hp
 exact List.mem_append_left _ (g p u v i hp hlt hr)
theorem Gon.edge {h k u : Nat} (g : Gon E f q h k) (hu : q[h]? = some u) (hk : ∀ v : Nat, RoomI E f k u v → v ∈ q) : Gon E f q h (k + 1) := fun p w v i hp hlt hr => by
 rcases hlt with hlt | ⟨rfl, hlt⟩
 · exact g p w v i hp (.inl hlt) hr
 · by_cases e : i = k
   · subst e
     rw [hu] at hp
     cases hp
     exact hk v hr
   · exact g p w v i hp (.inr ⟨rfl, by omega⟩) hr
theorem Gon.next {h : Nat} (g : Gon E f q h E.length) : Gon E f q (h + 1) 0 := fun p w v i hp hlt hr => by
 by_cases e : p = h
 · refine g p w v i hp (.inr ⟨e, ?_⟩) hr
   obtain ⟨x, _, _, h1 | h1⟩ := hr
   · exact (List.getElem?_eq_some_iff.1 h1.1).1
   · exact (List.getElem?_eq_some_iff.1 h1.1).1
 · exact g p w v i hp (.inl (by omega)) hr
theorem bfs_reach (hB : Bfs n E f s b q) : ∀ (p v : Nat), q[p]? = some v → Reach E f (nats s) v := by
 intro p
 induction p using Nat.strongRecOn with
 | ind p ih =>
  intro v hv
  rcases hB.inn p v hv with ⟨_, g⟩ | ⟨i, p', u, g1, g2, _, g4⟩
  · exact .start (nats_mem.2 g)
  · exact .step (ih p' g1 u g2) (room_iff.2 ⟨i, g4⟩)
theorem reach_bfs (hE : Ends n E) (hs : ∀ v ∈ s, v ∈ q) (hG : Gon E f q q.length 0) {x : Int} (h : Reach E f (nats s) x) : ∃ v : Nat, x = (v : Int) ∧ v ∈ q := by
 induction h with
 | start hv =>
  unfold nats at hv
  obtain ⟨a, ha, rfl⟩ := List.mem_map.1 hv
  exact ⟨a, rfl, hs a ha⟩
 | step _ hr ih =>
  obtain ⟨u, rfl, hu⟩ := ih
  obtain ⟨i, hi⟩ := room_iff.1 hr
  rename_i y _
  obtain ⟨w, rfl⟩ : ∃ w : Nat, y = (w : Int) := by
   obtain ⟨_, _, _, h1 | h1⟩ := hi
   · have := hE _ (List.mem_of_getElem? h1.1)
     exact ⟨y.toNat, by simp only at this; omega⟩
   · have := hE _ (List.mem_of_getElem? h1.1)
     exact ⟨y.toNat, by simp only at this; omega⟩
  obtain ⟨p, hp, ep⟩ := List.getElem_of_mem hu
  exact ⟨w, rfl, hG p u w i (by rw [List.getElem?_eq_getElem hp, ep]) (.inl hp) hi⟩
def got (x : Int) : Bool := decide (x ≠ -2)
def ungot (x : Int) : Bool := decide (x = -2)
theorem got_at (hB : Bfs n E f s b q) (v : Nat) : (b.map got).getD v false = true ↔ v ∈ q := by
 simp only [List.getD_eq_getElem?_getD, List.getElem?_map]
 rcases Nat.lt_or_ge v n with hv | hv
 · rw [hB.mem hv]
   rw [List.getElem?_eq_getElem (by rw [hB.len]; exact hv)]
   simp [got]
 · rw [List.getElem?_eq_none (by rw [hB.len]; exact hv)]
   simp
   exact fun h => by have := hB.lt v h; omega
theorem ungot_at (hB : Bfs n E f s b q) {v : Nat} (hv : v < n) : (b.map ungot).getD v false = true ↔ v ∉ q := by
 simp only [List.getD_eq_getElem?_getD, List.getElem?_map]
 rw [hB.mem hv]
 rw [List.getElem?_eq_getElem (by rw [hB.len]; exact hv)]
 simp [ungot]
theorem near_bfs {t : List Nat} {V : Int} (hB : Bfs n E f s b q) (hE : Ends n E) (hs : ∀ v ∈ s, v ∈ q) (hG : Gon E f q q.length 0) (hF : FlowI E (nats s) (nats t) V f) (hno : ∀ v ∈ t, v ∉ q) : NearB n E s t (b.map got) := by
 have hN : ∀ v : Int, sideF (b.map got) v = true ↔ Reach E f (nats s) v := by
  intro v
  constructor
  · intro h
    unfold sideF at h
    rw [Bool.and_eq_true, decide_eq_true_eq, got_at hB] at h
    obtain ⟨p, hp, ep⟩ := List.getElem_of_mem h.2
    have := bfs_reach hB p v.toNat (by rw [List.getElem?_eq_getElem hp, ep])
    rw [Int.toNat_of_nonneg h.1] at this
    exact this
  · intro h
    obtain ⟨a, rfl, ha⟩ := reach_bfs hE hs hG h
    rw [sideF_nat, got_at hB]; exact ha
 obtain ⟨h, _⟩ := isNear_of hF hN (fun v hv hr => by
  obtain ⟨a, rfl, ha⟩ := reach_bfs hE hs hG hr
  exact hno a (nats_mem.1 hv) ha)
 refine ⟨⟨by rw [List.length_map]; exact hB.len, fun v hv => ?_, fun v hv => ?_⟩, fun c hc => h.least _ hc.sep, fun c hc e v hv => ?_⟩
 · rw [← sideF_nat]; exact h.sep.1 v (nats_mem.2 hv)
 · rw [← sideF_nat]; exact h.sep.2 v (nats_mem.2 hv)
 · rw [← sideF_nat] at hv ⊢
   exact h.first _ hc.sep e v hv
theorem room_neg {u v : Int} : Room E (f.map (fun x => -x)) u v ↔ Room E f v u := by
 unfold Room
 constructor
 · rintro ⟨i, x, h1, h2, h3⟩
   rw [List.getElem?_map] at h1
   cases e : f[i]? with
   | none => rw [e] at h1; cases h1
   | some y =>
    rw [e] at h1
    simp only [Option.map_some, Option.some.injEq] at h1
    refine ⟨i, y, e, Ne.symm h2, ?_⟩
    rcases h3 with ⟨g1, g2⟩ | ⟨g1, g2⟩
    · exact .inr ⟨g1, by omega⟩
    · exact .inl ⟨g1, by omega⟩
 · rintro ⟨i, x, h1, h2, h3⟩
   refine ⟨i, -x, by rw [List.getElem?_map, h1]; rfl, Ne.symm h2, ?_⟩
   rcases h3 with ⟨g1, g2⟩ | ⟨g1, g2⟩
   · exact .inr ⟨g1, by omega⟩
   · exact .inl ⟨g1, by omega⟩
theorem leads_neg {t : List Int} {v : Int} : Reach E (f.map (fun x => -x)) t v ↔ Leads E f t v := by
 constructor
 · intro h
   induction h with
   | start hv => exact .start hv
   | step _ hr ih => exact .step ih (room_neg.1 hr)
 · intro h
   induction h with
   | start hv => exact .start hv
   | step _ hr ih => exact .step ih (room_neg.2 hr)
theorem far_bfs {t : List Nat} {V : Int} (hB : Bfs n E (f.map (fun x => -x)) t b q) (hE : Ends n E) (ht : ∀ v ∈ t, v ∈ q) (hG : Gon E (f.map (fun x => -x)) q q.length 0) (hF : FlowI E (nats s) (nats t) V f) (hno : ∀ v ∈ nats t, ¬ Reach E f (nats s) v) (hsn : ∀ v ∈ s, v < n) : FarB n E s t (b.map ungot) := by
 have hln := hB.len
 have hN : ∀ v : Int, (fun v => !sideF (b.map got) v) v = false ↔ Leads E f (nats t) v := by
  intro v
  simp only [Bool.not_eq_false']
  rw [← leads_neg]
  constructor
  · intro h
    unfold sideF at h
    rw [Bool.and_eq_true, decide_eq_true_eq, got_at hB] at h
    obtain ⟨p, hp, ep⟩ := List.getElem_of_mem h.2
    have := bfs_reach hB p v.toNat (by rw [List.getElem?_eq_getElem hp, ep])
    rw [Int.toNat_of_nonneg h.1] at this
    exact this
  · intro h
    obtain ⟨a, rfl, ha⟩ := reach_bfs hE ht hG h
    rw [sideF_nat, got_at hB]; exact ha
 obtain ⟨h, _⟩ := isFar_of hF hN (fun v hv hl => by
  obtain ⟨u, hu, hr⟩ := leads_reach hl (.start hv)
  exact hno u hu hr)
 have hin : ∀ v : Nat, v < n → (fun v => !sideF (b.map got) v) (v : Int) = (b.map ungot).getD v false := by
  intro v hv
  have h1 := got_at hB v
  have h2 := ungot_at hB hv
  simp only [sideF_nat]
  cases e1 : (b.map got).getD v false <;> cases e2 : (b.map ungot).getD v false <;> simp_all
 have hcr : crossN (fun v => !sideF (b.map got) v) E = cr (b.map ungot) E := by
  unfold cr
  refine crossN_congr (fun e he => ?_)
  obtain ⟨b1, b2, b3, b4⟩ := hE e he
  obtain ⟨p, hp⟩ : ∃ p : Nat, e.1 = p := ⟨e.1.toNat, by omega⟩
  obtain ⟨r, hr⟩ : ∃ r : Nat, e.2 = r := ⟨e.2.toNat, by omega⟩
  rw [hp, hr, sideF_nat, sideF_nat]
  exact ⟨hin p (by omega), hin r (by omega)⟩
 refine ⟨⟨by rw [List.length_map]; exact hln, fun v hv => ?_, fun v hv => ?_⟩, fun c hc => ?_, fun c hc e v hv => ?_⟩
 · rw [← hin v (hsn v hv)]; exact h.sep.1 v (nats_mem.2 hv)
 · rw [← hin v (hB.lt v (ht v hv))]; exact h.sep.2 v (nats_mem.2 hv)
 · rw [← hcr]; exact h.least _ hc.sep
 · have hvn : v < n := by have := getD_lt hv; rw [hc.len] at this; exact this
   rw [← hin v hvn]
   rw [← sideF_nat] at hv
   exact h.last _ hc.sep (by rw [hcr]; exact e) v hv
structure Psh (E : List Edg) (f : List Int) (b : List Int) (q : List Nat) (t0 : Nat) (g : List Int) (p t : Nat) : Prop where
 at_ : q[p]? = some t
 len : g.length = f.length
 unit : ∀ x ∈ g, Unit3 x
 keep : ∀ (p' v i : Nat), p' ≤ p → q[p']? = some v → b[v]? = some (i : Int) → g[i]? = f[i]?
 out : ∀ S : Int → Bool, outF S E g = outF S E f + iB (S t) - iB (S t0)
theorem Psh.start {t0 p : Nat} (hp : q[p]? = some t0) (hu : ∀ x ∈ f, Unit3 x) : Psh E f b q t0 f p t0 := ⟨hp, rfl, hu, fun _ _ _ _ _ _ => rfl, fun S => by omega⟩
theorem Psh.step {t0 p t : Nat} {g : List Int} (hB : Bfs n E f s b q) (h : Psh E f b q t0 g p t) {j : Nat} (hj : b[t]? = some (j : Int)) :
 ∃ (p' u : Nat) (x w : Int), p' < p ∧ q[p']? = some u ∧ u ≠ t ∧ g[j]? = some x ∧ ((w = 1 ∧ E[j]? = some ((u : Int), (t : Int))) ∨ (w = -1 ∧ E[j]? = some ((t : Int), (u : Int)))) ∧ Unit3 x ∧ Psh E f b q t0 (g.set j (x + w)) p' u := by
 rcases hB.inn p t h.at_ with ⟨e, _⟩ | ⟨i, p', u, h1, h2, h3, x, hx, hne, hE⟩
 · rw [hj] at e; have := Option.some.inj e; omega
 rw [hj] at h3
 obtain rfl : j = i := by have := Option.some.inj h3; omega
 have hg : g[j]? = some x := by rw [h.keep p t j (Nat.le_refl _) h.at_ hj]; exact hx
 have hux := h.unit x (List.mem_of_getElem? hg)
 have hut : u ≠ t := fun e => by subst e; exact hne rfl
 have key : ∀ w : Int, ((w = 1 ∧ E[j]? = some ((u : Int), (t : Int)) ∧ x ≠ 1) ∨ (w = -1 ∧ E[j]? = some ((t : Int), (u : Int)) ∧ x ≠ -1)) → Psh E f b q t0 (g.set j (x + w)) p' u := by
  intro w hw
  refine ⟨h2, by rw [List.length_set, h.len], fun y hy => ?_, fun p2 v i hp2 hv hi => ?_, fun S => ?_⟩
  · rcases List.mem_or_eq_of_mem_set hy with hy | rfl
    · exact h.unit y hy
    · unfold Unit3 at *
      rcases hw with ⟨rfl, _, _⟩ | ⟨rfl, _, _⟩ <;> omega
  · have hji : j ≠ i := by
     rintro rfl
     rcases hB.inn p2 v hv with ⟨e, _⟩ | ⟨i2, p3, u3, g1, g2, g3, x3, _, _, gE⟩
     · rw [hi] at e; have := Option.some.inj e; omega
     · rw [hi] at g3
       obtain rfl : j = i2 := by have := Option.some.inj g3; omega
       have n1 : v ≠ t := fun e => by subst e; have := nodup_pos hB.nodup hv h.at_; omega
       have n2 : u3 ≠ t := fun e => by subst e; have := nodup_pos hB.nodup g2 h.at_; omega
       have : E[j]? = some ((u : Int), (t : Int)) ∨ E[j]? = some ((t : Int), (u : Int)) := by
        rcases hE with hE | hE
        · exact .inl hE.1
        · exact .inr hE.1
       rcases this with e1 | e1 <;> rcases gE with ⟨e2, _⟩ | ⟨e2, _⟩ <;> rw [e1] at e2 <;> simp at e2 <;> omega
    rw [List.getElem?_set_ne hji]
    exact h.keep p2 v i (by omega) hv hi
  · rw [outF_link hg (u := (u : Int)) (v := (t : Int)) (by
     rcases hw with ⟨rfl, e, _⟩ | ⟨rfl, e, _⟩
     · exact .inl ⟨rfl, e⟩
     · exact .inr ⟨rfl, e⟩), h.out S]
    omega
 rcases hE with ⟨e, hx1⟩ | ⟨e, hx1⟩
 · exact ⟨p', u, x, 1, h1, h2, hut, hg, .inl ⟨rfl, e⟩, hux, key 1 (.inl ⟨rfl, e, hx1⟩)⟩
 · exact ⟨p', u, x, -1, h1, h2, hut, hg, .inr ⟨rfl, e⟩, hux, key (-1) (.inr ⟨rfl, e, hx1⟩)⟩
theorem Psh.flow {d : List Nat} {t0 p t : Nat} {g : List Int} {V : Int} (h : Psh E f b q t0 g p t) (hF : FlowI E (nats s) (nats d) V f) (ht : t ∈ s) (h0 : t0 ∈ d) : FlowI E (nats s) (nats d) (V + 1) g :=
 ⟨by rw [h.len]; exact hF.len, h.unit, fun S hS => by
  rw [h.out S, hF.out S hS, hS.1 _ (nats_mem.2 ht), hS.2 _ (nats_mem.2 h0)]
  simp [iB]⟩
theorem flowN_bd {d : List Nat} {V : Int} (hF : FlowI E (nats s) (nats d) V f) (hd : ∀ v ∈ d, v ∉ s) : V ≤ E.length := by
 have hS : Sep (nats s) (nats d) (fun v => decide (v ∈ nats s)) := ⟨fun v hv => by simpa using hv, fun v hv => by
  simp only [decide_eq_false_iff_not]
  intro hv2
  unfold nats at hv hv2
  obtain ⟨a, ha, rfl⟩ := List.mem_map.1 hv
  obtain ⟨c, hc, e⟩ := List.mem_map.1 hv2
  obtain rfl : c = a := by omega
  exact hd c ha hc⟩
 have h1 := hF.out _ hS
 have h2 := outF_le (fun v => decide (v ∈ nats s)) E f hF.unit
 have h3 := crossN_le (fun v => decide (v ∈ nats s)) E
 omega
end
end Go.Proofs.YtpffhoefmcpniaaGreatDoor

namespace Go.Proofs.YtpffhoefmcpniaaGreatDoor
open Go.RowKit

def OwQ (w : World) (B : Nat) (e : TypeId) (A : Option Addr) (n c : Nat) (xs : List Value) : Prop :=
 xs.length = n ∧ ((A = none ∧ n = 0 ∧ c = 0) ∨ ∃ g o cur, A = some ⟨g, o, none⟩ ∧ B ≤ g ∧ Blk w g e cur ∧ n ≤ c ∧ c ≤ 9223372036854775807 ∧ o + c ≤ cur.size ∧ (cur.toList.drop o).take n = xs)
section
variable {w w' : World} {B n c : Nat} {e : TypeId} {A : Option Addr} {xs : List Value}
theorem OwQ.nil (w : World) (B : Nat) (e : TypeId) : OwQ w B e none 0 0 [] := ⟨rfl, .inl ⟨rfl, rfl, rfl⟩⟩
theorem OwQ.lt (h : OwQ w B e A n c xs) : ∀ k, blkOf A = some k → B ≤ k ∧ k < w.heap.size := fun k hk => by
 rcases h.2 with ⟨rfl, _⟩ | ⟨g, o, cur, rfl, h1, h2, _⟩
 · cases hk
 · cases hk; exact ⟨h1, h2.lt⟩
theorem OwQ.cap (h : OwQ w B e A n c xs) : n ≤ c ∧ c ≤ 9223372036854775807 := by
 rcases h.2 with ⟨_, h1, h2⟩ | ⟨g, o, cur, _, _, _, h3, h4, _⟩
 · omega
 · exact ⟨h3, h4⟩
theorem OwQ.below (h : OwQ w B e A n c xs) (hb : Below w.heap.size w w') : OwQ w' B e A n c xs := by
 refine ⟨h.1, ?_⟩
 rcases h.2 with h1 | ⟨g, o, cur, rfl, h1, h2, h3⟩
 · exact .inl h1
 · exact .inr ⟨g, o, cur, rfl, h1, h2.below hb h2.lt, h3⟩
theorem OwQ.at_ (h : OwQ w B e A n c xs) {i : Nat} {x : Value} (hx : xs[i]? = some x) : ∃ g o, A = some ⟨g, o, none⟩ ∧ w.cell? ⟨g, o + i, none⟩ = some x := by
 rcases h.2 with ⟨_, h1, _⟩ | ⟨g, o, cur, rfl, h1, h2, h3, h4, h5, h6⟩
 · have := h.1
   rw [List.eq_nil_of_length_eq_zero (by omega : xs.length = 0)] at hx
   cases hx
 · refine ⟨g, o, rfl, ?_⟩
   rw [h2.cell]
   rw [← h6, List.getElem?_take] at hx
   split at hx
   · rw [List.getElem?_drop] at hx
     simpa using hx
   · cases hx
theorem Own.owQ (h : Own w B e 1 A n c xs) : OwQ w B e A n c xs := by
 refine ⟨by have := h.1; omega, ?_⟩
 rcases h.2 with ⟨h', h0⟩ | ⟨g, cap, cur, h', h1, h2, h3, h4, h5, h6⟩
 · cases h'; exact .inl ⟨rfl, h0, rfl⟩
 · cases h'
   refine .inr ⟨g, 0, cur, rfl, h1, h2, h3, by unfold maxLen at h4; exact h4, by omega, ?_⟩
   rw [← h6]; simp
theorem OwQ.cut {x : Value} (h : OwQ w B e A (n + 1) c (x :: xs)) : OwQ w B e (cutA 1 A 1 c) n (c - 1) xs := by
 refine ⟨by have := h.1; simp at this; exact this, ?_⟩
 rcases h.2 with ⟨_, h1, _⟩ | ⟨g, o, cur, rfl, h1, h2, h3, h4, h5, h6⟩
 · omega
 · have hx : (cur.toList.drop (o + 1)).take n = xs := by
    have := congrArg (List.drop 1) h6
    rw [List.drop_take, List.drop_drop] at this
    simpa using this
   unfold cutA
   by_cases hc : c = 1
   · rw [if_pos hc]
     have h0 : n = 0 := by omega
     subst h0
     refine .inr ⟨g, o, cur, rfl, h1, h2, by omega, by omega, by omega, ?_⟩
     rw [← hx]; rfl
   · rw [if_neg hc]
     refine .inr ⟨g, o + 1, cur, ?_, h1, h2, by omega, by omega, by omega, hx⟩
     simp [Addr.add]
end
section
variable {P : Program}
theorem run_append_off (w : World) (t ty e : TypeId) (i : TypeInfo) (ht : P.underlying t = some (.slice e)) (hi : P.info? e = some i) (hs : i.size = 1)
 (g o n c : Nat) (cur : Array Value) (hg : w.heap[g]? = some (.cells cur e (0, 0)))
 (a : Addr) (c2 : Nat) (x : Value) (hx : w.cell? a = some x) (h1 : x.oneCell' = true) (hroom : n + 1 ≤ c) (hfit : o + c ≤ cur.size) :
 (Builtin.append_ #[t, t] ty #[.slice (some ⟨g, o, none⟩) n c, .slice (some a) 1 c2]).run P w =
  .ok (.slice (some ⟨g, o, none⟩) (n + 1) c) (w.setRow g (cur.toList.take (o + n) ++ [x] ++ cur.toList.drop (o + n + 1)).toArray) := by
 have hf := run_firstCells_some (P := P) w i.size 1 a 1 c2 [x] (by simp [hs]) (fun j u hu => by
  match j, hu with
  | 0, hu => cases hu; simpa [Addr.add] using hx)
 have hst := run_storeCells_at P g (o + n * i.size) e [x] 0 cur w hg (by rw [hs]; simp; omega) (fun u hu => by rw [List.mem_singleton.1 hu]; exact h1)
 rw [hs] at hst hf
 simp only [Nat.add_zero, Nat.mul_one] at hst
 have ha2 : (⟨g, o, none⟩ : Addr).add n = ⟨g, o + n, none⟩ := add_mk g o n
 simp [Builtin.append_, run_underlying ht, sizeOf, typeInfo, hi, Builtin.lenOf, hroom, hf, hs, ha2, hst]
theorem run_appq (w : World) (t ty e : TypeId) (z : Value) (by_ : Nat) (hinfo : (P.info? e).map (fun i => (i.zero, i.size, i.bytes)) = some (some z, 1, by_)) (ht : P.underlying t = some (.slice e)) (hzs : z.cells.size = 1)
 {B n c c2 : Nat} {A : Option Addr} {xs : List Value} {a : Addr} {x : Value} (hown : OwQ w B e A n c xs) (hx : w.cell? a = some x) (h1 : x.oneCell' = true)
 (hn : (n + 1) * by_ ≤ 140737488355328) (hnm : n + 1 ≤ 9223372036854775807) (hB : B ≤ w.heap.size) :
 ∃ A' c' w', (Builtin.append_ #[t, t] ty #[.slice A n c, .slice (some a) 1 c2]).run P w = .ok (.slice A' (n + 1) c') w' ∧ OwQ w' B e A' (n + 1) c' (xs ++ [x]) ∧ w.grownBy w' (blkOf A) ∧ (blkOf A' = blkOf A ∨ blkOf A' = some w.heap.size) := by
 obtain ⟨i, hi, hz, hs, hb⟩ := info_parts hinfo
 rcases hown.2 with ⟨rfl, rfl, rfl⟩ | ⟨g, o, cur, rfl, h2, h3, h4, h5, h6, h7⟩
 · obtain rfl : xs = [] := List.eq_nil_of_length_eq_zero hown.1
   obtain ⟨v', w', hrun, q1, q2, _, q4⟩ := run_append_own_at (P := P) w B t ty e i z 1 by_ ht hi hz hs hb hzs (by omega) _ 0 [] (Own.nil w B 1 e) a 1 c2 [x] rfl
    (fun j u hu => by
     match j, hu with
     | 0, hu => cases hu; simpa [Addr.add] using hx) (fun u hu => by rw [List.mem_singleton.1 hu]; exact h1) (by unfold maxLen; omega) hn hB
   obtain ⟨A', c', rfl⟩ := Own.shape q1
   have hob : (Value.slice A' (0 + 1) c').ownBlock = blkOf A' := by cases A' <;> rfl
   rw [hob] at q4
   exact ⟨A', c', w', hrun, Own.owQ q1, q2, q4⟩
 · by_cases hroom : n + 1 ≤ c
   · have hrun := run_append_off (P := P) w t ty e i ht hi hs g o n c cur h3 a c2 x hx h1 hroom h6
     refine ⟨_, _, _, hrun, ⟨by simp [hown.1], .inr ⟨g, o, _, rfl, h2, setRow_heap w g cur _ e _ h3, hroom, h5, ?_, ?_⟩⟩, ⟨rfl, rfl, rfl, by simp, fun k _ hk => setRow_other w g k _ (fun e => hk (by simp [blkOf, e]))⟩, .inl rfl⟩
     · simp only [List.size_toArray, List.length_append, List.length_take, List.length_drop, Array.length_toList, List.length_singleton]
       omega
     · have hl : (cur.toList.take (o + n)).length = o + n := by rw [List.length_take, Array.length_toList]; omega
       rw [show (cur.toList.take (o + n) ++ [x] ++ cur.toList.drop (o + n + 1)).toArray.toList = cur.toList.take (o + n) ++ ([x] ++ cur.toList.drop (o + n + 1)) by simp]
       rw [List.drop_append_of_le_length (by omega), List.drop_take, show o + n - o = n by omega, h7]
       rw [List.take_append, hown.1, show n + 1 - n = 1 by omega, List.take_of_length_le (by rw [hown.1]; omega)]
       rfl
   · have holds : ∀ (j : Nat) u, xs[j]? = some u → w.cell? ((⟨g, o, none⟩ : Addr).add j) = some u := fun j u hu => by
      obtain ⟨g', o', e', hc⟩ := hown.at_ hu
      cases e'
      rw [add_mk]
      exact hc
     have hr := run_append_grow (P := P) w t ty e i z ht hi hz ⟨g, o, none⟩ n c xs (by rw [hs, hown.1]; omega) holds a 1 c2 [x] (by rw [hs]; rfl) (fun j u hu => by
      match j, hu with
      | 0, hu => cases hu; simpa [Addr.add] using hx) (by omega) (by omega) (growslice_fits (by omega) (by rw [hb]; exact hn))
     have hge := grownCap_ge w (n + 1) c e
     have hcm : grownCap w (n + 1) c e ≤ maxLen := grownCap_le_maxLen w (n + 1) c e (by unfold maxLen; omega)
     refine ⟨_, _, _, hr, ⟨by simp [hown.1], .inr ⟨w.heap.size, 0, _, rfl, hB, heap_alloc_new w.drew _, hge, by unfold maxLen at hcm; omega, ?_, ?_⟩⟩, ⟨rfl, rfl, rfl, by simp, fun k hk _ => heap_alloc_old w.drew _ hk⟩, .inr rfl⟩
     · simp only [Array.size_append, List.size_toArray, size_zeroCells, hzs, hown.1, List.length_singleton, Nat.mul_one]
       omega
     · simp only [Array.toList_append, List.append_assoc, List.drop_zero]
       rw [← List.append_assoc, List.take_append_of_le_length (by simp [hown.1])]
       exact List.take_of_length_le (by simp [hown.1])
theorem wp_appq {w : World} {o : Oper} {a : Act} {K : Act → World → Prop} {Q : Exit → Act → World → Prop} (s x : Operand) (t : TypeId)
 (ho : o.op = .call { callee := .builtin .append, args := #[s, x], argTypes := #[t, t] })
 (e : TypeId) (z : Value) (by_ : Nat) (hinfo : (P.info? e).map (fun i => (i.zero, i.size, i.bytes)) = some (some z, 1, by_)) (ht : P.underlying t = some (.slice e)) (hzs : z.cells.size = 1)
 {B n c c2 : Nat} {A : Option Addr} {ad : Addr} {xs : List Value} {u : Value} (hs : a.eval s = .slice A n c) (hx : a.eval x = .slice (some ad) 1 c2)
 (hown : OwQ w B e A n c xs) (hu : w.cell? ad = some u) (h1 : u.oneCell' = true) (hn : (n + 1) * by_ ≤ 140737488355328) (hnm : n + 1 ≤ 9223372036854775807) (hB : B ≤ w.heap.size)
 (h : ∀ A' c' w', OwQ w' B e A' (n + 1) c' (xs ++ [u]) → w.grownBy w' (blkOf A) → (blkOf A' = blkOf A ∨ blkOf A' = some w.heap.size) → K (a.put o.dst (.slice A' (n + 1) c')) w') : o.wp P a w K Q := by
 obtain ⟨A', c', w', hrun, h2, h3, h4⟩ := run_appq (P := P) w t o.type e z by_ hinfo ht hzs (c2 := c2) hown hu h1 hn hnm hB
 unfold Oper.wp execOp
 simp only [ho, resolve, invoke, builtin, Sem.run_bind, Sem.run_pure, Result.andThen_ok, List.map_toArray, List.map_cons, List.map_nil, hs, hx, hrun]
 exact h A' c' w' h2 h3 h4
theorem wpList_appq {w : World} {ops : Array Oper} {rest : List Oper} {o : Oper} {a : Act} {Q : Exit → Act → World → Prop} (hgd : o.guard = none) (s x : Operand) (t : TypeId)
 (ho : o.op = .call { callee := .builtin .append, args := #[s, x], argTypes := #[t, t] })
 (e : TypeId) (z : Value) (by_ : Nat) (hinfo : (P.info? e).map (fun i => (i.zero, i.size, i.bytes)) = some (some z, 1, by_)) (ht : P.underlying t = some (.slice e)) (hzs : z.cells.size = 1)
 {B n c c2 : Nat} {A : Option Addr} {ad : Addr} {xs : List Value} {u : Value} (hs : a.eval s = .slice A n c) (hx : a.eval x = .slice (some ad) 1 c2)
 (hown : OwQ w B e A n c xs) (hu : w.cell? ad = some u) (h1 : u.oneCell' = true) (hn : (n + 1) * by_ ≤ 140737488355328) (hnm : n + 1 ≤ 9223372036854775807) (hB : B ≤ w.heap.size)
 (h : ∀ A' c' w', OwQ w' B e A' (n + 1) c' (xs ++ [u]) → w.grownBy w' (blkOf A) → (blkOf A' = blkOf A ∨ blkOf A' = some w.heap.size) → wpList P ops Q rest (a.put o.dst (.slice A' (n + 1) c')) w') : wpList P ops Q (o :: rest) a w :=
 wpList_plain hgd fun _ hK => wp_appq s x t ho e z by_ hinfo ht hzs hs hx hown hu h1 hn hnm hB fun A' c' w' h2 h3 h4 => hK _ _ (h A' c' w' h2 h3 h4)
end
end Go.Proofs.YtpffhoefmcpniaaGreatDoor
