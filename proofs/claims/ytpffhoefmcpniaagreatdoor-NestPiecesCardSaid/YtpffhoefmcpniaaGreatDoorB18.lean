/- Parts of the proof: NeO, NeT, NeU. -/
import Derived.Test.YtpffhoefmcpniaaGreatDoorB1
import Derived.Test.YtpffhoefmcpniaaGreatDoorB3
import Derived.Test.YtpffhoefmcpniaaGreatDoorB8
import Derived.Test.YtpffhoefmcpniaaGreatDoorB17
namespace Go.Proofs.YtpffhoefmcpniaaGreatDoor
open Go.RowKit

attribute [local go_sem ↓] Go.wp_at_zero Go.wp_at_succ

def BfsPost (n : Nat) (E : List Edg) (f : List Int) (s : List Nat) (w : World) (e : Ending) (w' : World) : Prop := ∃ g b q, e = .returned (.slice (some ⟨g, 0, none⟩) n n) ∧ Blk w' g 3 (ints b) ∧ w.heap.size ≤ g ∧ Bfs n E f s b q ∧ (∀ v ∈ s, v ∈ q) ∧ Gon E f q q.length 0 ∧ Below w.heap.size w w'
def QuI (n : Nat) (E : List Edg) (f : List Int) (s : List Nat) (w W : World) (g B : Nat) (a : Value) (k : Nat) : Prop :=
 Below w.heap.size w W ∧ B ≤ W.heap.size ∧ ∃ (d r : List Nat) (A1 : Option Addr) (c1 m' : Nat) (b : List Int), n = k + d.length ∧ r.length = m' ∧ a = .slice A1 m' c1 ∧ Blk W g 3 (ints b) ∧ OwQ W B 3 A1 m' c1 (icells (nats r)) ∧ Bfs n E f s b (d ++ r) ∧ (∀ v ∈ s, v ∈ d ++ r) ∧ Gon E f (d ++ r) d.length 0
theorem QuI.room {n : Nat} {E : List Edg} {f b : List Int} {s d r : List Nat} (h : Bfs n E f s b (d ++ r)) : d.length + r.length ≤ n := by
 have := h.size
 rwa [List.length_append] at this
set_option maxHeartbeats 4000000 in
set_option maxRecDepth 20000 in
theorem refReach_any (AE AF AS : Option Addr) (n m ce cf k cs : Nat) (E : List Edg) (f : List Int) (s : List Nat) (w : World) (hE : RdP w AE m E) (hf : RdI w AF m f) (hs : RdI w AS k (nats s)) (hEn : Ends n E) (hsn : ∀ v ∈ s, v < n) (hn : n ≤ 100000) (hm : m ≤ 100000) (hk : k ≤ 100000) :
 Calls Tryz.prog 111 #[.int .i64 n, .slice AE m ce, .slice AF m cf, .slice AS k cs] w (BfsPost n E f s w) := by
 have HE := Lib.hid hE
 have HF := Lib.hid hf
 have HS := Lib.hid hs
 have HEN := Lib.hid hEn
 have HSN := Lib.hid hsn
 have HEL := Lib.hid hE.1
 have hsl : s.length = k := by have := hs.1; simpa [nats] using this
 have hmk := run_makeI n (by omega)
 clear hE hf hs hEn hsn
 go_enter Tryz.func111, Tryz.ntmps111
 go_wp2_with fail
 (refine wp_named ?_; intro w1 hw1)
 have hb1 : Below w.heap.size w w1 := by rw [hw1]; exact bELt
 have hz1 : w1.heap.size = w.heap.size + 1 := by rw [hw1]; exact Array.size_push _
 have hB1 : Blk w1 w.heap.size 3 (ints (fillTo (List.replicate n (-2)) 0 n)) := by rw [hw1, fillTo_zero, ← zeros_int]; exact Blk.new _ _ _
 clear hw1 hmk
 go_loopw [10] (fun q W => Below w.heap.size w W ∧ ∃ j : Nat, j ≤ n ∧ q = .int .i64 j ∧ Blk W w.heap.size 3 (ints (fillTo (List.replicate n (-2)) j n)) ∧ W.heap.size = w.heap.size + 1) (fun q _ => n - (intOf q).toNat)
 case atStart => exact ⟨hb1, 0, Nat.zero_le _, rfl, hB1, hz1⟩
 case round =>
  clear hb1 hB1 hz1
  obtain ⟨hbl, j, hj, rfl, hB, hz⟩ := hrel
  by_cases hlt : j < n
  · have c1 := hB.cellI (fillTo_at (by simp) hlt)
    have c1f := hB.frozen j
    have HB := Lib.hid (hB.setI (fillTo_set (l := List.replicate n (-2)) (x := -2) (by simp) hlt (by simp [hlt])))
    have hbn : Below w.heap.size w (wr.setCell ⟨w.heap.size, j, none⟩ (.int .i64 (-2))) := hbl.setCell (Nat.le_refl _) _
    have hzn : (wr.setCell ⟨w.heap.size, j, none⟩ (.int .i64 (-2))).heap.size = w.heap.size + 1 := by simpa [World.setCell] using hz
    have i1 : (0 : Int) ≤ (j : Int) := by omega
    have i2 : (j : Int) < (n : Int) := by omega
    clear hB hbl hz
    go_wp2_with fail
    go_roundw
    case rel => exact ⟨hbn, j + 1, by omega, by go_num, HB.out, hzn⟩
    case measure => simp [intOf]; omega
  obtain rfl : n = j := by omega
  rw [fillTo_all (by simp)] at hB
  obtain ⟨B, hBq⟩ : ∃ B, B = w.heap.size + 1 := ⟨_, rfl⟩
  rw [← hBq] at hz
  have HBQ := Lib.hid hBq
  have HBF := Lib.hid (Bfs.start n E f s)
  clear hj hlt hBq
  go_wp2_with fail
  go_loopw [11, 12] (fun a q W => Below w.heap.size w W ∧ B ≤ W.heap.size ∧ ∃ (j : Nat) (A1 : Option Addr) (c1 : Nat) (b : List Int) (r : List Nat), j ≤ k ∧ q = .int .i64 j ∧ a = .slice A1 r.length c1 ∧ Blk W w.heap.size 3 (ints b) ∧ OwQ W B 3 A1 r.length c1 (icells (nats r)) ∧ Bfs n E f s b r ∧ (∀ v ∈ s.take j, v ∈ r)) (fun _ q _ => k - (intOf q).toNat)
  case atStart => exact ⟨hbl, by omega, 0, none, 0, _, [], Nat.zero_le _, rfl, rfl, hB, OwQ.nil _ _ _, HBF.out, fun v hv => by simp at hv⟩
  case round =>
   clear hbl hB hz HBF
   obtain ⟨hbl, hz, j, A1, c1, b, r, hj, rfl, rfl, hB, hQ, hF, hI⟩ := hrel
   have HBF := Lib.hid hF
   have HI := Lib.hid hI
   have HQ := Lib.hid hQ
   have hrn := hF.size
   clear hF hI hQ
   by_cases hlt : j < k
   · obtain ⟨sb, so, x, rfl, hx, hc⟩ := HS.out.at_ hlt
     obtain ⟨v, rfl, hv⟩ := nats_getE hx
     have hvn := HSN.out v (List.mem_of_getElem? hv)
     have hc := Below.cellOf hbl (Nat.le_refl _) hc
     have hbe := List.getElem?_eq_getElem (show v < b.length by rw [HBF.out.len]; exact hvn)
     generalize b[v]'(by rw [HBF.out.len]; exact hvn) = z at hbe
     have cz := hB.cellI hbe
     have HTK := Lib.hid (show s.take (j + 1) = s.take j ++ [v] by rw [List.take_succ_eq_append_getElem (List.getElem?_eq_some_iff.1 hv).1, (List.getElem?_eq_some_iff.1 hv).2])
     have i1 : (0 : Int) ≤ (j : Int) := by omega
     have i2 : (j : Int) < (k : Int) := by omega
     have i3 : (0 : Int) ≤ (v : Int) := by omega
     have i4 : (v : Int) < (n : Int) := by omega
     have HV := Lib.hid hv
     have HBE := Lib.hid hbe
     have HJ := Lib.hid hlt
     clear hx hv hbe
     by_cases hz2 : z = -2
     · subst hz2
       have hnq : v ∉ r := fun h => (HBF.out.mem hvn).1 h HBE.out
       have HAD := Lib.hid (HBF.out.add (x := -1) hvn hnq (.inl ⟨rfl, List.mem_of_getElem? HV.out⟩))
       have f1 := hB.frozen v
       have e1 : ((-2 : Int) == -2) = true := rfl
       obtain ⟨W6, hW6⟩ : ∃ W, W = wr.setCell ⟨w.heap.size, v, none⟩ (.int .i64 (-1)) := ⟨_, rfl⟩
       have hB6 : Blk W6 w.heap.size 3 (ints (b.set v (-1))) := by rw [hW6]; exact hB.setI rfl
       have hQ6 : OwQ W6 B 3 A1 r.length c1 (icells (nats r)) := by rw [hW6]; exact HQ.out.setB (by have := HBQ.out; omega) _
       have hb6 : Below w.heap.size w W6 := by rw [hW6]; exact hbl.setCell (Nat.le_refl _) _
       have hz6 : W6.heap.size = wr.heap.size := by rw [hW6]; simp [World.setCell]
       obtain ⟨W7, hW7⟩ : ∃ W, W = W6.alloc (.cells #[.int .i64 (v : Int)] 3) := ⟨_, rfl⟩
       have hb67 : Below W6.heap.size W6 W7 := by rw [hW7]; exact bELt
       have hu7 : W7.cell? ⟨W6.heap.size, 0, none⟩ = some (.int .i64 (v : Int)) := by rw [hW7, (Blk.new W6 3 #[.int .i64 (v : Int)]).cell]; rfl
       rw [hz6] at hu7
       have hown7 := hQ6.below hb67
       have hB7 := hB6.below hb67 hB6.lt
       have hb7 := Bel.step hb6 hb67
       have hz7 : B ≤ W7.heap.size := by have := hb67.size; omega
       have s6 : (wr.setCell ⟨w.heap.size, v, none⟩ (.int .i64 (-1))).cell? ⟨sb, so + j, none⟩ = some (.int .i64 (v : Int)) := by
        rw [← hW6]
        obtain ⟨b', o', x', e1, e2, e3⟩ := (HS.out.below hb6).at_ HJ.out
        cases e1
        have : x' = (v : Int) := by
         have h := HV.out
         simp only [nats, List.getElem?_map, h] at e2
         exact (Option.some.inj e2).symm
        rw [this] at e3
        exact e3
       have HW6 := Lib.hid hW6
       have HW7 := Lib.hid hW7
       have HB7 := Lib.hid hB7
       have HBL7 := Lib.hid hb7
       clear hW6 hW7 hB7 hb7 hB6 hQ6 hb6 hb67 hB hbl
       go_wp2_with (at_builtin; rw [← HW6.out, ← HW7.out]; with_reducible refine wpList_appq rfl (.tmp 47) (.tmp 52) 27 rfl 3 _ 8 infoInt Tryz.underlying27 rfl rfl rfl hown7 hu7 rfl (by omega) (by omega) hz7 ?_)
       intro A5 c5 w5 ho5 hg5 hat5
       have hlq := hown7.lt
       have hrow : ∀ q, blkOf A1 = some q → w.heap.size + 1 ≤ q := fun q e => by have := (hlq q e).1; have := HBQ.out; omega
       have HB8 := Lib.hid (HB7.out.grown hg5 (fun e => by have := hrow _ e; omega))
       have HL8 := Lib.hid (Below.grown HBL7.out hg5 (by have := HBQ.out; omega) (fun q e => by have := hrow q e; omega))
       have HQ8 := Lib.hid (show OwQ w5 B 3 A5 (r ++ [v]).length c5 (icells (nats (r ++ [v]))) by rw [show icells (nats (r ++ [v])) = icells (nats r) ++ [.int .i64 (v : Int)] by simp [nats, icells], List.length_append]; exact ho5)
       have HZ8 := Lib.hid (Nat.le_trans hz7 hg5.size)
       rw [show r.length + 1 = (r ++ [v]).length by simp]
       clear hown7 hu7 hz7 ho5 hg5 hat5 hlq hrow
       go_wp2_with fail
       go_roundw
       case rel => exact ⟨HL8.out, HZ8.out, j + 1, A5, c5, _, r ++ [v], by have := HJ.out; omega, by go_num, rfl, HB8.out, HQ8.out, HAD.out, fun u hu => by
        rw [HTK.out] at hu
        rcases List.mem_append.1 hu with hu | hu
        · exact List.mem_append_left _ (HI.out u hu)
        · exact List.mem_append_right _ hu⟩
       case measure => have := HJ.out; simp [intOf]; omega
     · have e1 : (z == -2) = false := beq_eq_false_iff_ne.2 hz2
       have hvq : v ∈ r := (HBF.out.mem hvn).2 (fun e => hz2 (by rw [HBE.out] at e; exact Option.some.inj e))
       have HVQ := Lib.hid hvq
       have HB8 := Lib.hid hB
       have HL8 := Lib.hid hbl
       clear hB hvq hbl
       go_wp2_with fail
       go_roundw
       case rel => exact ⟨HL8.out, hz, j + 1, A1, c1, b, r, by have := HJ.out; omega, by go_num, rfl, HB8.out, HQ.out, HBF.out, fun u hu => by
        rw [HTK.out] at hu
        rcases List.mem_append.1 hu with hu | hu
        · exact HI.out u hu
        · rw [List.mem_singleton.1 hu]; exact HVQ.out⟩
       case measure => have := HJ.out; simp [intOf]; omega
   obtain rfl : k = j := by omega
   rw [List.take_of_length_le (by omega)] at HI
   obtain ⟨W0, rfl⟩ : ∃ W, W = wr := ⟨_, rfl⟩
   have HQI := Lib.hid (show QuI n E f s w W0 w.heap.size B (.slice A1 r.length c1) n from ⟨hbl, hz, [], r, A1, c1, _, b, rfl, rfl, rfl, hB, HQ.out, HBF.out, HI.out, Gon.start _ _ _⟩)
   clear hbl hz hB HQ HBF HI hj hlt hrn
   go_wp2_with fail
   go_loopw [11] (fun a W => ∃ kk, QuI n E f s w W w.heap.size B a kk) (fun a W => lst (QuI n E f s w W w.heap.size B a))
   case atStart => exact ⟨n, HQI.out⟩
   case round =>
    clear HQI
    obtain ⟨K0, hK0, hbl, hz, d, r, A1, c1, m', b, hnd, hrl, rfl, hB, hQ, hF, hI, hG⟩ := lst_get hrel
    clear hrel
    have HK0 := Lib.hid hK0
    have HND := Lib.hid hnd
    have HQ := Lib.hid hQ
    have HBF := Lib.hid hF
    have HI := Lib.hid hI
    have HGO := Lib.hid hG
    have hroom := QuI.room hF
    clear hK0 hnd hQ hF hI hG
    by_cases hm0 : m' = 0
    · have e0 : ¬ ((m' : Int) > 0) := by omega
      obtain rfl : r = [] := List.eq_nil_of_length_eq_zero (by omega)
      rw [List.append_nil] at HBF HI HGO
      clear HK0
      go_wp2_with fail
      go_ret
      exact ⟨w.heap.size, b, d, rfl, hB, Nat.le_refl _, HBF.out, HI.out, HGO.out, hbl⟩
    obtain ⟨m1, rfl⟩ : ∃ m1, m' = m1 + 1 := ⟨m' - 1, by omega⟩
    obtain ⟨u, r, rfl⟩ : ∃ u r', r = u :: r' := by
     cases r with
     | nil => simp at hrl
     | cons u r' => exact ⟨u, r', rfl⟩
    have hrl : r.length = m1 := by simpa using hrl
    have hun : u < n := HBF.out.lt u (by simp)
    have hcap := HQ.out.cap
    have hq : OwQ wr B 3 A1 (m1 + 1) c1 (.int .i64 (u : Int) :: icells (nats r)) := HQ.out
    obtain ⟨A2, hA2⟩ : ∃ A2, A2 = cutA 1 A1 1 c1 := ⟨_, rfl⟩
    have hq2 := hq.cut
    rw [← hA2] at hq2
    obtain ⟨qg, qo, rfl, cu⟩ := hq.at_ (i := 0) rfl
    have hsl : ∀ W, (Instr.slice 27 (.slice (some ⟨qg, qo, none⟩) (m1 + 1) c1) (some (.int .i64 (1))) none none).run Tryz.prog W = .ok (.slice A2 m1 (c1 - 1)) W := fun W => by
     have := run_cut_l (P := Tryz.prog) 27 3 1 Tryz.underlying27 (by kernel_rfl) (by kernel_rfl) (some ⟨qg, qo, none⟩) (m1 + 1) c1 1 m1 (by omega) (by omega) .i64 1 rfl W
     rw [this, hA2]
    rw [Nat.add_zero] at cu
    have e0 : ((m1 : Int) + 1 > 0) := by omega
    have e00 : (((m1 + 1 : Nat) : Int) > 0) := by omega
    obtain ⟨W0, rfl⟩ : ∃ W, W = wr := ⟨_, rfl⟩
    have HQ2 := Lib.hid hq2
    have hud : (d ++ u :: r)[d.length]? = some u := by simp
    have HUD := Lib.hid (show ∀ r' : List Nat, (d ++ u :: r')[d.length]? = some u from fun r' => by simp)
    have HB0 := Lib.hid hB
    have HL0 := Lib.hid hbl
    clear hq hq2 hA2 hud hB hbl
    go_wp2_with fail
    clear hsl cu
    go_loopw [11, 14] (fun a q W => Below w.heap.size w W ∧ B ≤ W.heap.size ∧ ∃ (j : Nat) (r : List Nat) (A1 : Option Addr) (c1 m' : Nat) (b : List Int), j ≤ m ∧ q = .int .i64 j ∧ a = .slice A1 m' c1 ∧ r.length = m' ∧ Blk W w.heap.size 3 (ints b) ∧ OwQ W B 3 A1 m' c1 (icells (nats r)) ∧ Bfs n E f s b (d ++ u :: r) ∧ (∀ v ∈ s, v ∈ d ++ u :: r) ∧ Gon E f (d ++ u :: r) d.length j) (fun _ q _ => m - (intOf q).toNat)
    case atStart => exact ⟨HL0.out, hz, 0, r, A2, c1 - 1, m1, b, Nat.zero_le _, rfl, rfl, hrl, HB0.out, HQ2.out, HBF.out, HI.out, HGO.out⟩
    case round =>
     clear HL0 hz HB0 HQ2 HBF HI HGO hroom hcap hrl
     obtain ⟨hbl, hz, j, r, A1, c1, m', b, hj, rfl, rfl, hrl, hB, hQ, hF, hI, hG⟩ := hrel
     have HBF := Lib.hid hF
     have HQ := Lib.hid hQ
     have HI := Lib.hid hI
     have HGO := Lib.hid hG
     have hroom := QuI.room hF
     rw [List.length_cons] at hroom
     clear hQ hF hI hG
     by_cases hlt : j < m
     · obtain ⟨eb, eo, ea, ec, rfl, hej, cx, cy⟩ := (HE.out.below hbl).at_ hlt
       obtain ⟨fb, fo, x, rfl, hx, cf⟩ := (HF.out.below hbl).at_ hlt
       have HRF := Lib.hid (fun v : Nat => roomF_iff (u := (u : Int)) (v := (v : Int)) hej hx)
       have hen := HEN.out _ (List.mem_of_getElem? hej)
       simp only at hen
       have i1 : (0 : Int) ≤ (j : Int) := by omega
       have i2 : (j : Int) < (m : Int) := by omega
       have HSX := Lib.hid (show ∀ V, Below wr.heap.size wr V → V.cell? ⟨eb, eo + j * 2, none⟩ = some (.int .i64 ea) ∧ V.cell? ⟨eb, eo + j * 2 + 1, none⟩ = some (.int .i64 ec) ∧ V.cell? ⟨fb, fo + j, none⟩ = some (.int .i64 x) ∧ (0 : Int) ≤ (j : Int) ∧ (j : Int) < (m : Int) from fun V hV => ⟨Below.cellOf hV (Nat.le_refl _) cx, Below.cellOf hV (Nat.le_refl _) cy, Below.cellOf hV (Nat.le_refl _) cf, i1, i2⟩)
       have HEN2 := Lib.hid hen
       have HJ := Lib.hid hlt
       clear hej hx cx cy cf hen hlt
       go_wp2_with fail
       refine wp_region_held_drew (S := fun V => Below wr.heap.size wr V) (by kernel_rfl) (Below.refl _ _).drew (fun _ => ?_)
       refine tk 0 69 (h := ⟨_, tv, ?_⟩)
       simp only [pE, List.set]
       refine tk 1 70 (h := ⟨_, tv, ?_⟩)
       simp only [pE, List.set]
       refine tk 2 71 (h := ⟨_, tv, ?_⟩)
       simp only [pE, List.set]
       refine tk 3 72 (h := ⟨_, tv, ?_⟩)
       simp only [pE, List.set]
       refine tk 4 73 (h := ⟨_, tv, ?_⟩)
       simp only [pE, List.set]
       refine tk 5 74 (h := ⟨_, tv, ?_⟩)
       simp only [pE, List.set]
       refine tk 6 75 (h := ⟨_, tv, ?_⟩)
       simp only [pE, List.set]
       refine tk 7 76 (h := ⟨_, tv, ?_⟩)
       simp only [pE, List.set]
       refine tk 8 77 (h := ⟨_, tv, ?_⟩)
       simp only [pE, List.set]
       refine wpAnyH_ready (rs := [9]) (by kernel_rfl) (by simp) ?_
       refine AllReadyH.cons (o := _) rfl (fun K hK => ?_) AllReadyH.nil
       go_simp
       with_reducible refine (refRoom_any ea ec x (u : Int) _).mono ?_
       rintro e W2 ⟨hb2, hr2⟩
       have hb2 : Below wr.heap.size wr W2 := (Below.refl _ _).drew.trans hb2
       rcases hr2 with ⟨hn2, rfl⟩ | ⟨y, hy, rfl⟩
       · have HB2 := Lib.hid (hB.below hb2 hB.lt)
         have HL2 := Lib.hid (Bel.step hbl hb2)
         have HQ2 := Lib.hid (HQ.out.below hb2)
         have hz2 := Nat.le_trans hz hb2.size
         have HN2 := Lib.hid hn2
         clear hn2 hB hbl hz
         go_simp
         refine hK.out _ _ hb2 (fun _ => ?_)
         clear hK K hb2
         refine tk 10 68 (h := ⟨_, tv, ?_⟩)
         simp only [pE, List.set]
         refine tk 11 79 (h := ⟨_, tv, ?_⟩)
         simp only [pE, List.set]
         refine tk 12 80 (h := ⟨_, tv, ?_⟩)
         simp only [pE, List.set]
         refine tk 13 15 (h := ⟨_, tv, ?_⟩)
         simp only [pE, List.set]
         refine tk 14 16 (h := ⟨_, tv, ?_⟩)
         simp only [pE, List.set]
         refine wpAnyH_done (by kernel_rfl) ?_ _
         go_wp2_with fail
         go_roundw
         case rel => exact ⟨HL2.out, hz2, j + 1, r, A1, c1, m', b, by have := HJ.out; omega, by go_num, rfl, hrl, HB2.out, HQ2.out, HBF.out, HI.out, HGO.out.edge (HUD.out r) (fun v hv => by
          rw [HRF.out v, HN2.out] at hv
          cases hv)⟩
         case measure => have := HJ.out; simp [intOf]; omega
       · obtain ⟨v, rfl, hvn⟩ : ∃ v : Nat, y = (v : Int) ∧ v < n := by
          have hen := HEN2.out
          rcases roomF_end hy with e | e
          · exact ⟨y.toNat, by simp only at e; omega, by simp only at e; omega⟩
          · exact ⟨y.toNat, by simp only at e; omega, by simp only at e; omega⟩
         have HY := Lib.hid hy
         have HYV := Lib.hid (show ∀ v' : Nat, RoomI E f j u v' → v' = v from fun v' h => by
          have h := (HRF.out v').1 h
          rw [HY.out] at h
          have := Option.some.inj h
          omega)
         have hB2 := hB.below hb2 hB.lt
         have hL2 := Bel.step hbl hb2
         have HQ2 := Lib.hid (HQ.out.below hb2)
         have hz2 := Nat.le_trans hz hb2.size
         have hbe := List.getElem?_eq_getElem (show v < b.length by rw [HBF.out.len]; exact hvn)
         generalize b[v]'(by rw [HBF.out.len]; exact hvn) = z at hbe
         have cz := hB2.cellI hbe
         have i3 : (0 : Int) ≤ (v : Int) := by omega
         have i4 : (v : Int) < (n : Int) := by omega
         have HBE := Lib.hid hbe
         clear hy hbe hB hbl hz
         go_simp
         refine hK.out _ _ hb2 (fun _ => ?_)
         clear hK K hb2 HSX
         refine tk 10 68 (h := ⟨_, tv, ?_⟩)
         simp only [pE, List.set]
         refine tk 11 79 (h := ⟨_, tv, ?_⟩)
         simp only [pE, List.set]
         refine tk 12 80 (h := ⟨_, tv, ?_⟩)
         simp only [pE, List.set]
         refine tk 13 15 (h := ⟨_, tv, ?_⟩)
         simp only [pE, List.set]
         refine tk 14 16 (h := ⟨_, tv, ?_⟩)
         simp only [pE, List.set]
         refine wpAnyH_done (by kernel_rfl) ?_ _
         by_cases hz3 : z = -2
         · subst hz3
           have hnq : v ∉ d ++ u :: r := fun h => (HBF.out.mem hvn).1 h HBE.out
           have HAD := Lib.hid (show Bfs n E f s (b.set v (j : Int)) (d ++ u :: (r ++ [v])) from by
            have := HBF.out.add (x := (j : Int)) hvn hnq (.inr ⟨j, d.length, u, HUD.out r, rfl, (HRF.out v).2 HY.out⟩)
            simpa using this)
           have HGN := Lib.hid (show Gon E f (d ++ u :: (r ++ [v])) d.length (j + 1) from by
            have := (HGO.out.more (by simp) [v])
            rw [List.append_assoc] at this
            exact this.edge (HUD.out _) (fun v' h => by rw [HYV.out v' h]; simp))
           have f1 := hB2.frozen v
           have e1 : ((-2 : Int) == -2) = true := rfl
           obtain ⟨W6, hW6⟩ : ∃ W, W = W2.setCell ⟨w.heap.size, v, none⟩ (.int .i64 (j : Int)) := ⟨_, rfl⟩
           have hB6 : Blk W6 w.heap.size 3 (ints (b.set v (j : Int))) := by rw [hW6]; exact hB2.setI rfl
           have hQ6 : OwQ W6 B 3 A1 m' c1 (icells (nats r)) := by rw [hW6]; exact HQ2.out.setB (by have := HBQ.out; omega) _
           have hb6 : Below w.heap.size w W6 := by rw [hW6]; exact hL2.setCell (Nat.le_refl _) _
           have hz6 : W6.heap.size = W2.heap.size := by rw [hW6]; simp [World.setCell]
           obtain ⟨W7, hW7⟩ : ∃ W, W = W6.alloc (.cells #[.int .i64 (v : Int)] 3) := ⟨_, rfl⟩
           have hb67 : Below W6.heap.size W6 W7 := by rw [hW7]; exact bELt
           have hu7 : W7.cell? ⟨W6.heap.size, 0, none⟩ = some (.int .i64 (v : Int)) := by rw [hW7, (Blk.new W6 3 #[.int .i64 (v : Int)]).cell]; rfl
           rw [hz6] at hu7
           have hown7 := hQ6.below hb67
           have HB7 := Lib.hid (hB6.below hb67 hB6.lt)
           have HBL7 := Lib.hid (Bel.step hb6 hb67)
           have hz7 : B ≤ W7.heap.size := by have := hb67.size; omega
           have HW6 := Lib.hid hW6
           have HW7 := Lib.hid hW7
           have hml : m' ≤ 100000 := by omega
           clear hW6 hW7 hB6 hQ6 hb6 hb67 hB2 hL2
           go_wp2_with (at_builtin; rw [← HW6.out, ← HW7.out]; with_reducible refine wpList_appq rfl (.tmp 93) (.tmp 95) 27 rfl 3 _ 8 infoInt Tryz.underlying27 rfl rfl rfl hown7 hu7 rfl (by omega) (by omega) hz7 ?_)
           intro A5 c5 w5 ho5 hg5 hat5
           have hlq := hown7.lt
           have hrow : ∀ q, blkOf A1 = some q → w.heap.size + 1 ≤ q := fun q e => by have := (hlq q e).1; have := HBQ.out; omega
           have HB8 := Lib.hid (HB7.out.grown hg5 (fun e => by have := hrow _ e; omega))
           have HL8 := Lib.hid (Below.grown HBL7.out hg5 (by have := HBQ.out; omega) (fun q e => by have := hrow q e; omega))
           have HQ8 := Lib.hid (show OwQ w5 B 3 A5 (m' + 1) c5 (icells (nats (r ++ [v]))) by rw [show icells (nats (r ++ [v])) = icells (nats r) ++ [.int .i64 (v : Int)] by simp [nats, icells]]; exact ho5)
           have HZ8 := Lib.hid (Nat.le_trans hz7 hg5.size)
           clear hown7 hu7 hz7 ho5 hg5 hat5 hlq hrow
           go_wp2_with fail
           go_roundw
           case rel => exact ⟨HL8.out, HZ8.out, j + 1, r ++ [v], A5, c5, m' + 1, _, by have := HJ.out; omega, by go_num, rfl, by simp [hrl], HB8.out, HQ8.out, HAD.out, fun w hw => by
            have := HI.out w hw
            simp at this ⊢
            rcases this with h | h | h
            · exact .inl h
            · exact .inr (.inl h)
            · exact .inr (.inr (.inl h)), HGN.out⟩
           case measure => have := HJ.out; simp [intOf]; omega
         · have e1 : (z == -2) = false := beq_eq_false_iff_ne.2 hz3
           have HGN := Lib.hid (HGO.out.edge (HUD.out r) (fun v' h => by
            rw [HYV.out v' h]
            exact (HBF.out.mem hvn).2 (fun e => hz3 (by rw [HBE.out] at e; exact Option.some.inj e))))
           have HB8 := Lib.hid hB2
           have HL8 := Lib.hid hL2
           clear hB2 hL2
           go_wp2_with fail
           go_roundw
           case rel => exact ⟨HL8.out, hz2, j + 1, r, A1, c1, m', b, by have := HJ.out; omega, by go_num, rfl, hrl, HB8.out, HQ2.out, HBF.out, HI.out, HGN.out⟩
           case measure => have := HJ.out; simp [intOf]; omega
     obtain rfl : m = j := by omega
     have hsp : (d ++ [u]) ++ r = d ++ u :: r := by simp
     have HQI := Lib.hid (show QuI n E f s w wr w.heap.size B (.slice A1 m' c1) (K0 - 1) from ⟨hbl, hz, d ++ [u], r, A1, c1, m', b, by have := HND.out; simp; omega, hrl, rfl, hB, HQ.out, by rw [hsp]; exact HBF.out, by rw [hsp]; exact HI.out, by
      rw [hsp]
      have := HGO.out
      rw [← HEL.out] at this
      simpa using this.next⟩)
     have HLT := Lib.hid (show K0 - 1 < K0 by have := HND.out; omega)
     clear hsp hbl hz hB HQ HBF HI HGO
     go_wp2_with fail
     go_roundw
     case rel => exact ⟨_, HQI.out⟩
     case measure => exact Nat.lt_of_le_of_lt (lst_le HQI.out) (Nat.lt_of_lt_of_eq HLT.out HK0.out.symm)
end Go.Proofs.YtpffhoefmcpniaaGreatDoor

namespace Go.Proofs.YtpffhoefmcpniaaGreatDoor
open Go.RowKit

attribute [local go_sem ↓] Go.wp_at_zero Go.wp_at_succ

theorem idxOf_at {l : List Nat} (h : l.Nodup) {p v : Nat} (hp : l[p]? = some v) : l.idxOf v = p := by
 have hv : v ∈ l := List.mem_of_getElem? hp
 have h1 := List.idxOf_lt_length_iff.2 hv
 exact nodup_pos h (by rw [List.getElem?_eq_getElem h1, List.getElem_idxOf h1]) hp
set_option maxHeartbeats 4000000 in
set_option maxRecDepth 20000 in
theorem refPush_any (AE : Option Addr) (gF gB n m ce p0 t0 : Nat) (E : List Edg) (f b : List Int) (s q : List Nat) (w : World) (hE : RdP w AE m E) (hne : blkOf AE ≠ some gF) (hF : Blk w gF 3 (ints f)) (hB : Blk w gB 3 (ints b)) (hgb : gF ≠ gB) (hBF : Bfs n E f s b q) (hp : q[p0]? = some t0) (hu : ∀ x ∈ f, Unit3 x) (hEn : Ends n E) (hfl : f.length = m) :
 Calls Tryz.prog 112 #[.slice AE m ce, .slice (some ⟨gF, 0, none⟩) m m, .slice (some ⟨gB, 0, none⟩) n n, .int .i64 t0] w fun e w' => e = .returned (.tuple #[]) ∧ ∃ f' p t, Psh E f b q t0 f' p t ∧ t ∈ s ∧ Blk w' gF 3 (ints f') ∧ w.grownBy w' (some gF) := by
 have HE := Lib.hid hE
 have HNE := Lib.hid hne
 have HB := Lib.hid hB
 have HBF := Lib.hid hBF
 have HEN := Lib.hid hEn
 have HP := Lib.hid (Psh.start (E := E) (b := b) hp hu)
 have HF := Lib.hid hF
 clear hE hB hBF hEn hp hu hF
 go_enter Tryz.func112, Tryz.ntmps112
 go_wp2_with fail
 go_loopw [3] (fun a W => ∃ (p t : Nat) (f' : List Int), a = .int .i64 (t : Int) ∧ Psh E f b q t0 f' p t ∧ Blk W gF 3 (ints f') ∧ w.grownBy W (some gF)) (fun a _ => q.idxOf (intOf a).toNat)
 case atStart => exact ⟨p0, t0, f, rfl, HP.out, HF.out, World.grownBy.refl _ _⟩
 case round =>
  obtain ⟨p, t, f', rfl, hP, hF, hg⟩ := hrel
  have HP := Lib.hid hP
  have HF := Lib.hid hF
  have HG := Lib.hid hg
  have hq := hP.at_
  have htn := HBF.out.lt t (List.mem_of_getElem? hq)
  have hBr := HB.out.grown hg (by intro e; injection e with e; exact hgb e)
  have hbl : t < b.length := by rw [HBF.out.len]; exact htn
  obtain ⟨z, hz⟩ : ∃ z, b[t]? = some z := ⟨_, List.getElem?_eq_getElem hbl⟩
  have cz := hBr.cellI hz
  have i1 : (0 : Int) ≤ (t : Int) := by omega
  have i2 : (t : Int) < (n : Int) := by omega
  have HZ := Lib.hid hz
  clear hP hF hg hBr
  by_cases hneg : z < 0
  · have e0 : ¬ z ≥ 0 := by omega
    clear hz
    go_wp2_with fail
    go_end0
    refine ⟨rfl, f', p, t, HP.out, ?_, HF.out, HG.out⟩
    rcases HBF.out.inn p t HP.out.at_ with ⟨_, h⟩ | ⟨i, _, _, _, _, h, _⟩
    · exact h
    · rw [HZ.out] at h
      have := Option.some.inj h
      omega
  obtain ⟨j, rfl⟩ : ∃ j : Nat, z = (j : Int) := ⟨z.toNat, by omega⟩
  obtain ⟨p', u, x, d, hpp, hqu, hut, hx, hd, hx3, hP2⟩ := Psh.step HBF.out HP.out hz
  have e0 : (j : Int) ≥ 0 := by omega
  have hfm : f'.length = m := by rw [HP.out.len]; exact hfl
  have hjm : j < m := by rw [← hfm]; exact (List.getElem?_eq_some_iff.1 hx).1
  have hun := HBF.out.lt u (List.mem_of_getElem? hqu)
  have HER := Lib.hid (HE.out.grown HG.out HNE.out)
  obtain ⟨eb, eo, ea, ec, rfl, hej, cx, cy⟩ := HER.out.at_ hjm
  have hgne : eb ≠ gF := fun e => HNE.out (by rw [e]; rfl)
  have hgn2 : ¬ eb = gF := hgne
  have cf := HF.out.cellI hx
  have ff := HF.out.frozen j
  have i3 : (0 : Int) ≤ (j : Int) := by omega
  have i4 : (j : Int) < (m : Int) := by omega
  unfold Unit3 at hx3
  have HMS := Lib.hid (show q.idxOf u < q.idxOf t by rw [idxOf_at HBF.out.nodup hqu, idxOf_at HBF.out.nodup HP.out.at_]; exact hpp)
  have HP2 := Lib.hid hP2
  clear hz hneg hpp hqu hP2
  rcases hd with ⟨rfl, hE1⟩ | ⟨rfl, hE1⟩
  · rw [hej] at hE1
    obtain ⟨rfl, rfl⟩ : ea = (u : Int) ∧ ec = (t : Int) := by injection hE1 with h; injection h with h1 h2; exact ⟨h1, h2⟩
    have e5 : ((t : Int) == (t : Int)) = true := by simp
    have e6 : IntKind.i64.wrap (x + 1) = x + 1 := IntWalk.i64_in _ (by omega)
    have HF2 := Lib.hid (show Blk (wr.setCell ⟨gF, j, none⟩ (.int .i64 (x + 1))) gF 3 (ints (f'.set j (x + 1))) from HF.out.setI rfl)
    have HG2 := Lib.hid (HG.out.trans (grownBy_set wr gF j (.int .i64 (x + 1))))
    have k1 : (wr.setCell ⟨gF, j, none⟩ (.int .i64 (x + 1))).cell? ⟨eb, eo + j * 2, none⟩ = some (.int .i64 (u : Int)) := by rw [World.cell?_setCell_other _ _ _ _ (by intro h; simp only [Addr.mk.injEq] at h; omega)]; exact cx
    clear hx hej hE1
    go_wp2_with fail
    go_roundw
    case rel => exact ⟨p', u, f'.set j (x + 1), rfl, HP2.out, HF2.out, HG2.out⟩
    case measure => simpa [intOf] using HMS.out
  · rw [hej] at hE1
    obtain ⟨rfl, rfl⟩ : ea = (t : Int) ∧ ec = (u : Int) := by injection hE1 with h; injection h with h1 h2; exact ⟨h1, h2⟩
    have e5 : ((u : Int) == (t : Int)) = false := beq_eq_false_iff_ne.2 (by omega)
    have e6 : IntKind.i64.wrap (x - 1) = x - 1 := IntWalk.i64_in _ (by omega)
    have HF2 := Lib.hid (show Blk (wr.setCell ⟨gF, j, none⟩ (.int .i64 (x - 1))) gF 3 (ints (f'.set j (x + -1))) from HF.out.setI rfl)
    have HG2 := Lib.hid (HG.out.trans (grownBy_set wr gF j (.int .i64 (x - 1))))
    have k1 : (wr.setCell ⟨gF, j, none⟩ (.int .i64 (x - 1))).cell? ⟨eb, eo + j * 2 + 1, none⟩ = some (.int .i64 (u : Int)) := by rw [World.cell?_setCell_other _ _ _ _ (by intro h; simp only [Addr.mk.injEq] at h; omega)]; exact cy
    clear hx hej hE1
    go_wp2_with fail
    go_roundw
    case rel => exact ⟨p', u, f'.set j (x + -1), rfl, HP2.out, HF2.out, HG2.out⟩
    case measure => simpa [intOf] using HMS.out
end Go.Proofs.YtpffhoefmcpniaaGreatDoor

namespace Go.Proofs.YtpffhoefmcpniaaGreatDoor
open Go.RowKit

attribute [local go_sem ↓] Go.wp_at_zero Go.wp_at_succ

def SidesPost (n : Nat) (E : List Edg) (s t : List Nat) (w : World) (e : Ending) (w' : World) : Prop := ∃ (g1 g2 : Nat) (b1 b2 : List Bool), e = .returned (.tuple #[.slice (some ⟨g1, 0, none⟩) n n, .slice (some ⟨g2, 0, none⟩) n n]) ∧ RdB w' (some ⟨g1, 0, none⟩) n b1 ∧ RdB w' (some ⟨g2, 0, none⟩) n b2 ∧ NearB n E s t b1 ∧ FarB n E s t b2 ∧ Below w.heap.size w w' ∧ w.heap.size ≤ g1 ∧ w.heap.size ≤ g2
set_option maxHeartbeats 4000000 in
set_option maxRecDepth 20000 in
theorem refSides_any (AE AF AS AT : Option Addr) (n m ce cf k cs l ct : Nat) (E : List Edg) (f : List Int) (V : Int) (s t : List Nat) (w : World) (hE : RdP w AE m E) (hf : RdI w AF m f) (hs : RdI w AS k (nats s)) (ht : RdI w AT l (nats t)) (hEn : Ends n E) (hsn : ∀ v ∈ s, v < n) (htn : ∀ v ∈ t, v < n) (hFl : FlowI E (nats s) (nats t) V f) (hno : ∀ v ∈ nats t, ¬ Reach E f (nats s) v) (hu : ∀ x ∈ f, Unit3 x) (hn : n ≤ 100000) (hm : m ≤ 100000) (hk : k ≤ 100000) (hl : l ≤ 100000) :
 Calls Tryz.prog 113 #[.int .i64 n, .slice AE m ce, .slice AF m cf, .slice AS k cs, .slice AT l ct] w (SidesPost n E s t w) := by
 have HR1 := Lib.hid (fun V (hV : Below w.heap.size w V) => refReach_any AE AF AS n m ce cf k cs E f s V (hE.below hV) (hf.below hV) (hs.below hV) hEn hsn hn hm hk)
 have HR2 := Lib.hid (fun V (hV : Below w.heap.size w V) g (hg : RdI V (some ⟨g, 0, none⟩) m (f.map (fun x => -x))) => refReach_any AE (some ⟨g, 0, none⟩) AT n m ce m l ct E (f.map (fun x => -x)) t V (hE.below hV) hg (ht.below hV) hEn htn hn hm hl)
 have HF := Lib.hid hf
 have HFL := Lib.hid hFl
 have HNO := Lib.hid hno
 have HU := Lib.hid hu
 have HEN := Lib.hid hEn
 have HSN := Lib.hid hsn
 have hfl : f.length = m := hf.1
 have hmb := run_makeB n (by omega)
 have hmk := run_makeI m (by omega)
 clear hE hf hs ht hEn hsn htn hFl hno hu
 go_enter Tryz.func113, Tryz.ntmps113
 go_wp2_with fail
 (refine calls_named ?_; intro w1 hw1)
 have hb1 : Below w.heap.size w w1 := by rw [hw1]; exact bELt
 have hz1 : w1.heap.size = w.heap.size + 2 := by rw [hw1]; show ((w.heap.push _).push _).size = _; rw [Array.size_push, Array.size_push]
 have hN1 : Blk w1 w.heap.size 4 (zeros (.bool false) n) := by rw [hw1]; exact bLNt
 have hM1 : Blk w1 (w.heap.size + 1) 4 (zeros (.bool false) n) := by rw [hw1]; exact bLNt
 clear hw1
 with_reducible refine (HR1.out w1 hb1).mono ?_
 rintro e w2 ⟨gb, b, q, rfl, hB2, hgb, hbf, hsq, hgo, hb2⟩
 have HBF := Lib.hid hbf
 have HGO := Lib.hid hgo
 have HSQ := Lib.hid hsq
 have HB2 := Lib.hid (Bel.step hb1 hb2)
 have HN2 := Lib.hid (hN1.below hb2 hN1.lt)
 have HM2 := Lib.hid (hM1.below hb2 hM1.lt)
 have HBB := Lib.hid hB2
 have hz2 := hb2.size
 clear hb1 hN1 hM1 hb2 hB2 hbf hsq hgo
 go_wp2_with fail
 (refine wp_named ?_; intro w3 hw3)
 have hb3 : Below w2.heap.size w2 w3 := by rw [hw3]; exact bELt
 have hK3 : Blk w3 w2.heap.size 3 (ints (fillTo (f.map (fun x => -x)) 0 m)) := by rw [hw3, fillTo_zero, ← zeros_int]; exact Blk.new _ _ _
 clear hw3 hmk hmb
 have hfm : (f.map (fun x => -x)).length = m := by rw [List.length_map]; exact hfl
 go_loopw [16] (fun q W => Below w2.heap.size w2 W ∧ ∃ j : Nat, j ≤ m ∧ q = .int .i64 j ∧ Blk W w2.heap.size 3 (ints (fillTo (f.map (fun x => -x)) j m))) (fun q _ => m - (intOf q).toNat)
 case atStart => exact ⟨hb3, 0, Nat.zero_le _, rfl, hK3⟩
 case round =>
  clear hb3 hK3
  obtain ⟨hbl, j, hj, rfl, hK⟩ := hrel
  by_cases hlt : j < m
  · have hbw := Bel.step HB2.out hbl
    obtain ⟨fb, fo, x, rfl, hx, hc⟩ := (HF.out.below hbw).at_ hlt
    have hux := HU.out x (List.mem_of_getElem? hx)
    unfold Unit3 at hux
    have e6 : IntKind.i64.wrap (0 - x) = -x := by rw [Int.zero_sub]; exact IntWalk.i64_in _ (by omega)
    have e7 : IntKind.i64.wrap (-x) = -x := IntWalk.i64_in _ (by omega)
    have c1 := hK.cellI (fillTo_at hfm hlt)
    have c1f := hK.frozen j
    have HK := Lib.hid (hK.setI (fillTo_set (x := -x) hfm hlt (by rw [List.getElem?_map, hx]; rfl)))
    have hbn : Below w2.heap.size w2 (wr.setCell ⟨w2.heap.size, j, none⟩ (.int .i64 (-x))) := hbl.setCell (Nat.le_refl _) _
    have i1 : (0 : Int) ≤ (j : Int) := by omega
    have i2 : (j : Int) < (m : Int) := by omega
    clear hK hbl hx hux hbw
    go_wp2_with fail
    go_roundw
    case rel => exact ⟨hbn, j + 1, by omega, by go_num, HK.out⟩
    case measure => simp [intOf]; omega
  obtain rfl : m = j := by omega
  rw [fillTo_all hfm] at hK
  obtain ⟨W0, rfl⟩ : ∃ W, W = wr := ⟨_, rfl⟩
  have hbw := Bel.step HB2.out hbl
  have HR3 := Lib.hid (HR2.out W0 hbw w2.heap.size (hK.rdI hfm))
  have HNW := Lib.hid (HN2.out.below hbl HN2.out.lt)
  have HMW := Lib.hid (HM2.out.below hbl HM2.out.lt)
  have HBW := Lib.hid (HBB.out.below hbl HBB.out.lt)
  have HLW := Lib.hid hbw
  have hz5 : w.heap.size + 2 ≤ W0.heap.size := by have := hbl.size; omega
  clear hK hbl hbw hj hlt
  go_wp2_with fail
  with_reducible refine HR3.out.mono ?_
  rintro e w4 ⟨gc, b2, q2, rfl, hB4, hgc, hbf2, hsq2, hgo2, hb4⟩
  have HBF2 := Lib.hid hbf2
  have HGO2 := Lib.hid hgo2
  have HSQ2 := Lib.hid hsq2
  have HL4 := Lib.hid (Bel.step HLW.out hb4)
  have hN4 := HNW.out.below hb4 HNW.out.lt
  have hM4 := HMW.out.below hb4 HMW.out.lt
  rw [← fillP_zero got b n] at hN4
  rw [← fillP_zero ungot b2 n] at hM4
  have HP4 := Lib.hid (HBW.out.below hb4 HBW.out.lt)
  have HQ4 := Lib.hid hB4
  have hz4 := HLW.out.size
  have hlb := hbf2.len
  have hla := HBF.out.len
  clear hbf2 hgo2 hsq2 hb4 hB4
  go_wp2_with fail
  go_loopw [18] (fun q W => Below w.heap.size w W ∧ w4.heap.size ≤ W.heap.size ∧ ∃ j : Nat, j ≤ n ∧ q = .int .i64 j ∧ Blk W w.heap.size 4 (bools (fillP got b n j)) ∧ Blk W (w.heap.size + 1) 4 (bools (fillP ungot b2 n j)) ∧ Blk W gb 3 (ints b) ∧ Blk W gc 3 (ints b2)) (fun q _ => n - (intOf q).toNat)
  case atStart => exact ⟨HL4.out, Nat.le_refl _, 0, Nat.zero_le _, rfl, hN4, hM4, HP4.out, HQ4.out⟩
  case round =>
   clear hN4 hM4
   obtain ⟨hbl, hsz, j, hj, rfl, hN, hM, hP, hQ⟩ := hrel
   by_cases hlt : j < n
   · obtain ⟨x, hx⟩ : ∃ x, b[j]? = some x := ⟨_, List.getElem?_eq_getElem (by omega)⟩
     obtain ⟨y, hy⟩ : ∃ y, b2[j]? = some y := ⟨_, List.getElem?_eq_getElem (by omega)⟩
     have cx := hP.cellI hx
     have cy := hQ.cellI hy
     obtain ⟨z, hz⟩ : ∃ z, (fillP got b n j)[j]? = some z := ⟨_, List.getElem?_eq_getElem (by rw [fillP_len hla hj]; exact hlt)⟩
     obtain ⟨z2, hz2⟩ : ∃ z, (fillP ungot b2 n j)[j]? = some z := ⟨_, List.getElem?_eq_getElem (by rw [fillP_len hlb hj]; exact hlt)⟩
     have c1 := hN.cellB hz
     have c1f := hN.frozen j
     have e1 : (x != -2) = got x := by unfold got; by_cases h : x = -2 <;> simp [h]
     have e2 : (y == -2) = ungot y := by unfold ungot; rfl
     have hN2 := hN.setB (fillP_next (p := got) hx hlt)
     have hM2 := hM.far_ (b := w.heap.size) (o := j) (by omega) (.bool (got x))
     have c2 := hM2.cellB hz2
     have c2f := hM2.frozen j
     have d2 := (hQ.far_ (b := w.heap.size) (o := j) (by omega) (.bool (got x))).cellI hy
     have HN3 := Lib.hid (hN2.far_ (b := w.heap.size + 1) (o := j) (by omega) (.bool (ungot y)))
     have HM3 := Lib.hid (hM2.setB (fillP_next (p := ungot) hy hlt))
     have HP3 := Lib.hid ((hP.far_ (b := w.heap.size) (o := j) (by omega) (.bool (got x))).far_ (b := w.heap.size + 1) (o := j) (by omega) (.bool (ungot y)))
     have HQ3 := Lib.hid ((hQ.far_ (b := w.heap.size) (o := j) (by omega) (.bool (got x))).far_ (b := w.heap.size + 1) (o := j) (by omega) (.bool (ungot y)))
     have HB3 := Lib.hid ((hbl.setCell (p := ⟨w.heap.size, j, none⟩) (Nat.le_refl _) (.bool (got x))).setCell (p := ⟨w.heap.size + 1, j, none⟩) (show w.heap.size ≤ w.heap.size + 1 by omega) (.bool (ungot y)))
     have HS3 := Lib.hid (show w4.heap.size ≤ ((wr.setCell ⟨w.heap.size, j, none⟩ (.bool (got x))).setCell ⟨w.heap.size + 1, j, none⟩ (.bool (ungot y))).heap.size by simpa [World.setCell] using hsz)
     have i1 : (0 : Int) ≤ (j : Int) := by omega
     have i2 : (j : Int) < (n : Int) := by omega
     clear hN hM hP hQ hN2 hM2 hx hy hz hz2 hbl hsz
     go_wp2_with fail
     go_roundw
     case rel => exact ⟨HB3.out, HS3.out, j + 1, by omega, by go_num, HN3.out, HM3.out, HP3.out, HQ3.out⟩
     case measure => simp [intOf]; omega
   obtain rfl : n = j := by omega
   rw [fillP_all hla] at hN
   rw [fillP_all hlb] at hM
   go_wp2_with fail
   go_ret2
   refine ⟨w.heap.size, w.heap.size + 1, _, _, rfl, hN.rdB (by simp [hla]), hM.rdB (by simp [hlb]), near_bfs HBF.out HEN.out HSQ.out HGO.out HFL.out (fun v hv hvq => ?_), far_bfs HBF2.out HEN.out HSQ2.out HGO2.out HFL.out HNO.out HSN.out, hbl, Nat.le_refl _, by omega⟩
   obtain ⟨p, hp⟩ := List.getElem?_of_mem hvq
   exact HNO.out v (nats_mem.2 hv) (bfs_reach HBF.out p v hp)
end Go.Proofs.YtpffhoefmcpniaaGreatDoor
