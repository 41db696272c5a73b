/- For every input FillRight returns true, and its arguments read afterwards as before. No condition. -/
/- Parts of the proof: OpN, FrProof. -/
import Derived.Test.YtgkeolddpielpaaGreatM28
import Derived.ChangeArms
namespace Go.Proofs.YtgkeolddpielpaaGreat
open Go.ChangeShapes Go.WideShapes Go.ChangeAt Go.RowKit Go.Deep

theorem list_one {α : Type} : ∀ {l : List α}, l.length = 1 → ∃ a, l = [a]
 | [a], _ => ⟨a, rfl⟩
theorem list_three {α : Type} : ∀ {l : List α}, l.length = 3 → ∃ a b c, l = [a, b, c]
 | [a, b, c], _ => ⟨a, b, c, rfl⟩
section
variable {H : Type} {enc : TypeId × Value → H} {w : World} {base : Nat} {spare : Nat → Bool} {held : Bool}
theorem slice_cell {t e : TypeId} (ht : Tryz.prog.underlying t = some (.slice e)) {fuel : Nat} {cs : List Value} {x : DataW H × List MemPlace} (h : DataW.trod enc Tryz.prog w base spare held fuel t cs = some x) : ∃ A n c, cs = [.slice A n c] := by
 rcases open_slice ht h with ⟨h0, _⟩ | ⟨a, len, cap, m, n', D, Pl, hcs, _⟩
 · exact ⟨_, _, _, h0⟩
 · exact ⟨_, _, _, hcs⟩
theorem rel_row (fuel : Nat) (cs : List Value) (x : DataW H × List MemPlace) (h : DataW.trod enc Tryz.prog w base spare held fuel 36 cs = some x) :
 ∃ l : List Int, ∃ A n c, cs = [.slice A n c] ∧ RdI w A n l ∧ n ≤ c ∧ c ≤ 9223372036854775807 := by
 obtain ⟨A, n, c, rfl⟩ := slice_cell Tryz.underlying36 h
 obtain ⟨l, h1, h2, h3, _, _⟩ := open_intsK Tryz.underlying36 Tryz.underlying3 (by kernel_rfl) h
 exact ⟨l, A, n, c, rfl, h1, h2, h3⟩
theorem open_part {cs : List Value} {fuel : Nat} {x : DataW H × List MemPlace} (h : DataW.trod enc Tryz.prog w base spare held fuel 29 cs = some x) :
 ∃ (A : Option Addr) (n c : Nat) (ls : List (List Int)), cs = [.slice A n c] ∧ RdT w A n ls ∧ n ≤ c ∧ c ≤ 9223372036854775807 := by
 obtain ⟨xs, m, _, _, hcl, hxl, hi⟩ := DataW.trod_struct Tryz.underlying29 h
 have hxl' : xs.length = 1 := hxl
 have a0 : DataW.trod enc Tryz.prog w base spare held m 27 ((cs.drop 0).take (Tryz.prog.cellsOf 27)) = xs[0]? := hi 0 _ rfl
 rw [List.getElem?_eq_getElem (by omega)] at a0
 obtain ⟨A, n, c, e0⟩ := slice_cell Tryz.underlying27 a0
 rw [e0] at a0
 obtain ⟨l, hl, hnc, hcm, _, hr⟩ := open_list Tryz.underlying27 (k := 1) (by kernel_rfl) (by omega) (fun cs (l : List Int) => ∃ A n c, cs = [.slice A n c] ∧ RdI w A n l ∧ n ≤ c ∧ c ≤ 9223372036854775807) rel_row a0
 rw [show Tryz.prog.cellsOf 29 = 1 by kernel_rfl] at hcl
 rw [show Tryz.prog.cellsOf 27 = 1 by kernel_rfl] at e0
 clear a0 hi h
 obtain ⟨c0, rfl⟩ := list_one hcl
 simp at e0
 refine ⟨A, n, c, l, by simp [e0], ⟨hl, fun i p hp => ?_⟩, hnc, hcm⟩
 obtain ⟨b, o, vs, e, ⟨A', n', c', e2, h1, h2, h3⟩, _, hv⟩ := hr i p hp
 subst e2
 exact ⟨b, o, A', n', c', e, by have := hv 0 _ rfl; simpa using this, h1, h2, h3⟩
theorem rel_vert (fuel : Nat) (cs : List Value) (x : DataW H × List MemPlace) (h : DataW.trod enc Tryz.prog w base spare held fuel 121 cs = some x) : ∃ p : Tri, cs = [.int .i64 p.1, .int .i64 p.2.1, .int .i64 p.2.2] := by
 obtain ⟨xs, m, _, _, hcl, hxl, hi⟩ := DataW.trod_struct Tryz.underlying121 h
 have hxl' : xs.length = 3 := hxl
 have a0 : DataW.trod enc Tryz.prog w base spare held m 3 ((cs.drop 0).take (Tryz.prog.cellsOf 3)) = xs[0]? := hi 0 _ rfl
 have a1 : DataW.trod enc Tryz.prog w base spare held m 3 ((cs.drop 1).take (Tryz.prog.cellsOf 3)) = xs[1]? := hi 1 _ rfl
 have a2 : DataW.trod enc Tryz.prog w base spare held m 3 ((cs.drop 2).take (Tryz.prog.cellsOf 3)) = xs[2]? := hi 2 _ rfl
 rw [List.getElem?_eq_getElem (by omega)] at a0 a1 a2
 obtain ⟨n0, e0, _⟩ := DataW.trod_int Tryz.underlying3 a0
 obtain ⟨n1, e1, _⟩ := DataW.trod_int Tryz.underlying3 a1
 obtain ⟨n2, e2, _⟩ := DataW.trod_int Tryz.underlying3 a2
 rw [show Tryz.prog.cellsOf 121 = 3 by kernel_rfl] at hcl
 rw [show Tryz.prog.cellsOf 3 = 1 by kernel_rfl] at e0 e1 e2
 clear a0 a1 a2 hi h
 obtain ⟨c0, c1, c2, rfl⟩ := list_three hcl
 simp at e0 e1 e2
 exact ⟨(n0, n1, n2), by simp [e0, e1, e2]⟩
theorem rel_arc (fuel : Nat) (cs : List Value) (x : DataW H × List MemPlace) (h : DataW.trod enc Tryz.prog w base spare held fuel 107 cs = some x) : ∃ p : Tri, cs = [.int .i64 p.1, .int .i64 p.2.1, .int .i64 p.2.2] := by
 obtain ⟨xs, m, _, _, hcl, hxl, hi⟩ := DataW.trod_struct Tryz.underlying107 h
 have hxl' : xs.length = 3 := hxl
 have a0 : DataW.trod enc Tryz.prog w base spare held m 3 ((cs.drop 0).take (Tryz.prog.cellsOf 3)) = xs[0]? := hi 0 _ rfl
 have a1 : DataW.trod enc Tryz.prog w base spare held m 3 ((cs.drop 1).take (Tryz.prog.cellsOf 3)) = xs[1]? := hi 1 _ rfl
 have a2 : DataW.trod enc Tryz.prog w base spare held m 2 ((cs.drop 2).take (Tryz.prog.cellsOf 2)) = xs[2]? := hi 2 _ rfl
 rw [List.getElem?_eq_getElem (by omega)] at a0 a1 a2
 obtain ⟨n0, e0, _⟩ := DataW.trod_int Tryz.underlying3 a0
 obtain ⟨n1, e1, _⟩ := DataW.trod_int Tryz.underlying3 a1
 obtain ⟨n2, e2, _⟩ := DataW.trod_int Tryz.underlying2 a2
 rw [show Tryz.prog.cellsOf 107 = 3 by kernel_rfl] at hcl
 rw [show Tryz.prog.cellsOf 3 = 1 by kernel_rfl] at e0 e1
 rw [show Tryz.prog.cellsOf 2 = 1 by kernel_rfl] at e2
 clear a0 a1 a2 hi h
 obtain ⟨c0, c1, c2, rfl⟩ := list_three hcl
 simp at e0 e1 e2
 exact ⟨(n0, n1, n2), by simp [e0, e1, e2]⟩
def TabCs (w : World) (cs : List Value) (t : TabD) : Prop := ∃ (A : Option Addr) (n c : Nat), cs = [.int .i64 t.ins, .int .i64 t.outs, .slice A n c] ∧ RdI w A n t.costs ∧ n ≤ c ∧ c ≤ 9223372036854775807
theorem rel_tab (fuel : Nat) (cs : List Value) (x : DataW H × List MemPlace) (h : DataW.trod enc Tryz.prog w base spare held fuel 119 cs = some x) : ∃ t : TabD, TabCs w cs t := by
 obtain ⟨xs, m, _, _, hcl, hxl, hi⟩ := DataW.trod_struct Tryz.underlying119 h
 have hxl' : xs.length = 3 := hxl
 have a0 : DataW.trod enc Tryz.prog w base spare held m 3 ((cs.drop 0).take (Tryz.prog.cellsOf 3)) = xs[0]? := hi 0 _ rfl
 have a1 : DataW.trod enc Tryz.prog w base spare held m 3 ((cs.drop 1).take (Tryz.prog.cellsOf 3)) = xs[1]? := hi 1 _ rfl
 have a2 : DataW.trod enc Tryz.prog w base spare held m 44 ((cs.drop 2).take (Tryz.prog.cellsOf 44)) = xs[2]? := hi 2 _ rfl
 rw [List.getElem?_eq_getElem (by omega)] at a0 a1 a2
 obtain ⟨n0, e0, _⟩ := DataW.trod_int Tryz.underlying3 a0
 obtain ⟨n1, e1, _⟩ := DataW.trod_int Tryz.underlying3 a1
 obtain ⟨A, n, c, e2⟩ := slice_cell Tryz.underlying44 a2
 rw [e2] at a2
 obtain ⟨l, h1, h2, h3, _, _⟩ := open_intsK Tryz.underlying44 Tryz.underlying2 (by kernel_rfl) a2
 rw [show Tryz.prog.cellsOf 119 = 3 by kernel_rfl] at hcl
 rw [show Tryz.prog.cellsOf 3 = 1 by kernel_rfl] at e0 e1
 rw [show Tryz.prog.cellsOf 44 = 1 by kernel_rfl] at e2
 clear a0 a1 a2 hi h
 obtain ⟨c0, c1, c2, rfl⟩ := list_three hcl
 simp at e0 e1 e2
 exact ⟨⟨n0, n1, l⟩, A, n, c, by simp [e0, e1, e2], h1, h2, h3⟩
theorem open_net {cs : List Value} {fuel : Nat} {x : DataW H × List MemPlace} (h : DataW.trod enc Tryz.prog w base spare held fuel 26 cs = some x) :
 ∃ (A B C : Option Addr) (n m k c d e : Nat) (N : NetD), cs = [.slice A n c, .slice B m d, .slice C k e] ∧ RdNet w A B C n m k N ∧ k ≤ 9223372036854775807 := by
 obtain ⟨xs, f, _, _, hcl, hxl, hi⟩ := DataW.trod_struct Tryz.underlying26 h
 have hxl' : xs.length = 3 := hxl
 have a0 : DataW.trod enc Tryz.prog w base spare held f 22 ((cs.drop 0).take (Tryz.prog.cellsOf 22)) = xs[0]? := hi 0 _ rfl
 have a1 : DataW.trod enc Tryz.prog w base spare held f 23 ((cs.drop 1).take (Tryz.prog.cellsOf 23)) = xs[1]? := hi 1 _ rfl
 have a2 : DataW.trod enc Tryz.prog w base spare held f 24 ((cs.drop 2).take (Tryz.prog.cellsOf 24)) = xs[2]? := hi 2 _ rfl
 rw [List.getElem?_eq_getElem (by omega)] at a0 a1 a2
 obtain ⟨A, n, c, e0⟩ := slice_cell Tryz.underlying22 a0
 obtain ⟨B, m, d, e1⟩ := slice_cell Tryz.underlying23 a1
 obtain ⟨C, k, e, e2⟩ := slice_cell Tryz.underlying24 a2
 rw [e0] at a0
 rw [e1] at a1
 rw [e2] at a2
 obtain ⟨vs, hl0, _, _, _, hr0⟩ := open_list Tryz.underlying22 (k := 3) (by kernel_rfl) (by omega) (fun cs (p : Tri) => cs = [.int .i64 p.1, .int .i64 p.2.1, .int .i64 p.2.2]) rel_vert a0
 obtain ⟨ar, hl1, _, _, _, hr1⟩ := open_list Tryz.underlying23 (k := 3) (by kernel_rfl) (by omega) (fun cs (p : Tri) => cs = [.int .i64 p.1, .int .i64 p.2.1, .int .i64 p.2.2]) rel_arc a1
 obtain ⟨ts, hl2, hkc, hcm, _, hr2⟩ := open_list Tryz.underlying24 (k := 3) (by kernel_rfl) (by omega) (TabCs w) rel_tab a2
 rw [show Tryz.prog.cellsOf 26 = 3 by kernel_rfl] at hcl
 rw [show Tryz.prog.cellsOf 22 = 1 by kernel_rfl] at e0
 rw [show Tryz.prog.cellsOf 23 = 1 by kernel_rfl] at e1
 rw [show Tryz.prog.cellsOf 24 = 1 by kernel_rfl] at e2
 clear a0 a1 a2 hi h
 obtain ⟨c0, c1, c2, rfl⟩ := list_three hcl
 simp at e0 e1 e2
 refine ⟨A, B, C, n, m, k, c, d, e, ⟨vs, ar, ts⟩, by simp [e0, e1, e2], ⟨⟨hl0, fun i p hp => ?_⟩, ⟨hl1, fun i p hp => ?_⟩, ⟨hl2, fun i p hp => ?_⟩⟩, by omega⟩
 · obtain ⟨b, o, us, e5, rfl, _, hv⟩ := hr0 i p hp
   exact ⟨b, o, e5, by have := hv 0 _ rfl; simpa using this, hv 1 _ rfl, hv 2 _ rfl⟩
 · obtain ⟨b, o, us, e5, rfl, _, hv⟩ := hr1 i p hp
   exact ⟨b, o, e5, by have := hv 0 _ rfl; simpa using this, hv 1 _ rfl, hv 2 _ rfl⟩
 · obtain ⟨b, o, us, e5, ⟨A', n', c', rfl, h1, h2, h3⟩, _, hv⟩ := hr2 i p hp
   exact ⟨b, o, e5, by have := hv 0 _ rfl; simpa using this, hv 1 _ rfl, A', n', c', hv 2 _ rfl, h1, h2, h3⟩
end

end Go.Proofs.YtgkeolddpielpaaGreat

namespace Go.Proofs.YtgkeolddpielpaaGreat
open Go.ChangeShapes Go.WideShapes Go.ChangeAt Go.RowKit
namespace FillRightDone

set_option maxRecDepth 100000 in
theorem lifted (os : Os) (started : os.Started) (H : Type) (enc : TypeId × Value → H) :
 ReturnsInHanded {} Tryz.checked os 4 .any (Rows.fillRightSpec.pre6 enc Tryz.prog Tryz.f4 Rows.fillRightRow.domain false) (Rows.fillRightSpec.post enc Tryz.prog Tryz.f4 false true false false) := by
 refine returnsInHanded_of_change_sized (C := Tryz.checked) own_ started (by kernel_rfl) Tryz.func4
  (ChangeSpec.witness6 (enc := enc) (C := Tryz.checked) false ⟨#[], #[.agg #[.slice none 0 0, .slice none 0 0, .slice none 0 0], .agg #[.slice none 0 0], .slice none 0 0, .int .u16 0, .int .i64 0], []⟩ 8 (by kernel_rfl) (by kernel_rfl) (by kernel_rfl) (by kernel_rfl)) ?_
 intro W base args ds gs before hval0 hW hcnd hsz0 _
 have hsz : (DataW.weightsEach Tryz.prog (Tryz.f4.params.toList ++ Rows.fillRightSpec.plain.varTypes Tryz.prog) (ds ++ gs)).all (· ≤ reachBytes) = true := hsz0
 clear hsz0
 have hval : ∀ (j : Nat) t v, Tryz.f4.params[j]? = some t → args[j]? = some v → Value.okWide Tryz.prog W .any base t v := hval0
 have hW' := hW
 obtain ⟨p, q, hA0, hV, rfl, hfz, hnd⟩ := hW
 have hA : DataW.TrodAll enc Tryz.prog W 0 (fun _ => true) true Tryz.f4.params.toList args.toList ds p := hA0
 rw [Tryz.params4] at hA hval hsz
 obtain ⟨v0, vs0, d0, ds0, p0, q0, hargs, rfl, rfl, h0, r0⟩ := trodAll_cons hA
 obtain ⟨v1, vs1, d1, ds1, p1, q1, rfl, rfl, rfl, h1, r1⟩ := trodAll_cons r0
 obtain ⟨v2, vs2, d2, ds2, p2, q2, rfl, rfl, rfl, h2, r2⟩ := trodAll_cons r1
 obtain ⟨v3, vs3, d3, ds3, p3, q3, rfl, rfl, rfl, h3, r3⟩ := trodAll_cons r2
 obtain ⟨v4, vs4, d4, ds4, p4, q4, rfl, rfl, rfl, h4, r4⟩ := trodAll_cons r3
 obtain ⟨rfl, rfl, rfl⟩ := trodAll_nil r4
 obtain rfl : args = #[v0, v1, v2, v3, v4] := by cases args; simp_all
 obtain ⟨rfl, rfl⟩ := trodVars_none hV
 obtain ⟨cs0, rfl, _⟩ := okWide_struct Tryz.underlying26 (hval 0 26 v0 rfl rfl)
 have k0 := h0
 have lt0 : ∀ x ∈ p0, x.block < W.heap.size := by obtain ⟨m, hm⟩ := k0; exact DataW.trod_lt m _ _ _ hm
 obtain ⟨A, B, C, n, m, k, c, d, e, N, hcs0, hnet, hk⟩ : ∃ (A B C : Option Addr) (n m k c d e : Nat) (N : NetD), cs0 = #[.slice A n c, .slice B m d, .slice C k e] ∧ RdNet W A B C n m k N ∧ k ≤ 9223372036854775807 := by
  obtain ⟨fuel, hf⟩ := h0
  obtain ⟨A, B, C, n, m, k, c, d, e, N, e1, e2, e3⟩ := open_net hf
  exact ⟨A, B, C, n, m, k, c, d, e, N, Array.toList_inj.1 e1, e2, e3⟩
 subst hcs0
 obtain ⟨cs1, rfl, _⟩ := okWide_struct Tryz.underlying29 (hval 1 29 v1 rfl rfl)
 have k1 := h1
 have lt1 : ∀ x ∈ p1, x.block < W.heap.size := by obtain ⟨m, hm⟩ := k1; exact DataW.trod_lt m _ _ _ hm
 obtain ⟨Q, L, cq, ls, hcs1, hpart, hLc⟩ : ∃ (Q : Option Addr) (L cq : Nat) (ls : List (List Int)), cs1 = #[.slice Q L cq] ∧ RdT W Q L ls ∧ L ≤ 9223372036854775807 := by
  obtain ⟨fuel, hf⟩ := h1
  obtain ⟨Q, L, cq, ls, e1, e2, e3, e4⟩ := open_part hf
  exact ⟨Q, L, cq, ls, Array.toList_inj.1 e1, e2, by omega⟩
 subst hcs1
 obtain ⟨a2, len2, cap2, rfl⟩ := okWide_slice Tryz.underlying44 (hval 2 44 v2 rfl rfl)
 have k2 := h2
 have lt2 : ∀ x ∈ p2, x.block < W.heap.size := by obtain ⟨m, hm⟩ := k2; exact DataW.trod_lt m _ _ _ hm
 obtain ⟨l2, hl2, hb2⟩ : ∃ l : List Int, RdI W a2 len2 l ∧ len2 ≤ 4000000000000000000 := by
  obtain ⟨fuel, hf⟩ := h2
  obtain ⟨l, hl, _, _, hs, _⟩ := open_intsK Tryz.underlying44 Tryz.underlying2 (by kernel_rfl) hf
  refine ⟨l, hl, ?_⟩
  rcases hs with h | ⟨el, sp, hx, hel⟩
  · omega
  · have := sized_slice hsz (j := 2) (t := 44) (e := 2) (elems := el) (spare := sp) rfl (by simpa using hx) Tryz.underlying44
    rw [show Tryz.prog.bytesOf 2 = 8 by kernel_rfl] at this
    simp only [reachBytes] at this
    omega
 obtain ⟨a3, rfl, rfl, rfl, w3⟩ := open_int Tryz.underlying45 (hval 3 45 v3 rfl rfl) h3
 have hb3 := bounds_u16 w3
 obtain ⟨a4, rfl, rfl, rfl, w4⟩ := open_int Tryz.underlying2 (hval 4 2 v4 rfl rfl) h4
 have hb4 := bounds_i64 w4
 clear hA0 hval0
 obtain ⟨av, rfl⟩ : ∃ av : Nat, a3 = (av : Int) := ⟨a3.toNat, by omega⟩
 refine (fillRight_walk A B C Q n m k c d e L cq N ls W hnet hk hpart hLc a2 len2 cap2 l2 hl2 hb2 av (by omega) a4).mono fun e W' ⟨he, bel⟩ => ?_
 subst he
 exact ⟨_, rfl, _, _, _, [], _, [], hW', trodAll_mk1 (shut_bool Tryz.underlying4 _), (trodAll_cons_mk (Below.trod laidOut_ (by kernel_rfl) (of_decide_eq_true (by kernel_rfl)) k0 bel lt0) (trodAll_cons_mk (Below.trod laidOut_ (by kernel_rfl) (of_decide_eq_true (by kernel_rfl)) k1 bel lt1) (trodAll_cons_mk (Below.trod laidOut_ (by kernel_rfl) (of_decide_eq_true (by kernel_rfl)) k2 bel lt2) (trodAll_cons_mk (shut_int Tryz.underlying45 w3) (trodAll_cons_mk (shut_int Tryz.underlying2 w4) trodAll_mk0))))), rfl, bel.frame _, fun h => by cases h⟩

theorem over : Rows.fillRightRow.holds Tryz.pinned (OpenSpec.ofChange Rows.fillRightSpec) :=
 OpenClaim.holds_of_wide 4 Tryz.f4 rfl rfl rfl rfl rfl rfl rfl ⟨rfl, rfl, rfl, rfl, rfl⟩ rfl rfl rfl rfl rfl (by kernel_rfl) Tryz.func4 (by kernel_rfl)
  (of_decide_eq_true (by kernel_rfl)) (by unfold Func.isWrapper; rw [if_neg (by decide +kernel)]; exact ⟨rfl, rfl⟩)
  (fun os started H enc _ => lifted os started H enc)

theorem proved : Rows.FillRightSaid := over
end FillRightDone
end Go.Proofs.YtgkeolddpielpaaGreat
