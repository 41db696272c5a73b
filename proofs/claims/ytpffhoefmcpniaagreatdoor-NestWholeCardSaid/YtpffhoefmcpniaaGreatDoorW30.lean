/- Parts of the proof: Ne3. -/
import Derived.Test.YtpffhoefmcpniaaGreatDoorW1
import Derived.Test.YtpffhoefmcpniaaGreatDoorW29
import Derived.Defers
/- nest.cutter's clear, whole. -/
namespace Go.Proofs.YtpffhoefmcpniaaGreatDoor
open Go.RowKit

attribute [local go_sem ↓] Go.wp_at_zero Go.wp_at_succ

theorem RdK.ltN {k : IntKind} {W : World} {A : Option Addr} {n b : Nat} {l : List Int} (h : RdK k W A n l) (hn : 0 < n) (hb : blkOf A = some b) : b < W.heap.size := by
  obtain ⟨b', o, x, rfl, _, hc⟩ := h.at_ hn
  cases hb
  exact lt_of_cell hc
theorem RdK.grownX {k : IntKind} {w w' : World} {A : Option Addr} {n : Nat} {r : Option Nat} {l : List Int} (h : RdK k w A n l) (hg : w.grownBy w' r) (hne : ∀ g, 0 < n → blkOf A = some g → r ≠ some g) : RdK k w' A n l :=
  ⟨h.1, fun i x hx => by
    have hn : 0 < n := by rw [← h.1]; have := (List.getElem?_eq_some_iff.1 hx).1; omega
    obtain ⟨b, o, e, hc⟩ := h.2 i x hx
    subst e
    refine ⟨b, o, rfl, ?_⟩
    have := hg.block b (lt_of_cell hc) (fun e => hne b hn rfl e.symm)
    unfold World.cell? at hc ⊢
    rw [this]
    exact hc⟩
/-- A piece: its vertices, its arcs; not among the places. -/
structure RdPc (N : NetD) (AL : Option Addr) (W : World) (A1 A2 : Option Addr) (c1 c2 : Nat) (vl : List Nat) : Prop where
  r1 : RdI W A1 vl.length (nats vl)
  r2 : RdI W A2 (arcsN N vl).length (nats (arcsN N vl))
  n1 : ∀ g, 0 < vl.length → blkOf A1 = some g → blkOf AL ≠ some g
  n2 : ∀ g, 0 < (arcsN N vl).length → blkOf A2 = some g → blkOf AL ≠ some g
  k1 : vl.length ≤ c1
  k2 : (arcsN N vl).length ≤ c2
  m1 : c1 ≤ 9223372036854775807
  m2 : c2 ≤ 9223372036854775807
section
variable {N : NetD} {AL A1 A2 : Option Addr} {W W' : World} {c1 c2 : Nat} {vl : List Nat}
theorem RdPc.below (h : RdPc N AL W A1 A2 c1 c2 vl) (hb : Below W.heap.size W W') : RdPc N AL W' A1 A2 c1 c2 vl := ⟨h.r1.below hb, h.r2.below hb, h.n1, h.n2, h.k1, h.k2, h.m1, h.m2⟩
theorem RdPc.grown {r : Option Nat} (h : RdPc N AL W A1 A2 c1 c2 vl) (hg : W.grownBy W' r) (h1 : ∀ g, 0 < vl.length → blkOf A1 = some g → r ≠ some g) (h2 : ∀ g, 0 < (arcsN N vl).length → blkOf A2 = some g → r ≠ some g) : RdPc N AL W' A1 A2 c1 c2 vl :=
  ⟨h.r1.grownX hg h1, h.r2.grownX hg h2, h.n1, h.n2, h.k1, h.k2, h.m1, h.m2⟩
end
set_option maxHeartbeats 1000000 in
theorem cClear_ok (gc cp ce cl : Nat) (AP AE AL AV : Option Addr) (cs : List Value) (N : NetD) (k cv : Nat) (vl : List Nat) (w : World) (h : CtL w gc AP AE AL cp ce cl cs N (plcL N.vs.length vl vl.length)) (hv : RdI w AV k (nats vl)) (hA : ∀ g, 0 < k → blkOf AV = some g → blkOf AL ≠ some g) (hok : PcOk N.vs.length vl) (hn : N.vs.length ≤ 4096) :
    Calls Tryz.prog 59 #[.pointer (some ⟨gc, 0, none⟩), .slice AV k cv] w fun e w' => e = .returned (.tuple #[]) ∧ CtV w' gc AP AE AL cp ce cl cs N ∧ w.grownBy w' (blkOf AL) := by
  have HV := Lib.hid hv
  have HA := Lib.hid hA
  have HOK := Lib.hid hok
  have HH := Lib.hid (show CtL w gc AP AE AL cp ce cl cs N (clrL N.vs.length vl 0) by rw [clrL_zero]; exact h)
  have HL := Lib.hid (show k = vl.length by rw [← hv.1, nats_len])
  have hk4 : k ≤ 4096 := by have := HL.out; have := hok.len; omega
  clear h hv hA hok
  go_enter Tryz.func59, Tryz.ntmps59
  go_wp2_with fail
  go_loopw [8] (fun q W => w.grownBy W (blkOf AL) ∧ ∃ j : Nat, j ≤ k ∧ q = .int .i64 (j : Int) ∧ CtL W gc AP AE AL cp ce cl cs N (clrL N.vs.length vl j)) (fun q _ => k - (intOf q).toNat)
  case atStart => exact ⟨World.grownBy.refl _ _, 0, Nat.zero_le _, rfl, HH.out⟩
  case round =>
    obtain ⟨hg, j, hj, rfl, hC⟩ := hrel
    have HC := Lib.hid hC
    have HGR := Lib.hid hg
    clear hC hg
    by_cases hlt : j < k
    · obtain ⟨b, o, x, rfl, hx, hc⟩ := HV.out.at_ hlt
      obtain ⟨v, hv, rfl⟩ := nats_inv hx
      have hvn := HOK.out.2 v (List.mem_of_getElem? hv)
      have hcW := HGR.out.cell hc (fun e => HA.out b (by omega) rfl e.symm)
      obtain ⟨gl, y, hy, hAL, cy, fy, gy, hset⟩ := HC.out.at_ hvn
      have p2 : wr.cell? ⟨gc, 2, none⟩ = some (.slice (some ⟨gl, 0, none⟩) N.vs.length cl) := by rw [HC.out.blk.cell, hAL]; rfl
      have HS := Lib.hid (show CtL (wr.setCell ⟨gl, v, none⟩ (.int .i64 (-1))) gc AP AE AL cp ce cl cs N (clrL N.vs.length vl (j + 1)) by rw [← clrL_next hv hvn]; exact hset (-1))
      have HG2 := Lib.hid (show w.grownBy (wr.setCell ⟨gl, v, none⟩ (.int .i64 (-1))) (blkOf AL) from HGR.out.trans (by rw [hAL]; exact grownBy_set wr gl v _))
      have i1 : (j : Int) < (k : Int) := by omega
      have i2 : (0 : Int) ≤ (j : Int) := by omega
      have i3 : (0 : Int) ≤ (v : Int) := by omega
      have i4 : (v : Int) < (N.vs.length : Int) := by omega
      clear hx hc hv hy hset hAL
      go_wp2_with fail
      go_roundw
      case rel => exact ⟨HG2.out, j + 1, by omega, by go_num, HS.out⟩
      case measure => simp [intOf]; omega
    obtain rfl : k = j := by omega
    have HD := Lib.hid (show CtV wr gc AP AE AL cp ce cl cs N by have := HC.out; rw [HL.out, clrL_all] at this; exact this)
    clear hlt HC
    go_wp2_with fail
    go_end0
    first | exact ⟨rfl, HD.out, HGR.out⟩ | exact ⟨rfl, rfl, HD.out, HGR.out⟩
set_option maxHeartbeats 1000000 in
theorem cClear_d (gc cp ce cl : Nat) (AP AE AL AV : Option Addr) (cs : List Value) (N : NetD) (k cv : Nat) (vl : List Nat) (u : FrameMode) (w : World) (h : CtL w gc AP AE AL cp ce cl cs N (plcL N.vs.length vl vl.length)) (hv : RdI w AV k (nats vl)) (hA : ∀ g, 0 < k → blkOf AV = some g → blkOf AL ≠ some g) (hok : PcOk N.vs.length vl) (hn : N.vs.length ≤ 4096) :
    CallsD Tryz.prog 59 #[.pointer (some ⟨gc, 0, none⟩), .slice AV k cv] u w fun e u' w' => u' = u ∧ (e = .returned (.tuple #[]) ∧ CtV w' gc AP AE AL cp ce cl cs N ∧ w.grownBy w' (blkOf AL)) := by
  have HV := Lib.hid hv
  have HA := Lib.hid hA
  have HOK := Lib.hid hok
  have HH := Lib.hid (show CtL w gc AP AE AL cp ce cl cs N (clrL N.vs.length vl 0) by rw [clrL_zero]; exact h)
  have HL := Lib.hid (show k = vl.length by rw [← hv.1, nats_len])
  have hk4 : k ≤ 4096 := by have := HL.out; have := hok.len; omega
  clear h hv hA hok
  go_enter_d Tryz.func59, Tryz.ntmps59
  go_wp2_with fail
  go_loopw [8] (fun q W => w.grownBy W (blkOf AL) ∧ ∃ j : Nat, j ≤ k ∧ q = .int .i64 (j : Int) ∧ CtL W gc AP AE AL cp ce cl cs N (clrL N.vs.length vl j)) (fun q _ => k - (intOf q).toNat)
  case atStart => exact ⟨World.grownBy.refl _ _, 0, Nat.zero_le _, rfl, HH.out⟩
  case round =>
    obtain ⟨hg, j, hj, rfl, hC⟩ := hrel
    have HC := Lib.hid hC
    have HGR := Lib.hid hg
    clear hC hg
    by_cases hlt : j < k
    · obtain ⟨b, o, x, rfl, hx, hc⟩ := HV.out.at_ hlt
      obtain ⟨v, hv, rfl⟩ := nats_inv hx
      have hvn := HOK.out.2 v (List.mem_of_getElem? hv)
      have hcW := HGR.out.cell hc (fun e => HA.out b (by omega) rfl e.symm)
      obtain ⟨gl, y, hy, hAL, cy, fy, gy, hset⟩ := HC.out.at_ hvn
      have p2 : wr.cell? ⟨gc, 2, none⟩ = some (.slice (some ⟨gl, 0, none⟩) N.vs.length cl) := by rw [HC.out.blk.cell, hAL]; rfl
      have HS := Lib.hid (show CtL (wr.setCell ⟨gl, v, none⟩ (.int .i64 (-1))) gc AP AE AL cp ce cl cs N (clrL N.vs.length vl (j + 1)) by rw [← clrL_next hv hvn]; exact hset (-1))
      have HG2 := Lib.hid (show w.grownBy (wr.setCell ⟨gl, v, none⟩ (.int .i64 (-1))) (blkOf AL) from HGR.out.trans (by rw [hAL]; exact grownBy_set wr gl v _))
      have i1 : (j : Int) < (k : Int) := by omega
      have i2 : (0 : Int) ≤ (j : Int) := by omega
      have i3 : (0 : Int) ≤ (v : Int) := by omega
      have i4 : (v : Int) < (N.vs.length : Int) := by omega
      clear hx hc hv hy hset hAL
      go_wp2_with fail
      go_roundw
      case rel => exact ⟨HG2.out, j + 1, by omega, by go_num, HS.out⟩
      case measure => simp [intOf]; omega
    obtain rfl : k = j := by omega
    have HD := Lib.hid (show CtV wr gc AP AE AL cp ce cl cs N by have := HC.out; rw [HL.out, clrL_all] at this; exact this)
    clear hlt HC
    go_wp2_with fail
    go_end0
    first | exact ⟨rfl, HD.out, HGR.out⟩ | exact ⟨rfl, rfl, HD.out, HGR.out⟩
end Go.Proofs.YtpffhoefmcpniaaGreatDoor
