/- Parts of the proof: NeA, QPa, NeB. -/
import Derived.Test.YtpffhoefmcpniaaGreatDoorB1
import Derived.Test.YtpffhoefmcpniaaGreatDoorB20
import Derived.Test.YtpffhoefmcpniaaGreatDoorB21
import Derived.Test.YtpffhoefmcpniaaGreatDoorB25
import Derived.Test.YtpffhoefmcpniaaGreatDoorB38
namespace Go.Proofs.YtpffhoefmcpniaaGreatDoor
open Go.RowKit

attribute [local go_sem ↓] Go.wp_at_zero Go.wp_at_succ

theorem nxt_len_le {N : NetD} {b n : Nat} {ps : List (List Nat)} (hp : ∀ p ∈ ps, PcOk n p) : (nxt N b ps).length ≤ ps.flatten.length := by
 have h1 := flat_ge (fun p h => (nxt_ok (n := n) N b hp p h).2)
 rw [(nxt_perm N b ps).length_eq] at h1
 exact h1
theorem take_flat_le {ps : List (List Nat)} {k : Nat} {p : List Nat} (h : ps[k]? = some p) : (ps.take k).flatten.length + p.length ≤ ps.flatten.length := by
 obtain ⟨h1, e1⟩ := List.getElem?_eq_some_iff.1 h
 have e : ps.flatten = (ps.take k).flatten ++ (p ++ (ps.drop (k + 1)).flatten) := by
  conv => lhs; rw [← List.take_append_drop k ps, List.drop_eq_getElem_cons h1, e1]
  simp
 rw [e, List.length_append, List.length_append]
 omega
theorem nxt_room {N : NetD} {b k n : Nat} {ps : List (List Nat)} {p : List Nat} (hp : ∀ p ∈ ps, PcOk n p) (hf : ps.flatten.length = n) (h : ps[k]? = some p) : (nxt N b (ps.take k)).length + p.length ≤ n := by
 have h1 := nxt_len_le (N := N) (b := b) (ps := ps.take k) (n := n) (fun p hp' => hp p (List.mem_of_mem_take hp'))
 have h2 := take_flat_le h
 omega
theorem downP_flat (N : NetD) (bs : List Nat) : (downP N bs).flatten.length = N.vs.length := by
 rw [(downP_perm N bs).1.length_eq]; simp
theorem downP_len (N : NetD) (bs : List Nat) : (downP N bs).length ≤ N.vs.length + 1 := by
 cases bs with
 | nil => simp [downP, allV]
 | cons b bs => have := (downP_cov N b bs).len; omega
theorem bnd_at {bs : List Int} (hp : ∀ b ∈ natsOf bs, 1 ≤ b ∧ b ≤ 9223372036854775807) {i : Nat} {y : Int} (hy : bs[i]? = some y) : ∃ b : Nat, y = (b : Int) ∧ (natsOf bs)[i]? = some b ∧ 1 ≤ b ∧ b ≤ 9223372036854775807 := by
 have h1 : (natsOf bs)[i]? = some y.toNat := by simp [natsOf, hy]
 have h2 := hp _ (List.mem_of_getElem? h1)
 refine ⟨y.toNat, ?_, h1, h2⟩
 omega
theorem PcR.one {N : NetD} {AL B1 B2 : Option Addr} {W V : World} {d1 d2 : Nat} {p : List Nat} (hp : RdPc N AL W B1 B2 d1 d2 p) (hf : ∀ g, blkOf B1 = some g ∨ blkOf B2 = some g → g < W.heap.size) (h : Own V W.heap.size 87 2 (some ⟨W.heap.size, 0, none⟩) 1 1 [.slice B1 p.length d1, .slice B2 (arcsN N p).length d2]) (hb : Below W.heap.size W V) : PcR N AL V W.heap.size (some ⟨W.heap.size, 0, none⟩) 1 1 [.slice B1 p.length d1, .slice B2 (arcsN N p).length d2] [p] :=
 ⟨h, rfl, fun j q hq => by
  rcases j with _ | j
  · have hq : p = q := Option.some.inj hq
    subst hq
    exact ⟨B1, d1, B2, d2, rfl, rfl, hp.below hb, fun g hg => ⟨Nat.lt_of_lt_of_le (hf g hg) hb.size, fun e => by
     have e : some W.heap.size = some g := e
     injection e with e
     have := hf g hg
     omega⟩⟩
  · simp at hq⟩
theorem CelI.res {W : World} {g L i n T q : Nat} {rw_ : Nat → List Int} {D : Option Addr} {m c : Nat} {t : TypeId} {v : Value} (h : CelI W g L i n T rw_) (hB : Blk W q t #[.slice D m c]) (hne : q ≠ g) : CelI (W.setCell ⟨q, 0, none⟩ v) g L i n T rw_ := by
 obtain ⟨⟨cur, h1, h2, h3, h4⟩, h5, h6⟩ := h
 refine ⟨⟨cur, h1.far (p := ⟨q, 0, none⟩) (fun e => hne e.symm) _, h2, h3, fun j a b => ?_⟩, h5, by simpa [World.setCell] using h6⟩
 obtain ⟨A, k1, k2, k3⟩ := h4 j a b
 refine ⟨A, k1, ?_, k3⟩
 by_cases h0 : 0 < n
 · exact k2.far _ (k2.notBlk h0 hB (fun j v hv => by
    rcases j with _ | j
    · exact ⟨D, m, c, (Option.some.inj hv).symm⟩
    · simp at hv))
 · obtain rfl : n = 0 := by omega
   exact ⟨k2.1, fun j x hx => by
    have hl := List.eq_nil_of_length_eq_zero k2.1
    rw [hl] at hx
    simp at hx⟩
theorem CelI.putAt {W : World} {g L i n T : Nat} {rw_ : Nat → List Int} (h : CelI W g L (i + 1) n T rw_) (hi : i < L) (v : Value) : (W.setCell ⟨g, i, none⟩ v).cell? ⟨g, i, none⟩ = some v := by
 obtain ⟨⟨cur, h1, h2, _, _⟩, _, _⟩ := h
 rw [(h1.set_ i v).cell]
 simp [h2, hi]
theorem below_far {B q : Nat} {w W V : World} (h : Below B w W) (hg : W.grownBy V (some q)) (hq : B ≤ q) (hs : B ≤ W.heap.size) : Below B w V :=
 ⟨hg.os.trans h.os, hg.tape.trans h.tape, hg.output.trans h.output, Nat.le_trans h.size hg.size, fun k hk => (hg.block k (Nat.lt_of_lt_of_le hk hs) (fun e => by injection e with e; omega)).trans (h.block k hk)⟩
theorem below_farO {B : Nat} {r : Option Nat} {w W V : World} (h : Below B w W) (hg : W.grownBy V r) (hq : ∀ q, r = some q → B ≤ q) (hs : B ≤ W.heap.size) : Below B w V :=
 ⟨hg.os.trans h.os, hg.tape.trans h.tape, hg.output.trans h.output, Nat.le_trans h.size hg.size, fun k hk => (hg.block k (Nat.lt_of_lt_of_le hk hs) (fun e => by have := hq k e.symm; omega)).trans (h.block k hk)⟩
def BuPost (rows : List (List Int)) (L : Nat) (w : World) (e : Ending) (w' : World) : Prop := ∃ Q, e = .returned (.tuple #[.agg #[.slice Q L L], .nilIface]) ∧ RdT w' Q L rows ∧ Below w.heap.size w w'
def BuPostM (rows : List (List Int)) (L : Nat) (w : World) (e : Ending) (w' : World) : Prop := ∃ Q, e = .returned (.tuple #[.agg #[.slice Q L L], .nilIface]) ∧ RdT w' Q L rows ∧ Below w.heap.size w w' ∧ RdT (msk w' (fun b => w.heap.size ≤ b)) Q L rows
set_option maxHeartbeats 8000000 in
set_option maxRecDepth 20000 in
theorem nestBuild_m (g L cv : Nat) (N : NetD) (AV : Option Addr) (bs : List Int) (w : World) (h : RdGr w g N) (hv : RdI w AV L bs) (hb : BndOk bs) (hm : ∀ b ∈ natsOf bs, b ≤ 9223372036854775807) :
 Calls Tryz.prog 11 #[.pointer (some ⟨g, 0, none⟩), .slice AV L cv] w (BuPostM (rowsN N (natsOf bs)) L w) := by
 have HG := Lib.hid h
 have hN : NetOk N := by obtain ⟨A, B, C, I, O, P, n, m, k, c, d, e, ci, co, cp, h⟩ := h; exact h.ok
 have HNK := Lib.hid hN
 have hn4 := hN.lv
 have HV := Lib.hid hv
 have HB := Lib.hid hb
 have hL6 : L ≤ 6 := by rw [← hv.1]; exact hb.l6
 have HVN := Lib.hid hb.nats
 have HPOS := Lib.hid (fun b hb' => And.intro (hb.pos b hb') (hm b hb'))
 have HMK := Lib.hid (run_makeI N.vs.length (by omega))
 have HBL := Lib.hid (show (natsOf bs).length = L by rw [natsOf_len]; exact hv.1)
 have hmk := run_makeI N.vs.length (by omega)
 have hmr := run_makeRw L (by omega)
 clear h hv hb hN hm
 go_enter Tryz.func11, Tryz.ntmps11
 go_wp2_with fail
 (refine calls_named ?_; intro w1 hw1)
 have hb1 : Below w.heap.size w w1 := by rw [hw1]; exact bELt
 have hR : Blk w1 w.heap.size 34 #[.slice none 0 0] := by rw [hw1]; exact bLNt
 clear hw1
 with_reducible refine (nestCheck_ok AV L cv bs w1 (HV.out.below hb1) HB.out).mono ?_
 rintro e w2 ⟨rfl, hb2⟩
 have HB2 := Lib.hid (Bel.step hb1 hb2)
 have HR2 := Lib.hid (hR.below hb2 hR.lt)
 clear hb1 hb2 hR
 go_wp2_with fail
 with_reducible refine (gVerts_any g N w2 (HG.out.below HB2.out)).mono ?_
 rintro e w' ⟨rfl, rfl⟩
 go_wp2_with fail
 (refine wp_named ?_; intro w3 hw3)
 have hb3 : Below w2.heap.size w2 w3 := by rw [hw3]; exact bELt
 have hA3 : Blk w3 w2.heap.size 3 (ints (fillTo (iota N.vs.length) 0 N.vs.length)) := by rw [hw3, fillTo_zero, ← zeros_int]; exact Blk.new _ _ _
 clear hw3 hmk
 have HIL := Lib.hid (show (iota N.vs.length).length = N.vs.length by simp [iota])
 go_loopw [34] (fun q W => Below w2.heap.size w2 W ∧ ∃ j : Nat, j ≤ N.vs.length ∧ q = .int .i64 (j : Int) ∧ Blk W w2.heap.size 3 (ints (fillTo (iota N.vs.length) j N.vs.length))) (fun q _ => N.vs.length - (intOf q).toNat)
 case atStart => exact ⟨hb3, 0, Nat.zero_le _, rfl, hA3⟩
 case round =>
  clear hb3 hA3
  obtain ⟨hbl, j, hj, rfl, hA⟩ := hrel
  by_cases hlt : j < N.vs.length
  · have c0 := hA.cellI (fillTo_at HIL.out hlt)
    have f0 := hA.frozen j
    have HN := Lib.hid (hA.setI (fillTo_set HIL.out hlt (show (iota N.vs.length)[j]? = some (j : Int) by simp [iota, hlt])))
    have HBN := Lib.hid (show Below w2.heap.size w2 (wr.setCell ⟨w2.heap.size, j, none⟩ (.int .i64 (j : Int))) from hbl.setCell (Nat.le_refl _) _)
    have i1 : (0 : Int) ≤ (j : Int) := by omega
    have i2 : (j : Int) < (N.vs.length : Int) := by omega
    clear hA
    go_wp2_with fail
    go_roundw
    case rel => exact ⟨HBN.out, j + 1, by omega, by go_num, HN.out⟩
    case measure => simp [intOf]; omega
  obtain rfl : j = N.vs.length := by omega
  rw [fillTo_all HIL.out] at hA
  have HB3 := Lib.hid (Bel.step HB2.out hbl)
  have HR3 := Lib.hid (HR2.out.below hbl HR2.out.lt)
  have HRI := Lib.hid (show RdI wr (some ⟨w2.heap.size, 0, none⟩) N.vs.length (nats (List.range N.vs.length)) from hA.rdI (by simp [iota]))
  clear hlt hj hA hbl
  go_wp2_with fail
  with_reducible refine (newCutter_ok g N wr (HG.out.below HB3.out)).mono ?_
  rintro e w5 ⟨gc, AP, AE, AL, cp, ce, cl, cs, rfl, hgc, hlo, hC, hb5⟩
  have HB5 := Lib.hid (Bel.step HB3.out hb5)
  have HR5 := Lib.hid (HR3.out.below hb5 HR3.out.lt)
  have hal : ∀ q, 0 < N.vs.length → blkOf (some (⟨w2.heap.size, 0, none⟩ : Addr)) = some q → blkOf AL ≠ some q := fun q h0 hq e => by
   have h1 := HRI.out.ltN h0 hq
   have h2 := hlo q (.inr (.inr e))
   omega
  have HNW := Lib.hid (fun q hq => hC.new (k := q) hq)
  have HC5 := Lib.hid hC
  have HWH := Lib.hid (cWhole_ok gc cp ce cl AP AE AL (some ⟨w2.heap.size, 0, none⟩) cs N N.vs.length N.vs.length (List.range N.vs.length) w5 hC (HRI.out.below hb5) hal (range_ok _) HNK.out)
  clear hgc hlo hC hb5 hal
  go_wp2_with fail
  with_reducible refine HWH.out.mono ?_
  rintro e w6 ⟨B1, d1, B2, d2, rfl, hp, hfr, hb6⟩
  have HB6 := Lib.hid (Bel.step HB5.out hb6)
  have HR6 := Lib.hid (HR5.out.below hb6 HR5.out.lt)
  have HC6 := Lib.hid (HC5.out.below hb6)
  have HP6 := Lib.hid hp
  have HF6 := Lib.hid hfr
  have HZ6 := Lib.hid hb6.size
  clear hp hfr hb6 HWH HC5
  go_wp2_with fail
  (refine wp_named ?_; intro w8 hw8)
  have hb8 : Below w6.heap.size w6 w8 := by rw [hw8]; exact bELt
  have o6 : Own w8 w6.heap.size 87 2 (some ⟨w6.heap.size, 0, none⟩) 1 1 [.slice B1 (List.range N.vs.length).length d1, .slice B2 (arcsN N (List.range N.vs.length)).length d2] := by
   rw [hw8, List.length_range]
   exact (Own.lit w6 #[.slice B1 N.vs.length d1, .slice B2 (arcsN N (List.range N.vs.length)).length d2] 1 (Nat.le_refl _) (by omega) rfl).alloc _
  have q7 : Blk w8 (w6.heap.size + 1) 27 (zeros (.slice none 0 0) L) := by rw [hw8]; exact bLNt
  have hdn : downP N ((natsOf bs).drop L) = [List.range N.vs.length] := by rw [List.drop_eq_nil_of_le (by rw [HBL.out]; exact Nat.le_refl _)]; rfl
  have p6 := PcR.one HP6.out (fun q hq => (HF6.out q hq).2) o6 hb8
  rw [← hdn] at p6
  have HC8 := Lib.hid (HC6.out.below hb8)
  have HR8 := Lib.hid (HR6.out.below hb8 HR6.out.lt)
  have HB8 := Lib.hid (Bel.step HB6.out hb8)
  have hgl : w.heap.size < w6.heap.size + 1 := by have := HB6.out.size; omega
  have HGL := Lib.hid (HNW.out (w6.heap.size + 1) (by have := HZ6.out; omega))
  clear hw8 hb8 o6 hdn HR6 HC6 HP6 HF6
  go_loopw [11, 13] (fun a q W => Below w.heap.size w W ∧ Blk W w.heap.size 34 #[.slice none 0 0] ∧ ∃ (r na ca B0 T : Nat) (A : Option Addr) (xs : List Value) (x : Int), r ≤ L ∧ x = (r : Int) - 1 ∧ q = .int .i64 x ∧ a = .slice A na ca ∧ PcR N AL W B0 A na ca xs (downP N ((natsOf bs).drop r)) ∧ CtV W gc AP AE AL cp ce cl cs N ∧ CelI W (w6.heap.size + 1) L r N.vs.length T (fun j => rowN N.vs.length (downP N ((natsOf bs).drop j)))) (fun _ q _ => (intOf q + 1).toNat)
  case atStart => exact ⟨HB8.out, HR8.out, L, 1, 1, w6.heap.size, _, _, _, _, Nat.le_refl _, rfl, rfl, rfl, p6, HC8.out, CelI.start q7⟩
  case round =>
   clear p6 q7
   obtain ⟨hbl, hres, r, na, ca, B0, T, A, xs, x, hr, hx, rfl, rfl, hpr, hct, hcel⟩ := hrel
   obtain ⟨W0, rfl⟩ : ∃ W, W = wr := ⟨_, rfl⟩
   rcases r with _ | i
   · have e0 : ¬ x ≥ 0 := by omega
     have HX := Lib.hid hx
     have d0 : W0.cell? ⟨w.heap.size, 0, none⟩ = some (.slice none 0 0) := by rw [hres.cell]; rfl
     have df := hres.frozen 0
     have HCE := Lib.hid (fun v => hcel.res (v := v) hres (by omega))
     have HR9 := Lib.hid (show (W0.setCell ⟨w.heap.size, 0, none⟩ (.slice (some ⟨w6.heap.size + 1, 0, none⟩) L L)).cell? ⟨w.heap.size, 0, none⟩ = some (.slice (some ⟨w6.heap.size + 1, 0, none⟩) L L) by rw [(hres.set_ 0 _).cell]; rfl)
     have HB0 := Lib.hid (Below.setCell hbl (p := ⟨w.heap.size, 0, none⟩) (Nat.le_refl _))
     clear hx hpr hct hcel hres hbl
     go_wp2_with fail
     refine bodyPost_ret (v := .tuple #[.agg #[.slice (some ⟨w6.heap.size + 1, 0, none⟩) L L], .nilIface]) (by simp [results, Tryz.results11, go_sem, HR9.out]) rfl ?_
     rw [rowsN_range, HBL.out]
     exact ⟨_, rfl, (HCE.out _).rdT (by omega), HB0.out _, (HCE.out _).rdTm (by omega) (fun q hq => by have := HB6.out.size; omega)⟩
   obtain rfl : x = (i : Int) := by omega
   have hi : i < L := by omega
   obtain ⟨ab, ao, y, rfl, hy, hcy⟩ := (HV.out.below hbl).at_ hi
   obtain ⟨b, rfl, hbi, hb1, hbm⟩ := bnd_at HPOS.out hy
   have hdi := downP_drop N hbi
   have hok := downP_ok N ((natsOf bs).drop (i + 1))
   have hfl := downP_flat N ((natsOf bs).drop (i + 1))
   have hpn := downP_len N ((natsOf bs).drop (i + 1))
   generalize hps : downP N ((natsOf bs).drop (i + 1)) = ps at *
   have HPS := Lib.hid hps
   rw [hpr.len] at hpn
   have HDI := Lib.hid hdi
   have HPK := Lib.hid hok
   have HFL := Lib.hid hfl
   have HPR := Lib.hid hpr
   have HCT := Lib.hid hct
   have HCE := Lib.hid hcel
   have HRS := Lib.hid hres
   have HB0 := Lib.hid hbl
   have HLN := Lib.hid hpr.len
   have HGM := Lib.hid (show w6.heap.size + 1 < W0.heap.size from hcel.cells hi |>.2.2)
   have i1 : (i : Int) ≥ 0 := by omega
   clear hx hps hdi hok hfl hpr hct hcel hres hbl hy
   have HMN := Lib.hid hbm
   have HB1 := Lib.hid hb1
   have HBI := Lib.hid hcy
   clear hbm hb1 hcy hbi
   go_wp2_with fail
   go_loopw [14, 60] (fun a q W => Below W0.heap.size W0 W ∧ ∃ (k m c2 : Nat) (A2 : Option Addr) (xs2 : List Value), k ≤ na ∧ q = .int .i64 (k : Int) ∧ a = .slice A2 m c2 ∧ PcR N AL W W0.heap.size A2 m c2 xs2 (nxt N b (ps.take k))) (fun _ q _ => na - (intOf q).toNat)
   case atStart => exact ⟨Below.refl _ _, 0, 0, 0, none, [], Nat.zero_le _, rfl, rfl, PcR.nil _ _ _ _⟩
   case round =>
    obtain ⟨hb4, k, m, c2, A2, xs2, hk, rfl, rfl, hp4⟩ := hrel
    have HB4 := Lib.hid hb4
    have HP4 := Lib.hid hp4
    clear hb4 hp4
    by_cases hlt : k < na
    · have HLT := Lib.hid hlt
      obtain ⟨p, hp⟩ : ∃ p, ps[k]? = some p := ⟨_, List.getElem?_eq_getElem (show k < ps.length by have := HLN.out; omega)⟩
      obtain ⟨D1, e1, D2, e2, hx1, hx2, hpc, hfr⟩ := HPR.out.at_ k p hp
      obtain ⟨bb, o, rfl, k1⟩ := HPR.out.own.rds.2 _ _ hx1
      obtain ⟨b', o', e, k2⟩ := HPR.out.own.rds.2 _ _ hx2
      cases e
      have k1 := Below.cellOf HB4.out (Nat.le_refl _) k1
      have k2 := Below.cellOf HB4.out (Nat.le_refl _) k2
      rw [← Nat.add_assoc] at k2
      have i2 : (k : Int) < (na : Int) := by omega
      have i3 : (0 : Int) ≤ (k : Int) := by omega
      have i4 : (i : Int) < (L : Int) := by omega
      obtain ⟨W5, hW5⟩ : ∃ W, W = (wr.alloc (.cells #[.slice D1 p.length e1, .slice D2 (arcsN N p).length e2] 87)).drew := ⟨_, rfl⟩
      have hb5 : Below wr.heap.size wr W5 := by rw [hW5]; exact Below.drew bELt
      have q5 : Blk W5 wr.heap.size 87 #[.slice D1 p.length e1, .slice D2 (arcsN N p).length e2] := by rw [hW5]; exact (Blk.new _ _ _).drew
      have z0 : W5.cell? ⟨wr.heap.size, 0, none⟩ = some (.slice D1 p.length e1) := by rw [q5.cell]; rfl
      have z1 : W5.cell? ⟨wr.heap.size, 1, none⟩ = some (.slice D2 (arcsN N p).length e2) := by rw [q5.cell]; rfl
      have HB5 := Lib.hid (Bel.step HB4.out hb5)
      have hroom := nxt_room (N := N) (b := b) HPK.out HFL.out hp
      have HLA := Lib.hid HP4.out.len
      have HCP := Lib.hid (cPieces_ok gc cp ce cl W0.heap.size b AP AE AL cs N HNK.out HB1.out HMN.out (fun q hq => HCT.out.new hq) p.length p m c2 e1 e2 A2 D1 D2 xs2 (nxt N b (ps.take k)) W5 (Nat.le_refl _) (HCT.out.below HB5.out) (hpc.below HB5.out) (HPK.out p (List.mem_of_getElem? hp)) (HP4.out.below hb5) (by have := HLA.out; omega) HB5.out.size (fun q hq => ⟨Nat.lt_of_lt_of_le (hfr q hq).1 HB5.out.size, fun e => by
       have h1 := (hfr q hq).1
       have h2 := (HP4.out.own.lt q e).1
       omega⟩))
      have HNX := Lib.hid (nxt_take (N := N) (bd := b) hp)
      have HA2 := Lib.hid (show ∀ q, blkOf A2 = some q → W0.heap.size ≤ q ∧ q < wr.heap.size from fun q hq => HP4.out.own.lt q hq)
      have HSX := Lib.hid (show ∀ V, (Below W0.heap.size W0 V ∧ V.cell? ⟨wr.heap.size, 0, none⟩ = some (.slice D1 p.length e1) ∧ V.cell? ⟨wr.heap.size, 1, none⟩ = some (.slice D2 (arcsN N p).length e2)) → V.cell? ⟨ab, ao + i, none⟩ = some (.int .i64 (b : Int)) ∧ V.cell? ⟨wr.heap.size, 0, none⟩ = some (.slice D1 p.length e1) ∧ V.cell? ⟨wr.heap.size, 1, none⟩ = some (.slice D2 (arcsN N p).length e2) from
       fun V hV => ⟨Below.cellOf hV.1 (Nat.le_refl _) HBI.out, hV.2.1, hV.2.2⟩)
      have HZ := Lib.hid (And.intro z0 z1)
      have HW5 := Lib.hid hW5
      have HQ5 := Lib.hid q5
      clear hp hx1 hx2 hpc hfr hb5 hroom z0 z1 hW5 q5
      go_wp2_with fail
      refine wp_region_held_drew (S := fun V => Below W0.heap.size W0 V ∧ V.cell? ⟨wr.heap.size, 0, none⟩ = some (.slice D1 p.length e1) ∧ V.cell? ⟨wr.heap.size, 1, none⟩ = some (.slice D2 (arcsN N p).length e2)) (by kernel_rfl) (by rw [← HW5.out]; exact ⟨HB5.out, HZ.out⟩) (fun _ => ?_)
      rw [← HW5.out]
      refine tk 0 65 (h := ⟨_, tv, ?_⟩)
      simp only [pE, List.set]
      refine tk 1 66 (h := ⟨_, tv, ?_⟩)
      simp only [pE, List.set]
      refine tk 2 67 (h := ⟨_, tv, ?_⟩)
      simp only [pE, List.set]
      refine tk 3 68 (h := ⟨_, tv, ?_⟩)
      simp only [pE, List.set]
      refine tk 4 69 (h := ⟨_, tv, ?_⟩)
      simp only [pE, List.set]
      refine tk 5 70 (h := ⟨_, tv, ?_⟩)
      simp only [pE, List.set]
      refine tk 6 71 (h := ⟨_, tv, ?_⟩)
      simp only [pE, List.set]
      refine wpAnyH_ready (rs := [7]) (by kernel_rfl) (by simp) ?_
      refine AllReadyH.cons (o := _) rfl (fun K hK => ?_) AllReadyH.nil
      go_simp
      with_reducible refine HCP.out.mono ?_
      rintro e w6' ⟨A6, c6, xs6, rfl, hR6, hC6, hg6, hat6⟩
      have hb6 : Below W0.heap.size W0 w6' := below_farO HB5.out hg6 (fun q hq => (HA2.out q hq).1) HB5.out.size
      have q6 := HQ5.out.grown hg6 (fun e => by have := (HA2.out _ e).2; omega)
      have z0 : w6'.cell? ⟨wr.heap.size, 0, none⟩ = some (.slice D1 p.length e1) := by rw [q6.cell]; rfl
      have z1 : w6'.cell? ⟨wr.heap.size, 1, none⟩ = some (.slice D2 (arcsN N p).length e2) := by rw [q6.cell]; rfl
      have HR6 := Lib.hid hR6
      have HB6' := Lib.hid hb6
      clear hR6 hC6 hg6 hat6 q6 HCP
      go_simp
      refine hK.out _ _ ⟨hb6, z0, z1⟩ (fun _ => ?_)
      clear hK K hb6 z0 z1
      refine tk 8 64 (h := ⟨_, tv, ?_⟩)
      simp only [pE, List.set]
      refine tk 9 73 (h := ⟨_, tv, ?_⟩)
      simp only [pE, List.set]
      refine tk 10 74 (h := ⟨_, tv, ?_⟩)
      simp only [pE, List.set]
      refine tk 11 14 (h := ⟨_, tv, ?_⟩)
      simp only [pE, List.set]
      refine tk 12 17 (h := ⟨_, tv, ?_⟩)
      simp only [pE, List.set]
      refine wpAnyH_done (by kernel_rfl) ?_ _
      go_wp2_with fail
      go_roundw
      case rel => exact ⟨HB6'.out, k + 1, _, c6, A6, xs6, by have := HLT.out; omega, by go_num, rfl, by rw [HNX.out]; exact HR6.out⟩
      case measure => have := HLT.out; simp [intOf]; omega
    obtain rfl : k = na := by omega
    obtain ⟨W1, rfl⟩ : ∃ W, W = wr := ⟨_, rfl⟩
    rw [List.take_of_length_le (Nat.le_of_eq HLN.out), ← HDI.out] at HP4
    have HB4' := Lib.hid HB4.out
    have hcel1 := HCE.out.below HB4.out
    obtain ⟨⟨v0, c0⟩, f0, lt0⟩ := hcel1.cells hi
    have HA2 := Lib.hid (show ∀ q, blkOf A2 = some q → W0.heap.size ≤ q ∧ q < W1.heap.size from fun q hq => HP4.out.own.lt q hq)
    have HPF := Lib.hid (show ∀ V, W1.grownBy V (some (w6.heap.size + 1)) → PcR N AL V W0.heap.size A2 m c2 xs2 (downP N ((natsOf bs).drop i)) from fun V hg => HP4.out.far hg
     (fun q e1 e2 => by cases e1; have := (HA2.out _ e2).1; have := HGM.out; omega)
     (fun D m l h0 hr q hq e => by cases e; exact hcel1.notBlk hr h0 hq))
    have HRF := Lib.hid (show ∀ (V : World) (D : Option Addr) (m : Nat) (l : List Int), W1.grownBy V (some (w6.heap.size + 1)) → RdI W1 D m l → RdI V D m l from fun V D m l hg hr => by
     by_cases h0 : 0 < m
     · exact hr.grownN hg (fun q hq e => by cases e; exact hcel1.notBlk hr h0 hq)
     · obtain rfl : m = 0 := by omega
       exact ⟨hr.1, fun j x hx => by
        have hl := List.eq_nil_of_length_eq_zero hr.1
        rw [hl] at hx
        simp at hx⟩)
    have HC1 := Lib.hid hcel1
    have HTW := Lib.hid hcel1.TW
    have HLA := Lib.hid HP4.out.len
    have hmk := HMK.out
    have i2 : (0 : Int) ≤ (i : Int) := by omega
    have i3 : (i : Int) < (L : Int) := by omega
    have HP1 := Lib.hid HP4.out
    clear hk hcel1
    go_wp2_with fail
    (refine wp_named ?_; intro W2 hW2)
    have hgr : W1.grownBy W2 (some (w6.heap.size + 1)) := by rw [hW2]; exact grown_below (grownBy_set W1 _ _ _) bELt
    have hce2 : CelI W2 (w6.heap.size + 1) L (i + 1) N.vs.length T (fun j => rowN N.vs.length (downP N ((natsOf bs).drop j))) := by rw [hW2]; exact HC1.out.put.below bELt
    have hcc2 : W2.cell? ⟨w6.heap.size + 1, i, none⟩ = some (.slice (some ⟨W1.heap.size, 0, none⟩) N.vs.length N.vs.length) := by rw [hW2]; exact Below.cellOf bELt (Nat.le_refl _) (HC1.out.putAt hi _)
    have hrw2 : Blk W2 W1.heap.size 3 (ints (rowTo N.vs.length (downP N ((natsOf bs).drop i)) 0)) := by rw [hW2, rowTo_zero, ← zeros_int]; exact bLNt
    clear hW2 c0 f0 hmk
    have hml := downP_len N ((natsOf bs).drop i)
    have hcv : Cov N.vs.length (downP N ((natsOf bs).drop i)) := by rw [HDI.out]; exact nxt_cov (by have := (downP_perm N ((natsOf bs).drop (i + 1))).1; rw [HPS.out] at this; exact this) HPK.out
    generalize hhe : downP N ((natsOf bs).drop i) = here at *
    rw [HLA.out] at hml
    have HCV := Lib.hid hcv
    have HHE := Lib.hid hhe
    have HGR := Lib.hid lt0
    clear hcv hhe lt0
    go_wp2_with fail
    go_loopw [87] (fun q W => W1.grownBy W (some (w6.heap.size + 1)) ∧ ∃ k : Nat, k ≤ m ∧ q = .int .i64 (k : Int) ∧ Blk W W1.heap.size 3 (ints (rowTo N.vs.length here k)) ∧ W.cell? ⟨w6.heap.size + 1, i, none⟩ = some (.slice (some ⟨W1.heap.size, 0, none⟩) N.vs.length N.vs.length) ∧ CelI W (w6.heap.size + 1) L (i + 1) N.vs.length T (fun j => rowN N.vs.length (downP N ((natsOf bs).drop j)))) (fun q _ => m - (intOf q).toNat)
    case atStart => exact ⟨hgr, 0, Nat.zero_le _, rfl, hrw2, hcc2, hce2⟩
    case round =>
     clear hgr hrw2 hcc2 hce2
     obtain ⟨hg, k, hk, rfl, hrw, hcc, hce⟩ := hrel
     by_cases hlt : k < m
     · have HLT := Lib.hid hlt
       obtain ⟨p, hp⟩ : ∃ p, here[k]? = some p := ⟨_, List.getElem?_eq_getElem (show k < here.length by have := HLA.out; omega)⟩
       obtain ⟨D1, e1, D2, e2, hx1, hx2, hpc, hfr⟩ := HP1.out.at_ k p hp
       obtain ⟨bb, o, rfl, _⟩ := HP1.out.own.rds.2 _ _ hx1
       obtain ⟨b1, o1, e, k1⟩ := (HPF.out _ hg).own.rds.2 _ _ hx1
       cases e
       obtain ⟨b1, o1, e, k2⟩ := (HPF.out _ hg).own.rds.2 _ _ hx2
       cases e
       rw [← Nat.add_assoc] at k2
       have j2 : (k : Int) < (m : Int) := by omega
       have j3 : (0 : Int) ≤ (k : Int) := by omega
       have HNX := Lib.hid (rowTo_succ (n := N.vs.length) hp)
       have hpok := (HCV.out.ok _ (List.mem_of_getElem? hp)).1
       have HPO := Lib.hid hpok
       have hpl := hpok.len
       have HR1 := Lib.hid hpc.r1
       have hrl : (rowTo N.vs.length here k).length = N.vs.length := rowTo_len _ _ _ (by have := HLA.out; omega)
       have HRL := Lib.hid hrl
       have HHG := Lib.hid hg
       have HRW := Lib.hid hrw
       have HCC := Lib.hid hcc
       have HCL := Lib.hid hce
       clear hp hx1 hx2 hpc hfr hpok hrl hg hrw hcc hce
       go_wp2_with fail
       (refine wp_named ?_; intro W3 hW3)
       have hb3 : Below wr.heap.size wr W3 := by rw [hW3]; exact bELt
       have hg3 := grown_below HHG.out hb3
       have hrw3 := HRW.out.below hb3 HRW.out.lt
       have hcc3 := Below.cellOf hb3 (Nat.le_refl _) HCC.out
       have hce3 := HCL.out.below hb3
       clear hW3 hb3
       go_loopw [95] (fun q W => W1.grownBy W (some (w6.heap.size + 1)) ∧ ∃ j : Nat, j ≤ p.length ∧ q = .int .i64 (j : Int) ∧ Blk W W1.heap.size 3 (ints (setK (rowTo N.vs.length here k) k (p.take j))) ∧ W.cell? ⟨w6.heap.size + 1, i, none⟩ = some (.slice (some ⟨W1.heap.size, 0, none⟩) N.vs.length N.vs.length) ∧ CelI W (w6.heap.size + 1) L (i + 1) N.vs.length T (fun j => rowN N.vs.length (downP N ((natsOf bs).drop j)))) (fun q _ => p.length - (intOf q).toNat)
       case atStart => exact ⟨hg3, 0, Nat.zero_le _, rfl, hrw3, hcc3, hce3⟩
       case round =>
        clear hg3 hrw3 hcc3 hce3
        obtain ⟨hg, j, hj, rfl, hrw, hcc, hce⟩ := hrel
        by_cases hjl : j < p.length
        · have HJL := Lib.hid hjl
          obtain ⟨bv, ov, y, rfl, hy, hcy⟩ := (HRF.out _ _ _ _ hg HR1.out).at_ hjl
          obtain ⟨v, hv⟩ : ∃ v, p[j]? = some v := ⟨_, List.getElem?_eq_getElem hjl⟩
          have hvn := HPO.out.2 v (List.mem_of_getElem? hv)
          obtain rfl : y = (v : Int) := by
           simp only [nats, List.getElem?_map, hv] at hy
           exact (Option.some.inj hy).symm
          have hsl : v < (setK (rowTo N.vs.length here k) k (p.take j)).length := by rw [setK_len, HRL.out]; exact hvn
          obtain ⟨z, hz⟩ : ∃ z, (setK (rowTo N.vs.length here k) k (p.take j))[v]? = some z := ⟨_, List.getElem?_eq_getElem hsl⟩
          have c1 := hrw.cellI hz
          have f1 := hrw.frozen v
          have HRN := Lib.hid (hrw.setI (setK_take (row := rowTo N.vs.length here k) (k := k) hv).symm)
          have hset := grownBy_set wr W1.heap.size v (.int .i64 (k : Int))
          have HGN := Lib.hid (grown_next hg hset (fun q e => .inr (by cases e; exact Nat.le_refl _)))
          have hgl2 : w6.heap.size + 1 < W1.heap.size := HGR.out
          have HCN := Lib.hid (cell_keep (hset.block (w6.heap.size + 1) (Nat.lt_of_lt_of_le hgl2 hg.size) (fun e => by injection e with e; omega)) hcc)
          have HEN := Lib.hid (hce.far hset (fun q e => by cases e; exact HTW.out))
          have l1 : W1.heap.size < wr.heap.size := hrw.lt
          have j4 : (j : Int) < (p.length : Int) := by omega
          have j5 : (0 : Int) ≤ (j : Int) := by omega
          have j6 : (0 : Int) ≤ (v : Int) := by omega
          have j7 : (v : Int) < (N.vs.length : Int) := by omega
          clear hg hrw hce hy hv hset hsl hz
          go_wp2_with fail
          go_roundw
          case rel => exact ⟨HGN.out, j + 1, by have := HJL.out; omega, by go_num, HRN.out, HCN.out, HEN.out⟩
          case measure => have := HJL.out; simp [intOf]; omega
        obtain rfl : j = p.length := by omega
        rw [List.take_length, ← HNX.out] at hrw
        have HGN := Lib.hid hg
        have HRN := Lib.hid hrw
        have HCN := Lib.hid hcc
        have HEN := Lib.hid hce
        clear hg hrw hcc hce hj hjl
        go_wp2_with fail
        go_roundw
        case rel => exact ⟨HGN.out, k + 1, by have := HLT.out; omega, by go_num, HRN.out, HCN.out, HEN.out⟩
        case measure => have := HLT.out; simp [intOf]; omega
     obtain rfl : k = m := by omega
     have hrow : rowTo N.vs.length here k = rowN N.vs.length here := by rw [← HLA.out]; rfl
     rw [hrow, ← HHE.out] at hrw
     have HEN := Lib.hid (hce.fin hcc hrw (by rw [HHE.out, ← hrow]; exact rowTo_len _ _ _ (by have := HLA.out; omega)) (by have := HGR.out; omega))
     have HGN := Lib.hid hg
     have HPN := Lib.hid (HPF.out _ hg)
     have HCT3 := Lib.hid ((HCT.out.below HB4'.out).grown hg (fun q e => by cases e; exact HGL.out))
     have HBN := Lib.hid (below_far (HB0.out.trans (HB4'.out.mono HB0.out.size)) hg (Nat.le_of_lt hgl) (Nat.le_trans HB0.out.size HB4'.out.size))
     have HRS3 := Lib.hid ((HRS.out.below HB4'.out HRS.out.lt).grown hg (fun e => by injection e with e; omega))
     clear hg hrw hcc hce hrow hk hlt
     go_wp2_with fail
     go_roundw
     case rel => exact ⟨HBN.out, HRS3.out, i, _, _, _, _, _, _, _, by omega, rfl, by first | rfl | go_num, rfl, by rw [HHE.out]; exact HPN.out, HCT3.out, HEN.out⟩
     case measure => simp [intOf]
theorem nestBuild_ok (g L cv : Nat) (N : NetD) (AV : Option Addr) (bs : List Int) (w : World) (h : RdGr w g N) (hv : RdI w AV L bs) (hb : BndOk bs) (hm : ∀ b ∈ natsOf bs, b ≤ 9223372036854775807) :
 Calls Tryz.prog 11 #[.pointer (some ⟨g, 0, none⟩), .slice AV L cv] w (BuPost (rowsN N (natsOf bs)) L w) :=
 (nestBuild_m g L cv N AV bs w h hv hb hm).mono fun _ _ ⟨Q, h1, h2, h3, _⟩ => ⟨Q, h1, h2, h3⟩
end Go.Proofs.YtpffhoefmcpniaaGreatDoor

namespace Go.Proofs.YtpffhoefmcpniaaGreatDoor
open Go.RowKit

attribute [local go_sem ↓] Go.wp_at_zero Go.wp_at_succ

theorem numbers_ok (Q : Option Addr) (L cq i : Nat) (ls : List (List Int)) (l : List Int) (w : World) (h : RdT w Q L ls) (hl : ls[i]? = some l) (hL : L ≤ 1000000) :
 Calls Tryz.prog 45 #[.agg #[.slice Q L cq], .int .i64 ((i : Int) + 1)] w fun e w' => ∃ A n c, e = .returned (.slice A n c) ∧ RdI w A n l ∧ n ≤ c ∧ c ≤ 9223372036854775807 ∧ Below w.heap.size w w' := by
 have hi : i < L := by rw [← h.1]; exact (List.getElem?_eq_some_iff.1 hl).1
 obtain ⟨b, o, A, n, c, l', rfl, hl', hc, hr, q1, q2⟩ := h.at_ hi
 rw [hl] at hl'
 cases hl'
 have HR := Lib.hid hr
 have i1 : (0 : Int) ≤ (i : Int) := by omega
 have i2 : (i : Int) < (L : Int) := by omega
 have i3 : ¬ ((i : Int) + 1 < 1) := by omega
 have i4 : ¬ ((i : Int) + 1 > (L : Int)) := by omega
 have i5 : (i : Int) + 1 - 1 = (i : Int) := by omega
 have hca := fun ob => Below.cellOf (show Below w.heap.size w (w.alloc ob) from bELt) (Nat.le_refl _) hc
 clear h hl hr hc
 go_enter Tryz.func45, Tryz.ntmps45
 go_wp2
 go_ret
 exact ⟨_, _, _, rfl, HR.out, q1, q2, bELt⟩
theorem mostN_next {l : List Int} {k : Nat} {x : Int} (h : l[k]? = some x) : mostN (l.take (k + 1)) = max (mostN (l.take k)) (x + 1) := by
 rw [List.take_succ_eq_append_getElem (List.getElem?_eq_some_iff.1 h).1, (List.getElem?_eq_some_iff.1 h).2, mostN_app]
set_option maxHeartbeats 1000000 in
theorem count_ok (Q : Option Addr) (L cq i : Nat) (ls : List (List Int)) (l : List Int) (w : World) (h : RdT w Q L ls) (hl : ls[i]? = some l) (hL : L ≤ 1000000) (hb : ∀ x ∈ l, 0 ≤ x ∧ x ≤ 1000000) :
 Calls Tryz.prog 22 #[.agg #[.slice Q L cq], .int .i64 ((i : Int) + 1)] w fun e w' => e = .returned (.int .i64 (mostN l)) ∧ Below w.heap.size w w' := by
 have HN := Lib.hid (show ∀ V, Below w.heap.size w V → Calls Tryz.prog 45 #[.agg #[.slice Q L cq], .int .i64 ((i : Int) + 1)] V fun e w' => ∃ A n c, e = .returned (.slice A n c) ∧ RdI V A n l ∧ n ≤ c ∧ c ≤ 9223372036854775807 ∧ Below V.heap.size V w' from fun V hV => numbers_ok Q L cq i ls l V (h.below hV) hl hL)
 have HB := Lib.hid hb
 clear h hl hb
 go_enter Tryz.func22, Tryz.ntmps22
 go_wp2_with fail
 (refine calls_named ?_; intro w1 hw1)
 have hb1 : Below w.heap.size w w1 := by rw [hw1]; exact bELt
 clear hw1
 with_reducible refine (HN.out w1 hb1).mono ?_
 rintro e w2 ⟨A, n, c, rfl, hr, q1, q2, hb2⟩
 have hr2 := hr.below hb2
 have HLEN := Lib.hid hr.1
 have hbw2 := Bel.step hb1 hb2
 clear hr
 go_wp2_with fail
 go_loop [5, 12] (fun m q => ∃ k : Nat, k ≤ n ∧ q = .int .i64 k ∧ m = .int .i64 (mostN (l.take k))) (fun _ q => n - (intOf q).toNat)
 case atStart => exact ⟨0, Nat.zero_le _, rfl, rfl⟩
 case round =>
  obtain ⟨k, hk, rfl, rfl⟩ := hrel
  by_cases hlt : k < n
  · obtain ⟨b, o, x, rfl, hx, hc⟩ := hr2.at_ hlt
    have hxb := HB.out x (List.mem_of_getElem? hx)
    have HNX := Lib.hid (mostN_next hx)
    have i1 : (0 : Int) ≤ (k : Int) := by omega
    have i2 : (k : Int) < (n : Int) := by omega
    clear hx
    generalize mostN (l.take k) = m at *
    by_cases hge : x ≥ m
    · go_wp2_with fail
      go_round
      case rel => exact ⟨k + 1, by omega, by go_num, by rw [HNX.out, show max m (x + 1) = x + 1 by omega]⟩
      case measure => simp [intOf]; omega
    · go_wp2_with fail
      go_round
      case rel => exact ⟨k + 1, by omega, by go_num, by rw [HNX.out, show max m (x + 1) = m by omega]⟩
      case measure => simp [intOf]; omega
  · obtain rfl : n = k := by omega
    have HE := Lib.hid (show mostN (l.take n) = mostN l by rw [List.take_of_length_le (by rw [HLEN.out]; exact Nat.le_refl _)])
    go_wp2
    go_ret
    exact ⟨ret_int HE.out, hbw2⟩
end Go.Proofs.YtpffhoefmcpniaaGreatDoor

namespace Go.Proofs.YtpffhoefmcpniaaGreatDoor
open Go.RowKit

attribute [local go_sem ↓] Go.wp_at_zero Go.wp_at_succ

theorem chain_set {W : World} {q m n : Nat} {t : TypeId} {D : Option Addr} {u : Value} (hB : Blk W q t #[.slice D m n]) : ∀ {ps : List (ByteArray × Int)} {v : Value} {c : Int}, Chain W v ps c → Chain (W.setCell ⟨q, 0, none⟩ u) v ps c
 | [], _, _, h => h
 | _ :: _, _, _, h => by
  obtain ⟨b, o, x, h1, h2, h3, h4, h5⟩ := h
  have hne : b ≠ q := fun e => by
   subst e
   rw [hB.cell] at h2
   rcases o with _ | o
   · simp at h2
   · simp at h2
  have hk := Below.heap_setCell W ⟨q, 0, none⟩ u b hne
  exact ⟨b, o, x, h1, cell_keep hk h2, cell_keep hk h3, cell_keep hk h4, chain_set hB h5⟩
set_option maxHeartbeats 2000000 in
theorem nestBuild_bad (g L cv : Nat) (AV : Option Addr) (bs : List Int) (k c : Int) (w : World) (hv : RdI w AV L bs) (hb : BndBad bs k c) :
 Calls Tryz.prog 11 #[.pointer (some ⟨g, 0, none⟩), .slice AV L cv] w fun e w' => ∃ v, e = .returned (.tuple #[.agg #[.slice none 0 0], v]) ∧ Chain w' v [((⟨#[110, 101, 115, 116]⟩ : ByteArray), k)] c ∧ Below w.heap.size w w' := by
 have HV := Lib.hid hv
 have HB := Lib.hid hb
 clear hv hb
 go_enter Tryz.func11, Tryz.ntmps11
 go_wp2_with fail
 (refine calls_named ?_; intro w1 hw1)
 have hb1 : Below w.heap.size w w1 := by rw [hw1]; exact bELt
 have hR : Blk w1 w.heap.size 34 #[.slice none 0 0] := by rw [hw1]; exact bLNt
 clear hw1
 with_reducible refine (nestCheck_bad AV L cv bs k c w1 (HV.out.below hb1) HB.out).mono ?_
 rintro e w2 ⟨v, rfl, hc2, hb2⟩
 obtain ⟨tv, xv, rfl⟩ := chain_not_nil hc2
 have hR2 := hR.below hb2 hR.lt
 have d0 : w2.cell? ⟨w.heap.size, 0, none⟩ = some (.slice none 0 0) := by rw [hR2.cell]; rfl
 have df := hR2.frozen 0
 have HB2 := Lib.hid (Below.setCell (Bel.step hb1 hb2) (p := ⟨w.heap.size, 0, none⟩) (Nat.le_refl _))
 have HCH := Lib.hid (fun u => chain_set (u := u) hR2 hc2)
 have HR9 := Lib.hid (show (w2.setCell ⟨w.heap.size, 0, none⟩ (.slice none 0 0)).cell? ⟨w.heap.size, 0, none⟩ = some (.slice none 0 0) by rw [(hR2.set_ 0 _).cell]; rfl)
 clear hc2 hR hR2 hb1 hb2
 go_wp2_with fail
 refine bodyPost_ret (v := .tuple #[.agg #[.slice none 0 0], .iface tv xv]) (by simp [results, Tryz.results11, go_sem, HR9.out]) rfl ?_
 exact ⟨_, rfl, HCH.out _, HB2.out _⟩
end Go.Proofs.YtpffhoefmcpniaaGreatDoor
