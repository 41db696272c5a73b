/- Parts of the proof: QFl7, QFlN, QCuP, QCuQ, QCu1. -/
import Derived.Test.YtpffhoefmcpniaaGreatDoorB1
import Derived.Test.YtpffhoefmcpniaaGreatDoorB3
import Derived.Test.YtpffhoefmcpniaaGreatDoorB8
namespace Go.Proofs.YtpffhoefmcpniaaGreatDoor
open Go.RowKit

attribute [local go_sem ↓] Go.wp_at_zero Go.wp_at_succ

theorem flVertex_ok (v n g : Nat) (w : World) (hv : v < n) (hg : w.cell? ⟨g, 0, none⟩ = some (.int .i64 n)) :
 Calls Tryz.prog 130 #[.int .i64 v, .pointer (some ⟨g, 0, none⟩)] w fun e w' => e = .returned (.bool true) ∧ Below w.heap.size w w' := by
 have i1 : (0 : Int) ≤ (v : Int) := by omega
 have i2 : (v : Int) < (n : Int) := by omega
 go_enter Tryz.func130, Tryz.ntmps130
 go_wp2_with fail
 go_ret
 exact ⟨rfl, bELt⟩

set_option maxHeartbeats 4000000 in
theorem check_ok (A AS AD : Option Addr) (n m c ks cs kd cd : Nat) (E : List Edg) (s t : List Nat) (w : World) (h : RdP w A m E) (hE : Ends n E) (hs : RdI w AS ks (nats s)) (ht : RdI w AD kd (nats t)) (hsn : ∀ v ∈ s, v < n) (htn : ∀ v ∈ t, v < n) (hd : ∀ v ∈ t, v ∉ s) (hn : n ≤ 4096) (hm : m ≤ 16384) (hks : ks ≤ 1000000) (hkd : kd ≤ 1000000) :
 Calls Tryz.prog 121 #[.int .i64 n, .slice A m c, .slice AS ks cs, .slice AD kd cd] w fun e w' => e = .returned .nilIface ∧ Below w.heap.size w w' := by
 have HE := Lib.hid hE
 have HSN := Lib.hid hsn
 have HTN := Lib.hid htn
 have HD := Lib.hid hd
 have HV := Lib.hid (show ∀ (v : Nat) (V : World), v < n → V.cell? ⟨w.heap.size, 0, none⟩ = some (.int .i64 n) → Calls Tryz.prog 130 #[.int .i64 v, .pointer (some ⟨w.heap.size, 0, none⟩)] V fun e w' => e = .returned (.bool true) ∧ Below V.heap.size V w' from fun v V h1 h2 => flVertex_ok v n _ V h1 h2)
 have hmk := run_makeB n (by omega)
 have j0 : decide ((n : Int) < 0) = false := decide_eq_false (by omega)
 have j1 : decide ((n : Int) > 4096) = false := decide_eq_false (by omega)
 have j2 : decide ((m : Int) > 16384) = false := decide_eq_false (by omega)
 clear hE hsn htn hd
 go_enter Tryz.func121, Tryz.ntmps121
 go_wp2_with fail
 (refine wp_named ?_; intro w1 hw1)
 have hb1 : Below w.heap.size w w1 := by rw [hw1]; exact bELt
 have hB1 : Blk w1 w.heap.size 3 #[.int .i64 n] := by rw [hw1]; exact Blk.new _ _ _
 clear hw1
 go_loopw [34] (fun i W => Below w.heap.size w W ∧ Blk W w.heap.size 3 #[.int .i64 n] ∧ ∃ k : Nat, k ≤ m ∧ i = .int .i64 k) (fun i _ => m - (intOf i).toNat)
 case atStart => exact ⟨hb1, hB1, 0, Nat.zero_le _, rfl⟩
 case round =>
  clear hb1 hB1
  obtain ⟨hbl, hB, k, hk, rfl⟩ := hrel
  by_cases hlt : k < m
  · obtain ⟨b, o, x, y, rfl, hx, cx, cy⟩ := h.at_ hlt
    have he := HE.out _ (List.mem_of_getElem? hx)
    obtain ⟨p, rfl⟩ : ∃ p : Nat, x = p := ⟨x.toNat, by simp only at he; omega⟩
    obtain ⟨q, rfl⟩ : ∃ q : Nat, y = q := ⟨y.toNat, by simp only at he; omega⟩
    have hp : p < n := by simp only at he; omega
    have hq : q < n := by simp only at he; omega
    have j1 := Below.cellOf hbl (Nat.le_refl _) cx
    have j2 := Below.cellOf hbl (Nat.le_refl _) cy
    have i1 : (0 : Int) ≤ (k : Int) := by omega
    have i2 : (k : Int) < (m : Int) := by omega
    clear hx he cx cy
    obtain ⟨W2, hW2⟩ : ∃ W2, W2 = wr.alloc (.cells #[.int .i64 p, .int .i64 q] 127) := ⟨_, rfl⟩
    have hbox : Blk W2 wr.heap.size 127 #[.int .i64 p, .int .i64 q] := by rw [hW2]; exact Blk.new _ _ _
    have hB2 : Blk W2 w.heap.size 3 #[.int .i64 n] := by rw [hW2]; exact hB.alloc _
    have hbl2 : Below w.heap.size w W2 := by rw [hW2]; exact bELt
    have HVP := Lib.hid (HV.out p W2 hp (by rw [hB2.cell]; rfl))
    have v1 := hbox.two.1
    have hlt0 := hbox.lt
    go_wp2_with fail
    rw [← hW2]
    with_reducible refine HVP.out.mono ?_
    rintro e w3 ⟨rfl, hb3⟩
    have v2 := (hbox.below hb3 hbox.lt).two.2.1
    have hB3 := hB2.below hb3 hB2.lt
    have hbl3 : Below w.heap.size w w3 := Bel.step hbl2 hb3
    have HVQ := Lib.hid (HV.out q w3 hq (by rw [hB3.cell]; rfl))
    clear HVP v1 hbox hB2 hbl2 hB hbl j1 j2 hb3 hW2
    go_wp2_with fail
    with_reducible refine HVQ.out.mono ?_
    rintro e w4 ⟨rfl, hb4⟩
    have hB4 := hB3.below hb4 hB3.lt
    have hbl4 : Below w.heap.size w w4 := Bel.step hbl3 hb4
    clear HVQ v2 hB3 hbl3 hb4
    go_wp2_with fail
    go_roundw
    case rel => exact ⟨hbl4, hB4, k + 1, by omega, by go_num⟩
    case measure => simp [intOf]; omega
  · obtain ⟨w5, hw5⟩ : ∃ w5, w5 = wr := ⟨_, rfl⟩
    subst hw5
    obtain rfl : m = k := by omega
    have v0 : w5.cell? ⟨w.heap.size, 0, none⟩ = some (.int .i64 n) := by rw [hB.cell]; rfl
    clear HE h
    go_wp2_with fail
    (refine wp_named ?_; intro w6 hw6)
    have hB6 : Blk w6 w.heap.size 3 #[.int .i64 n] := by rw [hw6]; exact hB.alloc _
    have hF6 : Blk w6 w5.heap.size 4 (bools (mkB n (s.take 0))) := by rw [hw6, mkB_nil]; exact Blk.new _ _ _
    have hb6 : Below w.heap.size w w6 := by rw [hw6]; exact bELt
    have hne : w.heap.size < w5.heap.size := hB.lt
    have hsz5 : w.heap.size ≤ w5.heap.size := hbl.size
    clear hw6 hB hbl v0
    go_loopw [58] (fun i W => Below w.heap.size w W ∧ Blk W w.heap.size 3 #[.int .i64 n] ∧ ∃ k : Nat, k ≤ ks ∧ i = .int .i64 k ∧ Blk W w5.heap.size 4 (bools (mkB n (s.take k)))) (fun i _ => ks - (intOf i).toNat)
    case atStart => exact ⟨hb6, hB6, 0, Nat.zero_le _, rfl, hF6⟩
    case round =>
     clear hb6 hB6 hF6
     obtain ⟨hbl, hB, k, hk, rfl, hF⟩ := hrel
     by_cases hlt : k < ks
     · obtain ⟨b, o, x, rfl, hx, cx⟩ := hs.at_ hlt
       obtain ⟨p, hp, rfl⟩ := nats_inv hx
       have hpn := HSN.out p (List.mem_of_getElem? hp)
       have j1 := Below.cellOf hbl (Nat.le_refl _) cx
       have i1 : (0 : Int) ≤ (k : Int) := by omega
       have i2 : (k : Int) < (ks : Int) := by omega
       have i3 : (0 : Int) ≤ (p : Int) := by omega
       have i4 : (p : Int) < (n : Int) := by omega
       have HVP := Lib.hid (HV.out p wr hpn (by rw [hB.cell]; rfl))
       have HN := Lib.hid (mkB_next (n := n) hp)
       clear hx hp cx
       go_wp2_with fail
       with_reducible refine HVP.out.mono ?_
       rintro e w3 ⟨rfl, hb3⟩
       have hB3 := hB.below hb3 hB.lt
       have hF3 := hF.below hb3 hF.lt
       have hbl3 : Below w.heap.size w w3 := Bel.step hbl hb3
       obtain ⟨z, hz⟩ : ∃ z, (mkB n (s.take k))[p]? = some z := ⟨_, List.getElem?_eq_getElem (by rw [mkB_len]; exact hpn)⟩
       have c1 := hF3.cellB hz
       have c1f := hF3.frozen p
       have HF4 := Lib.hid (hF3.setB (x := true) HN.out)
       have HB4 := Lib.hid (hB3.far_ (b := w5.heap.size) (o := p) (Nat.ne_of_lt hne) (.bool true))
       have hbl4 : Below w.heap.size w (w3.setCell ⟨w5.heap.size, p, none⟩ (.bool true)) := hbl3.setCell hsz5 _
       clear HVP hB hF hbl hb3 j1 hB3 hF3 hbl3
       go_wp2_with fail
       go_roundw
       case rel => exact ⟨hbl4, HB4.out, k + 1, by omega, by go_num, HF4.out⟩
       case measure => simp [intOf]; omega
     · obtain ⟨w7, hw7⟩ : ∃ w7, w7 = wr := ⟨_, rfl⟩
       subst hw7
       obtain rfl : ks = k := by omega
       clear HSN hs
       go_wp2_with fail
       go_loopw [15, 75] (fun bo i W => Below w.heap.size w W ∧ Blk W w.heap.size 3 #[.int .i64 n] ∧ ∃ k : Nat, k ≤ kd ∧ bo = .bool false ∧ i = .int .i64 k ∧ Blk W w5.heap.size 4 (bools (mkB n (s.take ks)))) (fun _ i _ => kd - (intOf i).toNat)
       case atStart => exact ⟨hbl, hB, 0, Nat.zero_le _, rfl, rfl, hF⟩
       case round =>
        clear hbl hB hF
        obtain ⟨hbl, hB, k, hk, rfl, rfl, hF⟩ := hrel
        by_cases hlt : k < kd
        · obtain ⟨b, o, x, rfl, hx, cx⟩ := ht.at_ hlt
          obtain ⟨p, hp, rfl⟩ := nats_inv hx
          have hpn := HTN.out p (List.mem_of_getElem? hp)
          have hps := HD.out p (List.mem_of_getElem? hp)
          have j1 := Below.cellOf hbl (Nat.le_refl _) cx
          have i1 : (0 : Int) ≤ (k : Int) := by omega
          have i2 : (k : Int) < (kd : Int) := by omega
          have i3 : (0 : Int) ≤ (p : Int) := by omega
          have i4 : (p : Int) < (n : Int) := by omega
          have HVP := Lib.hid (HV.out p wr hpn (by rw [hB.cell]; rfl))
          have hz : (mkB n (s.take ks))[p]? = some false := by
           have hl : p < (mkB n (s.take ks)).length := by rw [mkB_len]; exact hpn
           rw [List.getElem?_eq_getElem hl]
           have := (not_congr (mkB_at n (s.take ks) p)).2 (fun g => hps (List.mem_of_mem_take g.1))
           rw [List.getD_eq_getElem?_getD, List.getElem?_eq_getElem hl] at this
           simpa using this
          clear hx hp cx hps
          go_wp2_with fail
          with_reducible refine HVP.out.mono ?_
          rintro e w3 ⟨rfl, hb3⟩
          have hB3 := hB.below hb3 hB.lt
          have hF3 := hF.below hb3 hF.lt
          have hbl3 : Below w.heap.size w w3 := Bel.step hbl hb3
          have c1 := hF3.cellB hz
          clear HVP hB hF hbl hb3 j1 hz
          go_wp2_with fail
          go_roundw
          case rel => exact ⟨hbl3, hB3, k + 1, by omega, rfl, by go_num, hF3⟩
          case measure => simp [intOf]; omega
        · obtain rfl : kd = k := by omega
          go_wp2_with fail
          go_ret
          exact ⟨rfl, hbl⟩
end Go.Proofs.YtpffhoefmcpniaaGreatDoor

namespace Go.Proofs.YtpffhoefmcpniaaGreatDoor
open Go.RowKit

theorem link_roomM {n : Nat} {E : List Edg} {ls : List (List Lnk)} {f : List Int} {a b : Nat} (hL : LinksOf n E ls) (hl : f.length = E.length) (h : Go1 ls f (-1) a b) : Room E f b a := by
 obtain ⟨k, hk, hkv, hr⟩ := h
 rw [List.getD_eq_getElem?_getD] at hk
 cases hls : ls[a]? with
 | none => rw [hls] at hk; cases hk
 | some l =>
  rw [hls] at hk
  obtain ⟨hu, _, hne, he⟩ := hL.sound a l k hls hk
  subst hkv
  subst hu
  have hlt : k.e < E.length := by rcases he with ⟨_, h⟩ | ⟨_, h⟩ <;> exact (List.getElem?_eq_some_iff.1 h).1
  have hx : f[k.e]? = some (f.getD k.e 0) := by rw [List.getD_eq_getElem?_getD, List.getElem?_eq_getElem (by omega)]; rfl
  unfold rm at hr
  refine ⟨k.e, _, hx, by omega, ?_⟩
  rcases he with ⟨hy, he⟩ | ⟨hy, he⟩
  · exact .inr ⟨he, by rw [hy] at hr; simpa using hr⟩
  · exact .inl ⟨he, by rw [hy] at hr; simpa using hr⟩
theorem room_linkM {n : Nat} {E : List Edg} {ls : List (List Lnk)} {f : List Int} {a b : Nat} (hL : LinksOf n E ls) (hE : Ends n E) (h : Room E f a b) : Go1 ls f (-1) b a := by
 obtain ⟨i, x, hx, hne, he⟩ := h
 have hfx : f.getD i 0 = x := by rw [List.getD_eq_getElem?_getD, hx]; rfl
 rcases he with ⟨he, hxe⟩ | ⟨he, hxe⟩
 · have hb := hE _ (List.mem_of_getElem? he)
   simp only at hb
   obtain ⟨_, l, h1, h2⟩ := hL.full i a b he (fun e => hne (by rw [e])) (by omega) (by omega)
   refine ⟨_, by rw [List.getD_eq_getElem?_getD, h1]; exact h2, rfl, ?_⟩
   unfold rm
   rw [hfx]
   simpa using hxe
 · have hb := hE _ (List.mem_of_getElem? he)
   simp only at hb
   obtain ⟨⟨l, h1, h2⟩, _⟩ := hL.full i b a he (fun e => hne (by rw [e])) (by omega) (by omega)
   refine ⟨_, by rw [List.getD_eq_getElem?_getD, h1]; exact h2, rfl, ?_⟩
   unfold rm
   rw [hfx]
   simpa using hxe
theorem leads_dep {n : Nat} {E : List Edg} {ls : List (List Lnk)} {f d : List Int} {s : List Nat} (hL : LinksOf n E ls) (hE : Ends n E) (hD : Dep n ls f (-1) s d) : ∀ {v : Int}, Leads E f (nats s) v → ∃ a : Nat, v = a ∧ 0 ≤ dAt d a := by
 intro v h
 induction h with
 | start hv =>
  unfold nats at hv
  obtain ⟨a, ha, e⟩ := List.mem_map.1 hv
  exact ⟨a, e.symm, hD.src a ha⟩
 | step _ hr ih =>
  obtain ⟨a, rfl, ha⟩ := ih
  obtain ⟨b, rfl⟩ : ∃ b : Nat, ‹Int› = b := by
   obtain ⟨i, x, _, _, he⟩ := hr
   rcases he with ⟨he, _⟩ | ⟨he, _⟩
   · have := hE _ (List.mem_of_getElem? he)
     exact ⟨_, (Int.toNat_of_nonneg this.1).symm⟩
   · have := hE _ (List.mem_of_getElem? he)
     exact ⟨_, (Int.toNat_of_nonneg this.2.2.1).symm⟩
  exact ⟨b, rfl, hD.closed a b ha (room_linkM hL hE hr)⟩
theorem dep_leads {n : Nat} {E : List Edg} {ls : List (List Lnk)} {f d : List Int} {s : List Nat} (hL : LinksOf n E ls) (hl : f.length = E.length) (hD : Dep n ls f (-1) s d) : ∀ (k a : Nat), dAt d a = k → Leads E f (nats s) a
 | 0, a, h => .start (List.mem_map.2 ⟨a, hD.zero a (by omega), rfl⟩)
 | k + 1, a, h => by
  obtain ⟨u, h1, h2⟩ := hD.pre a (by omega)
  exact .step (dep_leads hL hl hD k u (by omega)) (link_roomM hL hl h2)
theorem leads_reach {E : List Edg} {f src dst : List Int} : ∀ {v : Int}, Leads E f dst v → Reach E f src v → ∃ t ∈ dst, Reach E f src t := by
 intro v h
 induction h with
 | start hv => intro r; exact ⟨_, hv, r⟩
 | step _ hr ih => intro r; exact ih (.step r hr)
theorem crossN_congr {S T : Int → Bool} : ∀ {E : List Edg}, (∀ e ∈ E, S e.1 = T e.1 ∧ S e.2 = T e.2) → crossN S E = crossN T E
 | [], _ => rfl
 | e :: E, h => by
  unfold crossN
  rw [(h e (List.mem_cons_self ..)).1, (h e (List.mem_cons_self ..)).2, crossN_congr (fun e' h' => h e' (List.mem_cons_of_mem _ h'))]

def sideF (b : List Bool) (v : Int) : Bool := decide (0 ≤ v) && b.getD v.toNat false
theorem sideF_nat (b : List Bool) (v : Nat) : sideF b v = b.getD v false := by simp [sideF]
def cr (b : List Bool) (E : List Edg) : Nat := crossN (sideF b) E
structure SepB (n : Nat) (s t : List Nat) (b : List Bool) : Prop where
 len : b.length = n
 inn : ∀ v ∈ s, b.getD v false = true
 out : ∀ v ∈ t, b.getD v false = false
structure NearB (n : Nat) (E : List Edg) (s t : List Nat) (b : List Bool) : Prop where
 sep : SepB n s t b
 least : ∀ c, SepB n s t c → cr b E ≤ cr c E
 first : ∀ c, SepB n s t c → cr c E = cr b E → ∀ v : Nat, b.getD v false = true → c.getD v false = true
structure FarB (n : Nat) (E : List Edg) (s t : List Nat) (b : List Bool) : Prop where
 sep : SepB n s t b
 least : ∀ c, SepB n s t c → cr b E ≤ cr c E
 last : ∀ c, SepB n s t c → cr c E = cr b E → ∀ v : Nat, c.getD v false = true → b.getD v false = true
theorem SepB.sep {n : Nat} {s t : List Nat} {b : List Bool} (h : SepB n s t b) : Sep (nats s) (nats t) (sideF b) :=
 ⟨fun v hv => by
  unfold nats at hv
  obtain ⟨a, ha, rfl⟩ := List.mem_map.1 hv
  rw [sideF_nat]; exact h.inn a ha, fun v hv => by
  unfold nats at hv
  obtain ⟨a, ha, rfl⟩ := List.mem_map.1 hv
  rw [sideF_nat]; exact h.out a ha⟩
theorem near_at (d : List Int) (a : Nat) : (d.map isNear).getD a false = true ↔ 0 ≤ dAt d a := by
 unfold dAt
 simp only [List.getD_eq_getElem?_getD, List.getElem?_map]
 cases d[a]? with
 | none => simp
 | some x => simp [isNear]
theorem far_at {d : List Int} {a : Nat} (h : a < d.length) : (d.map isFar).getD a false = true ↔ dAt d a < 0 := by
 unfold dAt
 simp only [List.getD_eq_getElem?_getD, List.getElem?_map, List.getElem?_eq_getElem h]
 simp [isFar]
theorem getD_lt {b : List Bool} {v : Nat} (h : b.getD v false = true) : v < b.length := by
 rcases Nat.lt_or_ge v b.length with g | g
 · exact g
 · rw [List.getD_eq_getElem?_getD, List.getElem?_eq_none g] at h; cases h
theorem near_dep {n : Nat} {E : List Edg} {ls : List (List Lnk)} {f d : List Int} {s t : List Nat} {V : Int} (hL : LinksOf n E ls) (hE : Ends n E) (hF : FlowI E (nats s) (nats t) V f) (hD : Dep n ls f 1 s d) (hno : ∀ v ∈ nats t, ¬ Reach E f (nats s) v) : NearB n E s t (d.map isNear) ∧ (cr (d.map isNear) E : Int) = V := by
 have hN : ∀ v : Int, sideF (d.map isNear) v = true ↔ Reach E f (nats s) v := by
  intro v
  constructor
  · intro h
    unfold sideF at h
    rw [Bool.and_eq_true, decide_eq_true_eq, near_at] at h
    have := dep_reach hL hF.len hD (dAt d v.toNat).toNat v.toNat (by omega)
    rw [Int.toNat_of_nonneg h.1] at this
    exact this
  · intro h
    obtain ⟨a, rfl, ha⟩ := reach_dep hL hE hD h
    rw [sideF_nat, near_at]; exact ha
 obtain ⟨h, hc⟩ := isNear_of hF hN hno
 refine ⟨⟨⟨by rw [List.length_map]; exact hD.len, fun v hv => ?_, fun v hv => ?_⟩, fun c hc => h.least _ hc.sep, fun c hc e v hv => ?_⟩, hc⟩
 · rw [← sideF_nat]; exact h.sep.1 v (nats_mem.2 hv)
 · rw [← sideF_nat]; exact h.sep.2 v (nats_mem.2 hv)
 · rw [← sideF_nat] at hv ⊢
   exact h.first _ hc.sep e v hv
theorem far_dep {n : Nat} {E : List Edg} {ls : List (List Lnk)} {f d : List Int} {s t : List Nat} {V : Int} (hL : LinksOf n E ls) (hE : Ends n E) (hF : FlowI E (nats s) (nats t) V f) (hD : Dep n ls f (-1) t d) (hno : ∀ v ∈ nats t, ¬ Reach E f (nats s) v) (hs : ∀ v ∈ s, v < n) (ht : ∀ v ∈ t, v < n) : FarB n E s t (d.map isFar) ∧ (cr (d.map isFar) E : Int) = V := by
 have hln := hD.len
 have hN : ∀ v : Int, (fun v => !sideF (d.map isNear) v) v = false ↔ Leads E f (nats t) v := by
  intro v
  simp only [Bool.not_eq_false']
  constructor
  · intro h
    unfold sideF at h
    rw [Bool.and_eq_true, decide_eq_true_eq, near_at] at h
    have := dep_leads hL hF.len hD (dAt d v.toNat).toNat v.toNat (by omega)
    rw [Int.toNat_of_nonneg h.1] at this
    exact this
  · intro h
    obtain ⟨a, rfl, ha⟩ := leads_dep hL hE hD h
    rw [sideF_nat, near_at]; exact ha
 obtain ⟨h, hc⟩ := isFar_of hF hN (fun v hv hl => by
  obtain ⟨u, hu, hr⟩ := leads_reach hl (.start hv)
  exact hno u hu hr)
 have hin : ∀ v : Nat, v < n → (fun v => !sideF (d.map isNear) v) (v : Int) = (d.map isFar).getD v false := by
  intro v hv
  have h1 := near_at d v
  have h2 := far_at (d := d) (a := v) (by omega)
  simp only [sideF_nat]
  cases e1 : (d.map isNear).getD v false <;> cases e2 : (d.map isFar).getD v false
  · have := (not_congr h1).1 (by rw [e1]; simp); have := (not_congr h2).1 (by rw [e2]; simp); omega
  · rfl
  · rfl
  · have := h1.1 e1; have := h2.1 e2; omega
 have hcr : crossN (fun v => !sideF (d.map isNear) v) E = cr (d.map isFar) E := by
  unfold cr
  refine crossN_congr (fun e he => ?_)
  obtain ⟨b1, b2, b3, b4⟩ := hE e he
  obtain ⟨p, hp⟩ : ∃ p : Nat, e.1 = p := ⟨e.1.toNat, by omega⟩
  obtain ⟨q, hq⟩ : ∃ q : Nat, e.2 = q := ⟨e.2.toNat, by omega⟩
  rw [hp, hq, sideF_nat, sideF_nat]
  exact ⟨hin p (by omega), hin q (by omega)⟩
 rw [hcr] at hc
 refine ⟨⟨⟨by rw [List.length_map]; exact hln, fun v hv => ?_, fun v hv => ?_⟩, fun c hc => ?_, fun c hc e v hv => ?_⟩, hc⟩
 · rw [← hin v (hs v hv)]; exact h.sep.1 v (nats_mem.2 hv)
 · rw [← hin v (ht v hv)]; exact h.sep.2 v (nats_mem.2 hv)
 · rw [← hcr]; exact h.least _ hc.sep
 · have hvn : v < n := by have := getD_lt hv; rw [hc.len] at this; exact this
   rw [← hin v hvn]
   rw [← sideF_nat] at hv
   exact h.last _ hc.sep (by rw [hcr]; exact e) v hv
end Go.Proofs.YtpffhoefmcpniaaGreatDoor

namespace Go.Proofs.YtpffhoefmcpniaaGreatDoor
open Go.RowKit

structure Spl where
 side : List Bool
 cross : Int
 dir : Int
 kind : Int

def natsOf (l : List Int) : List Nat := l.map Int.toNat
theorem nats_of : ∀ {l : List Int}, (∀ x ∈ l, 0 ≤ x) → nats (natsOf l) = l
 | [], _ => rfl
 | x :: l, h => by
  have h0 := h x (List.mem_cons_self ..)
  have ih := nats_of (l := l) (fun y hy => h y (List.mem_cons_of_mem _ hy))
  unfold nats natsOf at *
  simp only [List.map_cons, ih]
  rw [Int.toNat_of_nonneg h0]
def srcN (l : List (Int × Int)) (d : Nat) : List Nat := natsOf ((order l d).take (endsN l.length))
def dstN (l : List (Int × Int)) (d : Nat) : List Nat := natsOf ((order l d).drop (l.length - endsN l.length))
def hlfN (l : List (Int × Int)) (d : Nat) : List Nat := natsOf ((order l d).take ((l.length + 1) / 2))
theorem ends_two {n : Nat} (h : 2 ≤ n) : 1 ≤ endsN n ∧ endsN n ≤ (n + 1) / 2 ∧ (n + 1) / 2 + endsN n ≤ n := by
 unfold endsN
 rw [if_neg (by omega)]
 omega
theorem mem_natsOf {l : List Int} {v : Nat} : v ∈ natsOf l ↔ ∃ x ∈ l, x.toNat = v := by simp [natsOf]
theorem natsOf_nodup : ∀ {l : List Int}, (∀ x ∈ l, 0 ≤ x) → l.Nodup → (natsOf l).Nodup := by
 intro l h0 h
 unfold natsOf
 rw [List.Nodup, List.pairwise_map]
 exact List.Pairwise.imp_of_mem (fun {a b} ha hb hne e => hne (by have := h0 a ha; have := h0 b hb; omega)) h
theorem order_lt {l : List (Int × Int)} {d : Int} {x : Int} (h : x ∈ order l d) : x.toNat < l.length := by have := order_mem h; omega
theorem srcN_lt {l : List (Int × Int)} {d v : Nat} (h : v ∈ srcN l d) : v < l.length := by
 obtain ⟨x, hx, rfl⟩ := mem_natsOf.1 h
 exact order_lt (List.mem_of_mem_take hx)
theorem dstN_lt {l : List (Int × Int)} {d v : Nat} (h : v ∈ dstN l d) : v < l.length := by
 obtain ⟨x, hx, rfl⟩ := mem_natsOf.1 h
 exact order_lt (List.mem_of_mem_drop hx)
theorem hlfN_lt {l : List (Int × Int)} {d v : Nat} (h : v ∈ hlfN l d) : v < l.length := by
 obtain ⟨x, hx, rfl⟩ := mem_natsOf.1 h
 exact order_lt (List.mem_of_mem_take hx)
theorem parted {l : List (Int × Int)} {d : Int} {k j v : Nat} (hkj : k ≤ j) (h1 : v ∈ natsOf ((order l d).take k)) (h2 : v ∈ natsOf ((order l d).drop j)) : False := by
 obtain ⟨x, hx, e1⟩ := mem_natsOf.1 h1
 obtain ⟨y, hy, e2⟩ := mem_natsOf.1 h2
 have hx0 := order_mem (List.mem_of_mem_take hx)
 have hy0 := order_mem (List.mem_of_mem_drop hy)
 obtain rfl : x = y := by omega
 obtain ⟨i, hi, ei⟩ := List.getElem_of_mem hx
 obtain ⟨i', hi', ei'⟩ := List.getElem_of_mem hy
 rw [List.getElem_take] at ei
 rw [List.getElem_drop] at ei'
 rw [List.length_take] at hi
 rw [List.length_drop] at hi'
 exact nodup_at (order_nodup l d) (i := i) (j := j + i') (by omega) (by rw [List.getElem?_eq_getElem (by omega), ei]) (by rw [List.getElem?_eq_getElem (by omega), ei'])
theorem srcN_dst {l : List (Int × Int)} {d v : Nat} (h2 : 2 ≤ l.length) (h : v ∈ dstN l d) : v ∉ srcN l d := fun h1 => parted (by have := ends_two h2; omega) h1 h
theorem srcN_len (l : List (Int × Int)) (d : Nat) : (srcN l d).length = endsN l.length := by
 unfold srcN natsOf
 rw [List.length_map, List.length_take, order_len]
 unfold endsN; split <;> omega
theorem dstN_len (l : List (Int × Int)) (d : Nat) : (dstN l d).length = endsN l.length := by
 unfold dstN natsOf
 rw [List.length_map, List.length_drop, order_len]
 unfold endsN; split <;> omega
theorem srcN_nodup (l : List (Int × Int)) (d : Nat) : (srcN l d).Nodup := natsOf_nodup (fun _ hx => (order_mem (List.mem_of_mem_take hx)).1) ((order_nodup l d).sublist (List.take_sublist _ _))
theorem dstN_nodup (l : List (Int × Int)) (d : Nat) : (dstN l d).Nodup := natsOf_nodup (fun _ hx => (order_mem (List.mem_of_mem_drop hx)).1) ((order_nodup l d).sublist (List.drop_sublist _ _))

def halfB (l : List (Int × Int)) (d : Nat) : List Bool := mkB l.length (hlfN l d)
theorem half_sep {l : List (Int × Int)} {d : Nat} (h2 : 2 ≤ l.length) : SepB l.length (srcN l d) (dstN l d) (halfB l d) := by
 have he := ends_two h2
 refine ⟨mkB_len _ _, fun v hv => (mkB_at _ _ _).2 ⟨?_, srcN_lt hv⟩, fun v hv => ?_⟩
 · obtain ⟨x, hx, rfl⟩ := mem_natsOf.1 hv
   exact mem_natsOf.2 ⟨x, (List.take_subset_take_left _ he.2.1) hx, rfl⟩
 · cases e : (halfB l d).getD v false
   · rfl
   · exact absurd ((mkB_at _ _ _).1 e).1 (fun h => parted (by omega) h hv)

/-! How many are marked. -/
theorem marks_len (b : List Bool) : ∀ k, k ≤ b.length → ((List.range k).filter (fun i => b.getD i false)).length = cnt (b.take k)
 | 0, _ => rfl
 | k + 1, h => by
  rw [List.range_succ, List.filter_append, List.length_append, marks_len b k (by omega), cnt_take (List.getElem?_eq_getElem (by omega : k < b.length))]
  have : b.getD k false = b[k] := by rw [List.getD_eq_getElem?_getD, List.getElem?_eq_getElem (by omega : k < b.length)]; rfl
  simp only [List.filter_cons, this, List.filter_nil]
  cases b[k] <;> rfl
theorem cnt_ge {b : List Bool} {s : List Nat} (hn : s.Nodup) (h : ∀ v ∈ s, b.getD v false = true) : s.length ≤ cnt b := by
 have h1 := marks_len b b.length (Nat.le_refl _)
 rw [List.take_length] at h1
 rw [← h1]
 exact hn.length_le_of_subset (fun v hv => List.mem_filter.2 ⟨List.mem_range.2 (getD_lt (h v hv)), h v hv⟩)
theorem cnt_not : ∀ b : List Bool, cnt (b.map not) + cnt b = b.length
 | [] => rfl
 | x :: b => by
  have := cnt_not b
  unfold cnt at *
  cases x <;> simp at * <;> omega
theorem cnt_out {b : List Bool} {t : List Nat} (hn : t.Nodup) (h : ∀ v ∈ t, b.getD v false = false) (hlt : ∀ v ∈ t, v < b.length) : t.length + cnt b ≤ b.length := by
 have h1 := cnt_ge (b := b.map not) hn (fun v hv => by
  have h2 := h v hv
  have h3 := hlt v hv
  rw [List.getD_eq_getElem?_getD, List.getElem?_eq_getElem h3] at h2
  rw [List.getD_eq_getElem?_getD, List.getElem?_map, List.getElem?_eq_getElem h3]
  simp at h2
  simp [h2])
 have h2 := cnt_not b
 omega
theorem sep_fair {l : List (Int × Int)} {d : Nat} {b : List Bool} (h2 : 2 ≤ l.length) (h : SepB l.length (srcN l d) (dstN l d) b) : fairB b = true := by
 have h3 := cnt_ge (srcN_nodup l d) h.inn
 have h4 := cnt_out (dstN_nodup l d) h.out (fun v hv => by rw [h.len]; exact dstN_lt hv)
 rw [srcN_len] at h3
 rw [dstN_len] at h4
 rw [h.len] at h4
 unfold fairB
 rw [h.len]
 simp only [Bool.and_eq_true, decide_eq_true_eq]
 exact ⟨h2, h3, by omega⟩

theorem getD_ext {b c : List Bool} (hl : b.length = c.length) (h : ∀ v : Nat, b.getD v false = c.getD v false) : b = c := by
 apply List.ext_getElem?
 intro i
 rcases Nat.lt_or_ge i b.length with h1 | h1
 · have := h i
   rw [List.getD_eq_getElem?_getD, List.getD_eq_getElem?_getD, List.getElem?_eq_getElem h1, List.getElem?_eq_getElem (by omega)] at this
   rw [List.getElem?_eq_getElem h1, List.getElem?_eq_getElem (by omega)]
   simp at this
   rw [this]
 · rw [List.getElem?_eq_none h1, List.getElem?_eq_none (by omega)]
theorem NearB.unique {n : Nat} {E : List Edg} {s t : List Nat} {b c : List Bool} (h : NearB n E s t b) (g : NearB n E s t c) : b = c := by
 have h1 := h.least c g.sep
 have h2 := g.least b h.sep
 refine getD_ext (by rw [h.sep.len, g.sep.len]) (fun v => ?_)
 have a := h.first c g.sep (by omega) v
 have b' := g.first b h.sep (by omega) v
 cases hb : b.getD v false <;> cases hc : c.getD v false
 · rfl
 · rw [b' hc] at hb; cases hb
 · rw [a hb] at hc; cases hc
 · rfl
theorem FarB.unique {n : Nat} {E : List Edg} {s t : List Nat} {b c : List Bool} (h : FarB n E s t b) (g : FarB n E s t c) : b = c := by
 have h1 := h.least c g.sep
 have h2 := g.least b h.sep
 refine getD_ext (by rw [h.sep.len, g.sep.len]) (fun v => ?_)
 have a := h.last c g.sep (by omega) v
 have b' := g.last b h.sep (by omega) v
 cases hb : b.getD v false <;> cases hc : c.getD v false
 · rfl
 · rw [a hc] at hb; cases hb
 · rw [b' hb] at hc; cases hc
 · rfl
structure IsSpl (E : List Edg) (l : List (Int × Int)) (i : Nat) (s : Spl) : Prop where
 dir : s.dir = ((i / 3 : Nat) : Int)
 kind : s.kind = ((i % 3 : Nat) : Int)
 cross : s.cross = cr s.side E
 near : i % 3 = 0 → NearB l.length E (srcN l (i / 3)) (dstN l (i / 3)) s.side
 far : i % 3 = 1 → FarB l.length E (srcN l (i / 3)) (dstN l (i / 3)) s.side
 half : i % 3 = 2 → s.side = halfB l (i / 3)
def IsAll (E : List Edg) (l : List (Int × Int)) (m : Nat) (L : List Spl) : Prop := L.length = m ∧ ∀ i s, L[i]? = some s → IsSpl E l i s
theorem IsSpl.sep {E : List Edg} {l : List (Int × Int)} {i : Nat} {s : Spl} (h : IsSpl E l i s) (h2 : 2 ≤ l.length) : SepB l.length (srcN l (i / 3)) (dstN l (i / 3)) s.side := by
 rcases (show i % 3 = 0 ∨ i % 3 = 1 ∨ i % 3 = 2 by omega) with h3 | h3 | h3
 · exact (h.near h3).sep
 · exact (h.far h3).sep
 · rw [h.half h3]; exact half_sep h2
theorem IsSpl.unique {E : List Edg} {l : List (Int × Int)} {i : Nat} {s t : Spl} (h : IsSpl E l i s) (g : IsSpl E l i t) : s = t := by
 have hs : s.side = t.side := by
  rcases (show i % 3 = 0 ∨ i % 3 = 1 ∨ i % 3 = 2 by omega) with h3 | h3 | h3
  · exact (h.near h3).unique (g.near h3)
  · exact (h.far h3).unique (g.far h3)
  · rw [h.half h3, g.half h3]
 have h1 := h.cross
 have h2 := g.cross
 have h3 := h.dir.trans g.dir.symm
 have h4 := h.kind.trans g.kind.symm
 rw [← hs, ← h1] at h2
 cases s; cases t
 simp_all
theorem IsAll.unique {E : List Edg} {l : List (Int × Int)} {m : Nat} {L M : List Spl} (h : IsAll E l m L) (g : IsAll E l m M) : L = M := by
 apply List.ext_getElem?
 intro i
 rcases Nat.lt_or_ge i m with h1 | h1
 · have e1 := List.getElem?_eq_getElem (show i < L.length by rw [h.1]; exact h1)
   have e2 := List.getElem?_eq_getElem (show i < M.length by rw [g.1]; exact h1)
   rw [e1, e2, (h.2 i _ e1).unique (g.2 i _ e2)]
 · rw [List.getElem?_eq_none (by rw [h.1]; exact h1), List.getElem?_eq_none (by rw [g.1]; exact h1)]

def offB (b : List Bool) : Int := max (2 * (cnt b : Int) - b.length) (-(2 * (cnt b : Int) - b.length))
def Opt (L : List Spl) (k : Nat) (b : Spl) : Prop := ∃ at_ : Nat, at_ < k ∧ L[at_]? = some b ∧ ∀ i s, i < k → L[i]? = some s → ¬ (s.cross < b.cross ∨ (s.cross = b.cross ∧ (offB s.side < offB b.side ∨ (offB s.side = offB b.side ∧ i < at_))))
theorem Opt.one {L : List Spl} {b : Spl} (h : L[0]? = some b) : Opt L 1 b := ⟨0, by omega, h, fun i s hi hs => by
 obtain rfl : i = 0 := by omega
 rw [h] at hs; cases hs; omega⟩
theorem Opt.keep {L : List Spl} {k : Nat} {b s : Spl} (h : Opt L k b) (hs : L[k]? = some s) (hb : s.cross > b.cross ∨ (s.cross = b.cross ∧ offB b.side ≤ offB s.side)) : Opt L (k + 1) b := by
 obtain ⟨a, ha, hL, hall⟩ := h
 refine ⟨a, by omega, hL, fun i t hi ht => ?_⟩
 rcases Nat.lt_or_ge i k with h1 | h1
 · exact hall i t h1 ht
 · obtain rfl : i = k := by omega
   rw [hs] at ht; cases ht; omega
theorem Opt.turn {L : List Spl} {k : Nat} {b s : Spl} (h : Opt L k b) (hs : L[k]? = some s) (hb : s.cross < b.cross ∨ (s.cross = b.cross ∧ offB s.side < offB b.side)) : Opt L (k + 1) s := by
 obtain ⟨a, ha, hL, hall⟩ := h
 refine ⟨k, by omega, hs, fun i t hi ht => ?_⟩
 rcases Nat.lt_or_ge i k with h1 | h1
 · have := hall i t h1 ht
   omega
 · obtain rfl : i = k := by omega
   rw [hs] at ht; cases ht; omega
theorem Opt.unique {L : List Spl} {k : Nat} {b c : Spl} (h : Opt L k b) (g : Opt L k c) : b = c := by
 obtain ⟨a, ha, hL, hall⟩ := h
 obtain ⟨a', ha', hL', hall'⟩ := g
 have h1 := hall a' c ha' hL'
 have h2 := hall' a b ha hL
 obtain rfl : a = a' := by omega
 rw [hL] at hL'
 exact Option.some.inj hL'
theorem crossN_cons (S : Int → Bool) (e : Edg) (E : List Edg) : crossN S (e :: E) = (if S e.1 = S e.2 then 0 else 1) + crossN S E := rfl
theorem crossN_app (S : Int → Bool) : ∀ A B : List Edg, crossN S (A ++ B) = crossN S A + crossN S B
 | [], B => by simp [crossN]
 | e :: A, B => by
  simp only [List.cons_append]
  rw [crossN_cons, crossN_cons, crossN_app S A B]; omega
end Go.Proofs.YtpffhoefmcpniaaGreatDoor

namespace Go.Proofs.YtpffhoefmcpniaaGreatDoor
open Go.RowKit

/-! Edges told the other way round, and from a point to itself. -/
/-! Two heaps. -/
theorem cross_one (S : Int → Bool) (a b : Int) : crossN S [(a, b)] = if S a = S b then 0 else 1 := by simp [crossN]
end Go.Proofs.YtpffhoefmcpniaaGreatDoor

namespace Go.Proofs.YtpffhoefmcpniaaGreatDoor
open Go.RowKit

attribute [local go_sem ↓] Go.wp_at_zero Go.wp_at_succ

theorem sideF_neg {b : List Bool} {v : Int} (h : v < 0) : sideF b v = false := by unfold sideF; simp; omega
theorem sideF_far {b : List Bool} {v : Int} (h : (b.length : Int) ≤ v) : sideF b v = false := by
 unfold sideF
 rw [List.getD_eq_getElem?_getD, List.getElem?_eq_none (by omega)]
 simp
theorem sideF_at {b : List Bool} {v : Nat} {x : Bool} (h : b[v]? = some x) : sideF b (v : Int) = x := by
 rw [sideF_nat, List.getD_eq_getElem?_getD, h]; rfl

theorem marks_any (A : Option Addr) (n c : Nat) (b : List Bool) (v : Int) (w : World) (h : RdB w A n b) :
 Calls Tryz.prog 125 #[.slice A n c, .int .i64 v] w fun e w' => e = .returned (.bool (sideF b v)) ∧ w = w' := by
 have hl := h.1
 by_cases h0 : v < 0
 · have h1 : ¬ (0 ≤ v) := by omega
   have HS := Lib.hid (sideF_neg (b := b) h0)
   clear hl
   go_enter Tryz.func125, Tryz.ntmps125
   go_wp2
   go_ret
   exact ⟨ret_bool HS.out.symm, rfl⟩
 · obtain ⟨k, rfl⟩ : ∃ k : Nat, v = k := ⟨v.toNat, by omega⟩
   by_cases h1 : k < n
   · obtain ⟨g, o, x, rfl, hx, hc⟩ := h.at_ h1
     have HS := Lib.hid (sideF_at hx)
     have i1 : (0 : Int) ≤ (k : Int) := by omega
     have i2 : (k : Int) < (n : Int) := by omega
     clear hx hl h0
     go_enter Tryz.func125, Tryz.ntmps125
     go_wp2
     go_ret
     exact ⟨ret_bool HS.out.symm, rfl⟩
   · have HS := Lib.hid (sideF_far (b := b) (v := (k : Int)) (by omega))
     have i1 : (0 : Int) ≤ (k : Int) := by omega
     have i2 : ¬ (k : Int) < (n : Int) := by omega
     clear hl h0
     go_enter Tryz.func125, Tryz.ntmps125
     go_wp2
     go_ret
     exact ⟨ret_bool HS.out.symm, rfl⟩

theorem marked_any (A : Option Addr) (n c : Nat) (b : List Bool) (v : Int) (w : World) (h : RdB w A n b) :
 Calls Tryz.prog 114 #[.slice A n c, .int .i64 v] w fun e w' => e = .returned (.bool (sideF b v)) ∧ w = w' := by
 have hl := h.1
 by_cases h0 : v < 0
 · have h1 : ¬ (0 ≤ v) := by omega
   have HS := Lib.hid (sideF_neg (b := b) h0)
   clear hl
   go_enter Tryz.func114, Tryz.ntmps114
   go_wp2
   go_ret
   exact ⟨ret_bool HS.out.symm, rfl⟩
 · obtain ⟨k, rfl⟩ : ∃ k : Nat, v = k := ⟨v.toNat, by omega⟩
   by_cases h1 : k < n
   · obtain ⟨g, o, x, rfl, hx, hc⟩ := h.at_ h1
     have HS := Lib.hid (sideF_at hx)
     have i1 : (0 : Int) ≤ (k : Int) := by omega
     have i2 : (k : Int) < (n : Int) := by omega
     clear hx hl h0
     go_enter Tryz.func114, Tryz.ntmps114
     go_wp2
     go_ret
     exact ⟨ret_bool HS.out.symm, rfl⟩
   · have HS := Lib.hid (sideF_far (b := b) (v := (k : Int)) (by omega))
     have i1 : (0 : Int) ≤ (k : Int) := by omega
     have i2 : ¬ (k : Int) < (n : Int) := by omega
     clear hl h0
     go_enter Tryz.func114, Tryz.ntmps114
     go_wp2
     go_ret
     exact ⟨ret_bool HS.out.symm, rfl⟩

theorem cr_take {b : List Bool} {E : List Edg} {k : Nat} {x y : Int} (h : E[k]? = some (x, y)) : cr b (E.take (k + 1)) = cr b (E.take k) + if sideF b x = sideF b y then 0 else 1 := by
 unfold cr
 rw [List.take_succ_eq_append_getElem (List.getElem?_eq_some_iff.1 h).1, (List.getElem?_eq_some_iff.1 h).2, crossN_app, cross_one]
theorem cr_le (b : List Bool) (E : List Edg) (k : Nat) : cr b (E.take k) ≤ k := Nat.le_trans (crossN_le _ _) (List.length_take_le _ _)

set_option maxHeartbeats 1000000 in
set_option maxRecDepth 100000 in
theorem cutCross_any (A AE : Option Addr) (n c m ce : Nat) (b : List Bool) (E : List Edg) (w : World) (h : RdB w A n b) (hE : RdP w AE m E) (hm : m ≤ 1000000000) :
 Calls Tryz.prog 108 #[.slice A n c, .slice AE m ce] w fun e w' => e = .returned (.int .i64 (cr b E)) ∧ Below w.heap.size w w' := by
 have HL := Lib.hid hE.1
 go_enter Tryz.func108, Tryz.ntmps108
 go_wp2
 go_loopw [5, 10] (fun t i W => Below w.heap.size w W ∧ ∃ k : Nat, k ≤ m ∧ i = .int .i64 k ∧ t = .int .i64 (cr b (E.take k))) (fun _ i _ => m - (intOf i).toNat)
 case atStart => exact ⟨Below.refl _ _, 0, Nat.zero_le _, rfl, by simp [cr, crossN]⟩
 case round =>
  obtain ⟨hbl, k, hk, rfl, rfl⟩ := hrel
  have hle := cr_le b E k
  by_cases hlt : k < m
  · obtain ⟨g, o, x, y, rfl, hx, cx, cy⟩ := hE.at_ hlt
    have HT := Lib.hid (cr_take (b := b) hx)
    have j1 := Below.cellOf hbl (Nat.le_refl _) cx
    have j2 := Below.cellOf hbl (Nat.le_refl _) cy
    have i1 : (0 : Int) ≤ (k : Int) := by omega
    have i2 : (k : Int) < (m : Int) := by omega
    obtain ⟨W2, hW2⟩ : ∃ W2, W2 = wr.alloc (.cells #[.int .i64 x, .int .i64 y] 127) := ⟨_, rfl⟩
    have hbox : Blk W2 wr.heap.size 127 #[.int .i64 x, .int .i64 y] := by rw [hW2]; exact Blk.new _ _ _
    have hbl2 : Below w.heap.size w W2 := by rw [hW2]; exact bELt
    have hr2 := h.below hbl2
    have HM := Lib.hid (show ∀ v q, Calls Tryz.prog 125 #[.slice A n c, .int .i64 v] (W2.drewN q) fun e w' => e = .returned (.bool (sideF b v)) ∧ W2.drewN q = w' from fun v q => marks_any A n c b v _ hr2)
    have v1 := hbox.two.1
    have v2 := hbox.two.2.1
    clear hx cx cy hr2 hbox
    generalize cr b (E.take k) = t at *
    go_wp2_with fail
    rw [← hW2]
    clear hW2
    go_quiet ((go_at_call 125; exact quiet_left (HM.out _ _)))
    go_wp2
    · have ht : (sideF b x != sideF b y) = true := by assumption
      go_roundw
      case rel => exact ⟨bELt, k + 1, by omega, by go_num, by rw [HT.out, if_neg (by simpa using ht)]; go_num⟩
      case measure => simp [intOf]; omega
    · have ht : (sideF b x != sideF b y) = false := by first | assumption | (simp; assumption)
      go_roundw
      case rel => exact ⟨bELt, k + 1, by omega, by go_num, by rw [HT.out, if_pos (by simpa using ht)]; rfl⟩
      case measure => simp [intOf]; omega
  · obtain rfl : k = m := by omega
    have ht : E.take k = E := List.take_of_length_le (by rw [HL.out]; exact Nat.le_refl _)
    rw [ht]
    clear ht
    go_wp2
    go_ret
    exact ⟨rfl, hbl⟩

def half2 (b : List Bool) (k n : Nat) : Int := 2 * (cnt (b.take k) : Int) - n
theorem half2_take {b : List Bool} {k n : Nat} {x : Bool} (h : b[k]? = some x) : half2 b (k + 1) n = half2 b k n + if x then 2 else 0 := by
 unfold half2
 rw [cnt_take h]
 cases x <;> simp <;> omega
theorem half2_bd (b : List Bool) (k n : Nat) (hk : k ≤ n) : -(n : Int) ≤ half2 b k n ∧ half2 b k n ≤ n := by
 have := cnt_le b k
 unfold half2
 omega
theorem offB_half {b : List Bool} {n : Nat} (h : b.length = n) : offB b = max (half2 b n n) (-half2 b n n) := by
 unfold offB half2
 rw [h, List.take_of_length_le (by omega)]
theorem off_any (A : Option Addr) (n c : Nat) (b : List Bool) (w : World) (h : RdB w A n b) (hn : n ≤ 1000000000) :
 Calls Tryz.prog 92 #[.slice A n c] w fun e w' => e = .returned (.int .i64 (offB b)) ∧ w = w' := by
 have HO := Lib.hid (offB_half h.1)
 go_enter Tryz.func92, Tryz.ntmps92
 go_wp2
 go_loop [3, 11] (fun t i => ∃ k : Nat, k ≤ n ∧ i = .int .i64 k ∧ t = .int .i64 (half2 b k n)) (fun _ i => n - (intOf i).toNat)
 case atStart => exact ⟨0, Nat.zero_le _, rfl, by simp [half2, cnt]⟩
 case round =>
  obtain ⟨k, hk, rfl, rfl⟩ := hrel
  have hbd := half2_bd b k n hk
  by_cases hlt : k < n
  · obtain ⟨g, o, x, rfl, hx, hc⟩ := h.at_ hlt
    have HS := Lib.hid (half2_take (n := n) hx)
    have i1 : (0 : Int) ≤ (k : Int) := by omega
    have i2 : (k : Int) < (n : Int) := by omega
    clear hx
    generalize half2 b k n = t at *
    cases x
    all_goals
     go_wp2
     go_round
     case rel => exact ⟨k + 1, by omega, by go_num, by first | (rw [HS.out]; done) | (rw [HS.out]; rfl) | (rw [HS.out]; simp; done) | (rw [HS.out]; go_num)⟩
     case measure => simp [intOf]; omega
  · obtain rfl : k = n := by omega
    generalize half2 b k k = t at *
    go_wp2
    all_goals
     go_ret
     exact ⟨ret_int (by first | (rw [HO.out]; done) | (rw [HO.out]; omega)), rfl⟩

end Go.Proofs.YtpffhoefmcpniaaGreatDoor
