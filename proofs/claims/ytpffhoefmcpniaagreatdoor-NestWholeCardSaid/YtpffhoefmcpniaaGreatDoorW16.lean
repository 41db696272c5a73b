/- Parts of the proof: NeP. -/
import Derived.Test.YtpffhoefmcpniaaGreatDoorW1
import Derived.Test.YtpffhoefmcpniaaGreatDoorW15
/- Cells that are built: plain. -/
namespace Go.Proofs.YtpffhoefmcpniaaGreatDoor
open Go.RowKit

/-- Those of l whose mark is c. -/
def sel (c : Bool) : List Nat → List Bool → List Nat
  | v :: vs, b :: bs => if b = c then v :: sel c vs bs else sel c vs bs
  | [], _ => []
  | _ :: _, [] => []
theorem sel_snoc (c x : Bool) (v : Nat) : ∀ (l : List Nat) (b : List Bool), l.length = b.length → sel c (l ++ [v]) (b ++ [x]) = sel c l b ++ if x = c then [v] else []
  | [], [], _ => by simp [sel]
  | [], _ :: _, h => by simp at h
  | _ :: _, [], h => by simp at h
  | u :: l, y :: b, h => by
    have ih := sel_snoc c x v l b (by simpa using h)
    simp only [List.cons_append, sel, ih]
    split <;> simp
theorem sel_take {c x : Bool} {l : List Nat} {b : List Bool} {k v : Nat} (hv : l[k]? = some v) (hb : b[k]? = some x) : sel c (l.take (k + 1)) (b.take (k + 1)) = sel c (l.take k) (b.take k) ++ if x = c then [v] else [] := by
  obtain ⟨h1, e1⟩ := List.getElem?_eq_some_iff.1 hv
  obtain ⟨h2, e2⟩ := List.getElem?_eq_some_iff.1 hb
  rw [List.take_succ_eq_append_getElem h1, List.take_succ_eq_append_getElem h2, e1, e2]
  exact sel_snoc c x v _ _ (by rw [List.length_take, List.length_take]; omega)
theorem sel_len : ∀ (l : List Nat) (b : List Bool), l.length = b.length → (sel true l b).length = cnt b ∧ (sel false l b).length + cnt b = b.length
  | [], [], _ => by simp [sel, cnt]
  | [], _ :: _, h => by simp at h
  | _ :: _, [], h => by simp at h
  | u :: l, y :: b, h => by
    have ih := sel_len l b (by simpa using h)
    unfold cnt at *
    cases y <;> simp [sel] <;> omega
theorem mem_sel {c : Bool} {v : Nat} : ∀ {l : List Nat} {b : List Bool}, v ∈ sel c l b ↔ ∃ i : Nat, l[i]? = some v ∧ b[i]? = some c
  | [], b => by simp [sel]
  | _ :: _, [] => by simp [sel]
  | u :: l, y :: b => by
    have ih := mem_sel (c := c) (v := v) (l := l) (b := b)
    constructor
    · intro h
      unfold sel at h
      split at h
      · rename_i e
        rcases List.mem_cons.1 h with rfl | h
        · exact ⟨0, rfl, by rw [← e]; rfl⟩
        · obtain ⟨i, h1, h2⟩ := ih.1 h
          exact ⟨i + 1, h1, h2⟩
      · obtain ⟨i, h1, h2⟩ := ih.1 h
        exact ⟨i + 1, h1, h2⟩
    · rintro ⟨i, h1, h2⟩
      unfold sel
      cases i with
      | zero =>
        simp at h1 h2
        subst h1 h2
        simp
      | succ i =>
        have := ih.2 ⟨i, by simpa using h1, by simpa using h2⟩
        split
        · exact List.mem_cons_of_mem _ this
        · exact this
theorem sel_sub (c : Bool) : ∀ (l : List Nat) (b : List Bool), (sel c l b).Sublist l
  | [], _ => by simp [sel]
  | _ :: _, [] => by simp [sel]
  | u :: l, y :: b => by
    unfold sel
    split
    · exact (sel_sub c l b).cons_cons u
    · exact (sel_sub c l b).cons u
theorem sel_perm : ∀ (l : List Nat) (b : List Bool), l.length = b.length → (sel true l b ++ sel false l b).Perm l
  | [], [], _ => by simp [sel]
  | [], _ :: _, h => by simp at h
  | _ :: _, [], h => by simp at h
  | u :: l, y :: b, h => by
    have ih := sel_perm l b (by simpa using h)
    cases y
    · simp [sel]
      exact (List.perm_middle).trans (ih.cons u)
    · simp [sel]
      exact ih
/-- Vertices that rise. -/
def PcOk (n : Nat) (vl : List Nat) : Prop := vl.Pairwise (· < ·) ∧ ∀ v ∈ vl, v < n
theorem PcOk.nodup {n : Nat} {vl : List Nat} (h : PcOk n vl) : vl.Nodup := h.1.imp (fun h => Nat.ne_of_lt h)
theorem PcOk.sel {n : Nat} {vl : List Nat} (h : PcOk n vl) (c : Bool) (b : List Bool) : PcOk n (sel c vl b) := ⟨h.1.sublist (sel_sub c vl b), fun v hv => h.2 v ((sel_sub c vl b).subset hv)⟩
theorem rise_len {n : Nat} : ∀ (l : List Nat) (a : Nat), l.Pairwise (· < ·) → (∀ v ∈ l, a ≤ v ∧ v < n) → l.length + a ≤ n ∨ l = []
  | [], _, _, _ => .inr rfl
  | u :: l, a, h, g => by
    have h1 := List.pairwise_cons.1 h
    have g1 := g u (List.mem_cons_self ..)
    rcases rise_len l (u + 1) h1.2 (fun v hv => ⟨h1.1 v hv, (g v (List.mem_cons_of_mem _ hv)).2⟩) with h2 | h2
    · left; simp; omega
    · left; subst h2; simp; omega
theorem PcOk.len {n : Nat} {vl : List Nat} (h : PcOk n vl) : vl.length ≤ n := by
  rcases rise_len vl 0 h.1 (fun v hv => ⟨Nat.zero_le _, h.2 v hv⟩) with h2 | h2
  · omega
  · subst h2; simp

def ptN (N : NetD) (v : Nat) : Int × Int := match N.vs[v]? with | some x => (x.1, x.2.1) | none => (0, 0)
def ptsN (N : NetD) (vl : List Nat) : List (Int × Int) := vl.map (ptN N)
def inA (N : NetD) (vl : List Nat) (k : Nat) : Bool := match N.ar[k]? with | some a => decide (a.1.toNat ∈ vl) && decide (a.2.1.toNat ∈ vl) | none => false
def arcsTo (N : NetD) (vl : List Nat) (k : Nat) : List Nat := (List.range k).filter (inA N vl)
def arcsN (N : NetD) (vl : List Nat) : List Nat := arcsTo N vl N.ar.length
theorem arcsTo_succ (N : NetD) (vl : List Nat) (k : Nat) : arcsTo N vl (k + 1) = arcsTo N vl k ++ if inA N vl k = true then [k] else [] := by
  unfold arcsTo
  rw [List.range_succ, List.filter_append]
  congr 1
  cases h : inA N vl k <;> simp [h]
theorem arcsTo_len (N : NetD) (vl : List Nat) (k : Nat) : (arcsTo N vl k).length ≤ k := by
  have := List.length_filter_le (inA N vl) (List.range k)
  simpa [arcsTo] using this
def edgOf (N : NetD) (vl : List Nat) (k : Nat) : Edg := match N.ar[k]? with | some a => ((vl.idxOf a.1.toNat : Int), (vl.idxOf a.2.1.toNat : Int)) | none => (0, 0)
def edgsN (N : NetD) (vl : List Nat) : List Edg := (arcsN N vl).map (edgOf N vl)
theorem mem_arcsN {N : NetD} {vl : List Nat} {k : Nat} : k ∈ arcsN N vl ↔ ∃ a, N.ar[k]? = some a ∧ a.1.toNat ∈ vl ∧ a.2.1.toNat ∈ vl := by
  unfold arcsN arcsTo
  rw [List.mem_filter, List.mem_range]
  unfold inA
  constructor
  · rintro ⟨h1, h2⟩
    rw [List.getElem?_eq_getElem h1] at h2 ⊢
    simp at h2
    exact ⟨_, rfl, h2.1, h2.2⟩
  · rintro ⟨a, h1, h2, h3⟩
    refine ⟨(List.getElem?_eq_some_iff.1 h1).1, ?_⟩
    rw [h1]
    simp [h2, h3]
theorem edgs_ends (N : NetD) (vl : List Nat) : Ends vl.length (edgsN N vl) := by
  intro e he
  unfold edgsN at he
  obtain ⟨k, hk, rfl⟩ := List.mem_map.1 he
  obtain ⟨a, h1, h2, h3⟩ := mem_arcsN.1 hk
  have g1 := List.idxOf_lt_length_iff.2 h2
  have g2 := List.idxOf_lt_length_iff.2 h3
  unfold edgOf
  rw [h1]
  simp only
  omega

/-- The side of the best split. -/
def IsBest (E : List Edg) (l : List (Int × Int)) (b : List Bool) : Prop := ∃ L s, IsAll E l 12 L ∧ Opt L 12 s ∧ s.side = b
theorem IsBest.unique {E : List Edg} {l : List (Int × Int)} {b c : List Bool} (h : IsBest E l b) (g : IsBest E l c) : b = c := by
  obtain ⟨L, s, h1, h2, h3⟩ := h
  obtain ⟨M, t, g1, g2, g3⟩ := g
  obtain rfl := h1.unique g1
  obtain rfl := h2.unique g2
  rw [← h3, ← g3]
def dflt (n : Nat) : List Bool := List.replicate ((n + 1) / 2) true ++ List.replicate (n / 2) false
open Classical in
noncomputable def bestB (E : List Edg) (l : List (Int × Int)) : List Bool := if h : ∃ b, IsBest E l b then h.choose else dflt l.length
theorem bestB_eq {E : List Edg} {l : List (Int × Int)} {b : List Bool} (h : IsBest E l b) : bestB E l = b := by
  have hx : ∃ b, IsBest E l b := ⟨b, h⟩
  unfold bestB
  rw [dif_pos hx]
  exact hx.choose_spec.unique h
theorem IsBest.fair {E : List Edg} {l : List (Int × Int)} {b : List Bool} (h : IsBest E l b) (h2 : 2 ≤ l.length) : b.length = l.length ∧ endsN l.length ≤ cnt b ∧ endsN l.length + cnt b ≤ l.length := by
  obtain ⟨L, s, h1, ⟨a, ha, hL, _⟩, rfl⟩ := h
  have hs := (h1.2 a s hL).sep h2
  have hf := sep_fair h2 hs
  have hl := hs.len
  unfold fairB at hf
  simp at hf
  rw [hl] at hf
  have := ends_two h2
  have hc : cnt s.side ≤ s.side.length := by unfold cnt; exact List.count_le_length
  omega
theorem bestB_fair (E : List Edg) {l : List (Int × Int)} (h2 : 2 ≤ l.length) : (bestB E l).length = l.length ∧ endsN l.length ≤ cnt (bestB E l) ∧ endsN l.length + cnt (bestB E l) ≤ l.length := by
  by_cases h : ∃ b, IsBest E l b
  · obtain ⟨b, h⟩ := h
    rw [bestB_eq h]
    exact h.fair h2
  · unfold bestB
    rw [dif_neg h]
    have := ends_two h2
    have hc : cnt (dflt l.length) = (l.length + 1) / 2 := by unfold cnt dflt; simp [List.count_append, List.count_replicate]
    have hl : (dflt l.length).length = l.length := by simp [dflt]; omega
    omega
noncomputable def sideN (N : NetD) (vl : List Nat) : List Bool := bestB (edgsN N vl) (ptsN N vl)
noncomputable def hlf (N : NetD) (c : Bool) (vl : List Nat) : List Nat := sel c vl (sideN N vl)
theorem pts_len (N : NetD) (vl : List Nat) : (ptsN N vl).length = vl.length := by simp [ptsN]
theorem side_fair (N : NetD) {vl : List Nat} (h2 : 2 ≤ vl.length) : (sideN N vl).length = vl.length ∧ endsN vl.length ≤ cnt (sideN N vl) ∧ endsN vl.length + cnt (sideN N vl) ≤ vl.length := by
  have := bestB_fair (edgsN N vl) (l := ptsN N vl) (by rw [pts_len]; exact h2)
  rw [pts_len] at this
  exact this
theorem hlf_len (N : NetD) (c : Bool) {vl : List Nat} (h2 : 2 ≤ vl.length) : (hlf N c vl).length < vl.length ∧ vl.length ≤ 4 * (hlf N c vl).length := by
  have h := side_fair N h2
  have g := sel_len vl (sideN N vl) h.1.symm
  have e := ends_two h2
  have q : vl.length ≤ 4 * endsN vl.length := by unfold endsN; rw [if_neg (by omega)]; omega
  unfold hlf
  cases c <;> omega
theorem hlf_perm (N : NetD) {vl : List Nat} (h2 : 2 ≤ vl.length) : (hlf N true vl ++ hlf N false vl).Perm vl := sel_perm _ _ (side_fair N h2).1.symm
theorem PcOk.hlf {n : Nat} {vl : List Nat} (h : PcOk n vl) (N : NetD) (c : Bool) : PcOk n (hlf N c vl) := h.sel c _
/-- A piece, cut till none has more than bd. -/
noncomputable def pcs (N : NetD) (bd : Nat) (vl : List Nat) : List (List Nat) :=
  if vl.length = 0 then [] else if _h : vl.length ≤ bd ∨ vl.length < 2 then [vl] else pcs N bd (hlf N true vl) ++ pcs N bd (hlf N false vl)
termination_by vl.length
decreasing_by
  · exact (hlf_len N true (by omega)).1
  · exact (hlf_len N false (by omega)).1
theorem pcs_nil (N : NetD) (bd : Nat) : pcs N bd [] = [] := by rw [pcs]; simp
theorem pcs_one (N : NetD) {bd : Nat} {vl : List Nat} (h0 : vl.length ≠ 0) (h : vl.length ≤ bd ∨ vl.length < 2) : pcs N bd vl = [vl] := by rw [pcs, if_neg h0, dif_pos h]
theorem pcs_two (N : NetD) {bd : Nat} {vl : List Nat} (h : bd < vl.length) (h2 : 2 ≤ vl.length) : pcs N bd vl = pcs N bd (hlf N true vl) ++ pcs N bd (hlf N false vl) := by
  rw [pcs, if_neg (by omega), dif_neg (by omega)]
theorem pcs_ind (N : NetD) (bd : Nat) {Q : List Nat → List (List Nat) → Prop} (h0 : Q [] []) (h1 : ∀ vl, vl.length ≠ 0 → (vl.length ≤ bd ∨ vl.length < 2) → Q vl [vl])
    (h2 : ∀ vl, 2 ≤ vl.length → bd < vl.length → Q (hlf N true vl) (pcs N bd (hlf N true vl)) → Q (hlf N false vl) (pcs N bd (hlf N false vl)) → Q vl (pcs N bd (hlf N true vl) ++ pcs N bd (hlf N false vl))) : ∀ vl, Q vl (pcs N bd vl) := by
  have H : ∀ (n : Nat) (vl : List Nat), vl.length = n → Q vl (pcs N bd vl) := by
    intro n
    induction n using Nat.strongRecOn with
    | ind n ih =>
      intro vl hn
      by_cases e0 : vl.length = 0
      · rw [List.eq_nil_of_length_eq_zero e0, pcs_nil]; exact h0
      · by_cases e1 : vl.length ≤ bd ∨ vl.length < 2
        · rw [pcs_one N e0 e1]; exact h1 vl e0 e1
        · have t2 : 2 ≤ vl.length := by omega
          rw [pcs_two N (by omega) t2]
          exact h2 vl t2 (by omega) (ih _ (by rw [← hn]; exact (hlf_len N true t2).1) _ rfl) (ih _ (by rw [← hn]; exact (hlf_len N false t2).1) _ rfl)
  exact fun vl => H _ vl rfl
theorem pcs_perm (N : NetD) (bd : Nat) : ∀ vl, (pcs N bd vl).flatten.Perm vl := by
  refine pcs_ind N bd (Q := fun vl ps => ps.flatten.Perm vl) (by simp) (fun vl _ _ => by simp) (fun vl t2 _ h1 h2 => ?_)
  rw [List.flatten_append]
  exact (h1.append h2).trans (hlf_perm N t2)
theorem pcs_ok {n : Nat} (N : NetD) (bd : Nat) : ∀ vl, PcOk n vl → ∀ p ∈ pcs N bd vl, PcOk n p ∧ p ≠ [] := by
  refine pcs_ind N bd (Q := fun vl ps => PcOk n vl → ∀ p ∈ ps, PcOk n p ∧ p ≠ []) (fun _ p hp => by cases hp) (fun vl h0 _ h p hp => ?_) (fun vl _ _ h1 h2 h p hp => ?_)
  · rw [List.mem_singleton.1 hp]
    exact ⟨h, fun e => h0 (by rw [e]; rfl)⟩
  · rcases List.mem_append.1 hp with hp | hp
    · exact h1 (h.hlf N true) p hp
    · exact h2 (h.hlf N false) p hp
theorem pcs_le (N : NetD) {bd : Nat} (hb : 1 ≤ bd) : ∀ vl, ∀ p ∈ pcs N bd vl, p.length ≤ bd := by
  refine pcs_ind N bd (Q := fun vl ps => ∀ p ∈ ps, p.length ≤ bd) (fun p hp => by cases hp) (fun vl h0 h p hp => ?_) (fun vl _ _ h1 h2 p hp => ?_)
  · rw [List.mem_singleton.1 hp]; omega
  · rcases List.mem_append.1 hp with hp | hp
    · exact h1 p hp
    · exact h2 p hp
theorem pcs_quarter (N : NetD) (bd : Nat) : ∀ vl, ∀ p ∈ pcs N bd vl, p = vl ∨ bd + 1 ≤ 4 * p.length := by
  refine pcs_ind N bd (Q := fun vl ps => ∀ p ∈ ps, p = vl ∨ bd + 1 ≤ 4 * p.length) (fun p hp => by cases hp) (fun vl h0 h p hp => .inl (List.mem_singleton.1 hp)) (fun vl t2 hb h1 h2 p hp => ?_)
  have g1 := (hlf_len N true t2).2
  have g2 := (hlf_len N false t2).2
  rcases List.mem_append.1 hp with hp | hp
  · rcases h1 p hp with rfl | h
    · exact .inr (by omega)
    · exact .inr h
  · rcases h2 p hp with rfl | h
    · exact .inr (by omega)
    · exact .inr h
theorem pcs_many (N : NetD) {bd : Nat} {vl : List Nat} (h : 1 < (pcs N bd vl).length) {p : List Nat} (hp : p ∈ pcs N bd vl) : bd + 1 ≤ 4 * p.length := by
  by_cases e0 : vl.length = 0
  · rw [List.eq_nil_of_length_eq_zero e0, pcs_nil] at h; simp at h
  by_cases e1 : vl.length ≤ bd ∨ vl.length < 2
  · rw [pcs_one N e0 e1] at h; simp at h
  have t2 : 2 ≤ vl.length := by omega
  rw [pcs_two N (by omega) t2] at hp
  have g1 := (hlf_len N true t2).2
  have g2 := (hlf_len N false t2).2
  rcases List.mem_append.1 hp with hp | hp
  · rcases pcs_quarter N bd _ p hp with rfl | h
    · omega
    · exact h
  · rcases pcs_quarter N bd _ p hp with rfl | h
    · omega
    · exact h
theorem flat_ones : ∀ {ps : List (List Nat)}, (∀ p ∈ ps, p.length = 1) → ps.flatten.length = ps.length
  | [], _ => rfl
  | p :: ps, h => by
    have := flat_ones (ps := ps) (fun q hq => h q (List.mem_cons_of_mem _ hq))
    have h1 := h p (List.mem_cons_self ..)
    simp at this ⊢
    omega
theorem pcs_ones (N : NetD) {n : Nat} {vl : List Nat} (h : PcOk n vl) : (pcs N 1 vl).length = vl.length := by
  rw [← (pcs_perm N 1 vl).length_eq, flat_ones]
  intro p hp
  have h1 := pcs_le N (Nat.le_refl 1) vl p hp
  have h2 := (pcs_ok N 1 vl h p hp).2
  have : p.length ≠ 0 := fun e => h2 (List.eq_nil_of_length_eq_zero e)
  omega
/-- Weights turn nothing. -/
structure SameW (N M : NetD) : Prop where
  vs : M.vs = N.vs
  ends : M.ar.map (fun a => (a.1, a.2.1)) = N.ar.map (fun a => (a.1, a.2.1))
theorem SameW.at_ {N M : NetD} (h : SameW N M) (k : Nat) : (M.ar[k]?).map (fun a => (a.1, a.2.1)) = (N.ar[k]?).map (fun a => (a.1, a.2.1)) := by
  have := congrArg (fun l => l[k]?) h.ends
  simpa using this
theorem SameW.inA {N M : NetD} (h : SameW N M) (vl : List Nat) (k : Nat) : inA M vl k = inA N vl k := by
  have := h.at_ k
  unfold Go.Proofs.YtpffhoefmcpniaaGreatDoor.inA
  cases h1 : M.ar[k]? <;> cases h2 : N.ar[k]? <;> simp [h1, h2] at this ⊢
  rw [this.1, this.2]
theorem SameW.edg {N M : NetD} (h : SameW N M) (vl : List Nat) (k : Nat) : edgOf M vl k = edgOf N vl k := by
  have := h.at_ k
  unfold edgOf
  cases h1 : M.ar[k]? <;> cases h2 : N.ar[k]? <;> simp [h1, h2] at this ⊢
  rw [this.1, this.2]
  exact ⟨rfl, rfl⟩
theorem SameW.side {N M : NetD} (h : SameW N M) (vl : List Nat) : sideN M vl = sideN N vl := by
  have hl : M.ar.length = N.ar.length := by
    have := congrArg List.length h.ends
    simpa using this
  have e1 : edgsN M vl = edgsN N vl := by
    unfold edgsN arcsN arcsTo
    rw [hl, List.filter_congr (fun k _ => h.inA vl k)]
    exact List.map_congr_left (fun k _ => h.edg vl k)
  have e2 : ptsN M vl = ptsN N vl := by unfold ptsN; exact List.map_congr_left (fun v _ => by unfold ptN; rw [h.vs])
  unfold sideN
  rw [e1, e2]
theorem SameW.pcs {N M : NetD} (h : SameW N M) (bd : Nat) : ∀ vl, pcs M bd vl = pcs N bd vl := by
  refine pcs_ind N bd (Q := fun vl ps => Go.Proofs.YtpffhoefmcpniaaGreatDoor.pcs M bd vl = ps) (pcs_nil M bd) (fun vl h0 h1 => pcs_one M h0 h1) (fun vl t2 hb h1 h2 => ?_)
  rw [pcs_two M hb t2]
  unfold Go.Proofs.YtpffhoefmcpniaaGreatDoor.hlf at *
  rw [h.side vl, h1, h2]
end Go.Proofs.YtpffhoefmcpniaaGreatDoor
