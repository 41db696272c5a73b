/- Parts of the proof: QFlW. -/
import Derived.Test.YtpffhoefmcpniaaGreatDoorW1
import Derived.Test.YtpffhoefmcpniaaGreatDoorW8
/- flow.work: what its memory reads as. -/
namespace Go.Proofs.YtpffhoefmcpniaaGreatDoor
open Go.RowKit

/-- All that the one world's cells hold the other one's hold. -/
def Subw (a b : World) : Prop := ∀ p v, a.cell? p = some v → b.cell? p = some v
/-- A block without a cell. -/
def Freew (w : World) (k : Nat) : Prop := ∀ p : Addr, p.block = k → w.cell? p = none
theorem Subw.refl (w : World) : Subw w w := fun _ _ h => h
theorem Subw.trans {a b c : World} (h : Subw a b) (g : Subw b c) : Subw a c := fun p v e => g p v (h p v e)
theorem Subw.of {a b : World} (hb : Below a.heap.size a b) : Subw a b := fun _ _ e => Below.cellOf hb (Nat.le_refl _) e
theorem Subw.below {a b c : World} (h : Subw a b) (hb : Below b.heap.size b c) : Subw a c := h.trans (Subw.of hb)
theorem Subw.free {a b : World} {k : Nat} (h : Subw a b) (hk : b.heap.size ≤ k) : Freew a k := fun p e => by
  cases hc : a.cell? p with
  | none => rfl
  | some v => have := lt_of_cell (h p v hc); omega
theorem Subw.grown {a b c : World} {r : Nat} (h : Subw a b) (hg : b.grownBy c (some r)) (hf : Freew a r) : Subw a c := fun p v e => by
  have hb := h p v e
  have hne : p.block ≠ r := fun er => by rw [hf p er] at e; cases e
  have hk := hg.block p.block (lt_of_cell hb) (fun er => hne (by injection er))
  unfold World.cell? at hb ⊢
  rw [hk]
  exact hb
theorem Subw.setCell {a b : World} {g i : Nat} (h : Subw a b) (hf : Freew a g) (v : Value) : Subw a (b.setCell ⟨g, i, none⟩ v) := h.grown (grownBy_set b g i v) hf
theorem RdK.sub {k : IntKind} {w w' : World} {A : Option Addr} {n : Nat} {l : List Int} (h : RdK k w A n l) (hb : Subw w w') : RdK k w' A n l :=
  ⟨h.1, fun i x hx => by obtain ⟨b, o, e, hc⟩ := h.2 i x hx; exact ⟨b, o, e, hb _ _ hc⟩⟩
theorem RdL.sub {w w' : World} {A : Option Addr} {n : Nat} {l : List Lnk} (h : RdL w A n l) (hb : Subw w w') : RdL w' A n l :=
  ⟨h.1, fun i x hx => by
    obtain ⟨b, o, e, h1, h2, h3, h4⟩ := h.2 i x hx
    exact ⟨b, o, e, hb _ _ h1, hb _ _ h2, hb _ _ h3, hb _ _ h4⟩⟩
theorem RdN.sub {w w' : World} {A : Option Addr} {n : Nat} {ls : List (List Lnk)} (h : RdN w A n ls) (hb : Subw w w') : RdN w' A n ls :=
  ⟨h.1, fun i l hl => by
    obtain ⟨b, o, A', c', h1, h2, h3, h4, h5⟩ := h.2 i l hl
    exact ⟨b, o, A', c', h1, hb _ _ h2, h3.sub hb, h4, h5⟩⟩
/-- The work, its links, its flow, its ends, its depths, what is next; links lie in older memory. -/
structure Wk (w0 W : World) (n m gw gf ge gd gx ct : Nat) (AT : Option Addr) (ls : List (List Lnk)) (f : List Int) (en : List Bool) (d nx : List Int) : Prop where
  at0 : RdN w0 AT n ls
  bel : Subw w0 W
  z : Freew w0 gw ∧ Freew w0 gf ∧ Freew w0 ge ∧ Freew w0 gd ∧ Freew w0 gx
  ne : gw ≠ gf ∧ gw ≠ ge ∧ gw ≠ gd ∧ gw ≠ gx ∧ gf ≠ ge ∧ gf ≠ gd ∧ gf ≠ gx ∧ ge ≠ gd ∧ ge ≠ gx ∧ gd ≠ gx
  bw : Blk W gw 219 #[.slice AT n ct, .slice (some ⟨gf, 0, none⟩) m m, .slice (some ⟨ge, 0, none⟩) n n, .slice (some ⟨gd, 0, none⟩) n n, .slice (some ⟨gx, 0, none⟩) n n]
  bf : Blk W gf 3 (ints f)
  be : Blk W ge 4 (bools en)
  bd : Blk W gd 3 (ints d)
  bx : Blk W gx 3 (ints nx)
  lf : f.length = m
  le : en.length = n
  ld : d.length = n
  lx : nx.length = n
theorem grownBy_trans {a b c : World} {r : Option Nat} (h : a.grownBy b r) (g : b.grownBy c r) : a.grownBy c r :=
  ⟨g.os.trans h.os, g.tape.trans h.tape, g.output.trans h.output, Nat.le_trans h.size g.size, fun k hk hne => (g.block k (Nat.lt_of_lt_of_le hk h.size) hne).trans (h.block k hk hne)⟩
theorem grownBy_below {a b : World} (h : Below a.heap.size a b) (r : Option Nat) : a.grownBy b r := ⟨h.os, h.tape, h.output, h.size, fun k hk _ => h.block k hk⟩
theorem grownBy_new {a b : World} {r : Option Nat} {g i : Nat} {v : Value} (h : a.grownBy b r) (hg : a.heap.size ≤ g) : a.grownBy (b.setCell ⟨g, i, none⟩ v) r :=
  ⟨h.os, h.tape, h.output, Nat.le_trans h.size (by simp [World.setCell]), fun k hk hne => (Below.heap_setCell b ⟨g, i, none⟩ v k (by simp only; omega)).trans (h.block k hk hne)⟩
theorem Blk.five {w : World} {g : Nat} {t : TypeId} {a b c d e : Value} (h : Blk w g t #[a, b, c, d, e]) :
    w.cell? ⟨g, 0, none⟩ = some a ∧ w.cell? ⟨g, 1, none⟩ = some b ∧ w.cell? ⟨g, 2, none⟩ = some c ∧ w.cell? ⟨g, 3, none⟩ = some d ∧ w.cell? ⟨g, 4, none⟩ = some e :=
  ⟨by rw [h.cell]; rfl, by rw [h.cell]; rfl, by rw [h.cell]; rfl, by rw [h.cell]; rfl, by rw [h.cell]; rfl⟩
section
variable {w0 W W' : World} {n m gw gf ge gd gx ct : Nat} {AT : Option Addr} {ls : List (List Lnk)} {f : List Int} {en : List Bool} {d nx : List Int}
theorem Wk.below (h : Wk w0 W n m gw gf ge gd gx ct AT ls f en d nx) (hb : Below W.heap.size W W') : Wk w0 W' n m gw gf ge gd gx ct AT ls f en d nx :=
  ⟨h.at0, h.bel.below hb, h.z, h.ne, h.bw.below hb h.bw.lt, h.bf.below hb h.bf.lt, h.be.below hb h.be.lt, h.bd.below hb h.bd.lt, h.bx.below hb h.bx.lt, h.lf, h.le, h.ld, h.lx⟩
theorem Wk.setX {v : Nat} {y : Int} (h : Wk w0 W n m gw gf ge gd gx ct AT ls f en d nx) : Wk w0 (W.setCell ⟨gx, v, none⟩ (.int .i64 y)) n m gw gf ge gd gx ct AT ls f en d (nx.set v y) :=
  ⟨h.at0, h.bel.setCell h.z.2.2.2.2 _, h.z, h.ne, h.bw.far_ h.ne.2.2.2.1 _, h.bf.far_ h.ne.2.2.2.2.2.2.1 _, h.be.far_ h.ne.2.2.2.2.2.2.2.2.1 _, h.bd.far_ h.ne.2.2.2.2.2.2.2.2.2 _, h.bx.setI rfl, h.lf, h.le, h.ld, by rw [List.length_set]; exact h.lx⟩
theorem Wk.setF {v : Nat} {y : Int} (h : Wk w0 W n m gw gf ge gd gx ct AT ls f en d nx) : Wk w0 (W.setCell ⟨gf, v, none⟩ (.int .i64 y)) n m gw gf ge gd gx ct AT ls (f.set v y) en d nx :=
  ⟨h.at0, h.bel.setCell h.z.2.1 _, h.z, h.ne, h.bw.far_ h.ne.1 _, h.bf.setI rfl, h.be.far_ (Ne.symm h.ne.2.2.2.2.1) _, h.bd.far_ (Ne.symm h.ne.2.2.2.2.2.1) _, h.bx.far_ (Ne.symm h.ne.2.2.2.2.2.2.1) _, by rw [List.length_set]; exact h.lf, h.le, h.ld, h.lx⟩
theorem Wk.drew (h : Wk w0 W n m gw gf ge gd gx ct AT ls f en d nx) : Wk w0 W.drew n m gw gf ge gd gx ct AT ls f en d nx := h.below (Below.refl _ _).drew
theorem Wk.grown {r : Nat} (h : Wk w0 W n m gw gf ge gd gx ct AT ls f en d nx) (hg : W.grownBy W' (some r)) (hr : Freew w0 r ∧ r ≠ gw ∧ r ≠ gf ∧ r ≠ ge ∧ r ≠ gd ∧ r ≠ gx) : Wk w0 W' n m gw gf ge gd gx ct AT ls f en d nx :=
  ⟨h.at0, h.bel.grown hg hr.1, h.z, h.ne, h.bw.grown hg (fun e => hr.2.1 (by injection e)), h.bf.grown hg (fun e => hr.2.2.1 (by injection e)), h.be.grown hg (fun e => hr.2.2.2.1 (by injection e)), h.bd.grown hg (fun e => hr.2.2.2.2.1 (by injection e)), h.bx.grown hg (fun e => hr.2.2.2.2.2 (by injection e)), h.lf, h.le, h.ld, h.lx⟩
end
/-- A link that leads one farther, with room. -/
def Adm (f d : List Int) (v : Nat) (k : Lnk) : Prop := rm f 1 k ∧ dAt d k.v = dAt d v + 1
/-- What is so of links. -/
def LkIn (n m : Nat) (ls : List (List Lnk)) : Prop := ∀ (a : Nat) (l : List Lnk), ls[a]? = some l → l.length ≤ 3000000 ∧ ∀ k ∈ l, k.u = a ∧ k.v < n ∧ k.e < m ∧ (k.y = 1 ∨ k.y = -1)
abbrev lnkV (k : Lnk) : Value := .agg #[.int .i64 k.e, .int .i64 k.u, .int .i64 k.v, .int .i64 k.y]
abbrev lnk0 : Value := .agg #[.int .i64 0, .int .i64 0, .int .i64 0, .int .i64 0]
theorem nx_at {d : List Int} {n v : Nat} (h : d.length = n) (hv : v < n) : ∃ z, d[v]? = some z ∧ dAt d v = z := by
  refine ⟨_, List.getElem?_eq_getElem (by omega), ?_⟩
  unfold dAt
  rw [List.getD_eq_getElem?_getD, List.getElem?_eq_getElem (by omega)]
  rfl
end Go.Proofs.YtpffhoefmcpniaaGreatDoor
