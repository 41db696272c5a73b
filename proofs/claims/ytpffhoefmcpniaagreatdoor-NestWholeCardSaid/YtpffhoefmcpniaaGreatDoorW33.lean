/- Parts of the proof: Err. -/
import Derived.Test.YtpffhoefmcpniaaGreatDoorW1
import Derived.LaidEql
import Derived.Stop.Asserts
import Derived.RowKitTokens
import Derived.Lib.IfaceEq
import Derived.Stop.IfaceNil
/- errors.Is, errors.As over chains of api.Fault: by contracts. After the worked texts Sentry and Toyas. -/
namespace Go.Proofs.YtpffhoefmcpniaaGreatDoor
open Go.RowKit Go.Extern.Stop Go.Stop Go.Extern

abbrev errV (c : Int) : Value := .iface 94 (.int .i64 c)
abbrev fltV (b o : Nat) : Value := .iface 95 (.pointer (some ⟨b, o, none⟩))

/-- An error that is Faults, one in the other, and an Errno within. -/
def Chain (w : World) : Value → List (ByteArray × Int) → Int → Prop
  | v, [], c => v = errV c
  | v, p :: ps, c => ∃ b o u, v = fltV b o ∧ w.cell? ⟨b, o, none⟩ = some (.string p.1) ∧ w.cell? ⟨b, o + 1, none⟩ = some (.int .i64 p.2) ∧ w.cell? ⟨b, o + 2, none⟩ = some u ∧ Chain w u ps c
theorem Chain.below {w w' : World} (hb : Below w.heap.size w w') : ∀ {ps : List (ByteArray × Int)} {v : Value} {c : Int}, Chain w v ps c → Chain w' v ps c
  | [], _, _, h => h
  | _ :: _, _, _, h => by
    obtain ⟨b, o, u, h1, h2, h3, h4, h5⟩ := h
    exact ⟨b, o, u, h1, Below.cellOf hb (Nat.le_refl _) h2, Below.cellOf hb (Nat.le_refl _) h3, Below.cellOf hb (Nat.le_refl _) h4, Chain.below hb h5⟩

/-! closed facts -/
theorem er_typeOf (v : Value) (w : World) : (ReflectliteType.typeOf #[.iface 94 v]).run Tryz.prog w = .ok (.iface 169 (.agg #[.pointer (some ⟨1, 94, none⟩)])) w := by kernel_rfl
theorem er_typeOfF (v : Value) (w : World) : (ReflectliteType.typeOf #[.iface 95 v]).run Tryz.prog w = .ok (.iface 169 (.agg #[.pointer (some ⟨1, 95, none⟩)])) w := by kernel_rfl
def erComp : Array Value → Sem Value := ReflectliteType.method fun t => do Rtype.noPackHeld "Comparable" t; pure (.bool (← typeInfo t).comparable)
theorem er_comparable (w : World) : (erComp #[.agg #[.pointer (some ⟨1, 94, none⟩)]]).run Tryz.prog w = .ok (.bool true) w := by kernel_rfl
theorem er_mComparable (v : Value) (w : World) : (Go.method 382 169 v "Comparable").run Tryz.prog w = .ok (175, v) w := by kernel_rfl
theorem er_noIs (v : Value) (xT : TypeId) (w : World) : (Instr.typeAssert (.iface 94 v) xT 171 true).run Tryz.prog w = .ok (.tuple #[.nilIface, .bool false]) w := run_typeAssert_lacksB Tryz.underlying171 (by kernel_rfl) (by kernel_rfl) v xT w
theorem er_noIsF (v : Value) (xT : TypeId) (w : World) : (Instr.typeAssert (.iface 95 v) xT 171 true).run Tryz.prog w = .ok (.tuple #[.nilIface, .bool false]) w := run_typeAssert_lacksB Tryz.underlying171 (by kernel_rfl) (by kernel_rfl) v xT w
theorem er_noUnwrap (v : Value) (xT : TypeId) (w : World) : (Instr.typeAssert (.iface 94 v) xT 174 true).run Tryz.prog w = .ok (.tuple #[.nilIface, .bool false]) w := run_typeAssert_lacksB Tryz.underlying174 (by kernel_rfl) (by kernel_rfl) v xT w
theorem er_noUnwraps (v : Value) (xT : TypeId) (w : World) : (Instr.typeAssert (.iface 94 v) xT 176 true).run Tryz.prog w = .ok (.tuple #[.nilIface, .bool false]) w := run_typeAssert_lacksB Tryz.underlying176 (by kernel_rfl) (by kernel_rfl) v xT w
theorem er_noAs (v : Value) (xT : TypeId) (w : World) : (Instr.typeAssert (.iface 94 v) xT 181 true).run Tryz.prog w = .ok (.tuple #[.nilIface, .bool false]) w := run_typeAssert_lacksB Tryz.underlying181 (by kernel_rfl) (by kernel_rfl) v xT w
theorem er_hasUnwrapF (v : Value) (xT : TypeId) (w : World) : (Instr.typeAssert (.iface 95 v) xT 174 true).run Tryz.prog w = .ok (.tuple #[.iface 95 v, .bool true]) w := run_typeAssert_hasB Tryz.underlying174 (by kernel_rfl) v xT w
theorem er_mUnwrap (v : Value) (w : World) : (Go.method 382 95 v "Unwrap").run Tryz.prog w = .ok (169, v) w := by kernel_rfl
theorem er_comp : (Tryz.prog.info? 94).map (·.comparable) = some true := by kernel_rfl
theorem er_eq (a b : Int) (w : World) : (binOp .eql 36 (errV a) (errV b)).run Tryz.prog w = .ok (.bool (a == b)) w := Lib.run_eql_iface_int w a b Tryz.underlying36 er_comp Tryz.underlying94
theorem er_ne (p : Value) (b : Int) (w : World) : (binOp .eql 36 (.iface 95 p) (errV b)).run Tryz.prog w = .ok (.bool false) w := run_eql_iface_types (P := Tryz.prog) 95 94 p (.int .i64 b) Tryz.underlying36 (by decide) w

/-- The errors that a chain is. -/
theorem chain_cases {w : World} {v : Value} {ps : List (ByteArray × Int)} {c : Int} (h : Chain w v ps c) : v = errV c ∧ ps = [] ∨ ∃ b o u p t, v = fltV b o ∧ ps = p :: t ∧ w.cell? ⟨b, o, none⟩ = some (.string p.1) ∧ w.cell? ⟨b, o + 1, none⟩ = some (.int .i64 p.2) ∧ w.cell? ⟨b, o + 2, none⟩ = some u ∧ Chain w u t c := by
  cases ps with
  | nil => exact .inl ⟨h, rfl⟩
  | cons p t => obtain ⟨b, o, u, h1, h2, h3, h4, h5⟩ := h; exact .inr ⟨b, o, u, p, t, h1, rfl, h2, h3, h4, h5⟩
theorem chain_not_nil {w : World} {v : Value} {ps : List (ByteArray × Int)} {c : Int} (h : Chain w v ps c) : ∃ t x, v = .iface t x := by
  rcases chain_cases h with ⟨h, _⟩ | ⟨b, o, u, p, t, h, _⟩ <;> exact ⟨_, _, h⟩

theorem chain_len {w : World} : ∀ {ps qs : List (ByteArray × Int)} {v : Value} {c d : Int}, Chain w v ps c → Chain w v qs d → ps.length = qs.length
  | [], [], _, _, _, _, _ => rfl
  | [], _ :: _, _, _, _, h, g => by obtain ⟨b, o, u, h1, _⟩ := g; unfold Chain at h; rw [h] at h1; cases h1
  | _ :: _, [], _, _, _, g, h => by obtain ⟨b, o, u, h1, _⟩ := g; unfold Chain at h; rw [h] at h1; cases h1
  | _ :: _, _ :: _, _, _, _, h, g => by
    obtain ⟨b, o, u, h1, _, _, h2, h3⟩ := h
    obtain ⟨b', o', u', g1, _, _, g2, g3⟩ := g
    rw [h1] at g1
    cases g1
    rw [h2] at g2
    cases g2
    simp [chain_len h3 g3]
noncomputable def chainLen (w : World) (v : Value) : Nat := by
  classical exact if h : ∃ n c, ∃ ps, Chain w v ps c ∧ ps.length = n then h.choose else 0
theorem chainLen_eq {w : World} {ps : List (ByteArray × Int)} {v : Value} {c : Int} (h : Chain w v ps c) : chainLen w v = ps.length := by
  have hex : ∃ n c, ∃ ps, Chain w v ps c ∧ ps.length = n := ⟨_, c, ps, h, rfl⟩
  unfold chainLen
  rw [dif_pos hex]
  obtain ⟨d, qs, g, hl⟩ := hex.choose_spec
  rw [← hl]
  exact chain_len g h

theorem unwrap_any (b o : Nat) (u : Value) (w : World) (h : w.cell? ⟨b, o + 2, none⟩ = some u) :
    Calls Tryz.prog 169 #[.pointer (some ⟨b, o, none⟩)] w fun e w' => e = .returned u ∧ w' = w := by
  go_enter Tryz.func169, Tryz.ntmps169
  go_wp2
  go_ret
  exact ⟨rfl, rfl⟩

set_option maxHeartbeats 1000000 in
/-- errors.is over a chain, looking for its Errno: true. -/
theorem is_loop (v : Value) (ps : List (ByteArray × Int)) (c : Int) (w : World) (h : Chain w v ps c) :
    Calls Tryz.prog 63 #[v, errV c, .bool true] w fun e w' => e = .returned (.bool true) ∧ w' = w := by
  have nE := er_noIs
  have nF := er_noIsF
  have uF := er_hasUnwrapF
  have mU := er_mUnwrap
  have heq := er_eq
  have hne := er_ne
  have hCL : ∀ (ps : List (ByteArray × Int)) (v : Value) (c : Int), Chain w v ps c → chainLen w v = ps.length := fun _ _ _ h => chainLen_eq h
  have HCL := Lib.hid hCL; clear hCL
  have HU : ∀ (b o : Nat) (u : Value), w.cell? ⟨b, o + 2, none⟩ = some u → Calls Tryz.prog 169 #[.pointer (some ⟨b, o, none⟩)] w fun e w' => e = .returned u ∧ w' = w := fun b o u h => unwrap_any b o u w h
  have HU' := Lib.hid HU; clear HU
  go_enter Tryz.func63, Tryz.ntmps63
  go_wp2
  go_loop [0] (fun i => ∃ qs, Chain w i qs c) (fun i => chainLen w i)
  case atStart => exact ⟨ps, h⟩
  case round =>
    obtain ⟨qs, hq⟩ := hrel
    rcases chain_cases hq with ⟨rfl, rfl⟩ | ⟨b, o, u, p, t, rfl, rfl, h1, h2, h3, h4⟩
    · clear hq h
      go_wp2
      go_ret
      exact ⟨rfl, rfl⟩
    · obtain ⟨tu, xu, rfl⟩ := chain_not_nil h4
      have e1 := HCL.out _ _ _ hq
      have e2 := HCL.out _ _ _ h4
      have E1 := Lib.hid e1; clear e1
      have E2 := Lib.hid e2; clear e2
      have H4 := Lib.hid h4; clear h4
      have h3' := h3
      clear hq h
      go_wp2_with (go_at_call 169; refine (HU'.out b o _ h3).mono ?_; rintro e w' ⟨rfl, rfl⟩)
      go_round
      case rel => exact ⟨t, H4.out⟩
      case measure => rw [E1.out, E2.out]; simp

set_option maxHeartbeats 1000000 in
/-- errors.Is over a chain, its own Errno: true. -/
theorem errorsIs (v : Value) (ps : List (ByteArray × Int)) (c : Int) (w : World) (h : Chain w v ps c) :
    Calls Tryz.prog 37 #[v, errV c] w fun e w' => e = .returned (.bool true) ∧ w' = w := by
  have h10 := @run_callFunc_extern Tryz.prog 62 _ ReflectliteType.typeOf Tryz.func62 (by kernel_rfl) (by kernel_rfl) (by kernel_rfl) (by kernel_rfl)
  have h32 := @run_callFunc_extern Tryz.prog 175 _ erComp Tryz.func175 (by kernel_rfl) (by kernel_rfl) (by kernel_rfl) (by kernel_rfl)
  have tT := er_typeOf
  have cT := er_comparable
  have mR := er_mComparable
  have HL := Lib.hid (is_loop v ps c w h)
  obtain ⟨tv, xv, rfl⟩ := chain_not_nil h
  clear h
  go_enter Tryz.func37, Tryz.ntmps37
  go_wp2_with (go_at_call 63; refine (HL.out).mono ?_; rintro e w' ⟨rfl, rfl⟩)
  go_ret
  exact ⟨rfl, rfl⟩
end Go.Proofs.YtpffhoefmcpniaaGreatDoor
