import Derived.Test.YteoggphafhcchaaGreatD3
import Derived.Maps.Own
import Derived.Maps.OwnSet
import Derived.BigQuiet
import Derived.Deep.QuietTactic
namespace Go.Proofs.YteoggphafhcchaaGreat
open Go Go.RowKit
set_option maxRecDepth 100000
set_option maxHeartbeats 4000000
set_option linter.unusedVariables false
set_option linter.unusedSimpArgs false
open Go.Maps Go.WideMaps
/-- A pointer as a map's element. -/
def ptrR (v : Value) : Option (DataW Unit × List MemPlace) := match v with
  | .pointer none => some (.nil, [])
  | .pointer (some ⟨g, 0, none⟩) => some (.lit (.int .i64 g), [])
  | _ => none
def ptrOf (x : DataW Unit) : Value := match x with
  | .lit (.int .i64 g) => .pointer (some ⟨g.toNat, 0, none⟩)
  | _ => .pointer none
theorem ptrR_inv {v : Value} {x : DataW Unit} {ps : List MemPlace} (h : ptrR v = some (x, ps)) : v = ptrOf x ∧ (x = .nil ∨ ∃ g : Nat, x = .lit (.int .i64 g)) := by
  unfold ptrR at h
  split at h
  · cases h; exact ⟨rfl, .inl rfl⟩
  · cases h; exact ⟨rfl, .inr ⟨_, rfl⟩⟩
  · cases h
theorem law9 : Keyed Tryz.prog 9 := string_keyed Tryz.underlying9
abbrev kL (s : ByteArray) : Lit := .string s.data.toList
theorem key9 {s : ByteArray} (hs : s.size ≤ maxLen) : keyOf Tryz.prog 9 (.string s) = some (kL s) := keyOf_string_mk Tryz.underlying9 hs
theorem zero57 (w : World) : (zeroValue 76).run Tryz.prog w = .ok (.pointer none) w := by kernel_rfl
/-- What a look-up of a name finds. -/
def at? (D : DataW Unit) (s : ByteArray) : DataW Unit := D.atKey (kL s) .nil
theorem look_ptr {w : World} {b n : Nat} {D : DataW Unit} (h : w.ownsMap Tryz.prog 9 ptrR b n D) {s : ByteArray} (hs : s.size ≤ maxLen) :
    (Instr.lookup 43 (.map (some b)) (.string s) false).run Tryz.prog w = .ok (ptrOf (at? D s)) w ∧ (at? D s = .nil ∨ ∃ g : Nat, at? D s = .lit (.int .i64 g)) := by
  obtain ⟨v, ps, hrun, hv⟩ := h.lookup law9 Tryz.underlying43 (zero57 w) (zd := .nil) (zp := []) rfl (key9 hs)
  obtain ⟨rfl, hx⟩ := ptrR_inv hv
  exact ⟨hrun, hx⟩
/-- The disk's own cells. -/
structure Dk where
  acts : Int
  space : Int
  used : Int
  files : Int
  epoch : Int
  power : Bool
  nb : Nat
  sb : Nat
  ch : Value
  pl : Value
  cb : Nat
abbrev Dk.box (d : Dk) : Obj := .cells #[.int .i64 d.acts, .int .i64 d.space, .int .i64 d.used, .int .i64 d.files, .int .i64 d.epoch, .bool d.power, .map (some d.nb), .map (some d.sb), d.ch, d.pl, .map (some d.cb)] 48
theorem Dk.cells {w : World} {gd : Nat} {d : Dk} (h : w.heap[gd]? = some d.box) :
    w.cell? ⟨gd, 0, none⟩ = some (.int .i64 d.acts) ∧ w.cell? ⟨gd, 1, none⟩ = some (.int .i64 d.space) ∧ w.cell? ⟨gd, 2, none⟩ = some (.int .i64 d.used) ∧ w.cell? ⟨gd, 3, none⟩ = some (.int .i64 d.files) ∧ w.cell? ⟨gd, 4, none⟩ = some (.int .i64 d.epoch) ∧ w.cell? ⟨gd, 5, none⟩ = some (.bool d.power) ∧
    w.cell? ⟨gd, 6, none⟩ = some (.map (some d.nb)) ∧ w.cell? ⟨gd, 7, none⟩ = some (.map (some d.sb)) ∧ w.cell? ⟨gd, 8, none⟩ = some d.ch ∧ w.cell? ⟨gd, 9, none⟩ = some d.pl ∧ w.cell? ⟨gd, 10, none⟩ = some (.map (some d.cb)) ∧ ∀ o, w.frozen? ⟨gd, o, none⟩ = false := by
  refine ⟨?_, ?_, ?_, ?_, ?_, ?_, ?_, ?_, ?_, ?_, ?_, fun o => frozen_of_row w gd o _ _ h⟩ <;> (rw [cell_of_row _ _ _ _ _ _ h]; rfl)
def Sv (s : ByteArray) : List Value := [.string s]
theorem Sv_len (s : ByteArray) : (Sv s).length = 1 := rfl
/-- What ask answers of one name. -/
def Asked (e : Ending) (D : DataW Unit) (s : ByteArray) : Prop :=
  (legalB s = false ∧ e = .returned (.tuple #[.pointer none, .int .i64 34])) ∨ (legalB s = true ∧ at? D s = .nil ∧ e = .returned (.tuple #[.pointer none, .int .i64 32])) ∨
    (legalB s = true ∧ ∃ g : Nat, at? D s = .lit (.int .i64 g) ∧ e = .returned (.tuple #[.pointer (some ⟨g, 0, none⟩), .int .i64 0]))
theorem ask_one (w : World) (gd : Nat) (d : Dk) (hg : w.heap[gd]? = some d.box) (hp : d.power = true) (b o c : Nat) (s : ByteArray) (hs : s.size ≤ maxLen) (hc : w.cell? ⟨b, o, none⟩ = some (.string s)) (n : Nat) (D : DataW Unit) (hm : w.ownsMap Tryz.prog 9 ptrR d.nb n D) :
    Calls Tryz.prog 47 #[.pointer (some ⟨gd, 0, none⟩), .slice (some ⟨b, o, none⟩) 1 c] w fun e w' => Asked e D s ∧ Below w.heap.size w w' ∧ w'.heap = w.heap := by
  obtain ⟨-, -, -, -, -, c5, c6, -⟩ := Dk.cells hg
  rw [hp] at c5
  have HM := Lib.hid hm
  clear hg hm
  cases hl : legalB s
  · go_enter Tryz.func47, Tryz.ntmps47
    go_wp2_with fail
    refine wp_loop_rounds 1 ?_
    rw [rounds_succ]
    go_wp2_with (go_at_call 62; refine (legal_any _ _ hs).mono ?_; rintro e w' ⟨rfl, rfl⟩; rw [hl])
    go_returns
    exact ⟨.inl ⟨hl, rfl⟩, Below.refl _ _, rfl⟩
  · have HL := Lib.hid hl
    go_enter Tryz.func47, Tryz.ntmps47
    go_wp2_with fail
    refine wp_loop_rounds 2 ?_
    rw [rounds_succ]
    go_wp2_with (go_at_call 62; refine (legal_any _ _ hs).mono ?_; rintro e w' ⟨rfl, rfl⟩; rw [hl])
    rw [rounds_succ]
    have hlk : ∀ nq : Nat, (Instr.lookup 43 (.map (some d.nb)) (.string s) false).run Tryz.prog (w'.drewN nq) = .ok (ptrOf (at? D s)) (w'.drewN nq) := fun nq => (look_ptr (show (w'.drewN nq).ownsMap Tryz.prog 9 ptrR d.nb n D from HM.out) hs).1
    have HX := Lib.hid (look_ptr HM.out hs).2
    obtain ⟨x, hx⟩ : ∃ x, x = at? D s := ⟨_, rfl⟩
    rw [← hx] at hlk HX
    have HXD := Lib.hid hx
    clear hx hl
    go_wp2_with fail
    go_quiet (fail)
    have hbq : Below w'.heap.size w' (w'.drewN nq) := below_drewN (Below.refl _ _) nq
    rcases HX.out with rfl | ⟨g, rfl⟩
    · rw [show ptrOf .nil = .pointer none from rfl]
      clear hlk
      go_wp2
      go_returns
      exact ⟨.inr (.inl ⟨HL.out, HXD.out.symm, rfl⟩), hbq, rfl⟩
    · rw [show ptrOf (.lit (.int .i64 (g : Int))) = .pointer (some ⟨g, 0, none⟩) from rfl]
      clear hlk
      go_wp2
      go_returns
      exact ⟨.inr (.inr ⟨HL.out, g, HXD.out.symm, rfl⟩), hbq, rfl⟩
end Go.Proofs.YteoggphafhcchaaGreat
