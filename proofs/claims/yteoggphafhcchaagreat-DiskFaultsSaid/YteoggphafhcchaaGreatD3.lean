import Derived.Test.YteoggphafhcchaaGreatD2
import Derived.LaidEql
import Derived.Stop.Asserts
import Derived.RowKitTokens
namespace Go.Proofs.YteoggphafhcchaaGreat
open Go Go.RowKit Go.Extern.Stop Go.Stop Go.Extern
set_option maxRecDepth 100000
set_option maxHeartbeats 4000000
set_option linter.unusedVariables false
set_option linter.unusedSimpArgs false
section
variable {P : Program} (w : World)
theorem run_equalIn_iface_int (d : Nat) {ti tn : TypeId} {ms : Array (String × TypeId)} {i : TypeInfo} {k : IntKind} (a b : Int)
    (hi : P.underlying ti = some (.interface ms)) (hn : P.underlying tn = some (.int k)) (hinfo : P.info? tn = some i) (hcomp : i.comparable = true) :
    (Op.equalIn (d + 2) ti (.iface tn (.int k a)) (.iface tn (.int k b))).run P w = .ok (a == b) w := by
  simp [Op.equalIn, run_underlying hi, run_underlying hn, typeInfo, hinfo, hcomp]
theorem run_eql_iface_int {ti tn : TypeId} {ms : Array (String × TypeId)} {i : TypeInfo} {k : IntKind} (a b : Int)
    (hi : P.underlying ti = some (.interface ms)) (hn : P.underlying tn = some (.int k)) (hinfo : P.info? tn = some i) (hcomp : i.comparable = true) :
    (binOp .eql ti (.iface tn (.int k a)) (.iface tn (.int k b))).run P w = .ok (.bool (a == b)) w := by
  simp only [binOp]
  simp [Op.equal, Op.maxDepth, run_equalIn_iface_int w 9998 a b hi hn hinfo hcomp]
end
theorem isHandle : ∃ H : Value, (∀ (n : Int) (w : World), (Extern.ReflectliteType.typeOf #[.iface 59 (.int .i64 n)]).run Tryz.prog w = .ok (.iface 127 H) w) ∧ (∀ w : World, ((Extern.ReflectliteType.method fun t => do Extern.Rtype.noPackHeld "Comparable" t; (fun a => Value.bool a.comparable) <$> typeInfo t) #[H]).run Tryz.prog w = .ok (.bool true) w) :=
  ⟨.agg #[typeHandle Tryz.prog 59], fun n w => by kernel_rfl, fun w => by kernel_rfl⟩
theorem isMethodComparable (v : Value) (w : World) : (Go.method 305 127 v "Comparable").run Tryz.prog w = .ok (132, v) w := by kernel_rfl
theorem isComp : (Tryz.prog.info? 59).map (·.comparable) = some true := by kernel_rfl
theorem noIsF (v : Value) (xT : TypeId) (w : World) : (Instr.typeAssert (.iface 88 v) xT 129 true).run Tryz.prog w = .ok (.tuple #[.nilIface, .bool false]) w := run_typeAssert_lacksB Tryz.underlying129 (by kernel_rfl) (by kernel_rfl) v xT w
theorem hasUnwrapF (v : Value) (xT : TypeId) (w : World) : (Instr.typeAssert (.iface 88 v) xT 132 true).run Tryz.prog w = .ok (.tuple #[.iface 88 v, .bool true]) w := run_typeAssert_hasB Tryz.underlying132 (by kernel_rfl) v xT w
theorem methodUnwrap (v : Value) (w : World) : (Go.method 305 88 v "Unwrap").run Tryz.prog w = .ok (128, v) w := by kernel_rfl
theorem noIsI (v : Value) (xT : TypeId) (w : World) : (Instr.typeAssert (.iface 59 v) xT 129 true).run Tryz.prog w = .ok (.tuple #[.nilIface, .bool false]) w := run_typeAssert_lacksB Tryz.underlying129 (by kernel_rfl) (by kernel_rfl) v xT w
theorem noUnwrapI (v : Value) (xT : TypeId) (w : World) : (Instr.typeAssert (.iface 59 v) xT 132 true).run Tryz.prog w = .ok (.tuple #[.nilIface, .bool false]) w := run_typeAssert_lacksB Tryz.underlying132 (by kernel_rfl) (by kernel_rfl) v xT w
theorem noUnwrapsI (v : Value) (xT : TypeId) (w : World) : (Instr.typeAssert (.iface 59 v) xT 133 true).run Tryz.prog w = .ok (.tuple #[.nilIface, .bool false]) w := run_typeAssert_lacksB Tryz.underlying133 (by kernel_rfl) (by kernel_rfl) v xT w
/-- A refusal in memory. -/
abbrev boxF (c n : ByteArray) (y : Int) : Obj := .cells #[.string c, .string n, .int .i64 y] 122
def IsFault (w : World) (e : Value) (c n : ByteArray) (y : Int) : Prop := ∃ g, e = .iface 88 (.pointer (some ⟨g, 0, none⟩)) ∧ w.heap[g]? = some (boxF c n y)
theorem unwrap_any (w : World) (g : Nat) (c n : ByteArray) (y : Int) (h : w.heap[g]? = some (boxF c n y)) : Calls Tryz.prog 128 #[.pointer (some ⟨g, 0, none⟩)] w fun e w' => e = .returned (.iface 59 (.int .i64 y)) ∧ w' = w := by
  have c2 := cell_of_row w g 2 _ _ _ h
  simp only [List.getElem?_toArray, List.getElem?_cons_zero, List.getElem?_cons_succ] at c2
  clear h
  go_enter Tryz.func128, Tryz.ntmps128
  go_wp2
  go_ret
  exact ⟨rfl, rfl⟩
theorem is_same (w : World) (e : Value) (c n : ByteArray) (y : Int) (h : IsFault w e c n y) :
    Calls Tryz.prog 19 #[e, .iface 59 (.int .i64 y)] w fun e w' => e = .returned (.bool true) ∧ w' = w := by
  obtain ⟨g, rfl, h⟩ := h
  obtain ⟨i, hi, hcmp⟩ := Option.map_eq_some_iff.1 isComp
  have h8 := @run_callFunc_extern Tryz.prog 45 _ Extern.ReflectliteType.typeOf Tryz.func45 (by kernel_rfl) (by kernel_rfl) (by kernel_rfl) (by kernel_rfl)
  have h32 := @run_callFunc_extern Tryz.prog 132 _ (Extern.ReflectliteType.method fun t => do Extern.Rtype.noPackHeld "Comparable" t; pure (.bool (← typeInfo t).comparable)) Tryz.func132 (by kernel_rfl) (by kernel_rfl) (by kernel_rfl) (by kernel_rfl)
  obtain ⟨H, tT, cT⟩ := isHandle
  have mR := isMethodComparable
  have nE := noIsF
  have uE := hasUnwrapF
  have mU := methodUnwrap
  have heq := run_eql_iface_int (P := Tryz.prog) w y y Tryz.underlying38 Tryz.underlying59 hi hcmp
  rw [show (y == y) = true by simp] at heq
  have hty := run_eql_iface_types (P := Tryz.prog) 88 59 (.pointer (some ⟨g, 0, none⟩)) (.int .i64 y) Tryz.underlying38 (by decide) w
  have c2 := cell_of_row w g 2 _ _ _ h
  simp only [List.getElem?_toArray, List.getElem?_cons_zero, List.getElem?_cons_succ] at c2
  clear h hi hcmp
  go_enter Tryz.func19, Tryz.ntmps19
  go_wp2
  refine wp_loop_rounds 2 ?_
  rw [rounds_succ]
  go_wp2
  rw [rounds_succ]
  go_wp2
  go_ret
  exact ⟨rfl, rfl⟩
theorem newfault_any (w : World) (c n : ByteArray) (y : Int) : Calls Tryz.prog 34 #[.string c, .string n, .int .i64 y] w fun e w' => (∃ g, e = .returned (.pointer (some ⟨g, 0, none⟩)) ∧ w.heap.size ≤ g ∧ w'.heap[g]? = some (boxF c n y)) ∧ Below w.heap.size w w' := by
  go_enter Tryz.func34, Tryz.ntmps34
  go_wp2
  go_ret
  exact ⟨⟨w.heap.size, rfl, Nat.le_refl _, heap_alloc_new w _⟩, (Below.refl _ _).alloc (Nat.le_refl _) _⟩
/-- What told answers: nothing, or a new refusal. -/
def Told (e : Ending) (w' : World) (c n : ByteArray) (y : Int) : Prop := (y = 0 ∧ e = .returned .nilIface) ∨ (y ≠ 0 ∧ ∃ v, e = .returned v ∧ IsFault w' v c n y)
theorem told_any (w : World) (c n : ByteArray) (y : Int) : Calls Tryz.prog 52 #[.string c, .string n, .int .i64 y] w fun e w' => Told e w' c n y ∧ Below w.heap.size w w' := by
  cases hy : (y == 0)
  · have H := Lib.hid (show y ≠ 0 by simpa using hy)
    go_enter Tryz.func52, Tryz.ntmps52
    go_wp2_with (go_at_call 34; refine (newfault_any _ _ _ _).mono ?_; rintro e w' ⟨⟨g, rfl, hg, hh⟩, hb⟩)
    go_ret
    exact ⟨.inr ⟨H.out, _, rfl, g, rfl, hh⟩, hb⟩
  · obtain rfl : y = 0 := by simpa using hy
    go_enter Tryz.func52, Tryz.ntmps52
    go_wp2
    go_ret
    exact ⟨.inl ⟨rfl, rfl⟩, Below.refl _ _⟩
end Go.Proofs.YteoggphafhcchaaGreat
