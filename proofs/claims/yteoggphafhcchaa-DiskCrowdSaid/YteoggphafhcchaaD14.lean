import Derived.Test.YteoggphafhcchaaD13
import Derived.Sort.MapsRangeIn
namespace Go.Proofs.Yteoggphafhcchaa
open Go Go.RowKit
set_option maxRecDepth 100000
set_option maxHeartbeats 1000000
set_option linter.unusedVariables false
set_option linter.unusedSimpArgs false
open Go.Maps Go.WideMaps
/-- nil, or a slice of one byte, as a map's element: its length. -/
def lenR (v : Value) : Option (DataW Unit × List MemPlace) := match v with
  | .slice none 0 0 => some (.lit (.int .i64 0), [])
  | .slice (some _) 1 _ => some (.lit (.int .i64 1), [])
  | _ => none
abbrev slV (c : Option Addr × Nat × Nat) : Value := .slice c.1 c.2.1 c.2.2
theorem lenR_inv : ∀ v y, lenR v = some y → ∃ c, v = slV c := by
  intro v y h
  unfold lenR at h
  split at h
  · exact ⟨(_, _, _), rfl⟩
  · exact ⟨(_, _, _), rfl⟩
  · cases h
theorem lenR_cases {v : Value} {y : DataW Unit × List MemPlace} (h : lenR v = some y) : (v = .slice none 0 0 ∧ y.1 = .lit (.int .i64 0)) ∨ ((∃ a c, v = .slice (some a) 1 c) ∧ y.1 = .lit (.int .i64 1)) := by
  unfold lenR at h
  split at h
  · cases h; exact .inl ⟨rfl, rfl⟩
  · cases h; exact .inr ⟨⟨_, _, rfl⟩, rfl⟩
  · cases h
theorem lenR_of {c : Option Addr × Nat × Nat} {y : DataW Unit × List MemPlace} (h : lenR (slV c) = some y) : c.2.1 ≤ 1 ∧ y.1 = .lit (.int .i64 c.2.1) := by
  rcases lenR_cases h with ⟨h1, h2⟩ | ⟨⟨a, c', h1⟩, h2⟩
  · simp only [slV, Value.slice.injEq] at h1
    rw [h2, h1.2.1]; exact ⟨by omega, rfl⟩
  · simp only [slV, Value.slice.injEq] at h1
    rw [h2, h1.2.1]; exact ⟨by omega, rfl⟩
theorem key_inv9 {x : ByteArray} {kl : Lit} (h : keyOf Try.prog 9 (.string x) = some kl) : kl = kL x ∧ x.size ≤ maxLen := by
  rw [keyOf_string Try.underlying9] at h
  simp [mapKey, Try.underlying9] at h
  exact ⟨h.2.symm, h.1⟩
theorem kL_eq {a b : ByteArray} (h : (kL a).sameKey (kL b) = true) : a = b := by
  have := WideAt.sameKey_eq h
  simp only [kL, Lit.string.injEq] at this
  apply ByteArray.ext; apply Array.toList_inj.1; exact this
/-- What fits answers, with no space asked for. -/
def FitsOut (D : DataW Unit) (r : Int) : Prop :=
  ((∃ s : ByteArray, legalB s = false ∧ has D (kL s) = true) ∧ r = 34) ∨
    ((∀ s : ByteArray, has D (kL s) = true → legalB s = true) ∧ ((4096 < size D ∧ r = 7) ∨ (size D ≤ 4096 ∧ ((∀ kl, has D kl = true → ∀ zd, D.atKey kl zd = .lit (.int .i64 0)) → r = 0))))
theorem fits_any (w : World) (b n : Nat) (D : DataW Unit) (hm : w.ownsMap Try.prog 9 lenR b n D) (hn : n ≤ 5000) :
    Calls Try.prog 15 #[.map (some b), .int .i64 0] w fun e w' => (∃ r, e = .returned (.int .i64 r) ∧ FitsOut D r) ∧ Below w.heap.size w w' := by
  have hsz := hm.size_le
  go_enter Try.func15, Try.ntmps15
  go_wp2_with (first
    | (at_range; refine wpList_range_own _ rfl _ 23 rfl 9 24 law9 Try.underlying23 _ b n D rfl hm ?_; intro w0 hrg0 hg0 hs0)
    | go_in)
  go_frame
  have hb0 : Below w.heap.size w w0 := ⟨hg0.os, hg0.tape, hg0.output, hg0.size, fun k hk => hg0.block k hk (by simp)⟩
  clear hm hg0 hs0
  go_loopw [5, 6] (fun u bg wr => ∃ (left : Lit → Bool) (cnt : Nat) (x : Int), u = .int .i64 x ∧ bg = .bool false ∧ wr.ranges Try.prog 9 lenR b w.heap.size n D left cnt ∧ 0 ≤ x ∧ x + cnt ≤ 5000 ∧
      Hid (∀ kl, left kl = true → has D kl = true) ∧ Hid ((∀ kl, has D kl = true → ∀ zd, D.atKey kl zd = .lit (.int .i64 0)) → x = 0) ∧
      Hid (∀ s : ByteArray, has D (kL s) = true → left (kL s) = true ∨ legalB s = true) ∧ Below w.heap.size w wr)
    (fun _ _ wr => wr.rangeLeft b w.heap.size)
  case atStart =>
    exact ⟨_, _, 0, rfl, rfl, hrg0, by omega, by omega, fun _ h => h, fun _ => rfl, fun s h => .inl h, hb0⟩
  case round =>
    obtain ⟨left, cnt, x, rfl, rfl, hrg, hx0, hxc, HL, HZ, HN, hbl⟩ := hrel
    go_wp2_with (first
      | (at_next; refine wpList_next_ranges _ rfl _ rfl 9 law9 lenR Value.string slV (fun key kl h => Maps.keyOf_string_inv Try.underlying9 h) lenR_inv b w.heap.size n D left cnt rfl hrg ?_ ?_)
      | go_in)
    · intro hc0 hl0
      have hall : ∀ s : ByteArray, has D (kL s) = true → legalB s = true := fun s hs => (HN.out s hs).resolve_left (by rw [hl0]; decide)
      have hm := hrg.owns
      have hln : ∀ ty, (Builtin.len_ #[23] ty #[.map (some b)]).run Try.prog wr = .ok (.int .i64 (Maps.size D)) wr := fun ty => hm.len Try.underlying23 ty
      have HA := Lib.hid hall
      clear hall hrg
      go_wp2_with fail
      all_goals go_ret
      · exact ⟨⟨7, rfl, .inr ⟨HA.out, .inl ⟨by omega, rfl⟩⟩⟩, hbl⟩
      · refine ⟨⟨31, rfl, .inr ⟨HA.out, .inr ⟨by omega, fun hz => ?_⟩⟩⟩, hbl⟩
        have := HZ.out hz
        omega
      · exact ⟨⟨0, rfl, .inr ⟨HA.out, .inr ⟨by omega, fun _ => rfl⟩⟩⟩, hbl⟩
    · intro s a nn cc kl y1 ys w1 cnt1 hks hlk hy hat hrg1 hlt hg1 hs1 hen
      obtain ⟨rfl, hsm⟩ := key_inv9 hks
      obtain ⟨hc1, hyv⟩ := lenR_of hy
      dsimp only at hc1 hyv
      have hbl1 : Below w.heap.size w w1 := ⟨hg1.os.trans hbl.os, hg1.tape.trans hbl.tape, hg1.output.trans hbl.output, Nat.le_trans hbl.size hg1.size, fun k hk => (hg1.block k (Nat.lt_of_lt_of_le hk hbl.size) (fun e => by have := Option.some.inj e; omega)).trans (hbl.block k hk)⟩
      have hhas : has D (kL s) = true := HL.out _ hlk
      have HH := Lib.hid (show ∀ zd, D.atKey (kL s) zd = .lit (.int .i64 nn) from fun zd => by rw [hat zd, hyv])
      have HH2 := Lib.hid hhas
      have HM := Lib.hid (show wr.rangeLeft b w.heap.size = cnt from hrg.left_eq)
      have HM1 := Lib.hid (show w1.rangeLeft b w.heap.size = cnt1 from hrg1.left_eq)
      have HR1 := Lib.hid hrg1
      clear hrg hrg1 hks hy hat hyv hlk hhas hg1 hs1
      cases hlg : legalB s
      · go_wp2_with (go_at_call 32; refine (legal_any _ _ hsm).mono ?_; rintro e w' ⟨rfl, rfl⟩; rw [hlg])
        go_ret
        exact ⟨⟨34, rfl, .inl ⟨⟨s, hlg, HH2.out⟩, rfl⟩⟩, hbl1⟩
      · go_wp2_with (go_at_call 32; refine (legal_any _ _ hsm).mono ?_; rintro e w' ⟨rfl, rfl⟩; rw [hlg])
        refine ⟨⟨_, cnt1, _, rfl, by rw [decide_eq_false (by omega)], HR1.out, by omega, by omega, ?_, ?_, ?_, hbl1⟩, by rw [HM.out, HM1.out]; exact hlt⟩
        · intro kl hkl
          simp only [Bool.and_eq_true] at hkl
          exact HL.out kl hkl.1
        · intro hz
          have e1 := hz _ HH2.out .nil
          rw [HH.out .nil] at e1
          have e2 : (nn : Int) = 0 := by simpa using e1
          have := HZ.out hz
          omega
        · intro z hz
          rcases HN.out z hz with h | h
          · cases hk : (kL z).sameKey (kL s)
            · exact .inl (by simp only [h, hk]; rfl)
            · rw [kL_eq hk]; exact .inr hlg
          · exact .inr h
end Go.Proofs.Yteoggphafhcchaa
