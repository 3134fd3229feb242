import Derived.Test.YtdepdediggokgaaDoorW4
namespace Go.Proofs.YtdepdediggokgaaDoor
open Go.RowKit
set_option linter.unusedVariables false
theorem R8.of_none {w : World} {n c : Nat} {l : List UInt8} (h : R8 w none n c l) : l = [] ∧ n = 0 := by
  have hl : l = [] := by
    cases l with
    | nil => rfl
    | cons x l => obtain ⟨b, off, e, _⟩ := h.2.2.2 0 (by simp); cases e
  exact ⟨hl, by rw [← h.1, hl]; rfl⟩
set_option maxHeartbeats 400000 in
theorem clone_any (w : World) (a : Option Addr) (n c : Nat) (l : List UInt8) (h : R8 w a n c l) (hn : n ≤ 140737488351232) :
    Calls Tryd.prog 39 #[.slice a n c] w fun e w' => ∃ a' c', e = .returned (.slice a' n c') ∧ w'.ownsRow w.heap.size 5 1 (.slice a' n c') n (l.map b8) ∧ Below w.heap.size w w' := by
  have heq := fun wx => Lib.run_eql_slice_nil (P := Tryd.prog) wx 22 5 a n c 0 0 Tryd.underlying22
  cases a with
  | none =>
    obtain ⟨rfl, rfl⟩ := h.of_none
    simp only [Option.isNone_none] at heq
    go_enter Tryd.func39, Tryd.ntmps39
    go_wp2
    go_ret
    exact ⟨_, _, rfl, World.ownsRow_nil _ _ _ _, Below.refl _ _⟩
  | some ad =>
    simp only [Option.isNone_some] at heq
    go_enter Tryd.func39, Tryd.ntmps39
    go_wp2_with (first
      | (at_builtin; refine L_append8 rfl _ _ _ rfl sl22 w.heap.size (.slice (some ⟨w.heap.size, 0, none⟩) 0 0) 0 [] rfl (World.ownsRow_made _ _ _ (Nat.le_refl _) (by simp [maxLen]) (by simp)) _ _ _ l rfl (h.below ((Below.refl _ _).alloc (Nat.le_refl _) _)) (by omega) (by simp [maxLen]; omega) (by simp) (fun a3 c3 w3 ho3 hg3 _ => ?_)))
    simp only [Nat.zero_add, List.nil_append] at ho3
    go_ret
    exact ⟨_, _, by simp, ho3, ((Below.refl _ _).alloc (Nat.le_refl _) _).grown hg3 (by simp) (by intro k hk; simp [Value.ownBlock] at hk; omega)⟩

theorem whole_le (n : Nat) (l : List UInt8) (q : Nat) (h : wholeF n l = (q, 0)) : q = lenL l ∧ q ≤ 65536 ∧ q + 13 ≤ l.length := by
  unfold wholeF at h
  repeat' split at h
  all_goals (have h1 := congrArg Prod.fst h; have h2 := congrArg Prod.snd h; simp only at h1 h2)
  all_goals first | omega | skip
set_option maxRecDepth 100000 in
set_option maxHeartbeats 1000000 in
theorem unpack_ok (w : World) (n : Nat) (hn : n < 1099511627776) (a : Option Addr) (m c : Nat) (l : List UInt8) (h : R8 w a m c l) (ht : HalfTab w) (h0 : 0 < w.heap.size) (q : Nat) (hr : wholeF n l = (q, 0)) :
    Calls Tryd.prog 22 #[.int .i64 (n : Int), .slice a m c] w fun e w' => ∃ a' c', e = .returned (.tuple #[.slice a' q c', .int .i64 ((q : Int) + 13), .int .i64 0]) ∧ w'.ownsRow w.heap.size 5 1 (.slice a' q c') q (((l.drop 9).take q).map b8) ∧ Below w.heap.size w w' := by
  obtain ⟨-, hq, hql⟩ := whole_le n l q hr
  have hlen := h.1
  have hq2 : q ≤ 281474976710656 := by omega
  have hcl := h.2.1
  have hm := h.2.2.1
  have hw9 : IntKind.i64.wrap (9 + (q : Int)) = 9 + (q : Int) := by simp [IntKind.wrap, IntKind.bits, IntKind.signed]; omega
  have hw13 : IntKind.i64.wrap ((q : Int) + 13) = (q : Int) + 13 := by simp [IntKind.wrap, IntKind.bits, IntKind.signed]; omega
  have hs3 := fun wx => slice_mid (P := Tryd.prog) sl22 wx a m c 9 (9 + q) 9 (9 + (q : Int)) rfl (by omega) (by omega) (by omega)
  have m9 := h.mid 9 (9 + q) (by omega) (by omega)
  have hq3 : q ≤ 140737488351232 := by omega
  rw [show 9 + q - 9 = q by omega] at m9 hs3
  clear hlen hq hql
  go_enter Tryd.func22, Tryd.ntmps22
  go_wp2_with fail
  with_reducible refine (whole_any _ n hn _ _ _ _ h ht h0 q 0 hr).mono ?_
  rintro e w1 ⟨rfl, hb1⟩
  have hz1 := hb1.size
  have m9' := m9.below hb1
  go_wp2_with fail
  with_reducible refine (clone_any _ _ _ _ _ m9' hq3).mono ?_
  rintro e w2 ⟨a2, c2, rfl, ho2, hb2⟩
  go_wp2
  go_ret3
  exact ⟨_, _, rfl, owns_mono ho2 hz1, hb1.trans (hb2.mono hz1)⟩
set_option maxRecDepth 100000 in
set_option maxHeartbeats 1000000 in
theorem unpack_no (w : World) (n : Nat) (hn : n < 1099511627776) (a : Option Addr) (m c : Nat) (l : List UInt8) (h : R8 w a m c l) (ht : HalfTab w) (h0 : 0 < w.heap.size) (q e : Nat) (he : e ≠ 0) (hr : wholeF n l = (q, e)) :
    Calls Tryd.prog 22 #[.int .i64 (n : Int), .slice a m c] w fun r w' => r = .returned (.tuple #[.slice none 0 0, .int .i64 0, .int .i64 (e : Int)]) ∧ Below w.heap.size w w' := by
  have hne : ((e : Int) == 0) = false := by simpa using he
  have hne' : ((e : Int) != 0) = true := by simpa using he
  clear he
  go_enter Tryd.func22, Tryd.ntmps22
  go_wp2_with fail
  with_reducible refine (whole_any _ n hn _ _ _ _ h ht h0 q e hr).mono ?_
  rintro e w1 ⟨rfl, hb1⟩
  go_wp2
  go_ret3
  exact ⟨rfl, hb1⟩
theorem unpack_arg (w : World) (n : Int) (hn : n < 0 ∨ 1099511627776 ≤ n) (a : Option Addr) (m c : Nat) :
    Calls Tryd.prog 22 #[.int .i64 n, .slice a m c] w fun e w' => e = .returned (.tuple #[.slice none 0 0, .int .i64 0, .int .i64 1]) ∧ w = w' := by
  have H := Lib.hid hn
  clear hn
  go_enter Tryd.func22, Tryd.ntmps22
  go_wp2_with fail
  with_reducible refine (whole_arg _ n H.out _ _ _).mono ?_
  rintro e w1 ⟨rfl, rfl⟩
  go_wp2
  go_ret3
  exact ⟨rfl, rfl⟩

theorem first_pack : packL 3 [97, 98] = [209, 0, 0, 0, 2] ++ be 4 (crc [209, 0, 0, 0, 2]).toNat ++ [97, 98] ++ be 4 (crc (be 8 3 ++ [97, 98])).toNat := by decide +kernel
theorem first_whole : wholeF 3 (packL 3 [97, 98]) = (2, 0) := by decide +kernel
theorem first_len : (packL 3 [97, 98]).length = 15 := by decide +kernel
theorem first_rec : ((packL 3 [97, 98]).drop 9).take 2 = [97, 98] := by decide +kernel
end Go.Proofs.YtdepdediggokgaaDoor
