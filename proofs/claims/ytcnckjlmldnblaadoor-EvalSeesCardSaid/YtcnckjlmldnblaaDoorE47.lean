import Derived.Test.YtcnckjlmldnblaaDoorE3
import Derived.Test.YtcnckjlmldnblaaDoorK4
namespace Go.Proofs.YtcnckjlmldnblaaDoor
open Go Go.RowKit
set_option linter.unusedVariables false
set_option linter.unusedSimpArgs false
theorem rest_mul (a b : Int) : a.tdiv b * b + a.tmod b = a := by rw [Int.mul_comm]; exact Int.mul_tdiv_add_tmod a b
theorem rest_lt {a b : Int} (h : 0 < b) : a.tmod b < b ∧ -b < a.tmod b := ⟨Int.tmod_lt_of_pos a h, by
  have h1 := Int.tmod_lt_of_pos (-a) h
  rw [Int.neg_tmod] at h1
  omega⟩
theorem rest_gt {a b : Int} (h : b < 0) : b < a.tmod b ∧ a.tmod b < -b := by
  have h1 := rest_lt (a := a) (b := -b) (by omega)
  rw [Int.tmod_neg] at h1
  omega
theorem rest_sign (a b : Int) : (0 ≤ a → 0 ≤ a.tmod b) ∧ (a ≤ 0 → a.tmod b ≤ 0) := ⟨fun h => Int.tmod_nonneg b h, fun h => by
  have h1 := Int.tmod_nonneg b (show 0 ≤ -a by omega)
  rw [Int.neg_tmod] at h1
  omega⟩
theorem quot_mul_in {a b : Int} (ha : I64 a) : I64 (a.tdiv b * b) := by
  have h1 := rest_mul a b
  have h2 := rest_sign a b
  obtain ⟨l, u⟩ := ha
  have h4 : (a.tmod b).natAbs ≤ a.natAbs := by
    rw [Int.natAbs_tmod]
    exact Nat.mod_le _ _
  unfold I64
  omega
theorem wrap_diff (x : Int) : ∃ k : Int, wrap64 x = x - k * 18446744073709551616 ∧ (¬ I64 x → k ≠ 0) ∧ I64 (wrap64 x) := by
  refine ⟨(x + 9223372036854775808) / 18446744073709551616, ?_, ?_, ?_⟩
  · unfold wrap64; omega
  · unfold I64; omega
  · unfold wrap64 I64; omega
theorem mul_wrap {a b : Int} (ha : I64 a) (h : ¬ I64 (a * b)) : (wrap64 (a * b)).tdiv a ≠ b := by
  intro e
  obtain ⟨k, hk, hk0, -⟩ := wrap_diff (a * b)
  have hk0 := hk0 h
  have ha0 : a ≠ 0 := fun e => h (by subst e; simp [I64])
  have h1 := Int.mul_tdiv_add_tmod (wrap64 (a * b)) a
  rw [e] at h1
  have h2 : ((wrap64 (a * b)).tmod a).natAbs < a.natAbs := by
    rw [Int.natAbs_tmod]
    exact Nat.mod_lt _ (by omega)
  obtain ⟨l, u⟩ := ha
  generalize wrap64 (a * b) = W at *
  generalize a * b = p at *
  omega
theorem mul_fine {a b : Int} (h0 : a ≠ 0) : (a * b).tdiv a = b := Int.mul_tdiv_cancel_left b h0
end Go.Proofs.YtcnckjlmldnblaaDoor
namespace Go.Proofs.YtcnckjlmldnblaaDoor
open Go Go.RowKit
set_option linter.unusedVariables false
set_option linter.unusedSimpArgs false
abbrev intA (n : Int) (a : Option Addr) (c : Nat) : Value := .agg #[.int .i64 1, .int .i64 n, .string { data := #[] }, .slice a 0 c]
/-- What a worth of plain numbers is, told in two results. -/
def ResI (r : Wr) (k n er : Int) : Prop := match r with
  | .ok x => x = ⟨k, n, ByteArray.empty, []⟩ ∧ er = 0
  | .error z => k = 0 ∧ n = 0 ∧ er = z
def TwoOut (e : Ending) (r : Wr) : Prop := ∃ (k n er : Int) (ra : Option Addr) (rc : Nat), e = .returned (.tuple #[.agg #[.int .i64 k, .int .i64 n, .string { data := #[] }, .slice ra 0 rc], .int .i64 er]) ∧ ResI r k n er ∧ (ra = none → rc = 0)
abbrev boxI (k n : Int) (a : Option Addr) (c : Nat) : Obj := .cells #[.int .i64 k, .int .i64 n, .string { data := #[] }, .slice a 0 c] 25
theorem res_ok {k n er : Int} {x : Vl} (h : ResI (.ok x) k n er) : k = x.k ∧ n = x.n ∧ er = 0 := by
  obtain ⟨rfl, rfl⟩ := h
  exact ⟨rfl, rfl, rfl⟩
theorem res_num {m k n er : Int} (h : ResI (numW m) k n er) : (I64 m ∧ k = 1 ∧ n = m ∧ er = 0) ∨ (¬ I64 m ∧ er = 111) := by
  by_cases hm : I64 m
  · rw [numW_ok hm] at h
    obtain ⟨h1, h2, h3⟩ := res_ok h
    exact .inl ⟨hm, h1, h2, h3⟩
  · rw [numW_over hm] at h
    exact .inr ⟨hm, h.2.2⟩
/-- What a quotient and a rest are. -/
def QuC (a b kq nq eq kr nr fr : Int) : Prop :=
  (b = 0 ∧ eq = 112 ∧ fr = 112 ∧ nr = 0) ∨ (a = -9223372036854775808 ∧ b = -1 ∧ eq = 111 ∧ fr = 0 ∧ nr = 0) ∨
  (b ≠ 0 ∧ eq = 0 ∧ fr = 0 ∧ kq = 1 ∧ kr = 1 ∧ nq * b + nr = a ∧ (0 < b → nr < b ∧ -b < nr) ∧ (b < 0 → b < nr ∧ nr < -b) ∧ (0 ≤ a → 0 ≤ nr) ∧ (a ≤ 0 → nr ≤ 0) ∧ I64 nq ∧ I64 nr ∧ I64 (nq * b))
theorem quot_facts {a b kq nq eq kr nr fr : Int} (ha : I64 a) (hb : I64 b) (hq : ResI (numbersW 21 a b) kq nq eq) (hr : ResI (numbersW 22 a b) kr nr fr) : QuC a b kq nq eq kr nr fr := by
  have e1 : numbersW 21 a b = quotW 21 a b := by unfold numbersW; simp
  have e2 : numbersW 22 a b = quotW 22 a b := by unfold numbersW; simp
  rw [e1] at hq
  rw [e2] at hr
  unfold quotW at hq hr
  by_cases h0 : b = 0
  · rw [if_pos h0] at hq hr
    exact .inl ⟨h0, hq.2.2, hr.2.2, hr.2.1⟩
  · rw [if_neg h0] at hq hr
    rw [if_neg (by decide)] at hq
    rw [if_pos rfl] at hr
    obtain ⟨r1, r2, r3⟩ := res_ok hr
    rcases res_num hq with ⟨q0, q1, q2, q3⟩ | ⟨q0, q3⟩
    · have hn : nr = a.tmod b := r2
      refine .inr (.inr ⟨h0, q3, r3, q1, r1, by rw [q2, hn]; exact rest_mul a b, fun h => by rw [hn]; exact rest_lt h, fun h => by rw [hn]; exact rest_gt h, fun h => by rw [hn]; exact (rest_sign a b).1 h, fun h => by rw [hn]; exact (rest_sign a b).2 h, by rw [q2]; exact q0, ?_, by rw [q2]; exact quot_mul_in ha⟩)
      rw [hn]
      have h1 := rest_sign a b
      have h4 : (a.tmod b).natAbs ≤ a.natAbs := by
        rw [Int.natAbs_tmod]
        exact Nat.mod_le _ _
      unfold I64 at *
      omega
    · by_cases h1 : b = -1
      · subst h1
        refine .inr (.inl ⟨?_, rfl, q3, r3, ?_⟩)
        · rw [Int.tdiv_neg, Int.tdiv_one] at q0
          unfold I64 at *
          omega
        · rw [r2]
          show a.tmod (-1) = 0
          rw [Int.tmod_neg, Int.tmod_one]
      · exact absurd (quot_in ha hb h0 h1).1 q0
theorem mul_facts {a b k n er : Int} (h : ResI (numbersW 20 a b) k n er) : (I64 (a * b) ∧ k = 1 ∧ n = a * b ∧ er = 0) ∨ (¬ I64 (a * b) ∧ er = 111) :=
  res_num (by have e : numbersW 20 a b = numW (a * b) := by { unfold numbersW; simp }
              rw [e] at h; exact h)
theorem add_facts {a b k n er : Int} (h : ResI (numbersW 18 a b) k n er) : (I64 (a + b) ∧ k = 1 ∧ n = a + b ∧ er = 0) ∨ (¬ I64 (a + b) ∧ er = 111) :=
  res_num (by have e : numbersW 18 a b = numW (a + b) := by { unfold numbersW; simp }
              rw [e] at h; exact h)
theorem sub_facts {a b k n er : Int} (h : ResI (numbersW 19 a b) k n er) : (I64 (a - b) ∧ k = 1 ∧ n = a - b ∧ er = 0) ∨ (¬ I64 (a - b) ∧ er = 111) :=
  res_num (by have e : numbersW 19 a b = numW (a - b) := by { unfold numbersW; simp }
              rw [e] at h; exact h)
theorem min_facts {a b k n er : Int} (h : ResI (numbersW 31 a b) k n er) : n = min a b ∧ er = 0 := by
  have e : numbersW 31 a b = .ok (intV (min a b)) := by unfold numbersW; simp
  rw [e] at h
  exact ⟨(res_ok h).2.1, (res_ok h).2.2⟩
theorem max_facts {a b k n er : Int} (h : ResI (numbersW 32 a b) k n er) : n = max a b ∧ er = 0 := by
  have e : numbersW 32 a b = .ok (intV (max a b)) := by unfold numbersW; simp
  rw [e] at h
  exact ⟨(res_ok h).2.1, (res_ok h).2.2⟩
theorem ord_facts {a b k n er : Int} (op : Int) (t : Bool) (he : numbersW op a b = .ok (truthV t)) (h : ResI (numbersW op a b) k n er) : n = (if t then 1 else 0) ∧ er = 0 := by
  rw [he] at h
  exact ⟨(res_ok h).2.1, (res_ok h).2.2⟩
theorem less_num (a b : Int) : numbersW 13 a b = .ok (truthV (decide (a < b))) := by unfold numbersW orderedI orderedW; simp
theorem least_num (a b : Int) : numbersW 16 a b = .ok (truthV (decide (b ≤ a))) := by unfold numbersW orderedI orderedW; simp
theorem more_num (a b : Int) : numbersW 15 a b = .ok (truthV (decide (b < a))) := by unfold numbersW orderedI orderedW; simp
/-- What stands in the midst of a law's walk: a beginning left alone, the table, boxes. -/
structure St (w W : World) (gs : List (Nat × Obj)) : Prop where
  b : Below w.heap.size w W
  t : ResTab W 1
  h : 1 < W.heap.size
  g : ∀ p ∈ gs, W.heap[p.1]? = some p.2
theorem St.below {w W W' : World} {gs : List (Nat × Obj)} (h : St w W gs) (hb : Below W.heap.size W W') : St w W' gs :=
  ⟨h.b.trans (hb.mono h.b.size), h.t.below hb h.h h.h, by have := h.h; have := hb.size; omega, fun p hp => (hb.block _ (Array.getElem?_eq_some_iff.1 (h.g p hp)).1).trans (h.g p hp)⟩
theorem St.alloc {w W : World} {gs : List (Nat × Obj)} (h : St w W gs) (o : Obj) (xs : Array Value) (t : TypeId) (e : o = .cells xs t) : St w (W.alloc o) ((W.heap.size, o) :: gs) := by
  have h1 := h.below (bel1 W o)
  refine ⟨h1.b, h1.t, h1.h, fun p hp => ?_⟩
  rcases List.mem_cons.1 hp with rfl | hp
  · subst e; exact heap_alloc_new W _
  · exact h1.g p hp
end Go.Proofs.YtcnckjlmldnblaaDoor
