import Derived.Test.YteoggphafhcchaaD19
namespace Go.Proofs.Yteoggphafhcchaa
open Go Go.RowKit
set_option maxRecDepth 100000
set_option maxHeartbeats 1000000
set_option linter.unusedVariables false
set_option linter.unusedSimpArgs false
open Go.Maps Go.WideMaps Go.ChangeMaps
theorem New.st {w : World} {B gd n : Nat} {d : Dk} {D : DataW Unit} (h : New w B gd d n D) : St w B gd d 0 n D :=
  ⟨h.g, h.hB, h.pw, h.pl, h.us, h.m, h.mB, ⟨[], by rw [h.ch]; exact World.ownsRow_nil w B 73 3⟩, h.ok⟩
theorem dig_ok : ∀ d : Nat, d < 10 → okC (48 + UInt8.ofNat d) = true := by decide
theorem dig_inj {a b : Nat} (ha : a < 10) (hb : b < 10) (h : (48 : UInt8) + UInt8.ofNat a = 48 + UInt8.ofNat b) : a = b := by
  have key : ∀ a : Nat, a < 10 → ∀ b : Nat, b < 10 → ((48 : UInt8) + UInt8.ofNat a = 48 + UInt8.ofNat b) → a = b := by decide
  exact key a ha b hb h
theorem crowd_size (i : Nat) : (crowdB i).size = 6 := rfl
theorem crowd_le (i : Nat) : (crowdB i).size ≤ maxLen := by rw [crowd_size]; unfold maxLen; omega
theorem crowd_legal (i : Nat) : legalB (crowdB i) = true := by
  have h0 : i / 1000 % 10 < 10 := Nat.mod_lt _ (by omega)
  have h1 : i / 100 % 10 < 10 := Nat.mod_lt _ (by omega)
  have h2 : i / 10 % 10 < 10 := Nat.mod_lt _ (by omega)
  have h3 : i % 10 < 10 := Nat.mod_lt _ (by omega)
  simp [legalB, crowdB, ByteArray.size, dig_ok _ h0, dig_ok _ h1, dig_ok _ h2, dig_ok _ h3]
  decide
theorem crowd_inj {i j : Nat} (hi : i < 10000) (hj : j < 10000) (h : crowdB i = crowdB j) : i = j := by
  simp only [crowdB, ByteArray.mk.injEq, Array.mk.injEq, List.cons.injEq, and_true, true_and] at h
  obtain ⟨h0, h1, h2, h3⟩ := h
  have := dig_inj (Nat.mod_lt _ (by omega)) (Nat.mod_lt _ (by omega)) h0
  have := dig_inj (Nat.mod_lt _ (by omega)) (Nat.mod_lt _ (by omega)) h1
  have := dig_inj (Nat.mod_lt _ (by omega)) (Nat.mod_lt _ (by omega)) h2
  have := dig_inj (Nat.mod_lt _ (by omega)) (Nat.mod_lt _ (by omega)) h3
  omega
/-- The map of files: the first m names, each with nothing in it. -/
def Crowd (m : Nat) (D : DataW Unit) : Prop := size D = m ∧ (∀ s : ByteArray, has D (kL s) = true ↔ ∃ i, i < m ∧ s = crowdB i) ∧ ∀ kl, has D kl = true → ∀ zd, D.atKey kl zd = .lit (.int .i64 0)
theorem Crowd.zero : Crowd 0 (.map []) := ⟨rfl, fun s => ⟨fun h => (by cases h), fun ⟨i, hi, _⟩ => absurd hi (Nat.not_lt_zero _)⟩, fun kl h => (by cases h)⟩
theorem Crowd.no {m : Nat} {D : DataW Unit} (h : Crowd m D) (hm : m < 10000) {i : Nat} (hi : m ≤ i) (hi2 : i < 10000) : has D (kL (crowdB i)) = false := by
  cases hh : has D (kL (crowdB i))
  · rfl
  · obtain ⟨j, hj, e⟩ := (h.2.1 _).1 hh
    have := crowd_inj hi2 (by omega) e
    omega
theorem Crowd.step {m : Nat} {D : DataW Unit} (h : Crowd m D) (hm : m < 9999) (ht : Tidy D) (hi : IsMap D) : Crowd (m + 1) (D.put (kL (crowdB m)) (.lit (.int .i64 0))) := by
  refine ⟨?_, fun s => ?_, fun kl hs zd => ?_⟩
  · rw [size_put ht, h.no (by omega) (Nat.le_refl _) (by omega), h.1]; rfl
  · by_cases e : s = crowdB m
    · subst e
      rw [has_put_same hi (keylit _)]
      exact ⟨fun _ => ⟨m, by omega, rfl⟩, fun _ => rfl⟩
    · rw [has_put_other (fun e1 => e (kL_inj e1)), h.2.1 s]
      constructor
      · rintro ⟨i, h1, h2⟩; exact ⟨i, by omega, h2⟩
      · rintro ⟨i, h1, h2⟩
        refine ⟨i, ?_, h2⟩
        rcases Nat.lt_or_ge i m with h3 | h3
        · exact h3
        · exact absurd (by rw [h2, show i = m by omega]) e
  · by_cases e : kl = kL (crowdB m)
    · subst e; rw [atKey_put_same hi (keylit _)]
    · rw [atKey_put_other e]
      rw [has_put_other e] at hs
      exact h.2.2 kl hs zd
/-- The disk's names once j are laid: the first j of the crowd. -/
def Laid (j : Nat) (E : DataW Unit) : Prop := size E = j ∧ (∀ s : ByteArray, has E (kL s) = true ↔ ∃ i, i < j ∧ s = crowdB i) ∧ ∀ s : ByteArray, at? E s = .nil ↔ has E (kL s) = false
theorem Laid.no {j : Nat} {E : DataW Unit} (h : Laid j E) (hj : j < 10000) : has E (kL (crowdB j)) = false := by
  cases hh : has E (kL (crowdB j))
  · rfl
  · obtain ⟨i, hi, e⟩ := (h.2.1 _).1 hh
    have := crowd_inj hj (by omega) e
    omega
theorem nil_put {E : DataW Unit} (hm : IsMap E) (h : ∀ s : ByteArray, at? E s = .nil ↔ has E (kL s) = false) (t : ByteArray) (g : Nat) : ∀ s : ByteArray, at? (E.put (kL t) (.lit (.int .i64 g))) s = .nil ↔ has (E.put (kL t) (.lit (.int .i64 g))) (kL s) = false := by
  intro s
  rw [at_put hm]
  by_cases e : s = t
  · subst e
    rw [if_pos rfl, has_put_same hm (keylit _)]
    exact ⟨fun e => (by cases e), fun e => (by cases e)⟩
  · rw [if_neg e, has_put_other (fun e1 => e (kL_inj e1))]
    exact h s
theorem nil_del {E : DataW Unit} (h : ∀ s : ByteArray, at? E s = .nil ↔ has E (kL s) = false) (t : ByteArray) : ∀ s : ByteArray, at? (E.del (kL t)) s = .nil ↔ has (E.del (kL t)) (kL s) = false := by
  intro s
  rw [at_del]
  by_cases e : s = t
  · subst e
    rw [if_pos rfl, has_del_same]
    exact ⟨fun _ => rfl, fun _ => rfl⟩
  · rw [if_neg e, has_del_other (fun e1 => e (kL_inj e1))]
    exact h s
theorem Laid.step {j : Nat} {E : DataW Unit} (h : Laid j E) (hj : j < 9999) (ht : Tidy E) (hi : IsMap E) (g : Nat) : Laid (j + 1) (E.put (kL (crowdB j)) (.lit (.int .i64 g))) := by
  refine ⟨?_, fun s => ?_, nil_put hi h.2.2 _ g⟩
  · rw [size_put ht, h.no (by omega), h.1]; rfl
  · by_cases e : s = crowdB j
    · subst e
      rw [has_put_same hi (keylit _)]
      exact ⟨fun _ => ⟨j, by omega, rfl⟩, fun _ => rfl⟩
    · rw [has_put_other (fun e1 => e (kL_inj e1)), h.2.1 s]
      constructor
      · rintro ⟨i, h1, h2⟩; exact ⟨i, by omega, h2⟩
      · rintro ⟨i, h1, h2⟩
        refine ⟨i, ?_, h2⟩
        rcases Nat.lt_or_ge i j with h3 | h3
        · exact h3
        · exact absurd (by rw [h2, show i = j by omega]) e
theorem wrap_small {x : Int} (h0 : 0 ≤ x) (h1 : x ≤ 100000) : wrap64 (x + 1) = x + 1 := by unfold wrap64; omega
end Go.Proofs.Yteoggphafhcchaa
