import Derived.Test.YtdepdediggokgaaDoorP1
namespace Go.Proofs.YtdepdediggokgaaDoor
/-! Plain laws: where no sum fits no tail changes that; what is torn goes on as a frame. -/
theorem right_iff (x : List UInt8) (y : UInt32) : rightB x y = true ↔ x.take 4 = (be 4 y.toNat).take x.length := by simp [rightB]
theorem right_app (x t : List UInt8) (y : UInt32) (h : rightB x y = false) : rightB (x ++ t) y = false := by
  rw [← Bool.not_eq_true, right_iff] at h ⊢
  intro e
  apply h
  have h1 : List.take x.length (List.take 4 (x ++ t)) = List.take 4 x := by
    rw [List.take_take, Nat.min_comm, ← List.take_take, List.take_left' rfl]
  have h2 : List.take x.length (List.take (x ++ t).length (be 4 y.toNat)) = List.take x.length (be 4 y.toNat) := by
    rw [List.take_take, Nat.min_eq_left (by rw [List.length_append]; omega)]
  rw [← h1, ← h2, e]
theorem lenK_app (l t : List UInt8) (k : Nat) : lenK l k ≤ lenK (l ++ t) k ∧ (k < l.length → lenK (l ++ t) k = lenK l k) := by
  induction k with
  | zero => exact ⟨Nat.le_refl _, fun _ => rfl⟩
  | succ k ih =>
    simp only [lenK]
    by_cases h : k + 1 < l.length
    · have e : (l ++ t).getD (k + 1) 0 = l.getD (k + 1) 0 := by simp [List.getD, List.getElem?_append_left h]
      rw [e]
      exact ⟨by omega, fun _ => by rw [ih.2 (by omega)]⟩
    · have e : l.getD (k + 1) 0 = 0 := by simp [List.getD, show l.length ≤ k + 1 by omega]
      rw [e]
      exact ⟨by simp; omega, fun h' => absurd h' h⟩
theorem whole_sum (n : Nat) (l t : List UInt8) (q : Nat) (h : wholeF n l = (q, 41)) : ∃ q', wholeF n (l ++ t) = (q', 41) := by
  unfold wholeF at h
  by_cases c1 : l.length = 0
  · rw [if_pos c1] at h; cases h
  rw [if_neg c1] at h
  have g0 : (l ++ t).getD 0 0 = l.getD 0 0 := by simp [List.getD, List.getElem?_append_left (show 0 < l.length by omega)]
  have d1 : ¬ (l ++ t).length = 0 := by rw [List.length_append]; omega
  have hL := lenK_app l t 4
  rw [show lenK l 4 = lenL l from rfl, show lenK (l ++ t) 4 = lenL (l ++ t) from rfl] at hL
  unfold wholeF
  rw [if_neg d1, g0]
  by_cases c2 : l.getD 0 0 ≠ 209 ∨ 65536 < lenL l
  · exact ⟨0, if_pos (c2.imp id (fun h => by omega))⟩
  rw [if_neg c2] at h
  by_cases c3 : l.length ≤ 5
  · rw [if_pos c3] at h; cases h
  rw [if_neg c3] at h
  have hl := hL.2 (by omega)
  rw [hl, if_neg c2, if_neg (by simp; omega), List.take_append_of_le_length (by omega), List.drop_append_of_le_length (by omega)]
  by_cases c4 : rightB (l.drop 5) (crc (l.take 5)) = false
  · exact ⟨0, if_pos (right_app _ _ _ c4)⟩
  rw [if_neg c4] at h
  by_cases c5 : l.length < 9 + lenL l
  · rw [if_pos c5] at h; cases h
  rw [if_neg c5] at h
  rw [List.drop_append_of_le_length (show 9 ≤ l.length by omega), List.drop_append_of_le_length (show 9 + lenL l ≤ l.length by omega), List.take_append_of_le_length (by simp; omega)]
  by_cases c6 : rightB (l.drop (9 + lenL l)) (crc (be 8 n ++ (l.drop 9).take (lenL l))) = false
  · by_cases c7 : rightB (l.drop 5 ++ t) (crc (l.take 5)) = false
    · exact ⟨0, if_pos c7⟩
    · rw [if_neg c7, if_neg (by simp; omega)]
      exact ⟨0, if_pos (right_app _ _ _ c6)⟩
  · rw [if_neg c6] at h
    split at h <;> cases h
/-- The record that the law lays. -/
def padR (l : List UInt8) : List UInt8 := (l.drop 9).take (lenL l) ++ List.replicate (lenL l - (l.drop 9).length) 0
theorem padR_len (l : List UInt8) : (padR l).length = lenL l := by simp [padR]; omega
theorem head5 (l : List UInt8) (h0 : l.getD 0 0 = 209) (h1 : 0 < l.length) : l.take 5 = ([209] ++ be 4 (lenL l)).take l.length := by
  have hb : be 4 (lenL l) = [l.getD 1 0, l.getD 2 0, l.getD 3 0, l.getD 4 0] := by
    rw [be4_eq]
    have h1 := (l.getD 1 0).toNat_lt
    have h2 := (l.getD 2 0).toNat_lt
    have h3 := (l.getD 3 0).toNat_lt
    have h4 := (l.getD 4 0).toNat_lt
    simp only [List.cons.injEq, and_true, ← UInt8.toNat_inj, UInt8.toNat_ofNat', lenL, lenK, Nat.zero_add, Nat.reduceAdd, Nat.zero_mul]
    omega
  rw [hb]
  apply List.ext_getElem?
  intro i
  rw [List.getElem?_take, List.getElem?_take]
  by_cases hi : i < l.length
  · rw [if_pos hi]
    by_cases h5 : i < 5
    · rw [if_pos h5]
      have key : ∀ j, j < l.length → l[j]? = some (l.getD j 0) := fun j hj => by simp [List.getD, hj]
      rw [key i hi]
      rcases (by omega : i = 0 ∨ i = 1 ∨ i = 2 ∨ i = 3 ∨ i = 4) with rfl | rfl | rfl | rfl | rfl <;> simp_all
    · rw [if_neg h5, List.getElem?_eq_none (by simp; omega)]
  · rw [if_neg hi]
    split
    · exact List.getElem?_eq_none (by omega)
    · rfl
theorem torn_pack (n : Nat) (l : List UInt8) (q : Nat) (h : wholeF n l = (q, 40)) : lenL l ≤ 65536 ∧ l.length < (packL n (padR l)).length ∧ (packL n (padR l)).take l.length = l := by
  unfold wholeF at h
  rw [packL_len, padR_len]
  by_cases c1 : l.length = 0
  · obtain rfl : l = [] := List.eq_nil_of_length_eq_zero c1
    exact ⟨by decide, by simp, by simp⟩
  rw [if_neg c1] at h
  by_cases c2 : l.getD 0 0 ≠ 209 ∨ 65536 < lenL l
  · rw [if_pos c2] at h; cases h
  rw [if_neg c2] at h
  have h209 : l.getD 0 0 = 209 := by
    by_cases e : l.getD 0 0 = 209
    · exact e
    · exact absurd (.inl e) c2
  have hle : lenL l ≤ 65536 := by
    have : ¬ 65536 < lenL l := fun e => c2 (.inr e)
    omega
  have h5 := head5 l h209 (by omega)
  have hP : packL n (padR l) = ([209] ++ be 4 (lenL l)) ++ (be 4 (crc ([209] ++ be 4 (lenL l))).toNat ++ (padR l ++ be 4 (crc (be 8 n ++ padR l)).toNat)) := by
    simp [packL, padR_len]
  have l5 : ([209] ++ be 4 (lenL l)).length = 5 := by simp [be_len]
  by_cases c3 : l.length ≤ 5
  · refine ⟨hle, by omega, ?_⟩
    rw [hP, List.take_append_of_le_length (by omega), ← h5, List.take_of_length_le c3]
  rw [if_neg c3] at h
  rw [List.take_of_length_le (i := l.length) (by omega)] at h5
  by_cases c4 : rightB (l.drop 5) (crc (l.take 5)) = false
  · rw [if_pos c4] at h; cases h
  rw [if_neg c4] at h
  rw [Bool.not_eq_false, right_iff, h5] at c4
  have hl5 : l = ([209] ++ be 4 (lenL l)) ++ l.drop 5 := by rw [← h5, List.take_append_drop]
  by_cases c8 : l.length < 9
  · refine ⟨hle, by omega, ?_⟩
    rw [hP]
    conv => rhs; rw [hl5]
    rw [List.take_append, List.take_of_length_le (by omega), l5]
    congr 1
    rw [List.take_append_of_le_length (by simp [be_len]; omega), List.length_drop] at *
    rw [← c4, List.take_of_length_le (by simp; omega)]
  have d9 : l.drop 5 = be 4 (crc ([209] ++ be 4 (lenL l))).toNat ++ l.drop 9 := by
    conv => lhs; rw [← List.take_append_drop 4 (l.drop 5)]
    rw [c4, List.take_of_length_le (by simp [be_len]; omega), List.drop_drop]
  have hl9 : l = ([209] ++ be 4 (lenL l)) ++ (be 4 (crc ([209] ++ be 4 (lenL l))).toNat ++ l.drop 9) := by rw [← d9]; exact hl5
  have fin : ∀ X : List UInt8, X.take (l.length - 9) = l.drop 9 → (([209] ++ be 4 (lenL l)) ++ (be 4 (crc ([209] ++ be 4 (lenL l))).toNat ++ X)).take l.length = l := by
    intro X hX
    rw [List.take_append, List.take_of_length_le (by omega), l5, List.take_append, List.take_of_length_le (by simp [be_len]; omega), be_len, show l.length - 5 - 4 = l.length - 9 by omega, hX]
    exact hl9.symm
  by_cases c5 : l.length < 9 + lenL l
  · refine ⟨hle, by omega, ?_⟩
    rw [hP]
    apply fin
    rw [List.take_append_of_le_length (by rw [padR_len]; omega), padR, List.take_append_of_le_length (by simp; omega), List.take_take, Nat.min_eq_left (by omega), List.take_of_length_le (by simp)]
  rw [if_neg c5] at h
  by_cases c6 : rightB (l.drop (9 + lenL l)) (crc (be 8 n ++ (l.drop 9).take (lenL l))) = false
  · rw [if_pos c6] at h; cases h
  rw [if_neg c6] at h
  rw [Bool.not_eq_false, right_iff] at c6
  by_cases c7 : l.length < lenL l + 13
  · refine ⟨hle, by omega, ?_⟩
    rw [hP]
    apply fin
    have hpad : padR l = (l.drop 9).take (lenL l) := by
      rw [padR, show lenL l - (l.drop 9).length = 0 by simp; omega]; simp
    rw [List.take_append, List.take_of_length_le (by rw [padR_len]; omega), padR_len, hpad]
    rw [List.take_of_length_le (by simp; omega)] at c6
    rw [show l.length - 9 - lenL l = (l.drop (9 + lenL l)).length by simp; omega, ← c6, ← List.drop_drop, List.take_append_drop]
  · rw [if_neg c7] at h; cases h
end Go.Proofs.YtdepdediggokgaaDoor
