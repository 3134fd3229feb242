import Derived.Test.YtdepdediggokgaaDoorW7
namespace Go.Proofs.YtdepdediggokgaaDoor
/-! Plain laws on frames. -/
theorem be4_eq (x : Nat) : be 4 x = [UInt8.ofNat (x / 16777216), UInt8.ofNat (x / 65536), UInt8.ofNat (x / 256), UInt8.ofNat x] := by
  simp [be, show List.range 4 = [0, 1, 2, 3] from rfl]
theorem be4_inj (x y : Nat) (hx : x < 4294967296) (hy : y < 4294967296) (h : be 4 x = be 4 y) : x = y := by
  rw [be4_eq, be4_eq] at h
  simp only [List.cons.injEq, and_true, ← UInt8.toNat_inj, UInt8.toNat_ofNat'] at h
  omega
theorem right_be (x y : UInt32) (t : List UInt8) : rightB (be 4 x.toNat ++ t) y = (x == y) := by
  unfold rightB
  rw [List.take_left' (be_len 4 _), List.take_of_length_le (by simp [be_len])]
  rw [Bool.eq_iff_iff]
  simp only [beq_iff_eq]
  constructor
  · intro h
    exact UInt32.toNat_inj.1 (be4_inj _ _ x.toNat_lt y.toNat_lt h)
  · rintro rfl; rfl
theorem lenL_be (m : Nat) (hm : m < 4294967296) (t : List UInt8) : lenL ([209] ++ be 4 m ++ t) = m := by
  rw [be4_eq]
  simp [lenL, lenK]
  omega
theorem packL_len (n : Nat) (p : List UInt8) : (packL n p).length = p.length + 13 := by
  simp [packL, be_len]; omega
theorem whole_pack (a b : Nat) (p t : List UInt8) (hp : p.length ≤ 65536) :
    wholeF b (packL a p ++ t) = if crc (be 8 a ++ p) = crc (be 8 b ++ p) then (p.length, 0) else (0, 41) := by
  have e0 : packL a p ++ t = [209] ++ be 4 p.length ++ (be 4 (crc ([209] ++ be 4 p.length)).toNat ++ (p ++ (be 4 (crc (be 8 a ++ p)).toNat ++ t))) := by
    simp [packL]
  have hl : lenL (packL a p ++ t) = p.length := by rw [e0]; exact lenL_be _ (by omega) _
  have h5 : ([209] ++ be 4 p.length).length = 5 := by simp [be_len]
  have t5 : (packL a p ++ t).take 5 = [209] ++ be 4 p.length := by rw [e0, List.take_left' h5]
  have d5 : (packL a p ++ t).drop 5 = be 4 (crc ([209] ++ be 4 p.length)).toNat ++ (p ++ (be 4 (crc (be 8 a ++ p)).toNat ++ t)) := by rw [e0, List.drop_left' h5]
  have d9 : (packL a p ++ t).drop 9 = p ++ (be 4 (crc (be 8 a ++ p)).toNat ++ t) := by
    rw [show 9 = 5 + 4 from rfl, ← List.drop_drop, d5, List.drop_left' (be_len 4 _)]
  have d9l : (packL a p ++ t).drop (9 + p.length) = be 4 (crc (be 8 a ++ p)).toNat ++ t := by
    rw [← List.drop_drop, d9, List.drop_left' rfl]
  have hlen : (packL a p ++ t).length = p.length + 13 + t.length := by rw [List.length_append, packL_len]
  have h0 : (packL a p ++ t).getD 0 0 = 209 := by rw [e0]; simp
  unfold wholeF
  rw [hl, t5, d5, d9, d9l, h0, right_be, right_be, hlen, List.take_left' rfl]
  rw [if_neg (by omega), if_neg (by simp; omega), if_neg (by omega), if_neg (by simp), if_neg (by omega)]
  by_cases h : crc (be 8 a ++ p) = crc (be 8 b ++ p)
  · rw [if_neg (by simp [h]), if_neg (by omega), if_pos h]
  · rw [if_pos (by simpa using h), if_neg h]
theorem rec_pack (a : Nat) (p t : List UInt8) : ((packL a p ++ t).drop 9).take p.length = p := by
  have e0 : packL a p ++ t = ([209] ++ be 4 p.length ++ be 4 (crc ([209] ++ be 4 p.length)).toNat) ++ (p ++ (be 4 (crc (be 8 a ++ p)).toNat ++ t)) := by
    simp [packL]
  rw [e0, List.drop_left' (by simp [be_len]), List.take_left' rfl]
end Go.Proofs.YtdepdediggokgaaDoor
