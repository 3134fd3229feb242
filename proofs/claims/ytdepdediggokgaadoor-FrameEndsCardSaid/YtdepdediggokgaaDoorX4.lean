import Derived.Test.YtdepdediggokgaaDoorX3
namespace Go.Proofs.YtdepdediggokgaaDoor
/-! The plain law: half a byte at a time is what bit by bit is. -/
theorem bit_bv (x : UInt32) : (bitS x).toBitVec = (x.toBitVec >>> 1) ^^^ (if x.toBitVec.getLsbD 0 then 3988292384#32 else 0#32) := by
  have h : (x % 2 = 1) ↔ x.toBitVec.getLsbD 0 = true := by
    rw [← UInt32.toNat_inj]
    simp [BitVec.getLsbD, Nat.testBit]
  have hd : (x / 2).toBitVec = x.toBitVec >>> 1 := by
    apply BitVec.eq_of_toNat_eq
    simp [Nat.shiftRight_eq_div_pow]
  unfold bitS
  by_cases hx : x % 2 = 1
  · rw [if_pos hx, if_pos (h.1 hx)]
    show (x / 2).toBitVec ^^^ _ = _
    rw [hd]; rfl
  · rw [if_neg hx, if_neg (fun e => hx (h.2 e)), hd]; simp
theorem xor_tt (b p : BitVec 32) : b = p ^^^ (b ^^^ p) := by
  rw [BitVec.xor_comm b p, ← BitVec.xor_assoc p, BitVec.xor_self, BitVec.zero_xor]
theorem bit_xor (x y : UInt32) : bitS (x ^^^ y) = bitS x ^^^ bitS y := by
  apply UInt32.toBitVec_inj.1
  rw [bit_bv]
  show _ = (bitS x).toBitVec ^^^ (bitS y).toBitVec
  rw [bit_bv, bit_bv]
  have e : (x ^^^ y).toBitVec = x.toBitVec ^^^ y.toBitVec := rfl
  rw [e, BitVec.ushiftRight_xor_distrib, BitVec.getLsbD_xor]
  generalize x.toBitVec >>> 1 = a
  generalize y.toBitVec >>> 1 = b
  cases x.toBitVec.getLsbD 0 <;> cases y.toBitVec.getLsbD 0 <;> simp [BitVec.xor_assoc]
  · rw [BitVec.xor_comm b]
  · exact xor_tt _ _
theorem bitN_xor (n : Nat) (x y : UInt32) : bitN n (x ^^^ y) = bitN n x ^^^ bitN n y := by
  induction n with
  | zero => rfl
  | succ n ih => simp only [bitN, ih, bit_xor]
theorem bit_high (x : UInt32) (h : x.toNat % 2 = 0) : (bitS x).toNat = x.toNat / 2 := by
  have hx : ¬ x % 2 = 1 := by
    intro e
    have := congrArg UInt32.toNat e
    simp at this; omega
  unfold bitS
  rw [if_neg hx]; simp
theorem bitN_high (x : UInt32) (h : x.toNat % 16 = 0) : (bitN 4 x).toNat = x.toNat / 16 := by
  have h1 := bit_high x (by omega)
  have h2 := bit_high (bitS x) (by omega)
  have h3 := bit_high (bitS (bitS x)) (by omega)
  have h4 := bit_high (bitS (bitS (bitS x))) (by omega)
  show (bitS (bitS (bitS (bitS x)))).toNat = _
  omega
theorem split16 (x : UInt32) : x = (x >>> 4 <<< 4) ^^^ (x &&& 15) := by
  apply UInt32.toBitVec_inj.1
  apply BitVec.eq_of_getLsbD_eq
  intro i hi
  have h15 : ∀ i : Fin 32, (15#32).getLsbD i.val = decide (i.val < 4) := by decide
  have h := h15 ⟨i, hi⟩
  simp only at h
  have e1 : (x >>> 4 <<< 4).toBitVec = x.toBitVec >>> 4 <<< 4 := by
    apply BitVec.eq_of_toNat_eq
    simp [Nat.shiftLeft_eq, Nat.shiftRight_eq_div_pow]
  have e2 : (x >>> 4 <<< 4 ^^^ x &&& 15).toBitVec = (x.toBitVec >>> 4 <<< 4) ^^^ (x.toBitVec &&& 15#32) := by
    rw [← e1]; rfl
  rw [e2]
  simp only [BitVec.getLsbD_xor, BitVec.getLsbD_and, BitVec.getLsbD_shiftLeft, BitVec.getLsbD_ushiftRight, h]
  by_cases h4 : i < 4
  · simp [h4]
  · simp [h4, hi, show 4 + (i - 4) = i by omega]
theorem low16 : ∀ i : Fin 16, bitN 4 (UInt32.ofNat i.val) = half (UInt32.ofNat i.val) := by decide +kernel
theorem nib_bits (r : UInt32) : nib r = bitN 4 r := by
  have e : bitN 4 r = bitN 4 (r >>> 4 <<< 4) ^^^ bitN 4 (r &&& 15) := by
    conv => lhs; rw [split16 r]
    exact bitN_xor _ _ _
  have hl : (r &&& 15).toNat < 16 := by have := of_eq_true (a15_lt r); unfold a15 at this; omega
  have e2 : bitN 4 (r &&& 15) = half (r &&& 15) := by
    have := low16 ⟨(r &&& 15).toNat, hl⟩
    simpa using this
  have e3 : bitN 4 (r >>> 4 <<< 4) = r >>> 4 := by
    apply UInt32.toNat_inj.1
    rw [bitN_high _ (by simp [Nat.shiftLeft_eq, Nat.shiftRight_eq_div_pow])]
    have := r.toNat_lt
    simp [Nat.shiftLeft_eq, Nat.shiftRight_eq_div_pow]; omega
  rw [e, e2, e3]; rfl
theorem bitN_add (m n : Nat) (x : UInt32) : bitN (m + n) x = bitN m (bitN n x) := by
  induction m with
  | zero => simp [bitN]
  | succ m ih => rw [Nat.succ_add]; simp only [bitN, ih]
theorem thr_ref (r : UInt32) (l : List UInt8) : refThr r l = thr r l := by
  have e : refStep = byteStep := by
    funext r c
    unfold refStep byteStep
    rw [nib_bits, nib_bits, ← bitN_add]
  unfold refThr thr
  rw [e]
end Go.Proofs.YtdepdediggokgaaDoor
