import Derived.Test.YtdepdediggokgaaDoorP2
namespace Go.Proofs.YtdepdediggokgaaDoor
/-! The plain law: a beginning of frames laid one behind the other is whole or torn. -/
def catL : Nat → List (List UInt8) → List UInt8
  | _, [] => []
  | n, q :: qs => packL n q ++ catL (n + 1) qs
theorem catL_snoc (n : Nat) (qs : List (List UInt8)) (q : List UInt8) : catL n (qs ++ [q]) = catL n qs ++ packL (n + qs.length) q := by
  induction qs generalizing n with
  | nil => simp [catL]
  | cons p qs ih => simp only [List.cons_append, catL, ih, List.append_assoc, List.length_cons]; congr 3; omega
theorem catL_len (n : Nat) (qs : List (List UInt8)) : (catL n qs).length = (qs.map List.length).sum + 13 * qs.length := by
  induction qs generalizing n with
  | nil => simp [catL]
  | cons p qs ih => simp only [catL, List.length_append, packL_len, ih, List.map_cons, List.sum_cons, List.length_cons]; omega
theorem wholeF_codes (n : Nat) (l : List UInt8) : (wholeF n l).2 = 0 ∨ (wholeF n l).2 = 40 ∨ (wholeF n l).2 = 41 := by
  unfold wholeF
  repeat' split
  all_goals simp
theorem prefix_torn (n : Nat) (p : List UInt8) (hp : p.length ≤ 65536) (at_ : Nat) (h : at_ < (packL n p).length) : (wholeF n ((packL n p).take at_)).2 = 40 := by
  have hw := whole_pack n n p [] hp
  rw [List.append_nil, if_pos rfl] at hw
  have hta := List.take_append_drop at_ (packL n p)
  have hlen : ((packL n p).take at_).length = at_ := by rw [List.length_take]; omega
  rcases wholeF_codes n ((packL n p).take at_) with h0 | h0 | h0
  · exfalso
    obtain ⟨h1, h2, h3⟩ := whole_le n ((packL n p).take at_) (wholeF n ((packL n p).take at_)).1 (by rw [← h0])
    have hL := (lenK_app ((packL n p).take at_) ((packL n p).drop at_) 4).2 (by omega)
    rw [hta] at hL
    have hP : lenL (packL n p) = p.length := by
      have := (whole_le n (packL n p) p.length hw).1
      exact this.symm
    have hL2 : lenL ((packL n p).take at_) = p.length := by rw [← hP]; exact hL.symm
    rw [packL_len] at h
    omega
  · exact h0
  · exfalso
    obtain ⟨q', hq'⟩ := whole_sum n ((packL n p).take at_) ((packL n p).drop at_) (wholeF n ((packL n p).take at_)).1 (by rw [← h0])
    rw [hta, hw] at hq'
    cases hq'
theorem wholeI_nat (n : Nat) (hn : n < 1099511627776) (l : List UInt8) : wholeI (n : Int) l = wholeF n l := by
  unfold wholeI
  rw [if_neg (by omega)]; simp
theorem torn_law (qs : List (List UInt8)) : ∀ (n : Nat) (at_ k F : Nat), (∀ q ∈ qs, q.length ≤ 65536) → n + qs.length ≤ 1099511627776 → at_ ≤ (catL n qs).length → k ≤ qs.length →
    (catL n (qs.take k)).length ≤ at_ → (k < qs.length → at_ < (catL n (qs.take (k + 1))).length) → at_ < F →
    endF F (n : Int) ((catL n qs).take at_) = (k, (catL n (qs.take k)).length, if at_ = (catL n (qs.take k)).length then 0 else 40) := by
  induction qs with
  | nil =>
    intro n at_ k F _ _ h1 h2 h3 _ hF
    have hk : k = 0 := by simpa using h2
    subst hk
    have ha : at_ = 0 := by simpa [catL] using h1
    subst ha
    cases F with
    | zero => omega
    | succ f => simp [endF, catL]
  | cons q qs ih =>
    intro n at_ k F hq hn h1 h2 h3 h4 hF
    have hqq : q.length ≤ 65536 := hq q (by simp)
    cases F with
    | zero => omega
    | succ f =>
    cases k with
    | zero =>
      have h4' := h4 (by simp)
      simp only [Nat.zero_add, List.take_succ_cons, List.take_zero, catL, List.append_nil] at h4'
      simp only [List.take_zero, catL, List.length_nil]
      rw [List.take_append_of_le_length (by omega)]
      have hlen : ((packL n q).take at_).length = at_ := by rw [List.length_take]; omega
      by_cases h0 : at_ = 0
      · subst h0; simp [endF]
      · have hw := prefix_torn n q hqq at_ h4'
        simp only [endF, hlen, if_neg h0]
        rw [wholeI_nat n (by simp at hn; omega), hw]
        simp
    | succ k =>
      simp only [List.take_succ_cons, catL, List.length_append] at h3 ⊢
      have hlq := packL_len n q
      have ht : (packL n q ++ catL (n + 1) qs).take at_ = packL n q ++ (catL (n + 1) qs).take (at_ - (packL n q).length) := by
        rw [List.take_append, List.take_of_length_le (by omega)]
      rw [ht]
      have hw := whole_pack n n q ((catL (n + 1) qs).take (at_ - (packL n q).length)) hqq
      rw [if_pos rfl] at hw
      have hdrop : (packL n q ++ (catL (n + 1) qs).take (at_ - (packL n q).length)).drop (q.length + 13) = (catL (n + 1) qs).take (at_ - (packL n q).length) := by
        rw [← hlq, List.drop_left' rfl]
      have hne : ¬ (packL n q ++ (catL (n + 1) qs).take (at_ - (packL n q).length)).length = 0 := by rw [List.length_append]; omega
      have ih' := ih (n + 1) (at_ - (packL n q).length) k f (fun x hx => hq x (by simp [hx])) (by simp at hn; omega) (by simp only [catL, List.length_append] at h1; omega) (by simp at h2; omega) (by omega)
        (fun hk => by
          have := h4 (by simp; omega)
          simp only [List.take_succ_cons, catL, List.length_append] at this
          omega) (by omega)
      simp only [endF, if_neg hne]
      rw [wholeI_nat n (by simp at hn; omega), hw]
      simp only [if_true, hdrop]
      rw [show ((n : Int) + 1) = ((n + 1 : Nat) : Int) by omega, ih']
      simp only [Prod.mk.injEq, true_and]
      refine ⟨by omega, ?_⟩
      congr 1
      rw [eq_iff_iff]; omega
end Go.Proofs.YtdepdediggokgaaDoor
