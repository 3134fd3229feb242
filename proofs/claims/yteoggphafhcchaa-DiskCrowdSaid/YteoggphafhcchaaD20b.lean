import Derived.Test.YteoggphafhcchaaD20
namespace Go.Proofs.Yteoggphafhcchaa
open Go Go.RowKit
set_option maxRecDepth 100000
set_option maxHeartbeats 1000000
set_option linter.unusedVariables false
set_option linter.unusedSimpArgs false
open Go.Maps Go.WideMaps Go.ChangeMaps
/-- A name moved onto another name's place. -/
theorem swap_facts {E : DataW Unit} (h : Laid 4096 E) (ht : Tidy E) (hm : IsMap E) {r t : Nat} (hr : r < 4096) (htt : t < 4096) (hne : r ≠ t) (g : Nat) :
    size ((E.del (kL (crowdB r))).put (kL (crowdB t)) (.lit (.int .i64 g))) = 4095 ∧
      (∀ s : ByteArray, s.size ≠ 6 → has ((E.del (kL (crowdB r))).put (kL (crowdB t)) (.lit (.int .i64 g))) (kL s) = false) ∧
      ∀ s : ByteArray, at? ((E.del (kL (crowdB r))).put (kL (crowdB t)) (.lit (.int .i64 g))) s = .nil ↔ has ((E.del (kL (crowdB r))).put (kL (crowdB t)) (.lit (.int .i64 g))) (kL s) = false := by
  have hk : kL (crowdB t) ≠ kL (crowdB r) := fun e => hne (crowd_inj (by omega) (by omega) (kL_inj e)).symm
  have h1 : has E (kL (crowdB r)) = true := (h.2.1 _).2 ⟨r, hr, rfl⟩
  have h2 : has (E.del (kL (crowdB r))) (kL (crowdB t)) = true := by rw [has_del_other hk]; exact (h.2.1 _).2 ⟨t, htt, rfl⟩
  refine ⟨?_, fun s hs => ?_, nil_put (hm.del _) (nil_del h.2.2 _) _ g⟩
  · rw [size_put (ht.del _), h2]
    have := size_del (k := kL (crowdB r)) ht
    rw [h1, h.1] at this
    simpa using this
  · have n1 : kL s ≠ kL (crowdB t) := fun e => hs (by rw [kL_inj e]; rfl)
    have n2 : kL s ≠ kL (crowdB r) := fun e => hs (by rw [kL_inj e]; rfl)
    rw [has_put_other n1, has_del_other n2]
    cases hh : has E (kL s)
    · rfl
    · obtain ⟨i, -, e⟩ := (h.2.1 _).1 hh
      exact absurd (by rw [e]; rfl) hs
theorem toList_loop (b : ByteArray) : ∀ (n i : Nat) (r : List UInt8), b.size - i = n → ByteArray.toList.loop b i r = r.reverse ++ b.data.toList.drop i := by
  intro n
  induction n with
  | zero =>
    intro i r h
    unfold ByteArray.toList.loop
    rw [if_neg (by omega), List.drop_eq_nil_of_le (by rw [lenS]; omega)]
    simp
  | succ n ih =>
    intro i r h
    have hi : i < b.size := by omega
    unfold ByteArray.toList.loop
    rw [if_pos hi, ih (i + 1) _ (by omega)]
    have hd : b.data.toList.drop i = b.data.toList[i]'(by rw [lenS]; exact hi) :: b.data.toList.drop (i + 1) := List.drop_eq_getElem_cons (by rw [lenS]; exact hi)
    rw [hd]
    have e : b.get! i = b.data.toList[i]'(by rw [lenS]; exact hi) := by
      have hi' : i < b.data.size := hi
      show b.data[i]! = _
      rw [getElem!_pos b.data i hi']
      simp
    rw [e]
    simp
theorem toList_data (b : ByteArray) : b.toList = b.data.toList := by
  have := toList_loop b _ 0 [] rfl
  simpa [ByteArray.toList] using this
theorem crowd_ne {i j : Nat} (hi : i < 10000) (hj : j < 10000) (h : i ≠ j) : ((crowdB j).toList == (crowdB i).toList) = false := by
  rw [beq_eq_false_iff_ne]
  intro e
  rw [toList_data, toList_data] at e
  refine h (crowd_inj hi hj ?_)
  apply ByteArray.ext; apply Array.toList_inj.1; exact e.symm
end Go.Proofs.Yteoggphafhcchaa
