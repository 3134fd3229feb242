import Derived.Test.YtcnckjlmldnblaaDoorE14
namespace Go.Proofs.YtcnckjlmldnblaaDoor
open Go Go.RowKit
set_option linter.unusedVariables false
set_option linter.unusedSimpArgs false
/-- A set, as a value. -/
abbrev setV (l : List ByteArray) : Vl := ⟨5, 0, ByteArray.empty, l⟩
theorem rise_filter {l : List ByteArray} (h : l.Pairwise Ahd) (p : ByteArray → Bool) : (l.filter p).Pairwise Ahd := h.filter p
theorem setOf_self {l : List ByteArray} (h : l.Pairwise Ahd) : setOf l = l := setOf_eq h fun _ => Iff.rfl
theorem inSS_not (l : List ByteArray) (x : ByteArray) : inSS l x = false ↔ x ∉ l := by
  rw [← inSS_iff]; simp
theorem ins_length (x : ByteArray) : ∀ l : List ByteArray, x ∉ l → (insS x l).length = l.length + 1
  | [], _ => rfl
  | y :: t, h => by
    rw [List.mem_cons, not_or] at h
    rw [insS]
    by_cases h1 : Op.bytesLess y.toList x.toList
    · rw [if_pos h1, List.length_cons, ins_length x t h.2, List.length_cons]
    · rw [if_neg h1]
      by_cases h2 : (y.toList == x.toList) = true
      · exact absurd (toList_inj' (show y.toList = x.toList by simpa using h2)).symm h.1
      · rw [if_neg h2]; rfl
theorem ins_length_le (x : ByteArray) : ∀ l : List ByteArray, (insS x l).length ≤ l.length + 1
  | [] => Nat.le_refl _
  | y :: t => by
    rw [insS]
    split
    · have := ins_length_le x t; simp only [List.length_cons]; omega
    · split <;> simp
theorem fold_length_le : ∀ (l s : List ByteArray), (l.foldl (fun s x => insS x s) s).length ≤ s.length + l.length
  | [], s => by simp
  | x :: t, s => by
    have h1 := fold_length_le t (insS x s)
    have h2 := ins_length_le x s
    simp only [List.foldl_cons, List.length_cons]
    omega
theorem setOf_length_le (l : List ByteArray) : (setOf l).length ≤ l.length := by have := fold_length_le l []; unfold setOf; simpa using this
theorem fold_length : ∀ (l s : List ByteArray), l.Pairwise (fun a b => a ≠ b) → (∀ x ∈ l, x ∉ s) → (l.foldl (fun s x => insS x s) s).length = s.length + l.length
  | [], s, _, _ => by simp
  | x :: t, s, hn, hd => by
    have hn' := List.pairwise_cons.1 hn
    have h1 := fold_length t (insS x s) hn'.2 (fun y hy hm => by
      rcases (insS_mem x s y).1 hm with e | e
      · exact hn'.1 y hy e.symm
      · exact hd y (List.mem_cons_of_mem _ hy) e)
    rw [List.foldl_cons, h1, ins_length x s (hd x List.mem_cons_self), List.length_cons]
    omega
theorem rise_nodup {l : List ByteArray} (h : l.Pairwise Ahd) : l.Pairwise (fun a b => a ≠ b) := h.imp fun hab e => by subst e; exact ahd_irrefl _ hab
theorem setOf_length {l : List ByteArray} (h : l.Pairwise (fun a b => a ≠ b)) : (setOf l).length = l.length := by
  have := fold_length l [] h (fun x _ => by simp)
  unfold setOf
  simpa using this
theorem setOf_congr {l m : List ByteArray} (h : ∀ z, z ∈ l ↔ z ∈ m) : setOf l = setOf m := setOf_eq (setOf_rise m) fun z => by rw [setOf_mem, h]
/-- Of two rising lists: what is in the one alone, what is in both, together. -/
theorem sets_less (xs ys : List ByteArray) (hx : xs.Pairwise Ahd) : setOf (xs.filter fun m => !inSS ys m) = xs.filter fun m => !inSS ys m := setOf_self (rise_filter hx _)
theorem sets_back (xs ys : List ByteArray) (hx : xs.Pairwise Ahd) : setOf ((xs.filter fun m => !inSS ys m) ++ xs.filter fun m => !inSS (xs.filter fun m => !inSS ys m) m) = xs := by
  refine setOf_eq hx fun z => ?_
  simp only [List.mem_append, List.mem_filter, Bool.not_eq_true', inSS_not]
  constructor
  · intro h
    by_cases hz : z ∈ ys
    · exact .inr ⟨h, fun k => k.2 hz⟩
    · exact .inl ⟨h, hz⟩
  · rintro (h | h) <;> exact h.1
theorem sets_all (xs ys : List ByteArray) (hx : xs.Pairwise Ahd) (hy : ys.Pairwise Ahd) : (setOf (xs ++ ys)).length = (xs.filter fun m => !inSS ys m).length + ys.length := by
  rw [setOf_congr (m := (xs.filter fun m => !inSS ys m) ++ ys) fun z => by
    simp only [List.mem_append, List.mem_filter, Bool.not_eq_true', inSS_not]
    constructor
    · rintro (h | h)
      · by_cases hz : z ∈ ys
        · exact .inr hz
        · exact .inl ⟨h, hz⟩
      · exact .inr h
    · rintro (h | h)
      · exact .inl h.1
      · exact .inr h]
  rw [setOf_length, List.length_append]
  refine List.pairwise_append.2 ⟨rise_nodup (rise_filter hx _), rise_nodup hy, fun a ha b hb e => ?_⟩
  subst e
  have := (List.mem_filter.1 ha).2
  rw [Bool.not_eq_true', inSS_not] at this
  exact this hb
theorem sets_with_in (xs : List ByteArray) (t : ByteArray) (hx : xs.Pairwise Ahd) (h : t ∈ xs) : setOf (xs ++ [t]) = xs := setOf_eq hx fun z => by
  simp only [List.mem_append, List.mem_singleton]
  constructor
  · exact .inl
  · rintro (h' | rfl)
    · exact h'
    · exact h
theorem sets_with_out (xs : List ByteArray) (t : ByteArray) (hx : xs.Pairwise Ahd) (h : t ∉ xs) : (setOf (xs ++ [t])).length = xs.length + 1 := by
  rw [setOf_length, List.length_append]
  · rfl
  · refine List.pairwise_append.2 ⟨rise_nodup hx, by simp, fun a ha b hb e => ?_⟩
    simp only [List.mem_singleton] at hb
    subst hb e
    exact h ha
theorem sets_without (xs : List ByteArray) (t : ByteArray) (hx : xs.Pairwise Ahd) (h : t ∉ xs) : setOf ((setOf (xs ++ [t])).filter fun m => !inSS [t] m) = xs := setOf_eq hx fun z => by
  simp only [List.mem_filter, Bool.not_eq_true', inSS_not, setOf_mem, List.mem_append, List.mem_singleton]
  constructor
  · intro hz
    exact ⟨.inl hz, fun e => h (e ▸ hz)⟩
  · rintro ⟨h1 | h1, h2⟩
    · exact h1
    · exact absurd h1 h2
theorem members_ok {l : List ByteArray} (h : (setOf l).length ≤ 64) : membersW l = .ok (setV (setOf l)) := by unfold membersW; rw [if_neg (by omega)]
theorem double_sub (xs ys : List ByteArray) (h : (setOf (xs.filter fun m => !inSS ys m)).length ≤ 64) : doubleW 19 (setV xs) (setV ys) = .ok (setV (setOf (xs.filter fun m => !inSS ys m))) := by
  unfold doubleW
  simp only [setsW]
  simp [members_ok h]
theorem double_add (xs ys : List ByteArray) (h : (setOf (xs ++ ys)).length ≤ 64) : doubleW 18 (setV xs) (setV ys) = .ok (setV (setOf (xs ++ ys))) := by
  unfold doubleW
  simp only [setsW]
  simp [members_ok h]
abbrev textV (t : ByteArray) : Vl := ⟨3, 0, t, []⟩
theorem double_subt (xs : List ByteArray) (t : ByteArray) (h : (setOf (xs.filter fun m => !inSS [t] m)).length ≤ 64) : doubleW 19 (setV xs) (textV t) = .ok (setV (setOf (xs.filter fun m => !inSS [t] m))) := by
  unfold doubleW
  simp only [setsW]
  simp [members_ok h]
theorem double_addt (xs : List ByteArray) (t : ByteArray) (h : (setOf (xs ++ [t])).length ≤ 64) : doubleW 18 (setV xs) (textV t) = .ok (setV (setOf (xs ++ [t]))) := by
  unfold doubleW
  simp only [setsW]
  simp [members_ok h]
theorem double_in (xs : List ByteArray) (t : ByteArray) : doubleW 17 (textV t) (setV xs) = .ok (truthV (inSS xs t)) := by
  unfold doubleW
  simp
/-- A text, its first 1024 bytes. -/
def cutT (m : ByteArray) : ByteArray := if 1024 < m.size then m.extract 0 1024 else m
theorem cutT_size (m : ByteArray) : (cutT m).size ≤ 1024 := by
  unfold cutT
  split
  · simp; omega
  · omega
def laidL (l : List ByteArray) : List ByteArray := (l.take 20).map cutT
theorem laidL_len (l : List ByteArray) : (laidL l).length ≤ 20 := by simp [laidL]; omega
theorem laid_size {l : List ByteArray} : ∀ m ∈ laidL l, m.size ≤ 1024 := by
  intro m hm
  obtain ⟨x, -, rfl⟩ := List.mem_map.1 hm
  exact cutT_size x
theorem fit_setOf {l : List ByteArray} (h : (setOf l).length ≤ 64) (hl : ∀ m ∈ l, m.size ≤ 1024) : Fit (setV (setOf l)) := fit_set (by omega) hl
theorem laid_len (l : List ByteArray) : (setOf (laidL l)).length ≤ 20 := Nat.le_trans (setOf_length_le _) (laidL_len l)
end Go.Proofs.YtcnckjlmldnblaaDoor
