import Derived.Test.YtcnckjlmldnblaaDoorE70
import Derived.Test.YtcnckjlmldnblaaDoorE56
namespace Go.Proofs.YtcnckjlmldnblaaDoor
open Go Go.RowKit
set_option linter.unusedVariables false
set_option linter.unusedSimpArgs false
theorem getD_setU (s : List Bool) (a b : Nat) (ha : a < s.length) : (s.set a true).getD b false = if a = b then true else s.getD b false := by
  simp only [List.getD_eq_getElem?_getD, List.getElem?_set]
  by_cases e : a = b
  · subst e; simp [ha]
  · simp [e]
/-- What is told of the worths of a kind: one of five refusals, or a value of the kind, or nothing (where all that must hold something does, only if the kind says so). -/
def SndW (S : Bool) (r : Wr) (kd : Int × Bool) : Prop := (∀ e, r = .error e → 110 ≤ e ∧ e ≤ 114) ∧ ∀ x, r = .ok x → (x.k = 0 ∨ x.k = kd.1) ∧ (S = true → kd.2 = false → x.k ≠ 0)
theorem SndW.er {S : Bool} {e : Int} {kd : Int × Bool} (h : 110 ≤ e ∧ e ≤ 114) : SndW S (.error e) kd := ⟨fun e' h' => (by cases h'; exact h), fun x h' => (by cases h')⟩
theorem SndW.ok {S : Bool} {x : Vl} {kd : Int × Bool} (h : x.k = kd.1) (h0 : x.k ≠ 0) : SndW S (.ok x) kd := ⟨fun e h => (by cases h), fun y hy => (by cases hy; exact ⟨.inr h, fun _ _ => h0⟩)⟩
/-- A view that fits a scope. -/
structure VwFit (sc : List Nm) (S : Bool) (v : Vw) : Prop where
  n : ∀ nm : ByteArray, (namedK sc nm.toList).2 = true → rightV (v.value nm) = 0 ∧ ((v.value nm).k = 0 ∨ (v.value nm).k = (namedK sc nm.toList).1.1) ∧ (S = true → (namedK sc nm.toList).1.2 = false → (v.value nm).k ≠ 0)
  c : 0 ≤ v.clock ∧ v.clock ≤ 4611686018427387904
variable {sc : List Nm} {S : Bool} {v : Vw} {ks : List (Int × Bool)} {nd : Nd} {kd : Int × Bool}
theorem told_right {x : Vl} (h : rightV x = 0) : toldW x = .ok x := by unfold toldW; rw [if_pos h]
theorem snd_truth (b : Bool) : SndW S (.ok (truthV b)) (2, false) := .ok rfl (by show (2 : Int) ≠ 0; decide)
theorem snd_int (n : Int) : SndW S (.ok (intV n)) (1, false) := .ok rfl (by show (1 : Int) ≠ 0; decide)
theorem snd_time (n : Int) : SndW S (.ok (timeV n)) (4, false) := .ok rfl (by show (4 : Int) ≠ 0; decide)
theorem snd_short (s : ByteArray) : SndW S (shortW s) (3, false) := by
  unfold shortW
  split
  · exact .er (by decide)
  · exact .ok rfl (by show (3 : Int) ≠ 0; decide)
theorem snd_num (n : Int) : SndW S (numW n) (1, false) := by
  unfold numW
  split
  · exact .ok rfl (by show (1 : Int) ≠ 0; decide)
  · exact .er (by decide)
theorem snd_moved (a b : Int) : SndW S (movedW a b) (4, false) := by
  unfold movedW
  split
  · exact .ok rfl (by show (4 : Int) ≠ 0; decide)
  · exact .er (by decide)
theorem snd_members (l : List ByteArray) : SndW S (membersW l) (5, false) := by
  unfold membersW
  split
  · exact .er (by decide)
  · exact .ok rfl (by show (5 : Int) ≠ 0; decide)
theorem snd_leaf (hV : VwFit sc S v) (hr : nd.right = true) {r : Wr} (h : leafW nd v = some r) (hk : lookK sc ks nd.op nd.nm.toList (nd.ks.map Int.toNat) = (kd, 0)) : SndW S r kd := by
  obtain ⟨-, -, -, hval⟩ := right_cases hr
  unfold leafW at h
  unfold lookK at hk
  by_cases h1 : nd.op = 1
  · rw [if_pos (.inl h1)] at h
    rw [if_pos (.inl h1)] at hk
    cases h; cases hk
    simp [valB, h1] at hval
    exact .ok hval.1.1 (by show nd.vk ≠ 0; omega)
  by_cases h2 : nd.op = 2
  · rw [if_pos (.inr (.inl h2))] at h
    rw [if_neg (by omega), if_pos (.inl h2)] at hk
    cases h; cases hk
    simp [valB, h2] at hval
    exact .ok hval.1.1 (by show nd.vk ≠ 0; omega)
  by_cases h4 : nd.op = 4
  · rw [if_pos (.inr (.inr h4))] at h
    rw [if_neg (by omega), if_neg (by omega), if_neg (by omega), if_neg (by omega), if_pos h4] at hk
    cases h; cases hk
    simp [valB, h4] at hval
    exact ⟨fun e h => (by cases h), fun y hy => (by cases hy; exact ⟨.inl hval.1.1, fun _ h => by cases h⟩)⟩
  rw [if_neg (by omega)] at h
  by_cases h3 : nd.op = 3
  · rw [if_pos h3] at h
    rw [if_neg (by omega), if_neg (by omega), if_pos h3] at hk
    cases h; cases hk
    exact snd_short _
  rw [if_neg h3] at h
  by_cases h5 : nd.op = 5
  · rw [if_pos h5] at h
    rw [if_neg (by omega), if_neg (by omega), if_neg (by omega), if_neg (by omega), if_neg (by omega), if_pos h5] at hk
    cases h
    split at hk
    · rename_i hn
      cases hk
      obtain ⟨a, b, c⟩ := hV.n _ hn
      rw [told_right a]
      exact ⟨fun e h => (by cases h), fun y hy => (by cases hy; exact ⟨b, c⟩)⟩
    · cases hk
  rw [if_neg h5] at h
  by_cases h24 : nd.op = 24
  · rw [if_pos h24] at h
    rw [if_neg (by omega), if_neg (by omega), if_neg (by omega), if_neg (by omega), if_neg (by omega), if_neg (by omega), if_pos h24] at hk
    cases h
    split at hk
    · rename_i hn
      cases hk
      obtain ⟨a, b, c⟩ := hV.n _ hn
      rw [told_right a]
      exact snd_truth _
    · cases hk
  rw [if_neg h24] at h
  by_cases h25 : nd.op = 25
  · rw [if_pos h25] at h
    rw [if_neg (by omega), if_pos (by omega)] at hk
    cases h; cases hk
    exact snd_truth _
  rw [if_neg h25] at h
  by_cases h26 : nd.op = 26
  · rw [if_pos h26] at h
    rw [if_neg (by omega), if_pos (by omega)] at hk
    cases h; cases hk
    exact snd_truth _
  rw [if_neg h26] at h
  by_cases h30 : nd.op = 30
  · rw [if_pos h30] at h
    rw [if_pos (by omega)] at hk
    cases h; cases hk
    exact .ok rfl (by show (1 : Int) ≠ 0; decide)
  rw [if_neg h30] at h
  by_cases h29 : nd.op = 29
  · rw [if_pos h29] at h
    rw [if_neg (by omega), if_neg (by omega), if_neg (by omega), if_pos h29] at hk
    cases h; cases hk
    have hc := hV.c
    rw [told_right (fit_time (n := v.clock) (by simp [timelyB]; omega)).r]
    exact .ok rfl (by show (4 : Int) ≠ 0; decide)
  rw [if_neg h29] at h
  cases h
theorem look_true {op a b : Int} (h : (lookR op a b pairT).2 = true) : ∃ r ∈ pairT, r.op = op ∧ r.b0 = a ∧ r.b1 = b ∧ (lookR op a b pairT).1 = (r.is, false) := by
  unfold lookR at h ⊢
  cases hf : pairT.find? (hitB op a b) with
  | none => rw [hf] at h; cases h
  | some r =>
    have := List.find?_some hf
    simp only [hitB, Bool.and_eq_true, beq_iff_eq] at this
    exact ⟨r, List.mem_of_find?_eq_some hf, this.1.1, this.1.2, this.2, rfl⟩
theorem fin_true {r : (Int × Bool) × Bool} {kd : Int × Bool} (h : finK r = (kd, 0)) : r.2 = true ∧ r.1 = kd := by
  unfold finK at h
  split at h
  · rename_i h2
    cases h
    exact ⟨h2, rfl⟩
  · cases h
theorem snd_sure {r : Wr} (h : SndW S r kd) (h2 : kd.1 = 2) {e : Int} (k : sureW r = .error e) : 110 ≤ e ∧ e ≤ 114 := by
  cases r with
  | error e' => simp only [sureW] at k; cases k; exact h.1 _ rfl
  | ok x =>
    have := (h.2 x rfl).1
    simp only [sureW] at k
    split at k
    · cases k; decide
    · split at k
      · cases k
      · omega
/-- What is told of the double operators. -/
theorem snd_double {op : Int} {a b : Vl} {r : Row} (hr : r ∈ pairT) (ho : r.op = opN op) (ha : a.k = r.b0) (hb : b.k = r.b1) (h9 : op ≠ 9 ∧ op ≠ 10) : SndW S (doubleW op a b) (r.is, false) := by
  have hop : op = r.op ∨ (r.op = 13 ∧ (op = 14 ∨ op = 15 ∨ op = 16)) ∨ (r.op = 31 ∧ op = 32) := by
    unfold opN at ho
    split at ho
    · rename_i h; exact .inr (.inl ⟨ho, h⟩)
    · split at ho
      · rename_i h; exact .inr (.inr ⟨ho, h⟩)
      · exact .inl ho.symm
  clear ho
  simp only [pairT, List.mem_cons, List.not_mem_nil, or_false] at hr
  rcases hr with rfl | rfl | rfl | rfl | rfl | rfl | rfl | rfl | rfl | rfl | rfl | rfl | rfl | rfl | rfl | rfl | rfl | rfl | rfl | rfl | rfl | rfl
  all_goals
    simp only at ha hb hop ⊢
    rcases hop with rfl | ⟨h, rfl | rfl | rfl⟩ | ⟨h, rfl⟩
    all_goals first
      | (exfalso; revert h; decide)
      | (exfalso; exact h9.1 rfl)
      | (exfalso; exact h9.2 rfl)
      | (simp only [doubleW, ha, hb, numbersW, quotW, setsW, orderedI, orderedS, orderedW, asTime]
         simp
         first
           | exact snd_num _
           | exact snd_moved _ _
           | exact snd_members _
           | exact snd_short _
           | exact snd_truth _
           | exact snd_int _
           | exact snd_time _
           | exact .ok rfl (by show (4 : Int) ≠ 0; decide)
           | (repeat' split
              all_goals first | exact snd_num _ | exact .er (by decide) | exact snd_int _ | exact snd_truth _))
theorem any_zero {l : List Vl} (h : ¬ (l.any fun v => v.k == 0) = true) : ∀ x ∈ l, x.k ≠ 0 := fun x hx e => h (List.any_eq_true.2 ⟨x, hx, by simp [e]⟩)
theorem snd_gathered {l : List Vl} (h : ∀ x ∈ l, x.k = 3) : SndW S (gatheredW l) (5, false) := by
  unfold gatheredW
  rw [if_neg]
  · exact snd_members _
  · intro ha
    obtain ⟨x, hx, hk⟩ := List.any_eq_true.1 ha
    simp [h x hx] at hk
theorem snd_single {op : Int} {x : Vl} (ho : op = 7 ∨ op = 8 ∨ op = 27) (h : (oneK op x.k).2 = true) : SndW S (singleW op x) ((oneK op x.k).1, false) := by
  unfold singleW
  rcases ho with rfl | rfl | rfl
  · have hx : x.k = 1 := by simpa [oneK] using h
    simp [hx]
    exact snd_num _
  · have hx : x.k = 2 := by simpa [oneK] using h
    simp [hx]
    exact snd_truth _
  · have hx : x.k = 3 ∨ x.k = 5 := by simpa [oneK] using h
    rcases hx with hx | hx
    · simp [hx]
      exact .ok rfl (by show (1 : Int) ≠ 0; decide)
    · simp [hx]
      exact .ok rfl (by show (1 : Int) ≠ 0; decide)
theorem kseq_err : ∀ (l : List Wr) {e : Int}, seqW l = .error e → .error e ∈ l
  | [], _, h => by cases h
  | .error e' :: t, e, h => by simp only [seqW] at h; cases h; exact List.mem_cons_self
  | .ok v :: t, e, h => by
    simp only [seqW] at h
    cases ht : seqW t with
    | error e' => rw [ht] at h; cases h; exact List.mem_cons_of_mem _ (kseq_err t ht)
    | ok l => rw [ht] at h; cases h
theorem kseq_ok : ∀ (l : List Wr) {vs : List Vl}, seqW l = .ok vs → l = vs.map .ok
  | [], _, h => by cases h; rfl
  | .error e' :: t, _, h => by simp only [seqW] at h; cases h
  | .ok v :: t, vs, h => by
    simp only [seqW] at h
    cases ht : seqW t with
    | error e' => rw [ht] at h; cases h
    | ok l => rw [ht] at h; cases h; rw [kseq_ok t ht]; rfl
/-- What is told of a node's worth, out of its kids'. -/
theorem snd_node {f : Int → Wr} (hV : VwFit sc S v) (hr : nd.right = true) (hks : nd.ks.length = nd.kl) (hk : lookK sc ks nd.op nd.nm.toList (nd.ks.map Int.toNat) = (kd, 0)) (hf : ∀ k ∈ nd.ks, SndW S (f k) (ks.getD k.toNat (0, false))) : SndW S (nodeW f nd v) kd := by
  obtain ⟨hkl, hk2, -, -⟩ := right_cases hr
  have kid : ∀ i, i < nd.kl → SndW S (wkid f nd i) (atK ks (nd.ks.map Int.toNat) i) := fun i hi => by
    unfold wkid atK
    have e : nd.ks[i]? = some (nd.ks[i]'(by omega)) := List.getElem?_eq_getElem (by omega)
    rw [List.getD_eq_getElem?_getD (l := nd.ks.map Int.toNat), List.getElem?_map, e]
    exact hf _ (List.getElem_mem _)
  unfold nodeW
  cases hl : leafW nd v with
  | some r => exact snd_leaf hV hr hl hk
  | none =>
    simp only
    have hop : nd.op ≠ 1 ∧ nd.op ≠ 2 ∧ nd.op ≠ 3 ∧ nd.op ≠ 4 ∧ nd.op ≠ 5 ∧ nd.op ≠ 24 ∧ nd.op ≠ 25 ∧ nd.op ≠ 26 ∧ nd.op ≠ 29 ∧ nd.op ≠ 30 := by
      unfold leafW at hl
      repeat' split at hl
      all_goals first | cases hl | skip
      rename_i h1 h2 h3 h4 h5 h6 h7 h8
      exact ⟨fun e => h1 (.inl e), fun e => h1 (.inr (.inl e)), h2, fun e => h1 (.inr (.inr e)), h3, h4, h5, h6, h8, h7⟩
    obtain ⟨o1, o2, o3, o4, o5, o24, o25, o26, o29, o30⟩ := hop
    unfold lookK at hk
    rw [if_neg (by omega), if_neg (by omega), if_neg o3, if_neg o29, if_neg o4, if_neg o5, if_neg o24] at hk
    by_cases h9 : nd.op = 9 ∨ nd.op = 10
    · have h2 : nd.kl = 2 := by rcases h9 with h | h <;> (simp [kidsN, h] at hkl; omega)
      rw [if_neg (by omega), if_neg (by omega), if_neg (by omega)] at hk
      obtain ⟨t1, t2⟩ := fin_true hk
      have hb : (atK ks (nd.ks.map Int.toNat) 0).1 = 2 ∧ (atK ks (nd.ks.map Int.toNat) 1).1 = 2 ∧ kd = (2, false) := by
        unfold twoK at t1 t2
        rw [if_neg (by omega), if_neg (by omega)] at t1 t2
        obtain ⟨r, hr, ho, ha, hb, he⟩ := look_true t1
        rw [he] at t2
        rw [← ha, ← hb, ← t2]
        rcases h9 with h | h <;> rw [h] at ho <;> simp only [pairT, List.mem_cons, List.not_mem_nil, or_false] at hr <;> rcases hr with rfl | rfl | rfl | rfl | rfl | rfl | rfl | rfl | rfl | rfl | rfl | rfl | rfl | rfl | rfl | rfl | rfl | rfl | rfl | rfl | rfl | rfl <;> first | (exfalso; revert ho; decide) | exact ⟨rfl, rfl, rfl⟩
      obtain ⟨b0, b1, rfl⟩ := hb
      have s0 := kid 0 (by omega)
      have s1 := kid 1 (by omega)
      have key : ∀ {g : Bool → Wr}, (∀ b, SndW S (g b) (2, false)) → SndW S (match sureW (wkid f nd 1) with | .error e => .error e | .ok b => g b) (2, false) := fun {g} hg => by
        cases h : sureW (wkid f nd 1) with
        | error e => exact .er (snd_sure s1 b1 h)
        | ok b => exact hg b
      rcases h9 with h | h
      · rw [if_pos h]
        cases h0 : sureW (wkid f nd 0) with
        | error e => exact .er (snd_sure s0 b0 h0)
        | ok b => cases b with
          | false => exact snd_truth _
          | true => exact key fun b => snd_truth b
      · rw [if_neg (by omega), if_pos h]
        cases h0 : sureW (wkid f nd 0) with
        | error e => exact .er (snd_sure s0 b0 h0)
        | ok b => cases b with
          | true => exact snd_truth _
          | false => exact key fun b => snd_truth b
    rw [if_neg (by omega), if_neg (by omega)]
    by_cases h23 : nd.op = 23
    · have h3 : nd.kl = 3 := by simp [kidsN, h23] at hkl; omega
      rw [if_neg (by omega), if_neg (by omega), if_pos h23] at hk
      obtain ⟨t1, t2⟩ := fin_true hk
      rw [if_pos h23]
      simp only [Bool.and_eq_true, beq_iff_eq] at t1 t2
      have s1 := kid 1 (by omega)
      have s2 := kid 2 (by omega)
      generalize atK ks (nd.ks.map Int.toNat) 1 = x at *
      generalize atK ks (nd.ks.map Int.toNat) 2 = y at *
      have hj : ∀ {r : Wr}, SndW S r x ∨ SndW S r y → SndW S r kd := fun {r} h => by
        subst t2
        have t1 := t1.1
        unfold joinedK at t1 ⊢
        obtain ⟨xb, xo⟩ := x
        obtain ⟨yb, yo⟩ := y
        split at t1 <;> rename_i e1
        · rw [if_pos e1]
          cases e1
          rcases h with h | h
          · exact ⟨h.1, fun z hz => ⟨by have := (h.2 z hz).1; simp only at this ⊢; omega, fun _ h => by cases h⟩⟩
          · exact ⟨h.1, fun z hz => ⟨(h.2 z hz).1, fun _ h => by cases h⟩⟩
        · rw [if_neg e1]
          split at t1 <;> rename_i e2
          · rw [if_pos e2]
            cases e2
            rcases h with h | h
            · exact ⟨h.1, fun z hz => ⟨(h.2 z hz).1, fun _ h => by cases h⟩⟩
            · exact ⟨h.1, fun z hz => ⟨by have := (h.2 z hz).1; simp only at this ⊢; omega, fun _ h => by cases h⟩⟩
          · rw [if_neg e2]
            have t1 : xb = yb := by simpa using t1
            subst t1
            rcases h with h | h
            · exact ⟨h.1, fun z hz => ⟨(h.2 z hz).1, fun hs ho => (h.2 z hz).2 hs (by simp only [Bool.or_eq_false_iff] at ho; exact ho.1)⟩⟩
            · exact ⟨h.1, fun z hz => ⟨(h.2 z hz).1, fun hs ho => (h.2 z hz).2 hs (by simp only [Bool.or_eq_false_iff] at ho; exact ho.2)⟩⟩
      cases h0 : sureW (wkid f nd 0) with
      | error e => exact .er (snd_sure (kid 0 (by omega)) t1.2 h0)
      | ok b => cases b with
        | true => exact hj (.inl s1)
        | false => exact hj (.inr s2)
    rw [if_neg h23]
    by_cases h33 : nd.op = 33
    · have h2 : nd.kl = 2 := by simp [kidsN, h33] at hkl; omega
      rw [if_neg (by omega), if_neg (by omega), if_neg h23] at hk
      obtain ⟨t1, t2⟩ := fin_true hk
      rw [if_pos h33]
      unfold twoK at t1 t2
      rw [if_neg (by omega), if_pos h33] at t1 t2
      have s0 := kid 0 (by omega)
      have s1 := kid 1 (by omega)
      generalize atK ks (nd.ks.map Int.toNat) 0 = x at *
      generalize atK ks (nd.ks.map Int.toNat) 1 = y at *
      obtain ⟨xb, xo⟩ := x
      obtain ⟨yb, yo⟩ := y
      subst t2
      cases h0 : wkid f nd 0 with
      | error e => exact .er (s0.1 _ h0)
      | ok w =>
        have hw := (s0.2 w h0).1
        simp only at hw t1 ⊢
        by_cases w0 : w.k ≠ 0
        · rw [if_pos w0]
          refine ⟨fun e h => (by cases h), fun z hz => ?_⟩
          cases hz
          refine ⟨.inr ?_, fun _ _ => w0⟩
          unfold joinedK at t1 ⊢
          split at t1 <;> rename_i e1
          · cases e1; omega
          · rw [if_neg e1]
            split at t1 <;> rename_i e2
            · rw [if_pos e2]; simp only; omega
            · rw [if_neg e2]; simp only; omega
        · rw [if_neg w0]
          refine ⟨s1.1, fun z hz => ⟨?_, fun hs ho => (s1.2 z hz).2 hs ho⟩⟩
          have hz1 := (s1.2 z hz).1
          unfold joinedK at t1 ⊢
          split at t1 <;> rename_i e1
          · rw [if_pos e1]; exact hz1
          · rw [if_neg e1]
            split at t1 <;> rename_i e2
            · cases e2; simp only at hz1; left; omega
            · rw [if_neg e2]
              have : xb = yb := by simpa using t1
              subst this
              exact hz1
    rw [if_neg h33]
    by_cases h11 : nd.op = 11 ∨ nd.op = 12
    · have h2 : nd.kl = 2 := by rcases h11 with h | h <;> (simp [kidsN, h] at hkl; omega)
      rw [if_neg (by omega), if_neg (by omega), if_neg h23] at hk
      obtain ⟨t1, t2⟩ := fin_true hk
      rw [if_pos h11]
      unfold twoK at t1 t2
      rw [if_pos h11] at t1 t2
      subst t2
      have s0 := kid 0 (by omega)
      have s1 := kid 1 (by omega)
      cases h0 : wkid f nd 0 with
      | error e => exact .er (s0.1 _ h0)
      | ok a =>
        simp only
        cases h1 : wkid f nd 1 with
        | error e => exact .er (s1.1 _ h1)
        | ok b =>
          simp only
          have ka := (s0.2 a h0).1
          have kb := (s1.2 b h1).1
          simp only [eqK, Bool.or_eq_true, Bool.and_eq_true, beq_iff_eq] at t1
          unfold equalW
          rw [if_neg (by omega)]
          exact snd_truth _
    rw [if_neg h11]
    cases hq : seqW (nd.ks.map f) with
    | error e =>
      obtain ⟨k, hkm, hke⟩ := List.mem_map.1 (kseq_err _ hq)
      exact .er ((hf k hkm).1 _ hke)
    | ok l =>
      have hm := kseq_ok _ hq
      simp only
      unfold opW
      split
      · exact .er (by decide)
      · rename_i hz
        have hnz := any_zero hz
        by_cases h6 : nd.op = 6
        · rw [if_pos h6]
          rw [if_pos h6] at hk
          obtain ⟨t1, t2⟩ := fin_true hk
          simp only at t1 t2
          subst t2
          refine snd_gathered fun x hx => ?_
          obtain ⟨k, hkm, hke⟩ := List.mem_map.1 (show Except.ok x ∈ nd.ks.map f by rw [hm]; exact List.mem_map.2 ⟨x, hx, rfl⟩)
          have h3 : textK ks k.toNat = true := List.all_eq_true.1 t1 _ (List.mem_map.2 ⟨k, hkm, rfl⟩)
          have hx3 := ((hf k hkm).2 x hke).1
          have hn := hnz x hx
          simp only [textK, beq_iff_eq] at h3
          omega
        · rw [if_neg h6]
          rw [if_neg h6] at hk
          have hll : l.length = nd.kl := by have := congrArg List.length hm; simp at this; omega
          have hat : ∀ i (hi : i < l.length), wkid f nd i = .ok l[i] := fun i hi => by
            unfold wkid
            have h1 : (nd.ks.map f)[i]? = some (.ok l[i]) := by rw [hm, List.getElem?_map, List.getElem?_eq_getElem hi]; rfl
            rw [List.getElem?_map] at h1
            obtain ⟨k, h2, h3⟩ := Option.map_eq_some_iff.1 h1
            rw [h2]
            exact h3
          by_cases h7 : nd.op = 7 ∨ nd.op = 8 ∨ nd.op = 27
          · have h1 : nd.kl = 1 := by rcases h7 with h | h | h <;> (simp [kidsN, h] at hkl; omega)
            rw [if_pos h7] at hk
            obtain ⟨t1, t2⟩ := fin_true hk
            simp only at t1 t2
            match l, hll, hat, hnz with
            | [a], _, hat, hnz =>
              simp only
              have ha := ((kid 0 (by omega)).2 a (hat 0 (by simp))).1
              have hn := hnz a List.mem_cons_self
              have e : a.k = (atK ks (nd.ks.map Int.toNat) 0).1 := by omega
              rw [← e] at t1 t2
              rw [← t2]
              exact snd_single h7 t1
            | [], hll, _, _ => simp at hll; omega
            | a :: b :: t, hll, _, _ => simp at hll; omega
          · rw [if_neg h7, if_neg h23] at hk
            obtain ⟨t1, t2⟩ := fin_true hk
            unfold twoK at t1 t2
            rw [if_neg h11, if_neg h33] at t1 t2
            obtain ⟨r, hr, ho, hra, hrb, he⟩ := look_true t1
            rw [he] at t2
            have h2 : nd.kl = 2 := by
              have hlo : ¬ nd.op ≤ 5 := by
                intro h
                have : nd.op < 1 := by omega
                exact hk2 (by simp [kidsN, this])
              unfold kidsN at hkl hk2
              rw [if_neg h6, if_neg h23, if_neg h7, if_neg (by omega)] at hkl hk2
              split at hk2
              · rename_i hx; exfalso; omega
              · rename_i hx
                rw [if_neg hx] at hkl
                omega
            match l, hll, hat, hnz with
            | [a, b], _, hat, hnz =>
              simp only
              have ha := ((kid 0 (by omega)).2 a (hat 0 (by simp))).1
              have hb := ((kid 1 (by omega)).2 b (hat 1 (by simp))).1
              have na := hnz a List.mem_cons_self
              have nb := hnz b (List.mem_cons_of_mem _ List.mem_cons_self)
              rw [← t2]
              exact snd_double hr ho (by omega) (by omega) ⟨by omega, by omega⟩
            | [], hll, _, _ => simp at hll; omega
            | [a], hll, _, _ => simp at hll; omega
            | a :: b :: c :: t, hll, _, _ => simp at hll; omega
/-- What is told of a place's worth, where kinds are told to all nodes. -/
theorem snd_wK {ns : List Nd} (hV : VwFit sc S v) (hK : Kinds sc ks ns) (hT : treesB ns = true) (hn : ∀ nd ∈ ns, nd.ks.length = nd.kl) : ∀ (d i : Nat), i < d → i < ns.length → SndW S (wK ns v d (i : Int)) (ks.getD i (0, false))
  | 0, i, h, _ => by omega
  | d + 1, i, hd, hi => by
    have hnd : ns[i]? = some ns[i] := List.getElem?_eq_getElem hi
    obtain ⟨hr, hkk⟩ := ((treesB_iff ns).1 hT).1 i _ hnd
    obtain ⟨x, hx, hl⟩ := hK.2 i _ hnd
    rw [wK_at (nd := ns[i]) (by rw [Int.toNat_natCast]; exact hnd)]
    rw [List.getD_eq_getElem?_getD, hx]
    refine snd_node hV hr (hn _ (List.getElem_mem hi)) hl fun k hkm => ?_
    obtain ⟨k0, k1⟩ := hkk k hkm
    obtain ⟨kn, rfl⟩ : ∃ kn : Nat, k = (kn : Int) := ⟨k.toNat, by omega⟩
    rw [Int.toNat_natCast]
    have := snd_wK hV hK hT hn d kn (by omega) (by omega)
    rwa [show (ks.take i).getD kn (0, false) = ks.getD kn (0, false) by rw [List.getD_eq_getElem?_getD, List.getD_eq_getElem?_getD, List.getElem?_take_of_lt (by omega)]]
theorem tree_go {ns : List Nd} (hT : treesB ns = true) (q : Nat) : ∀ (k : Nat) (s : List Bool) (U : List Int), k ≤ q + 1 → k ≤ s.length → k ≤ ns.length → Rl s U → (∀ x ∈ U, x = (q : Int) ∨ ∃ (i : Nat) (nd : Nd), k ≤ i ∧ ns[i]? = some nd ∧ x ∈ nd.ks) → treeG ns k s = true
  | 0, _, _, _, _, _, _, _ => rfl
  | k + 1, s, U, hq, hs, hn, hR, hU => by
    obtain ⟨h1, h2⟩ := (treesB_iff ns).1 hT
    obtain ⟨h3, h4⟩ := (flat_nodup ns).1 h2
    simp only [treeG]
    by_cases hm : s.getD k false = true
    · rw [if_pos hm]
      have hnd : ns[k]? = some ns[k] := List.getElem?_eq_getElem (by omega)
      rw [hnd]
      obtain ⟨hr, hk⟩ := h1 k _ hnd
      simp only
      rw [if_pos hr]
      obtain ⟨s', e, r', l'⟩ := (kidsF_iff k ns[k].ks s U hR (by omega)).1.2 ⟨hk, fun x hx hxU => by
        rcases hU x hxU with e | ⟨i, nd, hi, hnd', hx'⟩
        · have := hk x hx; omega
        · have := h4 k i _ nd x hnd hnd' hx hx'
          omega, h3 k _ hnd⟩
      rw [e]
      refine tree_go hT q k s' (U ++ ns[k].ks) (by omega) (by omega) (by omega) r' fun x hx => ?_
      rcases List.mem_append.1 hx with hx | hx
      · rcases hU x hx with e | ⟨i, nd, hi, hnd', hx'⟩
        · exact .inl e
        · exact .inr ⟨i, nd, by omega, hnd', hx'⟩
      · exact .inr ⟨k, _, Nat.le_refl _, hnd, hx⟩
    · rw [if_neg hm]
      refine tree_go hT q k s U (by omega) (by omega) (by omega) hR fun x hx => ?_
      rcases hU x hx with e | ⟨i, nd, hi, hnd', hx'⟩
      · exact .inl e
      · exact .inr ⟨i, nd, by omega, hnd', hx'⟩
/-- Among rows of trees each place is the root of one. -/
theorem tree_of {ns : List Nd} (hT : treesB ns = true) {q : Nat} (hq : q < ns.length) : treeR ns q = true := by
  refine tree_go hT q (q + 1) _ [(q : Int)] (Nat.le_refl _) (by simp) (by omega) (fun j => ?_) fun x hx => .inl (by simpa using hx)
  rw [getD_setU _ _ _ (by simp)]
  simp only [List.getD_eq_getElem?_getD, List.getElem?_replicate, List.length_set, List.length_replicate, List.mem_singleton]
  by_cases e : q = j
  · rw [if_pos e]; simp [e]
  · rw [if_neg e]
    have : ¬ (j : Int) = (q : Int) := by omega
    split <;> simp [this]
/-- What the law says of each place. -/
theorem snd_worth {ns : List Nd} (hV : VwFit sc S v) (hv : VwOk v) (hK : Kinds sc ks ns) (hT : treesB ns = true) (hn : ∀ nd ∈ ns, nd.ks.length = nd.kl ∧ I64 nd.vn) (hs : ∀ nd ∈ ns, nd.kl ≤ 1000000) {i : Nat} (hi : i < ns.length) :
    SndW S (worthR ns (i : Int) v) (ks.getD i (0, false)) ∧ ∀ x, worthR ns (i : Int) v = .ok x → rightV x = 0 := by
  unfold worthR
  rw [if_neg (by omega), Int.toNat_natCast, if_pos (tree_of hT hi)]
  exact ⟨snd_wK hV hK hT (fun nd hm => (hn nd hm).1) (i + 1) i (by omega) hi, fun x hx => (fit_wK hv hn (i + 1) i (treeR_good (fun j nd _ hj => hs nd (List.mem_of_getElem? hj)) (tree_of hT hi)) x hx).r⟩
end Go.Proofs.YtcnckjlmldnblaaDoor
