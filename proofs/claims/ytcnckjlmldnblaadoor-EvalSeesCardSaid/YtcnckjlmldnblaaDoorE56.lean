import Derived.Test.YtcnckjlmldnblaaDoorE27
namespace Go.Proofs.YtcnckjlmldnblaaDoor
open Go Go.RowKit
set_option linter.unusedVariables false
set_option linter.unusedSimpArgs false
theorem kidsF_ext (i : Nat) : ∀ (l : List Int) (s S : List Bool), (∀ j, j < i → s.getD j false = S.getD j false) → i ≤ s.length → i ≤ S.length → ∀ s', kidsF i s l = some s' → ∃ S', kidsF i S l = some S' ∧ ∀ j, j < i → s'.getD j false = S'.getD j false
  | [], s, S, h, _, _, s', hf => by
    simp only [kidsF, Option.some.injEq] at hf
    subst hf
    exact ⟨S, rfl, h⟩
  | k :: t, s, S, h, hs, hS, s', hf => by
    simp only [kidsF] at hf ⊢
    by_cases h1 : k < 0 ∨ (i : Int) ≤ k
    · rw [if_pos h1] at hf; cases hf
    · rw [if_neg h1] at hf ⊢
      have hk : k.toNat < i := by omega
      rw [← h k.toNat hk]
      by_cases h2 : s.getD k.toNat false = true
      · rw [if_pos h2] at hf; cases hf
      · rw [if_neg h2] at hf ⊢
        refine kidsF_ext i t _ _ (fun j hj => ?_) (by simpa using hs) (by simpa using hS) s' hf
        simp only [List.getD_eq_getElem?_getD, List.getElem?_set]
        by_cases hjk : k.toNat = j
        · rw [if_pos hjk, if_pos hjk, if_pos (by omega), if_pos (by omega)]
        · rw [if_neg hjk, if_neg hjk]
          have := h j hj
          simpa only [List.getD_eq_getElem?_getD] using this
theorem treeG_ext (ns : List Nd) : ∀ (k : Nat) (s S : List Bool), (∀ j, j < k → s.getD j false = S.getD j false) → k ≤ s.length → k ≤ S.length → treeG ns k s = true → treeG ns k S = true
  | 0, _, _, _, _, _, _ => rfl
  | k + 1, s, S, h, hs, hS, ht => by
    simp only [treeG] at ht ⊢
    rw [← h k (by omega)]
    by_cases hk : s.getD k false = true
    · rw [if_pos hk] at ht ⊢
      cases hn : ns[k]? with
      | none => rw [hn] at ht; cases ht
      | some nd =>
        rw [hn] at ht
        simp only at ht ⊢
        by_cases hr : nd.right = true
        · rw [if_pos hr] at ht ⊢
          cases hf : kidsF k s nd.ks with
          | none => rw [hf] at ht; cases ht
          | some s' =>
            rw [hf] at ht
            simp only at ht
            obtain ⟨S', hS', he⟩ := kidsF_ext k nd.ks s S (fun j hj => h j (by omega)) (by omega) (by omega) s' hf
            rw [hS']
            exact treeG_ext ns k s' S' he (by rw [kidsF_len k _ _ _ hf]; omega) (by rw [kidsF_len k _ _ _ hS']; omega) ht
        · rw [if_neg hr] at ht; cases ht
    · rw [if_neg hk] at ht ⊢
      exact treeG_ext ns k s S (fun j hj => h j (by omega)) (by omega) (by omega) ht
theorem treeG_congr {ns ms : List Nd} : ∀ (k : Nat) (s : List Bool), (∀ i, i < k → ns[i]? = ms[i]?) → treeG ns k s = treeG ms k s
  | 0, _, _ => rfl
  | k + 1, s, h => by
    simp only [treeG]
    rw [h k (by omega)]
    by_cases hk : s.getD k false = true
    · rw [if_pos hk, if_pos hk]
      cases ms[k]? with
      | none => rfl
      | some nd =>
        simp only
        by_cases hr : nd.right = true
        · rw [if_pos hr, if_pos hr]
          cases kidsF k s nd.ks with
          | none => rfl
          | some s' => exact treeG_congr k s' fun i hi => h i (by omega)
        · rw [if_neg hr, if_neg hr]
    · rw [if_neg hk, if_neg hk]
      exact treeG_congr k s fun i hi => h i (by omega)
theorem treeR_congr {ns ms : List Nd} {q : Nat} (h : ∀ i, i ≤ q → ns[i]? = ms[i]?) : treeR ns q = treeR ms q := treeG_congr _ _ fun i hi => h i (by omega)
/-- The names of a place: of what is open, what is reached, all others. -/
abbrev Nms := List ByteArray × List ByteArray × List ByteArray
def addN (nd : Nd) (t : Nms) : Nms := if nd.op = 25 then (t.1, t.2.1 ++ [nd.nm], t.2.2) else if nd.op = 26 then (t.1, t.2.1, t.2.2 ++ [nd.nm]) else (t.1 ++ [nd.nm], t.2.1, t.2.2)
def markK (s : List Bool) (l : List Int) : List Bool := l.foldl (fun s k => s.set k.toNat true) s
/-- The names that stand in what is marked, from the highest mark down. -/
def namesG (ns : List Nd) : Nat → List Bool → Nms → Nms
  | 0, _, t => t
  | i + 1, s, t => if s.getD i false = true then (match ns[i]? with
    | none => t
    | some nd => namesG ns i (markK s nd.ks) (addN nd t)) else namesG ns i s t
theorem kidsF_mark (i : Nat) : ∀ (l : List Int) (s s' : List Bool), kidsF i s l = some s' → s' = markK s l
  | [], s, s', h => by simp only [kidsF, Option.some.injEq] at h; exact h.symm
  | k :: t, s, s', h => by
    simp only [kidsF] at h
    split at h
    · cases h
    · split at h
      · cases h
      · exact kidsF_mark i t _ _ h
def NmIn (t : Nms) (nd : Nd) : Prop := if nd.op = 25 then nd.nm ∈ t.2.1 else if nd.op = 26 then nd.nm ∈ t.2.2 else nd.nm ∈ t.1
/-- All that stands beneath a place, so deep, is named. -/
def Has (ns : List Nd) (t : Nms) : Nat → Int → Prop
  | 0, _ => False
  | d + 1, r => ∃ nd, ns[r.toNat]? = some nd ∧ NmIn t nd ∧ ∀ k ∈ nd.ks, 0 ≤ k ∧ k < r ∧ Has ns t d k
def NmSub (t u : Nms) : Prop := (∀ x ∈ t.1, x ∈ u.1) ∧ (∀ x ∈ t.2.1, x ∈ u.2.1) ∧ ∀ x ∈ t.2.2, x ∈ u.2.2
theorem NmSub.refl (t : Nms) : NmSub t t := ⟨fun _ h => h, fun _ h => h, fun _ h => h⟩
theorem NmSub.trans {t u v : Nms} (h : NmSub t u) (k : NmSub u v) : NmSub t v := ⟨fun x hx => k.1 x (h.1 x hx), fun x hx => k.2.1 x (h.2.1 x hx), fun x hx => k.2.2 x (h.2.2 x hx)⟩
theorem addN_sub (nd : Nd) (t : Nms) : NmSub t (addN nd t) := by
  unfold addN
  split
  · exact ⟨fun _ h => h, fun _ h => List.mem_append_left _ h, fun _ h => h⟩
  · split
    · exact ⟨fun _ h => h, fun _ h => h, fun _ h => List.mem_append_left _ h⟩
    · exact ⟨fun _ h => List.mem_append_left _ h, fun _ h => h, fun _ h => h⟩
theorem addN_in (nd : Nd) (t : Nms) : NmIn (addN nd t) nd := by
  unfold addN NmIn
  by_cases h1 : nd.op = 25
  · simp [h1]
  · by_cases h2 : nd.op = 26
    · simp [h2]
    · simp [h1, h2]
theorem NmIn.sub {t u : Nms} {nd : Nd} (h : NmIn t nd) (k : NmSub t u) : NmIn u nd := by
  unfold NmIn at *
  split
  · rename_i e; rw [if_pos e] at h; exact k.2.1 _ h
  · rename_i e
    rw [if_neg e] at h
    split
    · rename_i e2; rw [if_pos e2] at h; exact k.2.2 _ h
    · rename_i e2; rw [if_neg e2] at h; exact k.1 _ h
theorem Has.mono {ns : List Nd} {t : Nms} : ∀ {d : Nat} {r : Int}, Has ns t d r → Has ns t (d + 1) r
  | 0, _, h => h.elim
  | d + 1, r, h => by
    obtain ⟨nd, hnd, hn, hk⟩ := h
    exact ⟨nd, hnd, hn, fun k hkk => ⟨(hk k hkk).1, (hk k hkk).2.1, Has.mono (hk k hkk).2.2⟩⟩
theorem Has.le {ns : List Nd} {t : Nms} {d e : Nat} {r : Int} (h : Has ns t d r) (hde : d ≤ e) : Has ns t e r := by
  induction hde with
  | refl => exact h
  | step _ ih => exact Has.mono ih
theorem names_sub (ns : List Nd) : ∀ (k : Nat) (s : List Bool) (t : Nms), NmSub t (namesG ns k s t)
  | 0, _, t => NmSub.refl t
  | k + 1, s, t => by
    simp only [namesG]
    split
    · split
      · exact NmSub.refl t
      · rename_i nd _
        exact (addN_sub nd t).trans (names_sub ns k _ _)
    · exact names_sub ns k s t
theorem names_has (ns : List Nd) : ∀ (k : Nat) (s : List Bool) (t : Nms), k ≤ s.length → treeG ns k s = true → ∀ i, i < k → s.getD i false = true → Has ns (namesG ns k s t) (i + 1) i
  | 0, _, _, _, _, i, hi, _ => by omega
  | k + 1, s, t, hs, h, i, hi, hm => by
    simp only [treeG] at h
    simp only [namesG]
    by_cases hk : s.getD k false = true
    · rw [if_pos hk] at h ⊢
      cases hn : ns[k]? with
      | none => rw [hn] at h; cases h
      | some nd =>
        rw [hn] at h
        simp only at h ⊢
        by_cases hr : nd.right = true
        · rw [if_pos hr] at h
          cases hf : kidsF k s nd.ks with
          | none => rw [hf] at h; cases h
          | some s' =>
            rw [hf] at h
            simp only at h
            have hmk := kidsF_mark k nd.ks s s' hf
            obtain ⟨h1, h2⟩ := kidsF_marks nd.ks s s' (by omega) hf
            have hs' : k ≤ s'.length := by rw [kidsF_len k nd.ks s s' hf]; omega
            have ih := names_has ns k s' (addN nd t) hs' h
            rw [← hmk]
            by_cases hik : i = k
            · subst hik
              refine ⟨nd, by simpa using hn, (addN_in nd t).sub (names_sub ns i s' _), fun x hx => ?_⟩
              obtain ⟨x0, x1, x2⟩ := h2 x hx
              have := ih x.toNat (by omega) x2
              rw [Int.toNat_of_nonneg x0] at this
              exact ⟨x0, x1, this.le (by omega)⟩
            · exact ih i (by omega) (h1 i hm)
        · rw [if_neg hr] at h; cases h
    · rw [if_neg hk] at h ⊢
      have hik : i ≠ k := fun e => by subst e; exact hk hm
      exact names_has ns k s t (by omega) h i (by omega) hm
/-- The names beneath a root. -/
def namesR (ns : List Nd) (q : Nat) : Nms := namesG ns (q + 1) ((List.replicate ns.length false).set q true) ([], [], [])
theorem namesR_has {ns : List Nd} {q : Nat} (hq : q < ns.length) (h : treeR ns q = true) : Has ns (namesR ns q) (q + 1) q := by
  refine names_has ns (q + 1) _ _ (by simp; omega) (treeG_ext ns (q + 1) _ _ (fun j hj => ?_) (by simp) (by simp; omega) h) q (by omega) ?_
  · simp only [List.getD_eq_getElem?_getD, List.getElem?_set, List.length_replicate, List.getElem?_replicate]
    by_cases e : q = j
    · rw [if_pos e, if_pos e, if_pos (by omega), if_pos (by omega)]
    · rw [if_neg e, if_neg e, if_pos (by omega), if_pos (by omega)]
  · simp only [List.getD_eq_getElem?_getD, List.getElem?_set, List.length_replicate]
    rw [if_pos trivial, if_pos (by omega)]
    rfl
/-- Two views that tell alike of what is named. -/
structure Agr (t : Nms) (u v : Vw) : Prop where
  a : ∀ x ∈ t.1, u.value x = v.value x
  b : ∀ x ∈ t.2.1, inSS u.op x = inSS v.op x
  c : ∀ x ∈ t.2.2, inSS u.rc x = inSS v.rc x
  k : u.clock = v.clock
  s : u.steps = v.steps
theorem leaf_agree {t : Nms} {u v : Vw} {nd : Nd} (h : Agr t u v) (hn : NmIn t nd) : leafW nd u = leafW nd v := by
  unfold NmIn at hn
  unfold leafW
  by_cases h25 : nd.op = 25
  · simp only [h25] at hn ⊢
    simp [h.b _ hn]
  · by_cases h26 : nd.op = 26
    · simp only [h26] at hn ⊢
      simp at hn
      simp [h.c _ hn]
    · rw [if_neg h25, if_neg h26] at hn
      rw [h.a _ hn, h.k, h.s]
      simp [h25, h26]
theorem nodeW_congr {f g : Int → Wr} {nd : Nd} {u v : Vw} (hr : nd.right = true) (hks : nd.ks.length = nd.kl) (hl : leafW nd u = leafW nd v) (hf : ∀ k ∈ nd.ks, f k = g k) : nodeW f nd u = nodeW g nd v := by
  obtain ⟨hkl, -, -, -⟩ := right_cases hr
  have kid : ∀ i, i < nd.kl → wkid f nd i = wkid g nd i := fun i hi => by
    unfold wkid
    rw [List.getElem?_eq_getElem (by omega)]
    exact hf _ (List.getElem_mem _)
  unfold nodeW
  rw [hl]
  cases leafW nd v with
  | some r => rfl
  | none =>
    simp only
    by_cases h9 : nd.op = 9
    · have h2 : nd.kl = 2 := by simp [kidsN, h9] at hkl; omega
      rw [if_pos h9, if_pos h9, kid 0 (by omega), kid 1 (by omega)]
    · rw [if_neg h9, if_neg h9]
      by_cases h10 : nd.op = 10
      · have h2 : nd.kl = 2 := by simp [kidsN, h10] at hkl; omega
        rw [if_pos h10, if_pos h10, kid 0 (by omega), kid 1 (by omega)]
      · rw [if_neg h10, if_neg h10]
        by_cases h23 : nd.op = 23
        · have h3 : nd.kl = 3 := by simp [kidsN, h23] at hkl; omega
          rw [if_pos h23, if_pos h23, kid 0 (by omega), kid 1 (by omega), kid 2 (by omega)]
        · rw [if_neg h23, if_neg h23]
          by_cases h33 : nd.op = 33
          · have h2 : nd.kl = 2 := by simp [kidsN, h33] at hkl; omega
            rw [if_pos h33, if_pos h33, kid 0 (by omega), kid 1 (by omega)]
          · rw [if_neg h33, if_neg h33]
            by_cases h11 : nd.op = 11 ∨ nd.op = 12
            · have h2 : nd.kl = 2 := by rcases h11 with h | h <;> (simp [kidsN, h] at hkl; omega)
              rw [if_pos h11, if_pos h11, kid 0 (by omega), kid 1 (by omega)]
            · rw [if_neg h11, if_neg h11, List.map_congr_left hf]
theorem wK_agree {ns ms : List Nd} {t : Nms} {u v : Vw} (h : Agr t u v) (hn : ∀ nd ∈ ns, nd.ks.length = nd.kl ∧ I64 nd.vn) : ∀ (d : Nat) (r : Int), 0 ≤ r → goodN ns d r → Has ns t d r → (∀ i : Nat, (i : Int) ≤ r → ms[i]? = ns[i]?) → wK ms u d r = wK ns v d r
  | 0, r, _, hg, _, _ => hg.elim
  | d + 1, r, h0, hg, hh, he => by
    obtain ⟨-, nd, hnd, hr, -, hk⟩ := hg
    obtain ⟨nd', hnd', hin, hk'⟩ := hh
    rw [hnd] at hnd'
    cases hnd'
    rw [wK_at hnd, wK_at (nd := nd) (by rw [he r.toNat (by omega)]; exact hnd)]
    have hm := hn nd (List.mem_of_getElem? hnd)
    exact nodeW_congr hr hm.1 (leaf_agree h hin) fun k hkk => wK_agree h hn d k (hk' k hkk).1 (hk k hkk) (hk' k hkk).2.2 fun i hi => he i (by have := (hk' k hkk).2.1; omega)
/-- What is not named beneath a root, and what stands behind it, leave its worth alone. -/
theorem worth_local {ns ms : List Nd} {u v : Vw} {q : Nat} (hq : q < ns.length) (hn : ∀ nd ∈ ns, nd.ks.length = nd.kl ∧ I64 nd.vn) (hs : ∀ (i : Nat) (nd : Nd), i < q + 1 → ns[i]? = some nd → nd.kl ≤ 1000000) (ht : treeR ns q = true) (h : Agr (namesR ns q) u v) (he : ∀ i, i ≤ q → ms[i]? = ns[i]?) (hm : q < ms.length) :
    worthR ms q u = worthR ns q v := by
  have e1 : ¬ ((q : Int) < 0 ∨ (ms.length : Int) ≤ (q : Int)) := by omega
  have e2 : ¬ ((q : Int) < 0 ∨ (ns.length : Int) ≤ (q : Int)) := by omega
  unfold worthR
  rw [if_neg e1, if_neg e2, Int.toNat_natCast, treeR_congr he, ht, if_pos rfl, if_pos rfl]
  exact wK_agree h hn (q + 1) q (by omega) (treeR_good hs ht) (namesR_has hq ht) fun i hi => he i (by omega)
theorem worth_tree {ns : List Nd} {v : Vw} {q : Nat} (hq : q < ns.length) (h : treeR ns q = false) : worthR ns q v = .error 8 := by
  unfold worthR
  rw [if_neg (by omega), Int.toNat_natCast, h]
  rfl
end Go.Proofs.YtcnckjlmldnblaaDoor
