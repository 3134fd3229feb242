import Derived.Test.YtakaoacialnjaaaDoorK59
namespace Go.Proofs.YtakaoacialnjaaaDoor
open Go Go.RowKit
set_option linter.unusedVariables false
set_option linter.unusedSimpArgs false
/-! Plain laws: what Of answers, told node by node. -/
/-- The places that are taken, as a row of marks and as a list. -/
def Rl (s : List Bool) (U : List Int) : Prop := ∀ j : Nat, s.getD j false = true ↔ ((j : Int) ∈ U ∧ j < s.length)
theorem Rl.set {s : List Bool} {U : List Int} (h : Rl s U) {k : Int} (h0 : 0 ≤ k) (h1 : k < s.length) : Rl (s.set k.toNat true) (U ++ [k]) := by
  intro j
  have hj := h j
  simp only [List.getD_eq_getElem?_getD, List.getElem?_set, List.length_set, List.mem_append, List.mem_singleton] at hj ⊢
  by_cases e : k.toNat = j
  · have : (j : Int) = k := by omega
    rw [if_pos e, if_pos (by omega)]
    simp [this]; omega
  · rw [if_neg e, hj]
    have : ¬ (j : Int) = k := by omega
    simp [this]
theorem kidsF_iff (i : Nat) (l : List Int) : ∀ (s : List Bool) (U : List Int), Rl s U → i ≤ s.length →
    ((∃ s', kidsF i s l = some s' ∧ Rl s' (U ++ l) ∧ s'.length = s.length) ↔ ((∀ k ∈ l, 0 ≤ k ∧ k < (i : Int)) ∧ (∀ k ∈ l, k ∉ U) ∧ l.Nodup)) ∧ ((∃ s', kidsF i s l = some s') → ∃ s', kidsF i s l = some s' ∧ Rl s' (U ++ l) ∧ s'.length = s.length) := by
  induction l with
  | nil => intro s U h hi; exact ⟨⟨fun _ => ⟨by simp, by simp, by simp⟩, fun _ => ⟨s, rfl, by simpa using h, rfl⟩⟩, fun _ => ⟨s, rfl, by simpa using h, rfl⟩⟩
  | cons k t ih =>
    intro s U h hi
    simp only [kidsF]
    by_cases h1 : k < 0 ∨ (i : Int) ≤ k
    · rw [if_pos h1]
      refine ⟨⟨fun ⟨s', e, _⟩ => (by cases e), fun ⟨a, _⟩ => ?_⟩, fun ⟨s', e⟩ => by cases e⟩
      have := a k List.mem_cons_self
      omega
    · rw [if_neg h1]
      by_cases h2 : s.getD k.toNat false = true
      · rw [if_pos h2]
        refine ⟨⟨fun ⟨s', e, _⟩ => (by cases e), fun ⟨_, b, _⟩ => ?_⟩, fun ⟨s', e⟩ => by cases e⟩
        have := ((h k.toNat).1 h2).1
        rw [show ((k.toNat : Nat) : Int) = k by omega] at this
        exact absurd this (b k List.mem_cons_self)
      · rw [if_neg h2]
        have hk : k ∉ U := fun hm => h2 ((h k.toNat).2 ⟨by rw [show ((k.toNat : Nat) : Int) = k by omega]; exact hm, by omega⟩)
        have hs := h.set (k := k) (by omega) (by omega)
        obtain ⟨i1, i2⟩ := ih (s.set k.toNat true) (U ++ [k]) hs (by simpa using hi)
        rw [List.append_assoc, List.singleton_append, List.length_set] at i1 i2
        refine ⟨i1.trans ⟨fun ⟨a, b, c⟩ => ⟨?_, ?_, ?_⟩, fun ⟨a, b, c⟩ => ⟨?_, ?_, ?_⟩⟩, i2⟩
        · intro q hq
          rcases List.mem_cons.1 hq with rfl | hq
          · omega
          · exact a q hq
        · intro q hq
          rcases List.mem_cons.1 hq with rfl | hq
          · exact hk
          · exact fun hm => b q hq (List.mem_append_left _ hm)
        · rw [List.nodup_cons]
          exact ⟨fun hm => b k hm (List.mem_append_right _ (List.mem_singleton_self k)), c⟩
        · exact fun q hq => a q (List.mem_cons_of_mem _ hq)
        · intro q hq hm
          rcases List.mem_append.1 hm with hm | hm
          · exact b q (List.mem_cons_of_mem _ hq) hm
          · rw [List.mem_singleton] at hm
            subst hm
            exact (List.nodup_cons.1 c).1 hq
        · exact (List.nodup_cons.1 c).2
theorem treesF_iff (ns : List Nd) : ∀ (i : Nat) (s : List Bool) (U : List Int), Rl s U → i + ns.length ≤ s.length →
    (treesF i s ns = true ↔ ((∀ (j : Nat) (nd : Nd), ns[j]? = some nd → nd.right = true ∧ ∀ k ∈ nd.ks, 0 ≤ k ∧ k < ((i + j : Nat) : Int)) ∧ (∀ k ∈ ns.flatMap Nd.ks, k ∉ U) ∧ (ns.flatMap Nd.ks).Nodup)) := by
  induction ns with
  | nil => intro i s U h hi; simp [treesF]
  | cons n t ih =>
    intro i s U h hi
    simp only [List.length_cons] at hi
    simp only [treesF, List.flatMap_cons]
    by_cases hr : n.right = true
    · rw [if_pos hr]
      obtain ⟨k1, k2⟩ := kidsF_iff i n.ks s U h (by omega)
      cases hk : kidsF i s n.ks with
      | none =>
        refine ⟨fun e => (by cases e), fun ⟨a, b, c⟩ => ?_⟩
        have h0 := a 0 n rfl
        rw [List.nodup_append] at c
        obtain ⟨s', e, _⟩ := k1.2 ⟨by simpa using h0.2, fun k hk => b k (List.mem_append_left _ hk), c.1⟩
        rw [hk] at e; cases e
      | some s' =>
        obtain ⟨s2, e2, r2, l2⟩ := k2 ⟨s', hk⟩
        obtain rfl : s' = s2 := by rw [hk] at e2; exact Option.some.inj e2
        obtain ⟨q1, q2, q3⟩ := k1.1 ⟨s', hk, r2, l2⟩
        refine (ih (i + 1) s' (U ++ n.ks) r2 (by omega)).trans ⟨fun ⟨a, b, c⟩ => ⟨fun j nd hj => ?_, ?_, ?_⟩, fun ⟨a, b, c⟩ => ⟨fun j nd hj => ?_, ?_, ?_⟩⟩
        · cases j with
          | zero => simp at hj; subst hj; exact ⟨hr, by simpa using q1⟩
          | succ j =>
            simp only [List.getElem?_cons_succ] at hj
            have := a j nd hj
            rwa [show i + 1 + j = i + (j + 1) by omega] at this
        · intro k hk
          rcases List.mem_append.1 hk with hk | hk
          · exact q2 k hk
          · exact fun hm => b k hk (List.mem_append_left _ hm)
        · rw [List.nodup_append]
          refine ⟨q3, c, fun x hx y hy hxy => ?_⟩
          subst hxy
          exact b x hy (List.mem_append_right _ hx)
        · have := a (j + 1) nd (by simpa using hj)
          rwa [show i + (j + 1) = i + 1 + j by omega] at this
        · intro k hk hm
          rw [List.nodup_append] at c
          rcases List.mem_append.1 hm with hm | hm
          · exact b k (List.mem_append_right _ hk) hm
          · exact c.2.2 k hm k hk rfl
        · exact (List.nodup_append.1 c).2.1
    · rw [if_neg hr]
      refine ⟨fun e => (by cases e), fun ⟨a, _⟩ => absurd (a 0 n rfl).1 hr⟩
theorem treesB_iff (ns : List Nd) : treesB ns = true ↔ ((∀ (j : Nat) (nd : Nd), ns[j]? = some nd → nd.right = true ∧ ∀ k ∈ nd.ks, 0 ≤ k ∧ k < (j : Int)) ∧ (ns.flatMap Nd.ks).Nodup) := by
  unfold treesB
  have h0 : Rl (List.replicate ns.length false) [] := by
    intro j
    simp only [List.getD_eq_getElem?_getD, List.getElem?_replicate]
    split <;> simp
  rw [treesF_iff ns 0 _ [] h0 (by simp)]
  simp
/-- Each node has its kind. -/
def Kinds (sc : List Nm) (ks : List (Int × Bool)) (ns : List Nd) : Prop := ks.length = ns.length ∧ ∀ (i : Nat) (nd : Nd), ns[i]? = some nd → ∃ x, ks[i]? = some x ∧ lookK sc (ks.take i) nd.op nd.nm.toList (nd.ks.map Int.toNat) = (x, 0)
theorem ofF_iff (sc : List Nm) (ns : List Nd) : ∀ (pre : List (Int × Bool)) (r : List (Int × Bool)),
    ofF sc pre.length pre ns = (r, 0, 0) ∧ r.length = pre.length + ns.length ↔ (r.length = pre.length + ns.length ∧ r.take pre.length = pre ∧ ∀ (i : Nat) (nd : Nd), ns[i]? = some nd → ∃ x, r[pre.length + i]? = some x ∧ lookK sc (r.take (pre.length + i)) nd.op nd.nm.toList (nd.ks.map Int.toNat) = (x, 0)) := by
  induction ns with
  | nil =>
    intro pre r
    simp only [ofF, List.length_nil, Nat.add_zero]
    constructor
    · rintro ⟨e, _⟩
      simp only [Prod.mk.injEq, and_true] at e
      subst e
      exact ⟨rfl, List.take_length, fun i nd h => by simp at h⟩
    · rintro ⟨h1, h2, _⟩
      rw [← h1, List.take_length] at h2
      exact ⟨by rw [h2], h1⟩
  | cons n t ih =>
    intro pre r
    simp only [ofF, List.length_cons]
    by_cases h : (lookK sc pre n.op n.nm.toList (n.ks.map Int.toNat)).2 = 0
    · rw [if_pos h]
      have hi := ih (pre ++ [(lookK sc pre n.op n.nm.toList (n.ks.map Int.toNat)).1]) r
      simp only [List.length_append, List.length_cons, List.length_nil, Nat.zero_add] at hi
      rw [show pre.length + (t.length + 1) = pre.length + 1 + t.length by omega]
      refine hi.trans ⟨fun ⟨a, b, c⟩ => ⟨a, ?_, fun i nd hn => ?_⟩, fun ⟨a, b, c⟩ => ⟨a, ?_, fun i nd hn => ?_⟩⟩
      · have := congrArg (List.take pre.length) b
        rwa [List.take_take, Nat.min_eq_left (by omega), List.take_left] at this
      · cases i with
        | zero =>
          simp only [List.getElem?_cons_zero, Option.some.injEq] at hn
          subst hn
          have hb := congrArg (fun l => l[pre.length]?) b
          simp only [List.getElem?_take_of_lt (Nat.lt_succ_self _), List.getElem?_append_right (Nat.le_refl _), Nat.sub_self, List.getElem?_cons_zero] at hb
          have hb2 := congrArg (List.take pre.length) b
          rw [List.take_take, Nat.min_eq_left (by omega), List.take_left] at hb2
          refine ⟨_, by rw [Nat.add_zero]; exact hb, ?_⟩
          rw [Nat.add_zero, hb2, ← h]
        | succ i =>
          simp only [List.getElem?_cons_succ] at hn
          have := c i nd hn
          rwa [show pre.length + 1 + i = pre.length + (i + 1) by omega] at this
      · obtain ⟨x, hx, hl⟩ := c 0 n rfl
        rw [Nat.add_zero] at hx hl
        rw [b] at hl
        rw [List.take_add_one, b, hx, hl]; rfl
      · have := c (i + 1) nd (by simpa using hn)
        rwa [show pre.length + (i + 1) = pre.length + 1 + i by omega] at this
    · rw [if_neg h]
      refine ⟨fun ⟨e, _⟩ => ?_, fun ⟨a, b, c⟩ => ?_⟩
      · simp only [Prod.mk.injEq] at e
        exact absurd e.2.2 h
      · obtain ⟨x, hx, hl⟩ := c 0 n rfl
        rw [Nat.add_zero] at hl
        rw [b] at hl
        rw [hl] at h
        exact absurd rfl h
theorem ofF_err (sc : List Nm) (ns : List Nd) : ∀ (pre : List (Int × Bool)), (ofF sc pre.length pre ns).2.2 = 0 → (ofF sc pre.length pre ns).2.1 = 0 ∧ (ofF sc pre.length pre ns).1.length = pre.length + ns.length := by
  induction ns with
  | nil => intro pre h; exact ⟨rfl, rfl⟩
  | cons n t ih =>
    intro pre h
    simp only [ofF] at h ⊢
    split
    · rename_i he
      rw [if_pos he] at h
      have := ih (pre ++ [(lookK sc pre n.op n.nm.toList (n.ks.map Int.toNat)).1]) (by simpa using h)
      simp only [List.length_append, List.length_cons, List.length_nil, Nat.zero_add] at this
      exact ⟨this.1, by rw [this.2]; simp; omega⟩
    · rename_i he
      rw [if_neg he] at h
      exact absurd h he
/-- Of answers kinds for trees of which each node has its kind, and for no others. -/
theorem ofK_ok {ns : List Nd} {sc : List Nm} (h : (ofK ns sc).2.2 = 0) : treesB ns = true ∧ (ofK ns sc).2.1 = 0 ∧ Kinds sc (ofK ns sc).1 ns := by
  unfold ofK at h ⊢
  split
  · rename_i hT
    rw [if_pos hT] at h
    obtain ⟨h1, h2⟩ := ofF_err sc ns [] h
    simp only [List.length_nil, Nat.zero_add] at h1 h2
    have := (ofF_iff sc ns [] (ofF sc 0 [] ns).1).1 ⟨Prod.ext rfl (Prod.ext h1 h), by simpa using h2⟩
    simp only [List.length_nil, Nat.zero_add] at this
    exact ⟨hT, h1, h2, this.2.2⟩
  · rename_i hT
    rw [if_neg hT] at h
    exact absurd h (by decide)
theorem ofK_of {ns : List Nd} {sc : List Nm} {ks : List (Int × Bool)} (hT : treesB ns = true) (h : Kinds sc ks ns) : ofK ns sc = (ks, 0, 0) := by
  unfold ofK
  rw [if_pos hT]
  exact ((ofF_iff sc ns [] ks).2 ⟨by simpa using h.1, rfl, by simpa using h.2⟩).1
theorem atK_sim {ks ks' : List (Int × Bool)} {kids : List Nat} {f : Nat → Nat} (hs : ∀ k ∈ kids, ks'.getD (f k) (0, false) = ks.getD k (0, false)) {i : Nat} (hi : i < kids.length) : atK ks' (kids.map f) i = atK ks kids i := by
  unfold atK
  simp only [List.getD_eq_getElem?_getD, List.getElem?_map, List.getElem?_eq_getElem hi, Option.map_some, Option.getD_some]
  have := hs _ (List.getElem_mem hi)
  simpa only [List.getD_eq_getElem?_getD] using this
/-- A node's kind hangs on its kids' kinds alone. -/
theorem lookK_sim {n : Nd} (hr : n.right = true) (sc : List Nm) {ks ks' : List (Int × Bool)} {kids : List Nat} (hl : kids.length = n.kl) {f : Nat → Nat} (hs : ∀ k ∈ kids, ks'.getD (f k) (0, false) = ks.getD k (0, false)) :
    lookK sc ks' n.op n.nm.toList (kids.map f) = lookK sc ks n.op n.nm.toList kids := by
  obtain ⟨hr1, hr2⟩ := right_kids hr
  rw [← hl] at hr2
  unfold kidsN at hr1 hr2
  unfold lookK
  by_cases h1 : n.op = 1 ∨ n.op = 30
  · rw [if_pos h1, if_pos h1]
  rw [if_neg h1, if_neg h1]
  by_cases h2 : n.op = 2 ∨ n.op = 25 ∨ n.op = 26
  · rw [if_pos h2, if_pos h2]
  rw [if_neg h2, if_neg h2]
  by_cases h3 : n.op = 3
  · rw [if_pos h3, if_pos h3]
  rw [if_neg h3, if_neg h3]
  by_cases h29 : n.op = 29
  · rw [if_pos h29, if_pos h29]
  rw [if_neg h29, if_neg h29]
  by_cases h4 : n.op = 4
  · rw [if_pos h4, if_pos h4]
  rw [if_neg h4, if_neg h4]
  by_cases h5 : n.op = 5
  · rw [if_pos h5, if_pos h5]
  rw [if_neg h5, if_neg h5]
  by_cases h24 : n.op = 24
  · rw [if_pos h24, if_pos h24]
  rw [if_neg h24, if_neg h24]
  by_cases h6 : n.op = 6
  · rw [if_pos h6, if_pos h6]
    congr 2
    rw [List.all_map]
    apply Bool.eq_iff_iff.2
    rw [List.all_eq_true, List.all_eq_true]
    constructor
    · intro h k hk
      have := h k hk
      simp only [Function.comp, textK] at this ⊢
      rwa [hs k hk] at this
    · intro h k hk
      have := h k hk
      simp only [Function.comp, textK] at this ⊢
      rwa [hs k hk]
  rw [if_neg h6, if_neg h6]
  have hop : ¬ (n.op < 1 ∨ 34 ≤ n.op) := fun e => hr1 (by rw [if_pos e])
  rw [if_neg hop, if_neg h6] at hr2
  by_cases h7 : n.op = 7 ∨ n.op = 8 ∨ n.op = 27
  · rw [if_pos h7, if_pos h7]
    rw [if_neg (by omega), if_pos h7] at hr2
    rw [atK_sim hs (by omega)]
  rw [if_neg h7, if_neg h7]
  by_cases h23 : n.op = 23
  · rw [if_pos h23, if_pos h23]
    rw [if_pos h23] at hr2
    rw [atK_sim hs (by omega), atK_sim hs (by omega), atK_sim hs (by omega)]
  rw [if_neg h23, if_neg h23]
  rw [if_neg h23, if_neg h7, if_neg (by omega)] at hr2
  rw [atK_sim hs (by omega), atK_sim hs (by omega)]
end Go.Proofs.YtakaoacialnjaaaDoor
namespace Go.Proofs.YtakaoacialnjaaaDoor
open Go Go.RowKit
set_option linter.unusedVariables false
set_option linter.unusedSimpArgs false
/-! Plain law: trees cut out of their rows. -/
def kp (keep : List Bool) (i : Nat) : Bool := keep.getD i false
/-- How many are kept ahead of i. -/
def nk (keep : List Bool) (i : Nat) : Nat := (List.range i).countP (kp keep)
theorem nk_succ (keep : List Bool) (i : Nat) : nk keep (i + 1) = nk keep i + if kp keep i = true then 1 else 0 := by
  unfold nk
  rw [List.range_succ, List.countP_append]
  simp [List.countP_cons]
theorem nk_mono (keep : List Bool) {i j : Nat} (h : i ≤ j) : nk keep i ≤ nk keep j := by
  induction j with
  | zero => obtain rfl : i = 0 := by omega
            exact Nat.le_refl _
  | succ j ih =>
    by_cases e : i = j + 1
    · subst e; exact Nat.le_refl _
    · rw [nk_succ]; have := ih (by omega); omega
theorem nk_lt (keep : List Bool) {i j : Nat} (h : i < j) (hk : kp keep i = true) : nk keep i < nk keep j := by
  have := nk_mono keep (show i + 1 ≤ j by omega)
  rw [nk_succ, if_pos hk] at this
  omega
theorem nk_inj (keep : List Bool) {i j : Nat} (hi : kp keep i = true) (hj : kp keep j = true) (h : nk keep i = nk keep j) : i = j := by
  rcases Nat.lt_trichotomy i j with hlt | he | hlt
  · have := nk_lt keep hlt hi; omega
  · exact he
  · have := nk_lt keep hlt hj; omega
theorem nk_surj (keep : List Bool) (n : Nat) : ∀ j, j < nk keep n → ∃ i, i < n ∧ kp keep i = true ∧ nk keep i = j := by
  induction n with
  | zero => intro j h; simp [nk] at h
  | succ n ih =>
    intro j h
    rw [nk_succ] at h
    by_cases hk : kp keep n = true
    · rw [if_pos hk] at h
      by_cases e : j = nk keep n
      · exact ⟨n, by omega, hk, e.symm⟩
      · obtain ⟨i, h1, h2, h3⟩ := ih j (by omega)
        exact ⟨i, by omega, h2, h3⟩
    · rw [if_neg hk] at h
      obtain ⟨i, h1, h2, h3⟩ := ih j (by omega)
      exact ⟨i, by omega, h2, h3⟩
/-- The kept places, in order. -/
def kidx (keep : List Bool) (n : Nat) : List Nat := (List.range n).filter (kp keep)
theorem kidx_len (keep : List Bool) (n : Nat) : (kidx keep n).length = nk keep n := by
  unfold kidx nk
  rw [List.countP_eq_length_filter]
theorem kidx_at (keep : List Bool) (n : Nat) : ∀ i, i < n → kp keep i = true → (kidx keep n)[nk keep i]? = some i := by
  induction n with
  | zero => intro i h; omega
  | succ n ih =>
    intro i h hk
    have hf : kidx keep (n + 1) = kidx keep n ++ if kp keep n = true then [n] else [] := by
      unfold kidx
      rw [List.range_succ, List.filter_append]
      congr 1
      simp [List.filter_cons]
    rw [hf]
    by_cases e : i = n
    · subst e
      rw [List.getElem?_append_right (by rw [kidx_len]; exact Nat.le_refl _), kidx_len, if_pos hk]
      simp
    · rw [List.getElem?_append_left (by rw [kidx_len]; exact nk_lt keep (by omega) hk)]
      exact ih i (by omega) hk
def plc (p : Nat) (keep : List Bool) (i : Nat) : Nat := if kp keep i = true then p + nk keep i else 0
/-- What moved makes: the kept nodes, their kids' places turned. -/
structure Mov (ns : List Nd) (keep : List Bool) (p : Nat) (us : List Nd) : Prop where
  len : us.length = nk keep ns.length
  has : ∀ (i : Nat) (nd : Nd), ns[i]? = some nd → kp keep i = true → ∃ u, us[nk keep i]? = some u ∧ u.op = nd.op ∧ u.nm = nd.nm ∧ u.vk = nd.vk ∧ u.vn = nd.vn ∧ u.vt = nd.vt ∧ u.sl = nd.sl ∧ u.kl = nd.kl ∧ u.ks = nd.ks.map fun k => ((plc p keep k.toNat : Nat) : Int)
theorem flat_nodup (us : List Nd) : (us.flatMap Nd.ks).Nodup ↔ ((∀ (i : Nat) (u : Nd), us[i]? = some u → u.ks.Nodup) ∧ ∀ (i j : Nat) (u v : Nd) (x : Int), us[i]? = some u → us[j]? = some v → x ∈ u.ks → x ∈ v.ks → i = j) := by
  induction us with
  | nil => simp
  | cons n t ih =>
    rw [List.flatMap_cons, List.nodup_append, ih]
    constructor
    · rintro ⟨h1, ⟨h2, h3⟩, h4⟩
      refine ⟨fun i u hu => ?_, fun i j u v x hu hv hxu hxv => ?_⟩
      · cases i with
        | zero => simp at hu; subst hu; exact h1
        | succ i => exact h2 i u (by simpa using hu)
      · cases i with
        | zero =>
          cases j with
          | zero => rfl
          | succ j =>
            simp only [List.getElem?_cons_zero, Option.some.injEq] at hu
            subst hu
            exact absurd rfl (h4 x hxu x (List.mem_flatMap.2 ⟨v, List.mem_of_getElem? (by simpa using hv), hxv⟩))
        | succ i =>
          cases j with
          | zero =>
            simp only [List.getElem?_cons_zero, Option.some.injEq] at hv
            subst hv
            exact absurd rfl (h4 x hxv x (List.mem_flatMap.2 ⟨u, List.mem_of_getElem? (by simpa using hu), hxu⟩))
          | succ j =>
            have := h3 i j u v x (by simpa using hu) (by simpa using hv) hxu hxv
            omega
    · rintro ⟨h1, h2⟩
      refine ⟨h1 0 n rfl, ⟨fun i u hu => h1 (i + 1) u (by simpa using hu), fun i j u v x hu hv hxu hxv => ?_⟩, fun x hx y hy hxy => ?_⟩
      · have := h2 (i + 1) (j + 1) u v x (by simpa using hu) (by simpa using hv) hxu hxv
        omega
      · subst hxy
        obtain ⟨v, hv, hxv⟩ := List.mem_flatMap.1 hy
        obtain ⟨j, hj⟩ := List.getElem?_of_mem hv
        have := h2 0 (j + 1) n v x rfl (by simpa using hj) hx hxv
        omega
/-- What is asked of the kept nodes. -/
structure Kept (sc : List Nm) (ks : List (Int × Bool)) (ns : List Nd) (keep : List Bool) : Prop where
  len : ks.length = ns.length
  one : ∀ (i : Nat) (nd : Nd), ns[i]? = some nd → kp keep i = true → nd.right = true ∧ nd.ks.length = nd.kl ∧ nd.ks.Nodup ∧ (∀ k ∈ nd.ks, 0 ≤ k ∧ k < (i : Int) ∧ kp keep k.toNat = true) ∧ ∃ x, ks[i]? = some x ∧ lookK sc (ks.take i) nd.op nd.nm.toList (nd.ks.map Int.toNat) = (x, 0)
  two : ∀ (i j : Nat) (u v : Nd) (x : Int), ns[i]? = some u → ns[j]? = some v → kp keep i = true → kp keep j = true → x ∈ u.ks → x ∈ v.ks → i = j
theorem plc_eq {p : Nat} {keep : List Bool} {i : Nat} (h : kp keep i = true) : plc p keep i = p + nk keep i := by unfold plc; rw [if_pos h]
theorem cut_ok {sc : List Nm} {ks : List (Int × Bool)} {ns : List Nd} {keep : List Bool} (hK : Kept sc ks ns keep) {ahead us : List Nd} {ax : List (Int × Bool)} (ha : ∀ a ∈ ahead, a.right = true ∧ a.ks = []) (hA : Kinds sc ax ahead) (hM : Mov ns keep ahead.length us) :
    ∃ ms, ofK (ahead ++ us) sc = (ms, 0, 0) ∧ ms.length = ahead.length + us.length ∧ (∀ i, i < ahead.length → ms[i]? = ax[i]?) ∧ ∀ i, i < ns.length → kp keep i = true → ms[ahead.length + nk keep i]? = ks[i]? := by
  obtain ⟨p, hp⟩ : ∃ p, p = ahead.length := ⟨_, rfl⟩
  rw [← hp] at hM ⊢
  have hlk := hK.len
  have hal : ax.length = p := by rw [hp]; exact hA.1
  have hu : ∀ j u, us[j]? = some u → ∃ i nd, i < ns.length ∧ kp keep i = true ∧ nk keep i = j ∧ ns[i]? = some nd ∧ u.op = nd.op ∧ u.nm = nd.nm ∧ u.right = nd.right ∧ u.ks = nd.ks.map fun k => ((plc p keep k.toNat : Nat) : Int) := by
    intro j u hj
    have hjl : j < nk keep ns.length := by rw [← hM.len]; exact (List.getElem?_eq_some_iff.1 hj).1
    obtain ⟨i, h1, h2, h3⟩ := nk_surj keep ns.length j hjl
    obtain ⟨u', hu', e1, e2, e3, e4, e5, e6, e7, e8⟩ := hM.has i _ (List.getElem?_eq_getElem h1) h2
    rw [h3, hj] at hu'
    obtain rfl := Option.some.inj hu'
    exact ⟨i, _, h1, h2, h3, List.getElem?_eq_getElem h1, e1, e2, by unfold Nd.right; rw [e1, e2, e3, e4, e5, e6, e7], e8⟩
  refine ⟨ax ++ (kidx keep ns.length).map fun i => ks.getD i (0, false), ?_, ?_, ?_, ?_⟩
  · refine ofK_of ?_ ⟨?_, ?_⟩
    · rw [treesB_iff, flat_nodup]
      refine ⟨fun j nd hj => ?_, fun i u hi => ?_, fun i j u v x hi hj hxu hxv => ?_⟩
      · by_cases hjp : j < p
        · rw [List.getElem?_append_left (by omega)] at hj
          obtain ⟨h1, h2⟩ := ha nd (List.mem_of_getElem? hj)
          exact ⟨h1, by rw [h2]; simp⟩
        · rw [List.getElem?_append_right (by omega), ← hp] at hj
          obtain ⟨i, nd', h1, h2, h3, h4, h5, h6, h7, h8⟩ := hu _ _ hj
          obtain ⟨g1, g2, g3, g4, g5⟩ := hK.one i nd' h4 h2
          refine ⟨by rw [h7]; exact g1, fun k hk => ?_⟩
          rw [h8] at hk
          obtain ⟨q, hq, rfl⟩ := List.mem_map.1 hk
          obtain ⟨q1, q2, q3⟩ := g4 q hq
          rw [plc_eq q3]
          have := nk_lt keep (show q.toNat < i by omega) q3
          omega
      · by_cases hjp : i < p
        · rw [List.getElem?_append_left (by omega)] at hi
          rw [(ha u (List.mem_of_getElem? hi)).2]; exact List.nodup_nil
        · rw [List.getElem?_append_right (by omega), ← hp] at hi
          obtain ⟨i', nd', h1, h2, h3, h4, h5, h6, h7, h8⟩ := hu _ _ hi
          obtain ⟨g1, g2, g3, g4, g5⟩ := hK.one i' nd' h4 h2
          rw [h8]
          unfold List.Nodup
          rw [List.pairwise_map]
          refine List.Pairwise.imp_of_mem ?_ g3
          intro a b ha' hb' hab he
          obtain ⟨a1, a2, a3⟩ := g4 a ha'
          obtain ⟨b1, b2, b3⟩ := g4 b hb'
          rw [plc_eq a3, plc_eq b3] at he
          have := nk_inj keep a3 b3 (by omega)
          exact hab (by omega)
      · have hip : ¬ i < p := by
          intro hlt
          rw [List.getElem?_append_left (by omega)] at hi
          rw [(ha u (List.mem_of_getElem? hi)).2] at hxu
          cases hxu
        have hjp : ¬ j < p := by
          intro hlt
          rw [List.getElem?_append_left (by omega)] at hj
          rw [(ha v (List.mem_of_getElem? hj)).2] at hxv
          cases hxv
        rw [List.getElem?_append_right (by omega), ← hp] at hi hj
        obtain ⟨i', nd, h1, h2, h3, h4, h5, h6, h7, h8⟩ := hu _ _ hi
        obtain ⟨j', nd', k1, k2, k3, k4, k5, k6, k7, k8⟩ := hu _ _ hj
        rw [h8] at hxu
        rw [k8] at hxv
        obtain ⟨q, hq, hqx⟩ := List.mem_map.1 hxu
        obtain ⟨r, hr, hrx⟩ := List.mem_map.1 hxv
        obtain ⟨a1, a2, a3⟩ := (hK.one i' nd h4 h2).2.2.2.1 q hq
        obtain ⟨b1, b2, b3⟩ := (hK.one j' nd' k4 k2).2.2.2.1 r hr
        rw [plc_eq a3] at hqx
        rw [plc_eq b3] at hrx
        have he := nk_inj keep a3 b3 (by omega)
        have hqr : q = r := by omega
        subst hqr
        have := hK.two i' j' nd nd' q h4 k4 h2 k2 hq hr
        subst this
        omega
    · rw [List.length_append, List.length_map, kidx_len, hal, List.length_append, hM.len, hp]
    · intro j nd hj
      by_cases hjp : j < p
      · rw [List.getElem?_append_left (by omega)] at hj
        obtain ⟨x, hx, hl⟩ := hA.2 j nd hj
        exact ⟨x, by rw [List.getElem?_append_left (by omega)]; exact hx, by rw [List.take_append_of_le_length (by omega)]; exact hl⟩
      · rw [List.getElem?_append_right (by omega), ← hp] at hj
        obtain ⟨i, nd', h1, h2, h3, h4, h5, h6, h7, h8⟩ := hu _ _ hj
        obtain ⟨g1, g2, g3, g4, x, hx, hl⟩ := hK.one i nd' h4 h2
        refine ⟨x, ?_, ?_⟩
        · rw [List.getElem?_append_right (by omega), hal, ← h3, List.getElem?_map, kidx_at keep _ i h1 h2, Option.map_some, List.getD_eq_getElem?_getD, hx]; rfl
        · rw [← hl, h5, h6, h8, List.map_map]
          have hf : (Int.toNat ∘ fun k : Int => ((plc p keep k.toNat : Nat) : Int)) = (plc p keep) ∘ Int.toNat := by funext k; simp
          rw [hf, ← List.map_map]
          refine lookK_sim g1 sc (by rw [List.length_map, g2]) ?_
          intro k hk
          obtain ⟨q, hq, rfl⟩ := List.mem_map.1 hk
          obtain ⟨a1, a2, a3⟩ := g4 q hq
          have hlt := nk_lt keep (show q.toNat < i by omega) a3
          rw [plc_eq a3, List.getD_eq_getElem?_getD, List.getD_eq_getElem?_getD, List.getElem?_take_of_lt (by omega), List.getElem?_take_of_lt (by omega), List.getElem?_append_right (by omega), hal, Nat.add_sub_cancel_left, List.getElem?_map, kidx_at keep _ q.toNat (by omega) a3,
            Option.map_some, List.getD_eq_getElem?_getD, List.getElem?_eq_getElem (by omega)]
          rfl
  · rw [List.length_append, List.length_map, kidx_len, hal, hM.len]
  · intro i hi
    rw [List.getElem?_append_left (by omega)]
  · intro i hi hk
    rw [List.getElem?_append_right (by omega), hal, Nat.add_sub_cancel_left, List.getElem?_map, kidx_at keep _ i hi hk, Option.map_some, List.getD_eq_getElem?_getD, List.getElem?_eq_getElem (by omega)]
    rfl
/-- Which nodes stand beneath a root: closed, and each but the root has its parent there. -/
structure Ben (ns : List Nd) (root : Nat) (bs : List Bool) : Prop where
  len : bs.length = ns.length
  top : kp bs root = true
  down : ∀ (i : Nat) (nd : Nd), ns[i]? = some nd → kp bs i = true → ∀ k ∈ nd.ks, kp bs k.toNat = true
  up : ∀ i, kp bs i = true → i = root ∨ ∃ (j : Nat) (nd : Nd), ns[j]? = some nd ∧ kp bs j = true ∧ (i : Int) ∈ nd.ks
theorem kept_of {sc : List Nm} {ks : List (Int × Bool)} {ns : List Nd} {keep : List Bool} (hT : treesB ns = true) (hk : Kinds sc ks ns) (hl : ∀ nd ∈ ns, nd.ks.length = nd.kl) (hd : ∀ (i : Nat) (nd : Nd), ns[i]? = some nd → kp keep i = true → ∀ k ∈ nd.ks, kp keep k.toNat = true) : Kept sc ks ns keep := by
  obtain ⟨h1, h2⟩ := (treesB_iff ns).1 hT
  obtain ⟨h3, h4⟩ := (flat_nodup ns).1 h2
  exact ⟨hk.1, fun i nd hi hki => ⟨(h1 i nd hi).1, hl nd (List.mem_of_getElem? hi), h3 i nd hi, fun k hkk => ⟨((h1 i nd hi).2 k hkk).1, ((h1 i nd hi).2 k hkk).2, hd i nd hi hki k hkk⟩, hk.2 i nd hi⟩,
    fun i j u v x hi hj _ _ hx hy => h4 i j u v x hi hj hx hy⟩
end Go.Proofs.YtakaoacialnjaaaDoor
