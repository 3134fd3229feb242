import Derived.Test.YtcnckjlmldnblaaDoorK5
import Derived.Test.YtcnckjlmldnblaaDoorB1
import Derived.Test.YtcnckjlmldnblaaDoorE27
namespace Go.Proofs.YtcnckjlmldnblaaDoor
open Go Go.RowKit
set_option linter.unusedVariables false
set_option linter.unusedSimpArgs false
open Go.ChangeShapes Go.WideShapes
def eqK (x y : Int × Bool) : Bool := (x.1 == y.1) || (x.1 == 0 && x.2 && y.2) || (y.1 == 0 && y.2 && x.2)
def opN (op : Int) : Int := if op = 14 ∨ op = 15 ∨ op = 16 then 13 else if op = 32 then 31 else op
def hitB (op a b : Int) (r : Row) : Bool := r.op == op && r.b0 == a && r.b1 == b
def lookR (op a b : Int) (l : List Row) : (Int × Bool) × Bool := match l.find? (hitB op a b) with
  | some r => ((r.is, false), true)
  | none => ((0, false), false)
/-- The kind of operators of two parts. -/
def twoK (op : Int) (x y : Int × Bool) : (Int × Bool) × Bool :=
  if op = 11 ∨ op = 12 then ((2, false), eqK x y) else if op = 33 then (((joinedK x y).1.1, y.2), (joinedK x y).2) else lookR (opN op) x.1 y.1 pairT
/-- A name with its kind. -/
structure Nm where
  nm : ByteArray
  b : Int
  o : Bool
def Nm.cs (n : Nm) : List Value := [.string n.nm, .int .i64 n.b, .bool n.o]
def isNm (l : List UInt8) (n : Nm) : Bool := n.nm.toList == l
/-- The kind that the scope tells of a name. -/
def namedK (sc : List Nm) (l : List UInt8) : (Int × Bool) × Bool := match sc.find? (isNm l) with
  | some n => ((n.b, n.o), decide (1 ≤ n.b) && decide (n.b ≤ 5))
  | none => ((0, false), false)
def Kd (k : Int × Bool) : List Value := [.int .i64 k.1, .bool k.2]
def finK (r : (Int × Bool) × Bool) : (Int × Bool) × Int := if r.2 then (r.1, 0) else ((0, false), 100)
def IvN (k : Nat) : List Value := [.int .i64 (k : Int)]
def atK (ks : List (Int × Bool)) (kids : List Nat) (i : Nat) : Int × Bool := ks.getD (kids.getD i 0) (0, false)
def textK (ks : List (Int × Bool)) (k : Nat) : Bool := (ks.getD k (0, false)).1 == 3
/-- A node's kind, or why it has none. -/
def lookK (sc : List Nm) (ks : List (Int × Bool)) (op : Int) (nm : List UInt8) (kids : List Nat) : (Int × Bool) × Int :=
  if op = 1 ∨ op = 30 then ((1, false), 0) else if op = 2 ∨ op = 25 ∨ op = 26 then ((2, false), 0) else if op = 3 then ((3, false), 0) else if op = 29 then ((4, false), 0)
  else if op = 4 then ((0, true), 0)
  else if op = 5 then (if (namedK sc nm).2 then ((namedK sc nm).1, 0) else ((0, false), 34))
  else if op = 24 then (if (namedK sc nm).2 then ((2, false), 0) else ((0, false), 34))
  else if op = 6 then finK ((5, false), kids.all (textK ks))
  else if op = 7 ∨ op = 8 ∨ op = 27 then finK (((oneK op (atK ks kids 0).1).1, false), (oneK op (atK ks kids 0).1).2)
  else if op = 23 then finK ((joinedK (atK ks kids 1) (atK ks kids 2)).1, (joinedK (atK ks kids 1) (atK ks kids 2)).2 && (atK ks kids 0).1 == 2)
  else finK (twoK op (atK ks kids 0) (atK ks kids 1))
def treesF : Nat → List Bool → List Nd → Bool
  | _, _, [] => true
  | i, s, n :: t => if n.right = true then (match kidsF i s n.ks with
    | none => false
    | some s' => treesF (i + 1) s' t) else false
/-- Are nodes rows of trees? -/
def treesB (ns : List Nd) : Bool := treesF 0 (List.replicate ns.length false) ns
/-- The kinds of the nodes from the i-th on, or the first that has none. -/
def ofF (sc : List Nm) : Nat → List (Int × Bool) → List Nd → List (Int × Bool) × Nat × Int
  | _, ks, [] => (ks, 0, 0)
  | i, ks, n :: t => if (lookK sc ks n.op n.nm.toList (n.ks.map Int.toNat)).2 = 0 then ofF sc (i + 1) (ks ++ [(lookK sc ks n.op n.nm.toList (n.ks.map Int.toNat)).1]) t
    else ([], i, (lookK sc ks n.op n.nm.toList (n.ks.map Int.toNat)).2)
/-- What Of answers. -/
def ofK (ns : List Nd) (sc : List Nm) : List (Int × Bool) × Nat × Int := if treesB ns = true then ofF sc 0 [] ns else ([], 0, 8)
theorem kidsF_ok (i : Nat) (l : List Int) : ∀ (s s' : List Bool), kidsF i s l = some s' → ∀ k ∈ l, 0 ≤ k ∧ k < (i : Int) := by
  induction l with
  | nil => intro s s' h k hk; simp at hk
  | cons x t ih =>
    intro s s' h k hk
    simp only [kidsF] at h
    split at h
    · cases h
    · split at h
      · cases h
      · rcases List.mem_cons.1 hk with rfl | hk
        · omega
        · exact ih _ _ h k hk
theorem treesF_ok (ns : List Nd) : ∀ (i : Nat) (s : List Bool), treesF i s ns = true → ∀ j nd, ns[j]? = some nd → nd.right = true ∧ ∀ k ∈ nd.ks, 0 ≤ k ∧ k < ((i + j : Nat) : Int) := by
  induction ns with
  | nil => intro i s h j nd hj; simp at hj
  | cons n t ih =>
    intro i s h j nd hj
    simp only [treesF] at h
    split at h
    · rename_i hr
      cases hk : kidsF i s n.ks with
      | none => rw [hk] at h; cases h
      | some s' =>
        rw [hk] at h
        cases j with
        | zero => simp at hj; subst hj; exact ⟨hr, kidsF_ok i _ _ _ hk⟩
        | succ j =>
          simp only [List.getElem?_cons_succ] at hj
          have := ih (i + 1) s' h j nd hj
          rwa [show i + 1 + j = i + (j + 1) by omega] at this
    · cases h
theorem treesB_ok {ns : List Nd} (h : treesB ns = true) (j : Nat) (nd : Nd) (hj : ns[j]? = some nd) : nd.right = true ∧ ∀ k ∈ nd.ks, 0 ≤ k ∧ k < (j : Int) := by
  have := treesF_ok ns 0 _ h j nd hj
  rwa [Nat.zero_add] at this
/-- The places that are taken, as a row of marks and as a list. -/
def Rl (s : List Bool) (U : List Int) : Prop := ∀ j : Nat, s.getD j false = true ↔ ((j : Int) ∈ U ∧ j < s.length)
theorem Rl.set {s : List Bool} {U : List Int} (h : Rl s U) {k : Int} (h0 : 0 ≤ k) (h1 : k < s.length) : Rl (s.set k.toNat true) (U ++ [k]) := by
  intro j
  have hj := h j
  simp only [List.getD_eq_getElem?_getD, List.getElem?_set, List.length_set, List.mem_append, List.mem_singleton] at hj ⊢
  by_cases e : k.toNat = j
  · have : (j : Int) = k := by omega
    rw [if_pos e, if_pos (by omega)]
    simp [this]; omega
  · rw [if_neg e, hj]
    have : ¬ (j : Int) = k := by omega
    simp [this]
theorem kidsF_iff (i : Nat) (l : List Int) : ∀ (s : List Bool) (U : List Int), Rl s U → i ≤ s.length →
    ((∃ s', kidsF i s l = some s' ∧ Rl s' (U ++ l) ∧ s'.length = s.length) ↔ ((∀ k ∈ l, 0 ≤ k ∧ k < (i : Int)) ∧ (∀ k ∈ l, k ∉ U) ∧ l.Nodup)) ∧ ((∃ s', kidsF i s l = some s') → ∃ s', kidsF i s l = some s' ∧ Rl s' (U ++ l) ∧ s'.length = s.length) := by
  induction l with
  | nil => intro s U h hi; exact ⟨⟨fun _ => ⟨by simp, by simp, by simp⟩, fun _ => ⟨s, rfl, by simpa using h, rfl⟩⟩, fun _ => ⟨s, rfl, by simpa using h, rfl⟩⟩
  | cons k t ih =>
    intro s U h hi
    simp only [kidsF]
    by_cases h1 : k < 0 ∨ (i : Int) ≤ k
    · rw [if_pos h1]
      refine ⟨⟨fun ⟨s', e, _⟩ => (by cases e), fun ⟨a, _⟩ => ?_⟩, fun ⟨s', e⟩ => by cases e⟩
      have := a k List.mem_cons_self
      omega
    · rw [if_neg h1]
      by_cases h2 : s.getD k.toNat false = true
      · rw [if_pos h2]
        refine ⟨⟨fun ⟨s', e, _⟩ => (by cases e), fun ⟨_, b, _⟩ => ?_⟩, fun ⟨s', e⟩ => by cases e⟩
        have := ((h k.toNat).1 h2).1
        rw [show ((k.toNat : Nat) : Int) = k by omega] at this
        exact absurd this (b k List.mem_cons_self)
      · rw [if_neg h2]
        have hk : k ∉ U := fun hm => h2 ((h k.toNat).2 ⟨by rw [show ((k.toNat : Nat) : Int) = k by omega]; exact hm, by omega⟩)
        have hs := h.set (k := k) (by omega) (by omega)
        obtain ⟨i1, i2⟩ := ih (s.set k.toNat true) (U ++ [k]) hs (by simpa using hi)
        rw [List.append_assoc, List.singleton_append, List.length_set] at i1 i2
        refine ⟨i1.trans ⟨fun ⟨a, b, c⟩ => ⟨?_, ?_, ?_⟩, fun ⟨a, b, c⟩ => ⟨?_, ?_, ?_⟩⟩, i2⟩
        · intro q hq
          rcases List.mem_cons.1 hq with rfl | hq
          · omega
          · exact a q hq
        · intro q hq
          rcases List.mem_cons.1 hq with rfl | hq
          · exact hk
          · exact fun hm => b q hq (List.mem_append_left _ hm)
        · rw [List.nodup_cons]
          exact ⟨fun hm => b k hm (List.mem_append_right _ (List.mem_singleton_self k)), c⟩
        · exact fun q hq => a q (List.mem_cons_of_mem _ hq)
        · intro q hq hm
          rcases List.mem_append.1 hm with hm | hm
          · exact b q (List.mem_cons_of_mem _ hq) hm
          · rw [List.mem_singleton] at hm
            subst hm
            exact (List.nodup_cons.1 c).1 hq
        · exact (List.nodup_cons.1 c).2
theorem treesF_iff (ns : List Nd) : ∀ (i : Nat) (s : List Bool) (U : List Int), Rl s U → i + ns.length ≤ s.length →
    (treesF i s ns = true ↔ ((∀ (j : Nat) (nd : Nd), ns[j]? = some nd → nd.right = true ∧ ∀ k ∈ nd.ks, 0 ≤ k ∧ k < ((i + j : Nat) : Int)) ∧ (∀ k ∈ ns.flatMap Nd.ks, k ∉ U) ∧ (ns.flatMap Nd.ks).Nodup)) := by
  induction ns with
  | nil => intro i s U h hi; simp [treesF]
  | cons n t ih =>
    intro i s U h hi
    simp only [List.length_cons] at hi
    simp only [treesF, List.flatMap_cons]
    by_cases hr : n.right = true
    · rw [if_pos hr]
      obtain ⟨k1, k2⟩ := kidsF_iff i n.ks s U h (by omega)
      cases hk : kidsF i s n.ks with
      | none =>
        refine ⟨fun e => (by cases e), fun ⟨a, b, c⟩ => ?_⟩
        have h0 := a 0 n rfl
        rw [List.nodup_append] at c
        obtain ⟨s', e, _⟩ := k1.2 ⟨by simpa using h0.2, fun k hk => b k (List.mem_append_left _ hk), c.1⟩
        rw [hk] at e; cases e
      | some s' =>
        obtain ⟨s2, e2, r2, l2⟩ := k2 ⟨s', hk⟩
        obtain rfl : s' = s2 := by rw [hk] at e2; exact Option.some.inj e2
        obtain ⟨q1, q2, q3⟩ := k1.1 ⟨s', hk, r2, l2⟩
        refine (ih (i + 1) s' (U ++ n.ks) r2 (by omega)).trans ⟨fun ⟨a, b, c⟩ => ⟨fun j nd hj => ?_, ?_, ?_⟩, fun ⟨a, b, c⟩ => ⟨fun j nd hj => ?_, ?_, ?_⟩⟩
        · cases j with
          | zero => simp at hj; subst hj; exact ⟨hr, by simpa using q1⟩
          | succ j =>
            simp only [List.getElem?_cons_succ] at hj
            have := a j nd hj
            rwa [show i + 1 + j = i + (j + 1) by omega] at this
        · intro k hk
          rcases List.mem_append.1 hk with hk | hk
          · exact q2 k hk
          · exact fun hm => b k hk (List.mem_append_left _ hm)
        · rw [List.nodup_append]
          refine ⟨q3, c, fun x hx y hy hxy => ?_⟩
          subst hxy
          exact b x hy (List.mem_append_right _ hx)
        · have := a (j + 1) nd (by simpa using hj)
          rwa [show i + (j + 1) = i + 1 + j by omega] at this
        · intro k hk hm
          rw [List.nodup_append] at c
          rcases List.mem_append.1 hm with hm | hm
          · exact b k (List.mem_append_right _ hk) hm
          · exact c.2.2 k hm k hk rfl
        · exact (List.nodup_append.1 c).2.1
    · rw [if_neg hr]
      refine ⟨fun e => (by cases e), fun ⟨a, _⟩ => absurd (a 0 n rfl).1 hr⟩
theorem treesB_iff (ns : List Nd) : treesB ns = true ↔ ((∀ (j : Nat) (nd : Nd), ns[j]? = some nd → nd.right = true ∧ ∀ k ∈ nd.ks, 0 ≤ k ∧ k < (j : Int)) ∧ (ns.flatMap Nd.ks).Nodup) := by
  unfold treesB
  have h0 : Rl (List.replicate ns.length false) [] := by
    intro j
    simp only [List.getD_eq_getElem?_getD, List.getElem?_replicate]
    split <;> simp
  rw [treesF_iff ns 0 _ [] h0 (by simp)]
  simp
/-- Each node has its kind. -/
def Kinds (sc : List Nm) (ks : List (Int × Bool)) (ns : List Nd) : Prop := ks.length = ns.length ∧ ∀ (i : Nat) (nd : Nd), ns[i]? = some nd → ∃ x, ks[i]? = some x ∧ lookK sc (ks.take i) nd.op nd.nm.toList (nd.ks.map Int.toNat) = (x, 0)
theorem ofF_iff (sc : List Nm) (ns : List Nd) : ∀ (pre : List (Int × Bool)) (r : List (Int × Bool)),
    ofF sc pre.length pre ns = (r, 0, 0) ∧ r.length = pre.length + ns.length ↔ (r.length = pre.length + ns.length ∧ r.take pre.length = pre ∧ ∀ (i : Nat) (nd : Nd), ns[i]? = some nd → ∃ x, r[pre.length + i]? = some x ∧ lookK sc (r.take (pre.length + i)) nd.op nd.nm.toList (nd.ks.map Int.toNat) = (x, 0)) := by
  induction ns with
  | nil =>
    intro pre r
    simp only [ofF, List.length_nil, Nat.add_zero]
    constructor
    · rintro ⟨e, _⟩
      simp only [Prod.mk.injEq, and_true] at e
      subst e
      exact ⟨rfl, List.take_length, fun i nd h => by simp at h⟩
    · rintro ⟨h1, h2, _⟩
      rw [← h1, List.take_length] at h2
      exact ⟨by rw [h2], h1⟩
  | cons n t ih =>
    intro pre r
    simp only [ofF, List.length_cons]
    by_cases h : (lookK sc pre n.op n.nm.toList (n.ks.map Int.toNat)).2 = 0
    · rw [if_pos h]
      have hi := ih (pre ++ [(lookK sc pre n.op n.nm.toList (n.ks.map Int.toNat)).1]) r
      simp only [List.length_append, List.length_cons, List.length_nil, Nat.zero_add] at hi
      rw [show pre.length + (t.length + 1) = pre.length + 1 + t.length by omega]
      refine hi.trans ⟨fun ⟨a, b, c⟩ => ⟨a, ?_, fun i nd hn => ?_⟩, fun ⟨a, b, c⟩ => ⟨a, ?_, fun i nd hn => ?_⟩⟩
      · have := congrArg (List.take pre.length) b
        rwa [List.take_take, Nat.min_eq_left (by omega), List.take_left] at this
      · cases i with
        | zero =>
          simp only [List.getElem?_cons_zero, Option.some.injEq] at hn
          subst hn
          have hb := congrArg (fun l => l[pre.length]?) b
          simp only [List.getElem?_take_of_lt (Nat.lt_succ_self _), List.getElem?_append_right (Nat.le_refl _), Nat.sub_self, List.getElem?_cons_zero] at hb
          have hb2 := congrArg (List.take pre.length) b
          rw [List.take_take, Nat.min_eq_left (by omega), List.take_left] at hb2
          refine ⟨_, by rw [Nat.add_zero]; exact hb, ?_⟩
          rw [Nat.add_zero, hb2, ← h]
        | succ i =>
          simp only [List.getElem?_cons_succ] at hn
          have := c i nd hn
          rwa [show pre.length + 1 + i = pre.length + (i + 1) by omega] at this
      · obtain ⟨x, hx, hl⟩ := c 0 n rfl
        rw [Nat.add_zero] at hx hl
        rw [b] at hl
        rw [List.take_add_one, b, hx, hl]; rfl
      · have := c (i + 1) nd (by simpa using hn)
        rwa [show pre.length + (i + 1) = pre.length + 1 + i by omega] at this
    · rw [if_neg h]
      refine ⟨fun ⟨e, _⟩ => ?_, fun ⟨a, b, c⟩ => ?_⟩
      · simp only [Prod.mk.injEq] at e
        exact absurd e.2.2 h
      · obtain ⟨x, hx, hl⟩ := c 0 n rfl
        rw [Nat.add_zero] at hl
        rw [b] at hl
        rw [hl] at h
        exact absurd rfl h
theorem ofF_err (sc : List Nm) (ns : List Nd) : ∀ (pre : List (Int × Bool)), (ofF sc pre.length pre ns).2.2 = 0 → (ofF sc pre.length pre ns).2.1 = 0 ∧ (ofF sc pre.length pre ns).1.length = pre.length + ns.length := by
  induction ns with
  | nil => intro pre h; exact ⟨rfl, rfl⟩
  | cons n t ih =>
    intro pre h
    simp only [ofF] at h ⊢
    split
    · rename_i he
      rw [if_pos he] at h
      have := ih (pre ++ [(lookK sc pre n.op n.nm.toList (n.ks.map Int.toNat)).1]) (by simpa using h)
      simp only [List.length_append, List.length_cons, List.length_nil, Nat.zero_add] at this
      exact ⟨this.1, by rw [this.2]; simp; omega⟩
    · rename_i he
      rw [if_neg he] at h
      exact absurd h he
/-- Of answers kinds for trees of which each node has its kind, and for no others. -/
theorem ofK_ok {ns : List Nd} {sc : List Nm} (h : (ofK ns sc).2.2 = 0) : treesB ns = true ∧ (ofK ns sc).2.1 = 0 ∧ Kinds sc (ofK ns sc).1 ns := by
  unfold ofK at h ⊢
  split
  · rename_i hT
    rw [if_pos hT] at h
    obtain ⟨h1, h2⟩ := ofF_err sc ns [] h
    simp only [List.length_nil, Nat.zero_add] at h1 h2
    have := (ofF_iff sc ns [] (ofF sc 0 [] ns).1).1 ⟨Prod.ext rfl (Prod.ext h1 h), by simpa using h2⟩
    simp only [List.length_nil, Nat.zero_add] at this
    exact ⟨hT, h1, h2, this.2.2⟩
  · rename_i hT
    rw [if_neg hT] at h
    exact absurd h (by decide)
theorem flat_nodup (us : List Nd) : (us.flatMap Nd.ks).Nodup ↔ ((∀ (i : Nat) (u : Nd), us[i]? = some u → u.ks.Nodup) ∧ ∀ (i j : Nat) (u v : Nd) (x : Int), us[i]? = some u → us[j]? = some v → x ∈ u.ks → x ∈ v.ks → i = j) := by
  induction us with
  | nil => simp
  | cons n t ih =>
    rw [List.flatMap_cons, List.nodup_append, ih]
    constructor
    · rintro ⟨h1, ⟨h2, h3⟩, h4⟩
      refine ⟨fun i u hu => ?_, fun i j u v x hu hv hxu hxv => ?_⟩
      · cases i with
        | zero => simp at hu; subst hu; exact h1
        | succ i => exact h2 i u (by simpa using hu)
      · cases i with
        | zero =>
          cases j with
          | zero => rfl
          | succ j =>
            simp only [List.getElem?_cons_zero, Option.some.injEq] at hu
            subst hu
            exact absurd rfl (h4 x hxu x (List.mem_flatMap.2 ⟨v, List.mem_of_getElem? (by simpa using hv), hxv⟩))
        | succ i =>
          cases j with
          | zero =>
            simp only [List.getElem?_cons_zero, Option.some.injEq] at hv
            subst hv
            exact absurd rfl (h4 x hxv x (List.mem_flatMap.2 ⟨u, List.mem_of_getElem? (by simpa using hu), hxu⟩))
          | succ j =>
            have := h3 i j u v x (by simpa using hu) (by simpa using hv) hxu hxv
            omega
    · rintro ⟨h1, h2⟩
      refine ⟨h1 0 n rfl, ⟨fun i u hu => h1 (i + 1) u (by simpa using hu), fun i j u v x hu hv hxu hxv => ?_⟩, fun x hx y hy hxy => ?_⟩
      · have := h2 (i + 1) (j + 1) u v x (by simpa using hu) (by simpa using hv) hxu hxv
        omega
      · subst hxy
        obtain ⟨v, hv, hxv⟩ := List.mem_flatMap.1 hy
        obtain ⟨j, hj⟩ := List.getElem?_of_mem hv
        have := h2 0 (j + 1) n v x rfl (by simpa using hj) hx hxv
        omega
end Go.Proofs.YtcnckjlmldnblaaDoor
