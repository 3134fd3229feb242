import Derived.Test.YtcnckjlmldnblaaDoorE56
import Derived.Test.YtcnckjlmldnblaaDoorE60
namespace Go.Proofs.YtcnckjlmldnblaaDoor
open Go Go.RowKit
set_option linter.unusedVariables false
set_option linter.unusedSimpArgs false
/-- A node whose kids are moved. -/
def Nd.shift (g : Int → Int) (nd : Nd) : Nd := { nd with ks := nd.ks.map g }
theorem Nd.shift_right (g : Int → Int) (nd : Nd) : (nd.shift g).right = nd.right := rfl
theorem getD_setT (s : List Bool) (a b : Nat) (ha : a < s.length) : (s.set a true).getD b false = if a = b then true else s.getD b false := by
  simp only [List.getD_eq_getElem?_getD, List.getElem?_set]
  by_cases e : a = b
  · subst e; simp [ha]
  · simp [e]
theorem kidsF_shift {g : Int → Int} {D i : Nat} (hg : ∀ k : Int, 0 ≤ k → k < i → g k = k + D) : ∀ (ks : List Int) (s s2 s2' : List Bool), kidsF i s2 ks = some s2' → (∀ j, j < i → s.getD (D + j) false = s2.getD j false) → D + i ≤ s.length → i ≤ s2.length →
    ∃ s', kidsF (D + i) s (ks.map g) = some s' ∧ (∀ j, j < i → s'.getD (D + j) false = s2'.getD j false) ∧ (∀ j, j < D → s'.getD j false = s.getD j false) ∧ s'.length = s.length
  | [], s, s2, s2', h, ha, _, _ => by
    simp only [kidsF, Option.some.injEq] at h
    subst h
    exact ⟨s, rfl, ha, fun _ _ => rfl, rfl⟩
  | k :: t, s, s2, s2', h, ha, hl, hl2 => by
    simp only [kidsF] at h
    split at h
    · cases h
    · rename_i hk
      split at h
      · cases h
      · rename_i hm
        have e : g k = k + D := hg k (by omega) (by omega)
        have et : (k + (D : Int)).toNat = D + k.toNat := by omega
        have hm' : ¬ s.getD (D + k.toNat) false = true := by rw [ha k.toNat (by omega)]; exact hm
        obtain ⟨s', h1, h2, h3, h4⟩ := kidsF_shift hg t (s.set (D + k.toNat) true) (s2.set k.toNat true) s2' h (fun j hj => by
          rw [getD_setT _ _ _ (by omega), getD_setT _ _ _ (by omega), ha j hj]
          by_cases e : k.toNat = j
          · rw [if_pos (by omega), if_pos e]
          · rw [if_neg (by omega), if_neg e]) (by simpa using hl) (by simpa using hl2)
        refine ⟨s', ?_, h2, fun j hj => ?_, by simpa using h4⟩
        · simp only [List.map_cons, kidsF, e, et]
          rw [if_neg (by push_cast; omega), if_neg hm']
          exact h1
        · rw [h3 j hj, getD_setT _ _ _ (by omega), if_neg (by omega)]
theorem treeG_shift {g : Int → Int} {D : Nat} {ns ms : List Nd} : ∀ (i : Nat) (s s2 : List Bool), (∀ k : Int, 0 ≤ k → k < i → g k = k + D) → treeG ms i s2 = true → (∀ j, j < i → s.getD (D + j) false = s2.getD j false) → D + i ≤ s.length → i ≤ s2.length →
    (∀ j, j < i → ns[D + j]? = (ms[j]?).map (Nd.shift g)) → (∀ s' : List Bool, s'.length = s.length → (∀ j, j < D → s'.getD j false = s.getD j false) → treeG ns D s' = true) → treeG ns (D + i) s = true
  | 0, s, s2, _, _, _, _, _, _, hf => hf s rfl fun _ _ => rfl
  | i + 1, s, s2, hg, h, ha, hl, hl2, hn, hf => by
    simp only [treeG] at h
    show treeG ns ((D + i) + 1) s = true
    simp only [treeG]
    rw [ha i (by omega)]
    by_cases hm : s2.getD i false = true
    · rw [if_pos hm] at h ⊢
      rw [hn i (by omega)]
      cases hnd : ms[i]? with
      | none => rw [hnd] at h; cases h
      | some nd =>
        rw [hnd] at h
        simp only [Option.map_some] at h ⊢
        by_cases hr : nd.right = true
        · rw [if_pos hr] at h
          rw [if_pos (by rw [Nd.shift_right]; exact hr)]
          cases hk : kidsF i s2 nd.ks with
          | none => rw [hk] at h; cases h
          | some s2' =>
            rw [hk] at h
            simp only at h
            obtain ⟨s', h1, h2, h3, h4⟩ := kidsF_shift (D := D) (fun k h0 h1 => hg k h0 (by omega)) nd.ks s s2 s2' hk (fun j hj => ha j (by omega)) (by omega) (by omega)
            rw [show (nd.shift g).ks = nd.ks.map g from rfl, h1]
            simp only
            exact treeG_shift i s' s2' (fun k h0 h1 => hg k h0 (by omega)) h h2 (by omega) (by rw [kidsF_len i nd.ks s2 s2' hk]; omega) (fun j hj => hn j (by omega)) fun s'' e1 e2 => hf s'' (by omega) fun j hj => by rw [e2 j hj, h3 j hj]
        · rw [if_neg hr] at h; cases h
    · rw [if_neg hm] at h ⊢
      exact treeG_shift i s s2 (fun k h0 h1 => hg k h0 (by omega)) h (fun j hj => ha j (by omega)) (by omega) (by omega) (fun j hj => hn j (by omega)) hf
theorem leaf_shift (g : Int → Int) (nd : Nd) (v : Vw) : leafW (nd.shift g) v = leafW nd v := rfl
theorem nodeW_shift (g : Int → Int) (f : Int → Wr) (nd : Nd) (v : Vw) (hks : nd.ks.length = nd.kl) (hr : nd.right = true) : nodeW f (nd.shift g) v = nodeW (fun k => f (g k)) nd v := by
  have kid : ∀ i, i < nd.kl → wkid f (nd.shift g) i = wkid (fun k => f (g k)) nd i := fun i hi => by
    unfold wkid
    rw [show (nd.shift g).ks = nd.ks.map g from rfl, List.getElem?_map, List.getElem?_eq_getElem (by omega)]
    rfl
  obtain ⟨hkl, -, -, -⟩ := right_cases hr
  unfold nodeW
  rw [leaf_shift]
  cases leafW nd v with
  | some r => rfl
  | none =>
    simp only
    rw [show (nd.shift g).op = nd.op from rfl]
    by_cases h9 : nd.op = 9
    · have h2 : nd.kl = 2 := by simp [kidsN, h9] at hkl; omega
      rw [if_pos h9, if_pos h9, kid 0 (by omega), kid 1 (by omega)]
    · rw [if_neg h9, if_neg h9]
      by_cases h10 : nd.op = 10
      · have h2 : nd.kl = 2 := by simp [kidsN, h10] at hkl; omega
        rw [if_pos h10, if_pos h10, kid 0 (by omega), kid 1 (by omega)]
      · rw [if_neg h10, if_neg h10]
        by_cases h23 : nd.op = 23
        · have h3 : nd.kl = 3 := by simp [kidsN, h23] at hkl; omega
          rw [if_pos h23, if_pos h23, kid 0 (by omega), kid 1 (by omega), kid 2 (by omega)]
        · rw [if_neg h23, if_neg h23]
          by_cases h33 : nd.op = 33
          · have h2 : nd.kl = 2 := by simp [kidsN, h33] at hkl; omega
            rw [if_pos h33, if_pos h33, kid 0 (by omega), kid 1 (by omega)]
          · rw [if_neg h33, if_neg h33]
            by_cases h11 : nd.op = 11 ∨ nd.op = 12
            · have h2 : nd.kl = 2 := by rcases h11 with h | h <;> (simp [kidsN, h] at hkl; omega)
              rw [if_pos h11, if_pos h11, kid 0 (by omega), kid 1 (by omega)]
            · rw [if_neg h11, if_neg h11, show (nd.shift g).ks = nd.ks.map g from rfl, List.map_map]
              rfl
theorem wK_move {g : Int → Int} {D : Nat} {ns ms : List Nd} {v : Vw} (hg : ∀ k : Int, 0 ≤ k → k < ms.length → g k = k + D) (hn : ∀ nd ∈ ms, nd.ks.length = nd.kl) (hi : ∀ j, j < ms.length → ns[D + j]? = (ms[j]?).map (Nd.shift g)) :
    ∀ (d d' : Nat) (r : Int), d ≤ d' → goodN ms d r → wK ns v d' (r + D) = wK ms v d r
  | 0, _, _, _, h => h.elim
  | d + 1, 0, _, h, _ => by omega
  | d + 1, d' + 1, r, hd, h => by
    obtain ⟨h0, nd, hnd, hr, -, hk⟩ := h
    have hlt := (List.getElem?_eq_some_iff.1 hnd).1
    have e : (r + (D : Int)).toNat = D + r.toNat := by omega
    rw [wK_at hnd, wK_at (nd := nd.shift g) (by rw [e, hi _ hlt, hnd]; rfl), nodeW_shift _ _ _ _ (hn nd (List.mem_of_getElem? hnd)) hr]
    refine nodeW_congr hr (hn nd (List.mem_of_getElem? hnd)) rfl fun k hkk => ?_
    have hgk := hk k hkk
    obtain ⟨k0, klt⟩ : 0 ≤ k ∧ k < ms.length := by
      cases d with
      | zero => exact hgk.elim
      | succ d =>
        obtain ⟨k0, nk, hnk, -⟩ := hgk
        have := (List.getElem?_eq_some_iff.1 hnk).1
        exact ⟨k0, by omega⟩
    rw [hg k k0 klt]
    exact wK_move hg hn hi d d' k (by omega) hgk
/-- Nodes with others behind them, and with a tail. -/
def joinN (g : Int → Int) (ns : List Nd) (q : Nat) (ms tl : List Nd) : List Nd := ns.take (q + 1) ++ ms.map (Nd.shift g) ++ tl
theorem join_low {g : Int → Int} {ns ms tl : List Nd} {q : Nat} (hq : q < ns.length) (j : Nat) (hj : j ≤ q) : (joinN g ns q ms tl)[j]? = ns[j]? := by
  unfold joinN
  rw [List.append_assoc, List.getElem?_append_left (by simp; omega), List.getElem?_take_of_lt (by omega)]
theorem join_mid {g : Int → Int} {ns ms tl : List Nd} {q : Nat} (hq : q < ns.length) (j : Nat) (hj : j < ms.length) : (joinN g ns q ms tl)[(q + 1) + j]? = (ms[j]?).map (Nd.shift g) := by
  unfold joinN
  have hl : (ns.take (q + 1)).length = q + 1 := by simp; omega
  rw [List.append_assoc, List.getElem?_append_right (by omega), hl, show q + 1 + j - (q + 1) = j by omega, List.getElem?_append_left (by simpa using hj), List.getElem?_map]
theorem join_high {g : Int → Int} {ns ms tl : List Nd} {q : Nat} (hq : q < ns.length) (j : Nat) : (joinN g ns q ms tl)[(q + 1) + ms.length + j]? = tl[j]? := by
  unfold joinN
  have hl : (ns.take (q + 1)).length = q + 1 := by simp; omega
  rw [List.getElem?_append_right (by simp; omega)]
  congr 1
  simp
  omega
/-- Two trees, marked at their roots alone, are a tree beside one another. -/
theorem tree_both {g : Int → Int} {ns ms tl : List Nd} {q : Nat} (hq : q < ns.length) (hm : 0 < ms.length) (hg : ∀ k : Int, 0 ≤ k → k < ms.length → g k = k + ((q + 1 : Nat) : Int)) (h1 : treeR ns q = true) (h2 : treeR ms (ms.length - 1) = true)
    (s : List Bool) (hl : q + 1 + ms.length ≤ s.length) (hs : ∀ j, j < q + 1 + ms.length → s.getD j false = decide (j = q ∨ j = q + ms.length)) : treeG (joinN g ns q ms tl) (q + 1 + ms.length) s = true := by
  unfold treeR at h1 h2
  rw [show ms.length - 1 + 1 = ms.length by omega] at h2
  refine treeG_shift ms.length s ((List.replicate ms.length false).set (ms.length - 1) true) hg h2 (fun j hj => ?_) hl (by simp) (fun j hj => join_mid hq j hj) fun s' e1 e2 => ?_
  · rw [hs _ (by omega), getD_setT _ _ _ (by simp; omega)]
    by_cases e : ms.length - 1 = j
    · rw [if_pos e, decide_eq_true (by omega)]
    · rw [if_neg e, decide_eq_false (by omega)]
      simp only [List.getD_eq_getElem?_getD, List.getElem?_replicate]
      split <;> rfl
  · rw [treeG_congr (ms := ns) _ _ fun i hi => join_low hq i (by omega)]
    refine treeG_ext ns (q + 1) _ _ (fun j hj => ?_) (by simp) (by omega) h1
    rw [e2 j hj, hs j (by omega), getD_setT _ _ _ (by simp)]
    by_cases e : q = j
    · rw [if_pos e, decide_eq_true (by omega)]
    · rw [if_neg e, decide_eq_false (by omega)]
      simp only [List.getD_eq_getElem?_getD, List.getElem?_replicate]
      split <;> rfl
theorem treeG_none {ns : List Nd} : ∀ (k : Nat) (s : List Bool), (∀ j, j < k → s.getD j false = false) → treeG ns k s = true
  | 0, _, _ => rfl
  | k + 1, s, h => by
    simp only [treeG]
    rw [h k (by omega), if_neg (by decide)]
    exact treeG_none k s fun j hj => h j (by omega)
/-- What is moved is a tree by itself. -/
theorem tree_moved {g : Int → Int} {ns ms tl : List Nd} {q : Nat} (hq : q < ns.length) (hm : 0 < ms.length) (hg : ∀ k : Int, 0 ≤ k → k < ms.length → g k = k + ((q + 1 : Nat) : Int)) (h2 : treeR ms (ms.length - 1) = true) : treeR (joinN g ns q ms tl) (q + ms.length) = true := by
  unfold treeR at h2 ⊢
  rw [show ms.length - 1 + 1 = ms.length by omega] at h2
  rw [show q + ms.length + 1 = q + 1 + ms.length by omega]
  have hrep : ∀ n j : Nat, (List.replicate n false).getD j false = false := fun n j => by
    simp only [List.getD_eq_getElem?_getD, List.getElem?_replicate]
    split <;> rfl
  refine treeG_shift ms.length _ ((List.replicate ms.length false).set (ms.length - 1) true) hg h2 (fun j hj => ?_) (by simp) (by simp) (fun j hj => join_mid hq j hj) fun s' e1 e2 => treeG_none _ _ fun j hj => ?_
  · rw [getD_setT _ _ _ (by simp), getD_setT _ _ _ (by simp; omega), hrep, hrep]
    by_cases e : ms.length - 1 = j
    · rw [if_pos e, if_pos (by omega)]
    · rw [if_neg e, if_neg (by omega)]
  · rw [e2 j hj, getD_setT _ _ _ (by simp), if_neg (by omega), hrep]
theorem wK_low {ns L : List Nd} {v : Vw} {q : Nat} (hq : q < ns.length) (hn : ∀ nd ∈ ns, nd.ks.length = nd.kl) (hs : ∀ (i : Nat) (nd : Nd), i < q + 1 → ns[i]? = some nd → nd.kl ≤ 1000000) (ht : treeR ns q = true) (he : ∀ i, i ≤ q → L[i]? = ns[i]?) (d : Nat) (hd : q + 1 ≤ d) : wK L v d q = worthR ns q v := by
  have key : ∀ (L : List Nd) (d : Nat), (∀ i, i ≤ q → L[i]? = ns[i]?) → q + 1 ≤ d → wK L v d q = wK (ns.take (q + 1)) v (q + 1) q := fun L d he hd => by
    have hl : (ns.take (q + 1)).length = q + 1 := by simp; omega
    have := wK_move (g := fun k => k) (D := 0) (ns := L) (ms := ns.take (q + 1)) (v := v) (fun k _ _ => by simp) (fun nd hm => hn nd (List.mem_of_mem_take hm)) (fun j hj => by
      rw [Nat.zero_add, he j (by omega), List.getElem?_take_of_lt (by omega)]
      cases ns[j]? with
      | none => rfl
      | some nd => simp [Nd.shift]) (q + 1) d q hd (treeR_good (fun i nd hi h => hs i nd hi (by rwa [List.getElem?_take_of_lt (by omega)] at h)) (by rw [treeR_congr (ms := ns) fun i hi => List.getElem?_take_of_lt (by omega)]; exact ht))
    simpa using this
  unfold worthR
  rw [if_neg (by omega), Int.toNat_natCast, if_pos ht, key L d he hd, key ns (q + 1) (fun _ _ => rfl) (Nat.le_refl _)]
theorem wK_mid {g : Int → Int} {ns ms tl : List Nd} {v : Vw} {q : Nat} (hq : q < ns.length) (hm : 0 < ms.length) (hg : ∀ k : Int, 0 ≤ k → k < ms.length → g k = k + ((q + 1 : Nat) : Int)) (hn : ∀ nd ∈ ms, nd.ks.length = nd.kl) (hs : ∀ (i : Nat) (nd : Nd), i < ms.length → ms[i]? = some nd → nd.kl ≤ 1000000) (ht : treeR ms (ms.length - 1) = true) (d : Nat) (hd : ms.length ≤ d) :
    wK (joinN g ns q ms tl) v d ((q + ms.length : Nat) : Int) = worthR ms ((ms.length : Int) - 1) v := by
  have hgood := treeR_good (fun i nd hi h => hs i nd (by omega) h) ht
  rw [show ms.length - 1 + 1 = ms.length by omega] at hgood
  have := wK_move (D := q + 1) (v := v) hg hn (fun j hj => join_mid (tl := tl) hq j hj) ms.length d _ hd hgood
  rw [show ((ms.length - 1 : Nat) : Int) + ((q + 1 : Nat) : Int) = ((q + ms.length : Nat) : Int) by omega] at this
  rw [this]
  unfold worthR
  rw [if_neg (by omega), show ((ms.length : Int) - 1).toNat = ms.length - 1 by omega, if_pos ht, show ms.length - 1 + 1 = ms.length by omega, show ((ms.length - 1 : Nat) : Int) = (ms.length : Int) - 1 by omega]
theorem treeG_step {ns : List Nd} {i : Nat} {s s' : List Bool} {nd : Nd} (hm : s.getD i false = true) (h : ns[i]? = some nd) (hr : nd.right = true) (hk : kidsF i s nd.ks = some s') : treeG ns (i + 1) s = treeG ns i s' := by
  simp only [treeG]
  rw [if_pos hm, h]
  simp only
  rw [if_pos hr, hk]
/-- The worth of an operator over the two trees. -/
theorem worth_op {g : Int → Int} {ns ms : List Nd} {v : Vw} {q : Nat} {nd : Nd} (hq : q < ns.length) (hm : 0 < ms.length) (hg : ∀ k : Int, 0 ≤ k → k < ms.length → g k = k + ((q + 1 : Nat) : Int)) (hn1 : ∀ nd ∈ ns, nd.ks.length = nd.kl) (hn2 : ∀ nd ∈ ms, nd.ks.length = nd.kl)
    (hs1 : ∀ (i : Nat) (nd : Nd), i < q + 1 → ns[i]? = some nd → nd.kl ≤ 1000000) (hs2 : ∀ (i : Nat) (nd : Nd), i < ms.length → ms[i]? = some nd → nd.kl ≤ 1000000) (ht1 : treeR ns q = true) (ht2 : treeR ms (ms.length - 1) = true)
    (hr : nd.right = true) (hk : nd.ks = [(q : Int), ((q + ms.length : Nat) : Int)]) (hkl : nd.kl = 2) (f : Int → Wr) (f1 : f q = worthR ns q v) (f2 : f ((q + ms.length : Nat) : Int) = worthR ms ((ms.length : Int) - 1) v) :
    worthR (joinN g ns q ms [nd]) ((q + ms.length + 1 : Nat) : Int) v = nodeW f nd v := by
  have hl : (joinN g ns q ms [nd]).length = q + ms.length + 2 := by simp [joinN]; omega
  have hat : (joinN g ns q ms [nd])[q + ms.length + 1]? = some nd := by rw [show q + ms.length + 1 = (q + 1) + ms.length + 0 by omega, join_high hq]; rfl
  have hrep : ∀ n j : Nat, (List.replicate n false).getD j false = false := fun n j => by
    simp only [List.getD_eq_getElem?_getD, List.getElem?_replicate]
    split <;> rfl
  have ht : treeR (joinN g ns q ms [nd]) (q + ms.length + 1) = true := by
    unfold treeR
    rw [treeG_step (by rw [getD_setT _ _ _ (by simp), if_pos rfl]) hat hr (by
      rw [hk]
      simp only [kidsF, Int.toNat_natCast]
      rw [if_neg (by omega), if_neg (by rw [getD_setT _ _ _ (by simp), if_neg (by omega), hrep]; decide), if_neg (by omega), if_neg (by rw [getD_setT _ _ _ (by simp; omega), if_neg (by omega), getD_setT _ _ _ (by simp), if_neg (by omega), hrep]; decide)])]
    rw [show q + ms.length + 1 = q + 1 + ms.length by omega]
    refine tree_both hq hm hg ht1 ht2 _ ?_ fun j hj => ?_
    · simp only [List.length_set, List.length_replicate]
      omega
    rw [getD_setT _ _ _ (by simp; omega), getD_setT _ _ _ (by simp; omega), getD_setT _ _ _ (by simp), hrep]
    by_cases e1 : q + ms.length = j
    · rw [if_pos e1, decide_eq_true (by omega)]
    · rw [if_neg e1]
      by_cases e2 : q = j
      · rw [if_pos e2, decide_eq_true (by omega)]
      · rw [if_neg e2, if_neg (by omega), decide_eq_false (by omega)]
  unfold worthR
  rw [if_neg (by omega), Int.toNat_natCast, if_pos ht, wK_at (by rw [Int.toNat_natCast]; exact hat)]
  refine nodeW_congr hr (by rw [hk, hkl]; rfl) rfl fun k hkk => ?_
  rw [hk] at hkk
  simp only [List.mem_cons, List.not_mem_nil, or_false] at hkk
  rcases hkk with rfl | rfl
  · rw [f1]
    exact wK_low hq hn1 hs1 ht1 (fun i hi => join_low hq i hi) _ (by omega)
  · rw [f2]
    exact wK_mid hq hm hg hn2 hs2 ht2 _ (by omega)
/-- The worth of what is moved, at its new place. -/
theorem worth_moved {g : Int → Int} {ns ms : List Nd} {v : Vw} {q : Nat} (hq : q < ns.length) (hm : 0 < ms.length) (hg : ∀ k : Int, 0 ≤ k → k < ms.length → g k = k + ((q + 1 : Nat) : Int)) (hn2 : ∀ nd ∈ ms, nd.ks.length = nd.kl)
    (hs2 : ∀ (i : Nat) (nd : Nd), i < ms.length → ms[i]? = some nd → nd.kl ≤ 1000000) (ht2 : treeR ms (ms.length - 1) = true) :
    worthR (joinN g ns q ms []) ((q + ms.length : Nat) : Int) v = worthR ms ((ms.length : Int) - 1) v := by
  have hl : (joinN g ns q ms []).length = q + ms.length + 1 := by simp [joinN]; omega
  rw [← wK_mid (v := v) (tl := []) hq hm hg hn2 hs2 ht2 (q + ms.length + 1) (by omega)]
  show (if _ ∨ _ then _ else _) = _
  rw [if_neg (by omega), Int.toNat_natCast, if_pos (tree_moved hq hm hg ht2)]
/-- The worth of an if over a constant and the two trees. -/
theorem worth_if {g : Int → Int} {ns ms : List Nd} {v : Vw} {q : Nat} {c nd : Nd} (hq : q < ns.length) (hm : 0 < ms.length) (hg : ∀ k : Int, 0 ≤ k → k < ms.length → g k = k + ((q + 1 : Nat) : Int)) (hn1 : ∀ nd ∈ ns, nd.ks.length = nd.kl) (hn2 : ∀ nd ∈ ms, nd.ks.length = nd.kl)
    (hs1 : ∀ (i : Nat) (nd : Nd), i < q + 1 → ns[i]? = some nd → nd.kl ≤ 1000000) (hs2 : ∀ (i : Nat) (nd : Nd), i < ms.length → ms[i]? = some nd → nd.kl ≤ 1000000) (ht1 : treeR ns q = true) (ht2 : treeR ms (ms.length - 1) = true)
    (hc : c.right = true) (hck : c.ks = []) (hr : nd.right = true) (hk : nd.ks = [((q + ms.length + 1 : Nat) : Int), (q : Int), ((q + ms.length : Nat) : Int)]) (hkl : nd.kl = 3) (f : Int → Wr) (f0 : ∀ h, f ((q + ms.length + 1 : Nat) : Int) = nodeW h c v) (f1 : f q = worthR ns q v) (f2 : f ((q + ms.length : Nat) : Int) = worthR ms ((ms.length : Int) - 1) v) :
    worthR (joinN g ns q ms [c, nd]) ((q + ms.length + 2 : Nat) : Int) v = nodeW f nd v := by
  have hl : (joinN g ns q ms [c, nd]).length = q + ms.length + 3 := by simp [joinN]; omega
  have hat : (joinN g ns q ms [c, nd])[q + ms.length + 2]? = some nd := by rw [show q + ms.length + 2 = (q + 1) + ms.length + 1 by omega, join_high hq]; rfl
  have hac : (joinN g ns q ms [c, nd])[q + ms.length + 1]? = some c := by rw [show q + ms.length + 1 = (q + 1) + ms.length + 0 by omega, join_high hq]; rfl
  have hrep : ∀ n j : Nat, (List.replicate n false).getD j false = false := fun n j => by
    simp only [List.getD_eq_getElem?_getD, List.getElem?_replicate]
    split <;> rfl
  have ht : treeR (joinN g ns q ms [c, nd]) (q + ms.length + 2) = true := by
    unfold treeR
    rw [treeG_step (by rw [getD_setT _ _ _ (by simp), if_pos rfl]) hat hr (by
      rw [hk]
      simp only [kidsF, Int.toNat_natCast]
      rw [if_neg (by omega), if_neg (by rw [getD_setT _ _ _ (by simp), if_neg (by omega), hrep]; decide),
        if_neg (by omega), if_neg (by rw [getD_setT _ _ _ (by simp), if_neg (by omega), getD_setT _ _ _ (by simp), if_neg (by omega), hrep]; decide),
        if_neg (by omega), if_neg (by rw [getD_setT _ _ _ (by simp; omega), if_neg (by omega), getD_setT _ _ _ (by simp), if_neg (by omega), getD_setT _ _ _ (by simp), if_neg (by omega), hrep]; decide)])]
    rw [treeG_step (by rw [getD_setT _ _ _ (by simp; omega), if_neg (by omega), getD_setT _ _ _ (by simp; omega), if_neg (by omega), getD_setT _ _ _ (by simp), if_pos rfl]) hac hc (by rw [hck]; rfl)]
    rw [show q + ms.length + 1 = q + 1 + ms.length by omega]
    refine tree_both hq hm hg ht1 ht2 _ (by simp only [List.length_set, List.length_replicate]; omega) fun j hj => ?_
    rw [getD_setT _ _ _ (by simp; omega), getD_setT _ _ _ (by simp; omega), getD_setT _ _ _ (by simp; omega), getD_setT _ _ _ (by simp), hrep]
    by_cases e1 : q + ms.length = j
    · rw [if_pos e1, decide_eq_true (by omega)]
    · rw [if_neg e1]
      by_cases e2 : q = j
      · rw [if_pos e2, decide_eq_true (by omega)]
      · rw [if_neg e2, if_neg (by omega), if_neg (by omega), decide_eq_false (by omega)]
  unfold worthR
  rw [if_neg (by omega), Int.toNat_natCast, if_pos ht, wK_at (by rw [Int.toNat_natCast]; exact hat)]
  refine nodeW_congr hr (by rw [hk, hkl]; rfl) rfl fun k hkk => ?_
  rw [hk] at hkk
  simp only [List.mem_cons, List.not_mem_nil, or_false] at hkk
  rcases hkk with rfl | rfl | rfl
  · rw [f0, wK_at (by rw [Int.toNat_natCast]; exact hac)]
  · rw [f1]
    exact wK_low hq hn1 hs1 ht1 (fun i hi => join_low hq i hi) _ (by omega)
  · rw [f2]
    exact wK_mid hq hm hg hn2 hs2 ht2 _ (by omega)
theorem node_two {f : Int → Wr} {nd : Nd} {v : Vw} {a b : Int} (hk : nd.ks = [a, b]) : wkid f nd 0 = f a ∧ wkid f nd 1 = f b := by
  unfold wkid
  rw [hk]
  exact ⟨rfl, rfl⟩
theorem nodeW_9 {f : Int → Wr} {nd : Nd} {v : Vw} {a b : Int} (ho : nd.op = 9) (hk : nd.ks = [a, b]) : nodeW f nd v = (match sureW (f a) with
    | .error e => .error e
    | .ok false => .ok (truthV false)
    | .ok true => match sureW (f b) with | .error e => .error e | .ok b => .ok (truthV b)) := by
  obtain ⟨e1, e2⟩ := node_two (f := f) (v := v) hk
  unfold nodeW
  simp [leafW, ho, e1, e2]
  try (rcases sureW (f a) with e | (_ | _) <;> first | rfl | (rcases sureW (f b) with e | b <;> rfl))
theorem nodeW_10 {f : Int → Wr} {nd : Nd} {v : Vw} {a b : Int} (ho : nd.op = 10) (hk : nd.ks = [a, b]) : nodeW f nd v = (match sureW (f a) with
    | .error e => .error e
    | .ok true => .ok (truthV true)
    | .ok false => match sureW (f b) with | .error e => .error e | .ok b => .ok (truthV b)) := by
  obtain ⟨e1, e2⟩ := node_two (f := f) (v := v) hk
  unfold nodeW
  simp [leafW, ho, e1, e2]
  try (rcases sureW (f a) with e | (_ | _) <;> first | rfl | (rcases sureW (f b) with e | b <;> rfl))
theorem nodeW_33 {f : Int → Wr} {nd : Nd} {v : Vw} {a b : Int} (ho : nd.op = 33) (hk : nd.ks = [a, b]) : nodeW f nd v = (match f a with
    | .error e => .error e
    | .ok w => if w.k ≠ 0 then .ok w else f b) := by
  obtain ⟨e1, e2⟩ := node_two (f := f) (v := v) hk
  unfold nodeW
  simp [leafW, ho, e1, e2]
  try (rcases sureW (f a) with e | (_ | _) <;> first | rfl | (rcases sureW (f b) with e | b <;> rfl))
theorem nodeW_23 {f : Int → Wr} {nd : Nd} {v : Vw} {c a b : Int} (ho : nd.op = 23) (hk : nd.ks = [c, a, b]) : nodeW f nd v = (match sureW (f c) with
    | .error e => .error e
    | .ok true => f a
    | .ok false => f b) := by
  have e0 : wkid f nd 0 = f c := by unfold wkid; rw [hk]; rfl
  have e1 : wkid f nd 1 = f a := by unfold wkid; rw [hk]; rfl
  have e2 : wkid f nd 2 = f b := by unfold wkid; rw [hk]; rfl
  unfold nodeW
  simp [leafW, ho, e0, e1, e2]
  try (rcases sureW (f c) with e | (_ | _) <;> rfl)
/-- An if over a constant truth: what is chosen is all. -/
theorem pick_if {f : Int → Wr} {nd : Nd} {v : Vw} {c a b : Int} {i : Int} (ho : nd.op = 23) (hk : nd.ks = [c, a, b]) (hc : f c = .ok ⟨2, i, ByteArray.empty, []⟩) : nodeW f nd v = if i = 1 then f a else f b := by
  rw [nodeW_23 ho hk, hc]
  simp only [sureW]
  rw [if_neg (by decide), if_pos trivial]
  by_cases h : i = 1
  · subst h; rfl
  · rw [if_neg h]
    have : (i == 1) = false := by simpa using h
    simp only [this]
/-- What the law says of an and, an or: a refusal of the first part is the whole's; a first part that is no truth is refused; one that settles it is the answer. -/
theorem lazy_two {f : Int → Wr} {nd : Nd} {v : Vw} {a b : Int} {W : Wr} {w x : Vl} {e g : Int} (ho : nd.op = 9 ∨ nd.op = 10) (hk : nd.ks = [a, b]) (hf : f a = W) (hne : ∀ er, W = .error er → er ≠ 0) (hw : WU W w e) (hx : WU (nodeW f nd v) x g) :
    (e ≠ 0 → g = e) ∧ (e = 0 → w.k = 0 → g = 110) ∧ (e = 0 → w.k ≠ 0 → w.k ≠ 2 → g = 100) ∧ (e = 0 → w.k = 2 → w.n = 0 → nd.op = 9 → g = 0 ∧ x = truthV false) ∧ (e = 0 → w.k = 2 → w.n = 1 → nd.op = 10 → g = 0 ∧ x = truthV true) := by
  rcases hw with ⟨h1, rfl⟩ | ⟨h1, rfl⟩
  · subst h1
    refine ⟨fun h => (h rfl).elim, fun _ h => ?_, fun _ h h2 => ?_, fun _ h h2 h3 => ?_, fun _ h h2 h3 => ?_⟩
    · have hs : sureW (f a) = .error 110 := by rw [hf]; simp [sureW, h]
      have : nodeW f nd v = .error 110 := by
        rcases ho with h | h
        · rw [nodeW_9 h hk, hs]
        · rw [nodeW_10 h hk, hs]
      exact (WU.uniq hx (.inr ⟨this, rfl⟩)).2
    · have hs : sureW (f a) = .error 100 := by rw [hf]; simp [sureW, h, h2]
      have : nodeW f nd v = .error 100 := by
        rcases ho with h | h
        · rw [nodeW_9 h hk, hs]
        · rw [nodeW_10 h hk, hs]
      exact (WU.uniq hx (.inr ⟨this, rfl⟩)).2
    · have hs : sureW (f a) = .ok false := by rw [hf]; simp [sureW, h, h2]
      have : nodeW f nd v = .ok (truthV false) := by rw [nodeW_9 h3 hk, hs]
      have := WU.uniq hx (.inl ⟨this, rfl⟩)
      exact ⟨this.2, this.1⟩
    · have hs : sureW (f a) = .ok true := by rw [hf]; simp [sureW, h, h2]
      have : nodeW f nd v = .ok (truthV true) := by rw [nodeW_10 h3 hk, hs]
      have := WU.uniq hx (.inl ⟨this, rfl⟩)
      exact ⟨this.2, this.1⟩
  · subst h1
    have he := hne e rfl
    refine ⟨fun _ => ?_, fun h => (he h).elim, fun h => (he h).elim, fun h => (he h).elim, fun h => (he h).elim⟩
    have hs : sureW (f a) = .error e := by rw [hf]; rfl
    have : nodeW f nd v = .error e := by
      rcases ho with h | h
      · rw [nodeW_9 h hk, hs]
      · rw [nodeW_10 h hk, hs]
    exact (WU.uniq hx (.inr ⟨this, rfl⟩)).2
/-- What the law says of a default. -/
theorem lazy_default {f : Int → Wr} {nd : Nd} {v : Vw} {a b : Int} {W Y : Wr} {w x y : Vl} {e g h : Int} (ho : nd.op = 33) (hk : nd.ks = [a, b]) (hf : f a = W) (hf2 : f b = Y) (hne : ∀ er, W = .error er → er ≠ 0) (hw : WU W w e) (hy : WU Y y h) (hx : WU (nodeW f nd v) x g) :
    (e ≠ 0 → g = e) ∧ (e = 0 → w.k ≠ 0 → g = 0 ∧ x = w) ∧ (e = 0 → w.k = 0 → g = h ∧ x = y) := by
  have hn := nodeW_33 (f := f) (v := v) ho hk
  rw [hf, hf2] at hn
  rcases hw with ⟨h1, rfl⟩ | ⟨h1, rfl⟩
  · subst h1
    simp only at hn
    refine ⟨fun h => (h rfl).elim, fun _ h => ?_, fun _ h0 => ?_⟩
    · rw [if_pos h] at hn
      have := WU.uniq hx (.inl ⟨hn, rfl⟩)
      exact ⟨this.2, this.1⟩
    · rw [if_neg (by simpa using h0)] at hn
      have := WU.uniq (hn ▸ hx) hy
      exact ⟨this.2, this.1⟩
  · subst h1
    have he := hne e rfl
    exact ⟨fun _ => (WU.uniq hx (.inr ⟨hn, rfl⟩)).2, fun h => (he h).elim, fun h => (he h).elim⟩
end Go.Proofs.YtcnckjlmldnblaaDoor
