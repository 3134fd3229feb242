import Derived.Test.YteoggphafhcchaaGreatN6
namespace Go.Proofs.YteoggphafhcchaaGreat
open Go Go.RowKit
set_option maxRecDepth 100000
set_option maxHeartbeats 1000000
set_option linter.unusedVariables false
set_option linter.unusedSimpArgs false
open Go.Maps Go.WideMaps
theorem Chg.act_nodup (c : Chg) {m : List (Nm × Nat)} (h : (keysOf m).Nodup) : (keysOf (c.act m)).Nodup := by
  unfold Chg.act
  split
  · split
    · exact h
    · exact nodup_ins h _ _
  · split
    · split
      · exact nodup_era h _
      · exact nodup_ins (nodup_era h _) _ _
    · exact h
theorem Chg.act_lk (c : Chg) {m m' : List (Nm × Nat)} (hn : (keysOf m).Nodup) (hn' : (keysOf m').Nodup) (h : ∀ s, lk m s = lk m' s) : ∀ s, lk (c.act m) s = lk (c.act m') s := by
  intro s
  unfold Chg.act
  cases c.made with
  | some i =>
    dsimp only
    by_cases e : c.dst = []
    · rw [if_pos e, if_pos e]; exact h s
    · rw [if_neg e, if_neg e, lk_ins, lk_ins, h s]
  | none =>
    dsimp only
    rw [← h c.src]
    cases lk m c.src with
    | none => exact h s
    | some i =>
      dsimp only
      by_cases e : c.dst = []
      · rw [if_pos e, if_pos e, lk_era hn, lk_era hn', h s]
      · rw [if_neg e, if_neg e, lk_ins, lk_ins, lk_era hn, lk_era hn', h s]
theorem len_of_lk {m m' : List (Nm × Nat)} (hn : (keysOf m).Nodup) (hn' : (keysOf m').Nodup) (h : ∀ s, lk m s = lk m' s) : m.length = m'.length := by
  have hp : (keysOf m).Perm (keysOf m') := (List.perm_ext_iff_of_nodup hn hn').2 fun s => by rw [← lk_some, ← lk_some, h s]
  have := hp.length_eq
  simpa [keysOf] using this
theorem chs_nodup (cs : List Chg) {m : List (Nm × Nat)} (h : (keysOf m).Nodup) : (keysOf (chs cs m)).Nodup := by
  induction cs generalizing m with
  | nil => exact h
  | cons c r ih => exact ih (c.act_nodup h)
end Go.Proofs.YteoggphafhcchaaGreat
namespace Go.Proofs.YteoggphafhcchaaGreat
open Go Go.RowKit
set_option maxRecDepth 100000
set_option maxHeartbeats 1000000
set_option linter.unusedVariables false
set_option linter.unusedSimpArgs false
open Go.Maps Go.WideMaps
theorem OkC.snoc {d : Dm} (hC : OkC d) (ns : (keysOf d.safe).Nodup) (nn : (keysOf d.names).Nodup) (hrel : ∀ s, lk (chs d.changes d.safe) s = lk d.names s) (c : Chg) (d' : Dm) (e1 : d'.safe = d.safe) (e2 : d'.changes = d.changes ++ [c]) (e3 : d'.names = c.act d.names) (e4 : d.fs.length ≤ d'.fs.length) (few : d'.names.length ≤ 4096)
    (refs : ∀ s i, lk d'.names s = some i → i < d'.fs.length) (h1 : c.src.length ≤ 32) (h2 : c.dst.length ≤ 32) (h3 : c.made = none → lk d.names c.src ≠ none) (h4 : c.made ≠ none → c.dst ≠ []) : OkC d' ∧ ∀ s, lk (chs d'.changes d'.safe) s = lk d'.names s := by
  have hcn := chs_nodup d.changes ns
  have hact : ∀ s, lk (chs d'.changes d'.safe) s = lk d'.names s := fun s => by
    rw [e1, e2, e3, chs_snoc]; exact c.act_lk hcn nn hrel s
  refine ⟨fun k hk => ?_, hact⟩
  rw [e2, List.length_append] at hk
  simp only [List.length_cons, List.length_nil] at hk
  by_cases hkl : k ≤ d.changes.length
  · have ht : d'.changes.take k = d.changes.take k := by rw [e2, List.take_append_of_le_length hkl]
    obtain ⟨a1, a2, a3, a4⟩ := hC k hkl
    rw [ht, e1]
    refine ⟨a1, a2, fun s i h => Nat.lt_of_lt_of_le (a3 s i h) e4, fun x hx => ?_⟩
    rw [e2] at hx
    by_cases hk2 : k < d.changes.length
    · rw [List.getElem?_append_left hk2] at hx; exact a4 x hx
    · obtain rfl : k = d.changes.length := by omega
      rw [List.getElem?_append_right (Nat.le_refl _), Nat.sub_self] at hx
      obtain rfl : c = x := by simpa using hx
      rw [List.take_length]
      exact ⟨h1, h2, fun e => by rw [hrel]; exact h3 e, h4⟩
  · obtain rfl : k = d.changes.length + 1 := by omega
    have ht : d'.changes.take (d.changes.length + 1) = d'.changes := List.take_of_length_le (by rw [e2, List.length_append]; exact Nat.le_refl _)
    rw [ht]
    have hn' : (keysOf (chs d'.changes d'.safe)).Nodup := chs_nodup _ (by rw [e1]; exact ns)
    have hnn : (keysOf d'.names).Nodup := by rw [e3]; exact c.act_nodup nn
    refine ⟨hn', by rw [len_of_lk hn' hnn hact]; exact few, fun s i h => refs s i (by rw [← hact]; exact h), fun x hx => ?_⟩
    rw [e2, List.getElem?_eq_none (by rw [List.length_append]; exact Nat.le_refl _)] at hx
    cases hx
end Go.Proofs.YteoggphafhcchaaGreat
namespace Go.Proofs.YteoggphafhcchaaGreat
open Go Go.RowKit
set_option maxRecDepth 100000
set_option maxHeartbeats 1000000
set_option linter.unusedVariables false
set_option linter.unusedSimpArgs false
open Go.Maps Go.WideMaps
theorem playAll_snoc (l : List Run) (u : Run) : ∀ b : List UInt8, playAll (l ++ [u]) b = u.play u.laid.length (playAll l b) := by
  induction l with
  | nil => intro b; rfl
  | cons x r ih => intro b; rw [List.cons_append, playAll, playAll, ih]
theorem play_full_len (u : Run) (b : List UInt8) (h : u.laid = [] → u.cut ≤ b.length) : (u.play u.laid.length b).length = (if u.laid = [] then u.cut else b.length) + u.laid.length := by
  unfold Run.play
  rw [List.length_append, List.length_take, Nat.min_self]
  by_cases hl : u.laid = []
  · rw [if_pos hl, if_pos hl, List.length_take, Nat.min_eq_left (h hl)]
  · rw [if_neg hl, if_neg hl]
theorem okR_snoc (l : List Run) (u : Run) : ∀ b : List UInt8, okR l b.length → (u.laid = [] → u.cut ≤ (playAll l b).length) → (if u.laid = [] then u.cut else (playAll l b).length) + u.laid.length ≤ 2147483647 → okR (l ++ [u]) b.length := by
  induction l with
  | nil => intro b h h1 h2; exact ⟨h, h1, h2⟩
  | cons x r ih =>
    intro b h h1 h2
    obtain ⟨a1, a2, a3⟩ := h
    refine ⟨a1, a2, ?_⟩
    have hl := play_full_len x b a2
    rw [← hl] at a3 ⊢
    exact ih _ a3 h1 h2
/-- Keeping all: as many units as there are, or more. -/
theorem playN_all (l : List Run) : ∀ (n : Int) (b : List UInt8), ((l.map Run.units).sum : Int) ≤ n → playN l n b = playAll l b := by
  induction l with
  | nil => intro n b _; rfl
  | cons u r ih =>
    intro n b h
    rw [List.map_cons, List.sum_cons] at h
    have hu : 1 ≤ u.units ∧ u.laid.length ≤ u.units := by unfold Run.units; omega
    have hn : ¬ n ≤ 0 := by push_cast at h; omega
    rw [playN, if_neg hn, playAll, ih _ _ (by push_cast at h ⊢; omega)]
    congr 1
    unfold Run.play
    rw [List.take_of_length_le (show u.laid.length ≤ n.toNat by push_cast at h; omega), List.take_length]
end Go.Proofs.YteoggphafhcchaaGreat
namespace Go.Proofs.YteoggphafhcchaaGreat
open Go Go.RowKit
set_option maxRecDepth 100000
set_option maxHeartbeats 1000000
set_option linter.unusedVariables false
set_option linter.unusedSimpArgs false
open Go.Maps Go.WideMaps
def lsum (l : List Run) : Nat := (l.map fun u => u.laid.length).sum
def cuts : List Run → Nat
  | [] => 0
  | u :: r => (if u.laid = [] then 1 else 0) + cuts r
theorem cuts_snoc (l : List Run) (u : Run) : cuts (l ++ [u]) = cuts l + (if u.laid = [] then 1 else 0) := by
  induction l with
  | nil => simp [cuts]
  | cons x r ih => rw [List.cons_append, cuts, cuts, ih]; omega
theorem lsum_snoc (l : List Run) (u : Run) : lsum (l ++ [u]) = lsum l + u.laid.length := by
  unfold lsum; rw [List.map_append, List.sum_append]; simp
theorem cuts_le (l : List Run) : cuts l ≤ l.length := by
  induction l with
  | nil => exact Nat.le_refl _
  | cons x r ih => rw [cuts, List.length_cons]; split <;> omega
theorem units_eq (l : List Run) : (l.map Run.units).sum = lsum l + cuts l := by
  induction l with
  | nil => rfl
  | cons u r ih =>
    unfold lsum at ih ⊢
    rw [List.map_cons, List.sum_cons, ih, cuts, List.map_cons, List.sum_cons]
    unfold Run.units
    by_cases h : u.laid = []
    · rw [if_pos h, h]; simp; omega
    · rw [if_neg h]
      have : 0 < u.laid.length := List.length_pos_iff.2 h
      rw [Nat.max_eq_left (by omega)]; omega
/-- A file behind at most N acts, in at most S bytes. -/
structure FInv (S N : Nat) (f : Fl) : Prop where
  ok : okR f.loose f.safe.length
  play : playAll f.loose f.safe = f.now
  runs : f.loose.length ≤ N
  now : f.now.length ≤ S
  safe : f.safe.length ≤ S
  sum : lsum f.loose + f.safe.length ≤ f.now.length + S * cuts f.loose
  app : lsum f.loose + S * cuts f.loose ≤ S * f.loose.length
theorem FInv.units {S N : Nat} {f : Fl} (h : FInv S N f) (hS : S ≤ 10000000) (hN : N ≤ 1000000000000) : f.units ≤ 9223372036854775806 := by
  unfold Fl.units
  rw [units_eq]
  have h1 := h.sum
  have h2 := h.app
  have h3 := h.now
  have h4 := cuts_le f.loose
  have h5 := h.runs
  have h6 : S * f.loose.length ≤ 10000000 * 1000000000000 := Nat.mul_le_mul hS (by omega)
  generalize S * cuts f.loose = x at *
  generalize S * f.loose.length = y at *
  omega
theorem FInv.new (S N : Nat) : FInv S N ⟨[], [], []⟩ := ⟨okR_nil, rfl, Nat.zero_le _, Nat.zero_le _, Nat.zero_le _, Nat.zero_le _, Nat.zero_le _⟩
theorem FInv.mono {S N M : Nat} {f : Fl} (h : FInv S N f) (hm : N ≤ M) : FInv S M f := ⟨h.ok, h.play, Nat.le_trans h.runs hm, h.now, h.safe, h.sum, h.app⟩
theorem FInv.append {S N : Nat} {f : Fl} (h : FInv S N f) (hS : S ≤ 10000000) (q : List UInt8) (hq : q ≠ []) (hl : f.now.length + q.length ≤ S) : FInv S (N + 1) ⟨f.now ++ q, f.safe, f.loose ++ [⟨q, 0⟩]⟩ := by
  have h1 := h.sum
  have h2 := h.app
  have h3 := h.runs
  refine ⟨okR_snoc _ ⟨q, 0⟩ _ h.ok (fun e => absurd e hq) ?_, ?_, by rw [List.length_append]; simp; omega, by rw [List.length_append]; exact hl, h.safe, ?_, ?_⟩
  · show (if q = [] then 0 else (playAll f.loose f.safe).length) + q.length ≤ _
    rw [if_neg hq, h.play]; omega
  · show playAll (f.loose ++ [⟨q, 0⟩]) f.safe = _
    rw [playAll_snoc, h.play]
    unfold Run.play
    rw [if_neg hq, List.take_length]
  · show lsum (f.loose ++ [⟨q, 0⟩]) + f.safe.length ≤ (f.now ++ q).length + S * cuts (f.loose ++ [⟨q, 0⟩])
    rw [lsum_snoc, cuts_snoc, if_neg (show ¬ (⟨q, 0⟩ : Run).laid = [] from hq), List.length_append, Nat.add_zero]
    show lsum f.loose + q.length + _ ≤ _
    omega
  · show lsum (f.loose ++ [⟨q, 0⟩]) + S * cuts (f.loose ++ [⟨q, 0⟩]) ≤ S * (f.loose ++ [(⟨q, 0⟩ : Run)]).length
    rw [lsum_snoc, cuts_snoc, if_neg (show ¬ (⟨q, 0⟩ : Run).laid = [] from hq), List.length_append, Nat.add_zero]
    show lsum f.loose + q.length + _ ≤ S * (f.loose.length + 1)
    rw [Nat.mul_add]; omega
theorem FInv.cut {S N : Nat} {f : Fl} (h : FInv S N f) (n : Nat) (hn : n ≤ f.now.length) (hS : S ≤ 10000000) : FInv S (N + 1) ⟨f.now.take n, f.safe, f.loose ++ [⟨[], n⟩]⟩ := by
  have h1 := h.sum
  have h2 := h.app
  have h3 := h.runs
  have h4 := h.now
  refine ⟨okR_snoc _ ⟨[], n⟩ _ h.ok (fun _ => ?_) ?_, ?_, by rw [List.length_append]; simp; omega, by rw [List.length_take]; omega, h.safe, ?_, ?_⟩
  · rw [h.play]; exact hn
  · show (if ([] : List UInt8) = [] then n else (playAll f.loose f.safe).length) + 0 ≤ _
    rw [if_pos rfl]; omega
  · show playAll (f.loose ++ [⟨[], n⟩]) f.safe = _
    rw [playAll_snoc, h.play]
    unfold Run.play
    rw [if_pos rfl]; simp
  · show lsum (f.loose ++ [⟨[], n⟩]) + f.safe.length ≤ (f.now.take n).length + S * cuts (f.loose ++ [⟨[], n⟩])
    rw [lsum_snoc, cuts_snoc, if_pos rfl, Nat.mul_add]
    show lsum f.loose + 0 + _ ≤ _
    omega
  · show lsum (f.loose ++ [⟨[], n⟩]) + S * cuts (f.loose ++ [⟨[], n⟩]) ≤ S * (f.loose ++ [(⟨[], n⟩ : Run)]).length
    rw [lsum_snoc, cuts_snoc, if_pos rfl, List.length_append, Nat.mul_add]
    show lsum f.loose + 0 + _ ≤ S * (f.loose.length + 1)
    rw [Nat.mul_add]; omega
theorem FInv.sync {S N : Nat} {f : Fl} (h : FInv S N f) (hS : S ≤ 10000000) : FInv S N ⟨f.now, f.now, []⟩ := by
  have h4 := h.now
  exact ⟨show f.now.length ≤ 2147483647 by omega, rfl, Nat.zero_le _, h4, h4, by show 0 + f.now.length ≤ f.now.length + S * 0; omega, by show 0 + S * 0 ≤ S * 0; omega⟩
/-! Sums over a map's files. -/
theorem sumL_nil (len : Nat → Nat) : sumL len [] = 0 := rfl
theorem sumL_cons (len : Nat → Nat) (p : Nm × Nat) (r : List (Nm × Nat)) : sumL len (p :: r) = len p.2 + sumL len r := by unfold sumL; rw [List.map_cons, List.sum_cons]
theorem sumL_era (len : Nat → Nat) {m : List (Nm × Nat)} {s : Nm} {i : Nat} (h : lk m s = some i) : sumL len (era m s) + len i = sumL len m := by
  induction m with
  | nil => cases h
  | cons p r ih =>
    obtain ⟨k, j⟩ := p
    simp only [lk] at h
    simp only [era]
    split at h
    · rename_i e; cases h; rw [if_pos e, sumL_cons]; dsimp only; omega
    · rename_i e; rw [if_neg e, sumL_cons, sumL_cons]; have := ih h; omega
theorem sumL_ins_old (len : Nat → Nat) {m : List (Nm × Nat)} {s : Nm} {j : Nat} (i : Nat) (h : lk m s = some j) : sumL len (ins m s i) + len j = sumL len m + len i := by
  induction m with
  | nil => cases h
  | cons p r ih =>
    obtain ⟨k, x⟩ := p
    simp only [lk] at h
    simp only [ins]
    split at h
    · rename_i e; cases h; rw [if_pos e, sumL_cons, sumL_cons]; dsimp only; omega
    · rename_i e; rw [if_neg e, sumL_cons, sumL_cons]; have := ih h; omega
theorem sumL_ins_new (len : Nat → Nat) {m : List (Nm × Nat)} {s : Nm} (i : Nat) (h : lk m s = none) : sumL len (ins m s i) = sumL len m + len i := by
  induction m with
  | nil => simp [ins, sumL]
  | cons p r ih =>
    obtain ⟨k, x⟩ := p
    simp only [lk] at h
    simp only [ins]
    split at h
    · cases h
    · rename_i e; rw [if_neg e, sumL_cons, sumL_cons]; have := ih h; omega
theorem sumL_congr {len len' : Nat → Nat} {m : List (Nm × Nat)} (h : ∀ p ∈ m, len p.2 = len' p.2) : sumL len m = sumL len' m := by
  unfold sumL
  rw [List.map_congr_left h]
/-- No two names find one file. -/
def Inj (m : List (Nm × Nat)) : Prop := ∀ s t i, lk m s = some i → lk m t = some i → s = t
theorem sumL_set {len len' : Nat → Nat} {m : List (Nm × Nat)} {s : Nm} {i : Nat} (hn : (keysOf m).Nodup) (hj : Inj m) (h : lk m s = some i) (he : ∀ j, j ≠ i → len' j = len j) : sumL len' m + len i = sumL len m + len' i := by
  have h1 := sumL_era len h
  have h2 := sumL_era len' h
  have h3 : sumL len' (era m s) = sumL len (era m s) := sumL_congr fun p hp => he _ fun e => by
    have hk := lk_of_mem (nodup_era hn s) (s := p.1) (i := p.2) hp
    rw [lk_era hn] at hk
    split at hk
    · cases hk
    · rename_i hne; rw [e] at hk; exact hne (hj _ _ _ hk h)
  omega
theorem sumL_len_le (len : Nat → Nat) {m : List (Nm × Nat)} {s : Nm} {i : Nat} (h : lk m s = some i) : len i ≤ sumL len m := by have := sumL_era len h; omega
theorem lenF_set (fs : List Fl) (i : Nat) (f : Fl) (hi : i < fs.length) (j : Nat) : lenF (fs.set i f) j = if j = i then f.now.length else lenF fs j := by
  unfold lenF
  by_cases e : j = i
  · subst e; rw [if_pos rfl, List.getElem?_set_self hi]; rfl
  · rw [if_neg e, List.getElem?_set_ne (fun e' => e e'.symm)]
theorem lenF_new (fs : List Fl) (j : Nat) : lenF (fs ++ [⟨[], [], []⟩]) j = lenF fs j := by
  unfold lenF
  by_cases h : j < fs.length
  · rw [List.getElem?_append_left h]
  · rw [List.getElem?_append_right (by omega), show fs[j]? = none from List.getElem?_eq_none (by omega)]
    cases e : j - fs.length with
    | zero => rfl
    | succ n => rfl
end Go.Proofs.YteoggphafhcchaaGreat
namespace Go.Proofs.YteoggphafhcchaaGreat
open Go Go.RowKit
set_option maxRecDepth 100000
set_option maxHeartbeats 1000000
set_option linter.unusedVariables false
set_option linter.unusedSimpArgs false
open Go.Maps Go.WideMaps
/-- A disk behind some acts without a fault: S bytes of space, N acts, C changes of names. -/
structure Inv (S N C : Nat) (d : Dm) : Prop where
  sp : d.space = (S : Int)
  pw : d.power = true
  pl : d.plan = []
  ep : d.epoch = 0
  fsl : d.fs.length ≤ N
  chl : d.changes.length ≤ C
  nn : (keysOf d.names).Nodup
  ns : (keysOf d.safe).Nodup
  few : d.names.length ≤ 4096
  fewS : d.safe.length ≤ 4096
  leg : ∀ s i, lk d.names s = some i → legalB (bs s) = true
  legS : ∀ s i, lk d.safe s = some i → legalB (bs s) = true
  refs : Refs d
  inj : Inj d.names
  used : d.used = ((sumL (lenF d.fs) d.names : Nat) : Int)
  le : sumL (lenF d.fs) d.names ≤ S
  files : ∀ f ∈ d.fs, FInv S N f
  okc : OkC d
  rel : ∀ s, lk (chs d.changes d.safe) s = lk d.names s
theorem lk_isSome {β : Type} {l : List (Nm × β)} {s : Nm} (h : s ∈ keysOf l) : ∃ i, lk l s = some i := Option.isSome_iff_exists.1 (lk_some.2 h)
theorem Inv.new (S : Nat) : Inv S 0 0 (Dm.new S) := by
  refine ⟨rfl, rfl, rfl, rfl, Nat.le_refl _, Nat.le_refl _, List.nodup_nil, List.nodup_nil, Nat.zero_le _, Nat.zero_le _, fun s i h => (by cases h), fun s i h => (by cases h), ⟨fun s i h => (by cases h), fun s i h => (by cases h), fun c h => (by cases h)⟩, fun s t i h => (by cases h), rfl, Nat.zero_le _, fun f h => (by cases h), fun k hk => ?_, fun s => rfl⟩
  obtain rfl : k = 0 := Nat.le_zero.1 hk
  exact ⟨List.nodup_nil, Nat.zero_le _, fun s i h => (by cases h), fun c h => (by cases h)⟩
theorem Inv.mono {S N C M D : Nat} {d : Dm} (h : Inv S N C d) (hm : N ≤ M) (hc : C ≤ D) : Inv S M D d :=
  ⟨h.sp, h.pw, h.pl, h.ep, Nat.le_trans h.fsl hm, Nat.le_trans h.chl hc, h.nn, h.ns, h.few, h.fewS, h.leg, h.legS, h.refs, h.inj, h.used, h.le, fun f hf => (h.files f hf).mono hm, h.okc, h.rel⟩
theorem Inv.withActs {S N C : Nat} {d : Dm} (h : Inv S N C d) (a : Nat) : Inv S N C { d with acts := a } :=
  ⟨h.sp, h.pw, h.pl, h.ep, h.fsl, h.chl, h.nn, h.ns, h.few, h.fewS, h.leg, h.legS, ⟨h.refs.nm, h.refs.sf, h.refs.ch⟩, h.inj, h.used, h.le, h.files, h.okc, h.rel⟩
theorem Inv.pre {S N C : Nat} {d : Dm} (h : Inv S N C d) (hS : S ≤ 10000000) (hN : N ≤ 1000000000000) (hC : C ≤ 1000000000000) (ha : d.acts ≤ 1000000000000) : Pre d :=
  ⟨h.refs, h.nn, h.ns, h.few, h.fewS, by omega, by rw [h.ep]; omega, by have := h.fsl; omega, by have := h.chl; omega, fun s hs => by obtain ⟨i, hi⟩ := lk_isSome hs; exact h.leg s i hi, fun f hf => by
    have h1 := h.files f hf
    have := h1.now; have := h1.safe; have := h1.runs
    exact ⟨by omega, by omega, by omega⟩⟩
theorem Inv.fine {S N C : Nat} {d : Dm} (h : Inv S N C d) (hN : N ≤ 1000000000000) : Fine d.fs := fun f hf => ⟨(h.files f hf).ok, by have := (h.files f hf).runs; omega⟩
theorem Inv.file_at {S N C : Nat} {d : Dm} (h : Inv S N C d) (i : Nat) : FInv S N (d.file i) := by
  unfold Dm.file
  cases e : d.fs[i]? with
  | none => exact FInv.new S N
  | some f => exact h.files f (List.mem_of_getElem? e)
theorem Inv.no {S N C : Nat} {d : Dm} (h : Inv S N C d) : lk d.names [] = none := by
  cases e : lk d.names [] with
  | none => rfl
  | some i => exact absurd rfl (legal_len (h.leg _ _ e)).2
/-- A further file. -/
theorem Inv.newfile {S N C : Nat} {d : Dm} (h : Inv S N C d) : Inv S (N + 1) C { d with fs := d.fs ++ [⟨[], [], []⟩] } := by
  have hl : (d.fs ++ [(⟨[], [], []⟩ : Fl)]).length = d.fs.length + 1 := by rw [List.length_append]; rfl
  have hs : sumL (lenF (d.fs ++ [⟨[], [], []⟩])) d.names = sumL (lenF d.fs) d.names := sumL_congr fun p _ => lenF_new _ _
  refine ⟨h.sp, h.pw, h.pl, h.ep, by rw [hl]; have := h.fsl; omega, h.chl, h.nn, h.ns, h.few, h.fewS, h.leg, h.legS, ⟨fun s i e => by rw [hl]; have := h.refs.nm s i e; omega, fun s i e => by rw [hl]; have := h.refs.sf s i e; omega, fun c hc i e => by rw [hl]; have := h.refs.ch c hc i e; omega⟩, h.inj, by rw [hs]; exact h.used, by rw [hs]; exact h.le, fun f hf => ?_, fun k hk => ?_, h.rel⟩
  · rcases List.mem_append.1 hf with h1 | h1
    · exact (h.files f h1).mono (Nat.le_succ _)
    · rw [List.mem_singleton.1 h1]; exact FInv.new _ _
  · obtain ⟨h1, h2, h3, h4⟩ := h.okc k hk
    exact ⟨h1, h2, fun s i e => by rw [hl]; have := h3 s i e; omega, h4⟩
/-- One file turned. -/
theorem Inv.file {S N C M : Nat} {d : Dm} (h : Inv S N C d) (hM : N ≤ M) {s : Nm} {i : Nat} (hi : lk d.names s = some i) (f : Fl) (hf : FInv S M f) (u : Nat) (hu : (u : Int) + (d.file i).now.length = d.used + f.now.length) (hle : u ≤ S) : Inv S M C { d with fs := d.fs.set i f, used := (u : Int) } := by
  have hil := h.refs.nm s i hi
  have hsum := sumL_set (len := lenF d.fs) (len' := lenF (d.fs.set i f)) h.nn h.inj hi (fun j hj => by rw [lenF_set _ _ _ hil, if_neg hj])
  rw [lenF_set _ _ _ hil, if_pos rfl] at hsum
  have hus := h.used
  have hx : (d.file i).now.length = lenF d.fs i := rfl
  have e : sumL (lenF (d.fs.set i f)) d.names = u := by omega
  refine ⟨h.sp, h.pw, h.pl, h.ep, by rw [List.length_set]; exact Nat.le_trans h.fsl hM, h.chl, h.nn, h.ns, h.few, h.fewS, h.leg, h.legS, ⟨fun s i e => by rw [List.length_set]; exact h.refs.nm s i e, fun s i e => by rw [List.length_set]; exact h.refs.sf s i e, fun c hc i e => by rw [List.length_set]; exact h.refs.ch c hc i e⟩, h.inj, by rw [e], by rw [e]; exact hle, fun g hg => ?_, fun k hk => ?_, h.rel⟩
  · rcases List.mem_or_eq_of_mem_set hg with h1 | h1
    · exact (h.files g h1).mono hM
    · rw [h1]; exact hf
  · obtain ⟨h1, h2, h3, h4⟩ := h.okc k hk
    exact ⟨h1, h2, fun s i e => by rw [List.length_set]; exact h3 s i e, h4⟩
/-- A change of names. -/
theorem Inv.change {S N C : Nat} {d : Dm} (h : Inv S N C d) (c : Chg) (few : (c.act d.names).length ≤ 4096) (leg : ∀ s i, lk (c.act d.names) s = some i → legalB (bs s) = true) (hr : ∀ s i, lk (c.act d.names) s = some i → i < d.fs.length) (hm : ∀ i, c.made = some i → i < d.fs.length)
    (hj : Inj (c.act d.names)) (hu : d.usedFor c = ((sumL (lenF d.fs) (c.act d.names) : Nat) : Int)) (hle : sumL (lenF d.fs) (c.act d.names) ≤ S) (h1 : c.src.length ≤ 32) (h2 : c.dst.length ≤ 32) (h3 : c.made = none → lk d.names c.src ≠ none) (h4 : c.made ≠ none → c.dst ≠ []) : Inv S N (C + 1) (d.change c) := by
  have hs := OkC.snoc h.okc h.ns h.nn h.rel c (d.change c) rfl rfl rfl (Nat.le_refl _) few hr h1 h2 h3 h4
  refine ⟨h.sp, h.pw, h.pl, h.ep, h.fsl, ?_, c.act_nodup h.nn, h.ns, few, h.fewS, leg, h.legS, ⟨hr, h.refs.sf, fun x hx i e => ?_⟩, hj, hu, hle, h.files, hs.1, hs.2⟩
  · show (d.changes ++ [c]).length ≤ C + 1
    rw [List.length_append]; have := h.chl; simp; omega
  · rcases List.mem_append.1 hx with hx | hx
    · exact h.refs.ch x hx i e
    · rw [List.mem_singleton.1 hx] at e; exact hm i e
theorem Inv.create {S N C : Nat} {d : Dm} (h : Inv S N C d) (s : Nm) (hs : lk d.names s = none) (hl : legalB (bs s) = true) (hn : d.names.length < 4096) : Inv S (N + 1) (C + 1) (({ d with fs := d.fs ++ [⟨[], [], []⟩] } : Dm).change ⟨[], s, some d.fs.length⟩) := by
  have h' := h.newfile
  obtain ⟨h32, hne⟩ := legal_len hl
  have hact : Chg.act ⟨[], s, some d.fs.length⟩ d.names = ins d.names s d.fs.length := by unfold Chg.act; dsimp only; rw [if_neg hne]
  have hlen : (d.fs ++ [(⟨[], [], []⟩ : Fl)]).length = d.fs.length + 1 := by rw [List.length_append]; rfl
  have hz : lenF (d.fs ++ [⟨[], [], []⟩]) d.fs.length = 0 := by unfold lenF; rw [List.getElem?_append_right (Nat.le_refl _), Nat.sub_self]; rfl
  have hsum : sumL (lenF (d.fs ++ [⟨[], [], []⟩])) (ins d.names s d.fs.length) = sumL (lenF (d.fs ++ [⟨[], [], []⟩])) d.names := by rw [sumL_ins_new _ _ hs, hz]; rfl
  refine h'.change ⟨[], s, some d.fs.length⟩ ?_ ?_ ?_ ?_ ?_ ?_ ?_ (by simp) h32 (fun e => by cases e) (fun _ => hne)
  · show (Chg.act _ d.names).length ≤ _
    rw [hact]; have := len_ins_le d.names s d.fs.length; omega
  · intro t i ht
    have ht : lk (Chg.act ⟨[], s, some d.fs.length⟩ d.names) t = some i := ht
    rw [hact, lk_ins] at ht
    split at ht
    · rename_i e; rw [e]; exact hl
    · exact h.leg t i ht
  · intro t i ht
    have ht : lk (Chg.act ⟨[], s, some d.fs.length⟩ d.names) t = some i := ht
    show i < (d.fs ++ [(⟨[], [], []⟩ : Fl)]).length
    rw [hlen]
    rw [hact, lk_ins] at ht
    split at ht
    · cases ht; omega
    · have := h.refs.nm t i ht; omega
  · intro i e
    cases e
    show d.fs.length < (d.fs ++ [(⟨[], [], []⟩ : Fl)]).length
    rw [hlen]; omega
  · show Inj (Chg.act _ d.names)
    rw [hact]
    intro a b i ha hb
    rw [lk_ins] at ha hb
    split at ha
    · cases ha
      split at hb
      · rename_i e1 e2; rw [e1, e2]
      · have := h.refs.nm b _ hb; omega
    · split at hb
      · cases hb; have := h.refs.nm a _ ha; omega
      · exact h.inj a b i ha hb
  · show Dm.usedFor _ _ = ((sumL _ (Chg.act _ d.names) : Nat) : Int)
    rw [hact, hsum]
    unfold Dm.usedFor
    rw [if_neg (by rintro ⟨e, -⟩; cases e)]
    exact h'.used
  · show sumL _ (Chg.act _ d.names) ≤ S
    rw [hact, hsum]; exact h'.le
theorem Inv.rename {S N C : Nat} {d : Dm} (h : Inv S N C d) (hS : S ≤ 10000000) (s t : Nm) (i : Nat) (hs : lk d.names s = some i) (hl : legalB (bs t) = true) : Inv S N (C + 1) (d.change ⟨s, t, none⟩) := by
  obtain ⟨h32, hne⟩ := legal_len hl
  obtain ⟨h32s, hnes⟩ := legal_len (h.leg s i hs)
  have hact : Chg.act ⟨s, t, none⟩ d.names = ins (era d.names s) t i := by unfold Chg.act; dsimp only; rw [hs]; dsimp only; rw [if_neg hne]
  have hlk : ∀ x, lk (ins (era d.names s) t i) x = if x = t then some i else if x = s then none else lk d.names x := fun x => by rw [lk_ins, lk_era h.nn]
  have hera := sumL_era (lenF d.fs) hs
  have hle := h.le
  have hus := h.used
  have hsum : d.usedFor ⟨s, t, none⟩ = ((sumL (lenF d.fs) (ins (era d.names s) t i) : Nat) : Int) ∧ sumL (lenF d.fs) (ins (era d.names s) t i) ≤ S := by
    unfold Dm.usedFor
    dsimp only
    by_cases e : t = s
    · rw [if_neg (by rintro ⟨-, e1⟩; exact e1 e), sumL_ins_new _ _ (by rw [lk_era h.nn, if_pos e])]
      omega
    · rw [if_pos ⟨rfl, e⟩, if_neg hne]
      have hx : lk (era d.names s) t = lk d.names t := by rw [lk_era h.nn, if_neg e]
      cases ht : lk d.names t with
      | none =>
        rw [ht] at hx
        rw [sumL_ins_new _ _ hx]
        dsimp only
        omega
      | some j =>
        rw [ht] at hx
        have h9 := sumL_ins_old (lenF d.fs) i hx
        have h8 : (d.file j).now.length = lenF d.fs j := rfl
        dsimp only
        rw [wrap64_small (by omega) (by omega)]
        omega
  refine h.change ⟨s, t, none⟩ ?_ ?_ ?_ (fun i e => by cases e) ?_ ?_ ?_ h32s h32 (fun _ => by rw [hs]; simp) (fun e => absurd rfl e)
  · rw [hact]
    have h1 := len_ins_le (era d.names s) t i
    have h2 := len_era (l := d.names) (s := s) (lk_some.1 (by rw [hs]; rfl))
    have := h.few
    omega
  · intro x j hx
    rw [hact, hlk] at hx
    split at hx
    · rename_i e; rw [e]; exact hl
    · split at hx
      · cases hx
      · exact h.leg x j hx
  · intro x j hx
    rw [hact, hlk] at hx
    split at hx
    · cases hx; exact h.refs.nm s i hs
    · split at hx
      · cases hx
      · exact h.refs.nm x j hx
  · rw [hact]
    intro a b j ha hb
    rw [hlk] at ha hb
    by_cases ea : a = t
    · rw [if_pos ea] at ha
      cases ha
      by_cases eb : b = t
      · rw [ea, eb]
      · rw [if_neg eb] at hb
        by_cases eb2 : b = s
        · rw [if_pos eb2] at hb; cases hb
        · rw [if_neg eb2] at hb; exact absurd (h.inj b s i hb hs) eb2
    · rw [if_neg ea] at ha
      by_cases ea2 : a = s
      · rw [if_pos ea2] at ha; cases ha
      · rw [if_neg ea2] at ha
        by_cases eb : b = t
        · rw [if_pos eb] at hb; cases hb; exact absurd (h.inj a s i ha hs) ea2
        · rw [if_neg eb] at hb
          by_cases eb2 : b = s
          · rw [if_pos eb2] at hb; cases hb
          · rw [if_neg eb2] at hb; exact h.inj a b j ha hb
  · rw [hact]; exact hsum.1
  · rw [hact]; exact hsum.2
theorem Inv.remove {S N C : Nat} {d : Dm} (h : Inv S N C d) (hS : S ≤ 10000000) (s : Nm) (i : Nat) (hs : lk d.names s = some i) : Inv S N (C + 1) (d.change ⟨s, [], none⟩) := by
  obtain ⟨h32s, hnes⟩ := legal_len (h.leg s i hs)
  have hact : Chg.act ⟨s, [], none⟩ d.names = era d.names s := by unfold Chg.act; dsimp only; rw [hs]; rfl
  have hera := sumL_era (lenF d.fs) hs
  have hle := h.le
  have hus := h.used
  have hsub : ∀ x j, lk (era d.names s) x = some j → lk d.names x = some j := fun x j hx => by
    rw [lk_era h.nn] at hx
    split at hx
    · cases hx
    · exact hx
  refine h.change ⟨s, [], none⟩ ?_ ?_ ?_ (fun i e => by cases e) ?_ ?_ ?_ h32s (by simp) (fun _ => by rw [hs]; simp) (fun e => absurd rfl e)
  · rw [hact]; have := len_era_le d.names s; have := h.few; omega
  · intro x j hx; rw [hact] at hx; exact h.leg x j (hsub x j hx)
  · intro x j hx; rw [hact] at hx; exact h.refs.nm x j (hsub x j hx)
  · rw [hact]; intro a b j ha hb; exact h.inj a b j (hsub a j ha) (hsub b j hb)
  · rw [hact]
    unfold Dm.usedFor
    dsimp only
    rw [if_pos ⟨rfl, fun e => hnes e.symm⟩, h.no]
    dsimp only
    rw [if_pos rfl]
    unfold Dm.lenOf
    rw [hs]
    dsimp only
    have h8 : (d.file i).now.length = lenF d.fs i := rfl
    rw [wrap64_small (by omega) (by omega)]
    omega
  · rw [hact]; omega
theorem Inv.syncNames {S N C : Nat} {d : Dm} (h : Inv S N C d) : Inv S N C { d with safe := d.names, changes := [] } := by
  refine ⟨h.sp, h.pw, h.pl, h.ep, h.fsl, Nat.zero_le _, h.nn, h.nn, h.few, h.few, h.leg, h.leg, ⟨h.refs.nm, h.refs.nm, fun c hc => (by cases hc)⟩, h.inj, h.used, h.le, h.files, fun k hk => ?_, fun s => rfl⟩
  obtain rfl : k = 0 := Nat.le_zero.1 hk
  exact ⟨h.nn, h.few, h.refs.nm, fun c hc => (by cases hc)⟩
end Go.Proofs.YteoggphafhcchaaGreat
namespace Go.Proofs.YteoggphafhcchaaGreat
open Go Go.RowKit
set_option maxRecDepth 100000
set_option maxHeartbeats 1000000
set_option linter.unusedVariables false
set_option linter.unusedSimpArgs false
open Go.Maps Go.WideMaps
/-- Why a step is refused for itself; 0: it is begun. -/
def Dm.refuse (d : Dm) (o : Op3) : Int :=
  if o.kind = 1 then (if (d.ask o.a).2 = 0 then 33 else if (d.ask o.a).2 = 32 then (if 4096 ≤ d.names.length then 31 else 0) else (d.ask o.a).2)
  else if o.kind = 2 then (match d.ask o.a with | (some i, _) => if 2147483647 - ((d.file i).now.length : Int) < o.p.length then 31 else 0 | (none, e) => e)
  else if o.kind = 3 then (match d.ask o.a with | (some i, _) => if o.n < 0 ∨ ((d.file i).now.length : Int) < o.n then 1 else 0 | (none, e) => e)
  else if o.kind = 4 then (match d.ask o.a with | (some _, _) => 0 | (none, e) => e)
  else if o.kind = 5 then (if d.power = false then 2 else if legalB (bs o.a) = false then 34 else if legalB (bs o.b) = false then 34 else match lk d.names o.a with | none => 32 | some _ => 0)
  else if o.kind = 6 then (match d.ask o.a with | (some _, _) => 0 | (none, e) => e)
  else (if d.power = false then 2 else 0)
def Dm.fit (d : Dm) (o : Op3) : List UInt8 := o.p.take (max (wrap64 (d.space - d.used)) 0).toNat
/-- What a step does. -/
def Dm.eff (d : Dm) (o : Op3) (e : Dm) : Dm :=
  if o.kind = 1 then ({ e with fs := e.fs ++ [⟨[], [], []⟩] } : Dm).change ⟨[], o.a, some e.fs.length⟩
  else if o.kind = 2 then (match lk d.names o.a with | some i => partOf i (d.fit o) (d.fit o).length e | none => e)
  else if o.kind = 3 then (match lk d.names o.a with | some i => { (e.setF i ⟨(e.file i).now.take o.n.toNat, (e.file i).safe, (e.file i).loose ++ [⟨[], o.n.toNat⟩]⟩) with used := wrap64 (e.used - wrap64 (((e.file i).now.length : Int) - o.n)) } | none => e)
  else if o.kind = 4 then (match lk d.names o.a with | some i => e.setF i ⟨(e.file i).now, (e.file i).now, []⟩ | none => e)
  else if o.kind = 5 then e.change ⟨o.a, o.b, none⟩
  else if o.kind = 6 then e.change ⟨o.a, [], none⟩
  else { e with safe := e.names, changes := [] }
theorem ask_pair (d : Dm) (s : Nm) : (∃ i, d.ask s = (some i, 0) ∧ lk d.names s = some i) ∨ ∃ y, d.ask s = (none, y) ∧ y ≠ 0 ∧ (y = 32 → lk d.names s = none ∧ legalB (bs s) = true) := by
  unfold Dm.ask
  by_cases h1 : d.power = false
  · rw [if_pos h1]; exact .inr ⟨2, rfl, by decide, fun e => by cases e⟩
  · rw [if_neg h1]
    by_cases h2 : legalB (bs s) = false
    · rw [if_pos h2]; exact .inr ⟨34, rfl, by decide, fun e => by cases e⟩
    · rw [if_neg h2]
      cases h3 : lk d.names s with
      | none => exact .inr ⟨32, rfl, by decide, fun _ => ⟨rfl, by simpa using h2⟩⟩
      | some i => exact .inl ⟨i, rfl, rfl⟩
/-- Behind a begun step: what was done, and the number, by the fault. -/
structure Went (d : Dm) (o : Op3) (r : Dm × Int) : Prop where
  k0 : (d.planned d.acts).kind = 0 → r.1 = d.eff o { d with acts := d.acts + 1 }
  k1 : (d.planned d.acts).kind = 1 → r = ({ d with acts := d.acts + 1 }, 30)
  k2 : (d.planned d.acts).kind = 2 → r = (d.eff o { d with acts := d.acts + 1 }, 30)
  k6 : (d.planned d.acts).kind = 6 → r = ({ d.eff o { d with acts := d.acts + 1 } with power := false }, 2)
theorem begin_went (d : Dm) (o : Op3) (whole : Dm → Dm) (part : Int → Dm → Dm) (h : whole { d with acts := d.acts + 1 } = d.eff o { d with acts := d.acts + 1 }) : Went d o (d.begin whole part) := by
  constructor <;> intro hk <;> unfold Dm.begin <;> simp only [hk]
  · exact h
  · rfl
  · exact Prod.ext h rfl
  · exact Prod.ext (by show ({ whole _ with power := false } : Dm) = _; rw [h]) rfl
theorem does_all (d : Dm) (o : Op3) (hk : 1 ≤ o.kind ∧ o.kind ≤ 7) : (d.refuse o ≠ 0 ∧ d.does o = (d, d.refuse o)) ∨ (d.refuse o = 0 ∧ Went d o (d.does o)) := by
  by_cases k1 : o.kind = 1
  · have hd : d.does o = d.create o.a := by unfold Dm.does; rw [if_pos k1]
    have he : ∀ e, d.eff o e = ({ e with fs := e.fs ++ [⟨[], [], []⟩] } : Dm).change ⟨[], o.a, some e.fs.length⟩ := fun e => by unfold Dm.eff; rw [if_pos k1]
    unfold Dm.refuse
    rw [if_pos k1, hd]
    unfold Dm.create
    dsimp only
    rcases ask_pair d o.a with ⟨i, ha, hl⟩ | ⟨y, ha, hy, -⟩
    · rw [ha]; exact .inl ⟨by simp, by simp⟩
    · rw [ha]
      dsimp only
      rw [if_neg hy, if_neg hy]
      by_cases h3 : y = 32
      · rw [if_pos h3, if_pos h3]
        by_cases h4 : 4096 ≤ d.names.length
        · rw [if_pos h4, if_pos h4]; exact .inl ⟨by decide, rfl⟩
        · rw [if_neg h4, if_neg h4]; exact .inr ⟨rfl, begin_went d o _ _ (he _).symm⟩
      · rw [if_neg h3, if_neg h3]; exact .inl ⟨hy, rfl⟩
  by_cases k2 : o.kind = 2
  · have hd : d.does o = d.append o.a o.p := by unfold Dm.does; rw [if_neg k1, if_pos k2]
    have he : ∀ e, d.eff o e = (match lk d.names o.a with | some i => partOf i (d.fit o) (d.fit o).length e | none => e) := fun e => by unfold Dm.eff; rw [if_neg k1, if_pos k2]
    unfold Dm.refuse
    rw [if_neg k1, if_pos k2, hd]
    unfold Dm.append
    rcases ask_pair d o.a with ⟨i, ha, hl⟩ | ⟨y, ha, hy, -⟩
    · rw [ha]
      dsimp only
      by_cases h3 : 2147483647 - ((d.file i).now.length : Int) < o.p.length
      · rw [if_pos h3, if_pos h3]; exact .inl ⟨by decide, rfl⟩
      · rw [if_neg h3, if_neg h3]
        have hw := begin_went d o (partOf i (d.fit o) (d.fit o).length) (partOf i (d.fit o)) (by rw [he, hl])
        refine .inr ⟨rfl, ⟨fun h => ?_, fun h => ?_, fun h => ?_, fun h => ?_⟩⟩
        · split
          · exact hw.k0 h
          · exact hw.k0 h
        · rw [if_neg (by rintro ⟨e, -⟩; rw [h] at e; cases e)]; exact hw.k1 h
        · rw [if_neg (by rintro ⟨e, -⟩; rw [h] at e; cases e)]; exact hw.k2 h
        · rw [if_neg (by rintro ⟨e, -⟩; rw [h] at e; cases e)]; exact hw.k6 h
    · rw [ha]; exact .inl ⟨hy, rfl⟩
  by_cases k3 : o.kind = 3
  · have hd : d.does o = d.cut o.a o.n := by unfold Dm.does; rw [if_neg k1, if_neg k2, if_pos k3]
    have he : ∀ e, d.eff o e = (match lk d.names o.a with | some i => { (e.setF i ⟨(e.file i).now.take o.n.toNat, (e.file i).safe, (e.file i).loose ++ [⟨[], o.n.toNat⟩]⟩) with used := wrap64 (e.used - wrap64 (((e.file i).now.length : Int) - o.n)) } | none => e) := fun e => by unfold Dm.eff; rw [if_neg k1, if_neg k2, if_pos k3]
    unfold Dm.refuse
    rw [if_neg k1, if_neg k2, if_pos k3, hd]
    unfold Dm.cut
    rcases ask_pair d o.a with ⟨i, ha, hl⟩ | ⟨y, ha, hy, -⟩
    · rw [ha]
      dsimp only
      by_cases h3 : o.n < 0 ∨ ((d.file i).now.length : Int) < o.n
      · rw [if_pos h3, if_pos h3]; exact .inl ⟨by decide, rfl⟩
      · rw [if_neg h3, if_neg h3]; exact .inr ⟨rfl, begin_went d o _ _ (by rw [he, hl])⟩
    · rw [ha]; exact .inl ⟨hy, rfl⟩
  by_cases k4 : o.kind = 4
  · have hd : d.does o = d.sync o.a := by unfold Dm.does; rw [if_neg k1, if_neg k2, if_neg k3, if_pos k4]
    have he : ∀ e, d.eff o e = (match lk d.names o.a with | some i => e.setF i ⟨(e.file i).now, (e.file i).now, []⟩ | none => e) := fun e => by unfold Dm.eff; rw [if_neg k1, if_neg k2, if_neg k3, if_pos k4]
    unfold Dm.refuse
    rw [if_neg k1, if_neg k2, if_neg k3, if_pos k4, hd]
    unfold Dm.sync
    rcases ask_pair d o.a with ⟨i, ha, hl⟩ | ⟨y, ha, hy, -⟩
    · rw [ha]; exact .inr ⟨rfl, begin_went d o _ _ (by rw [he, hl])⟩
    · rw [ha]; exact .inl ⟨hy, rfl⟩
  by_cases k5 : o.kind = 5
  · have hd : d.does o = d.rename o.a o.b := by unfold Dm.does; rw [if_neg k1, if_neg k2, if_neg k3, if_neg k4, if_pos k5]
    have he : ∀ e, d.eff o e = e.change ⟨o.a, o.b, none⟩ := fun e => by unfold Dm.eff; rw [if_neg k1, if_neg k2, if_neg k3, if_neg k4, if_pos k5]
    unfold Dm.refuse
    rw [if_neg k1, if_neg k2, if_neg k3, if_neg k4, if_pos k5, hd]
    unfold Dm.rename
    by_cases h1 : d.power = false
    · rw [if_pos h1, if_pos h1]; exact .inl ⟨by decide, rfl⟩
    rw [if_neg h1, if_neg h1]
    by_cases h2 : legalB (bs o.a) = false
    · rw [if_pos h2, if_pos h2]; exact .inl ⟨by decide, rfl⟩
    rw [if_neg h2, if_neg h2]
    by_cases h3 : legalB (bs o.b) = false
    · rw [if_pos h3, if_pos h3]; exact .inl ⟨by decide, rfl⟩
    rw [if_neg h3, if_neg h3]
    cases h4 : lk d.names o.a with
    | none => exact .inl ⟨by decide, rfl⟩
    | some i => exact .inr ⟨rfl, begin_went d o _ _ (by rw [he])⟩
  by_cases k6 : o.kind = 6
  · have hd : d.does o = d.remove o.a := by unfold Dm.does; rw [if_neg k1, if_neg k2, if_neg k3, if_neg k4, if_neg k5, if_pos k6]
    have he : ∀ e, d.eff o e = e.change ⟨o.a, [], none⟩ := fun e => by unfold Dm.eff; rw [if_neg k1, if_neg k2, if_neg k3, if_neg k4, if_neg k5, if_pos k6]
    unfold Dm.refuse
    rw [if_neg k1, if_neg k2, if_neg k3, if_neg k4, if_neg k5, if_pos k6, hd]
    unfold Dm.remove
    rcases ask_pair d o.a with ⟨i, ha, hl⟩ | ⟨y, ha, hy, -⟩
    · rw [ha]; exact .inr ⟨rfl, begin_went d o _ _ (by rw [he])⟩
    · rw [ha]; exact .inl ⟨hy, rfl⟩
  · have k7 : o.kind = 7 := by omega
    have hd : d.does o = d.syncNames := by unfold Dm.does; rw [if_neg k1, if_neg k2, if_neg k3, if_neg k4, if_neg k5, if_neg k6, if_pos k7]
    have he : ∀ e, d.eff o e = { e with safe := e.names, changes := [] } := fun e => by unfold Dm.eff; rw [if_neg k1, if_neg k2, if_neg k3, if_neg k4, if_neg k5, if_neg k6]
    unfold Dm.refuse
    rw [if_neg k1, if_neg k2, if_neg k3, if_neg k4, if_neg k5, if_neg k6, hd]
    unfold Dm.syncNames
    by_cases h1 : d.power = false
    · rw [if_pos h1, if_pos h1]; exact .inl ⟨by decide, rfl⟩
    · rw [if_neg h1, if_neg h1]; exact .inr ⟨rfl, begin_went d o _ _ (by rw [he])⟩
theorem eff_with (d : Dm) (o : Op3) (e : Dm) (a : Nat) (p : List Flt) : d.eff o { e with acts := a, plan := p } = { d.eff o e with acts := a, plan := p } := by
  unfold Dm.eff
  split
  · rfl
  split
  · split
    · unfold partOf
      dsimp only
      split
      · rfl
      · rfl
    · rfl
  split
  · split
    · rfl
    · rfl
  split
  · split
    · rfl
    · rfl
  split
  · rfl
  split
  · rfl
  · rfl
theorem Inv.step {S N C : Nat} {d : Dm} (h : Inv S N C d) (hS : S ≤ 10000000) (o : Op3) (hk : 1 ≤ o.kind ∧ o.kind ≤ 7) (hr : d.refuse o = 0) : Inv S (N + 1) (C + 1) (d.eff o d) := by
  have hus := h.used
  have hle := h.le
  unfold Dm.refuse at hr
  unfold Dm.eff
  by_cases k1 : o.kind = 1
  · rw [if_pos k1] at hr ⊢
    rcases ask_pair d o.a with ⟨i, ha, hl⟩ | ⟨y, ha, hy, h32⟩
    · rw [ha] at hr; simp at hr
    · rw [ha] at hr
      dsimp only at hr
      rw [if_neg hy] at hr
      by_cases h3 : y = 32
      · rw [if_pos h3] at hr
        by_cases h4 : 4096 ≤ d.names.length
        · rw [if_pos h4] at hr; cases hr
        · exact h.create _ (h32 h3).1 (h32 h3).2 (by omega)
      · rw [if_neg h3] at hr; exact absurd hr hy
  rw [if_neg k1] at hr ⊢
  by_cases k2 : o.kind = 2
  · rw [if_pos k2] at hr ⊢
    rcases ask_pair d o.a with ⟨i, ha, hl⟩ | ⟨y, ha, hy, -⟩
    · rw [hl]
      dsimp only
      unfold partOf
      dsimp only
      rw [Int.toNat_natCast, List.take_length]
      split
      · exact h.mono (Nat.le_succ _) (Nat.le_succ _)
      · rename_i hq
        have hfl : (d.fit o).length ≤ S - sumL (lenF d.fs) d.names := by
          unfold Dm.fit
          rw [List.length_take, h.sp, hus, wrap64_small (by omega) (by omega)]
          omega
        have hlen : (d.file i).now.length ≤ sumL (lenF d.fs) d.names := sumL_len_le (lenF d.fs) hl
        have hu9 : wrap64 (d.used + ((d.fit o).length : Int)) = ((sumL (lenF d.fs) d.names + (d.fit o).length : Nat) : Int) := by
          rw [hus, wrap64_small (by omega) (by omega)]; push_cast; rfl
        rw [hu9]
        refine (h.file (M := N + 1) (Nat.le_succ _) hl _ ((h.file_at i).append hS _ hq (by omega)) _ ?_ (by omega)).mono (Nat.le_refl _) (Nat.le_succ _)
        rw [hus, List.length_append]; push_cast; omega
    · rw [ha] at hr; exact absurd hr hy
  rw [if_neg k2] at hr ⊢
  by_cases k3 : o.kind = 3
  · rw [if_pos k3] at hr ⊢
    rcases ask_pair d o.a with ⟨i, ha, hl⟩ | ⟨y, ha, hy, -⟩
    · rw [ha] at hr
      rw [hl]
      dsimp only at hr ⊢
      by_cases h3 : o.n < 0 ∨ ((d.file i).now.length : Int) < o.n
      · rw [if_pos h3] at hr; cases hr
      · have hlen : (d.file i).now.length ≤ sumL (lenF d.fs) d.names := sumL_len_le (lenF d.fs) hl
        have hu9 : wrap64 (d.used - wrap64 (((d.file i).now.length : Int) - o.n)) = ((sumL (lenF d.fs) d.names - ((d.file i).now.length - o.n.toNat) : Nat) : Int) := by
          rw [hus, wrap64_small (x := ((d.file i).now.length : Int) - o.n) (by omega) (by omega), wrap64_small (by omega) (by omega)]; omega
        rw [hu9]
        refine (h.file (M := N + 1) (Nat.le_succ _) hl _ ((h.file_at i).cut o.n.toNat (by omega) hS) _ ?_ (by omega)).mono (Nat.le_refl _) (Nat.le_succ _)
        rw [hus, List.length_take]; omega
    · rw [ha] at hr; exact absurd hr hy
  rw [if_neg k3] at hr ⊢
  by_cases k4 : o.kind = 4
  · rw [if_pos k4] at hr ⊢
    rcases ask_pair d o.a with ⟨i, ha, hl⟩ | ⟨y, ha, hy, -⟩
    · rw [hl]
      dsimp only
      have h9 := (h.file (M := N) (Nat.le_refl _) hl _ ((h.file_at i).sync hS) (sumL (lenF d.fs) d.names) (by rw [hus]) hle).mono (Nat.le_succ N) (Nat.le_succ C)
      rw [← hus] at h9
      exact h9
    · rw [ha] at hr; exact absurd hr hy
  rw [if_neg k4] at hr ⊢
  by_cases k5 : o.kind = 5
  · rw [if_pos k5] at hr ⊢
    rw [if_neg (by rw [h.pw]; decide)] at hr
    by_cases h2 : legalB (bs o.a) = false
    · rw [if_pos h2] at hr; cases hr
    rw [if_neg h2] at hr
    by_cases h3 : legalB (bs o.b) = false
    · rw [if_pos h3] at hr; cases hr
    rw [if_neg h3] at hr
    cases h4 : lk d.names o.a with
    | none => rw [h4] at hr; cases hr
    | some i => exact (h.rename hS _ _ i h4 (by simpa using h3)).mono (Nat.le_succ _) (Nat.le_refl _)
  rw [if_neg k5] at hr ⊢
  by_cases k6 : o.kind = 6
  · rw [if_pos k6] at hr ⊢
    rcases ask_pair d o.a with ⟨i, ha, hl⟩ | ⟨y, ha, hy, -⟩
    · exact (h.remove hS _ i hl).mono (Nat.le_succ _) (Nat.le_refl _)
    · rw [ha] at hr; exact absurd hr hy
  rw [if_neg k6] at hr ⊢
  exact h.syncNames.mono (Nat.le_succ _) (Nat.le_succ _)
theorem planned_nil {d : Dm} (h : d.plan = []) (x : Int) : d.planned x = ⟨0, 0, 0⟩ := by unfold Dm.planned; rw [h]; rfl
theorem Inv.does {S N C : Nat} {d : Dm} (h : Inv S N C d) (hS : S ≤ 10000000) (o : Op3) (hk : 1 ≤ o.kind ∧ o.kind ≤ 7) : Inv S (N + 1) (C + 1) (d.does o).1 ∧ (d.does o).1.acts ≤ d.acts + 1 := by
  rcases does_all d o hk with ⟨hr, he⟩ | ⟨hr, hw⟩
  · rw [he]; exact ⟨h.mono (Nat.le_succ _) (Nat.le_succ _), Nat.le_succ _⟩
  · rw [hw.k0 (by rw [planned_nil h.pl])]
    have e1 : d.eff o { d with acts := d.acts + 1 } = { d.eff o d with acts := d.acts + 1, plan := d.plan } := eff_with d o d (d.acts + 1) d.plan
    have h1 := h.step hS o hk hr
    have e2 : ({ d.eff o d with acts := d.acts + 1, plan := d.plan } : Dm) = { d.eff o d with acts := d.acts + 1 } := by
      have h3 := h1.pl
      have h4 := h.pl
      rw [h4, ← h3]
    rw [e1, e2]
    exact ⟨h1.withActs _, Nat.le_refl _⟩
/-- A script's acts, one behind the other. -/
def Dm.runs (d : Dm) (ops : List Op3) : Dm := ops.foldl (fun d o => if 1 ≤ o.kind ∧ o.kind ≤ 7 then (d.does o).1 else d) d
theorem runs_snoc (d : Dm) (ops : List Op3) (o : Op3) : d.runs (ops ++ [o]) = if 1 ≤ o.kind ∧ o.kind ≤ 7 then ((d.runs ops).does o).1 else d.runs ops := by
  unfold Dm.runs; rw [List.foldl_append]; rfl
theorem Inv.runs {S N C : Nat} {d : Dm} (h : Inv S N C d) (hS : S ≤ 10000000) (ops : List Op3) : ∀ k, k ≤ ops.length → Inv S (N + k) (C + k) (d.runs (ops.take k)) ∧ (d.runs (ops.take k)).acts ≤ d.acts + k := by
  intro k
  induction k with
  | zero => intro _; exact ⟨h, Nat.le_refl _⟩
  | succ k ih =>
    intro hk
    obtain ⟨o, ho⟩ : ∃ o, ops[k]? = some o := ⟨_, List.getElem?_eq_getElem (by omega)⟩
    obtain ⟨h1, h2⟩ := ih (by omega)
    rw [List.take_add_one, ho]
    show Inv S (N + (k + 1)) (C + (k + 1)) (d.runs (ops.take k ++ [o])) ∧ (d.runs (ops.take k ++ [o])).acts ≤ _
    rw [runs_snoc]
    split
    · rename_i ha
      have h3 := h1.does hS o ha
      exact ⟨h3.1, by have := h3.2; omega⟩
    · exact ⟨h1.mono (by omega) (by omega), by omega⟩
def zeroNm : Nm := [122, 101, 114, 111]
/-- The disk that made makes. -/
def madeD (S : Nat) (ops : List Op3) : Dm := ((((Dm.new S).create zeroNm).1).syncNames.1).runs ops
theorem made_first (S : Nat) : ((Dm.new S).create zeroNm).2 = 0 ∧ ((((Dm.new S).create zeroNm).1).syncNames).2 = 0 := ⟨rfl, rfl⟩
theorem Inv.made0 (S : Nat) (hS : S ≤ 10000000) : Inv S 1 1 ((((Dm.new S).create zeroNm).1).syncNames.1) := by
  have h1 := ((Inv.new S).create zeroNm rfl (by decide) (show 0 < 4096 by decide)).syncNames
  exact h1.withActs 2
theorem Inv.made1 (S : Nat) (hS : S ≤ 10000000) : Inv S 1 1 ((Dm.new S).create zeroNm).1 := ((Inv.new S).create zeroNm rfl (by decide) (show 0 < 4096 by decide)).withActs 1
theorem Inv.made {S : Nat} (hS : S ≤ 10000000) (ops : List Op3) : Inv S (1 + ops.length) (1 + ops.length) (madeD S ops) ∧ (madeD S ops).acts ≤ 2 + ops.length := by
  have h := (Inv.made0 S hS).runs hS ops ops.length (Nat.le_refl _)
  rw [List.take_length] at h
  exact h
end Go.Proofs.YteoggphafhcchaaGreat
namespace Go.Proofs.YteoggphafhcchaaGreat
open Go Go.RowKit
set_option maxRecDepth 100000
set_option maxHeartbeats 1000000
set_option linter.unusedVariables false
set_option linter.unusedSimpArgs false
open Go.Maps Go.WideMaps
/-- A number's four low bytes. -/
def le4 (n : Nat) : List UInt8 := [UInt8.ofNat n, UInt8.ofNat (n / 256), UInt8.ofNat (n / 65536), UInt8.ofNat (n / 16777216)]
def Dm.bytesOf (d : Dm) (s : Nm) : List UInt8 := match lk d.names s with | some i => (d.file i).now | none => []
def Dm.sorted (d : Dm) : List Nm := (keysOf d.names).mergeSort fun x y => decide (x ≤ y)
/-- A name's part of the picture. -/
def Dm.entry (d : Dm) (s : Nm) : List UInt8 := s ++ (0 :: le4 (d.bytesOf s).length) ++ d.bytesOf s
def Dm.pict (d : Dm) : List UInt8 := if d.power = true then d.sorted.flatMap d.entry else []
theorem sorted_congr {a b : List (Nm × Nat)} (ha : (keysOf a).Nodup) (hb : (keysOf b).Nodup) (h : ∀ s, (lk a s).isSome = (lk b s).isSome) : (keysOf a).mergeSort (fun x y => decide (x ≤ y)) = (keysOf b).mergeSort (fun x y => decide (x ≤ y)) :=
  mergeSort_of_perm ((List.perm_ext_iff_of_nodup ha hb).2 fun s => by rw [← lk_some, ← lk_some, h s])
theorem pict_congr {a b : Dm} (hp : a.power = b.power) (ha : (keysOf a.names).Nodup) (hb : (keysOf b.names).Nodup) (h : ∀ s, (lk a.names s).isSome = (lk b.names s).isSome) (hx : ∀ s, (lk a.names s).isSome = true → a.bytesOf s = b.bytesOf s) : a.pict = b.pict := by
  unfold Dm.pict
  rw [hp, show a.sorted = b.sorted from sorted_congr ha hb h]
  split
  · refine flatMap_congr' fun s hs => ?_
    have hm : s ∈ keysOf b.names := (List.mergeSort_perm _ _).mem_iff.1 hs
    unfold Dm.entry
    rw [hx s (by rw [h]; exact lk_some.2 hm)]
  · rfl
/-- What two disks must share to tell the same. -/
structure View (a b : Dm) : Prop where
  fs : a.fs = b.fs
  names : a.names = b.names
  safe : a.safe = b.safe
  changes : a.changes = b.changes
  used : a.used = b.used
  power : a.power = b.power
theorem View.refl (a : Dm) : View a a := ⟨rfl, rfl, rfl, rfl, rfl, rfl⟩
theorem View.pict {a b : Dm} (h : View a b) : a.pict = b.pict := by
  obtain ⟨f, n, s, c, u, p⟩ := h
  obtain ⟨_, _, _, _, _, _, _, _, _, _, _⟩ := a
  obtain ⟨_, _, _, _, _, _, _, _, _, _, _⟩ := b
  dsimp only at *
  subst f n s c u p
  rfl
theorem View.loose {a b : Dm} (h : View a b) : a.loose = b.loose := by
  obtain ⟨f, n, s, c, u, p⟩ := h
  obtain ⟨_, _, _, _, _, _, _, _, _, _, _⟩ := a
  obtain ⟨_, _, _, _, _, _, _, _, _, _, _⟩ := b
  dsimp only at *
  subst f n s c u p
  rfl
theorem View.restart {a b : Dm} (hf : a.fs = b.fs) (hs : a.safe = b.safe) (hc : a.changes = b.changes) (nm : Int) (ns : List Int) : View (a.restart nm ns) (b.restart nm ns) := by
  obtain ⟨_, _, _, _, _, _, _, _, _, _, _⟩ := a
  obtain ⟨_, _, _, _, _, _, _, _, _, _, _⟩ := b
  dsimp only at *
  subst hf hs hc
  exact ⟨rfl, rfl, rfl, rfl, rfl, rfl⟩
/-! Restart. -/
theorem keep_keep (f : Fl) (n m : Int) : (f.keep n).keep m = f.keep n := rfl
theorem keepAll_at (g : Nat → Int) (j : Nat) : ∀ (l : List Nat) (fs : List Fl), j < fs.length → (keepAll l (l.map g) fs)[j]?.getD ⟨[], [], []⟩ = if j ∈ l then (fs[j]?.getD ⟨[], [], []⟩).keep (g j) else fs[j]?.getD ⟨[], [], []⟩ := by
  intro l
  induction l with
  | nil => intro fs _; rfl
  | cons i r ih =>
    intro fs hj
    rw [List.map_cons, keepAll, List.tail_cons, List.head?_cons, Option.getD_some, ih _ (by rw [List.length_set]; exact hj)]
    by_cases e : j = i
    · subst e
      rw [List.getElem?_set_self hj, Option.getD_some, if_pos List.mem_cons_self]
      split
      · rw [keep_keep]
      · rfl
    · rw [List.getElem?_set_ne (fun e' => e e'.symm)]
      have hm : (j ∈ i :: r) = (j ∈ r) := by simp [e]
      simp only [hm]
theorem keepAll_zero (j : Nat) : ∀ (l : List Nat) (fs : List Fl), j < fs.length → (keepAll l [] fs)[j]?.getD ⟨[], [], []⟩ = if j ∈ l then (fs[j]?.getD ⟨[], [], []⟩).keep 0 else fs[j]?.getD ⟨[], [], []⟩ := by
  intro l
  induction l with
  | nil => intro fs _; rfl
  | cons i r ih =>
    intro fs hj
    rw [keepAll]
    show (keepAll r [] (fs.set i ((fs[i]?.getD ⟨[], [], []⟩).keep 0)))[j]?.getD ⟨[], [], []⟩ = _
    rw [ih _ (by rw [List.length_set]; exact hj)]
    by_cases e : j = i
    · subst e
      rw [List.getElem?_set_self hj, Option.getD_some, if_pos List.mem_cons_self]
      split
      · rw [keep_keep]
      · rfl
    · rw [List.getElem?_set_ne (fun e' => e e'.symm)]
      have hm : (j ∈ i :: r) = (j ∈ r) := by simp [e]
      simp only [hm]
theorem keepAll_units (B : Nat) : ∀ (l : List Nat) (ns : List Int) (fs : List Fl), (∀ f ∈ fs, f.units ≤ B) → ∀ f ∈ keepAll l ns fs, f.units ≤ B := by
  intro l
  induction l with
  | nil => intro ns fs h; exact h
  | cons i r ih =>
    intro ns fs h
    rw [keepAll]
    refine ih _ _ fun f hf => ?_
    rcases List.mem_or_eq_of_mem_set hf with h1 | h1
    · exact h f h1
    · rw [h1]; exact Nat.zero_le _
theorem keep_zero (f : Fl) : f.keep 0 = ⟨f.safe, f.safe, []⟩ := by unfold Fl.keep; rw [playN_neg _ _ _ (Int.le_refl _)]
theorem keep_all {S N : Nat} {f : Fl} (h : FInv S N f) : f.keep f.units = ⟨f.now, f.now, []⟩ := by
  unfold Fl.keep
  rw [playN_all f.loose (f.units : Int) f.safe (Int.le_refl _), h.play]
theorem mem_reach {d : Dm} {i : Nat} : i ∈ d.reach ↔ (∃ p ∈ d.safe, p.2 = i) ∨ ∃ c ∈ d.changes, c.made = some i := by
  unfold Dm.reach
  rw [(List.mergeSort_perm _ _).mem_iff, List.mem_append, List.mem_map, List.mem_filterMap]
theorem chs_from {i : Nat} {s : Nm} : ∀ {cs : List Chg} {m : List (Nm × Nat)}, (keysOf m).Nodup → lk (chs cs m) s = some i → (∃ t, lk m t = some i) ∨ ∃ c ∈ cs, c.made = some i := by
  intro cs
  induction cs generalizing s with
  | nil => intro m _ h; exact .inl ⟨s, h⟩
  | cons c r ih =>
    intro m hn h
    rcases ih (c.act_nodup hn) (show lk (chs r (c.act m)) s = some i from h) with ⟨t, ht⟩ | ⟨c', h1, h2⟩
    · unfold Chg.act at ht
      cases hm : c.made with
      | some k =>
        rw [hm] at ht
        dsimp only at ht
        split at ht
        · exact .inl ⟨t, ht⟩
        · rw [lk_ins] at ht
          split at ht
          · cases ht; exact .inr ⟨c, List.mem_cons_self, hm⟩
          · exact .inl ⟨t, ht⟩
      | none =>
        rw [hm] at ht
        dsimp only at ht
        cases hk : lk m c.src with
        | none => rw [hk] at ht; exact .inl ⟨t, ht⟩
        | some k =>
          rw [hk] at ht
          dsimp only at ht
          split at ht
          · rw [lk_era hn] at ht
            split at ht
            · cases ht
            · exact .inl ⟨t, ht⟩
          · rw [lk_ins] at ht
            split at ht
            · cases ht; exact .inl ⟨_, hk⟩
            · rw [lk_era hn] at ht
              split at ht
              · cases ht
              · exact .inl ⟨t, ht⟩
    · exact .inr ⟨c', List.mem_cons_of_mem _ h1, h2⟩
theorem reach_names {d : Dm} (ns : (keysOf d.safe).Nodup) {cs : List Chg} (hc : ∀ c ∈ cs, c ∈ d.changes) {s : Nm} {i : Nat} (h : lk (chs cs d.safe) s = some i) : i ∈ d.reach := by
  rcases chs_from ns h with ⟨t, ht⟩ | ⟨c, h1, h2⟩
  · exact mem_reach.2 (.inl ⟨_, lk_mem ht, rfl⟩)
  · exact mem_reach.2 (.inr ⟨c, hc c h1, h2⟩)
/-- What picture and Loose ask of a disk. -/
structure Calm (d : Dm) : Prop where
  pre : Pre d
  units : ∀ i, i < d.fs.length → (d.file i).units ≤ 9223372036854775806
theorem restart_calm {d : Dm} (hp : Pre d) (hf : Fine d.fs) (hC : OkC d) (hu : ∀ f ∈ d.fs, f.units ≤ 9223372036854775806) (he : d.epoch < 1000000000000) (nm : Int) (ns : List Int) (leg : ∀ s i, lk (chs (d.changes.take (max nm 0).toNat) d.safe) s = some i → legalB (bs s) = true) : Calm (d.restart nm ns) := by
  obtain ⟨k, hk⟩ : ∃ k, k = min (max nm 0).toNat d.changes.length := ⟨_, rfl⟩
  have ht : d.changes.take (max nm 0).toNat = d.changes.take k := by
    rw [hk, ← List.take_take, List.take_length]
  obtain ⟨h1, h2, h3, -⟩ := hC k (by rw [hk]; exact Nat.min_le_right _ _)
  have e1 : (d.restart nm ns).names = chs (d.changes.take k) d.safe := by unfold Dm.restart; dsimp only; rw [ht]
  have e2 : (d.restart nm ns).safe = chs (d.changes.take k) d.safe := by unfold Dm.restart; dsimp only; rw [ht]
  have e3 : (d.restart nm ns).fs = keepAll d.reach ns d.fs := rfl
  have e4 : (d.restart nm ns).changes = [] := rfl
  have hl : (d.restart nm ns).fs.length = d.fs.length := by rw [e3, keepAll_len]
  have hu9 := keepAll_units 9223372036854775806 d.reach ns d.fs hu
  have hfn := keepAll_fine d.reach ns d.fs hf
  rw [ht] at leg
  refine ⟨⟨⟨fun s i h => by rw [hl]; rw [e1] at h; exact h3 s i h, fun s i h => by rw [hl]; rw [e2] at h; exact h3 s i h, fun c hc => by rw [e4] at hc; cases hc⟩, by rw [e1]; exact h1, by rw [e2]; exact h1, by rw [e1]; exact h2, by rw [e2]; exact h2, hp.acts, ?_, by rw [hl]; exact hp.fsl, by rw [e4]; exact Nat.zero_lt_of_lt hp.chl, fun s hs => ?_, fun f hm => ?_⟩, fun i hi => ?_⟩
  · show d.epoch + 1 < _; omega
  · rw [e1] at hs; obtain ⟨i, hi⟩ := lk_isSome hs; exact leg s i hi
  · rw [e3] at hm
    have h7 := hfn f hm
    exact ⟨keepAll_now d.reach ns d.fs hf (fun f h => (hp.fl f h).1) f hm, h7.1.le, h7.2⟩
  · unfold Dm.file
    have hi2 : i < (keepAll d.reach ns d.fs).length := hi
    rw [e3, List.getElem?_eq_getElem hi2]
    exact hu9 _ (List.getElem_mem _)
theorem Inv.units_all {S N C : Nat} {d : Dm} (h : Inv S N C d) (hS : S ≤ 10000000) (hN : N ≤ 1000000000000) : ∀ f ∈ d.fs, f.units ≤ 9223372036854775806 := fun f hf => (h.files f hf).units hS hN
theorem Inv.calm {S N C : Nat} {d : Dm} (h : Inv S N C d) (hS : S ≤ 10000000) (hN : N ≤ 1000000000000) (hC : C ≤ 1000000000000) (ha : d.acts ≤ 1000000000000) : Calm d :=
  ⟨h.pre hS hN hC ha, fun i hi => (h.file_at i).units hS hN⟩
def Dm.unitsL (d : Dm) : List Int := d.loose.2.map fun (n : Nat) => (n : Int)
theorem unitsL_eq (d : Dm) : d.unitsL = d.reach.map fun i => ((d.file i).units : Int) := by unfold Dm.unitsL Dm.loose; rw [List.map_map]; rfl
/-- A Restart with what Loose tells loses nothing. -/
theorem restart_loose {S N C : Nat} {d : Dm} (h : Inv S N C d) : (d.restart d.changes.length d.unitsL).pict = d.pict ∧ (d.restart d.changes.length d.unitsL).loose.1 = 0 ∧ ∀ x ∈ (d.restart d.changes.length d.unitsL).loose.2, x = 0 := by
  obtain ⟨r, hr⟩ : ∃ r, r = d.restart d.changes.length d.unitsL := ⟨_, rfl⟩
  rw [← hr]
  have ht : d.changes.take (max (d.changes.length : Int) 0).toNat = d.changes := List.take_of_length_le (by omega)
  have e1 : r.names = chs d.changes d.safe := by rw [hr]; unfold Dm.restart; dsimp only; rw [ht]
  have e2 : r.safe = chs d.changes d.safe := by rw [hr]; unfold Dm.restart; dsimp only; rw [ht]
  have e3 : r.fs = keepAll d.reach (d.reach.map fun i => ((d.file i).units : Int)) d.fs := by rw [hr, unitsL_eq]; rfl
  have e4 : r.changes = [] := by rw [hr]; rfl
  have e5 : r.power = true := by rw [hr]; rfl
  have hlt : ∀ i, (∃ s, lk (chs d.changes d.safe) s = some i) → i < d.fs.length := fun i ⟨s, hs⟩ => by rw [h.rel] at hs; exact h.refs.nm s i hs
  have hfile : ∀ i, (∃ s, lk (chs d.changes d.safe) s = some i) → r.file i = ⟨(d.file i).now, (d.file i).now, []⟩ := fun i hi => by
    obtain ⟨s, hs⟩ := hi
    unfold Dm.file
    rw [e3, keepAll_at (fun i => ((d.file i).units : Int)) i d.reach d.fs (hlt i ⟨s, hs⟩), if_pos (reach_names h.ns (fun c hc => hc) hs)]
    exact keep_all (h.file_at i)
  refine ⟨pict_congr (e5.trans h.pw.symm) (by rw [e1]; exact chs_nodup _ h.ns) h.nn (fun s => by rw [e1, h.rel]) (fun s hs => ?_), by unfold Dm.loose; rw [e4]; rfl, fun x hx => ?_⟩
  · rw [e1] at hs
    obtain ⟨i, hi⟩ := Option.isSome_iff_exists.1 hs
    unfold Dm.bytesOf
    rw [e1, hi, ← h.rel, hi]
    dsimp only
    rw [hfile i ⟨s, hi⟩]
  · unfold Dm.loose at hx
    obtain ⟨i, hi, rfl⟩ := List.mem_map.1 hx
    rcases mem_reach.1 hi with ⟨p, hp, rfl⟩ | ⟨c, hc, -⟩
    · rw [e2] at hp
      have hk := lk_of_mem (chs_nodup d.changes h.ns) (s := p.1) (i := p.2) hp
      rw [hfile p.2 ⟨p.1, hk⟩]; rfl
    · rw [e4] at hc; cases hc
/-- A Restart with zeros leaves what is safe. -/
theorem restart_zero {d : Dm} (hp : Pre d) : (d.restart 0 []).names = d.safe ∧ (∀ s i, lk d.safe s = some i → ((d.restart 0 []).file i).now = (d.file i).safe) ∧ (d.restart 0 []).power = true := by
  refine ⟨rfl, fun s i hs => ?_, rfl⟩
  have hr : i ∈ d.reach := mem_reach.2 (.inl ⟨_, lk_mem hs, rfl⟩)
  show ((keepAll d.reach [] d.fs)[i]?.getD ⟨[], [], []⟩).now = _
  rw [keepAll_zero i _ _ (hp.refs.sf s i hs), if_pos hr, keep_zero]; rfl
/-! Image. -/
def imgStep (l : List (Nm × List UInt8)) (d : Dm) (s : Nm) : Dm :=
  { d with fs := d.fs ++ [⟨(lk l s).getD [], (lk l s).getD [], []⟩], names := ins d.names s d.fs.length, safe := ins d.safe s d.fs.length, used := wrap64 (d.used + (((lk l s).getD []).length : Int)) }
def imgD (space : Int) (l : List (Nm × List UInt8)) (ks : List Nm) : Dm := ks.foldl (imgStep l) (Dm.new space)
theorem imgD_snoc (space : Int) (l : List (Nm × List UInt8)) (ks : List Nm) (s : Nm) : imgD space l (ks ++ [s]) = imgStep l (imgD space l ks) s := by unfold imgD; rw [List.foldl_append]; rfl
/-- An Image's disk. -/
structure Imaged (space : Int) (l : List (Nm × List UInt8)) (ks : List Nm) (d : Dm) : Prop where
  acts : d.acts = 0
  ep : d.epoch = 0
  pw : d.power = true
  pl : d.plan = []
  ch : d.changes = []
  len : d.fs.length = ks.length
  keys : keysOf d.names = ks
  sf : d.safe = d.names
  at_ : ∀ (s : Nm) (i : Nat), lk d.names s = some i → i < d.fs.length ∧ d.file i = ⟨(lk l s).getD [], (lk l s).getD [], []⟩
  fl : ∀ f ∈ d.fs, f.loose = [] ∧ ∃ s, f.now = (lk l s).getD [] ∧ f.safe = (lk l s).getD []
theorem imaged (space : Int) (l : List (Nm × List UInt8)) : ∀ (n : Nat) (ks : List Nm), ks.length = n → ks.Nodup → Imaged space l ks (imgD space l ks) := by
  intro n
  induction n with
  | zero =>
    intro ks hk _
    obtain rfl : ks = [] := List.eq_nil_of_length_eq_zero hk
    exact ⟨rfl, rfl, rfl, rfl, rfl, rfl, rfl, rfl, fun s i h => (by cases h), fun f h => (by cases h)⟩
  | succ n ih =>
    intro ks hk hn
    rcases List.eq_nil_or_concat ks with e | ⟨k0, s, e⟩
    · rw [e] at hk; cases hk
    · rw [List.concat_eq_append] at e
      subst e
      rw [List.length_append] at hk
      rw [List.nodup_append] at hn
      have h := ih k0 (by simpa using hk) hn.1
      rw [imgD_snoc]
      have hns : s ∉ keysOf (imgD space l k0).names := by rw [h.keys]; intro hm; exact hn.2.2 s hm s (by simp) rfl
      have hlen : ((imgD space l k0).fs ++ [(⟨(lk l s).getD [], (lk l s).getD [], []⟩ : Fl)]).length = (imgD space l k0).fs.length + 1 := by rw [List.length_append]; rfl
      refine ⟨h.acts, h.ep, h.pw, h.pl, h.ch, ?_, ?_, ?_, fun t i ht => ?_, fun f hf => ?_⟩
      · show ((imgD space l k0).fs ++ [_]).length = _
        rw [hlen, h.len, List.length_append]; rfl
      · show keysOf (ins (imgD space l k0).names s _) = _
        rw [keys_ins, if_neg hns, h.keys]
      · show ins (imgD space l k0).safe s _ = ins (imgD space l k0).names s _
        rw [h.sf]
      · have ht : lk (ins (imgD space l k0).names s (imgD space l k0).fs.length) t = some i := ht
        rw [lk_ins] at ht
        show i < ((imgD space l k0).fs ++ [_]).length ∧ (((imgD space l k0).fs ++ [_])[i]?.getD ⟨[], [], []⟩) = _
        rw [hlen]
        by_cases e : t = s
        · rw [if_pos e] at ht
          cases ht
          refine ⟨by omega, ?_⟩
          rw [List.getElem?_append_right (Nat.le_refl _), Nat.sub_self, e]; rfl
        · rw [if_neg e] at ht
          obtain ⟨h1, h2⟩ := h.at_ t i ht
          refine ⟨by omega, ?_⟩
          rw [List.getElem?_append_left h1]; exact h2
      · have hf : f ∈ (imgD space l k0).fs ++ [(⟨(lk l s).getD [], (lk l s).getD [], []⟩ : Fl)] := hf
        rcases List.mem_append.1 hf with h1 | h1
        · exact h.fl f h1
        · rw [List.mem_singleton.1 h1]; exact ⟨rfl, s, rfl, rfl⟩
theorem lk_kept (d : Dm) (s : Nm) : lk d.kept s = (lk d.safe s).map fun i => (d.file i).safe := by
  unfold Dm.kept
  generalize d.safe = m
  induction m with
  | nil => rfl
  | cons p r ih =>
    obtain ⟨k, i⟩ := p
    simp only [List.map_cons, lk]
    split
    · rfl
    · exact ih
theorem keys_kept (d : Dm) : keysOf d.kept = keysOf d.safe := by unfold Dm.kept keysOf; rw [List.map_map]; rfl
theorem image_kept {S N C : Nat} {d : Dm} (h : Inv S N C d) (hS : S ≤ 10000000) (hN : N ≤ 1000000000000) (hC : C ≤ 1000000000000) (ha : d.acts ≤ 1000000000000) (ks : List Nm) (hk : ks = (keysOf d.kept).mergeSort fun x y => decide (x ≤ y)) (sp : Int) :
    (d.restart 0 []).pict = (imgD sp d.kept ks).pict ∧ Calm (imgD sp d.kept ks) ∧ (imgD sp d.kept ks).epoch = 0 ∧ (imgD sp d.kept ks).acts = 0 := by
  have hp := h.pre hS hN hC ha
  have hnd : ks.Nodup := by rw [hk]; exact (List.mergeSort_perm _ _).nodup_iff.2 (by rw [keys_kept]; exact h.ns)
  have hm := imaged sp d.kept ks.length ks rfl hnd
  obtain ⟨z1, z2, z3⟩ := restart_zero hp
  have hkm : ∀ s, s ∈ ks ↔ (lk d.safe s).isSome = true := fun s => by rw [hk, (List.mergeSort_perm _ _).mem_iff, keys_kept, lk_some]
  have hkl : ks.length = d.safe.length := by
    rw [hk, List.length_mergeSort, keys_kept]; simp [keysOf]
  have hbd : ∀ s, ((lk d.kept s).getD []).length ≤ 10000000 := fun s => by
    rw [lk_kept]
    cases lk d.safe s with
    | none => simp
    | some i => have := (h.file_at i).safe; show (d.file i).safe.length ≤ _; omega
  obtain ⟨e, he⟩ : ∃ e, e = imgD sp d.kept ks := ⟨_, rfl⟩
  rw [← he] at hm ⊢
  have hlk : ∀ s, (lk e.names s).isSome = (lk d.safe s).isSome := fun s => by
    have h1 : (lk e.names s).isSome = true ↔ (lk d.safe s).isSome = true := by rw [lk_some, hm.keys, hkm]
    cases h2 : (lk e.names s).isSome <;> cases h3 : (lk d.safe s).isSome <;> simp_all
  have hen : (keysOf e.names).Nodup := by rw [hm.keys]; exact hnd
  have hel : e.names.length = d.safe.length := by have h1 := congrArg List.length hm.keys; rw [hkl] at h1; simpa [keysOf] using h1
  have hfew := h.fewS
  refine ⟨pict_congr (z3.trans hm.pw.symm) (by rw [z1]; exact h.ns) hen (fun s => by rw [z1, hlk]) (fun s hs => ?_), ⟨⟨⟨fun s i hi => (hm.at_ s i hi).1, fun s i hi => (by rw [hm.sf] at hi; exact (hm.at_ s i hi).1), fun c hc => (by rw [hm.ch] at hc; cases hc)⟩, hen, by rw [hm.sf]; exact hen, by omega, by rw [hm.sf]; omega, by rw [hm.acts]; decide, by rw [hm.ep]; decide, by rw [hm.len, hkl]; omega, by rw [hm.ch]; decide, fun s hs => ?_, fun f hf => ?_⟩, fun i hi => ?_⟩, hm.ep, hm.acts⟩
  · rw [z1] at hs
    obtain ⟨i, hi⟩ := Option.isSome_iff_exists.1 hs
    obtain ⟨j, hj⟩ := Option.isSome_iff_exists.1 ((hlk s).trans hs)
    unfold Dm.bytesOf
    rw [z1, hi, hj]
    dsimp only
    rw [z2 s i hi, (hm.at_ s j hj).2, lk_kept, hi]; rfl
  · obtain ⟨j, hj⟩ := lk_isSome hs
    obtain ⟨i, hi⟩ := Option.isSome_iff_exists.1 ((hlk s).symm.trans (by rw [hj]; rfl))
    exact h.legS s i hi
  · obtain ⟨h1, s, h2, h3⟩ := hm.fl f hf
    have := hbd s
    rw [h1, h2, h3]
    exact ⟨by omega, by omega, by decide⟩
  · unfold Dm.file
    rw [List.getElem?_eq_getElem hi]
    have h1 := (hm.fl _ (List.getElem_mem hi)).1
    show (e.fs[i]).units ≤ _
    unfold Fl.units
    rw [h1]; exact Nat.zero_le _
end Go.Proofs.YteoggphafhcchaaGreat
