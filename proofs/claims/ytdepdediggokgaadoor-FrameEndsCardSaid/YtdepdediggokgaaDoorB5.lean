import Derived.Test.YtdepdediggokgaaDoorB4
namespace Go.Proofs.YtdepdediggokgaaDoor
open Go.RowKit
set_option linter.unusedVariables false
/-- What Pack answers. -/
def packR (n : Int) (p : List UInt8) : List UInt8 × Nat :=
  if n < 0 ∨ 1099511627776 ≤ n then ([], 1) else if 65536 < p.length then ([], 6) else (packL n.toNat p, 0)
theorem pack_all (w : World) (n : Int) (a : Option Addr) (m c : Nat) (p : List UInt8) (h : R8 w a m c p) (ht : HalfTab w) (h0 : 0 < w.heap.size) (l : List UInt8) (e : Nat) (hr : packR n p = (l, e)) :
    Calls Tryd.prog 16 #[.int .i64 n, .slice a m c] w fun x w' => ∃ a' m' c', x = .returned (.tuple #[.slice a' m' c', .int .i64 (e : Int)]) ∧ m' = l.length ∧ w'.ownsRow w.heap.size 5 1 (.slice a' m' c') m' (l.map b8) ∧ Below w.heap.size w w' := by
  unfold packR at hr
  have hl := h.1
  have hm := h.2.2.1
  by_cases c1 : n < 0 ∨ 1099511627776 ≤ n
  · rw [if_pos c1] at hr
    obtain ⟨rfl, rfl⟩ := Prod.mk.inj hr
    exact (pack_arg w n c1 a m c).mono fun _ _ ⟨he, hw⟩ => ⟨none, 0, 0, he, rfl, hw ▸ World.ownsRow_nil _ _ _ _, hw ▸ Below.refl _ _⟩
  · rw [if_neg c1] at hr
    by_cases c2 : 65536 < p.length
    · rw [if_pos c2] at hr
      obtain ⟨rfl, rfl⟩ := Prod.mk.inj hr
      exact (pack_long w n (by omega) (by omega) a m c (by omega) hm).mono fun _ _ ⟨he, hw⟩ => ⟨none, 0, 0, he, rfl, hw ▸ World.ownsRow_nil _ _ _ _, hw ▸ Below.refl _ _⟩
    · rw [if_neg c2] at hr
      obtain ⟨rfl, rfl⟩ := Prod.mk.inj hr
      have := pack_ok w n.toNat (by omega) a m c p h (by omega) ht h0
      rwa [show ((n.toNat : Nat) : Int) = n by omega] at this
theorem refpack_all (w : World) (n : Int) (a : Option Addr) (m c : Nat) (p : List UInt8) (h : R8 w a m c p) (l : List UInt8) (e : Nat) (hr : packR n p = (l, e)) :
    Calls Tryd.prog 15 #[.int .i64 n, .slice a m c] w fun x w' => ∃ a' m' c', x = .returned (.tuple #[.slice a' m' c', .int .i64 (e : Int)]) ∧ m' = l.length ∧ w'.ownsRow w.heap.size 5 1 (.slice a' m' c') m' (l.map b8) ∧ Below w.heap.size w w' := by
  unfold packR at hr
  have hl := h.1
  have hm := h.2.2.1
  by_cases c1 : n < 0 ∨ 1099511627776 ≤ n
  · rw [if_pos c1] at hr
    obtain ⟨rfl, rfl⟩ := Prod.mk.inj hr
    exact (refpack_arg w n c1 a m c).mono fun _ _ ⟨he, hw⟩ => ⟨none, 0, 0, he, rfl, hw ▸ World.ownsRow_nil _ _ _ _, hw ▸ Below.refl _ _⟩
  · rw [if_neg c1] at hr
    by_cases c2 : 65536 < p.length
    · rw [if_pos c2] at hr
      obtain ⟨rfl, rfl⟩ := Prod.mk.inj hr
      exact (refpack_long w n (by omega) (by omega) a m c (by omega) hm).mono fun _ _ ⟨he, hw⟩ => ⟨none, 0, 0, he, rfl, hw ▸ World.ownsRow_nil _ _ _ _, hw ▸ Below.refl _ _⟩
    · rw [if_neg c2] at hr
      obtain ⟨rfl, rfl⟩ := Prod.mk.inj hr
      have := refpack_ok w n.toNat (by omega) a m c p h (by omega)
      rwa [show ((n.toNat : Nat) : Int) = n by omega] at this
theorem packR_len (n : Int) (p l : List UInt8) (e : Nat) (h : packR n p = (l, e)) : l.length ≤ 65549 := by
  unfold packR at h
  split at h
  · obtain ⟨rfl, -⟩ := Prod.mk.inj h; simp
  · split at h
    · obtain ⟨rfl, -⟩ := Prod.mk.inj h; simp
    · obtain ⟨rfl, -⟩ := Prod.mk.inj h
      simp [packL, be_len]; omega

def flip255 (c : UInt8) : UInt8 := c ^^^ 255
@[go_sem] theorem xor_255 (c : UInt8) : bits .xor .u8 (c.toNat : Int) 255 = ((flip255 c).toNat : Int) := by
  have : ∀ x : Fin 256, bits .xor .u8 ((UInt8.ofNat x.val).toNat : Int) 255 = ((flip255 (UInt8.ofNat x.val)).toNat : Int) := by decide +kernel
  have h := this ⟨c.toNat, c.toNat_lt⟩
  simpa using h
/-- Written over from a place on, up to another. -/
def turnL (l : List UInt8) (k m : Nat) : List UInt8 := l.mapIdx fun i c => if k ≤ i ∧ i < m then flip255 c else c
theorem turnL_len (l : List UInt8) (k m : Nat) : (turnL l k m).length = l.length := by simp [turnL]
theorem turnL_none (l : List UInt8) (k : Nat) : turnL l k k = l := by
  apply List.ext_getElem?
  intro i
  simp [turnL]
  have : ∀ c : UInt8, (if k ≤ i ∧ i < k then flip255 c else c) = c := fun c => if_neg (by omega)
  simp [this]
theorem turnL_step (l : List UInt8) (k m : Nat) (c : UInt8) (hk : k ≤ m) (h : (turnL l k m)[m]? = some c) : (turnL l k m).set m (flip255 c) = turnL l k (m + 1) := by
  apply List.ext_getElem?
  intro i
  have hc : l[m]? = some c := by
    simp only [turnL, List.getElem?_mapIdx] at h
    have hi : ∀ c : UInt8, (if k ≤ m ∧ m < m then flip255 c else c) = c := fun c => if_neg (by omega)
    simp only [hi] at h
    cases hl : l[m]? with
    | none => rw [hl] at h; simp at h
    | some x => rw [hl] at h; simp at h; rw [h]
  by_cases e : i = m
  · subst e
    rw [List.getElem?_set_self (by rw [turnL_len]; exact (List.getElem?_eq_some_iff.1 hc).1)]
    simp [turnL, hc, hk]
  · rw [List.getElem?_set_ne (by omega)]
    simp only [turnL, List.getElem?_mapIdx]
    congr 1
    funext x
    by_cases q : k ≤ i ∧ i < m
    · rw [if_pos q, if_pos (by omega)]
    · rw [if_neg q, if_neg (by omega)]

set_option maxHeartbeats 1000000 in
theorem turned_any (w : World) (B g N C m k : Nat) (xs : List UInt8) (ho : w.ownsRow B 5 1 (.slice (some ⟨g, 0, none⟩) N C) N (xs.map b8)) (hm : m ≤ N) (hN : N ≤ 140737488355328) (hk : k ≤ m) :
    Calls Tryd.prog 19 #[.slice (some ⟨g, 0, none⟩) m C, .int .i64 k] w fun e w' => ∃ a c, e = .returned (.slice a m c) ∧ w'.ownsRow w.heap.size 5 1 (.slice a m c) m (((turnL xs k m).take m).map b8) ∧
      w'.ownsRow B 5 1 (.slice (some ⟨g, 0, none⟩) N C) N ((turnL xs k m).map b8) ∧ w.grownBy w' (some g) := by
  have hlen : xs.length = N := by have := ho.1; simpa using this
  have HLen := Lib.hid hlen
  go_enter Tryd.func19, Tryd.ntmps19
  go_wp2
  go_loopw [5] (fun x wr => ∃ j : Nat, k ≤ j ∧ j ≤ m ∧ x = .int .i64 j ∧ wr.ownsRow B 5 1 (.slice (some ⟨g, 0, none⟩) N C) N ((turnL xs k j).map b8) ∧ w.grownBy wr (some g) ∧ w.heap.size = wr.heap.size) (fun x _ => m - (intOf x).toNat)
  case atStart => exact ⟨k, by omega, by omega, rfl, by rw [turnL_none]; exact ho, ⟨rfl, rfl, rfl, Nat.le_refl _, fun _ _ _ => rfl⟩, rfl⟩
  case round =>
    obtain ⟨j, hkj, hj, rfl, ho2, hg, hz⟩ := hrel
    clear ho hlen
    have HO := Lib.hid ho2
    have HG := Lib.hid hg
    by_cases hlt : j < m
    · have hc := ho2.cellAt j (by omega)
      have hf := ho2.frozenAt j
      rw [List.getElem?_map, List.getElem?_eq_getElem (by rw [turnL_len]; have := HLen.out; omega)] at hc
      simp only [Option.map_some, b8] at hc
      obtain ⟨c, hcc⟩ : ∃ c, (turnL xs k j)[j]? = some c := ⟨_, List.getElem?_eq_getElem (by rw [turnL_len]; have := HLen.out; omega)⟩
      have e := (List.getElem?_eq_some_iff.1 hcc).2
      rw [e] at hc
      have ho' := (HO.out.stored j (.int .u8 ((flip255 c).toNat : Int))).1
      rw [set_b8, turnL_step _ _ _ _ hkj hcc] at ho'
      have HO' := Lib.hid ho'
      have hgs : wr.grownBy (wr.setCell ⟨g, j, none⟩ (.int .u8 ((flip255 c).toNat : Int))) (some g) := ⟨rfl, rfl, rfl, by simp, fun k _ hk => heap_setCell_other wr ⟨g, j, none⟩ k _ (fun e => hk (by simp [e]))⟩
      have HGS := Lib.hid (HG.out.trans hgs)
      clear ho' hgs hcc e ho2 hg
      go_wp2
      go_roundw
      case rel => exact ⟨j + 1, by omega, by omega, by go_num, HO'.out, HGS.out, by simpa using hz⟩
      case measure => simp [intOf]; omega
    · obtain rfl : j = m := by omega
      have r2 := (R8.of_owns HO.out (by omega)).take j (by omega)
      have hlt2 := (ho2.lt g rfl).2
      clear ho2 hg
      go_wp2_with (first
        | (at_builtin; refine L_append8 rfl _ _ _ rfl sl22 w.heap.size (.slice none 0 0) 0 [] rfl (World.ownsRow_nil _ _ _ _) _ j _ _ rfl r2 (by omega) (by simp [maxLen]; omega) (by omega) (fun a2 c2 w2 ho2 hg2 hat2 => ?_)))
      go_ret
      simp only [Nat.zero_add, List.nil_append] at ho2 ⊢
      refine ⟨_, _, rfl, ho2, HO.out.kept hg2 (.inr (by simp [Value.ownBlock])), HG.out.trans ⟨hg2.os, hg2.tape, hg2.output, hg2.size, fun k hk _ => hg2.block k hk (by simp [Value.ownBlock])⟩⟩
end Go.Proofs.YtdepdediggokgaaDoor
