import Derived.Test.YteoggphafhcchaaGreatV1
namespace Go.Proofs.YteoggphafhcchaaGreat
open Go Go.RowKit Go.Shelf Go.Maps Go.Sort
set_option maxRecDepth 100000
set_option maxHeartbeats 2000000
set_option linter.unusedVariables false
set_option linter.unusedSimpArgs false
attribute [local go_sem] Oper.semAt_some
set_option maxRecDepth 100000 in
theorem collect1_in (w : World) (Bm b nn : Nat) (D0 : DataW Unit) (hBm : Bm < w.heap.size) (hm : w.cell? ⟨Bm, 0, none⟩ = some (.map (some b))) (hown : w.ownsMap Tryz.prog 9 ptrR b nn D0) (hN : Maps.size D0 ≤ 1099511627776) :
    CallsIn Fence.wide 3 Tryz.prog 74 #[.slice none 0 0, .func (.func 75) #[] #[.pointer (some ⟨Bm, 0, none⟩)]] w fun e W' => ∃ v xs, e = .returned v ∧ ValsOf D0 xs ∧ W'.ownsRow w.heap.size 76 1 v xs.length (xs.map encP) ∧ Below w.heap.size w W' := by
  obtain ⟨i0, hi, hz0, hz1, hz2⟩ := info_parts info76
  refine callsIn_of_wp_marks Tryz.func74 rfl trivial ?_ rfl
  simp only [Tryz.ntmps74, List.size_toArray, List.length_cons, List.length_nil, Nat.reduceAdd, Nat.reduceSub, Array.replicate_succ, Array.replicate_zero, List.push_toArray, List.append_toArray, List.nil_append, List.cons_append]
  gi_wp2
  have bO := Boxed.new w 74 (.slice none 0 0)
  have hB0 : Below w.heap.size w (w.alloc (.cells #[.slice none 0 0] 74)) := (Below.refl _ w).alloc (Nat.le_refl _) _
  have hm0 := (hB0.cell (p := ⟨Bm, 0, none⟩) hBm).trans hm
  refine wpIn_rangeFunc_ownF (n := 3) (F := Fence.wide) rfl (by omega) (gf := 75) (lb := #[.pointer (some ⟨Bm, 0, none⟩)]) rfl trivial (enters_of Tryz.func75 (by kernel_rfl) rfl)
    (vals_stops Bm b nn D0 _ (by simp; omega) hm0 (hown.alloc _)) walksK_t walksK_b (Below.refl _ _) (fun _ => rfl)
    (fun (pre : List (Option Nat)) W => (∃ v, Boxed W w.heap.size 74 v ∧ W.ownsRow w.heap.size 76 1 v pre.length (pre.map encP) ∧ True) ∧ Below w.heap.size w W)
    (fun _ _ _ => False)
    (OwnFrom.and (Own.from (holdsRow_own w.heap.size w.heap.size 74 76 1 (fun (pre : List (Option Nat)) => pre.length) (fun pre => pre.map encP) (fun pre v => True)) _) (ownFrom_below (Nat.le_refl _) (by simp)))
    (fun _ _ _ _ _ hs _ _ => hs)
    ⟨⟨_, bO, World.ownsRow_nil _ _ _ _, trivial⟩, hB0⟩ ?a1 ?assign ?body ?done ?stop
  case assign =>
    intro l x W K hK
    gi_wp2
    exact hK
  case body =>
    rintro l pre x W ⟨⟨v, hv, hrow, -⟩, hB⟩ hlt
    have hc := hv.cell
    obtain ⟨px, he⟩ : ∃ px : Option Addr, encP x = .pointer px := ⟨_, rfl⟩
    have HE := Lib.hid he
    rw [he]
    clear he
    gi_wp2_with (gi_at_builtin; refine wpListIn_append_own _ rfl _ _ 74 rfl w.heap.size 76 i0 (.pointer none) 1 8 Tryz.underlying74 hi hz0 hz1 hz2 rfl (by decide) _ _ _ rfl (hrow.alloc _) ⟨W.heap.size, 0, none⟩ 1 1 [.pointer px] rfl rfl (cell_one_new _ _ _) (by simp [Value.oneCell']) (by unfold maxLen; omega) (by omega) (by have := hB.size; simp; omega) ?_; intro v' w1 hown' hgrow _; obtain ⟨g', cap', rfl⟩ := ownsRow_succ hown'; obtain ⟨hv1, hv2, hr2, hk2, hb2⟩ := hv.appended (by decide) hrow hB.size (Nat.le_refl _) hown' hgrow; have hc1 := hv1.cell; have hf1 := hv1.frozen)
    exact ⟨hk2, hk2.walks, ⟨_, hv2, by rw [List.map_append, List.map_cons, List.map_nil, HE.out, List.length_append]; exact hr2, trivial⟩, hB.trans hb2⟩
  case done =>
    rintro D ys W hD hys ⟨⟨v, hv, hrow, -⟩, hB⟩ hK
    have hc := hv.cell
    gi_wp2
    refine ⟨by simp, .inl ⟨_, _, rfl, run_takeDeferred hK, ?_⟩⟩
    exact ⟨_, results_tmp rfl _ _ _, v, ys, rfl, hys, ownsRow_putObj hrow _ hK rfl, hB.trans (belowK_b (w := w) (Nat.le_refl _) W D _ _ (by simp at hD; omega) hK rfl rfl)⟩
  case stop =>
    rintro D c pre W _ _ h _
    exact h.elim
theorem collect_any (w : World) (Bm b nn : Nat) (D0 : DataW Unit) (hBm : Bm < w.heap.size) (hm : w.cell? ⟨Bm, 0, none⟩ = some (.map (some b))) (hown : w.ownsMap Tryz.prog 9 ptrR b nn D0) (hN : Maps.size D0 ≤ 1099511627776) :
    CallsIn Fence.wide 4 Tryz.prog 56 #[.func (.func 75) #[] #[.pointer (some ⟨Bm, 0, none⟩)]] w fun e W' => ∃ v xs, e = .returned v ∧ ValsOf D0 xs ∧ W'.ownsRow w.heap.size 76 1 v xs.length (xs.map encP) ∧ Below w.heap.size w W' := by
  refine callsIn_of_wp Tryz.func56 rfl trivial ?_ rfl
  simp only [Tryz.ntmps56, List.size_toArray, List.length_cons, List.length_nil, Nat.reduceAdd, Nat.reduceSub, Array.replicate_succ, Array.replicate_zero, List.push_toArray, List.append_toArray, List.nil_append, List.cons_append]
  have hf : Fence.wide.fn 74 := trivial
  gi_wp2_with (gi_at_call 74; refine (collect1_in w Bm b nn D0 hBm hm hown hN).mono ?_; rintro e w' ⟨v, xs, rfl, hx⟩)
  go_ret
  exact ⟨_, xs, rfl, hx⟩
end Go.Proofs.YteoggphafhcchaaGreat
