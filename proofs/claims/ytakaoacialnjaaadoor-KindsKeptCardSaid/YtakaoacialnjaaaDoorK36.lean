import Derived.Test.YtakaoacialnjaaaDoorK17
namespace Go.Proofs.YtakaoacialnjaaaDoor
open Go Go.RowKit
set_option linter.unusedVariables false
theorem take_both {l m : List (Int × Bool)} {k : Nat} {x y : Int × Bool} (hx : l[k]? = some x) (hy : m[k]? = some y) (h : l.take k = m.take k) (e : x = y) : l.take (k + 1) = m.take (k + 1) := by
  rw [List.take_add_one, List.take_add_one, hx, hy, h, e]
theorem ne_at {l m : List (Int × Bool)} {k : Nat} {x y : Int × Bool} (hx : l[k]? = some x) (hy : m[k]? = some y) (e : x ≠ y) : decide (l = m) = false := by
  refine decide_eq_false fun h => e ?_
  rw [h] at hx; rw [hx] at hy; exact Option.some.inj hy
set_option maxRecDepth 100000 in
set_option maxHeartbeats 4000000 in
theorem alike_any (w : World) (a : Option Addr) (n c : Nat) (xs : List (Int × Bool)) (hx : RS 2 Kd w a n c xs) (b : Option Addr) (m d : Nat) (ys : List (Int × Bool)) (hy : RS 2 Kd w b m d ys) :
    Calls Tryd.prog 23 #[.slice a n c, .slice b m d] w fun e w' => e = .returned (.bool (decide (xs = ys))) ∧ Below w.heap.size w w' := by
  have hlx := hx.1
  have hly := hy.1
  have hn48 := hx.2.2.1
  have HX := Lib.hid hx
  have HY := Lib.hid hy
  clear hx hy
  go_enter Tryd.func23, Tryd.ntmps23
  by_cases hnm : n = m
  · subst hnm
    go_wp2_with fail
    go_loopw [5] (fun i wr => ∃ k : Nat, k ≤ n ∧ i = .int .i64 k ∧ Below w.heap.size w wr ∧ xs.take k = ys.take k) (fun i _ => n - (intOf i).toNat)
    case atStart => exact ⟨0, by omega, rfl, Below.refl _ _, rfl⟩
    case round =>
      obtain ⟨k, hk, rfl, hb, hs⟩ := hrel
      have HB := Lib.hid hb
      have HS := Lib.hid hs
      clear hb hs
      by_cases hlt : k < n
      · obtain ⟨xa, xo, ⟨xb, xq⟩, rfl, hx, hcx⟩ := HX.out.at hlt
        obtain ⟨ya, yo, ⟨yb, yq⟩, rfl, hy, hcy⟩ := HY.out.at hlt
        have x0 := (HB.out.cell (p := ⟨xa, xo + k * 2 + 0, none⟩) (block_lt_of_cell (hcx 0 _ rfl))).trans (hcx 0 _ rfl)
        have x1 := (HB.out.cell (p := ⟨xa, xo + k * 2 + 1, none⟩) (block_lt_of_cell (hcx 1 _ rfl))).trans (hcx 1 _ rfl)
        have y0 := (HB.out.cell (p := ⟨ya, yo + k * 2 + 0, none⟩) (block_lt_of_cell (hcy 0 _ rfl))).trans (hcy 0 _ rfl)
        have y1 := (HB.out.cell (p := ⟨ya, yo + k * 2 + 1, none⟩) (block_lt_of_cell (hcy 1 _ rfl))).trans (hcy 1 _ rfl)
        simp only [Nat.add_zero] at x0 y0
        have HX1 := Lib.hid hx
        have HY1 := Lib.hid hy
        have hltI : (k : Int) < (n : Int) := by omega
        clear hx hy hcx hcy
        cases he : (xb == yb)
        · have he2 : (xb != yb) = true := by simpa using he
          have HN := Lib.hid (ne_at HX1.out HY1.out (fun e => by simp at he; exact he (congrArg Prod.fst e)))
          go_wp2
          go_region
          all_goals go_wp2
          all_goals go_ret
          all_goals exact ⟨ret_bool HN.out.symm, HB.out.drew⟩
        · have e0 : xb = yb := by simpa using he
          subst e0
          clear he
          cases hq : (xq == yq)
          · have hq2 : (xq != yq) = true := by simpa using hq
            have HN := Lib.hid (ne_at HX1.out HY1.out (fun e => by simp at hq; exact hq (congrArg Prod.snd e)))
            go_wp2
            go_region
            all_goals go_wp2
            all_goals go_ret
            all_goals exact ⟨ret_bool HN.out.symm, HB.out.drew⟩
          · have e1 : xq = yq := by simpa using hq
            subst e1
            clear hq
            have HN := Lib.hid (take_both HX1.out HY1.out HS.out rfl)
            go_wp2
            go_region
            go_wp2
            go_roundw
            case rel => exact ⟨k + 1, by omega, by go_num, HB.out.drew, HN.out⟩
            case measure => simp [intOf]; omega
      · have hltI : ¬ (k : Int) < (n : Int) := by omega
        have HE := Lib.hid (show decide (xs = ys) = true by
          have := HS.out
          rw [List.take_of_length_le (by omega), List.take_of_length_le (by omega)] at this
          exact decide_eq_true this)
        go_wp2
        go_ret
        exact ⟨ret_bool HE.out.symm, HB.out⟩
  · have hnI : ((n : Int) != (m : Int)) = true := by simp; omega
    have HE := Lib.hid (show decide (xs = ys) = false from decide_eq_false fun h => hnm (by rw [← hlx, ← hly, h]))
    go_wp2
    go_ret
    exact ⟨ret_bool HE.out.symm, Below.refl _ _⟩
end Go.Proofs.YtakaoacialnjaaaDoor
