import Derived.Test.YtakaoacialnjaaaDoorK47
import Derived.Test.YtakaoacialnjaaaDoorK41
namespace Go.Proofs.YtakaoacialnjaaaDoor
open Go Go.RowKit
set_option linter.unusedVariables false
set_option linter.unusedSimpArgs false
theorem Iv_len (x : Int) : (Iv x).length = 1 := rfl
theorem Sv_len (x : ByteArray) : (Sv x).length = 1 := rfl
theorem Nm_len2 (x : Nm) : x.cs.length = 3 := rfl
theorem sl45 : Sl Tryd.prog 45 9 (.string ByteArray.empty) 1 16 := ⟨by kernel_rfl, by kernel_rfl, rfl, by decide⟩
set_option maxRecDepth 100000 in
set_option maxHeartbeats 4000000 in
theorem same_I (w : World) (a : Option Addr) (n c : Nat) (xs : List (Int)) (hx : RS 1 Iv w a n c xs) (b : Option Addr) (d : Nat) (hy : RS 1 Iv w b n d xs) :
    Calls Tryd.prog 58 #[.slice a n c, .slice b n d] w fun e w' => e = .returned (.bool true) ∧ Below w.heap.size w w' := by
  have hlx := hx.1
  have hn48 := hx.2.2.1
  have HX := Lib.hid hx
  have HY := Lib.hid hy
  clear hx hy
  go_enter Tryd.func58, Tryd.ntmps58
  go_wp2_with fail
  go_loopw [5] (fun i wr => ∃ k : Nat, k ≤ n ∧ i = .int .i64 k ∧ Below w.heap.size w wr) (fun i _ => n - (intOf i).toNat)
  case atStart => exact ⟨0, by omega, rfl, Below.refl _ _⟩
  case round =>
    obtain ⟨k, hk, rfl, hb⟩ := hrel
    have HB := Lib.hid hb
    clear hb
    by_cases hlt : k < n
    · obtain ⟨xa, xo, x, rfl, hx, hcx⟩ := HX.out.at hlt
      obtain ⟨ya, yo, y, rfl, hy, hcy⟩ := HY.out.at hlt
      obtain rfl : x = y := Option.some.inj (hx.symm.trans hy)
      have x0 := (HB.out.cell (p := ⟨xa, xo + k * 1 + 0, none⟩) (block_lt_of_cell (hcx 0 _ rfl))).trans (hcx 0 _ rfl)
      have y0 := (HB.out.cell (p := ⟨ya, yo + k * 1 + 0, none⟩) (block_lt_of_cell (hcy 0 _ rfl))).trans (hcy 0 _ rfl)
      simp only [Nat.add_zero, Nat.mul_one] at x0 y0
      have hltI : (k : Int) < (n : Int) := by omega
      clear hx hy hcx hcy
      go_wp2
      go_region
      go_wp2
      go_roundw
      case rel => exact ⟨k + 1, by omega, by go_num, HB.out.drew⟩
      case measure => simp [intOf]; omega
    · have hltI : ¬ (k : Int) < (n : Int) := by omega
      go_wp2
      go_ret
      exact ⟨rfl, HB.out⟩
set_option maxRecDepth 100000 in
set_option maxHeartbeats 4000000 in
theorem same_S (w : World) (a : Option Addr) (n c : Nat) (xs : List (ByteArray)) (hx : RS 1 Sv w a n c xs) (b : Option Addr) (d : Nat) (hy : RS 1 Sv w b n d xs) :
    Calls Tryd.prog 59 #[.slice a n c, .slice b n d] w fun e w' => e = .returned (.bool true) ∧ Below w.heap.size w w' := by
  have hlx := hx.1
  have hn48 := hx.2.2.1
  have HX := Lib.hid hx
  have HY := Lib.hid hy
  clear hx hy
  go_enter Tryd.func59, Tryd.ntmps59
  go_wp2_with fail
  go_loopw [5] (fun i wr => ∃ k : Nat, k ≤ n ∧ i = .int .i64 k ∧ Below w.heap.size w wr) (fun i _ => n - (intOf i).toNat)
  case atStart => exact ⟨0, by omega, rfl, Below.refl _ _⟩
  case round =>
    obtain ⟨k, hk, rfl, hb⟩ := hrel
    have HB := Lib.hid hb
    clear hb
    by_cases hlt : k < n
    · obtain ⟨xa, xo, x, rfl, hx, hcx⟩ := HX.out.at hlt
      obtain ⟨ya, yo, y, rfl, hy, hcy⟩ := HY.out.at hlt
      obtain rfl : x = y := Option.some.inj (hx.symm.trans hy)
      have x0 := (HB.out.cell (p := ⟨xa, xo + k * 1 + 0, none⟩) (block_lt_of_cell (hcx 0 _ rfl))).trans (hcx 0 _ rfl)
      have y0 := (HB.out.cell (p := ⟨ya, yo + k * 1 + 0, none⟩) (block_lt_of_cell (hcy 0 _ rfl))).trans (hcy 0 _ rfl)
      simp only [Nat.add_zero, Nat.mul_one] at x0 y0
      have hltI : (k : Int) < (n : Int) := by omega
      clear hx hy hcx hcy
      go_wp2
      go_region
      go_wp2
      go_roundw
      case rel => exact ⟨k + 1, by omega, by go_num, HB.out.drew⟩
      case measure => simp [intOf]; omega
    · have hltI : ¬ (k : Int) < (n : Int) := by omega
      go_wp2
      go_ret
      exact ⟨rfl, HB.out⟩
set_option maxRecDepth 100000 in
set_option maxHeartbeats 4000000 in
theorem same_N (w : World) (a : Option Addr) (n c : Nat) (xs : List (Nm)) (hx : RS 3 Nm.cs w a n c xs) (b : Option Addr) (d : Nat) (hy : RS 3 Nm.cs w b n d xs) :
    Calls Tryd.prog 47 #[.slice a n c, .slice b n d] w fun e w' => e = .returned (.bool true) ∧ Below w.heap.size w w' := by
  have hlx := hx.1
  have hn48 := hx.2.2.1
  have HX := Lib.hid hx
  have HY := Lib.hid hy
  clear hx hy
  go_enter Tryd.func47, Tryd.ntmps47
  go_wp2_with fail
  go_loopw [5] (fun i wr => ∃ k : Nat, k ≤ n ∧ i = .int .i64 k ∧ Below w.heap.size w wr) (fun i _ => n - (intOf i).toNat)
  case atStart => exact ⟨0, by omega, rfl, Below.refl _ _⟩
  case round =>
    obtain ⟨k, hk, rfl, hb⟩ := hrel
    have HB := Lib.hid hb
    clear hb
    by_cases hlt : k < n
    · obtain ⟨xa, xo, x, rfl, hx, hcx⟩ := HX.out.at hlt
      obtain ⟨ya, yo, y, rfl, hy, hcy⟩ := HY.out.at hlt
      obtain rfl : x = y := Option.some.inj (hx.symm.trans hy)
      obtain ⟨xn, xq, xp⟩ := x
      have x0 := (HB.out.cell (p := ⟨xa, xo + k * 3 + 0, none⟩) (block_lt_of_cell (hcx 0 _ rfl))).trans (hcx 0 _ rfl)
      have x1 := (HB.out.cell (p := ⟨xa, xo + k * 3 + 1, none⟩) (block_lt_of_cell (hcx 1 _ rfl))).trans (hcx 1 _ rfl)
      have x2 := (HB.out.cell (p := ⟨xa, xo + k * 3 + 2, none⟩) (block_lt_of_cell (hcx 2 _ rfl))).trans (hcx 2 _ rfl)
      have y0 := (HB.out.cell (p := ⟨ya, yo + k * 3 + 0, none⟩) (block_lt_of_cell (hcy 0 _ rfl))).trans (hcy 0 _ rfl)
      have y1 := (HB.out.cell (p := ⟨ya, yo + k * 3 + 1, none⟩) (block_lt_of_cell (hcy 1 _ rfl))).trans (hcy 1 _ rfl)
      have y2 := (HB.out.cell (p := ⟨ya, yo + k * 3 + 2, none⟩) (block_lt_of_cell (hcy 2 _ rfl))).trans (hcy 2 _ rfl)
      simp only [Nat.add_zero, Nat.mul_one] at x0 y0
      have hltI : (k : Int) < (n : Int) := by omega
      clear hx hy hcx hcy
      go_wp2
      go_region
      go_wp2
      go_roundw
      case rel => exact ⟨k + 1, by omega, by go_num, HB.out.drew⟩
      case measure => simp [intOf]; omega
    · have hltI : ¬ (k : Int) < (n : Int) := by omega
      go_wp2
      go_ret
      exact ⟨rfl, HB.out⟩
end Go.Proofs.YtakaoacialnjaaaDoor
namespace Go.Proofs.YtakaoacialnjaaaDoor
open Go Go.RowKit
set_option linter.unusedVariables false
set_option linter.unusedSimpArgs false
theorem madeFlat {α : Type} (enc : α → List Value) (s : Nat) (hs : 0 < s) (he : ∀ x, (enc x).length = s) (z : α) (n : Nat) : (madeCells (enc z).toArray (n * s)).toList = (List.replicate n z).flatMap enc := by
  apply List.ext_getElem?
  intro j
  by_cases hj : j < n * s
  · have hi : j / s < n := (Nat.div_lt_iff_lt_mul hs).2 hj
    have hm : j % s < (enc z).length := by rw [he]; exact Nat.mod_lt _ hs
    have := flat_get enc s he (List.replicate n z) (j / s) z (by rw [List.getElem?_replicate, if_pos hi]) (j % s) _ (List.getElem?_eq_getElem hm)
    rw [show j / s * s + j % s = j by rw [Nat.mul_comm]; exact Nat.div_add_mod j s] at this
    rw [this]
    simp [madeCells, hj, he]
    rw [List.getElem?_eq_getElem hm]; rfl
  · rw [List.getElem?_eq_none (by simp [madeCells]; omega), List.getElem?_eq_none (by rw [flat_len enc s he]; simp; omega)]
theorem dropRep {α : Type} (enc : α → List Value) (s : Nat) (he : ∀ x, (enc x).length = s) (z : α) (n : Nat) : ((List.replicate (n + 80) z).flatMap enc).drop (n * s) = (List.replicate (n + 80 - n) z).flatMap enc := by
  have h1 : List.replicate (n + 80) z = List.replicate n z ++ List.replicate 80 z := by rw [List.replicate_append_replicate]
  have h2 : n * s = ((List.replicate n z).flatMap enc).length := by rw [flat_len enc s he]; simp
  rw [h1, List.flatMap_append, h2, List.drop_left, show n + 80 - n = 80 by omega]
theorem fill_step {α : Type} (z : α) (l : List α) (n k : Nat) (m : α) (hl : l.length = n) (h1 : n ≤ k) (h2 : k < n + 80) :
    (l ++ List.replicate (k - n) m ++ List.replicate (n + 80 - k) z).set k m = l ++ List.replicate (k + 1 - n) m ++ List.replicate (n + 80 - (k + 1)) z := by
  rw [List.set_append_right _ _ (by simp; omega), show k - (l ++ List.replicate (k - n) m).length = 0 by simp; omega, show n + 80 - k = (n + 80 - (k + 1)) + 1 by omega,
    List.replicate_succ, List.set_cons_zero, show k + 1 - n = (k - n) + 1 by omega, List.replicate_succ' (n := k - n)]
  simp
theorem fill_at {α : Type} (z : α) (l : List α) (n k : Nat) (m : α) (hl : l.length = n) (h1 : n ≤ k) (h2 : k < n + 80) : (l ++ List.replicate (k - n) m ++ List.replicate (n + 80 - k) z)[k]? = some z := by
  rw [List.getElem?_append_right (by simp; omega), List.getElem?_replicate, if_pos (by simp; omega)]
set_option maxRecDepth 100000 in
set_option maxHeartbeats 4000000 in
theorem roomy_I (w : World) (a : Option Addr) (n c : Nat) (l : List (Int)) (m : Int) (h : RS 1 Iv w a n c l) (hn : n ≤ 1000000) :
    Calls Tryd.prog 37 #[.slice a n c, .int .i64 m] w fun e w' => ∃ g, e = .returned (.slice (some ⟨g, 0, none⟩) (n+80) (n+80)) ∧
      w'.ownsRow w.heap.size 3 1 (.slice (some ⟨g, 0, none⟩) (n+80) (n+80)) (n+80) ((l ++ List.replicate 80 m).flatMap Iv) ∧ Below w.heap.size w w' := by
  have hl := Lib.hid h.1
  obtain ⟨B, hB⟩ : ∃ B, B = w.heap.size := ⟨_, rfl⟩
  have HB := Lib.hid hB
  have hbb : Below B w w := Below.refl _ _
  have hBle : B ≤ w.heap.size := by omega
  have HR := Lib.hid h
  clear hB h
  go_enter Tryd.func37, Tryd.ntmps37
  go_wp2_with (first
    | (at_make; refine L_make rfl _ _ _ rfl sl42 B .i64 .i64 _ (n+80) rfl rfl (by omega) (by omega) (by simp [maxLen]; omega) (by omega) (fun w1 ho1 hg1 => ?_)
       rw [← HB.out] at ho1 ⊢)
    | (refine L_copyN rfl _ _ _ rfl sl42 B B (n+80) (n+80) _ rfl ho1 Iv_len (fun x v hv => by simp [Iv] at hv; subst hv; rfl) _ _ _ _ rfl (HR.out.below (Below.mono (hbb.grown hg1 (by have := HB.out; omega) (by intro k hk; cases hk)) (by have := HB.out; omega))) (by omega) (fun w2 ho2 hg2 => ?_)))
  have hb1 := hbb.grown hg1 (by omega) (by intro k hk; cases hk)
  have hb2 := hb1.grown hg2 (by have := HB.out; have := hb1.size; omega) (by intro k hk; cases hk; omega)
  have ho3 : w2.ownsRow B 3 1 (.slice (some ⟨B, 0, none⟩) (n+80) (n+80)) (n+80) ((l ++ List.replicate (n - n) m ++ List.replicate (n+80-n) (0 : Int)).flatMap Iv) := by
    have e1 := madeFlat Iv 1 (by decide) Iv_len (0 : Int) (n + 80)
    have e2 : (madeCells (Value.cells (Value.int IntKind.i64 0)) ((n + 80) * 1)).toList = (List.replicate (n + 80) (0 : Int)).flatMap Iv := e1
    rw [e2] at ho2
    have e3 : ((List.replicate (n + 80) (0 : Int)).flatMap Iv).drop (n * 1) = (List.replicate (n + 80 - n) (0 : Int)).flatMap Iv := by
      exact dropRep _ _ Iv_len _ n
    rw [e3] at ho2
    simpa using ho2
  clear hb1 ho1 hg2 hg1 ho2
  go_loopw [6] (fun i wr => ∃ k : Nat, n ≤ k ∧ k ≤ n + 80 ∧ i = .int .i64 k ∧ Below B w wr ∧ wr.ownsRow B 3 1 (.slice (some ⟨B, 0, none⟩) (n+80) (n+80)) (n+80) ((l ++ List.replicate (k-n) m ++ List.replicate (n+80-k) (0 : Int)).flatMap Iv)) (fun i _ => n + 80 - (intOf i).toNat)
  case atStart => exact ⟨n, by omega, by omega, rfl, hb2, ho3⟩
  case round =>
    obtain ⟨k, hk1, hk2, rfl, hb, ho⟩ := hrel
    by_cases hlt : k < n + 80
    · have hz := fill_at (0 : Int) l n k m hl.out hk1 hlt
      have c0 := own_at Iv_len ho hz 0 _ rfl
      have f0 := ho.frozenAt (k)
      simp only [Nat.add_zero, Nat.mul_one, Nm.cs] at c0
      have ho' := Lib.hid (own_chain (Iv m) _ wr (k * 1) ho).1
      rw [setList_flat Iv 1 Iv_len _ k m (List.getElem?_eq_some_iff.1 hz).1, fill_step (0 : Int) l n k m hl.out hk1 hlt] at ho'
      have hb' := Lib.hid (hb.setCell (p := ⟨B, k, none⟩) (by simp) (.int .i64 m))
      clear ho hb hb2 ho3 hz
      go_wp2
      go_roundw
      case rel => exact ⟨k+1, by omega, by omega, by go_num, hb'.out, by have := ho'.out; simpa [setChain, Iv] using this⟩
      case measure => simp [intOf]; omega
    · obtain rfl : k = n + 80 := by omega
      have HO := Lib.hid ho
      have HBB := Lib.hid hb
      rw [HB.out] at HO HBB
      clear ho hb hb2 ho3
      rw [HB.out]
      go_wp2
      go_ret
      exact ⟨_, rfl, by simpa using HO.out, HBB.out⟩
set_option maxRecDepth 100000 in
set_option maxHeartbeats 4000000 in
theorem roomy_S (w : World) (a : Option Addr) (n c : Nat) (l : List (ByteArray)) (m : ByteArray) (h : RS 1 Sv w a n c l) (hn : n ≤ 1000000) :
    Calls Tryd.prog 38 #[.slice a n c, .string m] w fun e w' => ∃ g, e = .returned (.slice (some ⟨g, 0, none⟩) (n+80) (n+80)) ∧
      w'.ownsRow w.heap.size 9 1 (.slice (some ⟨g, 0, none⟩) (n+80) (n+80)) (n+80) ((l ++ List.replicate 80 m).flatMap Sv) ∧ Below w.heap.size w w' := by
  have hl := Lib.hid h.1
  obtain ⟨B, hB⟩ : ∃ B, B = w.heap.size := ⟨_, rfl⟩
  have HB := Lib.hid hB
  have hbb : Below B w w := Below.refl _ _
  have hBle : B ≤ w.heap.size := by omega
  have HR := Lib.hid h
  clear hB h
  go_enter Tryd.func38, Tryd.ntmps38
  go_wp2_with (first
    | (at_make; refine L_make rfl _ _ _ rfl sl45 B .i64 .i64 _ (n+80) rfl rfl (by omega) (by omega) (by simp [maxLen]; omega) (by omega) (fun w1 ho1 hg1 => ?_)
       rw [← HB.out] at ho1 ⊢)
    | (refine L_copyN rfl _ _ _ rfl sl45 B B (n+80) (n+80) _ rfl ho1 Sv_len (fun x v hv => by simp [Sv] at hv; subst hv; rfl) _ _ _ _ rfl (HR.out.below (Below.mono (hbb.grown hg1 (by have := HB.out; omega) (by intro k hk; cases hk)) (by have := HB.out; omega))) (by omega) (fun w2 ho2 hg2 => ?_)))
  have hb1 := hbb.grown hg1 (by omega) (by intro k hk; cases hk)
  have hb2 := hb1.grown hg2 (by have := HB.out; have := hb1.size; omega) (by intro k hk; cases hk; omega)
  have ho3 : w2.ownsRow B 9 1 (.slice (some ⟨B, 0, none⟩) (n+80) (n+80)) (n+80) ((l ++ List.replicate (n - n) m ++ List.replicate (n+80-n) ByteArray.empty).flatMap Sv) := by
    have e1 := madeFlat Sv 1 (by decide) Sv_len ByteArray.empty (n + 80)
    have e2 : (madeCells (Value.cells (Value.string ByteArray.empty)) ((n + 80) * 1)).toList = (List.replicate (n + 80) ByteArray.empty).flatMap Sv := e1
    rw [e2] at ho2
    have e3 : ((List.replicate (n + 80) ByteArray.empty).flatMap Sv).drop (n * 1) = (List.replicate (n + 80 - n) ByteArray.empty).flatMap Sv := by
      exact dropRep _ _ Sv_len _ n
    rw [e3] at ho2
    simpa using ho2
  clear hb1 ho1 hg2 hg1 ho2
  go_loopw [6] (fun i wr => ∃ k : Nat, n ≤ k ∧ k ≤ n + 80 ∧ i = .int .i64 k ∧ Below B w wr ∧ wr.ownsRow B 9 1 (.slice (some ⟨B, 0, none⟩) (n+80) (n+80)) (n+80) ((l ++ List.replicate (k-n) m ++ List.replicate (n+80-k) ByteArray.empty).flatMap Sv)) (fun i _ => n + 80 - (intOf i).toNat)
  case atStart => exact ⟨n, by omega, by omega, rfl, hb2, ho3⟩
  case round =>
    obtain ⟨k, hk1, hk2, rfl, hb, ho⟩ := hrel
    by_cases hlt : k < n + 80
    · have hz := fill_at ByteArray.empty l n k m hl.out hk1 hlt
      have c0 := own_at Sv_len ho hz 0 _ rfl
      have f0 := ho.frozenAt (k)
      simp only [Nat.add_zero, Nat.mul_one, Nm.cs] at c0
      have ho' := Lib.hid (own_chain (Sv m) _ wr (k * 1) ho).1
      rw [setList_flat Sv 1 Sv_len _ k m (List.getElem?_eq_some_iff.1 hz).1, fill_step ByteArray.empty l n k m hl.out hk1 hlt] at ho'
      have hb' := Lib.hid (hb.setCell (p := ⟨B, k, none⟩) (by simp) (.string m))
      clear ho hb hb2 ho3 hz
      go_wp2
      go_roundw
      case rel => exact ⟨k+1, by omega, by omega, by go_num, hb'.out, by have := ho'.out; simpa [setChain, Sv] using this⟩
      case measure => simp [intOf]; omega
    · obtain rfl : k = n + 80 := by omega
      have HO := Lib.hid ho
      have HBB := Lib.hid hb
      rw [HB.out] at HO HBB
      clear ho hb hb2 ho3
      rw [HB.out]
      go_wp2
      go_ret
      exact ⟨_, rfl, by simpa using HO.out, HBB.out⟩
set_option maxRecDepth 100000 in
set_option maxHeartbeats 4000000 in
theorem roomy_N (w : World) (a : Option Addr) (n c : Nat) (l : List Nm) (m : Nm) (h : RS 3 Nm.cs w a n c l) (hn : n ≤ 1000000) :
    Calls Tryd.prog 30 #[.slice a n c, .agg #[.string m.nm, .int .i64 m.b, .bool m.o]] w fun e w' => ∃ g, e = .returned (.slice (some ⟨g, 0, none⟩) (n+80) (n+80)) ∧
      w'.ownsRow w.heap.size 34 3 (.slice (some ⟨g, 0, none⟩) (n+80) (n+80)) (n+80) ((l ++ List.replicate 80 m).flatMap Nm.cs) ∧ Below w.heap.size w w' := by
  have hl := Lib.hid h.1
  obtain ⟨B, hB⟩ : ∃ B, B = w.heap.size + 1 := ⟨_, rfl⟩
  obtain ⟨w0, hw0⟩ : ∃ w0, w0 = w.alloc (.cells #[.string m.nm, .int .i64 m.b, .bool m.o] 34) := ⟨_, rfl⟩
  have hz0 : w0.heap.size = B := by rw [hw0, hB]; simp
  have hbw : Below w.heap.size w w0 := by rw [hw0]; exact (Below.refl _ _).alloc (Nat.le_refl _) _
  have g0 : w0.heap[w.heap.size]? = some (.cells #[.string m.nm, .int .i64 m.b, .bool m.o] 34 (0, 0)) := by rw [hw0]; exact heap_alloc_new w _
  have HB := Lib.hid hB
  have HZ0 := Lib.hid hz0
  have HW := Lib.hid hw0.symm
  have HBW := Lib.hid hbw
  have HG0 := Lib.hid g0
  have hbb : Below B w0 w0 := Below.refl _ _
  have hBle : B ≤ w0.heap.size := by omega
  have HR := Lib.hid (h.below hbw)
  clear hB h hw0 hz0 hbw g0
  go_enter Tryd.func30, Tryd.ntmps30
  go_wp2_with (first
    | (at_make; rw [HW.out]; refine L_make rfl _ _ _ rfl sl25 B .i64 .i64 _ (n+80) rfl rfl (by omega) (by omega) (by simp [maxLen]; omega) (by omega) (fun w1 ho1 hg1 => ?_)
       rw [HZ0.out] at ho1 ⊢)
    | (refine L_copyN rfl _ _ _ rfl sl25 B B (n+80) (n+80) _ rfl ho1 Nm_len2 (fun x v hv => by simp [Nm.cs] at hv; rcases hv with rfl | rfl | rfl <;> rfl) _ _ _ _ rfl (HR.out.below (Below.mono (hbb.grown hg1 (by omega) (by intro k hk; cases hk)) (by have := HZ0.out; omega))) (by omega) (fun w2 ho2 hg2 => ?_)))
  have hb1 := hbb.grown hg1 (by omega) (by intro k hk; cases hk)
  have hb2 := hb1.grown hg2 (by have := hb1.size; omega) (by intro k hk; cases hk; omega)
  have ho3 : w2.ownsRow B 34 3 (.slice (some ⟨B, 0, none⟩) (n+80) (n+80)) (n+80) ((l ++ List.replicate (n - n) m ++ List.replicate (n+80-n) (⟨ByteArray.empty, 0, false⟩ : Nm)).flatMap Nm.cs) := by
    have e1 := madeFlat Nm.cs 3 (by decide) Nm_len2 ⟨ByteArray.empty, 0, false⟩ (n + 80)
    have e2 : (madeCells (Value.cells (.agg #[.string ByteArray.empty, .int .i64 0, .bool false])) ((n + 80) * 3)).toList = (List.replicate (n + 80) (⟨ByteArray.empty, 0, false⟩ : Nm)).flatMap Nm.cs := e1
    rw [e2] at ho2
    have e3 : ((List.replicate (n + 80) (⟨ByteArray.empty, 0, false⟩ : Nm)).flatMap Nm.cs).drop (n * 3) = (List.replicate (n + 80 - n) (⟨ByteArray.empty, 0, false⟩ : Nm)).flatMap Nm.cs := by
      exact dropRep _ _ Nm_len2 _ n
    rw [e3] at ho2
    simpa using ho2
  clear hb1 ho1 hg2 hg1 ho2
  go_loopw [6] (fun i wr => ∃ k : Nat, n ≤ k ∧ k ≤ n + 80 ∧ i = .int .i64 k ∧ Below B w0 wr ∧ wr.ownsRow B 34 3 (.slice (some ⟨B, 0, none⟩) (n+80) (n+80)) (n+80) ((l ++ List.replicate (k-n) m ++ List.replicate (n+80-k) (⟨ByteArray.empty, 0, false⟩ : Nm)).flatMap Nm.cs)) (fun i _ => n + 80 - (intOf i).toNat)
  case atStart => exact ⟨n, by omega, by omega, rfl, hb2, ho3⟩
  case round =>
    obtain ⟨k, hk1, hk2, rfl, hb, ho⟩ := hrel
    by_cases hlt : k < n + 80
    · have hz := fill_at (⟨ByteArray.empty, 0, false⟩ : Nm) l n k m hl.out hk1 hlt
      have c0 := own_at Nm_len2 ho hz 0 _ rfl
      have f0 := ho.frozenAt (k * 3)
      have c1 := own_at Nm_len2 ho hz 1 _ rfl
      have f1 := ho.frozenAt (k * 3 + 1)
      have c2 := own_at Nm_len2 ho hz 2 _ rfl
      have f2 := ho.frozenAt (k * 3 + 2)
      simp only [Nat.add_zero] at c0
      have gr := (hb.block w.heap.size (by have := HB.out; omega)).trans HG0.out
      have m0 := cell_of_row wr _ 0 _ _ _ gr
      have m1 := cell_of_row wr _ 1 _ _ _ gr
      have m2 := cell_of_row wr _ 2 _ _ _ gr
      simp only [List.getElem?_toArray, List.getElem?_cons_zero, List.getElem?_cons_succ] at m0 m1 m2
      have ho' := (own_chain (Nm.cs m) _ wr (k * 3) ho).1
      rw [setList_flat Nm.cs 3 Nm_len2 _ k m (List.getElem?_eq_some_iff.1 hz).1, fill_step (⟨ByteArray.empty, 0, false⟩ : Nm) l n k m hl.out hk1 hlt] at ho'
      have HO := Lib.hid ho'
      have hb' := Lib.hid (((hb.setCell (p := ⟨B, k * 3, none⟩) (by simp) (.string m.nm)).setCell (p := ⟨B, k * 3 + 1, none⟩) (by simp) (.int .i64 m.b)).setCell (p := ⟨B, k * 3 + 2, none⟩) (by simp) (.bool m.o))
      clear ho hb hb2 ho3 hz gr ho'
      go_wp2
      go_roundw
      case rel => exact ⟨k+1, by omega, by omega, by go_num, hb'.out, HO.out⟩
      case measure => simp [intOf]; omega
    · obtain rfl : k = n + 80 := by omega
      have HO := Lib.hid ho
      have HBB := Lib.hid hb
      clear ho hb hb2 ho3
      go_wp2
      go_ret
      exact ⟨_, rfl, by simpa using owns_mono HO.out (by have := HB.out; omega), HBW.out.trans (HBB.out.mono (by have := HB.out; omega))⟩
end Go.Proofs.YtakaoacialnjaaaDoor
namespace Go.Proofs.YtakaoacialnjaaaDoor
open Go Go.RowKit
set_option linter.unusedVariables false
set_option linter.unusedSimpArgs false
set_option maxRecDepth 100000 in
set_option maxHeartbeats 4000000 in
theorem intact_I (w : World) (a : Option Addr) (n c : Nat) (l : List (Int)) (m : Int) (h1 : RS 1 Iv w a (n + 80) c (l ++ List.replicate 80 m)) (b : Option Addr) (d : Nat) (h2 : RS 1 Iv w b n d l) (hn : n ≤ 1000000) :
    Calls Tryd.prog 43 #[.slice a (n + 80) c, .slice b n d, .int .i64 m] w fun e w' => e = .returned (.bool true) ∧ Below w.heap.size w w' := by
  have hl := h2.1
  have hc1 := h1.2.1
  have h3 : RS 1 Iv w a n c l := by have := h1.cut; rwa [hl] at this
  have HL := Lib.hid hl
  have hc2 : n ≤ c := by omega
  have H1 := Lib.hid h1
  have HS := Lib.hid (same_I w a n c l h3 b d h2)
  clear h1 h2 h3 hl
  go_enter Tryd.func43, Tryd.ntmps43
  go_wp2_with (go_at_call 58; refine HS.out.mono ?_; rintro e w1 ⟨rfl, hb1⟩)
  have HB1 := Lib.hid hb1
  clear hb1
  go_loopw [7] (fun i wr => ∃ k : Nat, n ≤ k ∧ k ≤ n + 80 ∧ i = .int .i64 k ∧ Below w.heap.size w wr) (fun i _ => n + 80 - (intOf i).toNat)
  case atStart => exact ⟨n, by omega, by omega, rfl, HB1.out⟩
  case round =>
    obtain ⟨k, hk1, hk2, rfl, hb⟩ := hrel
    have HB := Lib.hid hb
    clear hb
    by_cases hlt : k < n + 80
    · obtain ⟨xa, xo, x, rfl, hx, hcx⟩ := H1.out.at hlt
      obtain rfl : x = m := by
        rw [List.getElem?_append_right (by rw [HL.out]; omega), List.getElem?_replicate, if_pos (by rw [HL.out]; omega)] at hx
        exact (Option.some.inj hx).symm
      have x0 := (HB.out.cell (p := ⟨xa, xo + k * 1 + 0, none⟩) (block_lt_of_cell (hcx 0 _ rfl))).trans (hcx 0 _ rfl)
      simp only [Nat.add_zero, Nat.mul_one] at x0
      have hltI : (k : Int) < (n : Int) + 80 := by omega
      clear hx hcx
      go_wp2
      go_roundw
      case rel => exact ⟨k + 1, by omega, by omega, by go_num, HB.out⟩
      case measure => simp [intOf]; omega
    · have hltI : ¬ (k : Int) < (n : Int) + 80 := by omega
      go_wp2
      go_ret
      exact ⟨rfl, HB.out⟩
set_option maxRecDepth 100000 in
set_option maxHeartbeats 4000000 in
theorem intact_S (w : World) (a : Option Addr) (n c : Nat) (l : List (ByteArray)) (m : ByteArray) (h1 : RS 1 Sv w a (n + 80) c (l ++ List.replicate 80 m)) (b : Option Addr) (d : Nat) (h2 : RS 1 Sv w b n d l) (hn : n ≤ 1000000) :
    Calls Tryd.prog 44 #[.slice a (n + 80) c, .slice b n d, .string m] w fun e w' => e = .returned (.bool true) ∧ Below w.heap.size w w' := by
  have hl := h2.1
  have hc1 := h1.2.1
  have h3 : RS 1 Sv w a n c l := by have := h1.cut; rwa [hl] at this
  have HL := Lib.hid hl
  have hc2 : n ≤ c := by omega
  have H1 := Lib.hid h1
  have HS := Lib.hid (same_S w a n c l h3 b d h2)
  clear h1 h2 h3 hl
  go_enter Tryd.func44, Tryd.ntmps44
  go_wp2_with (go_at_call 59; refine HS.out.mono ?_; rintro e w1 ⟨rfl, hb1⟩)
  have HB1 := Lib.hid hb1
  clear hb1
  go_loopw [7] (fun i wr => ∃ k : Nat, n ≤ k ∧ k ≤ n + 80 ∧ i = .int .i64 k ∧ Below w.heap.size w wr) (fun i _ => n + 80 - (intOf i).toNat)
  case atStart => exact ⟨n, by omega, by omega, rfl, HB1.out⟩
  case round =>
    obtain ⟨k, hk1, hk2, rfl, hb⟩ := hrel
    have HB := Lib.hid hb
    clear hb
    by_cases hlt : k < n + 80
    · obtain ⟨xa, xo, x, rfl, hx, hcx⟩ := H1.out.at hlt
      obtain rfl : x = m := by
        rw [List.getElem?_append_right (by rw [HL.out]; omega), List.getElem?_replicate, if_pos (by rw [HL.out]; omega)] at hx
        exact (Option.some.inj hx).symm
      have x0 := (HB.out.cell (p := ⟨xa, xo + k * 1 + 0, none⟩) (block_lt_of_cell (hcx 0 _ rfl))).trans (hcx 0 _ rfl)
      simp only [Nat.add_zero, Nat.mul_one] at x0
      have hltI : (k : Int) < (n : Int) + 80 := by omega
      clear hx hcx
      go_wp2
      go_roundw
      case rel => exact ⟨k + 1, by omega, by omega, by go_num, HB.out⟩
      case measure => simp [intOf]; omega
    · have hltI : ¬ (k : Int) < (n : Int) + 80 := by omega
      go_wp2
      go_ret
      exact ⟨rfl, HB.out⟩
set_option maxRecDepth 100000 in
set_option maxHeartbeats 4000000 in
theorem intact_N (w : World) (a : Option Addr) (n c : Nat) (l : List (Nm)) (m : Nm) (h1 : RS 3 Nm.cs w a (n + 80) c (l ++ List.replicate 80 m)) (b : Option Addr) (d : Nat) (h2 : RS 3 Nm.cs w b n d l) (hn : n ≤ 1000000) :
    Calls Tryd.prog 31 #[.slice a (n + 80) c, .slice b n d, .agg #[.string m.nm, .int .i64 m.b, .bool m.o]] w fun e w' => e = .returned (.bool true) ∧ Below w.heap.size w w' := by
  have hl := h2.1
  have hc1 := h1.2.1
  have h3 : RS 3 Nm.cs w a n c l := by have := h1.cut; rwa [hl] at this
  have HL := Lib.hid hl
  have hc2 : n ≤ c := by omega
  obtain ⟨w0, hw0⟩ : ∃ w0, w0 = w.alloc (.cells #[.string m.nm, .int .i64 m.b, .bool m.o] 34) := ⟨_, rfl⟩
  have hbw : Below w.heap.size w w0 := by rw [hw0]; exact (Below.refl _ _).alloc (Nat.le_refl _) _
  have g0 : w0.heap[w.heap.size]? = some (.cells #[.string m.nm, .int .i64 m.b, .bool m.o] 34 (0, 0)) := by rw [hw0]; exact heap_alloc_new w _
  have hz0 : w.heap.size < w0.heap.size := by rw [hw0]; simp
  have HW := Lib.hid hw0.symm
  have HG0 := Lib.hid g0
  have HBW := Lib.hid hbw
  replace h3 := h3.below hbw
  replace h1 := h1.below hbw
  replace h2 := h2.below hbw
  clear hw0 g0 hbw
  have H1 := Lib.hid h1
  have HS := Lib.hid (same_N w0 a n c l h3 b d h2)
  clear h1 h2 h3 hl
  go_enter Tryd.func31, Tryd.ntmps31
  go_wp2_with (go_at_call 47; rw [HW.out]; refine HS.out.mono ?_; rintro e w1 ⟨rfl, hb1⟩)
  have HB1 := Lib.hid hb1
  clear hb1
  go_loopw [7] (fun i wr => ∃ k : Nat, n ≤ k ∧ k ≤ n + 80 ∧ i = .int .i64 k ∧ Below w0.heap.size w0 wr) (fun i _ => n + 80 - (intOf i).toNat)
  case atStart => exact ⟨n, by omega, by omega, rfl, HB1.out⟩
  case round =>
    obtain ⟨k, hk1, hk2, rfl, hb⟩ := hrel
    have HB := Lib.hid hb
    clear hb
    by_cases hlt : k < n + 80
    · obtain ⟨xa, xo, x, rfl, hx, hcx⟩ := H1.out.at hlt
      obtain rfl : x = m := by
        rw [List.getElem?_append_right (by rw [HL.out]; omega), List.getElem?_replicate, if_pos (by rw [HL.out]; omega)] at hx
        exact (Option.some.inj hx).symm
      have x0 := (HB.out.cell (p := ⟨xa, xo + k * 3 + 0, none⟩) (block_lt_of_cell (hcx 0 _ rfl))).trans (hcx 0 _ rfl)
      have x1 := (HB.out.cell (p := ⟨xa, xo + k * 3 + 1, none⟩) (block_lt_of_cell (hcx 1 _ rfl))).trans (hcx 1 _ rfl)
      have x2 := (HB.out.cell (p := ⟨xa, xo + k * 3 + 2, none⟩) (block_lt_of_cell (hcx 2 _ rfl))).trans (hcx 2 _ rfl)
      simp only [Nat.add_zero] at x0
      have gr := (HB.out.block w.heap.size hz0).trans HG0.out
      have m0 := cell_of_row wr _ 0 _ _ _ gr
      have m1 := cell_of_row wr _ 1 _ _ _ gr
      have m2 := cell_of_row wr _ 2 _ _ _ gr
      simp only [List.getElem?_toArray, List.getElem?_cons_zero, List.getElem?_cons_succ] at m0 m1 m2
      clear gr
      have hltI : (k : Int) < (n : Int) + 80 := by omega
      clear hx hcx
      go_wp2
      go_region
      go_wp2
      go_roundw
      case rel => exact ⟨k + 1, by omega, by omega, by go_num, HB.out.drew⟩
      case measure => simp [intOf]; omega
    · have hltI : ¬ (k : Int) < (n : Int) + 80 := by omega
      go_wp2
      go_ret
      exact ⟨rfl, HBW.out.trans (HB.out.mono (Nat.le_of_lt hz0))⟩
end Go.Proofs.YtakaoacialnjaaaDoor
