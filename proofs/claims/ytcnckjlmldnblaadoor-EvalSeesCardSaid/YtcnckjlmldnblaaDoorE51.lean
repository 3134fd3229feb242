import Derived.Test.YtcnckjlmldnblaaDoorE44
import Derived.Test.YtcnckjlmldnblaaDoorE50
import Derived.BigGuardPart
namespace Go.Proofs.YtcnckjlmldnblaaDoor
open Go Go.RowKit
set_option linter.unusedVariables false
set_option linter.unusedSimpArgs false
theorem nmK_ne {i j : Nat} (hi : i < 20) (hj : j < 20) (h : i ≠ j) : ((nmK i).toList == (nmK j).toList) = false := by
  simp only [ByteArray.toList_eq, nmK, beq_eq_false_iff_ne, ne_eq, List.cons.injEq, and_true]
  intro e
  have := congrArg UInt8.toNat e
  simp at this
  omega
theorem val_at (vs : List Vc) {n i : Nat} (hn : n ≤ 20) (hi : i < n) : Vw.value ⟨(bcsK vs n).map fun b => (b.nm, b.v.x), [], [], 0, 0⟩ (nmK i) = (vs.getD i zVc).x := by
  have hk : ∀ j, j < n → (bcsK vs n)[j]? = some ⟨nmK j, vs.getD j zVc⟩ := fun j hj => by
    unfold bcsK
    rw [List.getElem?_map, List.getElem?_range hj]
    rfl
  unfold Vw.value
  simp only
  rw [find_at (hk i hi) (by simp) (fun j x hj hx => by
    rw [hk j (by omega)] at hx
    cases hx
    exact nmK_ne (by omega) (by omega) (by omega))]
theorem seqW_ok : ∀ l : List Vl, seqW (l.map Except.ok) = .ok l
  | [] => rfl
  | x :: t => by simp only [List.map_cons, seqW, seqW_ok t]
/-- An operator over names that hold right values. -/
theorem op_worth {op : Int} (hl : ∀ ka n kc v, leafW (opNd op ka n kc) v = none) (ho : op ≠ 9 ∧ op ≠ 10 ∧ op ≠ 23 ∧ op ≠ 33 ∧ op ≠ 11 ∧ op ≠ 12) (ka : Option Addr) (n kc : Nat) (hT : treeR (opNs op ka n kc) n = true) (vs : List Vc) (hn : n ≤ 20) (hv : vs.length = n) (hf : ∀ v ∈ vs, Fit v.x) :
    worthR (opNs op ka n kc) n ⟨(bcsK vs n).map fun b => (b.nm, b.v.x), [], [], 0, 0⟩ = opW op (vs.map Vc.x) := by
  unfold worthR
  rw [if_neg (by simp [opNs]; omega), Int.toNat_natCast, hT, if_pos rfl]
  rw [wK_at (nd := opNd op ka n kc) (by rw [Int.toNat_natCast]; simp [opNs])]
  rw [node_all (hl ka n kc _) ho]
  unfold allW
  have hm : (opNd op ka n kc).ks.map (wK (opNs op ka n kc) ⟨(bcsK vs n).map fun b => (b.nm, b.v.x), [], [], 0, 0⟩ n) = (vs.map Vc.x).map Except.ok := by
    apply List.ext_getElem?
    intro i
    simp only [opNd, List.getElem?_map]
    rcases Nat.lt_or_ge i n with h | h
    · rw [List.getElem?_range h, List.getElem?_eq_getElem (show i < vs.length by omega)]
      simp only [Option.map_some, Option.some.injEq]
      obtain ⟨d, rfl⟩ : ∃ d, n = d + 1 := ⟨n - 1, by omega⟩
      rw [wK_at (nd := nameNd i) (by rw [Int.toNat_natCast]; unfold opNs; rw [List.getElem?_append_left (by simp; omega), List.getElem?_map, List.getElem?_range h]; rfl)]
      show toldW (Vw.value _ (nmK i)) = _
      rw [val_at vs hn h, List.getD_eq_getElem?_getD, List.getElem?_eq_getElem (show i < vs.length by omega), Option.getD_some]
      exact told_fit (hf _ (List.getElem_mem _))
    · rw [List.getElem?_eq_none (by simp; omega), List.getElem?_eq_none (by omega)]
      rfl
  rw [hm, seqW_ok]
  rfl
theorem set_tree (ka : Option Addr) (kc : Nat) : ∀ n : Nat, n ≤ 20 → treeR (opNs 6 ka n kc) n = true
  | 0, _ => (show treeR (opNs 6 ka 0 kc) 0 = true by kernel_rfl)
  | 1, _ => (show treeR (opNs 6 ka 1 kc) 1 = true by kernel_rfl)
  | 2, _ => (show treeR (opNs 6 ka 2 kc) 2 = true by kernel_rfl)
  | 3, _ => (show treeR (opNs 6 ka 3 kc) 3 = true by kernel_rfl)
  | 4, _ => (show treeR (opNs 6 ka 4 kc) 4 = true by kernel_rfl)
  | 5, _ => (show treeR (opNs 6 ka 5 kc) 5 = true by kernel_rfl)
  | 6, _ => (show treeR (opNs 6 ka 6 kc) 6 = true by kernel_rfl)
  | 7, _ => (show treeR (opNs 6 ka 7 kc) 7 = true by kernel_rfl)
  | 8, _ => (show treeR (opNs 6 ka 8 kc) 8 = true by kernel_rfl)
  | 9, _ => (show treeR (opNs 6 ka 9 kc) 9 = true by kernel_rfl)
  | 10, _ => (show treeR (opNs 6 ka 10 kc) 10 = true by kernel_rfl)
  | 11, _ => (show treeR (opNs 6 ka 11 kc) 11 = true by kernel_rfl)
  | 12, _ => (show treeR (opNs 6 ka 12 kc) 12 = true by kernel_rfl)
  | 13, _ => (show treeR (opNs 6 ka 13 kc) 13 = true by kernel_rfl)
  | 14, _ => (show treeR (opNs 6 ka 14 kc) 14 = true by kernel_rfl)
  | 15, _ => (show treeR (opNs 6 ka 15 kc) 15 = true by kernel_rfl)
  | 16, _ => (show treeR (opNs 6 ka 16 kc) 16 = true by kernel_rfl)
  | 17, _ => (show treeR (opNs 6 ka 17 kc) 17 = true by kernel_rfl)
  | 18, _ => (show treeR (opNs 6 ka 18 kc) 18 = true by kernel_rfl)
  | 19, _ => (show treeR (opNs 6 ka 19 kc) 19 = true by kernel_rfl)
  | 20, _ => (show treeR (opNs 6 ka 20 kc) 20 = true by kernel_rfl)
  | n + 21, h => absurd h (by omega)
theorem set_worth (ka : Option Addr) (kc : Nat) (l : List ByteArray) (n : Nat) (hn : n ≤ 20) (hl : l.length = n) (hs : ∀ m ∈ l, m.size ≤ 1024) :
    worthR (opNs 6 ka n kc) n ⟨(bcsK (l.map fun m => ⟨textV m, none, 0, 0⟩) n).map fun b => (b.nm, b.v.x), [], [], 0, 0⟩ = .ok (setV (setOf l)) := by
  rw [op_worth (fun _ _ _ _ => by unfold leafW; simp [opNd]) ⟨by decide, by decide, by decide, by decide, by decide, by decide⟩ ka n kc (set_tree ka kc n hn) _ hn (by simpa using hl) (fun v hv => by
    obtain ⟨m, hm, rfl⟩ := List.mem_map.1 hv
    exact fit_text (by have := hs m hm; omega))]
  rw [List.map_map]
  unfold opW
  rw [if_neg (by simp), if_pos rfl]
  unfold gatheredW
  rw [if_neg (by simp)]
  rw [List.map_map, show (Vl.t ∘ (Vc.x ∘ fun m => (⟨textV m, none, 0, 0⟩ : Vc))) = id from rfl, List.map_id]
  exact members_ok (by have := setOf_length_le l; omega)
theorem size_worth (ka : Option Addr) (kc : Nat) (x : Vc) (hx : Fit x.x) (h5 : x.x.k = 5) :
    worthR (opNs 27 ka 1 kc) (1 : Nat) ⟨(bcsK [x] 1).map fun b => (b.nm, b.v.x), [], [], 0, 0⟩ = .ok (intV x.x.ss.length) := by
  rw [op_worth (fun _ _ _ _ => by unfold leafW; simp [opNd]) ⟨by decide, by decide, by decide, by decide, by decide, by decide⟩ ka 1 kc (by kernel_rfl) [x] (by omega) rfl (fun v hv => by
    simp only [List.mem_singleton] at hv
    subst hv
    exact hx)]
  unfold opW
  simp [h5, singleW]
set_option maxRecDepth 100000 in
set_option maxHeartbeats 4000000 in
/-- Two values that are alike. -/
theorem sameV_any (w : World) (x : Vl) (a : Option Addr) (l c : Nat) (hx : RS 1 Sv w a l c x.ss) (b : Option Addr) (d : Nat) (hy : RS 1 Sv w b l d x.ss) :
    Calls Tryd.prog 19 #[VA x a l c, VA x b l d] w fun e w' => e = .returned (.bool true) ∧ Below w.heap.size w w' := by
  obtain ⟨w1, hw1⟩ : ∃ w1, w1 = (w.alloc (boxS x a l c)).alloc (boxS x b l d) := ⟨_, rfl⟩
  have g0 : w1.heap[w.heap.size]? = some (boxS x a l c) := by rw [hw1]; exact heap_alloc2_old w _ _
  have g1 : w1.heap[w.heap.size + 1]? = some (boxS x b l d) := by rw [hw1]; exact heap_alloc2_new w _ _
  have hb1 : Below w.heap.size w w1 := by rw [hw1]; exact bel2 _ _ _
  have z1 : w.heap.size ≤ w1.heap.size := hb1.size
  have HB1 := Lib.hid hb1
  have HX := Lib.hid (hx.below hb1)
  have HY := Lib.hid (hy.below hb1)
  obtain ⟨c0, c1, c2, c3, -⟩ := box4 g0
  obtain ⟨d0, d1, d2, d3, -⟩ := box4 g1
  clear g0 g1 hb1 hx hy
  go_enter Tryd.func19, Tryd.ntmps19
  go_upto_region 1 with (fail)
  rw [← hw1]
  clear hw1
  go_wp2_with (go_at_call 37; refine (same_S w1 a l c x.ss HX.out b d HY.out).mono ?_; rintro e w2 ⟨rfl, hb2⟩)
  go_ret
  exact ⟨rfl, HB1.out.trans (hb2.mono z1)⟩
set_option maxRecDepth 100000 in
set_option maxHeartbeats 4000000 in
theorem same_len (w : World) (a : Option Addr) (n c : Nat) (b : Option Addr) (m d : Nat) (h : n ≠ m) :
    Calls Tryd.prog 37 #[.slice a n c, .slice b m d] w fun e w' => e = .returned (.bool false) ∧ w' = w := by
  have hI : ¬ (n : Int) = (m : Int) := by omega
  have h1 : (n == m) = false := by simp [h]
  have h2 : (n != m) = true := by simp [h]
  have h3 : ((n : Int) != (m : Int)) = true := by simp; omega
  go_enter Tryd.func37, Tryd.ntmps37
  go_wp2
  go_ret
  exact ⟨rfl, rfl⟩
set_option maxRecDepth 100000 in
set_option maxHeartbeats 4000000 in
/-- Two sets of which one has more members. -/
theorem sameV_len (w : World) (xs ys : List ByteArray) (a : Option Addr) (l c : Nat) (b : Option Addr) (m d : Nat) (h : l ≠ m) :
    Calls Tryd.prog 19 #[VA (setV xs) a l c, VA (setV ys) b m d] w fun e w' => e = .returned (.bool false) ∧ Below w.heap.size w w' := by
  obtain ⟨w1, hw1⟩ : ∃ w1, w1 = (w.alloc (boxS (setV xs) a l c)).alloc (boxS (setV ys) b m d) := ⟨_, rfl⟩
  have g0 : w1.heap[w.heap.size]? = some (boxS (setV xs) a l c) := by rw [hw1]; exact heap_alloc2_old w _ _
  have g1 : w1.heap[w.heap.size + 1]? = some (boxS (setV ys) b m d) := by rw [hw1]; exact heap_alloc2_new w _ _
  have HB1 := Lib.hid (show Below w.heap.size w w1 by rw [hw1]; exact bel2 _ _ _)
  have H := Lib.hid h
  obtain ⟨c0, c1, c2, c3, -⟩ := box4 g0
  obtain ⟨d0, d1, d2, d3, -⟩ := box4 g1
  clear g0 g1 h
  go_enter Tryd.func19, Tryd.ntmps19
  go_upto_region 1 with (fail)
  rw [← hw1]
  clear hw1
  go_wp2_with (go_at_call 37; refine (same_len w1 a l c b m d H.out).mono ?_; rintro e w2 ⟨rfl, rfl⟩)
  go_ret
  exact ⟨rfl, HB1.out⟩
/-- An operator of two values that tells something. -/
theorem twoV_ok (w : World) (op : Int) (ho : Two op) (x y r : Vl) (a : Option Addr) (l c : Nat) (hx : Fit x) (rx : RZ w a l c x.ss) (kx : x.k ≠ 0) (b : Option Addr) (m d : Nat) (hy : Fit y) (ry : RZ w b m d y.ss) (ky : y.k ≠ 0) (h : doubleW op x y = .ok r) (hr : r.ss.length ≤ 64) (ht : ResTab w 1) (h1 : 1 < w.heap.size) :
    Calls Tryd.prog 28 #[.int .i64 op, VA x a l c, VA y b m d] w fun e w' => (∃ a' c', e = .returned (.tuple #[VA r a' r.ss.length c', .int .i64 0]) ∧ RZ w' a' r.ss.length c' r.ss) ∧ Below w.heap.size w w' :=
  (two_any w op ho x a l c hx rx kx y b m d hy ry ky ht h1).mono fun e w' ⟨hm, hb⟩ => ⟨by
    rw [h] at hm
    obtain ⟨v, rfl, hs⟩ := hm
    obtain ⟨a', l', c', rfl, hl, -⟩ := id hs
    subst hl
    exact ⟨a', c', rfl, hs.rz (by omega)⟩, hb⟩
end Go.Proofs.YtcnckjlmldnblaaDoor
