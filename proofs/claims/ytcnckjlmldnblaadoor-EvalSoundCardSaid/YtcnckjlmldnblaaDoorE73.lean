import Derived.Test.YtcnckjlmldnblaaDoorE72
import Derived.Laws.CopyOwn
namespace Go.Proofs.YtcnckjlmldnblaaDoor
open Go Go.RowKit
set_option linter.unusedVariables false
set_option linter.unusedSimpArgs false
open Go.ChangeShapes Go.WideShapes
theorem below3 (w : World) (p q r : Array Value) (t u v : TypeId) : Below w.heap.size w (((w.alloc (.cells p t)).alloc (.cells q u)).alloc (.cells r v)) :=
  (((Below.refl _ _).alloc (Nat.le_refl _) _).alloc (by simp) _).alloc (by simp; omega) _
def LookOut (e : Ending) (r : (Int × Bool) × Int) : Prop := e = .returned (.tuple #[.agg #[.int .i64 r.1.1, .bool r.1.2], .int .i64 r.2])
/-- The looker's own memory. -/
structure LK (w : World) (g : Nat) (sc : List Nm) (ks : List (Int × Bool)) where
  sa : Option Addr
  sn : Nat
  sc' : Nat
  ra : Option Addr
  rc : Nat
  ka : Option Addr
  kc : Nat
  h0 : w.cell? ⟨g, 0, none⟩ = some (.slice sa sn sc')
  h1 : w.cell? ⟨g, 1, none⟩ = some (.slice ra 22 rc)
  h2 : w.cell? ⟨g, 2, none⟩ = some (.slice ka ks.length kc)
  rs : RS 3 Nm.cs w sa sn sc' sc
  rr : RS 4 Row.cs w ra 22 rc pairT
  rk : RS 2 Kd w ka ks.length kc ks
set_option maxRecDepth 100000 in
set_option maxHeartbeats 2000000 in
theorem look_const (w : World) (g : Nat) (op : Int) (r : Int × Bool) (h : ((op = 1 ∨ op = 30) ∧ r = (1, false)) ∨ ((op = 2 ∨ op = 25 ∨ op = 26) ∧ r = (2, false)) ∨ (op = 3 ∧ r = (3, false)) ∨ (op = 29 ∧ r = (4, false)) ∨ (op = 4 ∧ r = (0, true)))
    (nm : ByteArray) (vk vn : Int) (vt : ByteArray) (sa : Option Addr) (sl sc : Nat) (ka : Option Addr) (kl kc : Nat) (ht : NoTab w) (h0 : 0 < w.heap.size) :
    Calls Tryd.prog 48 #[.pointer (some ⟨g, 0, none⟩), .agg (nodeV op nm vk vn vt sa sl sc ka kl kc)] w fun e w' => LookOut e (r, 0) ∧ Below w.heap.size w w' := by
  obtain ⟨t0, t1⟩ := ht
  have hw := below3 w
  rcases h with ⟨rfl | rfl, rfl⟩ | ⟨rfl | rfl | rfl, rfl⟩ | ⟨rfl, rfl⟩ | ⟨rfl, rfl⟩ | ⟨rfl, rfl⟩
  · go_enter Tryd.func48, Tryd.ntmps48
    go_wp2
    exact bodyPost_ret (v := .tuple #[.agg #[.int .i64 1, .bool false], .int .i64 0]) (by simp [results, Tryd.results48, go_sem]) rfl ⟨rfl, hw _ _ _ _ _ _⟩
  · go_enter Tryd.func48, Tryd.ntmps48
    go_wp2
    exact bodyPost_ret (v := .tuple #[.agg #[.int .i64 1, .bool false], .int .i64 0]) (by simp [results, Tryd.results48, go_sem]) rfl ⟨rfl, hw _ _ _ _ _ _⟩
  · go_enter Tryd.func48, Tryd.ntmps48
    go_wp2
    exact bodyPost_ret (v := .tuple #[.agg #[.int .i64 2, .bool false], .int .i64 0]) (by simp [results, Tryd.results48, go_sem]) rfl ⟨rfl, hw _ _ _ _ _ _⟩
  · go_enter Tryd.func48, Tryd.ntmps48
    go_wp2
    exact bodyPost_ret (v := .tuple #[.agg #[.int .i64 2, .bool false], .int .i64 0]) (by simp [results, Tryd.results48, go_sem]) rfl ⟨rfl, hw _ _ _ _ _ _⟩
  · go_enter Tryd.func48, Tryd.ntmps48
    go_wp2
    exact bodyPost_ret (v := .tuple #[.agg #[.int .i64 2, .bool false], .int .i64 0]) (by simp [results, Tryd.results48, go_sem]) rfl ⟨rfl, hw _ _ _ _ _ _⟩
  · go_enter Tryd.func48, Tryd.ntmps48
    go_wp2
    exact bodyPost_ret (v := .tuple #[.agg #[.int .i64 3, .bool false], .int .i64 0]) (by simp [results, Tryd.results48, go_sem]) rfl ⟨rfl, hw _ _ _ _ _ _⟩
  · go_enter Tryd.func48, Tryd.ntmps48
    go_wp2
    exact bodyPost_ret (v := .tuple #[.agg #[.int .i64 4, .bool false], .int .i64 0]) (by simp [results, Tryd.results48, go_sem]) rfl ⟨rfl, hw _ _ _ _ _ _⟩
  · go_enter Tryd.func48, Tryd.ntmps48
    go_wp2
    exact bodyPost_ret (v := .tuple #[.agg #[.int .i64 0, .bool true], .int .i64 0]) (by simp [results, Tryd.results48, go_sem]) rfl ⟨rfl, hw _ _ _ _ _ _⟩
theorem facts3 (w : World) (p q r : Array Value) (t u v : TypeId) : (((w.alloc (.cells p t)).alloc (.cells q u)).alloc (.cells r v)).heap[w.heap.size]? = some (.cells p t) ∧
    (((w.alloc (.cells p t)).alloc (.cells q u)).alloc (.cells r v)).heap[w.heap.size + 1]? = some (.cells q u) ∧ (((w.alloc (.cells p t)).alloc (.cells q u)).alloc (.cells r v)).heap[w.heap.size + 1 + 1]? = some (.cells r v) ∧
    w.heap.size + 1 + 1 < (((w.alloc (.cells p t)).alloc (.cells q u)).alloc (.cells r v)).heap.size := by
  have h1 := heap_alloc_new w (.cells p t)
  have h2 := heap_alloc_new (w.alloc (.cells p t)) (.cells q u)
  have h3 := heap_alloc_new ((w.alloc (.cells p t)).alloc (.cells q u)) (.cells r v)
  simp only [World.size_alloc] at h2 h3
  exact ⟨((Below.heap_alloc _ _ _ (by simp; omega)).trans (Below.heap_alloc _ _ _ (by simp))).trans h1, (Below.heap_alloc _ _ _ (by simp)).trans h2, h3, by simp⟩
theorem LK.below {w w' : World} {g : Nat} {sc : List Nm} {ks : List (Int × Bool)} (K : LK w g sc ks) (hb : Below w.heap.size w w') : Nonempty (LK w' g sc ks) := by
  obtain ⟨sa, sn, sc', ra, rc, ka, kc, h0, h1, h2, rs, rr, rk⟩ := K
  have hg := block_lt_of_cell h0
  exact ⟨⟨sa, sn, sc', ra, rc, ka, kc, (hb.cell (p := ⟨g, 0, none⟩) hg).trans h0, (hb.cell (p := ⟨g, 1, none⟩) hg).trans h1, (hb.cell (p := ⟨g, 2, none⟩) hg).trans h2, rs.below hb, rr.below hb, rk.below hb⟩⟩
theorem set2 (w : World) (b : Nat) (p q x y : Value) (t : TypeId) (h : w.heap[b]? = some (.cells #[p, q] t (0, 0))) : ((w.setCell ⟨b, 0, none⟩ x).setCell ⟨b, 1, none⟩ y).heap[b]? = some (.cells #[x, y] t (0, 0)) :=
  heap_setCell_same _ b 1 _ _ y (heap_setCell_same w b 0 _ _ x h)
theorem below_set2 {B : Nat} {a w : World} (h : Below B a w) (b : Nat) (hb : B ≤ b) (x y : Value) : Below B a ((w.setCell ⟨b, 0, none⟩ x).setCell ⟨b, 1, none⟩ y) :=
  (h.setCell (p := ⟨b, 0, none⟩) hb x).setCell (p := ⟨b, 1, none⟩) hb y
set_option maxRecDepth 100000 in
set_option maxHeartbeats 2000000 in
theorem look_name (w : World) (g : Nat) (sc : List Nm) (ks : List (Int × Bool)) (K : LK w g sc ks) (op : Int) (h : op = 5 ∨ op = 24)
    (nm : ByteArray) (vk vn : Int) (vt : ByteArray) (sa : Option Addr) (sl sc' : Nat) (ka : Option Addr) (kl kc : Nat) :
    Calls Tryd.prog 48 #[.pointer (some ⟨g, 0, none⟩), .agg (nodeV op nm vk vn vt sa sl sc' ka kl kc)] w fun e w' => LookOut e (if (namedK sc nm.toList).2 then (if op = 24 then (2, false) else (namedK sc nm.toList).1, 0) else ((0, false), 34)) ∧ Below w.heap.size w w' := by
  generalize hq : namedK sc nm.toList = q
  obtain ⟨⟨qb, qo⟩, qk⟩ := q
  have HQ := Lib.hid hq
  clear hq
  rcases h with rfl | rfl
  · have hw := below3 w (nodeV 5 nm vk vn vt sa sl sc' ka kl kc) #[.int .i64 0, .bool false] #[.int .i64 0, .bool false] 61 74 74
    obtain ⟨g0, g1, g2, gs⟩ := facts3 w (nodeV 5 nm vk vn vt sa sl sc' ka kl kc) #[.int .i64 0, .bool false] #[.int .i64 0, .bool false] 61 74 74
    obtain ⟨K3⟩ := K.below hw
    have HQ3 := HQ
    go_enter Tryd.func48, Tryd.ntmps48
    go_wp2_with fail
    generalize ((w.alloc (.cells (nodeV 5 nm vk vn vt sa sl sc' ka kl kc) 61)).alloc (.cells #[.int .i64 0, .bool false] 74)).alloc (.cells #[.int .i64 0, .bool false] 74) = w3 at *
    with_reducible refine (named_any w3 g K3.sa K3.sn K3.sc' sc K3.rs K3.h0 nm).mono ?_
    rintro e w4 ⟨he, hb⟩
    rw [HQ.out] at he
    unfold KindOut at he
    subst he
    have hs := hb.size
    have c0 := cell_of_row w4 _ 0 _ _ _ ((hb.block w.heap.size (by omega)).trans g0)
    have c1 := cell_of_row w4 _ 0 _ _ _ ((hb.block (w.heap.size + 1) (by omega)).trans g1)
    have c1' := cell_of_row w4 _ 1 _ _ _ ((hb.block (w.heap.size + 1) (by omega)).trans g1)
    have c2 := cell_of_row w4 _ 0 _ _ _ ((hb.block (w.heap.size + 1 + 1) gs).trans g2)
    have c2' := cell_of_row w4 _ 1 _ _ _ ((hb.block (w.heap.size + 1 + 1) gs).trans g2)
    have f1 := frozen_of_row w4 _ 0 _ _ ((hb.block (w.heap.size + 1) (by omega)).trans g1)
    have f1' := frozen_of_row w4 _ 1 _ _ ((hb.block (w.heap.size + 1) (by omega)).trans g1)
    have f2 := frozen_of_row w4 _ 0 _ _ ((hb.block (w.heap.size + 1 + 1) gs).trans g2)
    have f2' := frozen_of_row w4 _ 1 _ _ ((hb.block (w.heap.size + 1 + 1) gs).trans g2)
    simp only [nodeV, List.getElem?_toArray, List.getElem?_cons_zero, List.getElem?_cons_succ] at c0 c1 c1' c2 c2'
    have HB := Lib.hid (hw.trans (hb.mono hw.size))
    clear g0 g1 g2 hw hb K3
    cases qk
    · go_wp2_with fail
      exact bodyPost_ret (v := .tuple #[.agg #[.int .i64 0, .bool false], .int .i64 34]) (by simp [results, Tryd.results48, go_sem, c1, c1']) rfl ⟨rfl, below_set2 (below_set2 (HB.out) _ (by omega) _ _) _ (by omega) _ _⟩
    · go_wp2_with fail
      exact bodyPost_ret (v := .tuple #[.agg #[.int .i64 qb, .bool qo], .int .i64 0]) (by simp [results, Tryd.results48, go_sem, c1, c1']) rfl ⟨rfl, below_set2 (below_set2 (HB.out) _ (by omega) _ _) _ (by omega) _ _⟩
  · have hw := below3 w (nodeV 24 nm vk vn vt sa sl sc' ka kl kc) #[.int .i64 0, .bool false] #[.int .i64 0, .bool false] 61 74 74
    obtain ⟨g0, g1, g2, gs⟩ := facts3 w (nodeV 24 nm vk vn vt sa sl sc' ka kl kc) #[.int .i64 0, .bool false] #[.int .i64 0, .bool false] 61 74 74
    obtain ⟨K3⟩ := K.below hw
    have HQ3 := HQ
    go_enter Tryd.func48, Tryd.ntmps48
    go_wp2_with fail
    generalize ((w.alloc (.cells (nodeV 24 nm vk vn vt sa sl sc' ka kl kc) 61)).alloc (.cells #[.int .i64 0, .bool false] 74)).alloc (.cells #[.int .i64 0, .bool false] 74) = w3 at *
    with_reducible refine (named_any w3 g K3.sa K3.sn K3.sc' sc K3.rs K3.h0 nm).mono ?_
    rintro e w4 ⟨he, hb⟩
    rw [HQ.out] at he
    unfold KindOut at he
    subst he
    have hs := hb.size
    have c0 := cell_of_row w4 _ 0 _ _ _ ((hb.block w.heap.size (by omega)).trans g0)
    have c1 := cell_of_row w4 _ 0 _ _ _ ((hb.block (w.heap.size + 1) (by omega)).trans g1)
    have c1' := cell_of_row w4 _ 1 _ _ _ ((hb.block (w.heap.size + 1) (by omega)).trans g1)
    have c2 := cell_of_row w4 _ 0 _ _ _ ((hb.block (w.heap.size + 1 + 1) gs).trans g2)
    have c2' := cell_of_row w4 _ 1 _ _ _ ((hb.block (w.heap.size + 1 + 1) gs).trans g2)
    have d2 := set2 _ _ _ _ (.int .i64 2) (.bool false) _ (set2 w4 _ _ _ (.int .i64 qb) (.bool qo) _ ((hb.block (w.heap.size + 1 + 1) gs).trans g2))
    have d20 := cell_of_row _ _ 0 _ _ _ d2
    have d21 := cell_of_row _ _ 1 _ _ _ d2
    clear d2
    have f1 := frozen_of_row w4 _ 0 _ _ ((hb.block (w.heap.size + 1) (by omega)).trans g1)
    have f1' := frozen_of_row w4 _ 1 _ _ ((hb.block (w.heap.size + 1) (by omega)).trans g1)
    have f2 := frozen_of_row w4 _ 0 _ _ ((hb.block (w.heap.size + 1 + 1) gs).trans g2)
    have f2' := frozen_of_row w4 _ 1 _ _ ((hb.block (w.heap.size + 1 + 1) gs).trans g2)
    simp only [nodeV, List.getElem?_toArray, List.getElem?_cons_zero, List.getElem?_cons_succ] at c0 c1 c1' c2 c2' d20 d21
    have HB := Lib.hid (hw.trans (hb.mono hw.size))
    clear g0 g1 g2 hw hb K3
    cases qk
    · go_wp2_with fail
      exact bodyPost_ret (v := .tuple #[.agg #[.int .i64 0, .bool false], .int .i64 34]) (by simp [results, Tryd.results48, go_sem, c1, c1']) rfl ⟨rfl, below_set2 (below_set2 (HB.out) _ (by omega) _ _) _ (by omega) _ _⟩
    · go_wp2_with fail
      exact bodyPost_ret (v := .tuple #[.agg #[.int .i64 2, .bool false], .int .i64 0]) (by simp [results, Tryd.results48, go_sem, c1, c1']) rfl ⟨rfl, below_set2 (below_set2 (below_set2 (HB.out) _ (by omega) _ _) _ (by omega) _ _) _ (by omega) _ _⟩
set_option maxRecDepth 100000 in
set_option maxHeartbeats 2000000 in
theorem look_set (w : World) (g : Nat) (sc : List Nm) (ks : List (Int × Bool)) (K : LK w g sc ks)
    (nm : ByteArray) (vk vn : Int) (vt : ByteArray) (sa : Option Addr) (sl sc' : Nat) (ka : Option Addr) (kl kc : Nat) (kids : List Nat) (hk : RS 1 IvN w ka kl kc kids) (hks : ∀ k ∈ kids, k < ks.length) :
    Calls Tryd.prog 48 #[.pointer (some ⟨g, 0, none⟩), .agg (nodeV 6 nm vk vn vt sa sl sc' ka kl kc)] w fun e w' => LookOut e (finK ((5, false), kids.all (textK ks))) ∧ Below w.heap.size w w' := by
  have hlen := hk.1
  have hn48 := hk.2.2.1
  have HKS := Lib.hid hks
  have hw := below3 w (nodeV 6 nm vk vn vt sa sl sc' ka kl kc) #[.int .i64 0, .bool false] #[.int .i64 5, .bool false] 61 74 74
  obtain ⟨g0, g1, g2, gs⟩ := facts3 w (nodeV 6 nm vk vn vt sa sl sc' ka kl kc) #[.int .i64 0, .bool false] #[.int .i64 5, .bool false] 61 74 74
  obtain ⟨K3⟩ := K.below hw
  have HK := Lib.hid (hk.below hw)
  have HB := Lib.hid hw
  clear hks hk hw
  go_enter Tryd.func48, Tryd.ntmps48
  go_wp2
  generalize ((w.alloc (.cells (nodeV 6 nm vk vn vt sa sl sc' ka kl kc) 61)).alloc (.cells #[.int .i64 0, .bool false] 74)).alloc (.cells #[.int .i64 5, .bool false] 74) = w3 at *
  have c1 := cell_of_row w3 _ 0 _ _ _ g1
  have c1' := cell_of_row w3 _ 1 _ _ _ g1
  have c2 := cell_of_row w3 _ 0 _ _ _ g2
  have c2' := cell_of_row w3 _ 1 _ _ _ g2
  have f1 := frozen_of_row w3 _ 0 _ _ g1
  have f1' := frozen_of_row w3 _ 1 _ _ g1
  simp only [List.getElem?_toArray, List.getElem?_cons_zero, List.getElem?_cons_succ] at c1 c1' c2 c2'
  clear g0 g1 g2
  have kc2 := K3.h2
  have krk := Lib.hid K3.rk
  have kl48 := K3.rk.2.2.1
  generalize K3.ka = ca at *
  generalize K3.kc = cc at *
  go_loop [84, 7] (fun i o => ∃ k : Nat, k ≤ kl ∧ i = .int .i64 k ∧ o = .bool ((kids.take k).all (textK ks))) (fun i _ => kl - (intOf i).toNat)
  case atStart => exact ⟨0, by omega, rfl, rfl⟩
  case round =>
    obtain ⟨k, hk, rfl, rfl⟩ := hrel
    by_cases hlt : k < kl
    · obtain ⟨b, off, x, rfl, hx, hcl⟩ := HK.out.at hlt
      have x0 := hcl 0 _ rfl
      simp only [Nat.add_zero, Nat.mul_one] at x0
      have hxl := HKS.out x (List.mem_of_getElem? hx)
      obtain ⟨b2, off2, q, rfl, hq, hcl2⟩ := krk.out.at hxl
      have q0 := hcl2 0 _ rfl
      simp only [Nat.add_zero] at q0
      have hnx : (kids.take (k + 1)).all (textK ks) = ((kids.take k).all (textK ks) && textK ks x) := by rw [List.take_add_one, hx, List.all_append]; simp
      have hxt : textK ks x = (q.1 == 3) := by simp [textK, List.getD_eq_getElem?_getD, hq]
      rw [hxt] at hnx
      have HNX := Lib.hid hnx
      have hltI : (k : Int) < (kl : Int) := by omega
      have hxI : (x : Int) < (ks.length : Int) := by omega
      clear hcl hcl2 hx hq hnx hxt
      obtain ⟨qb, qo⟩ := q
      simp only at q0 HNX
      cases ha : (kids.take k).all (textK ks)
      all_goals
        rw [ha] at HNX
        have HA := Lib.hid ha
        clear ha
        go_wp2
        go_round
        case rel => exact ⟨k + 1, by omega, by go_num, by rw [HNX.out]; rfl⟩
        case measure => simp [intOf]; omega
    · have hltI : ¬ (k : Int) < (kl : Int) := by omega
      have hal : (kids.take k).all (textK ks) = kids.all (textK ks) := by rw [List.take_of_length_le (by omega)]
      rw [hal]
      clear hal
      have hs1 : w.heap.size + 1 < w3.heap.size := by omega
      have hs0 : w.heap.size < w3.heap.size := by omega
      cases ha : kids.all (textK ks)
      · have HA := Lib.hid ha
        clear ha
        go_wp2
        exact bodyPost_ret (v := .tuple #[.agg #[.int .i64 0, .bool false], .int .i64 100]) (by simp [results, Tryd.results48, go_sem, c1, c1']) rfl ⟨by rw [HA.out]; rfl, below_set2 HB.out _ (by omega) _ _⟩
      · have HA := Lib.hid ha
        clear ha
        go_wp2
        exact bodyPost_ret (v := .tuple #[.agg #[.int .i64 5, .bool false], .int .i64 0]) (by simp [results, Tryd.results48, go_sem, c1, c1']) rfl ⟨by rw [HA.out]; rfl, below_set2 HB.out _ (by omega) _ _⟩
theorem kkeepc {w3 w4 : World} (hb : Below w3.drew.heap.size w3.drew w4) {b o : Nat} {v : Value} (h : w3.cell? ⟨b, o, none⟩ = some v) : w4.cell? ⟨b, o, none⟩ = some v :=
  (hb.cell (p := ⟨b, o, none⟩) (block_lt_of_cell (w := w3) h)).trans h
theorem kkeeps {w : World} {b o B o' : Nat} {v u : Value} (h : w.cell? ⟨b, o, none⟩ = some v) (hne : b ≠ B) : (w.setCell ⟨B, o', none⟩ u).cell? ⟨b, o, none⟩ = some v :=
  (World.cell?_of_block (heap_setCell_other w ⟨B, o', none⟩ b u hne)).trans h
set_option maxRecDepth 100000 in
set_option maxHeartbeats 4000000 in
theorem look_one7 (w : World) (g : Nat) (sc : List Nm) (ks : List (Int × Bool)) (K : LK w g sc ks)
    (nm : ByteArray) (vk vn : Int) (vt : ByteArray) (sa : Option Addr) (sl sc' : Nat) (ka : Option Addr) (kc : Nat) (x : Nat) (hk : RS 1 IvN w ka 1 kc [x]) (hx : x < ks.length) :
    Calls Tryd.prog 48 #[.pointer (some ⟨g, 0, none⟩), .agg (nodeV 7 nm vk vn vt sa sl sc' ka 1 kc)] w fun e w' => LookOut e (finK (((oneK 7 (ks.getD x (0, false)).1).1, false), (oneK 7 (ks.getD x (0, false)).1).2)) ∧ Below w.heap.size w w' := by
  have hw := below3 w (nodeV 7 nm vk vn vt sa sl sc' ka 1 kc) #[.int .i64 0, .bool false] #[.int .i64 0, .bool false] 61 74 74
  obtain ⟨g0, g1, g2, gs⟩ := facts3 w (nodeV 7 nm vk vn vt sa sl sc' ka 1 kc) #[.int .i64 0, .bool false] #[.int .i64 0, .bool false] 61 74 74
  obtain ⟨b, off, y, rfl, hy, hcl⟩ := hk.at (i := 0) (by omega)
  obtain rfl : x = y := by simpa using hy
  obtain ⟨b2, off2, q, hka, hq, hcl2⟩ := K.rk.at hx
  have x0 := hcl 0 _ rfl
  have q0 := hcl2 0 _ rfl
  have q1 := hcl2 1 _ rfl
  have kc2 := K.h2
  rw [hka] at kc2
  generalize K.kc = cc at *
  simp only [Nat.add_zero, Nat.zero_mul] at x0 q0
  have hgx : ks.getD x (0, false) = q := by simp [List.getD_eq_getElem?_getD, hq]
  rw [hgx]
  obtain ⟨qb, qo⟩ := q
  simp only at q0 q1 ⊢
  have hxI : (x : Int) < (ks.length : Int) := by omega
  have HB := Lib.hid hw
  have l0 : b < w.heap.size := block_lt_of_cell x0
  have l1 : b2 < w.heap.size := block_lt_of_cell q0
  have l2 : g < w.heap.size := block_lt_of_cell kc2
  replace x0 := (hw.cell (p := ⟨b, off, none⟩) l0).trans x0
  replace q0 := (hw.cell (p := ⟨b2, off2 + x * 2, none⟩) l1).trans q0
  replace q1 := (hw.cell (p := ⟨b2, off2 + x * 2 + 1, none⟩) l1).trans q1
  replace kc2 := (hw.cell (p := ⟨g, 2, none⟩) l2).trans kc2
  clear hk hcl hcl2 hy hka hq hgx hw
  generalize hr : oneK 7 qb = r
  obtain ⟨rb, rk⟩ := r
  have HRK := Lib.hid hr
  clear hr
  go_enter Tryd.func48, Tryd.ntmps48
  go_wp2_with fail
  generalize ((w.alloc (.cells (nodeV 7 nm vk vn vt sa sl sc' (some ⟨b, off, none⟩) 1 kc) 61)).alloc (.cells #[.int .i64 0, .bool false] 74)).alloc (.cells #[.int .i64 0, .bool false] 74) = w3 at *
  have n0 := cell_of_row w3 _ 0 _ _ _ g0
  have n6 := cell_of_row w3 _ 6 _ _ _ g0
  simp only [nodeV, List.getElem?_toArray, List.getElem?_cons_zero, List.getElem?_cons_succ] at n0 n6
  go_region_held3 (fun w' => w'.cell? ⟨w.heap.size, 0, none⟩ = some (.int .i64 7) ∧ w'.cell? ⟨w.heap.size, 6, none⟩ = some (.slice (some ⟨b, off, none⟩) 1 kc) ∧ w'.cell? ⟨g, 2, none⟩ = some (.slice (some ⟨b2, off2, none⟩) ks.length cc) ∧ w'.cell? ⟨b, off, none⟩ = some (.int .i64 x) ∧ w'.cell? ⟨b2, off2 + x * 2, none⟩ = some (.int .i64 qb) ∧ w'.cell? ⟨b2, off2 + x * 2 + 1, none⟩ = some (.bool qo))
    (first | exact ⟨n0, n6, kc2, x0, q0, q1⟩ | exact ⟨kkeepc hb n0, kkeepc hb n6, kkeepc hb kc2, kkeepc hb x0, kkeepc hb q0, kkeepc hb q1⟩ | exact ⟨kkeeps (kkeepc hb n0) (by omega), kkeeps (kkeepc hb n6) (by omega), kkeeps (kkeepc hb kc2) (by omega), kkeeps (kkeepc hb x0) (by omega), kkeeps (kkeepc hb q0) (by omega), kkeeps (kkeepc hb q1) (by omega)⟩)
    (first | (go_at_call 60; refine (one_any w3.drew 7 qb qo).mono ?_; rintro e w4 ⟨he, hb⟩; rw [HRK.out] at he; unfold OneOut at he; subst he; have g2' := (hb.block (w.heap.size + 1 + 1) gs).trans g2; have k0 := cell_of_row w4 _ 0 _ _ _ g2'; have k1 := cell_of_row w4 _ 1 _ _ _ g2'; have kf := frozen_of_row w4 _ 0 _ _ g2'; simp only [List.getElem?_toArray, List.getElem?_cons_zero, List.getElem?_cons_succ] at k0 k1))
  have g1' := (hb.block (w.heap.size + 1) (show _ < w3.heap.size by omega)).trans g1
  have c1 := cell_of_row w4 _ 0 _ _ _ g1'
  have c1' := cell_of_row w4 _ 1 _ _ _ g1'
  have f1 := frozen_of_row w4 _ 0 _ _ g1'
  have f1' := frozen_of_row w4 _ 1 _ _ g1'
  simp only [List.getElem?_toArray, List.getElem?_cons_zero, List.getElem?_cons_succ] at c1 c1'
  have hs : w3.heap.size ≤ w4.heap.size := hb.size
  have HB4 := Lib.hid ((HB.out.drew.trans (hb.mono HB.out.size)))
  have z1 : w.heap.size + 1 < w4.heap.size := by omega
  have z2 : w.heap.size + 1 + 1 < w4.heap.size := by omega
  clear g0 g1 g2 g1' hb
  cases rk
  · go_wp2_with fail
    exact bodyPost_ret (v := .tuple #[.agg #[.int .i64 0, .bool false], .int .i64 100]) (by simp [results, Tryd.results48, go_sem, c1, c1']) rfl ⟨rfl, below_set2 (HB4.out.setCell (p := ⟨w.heap.size + 1 + 1, 0, none⟩) (by show w.heap.size ≤ w.heap.size + 1 + 1; omega) _) _ (by omega) _ _⟩
  · go_wp2_with fail
    exact bodyPost_ret (v := .tuple #[.agg #[.int .i64 rb, .bool false], .int .i64 0]) (by simp [results, Tryd.results48, go_sem, c1, c1']) rfl ⟨rfl, below_set2 (HB4.out.setCell (p := ⟨w.heap.size + 1 + 1, 0, none⟩) (by show w.heap.size ≤ w.heap.size + 1 + 1; omega) _) _ (by omega) _ _⟩
set_option maxRecDepth 100000 in
set_option maxHeartbeats 4000000 in
theorem look_one8 (w : World) (g : Nat) (sc : List Nm) (ks : List (Int × Bool)) (K : LK w g sc ks)
    (nm : ByteArray) (vk vn : Int) (vt : ByteArray) (sa : Option Addr) (sl sc' : Nat) (ka : Option Addr) (kc : Nat) (x : Nat) (hk : RS 1 IvN w ka 1 kc [x]) (hx : x < ks.length) :
    Calls Tryd.prog 48 #[.pointer (some ⟨g, 0, none⟩), .agg (nodeV 8 nm vk vn vt sa sl sc' ka 1 kc)] w fun e w' => LookOut e (finK (((oneK 8 (ks.getD x (0, false)).1).1, false), (oneK 8 (ks.getD x (0, false)).1).2)) ∧ Below w.heap.size w w' := by
  have hw := below3 w (nodeV 8 nm vk vn vt sa sl sc' ka 1 kc) #[.int .i64 0, .bool false] #[.int .i64 0, .bool false] 61 74 74
  obtain ⟨g0, g1, g2, gs⟩ := facts3 w (nodeV 8 nm vk vn vt sa sl sc' ka 1 kc) #[.int .i64 0, .bool false] #[.int .i64 0, .bool false] 61 74 74
  obtain ⟨b, off, y, rfl, hy, hcl⟩ := hk.at (i := 0) (by omega)
  obtain rfl : x = y := by simpa using hy
  obtain ⟨b2, off2, q, hka, hq, hcl2⟩ := K.rk.at hx
  have x0 := hcl 0 _ rfl
  have q0 := hcl2 0 _ rfl
  have q1 := hcl2 1 _ rfl
  have kc2 := K.h2
  rw [hka] at kc2
  generalize K.kc = cc at *
  simp only [Nat.add_zero, Nat.zero_mul] at x0 q0
  have hgx : ks.getD x (0, false) = q := by simp [List.getD_eq_getElem?_getD, hq]
  rw [hgx]
  obtain ⟨qb, qo⟩ := q
  simp only at q0 q1 ⊢
  have hxI : (x : Int) < (ks.length : Int) := by omega
  have HB := Lib.hid hw
  have l0 : b < w.heap.size := block_lt_of_cell x0
  have l1 : b2 < w.heap.size := block_lt_of_cell q0
  have l2 : g < w.heap.size := block_lt_of_cell kc2
  replace x0 := (hw.cell (p := ⟨b, off, none⟩) l0).trans x0
  replace q0 := (hw.cell (p := ⟨b2, off2 + x * 2, none⟩) l1).trans q0
  replace q1 := (hw.cell (p := ⟨b2, off2 + x * 2 + 1, none⟩) l1).trans q1
  replace kc2 := (hw.cell (p := ⟨g, 2, none⟩) l2).trans kc2
  clear hk hcl hcl2 hy hka hq hgx hw
  generalize hr : oneK 8 qb = r
  obtain ⟨rb, rk⟩ := r
  have HRK := Lib.hid hr
  clear hr
  go_enter Tryd.func48, Tryd.ntmps48
  go_wp2_with fail
  generalize ((w.alloc (.cells (nodeV 8 nm vk vn vt sa sl sc' (some ⟨b, off, none⟩) 1 kc) 61)).alloc (.cells #[.int .i64 0, .bool false] 74)).alloc (.cells #[.int .i64 0, .bool false] 74) = w3 at *
  have n0 := cell_of_row w3 _ 0 _ _ _ g0
  have n6 := cell_of_row w3 _ 6 _ _ _ g0
  simp only [nodeV, List.getElem?_toArray, List.getElem?_cons_zero, List.getElem?_cons_succ] at n0 n6
  go_region_held3 (fun w' => w'.cell? ⟨w.heap.size, 0, none⟩ = some (.int .i64 8) ∧ w'.cell? ⟨w.heap.size, 6, none⟩ = some (.slice (some ⟨b, off, none⟩) 1 kc) ∧ w'.cell? ⟨g, 2, none⟩ = some (.slice (some ⟨b2, off2, none⟩) ks.length cc) ∧ w'.cell? ⟨b, off, none⟩ = some (.int .i64 x) ∧ w'.cell? ⟨b2, off2 + x * 2, none⟩ = some (.int .i64 qb) ∧ w'.cell? ⟨b2, off2 + x * 2 + 1, none⟩ = some (.bool qo))
    (first | exact ⟨n0, n6, kc2, x0, q0, q1⟩ | exact ⟨kkeepc hb n0, kkeepc hb n6, kkeepc hb kc2, kkeepc hb x0, kkeepc hb q0, kkeepc hb q1⟩ | exact ⟨kkeeps (kkeepc hb n0) (by omega), kkeeps (kkeepc hb n6) (by omega), kkeeps (kkeepc hb kc2) (by omega), kkeeps (kkeepc hb x0) (by omega), kkeeps (kkeepc hb q0) (by omega), kkeeps (kkeepc hb q1) (by omega)⟩)
    (first | (go_at_call 60; refine (one_any w3.drew 8 qb qo).mono ?_; rintro e w4 ⟨he, hb⟩; rw [HRK.out] at he; unfold OneOut at he; subst he; have g2' := (hb.block (w.heap.size + 1 + 1) gs).trans g2; have k0 := cell_of_row w4 _ 0 _ _ _ g2'; have k1 := cell_of_row w4 _ 1 _ _ _ g2'; have kf := frozen_of_row w4 _ 0 _ _ g2'; simp only [List.getElem?_toArray, List.getElem?_cons_zero, List.getElem?_cons_succ] at k0 k1))
  have g1' := (hb.block (w.heap.size + 1) (show _ < w3.heap.size by omega)).trans g1
  have c1 := cell_of_row w4 _ 0 _ _ _ g1'
  have c1' := cell_of_row w4 _ 1 _ _ _ g1'
  have f1 := frozen_of_row w4 _ 0 _ _ g1'
  have f1' := frozen_of_row w4 _ 1 _ _ g1'
  simp only [List.getElem?_toArray, List.getElem?_cons_zero, List.getElem?_cons_succ] at c1 c1'
  have hs : w3.heap.size ≤ w4.heap.size := hb.size
  have HB4 := Lib.hid ((HB.out.drew.trans (hb.mono HB.out.size)))
  have z1 : w.heap.size + 1 < w4.heap.size := by omega
  have z2 : w.heap.size + 1 + 1 < w4.heap.size := by omega
  clear g0 g1 g2 g1' hb
  cases rk
  · go_wp2_with fail
    exact bodyPost_ret (v := .tuple #[.agg #[.int .i64 0, .bool false], .int .i64 100]) (by simp [results, Tryd.results48, go_sem, c1, c1']) rfl ⟨rfl, below_set2 (HB4.out.setCell (p := ⟨w.heap.size + 1 + 1, 0, none⟩) (by show w.heap.size ≤ w.heap.size + 1 + 1; omega) _) _ (by omega) _ _⟩
  · go_wp2_with fail
    exact bodyPost_ret (v := .tuple #[.agg #[.int .i64 rb, .bool false], .int .i64 0]) (by simp [results, Tryd.results48, go_sem, c1, c1']) rfl ⟨rfl, below_set2 (HB4.out.setCell (p := ⟨w.heap.size + 1 + 1, 0, none⟩) (by show w.heap.size ≤ w.heap.size + 1 + 1; omega) _) _ (by omega) _ _⟩
set_option maxRecDepth 100000 in
set_option maxHeartbeats 4000000 in
theorem look_one27 (w : World) (g : Nat) (sc : List Nm) (ks : List (Int × Bool)) (K : LK w g sc ks)
    (nm : ByteArray) (vk vn : Int) (vt : ByteArray) (sa : Option Addr) (sl sc' : Nat) (ka : Option Addr) (kc : Nat) (x : Nat) (hk : RS 1 IvN w ka 1 kc [x]) (hx : x < ks.length) :
    Calls Tryd.prog 48 #[.pointer (some ⟨g, 0, none⟩), .agg (nodeV 27 nm vk vn vt sa sl sc' ka 1 kc)] w fun e w' => LookOut e (finK (((oneK 27 (ks.getD x (0, false)).1).1, false), (oneK 27 (ks.getD x (0, false)).1).2)) ∧ Below w.heap.size w w' := by
  have hw := below3 w (nodeV 27 nm vk vn vt sa sl sc' ka 1 kc) #[.int .i64 0, .bool false] #[.int .i64 0, .bool false] 61 74 74
  obtain ⟨g0, g1, g2, gs⟩ := facts3 w (nodeV 27 nm vk vn vt sa sl sc' ka 1 kc) #[.int .i64 0, .bool false] #[.int .i64 0, .bool false] 61 74 74
  obtain ⟨b, off, y, rfl, hy, hcl⟩ := hk.at (i := 0) (by omega)
  obtain rfl : x = y := by simpa using hy
  obtain ⟨b2, off2, q, hka, hq, hcl2⟩ := K.rk.at hx
  have x0 := hcl 0 _ rfl
  have q0 := hcl2 0 _ rfl
  have q1 := hcl2 1 _ rfl
  have kc2 := K.h2
  rw [hka] at kc2
  generalize K.kc = cc at *
  simp only [Nat.add_zero, Nat.zero_mul] at x0 q0
  have hgx : ks.getD x (0, false) = q := by simp [List.getD_eq_getElem?_getD, hq]
  rw [hgx]
  obtain ⟨qb, qo⟩ := q
  simp only at q0 q1 ⊢
  have hxI : (x : Int) < (ks.length : Int) := by omega
  have HB := Lib.hid hw
  have l0 : b < w.heap.size := block_lt_of_cell x0
  have l1 : b2 < w.heap.size := block_lt_of_cell q0
  have l2 : g < w.heap.size := block_lt_of_cell kc2
  replace x0 := (hw.cell (p := ⟨b, off, none⟩) l0).trans x0
  replace q0 := (hw.cell (p := ⟨b2, off2 + x * 2, none⟩) l1).trans q0
  replace q1 := (hw.cell (p := ⟨b2, off2 + x * 2 + 1, none⟩) l1).trans q1
  replace kc2 := (hw.cell (p := ⟨g, 2, none⟩) l2).trans kc2
  clear hk hcl hcl2 hy hka hq hgx hw
  generalize hr : oneK 27 qb = r
  obtain ⟨rb, rk⟩ := r
  have HRK := Lib.hid hr
  clear hr
  go_enter Tryd.func48, Tryd.ntmps48
  go_wp2_with fail
  generalize ((w.alloc (.cells (nodeV 27 nm vk vn vt sa sl sc' (some ⟨b, off, none⟩) 1 kc) 61)).alloc (.cells #[.int .i64 0, .bool false] 74)).alloc (.cells #[.int .i64 0, .bool false] 74) = w3 at *
  have n0 := cell_of_row w3 _ 0 _ _ _ g0
  have n6 := cell_of_row w3 _ 6 _ _ _ g0
  simp only [nodeV, List.getElem?_toArray, List.getElem?_cons_zero, List.getElem?_cons_succ] at n0 n6
  go_region_held3 (fun w' => w'.cell? ⟨w.heap.size, 0, none⟩ = some (.int .i64 27) ∧ w'.cell? ⟨w.heap.size, 6, none⟩ = some (.slice (some ⟨b, off, none⟩) 1 kc) ∧ w'.cell? ⟨g, 2, none⟩ = some (.slice (some ⟨b2, off2, none⟩) ks.length cc) ∧ w'.cell? ⟨b, off, none⟩ = some (.int .i64 x) ∧ w'.cell? ⟨b2, off2 + x * 2, none⟩ = some (.int .i64 qb) ∧ w'.cell? ⟨b2, off2 + x * 2 + 1, none⟩ = some (.bool qo))
    (first | exact ⟨n0, n6, kc2, x0, q0, q1⟩ | exact ⟨kkeepc hb n0, kkeepc hb n6, kkeepc hb kc2, kkeepc hb x0, kkeepc hb q0, kkeepc hb q1⟩ | exact ⟨kkeeps (kkeepc hb n0) (by omega), kkeeps (kkeepc hb n6) (by omega), kkeeps (kkeepc hb kc2) (by omega), kkeeps (kkeepc hb x0) (by omega), kkeeps (kkeepc hb q0) (by omega), kkeeps (kkeepc hb q1) (by omega)⟩)
    (first | (go_at_call 60; refine (one_any w3.drew 27 qb qo).mono ?_; rintro e w4 ⟨he, hb⟩; rw [HRK.out] at he; unfold OneOut at he; subst he; have g2' := (hb.block (w.heap.size + 1 + 1) gs).trans g2; have k0 := cell_of_row w4 _ 0 _ _ _ g2'; have k1 := cell_of_row w4 _ 1 _ _ _ g2'; have kf := frozen_of_row w4 _ 0 _ _ g2'; simp only [List.getElem?_toArray, List.getElem?_cons_zero, List.getElem?_cons_succ] at k0 k1))
  have g1' := (hb.block (w.heap.size + 1) (show _ < w3.heap.size by omega)).trans g1
  have c1 := cell_of_row w4 _ 0 _ _ _ g1'
  have c1' := cell_of_row w4 _ 1 _ _ _ g1'
  have f1 := frozen_of_row w4 _ 0 _ _ g1'
  have f1' := frozen_of_row w4 _ 1 _ _ g1'
  simp only [List.getElem?_toArray, List.getElem?_cons_zero, List.getElem?_cons_succ] at c1 c1'
  have hs : w3.heap.size ≤ w4.heap.size := hb.size
  have HB4 := Lib.hid ((HB.out.drew.trans (hb.mono HB.out.size)))
  have z1 : w.heap.size + 1 < w4.heap.size := by omega
  have z2 : w.heap.size + 1 + 1 < w4.heap.size := by omega
  clear g0 g1 g2 g1' hb
  cases rk
  · go_wp2_with fail
    exact bodyPost_ret (v := .tuple #[.agg #[.int .i64 0, .bool false], .int .i64 100]) (by simp [results, Tryd.results48, go_sem, c1, c1']) rfl ⟨rfl, below_set2 (HB4.out.setCell (p := ⟨w.heap.size + 1 + 1, 0, none⟩) (by show w.heap.size ≤ w.heap.size + 1 + 1; omega) _) _ (by omega) _ _⟩
  · go_wp2_with fail
    exact bodyPost_ret (v := .tuple #[.agg #[.int .i64 rb, .bool false], .int .i64 0]) (by simp [results, Tryd.results48, go_sem, c1, c1']) rfl ⟨rfl, below_set2 (HB4.out.setCell (p := ⟨w.heap.size + 1 + 1, 0, none⟩) (by show w.heap.size ≤ w.heap.size + 1 + 1; omega) _) _ (by omega) _ _⟩
set_option maxRecDepth 100000 in
set_option maxHeartbeats 4000000 in
theorem look_if (w : World) (g : Nat) (sc : List Nm) (ks : List (Int × Bool)) (K : LK w g sc ks) (ht : NoTab w) (h0 : 0 < w.heap.size)
    (nm : ByteArray) (vk vn : Int) (vt : ByteArray) (sa : Option Addr) (sl sc' : Nat) (ka : Option Addr) (kc : Nat) (x y z : Nat) (hk : RS 1 IvN w ka 3 kc [x, y, z]) (hx : x < ks.length) (hy : y < ks.length) (hz : z < ks.length) :
    Calls Tryd.prog 48 #[.pointer (some ⟨g, 0, none⟩), .agg (nodeV 23 nm vk vn vt sa sl sc' ka 3 kc)] w fun e w' =>
      LookOut e (finK ((joinedK (ks.getD y (0, false)) (ks.getD z (0, false))).1, (joinedK (ks.getD y (0, false)) (ks.getD z (0, false))).2 && (ks.getD x (0, false)).1 == 2)) ∧ Below w.heap.size w w' := by
  have hw := below3 w (nodeV 23 nm vk vn vt sa sl sc' ka 3 kc) #[.int .i64 0, .bool false] #[.int .i64 0, .bool false] 61 74 74
  obtain ⟨g0, g1, g2, gs⟩ := facts3 w (nodeV 23 nm vk vn vt sa sl sc' ka 3 kc) #[.int .i64 0, .bool false] #[.int .i64 0, .bool false] 61 74 74
  obtain ⟨b, off, _, rfl, -, -⟩ := hk.at (i := 0) (by omega)
  have x0 := hk.cell 0 x rfl 0 _ rfl
  have y0 := hk.cell 1 y rfl 0 _ rfl
  have z0 := hk.cell 2 z rfl 0 _ rfl
  have krk := K.rk
  have kc2 := K.h2
  generalize K.kc = cc at *
  generalize K.ka = ca at *
  obtain ⟨b2, off2, q, rfl, hq, -⟩ := krk.at hx
  obtain ⟨_, _, r, -, hr, -⟩ := krk.at hy
  obtain ⟨_, _, s, -, hs, -⟩ := krk.at hz
  have q0 := krk.cell x q hq 0 _ rfl
  have r0 := krk.cell y r hr 0 _ rfl
  have r1 := krk.cell y r hr 1 _ rfl
  have s0 := krk.cell z s hs 0 _ rfl
  have s1 := krk.cell z s hs 1 _ rfl
  simp only [Nat.add_zero, Nat.mul_one] at x0 y0 z0 q0 r0 s0
  have hgx : ks.getD x (0, false) = q := by simp [List.getD_eq_getElem?_getD, hq]
  have hgy : ks.getD y (0, false) = r := by simp [List.getD_eq_getElem?_getD, hr]
  have hgz : ks.getD z (0, false) = s := by simp [List.getD_eq_getElem?_getD, hs]
  rw [hgx, hgy, hgz]
  obtain ⟨qb, qo⟩ := q
  obtain ⟨rb, ro⟩ := r
  obtain ⟨sb, so⟩ := s
  simp only at q0 r0 r1 s0 s1 ⊢
  have hxI : (x : Int) < (ks.length : Int) := by omega
  have hyI : (y : Int) < (ks.length : Int) := by omega
  have hzI : (z : Int) < (ks.length : Int) := by omega
  have HB := Lib.hid hw
  have l0 : b < w.heap.size := block_lt_of_cell x0
  have l1 : b2 < w.heap.size := block_lt_of_cell q0
  have l2 : g < w.heap.size := block_lt_of_cell kc2
  have HT := Lib.hid (ht.below hw h0)
  replace x0 := (hw.cell (p := ⟨b, off, none⟩) l0).trans x0
  replace y0 := (hw.cell (p := ⟨b, off + 1, none⟩) l0).trans y0
  replace z0 := (hw.cell (p := ⟨b, off + 2, none⟩) l0).trans z0
  replace q0 := (hw.cell (p := ⟨b2, off2 + x * 2, none⟩) l1).trans q0
  replace r0 := (hw.cell (p := ⟨b2, off2 + y * 2, none⟩) l1).trans r0
  replace r1 := (hw.cell (p := ⟨b2, off2 + y * 2 + 1, none⟩) l1).trans r1
  replace s0 := (hw.cell (p := ⟨b2, off2 + z * 2, none⟩) l1).trans s0
  replace s1 := (hw.cell (p := ⟨b2, off2 + z * 2 + 1, none⟩) l1).trans s1
  replace kc2 := (hw.cell (p := ⟨g, 2, none⟩) l2).trans kc2
  clear hk krk hq hr hs hgx hgy hgz hw ht
  generalize hjj : joinedK (rb, ro) (sb, so) = jj
  obtain ⟨⟨jb, jo⟩, jk⟩ := jj
  have HJ := Lib.hid hjj
  clear hjj
  go_enter Tryd.func48, Tryd.ntmps48
  go_wp2_with fail
  generalize ((w.alloc (.cells (nodeV 23 nm vk vn vt sa sl sc' (some ⟨b, off, none⟩) 3 kc) 61)).alloc (.cells #[.int .i64 0, .bool false] 74)).alloc (.cells #[.int .i64 0, .bool false] 74) = w3 at *
  have n6 := cell_of_row w3 _ 6 _ _ _ g0
  simp only [nodeV, List.getElem?_toArray, List.getElem?_cons_zero, List.getElem?_cons_succ] at n6
  have h03 : 0 < w3.heap.size := by omega
  go_region_held3 (fun w' => w'.cell? ⟨w.heap.size, 6, none⟩ = some (.slice (some ⟨b, off, none⟩) 3 kc) ∧ w'.cell? ⟨g, 2, none⟩ = some (.slice (some ⟨b2, off2, none⟩) ks.length cc) ∧ w'.cell? ⟨b, off + 1, none⟩ = some (.int .i64 y) ∧ w'.cell? ⟨b, off + 2, none⟩ = some (.int .i64 z) ∧ w'.cell? ⟨b2, off2 + y * 2, none⟩ = some (.int .i64 rb) ∧ w'.cell? ⟨b2, off2 + y * 2 + 1, none⟩ = some (.bool ro) ∧ w'.cell? ⟨b2, off2 + z * 2, none⟩ = some (.int .i64 sb) ∧ w'.cell? ⟨b2, off2 + z * 2 + 1, none⟩ = some (.bool so))
    (first | exact ⟨n6, kc2, y0, z0, r0, r1, s0, s1⟩ | exact ⟨kkeepc hb n6, kkeepc hb kc2, kkeepc hb y0, kkeepc hb z0, kkeepc hb r0, kkeepc hb r1, kkeepc hb s0, kkeepc hb s1⟩ | exact ⟨kkeeps (kkeeps (kkeepc hb n6) (by omega)) (by omega), kkeeps (kkeeps (kkeepc hb kc2) (by omega)) (by omega), kkeeps (kkeeps (kkeepc hb y0) (by omega)) (by omega), kkeeps (kkeeps (kkeepc hb z0) (by omega)) (by omega), kkeeps (kkeeps (kkeepc hb r0) (by omega)) (by omega), kkeeps (kkeeps (kkeepc hb r1) (by omega)) (by omega), kkeeps (kkeeps (kkeepc hb s0) (by omega)) (by omega), kkeeps (kkeeps (kkeepc hb s1) (by omega)) (by omega)⟩)
    (first | (go_at_call 61; refine (joined_any w3.drew rb sb ro so HT.out h03).mono ?_; rintro e w4 ⟨he, hb⟩; rw [HJ.out] at he; unfold KindOut at he; subst he; have g2' := (hb.block (w.heap.size + 1 + 1) gs).trans g2; have k0 := cell_of_row w4 _ 0 _ _ _ g2'; have k1 := cell_of_row w4 _ 1 _ _ _ g2'; have kf := frozen_of_row w4 _ 0 _ _ g2'; have kf1 := frozen_of_row w4 _ 1 _ _ g2'; simp only [List.getElem?_toArray, List.getElem?_cons_zero, List.getElem?_cons_succ] at k0 k1))
  have G2 := set2 w4 _ _ _ (.int .i64 jb) (.bool jo) _ ((hb.block (w.heap.size + 1 + 1) gs).trans g2)
  have G1 := ((heap_setCell_other _ ⟨w.heap.size + 1 + 1, 1, none⟩ (w.heap.size + 1) (.bool jo) (by simp)).trans (heap_setCell_other w4 ⟨w.heap.size + 1 + 1, 0, none⟩ (w.heap.size + 1) (.int .i64 jb) (by simp))).trans ((hb.block (w.heap.size + 1) (show _ < w3.heap.size by omega)).trans g1)
  have N6 := kkeeps (o' := 1) (u := .bool jo) (kkeeps (o' := 0) (u := .int .i64 jb) (kkeepc hb n6) (show w.heap.size ≠ w.heap.size + 1 + 1 by omega)) (show w.heap.size ≠ w.heap.size + 1 + 1 by omega)
  have KC := kkeeps (o' := 1) (u := .bool jo) (kkeeps (o' := 0) (u := .int .i64 jb) (kkeepc hb kc2) (show g ≠ w.heap.size + 1 + 1 by omega)) (show g ≠ w.heap.size + 1 + 1 by omega)
  have X0 := kkeeps (o' := 1) (u := .bool jo) (kkeeps (o' := 0) (u := .int .i64 jb) (kkeepc hb x0) (show b ≠ w.heap.size + 1 + 1 by omega)) (show b ≠ w.heap.size + 1 + 1 by omega)
  have Q0 := kkeeps (o' := 1) (u := .bool jo) (kkeeps (o' := 0) (u := .int .i64 jb) (kkeepc hb q0) (show b2 ≠ w.heap.size + 1 + 1 by omega)) (show b2 ≠ w.heap.size + 1 + 1 by omega)
  have hs : w3.heap.size ≤ w4.heap.size := hb.size
  have HB5 := Lib.hid (below_set2 (HB.out.drew.trans (hb.mono HB.out.size)) (w.heap.size + 1 + 1) (by omega) (.int .i64 jb) (.bool jo))
  have hs5 : ((w4.setCell ⟨w.heap.size + 1 + 1, 0, none⟩ (.int .i64 jb)).setCell ⟨w.heap.size + 1 + 1, 1, none⟩ (.bool jo)).heap.size = w4.heap.size := by simp
  clear g0 g1 g2 g2' k0 k1 kf kf1 n6 kc2 x0 y0 z0 q0 r0 r1 s0 s1
  generalize (w4.setCell ⟨w.heap.size + 1 + 1, 0, none⟩ (.int .i64 jb)).setCell ⟨w.heap.size + 1 + 1, 1, none⟩ (.bool jo) = w5 at *
  have c1 := cell_of_row w5 _ 0 _ _ _ G1
  have c1' := cell_of_row w5 _ 1 _ _ _ G1
  have f1 := frozen_of_row w5 _ 0 _ _ G1
  have f1' := frozen_of_row w5 _ 1 _ _ G1
  have c2 := cell_of_row w5 _ 0 _ _ _ G2
  have c2' := cell_of_row w5 _ 1 _ _ _ G2
  simp only [List.getElem?_toArray, List.getElem?_cons_zero, List.getElem?_cons_succ] at c1 c1' c2 c2'
  clear hb G1 G2 hs hs5
  cases jk
  · go_wp2_with fail
    go_quiet (fail)
    go_wp2
    exact bodyPost_ret (v := .tuple #[.agg #[.int .i64 0, .bool false], .int .i64 100]) (by simp [results, Tryd.results48, go_sem, c1, c1']) rfl ⟨rfl, below_set2 (below_drewN HB5.out _) _ (by omega) _ _⟩
  · cases hqb : (qb == 2)
    · go_wp2_with fail
      go_quiet (fail)
      go_wp2
      exact bodyPost_ret (v := .tuple #[.agg #[.int .i64 0, .bool false], .int .i64 100]) (by simp [results, Tryd.results48, go_sem, c1, c1']) rfl ⟨by first | rfl | (rw [hqb]; rfl), below_set2 (below_drewN HB5.out _) _ (by omega) _ _⟩
    · go_wp2_with fail
      go_quiet (fail)
      go_wp2
      exact bodyPost_ret (v := .tuple #[.agg #[.int .i64 jb, .bool jo], .int .i64 0]) (by simp [results, Tryd.results48, go_sem, c1, c1']) rfl ⟨by first | rfl | (rw [hqb]; rfl), below_set2 (below_drewN HB5.out _) _ (by omega) _ _⟩
set_option maxRecDepth 100000 in
set_option maxHeartbeats 4000000 in
theorem look_two (w : World) (g : Nat) (sc : List Nm) (ks : List (Int × Bool)) (K : LK w g sc ks) (ht : NoTab w) (h0 : 0 < w.heap.size) (op : Int) (hop : ∀ k : Int, (k = 1 ∨ k = 30 ∨ k = 2 ∨ k = 25 ∨ k = 26 ∨ k = 3 ∨ k = 29 ∨ k = 4 ∨ k = 5 ∨ k = 24 ∨ k = 6 ∨ k = 7 ∨ k = 8 ∨ k = 27 ∨ k = 23) → op ≠ k)
    (nm : ByteArray) (vk vn : Int) (vt : ByteArray) (sa : Option Addr) (sl sc' : Nat) (ka : Option Addr) (kc : Nat) (x y : Nat) (hk : RS 1 IvN w ka 2 kc [x, y]) (hx : x < ks.length) (hy : y < ks.length) :
    Calls Tryd.prog 48 #[.pointer (some ⟨g, 0, none⟩), .agg (nodeV op nm vk vn vt sa sl sc' ka 2 kc)] w fun e w' =>
      LookOut e (finK (twoK op (ks.getD x (0, false)) (ks.getD y (0, false)))) ∧ Below w.heap.size w w' := by
  have hw := below3 w (nodeV op nm vk vn vt sa sl sc' ka 2 kc) #[.int .i64 0, .bool false] #[.int .i64 0, .bool false] 61 74 74
  obtain ⟨g0, g1, g2, gs⟩ := facts3 w (nodeV op nm vk vn vt sa sl sc' ka 2 kc) #[.int .i64 0, .bool false] #[.int .i64 0, .bool false] 61 74 74
  obtain ⟨b, off, _, rfl, -, -⟩ := hk.at (i := 0) (by omega)
  have x0 := hk.cell 0 x rfl 0 _ rfl
  have y0 := hk.cell 1 y rfl 0 _ rfl
  have krk := K.rk
  have kc2 := K.h2
  generalize K.kc = cc at *
  generalize K.ka = ca at *
  obtain ⟨b2, off2, q, rfl, hq, -⟩ := krk.at hx
  obtain ⟨_, _, r, -, hr, -⟩ := krk.at hy
  have q0 := krk.cell x q hq 0 _ rfl
  have q1 := krk.cell x q hq 1 _ rfl
  have kr1 := K.h1
  have krr := K.rr
  generalize K.ra = ra at *
  generalize K.rc = rc at *
  have r0 := krk.cell y r hr 0 _ rfl
  have r1 := krk.cell y r hr 1 _ rfl
  simp only [Nat.add_zero, Nat.mul_one] at x0 y0 q0 r0
  have hgx : ks.getD x (0, false) = q := by simp [List.getD_eq_getElem?_getD, hq]
  have hgy : ks.getD y (0, false) = r := by simp [List.getD_eq_getElem?_getD, hr]
  rw [hgx, hgy]
  obtain ⟨qb, qo⟩ := q
  obtain ⟨rb, ro⟩ := r
  simp only at q0 q1 r0 r1 ⊢
  have hxI : (x : Int) < (ks.length : Int) := by omega
  have hyI : (y : Int) < (ks.length : Int) := by omega
  have HB := Lib.hid hw
  have l0 : b < w.heap.size := block_lt_of_cell x0
  have l1 : b2 < w.heap.size := block_lt_of_cell q0
  have l2 : g < w.heap.size := block_lt_of_cell kc2
  have HT := Lib.hid (ht.below hw h0)
  replace x0 := (hw.cell (p := ⟨b, off, none⟩) l0).trans x0
  replace y0 := (hw.cell (p := ⟨b, off + 1, none⟩) l0).trans y0
  replace q0 := (hw.cell (p := ⟨b2, off2 + x * 2, none⟩) l1).trans q0
  replace r0 := (hw.cell (p := ⟨b2, off2 + y * 2, none⟩) l1).trans r0
  replace r1 := (hw.cell (p := ⟨b2, off2 + y * 2 + 1, none⟩) l1).trans r1
  replace q1 := (hw.cell (p := ⟨b2, off2 + x * 2 + 1, none⟩) l1).trans q1
  replace kr1 := (hw.cell (p := ⟨g, 1, none⟩) l2).trans kr1
  have HRR := Lib.hid (krr.below hw)
  replace kc2 := (hw.cell (p := ⟨g, 2, none⟩) l2).trans kc2
  clear hk krk hq hr hgx hgy hw ht krr
  generalize hjj : twoK op (qb, qo) (rb, ro) = jj
  obtain ⟨⟨jb, jo⟩, jk⟩ := jj
  have HJ := Lib.hid hjj
  clear hjj
  have f1 : (op == 1) = false := by simpa using hop 1 (by omega)
  have f30 : (op == 30) = false := by simpa using hop 30 (by omega)
  have f2 : (op == 2) = false := by simpa using hop 2 (by omega)
  have f25 : (op == 25) = false := by simpa using hop 25 (by omega)
  have f26 : (op == 26) = false := by simpa using hop 26 (by omega)
  have f3 : (op == 3) = false := by simpa using hop 3 (by omega)
  have f29 : (op == 29) = false := by simpa using hop 29 (by omega)
  have f4 : (op == 4) = false := by simpa using hop 4 (by omega)
  have f5 : (op == 5) = false := by simpa using hop 5 (by omega)
  have f24 : (op == 24) = false := by simpa using hop 24 (by omega)
  have f6 : (op == 6) = false := by simpa using hop 6 (by omega)
  have f7 : (op == 7) = false := by simpa using hop 7 (by omega)
  have f8 : (op == 8) = false := by simpa using hop 8 (by omega)
  have f27 : (op == 27) = false := by simpa using hop 27 (by omega)
  have f23 : (op == 23) = false := by simpa using hop 23 (by omega)
  clear hop
  go_enter Tryd.func48, Tryd.ntmps48
  go_wp2_with fail
  generalize ((w.alloc (.cells (nodeV op nm vk vn vt sa sl sc' (some ⟨b, off, none⟩) 2 kc) 61)).alloc (.cells #[.int .i64 0, .bool false] 74)).alloc (.cells #[.int .i64 0, .bool false] 74) = w3 at *
  have n0 := cell_of_row w3 _ 0 _ _ _ g0
  have n6 := cell_of_row w3 _ 6 _ _ _ g0
  simp only [nodeV, List.getElem?_toArray, List.getElem?_cons_zero, List.getElem?_cons_succ] at n0 n6
  have h03 : 0 < w3.heap.size := by omega
  go_region_held3 (fun w' => w'.cell? ⟨w.heap.size, 0, none⟩ = some (.int .i64 op) ∧ w'.cell? ⟨w.heap.size, 6, none⟩ = some (.slice (some ⟨b, off, none⟩) 2 kc) ∧ w'.cell? ⟨g, 1, none⟩ = some (.slice ra 22 rc) ∧ w'.cell? ⟨g, 2, none⟩ = some (.slice (some ⟨b2, off2, none⟩) ks.length cc) ∧ w'.cell? ⟨b, off, none⟩ = some (.int .i64 x) ∧ w'.cell? ⟨b, off + 1, none⟩ = some (.int .i64 y) ∧ w'.cell? ⟨b2, off2 + x * 2, none⟩ = some (.int .i64 qb) ∧ w'.cell? ⟨b2, off2 + x * 2 + 1, none⟩ = some (.bool qo) ∧ w'.cell? ⟨b2, off2 + y * 2, none⟩ = some (.int .i64 rb) ∧ w'.cell? ⟨b2, off2 + y * 2 + 1, none⟩ = some (.bool ro))
    (first | exact ⟨n0, n6, kr1, kc2, x0, y0, q0, q1, r0, r1⟩ | exact ⟨kkeepc hb n0, kkeepc hb n6, kkeepc hb kr1, kkeepc hb kc2, kkeepc hb x0, kkeepc hb y0, kkeepc hb q0, kkeepc hb q1, kkeepc hb r0, kkeepc hb r1⟩ | exact ⟨kkeeps (kkeeps (kkeepc hb n0) (by omega)) (by omega), kkeeps (kkeeps (kkeepc hb n6) (by omega)) (by omega), kkeeps (kkeeps (kkeepc hb kr1) (by omega)) (by omega), kkeeps (kkeeps (kkeepc hb kc2) (by omega)) (by omega), kkeeps (kkeeps (kkeepc hb x0) (by omega)) (by omega), kkeeps (kkeeps (kkeepc hb y0) (by omega)) (by omega), kkeeps (kkeeps (kkeepc hb q0) (by omega)) (by omega), kkeeps (kkeeps (kkeepc hb q1) (by omega)) (by omega), kkeeps (kkeeps (kkeepc hb r0) (by omega)) (by omega), kkeeps (kkeeps (kkeepc hb r1) (by omega)) (by omega)⟩)
    (first | (go_at_call 62; refine (ktwo_any w3.drew op qb rb qo ro HT.out h03 ra rc HRR.out).mono ?_; rintro e w4 ⟨he, hb⟩; rw [HJ.out] at he; unfold KindOut at he; subst he; have g2' := (hb.block (w.heap.size + 1 + 1) gs).trans g2; have k0 := cell_of_row w4 _ 0 _ _ _ g2'; have k1 := cell_of_row w4 _ 1 _ _ _ g2'; have kf := frozen_of_row w4 _ 0 _ _ g2'; have kf1 := frozen_of_row w4 _ 1 _ _ g2'; simp only [List.getElem?_toArray, List.getElem?_cons_zero, List.getElem?_cons_succ] at k0 k1))
  have G2 := set2 w4 _ _ _ (.int .i64 jb) (.bool jo) _ ((hb.block (w.heap.size + 1 + 1) gs).trans g2)
  have G1 := ((heap_setCell_other _ ⟨w.heap.size + 1 + 1, 1, none⟩ (w.heap.size + 1) (.bool jo) (by simp)).trans (heap_setCell_other w4 ⟨w.heap.size + 1 + 1, 0, none⟩ (w.heap.size + 1) (.int .i64 jb) (by simp))).trans ((hb.block (w.heap.size + 1) (show _ < w3.heap.size by omega)).trans g1)
  have hs : w3.heap.size ≤ w4.heap.size := hb.size
  have HB5 := Lib.hid (below_set2 (HB.out.drew.trans (hb.mono HB.out.size)) (w.heap.size + 1 + 1) (by omega) (.int .i64 jb) (.bool jo))
  have hs5 : ((w4.setCell ⟨w.heap.size + 1 + 1, 0, none⟩ (.int .i64 jb)).setCell ⟨w.heap.size + 1 + 1, 1, none⟩ (.bool jo)).heap.size = w4.heap.size := by simp
  clear g0 g1 g2 g2' k0 k1 kf kf1 n0 n6 kc2 kr1 x0 y0 q0 q1 r0 r1
  generalize (w4.setCell ⟨w.heap.size + 1 + 1, 0, none⟩ (.int .i64 jb)).setCell ⟨w.heap.size + 1 + 1, 1, none⟩ (.bool jo) = w5 at *
  have c1 := cell_of_row w5 _ 0 _ _ _ G1
  have c1' := cell_of_row w5 _ 1 _ _ _ G1
  have f1 := frozen_of_row w5 _ 0 _ _ G1
  have f1' := frozen_of_row w5 _ 1 _ _ G1
  have c2 := cell_of_row w5 _ 0 _ _ _ G2
  have c2' := cell_of_row w5 _ 1 _ _ _ G2
  simp only [List.getElem?_toArray, List.getElem?_cons_zero, List.getElem?_cons_succ] at c1 c1' c2 c2'
  clear hb G1 G2 hs hs5
  cases jk
  · go_wp2_with fail
    exact bodyPost_ret (v := .tuple #[.agg #[.int .i64 0, .bool false], .int .i64 100]) (by simp [results, Tryd.results48, go_sem, c1, c1']) rfl ⟨rfl, below_set2 HB5.out _ (by omega) _ _⟩
  · go_wp2_with fail
    exact bodyPost_ret (v := .tuple #[.agg #[.int .i64 jb, .bool jo], .int .i64 0]) (by simp [results, Tryd.results48, go_sem, c1, c1']) rfl ⟨rfl, below_set2 HB5.out _ (by omega) _ _⟩
theorem RS.nat {w : World} {a : Option Addr} {len cap : Nat} {ks : List Int} (h : RS 1 Iv w a len cap ks) (hk : ∀ k ∈ ks, 0 ≤ k) : RS 1 IvN w a len cap (ks.map Int.toNat) := by
  obtain ⟨h1, h2, h3, h4⟩ := h
  refine ⟨by simpa using h1, h2, h3, fun i x hx => ?_⟩
  simp only [List.getElem?_map, Option.map_eq_some_iff] at hx
  obtain ⟨y, hy, rfl⟩ := hx
  obtain ⟨b, off, e, hc⟩ := h4 i y hy
  refine ⟨b, off, e, fun j v hv => hc j v ?_⟩
  have := hk y (List.mem_of_getElem? hy)
  rw [← hv]
  simp only [Iv, IvN, Int.toNat_of_nonneg this]
theorem getD_mem_lt {l : List Nat} {i m : Nat} (h : i < l.length) (hk : ∀ k ∈ l, k < m) : l.getD i 0 < m := by
  rw [List.getD_eq_getElem?_getD, List.getElem?_eq_getElem h]; exact hk _ (List.getElem_mem h)
theorem right_kids {n : Nd} (h : n.right = true) : kidsN n.op ≠ -2 ∧ (kidsN n.op = -1 ∨ (n.kl : Int) = kidsN n.op) := by
  simp only [Nd.right, rightB, Bool.and_eq_true, Bool.or_eq_true, Bool.not_eq_true', decide_eq_false_iff_not, decide_eq_true_eq] at h
  exact ⟨h.1.1.1.1, h.1.1.1.2⟩
theorem len1 {l : List Nat} (h : l.length = 1) : l = [l.getD 0 0] := by
  match l, h with
  | [x], _ => rfl
theorem len2 {l : List Nat} (h : l.length = 2) : l = [l.getD 0 0, l.getD 1 0] := by
  match l, h with
  | [x, y], _ => rfl
theorem len3 {l : List Nat} (h : l.length = 3) : l = [l.getD 0 0, l.getD 1 0, l.getD 2 0] := by
  match l, h with
  | [x, y, z], _ => rfl
theorem look_any (w : World) (g : Nat) (sc : List Nm) (ks : List (Int × Bool)) (K : LK w g sc ks) (ht : NoTab w) (h0 : 0 < w.heap.size) (n : Nd) (hn : n.ok w) (hr : n.right = true) (hk : ∀ k ∈ n.ks, 0 ≤ k ∧ k < ks.length) :
    Calls Tryd.prog 48 #[.pointer (some ⟨g, 0, none⟩), .agg n.v] w fun e w' => LookOut e (lookK sc ks n.op n.nm.toList (n.ks.map Int.toNat)) ∧ Below w.heap.size w w' := by
  have hrs := hn.1.nat (fun k h => (hk k h).1)
  have hkn : ∀ k ∈ n.ks.map Int.toNat, k < ks.length := by
    intro k h
    obtain ⟨y, hy, rfl⟩ := List.mem_map.1 h
    have := hk y hy
    omega
  have hlen := hrs.1
  obtain ⟨hr1, hr2⟩ := right_kids hr
  generalize n.ks.map Int.toNat = kn at *
  obtain ⟨op, nm, vk, vn, vt, sa, sl, sc', ka, kl, kc, ks'⟩ := n
  simp only [Nd.v] at *
  clear hr hn hk
  unfold lookK
  by_cases h1 : op = 1 ∨ op = 30
  · rw [if_pos h1]; exact look_const w g op _ (.inl ⟨h1, rfl⟩) nm vk vn vt sa sl sc' ka kl kc ht h0
  rw [if_neg h1]
  by_cases h2 : op = 2 ∨ op = 25 ∨ op = 26
  · rw [if_pos h2]; exact look_const w g op _ (.inr (.inl ⟨h2, rfl⟩)) nm vk vn vt sa sl sc' ka kl kc ht h0
  rw [if_neg h2]
  by_cases h3 : op = 3
  · rw [if_pos h3]; exact look_const w g op _ (.inr (.inr (.inl ⟨h3, rfl⟩))) nm vk vn vt sa sl sc' ka kl kc ht h0
  rw [if_neg h3]
  by_cases h29 : op = 29
  · rw [if_pos h29]; exact look_const w g op _ (.inr (.inr (.inr (.inl ⟨h29, rfl⟩)))) nm vk vn vt sa sl sc' ka kl kc ht h0
  rw [if_neg h29]
  by_cases h4 : op = 4
  · rw [if_pos h4]; exact look_const w g op _ (.inr (.inr (.inr (.inr ⟨h4, rfl⟩)))) nm vk vn vt sa sl sc' ka kl kc ht h0
  rw [if_neg h4]
  by_cases h5 : op = 5
  · rw [if_pos h5]; subst h5
    have := look_name w g sc ks K 5 (.inl rfl) nm vk vn vt sa sl sc' ka kl kc
    simpa using this
  rw [if_neg h5]
  by_cases h24 : op = 24
  · rw [if_pos h24]; subst h24
    have := look_name w g sc ks K 24 (.inr rfl) nm vk vn vt sa sl sc' ka kl kc
    simpa using this
  rw [if_neg h24]
  by_cases h6 : op = 6
  · rw [if_pos h6]; subst h6
    exact look_set w g sc ks K nm vk vn vt sa sl sc' ka kl kc kn hrs hkn
  rw [if_neg h6]
  by_cases h7 : op = 7 ∨ op = 8 ∨ op = 27
  · rw [if_pos h7]
    have hkl : kl = 1 := by
      have e : kidsN op = 1 := by rcases h7 with rfl | rfl | rfl <;> rfl
      rw [e] at hr2; omega
    subst hkl
    have hx := getD_mem_lt (show 0 < kn.length by omega) hkn
    have e := len1 hlen
    have hrs' : RS 1 IvN w ka 1 kc [kn.getD 0 0] := by rw [← e]; exact hrs
    rcases h7 with rfl | rfl | rfl
    · exact look_one7 w g sc ks K nm vk vn vt sa sl sc' ka kc _ hrs' hx
    · exact look_one8 w g sc ks K nm vk vn vt sa sl sc' ka kc _ hrs' hx
    · exact look_one27 w g sc ks K nm vk vn vt sa sl sc' ka kc _ hrs' hx
  rw [if_neg h7]
  by_cases h23 : op = 23
  · rw [if_pos h23]; subst h23
    have hkl : kl = 3 := by
      have e : kidsN 23 = 3 := rfl
      rw [e] at hr2; omega
    subst hkl
    have e := len3 hlen
    have hrs' : RS 1 IvN w ka 3 kc [kn.getD 0 0, kn.getD 1 0, kn.getD 2 0] := by rw [← e]; exact hrs
    exact look_if w g sc ks K ht h0 nm vk vn vt sa sl sc' ka kc _ _ _ hrs' (getD_mem_lt (by omega) hkn) (getD_mem_lt (by omega) hkn) (getD_mem_lt (by omega) hkn)
  rw [if_neg h23]
  have hkl : kl = 2 := by
    simp only [kidsN] at hr1 hr2
    rw [if_neg h23, if_neg h6, if_neg h7] at hr1 hr2
    by_cases ho : op < 1 ∨ 34 ≤ op
    · rw [if_pos ho] at hr1; exact absurd rfl hr1
    · rw [if_neg ho, if_neg (by omega)] at hr2; omega
  subst hkl
  have e := len2 hlen
  have hrs' : RS 1 IvN w ka 2 kc [kn.getD 0 0, kn.getD 1 0] := by rw [← e]; exact hrs
  exact look_two w g sc ks K ht h0 op (fun k hk e => by omega) nm vk vn vt sa sl sc' ka kc _ _ hrs' (getD_mem_lt (by omega) hkn) (getD_mem_lt (by omega) hkn)
end Go.Proofs.YtcnckjlmldnblaaDoor
