import Derived.Test.YtakaoacialnjaaaDoorK9
namespace Go.Proofs.YtakaoacialnjaaaDoor
open Go Go.RowKit
set_option linter.unusedVariables false
def Kd (k : Int × Bool) : List Value := [.int .i64 k.1, .bool k.2]
def Iv (k : Int) : List Value := [.int .i64 k]
def finK (r : (Int × Bool) × Bool) : (Int × Bool) × Int := if r.2 then (r.1, 0) else ((0, false), 100)
def IvN (k : Nat) : List Value := [.int .i64 (k : Int)]
def atK (ks : List (Int × Bool)) (kids : List Nat) (i : Nat) : Int × Bool := ks.getD (kids.getD i 0) (0, false)
def textK (ks : List (Int × Bool)) (k : Nat) : Bool := (ks.getD k (0, false)).1 == 3
/-- A node's kind, or why it has none. -/
def lookK (sc : List Nm) (ks : List (Int × Bool)) (op : Int) (nm : List UInt8) (kids : List Nat) : (Int × Bool) × Int :=
  if op = 1 ∨ op = 30 then ((1, false), 0) else if op = 2 ∨ op = 25 ∨ op = 26 then ((2, false), 0) else if op = 3 then ((3, false), 0) else if op = 29 then ((4, false), 0)
  else if op = 4 then ((0, true), 0)
  else if op = 5 then (if (namedK sc nm).2 then ((namedK sc nm).1, 0) else ((0, false), 34))
  else if op = 24 then (if (namedK sc nm).2 then ((2, false), 0) else ((0, false), 34))
  else if op = 6 then finK ((5, false), kids.all (textK ks))
  else if op = 7 ∨ op = 8 ∨ op = 27 then finK (((oneK op (atK ks kids 0).1).1, false), (oneK op (atK ks kids 0).1).2)
  else if op = 23 then finK ((joinedK (atK ks kids 1) (atK ks kids 2)).1, (joinedK (atK ks kids 1) (atK ks kids 2)).2 && (atK ks kids 0).1 == 2)
  else finK (twoK op (atK ks kids 0) (atK ks kids 1))
def LookOut (e : Ending) (r : (Int × Bool) × Int) : Prop := e = .returned (.tuple #[.agg #[.int .i64 r.1.1, .bool r.1.2], .int .i64 r.2])
/-- The looker's own memory. -/
structure LK (w : World) (g : Nat) (sc : List Nm) (ks : List (Int × Bool)) where
  sa : Option Addr
  sn : Nat
  sc' : Nat
  ra : Option Addr
  rc : Nat
  ka : Option Addr
  kc : Nat
  h0 : w.cell? ⟨g, 0, none⟩ = some (.slice sa sn sc')
  h1 : w.cell? ⟨g, 1, none⟩ = some (.slice ra 22 rc)
  h2 : w.cell? ⟨g, 2, none⟩ = some (.slice ka ks.length kc)
  rs : RS 3 Nm.cs w sa sn sc' sc
  rr : RS 4 Row.cs w ra 22 rc pairT
  rk : RS 2 Kd w ka ks.length kc ks
abbrev nodeV (op : Int) (nm : ByteArray) (vk vn : Int) (vt : ByteArray) (sa : Option Addr) (sl sc : Nat) (ka : Option Addr) (kl kc : Nat) : Array Value :=
  #[.int .i64 op, .string nm, .int .i64 vk, .int .i64 vn, .string vt, .slice sa sl sc, .slice ka kl kc]
theorem below3 (w : World) (p q r : Array Value) (t u v : TypeId) : Below w.heap.size w (((w.alloc (.cells p t)).alloc (.cells q u)).alloc (.cells r v)) :=
  (((Below.refl _ _).alloc (Nat.le_refl _) _).alloc (by simp) _).alloc (by simp; omega) _
set_option maxRecDepth 100000 in
set_option maxHeartbeats 2000000 in
theorem look_const (w : World) (g : Nat) (op : Int) (r : Int × Bool) (h : ((op = 1 ∨ op = 30) ∧ r = (1, false)) ∨ ((op = 2 ∨ op = 25 ∨ op = 26) ∧ r = (2, false)) ∨ (op = 3 ∧ r = (3, false)) ∨ (op = 29 ∧ r = (4, false)) ∨ (op = 4 ∧ r = (0, true)))
    (nm : ByteArray) (vk vn : Int) (vt : ByteArray) (sa : Option Addr) (sl sc : Nat) (ka : Option Addr) (kl kc : Nat) (ht : NoTab w) (h0 : 0 < w.heap.size) :
    Calls Tryd.prog 34 #[.pointer (some ⟨g, 0, none⟩), .agg (nodeV op nm vk vn vt sa sl sc ka kl kc)] w fun e w' => LookOut e (r, 0) ∧ Below w.heap.size w w' := by
  obtain ⟨t0, t1⟩ := ht
  have hw := below3 w
  rcases h with ⟨rfl | rfl, rfl⟩ | ⟨rfl | rfl | rfl, rfl⟩ | ⟨rfl, rfl⟩ | ⟨rfl, rfl⟩ | ⟨rfl, rfl⟩
  · go_enter Tryd.func34, Tryd.ntmps34
    go_wp2
    exact bodyPost_ret (v := .tuple #[.agg #[.int .i64 1, .bool false], .int .i64 0]) (by simp [results, Tryd.results34, go_sem]) rfl ⟨rfl, hw _ _ _ _ _ _⟩
  · go_enter Tryd.func34, Tryd.ntmps34
    go_wp2
    exact bodyPost_ret (v := .tuple #[.agg #[.int .i64 1, .bool false], .int .i64 0]) (by simp [results, Tryd.results34, go_sem]) rfl ⟨rfl, hw _ _ _ _ _ _⟩
  · go_enter Tryd.func34, Tryd.ntmps34
    go_wp2
    exact bodyPost_ret (v := .tuple #[.agg #[.int .i64 2, .bool false], .int .i64 0]) (by simp [results, Tryd.results34, go_sem]) rfl ⟨rfl, hw _ _ _ _ _ _⟩
  · go_enter Tryd.func34, Tryd.ntmps34
    go_wp2
    exact bodyPost_ret (v := .tuple #[.agg #[.int .i64 2, .bool false], .int .i64 0]) (by simp [results, Tryd.results34, go_sem]) rfl ⟨rfl, hw _ _ _ _ _ _⟩
  · go_enter Tryd.func34, Tryd.ntmps34
    go_wp2
    exact bodyPost_ret (v := .tuple #[.agg #[.int .i64 2, .bool false], .int .i64 0]) (by simp [results, Tryd.results34, go_sem]) rfl ⟨rfl, hw _ _ _ _ _ _⟩
  · go_enter Tryd.func34, Tryd.ntmps34
    go_wp2
    exact bodyPost_ret (v := .tuple #[.agg #[.int .i64 3, .bool false], .int .i64 0]) (by simp [results, Tryd.results34, go_sem]) rfl ⟨rfl, hw _ _ _ _ _ _⟩
  · go_enter Tryd.func34, Tryd.ntmps34
    go_wp2
    exact bodyPost_ret (v := .tuple #[.agg #[.int .i64 4, .bool false], .int .i64 0]) (by simp [results, Tryd.results34, go_sem]) rfl ⟨rfl, hw _ _ _ _ _ _⟩
  · go_enter Tryd.func34, Tryd.ntmps34
    go_wp2
    exact bodyPost_ret (v := .tuple #[.agg #[.int .i64 0, .bool true], .int .i64 0]) (by simp [results, Tryd.results34, go_sem]) rfl ⟨rfl, hw _ _ _ _ _ _⟩
theorem facts3 (w : World) (p q r : Array Value) (t u v : TypeId) : (((w.alloc (.cells p t)).alloc (.cells q u)).alloc (.cells r v)).heap[w.heap.size]? = some (.cells p t) ∧
    (((w.alloc (.cells p t)).alloc (.cells q u)).alloc (.cells r v)).heap[w.heap.size + 1]? = some (.cells q u) ∧ (((w.alloc (.cells p t)).alloc (.cells q u)).alloc (.cells r v)).heap[w.heap.size + 1 + 1]? = some (.cells r v) ∧
    w.heap.size + 1 + 1 < (((w.alloc (.cells p t)).alloc (.cells q u)).alloc (.cells r v)).heap.size := by
  have h1 := heap_alloc_new w (.cells p t)
  have h2 := heap_alloc_new (w.alloc (.cells p t)) (.cells q u)
  have h3 := heap_alloc_new ((w.alloc (.cells p t)).alloc (.cells q u)) (.cells r v)
  simp only [World.size_alloc] at h2 h3
  exact ⟨((Below.heap_alloc _ _ _ (by simp; omega)).trans (Below.heap_alloc _ _ _ (by simp))).trans h1, (Below.heap_alloc _ _ _ (by simp)).trans h2, h3, by simp⟩
theorem LK.below {w w' : World} {g : Nat} {sc : List Nm} {ks : List (Int × Bool)} (K : LK w g sc ks) (hb : Below w.heap.size w w') : Nonempty (LK w' g sc ks) := by
  obtain ⟨sa, sn, sc', ra, rc, ka, kc, h0, h1, h2, rs, rr, rk⟩ := K
  have hg := block_lt_of_cell h0
  exact ⟨⟨sa, sn, sc', ra, rc, ka, kc, (hb.cell (p := ⟨g, 0, none⟩) hg).trans h0, (hb.cell (p := ⟨g, 1, none⟩) hg).trans h1, (hb.cell (p := ⟨g, 2, none⟩) hg).trans h2, rs.below hb, rr.below hb, rk.below hb⟩⟩
theorem set2 (w : World) (b : Nat) (p q x y : Value) (t : TypeId) (h : w.heap[b]? = some (.cells #[p, q] t (0, 0))) : ((w.setCell ⟨b, 0, none⟩ x).setCell ⟨b, 1, none⟩ y).heap[b]? = some (.cells #[x, y] t (0, 0)) :=
  heap_setCell_same _ b 1 _ _ y (heap_setCell_same w b 0 _ _ x h)
theorem below_set2 {B : Nat} {a w : World} (h : Below B a w) (b : Nat) (hb : B ≤ b) (x y : Value) : Below B a ((w.setCell ⟨b, 0, none⟩ x).setCell ⟨b, 1, none⟩ y) :=
  (h.setCell (p := ⟨b, 0, none⟩) hb x).setCell (p := ⟨b, 1, none⟩) hb y
set_option maxRecDepth 100000 in
set_option maxHeartbeats 2000000 in
theorem look_name (w : World) (g : Nat) (sc : List Nm) (ks : List (Int × Bool)) (K : LK w g sc ks) (op : Int) (h : op = 5 ∨ op = 24)
    (nm : ByteArray) (vk vn : Int) (vt : ByteArray) (sa : Option Addr) (sl sc' : Nat) (ka : Option Addr) (kl kc : Nat) :
    Calls Tryd.prog 34 #[.pointer (some ⟨g, 0, none⟩), .agg (nodeV op nm vk vn vt sa sl sc' ka kl kc)] w fun e w' => LookOut e (if (namedK sc nm.toList).2 then (if op = 24 then (2, false) else (namedK sc nm.toList).1, 0) else ((0, false), 34)) ∧ Below w.heap.size w w' := by
  generalize hq : namedK sc nm.toList = q
  obtain ⟨⟨qb, qo⟩, qk⟩ := q
  have HQ := Lib.hid hq
  clear hq
  rcases h with rfl | rfl
  · have hw := below3 w (nodeV 5 nm vk vn vt sa sl sc' ka kl kc) #[.int .i64 0, .bool false] #[.int .i64 0, .bool false] 49 30 30
    obtain ⟨g0, g1, g2, gs⟩ := facts3 w (nodeV 5 nm vk vn vt sa sl sc' ka kl kc) #[.int .i64 0, .bool false] #[.int .i64 0, .bool false] 49 30 30
    obtain ⟨K3⟩ := K.below hw
    have HQ3 := HQ
    go_enter Tryd.func34, Tryd.ntmps34
    go_wp2_with fail
    generalize ((w.alloc (.cells (nodeV 5 nm vk vn vt sa sl sc' ka kl kc) 49)).alloc (.cells #[.int .i64 0, .bool false] 30)).alloc (.cells #[.int .i64 0, .bool false] 30) = w3 at *
    with_reducible refine (named_any w3 g K3.sa K3.sn K3.sc' sc K3.rs K3.h0 nm).mono ?_
    rintro e w4 ⟨he, hb⟩
    rw [HQ.out] at he
    unfold KindOut at he
    subst he
    have hs := hb.size
    have c0 := cell_of_row w4 _ 0 _ _ _ ((hb.block w.heap.size (by omega)).trans g0)
    have c1 := cell_of_row w4 _ 0 _ _ _ ((hb.block (w.heap.size + 1) (by omega)).trans g1)
    have c1' := cell_of_row w4 _ 1 _ _ _ ((hb.block (w.heap.size + 1) (by omega)).trans g1)
    have c2 := cell_of_row w4 _ 0 _ _ _ ((hb.block (w.heap.size + 1 + 1) gs).trans g2)
    have c2' := cell_of_row w4 _ 1 _ _ _ ((hb.block (w.heap.size + 1 + 1) gs).trans g2)
    have f1 := frozen_of_row w4 _ 0 _ _ ((hb.block (w.heap.size + 1) (by omega)).trans g1)
    have f1' := frozen_of_row w4 _ 1 _ _ ((hb.block (w.heap.size + 1) (by omega)).trans g1)
    have f2 := frozen_of_row w4 _ 0 _ _ ((hb.block (w.heap.size + 1 + 1) gs).trans g2)
    have f2' := frozen_of_row w4 _ 1 _ _ ((hb.block (w.heap.size + 1 + 1) gs).trans g2)
    simp only [nodeV, List.getElem?_toArray, List.getElem?_cons_zero, List.getElem?_cons_succ] at c0 c1 c1' c2 c2'
    have HB := Lib.hid (hw.trans (hb.mono hw.size))
    clear g0 g1 g2 hw hb K3
    cases qk
    · go_wp2_with fail
      exact bodyPost_ret (v := .tuple #[.agg #[.int .i64 0, .bool false], .int .i64 34]) (by simp [results, Tryd.results34, go_sem, c1, c1']) rfl ⟨rfl, below_set2 (below_set2 (HB.out) _ (by omega) _ _) _ (by omega) _ _⟩
    · go_wp2_with fail
      exact bodyPost_ret (v := .tuple #[.agg #[.int .i64 qb, .bool qo], .int .i64 0]) (by simp [results, Tryd.results34, go_sem, c1, c1']) rfl ⟨rfl, below_set2 (below_set2 (HB.out) _ (by omega) _ _) _ (by omega) _ _⟩
  · have hw := below3 w (nodeV 24 nm vk vn vt sa sl sc' ka kl kc) #[.int .i64 0, .bool false] #[.int .i64 0, .bool false] 49 30 30
    obtain ⟨g0, g1, g2, gs⟩ := facts3 w (nodeV 24 nm vk vn vt sa sl sc' ka kl kc) #[.int .i64 0, .bool false] #[.int .i64 0, .bool false] 49 30 30
    obtain ⟨K3⟩ := K.below hw
    have HQ3 := HQ
    go_enter Tryd.func34, Tryd.ntmps34
    go_wp2_with fail
    generalize ((w.alloc (.cells (nodeV 24 nm vk vn vt sa sl sc' ka kl kc) 49)).alloc (.cells #[.int .i64 0, .bool false] 30)).alloc (.cells #[.int .i64 0, .bool false] 30) = w3 at *
    with_reducible refine (named_any w3 g K3.sa K3.sn K3.sc' sc K3.rs K3.h0 nm).mono ?_
    rintro e w4 ⟨he, hb⟩
    rw [HQ.out] at he
    unfold KindOut at he
    subst he
    have hs := hb.size
    have c0 := cell_of_row w4 _ 0 _ _ _ ((hb.block w.heap.size (by omega)).trans g0)
    have c1 := cell_of_row w4 _ 0 _ _ _ ((hb.block (w.heap.size + 1) (by omega)).trans g1)
    have c1' := cell_of_row w4 _ 1 _ _ _ ((hb.block (w.heap.size + 1) (by omega)).trans g1)
    have c2 := cell_of_row w4 _ 0 _ _ _ ((hb.block (w.heap.size + 1 + 1) gs).trans g2)
    have c2' := cell_of_row w4 _ 1 _ _ _ ((hb.block (w.heap.size + 1 + 1) gs).trans g2)
    have d2 := set2 _ _ _ _ (.int .i64 2) (.bool false) _ (set2 w4 _ _ _ (.int .i64 qb) (.bool qo) _ ((hb.block (w.heap.size + 1 + 1) gs).trans g2))
    have d20 := cell_of_row _ _ 0 _ _ _ d2
    have d21 := cell_of_row _ _ 1 _ _ _ d2
    clear d2
    have f1 := frozen_of_row w4 _ 0 _ _ ((hb.block (w.heap.size + 1) (by omega)).trans g1)
    have f1' := frozen_of_row w4 _ 1 _ _ ((hb.block (w.heap.size + 1) (by omega)).trans g1)
    have f2 := frozen_of_row w4 _ 0 _ _ ((hb.block (w.heap.size + 1 + 1) gs).trans g2)
    have f2' := frozen_of_row w4 _ 1 _ _ ((hb.block (w.heap.size + 1 + 1) gs).trans g2)
    simp only [nodeV, List.getElem?_toArray, List.getElem?_cons_zero, List.getElem?_cons_succ] at c0 c1 c1' c2 c2' d20 d21
    have HB := Lib.hid (hw.trans (hb.mono hw.size))
    clear g0 g1 g2 hw hb K3
    cases qk
    · go_wp2_with fail
      exact bodyPost_ret (v := .tuple #[.agg #[.int .i64 0, .bool false], .int .i64 34]) (by simp [results, Tryd.results34, go_sem, c1, c1']) rfl ⟨rfl, below_set2 (below_set2 (HB.out) _ (by omega) _ _) _ (by omega) _ _⟩
    · go_wp2_with fail
      exact bodyPost_ret (v := .tuple #[.agg #[.int .i64 2, .bool false], .int .i64 0]) (by simp [results, Tryd.results34, go_sem, c1, c1']) rfl ⟨rfl, below_set2 (below_set2 (below_set2 (HB.out) _ (by omega) _ _) _ (by omega) _ _) _ (by omega) _ _⟩
end Go.Proofs.YtakaoacialnjaaaDoor
