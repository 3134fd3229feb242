import Derived.Test.YtcnckjlmldnblaaDoorE43
import Derived.Test.YtcnckjlmldnblaaDoorE25
import Derived.Test.YtcnckjlmldnblaaDoorE47
import Derived.Handy
namespace Go.Proofs.YtcnckjlmldnblaaDoor
open Go Go.RowKit
set_option linter.unusedVariables false
set_option linter.unusedSimpArgs false
def Two (op : Int) : Prop := op = 13 ∨ op = 14 ∨ op = 15 ∨ op = 16 ∨ op = 17 ∨ op = 18 ∨ op = 19 ∨ op = 20 ∨ op = 21 ∨ op = 22 ∨ op = 28 ∨ op = 31 ∨ op = 32
theorem two_tree {op : Int} (h : Two op) (ka : Option Addr) (kc : Nat) : treeR (opNs op ka 2 kc) 2 = true := by
  rcases h with rfl | rfl | rfl | rfl | rfl | rfl | rfl | rfl | rfl | rfl | rfl | rfl | rfl <;> kernel_rfl
theorem nm_ne01 : ((nmK 0).toList == (nmK 1).toList) = false := by simp only [ByteArray.toList_eq]; decide
theorem val0 (x : Vc) (t : List Vc) (k : Nat) : Vw.value ⟨(bcsK (x :: t) (k + 1)).map fun b => (b.nm, b.v.x), [], [], 0, 0⟩ (nmK 0) = x.x := by
  unfold Vw.value bcsK
  rw [List.range_succ_eq_map]
  simp
theorem val1 (x y : Vc) (t : List Vc) (k : Nat) : Vw.value ⟨(bcsK (x :: y :: t) (k + 2)).map fun b => (b.nm, b.v.x), [], [], 0, 0⟩ (nmK 1) = y.x := by
  unfold Vw.value bcsK
  rw [List.range_succ_eq_map, List.range_succ_eq_map]
  simp [nm_ne01]
theorem told_fit {x : Vl} (h : Fit x) : toldW x = .ok x := by unfold toldW; rw [if_pos h.r]
theorem two_worth {op : Int} (h : Two op) (ka : Option Addr) (kc : Nat) (x y : Vc) (hx : Fit x.x) (hy : Fit y.x) (hx0 : x.x.k ≠ 0) (hy0 : y.x.k ≠ 0) :
    worthR (opNs op ka 2 kc) (2 : Nat) ⟨(bcsK [x, y] 2).map fun b => (b.nm, b.v.x), [], [], 0, 0⟩ = doubleW op x.x y.x := by
  have hv0 := val0 x [y] 1
  have hv1 := val1 x y [] 0
  unfold worthR
  rw [if_neg (by simp [opNs]), show ((2 : Nat) : Int).toNat = 2 from rfl, two_tree h, if_pos rfl]
  rw [wK_at (nd := opNd op ka 2 kc) rfl]
  have hl : leafW (opNd op ka 2 kc) ⟨(bcsK [x, y] 2).map fun b => (b.nm, b.v.x), [], [], 0, 0⟩ = none := by
    unfold leafW
    rcases h with rfl | rfl | rfl | rfl | rfl | rfl | rfl | rfl | rfl | rfl | rfl | rfl | rfl <;> simp [opNd]
  have ho : op ≠ 9 ∧ op ≠ 10 ∧ op ≠ 23 ∧ op ≠ 33 ∧ op ≠ 11 ∧ op ≠ 12 := by
    rcases h with rfl | rfl | rfl | rfl | rfl | rfl | rfl | rfl | rfl | rfl | rfl | rfl | rfl <;> simp
  have h6 : op ≠ 6 := by rcases h with rfl | rfl | rfl | rfl | rfl | rfl | rfl | rfl | rfl | rfl | rfl | rfl | rfl <;> simp
  rw [node_all hl ho]
  have k0 : wK (opNs op ka 2 kc) ⟨(bcsK [x, y] 2).map fun b => (b.nm, b.v.x), [], [], 0, 0⟩ 2 0 = .ok x.x := by
    rw [wK_at (nd := nameNd 0) rfl]
    show toldW (Vw.value _ (nmK 0)) = _
    rw [hv0, told_fit hx]
  have k1 : wK (opNs op ka 2 kc) ⟨(bcsK [x, y] 2).map fun b => (b.nm, b.v.x), [], [], 0, 0⟩ 2 1 = .ok y.x := by
    rw [wK_at (nd := nameNd 1) rfl]
    show toldW (Vw.value _ (nmK 1)) = _
    rw [hv1, told_fit hy]
  unfold allW
  rw [show (opNd op ka 2 kc).ks = [0, 1] from rfl]
  simp only [List.map_cons, List.map_nil, k0, k1, seqW]
  unfold opW
  rw [if_neg (by simp [hx0, hy0]), if_neg (show ¬ (opNd op ka 2 kc).op = 6 from h6)]
  rfl
end Go.Proofs.YtcnckjlmldnblaaDoor
namespace Go.Proofs.YtcnckjlmldnblaaDoor
open Go Go.RowKit
set_option linter.unusedVariables false
set_option linter.unusedSimpArgs false
theorem res28 (tmps : Array Value) (w : World) (g : Nat) (x0 x1 x2 x3 u : Value) (hg : w.heap[g]? = some (.cells #[x0, x1, x2, x3] 25 (0, 0))) (h6 : tmps[6]? = some (.pointer (some ⟨g, 0, none⟩))) (h7 : tmps[7]? = some u) :
    (results Tryd.f28 tmps).run Tryd.prog w = .ok (.tuple #[.agg #[x0, x1, x2, x3], u]) w := by
  obtain ⟨c0, c1, c2, c3, -⟩ := box4 hg
  simp [results, Tryd.results28, go_sem, h6, h7, c0, c1, c2, c3]
set_option maxRecDepth 100000 in
set_option maxHeartbeats 4000000 in
theorem two_any (w : World) (op : Int) (ho : Two op) (x : Vl) (a : Option Addr) (l c : Nat) (hx : Fit x) (hxz : RZ w a l c x.ss) (hx0 : x.k ≠ 0) (y : Vl) (b : Option Addr) (m d : Nat) (hy : Fit y) (hyz : RZ w b m d y.ss) (hy0 : y.k ≠ 0) (ht : ResTab w 1) (h1 : 1 < w.heap.size) :
    Calls Tryd.prog 28 #[.int .i64 op, VA x a l c, VA y b m d] w fun e w' => WRet e w' w.heap.size (doubleW op x y) ∧ Below w.heap.size w w' := by
  obtain ⟨w3, hw3, g0, g1, g2, hb3, z3⟩ := boxes3 w (boxS x a l c) (boxS y b m d) boxZ
  have Z3 : w.heap.size + 2 < w3.heap.size := by omega
  have hll : l ≤ 64 := by have := (right_parts hx.r).2.2.2.2; have := hxz.rs.1; omega
  have hml : m ≤ 64 := by have := (right_parts hy.r).2.2.2.2; have := hyz.rs.1; omega
  have HB3 := Lib.hid hb3
  have G2 := Lib.hid g2
  have HT := Lib.hid ht
  have H1 := Lib.hid h1
  have HXZ := Lib.hid hxz
  have HYZ := Lib.hid hyz
  have HX := Lib.hid hx
  have HY := Lib.hid hy
  have HX0 := Lib.hid hx0
  have HY0 := Lib.hid hy0
  have HO := Lib.hid ho
  obtain ⟨p0, p1, p2, p3, -⟩ := box4 g0
  obtain ⟨q0, q1, q2, q3, -⟩ := box4 g1
  clear hb3 g0 g1 g2 ht h1 hxz hyz hx hy z3 hx0 hy0 ho
  go_enter Tryd.func28, Tryd.ntmps28
  go_upto_region 1 with (fail)
  rw [← hw3]
  clear hw3
  go_wp2_with fail
  obtain ⟨w4, hw4⟩ : ∃ w4, w4 = w3.alloc (.cells #[.int .i64 x.k, .int .i64 x.n, .string x.t, .slice a l c, .int .i64 y.k, .int .i64 y.n, .string y.t, .slice b m d] 25) := ⟨_, rfl⟩
  have g4 : w4.heap[w3.heap.size]? = some (.cells (([⟨x, a, l, c⟩, ⟨y, b, m, d⟩] : List Vc).flatMap Vc.cs).toArray 25 (0, 0)) := by rw [hw4]; exact heap_alloc_new w3 _
  have hb4 : Below w3.heap.size w3 w4 := by rw [hw4]; exact bel1 _ _
  rw [← hw4]
  clear hw4
  have HB4 := Lib.hid (HB3.out.trans (hb4.mono (by omega)))
  have HR4 := Lib.hid (RS.of_row Vc.cs Vc_len [⟨x, a, l, c⟩, ⟨y, b, m, d⟩] g4 2 2 rfl (by omega) (by omega))
  have HG4 := Lib.hid ((hb4.block _ Z3).trans G2.out)
  have HVS := Lib.hid (show ∀ v ∈ ([⟨x, a, l, c⟩, ⟨y, b, m, d⟩] : List Vc), RZ w4 v.a v.l v.c v.x.ss ∧ I64 v.x.n ∧ v.l ≤ 1000000 from fun v hv => by
    rcases List.mem_cons.1 hv with rfl | hv
    · exact ⟨HXZ.out.below HB4.out, HX.out.n, by show l ≤ 1000000; omega⟩
    · simp only [List.mem_singleton] at hv
      subst hv
      exact ⟨HYZ.out.below HB4.out, HY.out.n, by show m ≤ 1000000; omega⟩)
  have HT4 := Lib.hid (HT.out.below HB4.out H1.out H1.out)
  have z4 : 1 < w4.heap.size := by have := H1.out; have := HB4.out.size; omega
  have z04 : w.heap.size + 2 < w4.heap.size := by have := hb4.size; omega
  clear g4 hb4 p0 p1 p2 p3 q0 q1 q2 q3
  with_reducible refine (worthop_any w4 op (some ⟨w3.heap.size, 0, none⟩) 2 2 [⟨x, a, l, c⟩, ⟨y, b, m, d⟩] HR4.out (by omega) HVS.out HT4.out z4).mono ?_
  rintro e w5 ⟨⟨ka, kc, hm⟩, hb5⟩
  rw [two_worth HO.out ka kc _ _ HX.out HY.out HX0.out HY0.out] at hm
  have HB5 := Lib.hid (HB4.out.trans (hb5.mono (by omega)))
  have HG5 := Lib.hid ((hb5.block _ z04).trans HG4.out)
  obtain ⟨c0, c1, c2, c3, f0, f1, f2, f3⟩ := box4 HG5.out
  clear hb5
  rcases hm.cases with ⟨r, ra, rl, rc, hr, rfl, hs⟩ | ⟨er, hr, rfl⟩
  · have HRR := Lib.hid hr
    have HSS := Lib.hid hs
    clear hm hr hs
    go_wp2_with fail
    refine bodyPost_ret (res28 _ _ (w.heap.size + 2) _ _ _ _ _ (heap_box HG5.out _ _ _ _) rfl rfl) rfl ?_
    exact ⟨.ok (x := r) HRR.out ((HSS.out.box z04 _ _ _ _).mono (by omega)), below_box (by omega) HB5.out _ _ _ _⟩
  · have HRR := Lib.hid hr
    clear hm hr
    go_wp2_with fail
    refine bodyPost_ret (res28 _ _ (w.heap.size + 2) _ _ _ _ _ (heap_box HG5.out _ _ _ _) rfl rfl) rfl ?_
    exact ⟨.err HRR.out, below_box (by omega) HB5.out _ _ _ _⟩
end Go.Proofs.YtcnckjlmldnblaaDoor
namespace Go.Proofs.YtcnckjlmldnblaaDoor
open Go Go.RowKit
set_option linter.unusedVariables false
set_option linter.unusedSimpArgs false
theorem rz0 {w : World} {a : Option Addr} {c : Nat} (h : a = none → c = 0) : RZ w a 0 c [] := ⟨⟨rfl, Nat.zero_le _, by omega, fun i x hx => by simp at hx⟩, h⟩
theorem two_ints (op a b : Int) : doubleW op (intV a) (intV b) = numbersW op a b := by
  unfold doubleW
  rw [if_pos ⟨rfl, rfl⟩]
  rfl
/-- An operator of two ints that tells something. -/
theorem twoI_ok (w : World) (op : Int) (ho : Two op) (a b k n : Int) (ha : I64 a) (hb : I64 b) (h : numbersW op a b = .ok ⟨k, n, ByteArray.empty, []⟩) (sa : Option Addr) (sc : Nat) (h1 : sa = none → sc = 0) (sb : Option Addr) (sd : Nat) (h2 : sb = none → sd = 0) (ht : ResTab w 1) (hw : 1 < w.heap.size) :
    Calls Tryd.prog 28 #[.int .i64 op, intA a sa sc, intA b sb sd] w fun e w' => (∃ ra rc, e = .returned (.tuple #[.agg #[.int .i64 k, .int .i64 n, .string { data := #[] }, .slice ra 0 rc], .int .i64 0]) ∧ (ra = none → rc = 0)) ∧ Below w.heap.size w w' :=
  (two_any w op ho (intV a) sa 0 sc (fit_int ha) (rz0 h1) (show (1 : Int) ≠ 0 by decide) (intV b) sb 0 sd (fit_int hb) (rz0 h2) (show (1 : Int) ≠ 0 by decide) ht hw).mono fun e w' ⟨hm, hbl⟩ => ⟨by
    rw [two_ints, h] at hm
    obtain ⟨v, rfl, ra, rl, rc, rfl, hl, hs⟩ := hm
    have hl0 : rl = 0 := hl
    subst hl0
    refine ⟨ra, rc, rfl, fun e => ?_⟩
    rcases hs with hs | hs
    · exact hs.2 e
    · exact own_nilc hs e, hbl⟩
theorem twoI_er (w : World) (op : Int) (ho : Two op) (a b er : Int) (ha : I64 a) (hb : I64 b) (h : numbersW op a b = .error er) (sa : Option Addr) (sc : Nat) (h1 : sa = none → sc = 0) (sb : Option Addr) (sd : Nat) (h2 : sb = none → sd = 0) (ht : ResTab w 1) (hw : 1 < w.heap.size) :
    Calls Tryd.prog 28 #[.int .i64 op, intA a sa sc, intA b sb sd] w fun e w' => e = .returned (.tuple #[zV, .int .i64 er]) ∧ Below w.heap.size w w' :=
  (two_any w op ho (intV a) sa 0 sc (fit_int ha) (rz0 h1) (show (1 : Int) ≠ 0 by decide) (intV b) sb 0 sd (fit_int hb) (rz0 h2) (show (1 : Int) ≠ 0 by decide) ht hw).mono fun e w' ⟨hm, hbl⟩ => ⟨by
    rw [two_ints, h] at hm
    exact hm, hbl⟩
set_option maxRecDepth 100000 in
set_option maxHeartbeats 4000000 in
theorem lawint_any (w : World) (n : Int) : Calls Tryd.prog 27 #[.int .i64 n] w fun e w' => e = .returned (intA n none 0) ∧ Below w.heap.size w w' := by
  go_enter Tryd.func27, Tryd.ntmps27
  go_wp2
  go_returns
  exact ⟨rfl, bel1 _ _⟩
theorem numW_flat {n : Int} {x : Vl} (h : numW n = .ok x) : x.t = ByteArray.empty ∧ x.ss = [] := by
  unfold numW at h
  split at h
  · cases h; exact ⟨rfl, rfl⟩
  · cases h
theorem numbers_flat {op a b : Int} {x : Vl} (h : numbersW op a b = .ok x) : x.t = ByteArray.empty ∧ x.ss = [] := by
  unfold numbersW quotW orderedI orderedW at h
  repeat' split at h
  all_goals first
    | exact numW_flat h
    | (cases h; done)
    | (cases h; exact ⟨rfl, rfl⟩)
/-- An operator of two ints, told in two results. -/
theorem twoI_any (w : World) (op : Int) (ho : Two op) (a b : Int) (ha : I64 a) (hb : I64 b) (sa : Option Addr) (sc : Nat) (h1 : sa = none → sc = 0) (sb : Option Addr) (sd : Nat) (h2 : sb = none → sd = 0) (ht : ResTab w 1) (hw : 1 < w.heap.size) :
    Calls Tryd.prog 28 #[.int .i64 op, intA a sa sc, intA b sb sd] w fun e w' => TwoOut e (numbersW op a b) ∧ Below w.heap.size w w' := by
  cases hr : numbersW op a b with
  | error er => exact (twoI_er w op ho a b er ha hb hr sa sc h1 sb sd h2 ht hw).mono fun e w' ⟨h, hbl⟩ => ⟨⟨0, 0, er, none, 0, h, ⟨rfl, rfl, rfl⟩, fun _ => rfl⟩, hbl⟩
  | ok x =>
    obtain ⟨k, n, t, ss⟩ := x
    obtain ⟨e1, e2⟩ := numbers_flat hr
    simp only at e1 e2
    subst e1 e2
    exact (twoI_ok w op ho a b k n ha hb hr sa sc h1 sb sd h2 ht hw).mono fun e w' ⟨⟨ra, rc, h, hz⟩, hbl⟩ => ⟨⟨k, n, 0, ra, rc, h, ⟨rfl, rfl⟩, hz⟩, hbl⟩
end Go.Proofs.YtcnckjlmldnblaaDoor
