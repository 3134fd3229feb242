import Derived.Test.YtcnckjlmldnblaaDoorE70
import Derived.Test.YtcnckjlmldnblaaDoorK4
namespace Go.Proofs.YtcnckjlmldnblaaDoor
open Go Go.RowKit
set_option linter.unusedVariables false
set_option linter.unusedSimpArgs false
open Go.ChangeShapes Go.WideShapes
theorem NoTab.below {w w' : World} {B : Nat} (h : NoTab w) (hb : Below B w w') (h0 : 0 < B) : NoTab w' :=
  ⟨by rw [hb.cell (p := ⟨0, 0, none⟩) h0]; exact h.1, by rw [hb.cell (p := ⟨0, 1, none⟩) h0]; exact h.2⟩
set_option maxHeartbeats 2000000 in
theorem two_eq (w : World) (op : Int) (hop : op = 11 ∨ op = 12) (xb yb : Int) (xo yo : Bool) (ht : NoTab w) (h0 : 0 < w.heap.size) (a : Option Addr) (n c : Nat) :
    Calls Tryd.prog 62 #[.int .i64 op, .slice a n c, .agg #[.int .i64 xb, .bool xo], .agg #[.int .i64 yb, .bool yo]] w fun e w' => KindOut e ((2, false), eqK (xb, xo) (yb, yo)) ∧ Below w.heap.size w w' := by
  obtain ⟨t0, t1⟩ := ht
  have hw : ∀ p q o, Below w.heap.size w (((w.alloc (.cells p 74)).alloc (.cells q 74)).alloc (.cells o 74)) := fun p q o => (((Below.refl _ _).alloc (Nat.le_refl _) _).alloc (by simp) _).alloc (by simp; omega) _
  have fin : ∀ (e1 : Bool), eqK (xb, xo) (yb, yo) = e1 → KindOut (.returned (.tuple #[.agg #[.int .i64 2, .bool false], .bool e1])) ((2, false), eqK (xb, xo) (yb, yo)) := fun e1 h => by rw [h]; rfl
  by_cases h1 : xb = yb
  · subst h1
    have F := Lib.hid (fin true (by simp [eqK]))
    clear fin
    rcases hop with rfl | rfl
    all_goals
      go_enter Tryd.func62, Tryd.ntmps62
      go_wp2
      exact bodyPost_ret (v := .tuple #[.agg #[.int .i64 2, .bool false], .bool true]) (by simp [results, Tryd.results62, go_sem]) rfl ⟨F.out, hw _ _ _⟩
  have g1 : (xb == yb) = false := by simpa using h1
  by_cases h2 : xb = 0
  · subst h2
    have g3 : (yb == 0) = false := by simp; omega
    have g4 : ¬ yb = 0 := by omega
    have F := Lib.hid (fin (xo && yo) (by simp [eqK, g1, g3]))
    clear fin
    rcases hop with rfl | rfl <;> cases xo <;> cases yo
    all_goals
      simp only [Bool.and_self, Bool.and_true, Bool.and_false] at F
      go_enter Tryd.func62, Tryd.ntmps62
      go_wp2
      first
        | (refine bodyPost_ret (v := .tuple #[.agg #[.int .i64 2, .bool false], .bool true]) ?_ rfl ⟨F.out, hw _ _ _⟩
           simp [results, Tryd.results62, go_sem]; done)
        | (refine bodyPost_ret (v := .tuple #[.agg #[.int .i64 2, .bool false], .bool false]) ?_ rfl ⟨F.out, hw _ _ _⟩
           simp [results, Tryd.results62, go_sem]; done)
  have g2 : (xb == 0) = false := by simpa using h2
  by_cases h3 : yb = 0
  · subst h3
    have F := Lib.hid (fin (xo && yo) (by cases xo <;> cases yo <;> simp [eqK, g1]))
    clear fin
    rcases hop with rfl | rfl <;> cases xo <;> cases yo
    all_goals
      simp only [Bool.and_self, Bool.and_true, Bool.and_false] at F
      go_enter Tryd.func62, Tryd.ntmps62
      go_wp2
      first
        | (refine bodyPost_ret (v := .tuple #[.agg #[.int .i64 2, .bool false], .bool true]) ?_ rfl ⟨F.out, hw _ _ _⟩
           simp [results, Tryd.results62, go_sem]; done)
        | (refine bodyPost_ret (v := .tuple #[.agg #[.int .i64 2, .bool false], .bool false]) ?_ rfl ⟨F.out, hw _ _ _⟩
           simp [results, Tryd.results62, go_sem]; done)
  have g3 : (yb == 0) = false := by simpa using h3
  have F := Lib.hid (fin false (by simp [eqK, g1, g2, g3]))
  clear fin
  rcases hop with rfl | rfl
  all_goals
    go_enter Tryd.func62, Tryd.ntmps62
    go_wp2
    exact bodyPost_ret (v := .tuple #[.agg #[.int .i64 2, .bool false], .bool false]) (by simp [results, Tryd.results62, go_sem]) rfl ⟨F.out, hw _ _ _⟩
theorem u102 : Tryd.prog.underlying 108 = some (.array 2 22) := by kernel_rfl
theorem u28 : Tryd.prog.underlying 22 = some (.int .i64) := by kernel_rfl
theorem part28a (a b : Int) (w : World) : (part 22 #[.int .i64 a, .int .i64 b] 0).run Tryd.prog w = .ok (.int .i64 a) w := by kernel_rfl
theorem part28b (a b : Int) (w : World) : (part 22 #[.int .i64 a, .int .i64 b] 1).run Tryd.prog w = .ok (.int .i64 b) w := by kernel_rfl
theorem eq102 (a b c d : Int) (w : World) : (binOp .eql 108 (.agg #[.int .i64 a, .int .i64 b]) (.agg #[.int .i64 c, .int .i64 d])).run Tryd.prog w = .ok (.bool (a == c && b == d)) w := by
  rw [run_eql_struct]
  show ((Op.equalIn (9999 + 1) 108 _ _).run Tryd.prog w).andThen _ = _
  have h1 : ∀ w, (Op.equalIn 9999 22 (.int .i64 a) (.int .i64 c)).run Tryd.prog w = .ok (a == c) w := fun w => run_equalIn_int (P := Tryd.prog) w 9998 22 .i64 .i64 a c u28
  have h2 : ∀ w, (Op.equalIn 9999 22 (.int .i64 b) (.int .i64 d)).run Tryd.prog w = .ok (b == d) w := fun w => run_equalIn_int (P := Tryd.prog) w 9998 22 .i64 .i64 b d u28
  have hr : List.range' 0 2 = [0, 1] := rfl
  cases h3 : (a == c) <;> cases h4 : (b == d) <;> rw [h3] at h1 <;> rw [h4] at h2 <;>
  · unfold Op.equalIn
    simp [Sem.run_bind, run_underlying u102, Result.andThen, part28a, part28b, h1, h2, hr]
set_option maxHeartbeats 2000000 in
theorem two_def (w : World) (xb yb : Int) (xo yo : Bool) (ht : NoTab w) (h0 : 0 < w.heap.size) (a : Option Addr) (n c : Nat) :
    Calls Tryd.prog 62 #[.int .i64 33, .slice a n c, .agg #[.int .i64 xb, .bool xo], .agg #[.int .i64 yb, .bool yo]] w fun e w' => KindOut e (((joinedK (xb, xo) (yb, yo)).1.1, yo), (joinedK (xb, xo) (yb, yo)).2) ∧ Below w.heap.size w w' := by
  have hw : ∀ o, Below w.heap.size w (((w.alloc (.cells #[.int .i64 xb, .bool xo] 74)).alloc (.cells #[.int .i64 yb, .bool yo] 74)).alloc (.cells o 74)) := fun o => (((Below.refl _ _).alloc (Nat.le_refl _) _).alloc (by simp) _).alloc (by simp; omega) _
  have HT := Lib.hid ht
  clear ht
  generalize hq : joinedK (xb, xo) (yb, yo) = q
  obtain ⟨⟨qb, qo⟩, qk⟩ := q
  have HQ := Lib.hid hq
  clear hq
  go_enter Tryd.func62, Tryd.ntmps62
  go_wp2_with fail
  have b3 := hw #[.int .i64 0, .bool false]
  have c0 : (((w.alloc (.cells #[.int .i64 xb, .bool xo] 74)).alloc (.cells #[.int .i64 yb, .bool yo] 74)).alloc (.cells #[.int .i64 0, .bool false] 74)).cell? ⟨w.heap.size + 1, 1, none⟩ = some (.bool yo) := by simp [go_sem]
  with_reducible refine (joined_any _ _ _ _ _ (HT.out.below b3 h0) (by simp)).mono ?_
  rintro e w2 ⟨he, hb⟩
  rw [HQ.out] at he
  unfold KindOut at he
  subst he
  have hs := hb.size
  simp only [World.size_alloc] at hs
  have hs1 : w.heap.size + 1 < w2.heap.size := by omega
  have hs2 : w.heap.size + 1 + 1 < w2.heap.size := by omega
  have c1 := (hb.cell (p := ⟨w.heap.size + 1, 1, none⟩) (by simp)).trans c0
  have c2 := (hb.cell (p := ⟨w.heap.size + 1 + 1, 0, none⟩) (by simp)).trans (show _ = some (Value.int .i64 0) by simp [go_sem])
  have c3 := (hb.cell (p := ⟨w.heap.size + 1 + 1, 1, none⟩) (by simp)).trans (show _ = some (Value.bool false) by simp [go_sem])
  have f2 := (hb.frozen (p := ⟨w.heap.size + 1 + 1, 0, none⟩) (by simp)).trans (show _ = false by simp [go_sem])
  have f3 := (hb.frozen (p := ⟨w.heap.size + 1 + 1, 1, none⟩) (by simp)).trans (show _ = false by simp [go_sem])
  have HB := Lib.hid (b3.trans (hb.mono b3.size))
  clear b3 hb hw c0
  go_wp2_with fail
  exact bodyPost_ret (v := .tuple #[.agg #[.int .i64 qb, .bool yo], .bool qk]) (by simp [results, Tryd.results62, go_sem, c2, c3, hs2]) rfl
    ⟨rfl, ((HB.out.setCell (p := ⟨w.heap.size + 1 + 1, 0, none⟩) (by show w.heap.size ≤ w.heap.size + 1 + 1; omega) _).setCell (p := ⟨w.heap.size + 1 + 1, 1, none⟩) (by show w.heap.size ≤ w.heap.size + 1 + 1; omega) _).alloc (by simp; omega) _⟩
theorem find_next (l : List Row) (p : Row → Bool) (k : Nat) (r : Row) (hr : l[k]? = some r) (h : (l.take k).find? p = none) (hn : p r = false) : (l.take (k + 1)).find? p = none := by
  rw [List.take_add_one, hr, List.find?_append, h]; simp [hn]
theorem look_hit (op a b : Int) (l : List Row) (k : Nat) (r : Row) (hr : l[k]? = some r) (h : (l.take k).find? (hitB op a b) = none) (hn : hitB op a b r = true) : lookR op a b l = ((r.is, false), true) := by
  have e : l = l.take k ++ r :: l.drop (k + 1) := by
    have hk := (List.getElem?_eq_some_iff.1 hr)
    obtain ⟨h1, h2⟩ := hk
    rw [← h2, ← List.drop_eq_getElem_cons h1, List.take_append_drop]
  unfold lookR
  rw [e, List.find?_append, h]; simp [hn]
theorem look_miss (op a b : Int) (l : List Row) (h : l.find? (hitB op a b) = none) : lookR op a b l = ((0, false), false) := by
  unfold lookR; rw [h]
theorem opN_cases (op : Int) : op = 14 ∨ op = 15 ∨ op = 16 ∨ op = 32 ∨ (op ≠ 14 ∧ op ≠ 15 ∧ op ≠ 16 ∧ op ≠ 32 ∧ opN op = op) := by
  by_cases h : op = 14 ∨ op = 15 ∨ op = 16 ∨ op = 32
  · omega
  · right; right; right; right
    exact ⟨by omega, by omega, by omega, by omega, by unfold opN; rw [if_neg (by omega), if_neg (by omega)]⟩
set_option maxRecDepth 100000 in
set_option maxHeartbeats 2000000 in
theorem two_row (w : World) (op : Int) (hop : op ≠ 11 ∧ op ≠ 12 ∧ op ≠ 33) (xb yb : Int) (xo yo : Bool) (a : Option Addr) (c : Nat) (hr : RS 4 Row.cs w a 22 c pairT) :
    Calls Tryd.prog 62 #[.int .i64 op, .slice a 22 c, .agg #[.int .i64 xb, .bool xo], .agg #[.int .i64 yb, .bool yo]] w fun e w' => KindOut e (lookR (opN op) xb yb pairT) ∧ Below w.heap.size w w' := by
  obtain ⟨b, off, rfl, hcell⟩ := hr.addr (by omega)
  have b3 : Below w.heap.size w (((w.alloc (.cells #[.int .i64 xb, .bool xo] 74)).alloc (.cells #[.int .i64 yb, .bool yo] 74)).alloc (.cells #[.int .i64 0, .bool false] 74)) := (((Below.refl _ _).alloc (Nat.le_refl _) _).alloc (by simp) _).alloc (by simp; omega) _
  have HC := Lib.hid hcell
  clear hr hcell
  go_enter Tryd.func62, Tryd.ntmps62
  go_upto_block 0 with (fail)
  go_cut [0] (fun s wx => s = .int .i64 (opN op) ∧ wx = (((w.alloc (.cells #[.int .i64 xb, .bool xo] 74)).alloc (.cells #[.int .i64 yb, .bool yo] 74)).alloc (.cells #[.int .i64 0, .bool false] 74)))
  case first =>
    obtain ⟨n1, n2, n3⟩ := hop
    rcases opN_cases op with rfl | rfl | rfl | rfl | ⟨m1, m2, m3, m4, m5⟩
    · go_wp2
      go_meet
      exact ⟨rfl, rfl⟩
    · go_wp2
      go_meet
      exact ⟨rfl, rfl⟩
    · go_wp2
      go_meet
      exact ⟨rfl, rfl⟩
    · go_wp2
      go_meet
      exact ⟨rfl, rfl⟩
    · have f1 : (op == 11) = false := by simpa using n1
      have f2 : (op == 12) = false := by simpa using n2
      have f3 : (op == 33) = false := by simpa using n3
      have f4 : (op == 14) = false := by simpa using m1
      have f5 : (op == 15) = false := by simpa using m2
      have f6 : (op == 16) = false := by simpa using m3
      have f7 : (op == 32) = false := by simpa using m4
      have M := Lib.hid m5
      clear m5 n1 n2 n3 m1 m2 m3 m4
      go_wp2
      go_meet
      exact ⟨by rw [M.out], rfl⟩
  case rest =>
    obtain ⟨rfl, rfl⟩ := hcut
    clear hop
    have h102 := eq102
    obtain ⟨q, hq⟩ : ∃ q, opN op = q := ⟨_, rfl⟩
    rw [hq]
    have HQ := Lib.hid hq
    clear hq
    have hsz := b3.size
    have x0 : (((w.alloc (.cells #[.int .i64 xb, .bool xo] 74)).alloc (.cells #[.int .i64 yb, .bool yo] 74)).alloc (.cells #[.int .i64 0, .bool false] 74)).cell? ⟨w.heap.size, 0, none⟩ = some (.int .i64 xb) := by simp [go_sem]
    have y0 : (((w.alloc (.cells #[.int .i64 xb, .bool xo] 74)).alloc (.cells #[.int .i64 yb, .bool yo] 74)).alloc (.cells #[.int .i64 0, .bool false] 74)).cell? ⟨w.heap.size + 1, 0, none⟩ = some (.int .i64 yb) := by simp [go_sem]
    have z0 : (((w.alloc (.cells #[.int .i64 xb, .bool xo] 74)).alloc (.cells #[.int .i64 yb, .bool yo] 74)).alloc (.cells #[.int .i64 0, .bool false] 74)).heap[w.heap.size + 1 + 1]? = some (.cells #[.int .i64 0, .bool false] 74) := by
      have := heap_alloc_new ((w.alloc (.cells #[.int .i64 xb, .bool xo] 74)).alloc (.cells #[.int .i64 yb, .bool yo] 74)) (.cells #[.int .i64 0, .bool false] 74)
      simpa using this
    have hs3 : w.heap.size + 1 + 1 < (((w.alloc (.cells #[.int .i64 xb, .bool xo] 74)).alloc (.cells #[.int .i64 yb, .bool yo] 74)).alloc (.cells #[.int .i64 0, .bool false] 74)).heap.size := by simp
    generalize (((w.alloc (.cells #[.int .i64 xb, .bool xo] 74)).alloc (.cells #[.int .i64 yb, .bool yo] 74)).alloc (.cells #[.int .i64 0, .bool false] 74)) = w3 at *
    go_wp2_with fail
    go_loopw [65] (fun i wr => ∃ k : Nat, k ≤ 22 ∧ i = .int .i64 k ∧ Below w3.heap.size w3 wr ∧ (pairT.take k).find? (hitB q xb yb) = none) (fun i _ => 22 - (intOf i).toNat)
    case atStart => exact ⟨0, by omega, rfl, Below.refl _ _, rfl⟩
    case round =>
      obtain ⟨k, hk, rfl, hb, hf⟩ := hrel
      have HF := Lib.hid hf
      have zr := hb.size
      have x1 := (hb.cell (p := ⟨w.heap.size, 0, none⟩) (by show w.heap.size < _; omega)).trans x0
      have y1 := (hb.cell (p := ⟨w.heap.size + 1, 0, none⟩) (by show w.heap.size + 1 < _; omega)).trans y0
      have z1 := (hb.block (w.heap.size + 1 + 1) hs3).trans z0
      have zc0 : wr.cell? ⟨w.heap.size + 1 + 1, 0, none⟩ = some (.int .i64 0) := cell_of_row wr _ 0 _ _ _ z1
      have zc1 : wr.cell? ⟨w.heap.size + 1 + 1, 1, none⟩ = some (.bool false) := cell_of_row wr _ 1 _ _ _ z1
      have zf0 : wr.frozen? ⟨w.heap.size + 1 + 1, 0, none⟩ = false := frozen_of_row wr _ 0 _ _ z1
      have zf1 : wr.frozen? ⟨w.heap.size + 1 + 1, 1, none⟩ = false := frozen_of_row wr _ 1 _ _ z1
      have zs : w.heap.size + 1 + 1 < wr.heap.size := by omega
      have zs1 : w.heap.size + 1 < wr.heap.size := by omega
      have zs0 : w.heap.size < wr.heap.size := by omega
      have HB := Lib.hid hb
      have HB0 := Lib.hid (b3.trans (hb.mono hsz))
      clear hf hb z1 x0 y0 z0
      by_cases hlt : k < 22
      · obtain ⟨r, hrk⟩ : ∃ r, pairT[k]? = some r := ⟨_, List.getElem?_eq_getElem (show k < pairT.length from hlt)⟩
        have hcl := fun j v hv => (HB0.out.cell (p := ⟨b, off + k * 4 + j, none⟩) (block_lt_of_cell (HC.out k r hrk j v hv))).trans (HC.out k r hrk j v hv)
        have r0 := hcl 0 _ rfl
        have r1 := hcl 1 _ rfl
        have r2 := hcl 2 _ rfl
        have r3 := hcl 3 _ rfl
        have rb := block_lt_of_cell r0
        simp only [Nat.add_zero] at r0
        have hltI : (k : Int) < 22 := by omega
        obtain ⟨ro, ra, rb', ri⟩ := r
        simp only at r0 r1 r2 r3
        clear hcl
        have hmiss := fun h => Lib.hid (find_next pairT (hitB q xb yb) k _ hrk HF.out h)
        have hhit := fun h => Lib.hid (look_hit q xb yb pairT k _ hrk HF.out h)
        simp only [hitB] at hmiss hhit
        clear hrk
        by_cases e1 : ro = q
        · have f1 : (ro == q) = true := by simpa using e1
          by_cases e2 : ra = xb
          · have f2 : (ra == xb) = true := by simpa using e2
            by_cases e3 : rb' = yb
            · have f3 : (rb' == yb) = true := by simpa using e3
              have H := hhit (by rw [f1, f2, f3]; rfl)
              clear hmiss hhit e1 e2 e3
              go_wp2
              exact bodyPost_ret (v := .tuple #[.agg #[.int .i64 ri, .bool false], .bool true]) (by simp [results, Tryd.results62, go_sem, zc0, zc1, zs]) rfl
                ⟨by rw [HQ.out, H.out]; rfl, ((HB0.out.setCell (p := ⟨w.heap.size + 1 + 1, 0, none⟩) (by show w.heap.size ≤ w.heap.size + 1 + 1; omega) _).setCell (p := ⟨w.heap.size + 1 + 1, 1, none⟩) (by show w.heap.size ≤ w.heap.size + 1 + 1; omega) _).alloc (by simp; omega) _⟩
            · have f3 : (rb' == yb) = false := by simpa using e3
              have H := hmiss (by rw [f1, f2, f3]; rfl)
              clear hmiss hhit e1 e2
              go_wp2
              go_roundw
              case rel => exact ⟨k + 1, by omega, by go_num, HB.out.alloc (by omega) _, H.out⟩
              case measure => simp [intOf]; omega
          · have f2 : (ra == xb) = false := by simpa using e2
            have H := hmiss (by rw [f1, f2]; rfl)
            clear hmiss hhit e1
            go_wp2
            go_roundw
            case rel => exact ⟨k + 1, by omega, by go_num, HB.out.alloc (by omega) _, H.out⟩
            case measure => simp [intOf]; omega
        · have f1 : (ro == q) = false := by simpa using e1
          have H := hmiss (by rw [f1]; rfl)
          clear hmiss hhit
          go_wp2
          go_roundw
          case rel => exact ⟨k + 1, by omega, by go_num, HB.out.alloc (by omega) _, H.out⟩
          case measure => simp [intOf]; omega
      · have hltI : ¬ (k : Int) < 22 := by omega
        have H := Lib.hid (look_miss q xb yb pairT (by have := HF.out; rwa [List.take_of_length_le (show pairT.length ≤ k by have : pairT.length = 22 := rfl; omega)] at this))
        go_wp2
        exact bodyPost_ret (v := .tuple #[.agg #[.int .i64 0, .bool false], .bool false]) (by simp [results, Tryd.results62, go_sem, zc0, zc1]) rfl
          ⟨by rw [HQ.out, H.out]; rfl, (HB0.out.setCell (p := ⟨w.heap.size + 1 + 1, 0, none⟩) (by show w.heap.size ≤ w.heap.size + 1 + 1; omega) _).setCell (p := ⟨w.heap.size + 1 + 1, 1, none⟩) (by show w.heap.size ≤ w.heap.size + 1 + 1; omega) _⟩
theorem ktwo_any (w : World) (op : Int) (xb yb : Int) (xo yo : Bool) (ht : NoTab w) (h0 : 0 < w.heap.size) (a : Option Addr) (c : Nat) (hr : RS 4 Row.cs w a 22 c pairT) :
    Calls Tryd.prog 62 #[.int .i64 op, .slice a 22 c, .agg #[.int .i64 xb, .bool xo], .agg #[.int .i64 yb, .bool yo]] w fun e w' => KindOut e (twoK op (xb, xo) (yb, yo)) ∧ Below w.heap.size w w' := by
  unfold twoK
  by_cases h1 : op = 11 ∨ op = 12
  · rw [if_pos h1]; exact two_eq w op h1 xb yb xo yo ht h0 a 22 c
  · rw [if_neg h1]
    by_cases h2 : op = 33
    · rw [if_pos h2]; subst h2; exact two_def w xb yb xo yo ht h0 a 22 c
    · rw [if_neg h2]; exact two_row w op ⟨by omega, by omega, h2⟩ xb yb xo yo a c hr
theorem findN_next (l : List Nm) (p : Nm → Bool) (k : Nat) (r : Nm) (hr : l[k]? = some r) (h : (l.take k).find? p = none) (hn : p r = false) : (l.take (k + 1)).find? p = none := by
  rw [List.take_add_one, hr, List.find?_append, h]; simp [hn]
theorem named_hit (l : List Nm) (n : List UInt8) (k : Nat) (r : Nm) (hr : l[k]? = some r) (h : (l.take k).find? (isNm n) = none) (hn : isNm n r = true) : namedK l n = ((r.b, r.o), decide (1 ≤ r.b) && decide (r.b ≤ 5)) := by
  have e : l = l.take k ++ r :: l.drop (k + 1) := by
    obtain ⟨h1, h2⟩ := List.getElem?_eq_some_iff.1 hr
    rw [← h2, ← List.drop_eq_getElem_cons h1, List.take_append_drop]
  unfold namedK
  rw [e, List.find?_append, h]; simp [hn]
theorem named_miss (l : List Nm) (n : List UInt8) (h : l.find? (isNm n) = none) : namedK l n = ((0, false), false) := by
  unfold namedK; rw [h]
set_option maxRecDepth 100000 in
set_option maxHeartbeats 2000000 in
theorem named_any (w : World) (g : Nat) (a : Option Addr) (n c : Nat) (sc : List Nm) (hr : RS 3 Nm.cs w a n c sc) (hg : w.cell? ⟨g, 0, none⟩ = some (.slice a n c)) (s : ByteArray) :
    Calls Tryd.prog 59 #[.pointer (some ⟨g, 0, none⟩), .string s] w fun e w' => KindOut e (namedK sc s.toList) ∧ Below w.heap.size w w' := by
  have hlen := hr.1
  have hn48 := hr.2.2.1
  have HR := Lib.hid hr
  have hgl := block_lt_of_cell hg
  simp only at hgl
  have bw : Below w.heap.size w (w.alloc (.cells #[.int .i64 0, .bool false] 74)) := (Below.refl _ _).alloc (Nat.le_refl _) _
  have z0 : (w.alloc (.cells #[.int .i64 0, .bool false] 74)).heap[w.heap.size]? = some (.cells #[.int .i64 0, .bool false] 74) := heap_alloc_new _ _
  have hs3 : w.heap.size < (w.alloc (.cells #[.int .i64 0, .bool false] 74)).heap.size := by simp
  clear hr
  go_enter Tryd.func59, Tryd.ntmps59
  go_wp2_with fail
  generalize w.alloc (.cells #[.int .i64 0, .bool false] 74) = w3 at *
  go_loopw [13] (fun i wr => ∃ k : Nat, k ≤ n ∧ i = .int .i64 k ∧ Below w3.heap.size w3 wr ∧ (sc.take k).find? (isNm s.toList) = none) (fun i _ => n - (intOf i).toNat)
  case atStart => exact ⟨0, by omega, rfl, Below.refl _ _, rfl⟩
  case round =>
    obtain ⟨k, hk, rfl, hb, hf⟩ := hrel
    have HF := Lib.hid hf
    have zr := hb.size
    have z1 := (hb.block w.heap.size hs3).trans z0
    have zc0 : wr.cell? ⟨w.heap.size, 0, none⟩ = some (.int .i64 0) := cell_of_row wr _ 0 _ _ _ z1
    have zc1 : wr.cell? ⟨w.heap.size, 1, none⟩ = some (.bool false) := cell_of_row wr _ 1 _ _ _ z1
    have zf0 : wr.frozen? ⟨w.heap.size, 0, none⟩ = false := frozen_of_row wr _ 0 _ _ z1
    have zf1 : wr.frozen? ⟨w.heap.size, 1, none⟩ = false := frozen_of_row wr _ 1 _ _ z1
    have zs : w.heap.size < wr.heap.size := by omega
    have HB := Lib.hid hb
    have HB0 := Lib.hid (bw.trans (hb.mono (by omega)))
    clear hf hb z1 z0 bw
    by_cases hlt : k < n
    · obtain ⟨b, off, r, rfl, hrk, hcl0⟩ := HR.out.at hlt
      have hcl := fun j v hv => (HB0.out.cell (p := ⟨b, off + k * 3 + j, none⟩) (block_lt_of_cell (hcl0 j v hv))).trans (hcl0 j v hv)
      have r0 := hcl 0 _ rfl
      have r1 := hcl 1 _ rfl
      have r2 := hcl 2 _ rfl
      simp only [Nat.add_zero] at r0
      have hltI : (k : Int) < (n : Int) := by omega
      obtain ⟨rn, rb, ro⟩ := r
      simp only at r0 r1 r2
      clear hcl hcl0
      have hmiss := fun h => Lib.hid (findN_next sc (isNm s.toList) k _ hrk HF.out h)
      have hhit := fun h => Lib.hid (named_hit sc s.toList k _ hrk HF.out h)
      simp only [isNm] at hmiss hhit
      have HRK := Lib.hid hrk
      clear hrk
      cases e1 : (rn.toList == s.toList) with
      | true =>
        have H := hhit e1
        clear hmiss hhit
        by_cases c1 : 1 ≤ rb
        · by_cases c2 : rb ≤ 5
          · have d2 : decide (rb ≤ 5) = true := by simpa using c2
            go_wp2
            go_region
            all_goals go_wp2
            all_goals exact bodyPost_ret (v := .tuple #[.agg #[.int .i64 rb, .bool ro], .bool true]) (by simp [results, Tryd.results59, go_sem, zc0, zc1, zs]) rfl ⟨by rw [H.out]; simp [KindOut, c1, c2], (((HB0.out.setCell (p := ⟨w.heap.size, 0, none⟩) (Nat.le_refl _) _).setCell (p := ⟨w.heap.size, 1, none⟩) (Nat.le_refl _) _).alloc (by simp; omega) _).drew⟩
          · have d2 : decide (rb ≤ 5) = false := by simpa using c2
            go_wp2
            go_region
            all_goals go_wp2
            all_goals exact bodyPost_ret (v := .tuple #[.agg #[.int .i64 rb, .bool ro], .bool false]) (by simp [results, Tryd.results59, go_sem, zc0, zc1, zs]) rfl ⟨by rw [H.out]; simp [KindOut, c1, c2], (((HB0.out.setCell (p := ⟨w.heap.size, 0, none⟩) (Nat.le_refl _) _).setCell (p := ⟨w.heap.size, 1, none⟩) (Nat.le_refl _) _).alloc (by simp; omega) _).drew⟩
        · have d1 : decide (1 ≤ rb) = false := by simpa using c1
          go_wp2
          go_region
          all_goals go_wp2
          all_goals exact bodyPost_ret (v := .tuple #[.agg #[.int .i64 rb, .bool ro], .bool false]) (by simp [results, Tryd.results59, go_sem, zc0, zc1, zs]) rfl ⟨by rw [H.out, d1]; rfl, (((HB0.out.setCell (p := ⟨w.heap.size, 0, none⟩) (Nat.le_refl _) _).setCell (p := ⟨w.heap.size, 1, none⟩) (Nat.le_refl _) _).alloc (by simp; omega) _).drew⟩
      | false =>
        have H := hmiss e1
        clear hmiss hhit
        go_wp2
        go_roundw
        case rel => exact ⟨k + 1, by omega, by go_num, HB.out.alloc (by omega) _, H.out⟩
        case measure => simp [intOf]; omega
    · have hltI : ¬ (k : Int) < (n : Int) := by omega
      have H := Lib.hid (named_miss sc s.toList (by have := HF.out; rwa [List.take_of_length_le (by omega)] at this))
      go_wp2
      exact bodyPost_ret (v := .tuple #[.agg #[.int .i64 0, .bool false], .bool false]) (by simp [results, Tryd.results59, go_sem, zc0, zc1]) rfl
        ⟨by rw [H.out]; rfl, (HB0.out.setCell (p := ⟨w.heap.size, 0, none⟩) (Nat.le_refl _) _).setCell (p := ⟨w.heap.size, 1, none⟩) (Nat.le_refl _) _⟩
end Go.Proofs.YtcnckjlmldnblaaDoor
