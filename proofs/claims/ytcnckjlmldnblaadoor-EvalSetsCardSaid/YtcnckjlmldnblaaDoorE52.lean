import Derived.Test.YtcnckjlmldnblaaDoorE51
import Derived.BigGuardPart
namespace Go.Proofs.YtcnckjlmldnblaaDoor
open Go Go.RowKit
set_option linter.unusedVariables false
set_option linter.unusedSimpArgs false
theorem res29 (tmps : Array Value) (w : World) (g : Nat) (x0 x1 x2 x3 u : Value) (hg : w.heap[g]? = some (.cells #[x0, x1, x2, x3] 25 (0, 0))) (h6 : tmps[2]? = some (.pointer (some ⟨g, 0, none⟩))) (h7 : tmps[3]? = some u) :
    (results Tryd.f29 tmps).run Tryd.prog w = .ok (.tuple #[.agg #[x0, x1, x2, x3], u]) w := by
  obtain ⟨c0, c1, c2, c3, -⟩ := box4 hg
  simp [results, Tryd.results29, go_sem, h6, h7, c0, c1, c2, c3]
theorem new_tx (w : World) (m : ByteArray) (j : Nat) (u : Value) (h : (Vc.cs ⟨textV m, none, 0, 0⟩)[j]? = some u) : (w.alloc (.cells #[.int .i64 3, .int .i64 0, .string m, .slice none 0 0] 25)).cell? ((⟨w.heap.size, 0, none⟩ : Addr).add j) = some u := by
  rw [Addr.add_lit, cell_of_row _ _ _ _ _ _ (heap_alloc_new w _), Nat.zero_add]
  simpa [Vc.cs] using h
abbrev txs (l : List ByteArray) : List Vc := l.map fun m => ⟨textV m, none, 0, 0⟩
theorem laid_snoc {l : List ByteArray} {k : Nat} {y : ByteArray} (hk : k < 20) (h : l[k]? = some y) : laidL (l.take (k + 1)) = laidL (l.take k) ++ [cutT y] := by
  unfold laidL
  rw [List.take_take, List.take_take, Nat.min_eq_right (by omega), Nat.min_eq_right (by omega), List.take_add_one, h]
  simp
theorem laid_end {l : List ByteArray} {k : Nat} (h : k = l.length ∨ k = 20) : laidL (l.take k) = laidL l := by
  unfold laidL
  rcases h with rfl | rfl
  · rw [List.take_length]
  · rw [List.take_take, Nat.min_self]
set_option maxRecDepth 100000 in
set_option maxHeartbeats 4000000 in
/-- The worth of a set of a list's first texts. -/
theorem laid_any (w : World) (a : Option Addr) (n c : Nat) (l : List ByteArray) (hl : RS 1 Sv w a n c l) (hs : ∀ m ∈ l, m.size ≤ maxLen) (ht : ResTab w 1) (h1 : 1 < w.heap.size) :
    Calls Tryd.prog 29 #[.slice a n c] w fun e w' => (∃ a' c', e = .returned (.tuple #[VA (setV (setOf (laidL l))) a' (setOf (laidL l)).length c', .int .i64 0]) ∧ RZ w' a' (setOf (laidL l)).length c' (setOf (laidL l))) ∧ Below w.heap.size w w' := by
  obtain ⟨w1, hw1⟩ : ∃ w1, w1 = w.alloc boxZ := ⟨_, rfl⟩
  have g0 : w1.heap[w.heap.size]? = some boxZ := by rw [hw1]; exact heap_alloc_new w _
  have hb1 : Below w.heap.size w w1 := by rw [hw1]; exact bel1 _ _
  have z1 : w.heap.size < w1.heap.size := by rw [hw1]; simp
  have HLN := Lib.hid hl.1
  have HL := Lib.hid hl
  have HS := Lib.hid hs
  have HT := Lib.hid ht
  have H1 := Lib.hid h1
  have G0 := Lib.hid g0
  have HB1 := Lib.hid hb1
  have hn48 := hl.2.2.1
  clear hl hs ht h1 g0 hb1
  go_enter Tryd.func29, Tryd.ntmps29
  go_upto_region 1 with (fail)
  rw [← hw1]
  clear hw1
  go_wp2_with fail
  go_loopw [4, 5] (fun v i wr => ∃ k : Nat, k ≤ n ∧ k ≤ 20 ∧ i = .int .i64 k ∧ (∃ va vc, v = .slice va k vc) ∧ wr.ownsRow w1.heap.size 25 4 v k ((txs (laidL (l.take k))).flatMap Vc.cs) ∧ Below w1.heap.size w1 wr) (fun _ i _ => 21 - (intOf i).toNat)
  case atStart => exact ⟨0, by omega, by omega, rfl, ⟨none, 0, rfl⟩, World.ownsRow_nil _ _ _ _, Below.refl _ _⟩
  case round =>
    obtain ⟨k, hk, hk20, rfl, ⟨va, vc, rfl⟩, hv, hb⟩ := hrel
    have HV := Lib.hid hv
    have HB := Lib.hid hb
    have HZ := Lib.hid hb.size
    clear hv hb
    by_cases hlt : k < n ∧ k < 20
    · obtain ⟨hlt, hlt2⟩ := hlt
      obtain ⟨lb, lo, y, rfl, hyk, hcl0⟩ := HL.out.at hlt
      have hBw := HB1.out.trans (HB.out.mono (by omega))
      have c0 := (hBw.cell (p := ⟨lb, lo + k * 1 + 0, none⟩) (block_lt_of_cell (hcl0 0 _ rfl))).trans (hcl0 0 _ rfl)
      simp only [Nat.add_zero, Nat.mul_one] at c0
      have hltI : (k : Int) < (n : Int) := by omega
      have hlt20 : (k : Int) < 20 := by omega
      have HYK := Lib.hid hyk
      have hys := HS.out y (List.mem_of_getElem? hyk)
      unfold maxLen at hys
      clear hcl0 hBw hyk
      by_cases hbig : 1024 < y.size
      · have hI : (1024 : Int) < (y.size : Int) := by omega
        have HC := Lib.hid (show cutT y = y.extract 0 1024 by unfold cutT; rw [if_pos hbig])
        go_wp2_with (at_builtin; (refine L_appendN rfl _ _ _ rfl sl68 w1.heap.size (.slice va k vc) k _ rfl (own_below HV.out (bel1 _ (.cells #[.int .i64 3, .int .i64 0, .string (y.extract 0 1024), .slice none 0 0] 25))) _ 1 1 (Vc.cs ⟨textV (y.extract 0 1024), none, 0, 0⟩) rfl rfl (new_tx wr (y.extract 0 1024)) (by simp [Vc.cs, Value.oneCell']) (by omega) (by simp [maxLen]; omega) (by have := HZ.out; simp; omega) (fun a6 c6 w6 ho6 hg6 hat6 => ?_)))
        have hb6 := (HB.out.alloc (by have := HZ.out; simp; omega) _).grown hg6 (by have := HZ.out; simp; omega) (fun q hq => by have := (HV.out.lt q hq).1; omega)
        have HB6 := Lib.hid hb6
        have HV6 := Lib.hid ho6
        clear hb6 ho6 hg6 hat6
        go_roundw
        case rel => exact ⟨k + 1, by omega, by omega, by go_num, ⟨_, _, rfl⟩, by rw [laid_snoc (by omega) HYK.out, HC.out]; simpa [txs, List.map_append, List.flatMap_append] using HV6.out, HB6.out⟩
        case measure => simp [intOf]; omega
      · have hI : ¬ (1024 : Int) < (y.size : Int) := by omega
        have HC := Lib.hid (show cutT y = y by unfold cutT; rw [if_neg hbig])
        go_wp2_with (at_builtin; (refine L_appendN rfl _ _ _ rfl sl68 w1.heap.size (.slice va k vc) k _ rfl (own_below HV.out (bel1 _ (.cells #[.int .i64 3, .int .i64 0, .string y, .slice none 0 0] 25))) _ 1 1 (Vc.cs ⟨textV y, none, 0, 0⟩) rfl rfl (new_tx wr y) (by simp [Vc.cs, Value.oneCell']) (by omega) (by simp [maxLen]; omega) (by have := HZ.out; simp; omega) (fun a6 c6 w6 ho6 hg6 hat6 => ?_)))
        have hb6 := (HB.out.alloc (by have := HZ.out; simp; omega) _).grown hg6 (by have := HZ.out; simp; omega) (fun q hq => by have := (HV.out.lt q hq).1; omega)
        have HB6 := Lib.hid hb6
        have HV6 := Lib.hid ho6
        clear hb6 ho6 hg6 hat6
        go_roundw
        case rel => exact ⟨k + 1, by omega, by omega, by go_num, ⟨_, _, rfl⟩, by rw [laid_snoc (by omega) HYK.out, HC.out]; simpa [txs, List.map_append, List.flatMap_append] using HV6.out, HB6.out⟩
        case measure => simp [intOf]; omega
    · have hend : k = l.length ∨ k = 20 := by have := HLN.out; omega
      have HE := Lib.hid (laid_end (l := l) hend)
      have hvr : RS 4 Vc.cs wr va k vc (txs (laidL (l.take k))) := RS.of_owns HV.out (by decide) Vc_len (by omega)
      have HVR := Lib.hid hvr
      have hkl : (laidL (l.take k)).length = k := by have := hvr.1; simpa [txs] using this
      have HKL := Lib.hid hkl
      have HBW := Lib.hid (HB1.out.trans (HB.out.mono (by omega)))
      have hguard : (k : Int) < (n : Int) → (k : Int) < 20 → False := by intro h2 h3; omega
      have HVS := Lib.hid (show ∀ v ∈ txs (laidL (l.take k)), RZ wr v.a v.l v.c v.x.ss ∧ I64 v.x.n ∧ v.l ≤ 1000000 from fun v hv => by
        obtain ⟨m, -, rfl⟩ := List.mem_map.1 hv
        exact ⟨⟨rs_nil1 _, fun _ => rfl⟩, (show I64 0 from ⟨by decide, by decide⟩), by show 0 ≤ 1000000; omega⟩)
      have HT7 := Lib.hid (HT.out.below HBW.out H1.out H1.out)
      have z7 : 1 < wr.heap.size := by have := H1.out; have := HBW.out.size; omega
      have z07 : w.heap.size < wr.heap.size := by have := HB.out.size; omega
      have HG7 := Lib.hid ((HB.out.block _ z1).trans G0.out)
      clear hvr hkl
      by_cases hkn : (k : Int) < (n : Int)
      · have h20 : ¬ (k : Int) < 20 := by omega
        clear hguard hlt hend
        go_wp2_with fail
        with_reducible refine (worthop_any wr 6 va k vc (txs (laidL (l.take k))) HVR.out (by omega) HVS.out HT7.out z7).mono ?_
        rintro e w8 ⟨⟨ka, kc, hm⟩, hb8⟩
        rw [set_worth ka kc (laidL (l.take k)) k (by omega) HKL.out laid_size, HE.out] at hm
        obtain ⟨v, rfl, hs⟩ := hm
        obtain ⟨a', l', c', rfl, hl', -⟩ := id hs
        have hlr : l' = (setOf (laidL l)).length := hl'
        subst hlr
        have HSS := Lib.hid hs
        have HB8 := Lib.hid (HBW.out.trans (hb8.mono (by omega)))
        have HG8 := Lib.hid ((hb8.block _ z07).trans HG7.out)
        have z8 : w.heap.size < w8.heap.size := by have := hb8.size; omega
        have hle := laid_len l
        obtain ⟨c0, c1, c2, c3, f0, f1, f2, f3⟩ := box4 HG8.out
        clear hs hl' hb8
        go_wp2_with fail
        refine bodyPost_ret (res29 _ _ w.heap.size _ _ _ _ _ (heap_box HG8.out _ _ _ _) rfl rfl) rfl ?_
        exact ⟨⟨a', c', rfl, (HSS.out.box z07 _ _ _ _).rz (by omega)⟩, below_box (by omega) HB8.out _ _ _ _⟩
      · clear hguard hlt hend
        go_wp2_with fail
        with_reducible refine (worthop_any wr 6 va k vc (txs (laidL (l.take k))) HVR.out (by omega) HVS.out HT7.out z7).mono ?_
        rintro e w8 ⟨⟨ka, kc, hm⟩, hb8⟩
        rw [set_worth ka kc (laidL (l.take k)) k (by omega) HKL.out laid_size, HE.out] at hm
        obtain ⟨v, rfl, hs⟩ := hm
        obtain ⟨a', l', c', rfl, hl', -⟩ := id hs
        have hlr : l' = (setOf (laidL l)).length := hl'
        subst hlr
        have HSS := Lib.hid hs
        have HB8 := Lib.hid (HBW.out.trans (hb8.mono (by omega)))
        have HG8 := Lib.hid ((hb8.block _ z07).trans HG7.out)
        have z8 : w.heap.size < w8.heap.size := by have := hb8.size; omega
        have hle := laid_len l
        obtain ⟨c0, c1, c2, c3, f0, f1, f2, f3⟩ := box4 HG8.out
        clear hs hl' hb8
        go_wp2_with fail
        refine bodyPost_ret (res29 _ _ w.heap.size _ _ _ _ _ (heap_box HG8.out _ _ _ _) rfl rfl) rfl ?_
        exact ⟨⟨a', c', rfl, (HSS.out.box z07 _ _ _ _).rz (by omega)⟩, below_box (by omega) HB8.out _ _ _ _⟩
end Go.Proofs.YtcnckjlmldnblaaDoor
