import Derived.Test.YtdepdediggokgaaDoorV1
import Derived.Test.YtdepdediggokgaaDoorW9
import Derived.Test.YtdepdediggokgaaDoorP3
import Derived.Deep.DeepCutAuto
import Derived.Deep.CutBlock
namespace Go.Proofs.YtdepdediggokgaaDoor
open Go.RowKit
set_option linter.unusedVariables false
/-- A slice of slices of bytes that can be read. -/
def RR8 (w : World) (a : Option Addr) (n c : Nat) (ps : List (List UInt8)) : Prop :=
  ∃ vs, RV w a n c vs ∧ vs.length = ps.length ∧ ∀ (i : Nat) (v : Value) (p : List UInt8), vs[i]? = some v → ps[i]? = some p → ∃ a' n' c', v = Value.slice a' n' c' ∧ R8 w a' n' c' p
theorem RR8.len {w : World} {a : Option Addr} {n c : Nat} {ps : List (List UInt8)} (h : RR8 w a n c ps) : ps.length = n ∧ n ≤ 281474976710656 := by
  obtain ⟨vs, h1, h2, _⟩ := h
  exact ⟨by rw [← h2]; exact h1.1, h1.2.2.1⟩
theorem RR8.below {w w' : World} {a : Option Addr} {n c : Nat} {ps : List (List UInt8)} (h : RR8 w a n c ps) (hb : Below w.heap.size w w') : RR8 w' a n c ps := by
  obtain ⟨vs, h1, h2, h3⟩ := h
  refine ⟨vs, h1.below hb, h2, fun i v p hv hp => ?_⟩
  obtain ⟨a', n', c', e, hr⟩ := h3 i v p hv hp
  exact ⟨a', n', c', e, hr.below hb⟩
theorem RR8.at {w : World} {a : Option Addr} {n c : Nat} {ps : List (List UInt8)} (h : RR8 w a n c ps) {i : Nat} (hi : i < n) :
    ∃ b off a' n' c' p, a = some ⟨b, off, none⟩ ∧ ps[i]? = some p ∧ w.cell? ⟨b, off + i, none⟩ = some (.slice a' n' c') ∧ R8 w a' n' c' p := by
  obtain ⟨vs, h1, h2, h3⟩ := h
  obtain ⟨b, off, v, e, hv, hc⟩ := h1.at hi
  have hp : i < ps.length := by rw [← h2, h1.1]; exact hi
  obtain ⟨a', n', c', rfl, hr⟩ := h3 i v ps[i] hv (by simp)
  exact ⟨b, off, a', n', c', ps[i], e, by simp, hc, hr⟩

def roomI (left n : Int) : Int := if left < 0 ∨ left < n then -1 else left - n
theorem room_any (w : World) (left n : Int) (h0 : -1 ≤ left) (h1 : left ≤ 4611686018427387904) (h2 : 0 ≤ n) (h3 : n ≤ 4611686018427387904) :
    Calls Tryd.prog 40 #[.int .i64 left, .int .i64 n] w fun e w' => e = .returned (.int .i64 (roomI left n)) ∧ w = w' := by
  unfold roomI
  by_cases c1 : left < 0
  · rw [if_pos (.inl c1)]
    go_enter Tryd.func40, Tryd.ntmps40
    go_wp2
    go_ret
    exact ⟨rfl, rfl⟩
  · by_cases c2 : left < n
    · rw [if_pos (.inr c2)]
      go_enter Tryd.func40, Tryd.ntmps40
      go_wp2
      go_ret
      exact ⟨rfl, rfl⟩
    · rw [if_neg (by omega)]
      go_enter Tryd.func40, Tryd.ntmps40
      go_wp2
      go_ret
      exact ⟨rfl, rfl⟩
theorem roomI_bd (left n : Int) (h0 : -1 ≤ left) (h1 : left ≤ 4611686018427387904) (h2 : 0 ≤ n) : -1 ≤ roomI left n ∧ roomI left n ≤ 4611686018427387904 := by
  unfold roomI; split <;> omega
set_option maxHeartbeats 400000 in
theorem lists_any (w : World) (left : Int) (h0 : -1 ≤ left) (h1 : left ≤ 4611686018427387904) (a : Option Addr) (n c : Nat) (ps : List (List UInt8)) (h : RR8 w a n c ps) :
    Calls Tryd.prog 26 #[.int .i64 left, .slice a n c] w fun e w' => ∃ r : Int, -1 ≤ r ∧ r ≤ 4611686018427387904 ∧ e = .returned (.int .i64 r) ∧ w = w' := by
  have hn := h.len.2
  go_enter Tryd.func26, Tryd.ntmps26
  go_wp2
  go_loop [0, 5] (fun x i => ∃ k : Nat, k ≤ n ∧ i = .int .i64 k ∧ ∃ r : Int, -1 ≤ r ∧ r ≤ 4611686018427387904 ∧ x = .int .i64 r) (fun _ i => n - (intOf i).toNat)
  case atStart => exact ⟨0, by omega, rfl, left, h0, h1, rfl⟩
  case round =>
    obtain ⟨k, hk, rfl, r, r0, r1, rfl⟩ := hrel
    by_cases hlt : k < n
    · obtain ⟨b, off, a', n', c', p, rfl, hp, hc, hr⟩ := h.at hlt
      have hn' := hr.2.2.1
      obtain ⟨s0, s1⟩ := roomI_bd r 1 r0 r1 (by omega)
      obtain ⟨t0, t1⟩ := roomI_bd (roomI r 1) n' s0 s1 (by omega)
      have R1 := Lib.hid (room_any w r 1 r0 r1 (by omega) (by omega))
      have R2 := Lib.hid (room_any w (roomI r 1) n' s0 s1 (by omega) (by omega))
      clear h hr hp
      generalize roomI r 1 = x at *
      generalize roomI x n' = y at *
      by_cases hr0 : r < 0
      · go_wp2
        go_ret
        exact ⟨r, r0, r1, rfl, rfl⟩
      · go_wp2_with fail
        with_reducible refine R1.out.mono ?_
        rintro e w' ⟨rfl, rfl⟩
        go_wp2_with fail
        with_reducible refine R2.out.mono ?_
        rintro e w' ⟨rfl, rfl⟩
        go_wp2
        go_round
        case rel => exact ⟨k + 1, by omega, by go_num, y, t0, t1, rfl⟩
        case measure => simp [intOf]; omega
    · clear h
      go_wp2
      go_ret
      exact ⟨r, r0, r1, rfl, rfl⟩

theorem sl53 : Sl Tryd.prog 53 3 (.int .i64 0) 1 8 := ⟨Tryd.underlying53, by kernel_rfl, rfl, by decide⟩
def iv (n : Nat) : Value := .int .i64 (n : Int)
/-- The places where frames end. -/
def endsL (n : Nat) (qs : List (List UInt8)) : List Nat := (List.range (qs.length + 1)).map fun j => (catL n (qs.take j)).length
theorem endsL_len (n : Nat) (qs : List (List UInt8)) : (endsL n qs).length = qs.length + 1 := by simp [endsL]
theorem endsL_get (n : Nat) (qs : List (List UInt8)) (j : Nat) (h : j ≤ qs.length) : (endsL n qs)[j]? = some (catL n (qs.take j)).length := by
  simp [endsL, show j < qs.length + 1 by omega]
theorem endsL_snoc (n : Nat) (qs : List (List UInt8)) (q : List UInt8) : endsL n (qs ++ [q]) = endsL n qs ++ [(catL n (qs ++ [q])).length] := by
  simp only [endsL, List.length_append, List.length_cons, List.length_nil, Nat.zero_add]
  rw [List.range_succ, List.map_append]
  congr 1
  · apply List.map_congr_left
    intro j hj
    rw [List.take_append_of_le_length (by simp at hj; omega)]
  · rw [List.map_cons, List.map_nil, List.take_of_length_le (by simp)]
theorem own_apart {w : World} {B1 B2 e1 e2 s1 s2 : Nat} {v1 v2 : Value} {n1 n2 : Nat} {x1 x2 : List Value} (h1 : w.ownsRow B1 e1 s1 v1 n1 x1) (h2 : w.ownsRow B2 e2 s2 v2 n2 x2) (hne : e1 ≠ e2) :
    v1.ownBlock = none ∨ v1.ownBlock ≠ v2.ownBlock := by
  rcases h1.2 with ⟨rfl, _⟩ | ⟨g, cap, cur, rfl, _, hg, _⟩
  · exact .inl rfl
  · right
    rcases h2.2 with ⟨rfl, _⟩ | ⟨g', cap', cur', rfl, _, hg', _⟩
    · simp [Value.ownBlock]
    · simp only [Value.ownBlock]
      intro e
      obtain rfl := Option.some.inj e
      rw [hg] at hg'
      simp at hg'
      exact hne hg'.2

/-- What stands behind the law's first loop: some of the records are laid. -/
def TornJ (w wx : World) (A : Nat) (ps : List (List UInt8)) (v7 v9 : Value) : Prop :=
  ∃ (i : Nat) (a7 a9 : Option Addr) (n7 n9 c7 c9 : Nat), v7 = .slice a7 n7 c7 ∧ v9 = .slice a9 n9 c9 ∧
    wx.ownsRow w.heap.size 5 1 (.slice a7 n7 c7) n7 ((catL A ([7] :: ps.take i)).map b8) ∧ wx.ownsRow w.heap.size 3 1 (.slice a9 n9 c9) n9 ((endsL A ([7] :: ps.take i)).map iv) ∧
    Below w.heap.size w wx ∧ (∀ q ∈ [7] :: ps.take i, q.length ≤ 65536) ∧ A + ([7] :: ps.take i).length ≤ 1099511627776 ∧ i ≤ ps.length
theorem take_sum_le (ps : List (List UInt8)) (i : Nat) : ((ps.take i).map List.length).sum ≤ (ps.map List.length).sum := by
  induction ps generalizing i with
  | nil => simp
  | cons p ps ih =>
    cases i with
    | zero => simp
    | succ i => simp only [List.take_succ_cons, List.map_cons, List.sum_cons]; have := ih i; omega
theorem torn_len (A : Nat) (ps : List (List UInt8)) (i : Nat) (hi : i ≤ ps.length) (hs : (ps.map List.length).sum + ps.length ≤ 1048576) : (catL A ([7] :: ps.take i)).length ≤ 20000000 := by
  rw [catL_len]
  have := take_sum_le ps i
  simp only [List.map_cons, List.sum_cons, List.length_cons, List.length_nil, List.length_take]; omega
theorem mem_len {ps : List (List UInt8)} {i : Nat} {p : List UInt8} (h : ps[i]? = some p) (hs : (ps.map List.length).sum + ps.length ≤ 1048576) : p.length ≤ 1048576 := by
  have : p.length ≤ (ps.map List.length).sum := by
    clear hs
    induction ps generalizing i with
    | nil => simp at h
    | cons q ps ih =>
      cases i with
      | zero => simp at h; subst h; simp
      | succ i => simp at h; have := ih h; simp; omega
  omega

set_option maxRecDepth 100000 in
set_option maxHeartbeats 4000000 in
theorem frametorn_walk (w : World) (n : Int) (n0 : -9223372036854775808 ≤ n) (n1 : n ≤ 9223372036854775807)
    (sa : Option Addr) (m c : Nat) (ps : List (List UInt8)) (h : RR8 w sa m c ps) (hs : (ps.map List.length).sum + ps.length ≤ 1048576) (cut : Int) (cut0 : -9223372036854775808 ≤ cut) (cut1 : cut ≤ 9223372036854775807) (ht0 : HalfTab w ∧ 0 < w.heap.size) :
    Calls Tryd.prog 8 #[.int .i64 n, .slice sa m c, .int .i64 cut] w fun e w' => e = .returned (.bool true) ∧ Below w.heap.size w w' := by
  obtain ⟨ht, h0⟩ := ht0
  have HT := Lib.hid ht
  have HH := Lib.hid h
  have hpl := h.len.1
  have hmb : (m : Int) ≤ 1048576 := by omega
  have HMB := Lib.hid hmb
  have hm48 : m ≤ 281474976710656 := by omega
  have hm1 : decide ((153391689 : Int) < (m : Int)) = false := by simp; omega
  have HS := Lib.hid hs
  have HPL := Lib.hid hpl
  have hw1 : IntKind.i64.wrap (13 * (m : Int)) = 13 * (m : Int) := by simp [IntKind.wrap, IntKind.bits, IntKind.signed]; omega
  have hw2 : IntKind.i64.wrap (2147483647 - 13 * (m : Int)) = 2147483647 - 13 * (m : Int) := by simp [IntKind.wrap, IntKind.bits, IntKind.signed]; omega
  have HLI := Lib.hid (lists_any w (2147483647 - 13 * (m : Int)) (by omega) (by omega) sa m c ps h)
  clear hs hpl hmb
  go_enter Tryd.func8, Tryd.ntmps8
  go_wp2_with fail
  with_reducible refine HLI.out.mono ?_
  rintro e w' ⟨r, r0, r1, rfl, rfl⟩
  clear HLI
  by_cases hr : r < 0
  · clear h
    go_wp2
    go_ret
    exact ⟨rfl, Below.refl _ _⟩
  go_wp2_with fail
  with_reducible refine (first_any _ ht h0).mono ?_
  rintro e w1 ⟨rfl, hb1⟩
  have z1 := hb1.size
  have ht1 := ht.below hb1 h0
  have hr1 := h.below hb1
  have B1 := Lib.hid hb1
  clear hb1 ht h hw1 hw2 hr r0 r1
  go_wp2_with fail
  with_reducible refine (within_any _ n 1099511627775 (by omega) (by omega) n0 n1).mono ?_
  rintro e w' ⟨A, hA0, hA1, rfl, rfl⟩
  obtain ⟨A, rfl⟩ := Int.eq_ofNat_of_zero_le hA0
  have HA := Lib.hid (show A < 1099511627776 by omega)
  clear hA0 hA1
  go_wp2_with fail
  have q3 : R8 (w1.alloc (.cells #[.int .u8 7] 5)) (some ⟨w1.heap.size, 0, none⟩) 1 1 [7] := R8.lit w1 5 (0, 0) [7] 1 rfl (by omega) _ rfl
  have hb2 : Below w1.heap.size w1 (w1.alloc (.cells #[.int .u8 7] 5)) := (Below.refl _ _).alloc (Nat.le_refl _) _
  generalize w1.alloc (.cells #[.int .u8 7] 5) = w2 at *
  have z2 := hb2.size
  with_reducible refine (pack_ok w2 A HA.out _ _ _ _ q3 (by omega) (ht1.below hb2 (by omega)) (by omega)).mono ?_
  rintro e w3 ⟨a3, m3, c3, rfl, hm3, ho3, hb3⟩
  have z3 := hb3.size
  have HM3 := Lib.hid hm3
  have B3 := Lib.hid (B1.out.trans ((hb2.trans (hb3.mono z2)).mono z1))
  have hr3 := (hr1.below hb2).below (hb3)
  have ht3 := (ht1.below hb2 (by omega)).below hb3 (by omega)
  clear hm3 hb2 hb3 hr1 ht1 q3
  have Ho3 := Lib.hid (owns_mono ho3 (show w.heap.size ≤ w2.heap.size by omega))
  have Ho9 := Lib.hid (owns_lit w3 w.heap.size 3 [.int .i64 0, .int .i64 (m3 : Int)] 2 rfl (by simp [maxLen]) (by omega) #[.int .i64 0, .int .i64 (m3 : Int)] rfl)
  have hb4 : Below w3.heap.size w3 (w3.alloc (.cells #[.int .i64 0, .int .i64 (m3 : Int)] 3)) := (Below.refl _ _).alloc (Nat.le_refl _) _
  have Ho7 := Lib.hid (Ho3.out.kept (row := none) (w' := w3.alloc (.cells #[.int .i64 0, .int .i64 (m3 : Int)] 3)) ⟨hb4.os, hb4.tape, hb4.output, hb4.size, fun k hk _ => hb4.block k hk⟩ (by cases (Value.slice a3 m3 c3).ownBlock <;> simp))
  have B4 := Lib.hid (B3.out.trans (hb4.mono (by omega)))
  clear ho3 hb4 hr3 ht3 Ho3
  go_upto_block 0 with (fail)
  go_cut [7, 9] (fun v7 v9 wx => TornJ w wx A ps v7 v9)
  case first =>
    go_wp2_with fail
    go_loopw [7, 9, 10, 11, 12] (fun v7 v9 x _ _ wx => ∃ i : Nat, i ≤ m ∧ x = .int .i64 i ∧ ∃ (a7 a9 : Option Addr) (n7 n9 c7 c9 : Nat), v7 = .slice a7 n7 c7 ∧ v9 = .slice a9 n9 c9 ∧
      wx.ownsRow w.heap.size 5 1 (.slice a7 n7 c7) n7 ((catL A ([7] :: ps.take i)).map b8) ∧ wx.ownsRow w.heap.size 3 1 (.slice a9 n9 c9) n9 ((endsL A ([7] :: ps.take i)).map iv) ∧
      Below w.heap.size w wx ∧ (∀ q ∈ [7] :: ps.take i, q.length ≤ 65536) ∧ A + ([7] :: ps.take i).length ≤ 1099511627776) (fun _ _ x _ _ _ => m - (intOf x).toNat)
    case atStart =>
      refine ⟨0, by omega, rfl, _, _, _, _, _, _, rfl, rfl, ?_, ?_, B4.out, ?_, ?_⟩
      · simpa [catL] using Ho7.out
      · have := Ho9.out
        have e : (endsL A ([7] :: ps.take 0)).map iv = [.int .i64 0, .int .i64 (m3 : Int)] := by
          simp [endsL, catL, iv, HM3.out, show List.range 2 = [0, 1] from rfl]
        rw [e]; exact this
      · simp
      · have := HA.out; simp; omega
    case round =>
      obtain ⟨i, hi, rfl, a7, a9, n7, n9, c7, c9, rfl, rfl, ho7, ho9, hb, hq, hA⟩ := hrel
      have HQ := Lib.hid hq
      have HAA := Lib.hid hA
      have HB := Lib.hid hb
      have H7 := Lib.hid ho7
      have H9 := Lib.hid ho9
      clear hq hA hb ho7 ho9
      by_cases hlt : i < m
      · obtain ⟨b, off, a', n', c', p, rfl, hp, hc, hr⟩ := (HH.out.below HB.out).at hlt
        have HP := Lib.hid hp
        have hpl := mem_len hp HS.out
        have hrl := hr.1
        have z := HB.out.size
        have hx : (A : Int) + 1 + (i : Int) = ((A + 1 + i : Nat) : Int) := by omega
        have hA48 : (A : Int) ≤ 281474976710656 := by have := HA.out; omega
        have hi48 : (i : Int) ≤ 281474976710656 := by omega
        have HX := Lib.hid hx
        clear hp hx
        go_wp2_with fail
        rw [HX.out]
        have HLA : ([7] :: ps.take i).length = i + 1 := by simp; have := HPL.out; omega
        have hmeet : ∀ wx, Below w.heap.size wx wx → True := fun _ _ => trivial
        by_cases k1 : 1099511627776 ≤ A + 1 + i
        · have HK := Lib.hid k1
          clear k1 hmeet HLA hpl hrl hr
          with_reducible refine (pack_arg _ _ (.inr (by have := HK.out; omega)) _ _ _).mono ?_
          rintro e w' ⟨rfl, rfl⟩
          go_wp2_with fail
          go_meet
          exact ⟨i, a7, a9, n7, n9, c7, c9, rfl, rfl, H7.out, H9.out, HB.out, HQ.out, HAA.out, by have := HPL.out; omega⟩
        by_cases k2 : 65536 < n'
        · have HK := Lib.hid k2
          have HK1 := Lib.hid k1
          have hn48 := hr.2.2.1
          clear k1 k2 hmeet HLA hpl hrl hr
          with_reducible refine (pack_long _ _ (by omega) (by have := HK1.out; omega) _ _ _ HK.out hn48).mono ?_
          rintro e w' ⟨rfl, rfl⟩
          go_wp2_with fail
          go_meet
          exact ⟨i, a7, a9, n7, n9, c7, c9, rfl, rfl, H7.out, H9.out, HB.out, HQ.out, HAA.out, by have := HPL.out; omega⟩
        have HK1 := Lib.hid (show A + 1 + i < 1099511627776 by omega)
        have HK2 := Lib.hid (show n' ≤ 65536 by omega)
        have HRL := Lib.hid hrl
        have HLAA := Lib.hid HLA
        clear k1 k2 hmeet HLA hpl hrl
        with_reducible refine (pack_ok _ (A + 1 + i) HK1.out _ _ _ _ hr HK2.out (HT.out.below HB.out h0) (by omega)).mono ?_
        rintro e w5 ⟨a5, m5, c5, rfl, hm5, ho5, hb5⟩
        have z5 := hb5.size
        have HM5 := Lib.hid hm5
        have r5 := R8.of_owns ho5 (by have := HM5.out; have := packL_len (A + 1 + i) p; have := HK2.out; have := HRL.out; omega)
        have HB5 := Lib.hid (HB.out.trans (hb5.mono z))
        have gk : ∀ {w1 w2 : World}, Below w1.heap.size w1 w2 → w1.grownBy w2 none := fun hb => ⟨hb.os, hb.tape, hb.output, hb.size, fun k hk _ => hb.block k hk⟩
        have H75 := Lib.hid (H7.out.kept (gk hb5) (by cases (Value.slice a7 n7 c7).ownBlock <;> simp))
        have H95 := Lib.hid (H9.out.kept (gk hb5) (by cases (Value.slice a9 n9 c9).ownBlock <;> simp))
        have hn7 : n7 ≤ 20000000 := by have := H7.out.1; have := torn_len A ps i (by have := HPL.out; omega) HS.out; simp at *; omega
        have hm5s : m5 ≤ 100000 := by have := HM5.out; have := packL_len (A + 1 + i) p; have := HK2.out; have := HRL.out; omega
        have hn9 : n9 ≤ 20000000 := by have := H9.out.1; rw [List.length_map, endsL_len] at this; have := HLAA.out; have := HMB.out; omega
        have HN7 := Lib.hid hn7; have HM5S := Lib.hid hm5s; have HN9 := Lib.hid hn9
        have h75 := H75.out
        have z5w : w.heap.size ≤ w5.heap.size := by omega
        clear hm5 ho5 hb5 hr hn7 hm5s hn9 gk
        go_wp2_with (first
          | (at_builtin; refine L_append8 rfl _ _ _ rfl sl22 w.heap.size (.slice a7 n7 c7) n7 _ rfl h75 _ _ _ (packL (A + 1 + i) p) rfl r5 (by have := HN7.out; have := HM5S.out; omega) (by have := HN7.out; have := HM5S.out; simp [maxLen]; omega) z5w (fun a8 c8 w8 ho8 hg8 _ => ?_)
             clear r5 h75)
          | (at_builtin; refine L_appendV rfl _ _ _ rfl sl53 w.heap.size (.slice a9 n9 c9) n9 _ rfl (World.ownsRow.alloc (H95.out.kept hg8 (own_apart H95.out H75.out (by decide))) _) (some ⟨w8.heap.size, 0, none⟩) 1 1 [.int .i64 ((n7 : Int) + (m5 : Int))] rfl (RV.lit _ 3 _ _ 1 rfl (by omega) _ rfl) (by simp [Value.oneCell']) (by have := HN9.out; omega) (by have := HN9.out; simp [maxLen]; omega) (by have := hg8.size; simp; omega) (fun a10 c10 w10 ho10 hg10 _ => ?_)))
        have hgl : w8.grownBy (w8.alloc (.cells #[.int .i64 ((n7 : Int) + (m5 : Int))] 3)) none := World.grownBy_alloc _ _ _
        have ho8' := (World.ownsRow.alloc ho8 (.cells #[.int .i64 ((n7 : Int) + (m5 : Int))] 3)).kept hg10 (own_apart (World.ownsRow.alloc ho8 (.cells #[.int .i64 ((n7 : Int) + (m5 : Int))] 3)) (World.ownsRow.alloc (H95.out.kept hg8 (own_apart H95.out H75.out (by decide))) (.cells #[.int .i64 ((n7 : Int) + (m5 : Int))] 3)) (by decide))
        have hb8 := HB5.out.grown hg8 z5w (fun k hk => (H75.out.lt k hk).1)
        have hb9 := hb8.alloc hb8.size (.cells #[.int .i64 ((n7 : Int) + (m5 : Int))] 3)
        have hb10 := hb9.grown hg10 (by have := hb8.size; simp; omega) (fun k hk => (H95.out.lt k hk).1)
        have hqs : [7] :: ps.take (i + 1) = ([7] :: ps.take i) ++ [p] := by rw [List.take_add_one, HP.out]; rfl
        have hcat : catL A ([7] :: ps.take (i + 1)) = catL A ([7] :: ps.take i) ++ packL (A + 1 + i) p := by
          rw [hqs, catL_snoc, HLAA.out, show A + (i + 1) = A + 1 + i by omega]
        have hlen7 : (catL A ([7] :: ps.take i)).length = n7 := by have := H7.out.1; simpa using this
        have hends : endsL A ([7] :: ps.take (i + 1)) = endsL A ([7] :: ps.take i) ++ [n7 + m5] := by
          rw [hqs, endsL_snoc, ← hqs, hcat, List.length_append, hlen7, HM5.out]
        rw [← List.map_append, ← hcat] at ho8'
        have e10 : (endsL A ([7] :: ps.take i)).map iv ++ [.int .i64 ((n7 : Int) + (m5 : Int))] = (endsL A ([7] :: ps.take (i + 1))).map iv := by
          rw [hends, List.map_append]; simp [iv]
        rw [e10] at ho10
        go_roundw
        case rel =>
          refine ⟨i + 1, by omega, by go_num, a8, a10, n7 + m5, n9 + 1, c8, c10, rfl, rfl, ho8', ho10, hb10, ?_, ?_⟩
          · intro q hq'
            rw [hqs] at hq'
            rcases List.mem_append.1 hq' with h | h
            · exact HQ.out q h
            · obtain rfl := List.mem_singleton.1 h
              rw [HRL.out]; exact HK2.out
          · rw [hqs, List.length_append, HLAA.out]; have := HK1.out; simp; omega
        case measure => simp [intOf]; omega
      · go_wp2_with fail
        go_meet
        exact ⟨i, a7, a9, n7, n9, c7, c9, rfl, rfl, H7.out, H9.out, HB.out, HQ.out, HAA.out, by have := HPL.out; omega⟩
  case rest =>
    obtain ⟨i, a7, a9, n7, n9, c7, c9, rfl, rfl, ho7, ho9, hb, hq, hA, hi⟩ := hcut
    have HTL := Lib.hid (torn_len A ps i hi HS.out)
    generalize hqs : [7] :: ps.take i = qs at *
    clear hqs
    have hn7 : (catL A qs).length = n7 := by have := ho7.1; simpa using this
    have hn9 : n9 = qs.length + 1 := by have := ho9.1; rw [List.length_map, endsL_len] at this; omega
    have HN7 := Lib.hid hn7; have HN9 := Lib.hid hn9; have HQ := Lib.hid hq; have HAA := Lib.hid hA
    have hn7s : n7 ≤ 281474976710656 := by have := HTL.out; omega
    have hn9s : n9 ≤ 281474976710656 := by have := HA.out; omega
    have r7 := R8.of_owns ho7 hn7s
    have r9 := RV.of_owns ho9 hn9s
    have HBc := Lib.hid hb
    have htc := HT.out.below hb h0
    have zc := hb.size
    clear hn7 hn9 hq hA ho7 ho9 hb hi
    go_wp2_with fail
    with_reducible refine (within_any _ cut (n7 : Int) (by omega) (by omega) cut0 cut1).mono ?_
    rintro e w' ⟨X, hX0, hX1, rfl, rfl⟩
    obtain ⟨X, rfl⟩ := Int.eq_ofNat_of_zero_le hX0
    have HX1 := Lib.hid (show X ≤ n7 by omega)
    have hX48 : X ≤ 281474976710656 := by omega
    clear hX0 hX1
    go_upto_block 2 with (fail)
    go_cut [14] (fun v wx => wx = wc ∧ ∃ k : Nat, v = .int .i64 k ∧ k ≤ qs.length ∧ (catL A (qs.take k)).length ≤ X ∧ (k < qs.length → X < (catL A (qs.take (k + 1))).length))
    case first =>
      go_wp2_with fail
      go_loop [14] (fun v => ∃ k : Nat, v = .int .i64 k ∧ k ≤ qs.length ∧ (catL A (qs.take k)).length ≤ X) (fun v => qs.length - (intOf v).toNat)
      case atStart => exact ⟨0, rfl, by omega, by simp [catL]⟩
      case round =>
        obtain ⟨k, rfl, hk, hkX⟩ := hrel
        have HKX := Lib.hid hkX
        have HK := Lib.hid hk
        have hk48 : (k : Int) ≤ 281474976710656 := by have := HN9.out; omega
        clear hkX hk
        by_cases h1 : k + 1 < n9
        · obtain ⟨b, off, v, rfl, hv, hc⟩ := r9.at h1
          rw [List.getElem?_map, endsL_get _ _ _ (by have := HN9.out; omega)] at hv
          obtain rfl := Option.some.inj hv
          simp only [iv] at hc
          obtain ⟨E, hE⟩ : ∃ E, E = (catL A (qs.take (k + 1))).length := ⟨_, rfl⟩
          rw [← hE] at hc
          have HE := Lib.hid hE
          have h1i : (k : Int) + 1 < (n9 : Int) := by omega
          clear hE hv r7 r9 htc
          by_cases h2 : E ≤ X
          · go_wp2
            go_round
            case rel => exact ⟨k + 1, by go_num, by have := HN9.out; omega, by rw [← HE.out]; exact h2⟩
            case measure => have := HN9.out; simp [intOf]; omega
          · go_wp2
            go_meet
            exact ⟨rfl, k, rfl, HK.out, HKX.out, fun _ => by rw [← HE.out]; omega⟩
        · clear r7 r9 htc
          go_wp2
          go_meet
          exact ⟨rfl, k, rfl, HK.out, HKX.out, fun hlt => by exfalso; have := HN9.out; omega⟩
    case rest =>
      obtain ⟨rfl, k, rfl, hk, hkX, hkn⟩ := hcut
      have hcl := r7.2.1
      have hE := torn_law qs A X k ((((catL A qs).take X)).length + 1) HQ.out HAA.out (by rw [HN7.out]; exact HX1.out) hk hkX hkn (by rw [List.length_take, HN7.out]; have := HX1.out; omega)
      obtain ⟨E, hEE⟩ : ∃ E, E = (catL A (qs.take k)).length := ⟨_, rfl⟩
      rw [← hEE] at hE
      have hA2 : (-9223372036854775808 : Int) ≤ (A : Int) ∧ (A : Int) ≤ 9223372036854775807 := by have := HA.out; omega
      have hsl := fun wx => slice_to wx a7 n7 c7 X (by have := HX1.out; omega)
      have r7t := r7.take X HX1.out
      obtain ⟨b, off, v, rfl, hv, hc⟩ := r9.at (i := k) (by have := HN9.out; omega)
      rw [List.getElem?_map, endsL_get _ _ _ hk] at hv
      obtain rfl := Option.some.inj hv
      simp only [iv] at hc
      rw [← hEE] at hc hkX
      have hkn9 : (k : Int) < (n9 : Int) := by have := HN9.out; omega
      have HE := Lib.hid hE
      have H0 := Lib.hid hA2
      clear hE hEE hkn hv r7 r9 hcl hA2 hk
      go_wp2_with fail
      by_cases hX : X = E
      · have hE := HE.out
        rw [if_pos hX] at hE
        have HP := Lib.hid (end_any _ (A : Int) H0.out _ _ _ _ r7t htc (by omega) k E 0 hE)
        have HX := Lib.hid hX
        clear hE hX
        with_reducible refine HP.out.mono ?_
        rintro e w2 ⟨rfl, hb2⟩
        have hc2 := (hb2.cell (p := ⟨b, off + k, none⟩) (block_lt_of_cell hc)).trans hc
        have HB2 := Lib.hid (HBc.out.trans (hb2.mono zc))
        obtain rfl := HX.out
        clear hb2 hc r7t htc HP
        go_wp2
        go_ret
        exact ⟨rfl, HB2.out⟩
      · have hE := HE.out
        rw [if_neg hX] at hE
        have HP := Lib.hid (end_any _ (A : Int) H0.out _ _ _ _ r7t htc (by omega) k E 40 hE)
        have hXE : ((E : Int) == (X : Int)) = false := by simp; omega
        clear hE hX
        with_reducible refine HP.out.mono ?_
        rintro e w2 ⟨rfl, hb2⟩
        have hc2 := (hb2.cell (p := ⟨b, off + k, none⟩) (block_lt_of_cell hc)).trans hc
        have HB2 := Lib.hid (HBc.out.trans (hb2.mono zc))
        clear hb2 hc r7t htc HP
        go_wp2
        go_ret
        exact ⟨rfl, HB2.out⟩
end Go.Proofs.YtdepdediggokgaaDoor
