import Derived.Test.YtdepdediggokgaaDoorX4
namespace Go.Proofs.YtdepdediggokgaaDoor
open Go.RowKit
set_option linter.unusedVariables false

def case12 : List UInt8 := [99, 97, 115, 101, 32, 49, 50]
theorem case12_crc : nt (thr 4294967295 case12) = 1624758277 := by decide +kernel
def x128 (c : UInt8) : UInt8 := c ^^^ 128
theorem xor128_u8 (c : UInt8) : bits .xor .u8 (c.toNat : Int) 128 = ((x128 c).toNat : Int) := by
  have h : BitVec.ofInt 8 (c.toNat : Int) = c.toBitVec := by rw [BitVec.ofInt_natCast]; simp
  have hw : ∀ b : BitVec 8, IntKind.u8.wrap (b.toNat : Int) = b.toNat := by
    intro b
    have := b.isLt
    simp [IntKind.wrap, IntKind.bits, IntKind.signed]; omega
  simp only [bits, IntKind.bits, h]
  rw [show BitVec.ofInt 8 128 = (128 : UInt8).toBitVec from rfl, hw]; rfl
def mix (f : UInt8 → UInt8) (k : Nat) (l : List UInt8) : List UInt8 := (l.take k).map f ++ l.drop k
theorem mix_len (f : UInt8 → UInt8) (k : Nat) (l : List UInt8) : (mix f k l).length = l.length := by simp [mix]; omega
theorem mix_zero (f : UInt8 → UInt8) (l : List UInt8) : mix f 0 l = l := by simp [mix]
theorem mix_all (f : UInt8 → UInt8) (l : List UInt8) : mix f l.length l = l.map f := by simp [mix]
theorem mix_get (f : UInt8 → UInt8) (k : Nat) (l : List UInt8) (h : k < l.length) : (mix f k l)[k]? = l[k]? := by
  unfold mix
  rw [List.getElem?_append_right (by simp; omega)]
  simp [List.length_take, Nat.min_eq_left (Nat.le_of_lt h)]
theorem mix_set (f : UInt8 → UInt8) (k : Nat) (l : List UInt8) (c : UInt8) (h : l[k]? = some c) : (mix f k l).set k (f c) = mix f (k+1) l := by
  have hk : k < l.length := (List.getElem?_eq_some_iff.1 h).1
  unfold mix
  rw [List.set_append_right _ _ (by simp; omega), List.take_add_one, h]
  rw [show k - ((l.take k).map f).length = 0 by simp; omega, List.drop_eq_getElem_cons hk, List.set_cons_zero]
  simp

set_option maxHeartbeats 1000000 in
theorem framecrc_walk (w : World) (a : Option Addr) (n c : Nat) (l : List UInt8) (h : R8 w a n c l) (hn : n ≤ 140737488351232) (ht0 : HalfTab w ∧ 0 < w.heap.size) :
    Calls Tryd.prog 3 #[.slice a n c] w fun e w' => e = .returned (.bool true) ∧ Below w.heap.size w w' := by
  obtain ⟨ht, h0⟩ := ht0
  have hl := Lib.hid h.1
  obtain ⟨B, hB⟩ : ∃ B, B = w.heap.size := ⟨_, rfl⟩
  have HB := Lib.hid hB
  have hBle : B ≤ w.heap.size := by omega
  have hbb : Below B w w := Below.refl _ _
  go_enter Tryd.func3, Tryd.ntmps3
  go_wp2_with (go_at_call 10; refine (roomy_any _ _ _ _ _ 165 h (by omega)).mono ?_; rintro e w1 ⟨g, rfl, ho1, hb1⟩)
  have hB1 := hb1.size
  rw [← HB.out] at ho1 hb1
  have r1 := R8.of_owns (l := l ++ List.replicate 80 165) ho1 (by omega)
  have r1n := r1.take n (by omega)
  have htk : (l ++ List.replicate 80 (165 : UInt8)).take n = l := by rw [← hl.out]; simp
  rw [htk] at r1n
  clear htk
  have ht1 : HalfTab w1 := fun i hi => by rw [hb1.cell (by show 0 < B; omega)]; exact ht i hi
  have h1 := h.belowB (by omega) hb1
  have hgB : B ≤ g ∧ g < w1.heap.size := by
    obtain ⟨a', c', hv, hp⟩ := owns_shape ho1
    obtain ⟨g', e, h1, h2⟩ := hp (by omega)
    simp at hv; rw [← hv.1] at e; simp at e; omega
  have HX : Hid (∀ k, B ≤ k → k < w1.heap.size → True) := fun _ _ _ => trivial
  go_wp2_with (first
    | (go_at_call 11; refine (crc_any _ _ _ _ _ r1n ht1).mono ?_; rintro e w' ⟨rfl, rfl⟩)
    | (go_at_call 12; refine (refcrc_any _ _ _ _ _ h1).mono ?_; rintro e w' ⟨rfl, rfl⟩; rw [thr_ref])
    | (go_at_call 13; refine (intact_any _ _ _ _ _ _ _ _ 165 r1 h1).mono ?_; rintro e w' ⟨rfl, nn, rfl⟩)
    | (at_builtin; refine L_append8 rfl _ _ _ rfl sl22 w1.heap.size (.slice none 0 0) 0 [] rfl (World.ownsRow_nil _ _ _ _) _ _ _ l rfl (h1.drewN _) (by omega) (by simp [maxLen]; omega) (Nat.le_refl _) (fun a3 c3 w3 ho3 hg3 _ => ?_)))
  have hb3 : Below w1.heap.size w1 w3 := (below_drewN (Below.refl _ w1) nn).grown hg3 (Nat.le_refl _) (by intro k hk; cases hk)
  have ho1' : w3.ownsRow B 5 1 (.slice (some ⟨g, 0, none⟩) (n+80) (n+80)) (n+80) ((l ++ List.replicate 80 165).map b8) :=
    World.ownsRow.kept (w := w1.drewN nn) ho1 hg3 (by right; simp [Value.ownBlock])
  have hbw : Below B w w3 := hb1.trans (hb3.mono (by omega))
  have ht3 : HalfTab w3 := fun i hi => by rw [hbw.cell (by show 0 < B; omega)]; exact ht i hi
  have hrd := h.belowB (B := B) (by omega) hbw
  obtain ⟨B2, hB2⟩ : ∃ B2, B2 = w1.heap.size := ⟨_, rfl⟩
  rw [← hB2] at ho3
  have hg2 : B ≤ g ∧ g < B2 := by omega
  obtain ⟨a3', c3', e3, hp3⟩ := owns_shape ho3
  obtain ⟨rfl, -, rfl⟩ := Value.slice.inj e3
  clear e3
  simp only [Nat.zero_add, List.nil_append] at ho3 hp3
  clear hg3 hb3 ho1 hb1 r1 r1n ht1 h1 HX hgB hB2
  go_loopw [7] (fun i wr => ∃ k : Nat, k ≤ n ∧ i = .int .i64 k ∧ Below B w wr ∧
      wr.ownsRow B 5 1 (.slice (some ⟨g, 0, none⟩) (n+80) (n+80)) (n+80) ((mix x128 k l ++ List.replicate 80 165).map b8) ∧ wr.ownsRow B2 5 1 (.slice a3 n c3) n ((mix x128 k l).map b8)) (fun i _ => n - (intOf i).toNat)
  case atStart => exact ⟨0, by omega, rfl, hbw, by rw [mix_zero]; exact ho1', by rw [mix_zero]; exact ho3⟩
  case round =>
    obtain ⟨k, hk, rfl, hb, hf, ho⟩ := hrel
    by_cases hlt : k < n
    · obtain ⟨g3, rfl, hg3, -⟩ := hp3 (by omega)
      obtain ⟨x, hx⟩ : ∃ x, l[k]? = some x := ⟨l[k]'(by rw [hl.out]; omega), by simp⟩
      have hmg : (mix x128 k l)[k]? = some x := by rw [mix_get _ _ _ (by rw [hl.out]; omega)]; exact hx
      have c1 := ho.cellAt k (by omega)
      rw [List.getElem?_map, hmg] at c1
      have f1 := ho.frozenAt k
      have s1 := (ho.stored k (.int .u8 ((x128 x).toNat : Int))).1
      rw [set_b8, mix_set _ _ _ _ hx] at s1
      have gr1 := (ho.stored k (.int .u8 ((x128 x).toNat : Int))).2
      have hf1 := hf.kept gr1 (by right; simp [Value.ownBlock]; omega)
      have hfx : (mix x128 k l ++ List.replicate 80 165)[k]? = some x := by rw [List.getElem?_append_left (by rw [mix_len, hl.out]; omega)]; exact hmg
      have c0 := hf1.cellAt k (by omega)
      rw [List.getElem?_map, hfx] at c0
      have f0 := hf1.frozenAt k
      have s0 := (hf1.stored k (.int .u8 ((x128 x).toNat : Int))).1
      rw [set_b8, List.set_append_left _ _ (by rw [mix_len, hl.out]; omega), mix_set _ _ _ _ hx] at s0
      have s2 := s1.kept (hf1.stored k (.int .u8 ((x128 x).toNat : Int))).2 (by right; simp [Value.ownBlock]; omega)
      have hbz := (hb.setCell (p := ⟨g3, k, none⟩) (by show B ≤ g3; omega) (.int .u8 ((x128 x).toNat : Int))).setCell (p := ⟨g, k, none⟩) (by show B ≤ g; omega) (.int .u8 ((x128 x).toNat : Int))
      have c2 : (wr.setCell ⟨g3, k, none⟩ (.int .u8 ((x128 x).toNat : Int))).cell? ⟨g3, k, none⟩ = some (.int .u8 ((x128 x).toNat : Int)) := by
        rw [s1.cellAt k (by omega), List.getElem?_map, ← mix_set _ _ _ _ hx, List.getElem?_set_self (by rw [mix_len, hl.out]; omega)]; rfl
      have hxx := xor128_u8 x
      simp only [Option.map_some, b8] at c0 c1
      clear hx hmg s1 gr1 hf1 hfx hb hf ho ho3 ho1'
      go_wp2
      go_roundw
      case rel => exact ⟨k+1, by omega, by go_num, hbz, s0, s2⟩
      case measure => simp [intOf]; omega
    · obtain rfl : k = n := by omega
      have q0 := R8.of_owns (l := mix x128 k l ++ List.replicate 80 165) hf (by omega)
      have q1 := q0.take k (by omega)
      have htk : (mix x128 k l ++ List.replicate 80 (165 : UInt8)).take k = mix x128 k l := List.take_left' (by rw [mix_len, hl.out])
      rw [htk] at q1
      have q2 := R8.of_owns (l := mix x128 k l) ho (by omega)
      have htr : HalfTab wr := fun i hi => by rw [hb.cell (by show 0 < B; have := HB.out; omega)]; exact ht i hi
      clear htk q0 hf ho h ho1' ho3 hp3 ht3 ht
      have Hb := Lib.hid hb
      clear hb
      have kc := fun (w : World) (C : Array Value) (n c : Nat) => Lib.run_convert_bytes_const (P := Tryd.prog) w 22 5 C n c Tryd.underlying22 Tryd.underlying5
      have q3 := R8.lit wr 5 (7, 8) case12 7 rfl (by omega) _ rfl
      have hta : ∀ o, HalfTab (wr.alloc o) := fun o i hi => by rw [((Below.refl wr.heap.size wr).alloc (Nat.le_refl _) o).cell (by have := Hb.out.size; have := HB.out; show 0 < wr.heap.size; omega)]; exact htr i hi
      have hcase : ((nt (thr 4294967295 case12)).toNat : Int) = 1624758277 := by rw [case12_crc]; rfl
      go_wp2_with (first
        | (go_at_call 12; refine (refcrc_any _ _ _ _ _ q2).mono ?_; rintro e w' ⟨rfl, rfl⟩; rw [thr_ref])
        | (go_at_call_of 11 (some (Addr.mk g 0 none)); refine (crc_any _ _ _ _ _ q1 htr).mono ?_; rintro e w' ⟨rfl, rfl⟩)
        | (go_at_call 11; refine (crc_any _ _ _ _ case12 q3 (hta _)).mono ?_; rintro e w' ⟨rfl, rfl⟩))
      go_ret
      exact ⟨rfl, by rw [← HB.out]; exact Hb.out.alloc (by have := Hb.out.size; have := HB.out; omega) _⟩
end Go.Proofs.YtdepdediggokgaaDoor
