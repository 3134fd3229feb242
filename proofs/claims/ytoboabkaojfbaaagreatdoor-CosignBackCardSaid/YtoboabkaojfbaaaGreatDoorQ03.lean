import Derived.Test.YtoboabkaojfbaaaGreatDoorQ02
namespace Go.Proofs.YtoboabkaojfbaaaGreatDoor
open Go Go.RowKit
set_option maxRecDepth 100000
set_option maxHeartbeats 1000000
set_option linter.unusedVariables false
set_option linter.unusedSimpArgs false
/-! SHA-256 over words of 32 bits. -/
def shr (n : Nat) (x : UInt32) : UInt32 := UInt32.ofNat (x.toNat / 2 ^ n)
def shl (n : Nat) (x : UInt32) : UInt32 := UInt32.ofNat (x.toNat * 2 ^ n)
def orw (x y : UInt32) : UInt32 := x ||| y
def anw (x y : UInt32) : UInt32 := x &&& y
def ad (x y : UInt32) : UInt32 := x + y
def rot (n : Int) (x : UInt32) : UInt32 := orw (shr n.toNat x) (shl (32 - n).toNat x)
theorem shr_u32 (n : Nat) (x : UInt32) : ((shr n x).toNat : Int) = (x.toNat : Int) / (2 ^ n : Nat) := by
  have h : x.toNat / 2 ^ n < 4294967296 := Nat.lt_of_le_of_lt (Nat.div_le_self _ _) x.toNat_lt
  unfold shr
  rw [UInt32.toNat_ofNat_of_lt' h]; push_cast; rfl
theorem shl_u32 (n : Nat) (x : UInt32) : ((shl n x).toNat : Int) = (x.toNat : Int) * (2 ^ n : Nat) % 4294967296 := by
  unfold shl
  rw [UInt32.toNat_ofNat', Int.natCast_emod, Int.natCast_mul]; rfl
@[go_sem] theorem or_u32 (x y : UInt32) : bits .or .u32 (x.toNat : Int) (y.toNat : Int) = ((orw x y).toNat : Int) := by
  simp only [bits, IntKind.bits, ofInt32]
  rw [wrap_u32_nat (BitVec.isLt _)]; rfl
@[go_sem] theorem and_u32 (x y : UInt32) : bits .and .u32 (x.toNat : Int) (y.toNat : Int) = ((anw x y).toNat : Int) := by
  simp only [bits, IntKind.bits, ofInt32]
  rw [wrap_u32_nat (BitVec.isLt _)]; rfl
@[go_sem] theorem add_u32 (x y : UInt32) : ((x.toNat : Int) + (y.toNat : Int)) % 4294967296 = ((ad x y).toNat : Int) := by
  unfold ad
  rw [UInt32.toNat_add, Int.natCast_emod, Int.natCast_add]; rfl
theorem turn_2 (w : World) (x : UInt32) : Calls Tryz.prog 232 #[.int .u32 (x.toNat : Int), .int .i64 2] w fun e w' => e = .returned (.int .u32 ((rot 2 x).toNat : Int)) ∧ ∃ n, w' = w.drewN n := by
  have h1 : (x.toNat : Int) / 4 = ((shr 2 x).toNat : Int) := (shr_u32 2 x).symm
  have h2 : (x.toNat : Int) * 1073741824 % 4294967296 = ((shl 30 x).toNat : Int) := (shl_u32 30 x).symm
  go_enter Tryz.func232, Tryz.ntmps232
  go_wp2
  go_quiet (fail)
  go_wp2
  go_ret
  exact ⟨rfl, _, rfl⟩
theorem turn_6 (w : World) (x : UInt32) : Calls Tryz.prog 232 #[.int .u32 (x.toNat : Int), .int .i64 6] w fun e w' => e = .returned (.int .u32 ((rot 6 x).toNat : Int)) ∧ ∃ n, w' = w.drewN n := by
  have h1 : (x.toNat : Int) / 64 = ((shr 6 x).toNat : Int) := (shr_u32 6 x).symm
  have h2 : (x.toNat : Int) * 67108864 % 4294967296 = ((shl 26 x).toNat : Int) := (shl_u32 26 x).symm
  go_enter Tryz.func232, Tryz.ntmps232
  go_wp2
  go_quiet (fail)
  go_wp2
  go_ret
  exact ⟨rfl, _, rfl⟩
theorem turn_7 (w : World) (x : UInt32) : Calls Tryz.prog 232 #[.int .u32 (x.toNat : Int), .int .i64 7] w fun e w' => e = .returned (.int .u32 ((rot 7 x).toNat : Int)) ∧ ∃ n, w' = w.drewN n := by
  have h1 : (x.toNat : Int) / 128 = ((shr 7 x).toNat : Int) := (shr_u32 7 x).symm
  have h2 : (x.toNat : Int) * 33554432 % 4294967296 = ((shl 25 x).toNat : Int) := (shl_u32 25 x).symm
  go_enter Tryz.func232, Tryz.ntmps232
  go_wp2
  go_quiet (fail)
  go_wp2
  go_ret
  exact ⟨rfl, _, rfl⟩
theorem turn_11 (w : World) (x : UInt32) : Calls Tryz.prog 232 #[.int .u32 (x.toNat : Int), .int .i64 11] w fun e w' => e = .returned (.int .u32 ((rot 11 x).toNat : Int)) ∧ ∃ n, w' = w.drewN n := by
  have h1 : (x.toNat : Int) / 2048 = ((shr 11 x).toNat : Int) := (shr_u32 11 x).symm
  have h2 : (x.toNat : Int) * 2097152 % 4294967296 = ((shl 21 x).toNat : Int) := (shl_u32 21 x).symm
  go_enter Tryz.func232, Tryz.ntmps232
  go_wp2
  go_quiet (fail)
  go_wp2
  go_ret
  exact ⟨rfl, _, rfl⟩
theorem turn_13 (w : World) (x : UInt32) : Calls Tryz.prog 232 #[.int .u32 (x.toNat : Int), .int .i64 13] w fun e w' => e = .returned (.int .u32 ((rot 13 x).toNat : Int)) ∧ ∃ n, w' = w.drewN n := by
  have h1 : (x.toNat : Int) / 8192 = ((shr 13 x).toNat : Int) := (shr_u32 13 x).symm
  have h2 : (x.toNat : Int) * 524288 % 4294967296 = ((shl 19 x).toNat : Int) := (shl_u32 19 x).symm
  go_enter Tryz.func232, Tryz.ntmps232
  go_wp2
  go_quiet (fail)
  go_wp2
  go_ret
  exact ⟨rfl, _, rfl⟩
theorem turn_17 (w : World) (x : UInt32) : Calls Tryz.prog 232 #[.int .u32 (x.toNat : Int), .int .i64 17] w fun e w' => e = .returned (.int .u32 ((rot 17 x).toNat : Int)) ∧ ∃ n, w' = w.drewN n := by
  have h1 : (x.toNat : Int) / 131072 = ((shr 17 x).toNat : Int) := (shr_u32 17 x).symm
  have h2 : (x.toNat : Int) * 32768 % 4294967296 = ((shl 15 x).toNat : Int) := (shl_u32 15 x).symm
  go_enter Tryz.func232, Tryz.ntmps232
  go_wp2
  go_quiet (fail)
  go_wp2
  go_ret
  exact ⟨rfl, _, rfl⟩
theorem turn_18 (w : World) (x : UInt32) : Calls Tryz.prog 232 #[.int .u32 (x.toNat : Int), .int .i64 18] w fun e w' => e = .returned (.int .u32 ((rot 18 x).toNat : Int)) ∧ ∃ n, w' = w.drewN n := by
  have h1 : (x.toNat : Int) / 262144 = ((shr 18 x).toNat : Int) := (shr_u32 18 x).symm
  have h2 : (x.toNat : Int) * 16384 % 4294967296 = ((shl 14 x).toNat : Int) := (shl_u32 14 x).symm
  go_enter Tryz.func232, Tryz.ntmps232
  go_wp2
  go_quiet (fail)
  go_wp2
  go_ret
  exact ⟨rfl, _, rfl⟩
theorem turn_19 (w : World) (x : UInt32) : Calls Tryz.prog 232 #[.int .u32 (x.toNat : Int), .int .i64 19] w fun e w' => e = .returned (.int .u32 ((rot 19 x).toNat : Int)) ∧ ∃ n, w' = w.drewN n := by
  have h1 : (x.toNat : Int) / 524288 = ((shr 19 x).toNat : Int) := (shr_u32 19 x).symm
  have h2 : (x.toNat : Int) * 8192 % 4294967296 = ((shl 13 x).toNat : Int) := (shl_u32 13 x).symm
  go_enter Tryz.func232, Tryz.ntmps232
  go_wp2
  go_quiet (fail)
  go_wp2
  go_ret
  exact ⟨rfl, _, rfl⟩
theorem turn_22 (w : World) (x : UInt32) : Calls Tryz.prog 232 #[.int .u32 (x.toNat : Int), .int .i64 22] w fun e w' => e = .returned (.int .u32 ((rot 22 x).toNat : Int)) ∧ ∃ n, w' = w.drewN n := by
  have h1 : (x.toNat : Int) / 4194304 = ((shr 22 x).toNat : Int) := (shr_u32 22 x).symm
  have h2 : (x.toNat : Int) * 1024 % 4294967296 = ((shl 10 x).toNat : Int) := (shl_u32 10 x).symm
  go_enter Tryz.func232, Tryz.ntmps232
  go_wp2
  go_quiet (fail)
  go_wp2
  go_ret
  exact ⟨rfl, _, rfl⟩
theorem turn_25 (w : World) (x : UInt32) : Calls Tryz.prog 232 #[.int .u32 (x.toNat : Int), .int .i64 25] w fun e w' => e = .returned (.int .u32 ((rot 25 x).toNat : Int)) ∧ ∃ n, w' = w.drewN n := by
  have h1 : (x.toNat : Int) / 33554432 = ((shr 25 x).toNat : Int) := (shr_u32 25 x).symm
  have h2 : (x.toNat : Int) * 128 % 4294967296 = ((shl 7 x).toNat : Int) := (shl_u32 7 x).symm
  go_enter Tryz.func232, Tryz.ntmps232
  go_wp2
  go_quiet (fail)
  go_wp2
  go_ret
  exact ⟨rfl, _, rfl⟩
theorem turn_any (w : World) (x : UInt32) (n : Int) (hn : n ∈ [(2 : Int), 6, 7, 11, 13, 17, 18, 19, 22, 25]) : Calls Tryz.prog 232 #[.int .u32 (x.toNat : Int), .int .i64 n] w fun e w' => e = .returned (.int .u32 ((rot n x).toNat : Int)) ∧ ∃ n, w' = w.drewN n := by
  simp only [List.mem_cons, List.not_mem_nil, or_false] at hn
  rcases hn with rfl | rfl | rfl | rfl | rfl | rfl | rfl | rfl | rfl | rfl
  · exact turn_2 w x
  · exact turn_6 w x
  · exact turn_7 w x
  · exact turn_11 w x
  · exact turn_13 w x
  · exact turn_17 w x
  · exact turn_18 w x
  · exact turn_19 w x
  · exact turn_22 w x
  · exact turn_25 w x
end Go.Proofs.YtoboabkaojfbaaaGreatDoor
namespace Go.Proofs.YtoboabkaojfbaaaGreatDoor
open Go Go.RowKit
set_option maxRecDepth 100000
set_option maxHeartbeats 1000000
set_option linter.unusedVariables false
set_option linter.unusedSimpArgs false
/-! One block of SHA-256. -/
structure S8 where
  a : UInt32
  b : UInt32
  c : UInt32
  d : UInt32
  e : UInt32
  f : UInt32
  g : UInt32
  h : UInt32
def S8.list (s : S8) : List UInt32 := [s.a, s.b, s.c, s.d, s.e, s.f, s.g, s.h]
def roundL : List UInt32 := [0x428a2f98, 0x71374491, 0xb5c0fbcf, 0xe9b5dba5, 0x3956c25b, 0x59f111f1, 0x923f82a4, 0xab1c5ed5,
 0xd807aa98, 0x12835b01, 0x243185be, 0x550c7dc3, 0x72be5d74, 0x80deb1fe, 0x9bdc06a7, 0xc19bf174,
 0xe49b69c1, 0xefbe4786, 0x0fc19dc6, 0x240ca1cc, 0x2de92c6f, 0x4a7484aa, 0x5cb0a9dc, 0x76f988da,
 0x983e5152, 0xa831c66d, 0xb00327c8, 0xbf597fc7, 0xc6e00bf3, 0xd5a79147, 0x06ca6351, 0x14292967,
 0x27b70a85, 0x2e1b2138, 0x4d2c6dfc, 0x53380d13, 0x650a7354, 0x766a0abb, 0x81c2c92e, 0x92722c85,
 0xa2bfe8a1, 0xa81a664b, 0xc24b8b70, 0xc76c51a3, 0xd192e819, 0xd6990624, 0xf40e3585, 0x106aa070,
 0x19a4c116, 0x1e376c08, 0x2748774c, 0x34b0bcb5, 0x391c0cb3, 0x4ed8aa4a, 0x5b9cca4f, 0x682e6ff3,
 0x748f82ee, 0x78a5636f, 0x84c87814, 0x8cc70208, 0x90befffa, 0xa4506ceb, 0xbef9a3f7, 0xc67178f2]
def kT (i : Nat) : UInt32 := roundL.getD i 0
def RoundTab (w : World) : Prop := ∀ i, i < 64 → w.cell? ⟨1, i, none⟩ = some (.int .u32 ((kT i).toNat : Int))
def lo0 (x : UInt32) : UInt32 := xr (xr (rot 7 x) (rot 18 x)) (shr 3 x)
def lo1 (x : UInt32) : UInt32 := xr (xr (rot 17 x) (rot 19 x)) (shr 10 x)
def up1 (x : UInt32) : UInt32 := xr (xr (rot 6 x) (rot 11 x)) (rot 25 x)
def up0 (x : UInt32) : UInt32 := xr (xr (rot 2 x) (rot 13 x)) (rot 22 x)
def chw (e f g : UInt32) : UInt32 := xr (anw e f) (anw (nt e) g)
def maj (a b c : UInt32) : UInt32 := xr (xr (anw a b) (anw a c)) (anw b c)
def rnd (k w : UInt32) (s : S8) : S8 :=
  ⟨ad (ad (ad (ad (ad s.h (up1 s.e)) (chw s.e s.f s.g)) k) w) (ad (up0 s.a) (maj s.a s.b s.c)), s.a, s.b, s.c, ad s.d (ad (ad (ad (ad s.h (up1 s.e)) (chw s.e s.f s.g)) k) w), s.e, s.f, s.g⟩
/-- The word at a place of a block. -/
def wordAt (p : List UInt8) (t : Nat) : UInt32 := orw (orw (orw (shl 24 (p.getD (4 * t) 0).toUInt32) (shl 16 (p.getD (4 * t + 1) 0).toUInt32)) (shl 8 (p.getD (4 * t + 2) 0).toUInt32)) (p.getD (4 * t + 3) 0).toUInt32
/-- The first 16 + n words. -/
def sched (p : List UInt8) : Nat → List UInt32
  | 0 => (List.range 16).map (wordAt p)
  | n + 1 => sched p n ++ [ad (ad (ad ((sched p n).getD n 0) (lo0 ((sched p n).getD (n + 1) 0))) ((sched p n).getD (n + 9) 0)) (lo1 ((sched p n).getD (n + 14) 0))]
def wT (p : List UInt8) (i : Nat) : UInt32 := (sched p 48).getD i 0
theorem sched_len (p : List UInt8) : ∀ n, (sched p n).length = 16 + n
  | 0 => by simp [sched]
  | n + 1 => by rw [sched, List.length_append, sched_len p n]; rfl
theorem sched_pre (p : List UInt8) (i : Nat) : ∀ n m, i < 16 + n → (sched p (n + m)).getD i 0 = (sched p n).getD i 0
  | n, 0, _ => rfl
  | n, m + 1, h => by
    show (sched p (n + m) ++ [_]).getD i 0 = _
    rw [List.getD_eq_getElem?_getD, List.getElem?_append_left (by rw [sched_len]; omega), ← List.getD_eq_getElem?_getD, sched_pre p i n m h]
theorem wT_low (p : List UInt8) (t : Nat) (h : t < 16) : wT p t = wordAt p t := by
  unfold wT
  rw [show (48 : Nat) = 0 + 48 from rfl, sched_pre p t 0 48 (by omega), sched, List.getD_eq_getElem?_getD, List.getElem?_map, List.getElem?_range h]; rfl
theorem wT_high (p : List UInt8) (t : Nat) (h0 : 16 ≤ t) (h : t < 64) : ad (ad (ad (wT p (t - 16)) (lo0 (wT p (t - 15)))) (wT p (t - 7))) (lo1 (wT p (t - 2))) = wT p t := by
  obtain ⟨n, rfl⟩ : ∃ n, t = n + 16 := ⟨t - 16, by omega⟩
  have hs : ∀ i, i < 16 + n → wT p i = (sched p n).getD i 0 := fun i hi => by
    unfold wT
    rw [show (48 : Nat) = n + (48 - n) by omega, sched_pre p i n _ hi]
  have h1 : wT p (n + 16) = (sched p (n + 1)).getD (n + 16) 0 := by
    unfold wT
    rw [show (48 : Nat) = (n + 1) + (47 - n) by omega, sched_pre p _ (n + 1) _ (by omega)]
  rw [h1, sched, List.getD_eq_getElem?_getD, List.getElem?_append_right (by rw [sched_len]; omega), sched_len, show n + 16 - (16 + n) = 0 by omega]
  rw [hs _ (by omega), hs _ (by omega), hs _ (by omega), hs _ (by omega), show n + 16 - 16 = n by omega, show n + 16 - 15 = n + 1 by omega, show n + 16 - 7 = n + 9 by omega, show n + 16 - 2 = n + 14 by omega]
  rfl
def rounds (p : List UInt8) (s : S8) : Nat → S8
  | 0 => s
  | t + 1 => rnd (kT t) (wT p t) (rounds p s t)
def S8.plus (x y : S8) : S8 := ⟨ad x.a y.a, ad x.b y.b, ad x.c y.c, ad x.d y.d, ad x.e y.e, ad x.f y.f, ad x.g y.g, ad x.h y.h⟩
def blockS (p : List UInt8) (s : S8) : S8 := s.plus (rounds p s 64)
def wv (x : UInt32) : Value := .int .u32 (x.toNat : Int)
/-- The array of words, t of them laid. -/
def wArr (p : List UInt8) (t : Nat) : Array Value := ((List.range 64).map fun i => wv (if i < t then wT p i else 0)).toArray
theorem wArr_get (p : List UInt8) (t i : Nat) (h : i < 64) : (wArr p t)[i]? = some (wv (if i < t then wT p i else 0)) := by
  simp [wArr, h]
theorem wArr_set (p : List UInt8) (t : Nat) (h : t < 64) : (wArr p t).setIfInBounds t (wv (wT p t)) = wArr p (t + 1) := by
  apply Array.ext_getElem?
  intro i
  by_cases hi : i < 64
  · rw [wArr_get _ _ _ hi, Array.getElem?_setIfInBounds]
    by_cases e : t = i
    · subst e; rw [if_pos rfl, if_pos (by simp [wArr]; exact h), if_pos (by omega)]
    · rw [if_neg e, wArr_get _ _ _ hi]
      by_cases h2 : i < t
      · rw [if_pos h2, if_pos (by omega)]
      · rw [if_neg h2, if_neg (by omega)]
  · rw [Array.getElem?_eq_none (by simp [wArr]; omega), Array.getElem?_eq_none (by simp [wArr]; omega)]
theorem wArr_zero (p : List UInt8) : wArr p 0 = Array.replicate 64 (.int .u32 0) := by
  apply Array.ext_getElem?
  intro i
  by_cases hi : i < 64
  · rw [wArr_get _ _ _ hi, Array.getElem?_replicate, if_pos hi, if_neg (by omega)]; rfl
  · rw [Array.getElem?_eq_none (by simp [wArr]; omega), Array.getElem?_eq_none (by simp; omega)]
@[go_sem] theorem or_u32_u8 (x : UInt32) (c : UInt8) : bits .or .u32 (x.toNat : Int) (c.toNat : Int) = ((orw x c.toUInt32).toNat : Int) := by
  rw [show (c.toNat : Int) = (c.toUInt32.toNat : Int) by simp]; exact or_u32 _ _
theorem shl_u8 (n : Nat) (c : UInt8) : (c.toNat : Int) * (2 ^ n : Nat) % 4294967296 = ((shl n c.toUInt32).toNat : Int) := by
  rw [shl_u32, show (c.toUInt32.toNat : Int) = (c.toNat : Int) by simp]
end Go.Proofs.YtoboabkaojfbaaaGreatDoor
namespace Go.Proofs.YtoboabkaojfbaaaGreatDoor
open Go Go.RowKit
set_option maxRecDepth 100000
set_option maxHeartbeats 1000000
set_option linter.unusedVariables false
set_option linter.unusedSimpArgs false
/-! SHA-256 over whole texts, plain. -/
def absN : Nat → S8 → List UInt8 → S8
  | 0, s, _ => s
  | n + 1, s, l => absN n (blockS (l.take 64) s) (l.drop 64)
def absorb (s : S8) (l : List UInt8) : S8 := absN (l.length / 64) s l
theorem absN_pre : ∀ (n : Nat) (s : S8) (a b : List UInt8), 64 * n ≤ a.length → absN n s (a ++ b) = absN n s a
  | 0, _, _, _, _ => rfl
  | n + 1, s, a, b, h => by
    show absN n (blockS ((a ++ b).take 64) s) ((a ++ b).drop 64) = absN n (blockS (a.take 64) s) (a.drop 64)
    rw [List.take_append_of_le_length (by omega), List.drop_append_of_le_length (by omega)]
    exact absN_pre n _ _ _ (by rw [List.length_drop]; omega)
theorem absN_add : ∀ (n m : Nat) (s : S8) (a : List UInt8), absN (n + m) s a = absN m (absN n s a) (a.drop (64 * n))
  | 0, m, s, a => by rw [Nat.zero_add, Nat.mul_zero, List.drop_zero]; rfl
  | n + 1, m, s, a => by
    rw [show n + 1 + m = (n + m) + 1 by omega]
    show absN (n + m) (blockS (a.take 64) s) (a.drop 64) = _
    rw [absN_add n m, List.drop_drop, show 64 + 64 * n = 64 * (n + 1) by omega]; rfl
theorem absorb_append (s : S8) (a b : List UInt8) (h : a.length % 64 = 0) : absorb s (a ++ b) = absorb (absorb s a) b := by
  unfold absorb
  have e : (a ++ b).length / 64 = a.length / 64 + b.length / 64 := by rw [List.length_append]; omega
  rw [e, absN_add, absN_pre _ _ _ _ (by omega), List.drop_append_of_le_length (by omega), List.drop_of_length_le (by omega), List.nil_append]
theorem absorb_block (s : S8) (a : List UInt8) (h : a.length = 64) : absorb s a = blockS a s := by
  unfold absorb
  rw [h]
  show blockS (a.take 64) s = _
  rw [List.take_of_length_le (by omega)]
/-- The whole blocks of a text, and what is behind them. -/
def whole (m : List UInt8) : List UInt8 := m.take (m.length / 64 * 64)
def rest (m : List UInt8) : List UInt8 := m.drop (m.length / 64 * 64)
theorem whole_rest (m : List UInt8) : whole m ++ rest m = m := List.take_append_drop _ _
theorem whole_len (m : List UInt8) : (whole m).length = m.length / 64 * 64 := by unfold whole; rw [List.length_take]; omega
theorem rest_len (m : List UInt8) : (rest m).length = m.length % 64 := by unfold rest; rw [List.length_drop]; omega
def st0 : S8 := ⟨0x6a09e667, 0xbb67ae85, 0x3c6ef372, 0xa54ff53a, 0x510e527f, 0x9b05688c, 0x1f83d9ab, 0x5be0cd19⟩
/-- The state behind a text. -/
def stOf (m : List UInt8) : S8 := absorb st0 (whole m)
/-- Bytes that fill no block. -/
theorem more_short (m p : List UInt8) (h : m.length % 64 + p.length < 64) : stOf (m ++ p) = stOf m ∧ rest (m ++ p) = rest m ++ p := by
  have e : (m ++ p).length / 64 * 64 = m.length / 64 * 64 := by rw [List.length_append]; omega
  unfold stOf whole rest
  rw [e]
  exact ⟨by rw [List.take_append_of_le_length (by omega)], by rw [List.drop_append_of_le_length (by omega)]⟩
/-- Bytes that fill the block just up. -/
theorem more_fill (m p : List UInt8) (h : m.length % 64 + p.length = 64) : stOf (m ++ p) = blockS (rest m ++ p) (stOf m) ∧ rest (m ++ p) = [] := by
  have hl : (m ++ p).length % 64 = 0 := by rw [List.length_append]; omega
  have e : whole (m ++ p) = m ++ p := by unfold whole; exact List.take_of_length_le (by omega)
  refine ⟨?_, by unfold rest; exact List.drop_of_length_le (by omega)⟩
  unfold stOf
  rw [e]
  conv => lhs; rw [← whole_rest m, List.append_assoc]
  rw [absorb_append _ _ _ (by rw [whole_len]; omega), absorb_block _ _ (by rw [List.length_append, rest_len]; omega)]
/-- A whole block behind whole blocks. -/
theorem more_block (m p : List UInt8) (h0 : m.length % 64 = 0) (h : p.length = 64) : stOf (m ++ p) = blockS p (stOf m) ∧ rest (m ++ p) = [] := by
  have hl : (m ++ p).length % 64 = 0 := by rw [List.length_append]; omega
  have e : whole (m ++ p) = m ++ p := by unfold whole; exact List.take_of_length_le (by omega)
  have e2 : whole m = m := by unfold whole; exact List.take_of_length_le (by omega)
  refine ⟨?_, by unfold rest; exact List.drop_of_length_le (by omega)⟩
  unfold stOf
  rw [e, e2, absorb_append _ _ _ h0, absorb_block _ _ h]
/-- How many bytes stand between a text's end and its length: 128, and zeros. -/
def gapK (n : Nat) : Nat := 1 + (119 - n % 64) % 64
theorem gapK_is (n : Nat) : (n % 64 + gapK n) % 64 = 56 := by unfold gapK; omega
theorem gapK_least (n k : Nat) (h1 : 1 ≤ k) (h2 : k < gapK n) : (n % 64 + k) % 64 ≠ 56 := by unfold gapK at h2; omega
theorem gapK_le (n : Nat) : 1 ≤ gapK n ∧ gapK n ≤ 64 := by unfold gapK; omega
def padL (n : Nat) : List UInt8 := 128 :: List.replicate (gapK n - 1) 0 ++ be 8 (8 * n)
theorem padL_len (n : Nat) : (padL n).length = gapK n + 8 := by
  have := gapK_le n
  simp [padL, be_len]; omega
def S8.bytes (s : S8) : List UInt8 := s.list.flatMap fun x => be 4 x.toNat
theorem S8.bytes_len (s : S8) : s.bytes.length = 32 := by simp [S8.bytes, S8.list, be_len]
/-- A text's SHA-256. -/
def shaP (m : List UInt8) : List UInt8 := (stOf (m ++ padL m.length)).bytes
theorem shaP_len (m : List UInt8) : (shaP m).length = 32 := S8.bytes_len _
/-- Its first bytes alone, zeros behind. -/
def cutP' (w : Int) (d : List UInt8) : List UInt8 := d.take (max w 1).toNat ++ List.replicate (d.length - (max w 1).toNat) 0
theorem cutP'_len (w : Int) (d : List UInt8) : (cutP' w d).length = d.length := by
  unfold cutP'
  rw [List.length_append, List.length_take, List.length_replicate]; omega
def ofP (w : Int) (t : List UInt8) : List UInt8 := cutP' w (shaP t)
theorem ofP_len (w : Int) (t : List UInt8) : (ofP w t).length = 32 := by unfold ofP; rw [cutP'_len, shaP_len]
def nodeP (w : Int) (l r : List UInt8) : List UInt8 := ofP w (1 :: l ++ r)
end Go.Proofs.YtoboabkaojfbaaaGreatDoor
