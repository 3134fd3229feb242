import Derived.Test.YtoboabkaojfbaaaGreatDoorQ27
import Derived.Test.YtoboabkaojfbaaaGreatDoorQ16
import Derived.Test.YtoboabkaojfbaaaGreatDoorQ13
import Derived.Shelf.SlicesQ.IndexFunc
import Derived.Ground.SlgfProg
import Derived.Test.YtoboabkaojfbaaaGreatDoorProg
import Derived.Test.YtoboabkaojfbaaaGreatDoorQ19
import Derived.Shelf.Spec.TrailingZeros
import Derived.Ground.Names7Prog
namespace Go.Proofs.YtoboabkaojfbaaaGreatDoor
open Go Go.RowKit
set_option maxRecDepth 100000
set_option maxHeartbeats 8000000
set_option linter.unusedVariables false
set_option linter.unusedSimpArgs false
/-! Boxes laid anew -/

theorem setCells_drawn (b : Nat) : ∀ (vs : List Value) (o : Nat) (w : World), (w.setCells b o vs).drawn = w.drawn ∧ (w.setCells b o vs).heap.size = w.heap.size
  | [], _, _ => ⟨rfl, rfl⟩
  | v :: r, o, w => by
    have h := setCells_drawn b r (o + 1) (w.setCell ⟨b, o, none⟩ v)
    exact ⟨h.1, h.2.trans (World.size_setCell _ _ _)⟩
theorem alloc_set (w : World) (Z D : Array Value) (t : TypeId) (hs : Z.size = D.size) : (w.alloc (.cells Z t)).setCells w.heap.size 0 D.toList = w.alloc (.cells D t) := by
  have hq : (w.alloc (.cells Z t)).heap[w.heap.size]? = some (.cells Z t (0, 0)) := heap_alloc_new w _
  have h1 := setCells_all hq D.toList (by rw [Array.length_toList, hs])
  have h2 := setCells_grown w.heap.size D.toList 0 (w.alloc (.cells Z t))
  have h3 := setCells_drawn w.heap.size D.toList 0 (w.alloc (.cells Z t))
  have hh : ((w.alloc (.cells Z t)).setCells w.heap.size 0 D.toList).heap = (w.alloc (.cells D t)).heap := by
    apply Array.ext_getElem?
    intro k
    by_cases hk : k < w.heap.size
    · rw [h2.block k (by rw [World.size_alloc]; omega) (fun e => by have := Option.some.inj e; omega), alOld _ _ _ hk, alOld _ _ _ hk]
    · by_cases hk2 : k = w.heap.size
      · subst hk2
        rw [h1, heap_alloc_new w (.cells D t)]
      · rw [Array.getElem?_eq_none (by rw [h3.2, World.size_alloc]; omega), Array.getElem?_eq_none (by rw [World.size_alloc]; omega)]
  obtain ⟨hp, tp, dr, os, ou, e⟩ : ∃ hp tp dr os, ∃ ou, (w.alloc (.cells Z t)).setCells w.heap.size 0 D.toList = ⟨hp, tp, dr, os, ou⟩ := ⟨_, _, _, _, _, rfl⟩
  have e1 := h2.os; have e2 := h2.tape; have e3 := h2.output; have e4 := h3.1
  rw [e] at hh e1 e2 e3 e4 ⊢
  simp only at hh e1 e2 e3 e4
  subst hh e1 e2 e3 e4
  rfl
/-- An operation that leaves a value and another world. -/
theorem L_valueU {P : Program} {ops : Array Oper} {rest : List Oper} {o : Oper} {a : Act} {w w' : World} {Q : Exit → Act → World → Prop} {v : Value} (hgd : o.guard = none) (hrun : (execOp a.eval o).run P w = .ok (.value v) w') (h : wpList P ops Q rest (a.put o.dst v) w') : wpList P ops Q (o :: rest) a w :=
  wpList_step fun K hK => by
    rw [if_pos (by simp [Region.wanted, hgd])]
    unfold Oper.wp
    rw [hrun, Oper.upon_value]
    exact hK _ _ h
/-- A store into a fresh box. -/
theorem L_storeF {P : Program} {ops : Array Oper} {rest : List Oper} {o : Oper} {a : Act} {Q : Exit → Act → World → Prop} (hgd : o.guard = none) (ty : TypeId) (x y : Operand) (ho : o.op = .store ty x y) (w0 : World) (Z D : Array Value)
    (hx : a.eval x = .pointer (some ⟨w0.heap.size, 0, none⟩)) (hy : a.eval y = .agg D) (hz : D.size = Z.size) (hi : (P.info? ty).map (·.size) = some D.size) (h1 : D.all (·.oneCell') = true)
    (h : wpList P ops Q rest (a.put o.dst undef) (w0.alloc (.cells D ty))) : wpList P ops Q (o :: rest) a (w0.alloc (.cells Z ty)) := by
  refine wpList_store_mid hgd ty x y ho w0.heap.size 0 D hx hy ?_ hi h1 ?_
  · have := there_block (show (w0.alloc (.cells Z ty)).heap[w0.heap.size]? = some (.cells Z ty (0, 0)) from heap_alloc_new w0 _)
    rwa [← hz] at this
  · rw [alloc_set w0 Z D ty hz.symm]; exact h
theorem S_storeF {P : Program} {ops : Array Oper} {o : Oper} {a : Act} {Q : Exit → Act → World → Prop} {K : Act → World → Prop} {E : Prop} (hgd : o.guard = none) (ty : TypeId) (x y : Operand) (ho : o.op = .store ty x y) (w0 : World) (Z D : Array Value)
    (hx : a.eval x = .pointer (some ⟨w0.heap.size, 0, none⟩)) (hy : a.eval y = .agg D) (hz : D.size = Z.size) (hi : (P.info? ty).map (·.size) = some D.size) (h1 : D.all (·.oneCell') = true)
    (h : K (a.put o.dst undef) (w0.alloc (.cells D ty))) : if Region.wanted o (yielded ops a.tmps) = true then Oper.wp P o a (w0.alloc (.cells Z ty)) K Q else E := by
  refine S_store_mid hgd ty x y ho w0.heap.size 0 D hx hy ?_ hi h1 ?_
  · have := there_block (show (w0.alloc (.cells Z ty)).heap[w0.heap.size]? = some (.cells Z ty (0, 0)) from heap_alloc_new w0 _)
    rwa [← hz] at this
  · rw [alloc_set w0 Z D ty hz.symm]; exact h
def zc23 : Array Value := dgA zDg.1
theorem exec_al23 {ρ : Operand → Value} {o : Oper} (ho : o.op = .alloc 23) (w : World) : (execOp ρ o).run Tryz.prog w = .ok (.value (.pointer (some ⟨w.heap.size, 0, none⟩))) (w.alloc (.cells zc23 23)) := by
  unfold execOp
  rw [ho]
  kernel_rfl
theorem zc23_size : zc23.size = 32 := by kernel_rfl
def zc25 : Array Value := (HB zDg 0 zDg zDg 0).toArray
theorem exec_al25 {ρ : Operand → Value} {o : Oper} (ho : o.op = .alloc 25) (w : World) : (execOp ρ o).run Tryz.prog w = .ok (.value (.pointer (some ⟨w.heap.size, 0, none⟩))) (w.alloc (.cells zc25 25)) := by
  unfold execOp
  rw [ho]
  kernel_rfl
theorem zc25_size : zc25.size = 98 := by kernel_rfl
def zc28 : Array Value := ntA zHd nilS
theorem exec_al28 {ρ : Operand → Value} {o : Oper} (ho : o.op = .alloc 28) (w : World) : (execOp ρ o).run Tryz.prog w = .ok (.value (.pointer (some ⟨w.heap.size, 0, none⟩))) (w.alloc (.cells zc28 28)) := by
  unfold execOp
  rw [ho]
  kernel_rfl
theorem zc28_size : zc28.size = 99 := by kernel_rfl
def zc35 : Array Value := (FB zHd nilS zHd nilS 0 0 zDg zDg nilS nilS).toArray
theorem exec_al35 {ρ : Operand → Value} {o : Oper} (ho : o.op = .alloc 35) (w : World) : (execOp ρ o).run Tryz.prog w = .ok (.value (.pointer (some ⟨w.heap.size, 0, none⟩))) (w.alloc (.cells zc35 35)) := by
  unfold execOp
  rw [ho]
  kernel_rfl
theorem zc35_size : zc35.size = 266 := by kernel_rfl
def zc63 : Array Value := sgA ⟨zDg, zDg⟩
theorem exec_al63 {ρ : Operand → Value} {o : Oper} (ho : o.op = .alloc 63) (w : World) : (execOp ρ o).run Tryz.prog w = .ok (.value (.pointer (some ⟨w.heap.size, 0, none⟩))) (w.alloc (.cells zc63 63)) := by
  unfold execOp
  rw [ho]
  kernel_rfl
theorem zc63_size : zc63.size = 64 := by kernel_rfl
/-- A box laid anew. -/
theorem box_new (w : World) (D : Array Value) (t : TypeId) : (w.alloc (.cells D t)).heap[w.heap.size]? = some (.cells D t (0, 0)) := heap_alloc_new w _
theorem below_new (w : World) (D : Array Value) (t : TypeId) : Below w.heap.size w (w.alloc (.cells D t)) := (Below.refl _ _).alloc (Nat.le_refl _) _
end Go.Proofs.YtoboabkaojfbaaaGreatDoor
namespace Go.Proofs
open Go.Shelf
def Tryz.sI120_ren : Go.Shelf.Ren := ⟨fun | 6 => 120 | n => n, fun | 22 => 26 | 23 => 63 | 25 => 188 | 3 => 3 | 0 => 0 | 4 => 4 | n => n, fun | n => n⟩
theorem Tryz.sI120 : Go.Proofs.SlLaysH0.n6 Tryz.prog Tryz.sI120_ren := {
  mixed := by kernel_rfl
  f6 := ⟨Tryz.f120.name, by decide, Tryz.func120.trans (congrArg some (by kernel_rfl))⟩
  t0 := Tryz.underlying0
  a0 := Tryz.isAgg0
  z0 := Tryz.sizeOf0
  v0 := Tryz.zeroValue0
  t3 := Tryz.underlying3
  a3 := Tryz.isAgg3
  z3 := Tryz.sizeOf3
  v3 := Tryz.zeroValue3
  t4 := Tryz.underlying4
  a4 := Tryz.isAgg4
  z4 := Tryz.sizeOf4
  v4 := Tryz.zeroValue4
  t22 := Tryz.underlying26
  a22 := Tryz.isAgg26
  z22 := Tryz.sizeOf26
  v22 := Tryz.zeroValue26
  t25 := Tryz.underlying188
  a25 := Tryz.isAgg188
  z25 := Tryz.sizeOf188
  v25 := Tryz.zeroValue188 }
end Go.Proofs
namespace Go.Proofs.YtoboabkaojfbaaaGreatDoor
open Go Go.RowKit
set_option maxRecDepth 100000
set_option maxHeartbeats 1000000
set_option linter.unusedVariables false
set_option linter.unusedSimpArgs false
open Go.Maps Go.WideMaps Go.ChangeMaps
/-! The spots of a row of leaves. -/
def logP (n : Nat) : Nat := Lib.bitLen n - 1
theorem logP_le {n : Nat} (h : 0 < n) (hn : n ≤ 2000000000000) : 2 ^ logP n ≤ n ∧ n < 2 ^ (logP n + 1) ∧ 0 < Lib.bitLen n := by
  have a := bitAux_lt 64 n (by omega)
  obtain ⟨b, c⟩ := bitAux_le 64 n (by omega) h
  unfold logP Lib.bitLen
  exact ⟨c, by rw [Nat.sub_add_cancel b]; exact a, b⟩
def spL (fr len : Nat) : List (Nat × Nat) := if h : len = 0 then [] else (logP len, fr / 2 ^ logP len) :: spL (fr + 2 ^ logP len) (len - 2 ^ logP len)
termination_by len
decreasing_by
  have : 0 < 2 ^ logP len := Nat.pow_pos (by decide)
  omega
theorem spL_zero (fr : Nat) : spL fr 0 = [] := by rw [spL]; rfl
theorem spL_pos (fr len : Nat) (h : 0 < len) : spL fr len = (logP len, fr / 2 ^ logP len) :: spL (fr + 2 ^ logP len) (len - 2 ^ logP len) := by
  rw [spL, dif_neg (by omega)]
/-- Where the spots of so many leaves may begin. -/
def Al (fr len : Nat) : Prop := ∀ q, 2 ^ q ≤ len → 2 ^ q ∣ fr
theorem Al.zero (len : Nat) : Al 0 len := fun q _ => Nat.dvd_zero _
theorem Al.next {fr len : Nat} (h : Al fr len) (h0 : 0 < len) (hn : len ≤ 2000000000000) : Al (fr + 2 ^ logP len) (len - 2 ^ logP len) := by
  obtain ⟨h1, h2, -⟩ := logP_le h0 hn
  intro q hq
  have h3 : 2 ^ q ≤ 2 ^ logP len := by
    rcases Nat.lt_or_ge (logP len) q with e | e
    · have : 2 ^ (logP len + 1) ≤ 2 ^ q := Nat.pow_le_pow_right (by decide) e
      rw [Nat.pow_succ] at h2 this; omega
    · exact Nat.pow_le_pow_right (by decide) e
  have h4 : q ≤ logP len := (Nat.pow_le_pow_iff_right (show 1 < 2 by decide)).1 h3
  exact Nat.dvd_add (h q (by omega)) (Nat.pow_dvd_pow 2 h4)
theorem spL_level : ∀ (n len fr : Nat), len ≤ n → Al fr len → len ≤ 2000000000000 → ∀ s ∈ spL fr len, s.2 * 2 ^ s.1 + 2 ^ s.1 ≤ fr + len ∧ 2 ^ s.1 ≤ len := by
  intro n
  induction n with
  | zero => intro len fr h _ _ s hs; obtain rfl : len = 0 := by omega
            rw [spL_zero] at hs; cases hs
  | succ n ih =>
    intro len fr h hal hn s hs
    by_cases h0 : len = 0
    · subst h0; rw [spL_zero] at hs; cases hs
    · obtain ⟨h1, h2, -⟩ := logP_le (show 0 < len by omega) hn
      have hp : 0 < 2 ^ logP len := Nat.pow_pos (by decide)
      rw [spL_pos fr len (by omega)] at hs
      rcases List.mem_cons.1 hs with rfl | hs
      · dsimp only
        rw [Nat.div_mul_cancel (hal _ h1)]
        omega
      · have := ih (len - 2 ^ logP len) (fr + 2 ^ logP len) (by omega) (hal.next (by omega) hn) (by omega) s hs
        omega
theorem spL_len : ∀ (n len fr : Nat), len ≤ n → (spL fr len).length ≤ len := by
  intro n
  induction n with
  | zero => intro len fr h; obtain rfl : len = 0 := by omega
            rw [spL_zero]; exact Nat.le_refl _
  | succ n ih =>
    intro len fr h
    by_cases h0 : len = 0
    · subst h0; rw [spL_zero]; exact Nat.le_refl _
    · have hp : 0 < 2 ^ logP len := Nat.pow_pos (by decide)
      rw [spL_pos fr len (by omega), List.length_cons]
      have := ih (len - 2 ^ logP len) (fr + 2 ^ logP len) (by omega)
      omega
/-- What a left subtree takes: a power of two. -/
theorem leftP_two {n : Nat} (h : 2 ≤ n) (hn : n ≤ 2000000000000) : ∃ q, leftP n = 2 ^ q ∧ 2 ^ q < n ∧ n ≤ 2 ^ (q + 1) := by
  obtain ⟨h1, h2, h3⟩ := logP_le (n := n - 1) (by omega) (by omega)
  have hp : 2 ^ logP (n - 1) < n := by omega
  have hq : n ≤ 2 ^ (logP (n - 1) + 1) := by omega
  exact ⟨logP (n - 1), rfl, hp, hq⟩
theorem Al.halves {a len : Nat} (h : Al a len) (h2 : 2 ≤ len) (hn : len ≤ 2000000000000) : Al a (leftP len) ∧ Al (a + leftP len) (len - leftP len) := by
  obtain ⟨q, e, h3, h4⟩ := leftP_two h2 hn
  rw [e]
  refine ⟨fun p hp => h p (by omega), fun p hp => ?_⟩
  have hpq : p ≤ q := by
    rcases Nat.lt_or_ge q p with g | g
    · have : 2 ^ (q + 1) ≤ 2 ^ p := Nat.pow_le_pow_right (by decide) g
      rw [Nat.pow_succ] at h4 this
      omega
    · exact g
  exact Nat.dvd_add (h p (by omega)) (Nat.pow_dvd_pow 2 hpq)
theorem way_good (i : Nat) : ∀ (f a b : Nat), b - a ≤ f → Al a (b - a) → b ≤ 1099511627776 → ∀ p ∈ wayP f a b i, p.1 < p.2 ∧ Al p.1 (p.2 - p.1) ∧ p.2 ≤ b := by
  intro f
  induction f with
  | zero => intro a b h _ _ p hp; rw [wayP] at hp; cases hp
  | succ f ih =>
    intro a b hf hal h3 p hp
    rw [wayP] at hp
    by_cases h1 : b - a ≤ 1
    · rw [if_pos h1] at hp; cases hp
    · obtain ⟨l1, l2⟩ := leftP_lt (b - a) (by omega) (by omega)
      obtain ⟨al1, al2⟩ := hal.halves (by omega) (by omega)
      have e1 : a + leftP (b - a) - a = leftP (b - a) := by omega
      have e2 : b - (a + leftP (b - a)) = b - a - leftP (b - a) := by omega
      rw [if_neg h1] at hp
      split at hp
      · rcases List.mem_cons.1 hp with q | q
        · subst q
          exact ⟨by show a + leftP (b - a) < b; omega, by show Al (a + leftP (b - a)) (b - (a + leftP (b - a))); rw [e2]; exact al2, Nat.le_refl _⟩
        · obtain ⟨q1, q2, q3⟩ := ih a (a + leftP (b - a)) (by omega) (by rw [e1]; exact al1) (by omega) p q
          exact ⟨q1, q2, by omega⟩
      · rcases List.mem_cons.1 hp with q | q
        · subst q
          exact ⟨by show a < a + leftP (b - a); omega, by show Al a (a + leftP (b - a) - a); rw [e1]; exact al1, by show a + leftP (b - a) ≤ b; omega⟩
        · exact ih (a + leftP (b - a)) b (by omega) (by rw [e2]; exact al2) h3 p q
theorem spL_len41 : ∀ (k len fr : Nat), len < 2 ^ k → len ≤ 2000000000000 → (spL fr len).length ≤ k
  | 0, len, fr, h, _ => by
    obtain rfl : len = 0 := by rw [Nat.pow_zero] at h; omega
    rw [spL_zero]; exact Nat.le_refl _
  | k + 1, len, fr, h, hn => by
    by_cases h0 : len = 0
    · subst h0; rw [spL_zero]; exact Nat.zero_le _
    · obtain ⟨h1, h2, -⟩ := logP_le (show 0 < len by omega) hn
      rw [spL_pos fr len (by omega), List.length_cons]
      have h3 : len - 2 ^ logP len < 2 ^ k := by
        rcases Nat.lt_or_ge (logP len) k with e | e
        · have : 2 ^ (logP len + 1) ≤ 2 ^ k := Nat.pow_le_pow_right (by decide) e
          omega
        · have : 2 ^ k ≤ 2 ^ logP len := Nat.pow_le_pow_right (by decide) e
          rw [Nat.pow_succ] at h
          omega
      have := spL_len41 k (len - 2 ^ logP len) (fr + 2 ^ logP len) h3 (by omega)
      omega
theorem spL_few (len fr : Nat) (h : len ≤ 1099511627776) : (spL fr len).length ≤ 41 :=
  spL_len41 41 len fr (by have : (2 : Nat) ^ 41 = 2199023255552 := by decide +kernel
                          omega) (by omega)
end Go.Proofs.YtoboabkaojfbaaaGreatDoor
namespace Go.Proofs
open Go.Shelf
def Tryz.lays7n27_ren : Go.Shelf.Ren := ⟨fun | 27 => 252 | 28 => 263 | 29 => 264 | n => n, fun | 25 => 57 | 3 => 3 | 27 => 216 | 22 => 140 | 4 => 4 | 53 => 22 | 0 => 0 | 5 => 5 | 54 => 307 | n => n, fun | 0 => 2 | 1 => 3 | n => n⟩
theorem Tryz.lays7n27 : Go.Proofs.Lays7.n27 Tryz.prog Tryz.lays7n27_ren := {
  mixed := by kernel_rfl
  f27 := Tryz.func252.trans (congrArg some (by kernel_rfl))
  f28 := Tryz.func263.trans (congrArg some (by kernel_rfl))
  f29 := Tryz.func264.trans (congrArg some (by kernel_rfl))
  t0 := Tryz.underlying0
  a0 := Tryz.isAgg0
  z0 := Tryz.sizeOf0
  v0 := Tryz.zeroValue0
  i0 := by kernel_rfl
  t3 := Tryz.underlying3
  a3 := Tryz.isAgg3
  z3 := Tryz.sizeOf3
  v3 := Tryz.zeroValue3
  i3 := by kernel_rfl
  t4 := Tryz.underlying4
  a4 := Tryz.isAgg4
  z4 := Tryz.sizeOf4
  v4 := Tryz.zeroValue4
  i4 := by kernel_rfl
  t5 := Tryz.underlying5
  a5 := Tryz.isAgg5
  z5 := Tryz.sizeOf5
  v5 := Tryz.zeroValue5
  i5 := by kernel_rfl
  t22 := Tryz.underlying140
  a22 := Tryz.isAgg140
  z22 := Tryz.sizeOf140
  v22 := Tryz.zeroValue140
  i22 := by kernel_rfl
  t25 := Tryz.underlying57
  a25 := Tryz.isAgg57
  z25 := Tryz.sizeOf57
  v25 := Tryz.zeroValue57
  i25 := by kernel_rfl
  t27 := Tryz.underlying216
  a27 := Tryz.isAgg216
  z27 := Tryz.sizeOf216
  v27 := Tryz.zeroValue216
  i27 := by kernel_rfl
  t53 := Tryz.underlying22
  a53 := Tryz.isAgg22
  z53 := Tryz.sizeOf22
  v53 := Tryz.zeroValue22
  i53 := by kernel_rfl
  t54 := Tryz.underlying307
  a54 := Tryz.isAgg307
  z54 := Tryz.sizeOf307
  g0 := by kernel_rfl
  g1 := by kernel_rfl }
end Go.Proofs
namespace Go.Proofs.YtoboabkaojfbaaaGreatDoor
open Go Go.RowKit
set_option maxRecDepth 100000
set_option maxHeartbeats 8000000
set_option linter.unusedVariables false
set_option linter.unusedSimpArgs false
open Go.Maps Go.WideMaps Go.ChangeMaps
theorem sl130 : Sl Tryz.prog 256 88 (.agg #[.int .i64 0, .int .i64 0]) 2 16 := ⟨Tryz.underlying256, by kernel_rfl, rfl, by decide⟩
theorem ctz_ge {x q : Nat} (h0 : 0 < x) (hx : x < 2000000000000) (hq : 2 ^ q ∣ x) : q ≤ Lib.ctz 64 x := by
  obtain ⟨m, hm, -⟩ := Lib.ctzFrom_spec 64 x h0 (by omega)
  have e : Lib.ctz 64 x = Lib.ctzFrom 64 x := by unfold Lib.ctz; rw [if_neg (by omega)]
  rw [e]
  generalize Lib.ctzFrom 64 x = c at *
  rcases Nat.lt_or_ge c q with h | h
  · have h2 : 2 ^ (c + 1) ∣ x := Nat.dvd_trans (Nat.pow_dvd_pow 2 h) hq
    rw [hm, Nat.pow_succ] at h2
    have := Nat.dvd_of_mul_dvd_mul_left (Nat.pow_pos (show 0 < 2 by decide)) h2
    omega
  · exact h
theorem rowShape {w : World} {base : Nat} {e : TypeId} {size : Nat} {v : Value} {n : Nat} {xs : List Value} (h : w.ownsRow base e size v n xs) : ∃ a c, v = .slice a n c := by
  rcases h.2 with ⟨rfl, rfl⟩ | ⟨g, cap, _, rfl, _⟩
  · exact ⟨_, _, rfl⟩
  · exact ⟨_, _, rfl⟩
theorem tab_below {w w' : World} {l : List Nat} {B : Nat} (h : TabAt 3 l w) (hb : Below B w w') (h1 : 3 < B) : TabAt 3 l w' := fun j hj => (hb.cell h1).trans (h j hj)
theorem spots_any (w : World) (fr tq : Nat) (h : fr ≤ tq) (hto : tq ≤ 1099511627776) (hal : Al fr (tq - fr)) (htz : TabAt 3 Lib.deBruijn64tab w) (h1 : 3 < w.heap.size) :
    Calls Tryz.prog 234 #[.int .i64 (fr : Int), .int .i64 (tq : Int)] w fun e w' => ∃ a n c, e = .returned (.slice a n c) ∧ n = (spL fr (tq - fr)).length ∧ w'.ownsRow w.heap.size 88 2 (.slice a n c) n ((spL fr (tq - fr)).flatMap spE) ∧ Below w.heap.size w w' := by
  have d1 : decide ((fr : Int) < 0) = false := by simp
  have d2 : decide (1099511627776 < (tq : Int)) = false := by simp; omega
  have HH := Lib.hid (And.intro hto (And.intro htz h1))
  have HAL := Lib.hid hal
  have HF := Lib.hid h
  clear h hto hal htz h1
  go_enter Tryz.func234, Tryz.ntmps234
  go_wp2_with fail
  clear d1 d2
  go_loopw [0, 5] (fun v r wr => ∃ (x : Nat) (done : List (Nat × Nat)), fr ≤ x ∧ x ≤ tq ∧ v = .int .i64 (x : Int) ∧ Al x (tq - x) ∧ spL fr (tq - fr) = done ++ spL x (tq - x) ∧ wr.ownsRow w.heap.size 88 2 r done.length (done.flatMap spE) ∧ Below w.heap.size w wr) (fun v _ _ => tq - (intOf v).toNat)
  case atStart => exact ⟨fr, [], Nat.le_refl _, HF.out, rfl, HAL.out, rfl, World.ownsRow_nil _ _ _ _, Below.refl _ _⟩
  case round =>
    obtain ⟨x, done, hfx, hx, rfl, hax, hsp, ho, hb⟩ := hrel
    by_cases hlt : x < tq
    · obtain ⟨len, hlen⟩ : ∃ len, len = tq - x := ⟨_, rfl⟩
      have hl0 : 0 < len := by omega
      have hl6 : len ≤ 1099511627776 := by have := HH.out.1; omega
      obtain ⟨p1, p2, p3⟩ := logP_le hl0 (by omega)
      rw [← hlen] at hax hsp
      have hnx := hax.next hl0 (by omega)
      have hsp2 := spL_pos x len hl0
      have hdv := hax (logP len) p1
      obtain ⟨q, hq⟩ : ∃ q, q = logP len := ⟨_, rfl⟩
      rw [← hq] at p1 p2 hnx hsp2 hdv
      obtain ⟨P, hP⟩ : ∃ P, P = 2 ^ q := ⟨_, rfl⟩
      have hP0 : 0 < P := by rw [hP]; exact Nat.pow_pos (by decide)
      have hq20 : q ≤ 40 := by
        rcases Nat.lt_or_ge 40 q with e | e
        · have : 2 ^ 41 ≤ 2 ^ q := Nat.pow_le_pow_right (by decide) e
          omega
        · exact e
      obtain ⟨i, hi⟩ : ∃ i, i = x / P := ⟨_, rfl⟩
      have hx6 : x ≤ 1099511627776 := by have := HH.out.1; omega
      have HC := Lib.hid (fun wx => Any.bits_Len Tryz.lays125 (len : Int) wx (by omega) (by omega))
      have hbl : Lib.bitLen (len : Int).toNat = q + 1 := by rw [Int.toNat_natCast, hq]; unfold logP; omega
      rw [hbl] at HC
      have s1 : (tq : Int) - (x : Int) = (len : Int) := by omega
      have s2 : IntKind.u64.wrap (len : Int) = (len : Int) := by simp [IntKind.wrap, IntKind.bits, IntKind.signed]; omega
      have s3 : ((q + 1 : Nat) : Int) - 1 = (q : Int) := by omega
      have s4 : (x : Int) / (P : Int) = (i : Int) := by rw [hi]; rfl
      have s5 : IntKind.u64.wrap (x : Int) = (x : Int) := by simp [IntKind.wrap, IntKind.bits, IntKind.signed]; omega
      have s6 : (2 : Int) ^ q = (P : Int) := by rw [hP]; push_cast; rfl
      obtain ⟨w1, hw1⟩ : ∃ w1, w1 = wr.alloc (.cells #[.int .i64 (q : Int), .int .i64 (i : Int)] 88) := ⟨_, rfl⟩
      have hb1 : Below w.heap.size w w1 := by rw [hw1]; exact hb.alloc hb.size _
      have ho1 : w1.ownsRow w.heap.size 88 2 u5 done.length (done.flatMap spE) := by rw [hw1]; exact ho.alloc _
      have hca : ∀ (k : Nat) (u : Value), ([.int .i64 (q : Int), .int .i64 (i : Int)] : List Value)[k]? = some u → w1.cell? ((⟨wr.heap.size, 0, none⟩ : Addr).add k) = some u := fun k u hu => by rw [hw1]; exact cellA #[.int .i64 (q : Int), .int .i64 (i : Int)] 88 wr k u hu
      have hdl : done.length ≤ 1000000 := by
        have h1 := spL_few (tq - fr) fr (by have := HH.out.1; omega)
        rw [hsp, List.length_append] at h1
        omega
      have HB1 := Lib.hid hb1; have HO1 := Lib.hid ho1; have HCA := Lib.hid hca; have HDL := Lib.hid hdl
      have HSP := Lib.hid (show spL fr (tq - fr) = (done ++ [(q, i)]) ++ spL (x + P) (tq - (x + P)) by
        rw [hsp, hsp2, List.append_assoc, ← hP, ← hi, show tq - (x + P) = len - P by omega]; rfl)
      have HNX := Lib.hid (show Al (x + P) (tq - (x + P)) by rw [show tq - (x + P) = len - P by omega, hP]; exact hnx)
      have HXL := Lib.hid (show fr ≤ x + P ∧ x + P ≤ tq ∧ x < tq by omega)
      have HP0 := Lib.hid hP0
      have hw1' : wr.alloc (.cells #[.int .i64 (q : Int), .int .i64 (i : Int)] 88) = w1 := hw1.symm
      have hPb : P ≤ 1099511627776 := by omega
      have h9 : decide ((x : Int) < (tq : Int)) = true := by simp; omega
      have h8 : decide (x < tq) = true := by simp; omega
      have hcz : 0 < x → q ≤ Lib.ctz 64 x := fun h0 => ctz_ge h0 (by omega) hdv
      have HB := Lib.hid hb
      clear hfx hx hax hsp ho hb hlt hlen hl0 p1 p2 p3 hnx hsp2 hdv hq hP hP0 hi hbl hw1 hb1 ho1 hca hdl
      by_cases hx0 : x = 0
      · have h7 : decide ((0 : Int) < (x : Int)) = false := by simp; omega
        have h6 : decide (0 < x) = false := by simp; omega
        clear hx0 hcz
        go_wp2_with (first
          | (go_at_call 218; refine (HC.out wr).mono ?_; rintro e wx ⟨rfl, hw⟩; have hw := hw.symm; subst hw)
          | (at_builtin; go_loud (refine L_appendN rfl (.tmp 29) (.tmp 35) 256 (by rfl) sl130 w.heap.size _ done.length _ (by rfl) HO1.out ⟨_, 0, none⟩ 1 1 [.int .i64 (q : Int), .int .i64 (i : Int)] (by rfl) (by rfl) HCA.out (by intro u hu; simp only [List.mem_cons, List.not_mem_nil, or_false] at hu; rcases hu with rfl | rfl <;> rfl) (by have := HDL.out; omega) (by have := HDL.out; simp [maxLen]; omega) HB1.out.size (fun a4 c4 w4 ho4 hg4 hat4 => ?_))))
        have HO4 := Lib.hid ho4
        have HB4 := Lib.hid (HB1.out.grown hg4 HB1.out.size (fun k hk => (HO1.out.lt k hk).1))
        clear ho4 hg4 hat4
        refine ⟨⟨x + P, done ++ [(q, i)], by have := HXL.out; omega, HXL.out.2.1, by push_cast; rfl, HNX.out, HSP.out, ?_, HB4.out⟩, ?_⟩
        · have := HO4.out
          simpa [spE] using this
        · have h1 := HXL.out; have h2 := HP0.out
          show tq - (intOf (.int .i64 ((x : Int) + (P : Int)))).toNat < tq - (intOf (.int .i64 (x : Int))).toNat
          simp only [intOf]
          omega
      · have h7 : decide ((0 : Int) < (x : Int)) = true := by simp; omega
        have h6 : decide (0 < x) = true := by simp; omega
        have HTZ := Lib.hid (fun wx (hT : TabAt 3 Lib.deBruijn64tab wx) => Any7.bits_TrailingZeros Tryz.lays7n27 x (by omega) wx fun _ => hT)
        have hmin : min (q : Int) ((Lib.ctz 64 x : Nat) : Int) = (q : Int) := by have := hcz (by omega); omega
        clear hx0 hcz
        go_wp2_with (first
          | (go_at_call 252; refine (HTZ.out _ (tab_below HH.out.2.1 HB.out HH.out.2.2)).mono ?_; rintro e wx ⟨rfl, hw⟩; have hw := hw.symm; subst hw)
          | (go_at_call 218; refine (HC.out wr).mono ?_; rintro e wx ⟨rfl, hw⟩; have hw := hw.symm; subst hw)
          | (at_builtin; go_loud (refine L_appendN rfl (.tmp 29) (.tmp 35) 256 (by rfl) sl130 w.heap.size _ done.length _ (by rfl) HO1.out ⟨_, 0, none⟩ 1 1 [.int .i64 (q : Int), .int .i64 (i : Int)] (by rfl) (by rfl) HCA.out (by intro u hu; simp only [List.mem_cons, List.not_mem_nil, or_false] at hu; rcases hu with rfl | rfl <;> rfl) (by have := HDL.out; omega) (by have := HDL.out; simp [maxLen]; omega) HB1.out.size (fun a4 c4 w4 ho4 hg4 hat4 => ?_))))
        have HO4 := Lib.hid ho4
        have HB4 := Lib.hid (HB1.out.grown hg4 HB1.out.size (fun k hk => (HO1.out.lt k hk).1))
        clear ho4 hg4 hat4
        refine ⟨⟨x + P, done ++ [(q, i)], by have := HXL.out; omega, HXL.out.2.1, by push_cast; rfl, HNX.out, HSP.out, ?_, HB4.out⟩, ?_⟩
        · have := HO4.out
          simpa [spE] using this
        · have h1 := HXL.out; have h2 := HP0.out
          show tq - (intOf (.int .i64 ((x : Int) + (P : Int)))).toNat < tq - (intOf (.int .i64 (x : Int))).toNat
          simp only [intOf]
          omega
    · have h9 : decide ((x : Int) < (tq : Int)) = false := by simp; omega
      have h8 : decide (x < tq) = false := by simp; omega
      have hxe : x = tq := by omega
      clear hlt
      go_wp2_with fail
      go_ret
      subst hxe
      rw [Nat.sub_self, spL_zero, List.append_nil] at hsp
      rw [hsp]
      obtain ⟨a, c, rfl⟩ := rowShape ho
      exact ⟨a, _, c, rfl, rfl, ho, hb⟩
end Go.Proofs.YtoboabkaojfbaaaGreatDoor
