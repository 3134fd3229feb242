import Derived.Test.YteoggphafhcchaaGreatM21
import Derived.Shelf.SlIter.Keys
import Derived.Shelf.SlIter.Collect
import Derived.RangeFuncNested
import Derived.RangeFuncBound
import Derived.RangeFuncCalls
import Derived.RangeFuncLeaves
import Derived.RangeFuncBox
import Derived.RangeFuncWrites
import Derived.Shelf.Abstract
import Derived.Shelf.RegionOpen
import Derived.WalkKit
import Derived.OwnWalkIn
import Derived.TacticsInMore
import Derived.LoopNIn
import Derived.LoopIn
import Derived.Maps.OwnIn
import Derived.Maps.AppendAt
namespace Go.Proofs.YteoggphafhcchaaGreat
open Go Go.RowKit Go.Shelf Go.Maps Go.Sort
set_option maxRecDepth 100000
set_option maxHeartbeats 2000000
set_option linter.unusedVariables false
set_option linter.unusedSimpArgs false
attribute [local go_sem] Oper.semAt_some
/-- A pointer, or none. -/
def encP (o : Option Nat) : Value := .pointer (o.map fun g => ⟨g, 0, none⟩)
def valD : Option Nat → DataW Unit
  | none => .nil
  | some g => .lit (.int .i64 (g : Nat))
theorem encP_of {v : Value} {y : DataW Unit × List MemPlace} (h : ptrR v = some y) : ∃ c, v = encP c := by
  obtain ⟨x, ps⟩ := y
  obtain ⟨rfl, hx⟩ := ptrR_inv h
  rcases hx with rfl | ⟨g, rfl⟩
  · exact ⟨none, rfl⟩
  · exact ⟨some g, by simp [ptrOf, encP]⟩
theorem ptrR_enc {c : Option Nat} {yd : DataW Unit} {yp : List MemPlace} (h : ptrR (encP c) = some (yd, yp)) : yd = valD c := by
  cases c <;> (simp [encP, ptrR] at h; exact h.1.symm)
def ValsOf (D0 : DataW Unit) (xs : List (Option Nat)) : Prop := ∃ ps : List (List UInt8 × Option Nat), (ps.map (·.1)).Perm (strKeys D0) ∧ (∀ p ∈ ps, ∀ zd, D0.atKey (.string p.1) zd = valD p.2) ∧ xs = ps.map (·.2)
theorem vals_in (n : Nat) (hn : 1 ≤ n) (l Bm b nn : Nat) (D0 : DataW Unit) (J Jx : List (Option Nat) → World → Prop)
    (hY : ∀ pre x W, J pre W → pre.length < Maps.size D0 → YieldAt Fence.wide (n - 1) Tryz.prog l #[encP x] W fun e W' =>
      (e = .returned (.bool true) ∧ J (pre ++ [x]) W' ∧ KeepsWalks W W') ∨ (e = .returned (.bool false) ∧ Jx (pre ++ [x]) W'))
    (W : World) (hJ : AbidesFrom W.heap.size J) (hm : W.cell? ⟨Bm, 0, none⟩ = some (.map (some b))) (hown : W.ownsMap Tryz.prog 9 ptrR b nn D0) (h0 : J [] W) :
    CallsIn Fence.wide n Tryz.prog 75 #[.func (.yield l) #[] #[], .pointer (some ⟨Bm, 0, none⟩)] W fun e W' => (∃ v, e = .returned v) ∧
      ((∃ xs, ValsOf D0 xs ∧ J xs W') ∨ (∃ pre, Jx pre W')) := by
  refine callsIn_of_wp Tryz.func75 rfl trivial ?_ rfl
  simp only [Tryz.ntmps75, List.size_toArray, List.length_cons, List.length_nil, Nat.reduceAdd, Nat.reduceSub, Array.replicate_succ, Array.replicate_zero, List.push_toArray, List.append_toArray, List.nil_append, List.cons_append]
  gi_wp2_with (first
    | (gi_at_range; refine wpListIn_range_own _ rfl _ 43 rfl 9 76 (string_keyed Tryz.underlying9) Tryz.underlying43 _ b nn _ rfl hown ?_; intro w0 hrg0 hg0 hs0)
    | gi_in)
  go_frame
  gi_loopw [4] (fun _ wr => ∃ (left : Lit → Bool) (cnt : Nat) (ps : List (List UInt8 × Option Nat)), wr.ranges Tryz.prog 9 ptrR b W.heap.size nn D0 left cnt ∧ ps.length + cnt ≤ Maps.size D0 ∧ Collected D0 left (ps.map (·.1)) ∧ (∀ p ∈ ps, ∀ zd, D0.atKey (.string p.1) zd = valD p.2) ∧ J (ps.map (·.2)) wr)
    (fun _ wr => wr.rangeLeft b W.heap.size)
  case atStart =>
    exact ⟨_, _, [], hrg0, by simp, Collected.start D0, by simp, hJ [] W w0 none h0 hg0 (fun r e => by cases e)⟩
  case round =>
    obtain ⟨left, cnt, ps, hrg, hcs, hC, hV, hJs⟩ := hrel
    gi_wp2_with (first
      | (gi_at_next; refine wpListIn_next_ranges _ rfl _ rfl 9 (string_keyed Tryz.underlying9) ptrR encStr encP (fun key kl hk => by obtain ⟨x, hx, _⟩ := Maps.keyOf_str Tryz.underlying9 hk; exact ⟨x, hx⟩) (fun v y hv => encP_of hv) b W.heap.size nn _ _ _ rfl hrg ?_ ?_)
      | gi_in)
    · intro hc0 hl0
      gi_wp2
      go_end0
      exact ⟨⟨_, rfl⟩, .inl ⟨_, ⟨ps, hC.perm hown (string_keyed Tryz.underlying9) Tryz.underlying9 hl0, hV, rfl⟩, hJs⟩⟩
    · intro x c kl yd yp w2 cnt2 hkey hlk hv hat hrg2 hlt hg2 hs2 hen
      obtain ⟨x', ex, rfl, _⟩ := Maps.keyOf_str Tryz.underlying9 hkey
      obtain rfl : x = x' := encStr_inj ex
      obtain rfl := ptrR_enc hv
      have hJ2 : J (ps.map (·.2)) w2 := hJ _ wr w2 (some W.heap.size) hJs hg2 (fun r e => by cases e; exact ⟨Nat.le_refl _, hrg.iter_walk⟩)
      obtain ⟨fn, tmps, assign, body, hy, hR⟩ := hY (ps.map (·.2)) c w2 hJ2 (by simp; omega)
      clear hs2
      gi_wp2
      refine hR.mono ?_
      have hC2 : Collected D0 (fun z => left z && !z.sameKey (.string x)) ((ps ++ [(x, c)]).map (·.1)) := by simpa using hC.step hlk hat
      have hV2 : ∀ p ∈ ps ++ [(x, c)], ∀ zd, D0.atKey (.string p.1) zd = valD p.2 := fun p hp => (List.mem_append.1 hp).elim (hV p) (fun e => by simp at e; subst e; exact hat)
      rintro e W3 (⟨rfl, hJ3, hk3⟩ | ⟨rfl, hJx3⟩)
      · gi_wp2
        have hrg3 := hrg2.of_walks hk3
        go_roundw
        case rel => exact ⟨_, cnt2, ps ++ [(x, c)], hrg3, by simp; omega, hC2, hV2, by simpa using hJ3⟩
        case measure => rw [hrg3.left_eq, hrg.left_eq]; exact hlt
      · gi_wp2
        refine bodyPost_ret (results_none rfl _ _ _) rfl ?_
        exact ⟨⟨_, rfl⟩, .inr ⟨_, hJx3⟩⟩
theorem values_any (mb : Option Nat) (w : World) : CallsIn Fence.wide 5 Tryz.prog 57 #[.map mb] w fun e w' => e = .returned (.func (.func 75) #[] #[.pointer (some ⟨w.heap.size, 0, none⟩)]) ∧ w' = w.alloc (.cells #[.map mb] 43) := by
  refine callsIn_of_wp Tryz.func57 rfl trivial ?_ rfl
  simp only [Tryz.ntmps57, List.size_toArray, List.length_cons, List.length_nil, Nat.reduceAdd, Nat.reduceSub, Array.replicate_succ, Array.replicate_zero, List.push_toArray, List.append_toArray, List.nil_append, List.cons_append]
  gi_wp2
  go_ret
  exact ⟨rfl, rfl⟩
theorem vals_stops (Bm b nn : Nat) (D0 : DataW Unit) (w : World) (hBm : Bm < w.heap.size) (hm : w.cell? ⟨Bm, 0, none⟩ = some (.map (some b))) (hown : w.ownsMap Tryz.prog 9 ptrR b nn D0) :
    SeqStopsK Fence.wide 2 Tryz.prog 75 #[.pointer (some ⟨Bm, 0, none⟩)] (fun o => #[encP o]) KeepsWalks (ValsOf D0) (fun _ => True) (Maps.size D0) w := fun l J Jx W hW hJ _ hY h0 => by
  have hown' : W.ownsMap Tryz.prog 9 ptrR b nn D0 := by
    have hbl := hown.lt
    obtain ⟨es, clock, hb, Ft, hs, hD⟩ := hown
    exact ⟨es, clock, (hW.block b hbl).trans hb, Ft, hs, hD⟩
  refine (vals_in 2 (by omega) l Bm b nn D0 J Jx hY W hJ ((hW.cell (p := ⟨Bm, 0, none⟩) hBm).trans hm) hown' h0).mono ?_
  rintro e W' ⟨h1, ⟨xs, h2, h3⟩ | ⟨pre, h2⟩⟩
  · exact ⟨h1, .inl ⟨xs, h2, h3⟩⟩
  · exact ⟨h1, .inr ⟨pre, trivial, h2⟩⟩
theorem info76 : (Tryz.prog.info? 76).map (fun i => (i.zero, i.size, i.bytes)) = some (some (.pointer none), 1, 8) := by kernel_rfl
end Go.Proofs.YteoggphafhcchaaGreat
