import Derived.Test.YtakaoacialnjaaaDoorK44
namespace Go.Proofs.YtakaoacialnjaaaDoor
open Go Go.RowKit
set_option linter.unusedVariables false
set_option linter.unusedSimpArgs false
structure Env (w : World) (la : Option Addr) (lc : Nat) : Prop where
  l : RS 2 Kd w la 11 lc K11
  t : NoTab w
  r2 : ResTab w 2
  r1 : ResTab w 1
  h2 : 2 < w.heap.size
theorem Env.below {w w' : World} {la : Option Addr} {lc : Nat} (h : Env w la lc) (hb : Below w.heap.size w w') : Env w' la lc :=
  ⟨h.l.below hb, h.t.below hb (by have := h.h2; omega), h.r2.below hb h.h2 h.h2, h.r1.below hb (by have := h.h2; omega) (by have := h.h2; omega), by have := h.h2; have := hb.size; omega⟩
theorem rs_new (w : World) (l : List (Int × Bool)) (n : Nat) (hn : l.length = n) (h3 : n ≤ 3) : RS 2 Kd (w.alloc (.cells (l.flatMap Kd).toArray 30)) (some ⟨w.heap.size, 0, none⟩) n n l := by
  subst hn
  refine ⟨rfl, Nat.le_refl _, by omega, fun i x hx => ⟨w.heap.size, 0, rfl, fun j v hv => ?_⟩⟩
  rw [cell_of_row _ _ _ _ _ _ (heap_alloc_new w _), Nat.zero_add]
  have := flat_get Kd 2 Kd_len l i x hx j v hv
  simpa using this
theorem rs_new1 (w : World) (a : Int) (ao : Bool) : RS 2 Kd (w.alloc (.cells #[.int .i64 a, .bool ao] 30)) (some ⟨w.heap.size, 0, none⟩) 1 1 [(a, ao)] := rs_new w [(a, ao)] 1 rfl (by decide)
theorem rs_new2 (w : World) (a : Int) (ao : Bool) (b : Int) (bo : Bool) : RS 2 Kd (w.alloc (.cells #[.int .i64 a, .bool ao, .int .i64 b, .bool bo] 30)) (some ⟨w.heap.size, 0, none⟩) 2 2 [(a, ao), (b, bo)] := rs_new w [(a, ao), (b, bo)] 2 rfl (by decide)
theorem rs_new3 (w : World) (a : Int) (ao : Bool) (b : Int) (bo : Bool) (c : Int) (co : Bool) : RS 2 Kd (w.alloc (.cells #[.int .i64 a, .bool ao, .int .i64 b, .bool bo, .int .i64 c, .bool co] 30)) (some ⟨w.heap.size, 0, none⟩) 3 3 [(a, ao), (b, bo), (c, co)] := rs_new w [(a, ao), (b, bo), (c, co)] 3 rfl (by decide)
structure LeanPre (w : World) (na : Option Addr) (n nc : Nat) (ns : List Nd) (va : Option Addr) (m vc : Nat) (sc : List Nm) : Prop where
  a : RS 7 Nd.cs w na n nc ns
  ok : ∀ nd ∈ ns, nd.ok w
  b : RS 3 Nm.cs w va m vc sc
  n1 : n ≤ 1000000
  m1 : m ≤ 1000000
  kl : ∀ nd ∈ ns, nd.kl ≤ 1000000
theorem rs_nil1 (w : World) : RS 1 Iv w none 0 0 [] := ⟨rfl, Nat.le_refl _, by omega, fun i x h => by simp at h⟩
theorem OverOut.use {e : Ending} {w w' : World} {op : Int} {l : List (Int × Bool)} (h : OverOut e w w' op l) (n : Nat) (hn : l.length + 1 = n) (h3 : l.length ≤ 3) :
    ∃ na nc va m vc ns sc, e = .returned (.tuple #[.slice na n nc, .slice va m vc]) ∧ LeanPre w' na n nc ns va m vc sc := by
  subst hn
  obtain ⟨na, nc, xa, xc, va, vc, rfl, h1, h2, h4⟩ := h
  have hle := partsNm_le l l.length
  have hcase : ∀ nd ∈ partsNd l l.length ++ [opNd op xa l.length xc], nd.ok w' ∧ nd.kl ≤ 1000000 := by
    intro nd hnd
    rw [List.mem_append] at hnd
    rcases hnd with hnd | hnd
    · simp only [partsNd, List.mem_map, List.mem_range] at hnd
      obtain ⟨i, hi, rfl⟩ := hnd
      unfold partNd
      split
      · exact ⟨⟨rs_nil1 w', by decide, by decide, by decide⟩, by decide⟩
      · exact ⟨⟨rs_nil1 w', show (1 : Nat) ≤ _ by decide, by show (_ : Int) ≤ 0; omega, by show (0 : Int) ≤ _; omega⟩, by show (0 : Nat) ≤ _; omega⟩
    · rw [List.mem_singleton] at hnd
      subst hnd
      exact ⟨⟨h4, by show (0 : Nat) ≤ _; omega, by show (_ : Int) ≤ 0; omega, by show (0 : Int) ≤ _; omega⟩, by show l.length ≤ _; omega⟩
  exact ⟨na, nc, va, _, vc, _, _, rfl, h1, fun nd h => (hcase nd h).1, h2, by omega, by omega, fun nd h => (hcase nd h).2⟩
theorem lean_pre {w : World} {na : Option Addr} {n nc : Nat} {ns : List Nd} {va : Option Addr} {m vc : Nat} {sc : List Nm} {la : Option Addr} {lc : Nat} (h : LeanPre w na n nc ns va m vc sc) (he : Env w la lc) :
    Calls Tryd.prog 11 #[.slice na n nc, .slice va m vc] w fun e w' => e = .returned (.bool true) ∧ Below w.heap.size w w' :=
  lean_any w na n nc ns h.a h.ok va m vc sc h.b he.t he.r2 he.r1 he.h2 h.n1 h.m1 h.kl
end Go.Proofs.YtakaoacialnjaaaDoor
