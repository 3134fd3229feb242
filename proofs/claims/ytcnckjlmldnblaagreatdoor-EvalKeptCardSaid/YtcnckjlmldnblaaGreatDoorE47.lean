import Derived.Test.YtcnckjlmldnblaaGreatDoorE3
import Derived.Test.YtcnckjlmldnblaaGreatDoorK4
namespace Go.Proofs.YtcnckjlmldnblaaGreatDoor
open Go Go.RowKit
set_option linter.unusedVariables false
set_option linter.unusedSimpArgs false
theorem rest_mul (a b:Int):a.tdiv b * b+a.tmod b=a:=by rw [Int.mul_comm];exact Int.mul_tdiv_add_tmod a b
theorem rest_sign (a b:Int):(0≤a→0≤a.tmod b)∧(a≤0→a.tmod b≤0):=⟨fun h=>Int.tmod_nonneg b h,fun h=>by
 have h1:=Int.tmod_nonneg b (show 0≤-a by omega)
 rw [Int.neg_tmod] at h1
 omega⟩
theorem quot_mul_in {a b:Int} (ha:I64 a):I64 (a.tdiv b * b):=by
 have h1:=rest_mul a b
 have h2:=rest_sign a b
 obtain ⟨l,u⟩:=ha
 have h4:(a.tmod b).natAbs≤a.natAbs:=by
  rw [Int.natAbs_tmod]
  exact Nat.mod_le _ _
 unfold I64
 omega
/-- What stands in the midst of a law's walk: a beginning left alone, the table, boxes. -/
structure St (w W:World) (gs:List (Nat × Obj)):Prop where
 b:Below w.heap.size w W
 t:ResTab W 1
 h:1 < W.heap.size
 g:∀ p ∈ gs,W.heap[p.1]?=some p.2
theorem St.below {w W W':World} {gs:List (Nat × Obj)} (h:St w W gs) (hb:Below W.heap.size W W'):St w W' gs :=
 ⟨h.b.trans (hb.mono h.b.size),h.t.below hb h.h h.h,by have:=h.h;have:=hb.size;omega,fun p hp=>(hb.block _ (Array.getElem?_eq_some_iff.1 (h.g p hp)).1).trans (h.g p hp)⟩
theorem St.alloc {w W:World} {gs:List (Nat × Obj)} (h:St w W gs) (o:Obj) (xs:Array Value) (t:TypeId) (e:o=.cells xs t):St w (W.alloc o) ((W.heap.size,o) :: gs):=by
 have h1:=h.below (bel1 W o)
 refine ⟨h1.b,h1.t,h1.h,fun p hp=>?_⟩
 rcases List.mem_cons.1 hp with rfl | hp
 · subst e;exact heap_alloc_new W _
 · exact h1.g p hp
end Go.Proofs.YtcnckjlmldnblaaGreatDoor

