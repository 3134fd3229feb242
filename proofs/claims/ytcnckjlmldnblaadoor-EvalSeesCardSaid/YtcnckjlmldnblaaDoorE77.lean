import Derived.Test.YtcnckjlmldnblaaDoorE61
import Derived.Test.YtcnckjlmldnblaaDoorE55
import Derived.Test.YtcnckjlmldnblaaDoorE54
import Derived.Test.YtcnckjlmldnblaaDoorE76
import Derived.BigGuardPart
import Derived.OrdersHeld
import Derived.Deep.RegionHeld3
import Derived.Handy
import Derived.IntWalk
namespace Go.Proofs.YtcnckjlmldnblaaDoor
open Go Go.RowKit
set_option linter.unusedVariables false
set_option linter.unusedSimpArgs false
theorem nil_aheadM (p : Pd) (m : String) (h : m = "Value" ∨ m = "Open" ∨ m = "Reached") : ∀ w : World, Sem.run Tryd.prog (nilAhead 281 86 (Value.agg p.cs) m) w = .ok (some false) w := fun w => by
  rcases h with rfl | rfl | rfl
  · kernel_rfl
  · kernel_rfl
  · kernel_rfl
theorem RS.atS3 {α : Type} {s : Nat} {enc : α → List Value} {w : World} {b off n c : Nat} {xs : List α} (h : RS s enc w (some ⟨b, off, none⟩) n c xs) {i : Nat} {x : α} (hx : xs[i]? = some x) : ∀ j v, (enc x)[j]? = some v → w.cell? ⟨b, off + i * s + j, none⟩ = some v := by
  obtain ⟨b', o', e, hc⟩ := h.2.2.2 i x hx
  cases e
  exact hc
theorem own_newS (w : World) (s : ByteArray) : (w.alloc (.cells #[.string s] 9)).ownsRow w.heap.size 9 1 (.slice (some ⟨w.heap.size, 0, none⟩) 1 1) 1 (Sv s) :=
  ⟨rfl, .inr ⟨w.heap.size, 1, #[.string s], rfl, Nat.le_refl _, heap_alloc_new w _, Nat.le_refl _, by decide, rfl, rfl⟩⟩
/-- The value that is seen of a name, in plain data. -/
def wantV (l : List Bc) (nm : ByteArray) : Vl := match l.find? (fun b => b.nm.toList == nm.toList) with
  | some b => b.v.x
  | none => v0
theorem want_vw (l : List Bc) (os rs : List ByteArray) (ck st : Int) (nm : ByteArray) : Vw.value ⟨l.map fun b => (b.nm, b.v.x), os, rs, ck, st⟩ nm = wantV l nm := by
  unfold Vw.value wantV
  show (match (l.map fun b => (b.nm, b.v.x)).find? (fun b : ByteArray × Vl => b.1.toList == nm.toList) with | some b => b.2 | none => v0) = _
  rw [List.find?_map]
  have e : ((fun b : ByteArray × Vl => b.1.toList == nm.toList) ∘ fun b : Bc => (b.nm, b.v.x)) = fun b : Bc => b.nm.toList == nm.toList := rfl
  rw [e]
  cases l.find? (fun b => b.nm.toList == nm.toList) <;> rfl
theorem want_at {l : List Bc} {m : Nat} {b : Bc} {nm : ByteArray} (hb : l[m]? = some b) : wantV (l.drop m) nm = if (b.nm.toList == nm.toList) = true then b.v.x else wantV (l.drop (m + 1)) nm := by
  obtain ⟨h1, h2⟩ := List.getElem?_eq_some_iff.1 hb
  rw [List.drop_eq_getElem_cons h1, h2]
  unfold wantV
  rw [List.find?_cons]
  cases h : (b.nm.toList == nm.toList) <;> simp
theorem want_nil {l : List Bc} {m : Nat} {nm : ByteArray} (h : l.length ≤ m) : wantV (l.drop m) nm = v0 := by
  rw [List.drop_eq_nil_of_le h]; rfl
abbrev zB2 : Bc := ⟨ByteArray.empty, ⟨v0, none, 0, 0⟩⟩
/-- The box of what is wanted, seen from above. -/
structure BWant (W : World) (g : Nat) (bs : List Bc) (m : Nat) (nm : ByteArray) (b : Bc) : Prop where
  i : b ∈ bs ∨ b = zB2
  g : W.heap[g]? = some (boxS b.v.x b.v.a b.v.l b.v.c)
  x : b.v.x = wantV (bs.drop m) nm
theorem bw_rs {w W : World} {p : Pd} {b : Bc} (h : b ∈ p.bs ∨ b = zB2) (hp : VwArg w p) (hb : Below w.heap.size w W) : RS 1 Sv W b.v.a b.v.l b.v.c b.v.x.ss := by
  rcases h with h | rfl
  · exact ((hp.b b h).1.below hb).rs
  · exact rs_nil1 _
theorem valueX_any (w : World) (p : Pd) (hp : p.ok w) (nm : ByteArray) (x : Vl) (hx : p.vw.value nm = x) :
    Calls Tryd.prog 134 #[.agg p.cs, .string nm] w fun e w' => (∃ a c, e = .returned (VA x a x.ss.length c) ∧ SV w' w.heap.size (VA x a x.ss.length c) x) ∧ Below w.heap.size w w' := by
  subst hx
  refine (value_any w p hp nm).mono fun e w' ⟨⟨a, l, c, he, hs⟩, hb⟩ => ⟨?_, hb⟩
  obtain ⟨a', l', c', e', hl, -⟩ := id hs
  simp only [VA, Value.agg.injEq, Array.mk.injEq, List.cons.injEq, Value.slice.injEq, true_and, and_true] at e'
  obtain ⟨rfl, rfl, rfl⟩ := e'
  subst hl
  exact ⟨a, c, he, hs⟩
theorem openX_any (w : World) (p : Pd) (hp : p.ok w) (nm : ByteArray) (l : List ByteArray) (hx : p.os = l) :
    Calls Tryd.prog 131 #[.agg p.cs, .string nm] w fun e w' => e = .returned (.bool (inSS l nm)) ∧ Below w.heap.size w w' := by
  subst hx
  exact open_any w p hp nm
theorem reachedX_any (w : World) (p : Pd) (hp : p.ok w) (nm : ByteArray) (l : List ByteArray) (hx : p.rs = l) :
    Calls Tryd.prog 132 #[.agg p.cs, .string nm] w fun e w' => e = .returned (.bool (inSS l nm)) ∧ Below w.heap.size w w' := by
  subst hx
  exact reached_any w p hp nm
def NamesL (nm : ByteArray) (p : Pd) : List ByteArray := nm :: p.bs.map Bc.nm ++ p.os ++ p.rs
set_option maxRecDepth 100000 in
set_option maxHeartbeats 16000000 in
theorem evalsees_walk (w : World) (p : Pd) (hp : VwArg w p) (nm : ByteArray) (ht : ResTab w 1) (h1 : 1 < w.heap.size) :
    Calls Tryd.prog 4 #[.agg p.cs, .string nm] w fun e w' => e = .returned (.bool true) ∧ Below w.heap.size w w' := by
  obtain ⟨w1, hw1⟩ : ∃ w1, w1 = w.alloc (boxW35 p) := ⟨_, rfl⟩
  have g0 : w1.heap[w.heap.size]? = some (boxW35 p) := by rw [hw1]; exact heap_alloc_new w _
  have hb1 : Below w.heap.size w w1 := by rw [hw1]; exact bel1 _ _
  have z1 : w.heap.size < w1.heap.size := by rw [hw1]; simp
  have HP := Lib.hid hp
  have HVL := Lib.hid hp.v.1
  have HOL := Lib.hid hp.o.rs.1
  have HRL := Lib.hid hp.r.rs.1
  have HB1 := Lib.hid hb1
  have G0 := Lib.hid g0
  have q0 := cell_of_row w1 _ 0 _ _ _ g0
  have q1 := cell_of_row w1 _ 1 _ _ _ g0
  have q2 := cell_of_row w1 _ 2 _ _ _ g0
  have q3 := cell_of_row w1 _ 3 _ _ _ g0
  have q4 := cell_of_row w1 _ 4 _ _ _ g0
  simp only [List.getElem?_toArray, List.getElem?_cons_zero, List.getElem?_cons_succ] at q0 q1 q2 q3 q4
  have HKN := Lib.hid (fun (W : World) (hb : Below w.heap.size w W) => known_any W (ht.below hb h1 h1) (Nat.lt_of_lt_of_le h1 hb.size))
  clear hp ht h1 hb1 g0
  go_enter Tryd.func4, Tryd.ntmps4
  go_upto_region 1 with (fail)
  rw [← hw1]
  clear hw1
  go_wp2_with fail
  have hrn : RS 7 Nd.cs w1 none 0 0 [] := ⟨rfl, Nat.le_refl _, by omega, fun i x h => by simp at h⟩
  have hrm : ∀ nd ∈ ([] : List Nd), nd.kl ≤ 281474976710656 ∧ nd.sl ≤ 281474976710656 := fun nd h => (List.not_mem_nil h).elim
  with_reducible refine (great_any w1 none 0 0 [] hrn hrm p (HP.out.below HB1.out)).mono ?_
  rintro e w2 ⟨hg, hb2⟩
  obtain ⟨g, rfl, hs⟩ := hg.cases
  have HS := Lib.hid hs
  have HB2 := Lib.hid (HB1.out.trans (hb2.mono (by omega)))
  have G2 := Lib.hid ((hb2.block _ z1).trans G0.out)
  have z2 : w.heap.size < w2.heap.size := by have := hb2.size; omega
  clear hb2 hs hg q0 q1 q2 q3 q4
  cases g
  rotate_left
  · go_wp2_with (go_at_call 16; refine (HKN.out _ HB2.out).mono ?_; rintro e w9 ⟨rfl, hb9⟩)
    go_ret
    exact ⟨rfl, HB2.out.trans (hb9.mono (by have := HB2.out.size; omega))⟩
  obtain ⟨hn5, hnd5, hnm5, hbs5⟩ := HS.out rfl
  have HBS := Lib.hid hbs5
  clear HS hnd5 hbs5 hn5
  have q0 := cell_of_row w2 _ 0 _ _ _ G2.out
  have q1 := cell_of_row w2 _ 1 _ _ _ G2.out
  have q2 := cell_of_row w2 _ 2 _ _ _ G2.out
  have q3 := cell_of_row w2 _ 3 _ _ _ G2.out
  have q4 := cell_of_row w2 _ 4 _ _ _ G2.out
  simp only [List.getElem?_toArray, List.getElem?_cons_zero, List.getElem?_cons_succ] at q0 q1 q2 q3 q4
  go_wp2_with fail
  with_reducible refine (made_any w2 p (HP.out.below HB2.out) hnm5 HBS.out).mono ?_
  rintro e w3 ⟨⟨pp, rfl, hpo, hvw⟩, hb3⟩
  have HB3 := Lib.hid (HB2.out.trans (hb3.mono (by omega)))
  have HVW := Lib.hid hvw
  have HPO := Lib.hid hpo.ok
  have G3 := Lib.hid ((hb3.block _ z2).trans G2.out)
  have z3 : w.heap.size < w3.heap.size := by have := hb3.size; omega
  have HCK := Lib.hid (fun (W : World) => by
    have h := clock_any W pp
    rwa [show pp.clock = p.clock from congrArg Vw.clock hvw] at h : ∀ W, Calls Tryd.prog 130 #[.agg pp.cs] W fun e w' => e = .returned (.int .i64 p.clock) ∧ Below W.heap.size W w')
  have HST := Lib.hid (fun (W : World) => by
    have h := steps_any W pp
    rwa [show pp.steps = p.steps from congrArg Vw.steps hvw] at h : ∀ W, Calls Tryd.prog 133 #[.agg pp.cs] W fun e w' => e = .returned (.int .i64 p.steps) ∧ Below W.heap.size W w')
  have HOP := Lib.hid (show pp.os = p.os from congrArg Vw.op hvw)
  have HRP := Lib.hid (show pp.rs = p.rs from congrArg Vw.rc hvw)
  have HWV := Lib.hid (fun (y : ByteArray) => by rw [hvw]; exact want_vw _ _ _ _ _ _ : ∀ y, pp.vw.value y = wantV p.bs y)
  clear hpo hvw hb3 q0 q1 q2 q3 q4
  have q3 := cell_of_row w3 _ 3 _ _ _ G3.out
  have q4 := cell_of_row w3 _ 4 _ _ _ G3.out
  simp only [List.getElem?_toArray, List.getElem?_cons_zero, List.getElem?_cons_succ] at q3 q4
  have hcc : (p.clock != p.clock) = false := by simp
  have hss : (p.steps != p.steps) = false := by simp
  go_wp2_with fail
  refine wp_region_held_drew (S := (fun w' => Below w3.heap.size w3 w' ∧ w'.cell? ⟨w.heap.size, 3, none⟩ = some (.int .i64 p.clock) ∧ w'.cell? ⟨w.heap.size, 4, none⟩ = some (.int .i64 p.steps))) (by kernel_rfl) ⟨(Below.refl _ _).drew, q3, q4⟩ (fun hHeld => ?_)
  clear q3 q4
  obtain ⟨wd, hwd⟩ : ∃ wd, wd = w3.drew := ⟨_, rfl⟩
  rw [← hwd] at hHeld ⊢
  clear hwd
  refine wpAnyH_take (i := 0) (oi := _) (v := ?_) rfl (by kernel_rfl) (by kernel_rfl) (by kernel_rfl) (fun _ _ _ h => h) (Or.inl ⟨by rfl, ?_⟩) (by assumption) ?_
  rotate_left
  · intro w hSw
    (try dsimp only at hSw)
    go_simp
    all_goals (first | done | with_reducible rfl)
  (try simp only [Act.put, List.setIfInBounds_toArray, List.set_cons_zero, List.set_cons_succ, List.getElem_toArray, List.getElem_cons_succ, List.getElem_cons_zero])
  refine wpAnyH_take (i := 1) (oi := _) (v := ?_) rfl (by kernel_rfl) (by kernel_rfl) (by kernel_rfl) (fun _ _ _ h => h) (Or.inl ⟨by rfl, ?_⟩) (by assumption) ?_
  rotate_left
  · intro w hSw
    (try dsimp only at hSw)
    go_simp
    all_goals (first | done | with_reducible rfl)
  (try simp only [Act.put, List.setIfInBounds_toArray, List.set_cons_zero, List.set_cons_succ, List.getElem_toArray, List.getElem_cons_succ, List.getElem_cons_zero])
  refine wpAnyH_take (i := 2) (oi := _) (v := ?_) rfl (by kernel_rfl) (by kernel_rfl) (by kernel_rfl) (fun _ _ _ h => h) (Or.inl ⟨by rfl, ?_⟩) (by assumption) ?_
  rotate_left
  · intro w hSw
    (try dsimp only at hSw)
    go_simp
    all_goals (first | done | with_reducible rfl)
  (try simp only [Act.put, List.setIfInBounds_toArray, List.set_cons_zero, List.set_cons_succ, List.getElem_toArray, List.getElem_cons_succ, List.getElem_cons_zero])
  refine wpAnyH_take (i := 3) (oi := _) (v := ?_) rfl (by kernel_rfl) (by kernel_rfl) (by kernel_rfl) (fun _ _ _ h => h) (Or.inl ⟨by rfl, ?_⟩) (by assumption) ?_
  rotate_left
  · intro w hSw
    (try dsimp only at hSw)
    go_simp
    all_goals (first | done | with_reducible rfl)
  (try simp only [Act.put, List.setIfInBounds_toArray, List.set_cons_zero, List.set_cons_succ, List.getElem_toArray, List.getElem_cons_succ, List.getElem_cons_zero])
  refine wpAnyH_take (i := 5) (oi := _) (v := ?_) rfl (by kernel_rfl) (by kernel_rfl) (by kernel_rfl) (fun _ _ _ h => h) (Or.inl ⟨by rfl, ?_⟩) (by assumption) ?_
  rotate_left
  · intro w hSw
    (try dsimp only at hSw)
    go_simp
    all_goals (first | done | with_reducible rfl)
  (try simp only [Act.put, List.setIfInBounds_toArray, List.set_cons_zero, List.set_cons_succ, List.getElem_toArray, List.getElem_cons_succ, List.getElem_cons_zero])
  refine wpAnyH_take (i := 6) (oi := _) (v := ?_) rfl (by kernel_rfl) (by kernel_rfl) (by kernel_rfl) (fun _ _ _ h => h) (Or.inl ⟨by rfl, ?_⟩) (by assumption) ?_
  rotate_left
  · intro w hSw
    (try dsimp only at hSw)
    go_simp
    all_goals (first | done | with_reducible rfl)
  (try simp only [Act.put, List.setIfInBounds_toArray, List.set_cons_zero, List.set_cons_succ, List.getElem_toArray, List.getElem_cons_succ, List.getElem_cons_zero])
  refine wpAnyH_ready (rs := [4]) (by kernel_rfl) (by simp) ?_
  refine AllReadyH.cons (o := _) rfl (fun K hK => ?_) AllReadyH.nil
  go_simp
  refine (HCK.out wd).mono ?_
  rintro e y1 ⟨rfl, hb⟩
  refine hK.out _ _ ⟨hHeld.1.trans (hb.mono hHeld.1.size), keepb hb hHeld.2.1, keepb hb hHeld.2.2⟩ (fun hHeld => ?_)
  clear hK K hb
  (try simp only [Act.put, List.setIfInBounds_toArray, List.set_cons_zero, List.set_cons_succ, List.getElem_toArray, List.getElem_cons_succ, List.getElem_cons_zero])
  refine wpAnyH_take (i := 7) (oi := _) (v := ?_) rfl (by kernel_rfl) (by kernel_rfl) (by kernel_rfl) (fun _ _ _ h => h) (Or.inl ⟨by rfl, ?_⟩) (by assumption) ?_
  rotate_left
  · intro w hSw
    (try dsimp only at hSw)
    go_simp
    all_goals (first | done | with_reducible rfl)
  (try simp only [Act.put, List.setIfInBounds_toArray, List.set_cons_zero, List.set_cons_succ, List.getElem_toArray, List.getElem_cons_succ, List.getElem_cons_zero])
  refine wpAnyH_take (i := 8) (oi := _) (v := ?_) rfl (by kernel_rfl) (by kernel_rfl) (by kernel_rfl) (fun _ _ _ h => h) (Or.inl ⟨by rfl, ?_⟩) (by assumption) ?_
  rotate_left
  · intro w hSw
    (try dsimp only at hSw)
    go_simp
    all_goals (first | done | with_reducible rfl)
  (try simp only [Act.put, List.setIfInBounds_toArray, List.set_cons_zero, List.set_cons_succ, List.getElem_toArray, List.getElem_cons_succ, List.getElem_cons_zero])
  refine wpAnyH_take (i := 9) (oi := _) (v := ?_) rfl (by kernel_rfl) (by kernel_rfl) (by kernel_rfl) (fun _ _ _ h => h) (Or.inl ⟨by rfl, ?_⟩) (by assumption) ?_
  rotate_left
  · intro w hSw
    (try dsimp only at hSw)
    go_simp
    all_goals (first | done | with_reducible rfl)
  (try simp only [Act.put, List.setIfInBounds_toArray, List.set_cons_zero, List.set_cons_succ, List.getElem_toArray, List.getElem_cons_succ, List.getElem_cons_zero])
  refine wpAnyH_take (i := 10) (oi := _) (v := ?_) rfl (by kernel_rfl) (by kernel_rfl) (by kernel_rfl) (fun _ _ _ h => h) (Or.inl ⟨by rfl, ?_⟩) (by assumption) ?_
  rotate_left
  · intro w hSw
    (try dsimp only at hSw)
    go_simp
    all_goals (first | done | with_reducible rfl)
  (try simp only [Act.put, List.setIfInBounds_toArray, List.set_cons_zero, List.set_cons_succ, List.getElem_toArray, List.getElem_cons_succ, List.getElem_cons_zero])
  refine wpAnyH_take (i := 12) (oi := _) (v := ?_) rfl (by kernel_rfl) (by kernel_rfl) (by kernel_rfl) (fun _ _ _ h => h) (Or.inl ⟨by rfl, ?_⟩) (by assumption) ?_
  rotate_left
  · intro w hSw
    (try dsimp only at hSw)
    go_simp
    all_goals (first | done | with_reducible rfl)
  (try simp only [Act.put, List.setIfInBounds_toArray, List.set_cons_zero, List.set_cons_succ, List.getElem_toArray, List.getElem_cons_succ, List.getElem_cons_zero])
  refine wpAnyH_take (i := 13) (oi := _) (v := ?_) rfl (by kernel_rfl) (by kernel_rfl) (by kernel_rfl) (fun _ _ _ h => h) (Or.inl ⟨by rfl, ?_⟩) (by assumption) ?_
  rotate_left
  · intro w hSw
    (try dsimp only at hSw)
    go_simp
    all_goals (first | done | with_reducible rfl)
  (try simp only [Act.put, List.setIfInBounds_toArray, List.set_cons_zero, List.set_cons_succ, List.getElem_toArray, List.getElem_cons_succ, List.getElem_cons_zero])
  refine wpAnyH_ready (rs := [11]) (by kernel_rfl) (by simp) ?_
  refine AllReadyH.cons (o := _) rfl (fun K hK => ?_) AllReadyH.nil
  go_simp
  refine (HST.out y1).mono ?_
  rintro e y2 ⟨rfl, hb⟩
  refine hK.out _ _ ⟨hHeld.1.trans (hb.mono hHeld.1.size), keepb hb hHeld.2.1, keepb hb hHeld.2.2⟩ (fun hHeld => ?_)
  clear hK K hb
  (try simp only [Act.put, List.setIfInBounds_toArray, List.set_cons_zero, List.set_cons_succ, List.getElem_toArray, List.getElem_cons_succ, List.getElem_cons_zero])
  refine wpAnyH_take (i := 14) (oi := _) (v := ?_) rfl (by kernel_rfl) (by kernel_rfl) (by kernel_rfl) (fun _ _ _ h => h) (Or.inl ⟨by rfl, ?_⟩) (by assumption) ?_
  rotate_left
  · intro w hSw
    (try dsimp only at hSw)
    go_simp
    all_goals (first | done | with_reducible rfl)
  (try simp only [Act.put, List.setIfInBounds_toArray, List.set_cons_zero, List.set_cons_succ, List.getElem_toArray, List.getElem_cons_succ, List.getElem_cons_zero])
  refine wpAnyH_take (i := 15) (oi := _) (v := ?_) rfl (by kernel_rfl) (by kernel_rfl) (by kernel_rfl) (fun _ _ _ h => h) (Or.inl ⟨by rfl, ?_⟩) (by assumption) ?_
  rotate_left
  · intro w hSw
    (try dsimp only at hSw)
    go_simp
    all_goals (first | done | with_reducible rfl)
  (try simp only [Act.put, List.setIfInBounds_toArray, List.set_cons_zero, List.set_cons_succ, List.getElem_toArray, List.getElem_cons_succ, List.getElem_cons_zero])
  refine wpAnyH_done (by kernel_rfl) ?_ _
  go_upto_region 6 with (fail)
  obtain ⟨w4, hw4⟩ : ∃ w4, w4 = y2 := ⟨_, rfl⟩
  rw [← hw4] at hHeld ⊢
  have HB4 := Lib.hid (HB3.out.trans (hHeld.1.mono HB3.out.size))
  have HPO4 := Lib.hid (HPO.out.below hHeld.1)
  have G4 := Lib.hid ((hHeld.1.block _ z3).trans G3.out)
  have z4 : w.heap.size < w4.heap.size := by have := hHeld.1.size; omega
  clear hHeld hw4 HCK HST hcc hss HPO
  have HPO := Lib.hid HPO4.out
  obtain ⟨w5, hw5⟩ : ∃ w5, w5 = w4.alloc (.cells #[.string nm] 9) := ⟨_, rfl⟩
  have HN5 := Lib.hid (show w5.ownsRow w4.heap.size 9 1 (.slice (some ⟨w4.heap.size, 0, none⟩) 1 1) 1 (Sv nm) by rw [hw5]; exact own_newS w4 nm)
  have HB5 := Lib.hid (show Below w4.heap.size w4 w5 by rw [hw5]; exact bel1 _ _)
  clear HPO4
  go_upto_region 7 with (fail)
  rw [← hw5]
  clear hw5
  go_wp2_with fail
  go_loopw [7, 8] (fun v i wr => ∃ (k : Nat) (va : Option Addr) (vc : Nat), k ≤ p.vl ∧ i = .int .i64 k ∧ v = .slice va (k + 1) vc ∧ wr.ownsRow w4.heap.size 9 1 (.slice va (k + 1) vc) (k + 1) ((nm :: (p.bs.take k).map Bc.nm).flatMap Sv) ∧ Below w4.heap.size w4 wr) (fun _ i _ => p.vl - (intOf i).toNat)
  case atStart => exact ⟨0, _, _, by omega, rfl, rfl, HN5.out, HB5.out⟩
  case round =>
    obtain ⟨k, va, vc, hk, rfl, rfl, ho, hb⟩ := hrel
    have HO := Lib.hid ho
    have HBR := Lib.hid hb
    have HBA := Lib.hid (HB4.out.trans (hb.mono HB4.out.size))
    have GR := Lib.hid ((hb.block _ z4).trans G4.out)
    have q0 := cell_of_row wr _ 0 _ _ _ GR.out
    simp only [List.getElem?_toArray, List.getElem?_cons_zero] at q0
    clear ho hb
    by_cases hlt : k < p.vl
    · have hltI : (k : Int) < (p.vl : Int) := by omega
      obtain ⟨nb, no, nd, he, hnd, -⟩ := HP.out.v.at hlt
      have HRS := HP.out.v.below HBA.out
      rw [he] at HRS q0
      have n0 := HRS.atS3 hnd 0 _ rfl
      simp only [Nat.add_zero] at n0
      have HTK := Lib.hid (show nm :: (p.bs.take (k + 1)).map Bc.nm = (nm :: (p.bs.take k).map Bc.nm) ++ [nd.nm] by rw [List.take_add_one, hnd]; simp)
      clear hnd HRS he
      go_wp2_with (at_builtin; (refine L_appendN rfl _ _ _ rfl sl45 w4.heap.size (.slice va (k + 1) vc) (k + 1) _ rfl (own_below HO.out (bel1 _ (.cells #[.string nd.nm] 9))) _ 1 1 (Sv nd.nm) rfl rfl (new_str _ nd.nm) (by simp [Sv, Value.oneCell']) (by omega) (by simp [maxLen]; omega) (by have := HBR.out.size; simp; omega) (fun a6 c6 w6 ho6 hg6 hat6 => ?_)
                                have HO6 := Lib.hid ho6
                                have HB6 := Lib.hid ((HBR.out.alloc (HBR.out.size) (.cells #[.string nd.nm] 9)).grown hg6 (by have := HBR.out.size; simp; omega) (fun q hq => (HO.out.lt q hq).1))
                                clear ho6 hg6 hat6))
      go_roundw
      case rel => exact ⟨k + 1, a6, c6, by omega, by go_num, rfl, by rw [HTK.out, List.flatMap_append]; exact HO6.out, HB6.out⟩
      case measure => simp [intOf]; omega
    · have hltI : ¬ (k : Int) < (p.vl : Int) := by omega
      obtain rfl : k = p.vl := by omega
      have HNL := Lib.hid (show wr.ownsRow w4.heap.size 9 1 (.slice va (p.vl + 1) vc) (p.vl + 1) ((nm :: p.bs.map Bc.nm).flatMap Sv) by
        have h := HO.out
        rwa [List.take_of_length_le (by have := HVL.out; omega)] at h)
      have q1 := cell_of_row wr _ 1 _ _ _ GR.out
      have q2 := cell_of_row wr _ 2 _ _ _ GR.out
      simp only [List.getElem?_toArray, List.getElem?_cons_zero, List.getElem?_cons_succ] at q1 q2
      clear HO
      go_wp2_with fail
      refine wp_region_held_drew (S := (fun w' => Below w4.heap.size w4 w' ∧ w'.cell? ⟨w.heap.size, 1, none⟩ = some (.slice p.oa p.ol p.oc) ∧ w'.cell? ⟨w.heap.size, 2, none⟩ = some (.slice p.ra p.rl p.rc))) (by kernel_rfl) ⟨HBR.out.trans ((Below.refl _ _).drew.mono HBR.out.size), q1, q2⟩ (fun hHeld => ?_)
      clear q0 q1 q2
      obtain ⟨wd, hwd⟩ : ∃ wd, wd = wr.drew := ⟨_, rfl⟩
      have HNW := Lib.hid (show wd.ownsRow w4.heap.size 9 1 (.slice va (p.vl + 1) vc) (p.vl + 1) ((nm :: p.bs.map Bc.nm).flatMap Sv) by rw [hwd]; exact own_below HNL.out (Below.refl _ _).drew)
      rw [← hwd] at hHeld ⊢
      clear hwd
      refine wpAnyH_take (i := 0) (oi := _) (v := ?_) rfl (by kernel_rfl) (by kernel_rfl) (by kernel_rfl) (fun _ _ _ h => h) (Or.inl ⟨by rfl, ?_⟩) (by assumption) ?_
      rotate_left
      · intro w hSw
        (try dsimp only at hSw)
        go_simp
        all_goals (first | done | with_reducible rfl)
      (try simp only [Act.put, List.setIfInBounds_toArray, List.set_cons_zero, List.set_cons_succ, List.getElem_toArray, List.getElem_cons_succ, List.getElem_cons_zero])
      refine wpAnyH_take (i := 1) (oi := _) (v := ?_) rfl (by kernel_rfl) (by kernel_rfl) (by kernel_rfl) (fun _ _ _ h => h) (Or.inl ⟨by rfl, ?_⟩) (by assumption) ?_
      rotate_left
      · intro w hSw
        (try dsimp only at hSw)
        go_simp
        all_goals (first | done | with_reducible rfl)
      (try simp only [Act.put, List.setIfInBounds_toArray, List.set_cons_zero, List.set_cons_succ, List.getElem_toArray, List.getElem_cons_succ, List.getElem_cons_zero])
      refine wpAnyH_take (i := 2) (oi := _) (v := ?_) rfl (by kernel_rfl) (by kernel_rfl) (by kernel_rfl) (fun _ _ _ h => h) (Or.inl ⟨by rfl, ?_⟩) (by assumption) ?_
      rotate_left
      · intro w hSw
        (try dsimp only at hSw)
        go_simp
        all_goals (first | done | with_reducible rfl)
      (try simp only [Act.put, List.setIfInBounds_toArray, List.set_cons_zero, List.set_cons_succ, List.getElem_toArray, List.getElem_cons_succ, List.getElem_cons_zero])
      refine wpAnyH_take (i := 4) (oi := _) (v := ?_) rfl (by kernel_rfl) (by kernel_rfl) (by kernel_rfl) (fun _ _ _ h => h) (Or.inl ⟨by rfl, ?_⟩) (by assumption) ?_
      rotate_left
      · intro w hSw
        (try dsimp only at hSw)
        go_simp
        all_goals (first | done | with_reducible rfl)
      (try simp only [Act.put, List.setIfInBounds_toArray, List.set_cons_zero, List.set_cons_succ, List.getElem_toArray, List.getElem_cons_succ, List.getElem_cons_zero])
      refine wpAnyH_take (i := 5) (oi := _) (v := ?_) rfl (by kernel_rfl) (by kernel_rfl) (by kernel_rfl) (fun _ _ _ h => h) (Or.inl ⟨by rfl, ?_⟩) (by assumption) ?_
      rotate_left
      · intro w hSw
        (try dsimp only at hSw)
        go_simp
        all_goals (first | done | with_reducible rfl)
      (try simp only [Act.put, List.setIfInBounds_toArray, List.set_cons_zero, List.set_cons_succ, List.getElem_toArray, List.getElem_cons_succ, List.getElem_cons_zero])
      refine wpAnyH_ready (rs := [3]) (by kernel_rfl) (by simp) ?_
      refine AllReadyH.cons (o := _) rfl (fun K hK => ?_) AllReadyH.nil
      refine W_appendE _ _ 23 (by rfl) sl45 w4.heap.size va (p.vl + 1) vc _ (by rfl) HNW.out p.oa p.ol p.oc (p.os.flatMap Sv) (by rfl) (src_cells Sv_len (by decide) (HP.out.o.below (HB4.out.trans (hHeld.1.mono HB4.out.size))).rs HP.out.o.z) (by rw [flat_len Sv 1 Sv_len]; have := HOL.out; omega) one_strs (by omega) (by simp [maxLen]; omega) (hHeld.1.size) (fun a4 c4 y1 hox hgx => ?_)
      have hb0 : Below w4.heap.size wd y1 := (Below.refl _ _).grown hgx (hHeld.1.size) (fun k hk => (HNW.out.lt k hk).1)
      have HN4 := Lib.hid (show y1.ownsRow w4.heap.size 9 1 (.slice a4 (p.vl + 1 + p.ol) c4) (p.vl + 1 + p.ol) ((nm :: p.bs.map Bc.nm ++ p.os).flatMap Sv) by rw [List.flatMap_append]; exact hox)
      refine hK.out _ _ ⟨hHeld.1.trans hb0, (hb0.cell (p := ⟨w.heap.size, 1, none⟩) z4).trans hHeld.2.1, (hb0.cell (p := ⟨w.heap.size, 2, none⟩) z4).trans hHeld.2.2⟩ (fun hHeld => ?_)
      clear hK K
      (try simp only [Act.put, List.setIfInBounds_toArray, List.set_cons_zero, List.set_cons_succ, List.getElem_toArray, List.getElem_cons_succ, List.getElem_cons_zero])
      clear hb0 hox hgx
      refine wpAnyH_ready (rs := [6]) (by kernel_rfl) (by simp) ?_
      refine AllReadyH.cons (o := _) rfl (fun K hK => ?_) AllReadyH.nil
      refine W_appendE _ _ 23 (by rfl) sl45 w4.heap.size a4 (p.vl + 1 + p.ol) c4 _ (by rfl) HN4.out p.ra p.rl p.rc (p.rs.flatMap Sv) (by rfl) (src_cells Sv_len (by decide) (HP.out.r.below (HB4.out.trans (hHeld.1.mono HB4.out.size))).rs HP.out.r.z) (by rw [flat_len Sv 1 Sv_len]; have := HRL.out; omega) one_strs (by omega) (by simp [maxLen]; omega) (hHeld.1.size) (fun a6 c6 y2 hox hgx => ?_)
      have hb0 : Below w4.heap.size y1 y2 := (Below.refl _ _).grown hgx (hHeld.1.size) (fun k hk => (HN4.out.lt k hk).1)
      have HN6 := Lib.hid (show y2.ownsRow w4.heap.size 9 1 (.slice a6 (p.vl + 1 + p.ol + p.rl) c6) (p.vl + 1 + p.ol + p.rl) ((nm :: p.bs.map Bc.nm ++ p.os ++ p.rs).flatMap Sv) by rw [List.flatMap_append]; exact hox)
      refine hK.out _ _ ⟨hHeld.1.trans hb0, (hb0.cell (p := ⟨w.heap.size, 1, none⟩) z4).trans hHeld.2.1, (hb0.cell (p := ⟨w.heap.size, 2, none⟩) z4).trans hHeld.2.2⟩ (fun hHeld => ?_)
      clear hK K
      (try simp only [Act.put, List.setIfInBounds_toArray, List.set_cons_zero, List.set_cons_succ, List.getElem_toArray, List.getElem_cons_succ, List.getElem_cons_zero])
      clear hb0 hox hgx
      refine wpAnyH_take (i := 7) (oi := _) (v := ?_) rfl (by kernel_rfl) (by kernel_rfl) (by kernel_rfl) (fun _ _ _ h => h) (Or.inl ⟨by rfl, ?_⟩) (by assumption) ?_
      rotate_left
      · intro w hSw
        (try dsimp only at hSw)
        go_simp
        all_goals (first | done | with_reducible rfl)
      (try simp only [Act.put, List.setIfInBounds_toArray, List.set_cons_zero, List.set_cons_succ, List.getElem_toArray, List.getElem_cons_succ, List.getElem_cons_zero])
      refine wpAnyH_done (by kernel_rfl) ?_ _
      go_upto_region 12 with (fail)
      obtain ⟨w6, hw6⟩ : ∃ w6, w6 = y2 := ⟨_, rfl⟩
      rw [← hw6] at hHeld HN6 ⊢
      obtain ⟨N, hN⟩ : ∃ N, N = p.vl + 1 + p.ol + p.rl := ⟨_, rfl⟩
      have hN3 : N ≤ 301 := by omega
      have hNI : (p.vl : Int) + 1 + (p.ol : Int) + (p.rl : Int) = (N : Int) := by omega
      have hNN : p.vl + 1 + p.ol + p.rl = N := hN.symm
      rw [hNN] at HN6
      (try rw [hNN])
      have HNM := Lib.hid (show RS 1 Sv w6 a6 N c6 (NamesL nm p) from RS.of_owns HN6.out (by decide) Sv_len (by omega))
      have HB6 := Lib.hid (HB4.out.trans (hHeld.1.mono HB4.out.size))
      have HPO6 := Lib.hid (HPO.out.below hHeld.1)
      have G6 := Lib.hid ((hHeld.1.block _ z4).trans G4.out)
      have z6 : w.heap.size < w6.heap.size := by have := hHeld.1.size; omega
      clear hHeld hw6 HN6 HN4 HNW HNL HPO hNI hNN hN GR HBA HBR hltI hlt
      obtain ⟨wo, rfl⟩ : ∃ wo : World, wo = wr := ⟨_, rfl⟩
      go_wp2_with fail
      go_loopw [9] (fun i wr => ∃ k : Nat, k ≤ N ∧ i = .int .i64 k ∧ Below w6.heap.size w6 wr) (fun i _ => N - (intOf i).toNat)
      case atStart => exact ⟨0, by omega, rfl, Below.refl _ _⟩
      case round =>
        obtain ⟨k, hk, rfl, hb⟩ := hrel
        have HBM := Lib.hid hb
        have HBA := Lib.hid (HB6.out.trans (hb.mono HB6.out.size))
        have GR := Lib.hid ((hb.block _ z6).trans G6.out)
        have zr : w.heap.size < wr.heap.size := by have := hb.size; omega
        have q0 := cell_of_row wr _ 0 _ _ _ GR.out
        simp only [List.getElem?_toArray, List.getElem?_cons_zero] at q0
        clear hb
        by_cases hlt : k < N
        · have hltI : (k : Int) < (N : Int) := by omega
          obtain ⟨nb, no, y, he, hy, -⟩ := HNM.out.at hlt
          subst he
          have n0 : wr.cell? ⟨nb, no + k, none⟩ = some (.string y) := by have := (HNM.out.below HBM.out).atS3 hy 0 _ rfl; simpa using this
          have HN0 := Lib.hid n0
          have HNB := Lib.hid (block_lt_of_cell n0)
          clear hy
          go_upto_region 16 with (fail)
          obtain ⟨w7, hw7⟩ : ∃ w7, w7 = wr.alloc boxZ := ⟨_, rfl⟩
          have HG7 := Lib.hid (show w7.heap[wr.heap.size]? = some (boxS v0 none 0 0) by rw [hw7]; exact heap_alloc_new wr _)
          have HB7 := Lib.hid (show Below wr.heap.size wr w7 by rw [hw7]; exact bel1 _ _)
          rw [← hw7]
          clear hw7
          obtain ⟨wm, rfl⟩ : ∃ wm : World, wm = wr := ⟨_, rfl⟩
          obtain ⟨gx, hgx⟩ : ∃ gx, gx = wm.heap.size := ⟨_, rfl⟩
          have HX := Lib.hid hgx
          rw [← hgx]
          clear hgx
          have q0 := (HB7.out.cell (p := ⟨w.heap.size, 0, none⟩) zr).trans q0
          go_wp2_with fail
          clear q0
          go_loopw [11] (fun j wx => ∃ (m : Nat) (wb : Bc), m ≤ p.vl ∧ DownI m j ∧ BWant wx gx p.bs m y wb ∧ Below wm.heap.size wm wx) (fun j _ => (intOf j + 1).toNat)
          case atStart => exact ⟨p.vl, zB2, Nat.le_refl _, DownI.pred p.vl, ⟨.inr rfl, by rw [HX.out]; exact HG7.out, by rw [want_nil (by have := HVL.out; omega)]⟩, HB7.out⟩
          case round =>
            obtain ⟨m, wb, hmk, hj, hw, hb⟩ := hrel
            have HBW := Lib.hid hw
            have HBX := Lib.hid hb
            have HBXA := Lib.hid (HBA.out.trans (hb.mono HBA.out.size))
            clear hw hb
            rcases hj with ⟨rfl, rfl⟩ | ⟨j, rfl, rfl⟩
            · have hx := HWV.out y
              obtain ⟨x, ka, kc, hg, hrs, hxv⟩ : ∃ (x : Vl) (ka : Option Addr) (kc : Nat), wr.heap[gx]? = some (boxS x ka x.ss.length kc) ∧ RS 1 Sv wr ka x.ss.length kc x.ss ∧ pp.vw.value y = x := by
                have hr := bw_rs HBW.out.i HP.out HBXA.out
                have hl := hr.1
                have hg := HBW.out.g
                rw [← hl] at hg hr
                exact ⟨wb.v.x, wb.v.a, wb.v.c, hg, hr, by rw [hx, HBW.out.x]; simp⟩
              have GK := Lib.hid hg
              have HRX := Lib.hid hrs
              have HXV := Lib.hid hxv
              have HLX := Lib.hid (show x.ss.length ≤ 1000000 by rw [← hxv]; exact value_len HPO6.out y)
              have HGX := Lib.hid (Array.getElem?_eq_some_iff.1 hg).1
              have n0 := (HBX.out.cell (p := ⟨nb, no + k, none⟩) HNB.out).trans HN0.out
              have HNX := Lib.hid (block_lt_of_cell n0)
              have HNC := Lib.hid n0
              clear hx hg hrs hxv HBW
              obtain ⟨wx, rfl⟩ : ∃ wx : World, wx = wr := ⟨_, rfl⟩
              have hna := nil_aheadM pp "Value" (.inl rfl)
              go_wp2_with fail
              refine wp_region_held_drew (S := (fun w' => Below wx.heap.size wx w' ∧ w'.cell? ⟨nb, no + k, none⟩ = some (.string y))) (by kernel_rfl) ⟨(Below.refl _ _).drew, n0⟩ (fun hHeld => ?_)
              clear n0
              obtain ⟨wd, hwd⟩ : ∃ wd, wd = wx.drew := ⟨_, rfl⟩
              rw [← hwd] at hHeld ⊢
              clear hwd
              have HWD := Lib.hid (show wx.heap.size ≤ wd.heap.size from hHeld.1.size)
              refine wpAnyH_take (i := 0) (oi := _) (v := ?_) rfl (by kernel_rfl) (by kernel_rfl) (by kernel_rfl) (fun _ _ _ h => h) (Or.inl ⟨by rfl, ?_⟩) (by assumption) ?_
              rotate_left
              · intro w hSw
                (try dsimp only at hSw)
                go_simp
                all_goals (first | done | with_reducible rfl)
              (try simp only [Act.put, List.setIfInBounds_toArray, List.set_cons_zero, List.set_cons_succ, List.getElem_toArray, List.getElem_cons_succ, List.getElem_cons_zero])
              refine wpAnyH_take (i := 1) (oi := _) (v := ?_) rfl (by kernel_rfl) (by kernel_rfl) (by kernel_rfl) (fun _ _ _ h => h) (Or.inl ⟨by rfl, ?_⟩) (by assumption) ?_
              rotate_left
              · intro w hSw
                (try dsimp only at hSw)
                go_simp
                all_goals (first | done | with_reducible rfl)
              (try simp only [Act.put, List.setIfInBounds_toArray, List.set_cons_zero, List.set_cons_succ, List.getElem_toArray, List.getElem_cons_succ, List.getElem_cons_zero])
              refine wpAnyH_take (i := 2) (oi := _) (v := ?_) rfl (by kernel_rfl) (by kernel_rfl) (by kernel_rfl) (fun _ _ _ h => h) (Or.inl ⟨by rfl, ?_⟩) (by assumption) ?_
              rotate_left
              · intro w hSw
                (try dsimp only at hSw)
                go_simp
                all_goals (first | done | with_reducible rfl)
              (try simp only [Act.put, List.setIfInBounds_toArray, List.set_cons_zero, List.set_cons_succ, List.getElem_toArray, List.getElem_cons_succ, List.getElem_cons_zero])
              refine wpAnyH_take (i := 3) (oi := _) (v := ?_) rfl (by kernel_rfl) (by kernel_rfl) (by kernel_rfl) (fun _ _ _ h => h) (Or.inl ⟨by rfl, ?_⟩) (by assumption) ?_
              rotate_left
              · intro w hSw
                (try dsimp only at hSw)
                go_simp
                all_goals (first | done | with_reducible rfl)
              (try simp only [Act.put, List.setIfInBounds_toArray, List.set_cons_zero, List.set_cons_succ, List.getElem_toArray, List.getElem_cons_succ, List.getElem_cons_zero])
              refine wpAnyH_take (i := 4) (oi := _) (v := ?_) rfl (by kernel_rfl) (by kernel_rfl) (by kernel_rfl) (fun _ _ _ h => h) (Or.inl ⟨by rfl, ?_⟩) (by assumption) ?_
              rotate_left
              · intro w hSw
                (try dsimp only at hSw)
                go_simp
                all_goals (first | done | with_reducible rfl)
              (try simp only [Act.put, List.setIfInBounds_toArray, List.set_cons_zero, List.set_cons_succ, List.getElem_toArray, List.getElem_cons_succ, List.getElem_cons_zero])
              refine wpAnyH_take (i := 5) (oi := _) (v := ?_) rfl (by kernel_rfl) (by kernel_rfl) (by kernel_rfl) (fun _ _ _ h => h) (Or.inl ⟨by rfl, ?_⟩) (by assumption) ?_
              rotate_left
              · intro w hSw
                (try dsimp only at hSw)
                go_simp
                all_goals (first | done | with_reducible rfl)
              (try simp only [Act.put, List.setIfInBounds_toArray, List.set_cons_zero, List.set_cons_succ, List.getElem_toArray, List.getElem_cons_succ, List.getElem_cons_zero])
              refine wpAnyH_take (i := 6) (oi := _) (v := ?_) rfl (by kernel_rfl) (by kernel_rfl) (by kernel_rfl) (fun _ _ _ h => h) (Or.inl ⟨by rfl, ?_⟩) (by assumption) ?_
              rotate_left
              · intro w hSw
                (try dsimp only at hSw)
                go_simp
                all_goals (first | done | with_reducible rfl)
              (try simp only [Act.put, List.setIfInBounds_toArray, List.set_cons_zero, List.set_cons_succ, List.getElem_toArray, List.getElem_cons_succ, List.getElem_cons_zero])
              refine wpAnyH_take (i := 7) (oi := _) (v := ?_) rfl (by kernel_rfl) (by kernel_rfl) (by kernel_rfl) (fun _ _ _ h => h) (Or.inl ⟨by rfl, ?_⟩) (by assumption) ?_
              rotate_left
              · intro w hSw
                (try dsimp only at hSw)
                go_simp
                all_goals (first | done | with_reducible rfl)
              (try simp only [Act.put, List.setIfInBounds_toArray, List.set_cons_zero, List.set_cons_succ, List.getElem_toArray, List.getElem_cons_succ, List.getElem_cons_zero])
              refine wpAnyH_ready (rs := [8, 9]) (by kernel_rfl) (by simp) ?_
              refine AllReadyH.cons (o := _) rfl (fun K hK => ?_) (AllReadyH.cons (o := _) rfl (fun K hK => ?_) AllReadyH.nil)
              · go_simp
                refine (valueX_any wd pp (HPO6.out.below (HBM.out.trans ((HBX.out.trans (hHeld.1.mono HBX.out.size)).mono HBM.out.size))) y x HXV.out).mono ?_
                rintro e y1 ⟨⟨ax, cx, rfl, hsv⟩, hb⟩
                have HSV := Lib.hid hsv
                refine hK.out _ _ ⟨hHeld.1.trans (hb.mono hHeld.1.size), keepb hb hHeld.2⟩ (fun hHeld => ?_)
                clear hK K hb hsv
                (try simp only [Act.put, List.setIfInBounds_toArray, List.set_cons_zero, List.set_cons_succ, List.getElem_toArray, List.getElem_cons_succ, List.getElem_cons_zero])
                refine wpAnyH_ready (rs := [9]) (by kernel_rfl) (by simp) ?_
                refine AllReadyH.cons (o := _) rfl (fun K hK => ?_) AllReadyH.nil
                go_simp
                have hbz : Below y1.heap.size y1 (y1.alloc boxZ) := bel1 _ _
                have hal : wx.heap.size ≤ y1.heap.size := hHeld.1.size
                have gz := heap_alloc_new y1 (.cells #[.int .i64 0, .int .i64 0, .string ByteArray.empty, .slice none 0 0] 25)
                refine hK.out _ _ ⟨hHeld.1.trans (hbz.mono hHeld.1.size), keepb hbz hHeld.2⟩ (fun hHeld => ?_)
                clear hK K
                (try simp only [Act.put, List.setIfInBounds_toArray, List.set_cons_zero, List.set_cons_succ, List.getElem_toArray, List.getElem_cons_succ, List.getElem_cons_zero])
                obtain ⟨y2, hy2⟩ : ∃ y2, y2 = y1.alloc boxZ := ⟨_, rfl⟩
                rw [← hy2] at hHeld hbz
                rw [show y1.alloc (.cells #[.int .i64 0, .int .i64 0, .string ByteArray.empty, .slice none 0 0] 25) = y2 from hy2.symm] at gz
                rw [← hy2]
                have GZ := Lib.hid gz
                have HSV' := Lib.hid ((HSV.out.below hbz).mono HWD.out)
                clear HSV
                have HSV := Lib.hid HSV'.out
                clear HSV' hbz gz hy2
                obtain ⟨c0, c1, c2, c3, f0, f1, f2, f3⟩ := box4 GZ.out
                have hne : nb ≠ y1.heap.size := by have := HNX.out; omega
                refine wpAnyH_ready (rs := [10]) (by kernel_rfl) (by simp) ?_
                refine AllReadyH.cons (o := _) rfl (fun K hK => ?_) AllReadyH.nil
                go_simp
                refine hK.out _ _ ⟨below_box hal hHeld.1 _ _ _ _, keepo hHeld.2 hne⟩ (fun hHeld => ?_)
                clear hK K c0 c1 c2 c3 f0 f1 f2 f3
                (try simp only [Act.put, List.setIfInBounds_toArray, List.set_cons_zero, List.set_cons_succ, List.getElem_toArray, List.getElem_cons_succ, List.getElem_cons_zero])
                refine wpAnyH_done (by kernel_rfl) ?_ _
                go_upto_region 22 with (fail)
                have gw := heap_box GZ.out (.int .i64 x.k) (.int .i64 x.n) (.string x.t) (.slice ax x.ss.length cx)
                have hbf : Below wx.heap.size wx ((((y2.setCell ⟨y1.heap.size, 0, none⟩ (.int .i64 x.k)).setCell ⟨y1.heap.size, 1, none⟩ (.int .i64 x.n)).setCell ⟨y1.heap.size, 2, none⟩ (.string x.t)).setCell ⟨y1.heap.size, 3, none⟩ (.slice ax x.ss.length cx)) := hHeld.1
                have hsf := (SV.setbox HSV.out GZ.out (by decide) (.int .i64 x.k) (.int .i64 x.n) (.string x.t) (.slice ax x.ss.length cx))
                obtain ⟨gb, hgb⟩ : ∃ gb, gb = y1.heap.size := ⟨_, rfl⟩
                obtain ⟨wf, hwf⟩ : ∃ wf, wf = ((((y2.setCell ⟨y1.heap.size, 0, none⟩ (.int .i64 x.k)).setCell ⟨y1.heap.size, 1, none⟩ (.int .i64 x.n)).setCell ⟨y1.heap.size, 2, none⟩ (.string x.t)).setCell ⟨y1.heap.size, 3, none⟩ (.slice ax x.ss.length cx)) := ⟨_, rfl⟩
                rw [← hwf] at gw hbf hsf ⊢
                rw [← hgb] at gw ⊢
                have HGB := Lib.hid (show wx.heap.size ≤ gb by rw [hgb]; exact hal)
                have n0 := hHeld.2
                rw [← hwf] at n0
                have GW := Lib.hid gw
                have HSF := Lib.hid hsf
                have HBF := Lib.hid hbf
                have HGW := Lib.hid (Array.getElem?_eq_some_iff.1 gw).1
                clear hwf hgb hHeld gw hbf hsf GZ HSV hne hal
                obtain ⟨c0, c1, c2, c3, -⟩ := box4 GW.out
                have GKF := Lib.hid ((HBF.out.block gx HGX.out).trans GK.out)
                obtain ⟨k0, k1, k2, k3, -⟩ := box4 GKF.out
                have HBFW := Lib.hid (HBX.out.trans (HBF.out.mono HBX.out.size))
                have HBFA := Lib.hid (HBA.out.trans (HBFW.out.mono HBA.out.size))
                have GF := Lib.hid ((HBFW.out.block _ zr).trans GR.out)
                have q1 := cell_of_row wf _ 1 _ _ _ GF.out
                have q2 := cell_of_row wf _ 2 _ _ _ GF.out
                simp only [List.getElem?_toArray, List.getElem?_cons_zero, List.getElem?_cons_succ] at q1 q2
                have HRW := Lib.hid (HSF.out.rz (by have := HLX.out; omega)).rs
                have HRK := Lib.hid (HRX.out.below HBF.out)
                have HPF := Lib.hid (HPO6.out.below (HBM.out.trans (HBFW.out.mono HBM.out.size)))
                have hbo : (inSS p.os y != inSS p.os y) = false := by simp
                have hbr : (inSS p.rs y != inSS p.rs y) = false := by simp
                have hnilO := nil_aheadM pp "Open" (.inr (.inl rfl))
                have hnilR := nil_aheadM pp "Reached" (.inr (.inr rfl))
                go_wp2_with fail
                refine wp_region_held_drew (S := (fun w' => Below wf.heap.size wf w' ∧ w'.cell? ⟨gb, 0, none⟩ = some (.int .i64 x.k) ∧ w'.cell? ⟨gb, 1, none⟩ = some (.int .i64 x.n) ∧ w'.cell? ⟨gb, 2, none⟩ = some (.string x.t) ∧ w'.cell? ⟨gb, 3, none⟩ = some (.slice ax x.ss.length cx) ∧ w'.cell? ⟨gx, 0, none⟩ = some (.int .i64 x.k) ∧ w'.cell? ⟨gx, 1, none⟩ = some (.int .i64 x.n) ∧ w'.cell? ⟨gx, 2, none⟩ = some (.string x.t) ∧ w'.cell? ⟨gx, 3, none⟩ = some (.slice ka x.ss.length kc) ∧ w'.cell? ⟨nb, no + k, none⟩ = some (.string y) ∧ w'.cell? ⟨w.heap.size, 1, none⟩ = some (.slice p.oa p.ol p.oc) ∧ w'.cell? ⟨w.heap.size, 2, none⟩ = some (.slice p.ra p.rl p.rc))) (by kernel_rfl) ⟨(Below.refl _ _).drew, c0, c1, c2, c3, k0, k1, k2, k3, n0, q1, q2⟩ (fun hHeld => ?_)
                clear c0 c1 c2 c3 k0 k1 k2 k3 n0 q1 q2
                obtain ⟨wd, hwd⟩ : ∃ wd, wd = wf.drew := ⟨_, rfl⟩
                rw [← hwd] at hHeld ⊢
                clear hwd
                refine wpAnyH_take (i := 0) (oi := _) (v := ?_) rfl (by kernel_rfl) (by kernel_rfl) (by kernel_rfl) (fun _ _ _ h => h) (Or.inl ⟨by rfl, ?_⟩) (by assumption) ?_
                rotate_left
                · intro w hSw
                  (try dsimp only at hSw)
                  go_simp
                  all_goals (first | done | with_reducible rfl)
                (try simp only [Act.put, List.setIfInBounds_toArray, List.set_cons_zero, List.set_cons_succ, List.getElem_toArray, List.getElem_cons_succ, List.getElem_cons_zero])
                refine wpAnyH_take (i := 1) (oi := _) (v := ?_) rfl (by kernel_rfl) (by kernel_rfl) (by kernel_rfl) (fun _ _ _ h => h) (Or.inl ⟨by rfl, ?_⟩) (by assumption) ?_
                rotate_left
                · intro w hSw
                  (try dsimp only at hSw)
                  go_simp
                  all_goals (first | done | with_reducible rfl)
                (try simp only [Act.put, List.setIfInBounds_toArray, List.set_cons_zero, List.set_cons_succ, List.getElem_toArray, List.getElem_cons_succ, List.getElem_cons_zero])
                refine wpAnyH_ready (rs := [2]) (by kernel_rfl) (by simp) ?_
                refine AllReadyH.cons (o := _) rfl (fun K hK => ?_) AllReadyH.nil
                go_simp
                refine (sameV_any wd x ax x.ss.length cx (HRW.out.below hHeld.1) ka kc (HRK.out.below hHeld.1)).mono ?_
                rintro e y1 ⟨rfl, hb⟩
                refine hK.out _ _ ⟨hHeld.1.trans (hb.mono hHeld.1.size), keepb hb hHeld.2.1, keepb hb hHeld.2.2.1, keepb hb hHeld.2.2.2.1, keepb hb hHeld.2.2.2.2.1, keepb hb hHeld.2.2.2.2.2.1, keepb hb hHeld.2.2.2.2.2.2.1, keepb hb hHeld.2.2.2.2.2.2.2.1, keepb hb hHeld.2.2.2.2.2.2.2.2.1, keepb hb hHeld.2.2.2.2.2.2.2.2.2.1, keepb hb hHeld.2.2.2.2.2.2.2.2.2.2.1, keepb hb hHeld.2.2.2.2.2.2.2.2.2.2.2⟩ (fun hHeld => ?_)
                clear hK K hb
                (try simp only [Act.put, List.setIfInBounds_toArray, List.set_cons_zero, List.set_cons_succ, List.getElem_toArray, List.getElem_cons_succ, List.getElem_cons_zero])
                refine wpAnyH_take (i := 3) (oi := _) (v := ?_) rfl (by kernel_rfl) (by kernel_rfl) (by kernel_rfl) (fun _ _ _ h => h) (Or.inl ⟨by rfl, ?_⟩) (by assumption) ?_
                rotate_left
                · intro w hSw
                  (try dsimp only at hSw)
                  go_simp
                  all_goals (first | done | with_reducible rfl)
                (try simp only [Act.put, List.setIfInBounds_toArray, List.set_cons_zero, List.set_cons_succ, List.getElem_toArray, List.getElem_cons_succ, List.getElem_cons_zero])
                refine wpAnyH_take (i := 4) (oi := _) (v := ?_) rfl (by kernel_rfl) (by kernel_rfl) (by kernel_rfl) (fun _ _ _ h => h) (Or.inl ⟨by rfl, ?_⟩) (by assumption) ?_
                rotate_left
                · intro w hSw
                  (try dsimp only at hSw)
                  go_simp
                  all_goals (first | done | with_reducible rfl)
                (try simp only [Act.put, List.setIfInBounds_toArray, List.set_cons_zero, List.set_cons_succ, List.getElem_toArray, List.getElem_cons_succ, List.getElem_cons_zero])
                refine wpAnyH_take (i := 5) (oi := _) (v := ?_) rfl (by kernel_rfl) (by kernel_rfl) (by kernel_rfl) (fun _ _ _ h => h) (Or.inl ⟨by rfl, ?_⟩) (by assumption) ?_
                rotate_left
                · intro w hSw
                  (try dsimp only at hSw)
                  go_simp
                  all_goals (first | done | with_reducible rfl)
                (try simp only [Act.put, List.setIfInBounds_toArray, List.set_cons_zero, List.set_cons_succ, List.getElem_toArray, List.getElem_cons_succ, List.getElem_cons_zero])
                refine wpAnyH_take (i := 6) (oi := _) (v := ?_) rfl (by kernel_rfl) (by kernel_rfl) (by kernel_rfl) (fun _ _ _ h => h) (Or.inl ⟨by rfl, ?_⟩) (by assumption) ?_
                rotate_left
                · intro w hSw
                  (try dsimp only at hSw)
                  go_simp
                  all_goals (first | done | with_reducible rfl)
                (try simp only [Act.put, List.setIfInBounds_toArray, List.set_cons_zero, List.set_cons_succ, List.getElem_toArray, List.getElem_cons_succ, List.getElem_cons_zero])
                refine wpAnyH_take (i := 7) (oi := _) (v := ?_) rfl (by kernel_rfl) (by kernel_rfl) (by kernel_rfl) (fun _ _ _ h => h) (Or.inl ⟨by rfl, ?_⟩) (by assumption) ?_
                rotate_left
                · intro w hSw
                  (try dsimp only at hSw)
                  go_simp
                  all_goals (first | done | with_reducible rfl)
                (try simp only [Act.put, List.setIfInBounds_toArray, List.set_cons_zero, List.set_cons_succ, List.getElem_toArray, List.getElem_cons_succ, List.getElem_cons_zero])
                refine wpAnyH_take (i := 8) (oi := _) (v := ?_) rfl (by kernel_rfl) (by kernel_rfl) (by kernel_rfl) (fun _ _ _ h => h) (Or.inl ⟨by rfl, ?_⟩) (by assumption) ?_
                rotate_left
                · intro w hSw
                  (try dsimp only at hSw)
                  go_simp
                  all_goals (first | done | with_reducible rfl)
                (try simp only [Act.put, List.setIfInBounds_toArray, List.set_cons_zero, List.set_cons_succ, List.getElem_toArray, List.getElem_cons_succ, List.getElem_cons_zero])
                refine wpAnyH_take (i := 9) (oi := _) (v := ?_) rfl (by kernel_rfl) (by kernel_rfl) (by kernel_rfl) (fun _ _ _ h => h) (Or.inl ⟨by rfl, ?_⟩) (by assumption) ?_
                rotate_left
                · intro w hSw
                  (try dsimp only at hSw)
                  go_simp
                  all_goals (first | done | with_reducible rfl)
                (try simp only [Act.put, List.setIfInBounds_toArray, List.set_cons_zero, List.set_cons_succ, List.getElem_toArray, List.getElem_cons_succ, List.getElem_cons_zero])
                refine wpAnyH_take (i := 10) (oi := _) (v := ?_) rfl (by kernel_rfl) (by kernel_rfl) (by kernel_rfl) (fun _ _ _ h => h) (Or.inl ⟨by rfl, ?_⟩) (by assumption) ?_
                rotate_left
                · intro w hSw
                  (try dsimp only at hSw)
                  go_simp
                  all_goals (first | done | with_reducible rfl)
                (try simp only [Act.put, List.setIfInBounds_toArray, List.set_cons_zero, List.set_cons_succ, List.getElem_toArray, List.getElem_cons_succ, List.getElem_cons_zero])
                refine wpAnyH_take (i := 11) (oi := _) (v := ?_) rfl (by kernel_rfl) (by kernel_rfl) (by kernel_rfl) (fun _ _ _ h => h) (Or.inl ⟨by rfl, ?_⟩) (by assumption) ?_
                rotate_left
                · intro w hSw
                  (try dsimp only at hSw)
                  go_simp
                  all_goals (first | done | with_reducible rfl)
                (try simp only [Act.put, List.setIfInBounds_toArray, List.set_cons_zero, List.set_cons_succ, List.getElem_toArray, List.getElem_cons_succ, List.getElem_cons_zero])
                refine wpAnyH_take (i := 12) (oi := _) (v := ?_) rfl (by kernel_rfl) (by kernel_rfl) (by kernel_rfl) (fun _ _ _ h => h) (Or.inl ⟨by rfl, ?_⟩) (by assumption) ?_
                rotate_left
                · intro w hSw
                  (try dsimp only at hSw)
                  go_simp
                  all_goals (first | done | with_reducible rfl)
                (try simp only [Act.put, List.setIfInBounds_toArray, List.set_cons_zero, List.set_cons_succ, List.getElem_toArray, List.getElem_cons_succ, List.getElem_cons_zero])
                refine wpAnyH_take (i := 14) (oi := _) (v := ?_) rfl (by kernel_rfl) (by kernel_rfl) (by kernel_rfl) (fun _ _ _ h => h) (Or.inl ⟨by rfl, ?_⟩) (by assumption) ?_
                rotate_left
                · intro w hSw
                  (try dsimp only at hSw)
                  go_simp
                  all_goals (first | done | with_reducible rfl)
                (try simp only [Act.put, List.setIfInBounds_toArray, List.set_cons_zero, List.set_cons_succ, List.getElem_toArray, List.getElem_cons_succ, List.getElem_cons_zero])
                refine wpAnyH_take (i := 15) (oi := _) (v := ?_) rfl (by kernel_rfl) (by kernel_rfl) (by kernel_rfl) (fun _ _ _ h => h) (Or.inl ⟨by rfl, ?_⟩) (by assumption) ?_
                rotate_left
                · intro w hSw
                  (try dsimp only at hSw)
                  go_simp
                  all_goals (first | done | with_reducible rfl)
                (try simp only [Act.put, List.setIfInBounds_toArray, List.set_cons_zero, List.set_cons_succ, List.getElem_toArray, List.getElem_cons_succ, List.getElem_cons_zero])
                refine wpAnyH_take (i := 16) (oi := _) (v := ?_) rfl (by kernel_rfl) (by kernel_rfl) (by kernel_rfl) (fun _ _ _ h => h) (Or.inl ⟨by rfl, ?_⟩) (by assumption) ?_
                rotate_left
                · intro w hSw
                  (try dsimp only at hSw)
                  go_simp
                  all_goals (first | done | with_reducible rfl)
                (try simp only [Act.put, List.setIfInBounds_toArray, List.set_cons_zero, List.set_cons_succ, List.getElem_toArray, List.getElem_cons_succ, List.getElem_cons_zero])
                refine wpAnyH_take (i := 17) (oi := _) (v := ?_) rfl (by kernel_rfl) (by kernel_rfl) (by kernel_rfl) (fun _ _ _ h => h) (Or.inl ⟨by rfl, ?_⟩) (by assumption) ?_
                rotate_left
                · intro w hSw
                  (try dsimp only at hSw)
                  go_simp
                  all_goals (first | done | with_reducible rfl)
                (try simp only [Act.put, List.setIfInBounds_toArray, List.set_cons_zero, List.set_cons_succ, List.getElem_toArray, List.getElem_cons_succ, List.getElem_cons_zero])
                refine wpAnyH_take (i := 18) (oi := _) (v := ?_) rfl (by kernel_rfl) (by kernel_rfl) (by kernel_rfl) (fun _ _ _ h => h) (Or.inl ⟨by rfl, ?_⟩) (by assumption) ?_
                rotate_left
                · intro w hSw
                  (try dsimp only at hSw)
                  go_simp
                  all_goals (first | done | with_reducible rfl)
                (try simp only [Act.put, List.setIfInBounds_toArray, List.set_cons_zero, List.set_cons_succ, List.getElem_toArray, List.getElem_cons_succ, List.getElem_cons_zero])
                refine wpAnyH_take (i := 19) (oi := _) (v := ?_) rfl (by kernel_rfl) (by kernel_rfl) (by kernel_rfl) (fun _ _ _ h => h) (Or.inl ⟨by rfl, ?_⟩) (by assumption) ?_
                rotate_left
                · intro w hSw
                  (try dsimp only at hSw)
                  go_simp
                  all_goals (first | done | with_reducible rfl)
                (try simp only [Act.put, List.setIfInBounds_toArray, List.set_cons_zero, List.set_cons_succ, List.getElem_toArray, List.getElem_cons_succ, List.getElem_cons_zero])
                refine wpAnyH_ready (rs := [13]) (by kernel_rfl) (by simp) ?_
                refine AllReadyH.cons (o := _) rfl (fun K hK => ?_) AllReadyH.nil
                go_simp
                refine (openX_any y1 pp (HPF.out.below hHeld.1) y p.os HOP.out).mono ?_
                rintro e y2 ⟨rfl, hb⟩
                refine hK.out _ _ ⟨hHeld.1.trans (hb.mono hHeld.1.size), keepb hb hHeld.2.1, keepb hb hHeld.2.2.1, keepb hb hHeld.2.2.2.1, keepb hb hHeld.2.2.2.2.1, keepb hb hHeld.2.2.2.2.2.1, keepb hb hHeld.2.2.2.2.2.2.1, keepb hb hHeld.2.2.2.2.2.2.2.1, keepb hb hHeld.2.2.2.2.2.2.2.2.1, keepb hb hHeld.2.2.2.2.2.2.2.2.2.1, keepb hb hHeld.2.2.2.2.2.2.2.2.2.2.1, keepb hb hHeld.2.2.2.2.2.2.2.2.2.2.2⟩ (fun hHeld => ?_)
                clear hK K hb
                (try simp only [Act.put, List.setIfInBounds_toArray, List.set_cons_zero, List.set_cons_succ, List.getElem_toArray, List.getElem_cons_succ, List.getElem_cons_zero])
                refine wpAnyH_ready (rs := [20]) (by kernel_rfl) (by simp) ?_
                refine AllReadyH.cons (o := _) rfl (fun K hK => ?_) AllReadyH.nil
                go_simp
                refine (in_any y2 p.oa p.ol p.oc p.os ((HP.out.o.rs.below HBFA.out).below hHeld.1) y).mono ?_
                rintro e y3 ⟨rfl, hb⟩
                obtain rfl := hb.symm
                refine hK.out _ _ hHeld (fun hHeld => ?_)
                clear hK K hb
                (try simp only [Act.put, List.setIfInBounds_toArray, List.set_cons_zero, List.set_cons_succ, List.getElem_toArray, List.getElem_cons_succ, List.getElem_cons_zero])
                refine wpAnyH_take (i := 21) (oi := _) (v := ?_) rfl (by kernel_rfl) (by kernel_rfl) (by kernel_rfl) (fun _ _ _ h => h) (Or.inl ⟨by rfl, ?_⟩) (by assumption) ?_
                rotate_left
                · intro w hSw
                  (try dsimp only at hSw)
                  go_simp
                  all_goals (first | done | with_reducible rfl)
                (try simp only [Act.put, List.setIfInBounds_toArray, List.set_cons_zero, List.set_cons_succ, List.getElem_toArray, List.getElem_cons_succ, List.getElem_cons_zero])
                refine wpAnyH_take (i := 22) (oi := _) (v := ?_) rfl (by kernel_rfl) (by kernel_rfl) (by kernel_rfl) (fun _ _ _ h => h) (Or.inl ⟨by rfl, ?_⟩) (by assumption) ?_
                rotate_left
                · intro w hSw
                  (try dsimp only at hSw)
                  go_simp
                  all_goals (first | done | with_reducible rfl)
                (try simp only [Act.put, List.setIfInBounds_toArray, List.set_cons_zero, List.set_cons_succ, List.getElem_toArray, List.getElem_cons_succ, List.getElem_cons_zero])
                refine wpAnyH_take (i := 23) (oi := _) (v := ?_) rfl (by kernel_rfl) (by kernel_rfl) (by kernel_rfl) (fun _ _ _ h => h) (Or.inl ⟨by rfl, ?_⟩) (by assumption) ?_
                rotate_left
                · intro w hSw
                  (try dsimp only at hSw)
                  go_simp
                  all_goals (first | done | with_reducible rfl)
                (try simp only [Act.put, List.setIfInBounds_toArray, List.set_cons_zero, List.set_cons_succ, List.getElem_toArray, List.getElem_cons_succ, List.getElem_cons_zero])
                refine wpAnyH_take (i := 24) (oi := _) (v := ?_) rfl (by kernel_rfl) (by kernel_rfl) (by kernel_rfl) (fun _ _ _ h => h) (Or.inl ⟨by rfl, ?_⟩) (by assumption) ?_
                rotate_left
                · intro w hSw
                  (try dsimp only at hSw)
                  go_simp
                  all_goals (first | done | with_reducible rfl)
                (try simp only [Act.put, List.setIfInBounds_toArray, List.set_cons_zero, List.set_cons_succ, List.getElem_toArray, List.getElem_cons_succ, List.getElem_cons_zero])
                refine wpAnyH_take (i := 25) (oi := _) (v := ?_) rfl (by kernel_rfl) (by kernel_rfl) (by kernel_rfl) (fun _ _ _ h => h) (Or.inl ⟨by rfl, ?_⟩) (by assumption) ?_
                rotate_left
                · intro w hSw
                  (try dsimp only at hSw)
                  go_simp
                  all_goals (first | done | with_reducible rfl)
                (try simp only [Act.put, List.setIfInBounds_toArray, List.set_cons_zero, List.set_cons_succ, List.getElem_toArray, List.getElem_cons_succ, List.getElem_cons_zero])
                refine wpAnyH_take (i := 26) (oi := _) (v := ?_) rfl (by kernel_rfl) (by kernel_rfl) (by kernel_rfl) (fun _ _ _ h => h) (Or.inl ⟨by rfl, ?_⟩) (by assumption) ?_
                rotate_left
                · intro w hSw
                  (try dsimp only at hSw)
                  go_simp
                  all_goals (first | done | with_reducible rfl)
                (try simp only [Act.put, List.setIfInBounds_toArray, List.set_cons_zero, List.set_cons_succ, List.getElem_toArray, List.getElem_cons_succ, List.getElem_cons_zero])
                refine wpAnyH_take (i := 27) (oi := _) (v := ?_) rfl (by kernel_rfl) (by kernel_rfl) (by kernel_rfl) (fun _ _ _ h => h) (Or.inl ⟨by rfl, ?_⟩) (by assumption) ?_
                rotate_left
                · intro w hSw
                  (try dsimp only at hSw)
                  go_simp
                  all_goals (first | done | with_reducible rfl)
                (try simp only [Act.put, List.setIfInBounds_toArray, List.set_cons_zero, List.set_cons_succ, List.getElem_toArray, List.getElem_cons_succ, List.getElem_cons_zero])
                refine wpAnyH_take (i := 28) (oi := _) (v := ?_) rfl (by kernel_rfl) (by kernel_rfl) (by kernel_rfl) (fun _ _ _ h => h) (Or.inl ⟨by rfl, ?_⟩) (by assumption) ?_
                rotate_left
                · intro w hSw
                  (try dsimp only at hSw)
                  go_simp
                  all_goals (first | done | with_reducible rfl)
                (try simp only [Act.put, List.setIfInBounds_toArray, List.set_cons_zero, List.set_cons_succ, List.getElem_toArray, List.getElem_cons_succ, List.getElem_cons_zero])
                refine wpAnyH_take (i := 29) (oi := _) (v := ?_) rfl (by kernel_rfl) (by kernel_rfl) (by kernel_rfl) (fun _ _ _ h => h) (Or.inl ⟨by rfl, ?_⟩) (by assumption) ?_
                rotate_left
                · intro w hSw
                  (try dsimp only at hSw)
                  go_simp
                  all_goals (first | done | with_reducible rfl)
                (try simp only [Act.put, List.setIfInBounds_toArray, List.set_cons_zero, List.set_cons_succ, List.getElem_toArray, List.getElem_cons_succ, List.getElem_cons_zero])
                refine wpAnyH_take (i := 30) (oi := _) (v := ?_) rfl (by kernel_rfl) (by kernel_rfl) (by kernel_rfl) (fun _ _ _ h => h) (Or.inl ⟨by rfl, ?_⟩) (by assumption) ?_
                rotate_left
                · intro w hSw
                  (try dsimp only at hSw)
                  go_simp
                  all_goals (first | done | with_reducible rfl)
                (try simp only [Act.put, List.setIfInBounds_toArray, List.set_cons_zero, List.set_cons_succ, List.getElem_toArray, List.getElem_cons_succ, List.getElem_cons_zero])
                refine wpAnyH_take (i := 31) (oi := _) (v := ?_) rfl (by kernel_rfl) (by kernel_rfl) (by kernel_rfl) (fun _ _ _ h => h) (Or.inl ⟨by rfl, ?_⟩) (by assumption) ?_
                rotate_left
                · intro w hSw
                  (try dsimp only at hSw)
                  go_simp
                  all_goals (first | done | with_reducible rfl)
                (try simp only [Act.put, List.setIfInBounds_toArray, List.set_cons_zero, List.set_cons_succ, List.getElem_toArray, List.getElem_cons_succ, List.getElem_cons_zero])
                refine wpAnyH_take (i := 33) (oi := _) (v := ?_) rfl (by kernel_rfl) (by kernel_rfl) (by kernel_rfl) (fun _ _ _ h => h) (Or.inl ⟨by rfl, ?_⟩) (by assumption) ?_
                rotate_left
                · intro w hSw
                  (try dsimp only at hSw)
                  go_simp
                  all_goals (first | done | with_reducible rfl)
                (try simp only [Act.put, List.setIfInBounds_toArray, List.set_cons_zero, List.set_cons_succ, List.getElem_toArray, List.getElem_cons_succ, List.getElem_cons_zero])
                refine wpAnyH_take (i := 34) (oi := _) (v := ?_) rfl (by kernel_rfl) (by kernel_rfl) (by kernel_rfl) (fun _ _ _ h => h) (Or.inl ⟨by rfl, ?_⟩) (by assumption) ?_
                rotate_left
                · intro w hSw
                  (try dsimp only at hSw)
                  go_simp
                  all_goals (first | done | with_reducible rfl)
                (try simp only [Act.put, List.setIfInBounds_toArray, List.set_cons_zero, List.set_cons_succ, List.getElem_toArray, List.getElem_cons_succ, List.getElem_cons_zero])
                refine wpAnyH_take (i := 35) (oi := _) (v := ?_) rfl (by kernel_rfl) (by kernel_rfl) (by kernel_rfl) (fun _ _ _ h => h) (Or.inl ⟨by rfl, ?_⟩) (by assumption) ?_
                rotate_left
                · intro w hSw
                  (try dsimp only at hSw)
                  go_simp
                  all_goals (first | done | with_reducible rfl)
                (try simp only [Act.put, List.setIfInBounds_toArray, List.set_cons_zero, List.set_cons_succ, List.getElem_toArray, List.getElem_cons_succ, List.getElem_cons_zero])
                refine wpAnyH_take (i := 36) (oi := _) (v := ?_) rfl (by kernel_rfl) (by kernel_rfl) (by kernel_rfl) (fun _ _ _ h => h) (Or.inl ⟨by rfl, ?_⟩) (by assumption) ?_
                rotate_left
                · intro w hSw
                  (try dsimp only at hSw)
                  go_simp
                  all_goals (first | done | with_reducible rfl)
                (try simp only [Act.put, List.setIfInBounds_toArray, List.set_cons_zero, List.set_cons_succ, List.getElem_toArray, List.getElem_cons_succ, List.getElem_cons_zero])
                refine wpAnyH_take (i := 37) (oi := _) (v := ?_) rfl (by kernel_rfl) (by kernel_rfl) (by kernel_rfl) (fun _ _ _ h => h) (Or.inl ⟨by rfl, ?_⟩) (by assumption) ?_
                rotate_left
                · intro w hSw
                  (try dsimp only at hSw)
                  go_simp
                  all_goals (first | done | with_reducible rfl)
                (try simp only [Act.put, List.setIfInBounds_toArray, List.set_cons_zero, List.set_cons_succ, List.getElem_toArray, List.getElem_cons_succ, List.getElem_cons_zero])
                refine wpAnyH_take (i := 38) (oi := _) (v := ?_) rfl (by kernel_rfl) (by kernel_rfl) (by kernel_rfl) (fun _ _ _ h => h) (Or.inl ⟨by rfl, ?_⟩) (by assumption) ?_
                rotate_left
                · intro w hSw
                  (try dsimp only at hSw)
                  go_simp
                  all_goals (first | done | with_reducible rfl)
                (try simp only [Act.put, List.setIfInBounds_toArray, List.set_cons_zero, List.set_cons_succ, List.getElem_toArray, List.getElem_cons_succ, List.getElem_cons_zero])
                refine wpAnyH_ready (rs := [32]) (by kernel_rfl) (by simp) ?_
                refine AllReadyH.cons (o := _) rfl (fun K hK => ?_) AllReadyH.nil
                go_simp
                refine (reachedX_any y2 pp (HPF.out.below hHeld.1) y p.rs HRP.out).mono ?_
                rintro e y4 ⟨rfl, hb⟩
                refine hK.out _ _ ⟨hHeld.1.trans (hb.mono hHeld.1.size), keepb hb hHeld.2.1, keepb hb hHeld.2.2.1, keepb hb hHeld.2.2.2.1, keepb hb hHeld.2.2.2.2.1, keepb hb hHeld.2.2.2.2.2.1, keepb hb hHeld.2.2.2.2.2.2.1, keepb hb hHeld.2.2.2.2.2.2.2.1, keepb hb hHeld.2.2.2.2.2.2.2.2.1, keepb hb hHeld.2.2.2.2.2.2.2.2.2.1, keepb hb hHeld.2.2.2.2.2.2.2.2.2.2.1, keepb hb hHeld.2.2.2.2.2.2.2.2.2.2.2⟩ (fun hHeld => ?_)
                clear hK K hb
                (try simp only [Act.put, List.setIfInBounds_toArray, List.set_cons_zero, List.set_cons_succ, List.getElem_toArray, List.getElem_cons_succ, List.getElem_cons_zero])
                refine wpAnyH_ready (rs := [39]) (by kernel_rfl) (by simp) ?_
                refine AllReadyH.cons (o := _) rfl (fun K hK => ?_) AllReadyH.nil
                go_simp
                refine (in_any y4 p.ra p.rl p.rc p.rs ((HP.out.r.rs.below HBFA.out).below hHeld.1) y).mono ?_
                rintro e y5 ⟨rfl, hb⟩
                obtain rfl := hb.symm
                refine hK.out _ _ hHeld (fun hHeld => ?_)
                clear hK K hb
                (try simp only [Act.put, List.setIfInBounds_toArray, List.set_cons_zero, List.set_cons_succ, List.getElem_toArray, List.getElem_cons_succ, List.getElem_cons_zero])
                refine wpAnyH_take (i := 40) (oi := _) (v := ?_) rfl (by kernel_rfl) (by kernel_rfl) (by kernel_rfl) (fun _ _ _ h => h) (Or.inl ⟨by rfl, ?_⟩) (by assumption) ?_
                rotate_left
                · intro w hSw
                  (try dsimp only at hSw)
                  go_simp
                  all_goals (first | done | with_reducible rfl)
                (try simp only [Act.put, List.setIfInBounds_toArray, List.set_cons_zero, List.set_cons_succ, List.getElem_toArray, List.getElem_cons_succ, List.getElem_cons_zero])
                refine wpAnyH_take (i := 41) (oi := _) (v := ?_) rfl (by kernel_rfl) (by kernel_rfl) (by kernel_rfl) (fun _ _ _ h => h) (Or.inl ⟨by rfl, ?_⟩) (by assumption) ?_
                rotate_left
                · intro w hSw
                  (try dsimp only at hSw)
                  go_simp
                  all_goals (first | done | with_reducible rfl)
                (try simp only [Act.put, List.setIfInBounds_toArray, List.set_cons_zero, List.set_cons_succ, List.getElem_toArray, List.getElem_cons_succ, List.getElem_cons_zero])
                refine wpAnyH_done (by kernel_rfl) ?_ _
                go_upto_region 24 with (fail)
                obtain ⟨wg, hwg⟩ : ∃ wg, wg = y4 := ⟨_, rfl⟩
                rw [← hwg] at hHeld ⊢
                have HBG := Lib.hid (HBF.out.trans (hHeld.1.mono HBF.out.size))
                have GWG := Lib.hid ((hHeld.1.block _ HGW.out).trans GW.out)
                have HSG := Lib.hid (HSF.out.below hHeld.1)
                clear hHeld hwg hbo hbr hnilO hnilR
                go_wp2_with fail
                go_loopw [13] (fun i wv => ∃ t : Nat, t ≤ x.ss.length ∧ i = .int .i64 t ∧ Below wx.heap.size wx wv ∧ wv.heap[gb]? = some (boxS x ax x.ss.length cx) ∧ (x.ss.length = 0 ∨ ∃ xs, wv.ownsRow wx.heap.size 9 1 (.slice ax x.ss.length cx) x.ss.length xs)) (fun i _ => x.ss.length - (intOf i).toNat)
                case atStart => exact ⟨0, Nat.zero_le _, rfl, HBG.out, GWG.out, by
                  obtain ⟨a', l', c', e, hl, h⟩ := HSG.out
                  simp only [VA, Value.agg.injEq, Array.mk.injEq, List.cons.injEq, Value.slice.injEq, true_and, and_true] at e
                  obtain ⟨rfl, rfl, rfl⟩ := e
                  rcases h with ⟨h, -⟩ | h
                  · exact .inl h
                  · exact .inr ⟨_, h⟩⟩
                case round =>
                  obtain ⟨t, htl, rfl, hbv, hgv, hov⟩ := hrel
                  have HBV := Lib.hid hbv
                  have HGV := Lib.hid hgv
                  have c3 := cell_of_row wr _ 3 _ _ _ hgv
                  simp only [List.getElem?_toArray, List.getElem?_cons_zero, List.getElem?_cons_succ] at c3
                  have hx6 := HLX.out
                  by_cases htt : t < x.ss.length
                  · have htI : (t : Int) < (x.ss.length : Int) := by omega
                    rcases hov with h | ⟨xs, ho⟩
                    · omega
                    obtain ⟨h, hax, -, -⟩ := own_addr ho (by omega)
                    subst hax
                    have hlen := ho.1
                    have s0 := ho.cellAt t (by omega)
                    obtain ⟨sv, hsv⟩ : ∃ sv, xs[t]? = some sv := ⟨_, List.getElem?_eq_getElem (by omega)⟩
                    rw [hsv] at s0
                    have s1 := ho.frozenAt t
                    obtain ⟨hr1, hg1⟩ := ho.stored t (.string { data := #[119, 114, 105, 116, 116, 101, 110] })
                    have HR1 := Lib.hid hr1
                    have HB1' := Lib.hid (hbv.grown hg1 (by have := hbv.size; omega) (fun q hq => (ho.lt q hq).1))
                    have HG1 := Lib.hid ((hg1.block _ (Array.getElem?_eq_some_iff.1 hgv).1 (own_ne ho hgv (by decide)).symm).trans hgv)
                    clear hbv hgv ho hlen hsv hr1 hg1
                    go_wp2_with fail
                    go_roundw
                    case rel => exact ⟨t + 1, by omega, by go_num, HB1'.out, HG1.out, .inr ⟨_, HR1.out⟩⟩
                    case measure => simp [intOf]; omega
                  · have htI : ¬ (t : Int) < (x.ss.length : Int) := by omega
                    have HGKV := Lib.hid ((hbv.block gx HGX.out).trans GK.out)
                    clear hbv hgv hov
                    obtain ⟨k0, k1, k2, k3, -⟩ := box4 HGKV.out
                    have n0 := (HBV.out.cell (p := ⟨nb, no + k, none⟩) HNX.out).trans HNC.out
                    have hna := nil_aheadM pp "Value" (.inl rfl)
                    have HPV := Lib.hid (HPO6.out.below (HBM.out.trans ((HBX.out.trans (HBV.out.mono HBX.out.size)).mono HBM.out.size)))
                    have HRV := Lib.hid (HRX.out.below HBV.out)
                    have HBVW := Lib.hid (HBX.out.trans (HBV.out.mono HBX.out.size))
                    go_wp2_with fail
                    refine wp_region_held_drew (S := (fun w' => Below wr.heap.size wr w' ∧ w'.cell? ⟨gx, 0, none⟩ = some (.int .i64 x.k) ∧ w'.cell? ⟨gx, 1, none⟩ = some (.int .i64 x.n) ∧ w'.cell? ⟨gx, 2, none⟩ = some (.string x.t) ∧ w'.cell? ⟨gx, 3, none⟩ = some (.slice ka x.ss.length kc) ∧ w'.cell? ⟨nb, no + k, none⟩ = some (.string y))) (by kernel_rfl) ⟨(Below.refl _ _).drew, k0, k1, k2, k3, n0⟩ (fun hHeld => ?_)
                    clear k0 k1 k2 k3 n0
                    obtain ⟨wd, hwd⟩ : ∃ wd, wd = wr.drew := ⟨_, rfl⟩
                    rw [← hwd] at hHeld ⊢
                    clear hwd
                    refine wpAnyH_take (i := 0) (oi := _) (v := ?_) rfl (by kernel_rfl) (by kernel_rfl) (by kernel_rfl) (fun _ _ _ h => h) (Or.inl ⟨by rfl, ?_⟩) (by assumption) ?_
                    rotate_left
                    · intro w hSw
                      (try dsimp only at hSw)
                      go_simp
                      all_goals (first | done | with_reducible rfl)
                    (try simp only [Act.put, List.setIfInBounds_toArray, List.set_cons_zero, List.set_cons_succ, List.getElem_toArray, List.getElem_cons_succ, List.getElem_cons_zero])
                    refine wpAnyH_take (i := 1) (oi := _) (v := ?_) rfl (by kernel_rfl) (by kernel_rfl) (by kernel_rfl) (fun _ _ _ h => h) (Or.inl ⟨by rfl, ?_⟩) (by assumption) ?_
                    rotate_left
                    · intro w hSw
                      (try dsimp only at hSw)
                      go_simp
                      all_goals (first | done | with_reducible rfl)
                    (try simp only [Act.put, List.setIfInBounds_toArray, List.set_cons_zero, List.set_cons_succ, List.getElem_toArray, List.getElem_cons_succ, List.getElem_cons_zero])
                    refine wpAnyH_take (i := 2) (oi := _) (v := ?_) rfl (by kernel_rfl) (by kernel_rfl) (by kernel_rfl) (fun _ _ _ h => h) (Or.inl ⟨by rfl, ?_⟩) (by assumption) ?_
                    rotate_left
                    · intro w hSw
                      (try dsimp only at hSw)
                      go_simp
                      all_goals (first | done | with_reducible rfl)
                    (try simp only [Act.put, List.setIfInBounds_toArray, List.set_cons_zero, List.set_cons_succ, List.getElem_toArray, List.getElem_cons_succ, List.getElem_cons_zero])
                    refine wpAnyH_take (i := 3) (oi := _) (v := ?_) rfl (by kernel_rfl) (by kernel_rfl) (by kernel_rfl) (fun _ _ _ h => h) (Or.inl ⟨by rfl, ?_⟩) (by assumption) ?_
                    rotate_left
                    · intro w hSw
                      (try dsimp only at hSw)
                      go_simp
                      all_goals (first | done | with_reducible rfl)
                    (try simp only [Act.put, List.setIfInBounds_toArray, List.set_cons_zero, List.set_cons_succ, List.getElem_toArray, List.getElem_cons_succ, List.getElem_cons_zero])
                    refine wpAnyH_take (i := 4) (oi := _) (v := ?_) rfl (by kernel_rfl) (by kernel_rfl) (by kernel_rfl) (fun _ _ _ h => h) (Or.inl ⟨by rfl, ?_⟩) (by assumption) ?_
                    rotate_left
                    · intro w hSw
                      (try dsimp only at hSw)
                      go_simp
                      all_goals (first | done | with_reducible rfl)
                    (try simp only [Act.put, List.setIfInBounds_toArray, List.set_cons_zero, List.set_cons_succ, List.getElem_toArray, List.getElem_cons_succ, List.getElem_cons_zero])
                    refine wpAnyH_take (i := 5) (oi := _) (v := ?_) rfl (by kernel_rfl) (by kernel_rfl) (by kernel_rfl) (fun _ _ _ h => h) (Or.inl ⟨by rfl, ?_⟩) (by assumption) ?_
                    rotate_left
                    · intro w hSw
                      (try dsimp only at hSw)
                      go_simp
                      all_goals (first | done | with_reducible rfl)
                    (try simp only [Act.put, List.setIfInBounds_toArray, List.set_cons_zero, List.set_cons_succ, List.getElem_toArray, List.getElem_cons_succ, List.getElem_cons_zero])
                    refine wpAnyH_take (i := 6) (oi := _) (v := ?_) rfl (by kernel_rfl) (by kernel_rfl) (by kernel_rfl) (fun _ _ _ h => h) (Or.inl ⟨by rfl, ?_⟩) (by assumption) ?_
                    rotate_left
                    · intro w hSw
                      (try dsimp only at hSw)
                      go_simp
                      all_goals (first | done | with_reducible rfl)
                    (try simp only [Act.put, List.setIfInBounds_toArray, List.set_cons_zero, List.set_cons_succ, List.getElem_toArray, List.getElem_cons_succ, List.getElem_cons_zero])
                    refine wpAnyH_take (i := 7) (oi := _) (v := ?_) rfl (by kernel_rfl) (by kernel_rfl) (by kernel_rfl) (fun _ _ _ h => h) (Or.inl ⟨by rfl, ?_⟩) (by assumption) ?_
                    rotate_left
                    · intro w hSw
                      (try dsimp only at hSw)
                      go_simp
                      all_goals (first | done | with_reducible rfl)
                    (try simp only [Act.put, List.setIfInBounds_toArray, List.set_cons_zero, List.set_cons_succ, List.getElem_toArray, List.getElem_cons_succ, List.getElem_cons_zero])
                    refine wpAnyH_take (i := 9) (oi := _) (v := ?_) rfl (by kernel_rfl) (by kernel_rfl) (by kernel_rfl) (fun _ _ _ h => h) (Or.inl ⟨by rfl, ?_⟩) (by assumption) ?_
                    rotate_left
                    · intro w hSw
                      (try dsimp only at hSw)
                      go_simp
                      all_goals (first | done | with_reducible rfl)
                    (try simp only [Act.put, List.setIfInBounds_toArray, List.set_cons_zero, List.set_cons_succ, List.getElem_toArray, List.getElem_cons_succ, List.getElem_cons_zero])
                    refine wpAnyH_ready (rs := [8]) (by kernel_rfl) (by simp) ?_
                    refine AllReadyH.cons (o := _) rfl (fun K hK => ?_) AllReadyH.nil
                    go_simp
                    refine (valueX_any wd pp (HPV.out.below hHeld.1) y x HXV.out).mono ?_
                    rintro e y1 ⟨⟨ay, cy, rfl, hsv⟩, hb⟩
                    have HSY := Lib.hid hsv
                    have HRV1 := Lib.hid (HRV.out.below (hHeld.1.trans (hb.mono hHeld.1.size)))
                    refine hK.out _ _ ⟨hHeld.1.trans (hb.mono hHeld.1.size), keepb hb hHeld.2.1, keepb hb hHeld.2.2.1, keepb hb hHeld.2.2.2.1, keepb hb hHeld.2.2.2.2.1, keepb hb hHeld.2.2.2.2.2⟩ (fun hHeld => ?_)
                    clear hK K hb hsv
                    (try simp only [Act.put, List.setIfInBounds_toArray, List.set_cons_zero, List.set_cons_succ, List.getElem_toArray, List.getElem_cons_succ, List.getElem_cons_zero])
                    refine wpAnyH_ready (rs := [10]) (by kernel_rfl) (by simp) ?_
                    refine AllReadyH.cons (o := _) rfl (fun K hK => ?_) AllReadyH.nil
                    go_simp
                    refine (sameV_any y1 x ay x.ss.length cy (HSY.out.rz (by have := HLX.out; omega)).rs ka kc HRV1.out).mono ?_
                    rintro e y2 ⟨rfl, hb⟩
                    refine hK.out _ _ ⟨hHeld.1.trans (hb.mono hHeld.1.size), keepb hb hHeld.2.1, keepb hb hHeld.2.2.1, keepb hb hHeld.2.2.2.1, keepb hb hHeld.2.2.2.2.1, keepb hb hHeld.2.2.2.2.2⟩ (fun hHeld => ?_)
                    clear hK K hb
                    (try simp only [Act.put, List.setIfInBounds_toArray, List.set_cons_zero, List.set_cons_succ, List.getElem_toArray, List.getElem_cons_succ, List.getElem_cons_zero])
                    refine wpAnyH_take (i := 11) (oi := _) (v := ?_) rfl (by kernel_rfl) (by kernel_rfl) (by kernel_rfl) (fun _ _ _ h => h) (Or.inl ⟨by rfl, ?_⟩) (by assumption) ?_
                    rotate_left
                    · intro w hSw
                      (try dsimp only at hSw)
                      go_simp
                      all_goals (first | done | with_reducible rfl)
                    (try simp only [Act.put, List.setIfInBounds_toArray, List.set_cons_zero, List.set_cons_succ, List.getElem_toArray, List.getElem_cons_succ, List.getElem_cons_zero])
                    refine wpAnyH_done (by kernel_rfl) ?_ _
                    have HBZ := Lib.hid (HBVW.out.trans (hHeld.1.mono HBVW.out.size))
                    clear hHeld
                    go_wp2_with fail
                    go_roundw
                    case rel => exact ⟨k + 1, by omega, by go_num, HBM.out.trans (HBZ.out.mono HBM.out.size)⟩
                    case measure => simp [intOf]; omega
              · go_simp
                have hbz : Below wd.heap.size wd (wd.alloc boxZ) := bel1 _ _
                have hal : wx.heap.size ≤ wd.heap.size := hHeld.1.size
                have gz := heap_alloc_new wd (.cells #[.int .i64 0, .int .i64 0, .string ByteArray.empty, .slice none 0 0] 25)
                refine hK.out _ _ ⟨hHeld.1.trans (hbz.mono hHeld.1.size), keepb hbz hHeld.2⟩ (fun hHeld => ?_)
                clear hK K
                (try simp only [Act.put, List.setIfInBounds_toArray, List.set_cons_zero, List.set_cons_succ, List.getElem_toArray, List.getElem_cons_succ, List.getElem_cons_zero])
                obtain ⟨y0, hy0⟩ : ∃ y0, y0 = wd.alloc boxZ := ⟨_, rfl⟩
                rw [← hy0] at hHeld hbz
                rw [show wd.alloc (.cells #[.int .i64 0, .int .i64 0, .string ByteArray.empty, .slice none 0 0] 25) = y0 from hy0.symm] at gz
                rw [← hy0]
                have GZ := Lib.hid gz
                clear hbz gz hy0
                refine wpAnyH_ready (rs := [8]) (by kernel_rfl) (by simp) ?_
                refine AllReadyH.cons (o := _) rfl (fun K hK => ?_) AllReadyH.nil
                go_simp
                have hzl : wd.heap.size < y0.heap.size := (Array.getElem?_eq_some_iff.1 GZ.out).1
                refine (valueX_any y0 pp (HPO6.out.below (HBM.out.trans ((HBX.out.trans (hHeld.1.mono HBX.out.size)).mono HBM.out.size))) y x HXV.out).mono ?_
                rintro e y1 ⟨⟨ax, cx, rfl, hsv⟩, hb⟩
                have HSV := Lib.hid hsv
                have GZ' := Lib.hid ((hb.block _ hzl).trans GZ.out)
                clear GZ
                have GZ := Lib.hid GZ'.out
                clear GZ'
                have HSV' := Lib.hid (HSV.out.mono hHeld.1.size)
                clear HSV
                have HSV := Lib.hid HSV'.out
                clear HSV'
                refine hK.out _ _ ⟨hHeld.1.trans (hb.mono hHeld.1.size), keepb hb hHeld.2⟩ (fun hHeld => ?_)
                clear hK K hb hsv
                (try simp only [Act.put, List.setIfInBounds_toArray, List.set_cons_zero, List.set_cons_succ, List.getElem_toArray, List.getElem_cons_succ, List.getElem_cons_zero])
                obtain ⟨c0, c1, c2, c3, f0, f1, f2, f3⟩ := box4 GZ.out
                have hne : nb ≠ wd.heap.size := by have := HNX.out; omega
                refine wpAnyH_ready (rs := [10]) (by kernel_rfl) (by simp) ?_
                refine AllReadyH.cons (o := _) rfl (fun K hK => ?_) AllReadyH.nil
                go_simp
                refine hK.out _ _ ⟨below_box hal hHeld.1 _ _ _ _, keepo hHeld.2 hne⟩ (fun hHeld => ?_)
                clear hK K c0 c1 c2 c3 f0 f1 f2 f3
                (try simp only [Act.put, List.setIfInBounds_toArray, List.set_cons_zero, List.set_cons_succ, List.getElem_toArray, List.getElem_cons_succ, List.getElem_cons_zero])
                refine wpAnyH_done (by kernel_rfl) ?_ _
                go_upto_region 22 with (fail)
                have gw := heap_box GZ.out (.int .i64 x.k) (.int .i64 x.n) (.string x.t) (.slice ax x.ss.length cx)
                have hbf : Below wx.heap.size wx ((((y1.setCell ⟨wd.heap.size, 0, none⟩ (.int .i64 x.k)).setCell ⟨wd.heap.size, 1, none⟩ (.int .i64 x.n)).setCell ⟨wd.heap.size, 2, none⟩ (.string x.t)).setCell ⟨wd.heap.size, 3, none⟩ (.slice ax x.ss.length cx)) := hHeld.1
                have hsf := (SV.setbox HSV.out GZ.out (by decide) (.int .i64 x.k) (.int .i64 x.n) (.string x.t) (.slice ax x.ss.length cx))
                obtain ⟨gb, hgb⟩ : ∃ gb, gb = wd.heap.size := ⟨_, rfl⟩
                obtain ⟨wf, hwf⟩ : ∃ wf, wf = ((((y1.setCell ⟨wd.heap.size, 0, none⟩ (.int .i64 x.k)).setCell ⟨wd.heap.size, 1, none⟩ (.int .i64 x.n)).setCell ⟨wd.heap.size, 2, none⟩ (.string x.t)).setCell ⟨wd.heap.size, 3, none⟩ (.slice ax x.ss.length cx)) := ⟨_, rfl⟩
                rw [← hwf] at gw hbf hsf ⊢
                rw [← hgb] at gw ⊢
                have HGB := Lib.hid (show wx.heap.size ≤ gb by rw [hgb]; exact hal)
                have n0 := hHeld.2
                rw [← hwf] at n0
                have GW := Lib.hid gw
                have HSF := Lib.hid hsf
                have HBF := Lib.hid hbf
                have HGW := Lib.hid (Array.getElem?_eq_some_iff.1 gw).1
                clear hwf hgb hHeld gw hbf hsf GZ HSV hne hal
                obtain ⟨c0, c1, c2, c3, -⟩ := box4 GW.out
                have GKF := Lib.hid ((HBF.out.block gx HGX.out).trans GK.out)
                obtain ⟨k0, k1, k2, k3, -⟩ := box4 GKF.out
                have HBFW := Lib.hid (HBX.out.trans (HBF.out.mono HBX.out.size))
                have HBFA := Lib.hid (HBA.out.trans (HBFW.out.mono HBA.out.size))
                have GF := Lib.hid ((HBFW.out.block _ zr).trans GR.out)
                have q1 := cell_of_row wf _ 1 _ _ _ GF.out
                have q2 := cell_of_row wf _ 2 _ _ _ GF.out
                simp only [List.getElem?_toArray, List.getElem?_cons_zero, List.getElem?_cons_succ] at q1 q2
                have HRW := Lib.hid (HSF.out.rz (by have := HLX.out; omega)).rs
                have HRK := Lib.hid (HRX.out.below HBF.out)
                have HPF := Lib.hid (HPO6.out.below (HBM.out.trans (HBFW.out.mono HBM.out.size)))
                have hbo : (inSS p.os y != inSS p.os y) = false := by simp
                have hbr : (inSS p.rs y != inSS p.rs y) = false := by simp
                have hnilO := nil_aheadM pp "Open" (.inr (.inl rfl))
                have hnilR := nil_aheadM pp "Reached" (.inr (.inr rfl))
                go_wp2_with fail
                refine wp_region_held_drew (S := (fun w' => Below wf.heap.size wf w' ∧ w'.cell? ⟨gb, 0, none⟩ = some (.int .i64 x.k) ∧ w'.cell? ⟨gb, 1, none⟩ = some (.int .i64 x.n) ∧ w'.cell? ⟨gb, 2, none⟩ = some (.string x.t) ∧ w'.cell? ⟨gb, 3, none⟩ = some (.slice ax x.ss.length cx) ∧ w'.cell? ⟨gx, 0, none⟩ = some (.int .i64 x.k) ∧ w'.cell? ⟨gx, 1, none⟩ = some (.int .i64 x.n) ∧ w'.cell? ⟨gx, 2, none⟩ = some (.string x.t) ∧ w'.cell? ⟨gx, 3, none⟩ = some (.slice ka x.ss.length kc) ∧ w'.cell? ⟨nb, no + k, none⟩ = some (.string y) ∧ w'.cell? ⟨w.heap.size, 1, none⟩ = some (.slice p.oa p.ol p.oc) ∧ w'.cell? ⟨w.heap.size, 2, none⟩ = some (.slice p.ra p.rl p.rc))) (by kernel_rfl) ⟨(Below.refl _ _).drew, c0, c1, c2, c3, k0, k1, k2, k3, n0, q1, q2⟩ (fun hHeld => ?_)
                clear c0 c1 c2 c3 k0 k1 k2 k3 n0 q1 q2
                obtain ⟨wd, hwd⟩ : ∃ wd, wd = wf.drew := ⟨_, rfl⟩
                rw [← hwd] at hHeld ⊢
                clear hwd
                refine wpAnyH_take (i := 0) (oi := _) (v := ?_) rfl (by kernel_rfl) (by kernel_rfl) (by kernel_rfl) (fun _ _ _ h => h) (Or.inl ⟨by rfl, ?_⟩) (by assumption) ?_
                rotate_left
                · intro w hSw
                  (try dsimp only at hSw)
                  go_simp
                  all_goals (first | done | with_reducible rfl)
                (try simp only [Act.put, List.setIfInBounds_toArray, List.set_cons_zero, List.set_cons_succ, List.getElem_toArray, List.getElem_cons_succ, List.getElem_cons_zero])
                refine wpAnyH_take (i := 1) (oi := _) (v := ?_) rfl (by kernel_rfl) (by kernel_rfl) (by kernel_rfl) (fun _ _ _ h => h) (Or.inl ⟨by rfl, ?_⟩) (by assumption) ?_
                rotate_left
                · intro w hSw
                  (try dsimp only at hSw)
                  go_simp
                  all_goals (first | done | with_reducible rfl)
                (try simp only [Act.put, List.setIfInBounds_toArray, List.set_cons_zero, List.set_cons_succ, List.getElem_toArray, List.getElem_cons_succ, List.getElem_cons_zero])
                refine wpAnyH_ready (rs := [2]) (by kernel_rfl) (by simp) ?_
                refine AllReadyH.cons (o := _) rfl (fun K hK => ?_) AllReadyH.nil
                go_simp
                refine (sameV_any wd x ax x.ss.length cx (HRW.out.below hHeld.1) ka kc (HRK.out.below hHeld.1)).mono ?_
                rintro e y1 ⟨rfl, hb⟩
                refine hK.out _ _ ⟨hHeld.1.trans (hb.mono hHeld.1.size), keepb hb hHeld.2.1, keepb hb hHeld.2.2.1, keepb hb hHeld.2.2.2.1, keepb hb hHeld.2.2.2.2.1, keepb hb hHeld.2.2.2.2.2.1, keepb hb hHeld.2.2.2.2.2.2.1, keepb hb hHeld.2.2.2.2.2.2.2.1, keepb hb hHeld.2.2.2.2.2.2.2.2.1, keepb hb hHeld.2.2.2.2.2.2.2.2.2.1, keepb hb hHeld.2.2.2.2.2.2.2.2.2.2.1, keepb hb hHeld.2.2.2.2.2.2.2.2.2.2.2⟩ (fun hHeld => ?_)
                clear hK K hb
                (try simp only [Act.put, List.setIfInBounds_toArray, List.set_cons_zero, List.set_cons_succ, List.getElem_toArray, List.getElem_cons_succ, List.getElem_cons_zero])
                refine wpAnyH_take (i := 3) (oi := _) (v := ?_) rfl (by kernel_rfl) (by kernel_rfl) (by kernel_rfl) (fun _ _ _ h => h) (Or.inl ⟨by rfl, ?_⟩) (by assumption) ?_
                rotate_left
                · intro w hSw
                  (try dsimp only at hSw)
                  go_simp
                  all_goals (first | done | with_reducible rfl)
                (try simp only [Act.put, List.setIfInBounds_toArray, List.set_cons_zero, List.set_cons_succ, List.getElem_toArray, List.getElem_cons_succ, List.getElem_cons_zero])
                refine wpAnyH_take (i := 4) (oi := _) (v := ?_) rfl (by kernel_rfl) (by kernel_rfl) (by kernel_rfl) (fun _ _ _ h => h) (Or.inl ⟨by rfl, ?_⟩) (by assumption) ?_
                rotate_left
                · intro w hSw
                  (try dsimp only at hSw)
                  go_simp
                  all_goals (first | done | with_reducible rfl)
                (try simp only [Act.put, List.setIfInBounds_toArray, List.set_cons_zero, List.set_cons_succ, List.getElem_toArray, List.getElem_cons_succ, List.getElem_cons_zero])
                refine wpAnyH_take (i := 5) (oi := _) (v := ?_) rfl (by kernel_rfl) (by kernel_rfl) (by kernel_rfl) (fun _ _ _ h => h) (Or.inl ⟨by rfl, ?_⟩) (by assumption) ?_
                rotate_left
                · intro w hSw
                  (try dsimp only at hSw)
                  go_simp
                  all_goals (first | done | with_reducible rfl)
                (try simp only [Act.put, List.setIfInBounds_toArray, List.set_cons_zero, List.set_cons_succ, List.getElem_toArray, List.getElem_cons_succ, List.getElem_cons_zero])
                refine wpAnyH_take (i := 6) (oi := _) (v := ?_) rfl (by kernel_rfl) (by kernel_rfl) (by kernel_rfl) (fun _ _ _ h => h) (Or.inl ⟨by rfl, ?_⟩) (by assumption) ?_
                rotate_left
                · intro w hSw
                  (try dsimp only at hSw)
                  go_simp
                  all_goals (first | done | with_reducible rfl)
                (try simp only [Act.put, List.setIfInBounds_toArray, List.set_cons_zero, List.set_cons_succ, List.getElem_toArray, List.getElem_cons_succ, List.getElem_cons_zero])
                refine wpAnyH_take (i := 7) (oi := _) (v := ?_) rfl (by kernel_rfl) (by kernel_rfl) (by kernel_rfl) (fun _ _ _ h => h) (Or.inl ⟨by rfl, ?_⟩) (by assumption) ?_
                rotate_left
                · intro w hSw
                  (try dsimp only at hSw)
                  go_simp
                  all_goals (first | done | with_reducible rfl)
                (try simp only [Act.put, List.setIfInBounds_toArray, List.set_cons_zero, List.set_cons_succ, List.getElem_toArray, List.getElem_cons_succ, List.getElem_cons_zero])
                refine wpAnyH_take (i := 8) (oi := _) (v := ?_) rfl (by kernel_rfl) (by kernel_rfl) (by kernel_rfl) (fun _ _ _ h => h) (Or.inl ⟨by rfl, ?_⟩) (by assumption) ?_
                rotate_left
                · intro w hSw
                  (try dsimp only at hSw)
                  go_simp
                  all_goals (first | done | with_reducible rfl)
                (try simp only [Act.put, List.setIfInBounds_toArray, List.set_cons_zero, List.set_cons_succ, List.getElem_toArray, List.getElem_cons_succ, List.getElem_cons_zero])
                refine wpAnyH_take (i := 9) (oi := _) (v := ?_) rfl (by kernel_rfl) (by kernel_rfl) (by kernel_rfl) (fun _ _ _ h => h) (Or.inl ⟨by rfl, ?_⟩) (by assumption) ?_
                rotate_left
                · intro w hSw
                  (try dsimp only at hSw)
                  go_simp
                  all_goals (first | done | with_reducible rfl)
                (try simp only [Act.put, List.setIfInBounds_toArray, List.set_cons_zero, List.set_cons_succ, List.getElem_toArray, List.getElem_cons_succ, List.getElem_cons_zero])
                refine wpAnyH_take (i := 10) (oi := _) (v := ?_) rfl (by kernel_rfl) (by kernel_rfl) (by kernel_rfl) (fun _ _ _ h => h) (Or.inl ⟨by rfl, ?_⟩) (by assumption) ?_
                rotate_left
                · intro w hSw
                  (try dsimp only at hSw)
                  go_simp
                  all_goals (first | done | with_reducible rfl)
                (try simp only [Act.put, List.setIfInBounds_toArray, List.set_cons_zero, List.set_cons_succ, List.getElem_toArray, List.getElem_cons_succ, List.getElem_cons_zero])
                refine wpAnyH_take (i := 11) (oi := _) (v := ?_) rfl (by kernel_rfl) (by kernel_rfl) (by kernel_rfl) (fun _ _ _ h => h) (Or.inl ⟨by rfl, ?_⟩) (by assumption) ?_
                rotate_left
                · intro w hSw
                  (try dsimp only at hSw)
                  go_simp
                  all_goals (first | done | with_reducible rfl)
                (try simp only [Act.put, List.setIfInBounds_toArray, List.set_cons_zero, List.set_cons_succ, List.getElem_toArray, List.getElem_cons_succ, List.getElem_cons_zero])
                refine wpAnyH_take (i := 12) (oi := _) (v := ?_) rfl (by kernel_rfl) (by kernel_rfl) (by kernel_rfl) (fun _ _ _ h => h) (Or.inl ⟨by rfl, ?_⟩) (by assumption) ?_
                rotate_left
                · intro w hSw
                  (try dsimp only at hSw)
                  go_simp
                  all_goals (first | done | with_reducible rfl)
                (try simp only [Act.put, List.setIfInBounds_toArray, List.set_cons_zero, List.set_cons_succ, List.getElem_toArray, List.getElem_cons_succ, List.getElem_cons_zero])
                refine wpAnyH_take (i := 14) (oi := _) (v := ?_) rfl (by kernel_rfl) (by kernel_rfl) (by kernel_rfl) (fun _ _ _ h => h) (Or.inl ⟨by rfl, ?_⟩) (by assumption) ?_
                rotate_left
                · intro w hSw
                  (try dsimp only at hSw)
                  go_simp
                  all_goals (first | done | with_reducible rfl)
                (try simp only [Act.put, List.setIfInBounds_toArray, List.set_cons_zero, List.set_cons_succ, List.getElem_toArray, List.getElem_cons_succ, List.getElem_cons_zero])
                refine wpAnyH_take (i := 15) (oi := _) (v := ?_) rfl (by kernel_rfl) (by kernel_rfl) (by kernel_rfl) (fun _ _ _ h => h) (Or.inl ⟨by rfl, ?_⟩) (by assumption) ?_
                rotate_left
                · intro w hSw
                  (try dsimp only at hSw)
                  go_simp
                  all_goals (first | done | with_reducible rfl)
                (try simp only [Act.put, List.setIfInBounds_toArray, List.set_cons_zero, List.set_cons_succ, List.getElem_toArray, List.getElem_cons_succ, List.getElem_cons_zero])
                refine wpAnyH_take (i := 16) (oi := _) (v := ?_) rfl (by kernel_rfl) (by kernel_rfl) (by kernel_rfl) (fun _ _ _ h => h) (Or.inl ⟨by rfl, ?_⟩) (by assumption) ?_
                rotate_left
                · intro w hSw
                  (try dsimp only at hSw)
                  go_simp
                  all_goals (first | done | with_reducible rfl)
                (try simp only [Act.put, List.setIfInBounds_toArray, List.set_cons_zero, List.set_cons_succ, List.getElem_toArray, List.getElem_cons_succ, List.getElem_cons_zero])
                refine wpAnyH_take (i := 17) (oi := _) (v := ?_) rfl (by kernel_rfl) (by kernel_rfl) (by kernel_rfl) (fun _ _ _ h => h) (Or.inl ⟨by rfl, ?_⟩) (by assumption) ?_
                rotate_left
                · intro w hSw
                  (try dsimp only at hSw)
                  go_simp
                  all_goals (first | done | with_reducible rfl)
                (try simp only [Act.put, List.setIfInBounds_toArray, List.set_cons_zero, List.set_cons_succ, List.getElem_toArray, List.getElem_cons_succ, List.getElem_cons_zero])
                refine wpAnyH_take (i := 18) (oi := _) (v := ?_) rfl (by kernel_rfl) (by kernel_rfl) (by kernel_rfl) (fun _ _ _ h => h) (Or.inl ⟨by rfl, ?_⟩) (by assumption) ?_
                rotate_left
                · intro w hSw
                  (try dsimp only at hSw)
                  go_simp
                  all_goals (first | done | with_reducible rfl)
                (try simp only [Act.put, List.setIfInBounds_toArray, List.set_cons_zero, List.set_cons_succ, List.getElem_toArray, List.getElem_cons_succ, List.getElem_cons_zero])
                refine wpAnyH_take (i := 19) (oi := _) (v := ?_) rfl (by kernel_rfl) (by kernel_rfl) (by kernel_rfl) (fun _ _ _ h => h) (Or.inl ⟨by rfl, ?_⟩) (by assumption) ?_
                rotate_left
                · intro w hSw
                  (try dsimp only at hSw)
                  go_simp
                  all_goals (first | done | with_reducible rfl)
                (try simp only [Act.put, List.setIfInBounds_toArray, List.set_cons_zero, List.set_cons_succ, List.getElem_toArray, List.getElem_cons_succ, List.getElem_cons_zero])
                refine wpAnyH_ready (rs := [13]) (by kernel_rfl) (by simp) ?_
                refine AllReadyH.cons (o := _) rfl (fun K hK => ?_) AllReadyH.nil
                go_simp
                refine (openX_any y1 pp (HPF.out.below hHeld.1) y p.os HOP.out).mono ?_
                rintro e y2 ⟨rfl, hb⟩
                refine hK.out _ _ ⟨hHeld.1.trans (hb.mono hHeld.1.size), keepb hb hHeld.2.1, keepb hb hHeld.2.2.1, keepb hb hHeld.2.2.2.1, keepb hb hHeld.2.2.2.2.1, keepb hb hHeld.2.2.2.2.2.1, keepb hb hHeld.2.2.2.2.2.2.1, keepb hb hHeld.2.2.2.2.2.2.2.1, keepb hb hHeld.2.2.2.2.2.2.2.2.1, keepb hb hHeld.2.2.2.2.2.2.2.2.2.1, keepb hb hHeld.2.2.2.2.2.2.2.2.2.2.1, keepb hb hHeld.2.2.2.2.2.2.2.2.2.2.2⟩ (fun hHeld => ?_)
                clear hK K hb
                (try simp only [Act.put, List.setIfInBounds_toArray, List.set_cons_zero, List.set_cons_succ, List.getElem_toArray, List.getElem_cons_succ, List.getElem_cons_zero])
                refine wpAnyH_ready (rs := [20]) (by kernel_rfl) (by simp) ?_
                refine AllReadyH.cons (o := _) rfl (fun K hK => ?_) AllReadyH.nil
                go_simp
                refine (in_any y2 p.oa p.ol p.oc p.os ((HP.out.o.rs.below HBFA.out).below hHeld.1) y).mono ?_
                rintro e y3 ⟨rfl, hb⟩
                obtain rfl := hb.symm
                refine hK.out _ _ hHeld (fun hHeld => ?_)
                clear hK K hb
                (try simp only [Act.put, List.setIfInBounds_toArray, List.set_cons_zero, List.set_cons_succ, List.getElem_toArray, List.getElem_cons_succ, List.getElem_cons_zero])
                refine wpAnyH_take (i := 21) (oi := _) (v := ?_) rfl (by kernel_rfl) (by kernel_rfl) (by kernel_rfl) (fun _ _ _ h => h) (Or.inl ⟨by rfl, ?_⟩) (by assumption) ?_
                rotate_left
                · intro w hSw
                  (try dsimp only at hSw)
                  go_simp
                  all_goals (first | done | with_reducible rfl)
                (try simp only [Act.put, List.setIfInBounds_toArray, List.set_cons_zero, List.set_cons_succ, List.getElem_toArray, List.getElem_cons_succ, List.getElem_cons_zero])
                refine wpAnyH_take (i := 22) (oi := _) (v := ?_) rfl (by kernel_rfl) (by kernel_rfl) (by kernel_rfl) (fun _ _ _ h => h) (Or.inl ⟨by rfl, ?_⟩) (by assumption) ?_
                rotate_left
                · intro w hSw
                  (try dsimp only at hSw)
                  go_simp
                  all_goals (first | done | with_reducible rfl)
                (try simp only [Act.put, List.setIfInBounds_toArray, List.set_cons_zero, List.set_cons_succ, List.getElem_toArray, List.getElem_cons_succ, List.getElem_cons_zero])
                refine wpAnyH_take (i := 23) (oi := _) (v := ?_) rfl (by kernel_rfl) (by kernel_rfl) (by kernel_rfl) (fun _ _ _ h => h) (Or.inl ⟨by rfl, ?_⟩) (by assumption) ?_
                rotate_left
                · intro w hSw
                  (try dsimp only at hSw)
                  go_simp
                  all_goals (first | done | with_reducible rfl)
                (try simp only [Act.put, List.setIfInBounds_toArray, List.set_cons_zero, List.set_cons_succ, List.getElem_toArray, List.getElem_cons_succ, List.getElem_cons_zero])
                refine wpAnyH_take (i := 24) (oi := _) (v := ?_) rfl (by kernel_rfl) (by kernel_rfl) (by kernel_rfl) (fun _ _ _ h => h) (Or.inl ⟨by rfl, ?_⟩) (by assumption) ?_
                rotate_left
                · intro w hSw
                  (try dsimp only at hSw)
                  go_simp
                  all_goals (first | done | with_reducible rfl)
                (try simp only [Act.put, List.setIfInBounds_toArray, List.set_cons_zero, List.set_cons_succ, List.getElem_toArray, List.getElem_cons_succ, List.getElem_cons_zero])
                refine wpAnyH_take (i := 25) (oi := _) (v := ?_) rfl (by kernel_rfl) (by kernel_rfl) (by kernel_rfl) (fun _ _ _ h => h) (Or.inl ⟨by rfl, ?_⟩) (by assumption) ?_
                rotate_left
                · intro w hSw
                  (try dsimp only at hSw)
                  go_simp
                  all_goals (first | done | with_reducible rfl)
                (try simp only [Act.put, List.setIfInBounds_toArray, List.set_cons_zero, List.set_cons_succ, List.getElem_toArray, List.getElem_cons_succ, List.getElem_cons_zero])
                refine wpAnyH_take (i := 26) (oi := _) (v := ?_) rfl (by kernel_rfl) (by kernel_rfl) (by kernel_rfl) (fun _ _ _ h => h) (Or.inl ⟨by rfl, ?_⟩) (by assumption) ?_
                rotate_left
                · intro w hSw
                  (try dsimp only at hSw)
                  go_simp
                  all_goals (first | done | with_reducible rfl)
                (try simp only [Act.put, List.setIfInBounds_toArray, List.set_cons_zero, List.set_cons_succ, List.getElem_toArray, List.getElem_cons_succ, List.getElem_cons_zero])
                refine wpAnyH_take (i := 27) (oi := _) (v := ?_) rfl (by kernel_rfl) (by kernel_rfl) (by kernel_rfl) (fun _ _ _ h => h) (Or.inl ⟨by rfl, ?_⟩) (by assumption) ?_
                rotate_left
                · intro w hSw
                  (try dsimp only at hSw)
                  go_simp
                  all_goals (first | done | with_reducible rfl)
                (try simp only [Act.put, List.setIfInBounds_toArray, List.set_cons_zero, List.set_cons_succ, List.getElem_toArray, List.getElem_cons_succ, List.getElem_cons_zero])
                refine wpAnyH_take (i := 28) (oi := _) (v := ?_) rfl (by kernel_rfl) (by kernel_rfl) (by kernel_rfl) (fun _ _ _ h => h) (Or.inl ⟨by rfl, ?_⟩) (by assumption) ?_
                rotate_left
                · intro w hSw
                  (try dsimp only at hSw)
                  go_simp
                  all_goals (first | done | with_reducible rfl)
                (try simp only [Act.put, List.setIfInBounds_toArray, List.set_cons_zero, List.set_cons_succ, List.getElem_toArray, List.getElem_cons_succ, List.getElem_cons_zero])
                refine wpAnyH_take (i := 29) (oi := _) (v := ?_) rfl (by kernel_rfl) (by kernel_rfl) (by kernel_rfl) (fun _ _ _ h => h) (Or.inl ⟨by rfl, ?_⟩) (by assumption) ?_
                rotate_left
                · intro w hSw
                  (try dsimp only at hSw)
                  go_simp
                  all_goals (first | done | with_reducible rfl)
                (try simp only [Act.put, List.setIfInBounds_toArray, List.set_cons_zero, List.set_cons_succ, List.getElem_toArray, List.getElem_cons_succ, List.getElem_cons_zero])
                refine wpAnyH_take (i := 30) (oi := _) (v := ?_) rfl (by kernel_rfl) (by kernel_rfl) (by kernel_rfl) (fun _ _ _ h => h) (Or.inl ⟨by rfl, ?_⟩) (by assumption) ?_
                rotate_left
                · intro w hSw
                  (try dsimp only at hSw)
                  go_simp
                  all_goals (first | done | with_reducible rfl)
                (try simp only [Act.put, List.setIfInBounds_toArray, List.set_cons_zero, List.set_cons_succ, List.getElem_toArray, List.getElem_cons_succ, List.getElem_cons_zero])
                refine wpAnyH_take (i := 31) (oi := _) (v := ?_) rfl (by kernel_rfl) (by kernel_rfl) (by kernel_rfl) (fun _ _ _ h => h) (Or.inl ⟨by rfl, ?_⟩) (by assumption) ?_
                rotate_left
                · intro w hSw
                  (try dsimp only at hSw)
                  go_simp
                  all_goals (first | done | with_reducible rfl)
                (try simp only [Act.put, List.setIfInBounds_toArray, List.set_cons_zero, List.set_cons_succ, List.getElem_toArray, List.getElem_cons_succ, List.getElem_cons_zero])
                refine wpAnyH_take (i := 33) (oi := _) (v := ?_) rfl (by kernel_rfl) (by kernel_rfl) (by kernel_rfl) (fun _ _ _ h => h) (Or.inl ⟨by rfl, ?_⟩) (by assumption) ?_
                rotate_left
                · intro w hSw
                  (try dsimp only at hSw)
                  go_simp
                  all_goals (first | done | with_reducible rfl)
                (try simp only [Act.put, List.setIfInBounds_toArray, List.set_cons_zero, List.set_cons_succ, List.getElem_toArray, List.getElem_cons_succ, List.getElem_cons_zero])
                refine wpAnyH_take (i := 34) (oi := _) (v := ?_) rfl (by kernel_rfl) (by kernel_rfl) (by kernel_rfl) (fun _ _ _ h => h) (Or.inl ⟨by rfl, ?_⟩) (by assumption) ?_
                rotate_left
                · intro w hSw
                  (try dsimp only at hSw)
                  go_simp
                  all_goals (first | done | with_reducible rfl)
                (try simp only [Act.put, List.setIfInBounds_toArray, List.set_cons_zero, List.set_cons_succ, List.getElem_toArray, List.getElem_cons_succ, List.getElem_cons_zero])
                refine wpAnyH_take (i := 35) (oi := _) (v := ?_) rfl (by kernel_rfl) (by kernel_rfl) (by kernel_rfl) (fun _ _ _ h => h) (Or.inl ⟨by rfl, ?_⟩) (by assumption) ?_
                rotate_left
                · intro w hSw
                  (try dsimp only at hSw)
                  go_simp
                  all_goals (first | done | with_reducible rfl)
                (try simp only [Act.put, List.setIfInBounds_toArray, List.set_cons_zero, List.set_cons_succ, List.getElem_toArray, List.getElem_cons_succ, List.getElem_cons_zero])
                refine wpAnyH_take (i := 36) (oi := _) (v := ?_) rfl (by kernel_rfl) (by kernel_rfl) (by kernel_rfl) (fun _ _ _ h => h) (Or.inl ⟨by rfl, ?_⟩) (by assumption) ?_
                rotate_left
                · intro w hSw
                  (try dsimp only at hSw)
                  go_simp
                  all_goals (first | done | with_reducible rfl)
                (try simp only [Act.put, List.setIfInBounds_toArray, List.set_cons_zero, List.set_cons_succ, List.getElem_toArray, List.getElem_cons_succ, List.getElem_cons_zero])
                refine wpAnyH_take (i := 37) (oi := _) (v := ?_) rfl (by kernel_rfl) (by kernel_rfl) (by kernel_rfl) (fun _ _ _ h => h) (Or.inl ⟨by rfl, ?_⟩) (by assumption) ?_
                rotate_left
                · intro w hSw
                  (try dsimp only at hSw)
                  go_simp
                  all_goals (first | done | with_reducible rfl)
                (try simp only [Act.put, List.setIfInBounds_toArray, List.set_cons_zero, List.set_cons_succ, List.getElem_toArray, List.getElem_cons_succ, List.getElem_cons_zero])
                refine wpAnyH_take (i := 38) (oi := _) (v := ?_) rfl (by kernel_rfl) (by kernel_rfl) (by kernel_rfl) (fun _ _ _ h => h) (Or.inl ⟨by rfl, ?_⟩) (by assumption) ?_
                rotate_left
                · intro w hSw
                  (try dsimp only at hSw)
                  go_simp
                  all_goals (first | done | with_reducible rfl)
                (try simp only [Act.put, List.setIfInBounds_toArray, List.set_cons_zero, List.set_cons_succ, List.getElem_toArray, List.getElem_cons_succ, List.getElem_cons_zero])
                refine wpAnyH_ready (rs := [32]) (by kernel_rfl) (by simp) ?_
                refine AllReadyH.cons (o := _) rfl (fun K hK => ?_) AllReadyH.nil
                go_simp
                refine (reachedX_any y2 pp (HPF.out.below hHeld.1) y p.rs HRP.out).mono ?_
                rintro e y4 ⟨rfl, hb⟩
                refine hK.out _ _ ⟨hHeld.1.trans (hb.mono hHeld.1.size), keepb hb hHeld.2.1, keepb hb hHeld.2.2.1, keepb hb hHeld.2.2.2.1, keepb hb hHeld.2.2.2.2.1, keepb hb hHeld.2.2.2.2.2.1, keepb hb hHeld.2.2.2.2.2.2.1, keepb hb hHeld.2.2.2.2.2.2.2.1, keepb hb hHeld.2.2.2.2.2.2.2.2.1, keepb hb hHeld.2.2.2.2.2.2.2.2.2.1, keepb hb hHeld.2.2.2.2.2.2.2.2.2.2.1, keepb hb hHeld.2.2.2.2.2.2.2.2.2.2.2⟩ (fun hHeld => ?_)
                clear hK K hb
                (try simp only [Act.put, List.setIfInBounds_toArray, List.set_cons_zero, List.set_cons_succ, List.getElem_toArray, List.getElem_cons_succ, List.getElem_cons_zero])
                refine wpAnyH_ready (rs := [39]) (by kernel_rfl) (by simp) ?_
                refine AllReadyH.cons (o := _) rfl (fun K hK => ?_) AllReadyH.nil
                go_simp
                refine (in_any y4 p.ra p.rl p.rc p.rs ((HP.out.r.rs.below HBFA.out).below hHeld.1) y).mono ?_
                rintro e y5 ⟨rfl, hb⟩
                obtain rfl := hb.symm
                refine hK.out _ _ hHeld (fun hHeld => ?_)
                clear hK K hb
                (try simp only [Act.put, List.setIfInBounds_toArray, List.set_cons_zero, List.set_cons_succ, List.getElem_toArray, List.getElem_cons_succ, List.getElem_cons_zero])
                refine wpAnyH_take (i := 40) (oi := _) (v := ?_) rfl (by kernel_rfl) (by kernel_rfl) (by kernel_rfl) (fun _ _ _ h => h) (Or.inl ⟨by rfl, ?_⟩) (by assumption) ?_
                rotate_left
                · intro w hSw
                  (try dsimp only at hSw)
                  go_simp
                  all_goals (first | done | with_reducible rfl)
                (try simp only [Act.put, List.setIfInBounds_toArray, List.set_cons_zero, List.set_cons_succ, List.getElem_toArray, List.getElem_cons_succ, List.getElem_cons_zero])
                refine wpAnyH_take (i := 41) (oi := _) (v := ?_) rfl (by kernel_rfl) (by kernel_rfl) (by kernel_rfl) (fun _ _ _ h => h) (Or.inl ⟨by rfl, ?_⟩) (by assumption) ?_
                rotate_left
                · intro w hSw
                  (try dsimp only at hSw)
                  go_simp
                  all_goals (first | done | with_reducible rfl)
                (try simp only [Act.put, List.setIfInBounds_toArray, List.set_cons_zero, List.set_cons_succ, List.getElem_toArray, List.getElem_cons_succ, List.getElem_cons_zero])
                refine wpAnyH_done (by kernel_rfl) ?_ _
                go_upto_region 24 with (fail)
                obtain ⟨wg, hwg⟩ : ∃ wg, wg = y4 := ⟨_, rfl⟩
                rw [← hwg] at hHeld ⊢
                have HBG := Lib.hid (HBF.out.trans (hHeld.1.mono HBF.out.size))
                have GWG := Lib.hid ((hHeld.1.block _ HGW.out).trans GW.out)
                have HSG := Lib.hid (HSF.out.below hHeld.1)
                clear hHeld hwg hbo hbr hnilO hnilR
                go_wp2_with fail
                go_loopw [13] (fun i wv => ∃ t : Nat, t ≤ x.ss.length ∧ i = .int .i64 t ∧ Below wx.heap.size wx wv ∧ wv.heap[gb]? = some (boxS x ax x.ss.length cx) ∧ (x.ss.length = 0 ∨ ∃ xs, wv.ownsRow wx.heap.size 9 1 (.slice ax x.ss.length cx) x.ss.length xs)) (fun i _ => x.ss.length - (intOf i).toNat)
                case atStart => exact ⟨0, Nat.zero_le _, rfl, HBG.out, GWG.out, by
                  obtain ⟨a', l', c', e, hl, h⟩ := HSG.out
                  simp only [VA, Value.agg.injEq, Array.mk.injEq, List.cons.injEq, Value.slice.injEq, true_and, and_true] at e
                  obtain ⟨rfl, rfl, rfl⟩ := e
                  rcases h with ⟨h, -⟩ | h
                  · exact .inl h
                  · exact .inr ⟨_, h⟩⟩
                case round =>
                  obtain ⟨t, htl, rfl, hbv, hgv, hov⟩ := hrel
                  have HBV := Lib.hid hbv
                  have HGV := Lib.hid hgv
                  have c3 := cell_of_row wr _ 3 _ _ _ hgv
                  simp only [List.getElem?_toArray, List.getElem?_cons_zero, List.getElem?_cons_succ] at c3
                  have hx6 := HLX.out
                  by_cases htt : t < x.ss.length
                  · have htI : (t : Int) < (x.ss.length : Int) := by omega
                    rcases hov with h | ⟨xs, ho⟩
                    · omega
                    obtain ⟨h, hax, -, -⟩ := own_addr ho (by omega)
                    subst hax
                    have hlen := ho.1
                    have s0 := ho.cellAt t (by omega)
                    obtain ⟨sv, hsv⟩ : ∃ sv, xs[t]? = some sv := ⟨_, List.getElem?_eq_getElem (by omega)⟩
                    rw [hsv] at s0
                    have s1 := ho.frozenAt t
                    obtain ⟨hr1, hg1⟩ := ho.stored t (.string { data := #[119, 114, 105, 116, 116, 101, 110] })
                    have HR1 := Lib.hid hr1
                    have HB1' := Lib.hid (hbv.grown hg1 (by have := hbv.size; omega) (fun q hq => (ho.lt q hq).1))
                    have HG1 := Lib.hid ((hg1.block _ (Array.getElem?_eq_some_iff.1 hgv).1 (own_ne ho hgv (by decide)).symm).trans hgv)
                    clear hbv hgv ho hlen hsv hr1 hg1
                    go_wp2_with fail
                    go_roundw
                    case rel => exact ⟨t + 1, by omega, by go_num, HB1'.out, HG1.out, .inr ⟨_, HR1.out⟩⟩
                    case measure => simp [intOf]; omega
                  · have htI : ¬ (t : Int) < (x.ss.length : Int) := by omega
                    have HGKV := Lib.hid ((hbv.block gx HGX.out).trans GK.out)
                    clear hbv hgv hov
                    obtain ⟨k0, k1, k2, k3, -⟩ := box4 HGKV.out
                    have n0 := (HBV.out.cell (p := ⟨nb, no + k, none⟩) HNX.out).trans HNC.out
                    have hna := nil_aheadM pp "Value" (.inl rfl)
                    have HPV := Lib.hid (HPO6.out.below (HBM.out.trans ((HBX.out.trans (HBV.out.mono HBX.out.size)).mono HBM.out.size)))
                    have HRV := Lib.hid (HRX.out.below HBV.out)
                    have HBVW := Lib.hid (HBX.out.trans (HBV.out.mono HBX.out.size))
                    go_wp2_with fail
                    refine wp_region_held_drew (S := (fun w' => Below wr.heap.size wr w' ∧ w'.cell? ⟨gx, 0, none⟩ = some (.int .i64 x.k) ∧ w'.cell? ⟨gx, 1, none⟩ = some (.int .i64 x.n) ∧ w'.cell? ⟨gx, 2, none⟩ = some (.string x.t) ∧ w'.cell? ⟨gx, 3, none⟩ = some (.slice ka x.ss.length kc) ∧ w'.cell? ⟨nb, no + k, none⟩ = some (.string y))) (by kernel_rfl) ⟨(Below.refl _ _).drew, k0, k1, k2, k3, n0⟩ (fun hHeld => ?_)
                    clear k0 k1 k2 k3 n0
                    obtain ⟨wd, hwd⟩ : ∃ wd, wd = wr.drew := ⟨_, rfl⟩
                    rw [← hwd] at hHeld ⊢
                    clear hwd
                    refine wpAnyH_take (i := 0) (oi := _) (v := ?_) rfl (by kernel_rfl) (by kernel_rfl) (by kernel_rfl) (fun _ _ _ h => h) (Or.inl ⟨by rfl, ?_⟩) (by assumption) ?_
                    rotate_left
                    · intro w hSw
                      (try dsimp only at hSw)
                      go_simp
                      all_goals (first | done | with_reducible rfl)
                    (try simp only [Act.put, List.setIfInBounds_toArray, List.set_cons_zero, List.set_cons_succ, List.getElem_toArray, List.getElem_cons_succ, List.getElem_cons_zero])
                    refine wpAnyH_take (i := 1) (oi := _) (v := ?_) rfl (by kernel_rfl) (by kernel_rfl) (by kernel_rfl) (fun _ _ _ h => h) (Or.inl ⟨by rfl, ?_⟩) (by assumption) ?_
                    rotate_left
                    · intro w hSw
                      (try dsimp only at hSw)
                      go_simp
                      all_goals (first | done | with_reducible rfl)
                    (try simp only [Act.put, List.setIfInBounds_toArray, List.set_cons_zero, List.set_cons_succ, List.getElem_toArray, List.getElem_cons_succ, List.getElem_cons_zero])
                    refine wpAnyH_take (i := 2) (oi := _) (v := ?_) rfl (by kernel_rfl) (by kernel_rfl) (by kernel_rfl) (fun _ _ _ h => h) (Or.inl ⟨by rfl, ?_⟩) (by assumption) ?_
                    rotate_left
                    · intro w hSw
                      (try dsimp only at hSw)
                      go_simp
                      all_goals (first | done | with_reducible rfl)
                    (try simp only [Act.put, List.setIfInBounds_toArray, List.set_cons_zero, List.set_cons_succ, List.getElem_toArray, List.getElem_cons_succ, List.getElem_cons_zero])
                    refine wpAnyH_take (i := 3) (oi := _) (v := ?_) rfl (by kernel_rfl) (by kernel_rfl) (by kernel_rfl) (fun _ _ _ h => h) (Or.inl ⟨by rfl, ?_⟩) (by assumption) ?_
                    rotate_left
                    · intro w hSw
                      (try dsimp only at hSw)
                      go_simp
                      all_goals (first | done | with_reducible rfl)
                    (try simp only [Act.put, List.setIfInBounds_toArray, List.set_cons_zero, List.set_cons_succ, List.getElem_toArray, List.getElem_cons_succ, List.getElem_cons_zero])
                    refine wpAnyH_take (i := 4) (oi := _) (v := ?_) rfl (by kernel_rfl) (by kernel_rfl) (by kernel_rfl) (fun _ _ _ h => h) (Or.inl ⟨by rfl, ?_⟩) (by assumption) ?_
                    rotate_left
                    · intro w hSw
                      (try dsimp only at hSw)
                      go_simp
                      all_goals (first | done | with_reducible rfl)
                    (try simp only [Act.put, List.setIfInBounds_toArray, List.set_cons_zero, List.set_cons_succ, List.getElem_toArray, List.getElem_cons_succ, List.getElem_cons_zero])
                    refine wpAnyH_take (i := 5) (oi := _) (v := ?_) rfl (by kernel_rfl) (by kernel_rfl) (by kernel_rfl) (fun _ _ _ h => h) (Or.inl ⟨by rfl, ?_⟩) (by assumption) ?_
                    rotate_left
                    · intro w hSw
                      (try dsimp only at hSw)
                      go_simp
                      all_goals (first | done | with_reducible rfl)
                    (try simp only [Act.put, List.setIfInBounds_toArray, List.set_cons_zero, List.set_cons_succ, List.getElem_toArray, List.getElem_cons_succ, List.getElem_cons_zero])
                    refine wpAnyH_take (i := 6) (oi := _) (v := ?_) rfl (by kernel_rfl) (by kernel_rfl) (by kernel_rfl) (fun _ _ _ h => h) (Or.inl ⟨by rfl, ?_⟩) (by assumption) ?_
                    rotate_left
                    · intro w hSw
                      (try dsimp only at hSw)
                      go_simp
                      all_goals (first | done | with_reducible rfl)
                    (try simp only [Act.put, List.setIfInBounds_toArray, List.set_cons_zero, List.set_cons_succ, List.getElem_toArray, List.getElem_cons_succ, List.getElem_cons_zero])
                    refine wpAnyH_take (i := 7) (oi := _) (v := ?_) rfl (by kernel_rfl) (by kernel_rfl) (by kernel_rfl) (fun _ _ _ h => h) (Or.inl ⟨by rfl, ?_⟩) (by assumption) ?_
                    rotate_left
                    · intro w hSw
                      (try dsimp only at hSw)
                      go_simp
                      all_goals (first | done | with_reducible rfl)
                    (try simp only [Act.put, List.setIfInBounds_toArray, List.set_cons_zero, List.set_cons_succ, List.getElem_toArray, List.getElem_cons_succ, List.getElem_cons_zero])
                    refine wpAnyH_take (i := 9) (oi := _) (v := ?_) rfl (by kernel_rfl) (by kernel_rfl) (by kernel_rfl) (fun _ _ _ h => h) (Or.inl ⟨by rfl, ?_⟩) (by assumption) ?_
                    rotate_left
                    · intro w hSw
                      (try dsimp only at hSw)
                      go_simp
                      all_goals (first | done | with_reducible rfl)
                    (try simp only [Act.put, List.setIfInBounds_toArray, List.set_cons_zero, List.set_cons_succ, List.getElem_toArray, List.getElem_cons_succ, List.getElem_cons_zero])
                    refine wpAnyH_ready (rs := [8]) (by kernel_rfl) (by simp) ?_
                    refine AllReadyH.cons (o := _) rfl (fun K hK => ?_) AllReadyH.nil
                    go_simp
                    refine (valueX_any wd pp (HPV.out.below hHeld.1) y x HXV.out).mono ?_
                    rintro e y1 ⟨⟨ay, cy, rfl, hsv⟩, hb⟩
                    have HSY := Lib.hid hsv
                    have HRV1 := Lib.hid (HRV.out.below (hHeld.1.trans (hb.mono hHeld.1.size)))
                    refine hK.out _ _ ⟨hHeld.1.trans (hb.mono hHeld.1.size), keepb hb hHeld.2.1, keepb hb hHeld.2.2.1, keepb hb hHeld.2.2.2.1, keepb hb hHeld.2.2.2.2.1, keepb hb hHeld.2.2.2.2.2⟩ (fun hHeld => ?_)
                    clear hK K hb hsv
                    (try simp only [Act.put, List.setIfInBounds_toArray, List.set_cons_zero, List.set_cons_succ, List.getElem_toArray, List.getElem_cons_succ, List.getElem_cons_zero])
                    refine wpAnyH_ready (rs := [10]) (by kernel_rfl) (by simp) ?_
                    refine AllReadyH.cons (o := _) rfl (fun K hK => ?_) AllReadyH.nil
                    go_simp
                    refine (sameV_any y1 x ay x.ss.length cy (HSY.out.rz (by have := HLX.out; omega)).rs ka kc HRV1.out).mono ?_
                    rintro e y2 ⟨rfl, hb⟩
                    refine hK.out _ _ ⟨hHeld.1.trans (hb.mono hHeld.1.size), keepb hb hHeld.2.1, keepb hb hHeld.2.2.1, keepb hb hHeld.2.2.2.1, keepb hb hHeld.2.2.2.2.1, keepb hb hHeld.2.2.2.2.2⟩ (fun hHeld => ?_)
                    clear hK K hb
                    (try simp only [Act.put, List.setIfInBounds_toArray, List.set_cons_zero, List.set_cons_succ, List.getElem_toArray, List.getElem_cons_succ, List.getElem_cons_zero])
                    refine wpAnyH_take (i := 11) (oi := _) (v := ?_) rfl (by kernel_rfl) (by kernel_rfl) (by kernel_rfl) (fun _ _ _ h => h) (Or.inl ⟨by rfl, ?_⟩) (by assumption) ?_
                    rotate_left
                    · intro w hSw
                      (try dsimp only at hSw)
                      go_simp
                      all_goals (first | done | with_reducible rfl)
                    (try simp only [Act.put, List.setIfInBounds_toArray, List.set_cons_zero, List.set_cons_succ, List.getElem_toArray, List.getElem_cons_succ, List.getElem_cons_zero])
                    refine wpAnyH_done (by kernel_rfl) ?_ _
                    have HBZ := Lib.hid (HBVW.out.trans (hHeld.1.mono HBVW.out.size))
                    clear hHeld
                    go_wp2_with fail
                    go_roundw
                    case rel => exact ⟨k + 1, by omega, by go_num, HBM.out.trans (HBZ.out.mono HBM.out.size)⟩
                    case measure => simp [intOf]; omega
            · have hjn : j < p.vl := by omega
              obtain ⟨bj, hbj⟩ : ∃ bj, p.bs[j]? = some bj := ⟨_, List.getElem?_eq_getElem (by have := HVL.out; omega)⟩
              have HRC := HP.out.v.below HBXA.out
              obtain ⟨pb, po, bx, hpa, -, -⟩ := HP.out.v.at hjn
              rw [hpa] at HRC
              have p0 := HRC.atS3 hbj 0 _ rfl
              have p1 := HRC.atS3 hbj 1 _ rfl
              have p2 := HRC.atS3 hbj 2 _ rfl
              have p3 := HRC.atS3 hbj 3 _ rfl
              have p4 := HRC.atS3 hbj 4 _ rfl
              have GX := (HBX.out.block _ zr).trans GR.out
              have q0 := cell_of_row wr _ 0 _ _ _ GX
              simp only [List.getElem?_toArray, List.getElem?_cons_zero] at q0
              rw [hpa] at q0
              have n0 := (HBX.out.cell (p := ⟨nb, no + k, none⟩) HNB.out).trans HN0.out
              simp only [Nat.add_zero] at p0
              obtain ⟨b0, b1, b2, b3, f0, f1, f2, f3⟩ := box4 HBW.out.g
              have hj0 : (0 : Int) ≤ (j : Int) := by omega
              have hjI : (j : Int) < (p.vl : Int) := by omega
              have HWA := Lib.hid (want_at (nm := y) hbj)
              have HBJ := Lib.hid (List.mem_of_getElem? hbj)
              clear hbj HRC hpa GX
              cases hm : (bj.nm.toList == y.toList)
              · have HW2 := Lib.hid (show wb.v.x = wantV (p.bs.drop j) y by rw [HWA.out, hm, if_neg (by decide)]; exact HBW.out.x)
                go_wp2_with fail
                go_quiet (fail)
                go_wp2_with fail
                go_roundw
                case rel => exact ⟨j, wb, by omega, DownI.pred j, ⟨HBW.out.i, by simpa using HBW.out.g, HW2.out⟩, below_drewN HBX.out _⟩
                case measure => simp [intOf]
              · have HW2 := Lib.hid (show bj.v.x = wantV (p.bs.drop j) y by rw [HWA.out, hm, if_pos rfl])
                go_wp2_with fail
                go_quiet (fail)
                go_wp2_with fail
                go_roundw
                case rel => exact ⟨j, bj, by omega, DownI.pred j, ⟨.inl HBJ.out, heap_box (by simpa using HBW.out.g) _ _ _ _, HW2.out⟩, below_box (by rw [HX.out]; exact Nat.le_refl _) (below_drewN HBX.out _) _ _ _ _⟩
                case measure => simp [intOf]
        · have hltI : ¬ (k : Int) < (N : Int) := by omega
          go_wp2_with (go_at_call 16; refine (HKN.out _ HBA.out).mono ?_; rintro e w9 ⟨rfl, hb9⟩)
          go_ret
          exact ⟨rfl, HBA.out.trans (hb9.mono HBA.out.size)⟩
end Go.Proofs.YtcnckjlmldnblaaDoor
