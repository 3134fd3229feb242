import Derived.Test.YteoggphafhcchaaGreatM4
namespace Go.Proofs.YteoggphafhcchaaGreat
open Go Go.RowKit
set_option maxRecDepth 100000
set_option maxHeartbeats 1000000
set_option linter.unusedVariables false
set_option linter.unusedSimpArgs false
open Go.Maps Go.WideMaps
theorem wrap64_small {x : Int} (h0 : -9223372036854775808 ≤ x) (h1 : x < 9223372036854775808) : wrap64 x = x := by unfold wrap64; omega
theorem lenBs {s : Nm} (hs : s.length ≤ maxLen) : (bs s).size ≤ maxLen := by simpa [bs, ByteArray.size] using hs
theorem NAt.look {w : World} {ρ : Nat → Nat} {r : Nat} {fa : Nat → Nat} {b : Nat} {m : List (Nm × Nat)} (h : NAt w ρ r fa b m) {s : Nm} (hs : s.length ≤ maxLen) :
    (Instr.lookup 43 (.map (some b)) (.string (bs s)) false).run Tryz.prog w = .ok (madeV fa (lk m s)) w := by
  obtain ⟨D, hm, -, -, h3⟩ := h
  obtain ⟨h1, -⟩ := look_ptr hm (lenBs hs)
  rw [h1]
  have := (h3 s).1
  unfold at? kL
  rw [show (bs s).data.toList = s by simp [bs], this]
  cases lk m s <;> rfl
theorem ask0 (w : World) (L : Lay) (gd : Nat) (d : Dm) (h : DAt w L gd d) :
    Calls Tryz.prog 47 #[.pointer (some ⟨gd, 0, none⟩), .slice none 0 0] w fun e w' => e = .returned (.tuple #[.pointer none, .int .i64 (if d.power = false then 2 else 0)]) ∧ w' = w := by
  obtain ⟨-, -, -, -, -, c5, -⟩ := h.cells
  clear h
  cases hp : d.power
  · rw [hp] at c5
    go_enter Tryz.func47, Tryz.ntmps47
    go_wp2
    go_returns
    exact ⟨rfl, rfl⟩
  · rw [hp] at c5
    go_enter Tryz.func47, Tryz.ntmps47
    go_wp2_with fail
    refine wp_loop_rounds 1 ?_
    rw [rounds_succ]
    go_wp2
    go_returns
    exact ⟨rfl, rfl⟩
theorem ask_none {d : Dm} {s : Nm} (hp : d.power = true) (hl : legalB (bs s) = true) (hk : lk d.names s = none) : d.ask s = (none, 32) := by unfold Dm.ask; rw [if_neg (by simp [hp]), if_neg (by simp [hl]), hk]
theorem ask_some {d : Dm} {s : Nm} {i : Nat} (hp : d.power = true) (hl : legalB (bs s) = true) (hk : lk d.names s = some i) : d.ask s = (some i, 0) := by unfold Dm.ask; rw [if_neg (by simp [hp]), if_neg (by simp [hl]), hk]
theorem ask_bad {d : Dm} {s : Nm} (hp : d.power = true) (hl : legalB (bs s) = false) : d.ask s = (none, 34) := by unfold Dm.ask; rw [if_neg (by simp [hp]), if_pos hl]
theorem ask_down {d : Dm} {s : Nm} (hp : d.power = false) : d.ask s = (none, 2) := by unfold Dm.ask; rw [if_pos hp]
theorem ask1 (w : World) (L : Lay) (gd : Nat) (d : Dm) (h : DAt w L gd d) (b o c : Nat) (s : Nm) (hs : s.length ≤ maxLen) (hc : w.cell? ⟨b, o, none⟩ = some (.string (bs s))) :
    Calls Tryz.prog 47 #[.pointer (some ⟨gd, 0, none⟩), .slice (some ⟨b, o, none⟩) 1 c] w fun e w' => e = .returned (.tuple #[madeV L.fa (d.ask s).1, .int .i64 (d.ask s).2]) ∧ Below w.heap.size w w' := by
  obtain ⟨-, -, -, -, -, c5, c6, -⟩ := h.cells
  have HL := Lib.hid (lenBs hs)
  have hlk : ∀ nq : Nat, (Instr.lookup 43 (.map (some L.nb)) (.string (bs s)) false).run Tryz.prog (w.drewN nq) = .ok (madeV L.fa (lk d.names s)) (w.drewN nq) := fun nq => (h.below (below_drewN (Below.refl _ _) nq)).nm.look hs
  clear h
  cases hp : d.power
  · rw [hp] at c5
    have HE := Lib.hid (ask_down (s := s) hp)
    clear hlk
    go_enter Tryz.func47, Tryz.ntmps47
    go_wp2
    go_returns
    exact ⟨by rw [HE.out]; rfl, Below.refl _ _⟩
  rw [hp] at c5
  cases hl : legalB (bs s)
  · have HE := Lib.hid (ask_bad hp hl)
    clear hlk
    go_enter Tryz.func47, Tryz.ntmps47
    go_wp2_with fail
    refine wp_loop_rounds 1 ?_
    rw [rounds_succ]
    go_wp2_with (go_at_call 62; refine (legal_any _ _ HL.out).mono ?_; rintro e w' ⟨rfl, rfl⟩; rw [hl])
    go_returns
    exact ⟨by rw [HE.out]; rfl, Below.refl _ _⟩
  cases hk : lk d.names s with
  | none =>
    have HE := Lib.hid (ask_none hp hl hk)
    rw [hk, show madeV L.fa none = .pointer none from rfl] at hlk
    go_enter Tryz.func47, Tryz.ntmps47
    go_wp2_with fail
    refine wp_loop_rounds 2 ?_
    rw [rounds_succ]
    go_wp2_with (go_at_call 62; refine (legal_any _ _ HL.out).mono ?_; rintro e w' ⟨rfl, rfl⟩; rw [hl])
    rw [rounds_succ]
    go_wp2_with fail
    go_quiet (fail)
    clear hlk
    go_wp2
    go_returns
    exact ⟨by rw [HE.out]; rfl, below_drewN (Below.refl _ _) nq⟩
  | some i =>
    have HE := Lib.hid (ask_some hp hl hk)
    rw [hk, show madeV L.fa (some i) = .pointer (some ⟨L.fa i, 0, none⟩) from rfl] at hlk
    go_enter Tryz.func47, Tryz.ntmps47
    go_wp2_with fail
    refine wp_loop_rounds 2 ?_
    rw [rounds_succ]
    go_wp2_with (go_at_call 62; refine (legal_any _ _ HL.out).mono ?_; rintro e w' ⟨rfl, rfl⟩; rw [hl])
    rw [rounds_succ]
    go_wp2_with fail
    go_quiet (fail)
    clear hlk
    go_wp2
    go_returns
    exact ⟨by rw [HE.out]; rfl, below_drewN (Below.refl _ _) nq⟩
/-- What ask answers of two names. -/
def Dm.ask2 (d : Dm) (s t : Nm) : Option Nat × Int :=
  if d.power = false then (none, 2) else if legalB (bs s) = false then (none, 34) else if legalB (bs t) = false then (none, 34) else match lk d.names s with
    | none => (none, 32)
    | some i => (some i, 0)
theorem ask2 (w : World) (L : Lay) (gd : Nat) (d : Dm) (h : DAt w L gd d) (b o c : Nat) (s t : Nm) (hs : s.length ≤ maxLen) (ht : t.length ≤ maxLen) (hc : w.cell? ⟨b, o, none⟩ = some (.string (bs s))) (hc1 : w.cell? ⟨b, o + 1, none⟩ = some (.string (bs t))) :
    Calls Tryz.prog 47 #[.pointer (some ⟨gd, 0, none⟩), .slice (some ⟨b, o, none⟩) 2 c] w fun e w' => e = .returned (.tuple #[madeV L.fa (d.ask2 s t).1, .int .i64 (d.ask2 s t).2]) ∧ Below w.heap.size w w' := by
  obtain ⟨-, -, -, -, -, c5, c6, -⟩ := h.cells
  have HL := Lib.hid (lenBs hs)
  have HT := Lib.hid (lenBs ht)
  have hlk : ∀ nq : Nat, (Instr.lookup 43 (.map (some L.nb)) (.string (bs s)) false).run Tryz.prog (w.drewN nq) = .ok (madeV L.fa (lk d.names s)) (w.drewN nq) := fun nq => (h.below (below_drewN (Below.refl _ _) nq)).nm.look hs
  clear h
  cases hp : d.power
  · rw [hp] at c5
    have HE := Lib.hid (show d.ask2 s t = (none, 2) by unfold Dm.ask2; rw [if_pos hp])
    clear hlk
    go_enter Tryz.func47, Tryz.ntmps47
    go_wp2
    go_returns
    exact ⟨by rw [HE.out]; rfl, Below.refl _ _⟩
  rw [hp] at c5
  cases hl : legalB (bs s)
  · have HE := Lib.hid (show d.ask2 s t = (none, 34) by unfold Dm.ask2; rw [if_neg (by simp [hp]), if_pos hl])
    clear hlk
    go_enter Tryz.func47, Tryz.ntmps47
    go_wp2_with fail
    refine wp_loop_rounds 1 ?_
    rw [rounds_succ]
    go_wp2_with (go_at_call 62; refine (legal_any _ _ HL.out).mono ?_; rintro e w' ⟨rfl, rfl⟩; rw [hl])
    go_returns
    exact ⟨by rw [HE.out]; rfl, Below.refl _ _⟩
  cases hl2 : legalB (bs t)
  · have HE := Lib.hid (show d.ask2 s t = (none, 34) by unfold Dm.ask2; rw [if_neg (by simp [hp]), if_neg (by simp [hl]), if_pos hl2])
    clear hlk
    go_enter Tryz.func47, Tryz.ntmps47
    go_wp2_with fail
    refine wp_loop_rounds 2 ?_
    rw [rounds_succ]
    go_wp2_with (go_at_call 62; refine (legal_any _ _ HL.out).mono ?_; rintro e w' ⟨rfl, rfl⟩; rw [hl])
    rw [rounds_succ]
    go_wp2_with (go_at_call 62; refine (legal_any _ _ HT.out).mono ?_; rintro e w' ⟨rfl, rfl⟩; rw [hl2])
    go_returns
    exact ⟨by rw [HE.out]; rfl, Below.refl _ _⟩
  have HE0 : d.ask2 s t = match lk d.names s with | none => (none, 32) | some i => (some i, 0) := by unfold Dm.ask2; rw [if_neg (by simp [hp]), if_neg (by simp [hl]), if_neg (by simp [hl2])]
  cases hk : lk d.names s with
  | none =>
    rw [hk] at HE0
    have HE := Lib.hid HE0
    clear HE0
    rw [hk, show madeV L.fa none = .pointer none from rfl] at hlk
    go_enter Tryz.func47, Tryz.ntmps47
    go_wp2_with fail
    refine wp_loop_rounds 3 ?_
    rw [rounds_succ]
    go_wp2_with (go_at_call 62; refine (legal_any _ _ HL.out).mono ?_; rintro e w' ⟨rfl, rfl⟩; rw [hl])
    rw [rounds_succ]
    go_wp2_with (go_at_call 62; refine (legal_any _ _ HT.out).mono ?_; rintro e w' ⟨rfl, rfl⟩; rw [hl2])
    rw [rounds_succ]
    go_wp2_with fail
    go_quiet (fail)
    clear hlk
    go_wp2
    go_returns
    exact ⟨by rw [HE.out]; rfl, below_drewN (Below.refl _ _) nq⟩
  | some i =>
    rw [hk] at HE0
    have HE := Lib.hid HE0
    clear HE0
    rw [hk, show madeV L.fa (some i) = .pointer (some ⟨L.fa i, 0, none⟩) from rfl] at hlk
    go_enter Tryz.func47, Tryz.ntmps47
    go_wp2_with fail
    refine wp_loop_rounds 3 ?_
    rw [rounds_succ]
    go_wp2_with (go_at_call 62; refine (legal_any _ _ HL.out).mono ?_; rintro e w' ⟨rfl, rfl⟩; rw [hl])
    rw [rounds_succ]
    go_wp2_with (go_at_call 62; refine (legal_any _ _ HT.out).mono ?_; rintro e w' ⟨rfl, rfl⟩; rw [hl2])
    rw [rounds_succ]
    go_wp2_with fail
    go_quiet (fail)
    clear hlk
    go_wp2
    go_returns
    exact ⟨by rw [HE.out]; rfl, below_drewN (Below.refl _ _) nq⟩
end Go.Proofs.YteoggphafhcchaaGreat
