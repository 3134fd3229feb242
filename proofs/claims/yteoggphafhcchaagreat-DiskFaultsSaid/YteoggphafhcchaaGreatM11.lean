import Derived.Test.YteoggphafhcchaaGreatM10
import Derived.Test.YteoggphafhcchaaGreatM6b
import Derived.Test.YteoggphafhcchaaGreatM6e
import Derived.Test.YteoggphafhcchaaGreatM6f
namespace Go.Proofs.YteoggphafhcchaaGreat
open Go Go.RowKit
set_option maxRecDepth 100000
set_option maxHeartbeats 1000000
set_option linter.unusedVariables false
set_option linter.unusedSimpArgs false
open Go.Maps Go.WideMaps
/-- What the calls ask of a disk. -/
structure Pre (d : Dm) : Prop where
  refs : Refs d
  nn : (keysOf d.names).Nodup
  ns : (keysOf d.safe).Nodup
  few : d.names.length ≤ 4096
  fewS : d.safe.length ≤ 4096
  acts : d.acts < 1099511627776
  epoch : d.epoch < 1099511627776
  fsl : d.fs.length < 1099511627776
  chl : d.changes.length < 1099511627776
  leg : ∀ s ∈ keysOf d.names, legalB (bs s) = true
  fl : ∀ f ∈ d.fs, f.now.length ≤ 2147483647 ∧ f.safe.length ≤ 2147483647 ∧ f.loose.length < 1099511627776
theorem Pre.act {d : Dm} (h : Pre d) {e : Dm} (he : e = { d with acts := d.acts + 1 }) : Refs e ∧ (keysOf e.names).Nodup ∧ e.names.length ≤ 4096 ∧ e.changes.length < 1099511627776 := by
  subst he; exact ⟨⟨h.refs.nm, h.refs.sf, h.refs.ch⟩, h.nn, h.few, h.chl⟩
theorem legal_len {s : Nm} (h : legalB (bs s) = true) : s.length ≤ 32 ∧ s ≠ [] := by
  unfold legalB at h
  simp only [Bool.and_eq_true, decide_eq_true_eq] at h
  obtain ⟨⟨⟨h1, h2⟩, -⟩, -⟩ := h
  refine ⟨by simpa [bs, ByteArray.size] using h2, fun e => ?_⟩
  subst e; simp [bs] at h1
theorem Pre.noEmpty {d : Dm} (h : Pre d) : lk d.names [] = none := by
  cases e : lk d.names [] with
  | none => rfl
  | some i =>
    have := h.leg [] (lk_some.1 (by rw [e]; rfl))
    exact absurd rfl (legal_len this).2
theorem Pre.file {d : Dm} (h : Pre d) (i : Nat) : (d.file i).now.length ≤ 2147483647 ∧ (d.file i).safe.length ≤ 2147483647 ∧ (d.file i).loose.length < 1099511627776 := by
  unfold Dm.file
  cases e : d.fs[i]? with
  | none => simp
  | some f => exact h.fl f (List.mem_of_getElem? e)
/-- A refusal, or none. -/
def ToldV (v : Value) (w' : World) (ρ : Nat → Nat) (c n : ByteArray) (y : Int) : Prop := (y = 0 ∧ v = .nilIface) ∨ (y ≠ 0 ∧ ∃ g, v = .iface 88 (.pointer (some ⟨g, 0, none⟩)) ∧ w'.heap[g]? = some (boxF c n y) ∧ ρ g = 0)
theorem told2 (w : World) (ρ : Nat → Nat) (hd : ∀ k, ρ k ≠ 0 → k < w.heap.size) (c n : ByteArray) (y : Int) : Calls Tryz.prog 52 #[.string c, .string n, .int .i64 y] w fun e w' => (∃ v, e = .returned v ∧ ToldV v w' ρ c n y) ∧ Below w.heap.size w w' := by
  have h0 : ∀ g, w.heap.size ≤ g → ρ g = 0 := fun g hg => by
    rcases Nat.eq_zero_or_pos (ρ g) with h | h
    · exact h
    · have := hd g (by omega); omega
  have H0 := Lib.hid h0
  clear hd h0
  cases hy : (y == 0)
  · have H := Lib.hid (show y ≠ 0 by simpa using hy)
    go_enter Tryz.func52, Tryz.ntmps52
    go_wp2_with (go_at_call 34; refine (newfault_any _ _ _ _).mono ?_; rintro e w' ⟨⟨g, rfl, hg, hh⟩, hb⟩)
    go_ret
    exact ⟨⟨_, rfl, .inr ⟨H.out, g, rfl, hh, H0.out g hg⟩⟩, hb⟩
  · obtain rfl : y = 0 := by simpa using hy
    go_enter Tryz.func52, Tryz.ntmps52
    go_wp2
    go_ret
    exact ⟨⟨_, rfl, .inl ⟨rfl, rfl⟩⟩, Below.refl _ _⟩
theorem NAt.len {w : World} {ρ : Nat → Nat} {r : Nat} {fa : Nat → Nat} {b : Nat} {m : List (Nm × Nat)} (h : NAt w ρ r fa b m) (ty : TypeId) : (Builtin.len_ #[43] ty #[.map (some b)]).run Tryz.prog w = .ok (.int .i64 m.length) w := by
  obtain ⟨D, hm, -, hz, -⟩ := h
  rw [hm.len Tryz.underlying43 ty, hz]
theorem ToldV.below {v : Value} {w w' : World} {ρ : Nat → Nat} {c n : ByteArray} {y : Int} (h : ToldV v w ρ c n y) (hb : Below w.heap.size w w') : ToldV v w' ρ c n y := by
  rcases h with h | ⟨h1, g, h2, h3, h4⟩
  · exact .inl h
  · exact .inr ⟨h1, g, h2, (hb.block g (Array.getElem?_eq_some_iff.1 h3).1).trans h3, h4⟩
theorem ToldV.upd {v : Value} {w w' : World} {ρ ρ' : Nat → Nat} {c n : ByteArray} {y : Int} (h : ToldV v w ρ c n y) (hu : Upd ρ ρ' w w') : ToldV v w' ρ' c n y := by
  rcases h with h | ⟨h1, g, h2, h3, h4⟩
  · exact .inl h
  · have hlt := (Array.getElem?_eq_some_iff.1 h3).1
    exact .inr ⟨h1, g, h2, (hu.block g hlt h4).trans h3, hu.ext.old g hlt h4⟩
abbrev crB : ByteArray := ⟨#[67, 114, 101, 97, 116, 101]⟩
theorem create_any (w : World) (L : Lay) (gd : Nat) (d : Dm) (h : DAt w L gd d) (hp : Pre d) (s : Nm) (hs : s.length ≤ maxLen) :
    Calls Tryz.prog 22 #[.pointer (some ⟨gd, 0, none⟩), .string (bs s)] w fun e w' => ∃ L', DAt w' L' gd (d.create s).1 ∧ Upd L.ρ L'.ρ w w' ∧ ∃ v, e = .returned v ∧ ToldV v w' L'.ρ crB (bs s) (d.create s).2 := by
  obtain ⟨w1, hw1⟩ : ∃ w1, w1 = (w.alloc (boxD gd)).alloc (boxN (bs s)) := ⟨_, rfl⟩
  have hb1 : Below w.heap.size w w1 := by rw [hw1]; exact ((Below.refl _ _).alloc (Nat.le_refl _) _).alloc (by simp) _
  have g0 : w1.heap[w.heap.size]? = some (boxD gd) := by rw [hw1]; exact heap_alloc2_old w _ _
  have g1 : w1.heap[w.heap.size + 1]? = some (boxN (bs s)) := by rw [hw1]; exact heap_alloc2_new w _ _
  have z1 : w.heap.size + 1 < w1.heap.size := by rw [hw1]; simp
  have h0 : ∀ g, w.heap.size ≤ g → L.ρ g = 0 := fun g hg => by
    rcases Nat.eq_zero_or_pos (L.ρ g) with h9 | h9
    · exact h9
    · have := h.dom g (by omega); omega
  have HD1 := Lib.hid (h.below hb1)
  have HU1 := Lib.hid (Upd.of_below (ρ := L.ρ) hb1)
  have G0 := Lib.hid (show Cap w1 L.ρ w.heap.size (boxD gd) from ⟨g0, h0 _ (Nat.le_refl _)⟩)
  have G1 := Lib.hid (show Cap w1 L.ρ (w.heap.size + 1) (boxN (bs s)) from ⟨g1, h0 _ (by omega)⟩)
  have k0 := cell0 g0
  have k1 := cell0 g1
  have HP := Lib.hid hp
  have HA := Lib.hid (ask1 (w1.alloc (.cells #[.string (bs s)] 9)) L gd d (HD1.out.below (bel1 _ _)) w1.heap.size 0 1 s hs (cell0 (heap_alloc_new w1 _)))
  clear h hb1 g0 g1 hp h0
  go_enter Tryz.func22, Tryz.ntmps22
  go_upto_region 1 with (fail)
  rw [← hw1]
  clear hw1
  go_wp2_with fail
  with_reducible refine HA.out.mono ?_
  rintro e w3 ⟨rfl, hb3⟩
  have hb13 : Below w1.heap.size w1 w3 := (bel1 w1 _).trans (hb3.mono (by simp))
  have HD3 := Lib.hid (HD1.out.below hb13)
  have HU3 := Lib.hid (HU1.out.trans (Upd.of_below (ρ := L.ρ) hb13))
  have HG0 := Lib.hid (G0.out.below hb13)
  have HG1 := Lib.hid (G1.out.below hb13)
  have m0 := cell0 HG0.out.1
  have m1 := cell0 HG1.out.1
  have z3 : w1.heap.size ≤ w3.heap.size := hb13.size
  obtain ⟨-, -, -, -, -, -, c6, -⟩ := HD3.out.cells
  have hln : ∀ ty, (Builtin.len_ #[43] ty #[.map (some L.nb)]).run Tryz.prog w3 = .ok (.int .i64 d.names.length) w3 := fun ty => HD3.out.nm.len ty
  clear k0 k1 hb13 hb3 HA
  obtain ⟨r, why, hask⟩ : ∃ r why, d.ask s = (r, why) := ⟨_, _, rfl⟩
  rw [hask]
  dsimp only
  have hcr : d.create s = if why = 0 then (d, 33) else if why = 32 then if 4096 ≤ d.names.length then (d, 31) else d.begin (fun e => ({ e with fs := e.fs ++ [⟨[], [], []⟩] } : Dm).change ⟨[], s, some e.fs.length⟩) (fun _ e => e) else (d, why) := by unfold Dm.create; rw [hask]
  have HCR := Lib.hid hcr
  have HASK := Lib.hid hask
  clear hcr hask
  cases e0 : (why == 0)
  rotate_left
  · obtain rfl : why = 0 := by simpa using e0
    have HE := Lib.hid (show d.create s = (d, 33) by rw [HCR.out]; simp)
    clear e0
    go_wp2_with fail
    with_reducible refine (told2 w3 L.ρ HD3.out.dom crB (bs s) 33).mono ?_
    rintro e w9 ⟨⟨v, rfl, hv⟩, hb9⟩
    have HV := Lib.hid hv
    have HB9 := Lib.hid hb9
    clear hv hb9
    go_wp2_with fail
    go_ret
    exact ⟨L, by rw [HE.out]; exact HD3.out.below HB9.out, HU3.out.trans (Upd.of_below HB9.out), v, rfl, by rw [HE.out]; exact HV.out⟩
  cases e32 : (why == 32)
  · have HE := Lib.hid (show d.create s = (d, why) by rw [HCR.out]; simp at e0 e32; simp [e0, e32])
    go_wp2_with fail
    with_reducible refine (told2 w3 L.ρ HD3.out.dom crB (bs s) why).mono ?_
    rintro e w9 ⟨⟨v, rfl, hv⟩, hb9⟩
    have HV := Lib.hid hv
    have HB9 := Lib.hid hb9
    clear hv hb9
    go_wp2_with fail
    go_ret
    exact ⟨L, by rw [HE.out]; exact HD3.out.below HB9.out, HU3.out.trans (Upd.of_below HB9.out), v, rfl, by rw [HE.out]; exact HV.out⟩
  obtain rfl : why = 32 := by simpa using e32
  clear e0 e32
  by_cases hfull : 4096 ≤ d.names.length
  · have HE := Lib.hid (show d.create s = (d, 31) by rw [HCR.out]; simp [hfull])
    have hfI : (4096 : Int) ≤ (d.names.length : Int) := by omega
    go_wp2_with fail
    with_reducible refine (told2 w3 L.ρ HD3.out.dom crB (bs s) 31).mono ?_
    rintro e w9 ⟨⟨v, rfl, hv⟩, hb9⟩
    have HV := Lib.hid hv
    have HB9 := Lib.hid hb9
    clear hv hb9
    go_wp2_with fail
    go_ret
    exact ⟨L, by rw [HE.out]; exact HD3.out.below HB9.out, HU3.out.trans (Upd.of_below HB9.out), v, rfl, by rw [HE.out]; exact HV.out⟩
  have hleg : legalB (bs s) = true := by
    have h1 := HASK.out
    unfold Dm.ask at h1
    split at h1
    · cases h1
    · split at h1
      · cases h1
      · rename_i h2; simpa using h2
  have hfI : ¬ (4096 : Int) ≤ (d.names.length : Int) := by omega
  have HE := Lib.hid (show d.create s = d.begin (fun e => ({ e with fs := e.fs ++ [⟨[], [], []⟩] } : Dm).change ⟨[], s, some e.fs.length⟩) (fun _ e => e) by rw [HCR.out]; simp [hfull])
  have HBG := Lib.hid (begin_create w3 L gd d HD3.out (by have := HP.out.acts; omega) (.pointer (some ⟨w.heap.size, 0, none⟩)) (.pointer (some ⟨w.heap.size + 1, 0, none⟩)) (fun e => ({ e with fs := e.fs ++ [⟨[], [], []⟩] } : Dm).change ⟨[], s, some e.fs.length⟩) (fun _ e => e)
    (fun w2 hu2 hd2 => create1_any w2 L gd _ hd2 (HP.out.act rfl).1 (by have := HP.out.fsl; show d.fs.length < _; omega) s ⟨HP.out.nn, by simp, hs, by have := HP.out.few; show d.names.length < _; omega, HP.out.chl, (fun h => by cases h), fun _ => (legal_len hleg).2⟩ w.heap.size (w.heap.size + 1) (HG0.out.upd hu2) (HG1.out.upd hu2))
    (fun w2 n hu2 hd2 => (nothing_any w2 n).mono fun e w' ⟨he, hw⟩ => by subst hw; exact ⟨he, L, hd2, Upd.refl _ _⟩))
  clear hfull hleg
  go_wp2_with (go_at_call 48; refine HBG.out.mono ?_; rintro e w4 ⟨rfl, L4, hd4, hu4⟩; have HD4 := Lib.hid hd4; have HU4 := Lib.hid (HU3.out.trans hu4); have m1' := cell0 (HG1.out.upd hu4).1; clear hd4 hu4 c6 hln m0 m1)
  obtain ⟨y, hy⟩ : ∃ y, y = (d.begin (fun e => ({ e with fs := e.fs ++ [⟨[], [], []⟩] } : Dm).change ⟨[], s, some e.fs.length⟩) (fun _ e => e)).2 := ⟨_, rfl⟩
  rw [← hy]
  have HY := Lib.hid hy
  clear hy
  with_reducible refine (told2 w4 L4.ρ HD4.out.dom crB (bs s) y).mono ?_
  rintro e w9 ⟨⟨v, rfl, hv⟩, hb9⟩
  have HV := Lib.hid hv
  have HB9 := Lib.hid hb9
  clear hv hb9
  go_wp2_with fail
  go_ret
  exact ⟨L4, by rw [HE.out]; exact HD4.out.below HB9.out, HU4.out.trans (Upd.of_below HB9.out), v, rfl, by rw [HE.out, ← HY.out]; exact HV.out⟩
end Go.Proofs.YteoggphafhcchaaGreat
