import Derived.Test.YteoggphafhcchaaGreatM20
import Derived.Laws.EntriesVeiled
namespace Go.Proofs.YteoggphafhcchaaGreat
open Go Go.RowKit
set_option maxRecDepth 100000
set_option maxHeartbeats 1000000
set_option linter.unusedVariables false
set_option linter.unusedSimpArgs false
open Go.Maps Go.WideMaps
abbrev boxFn (bs_ bp bd : Nat) : Obj := .cells #[.func (.func 66) #[] #[.pointer (some ⟨bs_, 0, none⟩), .pointer (some ⟨bp, 0, none⟩), .pointer (some ⟨bd, 0, none⟩)]] 77
/-- The whole of an Append. -/
theorem append2_any (w : World) (L : Lay) (gd : Nat) (d : Dm) (h : DAt w L gd d) (i : Nat) (hi : i < d.fs.length) (a : Option Addr) (m c : Nat) (fit : List UInt8) (hfit : RdO w L.ρ a m c fit) (hml : (d.file i).now.length + m ≤ 2147483647) (hlo : (d.file i).loose.length < 1099511627776)
    (bs_ bp bd bf : Nat) (hbs : Cap w L.ρ bs_ (boxS a m c)) (hbp : Cap w L.ρ bp (boxP (L.fa i))) (hbd : Cap w L.ρ bd (boxD gd)) (hbf : Cap w L.ρ bf (boxFn bs_ bp bd)) :
    Calls Tryz.prog 68 #[.pointer (some ⟨bf, 0, none⟩), .pointer (some ⟨bs_, 0, none⟩)] w fun e w' => e = .returned (.tuple #[]) ∧ ∃ L', DAt w' L' gd (partOf i fit m d) ∧ Upd L.ρ L'.ρ w w' := by
  have k0 := cell0 hbf.1
  have k1 := cell0 hbs.1
  have HX := Lib.hid (append1_any w L gd d h i hi a m c fit hfit hml hlo m bs_ bp bd hbs hbp hbd)
  clear h hfit hbs hbp hbd hbf hml hlo
  go_enter Tryz.func68, Tryz.ntmps68
  go_wp2_with (go_at_call 66; refine HX.out.mono ?_; rintro e w4 ⟨rfl, hx⟩)
  go_end0
  exact ⟨rfl, hx⟩
abbrev apB : ByteArray := ⟨#[65, 112, 112, 101, 110, 100]⟩
theorem append_any (w : World) (L : Lay) (gd : Nat) (d : Dm) (h : DAt w L gd d) (hp : Pre d) (s : Nm) (hs : s.length ≤ maxLen) (pa : Option Addr) (pn pc : Nat) (p : List UInt8) (hrd : RdO w L.ρ pa pn pc p) (hpn : pn ≤ 140737488355328) :
    Calls Tryz.prog 40 #[.pointer (some ⟨gd, 0, none⟩), .string (bs s), .slice pa pn pc] w fun e w' => ∃ L', DAt w' L' gd (d.append s p).1 ∧ Upd L.ρ L'.ρ w w' ∧ ∃ v, e = .returned v ∧ ToldV v w' L'.ρ apB (bs s) (d.append s p).2 := by
  obtain ⟨w1, hw1⟩ : ∃ w1, w1 = w.alloc (boxD gd) := ⟨_, rfl⟩
  have hb1 : Below w.heap.size w w1 := by rw [hw1]; exact bel1 _ _
  have g0 : w1.heap[w.heap.size]? = some (boxD gd) := by rw [hw1]; exact heap_alloc_new w _
  have HD1 := Lib.hid (h.below hb1)
  have HU1 := Lib.hid (Upd.of_below (ρ := L.ρ) hb1)
  have G0 := Lib.hid (show Cap w1 L.ρ w.heap.size (boxD gd) from ⟨g0, h.new _ (Nat.le_refl _)⟩)
  have k0 := cell0 g0
  have z1 : w.heap.size < w1.heap.size := by rw [hw1]; simp
  have HP := Lib.hid hp
  have HRD := Lib.hid hrd
  have HA := Lib.hid (ask1 (w1.alloc (.cells #[.string (bs s)] 9)) L gd d (HD1.out.below (bel1 _ _)) w1.heap.size 0 1 s hs (cell0 (heap_alloc_new w1 _)))
  clear h hb1 g0 hp hrd
  go_enter Tryz.func40, Tryz.ntmps40
  go_upto_region 1 with (fail)
  rw [← hw1]
  clear hw1
  go_wp2_with fail
  with_reducible refine HA.out.mono ?_
  rintro e w3 ⟨rfl, hb3⟩
  have hb13 : Below w1.heap.size w1 w3 := (bel1 w1 _).trans (hb3.mono (by simp))
  have HD3 := Lib.hid (HD1.out.below hb13)
  have HU3 := Lib.hid (HU1.out.trans (Upd.of_below (ρ := L.ρ) hb13))
  have HG0 := Lib.hid (G0.out.below hb13)
  have hz3 : w1.heap.size ≤ w3.heap.size := hb13.size
  clear k0 hb13 hb3 HA
  obtain ⟨r, why, hask⟩ : ∃ r why, d.ask s = (r, why) := ⟨_, _, rfl⟩
  rw [hask]
  dsimp only
  cases e0 : (why == 0)
  · have hr : r = none := ask_fst hask (by simpa using e0)
    subst hr
    have e0n : (why != 0) = true := by rw [bne, e0]; rfl
    have HE := Lib.hid (show d.append s p = (d, why) by unfold Dm.append; rw [hask])
    have HD4 := Lib.hid (HD3.out.below (bel1 w3 (.cells #[.pointer none] 76)))
    have HU4 := Lib.hid (HU3.out.trans (Upd.of_below (ρ := L.ρ) (bel1 w3 (.cells #[.pointer none] 76))))
    rw [show madeV L.fa none = .pointer none from rfl]
    clear hask
    go_wp2_with fail
    with_reducible refine (told2 (w3.alloc (.cells #[.pointer none] 76)) L.ρ HD4.out.dom apB (bs s) why).mono ?_
    rintro e w9 ⟨⟨v, rfl, hv⟩, hb9⟩
    have HV := Lib.hid hv
    have HB9 := Lib.hid hb9
    clear hv hb9
    go_wp2_with fail
    go_ret
    exact ⟨L, by rw [HE.out]; exact HD4.out.below HB9.out, HU4.out.trans (Upd.of_below HB9.out), v, rfl, by rw [HE.out]; exact HV.out⟩
  obtain rfl : why = 0 := by simpa using e0
  clear e0
  obtain ⟨i, rfl, hk, hl⟩ := ask_zero hask
  have hi : i < d.fs.length := HP.out.refs.nm s i hk
  rw [show madeV L.fa (some i) = .pointer (some ⟨L.fa i, 0, none⟩) from rfl]
  obtain ⟨w4, hw4⟩ : ∃ w4, w4 = w3.alloc (boxP (L.fa i)) := ⟨_, rfl⟩
  have hb4 : Below w3.heap.size w3 w4 := by rw [hw4]; exact bel1 _ _
  have hcap : Cap w4 L.ρ w3.heap.size (boxP (L.fa i)) := ⟨by rw [hw4]; exact heap_alloc_new w3 _, HD3.out.new _ (Nat.le_refl _)⟩
  have hd4 := HD3.out.below hb4
  have hz4 : w3.heap.size < w4.heap.size := by rw [hw4]; simp
  have HCAP := Lib.hid hcap
  have HD4 := Lib.hid hd4
  have HU4 := Lib.hid (HU3.out.trans (Upd.of_below (ρ := L.ρ) hb4))
  have HG04 := Lib.hid (HG0.out.below hb4)
  have HRD4 := Lib.hid (HRD.out.upd HU4.out)
  obtain ⟨vn, vs, vl, hf⟩ := hd4.at hi
  obtain ⟨av, cv, hvn, -⟩ := owns_shape hf.now.1
  obtain ⟨nv, hnv⟩ : ∃ nv, nv = (d.file i).now.length := ⟨_, rfl⟩
  rw [← hnv] at hvn
  subst hvn
  have n1 := hf.cells.2.1
  have kp := cell0 hcap.1
  have kd := cell0 HG04.out.1
  have c1 := hd4.cells.2.1
  have c2 := hd4.cells.2.2.1
  have HNV := Lib.hid hnv
  have hnl : nv ≤ 2147483647 := by rw [hnv]; exact (HP.out.file i).1
  have hpl : p.length = pn := HRD.out.1.1
  have HPL := Lib.hid hpl
  have HASK := Lib.hid hask
  clear hb4 hcap hd4 hf hnv hask hpl hk hl
  go_upto_region 2 with (fail)
  rw [← hw4]
  clear hw4
  by_cases hbig : (2147483647 : Int) - (nv : Int) < (pn : Int)
  · have HE := Lib.hid (show d.append s p = (d, 31) by unfold Dm.append; rw [HASK.out]; dsimp only; rw [if_pos (by rw [← HNV.out, HPL.out]; exact hbig)])
    go_wp2_with fail
    with_reducible refine (told2 w4 L.ρ HD4.out.dom apB (bs s) 31).mono ?_
    rintro e w9 ⟨⟨v, rfl, hv⟩, hb9⟩
    have HV := Lib.hid hv
    have HB9 := Lib.hid hb9
    clear hv hb9
    go_wp2_with fail
    go_ret
    exact ⟨L, by rw [HE.out]; exact HD4.out.below HB9.out, HU4.out.trans (Upd.of_below HB9.out), v, rfl, by rw [HE.out]; exact HV.out⟩
  obtain ⟨sp, hsp⟩ : ∃ sp, sp = d.space := ⟨_, rfl⟩
  obtain ⟨us, hus⟩ : ∃ us, us = d.used := ⟨_, rfl⟩
  rw [← hsp] at c1
  rw [← hus] at c2
  have HSU := Lib.hid (And.intro hsp hus)
  clear hsp hus
  obtain ⟨m, hm, hmp⟩ : ∃ m : Nat, min (pn : Int) (max (wrap64 (sp - us)) 0) = (m : Int) ∧ m ≤ pn := ⟨(min (pn : Int) (max (wrap64 (sp - us)) 0)).toNat, by omega, by omega⟩
  have hsl := fun wx => slice_cut wx pa pn pc m (by have := HRD.out.1.2.1; omega)
  have hm' : min (pn : Int) (max (IntKind.i64.wrap (sp - us)) 0) = (m : Int) := by rw [IntWalk.i64_left]; exact hm
  go_wp2_with fail
  refine wp_region_held_drew (S := fun w' => w'.cell? ⟨w.heap.size, 0, none⟩ = some (.pointer (some ⟨gd, 0, none⟩)) ∧ w'.cell? ⟨gd, 1, none⟩ = some (.int .i64 sp) ∧ w'.cell? ⟨gd, 2, none⟩ = some (.int .i64 us)) (by kernel_rfl) ⟨kd, c1, c2⟩ (fun hHeld => ?_)
  refine wpAnyH_take (i := 0) (oi := _) (v := ?_) rfl (by kernel_rfl) (by kernel_rfl) (by kernel_rfl) (fun _ _ _ h => h) (Or.inl ⟨by rfl, ?_⟩) (by assumption) ?_
  rotate_left
  · intro w hSw
    (try dsimp only at hSw)
    go_simp
    all_goals (first | done | with_reducible rfl)
  (try simp only [Act.put, List.setIfInBounds_toArray, List.set_cons_zero, List.set_cons_succ, List.getElem_toArray, List.getElem_cons_succ, List.getElem_cons_zero])
  refine wpAnyH_take (i := 1) (oi := _) (v := ?_) rfl (by kernel_rfl) (by kernel_rfl) (by kernel_rfl) (fun _ _ _ h => h) (Or.inl ⟨by rfl, ?_⟩) (by assumption) ?_
  rotate_left
  · intro w hSw
    (try dsimp only at hSw)
    go_simp
    all_goals (first | done | with_reducible rfl)
  (try simp only [Act.put, List.setIfInBounds_toArray, List.set_cons_zero, List.set_cons_succ, List.getElem_toArray, List.getElem_cons_succ, List.getElem_cons_zero])
  refine wpAnyH_take (i := 2) (oi := _) (v := ?_) rfl (by kernel_rfl) (by kernel_rfl) (by kernel_rfl) (fun _ _ _ h => h) (Or.inl ⟨by rfl, ?_⟩) (by assumption) ?_
  rotate_left
  · intro w hSw
    (try dsimp only at hSw)
    go_simp
    all_goals (first | done | with_reducible rfl)
  (try simp only [Act.put, List.setIfInBounds_toArray, List.set_cons_zero, List.set_cons_succ, List.getElem_toArray, List.getElem_cons_succ, List.getElem_cons_zero])
  refine wpAnyH_take (i := 3) (oi := _) (v := ?_) rfl (by kernel_rfl) (by kernel_rfl) (by kernel_rfl) (fun _ _ _ h => h) (Or.inl ⟨by rfl, ?_⟩) (by assumption) ?_
  rotate_left
  · intro w hSw
    (try dsimp only at hSw)
    go_simp
    all_goals (first | done | with_reducible rfl)
  (try simp only [Act.put, List.setIfInBounds_toArray, List.set_cons_zero, List.set_cons_succ, List.getElem_toArray, List.getElem_cons_succ, List.getElem_cons_zero])
  refine wpAnyH_take (i := 4) (oi := _) (v := ?_) rfl (by kernel_rfl) (by kernel_rfl) (by kernel_rfl) (fun _ _ _ h => h) (Or.inl ⟨by rfl, ?_⟩) (by assumption) ?_
  rotate_left
  · intro w hSw
    (try dsimp only at hSw)
    go_simp
    all_goals (first | done | with_reducible rfl)
  (try simp only [Act.put, List.setIfInBounds_toArray, List.set_cons_zero, List.set_cons_succ, List.getElem_toArray, List.getElem_cons_succ, List.getElem_cons_zero])
  refine wpAnyH_take (i := 5) (oi := _) (v := ?_) rfl (by kernel_rfl) (by kernel_rfl) (by kernel_rfl) (fun _ _ _ h => h) (Or.inl ⟨by rfl, ?_⟩) (by assumption) ?_
  rotate_left
  · intro w hSw
    (try dsimp only at hSw)
    go_simp
    all_goals (first | done | with_reducible rfl)
  (try simp only [Act.put, List.setIfInBounds_toArray, List.set_cons_zero, List.set_cons_succ, List.getElem_toArray, List.getElem_cons_succ, List.getElem_cons_zero])
  refine wpAnyH_take (i := 6) (oi := _) (v := ?_) rfl (by kernel_rfl) (by kernel_rfl) (by kernel_rfl) (fun _ _ _ h => h) (Or.inl ⟨by rfl, ?_⟩) (by assumption) ?_
  rotate_left
  · intro w hSw
    (try dsimp only at hSw)
    go_simp
    all_goals (first | done | with_reducible rfl)
  (try simp only [Act.put, List.setIfInBounds_toArray, List.set_cons_zero, List.set_cons_succ, List.getElem_toArray, List.getElem_cons_succ, List.getElem_cons_zero])
  refine wpAnyH_take (i := 7) (oi := _) (v := ?_) rfl (by kernel_rfl) (by kernel_rfl) (by kernel_rfl) (fun _ _ _ h => h) (Or.inl ⟨by rfl, ?_⟩) (by assumption) ?_
  rotate_left
  · intro w hSw
    (try dsimp only at hSw)
    go_simp
    all_goals (first | done | with_reducible rfl)
  (try simp only [Act.put, List.setIfInBounds_toArray, List.set_cons_zero, List.set_cons_succ, List.getElem_toArray, List.getElem_cons_succ, List.getElem_cons_zero])
  refine wpAnyH_take (i := 8) (oi := _) (v := ?_) rfl (by kernel_rfl) (by kernel_rfl) (by kernel_rfl) (fun _ _ _ h => h) (Or.inl ⟨by rfl, ?_⟩) (by assumption) ?_
  rotate_left
  · intro w hSw
    (try dsimp only at hSw)
    go_simp
    all_goals (first | done | with_reducible rfl)
  (try simp only [Act.put, List.setIfInBounds_toArray, List.set_cons_zero, List.set_cons_succ, List.getElem_toArray, List.getElem_cons_succ, List.getElem_cons_zero])
  refine wpAnyH_take (i := 9) (oi := _) (v := ?_) rfl (by kernel_rfl) (by kernel_rfl) (by kernel_rfl) (fun _ _ _ h => h) (Or.inl ⟨by rfl, ?_⟩) (by assumption) ?_
  rotate_left
  · intro w hSw
    (try dsimp only at hSw)
    go_simp
    all_goals (first | done | with_reducible rfl)
  (try simp only [Act.put, List.setIfInBounds_toArray, List.set_cons_zero, List.set_cons_succ, List.getElem_toArray, List.getElem_cons_succ, List.getElem_cons_zero])
  refine wpAnyH_take (i := 10) (oi := _) (v := ?_) rfl (by kernel_rfl) (by kernel_rfl) (by kernel_rfl) (fun _ _ _ h => h) (Or.inl ⟨by rfl, ?_⟩) (by assumption) ?_
  rotate_left
  · intro w hSw
    (try dsimp only at hSw)
    go_simp
    all_goals (first | done | with_reducible rfl)
  (try simp only [Act.put, List.setIfInBounds_toArray, List.set_cons_zero, List.set_cons_succ, List.getElem_toArray, List.getElem_cons_succ, List.getElem_cons_zero])
  refine wpAnyH_take (i := 11) (oi := _) (v := ?_) rfl (by kernel_rfl) (by kernel_rfl) (by kernel_rfl) (fun _ _ _ h => h) (Or.inl ⟨by rfl, ?_⟩) (by assumption) ?_
  rotate_left
  · intro w hSw
    (try dsimp only at hSw)
    go_simp
    all_goals (first | done | with_reducible rfl)
  (try simp only [Act.put, List.setIfInBounds_toArray, List.set_cons_zero, List.set_cons_succ, List.getElem_toArray, List.getElem_cons_succ, List.getElem_cons_zero])
  refine wpAnyH_take (i := 12) (oi := _) (v := ?_) rfl (by kernel_rfl) (by kernel_rfl) (by kernel_rfl) (fun _ _ _ h => h) (Or.inl ⟨by rfl, ?_⟩) (by assumption) ?_
  rotate_left
  · intro w hSw
    (try dsimp only at hSw)
    go_simp
    all_goals (first | done | with_reducible rfl)
  (try simp only [Act.put, List.setIfInBounds_toArray, List.set_cons_zero, List.set_cons_succ, List.getElem_toArray, List.getElem_cons_succ, List.getElem_cons_zero])
  refine wpAnyH_take (i := 13) (oi := _) (v := ?_) rfl (by kernel_rfl) (by kernel_rfl) (by kernel_rfl) (fun _ _ _ h => h) (Or.inl ⟨by rfl, ?_⟩) (by assumption) ?_
  rotate_left
  · intro w hSw
    (try dsimp only at hSw)
    go_simp
    all_goals (first | done | with_reducible rfl)
  (try simp only [Act.put, List.setIfInBounds_toArray, List.set_cons_zero, List.set_cons_succ, List.getElem_toArray, List.getElem_cons_succ, List.getElem_cons_zero])
  refine wpAnyH_take (i := 14) (oi := _) (v := ?_) rfl (by kernel_rfl) (by kernel_rfl) (by kernel_rfl) (fun _ _ _ h => h) (Or.inl ⟨by rfl, ?_⟩) (by assumption) ?_
  rotate_left
  · intro w hSw
    (try dsimp only at hSw)
    go_simp
    all_goals (first | done | with_reducible rfl)
  (try simp only [Act.put, List.setIfInBounds_toArray, List.set_cons_zero, List.set_cons_succ, List.getElem_toArray, List.getElem_cons_succ, List.getElem_cons_zero])
  refine wpAnyH_ready (rs := [15]) (by kernel_rfl) (by simp) ?_
  refine AllReadyH.cons (o := _) rfl (fun K hK => ?_) AllReadyH.nil
  go_simp
  refine hK.out _ _ ⟨keepc (bel1 w4.drew _) kd, keepc (bel1 w4.drew _) c1, keepc (bel1 w4.drew _) c2⟩ (fun hHeld => ?_)
  clear hK K
  (try simp only [Act.put, List.setIfInBounds_toArray, List.set_cons_zero, List.set_cons_succ, List.getElem_toArray, List.getElem_cons_succ, List.getElem_cons_zero])
  refine wpAnyH_ready (rs := [16]) (by kernel_rfl) (by simp) ?_
  refine AllReadyH.cons (o := _) rfl (fun K hK => ?_) AllReadyH.nil
  go_simp
  refine hK.out _ _ ⟨keepc (show Below w4.heap.size w4 (w4.alloc (boxS pa m pc)).drew from (bel1 w4 _).drew) kd, keepc (show Below w4.heap.size w4 (w4.alloc (boxS pa m pc)).drew from (bel1 w4 _).drew) c1, keepc (show Below w4.heap.size w4 (w4.alloc (boxS pa m pc)).drew from (bel1 w4 _).drew) c2⟩ (fun hHeld => ?_)
  clear hK K
  (try simp only [Act.put, List.setIfInBounds_toArray, List.set_cons_zero, List.set_cons_succ, List.getElem_toArray, List.getElem_cons_succ, List.getElem_cons_zero])
  refine wpAnyH_done (by kernel_rfl) ?_ _
  obtain ⟨w5, hw5⟩ : ∃ w5, w5 = (w4.alloc (boxS pa m pc)).drew := ⟨_, rfl⟩
  have hb5 : Below w4.heap.size w4 w5 := by rw [hw5]; exact (bel1 w4 _).drew
  have hs5 : Cap w5 L.ρ w4.heap.size (boxS pa m pc) := ⟨by rw [hw5]; exact heap_alloc_new w4 _, HD4.out.new _ (Nat.le_refl _)⟩
  have hz5 : w4.heap.size < w5.heap.size := by rw [hw5]; show _ < (w4.alloc (boxS pa m pc)).heap.size; simp
  rw [← hw5]
  obtain ⟨w6, hw6⟩ : ∃ w6, w6 = w5.alloc (boxFn w4.heap.size w3.heap.size w.heap.size) := ⟨_, rfl⟩
  have hb56 : Below w5.heap.size w5 w6 := by rw [hw6]; exact bel1 _ _
  have hb6 : Below w4.heap.size w4 w6 := hb5.trans (hb56.mono hb5.size)
  have HF6 := Lib.hid (show Cap w6 L.ρ w5.heap.size (boxFn w4.heap.size w3.heap.size w.heap.size) from ⟨by rw [hw6]; exact heap_alloc_new w5 _, HD4.out.new _ (by omega)⟩)
  have HS6 := Lib.hid (hs5.below hb56)
  have HD6 := Lib.hid (HD4.out.below hb6)
  have HU6 := Lib.hid (HU4.out.trans (Upd.of_below (ρ := L.ρ) hb6))
  have HB6 := Lib.hid (HCAP.out.below hb6)
  have HG6 := Lib.hid (HG04.out.below hb6)
  have HR6 := Lib.hid (HRD4.out.upd (Upd.of_below (ρ := L.ρ) hb6))
  have kd6 := cell0 HG6.out.1
  have c06 := HD6.out.cells.1
  have hbd6 : w.heap.size < w6.heap.size := (Array.getElem?_eq_some_iff.1 HG6.out.1).1
  have hgd6 : gd < w6.heap.size := HD6.out.lt
  clear hb5 hs5 hw5 hb56 hb6 kd kp n1 c1 c2 hsl hm' hHeld
  have HM := Lib.hid hm
  clear hm
  go_upto_region 8 with (fail)
  rw [← hw6]
  clear hw6
  have hfld : ∀ (f : Flt) (wx : World), (Instr.field 56 (fltA f) 1).run Tryz.prog wx = .ok (.int .i64 f.kind) wx := fun f wx => by kernel_rfl
  have HPL6 := Lib.hid (planned_any w6.drew L gd d (HD6.out.below (Below.refl _ _).drew) d.acts)
  obtain ⟨f0, hf0⟩ : ∃ f0, f0 = d.planned d.acts := ⟨_, rfl⟩
  have HF0 := Lib.hid hf0
  rw [← hf0] at HPL6
  clear hf0
  go_wp2_with fail
  go_region_held3 (fun w' => w'.cell? ⟨w.heap.size, 0, none⟩ = some (.pointer (some ⟨gd, 0, none⟩)) ∧ w'.cell? ⟨gd, 0, none⟩ = some (.int .i64 d.acts)) (first | exact ⟨kd6, c06⟩ | exact ⟨keepc hb7 kd6, keepc hb7 c06⟩)
    (first | (go_at_call 67; refine HPL6.out.mono ?_; rintro e w7 ⟨rfl, hb7⟩; have hfl := hfld f0))
  have hb7' : Below w6.heap.size w6 w7 := ((Below.refl w6.heap.size w6).drew).trans hb7
  have HD7 := Lib.hid (HD6.out.below hb7')
  have HU7 := Lib.hid (HU6.out.trans (Upd.of_below (ρ := L.ρ) hb7'))
  have HF7 := Lib.hid (HF6.out.below hb7')
  have HS7 := Lib.hid (HS6.out.below hb7')
  have HB7 := Lib.hid (HB6.out.below hb7')
  have HG7 := Lib.hid (HG6.out.below hb7')
  have HR7 := Lib.hid (show RdO w7 L.ρ pa m pc (p.take m) from ⟨(HR6.out.upd (Upd.of_below (ρ := L.ρ) hb7')).1.take m hmp, fun b off e h0 => (HR6.out.upd (Upd.of_below (ρ := L.ρ) hb7')).2 b off e (by omega)⟩)
  have kd7 := cell0 HG7.out.1
  have kf7 := cell0 HF7.out.1
  clear hb7 hb7' kd6 c06 hfl hfld
  have hml : (d.file i).now.length + m ≤ 2147483647 := by rw [← HNV.out]; omega
  have HBG := Lib.hid (begin_append w7 L gd d HD7.out (by have := HP.out.acts; omega) (.pointer (some ⟨w5.heap.size, 0, none⟩)) (.pointer (some ⟨w4.heap.size, 0, none⟩)) (.pointer (some ⟨w4.heap.size, 0, none⟩)) (.pointer (some ⟨w3.heap.size, 0, none⟩)) (.pointer (some ⟨w.heap.size, 0, none⟩)) (partOf i (p.take m) m) (partOf i (p.take m))
    (fun w2 hu2 hd2 => append2_any w2 L gd _ hd2 i hi pa m pc (p.take m) (HR7.out.upd hu2) hml (HP.out.file i).2.2 w4.heap.size w3.heap.size w.heap.size w5.heap.size (HS7.out.upd hu2) (HB7.out.upd hu2) (HG7.out.upd hu2) (HF7.out.upd hu2))
    (fun w2 n hu2 hd2 => append1_any w2 L gd _ hd2 i hi pa m pc (p.take m) (HR7.out.upd hu2) hml (HP.out.file i).2.2 n w4.heap.size w3.heap.size w.heap.size (HS7.out.upd hu2) (HB7.out.upd hu2) (HG7.out.upd hu2)))
  obtain ⟨rr, hrr⟩ : ∃ rr, rr = d.begin (partOf i (p.take m) m) (partOf i (p.take m)) := ⟨_, rfl⟩
  rw [← hrr] at HBG
  have hpm : p.take (max (wrap64 (d.space - d.used)) 0).toNat = p.take m := by
    rw [← HSU.out.1, ← HSU.out.2]
    have h1 := HM.out
    have h2 := HPL.out
    by_cases hc : (max (wrap64 (sp - us)) 0).toNat ≤ pn
    · rw [show m = (max (wrap64 (sp - us)) 0).toNat by omega]
    · rw [List.take_of_length_le (by omega), List.take_of_length_le (by omega)]
  have hpt : (p.take m).length = m := by rw [List.length_take]; have := HPL.out; omega
  have HAP := Lib.hid (show d.append s p = if f0.kind = 0 ∧ m < pn then (rr.1, 31) else rr by
    unfold Dm.append; rw [HASK.out]; dsimp only
    rw [if_neg (by rw [← HNV.out, HPL.out]; omega), hpm, hpt, ← HF0.out, HPL.out, hrr])
  clear hpm hpt hml hrr hnl hbig
  cases e1 : (f0.kind == 0)
  · have HE := Lib.hid (show d.append s p = rr by rw [HAP.out, if_neg (fun h => by rw [beq_eq_false_iff_ne] at e1; exact e1 h.1)])
    have e1n : (f0.kind != 0) = true := by rw [bne, e1]; rfl
    clear HAP
    go_wp2_with (go_at_call 48; refine HBG.out.mono ?_; rintro e w8 ⟨rfl, L8, hd8, hu8⟩; have HD8 := Lib.hid hd8; have HU8 := Lib.hid (HU7.out.trans hu8); have k8 := cell0 (HS7.out.upd hu8).1; clear hd8 hu8 kd7 kf7)
    with_reducible refine (told2 w8 L8.ρ HD8.out.dom apB (bs s) rr.2).mono ?_
    rintro e w9 ⟨⟨v, rfl, hv⟩, hb9⟩
    have HV := Lib.hid hv
    have HB9 := Lib.hid hb9
    clear hv hb9
    go_wp2_with fail
    go_ret
    exact ⟨L8, by rw [HE.out]; exact HD8.out.below HB9.out, HU8.out.trans (Upd.of_below HB9.out), v, rfl, by rw [HE.out]; exact HV.out⟩
  · by_cases hmq : m < pn
    · have hmqI : (m : Int) < (pn : Int) := by omega
      have HE := Lib.hid (show d.append s p = (rr.1, 31) by rw [HAP.out, if_pos ⟨by simpa using e1, hmq⟩])
      have e1n : (f0.kind != 0) = false := by rw [bne, e1]; rfl
      clear HAP
      go_wp2_with (go_at_call 48; refine HBG.out.mono ?_; rintro e w8 ⟨rfl, L8, hd8, hu8⟩; have HD8 := Lib.hid hd8; have HU8 := Lib.hid (HU7.out.trans hu8); have k8 := cell0 (HS7.out.upd hu8).1; clear hd8 hu8 kd7 kf7)
      with_reducible refine (told2 w8 L8.ρ HD8.out.dom apB (bs s) 31).mono ?_
      rintro e w9 ⟨⟨v, rfl, hv⟩, hb9⟩
      have HV := Lib.hid hv
      have HB9 := Lib.hid hb9
      clear hv hb9
      go_wp2_with fail
      go_ret
      exact ⟨L8, by rw [HE.out]; exact HD8.out.below HB9.out, HU8.out.trans (Upd.of_below HB9.out), v, rfl, by rw [HE.out]; exact HV.out⟩
    · have hmqI : ¬ (m : Int) < (pn : Int) := by omega
      have HE := Lib.hid (show d.append s p = rr by rw [HAP.out, if_neg (fun h => hmq h.2)])
      have e1n : (f0.kind != 0) = false := by rw [bne, e1]; rfl
      clear HAP
      go_wp2_with (go_at_call 48; refine HBG.out.mono ?_; rintro e w8 ⟨rfl, L8, hd8, hu8⟩; have HD8 := Lib.hid hd8; have HU8 := Lib.hid (HU7.out.trans hu8); have k8 := cell0 (HS7.out.upd hu8).1; clear hd8 hu8 kd7 kf7)
      with_reducible refine (told2 w8 L8.ρ HD8.out.dom apB (bs s) rr.2).mono ?_
      rintro e w9 ⟨⟨v, rfl, hv⟩, hb9⟩
      have HV := Lib.hid hv
      have HB9 := Lib.hid hb9
      clear hv hb9
      go_wp2_with fail
      go_ret
      exact ⟨L8, by rw [HE.out]; exact HD8.out.below HB9.out, HU8.out.trans (Upd.of_below HB9.out), v, rfl, by rw [HE.out]; exact HV.out⟩
end Go.Proofs.YteoggphafhcchaaGreat
