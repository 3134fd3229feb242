import Derived.Test.YtcnckjlmldnblaaDoorE61
import Derived.Test.YtcnckjlmldnblaaDoorE71
import Derived.Test.YtcnckjlmldnblaaDoorE74
import Derived.BigGuardPart
import Derived.OrdersHeld
import Derived.Deep.RegionHeld3
import Derived.Handy
import Derived.IntWalk
namespace Go.Proofs.YtcnckjlmldnblaaDoor
open Go Go.RowKit
set_option linter.unusedVariables false
set_option linter.unusedSimpArgs false
/-- What has been seen of a scope's first names. -/
def FitK (sc : List Nm) (S : Bool) (v : Vw) (k : Nat) : Prop := ∀ (j : Nat) (n : Nm), j < k → sc[j]? = some n → 1 ≤ n.b → n.b ≤ 5 → rightV (v.value n.nm) = 0 ∧ ((v.value n.nm).k = 0 ∨ (v.value n.nm).k = (namedK sc n.nm.toList).1.1) ∧ (S = true → (namedK sc n.nm.toList).1.2 = false → (v.value n.nm).k ≠ 0)
theorem FitK.fit {sc : List Nm} {S : Bool} {v : Vw} (h : FitK sc S v sc.length) (hc : 0 ≤ v.clock ∧ v.clock ≤ 4611686018427387904) : VwFit sc S v := by
  refine ⟨fun nm hn => ?_, hc⟩
  have hn' := hn
  unfold namedK at hn'
  cases hf : sc.find? (isNm nm.toList) with
  | none => rw [hf] at hn'; cases hn'
  | some n =>
    rw [hf] at hn'
    simp only [Bool.and_eq_true, decide_eq_true_eq] at hn'
    have he := List.find?_some hf
    have e : n.nm = nm := toList_inj' (by simpa [isNm] using he)
    obtain ⟨j, hj⟩ := List.getElem?_of_mem (List.mem_of_find?_eq_some hf)
    have := h j n (List.getElem?_eq_some_iff.1 hj).1 hj hn'.1 hn'.2
    rwa [e] at this
theorem FitK.step {sc : List Nm} {S S' : Bool} {v : Vw} {k : Nat} {n : Nm} (h : FitK sc S v k) (hS : S' = true → S = true) (hn : sc[k]? = some n)
    (hf : 1 ≤ n.b → n.b ≤ 5 → rightV (v.value n.nm) = 0 ∧ ((v.value n.nm).k = 0 ∨ (v.value n.nm).k = (namedK sc n.nm.toList).1.1) ∧ (S' = true → (namedK sc n.nm.toList).1.2 = false → (v.value n.nm).k ≠ 0)) : FitK sc S' v (k + 1) := fun j m hj hm h1 h5 => by
  by_cases e : j = k
  · subst e
    rw [hn] at hm
    cases hm
    exact hf h1 h5
  · obtain ⟨a, b, c⟩ := h j m (by omega) hm h1 h5
    exact ⟨a, b, fun hs => c (hS hs)⟩
abbrev boxK (n : Nm) : Obj := .cells #[.int .i64 n.b, .bool n.o] 74
theorem box2 {w' : World} {g : Nat} {x0 x1 : Value} {t : TypeId} (h : w'.heap[g]? = some (.cells #[x0, x1] t (0, 0))) :
    w'.cell? ⟨g, 0, none⟩ = some x0 ∧ w'.cell? ⟨g, 1, none⟩ = some x1 ∧ w'.frozen? ⟨g, 0, none⟩ = false ∧ w'.frozen? ⟨g, 1, none⟩ = false :=
  ⟨cell_of_row _ _ 0 _ _ _ h, cell_of_row _ _ 1 _ _ _ h, frozen_of_row _ _ _ _ _ h, frozen_of_row _ _ _ _ _ h⟩
theorem named_of {sc : List Nm} {l : List UInt8} {f : Nm} (h : (sc.drop 0).find? (isNm l) = some f) : (namedK sc l).1 = (f.b, f.o) := by
  unfold namedK
  rw [List.drop_zero] at h
  rw [h]
theorem find_down {sc : List Nm} {l : List UInt8} {m : Nat} {n f : Nm} (hn : sc[m]? = some n) (h : (sc.drop (m + 1)).find? (isNm l) = some f) : (sc.drop m).find? (isNm l) = some (if isNm l n then n else f) := by
  have e : sc.drop m = n :: sc.drop (m + 1) := by
    obtain ⟨h1, h2⟩ := List.getElem?_eq_some_iff.1 hn
    rw [← h2, ← List.drop_eq_getElem_cons h1]
  rw [e, List.find?_cons]
  cases h' : isNm l n
  · simpa using h
  · simp
theorem nil_ahead (p : Pd) : ∀ w : World, Sem.run Tryd.prog (nilAhead 281 86 (Value.agg p.cs) "Value") w = .ok (some false) w := fun w => by kernel_rfl
theorem RS.atS {α : Type} {s : Nat} {enc : α → List Value} {w : World} {b off n c : Nat} {xs : List α} (h : RS s enc w (some ⟨b, off, none⟩) n c xs) {i : Nat} {x : α} (hx : xs[i]? = some x) : ∀ j v, (enc x)[j]? = some v → w.cell? ⟨b, off + i * s + j, none⟩ = some v := by
  obtain ⟨b', o', e, hc⟩ := h.2.2.2 i x hx
  cases e
  exact hc
theorem heap_two {w1 : World} {g : Nat} {z0 z1 : Value} {t : TypeId} (h : w1.heap[g]? = some (.cells #[z0, z1] t (0, 0))) (x0 x1 : Value) : ((w1.setCell ⟨g, 0, none⟩ x0).setCell ⟨g, 1, none⟩ x1).heap[g]? = some (.cells #[x0, x1] t (0, 0)) := by
  have h0 := heap_setCell_same w1 g 0 _ _ x0 h
  exact heap_setCell_same _ g 1 _ _ x1 h0
set_option maxRecDepth 100000 in
set_option maxHeartbeats 16000000 in
theorem evalsound_walk (w : World) (na : Option Addr) (nl nc : Nat) (ns : List Nd) (hr : RS 7 Nd.cs w na nl nc ns) (hok : ∀ nd ∈ ns, nd.okA w) (hn : nl ≤ 1353245080300) (sa : Option Addr) (sn scp : Nat) (sc : List Nm) (hsc : RS 3 Nm.cs w sa sn scp sc) (p : Pd) (hp : VwArg w p) (hnt : NoTab w) (ht : ResTab w 1) (h1 : 1 < w.heap.size) :
    Calls Tryd.prog 9 #[.slice na nl nc, .slice sa sn scp, .agg p.cs] w fun e w' => e = .returned (.bool true) ∧ Below w.heap.size w w' := by
  obtain ⟨w1, hw1⟩ : ∃ w1, w1 = w.alloc (boxW35 p) := ⟨_, rfl⟩
  have g0 : w1.heap[w.heap.size]? = some (boxW35 p) := by rw [hw1]; exact heap_alloc_new w _
  have hb1 : Below w.heap.size w w1 := by rw [hw1]; exact bel1 _ _
  have z1 : w.heap.size < w1.heap.size := by rw [hw1]; simp
  have HLN := Lib.hid hr.1
  have HLS := Lib.hid hsc.1
  have hnc48 := hr.2.2.1
  have hsc48 := hsc.2.2.1
  have HR := Lib.hid hr
  have HOK := Lib.hid hok
  have HSC := Lib.hid hsc
  have HP := Lib.hid hp
  have HKS := Lib.hid (fun nd hm => ⟨(ok_k (okA_w (hok nd hm)).ok).2.2.1, by have := okA_s (hok nd hm); omega⟩ : ∀ nd ∈ ns, nd.kl ≤ 281474976710656 ∧ nd.sl ≤ 281474976710656)
  have HT := Lib.hid ht
  have HNT := Lib.hid hnt
  have H1 := Lib.hid h1
  have HB1 := Lib.hid hb1
  have G0 := Lib.hid g0
  have q0 := cell_of_row w1 _ 0 _ _ _ g0
  have q1 := cell_of_row w1 _ 1 _ _ _ g0
  have q2 := cell_of_row w1 _ 2 _ _ _ g0
  have q3 := cell_of_row w1 _ 3 _ _ _ g0
  have q4 := cell_of_row w1 _ 4 _ _ _ g0
  simp only [List.getElem?_toArray, List.getElem?_cons_zero, List.getElem?_cons_succ] at q0 q1 q2 q3 q4
  have HKN := Lib.hid (fun (W : World) (hb : Below w.heap.size w W) => known_any W (ht.below hb h1 h1) (Nat.lt_of_lt_of_le h1 hb.size))
  clear hr hok hp hsc ht hnt h1 hb1 g0
  go_enter Tryd.func9, Tryd.ntmps9
  go_upto_region 1 with (fail)
  rw [← hw1]
  clear hw1
  go_wp2_with fail
  with_reducible refine (great_any w1 na nl nc ns (HR.out.below HB1.out) HKS.out p (HP.out.below HB1.out)).mono ?_
  rintro e w2 ⟨hg, hb2⟩
  obtain ⟨g, rfl, hs⟩ := hg.cases
  have HS := Lib.hid hs
  have HB2 := Lib.hid (HB1.out.trans (hb2.mono (by omega)))
  have G2 := Lib.hid ((hb2.block _ z1).trans G0.out)
  have z2 : w.heap.size < w2.heap.size := by have := hb2.size; omega
  clear hb2 hs hg q0 q1 q2 q3 q4
  cases g
  rotate_left
  · go_wp2_with (go_at_call 16; refine (HKN.out _ HB2.out).mono ?_; rintro e w9 ⟨rfl, hb9⟩)
    go_ret
    exact ⟨rfl, HB2.out.trans (hb9.mono (by have := HB2.out.size; omega))⟩
  obtain ⟨hn5, hnd5, hnm5, hbs5⟩ := HS.out rfl
  have HND := Lib.hid hnd5
  have HBS := Lib.hid hbs5
  clear HS hnd5 hbs5
  by_cases hs5 : sn ≤ 500
  rotate_left
  · have hsI : (500 : Int) < (sn : Int) := by omega
    go_wp2_with (go_at_call 16; refine (HKN.out _ HB2.out).mono ?_; rintro e w9 ⟨rfl, hb9⟩)
    go_ret
    exact ⟨rfl, HB2.out.trans (hb9.mono (by have := HB2.out.size; omega))⟩
  have hsI : ¬ (500 : Int) < (sn : Int) := by omega
  go_wp2_with fail
  with_reducible refine (of_any w2 na nl nc ns (HR.out.below HB2.out) (fun nd hm => ((okA_w (HOK.out nd hm)).below HB2.out).ok) sa sn scp sc (HSC.out.below HB2.out) (HNT.out.below HB2.out (by have := H1.out; omega)) (HT.out.below HB2.out H1.out H1.out) (by have := H1.out; omega) (by omega)).mono ?_
  rintro e w3 ⟨⟨ka, kc, rfl, hko⟩, hb3⟩
  obtain ⟨kd, hkd⟩ : ∃ kd, kd = ofK ns sc := ⟨_, rfl⟩
  rw [← hkd] at hko ⊢
  have HKO := Lib.hid hko
  have HKD := Lib.hid hkd
  have HB3 := Lib.hid (HB2.out.trans (hb3.mono (by omega)))
  have G3 := Lib.hid ((hb3.block _ z2).trans G2.out)
  have z3 : w.heap.size < w3.heap.size := by have := hb3.size; omega
  clear hkd hko hb3
  have q0 := cell_of_row w3 _ 0 _ _ _ G3.out
  have q1 := cell_of_row w3 _ 1 _ _ _ G3.out
  have q2 := cell_of_row w3 _ 2 _ _ _ G3.out
  have q3 := cell_of_row w3 _ 3 _ _ _ G3.out
  have q4 := cell_of_row w3 _ 4 _ _ _ G3.out
  simp only [List.getElem?_toArray, List.getElem?_cons_zero, List.getElem?_cons_succ] at q0 q1 q2 q3 q4
  cases he0 : (kd.2.2 != 0)
  rotate_left
  · go_wp2_with (go_at_call 16; refine (HKN.out _ HB3.out).mono ?_; rintro e w9 ⟨rfl, hb9⟩)
    go_ret
    exact ⟨rfl, HB3.out.trans (hb9.mono (by have := HB3.out.size; omega))⟩
  by_cases hc0 : 0 ≤ p.clock
  rotate_left
  · have hcI : p.clock < 0 := by omega
    go_wp2_with (go_at_call 16; refine (HKN.out _ HB3.out).mono ?_; rintro e w9 ⟨rfl, hb9⟩)
    go_ret
    exact ⟨rfl, HB3.out.trans (hb9.mono (by have := HB3.out.size; omega))⟩
  by_cases hc1 : p.clock ≤ 4611686018427387904
  rotate_left
  · have hcI : 4611686018427387904 < p.clock := by omega
    go_wp2_with (go_at_call 16; refine (HKN.out _ HB3.out).mono ?_; rintro e w9 ⟨rfl, hb9⟩)
    go_ret
    exact ⟨rfl, HB3.out.trans (hb9.mono (by have := HB3.out.size; omega))⟩
  have hcI : ¬ p.clock < 0 := by omega
  have hcJ : ¬ 4611686018427387904 < p.clock := by omega
  have HE0 := Lib.hid (show (ofK ns sc).2.2 = 0 by rw [← HKD.out]; simpa using he0)
  have HCK := Lib.hid (show 0 ≤ p.clock ∧ p.clock ≤ 4611686018427387904 from ⟨hc0, hc1⟩)
  go_wp2_with fail
  with_reducible refine (plainA_any w3 p (HP.out.below HB3.out) (by omega) (fun b hm => by have := HBS.out b hm; omega)).mono ?_
  rintro e w4 ⟨⟨pp, rfl, hpo, hvw⟩, hb4⟩
  have HB4 := Lib.hid (HB3.out.trans (hb4.mono (by omega)))
  have HVW := Lib.hid hvw
  have HVO := Lib.hid (show VwOk pp.vw by rw [hvw]; exact vwok_of HP.out)
  have HPO := Lib.hid hpo.ok
  have HOF := Lib.hid (ofK_ok HE0.out)
  have hkl : kd.1.length = nl := by rw [HKD.out, HOF.out.2.2.1]; exact HLN.out
  have HKO4 := Lib.hid (own_below HKO.out hb4)
  clear hpo hvw hb4 q0 q1 q2 q3 q4 hcI hcJ hc0 hc1
  rw [hkl] at HKO4 ⊢
  have HKR := Lib.hid (RS.of_owns HKO4.out (by decide) Kd_len (by omega))
  clear HKO HKO4 G3 G2 G0 hkl HBS
  go_wp2_with fail
  go_loopw [11, 12] (fun s i wr => ∃ (k : Nat) (S : Bool), k ≤ sn ∧ i = .int .i64 k ∧ s = .bool S ∧ Below w4.heap.size w4 wr ∧ FitK sc S pp.vw k) (fun _ i _ => sn - (intOf i).toNat)
  case atStart => exact ⟨0, true, by omega, rfl, rfl, Below.refl _ _, fun j n hj => by omega⟩
  case round =>
    obtain ⟨k, S, hk, rfl, rfl, hb, hf⟩ := hrel
    have HBW := Lib.hid hb
    have HF := Lib.hid hf
    clear hb hf
    by_cases hlt : k < sn
    · have hltI : (k : Int) < (sn : Int) := by omega
      obtain ⟨nb, no, nd, he, hnd, -⟩ := HSC.out.at hlt
      subst he
      have HND := Lib.hid hnd
      have HRS := HSC.out.below (HB4.out.trans (HBW.out.mono HB4.out.size))
      have n0 := HRS.atS hnd 0 _ rfl
      have HN1 := Lib.hid (HRS.atS hnd 1 _ rfl)
      have HN2 := Lib.hid (HRS.atS hnd 2 _ rfl)
      simp only [Nat.add_zero] at n0
      have HNB := Lib.hid (block_lt_of_cell n0)
      clear hnd HRS
      have hna := nil_ahead pp
      go_wp2_with fail
      refine wp_region_held_drew (S := (fun w' => Below wr.heap.size wr w' ∧ w'.cell? ⟨nb, no + k * 3, none⟩ = some (.string nd.nm))) (by kernel_rfl) ⟨(Below.refl _ _).drew, n0⟩ (fun hHeld => ?_)
      clear n0
      obtain ⟨wd, hwd⟩ : ∃ wd, wd = wr.drew := ⟨_, rfl⟩
      rw [← hwd] at hHeld ⊢
      clear hwd
      refine wpAnyH_take (i := 0) (oi := _) (v := ?_) rfl (by kernel_rfl) (by kernel_rfl) (by kernel_rfl) (fun _ _ _ h => h) (Or.inl ⟨by rfl, ?_⟩) (by assumption) ?_
      rotate_left
      · intro w hSw
        (try dsimp only at hSw)
        go_simp
        all_goals (first | done | with_reducible rfl)
      (try simp only [Act.put, List.setIfInBounds_toArray, List.set_cons_zero, List.set_cons_succ, List.getElem_toArray, List.getElem_cons_succ, List.getElem_cons_zero])
      refine wpAnyH_take (i := 1) (oi := _) (v := ?_) rfl (by kernel_rfl) (by kernel_rfl) (by kernel_rfl) (fun _ _ _ h => h) (Or.inl ⟨by rfl, ?_⟩) (by assumption) ?_
      rotate_left
      · intro w hSw
        (try dsimp only at hSw)
        go_simp
        all_goals (first | done | with_reducible rfl)
      (try simp only [Act.put, List.setIfInBounds_toArray, List.set_cons_zero, List.set_cons_succ, List.getElem_toArray, List.getElem_cons_succ, List.getElem_cons_zero])
      refine wpAnyH_take (i := 2) (oi := _) (v := ?_) rfl (by kernel_rfl) (by kernel_rfl) (by kernel_rfl) (fun _ _ _ h => h) (Or.inl ⟨by rfl, ?_⟩) (by assumption) ?_
      rotate_left
      · intro w hSw
        (try dsimp only at hSw)
        go_simp
        all_goals (first | done | with_reducible rfl)
      (try simp only [Act.put, List.setIfInBounds_toArray, List.set_cons_zero, List.set_cons_succ, List.getElem_toArray, List.getElem_cons_succ, List.getElem_cons_zero])
      refine wpAnyH_take (i := 3) (oi := _) (v := ?_) rfl (by kernel_rfl) (by kernel_rfl) (by kernel_rfl) (fun _ _ _ h => h) (Or.inl ⟨by rfl, ?_⟩) (by assumption) ?_
      rotate_left
      · intro w hSw
        (try dsimp only at hSw)
        go_simp
        all_goals (first | done | with_reducible rfl)
      (try simp only [Act.put, List.setIfInBounds_toArray, List.set_cons_zero, List.set_cons_succ, List.getElem_toArray, List.getElem_cons_succ, List.getElem_cons_zero])
      refine wpAnyH_take (i := 4) (oi := _) (v := ?_) rfl (by kernel_rfl) (by kernel_rfl) (by kernel_rfl) (fun _ _ _ h => h) (Or.inl ⟨by rfl, ?_⟩) (by assumption) ?_
      rotate_left
      · intro w hSw
        (try dsimp only at hSw)
        go_simp
        all_goals (first | done | with_reducible rfl)
      (try simp only [Act.put, List.setIfInBounds_toArray, List.set_cons_zero, List.set_cons_succ, List.getElem_toArray, List.getElem_cons_succ, List.getElem_cons_zero])
      refine wpAnyH_take (i := 5) (oi := _) (v := ?_) rfl (by kernel_rfl) (by kernel_rfl) (by kernel_rfl) (fun _ _ _ h => h) (Or.inl ⟨by rfl, ?_⟩) (by assumption) ?_
      rotate_left
      · intro w hSw
        (try dsimp only at hSw)
        go_simp
        all_goals (first | done | with_reducible rfl)
      (try simp only [Act.put, List.setIfInBounds_toArray, List.set_cons_zero, List.set_cons_succ, List.getElem_toArray, List.getElem_cons_succ, List.getElem_cons_zero])
      refine wpAnyH_take (i := 6) (oi := _) (v := ?_) rfl (by kernel_rfl) (by kernel_rfl) (by kernel_rfl) (fun _ _ _ h => h) (Or.inl ⟨by rfl, ?_⟩) (by assumption) ?_
      rotate_left
      · intro w hSw
        (try dsimp only at hSw)
        go_simp
        all_goals (first | done | with_reducible rfl)
      (try simp only [Act.put, List.setIfInBounds_toArray, List.set_cons_zero, List.set_cons_succ, List.getElem_toArray, List.getElem_cons_succ, List.getElem_cons_zero])
      refine wpAnyH_take (i := 7) (oi := _) (v := ?_) rfl (by kernel_rfl) (by kernel_rfl) (by kernel_rfl) (fun _ _ _ h => h) (Or.inl ⟨by rfl, ?_⟩) (by assumption) ?_
      rotate_left
      · intro w hSw
        (try dsimp only at hSw)
        go_simp
        all_goals (first | done | with_reducible rfl)
      (try simp only [Act.put, List.setIfInBounds_toArray, List.set_cons_zero, List.set_cons_succ, List.getElem_toArray, List.getElem_cons_succ, List.getElem_cons_zero])
      refine wpAnyH_take (i := 8) (oi := _) (v := ?_) rfl (by kernel_rfl) (by kernel_rfl) (by kernel_rfl) (fun _ _ _ h => h) (Or.inl ⟨by rfl, ?_⟩) (by assumption) ?_
      rotate_left
      · intro w hSw
        (try dsimp only at hSw)
        go_simp
        all_goals (first | done | with_reducible rfl)
      (try simp only [Act.put, List.setIfInBounds_toArray, List.set_cons_zero, List.set_cons_succ, List.getElem_toArray, List.getElem_cons_succ, List.getElem_cons_zero])
      refine wpAnyH_ready (rs := [9, 10]) (by kernel_rfl) (by simp) ?_
      refine AllReadyH.cons (o := _) rfl (fun K hK => ?_) (AllReadyH.cons (o := _) rfl (fun K hK => ?_) AllReadyH.nil)
      · go_simp
        refine (value_any wd pp (HPO.out.below (HBW.out.trans (hHeld.1.mono (by have := HBW.out.size; omega)))) nd.nm).mono ?_
        rintro e y1 ⟨⟨ax, xl, cx, rfl, hsv⟩, hb⟩
        have HSV := Lib.hid hsv
        refine hK.out _ _ ⟨hHeld.1.trans (hb.mono hHeld.1.size), keepb hb hHeld.2⟩ (fun hHeld => ?_)
        clear hK K hb hsv
        (try simp only [Act.put, List.setIfInBounds_toArray, List.set_cons_zero, List.set_cons_succ, List.getElem_toArray, List.getElem_cons_succ, List.getElem_cons_zero])
        refine wpAnyH_ready (rs := [10]) (by kernel_rfl) (by simp) ?_
        refine AllReadyH.cons (o := _) rfl (fun K hK => ?_) AllReadyH.nil
        go_simp
        have hbz : Below y1.heap.size y1 (y1.alloc boxZ) := bel1 _ _
        have hal : wr.heap.size ≤ y1.heap.size := hHeld.1.size
        have gz := heap_alloc_new y1 (.cells #[.int .i64 0, .int .i64 0, .string ByteArray.empty, .slice none 0 0] 25)
        refine hK.out _ _ ⟨hHeld.1.trans (hbz.mono hHeld.1.size), keepb hbz hHeld.2⟩ (fun hHeld => ?_)
        clear hK K
        (try simp only [Act.put, List.setIfInBounds_toArray, List.set_cons_zero, List.set_cons_succ, List.getElem_toArray, List.getElem_cons_succ, List.getElem_cons_zero])
        obtain ⟨y2, hy2⟩ : ∃ y2, y2 = y1.alloc boxZ := ⟨_, rfl⟩
        rw [← hy2] at hHeld hbz
        rw [show y1.alloc (.cells #[.int .i64 0, .int .i64 0, .string ByteArray.empty, .slice none 0 0] 25) = y2 from hy2.symm] at gz
        rw [← hy2]
        have GZ := Lib.hid gz
        have HSV' := Lib.hid (HSV.out.below hbz)
        clear HSV
        have HSV := Lib.hid HSV'.out
        clear HSV' hbz gz hy2
        obtain ⟨c0, c1, c2, c3, f0, f1, f2, f3⟩ := box4 GZ.out
        have hne : nb ≠ y1.heap.size := by have := HNB.out; omega
        refine wpAnyH_ready (rs := [11]) (by kernel_rfl) (by simp) ?_
        refine AllReadyH.cons (o := _) rfl (fun K hK => ?_) AllReadyH.nil
        go_simp
        refine hK.out _ _ ⟨below_box hal hHeld.1 _ _ _ _, keepo hHeld.2 hne⟩ (fun hHeld => ?_)
        clear hK K c0 c1 c2 c3 f0 f1 f2 f3
        (try simp only [Act.put, List.setIfInBounds_toArray, List.set_cons_zero, List.set_cons_succ, List.getElem_toArray, List.getElem_cons_succ, List.getElem_cons_zero])
        refine wpAnyH_done (by kernel_rfl) ?_ _
        go_upto_region 14 with (fail)
        have gx := heap_box GZ.out (.int .i64 (pp.vw.value nd.nm).k) (.int .i64 (pp.vw.value nd.nm).n) (.string (pp.vw.value nd.nm).t) (.slice ax xl cx)
        have hbf : Below wr.heap.size wr ((((y2.setCell ⟨y1.heap.size, 0, none⟩ (.int .i64 (pp.vw.value nd.nm).k)).setCell ⟨y1.heap.size, 1, none⟩ (.int .i64 (pp.vw.value nd.nm).n)).setCell ⟨y1.heap.size, 2, none⟩ (.string (pp.vw.value nd.nm).t)).setCell ⟨y1.heap.size, 3, none⟩ (.slice ax xl cx)) := hHeld.1
        have hsf := SV.setbox HSV.out GZ.out (by decide) (.int .i64 (pp.vw.value nd.nm).k) (.int .i64 (pp.vw.value nd.nm).n) (.string (pp.vw.value nd.nm).t) (.slice ax xl cx)
        obtain ⟨gb, hgb⟩ : ∃ gb, gb = y1.heap.size := ⟨_, rfl⟩
        obtain ⟨wf, hwf⟩ : ∃ wf, wf = ((((y2.setCell ⟨y1.heap.size, 0, none⟩ (.int .i64 (pp.vw.value nd.nm).k)).setCell ⟨y1.heap.size, 1, none⟩ (.int .i64 (pp.vw.value nd.nm).n)).setCell ⟨y1.heap.size, 2, none⟩ (.string (pp.vw.value nd.nm).t)).setCell ⟨y1.heap.size, 3, none⟩ (.slice ax xl cx)) := ⟨_, rfl⟩
        rw [← hwf] at gx hbf hsf ⊢
        rw [← hgb] at gx ⊢
        have hxl : xl = (pp.vw.value nd.nm).ss.length := by
          obtain ⟨a', l', c', e, hl, -⟩ := HSV.out
          simp only [VA, Value.agg.injEq, Array.mk.injEq, List.cons.injEq, Value.slice.injEq, true_and, and_true] at e
          obtain ⟨rfl, rfl, rfl⟩ := e
          exact hl
        subst hxl
        have GX := Lib.hid gx
        have HBF := Lib.hid hbf
        have HRX := Lib.hid ((hsf.rz (by have := value_len HPO.out nd.nm; omega)).rs)
        clear hwf hgb hHeld gx hbf hsf GZ HSV hne hal
        generalize hx : pp.vw.value nd.nm = x at *
        have HX := Lib.hid hx
        have n1 := (HBF.out.cell (p := ⟨nb, no + k * 3 + 1, none⟩) (block_lt_of_cell HN1.out)).trans HN1.out
        have n2 := (HBF.out.cell (p := ⟨nb, no + k * 3 + 2, none⟩) (block_lt_of_cell HN2.out)).trans HN2.out
        clear hx
        go_upto_region 15 with (fail)
        obtain ⟨wg, hwg⟩ : ∃ wg, wg = wf.alloc (boxK nd) := ⟨_, rfl⟩
        have gk := heap_alloc_new wf (boxK nd)
        have hbg : Below wf.heap.size wf wg := by rw [hwg]; exact bel1 _ _
        rw [← hwg] at gk ⊢
        clear hwg
        have HGB := Lib.hid (Array.getElem?_eq_some_iff.1 GX.out).1
        have HGK := Lib.hid gk
        have HBGF := Lib.hid hbg
        have HBWG := Lib.hid (HBW.out.trans ((HBF.out.trans (hbg.mono HBF.out.size)).mono HBW.out.size))
        obtain ⟨k0, k1, -, -⟩ := box2 gk
        clear gk hbg n1 n2
        by_cases hb1 : nd.b < 1
        · go_wp2_with fail
          go_roundw
          case rel => exact ⟨k + 1, S, by omega, by go_num, rfl, HBWG.out, HF.out.step (fun h => h) HND.out (fun h _ => by omega)⟩
          case measure => simp [intOf]; omega
        by_cases hb5 : 5 < nd.b
        · go_wp2_with fail
          go_roundw
          case rel => exact ⟨k + 1, S, by omega, by go_num, rfl, HBWG.out, HF.out.step (fun h => h) HND.out (fun _ h => by omega)⟩
          case measure => simp [intOf]; omega
        obtain ⟨wo, rfl⟩ : ∃ wo : World, wo = wr := ⟨_, rfl⟩
        go_wp2_with fail
        clear k0 k1
        go_loopw [15] (fun j wx => ∃ m : Nat, m ≤ k ∧ DownI m j ∧ ∃ f : Nm, (sc.drop m).find? (isNm nd.nm.toList) = some f ∧ wx.heap[wf.heap.size]? = some (boxK f) ∧ Below wf.heap.size wg wx) (fun j _ => (intOf j + 1).toNat)
        case atStart => exact ⟨k, Nat.le_refl _, DownI.pred k, nd, by
          obtain ⟨h1, h2⟩ := List.getElem?_eq_some_iff.1 HND.out
          rw [List.drop_eq_getElem_cons h1, h2, List.find?_cons]
          simp [isNm], HGK.out, Below.refl _ _⟩
        case round =>
          obtain ⟨m, hmk, hj, f, hf, hg, hb⟩ := hrel
          have HFF := Lib.hid hf
          have HG := Lib.hid hg
          have HBX := Lib.hid hb
          have HBFX := Lib.hid (HBGF.out.trans hb)
          have HBXW := Lib.hid (HBW.out.trans ((HBF.out.trans (HBFX.out.mono HBF.out.size)).mono HBW.out.size))
          have HBXA := Lib.hid (HB4.out.trans (HBXW.out.mono HB4.out.size))
          clear hf hg hb
          rcases hj with ⟨rfl, rfl⟩ | ⟨j, rfl, rfl⟩
          · have HNK := Lib.hid (named_of HFF.out)
            have BX := Lib.hid ((HBFX.out.block _ HGB.out).trans GX.out)
            have HRW := Lib.hid (HRX.out.below HBFX.out)
            obtain ⟨c0, c1, c2, c3, -⟩ := box4 BX.out
            obtain ⟨k0, k1, -, -⟩ := box2 HG.out
            cases e0 : (x.k != 0)
            · have e0' : (x.k == 0) = true := by simpa using e0
              have HX0 := Lib.hid (show x.k = 0 by simpa using e0)
              go_wp2_with fail
              with_reducible refine (evright_any wr x ax x.ss.length cx HRW.out).mono ?_
              rintro e w10 ⟨rfl, hb10⟩
              have HB10 := Lib.hid (HBXA.out.trans (hb10.mono HBXA.out.size))
              have HB10W := Lib.hid (HBXW.out.trans (hb10.mono HBXW.out.size))
              have X10 := Lib.hid ((hb10.block _ (Array.getElem?_eq_some_iff.1 BX.out).1).trans BX.out)
              have K10 := Lib.hid ((hb10.block _ (Array.getElem?_eq_some_iff.1 HG.out).1).trans HG.out)
              clear hb10 c0 c1 c2 c3 k0 k1
              obtain ⟨c0, c1, c2, c3, -⟩ := box4 X10.out
              obtain ⟨k0, k1, -, -⟩ := box2 K10.out
              cases er : (rightV x != 0)
              · have HR0 := Lib.hid (show rightV x = 0 by simpa using er)
                cases eo : f.o
                · rw [eo] at k1
                  clear eo
                  go_wp2_with fail
                  go_roundw
                  case rel => exact ⟨k + 1, false, by omega, by go_num, rfl, HB10W.out, HF.out.step (fun h => by cases h) HND.out (fun _ _ => by rw [HX.out]; exact ⟨HR0.out, .inl HX0.out, fun h => by cases h⟩)⟩
                  case measure => simp [intOf]; omega
                · rw [eo] at k1
                  have HFO := Lib.hid eo
                  clear eo
                  go_wp2_with fail
                  go_roundw
                  case rel => exact ⟨k + 1, S, by omega, by go_num, rfl, HB10W.out, HF.out.step (fun h => h) HND.out (fun _ _ => by rw [HX.out]; exact ⟨HR0.out, .inl HX0.out, fun _ h => by rw [HNK.out] at h; exact absurd (HFO.out.symm.trans h) (by decide)⟩)⟩
                  case measure => simp [intOf]; omega
              · go_wp2_with (go_at_call 16; refine (HKN.out _ HB10.out).mono ?_; rintro e w9 ⟨rfl, hb9⟩)
                go_ret
                exact ⟨rfl, (HB10.out).trans (hb9.mono (HB10.out).size)⟩
            · have e0' : (x.k == 0) = false := by simpa using e0
              cases e1 : (x.k != f.b)
              · have HXB := Lib.hid (show x.k = f.b by simpa using e1)
                have HX0 := Lib.hid (show x.k ≠ 0 by simpa using e0)
                go_wp2_with fail
                with_reducible refine (evright_any wr x ax x.ss.length cx HRW.out).mono ?_
                rintro e w10 ⟨rfl, hb10⟩
                have HB10 := Lib.hid (HBXA.out.trans (hb10.mono HBXA.out.size))
                have HB10W := Lib.hid (HBXW.out.trans (hb10.mono HBXW.out.size))
                have X10 := Lib.hid ((hb10.block _ (Array.getElem?_eq_some_iff.1 BX.out).1).trans BX.out)
                have K10 := Lib.hid ((hb10.block _ (Array.getElem?_eq_some_iff.1 HG.out).1).trans HG.out)
                clear hb10 c0 c1 c2 c3 k0 k1
                obtain ⟨c0, c1, c2, c3, -⟩ := box4 X10.out
                obtain ⟨k0, k1, -, -⟩ := box2 K10.out
                cases er : (rightV x != 0)
                · have HR0 := Lib.hid (show rightV x = 0 by simpa using er)
                  go_wp2_with fail
                  go_roundw
                  case rel => exact ⟨k + 1, S, by omega, by go_num, rfl, HB10W.out, HF.out.step (fun h => h) HND.out (fun _ _ => by rw [HX.out]; exact ⟨HR0.out, .inr (by rw [HNK.out]; exact HXB.out), fun _ _ => HX0.out⟩)⟩
                  case measure => simp [intOf]; omega
                · go_wp2_with (go_at_call 16; refine (HKN.out _ HB10.out).mono ?_; rintro e w9 ⟨rfl, hb9⟩)
                  go_ret
                  exact ⟨rfl, (HB10.out).trans (hb9.mono (HB10.out).size)⟩
              · go_wp2_with (go_at_call 16; refine (HKN.out _ HBXA.out).mono ?_; rintro e w9 ⟨rfl, hb9⟩)
                go_ret
                exact ⟨rfl, (HBXA.out).trans (hb9.mono (HBXA.out).size)⟩
          · have hjn : j < sn := by omega
            obtain ⟨nj, hnj⟩ : ∃ nj, sc[j]? = some nj := ⟨_, List.getElem?_eq_getElem (by have := HLS.out; omega)⟩
            have HNJ := Lib.hid hnj
            have HRC := Lib.hid (HSC.out.below HBXA.out)
            have p0 := HRC.out.atS hnj 0 _ rfl
            have p1 := HRC.out.atS hnj 1 _ rfl
            have p2 := HRC.out.atS hnj 2 _ rfl
            have r0 := HRC.out.atS HND.out 0 _ rfl
            simp only [Nat.add_zero] at p0 r0
            obtain ⟨b0, b1, f0, f1⟩ := box2 HG.out
            have hj0 : (0 : Int) ≤ (j : Int) := by omega
            have hjI : (j : Int) < (sn : Int) := by omega
            clear hnj
            cases hm : (nj.nm.toList == nd.nm.toList)
            · have HFD := Lib.hid (show (sc.drop j).find? (isNm nd.nm.toList) = some f by
                have h := find_down HNJ.out HFF.out
                rwa [show isNm nd.nm.toList nj = false from hm, if_neg (by decide)] at h)
              go_wp2_with fail
              go_quiet (fail)
              go_wp2_with fail
              go_roundw
              case rel => exact ⟨j, by omega, DownI.pred j, f, HFD.out, HG.out, below_drewN HBX.out _⟩
              case measure => simp [intOf]
            · have HFD := Lib.hid (show (sc.drop j).find? (isNm nd.nm.toList) = some nj by
                have h := find_down HNJ.out HFF.out
                rwa [show isNm nd.nm.toList nj = true from hm, if_pos rfl] at h)
              go_wp2_with fail
              go_quiet (fail)
              go_wp2_with fail
              go_roundw
              case rel => exact ⟨j, by omega, DownI.pred j, nj, HFD.out, heap_two HG.out _ _, ((below_drewN HBX.out _).setCell (p := ⟨wf.heap.size, 0, none⟩) (Nat.le_refl _) _).setCell (p := ⟨wf.heap.size, 1, none⟩) (Nat.le_refl _) _⟩
              case measure => simp [intOf]
      · go_simp
        have hbz : Below wd.heap.size wd (wd.alloc boxZ) := bel1 _ _
        have hal : wr.heap.size ≤ wd.heap.size := hHeld.1.size
        have gz := heap_alloc_new wd (.cells #[.int .i64 0, .int .i64 0, .string ByteArray.empty, .slice none 0 0] 25)
        refine hK.out _ _ ⟨hHeld.1.trans (hbz.mono hHeld.1.size), keepb hbz hHeld.2⟩ (fun hHeld => ?_)
        clear hK K
        (try simp only [Act.put, List.setIfInBounds_toArray, List.set_cons_zero, List.set_cons_succ, List.getElem_toArray, List.getElem_cons_succ, List.getElem_cons_zero])
        obtain ⟨y0, hy0⟩ : ∃ y0, y0 = wd.alloc boxZ := ⟨_, rfl⟩
        rw [← hy0] at hHeld hbz
        rw [show wd.alloc (.cells #[.int .i64 0, .int .i64 0, .string ByteArray.empty, .slice none 0 0] 25) = y0 from hy0.symm] at gz
        rw [← hy0]
        have GZ := Lib.hid gz
        clear hbz gz hy0
        refine wpAnyH_ready (rs := [9]) (by kernel_rfl) (by simp) ?_
        refine AllReadyH.cons (o := _) rfl (fun K hK => ?_) AllReadyH.nil
        go_simp
        have hzl : wd.heap.size < y0.heap.size := (Array.getElem?_eq_some_iff.1 GZ.out).1
        refine (value_any y0 pp (HPO.out.below (HBW.out.trans (hHeld.1.mono (by have := HBW.out.size; omega)))) nd.nm).mono ?_
        rintro e y1 ⟨⟨ax, xl, cx, rfl, hsv⟩, hb⟩
        have HSV := Lib.hid hsv
        have GZ' := Lib.hid ((hb.block _ hzl).trans GZ.out)
        clear GZ
        have GZ := Lib.hid GZ'.out
        clear GZ'
        refine hK.out _ _ ⟨hHeld.1.trans (hb.mono hHeld.1.size), keepb hb hHeld.2⟩ (fun hHeld => ?_)
        clear hK K hb hsv
        (try simp only [Act.put, List.setIfInBounds_toArray, List.set_cons_zero, List.set_cons_succ, List.getElem_toArray, List.getElem_cons_succ, List.getElem_cons_zero])
        obtain ⟨c0, c1, c2, c3, f0, f1, f2, f3⟩ := box4 GZ.out
        have hne : nb ≠ wd.heap.size := by have := HNB.out; omega
        refine wpAnyH_ready (rs := [11]) (by kernel_rfl) (by simp) ?_
        refine AllReadyH.cons (o := _) rfl (fun K hK => ?_) AllReadyH.nil
        go_simp
        refine hK.out _ _ ⟨below_box hal hHeld.1 _ _ _ _, keepo hHeld.2 hne⟩ (fun hHeld => ?_)
        clear hK K c0 c1 c2 c3 f0 f1 f2 f3
        (try simp only [Act.put, List.setIfInBounds_toArray, List.set_cons_zero, List.set_cons_succ, List.getElem_toArray, List.getElem_cons_succ, List.getElem_cons_zero])
        refine wpAnyH_done (by kernel_rfl) ?_ _
        go_upto_region 14 with (fail)
        have gx := heap_box GZ.out (.int .i64 (pp.vw.value nd.nm).k) (.int .i64 (pp.vw.value nd.nm).n) (.string (pp.vw.value nd.nm).t) (.slice ax xl cx)
        have hbf : Below wr.heap.size wr ((((y1.setCell ⟨wd.heap.size, 0, none⟩ (.int .i64 (pp.vw.value nd.nm).k)).setCell ⟨wd.heap.size, 1, none⟩ (.int .i64 (pp.vw.value nd.nm).n)).setCell ⟨wd.heap.size, 2, none⟩ (.string (pp.vw.value nd.nm).t)).setCell ⟨wd.heap.size, 3, none⟩ (.slice ax xl cx)) := hHeld.1
        have hsf := SV.setbox HSV.out GZ.out (by decide) (.int .i64 (pp.vw.value nd.nm).k) (.int .i64 (pp.vw.value nd.nm).n) (.string (pp.vw.value nd.nm).t) (.slice ax xl cx)
        obtain ⟨gb, hgb⟩ : ∃ gb, gb = wd.heap.size := ⟨_, rfl⟩
        obtain ⟨wf, hwf⟩ : ∃ wf, wf = ((((y1.setCell ⟨wd.heap.size, 0, none⟩ (.int .i64 (pp.vw.value nd.nm).k)).setCell ⟨wd.heap.size, 1, none⟩ (.int .i64 (pp.vw.value nd.nm).n)).setCell ⟨wd.heap.size, 2, none⟩ (.string (pp.vw.value nd.nm).t)).setCell ⟨wd.heap.size, 3, none⟩ (.slice ax xl cx)) := ⟨_, rfl⟩
        rw [← hwf] at gx hbf hsf ⊢
        rw [← hgb] at gx ⊢
        have hxl : xl = (pp.vw.value nd.nm).ss.length := by
          obtain ⟨a', l', c', e, hl, -⟩ := HSV.out
          simp only [VA, Value.agg.injEq, Array.mk.injEq, List.cons.injEq, Value.slice.injEq, true_and, and_true] at e
          obtain ⟨rfl, rfl, rfl⟩ := e
          exact hl
        subst hxl
        have GX := Lib.hid gx
        have HBF := Lib.hid hbf
        have HRX := Lib.hid ((hsf.rz (by have := value_len HPO.out nd.nm; omega)).rs)
        clear hwf hgb hHeld gx hbf hsf GZ HSV hne hal
        generalize hx : pp.vw.value nd.nm = x at *
        have HX := Lib.hid hx
        have n1 := (HBF.out.cell (p := ⟨nb, no + k * 3 + 1, none⟩) (block_lt_of_cell HN1.out)).trans HN1.out
        have n2 := (HBF.out.cell (p := ⟨nb, no + k * 3 + 2, none⟩) (block_lt_of_cell HN2.out)).trans HN2.out
        clear hx
        go_upto_region 15 with (fail)
        obtain ⟨wg, hwg⟩ : ∃ wg, wg = wf.alloc (boxK nd) := ⟨_, rfl⟩
        have gk := heap_alloc_new wf (boxK nd)
        have hbg : Below wf.heap.size wf wg := by rw [hwg]; exact bel1 _ _
        rw [← hwg] at gk ⊢
        clear hwg
        have HGB := Lib.hid (Array.getElem?_eq_some_iff.1 GX.out).1
        have HGK := Lib.hid gk
        have HBGF := Lib.hid hbg
        have HBWG := Lib.hid (HBW.out.trans ((HBF.out.trans (hbg.mono HBF.out.size)).mono HBW.out.size))
        obtain ⟨k0, k1, -, -⟩ := box2 gk
        clear gk hbg n1 n2
        by_cases hb1 : nd.b < 1
        · go_wp2_with fail
          go_roundw
          case rel => exact ⟨k + 1, S, by omega, by go_num, rfl, HBWG.out, HF.out.step (fun h => h) HND.out (fun h _ => by omega)⟩
          case measure => simp [intOf]; omega
        by_cases hb5 : 5 < nd.b
        · go_wp2_with fail
          go_roundw
          case rel => exact ⟨k + 1, S, by omega, by go_num, rfl, HBWG.out, HF.out.step (fun h => h) HND.out (fun _ h => by omega)⟩
          case measure => simp [intOf]; omega
        obtain ⟨wo, rfl⟩ : ∃ wo : World, wo = wr := ⟨_, rfl⟩
        go_wp2_with fail
        clear k0 k1
        go_loopw [15] (fun j wx => ∃ m : Nat, m ≤ k ∧ DownI m j ∧ ∃ f : Nm, (sc.drop m).find? (isNm nd.nm.toList) = some f ∧ wx.heap[wf.heap.size]? = some (boxK f) ∧ Below wf.heap.size wg wx) (fun j _ => (intOf j + 1).toNat)
        case atStart => exact ⟨k, Nat.le_refl _, DownI.pred k, nd, by
          obtain ⟨h1, h2⟩ := List.getElem?_eq_some_iff.1 HND.out
          rw [List.drop_eq_getElem_cons h1, h2, List.find?_cons]
          simp [isNm], HGK.out, Below.refl _ _⟩
        case round =>
          obtain ⟨m, hmk, hj, f, hf, hg, hb⟩ := hrel
          have HFF := Lib.hid hf
          have HG := Lib.hid hg
          have HBX := Lib.hid hb
          have HBFX := Lib.hid (HBGF.out.trans hb)
          have HBXW := Lib.hid (HBW.out.trans ((HBF.out.trans (HBFX.out.mono HBF.out.size)).mono HBW.out.size))
          have HBXA := Lib.hid (HB4.out.trans (HBXW.out.mono HB4.out.size))
          clear hf hg hb
          rcases hj with ⟨rfl, rfl⟩ | ⟨j, rfl, rfl⟩
          · have HNK := Lib.hid (named_of HFF.out)
            have BX := Lib.hid ((HBFX.out.block _ HGB.out).trans GX.out)
            have HRW := Lib.hid (HRX.out.below HBFX.out)
            obtain ⟨c0, c1, c2, c3, -⟩ := box4 BX.out
            obtain ⟨k0, k1, -, -⟩ := box2 HG.out
            cases e0 : (x.k != 0)
            · have e0' : (x.k == 0) = true := by simpa using e0
              have HX0 := Lib.hid (show x.k = 0 by simpa using e0)
              go_wp2_with fail
              with_reducible refine (evright_any wr x ax x.ss.length cx HRW.out).mono ?_
              rintro e w10 ⟨rfl, hb10⟩
              have HB10 := Lib.hid (HBXA.out.trans (hb10.mono HBXA.out.size))
              have HB10W := Lib.hid (HBXW.out.trans (hb10.mono HBXW.out.size))
              have X10 := Lib.hid ((hb10.block _ (Array.getElem?_eq_some_iff.1 BX.out).1).trans BX.out)
              have K10 := Lib.hid ((hb10.block _ (Array.getElem?_eq_some_iff.1 HG.out).1).trans HG.out)
              clear hb10 c0 c1 c2 c3 k0 k1
              obtain ⟨c0, c1, c2, c3, -⟩ := box4 X10.out
              obtain ⟨k0, k1, -, -⟩ := box2 K10.out
              cases er : (rightV x != 0)
              · have HR0 := Lib.hid (show rightV x = 0 by simpa using er)
                cases eo : f.o
                · rw [eo] at k1
                  clear eo
                  go_wp2_with fail
                  go_roundw
                  case rel => exact ⟨k + 1, false, by omega, by go_num, rfl, HB10W.out, HF.out.step (fun h => by cases h) HND.out (fun _ _ => by rw [HX.out]; exact ⟨HR0.out, .inl HX0.out, fun h => by cases h⟩)⟩
                  case measure => simp [intOf]; omega
                · rw [eo] at k1
                  have HFO := Lib.hid eo
                  clear eo
                  go_wp2_with fail
                  go_roundw
                  case rel => exact ⟨k + 1, S, by omega, by go_num, rfl, HB10W.out, HF.out.step (fun h => h) HND.out (fun _ _ => by rw [HX.out]; exact ⟨HR0.out, .inl HX0.out, fun _ h => by rw [HNK.out] at h; exact absurd (HFO.out.symm.trans h) (by decide)⟩)⟩
                  case measure => simp [intOf]; omega
              · go_wp2_with (go_at_call 16; refine (HKN.out _ HB10.out).mono ?_; rintro e w9 ⟨rfl, hb9⟩)
                go_ret
                exact ⟨rfl, (HB10.out).trans (hb9.mono (HB10.out).size)⟩
            · have e0' : (x.k == 0) = false := by simpa using e0
              cases e1 : (x.k != f.b)
              · have HXB := Lib.hid (show x.k = f.b by simpa using e1)
                have HX0 := Lib.hid (show x.k ≠ 0 by simpa using e0)
                go_wp2_with fail
                with_reducible refine (evright_any wr x ax x.ss.length cx HRW.out).mono ?_
                rintro e w10 ⟨rfl, hb10⟩
                have HB10 := Lib.hid (HBXA.out.trans (hb10.mono HBXA.out.size))
                have HB10W := Lib.hid (HBXW.out.trans (hb10.mono HBXW.out.size))
                have X10 := Lib.hid ((hb10.block _ (Array.getElem?_eq_some_iff.1 BX.out).1).trans BX.out)
                have K10 := Lib.hid ((hb10.block _ (Array.getElem?_eq_some_iff.1 HG.out).1).trans HG.out)
                clear hb10 c0 c1 c2 c3 k0 k1
                obtain ⟨c0, c1, c2, c3, -⟩ := box4 X10.out
                obtain ⟨k0, k1, -, -⟩ := box2 K10.out
                cases er : (rightV x != 0)
                · have HR0 := Lib.hid (show rightV x = 0 by simpa using er)
                  go_wp2_with fail
                  go_roundw
                  case rel => exact ⟨k + 1, S, by omega, by go_num, rfl, HB10W.out, HF.out.step (fun h => h) HND.out (fun _ _ => by rw [HX.out]; exact ⟨HR0.out, .inr (by rw [HNK.out]; exact HXB.out), fun _ _ => HX0.out⟩)⟩
                  case measure => simp [intOf]; omega
                · go_wp2_with (go_at_call 16; refine (HKN.out _ HB10.out).mono ?_; rintro e w9 ⟨rfl, hb9⟩)
                  go_ret
                  exact ⟨rfl, (HB10.out).trans (hb9.mono (HB10.out).size)⟩
              · go_wp2_with (go_at_call 16; refine (HKN.out _ HBXA.out).mono ?_; rintro e w9 ⟨rfl, hb9⟩)
                go_ret
                exact ⟨rfl, (HBXA.out).trans (hb9.mono (HBXA.out).size)⟩
          · have hjn : j < sn := by omega
            obtain ⟨nj, hnj⟩ : ∃ nj, sc[j]? = some nj := ⟨_, List.getElem?_eq_getElem (by have := HLS.out; omega)⟩
            have HNJ := Lib.hid hnj
            have HRC := Lib.hid (HSC.out.below HBXA.out)
            have p0 := HRC.out.atS hnj 0 _ rfl
            have p1 := HRC.out.atS hnj 1 _ rfl
            have p2 := HRC.out.atS hnj 2 _ rfl
            have r0 := HRC.out.atS HND.out 0 _ rfl
            simp only [Nat.add_zero] at p0 r0
            obtain ⟨b0, b1, f0, f1⟩ := box2 HG.out
            have hj0 : (0 : Int) ≤ (j : Int) := by omega
            have hjI : (j : Int) < (sn : Int) := by omega
            clear hnj
            cases hm : (nj.nm.toList == nd.nm.toList)
            · have HFD := Lib.hid (show (sc.drop j).find? (isNm nd.nm.toList) = some f by
                have h := find_down HNJ.out HFF.out
                rwa [show isNm nd.nm.toList nj = false from hm, if_neg (by decide)] at h)
              go_wp2_with fail
              go_quiet (fail)
              go_wp2_with fail
              go_roundw
              case rel => exact ⟨j, by omega, DownI.pred j, f, HFD.out, HG.out, below_drewN HBX.out _⟩
              case measure => simp [intOf]
            · have HFD := Lib.hid (show (sc.drop j).find? (isNm nd.nm.toList) = some nj by
                have h := find_down HNJ.out HFF.out
                rwa [show isNm nd.nm.toList nj = true from hm, if_pos rfl] at h)
              go_wp2_with fail
              go_quiet (fail)
              go_wp2_with fail
              go_roundw
              case rel => exact ⟨j, by omega, DownI.pred j, nj, HFD.out, heap_two HG.out _ _, ((below_drewN HBX.out _).setCell (p := ⟨wf.heap.size, 0, none⟩) (Nat.le_refl _) _).setCell (p := ⟨wf.heap.size, 1, none⟩) (Nat.le_refl _) _⟩
              case measure => simp [intOf]
    · have hltI : ¬ (k : Int) < (sn : Int) := by omega
      have HVF := Lib.hid (show VwFit sc S pp.vw by
        have h := HF.out
        rw [show k = sc.length by have := HLS.out; omega] at h
        exact h.fit (by rw [HVW.out]; exact HCK.out))
      have HKI := Lib.hid (fun x hx => ⟨(ok_k (okA_w (HOK.out x hx)).ok).1, ok_i (okA_w (HOK.out x hx)).ok⟩ : ∀ x ∈ ns, x.ks.length = x.kl ∧ I64 x.vn)
      have HSM := Lib.hid (fun nd h => by have := (HND.out nd h).1; omega : ∀ nd ∈ ns, nd.kl ≤ 1000000)
      obtain ⟨wo, rfl⟩ : ∃ wo : World, wo = wr := ⟨_, rfl⟩
      go_wp2_with fail
      clear hltI hlt
      go_loopw [16] (fun i wr => ∃ m : Nat, m ≤ nl ∧ i = .int .i64 m ∧ Below w4.heap.size w4 wr) (fun i _ => nl - (intOf i).toNat)
      case atStart => exact ⟨0, by omega, rfl, HBW.out⟩
      case round =>
        obtain ⟨m, hm, rfl, hb⟩ := hrel
        have HBR := Lib.hid hb
        have HBA := Lib.hid (HB4.out.trans (hb.mono HB4.out.size))
        clear hb
        by_cases hmt : m < nl
        · have hmI : (m : Int) < (nl : Int) := by omega
          have hm0 : (0 : Int) ≤ (m : Int) := by omega
          go_wp2_with fail
          with_reducible refine (worthV_any wr na nl nc ns pp ⟨HR.out.below HBA.out, fun nd hm => (okA_w (HOK.out nd hm)).below HBA.out, HPO.out.below HBR.out⟩ HVO.out HKI.out (HT.out.below HBA.out H1.out H1.out) (by have := H1.out; have := HBA.out.size; omega) (m : Int) ⟨by omega, by omega⟩ (fun i nd _ hi => HSM.out nd (List.mem_of_getElem? hi)) (fun x hx => worth_size HVO.out HKI.out (fun i nd _ hi => HSM.out nd (List.mem_of_getElem? hi)) hx)).mono ?_
          rintro e w5 ⟨⟨x, f, ax, cx, rfl, hwu, hzx, hxl⟩, hb5⟩
          have HWU := Lib.hid hwu
          have HSN := Lib.hid (snd_worth HVF.out HVO.out HOF.out.2.2 HOF.out.1 HKI.out HSM.out (i := m) (by have := HLN.out; omega))
          have HXL := Lib.hid hxl
          have HZX := Lib.hid hzx
          have HB5 := Lib.hid (HBR.out.trans (hb5.mono HBR.out.size))
          clear hwu hzx hxl hb5
          go_upto_region 29 with (fail)
          obtain ⟨w6, hw6⟩ : ∃ w6, w6 = w5.alloc (boxS x ax x.ss.length cx) := ⟨_, rfl⟩
          have g6 : w6.heap[w5.heap.size]? = some (boxS x ax x.ss.length cx) := by rw [hw6]; exact heap_alloc_new w5 _
          have hb6 : Below w5.heap.size w5 w6 := by rw [hw6]; exact bel1 _ _
          rw [← hw6]
          clear hw6
          have HB6 := Lib.hid (HB5.out.trans (hb6.mono HB5.out.size))
          have HRX6 := Lib.hid (((HZX.out.below hb6).rz (by have := HXL.out; omega)).rs)
          obtain ⟨c0, c1, c2, c3, -⟩ := box4 g6
          clear g6 hb6
          cases hf0 : (f != 0)
          · have hz : f = 0 := by simpa using hf0
            have hok : worthR ns (m : Int) pp.vw = .ok x := by
              rcases HWU.out with ⟨h, -⟩ | ⟨h, -⟩
              · exact h
              · have := (HSN.out.1.1 _ h); omega
            obtain ⟨km, hkm⟩ : ∃ km, (ofK ns sc).1[m]? = some km := ⟨_, List.getElem?_eq_getElem (by have := HOF.out.2.2.1; have := HLN.out; omega)⟩
            have hsd := HSN.out.1.2 x hok
            rw [List.getD_eq_getElem?_getD, hkm, Option.getD_some] at hsd
            have hrx : (rightV x != 0) = false := by rw [HSN.out.2 x hok]; rfl
            have HKR6 := HKR.out.below HB6.out
            rw [HKD.out] at HKR6
            obtain ⟨kb, ko, km', hka, hkm', -⟩ := HKR6.at hmt
            have HKA := Lib.hid hka
            subst hka
            have u0 := HKR6.atS hkm 0 _ rfl
            have u1 := HKR6.atS hkm 1 _ rfl
            simp only [Nat.add_zero] at u0
            have HSD := Lib.hid hsd
            clear hsd hok hkm hkm' HKR6 hz
            go_wp2_with fail
            by_cases hx0 : x.k = 0
            · have e0 : (x.k != 0) = false := by rw [hx0]; rfl
              have e1 : (x.k == 0) = true := by rw [hx0]; rfl
              cases S
              · clear hx0
                refine wp_region_held_drew (S := (fun w' => Below w6.heap.size w6 w' ∧ w'.cell? ⟨w5.heap.size, 0, none⟩ = some (.int .i64 x.k) ∧ w'.cell? ⟨w5.heap.size, 1, none⟩ = some (.int .i64 x.n) ∧ w'.cell? ⟨w5.heap.size, 2, none⟩ = some (.string x.t) ∧ w'.cell? ⟨w5.heap.size, 3, none⟩ = some (.slice ax x.ss.length cx) ∧ w'.cell? ⟨kb, ko + m * 2, none⟩ = some (.int .i64 km.1) ∧ w'.cell? ⟨kb, ko + m * 2 + 1, none⟩ = some (.bool km.2))) (by kernel_rfl) ⟨(Below.refl _ _).drew, c0, c1, c2, c3, u0, u1⟩ (fun hHeld => ?_)
                clear c0 c1 c2 c3 u0 u1
                obtain ⟨wd, hwd⟩ : ∃ wd, wd = w6.drew := ⟨_, rfl⟩
                rw [← hwd] at hHeld ⊢
                clear hwd
                refine wpAnyH_take (i := 0) (oi := _) (v := ?_) rfl (by kernel_rfl) (by kernel_rfl) (by kernel_rfl) (fun _ _ _ h => h) (Or.inl ⟨by rfl, ?_⟩) (by assumption) ?_
                rotate_left
                · intro w hSw
                  (try dsimp only at hSw)
                  go_simp
                  all_goals (first | done | with_reducible rfl)
                (try simp only [Act.put, List.setIfInBounds_toArray, List.set_cons_zero, List.set_cons_succ, List.getElem_toArray, List.getElem_cons_succ, List.getElem_cons_zero])
                refine wpAnyH_ready (rs := [1]) (by kernel_rfl) (by simp) ?_
                refine AllReadyH.cons (o := _) rfl (fun K hK => ?_) AllReadyH.nil
                go_simp
                refine (evright_any wd x ax x.ss.length cx (HRX6.out.below hHeld.1)).mono ?_
                rintro e w8 ⟨rfl, hb⟩
                refine hK.out _ _ ⟨hHeld.1.trans (hb.mono hHeld.1.size), keepb hb hHeld.2.1, keepb hb hHeld.2.2.1, keepb hb hHeld.2.2.2.1, keepb hb hHeld.2.2.2.2.1, keepb hb hHeld.2.2.2.2.2.1, keepb hb hHeld.2.2.2.2.2.2⟩ (fun hHeld => ?_)
                clear hK K hb
                (try simp only [Act.put, List.setIfInBounds_toArray, List.set_cons_zero, List.set_cons_succ, List.getElem_toArray, List.getElem_cons_succ, List.getElem_cons_zero])
                refine wpAnyH_take (i := 2) (oi := _) (v := ?_) rfl (by kernel_rfl) (by kernel_rfl) (by kernel_rfl) (fun _ _ _ h => h) (Or.inl ⟨by rfl, ?_⟩) (by assumption) ?_
                rotate_left
                · intro w hSw
                  (try dsimp only at hSw)
                  go_simp
                  all_goals (first | done | with_reducible rfl)
                (try simp only [Act.put, List.setIfInBounds_toArray, List.set_cons_zero, List.set_cons_succ, List.getElem_toArray, List.getElem_cons_succ, List.getElem_cons_zero])
                refine wpAnyH_take (i := 3) (oi := _) (v := ?_) rfl (by kernel_rfl) (by kernel_rfl) (by kernel_rfl) (fun _ _ _ h => h) (Or.inl ⟨by rfl, ?_⟩) (by assumption) ?_
                rotate_left
                · intro w hSw
                  (try dsimp only at hSw)
                  go_simp
                  all_goals (first | done | with_reducible rfl)
                (try simp only [Act.put, List.setIfInBounds_toArray, List.set_cons_zero, List.set_cons_succ, List.getElem_toArray, List.getElem_cons_succ, List.getElem_cons_zero])
                refine wpAnyH_take (i := 4) (oi := _) (v := ?_) rfl (by kernel_rfl) (by kernel_rfl) (by kernel_rfl) (fun _ _ _ h => h) (Or.inl ⟨by rfl, ?_⟩) (by assumption) ?_
                rotate_left
                · intro w hSw
                  (try dsimp only at hSw)
                  go_simp
                  all_goals (first | done | with_reducible rfl)
                (try simp only [Act.put, List.setIfInBounds_toArray, List.set_cons_zero, List.set_cons_succ, List.getElem_toArray, List.getElem_cons_succ, List.getElem_cons_zero])
                refine wpAnyH_take (i := 5) (oi := _) (v := ?_) rfl (by kernel_rfl) (by kernel_rfl) (by kernel_rfl) (fun _ _ _ h => h) (Or.inl ⟨by rfl, ?_⟩) (by assumption) ?_
                rotate_left
                · intro w hSw
                  (try dsimp only at hSw)
                  go_simp
                  all_goals (first | done | with_reducible rfl)
                (try simp only [Act.put, List.setIfInBounds_toArray, List.set_cons_zero, List.set_cons_succ, List.getElem_toArray, List.getElem_cons_succ, List.getElem_cons_zero])
                refine wpAnyH_take (i := 6) (oi := _) (v := ?_) rfl (by kernel_rfl) (by kernel_rfl) (by kernel_rfl) (fun _ _ _ h => h) (Or.inl ⟨by rfl, ?_⟩) (by assumption) ?_
                rotate_left
                · intro w hSw
                  (try dsimp only at hSw)
                  go_simp
                  all_goals (first | done | with_reducible rfl)
                (try simp only [Act.put, List.setIfInBounds_toArray, List.set_cons_zero, List.set_cons_succ, List.getElem_toArray, List.getElem_cons_succ, List.getElem_cons_zero])
                refine wpAnyH_take (i := 7) (oi := _) (v := ?_) rfl (by kernel_rfl) (by kernel_rfl) (by kernel_rfl) (fun _ _ _ h => h) (Or.inl ⟨by rfl, ?_⟩) (by assumption) ?_
                rotate_left
                · intro w hSw
                  (try dsimp only at hSw)
                  go_simp
                  all_goals (first | done | with_reducible rfl)
                (try simp only [Act.put, List.setIfInBounds_toArray, List.set_cons_zero, List.set_cons_succ, List.getElem_toArray, List.getElem_cons_succ, List.getElem_cons_zero])
                refine wpAnyH_take (i := 8) (oi := _) (v := undef) rfl (by kernel_rfl) (by kernel_rfl) (by kernel_rfl) (fun _ _ _ h => h) (Or.inr ⟨by rfl, rfl⟩) (by assumption) ?_
                (try simp only [Act.put, List.setIfInBounds_toArray, List.set_cons_zero, List.set_cons_succ, List.getElem_toArray, List.getElem_cons_succ, List.getElem_cons_zero])
                refine wpAnyH_take (i := 9) (oi := _) (v := undef) rfl (by kernel_rfl) (by kernel_rfl) (by kernel_rfl) (fun _ _ _ h => h) (Or.inr ⟨by rfl, rfl⟩) (by assumption) ?_
                (try simp only [Act.put, List.setIfInBounds_toArray, List.set_cons_zero, List.set_cons_succ, List.getElem_toArray, List.getElem_cons_succ, List.getElem_cons_zero])
                refine wpAnyH_take (i := 10) (oi := _) (v := undef) rfl (by kernel_rfl) (by kernel_rfl) (by kernel_rfl) (fun _ _ _ h => h) (Or.inr ⟨by rfl, rfl⟩) (by assumption) ?_
                (try simp only [Act.put, List.setIfInBounds_toArray, List.set_cons_zero, List.set_cons_succ, List.getElem_toArray, List.getElem_cons_succ, List.getElem_cons_zero])
                refine wpAnyH_take (i := 11) (oi := _) (v := undef) rfl (by kernel_rfl) (by kernel_rfl) (by kernel_rfl) (fun _ _ _ h => h) (Or.inr ⟨by rfl, rfl⟩) (by assumption) ?_
                (try simp only [Act.put, List.setIfInBounds_toArray, List.set_cons_zero, List.set_cons_succ, List.getElem_toArray, List.getElem_cons_succ, List.getElem_cons_zero])
                refine wpAnyH_take (i := 12) (oi := _) (v := undef) rfl (by kernel_rfl) (by kernel_rfl) (by kernel_rfl) (fun _ _ _ h => h) (Or.inr ⟨by rfl, rfl⟩) (by assumption) ?_
                (try simp only [Act.put, List.setIfInBounds_toArray, List.set_cons_zero, List.set_cons_succ, List.getElem_toArray, List.getElem_cons_succ, List.getElem_cons_zero])
                refine wpAnyH_take (i := 13) (oi := _) (v := undef) rfl (by kernel_rfl) (by kernel_rfl) (by kernel_rfl) (fun _ _ _ h => h) (Or.inr ⟨by rfl, rfl⟩) (by assumption) ?_
                (try simp only [Act.put, List.setIfInBounds_toArray, List.set_cons_zero, List.set_cons_succ, List.getElem_toArray, List.getElem_cons_succ, List.getElem_cons_zero])
                refine wpAnyH_take (i := 14) (oi := _) (v := undef) rfl (by kernel_rfl) (by kernel_rfl) (by kernel_rfl) (fun _ _ _ h => h) (Or.inr ⟨by rfl, rfl⟩) (by assumption) ?_
                (try simp only [Act.put, List.setIfInBounds_toArray, List.set_cons_zero, List.set_cons_succ, List.getElem_toArray, List.getElem_cons_succ, List.getElem_cons_zero])
                refine wpAnyH_take (i := 15) (oi := _) (v := undef) rfl (by kernel_rfl) (by kernel_rfl) (by kernel_rfl) (fun _ _ _ h => h) (Or.inr ⟨by rfl, rfl⟩) (by assumption) ?_
                (try simp only [Act.put, List.setIfInBounds_toArray, List.set_cons_zero, List.set_cons_succ, List.getElem_toArray, List.getElem_cons_succ, List.getElem_cons_zero])
                refine wpAnyH_take (i := 16) (oi := _) (v := ?_) rfl (by kernel_rfl) (by kernel_rfl) (by kernel_rfl) (fun _ _ _ h => h) (Or.inl ⟨by rfl, ?_⟩) (by assumption) ?_
                rotate_left
                · intro w hSw
                  (try dsimp only at hSw)
                  go_simp
                  all_goals (first | done | with_reducible rfl)
                (try simp only [Act.put, List.setIfInBounds_toArray, List.set_cons_zero, List.set_cons_succ, List.getElem_toArray, List.getElem_cons_succ, List.getElem_cons_zero])
                refine wpAnyH_take (i := 17) (oi := _) (v := ?_) rfl (by kernel_rfl) (by kernel_rfl) (by kernel_rfl) (fun _ _ _ h => h) (Or.inl ⟨by rfl, ?_⟩) (by assumption) ?_
                rotate_left
                · intro w hSw
                  (try dsimp only at hSw)
                  go_simp
                  all_goals (first | done | with_reducible rfl)
                (try simp only [Act.put, List.setIfInBounds_toArray, List.set_cons_zero, List.set_cons_succ, List.getElem_toArray, List.getElem_cons_succ, List.getElem_cons_zero])
                refine wpAnyH_take (i := 18) (oi := _) (v := ?_) rfl (by kernel_rfl) (by kernel_rfl) (by kernel_rfl) (fun _ _ _ h => h) (Or.inl ⟨by rfl, ?_⟩) (by assumption) ?_
                rotate_left
                · intro w hSw
                  (try dsimp only at hSw)
                  go_simp
                  all_goals (first | done | with_reducible rfl)
                (try simp only [Act.put, List.setIfInBounds_toArray, List.set_cons_zero, List.set_cons_succ, List.getElem_toArray, List.getElem_cons_succ, List.getElem_cons_zero])
                refine wpAnyH_take (i := 19) (oi := _) (v := ?_) rfl (by kernel_rfl) (by kernel_rfl) (by kernel_rfl) (fun _ _ _ h => h) (Or.inl ⟨by rfl, ?_⟩) (by assumption) ?_
                rotate_left
                · intro w hSw
                  (try dsimp only at hSw)
                  go_simp
                  all_goals (first | done | with_reducible rfl)
                (try simp only [Act.put, List.setIfInBounds_toArray, List.set_cons_zero, List.set_cons_succ, List.getElem_toArray, List.getElem_cons_succ, List.getElem_cons_zero])
                refine wpAnyH_take (i := 20) (oi := _) (v := ?_) rfl (by kernel_rfl) (by kernel_rfl) (by kernel_rfl) (fun _ _ _ h => h) (Or.inl ⟨by rfl, ?_⟩) (by assumption) ?_
                rotate_left
                · intro w hSw
                  (try dsimp only at hSw)
                  go_simp
                  all_goals (first | done | with_reducible rfl)
                (try simp only [Act.put, List.setIfInBounds_toArray, List.set_cons_zero, List.set_cons_succ, List.getElem_toArray, List.getElem_cons_succ, List.getElem_cons_zero])
                refine wpAnyH_take (i := 21) (oi := _) (v := ?_) rfl (by kernel_rfl) (by kernel_rfl) (by kernel_rfl) (fun _ _ _ h => h) (Or.inl ⟨by rfl, ?_⟩) (by assumption) ?_
                rotate_left
                · intro w hSw
                  (try dsimp only at hSw)
                  go_simp
                  all_goals (first | done | with_reducible rfl)
                (try simp only [Act.put, List.setIfInBounds_toArray, List.set_cons_zero, List.set_cons_succ, List.getElem_toArray, List.getElem_cons_succ, List.getElem_cons_zero])
                refine wpAnyH_take (i := 22) (oi := _) (v := ?_) rfl (by kernel_rfl) (by kernel_rfl) (by kernel_rfl) (fun _ _ _ h => h) (Or.inl ⟨by rfl, ?_⟩) (by assumption) ?_
                rotate_left
                · intro w hSw
                  (try dsimp only at hSw)
                  go_simp
                  all_goals (first | done | with_reducible rfl)
                (try simp only [Act.put, List.setIfInBounds_toArray, List.set_cons_zero, List.set_cons_succ, List.getElem_toArray, List.getElem_cons_succ, List.getElem_cons_zero])
                refine wpAnyH_take (i := 23) (oi := _) (v := ?_) rfl (by kernel_rfl) (by kernel_rfl) (by kernel_rfl) (fun _ _ _ h => h) (Or.inl ⟨by rfl, ?_⟩) (by assumption) ?_
                rotate_left
                · intro w hSw
                  (try dsimp only at hSw)
                  go_simp
                  all_goals (first | done | with_reducible rfl)
                (try simp only [Act.put, List.setIfInBounds_toArray, List.set_cons_zero, List.set_cons_succ, List.getElem_toArray, List.getElem_cons_succ, List.getElem_cons_zero])
                refine wpAnyH_take (i := 24) (oi := _) (v := ?_) rfl (by kernel_rfl) (by kernel_rfl) (by kernel_rfl) (fun _ _ _ h => h) (Or.inl ⟨by rfl, ?_⟩) (by assumption) ?_
                rotate_left
                · intro w hSw
                  (try dsimp only at hSw)
                  go_simp
                  all_goals (first | done | with_reducible rfl)
                (try simp only [Act.put, List.setIfInBounds_toArray, List.set_cons_zero, List.set_cons_succ, List.getElem_toArray, List.getElem_cons_succ, List.getElem_cons_zero])
                refine wpAnyH_take (i := 25) (oi := _) (v := ?_) rfl (by kernel_rfl) (by kernel_rfl) (by kernel_rfl) (fun _ _ _ h => h) (Or.inl ⟨by rfl, ?_⟩) (by assumption) ?_
                rotate_left
                · intro w hSw
                  (try dsimp only at hSw)
                  go_simp
                  all_goals (first | done | with_reducible rfl)
                (try simp only [Act.put, List.setIfInBounds_toArray, List.set_cons_zero, List.set_cons_succ, List.getElem_toArray, List.getElem_cons_succ, List.getElem_cons_zero])
                refine wpAnyH_take (i := 26) (oi := _) (v := undef) rfl (by kernel_rfl) (by kernel_rfl) (by kernel_rfl) (fun _ _ _ h => h) (Or.inr ⟨by rfl, rfl⟩) (by assumption) ?_
                (try simp only [Act.put, List.setIfInBounds_toArray, List.set_cons_zero, List.set_cons_succ, List.getElem_toArray, List.getElem_cons_succ, List.getElem_cons_zero])
                refine wpAnyH_take (i := 27) (oi := _) (v := undef) rfl (by kernel_rfl) (by kernel_rfl) (by kernel_rfl) (fun _ _ _ h => h) (Or.inr ⟨by rfl, rfl⟩) (by assumption) ?_
                (try simp only [Act.put, List.setIfInBounds_toArray, List.set_cons_zero, List.set_cons_succ, List.getElem_toArray, List.getElem_cons_succ, List.getElem_cons_zero])
                refine wpAnyH_take (i := 28) (oi := _) (v := undef) rfl (by kernel_rfl) (by kernel_rfl) (by kernel_rfl) (fun _ _ _ h => h) (Or.inr ⟨by rfl, rfl⟩) (by assumption) ?_
                (try simp only [Act.put, List.setIfInBounds_toArray, List.set_cons_zero, List.set_cons_succ, List.getElem_toArray, List.getElem_cons_succ, List.getElem_cons_zero])
                refine wpAnyH_take (i := 29) (oi := _) (v := undef) rfl (by kernel_rfl) (by kernel_rfl) (by kernel_rfl) (fun _ _ _ h => h) (Or.inr ⟨by rfl, rfl⟩) (by assumption) ?_
                (try simp only [Act.put, List.setIfInBounds_toArray, List.set_cons_zero, List.set_cons_succ, List.getElem_toArray, List.getElem_cons_succ, List.getElem_cons_zero])
                refine wpAnyH_take (i := 30) (oi := _) (v := undef) rfl (by kernel_rfl) (by kernel_rfl) (by kernel_rfl) (fun _ _ _ h => h) (Or.inr ⟨by rfl, rfl⟩) (by assumption) ?_
                (try simp only [Act.put, List.setIfInBounds_toArray, List.set_cons_zero, List.set_cons_succ, List.getElem_toArray, List.getElem_cons_succ, List.getElem_cons_zero])
                refine wpAnyH_take (i := 31) (oi := _) (v := undef) rfl (by kernel_rfl) (by kernel_rfl) (by kernel_rfl) (fun _ _ _ h => h) (Or.inr ⟨by rfl, rfl⟩) (by assumption) ?_
                (try simp only [Act.put, List.setIfInBounds_toArray, List.set_cons_zero, List.set_cons_succ, List.getElem_toArray, List.getElem_cons_succ, List.getElem_cons_zero])
                refine wpAnyH_take (i := 32) (oi := _) (v := ?_) rfl (by kernel_rfl) (by kernel_rfl) (by kernel_rfl) (fun _ _ _ h => h) (Or.inl ⟨by rfl, ?_⟩) (by assumption) ?_
                rotate_left
                · intro w hSw
                  (try dsimp only at hSw)
                  go_simp
                  all_goals (first | done | with_reducible rfl)
                (try simp only [Act.put, List.setIfInBounds_toArray, List.set_cons_zero, List.set_cons_succ, List.getElem_toArray, List.getElem_cons_succ, List.getElem_cons_zero])
                refine wpAnyH_take (i := 33) (oi := _) (v := ?_) rfl (by kernel_rfl) (by kernel_rfl) (by kernel_rfl) (fun _ _ _ h => h) (Or.inl ⟨by rfl, ?_⟩) (by assumption) ?_
                rotate_left
                · intro w hSw
                  (try dsimp only at hSw)
                  go_simp
                  all_goals (first | done | with_reducible rfl)
                (try simp only [Act.put, List.setIfInBounds_toArray, List.set_cons_zero, List.set_cons_succ, List.getElem_toArray, List.getElem_cons_succ, List.getElem_cons_zero])
                refine wpAnyH_done (by kernel_rfl) ?_ _
                have HBF := Lib.hid (HB6.out.trans (hHeld.1.mono HB6.out.size))
                clear hHeld
                go_wp2_with fail
                go_roundw
                case rel => exact ⟨m + 1, by omega, by go_num, HBF.out⟩
                case measure => simp [intOf]; omega
              · have hko : km.2 = true := by
                  cases hk2 : km.2
                  · exact absurd hx0 (HSD.out.2 rfl hk2)
                  · rfl
                clear hx0
                rw [hko] at u1
                clear hko
                refine wp_region_held_drew (S := (fun w' => Below w6.heap.size w6 w' ∧ w'.cell? ⟨w5.heap.size, 0, none⟩ = some (.int .i64 x.k) ∧ w'.cell? ⟨w5.heap.size, 1, none⟩ = some (.int .i64 x.n) ∧ w'.cell? ⟨w5.heap.size, 2, none⟩ = some (.string x.t) ∧ w'.cell? ⟨w5.heap.size, 3, none⟩ = some (.slice ax x.ss.length cx) ∧ w'.cell? ⟨kb, ko + m * 2, none⟩ = some (.int .i64 km.1) ∧ w'.cell? ⟨kb, ko + m * 2 + 1, none⟩ = some (.bool true))) (by kernel_rfl) ⟨(Below.refl _ _).drew, c0, c1, c2, c3, u0, u1⟩ (fun hHeld => ?_)
                clear c0 c1 c2 c3 u0 u1
                obtain ⟨wd, hwd⟩ : ∃ wd, wd = w6.drew := ⟨_, rfl⟩
                rw [← hwd] at hHeld ⊢
                clear hwd
                refine wpAnyH_take (i := 0) (oi := _) (v := ?_) rfl (by kernel_rfl) (by kernel_rfl) (by kernel_rfl) (fun _ _ _ h => h) (Or.inl ⟨by rfl, ?_⟩) (by assumption) ?_
                rotate_left
                · intro w hSw
                  (try dsimp only at hSw)
                  go_simp
                  all_goals (first | done | with_reducible rfl)
                (try simp only [Act.put, List.setIfInBounds_toArray, List.set_cons_zero, List.set_cons_succ, List.getElem_toArray, List.getElem_cons_succ, List.getElem_cons_zero])
                refine wpAnyH_ready (rs := [1]) (by kernel_rfl) (by simp) ?_
                refine AllReadyH.cons (o := _) rfl (fun K hK => ?_) AllReadyH.nil
                go_simp
                refine (evright_any wd x ax x.ss.length cx (HRX6.out.below hHeld.1)).mono ?_
                rintro e w8 ⟨rfl, hb⟩
                refine hK.out _ _ ⟨hHeld.1.trans (hb.mono hHeld.1.size), keepb hb hHeld.2.1, keepb hb hHeld.2.2.1, keepb hb hHeld.2.2.2.1, keepb hb hHeld.2.2.2.2.1, keepb hb hHeld.2.2.2.2.2.1, keepb hb hHeld.2.2.2.2.2.2⟩ (fun hHeld => ?_)
                clear hK K hb
                (try simp only [Act.put, List.setIfInBounds_toArray, List.set_cons_zero, List.set_cons_succ, List.getElem_toArray, List.getElem_cons_succ, List.getElem_cons_zero])
                refine wpAnyH_take (i := 2) (oi := _) (v := ?_) rfl (by kernel_rfl) (by kernel_rfl) (by kernel_rfl) (fun _ _ _ h => h) (Or.inl ⟨by rfl, ?_⟩) (by assumption) ?_
                rotate_left
                · intro w hSw
                  (try dsimp only at hSw)
                  go_simp
                  all_goals (first | done | with_reducible rfl)
                (try simp only [Act.put, List.setIfInBounds_toArray, List.set_cons_zero, List.set_cons_succ, List.getElem_toArray, List.getElem_cons_succ, List.getElem_cons_zero])
                refine wpAnyH_take (i := 3) (oi := _) (v := ?_) rfl (by kernel_rfl) (by kernel_rfl) (by kernel_rfl) (fun _ _ _ h => h) (Or.inl ⟨by rfl, ?_⟩) (by assumption) ?_
                rotate_left
                · intro w hSw
                  (try dsimp only at hSw)
                  go_simp
                  all_goals (first | done | with_reducible rfl)
                (try simp only [Act.put, List.setIfInBounds_toArray, List.set_cons_zero, List.set_cons_succ, List.getElem_toArray, List.getElem_cons_succ, List.getElem_cons_zero])
                refine wpAnyH_take (i := 4) (oi := _) (v := ?_) rfl (by kernel_rfl) (by kernel_rfl) (by kernel_rfl) (fun _ _ _ h => h) (Or.inl ⟨by rfl, ?_⟩) (by assumption) ?_
                rotate_left
                · intro w hSw
                  (try dsimp only at hSw)
                  go_simp
                  all_goals (first | done | with_reducible rfl)
                (try simp only [Act.put, List.setIfInBounds_toArray, List.set_cons_zero, List.set_cons_succ, List.getElem_toArray, List.getElem_cons_succ, List.getElem_cons_zero])
                refine wpAnyH_take (i := 5) (oi := _) (v := ?_) rfl (by kernel_rfl) (by kernel_rfl) (by kernel_rfl) (fun _ _ _ h => h) (Or.inl ⟨by rfl, ?_⟩) (by assumption) ?_
                rotate_left
                · intro w hSw
                  (try dsimp only at hSw)
                  go_simp
                  all_goals (first | done | with_reducible rfl)
                (try simp only [Act.put, List.setIfInBounds_toArray, List.set_cons_zero, List.set_cons_succ, List.getElem_toArray, List.getElem_cons_succ, List.getElem_cons_zero])
                refine wpAnyH_take (i := 6) (oi := _) (v := ?_) rfl (by kernel_rfl) (by kernel_rfl) (by kernel_rfl) (fun _ _ _ h => h) (Or.inl ⟨by rfl, ?_⟩) (by assumption) ?_
                rotate_left
                · intro w hSw
                  (try dsimp only at hSw)
                  go_simp
                  all_goals (first | done | with_reducible rfl)
                (try simp only [Act.put, List.setIfInBounds_toArray, List.set_cons_zero, List.set_cons_succ, List.getElem_toArray, List.getElem_cons_succ, List.getElem_cons_zero])
                refine wpAnyH_take (i := 7) (oi := _) (v := ?_) rfl (by kernel_rfl) (by kernel_rfl) (by kernel_rfl) (fun _ _ _ h => h) (Or.inl ⟨by rfl, ?_⟩) (by assumption) ?_
                rotate_left
                · intro w hSw
                  (try dsimp only at hSw)
                  go_simp
                  all_goals (first | done | with_reducible rfl)
                (try simp only [Act.put, List.setIfInBounds_toArray, List.set_cons_zero, List.set_cons_succ, List.getElem_toArray, List.getElem_cons_succ, List.getElem_cons_zero])
                refine wpAnyH_take (i := 8) (oi := _) (v := undef) rfl (by kernel_rfl) (by kernel_rfl) (by kernel_rfl) (fun _ _ _ h => h) (Or.inr ⟨by rfl, rfl⟩) (by assumption) ?_
                (try simp only [Act.put, List.setIfInBounds_toArray, List.set_cons_zero, List.set_cons_succ, List.getElem_toArray, List.getElem_cons_succ, List.getElem_cons_zero])
                refine wpAnyH_take (i := 9) (oi := _) (v := undef) rfl (by kernel_rfl) (by kernel_rfl) (by kernel_rfl) (fun _ _ _ h => h) (Or.inr ⟨by rfl, rfl⟩) (by assumption) ?_
                (try simp only [Act.put, List.setIfInBounds_toArray, List.set_cons_zero, List.set_cons_succ, List.getElem_toArray, List.getElem_cons_succ, List.getElem_cons_zero])
                refine wpAnyH_take (i := 10) (oi := _) (v := undef) rfl (by kernel_rfl) (by kernel_rfl) (by kernel_rfl) (fun _ _ _ h => h) (Or.inr ⟨by rfl, rfl⟩) (by assumption) ?_
                (try simp only [Act.put, List.setIfInBounds_toArray, List.set_cons_zero, List.set_cons_succ, List.getElem_toArray, List.getElem_cons_succ, List.getElem_cons_zero])
                refine wpAnyH_take (i := 11) (oi := _) (v := undef) rfl (by kernel_rfl) (by kernel_rfl) (by kernel_rfl) (fun _ _ _ h => h) (Or.inr ⟨by rfl, rfl⟩) (by assumption) ?_
                (try simp only [Act.put, List.setIfInBounds_toArray, List.set_cons_zero, List.set_cons_succ, List.getElem_toArray, List.getElem_cons_succ, List.getElem_cons_zero])
                refine wpAnyH_take (i := 12) (oi := _) (v := undef) rfl (by kernel_rfl) (by kernel_rfl) (by kernel_rfl) (fun _ _ _ h => h) (Or.inr ⟨by rfl, rfl⟩) (by assumption) ?_
                (try simp only [Act.put, List.setIfInBounds_toArray, List.set_cons_zero, List.set_cons_succ, List.getElem_toArray, List.getElem_cons_succ, List.getElem_cons_zero])
                refine wpAnyH_take (i := 13) (oi := _) (v := undef) rfl (by kernel_rfl) (by kernel_rfl) (by kernel_rfl) (fun _ _ _ h => h) (Or.inr ⟨by rfl, rfl⟩) (by assumption) ?_
                (try simp only [Act.put, List.setIfInBounds_toArray, List.set_cons_zero, List.set_cons_succ, List.getElem_toArray, List.getElem_cons_succ, List.getElem_cons_zero])
                refine wpAnyH_take (i := 14) (oi := _) (v := undef) rfl (by kernel_rfl) (by kernel_rfl) (by kernel_rfl) (fun _ _ _ h => h) (Or.inr ⟨by rfl, rfl⟩) (by assumption) ?_
                (try simp only [Act.put, List.setIfInBounds_toArray, List.set_cons_zero, List.set_cons_succ, List.getElem_toArray, List.getElem_cons_succ, List.getElem_cons_zero])
                refine wpAnyH_take (i := 15) (oi := _) (v := undef) rfl (by kernel_rfl) (by kernel_rfl) (by kernel_rfl) (fun _ _ _ h => h) (Or.inr ⟨by rfl, rfl⟩) (by assumption) ?_
                (try simp only [Act.put, List.setIfInBounds_toArray, List.set_cons_zero, List.set_cons_succ, List.getElem_toArray, List.getElem_cons_succ, List.getElem_cons_zero])
                refine wpAnyH_take (i := 16) (oi := _) (v := ?_) rfl (by kernel_rfl) (by kernel_rfl) (by kernel_rfl) (fun _ _ _ h => h) (Or.inl ⟨by rfl, ?_⟩) (by assumption) ?_
                rotate_left
                · intro w hSw
                  (try dsimp only at hSw)
                  go_simp
                  all_goals (first | done | with_reducible rfl)
                (try simp only [Act.put, List.setIfInBounds_toArray, List.set_cons_zero, List.set_cons_succ, List.getElem_toArray, List.getElem_cons_succ, List.getElem_cons_zero])
                refine wpAnyH_take (i := 17) (oi := _) (v := ?_) rfl (by kernel_rfl) (by kernel_rfl) (by kernel_rfl) (fun _ _ _ h => h) (Or.inl ⟨by rfl, ?_⟩) (by assumption) ?_
                rotate_left
                · intro w hSw
                  (try dsimp only at hSw)
                  go_simp
                  all_goals (first | done | with_reducible rfl)
                (try simp only [Act.put, List.setIfInBounds_toArray, List.set_cons_zero, List.set_cons_succ, List.getElem_toArray, List.getElem_cons_succ, List.getElem_cons_zero])
                refine wpAnyH_take (i := 18) (oi := _) (v := ?_) rfl (by kernel_rfl) (by kernel_rfl) (by kernel_rfl) (fun _ _ _ h => h) (Or.inl ⟨by rfl, ?_⟩) (by assumption) ?_
                rotate_left
                · intro w hSw
                  (try dsimp only at hSw)
                  go_simp
                  all_goals (first | done | with_reducible rfl)
                (try simp only [Act.put, List.setIfInBounds_toArray, List.set_cons_zero, List.set_cons_succ, List.getElem_toArray, List.getElem_cons_succ, List.getElem_cons_zero])
                refine wpAnyH_take (i := 19) (oi := _) (v := ?_) rfl (by kernel_rfl) (by kernel_rfl) (by kernel_rfl) (fun _ _ _ h => h) (Or.inl ⟨by rfl, ?_⟩) (by assumption) ?_
                rotate_left
                · intro w hSw
                  (try dsimp only at hSw)
                  go_simp
                  all_goals (first | done | with_reducible rfl)
                (try simp only [Act.put, List.setIfInBounds_toArray, List.set_cons_zero, List.set_cons_succ, List.getElem_toArray, List.getElem_cons_succ, List.getElem_cons_zero])
                refine wpAnyH_take (i := 20) (oi := _) (v := ?_) rfl (by kernel_rfl) (by kernel_rfl) (by kernel_rfl) (fun _ _ _ h => h) (Or.inl ⟨by rfl, ?_⟩) (by assumption) ?_
                rotate_left
                · intro w hSw
                  (try dsimp only at hSw)
                  go_simp
                  all_goals (first | done | with_reducible rfl)
                (try simp only [Act.put, List.setIfInBounds_toArray, List.set_cons_zero, List.set_cons_succ, List.getElem_toArray, List.getElem_cons_succ, List.getElem_cons_zero])
                refine wpAnyH_take (i := 21) (oi := _) (v := ?_) rfl (by kernel_rfl) (by kernel_rfl) (by kernel_rfl) (fun _ _ _ h => h) (Or.inl ⟨by rfl, ?_⟩) (by assumption) ?_
                rotate_left
                · intro w hSw
                  (try dsimp only at hSw)
                  go_simp
                  all_goals (first | done | with_reducible rfl)
                (try simp only [Act.put, List.setIfInBounds_toArray, List.set_cons_zero, List.set_cons_succ, List.getElem_toArray, List.getElem_cons_succ, List.getElem_cons_zero])
                refine wpAnyH_take (i := 22) (oi := _) (v := ?_) rfl (by kernel_rfl) (by kernel_rfl) (by kernel_rfl) (fun _ _ _ h => h) (Or.inl ⟨by rfl, ?_⟩) (by assumption) ?_
                rotate_left
                · intro w hSw
                  (try dsimp only at hSw)
                  go_simp
                  all_goals (first | done | with_reducible rfl)
                (try simp only [Act.put, List.setIfInBounds_toArray, List.set_cons_zero, List.set_cons_succ, List.getElem_toArray, List.getElem_cons_succ, List.getElem_cons_zero])
                refine wpAnyH_take (i := 23) (oi := _) (v := ?_) rfl (by kernel_rfl) (by kernel_rfl) (by kernel_rfl) (fun _ _ _ h => h) (Or.inl ⟨by rfl, ?_⟩) (by assumption) ?_
                rotate_left
                · intro w hSw
                  (try dsimp only at hSw)
                  go_simp
                  all_goals (first | done | with_reducible rfl)
                (try simp only [Act.put, List.setIfInBounds_toArray, List.set_cons_zero, List.set_cons_succ, List.getElem_toArray, List.getElem_cons_succ, List.getElem_cons_zero])
                refine wpAnyH_take (i := 24) (oi := _) (v := ?_) rfl (by kernel_rfl) (by kernel_rfl) (by kernel_rfl) (fun _ _ _ h => h) (Or.inl ⟨by rfl, ?_⟩) (by assumption) ?_
                rotate_left
                · intro w hSw
                  (try dsimp only at hSw)
                  go_simp
                  all_goals (first | done | with_reducible rfl)
                (try simp only [Act.put, List.setIfInBounds_toArray, List.set_cons_zero, List.set_cons_succ, List.getElem_toArray, List.getElem_cons_succ, List.getElem_cons_zero])
                refine wpAnyH_take (i := 25) (oi := _) (v := ?_) rfl (by kernel_rfl) (by kernel_rfl) (by kernel_rfl) (fun _ _ _ h => h) (Or.inl ⟨by rfl, ?_⟩) (by assumption) ?_
                rotate_left
                · intro w hSw
                  (try dsimp only at hSw)
                  go_simp
                  all_goals (first | done | with_reducible rfl)
                (try simp only [Act.put, List.setIfInBounds_toArray, List.set_cons_zero, List.set_cons_succ, List.getElem_toArray, List.getElem_cons_succ, List.getElem_cons_zero])
                refine wpAnyH_take (i := 26) (oi := _) (v := ?_) rfl (by kernel_rfl) (by kernel_rfl) (by kernel_rfl) (fun _ _ _ h => h) (Or.inl ⟨by rfl, ?_⟩) (by assumption) ?_
                rotate_left
                · intro w hSw
                  (try dsimp only at hSw)
                  go_simp
                  all_goals (first | done | with_reducible rfl)
                (try simp only [Act.put, List.setIfInBounds_toArray, List.set_cons_zero, List.set_cons_succ, List.getElem_toArray, List.getElem_cons_succ, List.getElem_cons_zero])
                refine wpAnyH_take (i := 27) (oi := _) (v := ?_) rfl (by kernel_rfl) (by kernel_rfl) (by kernel_rfl) (fun _ _ _ h => h) (Or.inl ⟨by rfl, ?_⟩) (by assumption) ?_
                rotate_left
                · intro w hSw
                  (try dsimp only at hSw)
                  go_simp
                  all_goals (first | done | with_reducible rfl)
                (try simp only [Act.put, List.setIfInBounds_toArray, List.set_cons_zero, List.set_cons_succ, List.getElem_toArray, List.getElem_cons_succ, List.getElem_cons_zero])
                refine wpAnyH_take (i := 28) (oi := _) (v := ?_) rfl (by kernel_rfl) (by kernel_rfl) (by kernel_rfl) (fun _ _ _ h => h) (Or.inl ⟨by rfl, ?_⟩) (by assumption) ?_
                rotate_left
                · intro w hSw
                  (try dsimp only at hSw)
                  go_simp
                  all_goals (first | done | with_reducible rfl)
                (try simp only [Act.put, List.setIfInBounds_toArray, List.set_cons_zero, List.set_cons_succ, List.getElem_toArray, List.getElem_cons_succ, List.getElem_cons_zero])
                refine wpAnyH_take (i := 29) (oi := _) (v := ?_) rfl (by kernel_rfl) (by kernel_rfl) (by kernel_rfl) (fun _ _ _ h => h) (Or.inl ⟨by rfl, ?_⟩) (by assumption) ?_
                rotate_left
                · intro w hSw
                  (try dsimp only at hSw)
                  go_simp
                  all_goals (first | done | with_reducible rfl)
                (try simp only [Act.put, List.setIfInBounds_toArray, List.set_cons_zero, List.set_cons_succ, List.getElem_toArray, List.getElem_cons_succ, List.getElem_cons_zero])
                refine wpAnyH_take (i := 30) (oi := _) (v := ?_) rfl (by kernel_rfl) (by kernel_rfl) (by kernel_rfl) (fun _ _ _ h => h) (Or.inl ⟨by rfl, ?_⟩) (by assumption) ?_
                rotate_left
                · intro w hSw
                  (try dsimp only at hSw)
                  go_simp
                  all_goals (first | done | with_reducible rfl)
                (try simp only [Act.put, List.setIfInBounds_toArray, List.set_cons_zero, List.set_cons_succ, List.getElem_toArray, List.getElem_cons_succ, List.getElem_cons_zero])
                refine wpAnyH_take (i := 31) (oi := _) (v := ?_) rfl (by kernel_rfl) (by kernel_rfl) (by kernel_rfl) (fun _ _ _ h => h) (Or.inl ⟨by rfl, ?_⟩) (by assumption) ?_
                rotate_left
                · intro w hSw
                  (try dsimp only at hSw)
                  go_simp
                  all_goals (first | done | with_reducible rfl)
                (try simp only [Act.put, List.setIfInBounds_toArray, List.set_cons_zero, List.set_cons_succ, List.getElem_toArray, List.getElem_cons_succ, List.getElem_cons_zero])
                refine wpAnyH_take (i := 32) (oi := _) (v := ?_) rfl (by kernel_rfl) (by kernel_rfl) (by kernel_rfl) (fun _ _ _ h => h) (Or.inl ⟨by rfl, ?_⟩) (by assumption) ?_
                rotate_left
                · intro w hSw
                  (try dsimp only at hSw)
                  go_simp
                  all_goals (first | done | with_reducible rfl)
                (try simp only [Act.put, List.setIfInBounds_toArray, List.set_cons_zero, List.set_cons_succ, List.getElem_toArray, List.getElem_cons_succ, List.getElem_cons_zero])
                refine wpAnyH_take (i := 33) (oi := _) (v := ?_) rfl (by kernel_rfl) (by kernel_rfl) (by kernel_rfl) (fun _ _ _ h => h) (Or.inl ⟨by rfl, ?_⟩) (by assumption) ?_
                rotate_left
                · intro w hSw
                  (try dsimp only at hSw)
                  go_simp
                  all_goals (first | done | with_reducible rfl)
                (try simp only [Act.put, List.setIfInBounds_toArray, List.set_cons_zero, List.set_cons_succ, List.getElem_toArray, List.getElem_cons_succ, List.getElem_cons_zero])
                refine wpAnyH_done (by kernel_rfl) ?_ _
                have HBF := Lib.hid (HB6.out.trans (hHeld.1.mono HB6.out.size))
                clear hHeld
                go_wp2_with fail
                go_roundw
                case rel => exact ⟨m + 1, by omega, by go_num, HBF.out⟩
                case measure => simp [intOf]; omega
            · have e0 : (x.k != 0) = true := bne_iff_ne.2 hx0
              have e1 : (x.k == 0) = false := beq_eq_false_iff_ne.2 hx0
              have e2 : (x.k != km.1) = false := by
                rcases HSD.out.1 with h | h
                · exact absurd h hx0
                · rw [h]; simp
              clear hx0
              refine wp_region_held_drew (S := (fun w' => Below w6.heap.size w6 w' ∧ w'.cell? ⟨w5.heap.size, 0, none⟩ = some (.int .i64 x.k) ∧ w'.cell? ⟨w5.heap.size, 1, none⟩ = some (.int .i64 x.n) ∧ w'.cell? ⟨w5.heap.size, 2, none⟩ = some (.string x.t) ∧ w'.cell? ⟨w5.heap.size, 3, none⟩ = some (.slice ax x.ss.length cx) ∧ w'.cell? ⟨kb, ko + m * 2, none⟩ = some (.int .i64 km.1) ∧ w'.cell? ⟨kb, ko + m * 2 + 1, none⟩ = some (.bool km.2))) (by kernel_rfl) ⟨(Below.refl _ _).drew, c0, c1, c2, c3, u0, u1⟩ (fun hHeld => ?_)
              clear c0 c1 c2 c3 u0 u1
              obtain ⟨wd, hwd⟩ : ∃ wd, wd = w6.drew := ⟨_, rfl⟩
              rw [← hwd] at hHeld ⊢
              clear hwd
              refine wpAnyH_take (i := 0) (oi := _) (v := ?_) rfl (by kernel_rfl) (by kernel_rfl) (by kernel_rfl) (fun _ _ _ h => h) (Or.inl ⟨by rfl, ?_⟩) (by assumption) ?_
              rotate_left
              · intro w hSw
                (try dsimp only at hSw)
                go_simp
                all_goals (first | done | with_reducible rfl)
              (try simp only [Act.put, List.setIfInBounds_toArray, List.set_cons_zero, List.set_cons_succ, List.getElem_toArray, List.getElem_cons_succ, List.getElem_cons_zero])
              refine wpAnyH_ready (rs := [1]) (by kernel_rfl) (by simp) ?_
              refine AllReadyH.cons (o := _) rfl (fun K hK => ?_) AllReadyH.nil
              go_simp
              refine (evright_any wd x ax x.ss.length cx (HRX6.out.below hHeld.1)).mono ?_
              rintro e w8 ⟨rfl, hb⟩
              refine hK.out _ _ ⟨hHeld.1.trans (hb.mono hHeld.1.size), keepb hb hHeld.2.1, keepb hb hHeld.2.2.1, keepb hb hHeld.2.2.2.1, keepb hb hHeld.2.2.2.2.1, keepb hb hHeld.2.2.2.2.2.1, keepb hb hHeld.2.2.2.2.2.2⟩ (fun hHeld => ?_)
              clear hK K hb
              (try simp only [Act.put, List.setIfInBounds_toArray, List.set_cons_zero, List.set_cons_succ, List.getElem_toArray, List.getElem_cons_succ, List.getElem_cons_zero])
              refine wpAnyH_take (i := 2) (oi := _) (v := ?_) rfl (by kernel_rfl) (by kernel_rfl) (by kernel_rfl) (fun _ _ _ h => h) (Or.inl ⟨by rfl, ?_⟩) (by assumption) ?_
              rotate_left
              · intro w hSw
                (try dsimp only at hSw)
                go_simp
                all_goals (first | done | with_reducible rfl)
              (try simp only [Act.put, List.setIfInBounds_toArray, List.set_cons_zero, List.set_cons_succ, List.getElem_toArray, List.getElem_cons_succ, List.getElem_cons_zero])
              refine wpAnyH_take (i := 3) (oi := _) (v := ?_) rfl (by kernel_rfl) (by kernel_rfl) (by kernel_rfl) (fun _ _ _ h => h) (Or.inl ⟨by rfl, ?_⟩) (by assumption) ?_
              rotate_left
              · intro w hSw
                (try dsimp only at hSw)
                go_simp
                all_goals (first | done | with_reducible rfl)
              (try simp only [Act.put, List.setIfInBounds_toArray, List.set_cons_zero, List.set_cons_succ, List.getElem_toArray, List.getElem_cons_succ, List.getElem_cons_zero])
              refine wpAnyH_take (i := 4) (oi := _) (v := ?_) rfl (by kernel_rfl) (by kernel_rfl) (by kernel_rfl) (fun _ _ _ h => h) (Or.inl ⟨by rfl, ?_⟩) (by assumption) ?_
              rotate_left
              · intro w hSw
                (try dsimp only at hSw)
                go_simp
                all_goals (first | done | with_reducible rfl)
              (try simp only [Act.put, List.setIfInBounds_toArray, List.set_cons_zero, List.set_cons_succ, List.getElem_toArray, List.getElem_cons_succ, List.getElem_cons_zero])
              refine wpAnyH_take (i := 5) (oi := _) (v := ?_) rfl (by kernel_rfl) (by kernel_rfl) (by kernel_rfl) (fun _ _ _ h => h) (Or.inl ⟨by rfl, ?_⟩) (by assumption) ?_
              rotate_left
              · intro w hSw
                (try dsimp only at hSw)
                go_simp
                all_goals (first | done | with_reducible rfl)
              (try simp only [Act.put, List.setIfInBounds_toArray, List.set_cons_zero, List.set_cons_succ, List.getElem_toArray, List.getElem_cons_succ, List.getElem_cons_zero])
              refine wpAnyH_take (i := 6) (oi := _) (v := ?_) rfl (by kernel_rfl) (by kernel_rfl) (by kernel_rfl) (fun _ _ _ h => h) (Or.inl ⟨by rfl, ?_⟩) (by assumption) ?_
              rotate_left
              · intro w hSw
                (try dsimp only at hSw)
                go_simp
                all_goals (first | done | with_reducible rfl)
              (try simp only [Act.put, List.setIfInBounds_toArray, List.set_cons_zero, List.set_cons_succ, List.getElem_toArray, List.getElem_cons_succ, List.getElem_cons_zero])
              refine wpAnyH_take (i := 7) (oi := _) (v := ?_) rfl (by kernel_rfl) (by kernel_rfl) (by kernel_rfl) (fun _ _ _ h => h) (Or.inl ⟨by rfl, ?_⟩) (by assumption) ?_
              rotate_left
              · intro w hSw
                (try dsimp only at hSw)
                go_simp
                all_goals (first | done | with_reducible rfl)
              (try simp only [Act.put, List.setIfInBounds_toArray, List.set_cons_zero, List.set_cons_succ, List.getElem_toArray, List.getElem_cons_succ, List.getElem_cons_zero])
              refine wpAnyH_take (i := 8) (oi := _) (v := ?_) rfl (by kernel_rfl) (by kernel_rfl) (by kernel_rfl) (fun _ _ _ h => h) (Or.inl ⟨by rfl, ?_⟩) (by assumption) ?_
              rotate_left
              · intro w hSw
                (try dsimp only at hSw)
                go_simp
                all_goals (first | done | with_reducible rfl)
              (try simp only [Act.put, List.setIfInBounds_toArray, List.set_cons_zero, List.set_cons_succ, List.getElem_toArray, List.getElem_cons_succ, List.getElem_cons_zero])
              refine wpAnyH_take (i := 9) (oi := _) (v := ?_) rfl (by kernel_rfl) (by kernel_rfl) (by kernel_rfl) (fun _ _ _ h => h) (Or.inl ⟨by rfl, ?_⟩) (by assumption) ?_
              rotate_left
              · intro w hSw
                (try dsimp only at hSw)
                go_simp
                all_goals (first | done | with_reducible rfl)
              (try simp only [Act.put, List.setIfInBounds_toArray, List.set_cons_zero, List.set_cons_succ, List.getElem_toArray, List.getElem_cons_succ, List.getElem_cons_zero])
              refine wpAnyH_take (i := 10) (oi := _) (v := ?_) rfl (by kernel_rfl) (by kernel_rfl) (by kernel_rfl) (fun _ _ _ h => h) (Or.inl ⟨by rfl, ?_⟩) (by assumption) ?_
              rotate_left
              · intro w hSw
                (try dsimp only at hSw)
                go_simp
                all_goals (first | done | with_reducible rfl)
              (try simp only [Act.put, List.setIfInBounds_toArray, List.set_cons_zero, List.set_cons_succ, List.getElem_toArray, List.getElem_cons_succ, List.getElem_cons_zero])
              refine wpAnyH_take (i := 11) (oi := _) (v := ?_) rfl (by kernel_rfl) (by kernel_rfl) (by kernel_rfl) (fun _ _ _ h => h) (Or.inl ⟨by rfl, ?_⟩) (by assumption) ?_
              rotate_left
              · intro w hSw
                (try dsimp only at hSw)
                go_simp
                all_goals (first | done | with_reducible rfl)
              (try simp only [Act.put, List.setIfInBounds_toArray, List.set_cons_zero, List.set_cons_succ, List.getElem_toArray, List.getElem_cons_succ, List.getElem_cons_zero])
              refine wpAnyH_take (i := 12) (oi := _) (v := ?_) rfl (by kernel_rfl) (by kernel_rfl) (by kernel_rfl) (fun _ _ _ h => h) (Or.inl ⟨by rfl, ?_⟩) (by assumption) ?_
              rotate_left
              · intro w hSw
                (try dsimp only at hSw)
                go_simp
                all_goals (first | done | with_reducible rfl)
              (try simp only [Act.put, List.setIfInBounds_toArray, List.set_cons_zero, List.set_cons_succ, List.getElem_toArray, List.getElem_cons_succ, List.getElem_cons_zero])
              refine wpAnyH_take (i := 13) (oi := _) (v := ?_) rfl (by kernel_rfl) (by kernel_rfl) (by kernel_rfl) (fun _ _ _ h => h) (Or.inl ⟨by rfl, ?_⟩) (by assumption) ?_
              rotate_left
              · intro w hSw
                (try dsimp only at hSw)
                go_simp
                all_goals (first | done | with_reducible rfl)
              (try simp only [Act.put, List.setIfInBounds_toArray, List.set_cons_zero, List.set_cons_succ, List.getElem_toArray, List.getElem_cons_succ, List.getElem_cons_zero])
              refine wpAnyH_take (i := 14) (oi := _) (v := ?_) rfl (by kernel_rfl) (by kernel_rfl) (by kernel_rfl) (fun _ _ _ h => h) (Or.inl ⟨by rfl, ?_⟩) (by assumption) ?_
              rotate_left
              · intro w hSw
                (try dsimp only at hSw)
                go_simp
                all_goals (first | done | with_reducible rfl)
              (try simp only [Act.put, List.setIfInBounds_toArray, List.set_cons_zero, List.set_cons_succ, List.getElem_toArray, List.getElem_cons_succ, List.getElem_cons_zero])
              refine wpAnyH_take (i := 15) (oi := _) (v := ?_) rfl (by kernel_rfl) (by kernel_rfl) (by kernel_rfl) (fun _ _ _ h => h) (Or.inl ⟨by rfl, ?_⟩) (by assumption) ?_
              rotate_left
              · intro w hSw
                (try dsimp only at hSw)
                go_simp
                all_goals (first | done | with_reducible rfl)
              (try simp only [Act.put, List.setIfInBounds_toArray, List.set_cons_zero, List.set_cons_succ, List.getElem_toArray, List.getElem_cons_succ, List.getElem_cons_zero])
              refine wpAnyH_take (i := 16) (oi := _) (v := ?_) rfl (by kernel_rfl) (by kernel_rfl) (by kernel_rfl) (fun _ _ _ h => h) (Or.inl ⟨by rfl, ?_⟩) (by assumption) ?_
              rotate_left
              · intro w hSw
                (try dsimp only at hSw)
                go_simp
                all_goals (first | done | with_reducible rfl)
              (try simp only [Act.put, List.setIfInBounds_toArray, List.set_cons_zero, List.set_cons_succ, List.getElem_toArray, List.getElem_cons_succ, List.getElem_cons_zero])
              refine wpAnyH_take (i := 17) (oi := _) (v := ?_) rfl (by kernel_rfl) (by kernel_rfl) (by kernel_rfl) (fun _ _ _ h => h) (Or.inl ⟨by rfl, ?_⟩) (by assumption) ?_
              rotate_left
              · intro w hSw
                (try dsimp only at hSw)
                go_simp
                all_goals (first | done | with_reducible rfl)
              (try simp only [Act.put, List.setIfInBounds_toArray, List.set_cons_zero, List.set_cons_succ, List.getElem_toArray, List.getElem_cons_succ, List.getElem_cons_zero])
              refine wpAnyH_take (i := 18) (oi := _) (v := ?_) rfl (by kernel_rfl) (by kernel_rfl) (by kernel_rfl) (fun _ _ _ h => h) (Or.inl ⟨by rfl, ?_⟩) (by assumption) ?_
              rotate_left
              · intro w hSw
                (try dsimp only at hSw)
                go_simp
                all_goals (first | done | with_reducible rfl)
              (try simp only [Act.put, List.setIfInBounds_toArray, List.set_cons_zero, List.set_cons_succ, List.getElem_toArray, List.getElem_cons_succ, List.getElem_cons_zero])
              refine wpAnyH_take (i := 19) (oi := _) (v := ?_) rfl (by kernel_rfl) (by kernel_rfl) (by kernel_rfl) (fun _ _ _ h => h) (Or.inl ⟨by rfl, ?_⟩) (by assumption) ?_
              rotate_left
              · intro w hSw
                (try dsimp only at hSw)
                go_simp
                all_goals (first | done | with_reducible rfl)
              (try simp only [Act.put, List.setIfInBounds_toArray, List.set_cons_zero, List.set_cons_succ, List.getElem_toArray, List.getElem_cons_succ, List.getElem_cons_zero])
              refine wpAnyH_take (i := 20) (oi := _) (v := ?_) rfl (by kernel_rfl) (by kernel_rfl) (by kernel_rfl) (fun _ _ _ h => h) (Or.inl ⟨by rfl, ?_⟩) (by assumption) ?_
              rotate_left
              · intro w hSw
                (try dsimp only at hSw)
                go_simp
                all_goals (first | done | with_reducible rfl)
              (try simp only [Act.put, List.setIfInBounds_toArray, List.set_cons_zero, List.set_cons_succ, List.getElem_toArray, List.getElem_cons_succ, List.getElem_cons_zero])
              refine wpAnyH_take (i := 21) (oi := _) (v := ?_) rfl (by kernel_rfl) (by kernel_rfl) (by kernel_rfl) (fun _ _ _ h => h) (Or.inl ⟨by rfl, ?_⟩) (by assumption) ?_
              rotate_left
              · intro w hSw
                (try dsimp only at hSw)
                go_simp
                all_goals (first | done | with_reducible rfl)
              (try simp only [Act.put, List.setIfInBounds_toArray, List.set_cons_zero, List.set_cons_succ, List.getElem_toArray, List.getElem_cons_succ, List.getElem_cons_zero])
              refine wpAnyH_take (i := 22) (oi := _) (v := ?_) rfl (by kernel_rfl) (by kernel_rfl) (by kernel_rfl) (fun _ _ _ h => h) (Or.inl ⟨by rfl, ?_⟩) (by assumption) ?_
              rotate_left
              · intro w hSw
                (try dsimp only at hSw)
                go_simp
                all_goals (first | done | with_reducible rfl)
              (try simp only [Act.put, List.setIfInBounds_toArray, List.set_cons_zero, List.set_cons_succ, List.getElem_toArray, List.getElem_cons_succ, List.getElem_cons_zero])
              refine wpAnyH_take (i := 23) (oi := _) (v := undef) rfl (by kernel_rfl) (by kernel_rfl) (by kernel_rfl) (fun _ _ _ h => h) (Or.inr ⟨by rfl, rfl⟩) (by assumption) ?_
              (try simp only [Act.put, List.setIfInBounds_toArray, List.set_cons_zero, List.set_cons_succ, List.getElem_toArray, List.getElem_cons_succ, List.getElem_cons_zero])
              refine wpAnyH_take (i := 24) (oi := _) (v := ?_) rfl (by kernel_rfl) (by kernel_rfl) (by kernel_rfl) (fun _ _ _ h => h) (Or.inl ⟨by rfl, ?_⟩) (by assumption) ?_
              rotate_left
              · intro w hSw
                (try dsimp only at hSw)
                go_simp
                all_goals (first | done | with_reducible rfl)
              (try simp only [Act.put, List.setIfInBounds_toArray, List.set_cons_zero, List.set_cons_succ, List.getElem_toArray, List.getElem_cons_succ, List.getElem_cons_zero])
              refine wpAnyH_take (i := 25) (oi := _) (v := ?_) rfl (by kernel_rfl) (by kernel_rfl) (by kernel_rfl) (fun _ _ _ h => h) (Or.inl ⟨by rfl, ?_⟩) (by assumption) ?_
              rotate_left
              · intro w hSw
                (try dsimp only at hSw)
                go_simp
                all_goals (first | done | with_reducible rfl)
              (try simp only [Act.put, List.setIfInBounds_toArray, List.set_cons_zero, List.set_cons_succ, List.getElem_toArray, List.getElem_cons_succ, List.getElem_cons_zero])
              refine wpAnyH_take (i := 26) (oi := _) (v := undef) rfl (by kernel_rfl) (by kernel_rfl) (by kernel_rfl) (fun _ _ _ h => h) (Or.inr ⟨by rfl, rfl⟩) (by assumption) ?_
              (try simp only [Act.put, List.setIfInBounds_toArray, List.set_cons_zero, List.set_cons_succ, List.getElem_toArray, List.getElem_cons_succ, List.getElem_cons_zero])
              refine wpAnyH_take (i := 27) (oi := _) (v := undef) rfl (by kernel_rfl) (by kernel_rfl) (by kernel_rfl) (fun _ _ _ h => h) (Or.inr ⟨by rfl, rfl⟩) (by assumption) ?_
              (try simp only [Act.put, List.setIfInBounds_toArray, List.set_cons_zero, List.set_cons_succ, List.getElem_toArray, List.getElem_cons_succ, List.getElem_cons_zero])
              refine wpAnyH_take (i := 28) (oi := _) (v := undef) rfl (by kernel_rfl) (by kernel_rfl) (by kernel_rfl) (fun _ _ _ h => h) (Or.inr ⟨by rfl, rfl⟩) (by assumption) ?_
              (try simp only [Act.put, List.setIfInBounds_toArray, List.set_cons_zero, List.set_cons_succ, List.getElem_toArray, List.getElem_cons_succ, List.getElem_cons_zero])
              refine wpAnyH_take (i := 29) (oi := _) (v := undef) rfl (by kernel_rfl) (by kernel_rfl) (by kernel_rfl) (fun _ _ _ h => h) (Or.inr ⟨by rfl, rfl⟩) (by assumption) ?_
              (try simp only [Act.put, List.setIfInBounds_toArray, List.set_cons_zero, List.set_cons_succ, List.getElem_toArray, List.getElem_cons_succ, List.getElem_cons_zero])
              refine wpAnyH_take (i := 30) (oi := _) (v := undef) rfl (by kernel_rfl) (by kernel_rfl) (by kernel_rfl) (fun _ _ _ h => h) (Or.inr ⟨by rfl, rfl⟩) (by assumption) ?_
              (try simp only [Act.put, List.setIfInBounds_toArray, List.set_cons_zero, List.set_cons_succ, List.getElem_toArray, List.getElem_cons_succ, List.getElem_cons_zero])
              refine wpAnyH_take (i := 31) (oi := _) (v := undef) rfl (by kernel_rfl) (by kernel_rfl) (by kernel_rfl) (fun _ _ _ h => h) (Or.inr ⟨by rfl, rfl⟩) (by assumption) ?_
              (try simp only [Act.put, List.setIfInBounds_toArray, List.set_cons_zero, List.set_cons_succ, List.getElem_toArray, List.getElem_cons_succ, List.getElem_cons_zero])
              refine wpAnyH_take (i := 32) (oi := _) (v := ?_) rfl (by kernel_rfl) (by kernel_rfl) (by kernel_rfl) (fun _ _ _ h => h) (Or.inl ⟨by rfl, ?_⟩) (by assumption) ?_
              rotate_left
              · intro w hSw
                (try dsimp only at hSw)
                go_simp
                all_goals (first | done | with_reducible rfl)
              (try simp only [Act.put, List.setIfInBounds_toArray, List.set_cons_zero, List.set_cons_succ, List.getElem_toArray, List.getElem_cons_succ, List.getElem_cons_zero])
              refine wpAnyH_take (i := 33) (oi := _) (v := ?_) rfl (by kernel_rfl) (by kernel_rfl) (by kernel_rfl) (fun _ _ _ h => h) (Or.inl ⟨by rfl, ?_⟩) (by assumption) ?_
              rotate_left
              · intro w hSw
                (try dsimp only at hSw)
                go_simp
                all_goals (first | done | with_reducible rfl)
              (try simp only [Act.put, List.setIfInBounds_toArray, List.set_cons_zero, List.set_cons_succ, List.getElem_toArray, List.getElem_cons_succ, List.getElem_cons_zero])
              refine wpAnyH_done (by kernel_rfl) ?_ _
              have HBF := Lib.hid (HB6.out.trans (hHeld.1.mono HB6.out.size))
              clear hHeld
              go_wp2_with fail
              go_roundw
              case rel => exact ⟨m + 1, by omega, by go_num, HBF.out⟩
              case measure => simp [intOf]; omega
          · obtain ⟨herr, hx0⟩ : worthR ns (m : Int) pp.vw = .error f ∧ x = v0 := by
              rcases HWU.out with ⟨-, h⟩ | h
              · rw [h] at hf0; cases hf0
              · exact h
            obtain ⟨f1, f2⟩ := HSN.out.1.1 _ herr
            have hf1 : ¬ f < 110 := by omega
            have hf2 : ¬ 114 < f := by omega
            subst hx0
            have v1 : v0.k = 0 := rfl
            have v2 : v0.n = 0 := rfl
            have v3 : v0.t = ByteArray.empty := rfl
            have v4 : v0.ss.length = 0 := rfl
            rw [v1] at c0
            rw [v2] at c1
            rw [v3] at c2
            rw [v4] at c3
            clear herr f1 f2 v1 v2 v3 v4
            go_wp2_with fail
            all_goals (try go_big_false)
            go_roundw
            case rel => exact ⟨m + 1, by omega, by go_num, HB6.out⟩
            case measure => simp [intOf]; omega
        · have hmI : ¬ (m : Int) < (nl : Int) := by omega
          go_wp2_with (go_at_call 16; refine (HKN.out _ HBA.out).mono ?_; rintro e w9 ⟨rfl, hb9⟩)
          go_ret
          exact ⟨rfl, (HBA.out).trans (hb9.mono (HBA.out).size)⟩
end Go.Proofs.YtcnckjlmldnblaaDoor
