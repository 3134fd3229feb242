import Derived.Test.YtdepdediggokgaaDoorB2
namespace Go.Proofs.YtdepdediggokgaaDoor
open Go.RowKit
set_option linter.unusedVariables false
/-- A row of bytes of which the first m places are marked. -/
def Rw (w : World) (v : Value) (m : Nat) (f : Nat → UInt8) : Prop :=
  ∃ a n c, v = .slice a n c ∧ c < 9223372036854775808 ∧ (c = 0 ∨ ∃ g cur, a = some ⟨g, 0, none⟩ ∧ w.heap[g]? = some (.cells cur 5 (0, 0)) ∧ cur.size = c ∧ ∀ j, j < m → j < c → cur[j]? = some (b8 (f j)))
theorem Rw.of_owns {w : World} {B : Nat} {v : Value} {n : Nat} {xs : List Value} (h : w.ownsRow B 5 1 v n xs) (f : Nat → UInt8) : Rw w v 0 f := by
  rcases h.2 with ⟨rfl, rfl⟩ | ⟨g, cap, cur, rfl, hb, hg, hn, hm, hs, _⟩
  · exact ⟨none, 0, 0, rfl, by omega, .inl rfl⟩
  · refine ⟨_, _, cap, rfl, by simp [maxLen] at hm; omega, .inr ⟨g, cur, rfl, hg, by omega, fun j hj => by omega⟩⟩
theorem Rw.kept {w w' : World} {v : Value} {m : Nat} {f : Nat → UInt8} (h : Rw w v m f) (hk : ∀ g : Nat, v.ownBlock = some g → w'.heap[g]? = w.heap[g]?) : Rw w' v m f := by
  obtain ⟨a, n, c, rfl, hc, h0 | ⟨g, cur, rfl, hg, hs, hm⟩⟩ := h
  · exact ⟨a, n, c, rfl, hc, .inl h0⟩
  · exact ⟨_, n, c, rfl, hc, .inr ⟨g, cur, rfl, (hk g rfl).trans hg, hs, hm⟩⟩
theorem Rw.set {w : World} {g n c j : Nat} {f : Nat → UInt8} (h : Rw w (.slice (some ⟨g, 0, none⟩) n c) j f) (hj : j < c) : Rw (w.setCell ⟨g, j, none⟩ (b8 (f j))) (.slice (some ⟨g, 0, none⟩) n c) (j + 1) f := by
  obtain ⟨a, n, c, hv, hc, h0 | ⟨g', cur, ha, hg, hs, hm⟩⟩ := h
  · obtain ⟨rfl, rfl, rfl⟩ := Value.slice.inj hv
    omega
  · obtain ⟨rfl, rfl, rfl⟩ := Value.slice.inj hv
    obtain rfl : g = g' := by simpa using ha
    refine ⟨_, _, _, rfl, hc, .inr ⟨g, _, rfl, heap_setCell_same w g j _ _ (b8 (f j)) hg, by simp [hs], fun k hk hkc => ?_⟩⟩
    rw [Array.getElem?_setIfInBounds]
    split
    · rename_i e; subst e
      rw [if_pos (by omega)]
    · exact hm k (by omega) hkc
theorem Rw.at {w : World} {a : Option Addr} {n c j m : Nat} {f : Nat → UInt8} (h : Rw w (.slice a n c) m f) (hj : j < c) : ∃ g x, a = some ⟨g, 0, none⟩ ∧ w.cell? ⟨g, j, none⟩ = some x ∧ w.frozen? ⟨g, j, none⟩ = false ∧ (j < m → x = b8 (f j)) ∧ ∃ cur, w.heap[g]? = some (.cells cur 5 (0, 0)) := by
  obtain ⟨a, n, c, hv, hc, h0 | ⟨g, cur, rfl, hg, hs, hm⟩⟩ := h
  · obtain ⟨rfl, rfl, rfl⟩ := Value.slice.inj hv
    omega
  · obtain ⟨rfl, rfl, rfl⟩ := Value.slice.inj hv
    have hc2 := cell_of_row w g j cur 5 (0, 0) hg
    rw [Array.getElem?_eq_getElem (by omega)] at hc2
    refine ⟨g, cur[j], rfl, hc2, frozen_of_row w g j _ _ hg, fun h => ?_, cur, hg⟩
    have := hm j h hj
    rw [Array.getElem?_eq_getElem (by omega)] at this
    exact Option.some.inj this
/-- All but rows of bytes stand. -/
def KN5 (w w' : World) : Prop := ∀ k : Nat, (∀ (cs : Array Value) (fz : Nat × Nat), w.heap[k]? ≠ some (Obj.cells cs 5 fz)) → w'.heap[k]? = w.heap[k]?
/-- What the marking holds: the lists before the i-th are full, of the i-th m places. -/
def Mk (ls : List Value) (i m : Nat) (w0 w : World) : Prop :=
  KN5 w0 w ∧ ∀ (t : Nat) v, ls[t]? = some v → Rw w v (if t < i then 9223372036854775808 else if t = i then m else 0) (mkB t)
theorem Mk.step {w0 w : World} {B : Nat} {ls ws : List Value} {ds : List (List UInt8)} {i j g n c : Nat} (hI : Its w0 B ls ws ds) (h : Mk ls i j w0 w) (hi : ls[i]? = some (.slice (some ⟨g, 0, none⟩) n c)) (hj : j < c) (hg : ∃ cur, w.heap[g]? = some (Obj.cells cur 5 (0, 0))) (hb : ∃ cur, w0.heap[g]? = some (Obj.cells cur 5 (0, 0))) :
    Mk ls i (j + 1) w0 (w.setCell ⟨g, j, none⟩ (b8 (mkB i j))) := by
  refine ⟨fun k hk => ?_, fun t v ht => ?_⟩
  · rw [heap_setCell_other w ⟨g, j, none⟩ k _ (fun e => by obtain ⟨cur, hc⟩ := hb; subst e; exact hk _ _ hc)]
    exact h.1 k hk
  · have hr := h.2 t v ht
    by_cases hti : t = i
    · subst hti
      obtain rfl := Option.some.inj (ht.symm.trans hi)
      rw [if_neg (by omega), if_pos rfl] at hr ⊢
      exact hr.set hj
    · have e : (if t < i then 9223372036854775808 else if t = i then j + 1 else 0) = (if t < i then 9223372036854775808 else if t = i then j else 0) := by simp [hti]
      rw [e]
      refine hr.kept fun g' hg' => heap_setCell_other w ⟨g, j, none⟩ g' _ (fun e => ?_)
      simp only at e
      subst e
      rcases Nat.lt_or_ge t i with hlt | hge
      · rcases hI.apart t i v _ hlt ht hi with h | h
        · rw [h] at hg'; cases hg'
        · exact h hg'
      · rcases hI.apart i t _ v (by omega) hi ht with h | h
        · cases h
        · exact h hg'.symm
theorem Mk.next {w0 w : World} {ls : List Value} {i c : Nat} {a : Option Addr} {n : Nat} (h : Mk ls i c w0 w) (hi : ls[i]? = some (.slice a n c)) : Mk ls (i + 1) 0 w0 w := by
  refine ⟨h.1, fun t v ht => ?_⟩
  have hr := h.2 t v ht
  by_cases hti : t = i
  · subst hti
    obtain rfl := Option.some.inj (ht.symm.trans hi)
    rw [if_neg (by omega), if_pos rfl] at hr
    rw [if_pos (by omega)]
    obtain ⟨a, n, c, hv, hc, h0 | ⟨g, cur, ha, hg, hs, hm⟩⟩ := hr
    · exact ⟨a, n, c, hv, hc, .inl h0⟩
    · obtain ⟨rfl, rfl, rfl⟩ := Value.slice.inj hv
      exact ⟨_, _, _, rfl, hc, .inr ⟨g, cur, ha, hg, hs, fun j _ hj => hm j hj hj⟩⟩
  · have e : (if t < i + 1 then 9223372036854775808 else if t = i + 1 then 0 else 0) = (if t < i then 9223372036854775808 else if t = i then c else 0) := by
      simp only [hti, if_false]
      by_cases h : t < i
      · rw [if_pos h, if_pos (by omega)]
      · rw [if_neg h, if_neg (by omega)]; simp
    rw [e]; exact hr

set_option maxHeartbeats 1000000 in
set_option maxRecDepth 100000 in
theorem apart_any (w : World) (B gb : Nat) (ls ws : List Value) (ds : List (List UInt8)) (h : BkI w B gb ls ws ds) (hl : ds.length ≤ 4001) :
    Calls Tryd.prog 20 #[.pointer (some ⟨gb, 0, none⟩), .func (.func 21) #[] #[]] w fun e w' => e = .returned (.bool true) ∧ Below B w w' := by
  go_enter Tryd.func20, Tryd.ntmps20
  go_wp2_with fail
  with_reducible refine (stays_any w B gb ls ws ds h hl).mono ?_
  rintro e w1 ⟨rfl, hk1, hb1⟩
  obtain ⟨lv, wv, held, hg, hB, hlv, hwv, hlw, h0, h1, hI⟩ := h.oth hk1
  have e1 := hI.l1
  obtain ⟨al, cl, rfl, rl⟩ := hlv.rv (by omega)
  have hN : ls.length ≤ 4001 := by omega
  have HI := Lib.hid hI
  have HG := Lib.hid hg
  have hls : ∀ k, (Value.slice al ls.length cl).ownBlock = some k → ∃ cur, w1.heap[k]? = some (Obj.cells cur 22 (0, 0)) := fun k hk => (hlv.lt k hk).2.2
  have hne := hlv.ne hg (by decide)
  generalize hNN : ls.length = N at *
  have HNN := Lib.hid hNN
  have HLS := Lib.hid hls
  have HNE := Lib.hid hne
  clear hwv hlw h0 h1 hI e1 hg hls hne hlv hNN h hk1
  go_upto_block 0 with (fail)
  go_cut [] (fun wx => Mk ls N 0 w1 wx ∧ Below B w wx)
  case first =>
    go_wp2_with fail
    go_loopw [5, 6, 7] (fun x _ _ wx => ∃ i : Nat, i ≤ N ∧ x = .int .i64 i ∧ Mk ls i 0 w1 wx ∧ Below B w wx) (fun x _ _ _ => N - (intOf x).toNat)
    case atStart =>
      refine ⟨0, by omega, rfl, ⟨fun k _ => rfl, fun t v ht => ?_⟩, hb1⟩
      have htl : t < ls.length := (List.getElem?_eq_some_iff.1 ht).1
      obtain ⟨_, hv, _⟩ := HI.out.own t v ws[t]! ds[t]! ht (by have := HI.out.l1; have := HI.out.l2; rw [List.getElem?_eq_getElem (by omega)]; simp [show t < ws.length by omega]) (by have := HI.out.l1; rw [List.getElem?_eq_getElem (by omega)]; simp [show t < ds.length by omega])
      simpa using Rw.of_owns hv (mkB t)
    case round =>
      obtain ⟨i, hi, rfl, hM, hb⟩ := hrel
      have hgw := (hM.1 gb (by rw [HG.out]; simp)).trans HG.out
      have c0 := cell_of_row wr gb 0 _ _ _ hgw
      have f0 := frozen_of_row wr gb 0 _ _ hgw
      simp at c0
      have HM := Lib.hid hM
      have HB := Lib.hid hb
      clear hgw hM hb
      by_cases hlt : i < N
      · obtain ⟨b1, o1, y1, rfl, hy1, hcy1⟩ := rl.at hlt
        obtain ⟨cur1, hcur1⟩ := HLS.out b1 rfl
        have hc1 : wr.cell? ⟨b1, o1 + i, none⟩ = _ := (World.cell?_of_block (HM.out.1 b1 (by rw [hcur1]; simp))).trans hcy1
        obtain ⟨av, nv, cv, rfl, hcv, -⟩ := HM.out.2 i y1 hy1
        have hs := fun wx => slice_to wx av nv cv cv (Nat.le_refl _)
        have hlt' : (i : Int) < (N : Int) := by omega
        have HCV := Lib.hid hcv
        have HY := Lib.hid hy1
        clear hcy1 hcur1 rl hcv hy1
        go_wp2
        go_quiet (fail)
        go_wp2
        clear hs hc1 c0 f0 hlt'
        go_loopw [7] (fun x wx => ∃ j : Nat, j ≤ cv ∧ x = .int .i64 j ∧ Mk ls i j w1 wx ∧ Below B w wx) (fun x _ => cv - (intOf x).toNat)
        case atStart => exact ⟨0, by omega, rfl, ⟨fun k hk => HM.out.1 k hk, fun t v ht => (HM.out.2 t v ht).kept (fun _ _ => rfl)⟩, below_drewN HB.out nq⟩
        case round =>
          obtain ⟨j, hj, rfl, hM2, hb2⟩ := hrel
          have HM2 := Lib.hid hM2
          have HB2 := Lib.hid hb2
          clear hM2 hb2
          by_cases hjc : j < cv
          · have hr := HM2.out.2 i _ HY.out
            rw [if_neg (by omega), if_pos rfl] at hr
            obtain ⟨g, x, rfl, hcx, hfx, -, hcur⟩ := hr.at hjc
            have hI := HI.out.own i (.slice (some ⟨g, 0, none⟩) nv cv) ws[i]! ds[i]! HY.out (by have := HI.out.l1; have := HI.out.l2; have := HNN.out; simp [show i < ws.length by omega]) (by have := HI.out.l1; have := HNN.out; simp [show i < ds.length by omega])
            have hg1 : (∃ cur, w1.heap[g]? = some (Obj.cells cur 5 (0, 0))) ∧ B ≤ g := by
              rcases hI.2.1.2 with ⟨hv, _⟩ | ⟨g', cap, cur, hv, hb, hg, _⟩
              · cases hv
              · obtain ⟨e, -, -⟩ := Value.slice.inj hv
                obtain rfl : g = g' := by simpa using e
                exact ⟨⟨cur, hg⟩, hb⟩
            have hst := HM2.out.step HI.out HY.out hjc hcur hg1.1
            have hbs := HB2.out.setCell (p := ⟨g, j, none⟩) hg1.2 (b8 (mkB i j))
            have MA := Lib.hid (fun wx => mark_any wx i j (by omega) (by have := HCV.out; omega))
            have hw : IntKind.i64.wrap ((j : Int) + 1) = (j : Int) + 1 := by have := HCV.out; simp [IntKind.wrap, IntKind.bits, IntKind.signed]; omega
            have HST := Lib.hid hst
            have HBS := Lib.hid hbs
            have hjc' : (j : Int) < (cv : Int) := by omega
            clear hr hcur hI hg1 hst hbs
            go_wp2_with fail
            with_reducible refine (MA.out _).mono ?_
            rintro e w' ⟨rfl, rfl⟩
            go_wp2
            go_roundw
            case rel => exact ⟨j + 1, by omega, by go_num, HST.out, HBS.out⟩
            case measure => simp [intOf]; omega
          · obtain rfl : j = cv := by omega
            have HNX := Lib.hid (HM2.out.next HY.out)
            go_wp2
            go_roundw
            case rel => exact ⟨i + 1, by omega, by go_num, HNX.out, HB2.out⟩
            case measure => simp [intOf]; omega
      · obtain rfl : i = N := by omega
        clear rl
        go_wp2
        go_meet
        exact ⟨HM.out, HB.out⟩
  case rest =>
    obtain ⟨hM, hb⟩ := hcut
    have hgw := (hM.1 gb (by rw [HG.out]; simp)).trans HG.out
    have c0 := cell_of_row wc gb 0 _ _ _ hgw
    have c1 := cell_of_row wc gb 1 _ _ _ hgw
    have c2 := cell_of_row wc gb 2 _ _ _ hgw
    have f0 := fun o => frozen_of_row wc gb o _ _ hgw
    simp at c0 c1 c2
    have HM := Lib.hid hM
    have HB := Lib.hid hb
    clear hgw hM hb
    go_wp2
    go_loopw [8, 9, 10] (fun x _ _ wx => ∃ i : Nat, i ≤ N ∧ x = .int .i64 i ∧ ∃ n, wx = wc.drewN n) (fun x _ _ _ => N - (intOf x).toNat)
    case atStart => exact ⟨0, by omega, rfl, 0, rfl⟩
    case round =>
      obtain ⟨i, hi, rfl, n, rfl⟩ := hrel
      by_cases hlt : i < N
      · obtain ⟨b1, o1, y1, rfl, hy1, hcy1⟩ := rl.at hlt
        obtain ⟨cur1, hcur1⟩ := HLS.out b1 rfl
        have hc1 : wc.cell? ⟨b1, o1 + i, none⟩ = _ := (World.cell?_of_block (HM.out.1 b1 (by rw [hcur1]; simp))).trans hcy1
        have hR := HM.out.2 i y1 hy1
        rw [if_pos hlt] at hR
        have hR' := hR
        obtain ⟨av, nv, cv, rfl, hcv, -⟩ := hR'
        have hs := fun wx => slice_to wx av nv cv cv (Nat.le_refl _)
        have hlt' : (i : Int) < (N : Int) := by omega
        have HCV := Lib.hid hcv
        have HR := Lib.hid hR
        clear hcy1 hcur1 rl hcv hy1 hR
        go_wp2
        go_quiet (fail)
        go_wp2
        clear hs hc1 hlt'
        go_loopw [10] (fun x wx => ∃ j : Nat, j ≤ cv ∧ x = .int .i64 j ∧ ∃ n, wx = wc.drewN n) (fun x _ => cv - (intOf x).toNat)
        case atStart => exact ⟨0, by omega, rfl, _, World.drewN_drewN _ _ _⟩
        case round =>
          obtain ⟨j, hj, rfl, n2, rfl⟩ := hrel
          by_cases hjc : j < cv
          · obtain ⟨g, x, rfl, hcx, hfx, hxx, -⟩ := HR.out.at hjc
            obtain rfl := hxx (by have := HCV.out; omega)
            have MA := Lib.hid (fun wx => mark_any wx i j (by omega) (by have := HCV.out; omega))
            have hw : IntKind.i64.wrap ((j : Int) + 1) = (j : Int) + 1 := by have := HCV.out; simp [IntKind.wrap, IntKind.bits, IntKind.signed]; omega
            have hjc' : (j : Int) < (cv : Int) := by omega
            simp only [b8] at hcx
            have hne : (((mkB i j).toNat : Int) != ((mkB i j).toNat : Int)) = false := by simp
            clear hfx
            go_wp2
            go_region_held3 (fun w => w.cell? ⟨g, j, none⟩ = some (.int .u8 ((mkB i j).toNat : Int))) (first | exact hcx) (first | (go_at_call 21; refine (MA.out _).mono ?_; rintro e w' ⟨rfl, rfl⟩))
            go_wp2
            go_roundw
            case rel => exact ⟨j + 1, by omega, by go_num, _, rfl⟩
            case measure => simp [intOf]; omega
          · obtain rfl : j = cv := by omega
            go_wp2
            go_roundw
            case rel => exact ⟨i + 1, by omega, by go_num, _, rfl⟩
            case measure => simp [intOf]; omega
      · clear rl
        have hb4 := (((below_drewN HB.out n).setCell (p := ⟨gb, 0, none⟩) hB (.slice none 0 0)).setCell (p := ⟨gb, 1, none⟩) hB (.slice none 0 0)).setCell (p := ⟨gb, 2, none⟩) hB (.int .i64 0)
        have HB4 := Lib.hid hb4
        clear hb4
        go_wp2
        go_ret
        exact ⟨rfl, HB4.out⟩
end Go.Proofs.YtdepdediggokgaaDoor
