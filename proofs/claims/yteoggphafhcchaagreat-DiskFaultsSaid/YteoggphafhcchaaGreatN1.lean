import Derived.Test.YteoggphafhcchaaGreatV5
import Derived.Test.YteoggphafhcchaaGreatM17
namespace Go.Proofs.YteoggphafhcchaaGreat
open Go Go.RowKit
set_option maxRecDepth 100000
set_option maxHeartbeats 1000000
set_option linter.unusedVariables false
set_option linter.unusedSimpArgs false
open Go.Maps Go.WideMaps
theorem units_any (w : World) (a : Option Addr) (n c : Nat) (x : Int) : Calls Tryz.prog 32 #[.agg #[.slice a n c, .int .i64 x]] w fun e w' => e = .returned (.int .i64 (max (n : Int) 1)) ∧ Below w.heap.size w w' := by
  have hb1 : Below w.heap.size w (w.alloc (.cells #[.slice a n c, .int .i64 x] 86)) := bel1 _ _
  have HB := Lib.hid hb1
  have c0 : (w.alloc (.cells #[.slice a n c, .int .i64 x] 86)).cell? ⟨w.heap.size, 0, none⟩ = some (.slice a n c) := by rw [cell_of_row _ _ _ _ _ _ (heap_alloc_new w _)]; rfl
  clear hb1
  go_enter Tryz.func32, Tryz.ntmps32
  go_wp2_with fail
  go_ret
  exact ⟨rfl, HB.out⟩
/-- Runs that can be played. -/
def okR : List Run → Nat → Prop
  | [], n => n ≤ 2147483647
  | u :: r, n => n ≤ 2147483647 ∧ (u.laid = [] → u.cut ≤ n) ∧ okR r ((if u.laid = [] then u.cut else n) + u.laid.length)
theorem okR.le {l : List Run} {n : Nat} (h : okR l n) : n ≤ 2147483647 := by
  cases l with
  | nil => exact h
  | cons u r => exact h.1
theorem run_at {w : World} {ρ : Nat → Nat} {r : Nat} {v : Value} {l : List Run} (h : RunsAt w ρ r v l) {k : Nat} {u : Run} (hk : l[k]? = some u) :
    ∃ g cc a c, v = .slice (some ⟨g, 0, none⟩) l.length cc ∧ w.cell? ⟨g, k * 2, none⟩ = some (.slice a u.laid.length c) ∧ w.cell? ⟨g, k * 2 + 1, none⟩ = some (.int .i64 u.cut) ∧ R8 w a u.laid.length c u.laid := by
  obtain ⟨rs, hrl, ho, hall⟩ := h
  have hkl := (List.getElem?_eq_some_iff.1 hk).1
  obtain ⟨a0, cc, hv, hg⟩ := owns_shape ho.1
  obtain ⟨g, rfl, -, -⟩ := hg (by omega)
  obtain ⟨p, hp⟩ : ∃ p, rs[k]? = some p := ⟨_, List.getElem?_eq_getElem (by omega)⟩
  have hh := ho.1
  rw [hv] at hh
  obtain ⟨hc, a, c, hpv, hr, -⟩ := hall k p u hp hk
  refine ⟨g, cc, a, c, hv, ?_, ?_, hr⟩
  · have := own_at (enc := runV) (s := 2) (fun _ => rfl) hh hp 0 _ rfl
    rw [hpv] at this; exact this
  · have := own_at (enc := runV) (s := 2) (fun _ => rfl) hh hp 1 _ rfl
    rw [hc] at this; exact this
theorem set3 (w : World) {g k : Nat} (hk : k ≠ g) (a b c : Value) : (((w.setCell ⟨g, 1, none⟩ a).setCell ⟨g, 2, none⟩ b).setCell ⟨g, 3, none⟩ c).heap[k]? = w.heap[k]? :=
  ((heap_setCell_other _ ⟨g, 3, none⟩ k _ hk).trans (heap_setCell_other _ ⟨g, 2, none⟩ k _ hk)).trans (heap_setCell_other _ ⟨g, 1, none⟩ k _ hk)
theorem kept_file {w W w5 : World} {L : Lay} {gd i g : Nat} {d : Dm} {vn vs vl : Value} (h : DAt w L gd d) (hi : i < d.fs.length) (hg : g = L.fa i) (hf : FAt w L.ρ i g (d.file i) vn vs vl) (hW : Below w.heap.size w W) {va a5 : Option Addr} {n vc c5 : Nat} {l : List UInt8} (hn : n = l.length)
    (ho : W.ownsRow w.heap.size 5 1 (.slice va n vc) n (l.map b8)) (h5 : Below W.heap.size W w5) (hv : w5.ownsRow W.heap.size 5 1 (.slice a5 n c5) n (l.map b8)) :
    ∃ ρ', DAt (((w5.setCell ⟨g, 1, none⟩ (.slice va n vc)).setCell ⟨g, 2, none⟩ (.slice a5 n c5)).setCell ⟨g, 3, none⟩ (.slice none 0 0)) { L with ρ := ρ' } gd (d.setF i ⟨l, l, []⟩) ∧ Upd L.ρ ρ' w (((w5.setCell ⟨g, 1, none⟩ (.slice va n vc)).setCell ⟨g, 2, none⟩ (.slice a5 n c5)).setCell ⟨g, 3, none⟩ (.slice none 0 0)) := by
  have hgl : g < w.heap.size := (Array.getElem?_eq_some_iff.1 hf.box).1
  have hgr : 7 + 4 * i ≤ L.ρ g ∧ L.ρ g ≤ 10 + 4 * i := by rw [hf.lg]; omega
  have hb5 : Below w.heap.size w w5 := hW.trans (h5.mono hW.size)
  obtain ⟨w6, hw6⟩ : ∃ w6, w6 = ((w5.setCell ⟨g, 1, none⟩ (.slice va n vc)).setCell ⟨g, 2, none⟩ (.slice a5 n c5)).setCell ⟨g, 3, none⟩ (.slice none 0 0) := ⟨_, rfl⟩
  rw [← hw6]
  have e6 : ∀ k, k ≠ g → w6.heap[k]? = w5.heap[k]? := fun k hk => by rw [hw6]; exact set3 w5 hk _ _ _
  have z6 : w6.heap.size = w5.heap.size := by rw [hw6]; simp
  have g6 : w6.heap[g]? = some (boxFile i (.slice va n vc) (.slice a5 n c5) (.slice none 0 0)) := by
    have h0 : w5.heap[g]? = some (boxFile i vn vs vl) := (hb5.block g hgl).trans hf.box
    rw [hw6]
    exact heap_setCell_same _ g 3 _ _ _ (heap_setCell_same _ g 2 _ _ _ (heap_setCell_same _ g 1 _ _ _ h0))
  have ho6 : Only L.ρ (fun r => 7 + 4 * i ≤ r ∧ r ≤ 10 + 4 * i) w w6 := by
    rw [hw6]
    exact (((Only.of_below hb5).trans (Only.setCell w5 g 1 _ hgr)).trans (Only.setCell _ g 2 _ hgr)).trans (Only.setCell _ g 3 _ hgr)
  have hv6 : w6.ownsRow W.heap.size 5 1 (.slice a5 n c5) n (l.map b8) := own_same hv (fun k hk => e6 k (fun e => by have := (hv.lt k hk).1; have := hW.size; omega))
  have hn6 : w6.ownsRow w.heap.size 5 1 (.slice va n vc) n (l.map b8) := own_same ho (fun k hk => by
    have h1 := ho.lt k hk
    exact (e6 k (by omega)).trans (h5.block k h1.2))
  obtain ⟨ρ1, he1, hd1, hl1⟩ := put_new h.dom ho hW.size (8 + 4 * i)
  obtain ⟨ρ2, he2, hd2, hl2⟩ := put_new (w := W) (w' := w6) hd1 hv6 (by rw [z6]; exact h5.size) (9 + 4 * i)
  have he := he1.trans he2 hW.size
  refine ⟨ρ2, h.file1 hi ho6 he hd2 (f := ⟨l, l, []⟩) (vn := .slice va n vc) (vs := .slice a5 n c5) (vl := .slice none 0 0) ?_, Upd.of_only ho6 (by omega) he⟩
  rw [← hg]
  exact ⟨g6, (he.same g (by rw [hf.lg]; omega)).trans hf.lg, ⟨by rw [← hn]; exact own_base hn6, fun k hk => (he2.same k (by rw [hl1 k hk]; omega)).trans (hl1 k hk)⟩, ⟨by rw [← hn]; exact own_base hv6, hl2⟩, RunsAt.nil _ _ _⟩
theorem own_takeB {w : World} {B e s n m : Nat} {a : Option Addr} {c : Nat} {xs : List Value} (h : w.ownsRow B e s (.slice a n c) n xs) (hm : m ≤ n) : w.ownsRow B e s (.slice a m c) m (xs.take (m * s)) := by
  have h1 := own_take (own_base h) hm
  refine ⟨h1.1, ?_⟩
  rcases h1.2 with h2 | ⟨g, cap, cur, hv, hb, hg, hn, hc, hs, ht⟩
  · exact .inl h2
  · rcases h.2 with ⟨h3, -⟩ | ⟨g', cap', cur', hv', hb', -⟩
    · injection h3 with h4 h5 h6; injection hv with h7; rw [h4] at h7; cases h7
    · refine .inr ⟨g, cap, cur, hv, ?_, hg, hn, hc, hs, ht⟩
      injection hv with h4; injection hv' with h5; rw [h4] at h5; injection h5 with h5; injection h5 with h5; rw [h5]; exact hb'
theorem own_cap {w : World} {B e s n : Nat} {a : Option Addr} {c : Nat} {xs : List Value} (h : w.ownsRow B e s (.slice a n c) n xs) : n ≤ c := by
  rcases h.2 with ⟨h3, h4⟩ | ⟨g', cap', cur', hv', hb', -, hn, -⟩
  · injection h3 with _ h5 h6; omega
  · injection hv' with _ _ h6; omega
theorem new_lab {w : World} {ρ : Nat → Nat} (dom : ∀ k, ρ k ≠ 0 → k < w.heap.size) {w' : World} (hz : w.heap.size ≤ w'.heap.size) {v : Value} {e s n : Nat} {xs : List Value} (ho : w'.ownsRow w.heap.size e s v n xs) : ∀ k, v.ownBlock = some k → ρ k = 0 := fun k hk => by
  have h1 := (ho.lt k hk).1
  rcases Nat.eq_zero_or_pos (ρ k) with h | h
  · exact h
  · have := dom k (by omega); omega
theorem keep_any (w : World) (L : Lay) (gd : Nat) (d : Dm) (h : DAt w L gd d) (i : Nat) (hi : i < d.fs.length) (hok : okR (d.file i).loose (d.file i).safe.length) (hll : (d.file i).loose.length < 1099511627776) (x : Int) (hx0 : -9223372036854775808 ≤ x) (hx1 : x ≤ 9223372036854775807) :
    Calls Tryz.prog 29 #[.pointer (some ⟨L.fa i, 0, none⟩), .int .i64 x] w fun e w' => e = .returned (.tuple #[]) ∧ ∃ ρ', DAt w' { L with ρ := ρ' } gd (d.setF i ((d.file i).keep x)) ∧ Upd L.ρ ρ' w w' := by
  obtain ⟨vn, vs, vl, hf⟩ := h.at hi
  obtain ⟨sa, sc, hvs, -⟩ := owns_shape hf.safe.1
  obtain ⟨la, lc, hvl, -⟩ := owns_shape (show w.ownsRow 0 86 2 vl (d.file i).loose.length _ from hf.loose.choose_spec.2.1.1)
  obtain ⟨sn, hsn⟩ : ∃ sn, sn = (d.file i).safe.length := ⟨_, rfl⟩
  obtain ⟨ln, hln⟩ : ∃ ln, ln = (d.file i).loose.length := ⟨_, rfl⟩
  have hsl := hok.le
  have hr : R8 w sa sn sc (d.file i).safe := by have h9 := hf.safe.1; rw [hvs, ← hsn] at h9; exact R8.of_owns h9 (by omega)
  rw [← hsn] at hvs hsl
  rw [← hln] at hvl hll
  subst hvs hvl
  obtain ⟨g, hg⟩ : ∃ g, g = L.fa i := ⟨_, rfl⟩
  rw [← hg]
  rw [← hg] at hf
  have n2 := hf.cells.2.2.1
  have n3 := hf.cells.2.2.2.1
  have hgl : g < w.heap.size := (Array.getElem?_eq_some_iff.1 hf.box).1
  have HD := Lib.hid h
  have HF := Lib.hid hf
  have HOK := Lib.hid hok
  have HCL := Lib.hid (bclone_any w sa sn sc (d.file i).safe hr (by omega))
  have HG := Lib.hid hg
  have HSN := Lib.hid hsn
  have HLN := Lib.hid hln
  have HI := Lib.hid hi
  clear h hf hr hg hsn hln hok hi hsl
  go_enter Tryz.func29, Tryz.ntmps29
  go_wp2_with (go_at_call 33; refine HCL.out.mono ?_; rintro e w1 ⟨⟨a1, c1, rfl, hv1⟩, hb1⟩
               have n3 := (hb1.cell hgl).trans n3
               have HV1 := Lib.hid hv1
               have HB1 := Lib.hid hb1
               clear hv1 hb1)
  go_loopw [1, 4, 17] (fun xv v iv wr => ∃ (k : Nat) (y : Int) (n : Nat) (l : List UInt8) (va : Option Addr) (vc : Nat), k ≤ ln ∧ iv = .int .i64 k ∧ xv = .int .i64 y ∧ -9223372036854775808 ≤ y ∧ y ≤ 9223372036854775807 ∧ v = .slice va n vc ∧ n = l.length ∧ n ≤ 2147483647 ∧ wr.ownsRow w.heap.size 5 1 (.slice va n vc) n (l.map b8) ∧ playN ((d.file i).loose.drop k) y l = playN (d.file i).loose x (d.file i).safe ∧ (0 < y → okR ((d.file i).loose.drop k) l.length) ∧ Below w.heap.size w wr) (fun _ _ iv _ => ln - (intOf iv).toNat)
  case atStart => exact ⟨0, x, sn, (d.file i).safe, a1, c1, Nat.zero_le _, rfl, rfl, hx0, hx1, rfl, HSN.out, by have := HOK.out.le; have := HSN.out; omega, HV1.out, rfl, fun _ => HOK.out, HB1.out⟩
  case round =>
    obtain ⟨k, y, n, l, va, vc, hk, rfl, rfl, hy0, hy1, rfl, hn, hn1, ho, hplay, hokk, hb⟩ := hrel
    have HO := Lib.hid ho
    have HB := Lib.hid hb
    have HN := Lib.hid hn
    have HPL := Lib.hid hplay
    have HOKK := Lib.hid hokk
    clear ho hb hn hplay hokk
    by_cases hkl : k < ln
    · obtain ⟨u, hu⟩ : ∃ u, (d.file i).loose[k]? = some u := ⟨_, List.getElem?_eq_getElem (by rw [← HLN.out]; exact hkl)⟩
      have hfr : FAt wr L.ρ i g (d.file i) vn (.slice sa sn sc) (.slice la ln lc) := HF.out.keep (fun k hk => HB.out.block k (HD.out.dom k (by omega))) (fun _ _ => rfl)
      obtain ⟨gr, cc, ra, rc, hv, d0, d1, hrr⟩ := run_at hfr.loose hu
      rw [← HLN.out] at hv
      obtain rfl : la = some ⟨gr, 0, none⟩ := by injection hv
      obtain ⟨rm, hrm⟩ : ∃ rm, rm = u.laid.length := ⟨_, rfl⟩
      rw [← hrm] at d0 hrr
      obtain ⟨wb, hwb⟩ : ∃ wb, wb = wr.alloc (.cells #[.slice ra rm rc, .int .i64 u.cut] 86) := ⟨_, rfl⟩
      have hbb : Below wr.heap.size wr wb := by rw [hwb]; exact bel1 _ _
      have gb : wb.heap[wr.heap.size]? = some (.cells #[.slice ra rm rc, .int .i64 u.cut] 86) := by rw [hwb]; exact heap_alloc_new wr _
      have b0 : wb.cell? ⟨wr.heap.size, 0, none⟩ = some (.slice ra rm rc) := by rw [cell_of_row _ _ _ _ _ _ gb]; rfl
      have b1 : wb.cell? ⟨wr.heap.size, 1, none⟩ = some (.int .i64 u.cut) := by rw [cell_of_row _ _ _ _ _ _ gb]; rfl
      have hdrop : (d.file i).loose.drop k = u :: (d.file i).loose.drop (k + 1) := by
        have := (List.getElem?_eq_some_iff.1 hu)
        rw [List.drop_eq_getElem_cons this.1, this.2]
      have HGB := Lib.hid gb
      have HBB := Lib.hid (HB.out.trans (hbb.mono HB.out.size))
      have HOB := Lib.hid (own_below HO.out hbb)
      have HRB := Lib.hid (hrr.below hbb)
      have HDR := Lib.hid hdrop
      have HRM := Lib.hid hrm
      clear hv hfr hbb gb hdrop hu hrm
      by_cases hy : 0 < y
      · have hyle : ¬ y ≤ 0 := by omega
        go_upto_region 5 with (fail)
        rw [← hwb]
        clear hwb d0 d1
        have hok1 := HOKK.out hy
        rw [HDR.out] at hok1
        obtain ⟨-, hcut, hok2⟩ := hok1
        have hpl1 := HPL.out
        rw [HDR.out, playN, if_neg hyle] at hpl1
        have HOK2 := Lib.hid hok2
        have HPL1 := Lib.hid hpl1
        clear hok2 hpl1 HOKK HPL
        by_cases hm : rm = 0
        · subst hm
          have hl0 : u.laid = [] := List.eq_nil_of_length_eq_zero HRM.out.symm
          have hcut1 := hcut hl0
          have hltb : wr.heap.size < wb.heap.size := (Array.getElem?_eq_some_iff.1 HGB.out).1
          have HOT := Lib.hid (show wb.ownsRow w.heap.size 5 1 (.slice va u.cut vc) u.cut ((l.take u.cut).map b8) by
            have h1 := own_takeB HOB.out (m := u.cut) (by rw [HN.out]; exact hcut1)
            rw [Nat.mul_one, ← List.map_take] at h1; exact h1)
          have HOR := Lib.hid (own_takeB HO.out (m := u.cut) (by rw [HN.out]; exact hcut1))
          have HSR := Lib.hid (HRB.out.take 0 (Nat.le_refl _))
          have hq1 := slice_cut wb va n vc u.cut (by have := own_cap HOB.out; have := HN.out; omega)
          have hq2 : (Instr.slice 50 (.slice ra 0 rc) none (some (.int .i64 (min y 0))) none).run Tryz.prog wb = .ok (.slice ra 0 rc) wb := by
            rw [show min y 0 = ((0 : Nat) : Int) by omega]; exact slice_cut wb ra 0 rc 0 (Nat.zero_le _)
          have hcn : u.cut ≤ 2147483647 := by have := HN.out; omega
          clear hcut
          have HQ1 := Lib.hid (show (u.cut + 0) * 1 ≤ 140737488355328 by omega)
          have HQ2 := Lib.hid (show u.cut + 0 ≤ maxLen by unfold maxLen; omega)
          have HWB := Lib.hid (show w.heap.size ≤ wb.heap.size from HBB.out.size)
          have HLT := Lib.hid hltb
          have HB0 := Lib.hid b0
          have HB1' := Lib.hid b1
          clear hltb
          go_wp2_with (first
            | (at_builtin; refine L_append8 rfl (.tmp 31) (.tmp 39) 50 (by rfl) sl50 w.heap.size (.slice va u.cut vc) u.cut ((l.take u.cut).map b8) (by rfl) HOT.out ra 0 rc (u.laid.take 0) (by rfl) HSR.out HQ1.out HQ2.out HWB.out (fun a4 c4 w4 ho4 hg4 hat4 => ?_)
               have b0 := (World.cell?_of_block (a := ⟨wr.heap.size, 0, none⟩) (hg4.block wr.heap.size HLT.out (fun e => by have := (HOR.out.lt wr.heap.size e.symm).2; omega))).trans HB0.out
               have b1 := (World.cell?_of_block (a := ⟨wr.heap.size, 1, none⟩) (hg4.block wr.heap.size HLT.out (fun e => by have := (HOR.out.lt wr.heap.size e.symm).2; omega))).trans HB1'.out
               have HO4 := Lib.hid ho4
               have HB4 := Lib.hid (HBB.out.grown hg4 HWB.out (fun k hk => (HOT.out.lt k hk).1))
               clear ho4 hg4 hat4)
            | (go_at_call 32; refine (units_any _ _ _ _ _).mono ?_; rintro e w5 ⟨rfl, hb5⟩
               have HO5 := Lib.hid (own_below HO4.out hb5)
               have HB5 := Lib.hid (HB4.out.trans (hb5.mono HB4.out.size))
               clear hb5))
          go_roundw
          case rel =>
            have hun : u.units = 1 := by unfold Run.units; rw [hl0]; rfl
            have hup : u.play y.toNat l = l.take u.cut := by unfold Run.play; rw [if_pos hl0, hl0]; simp
            have hp9 := HPL1.out
            have ho9 := HOK2.out
            rw [hun, hup] at hp9
            rw [if_pos hl0, hl0] at ho9
            have hlen : u.cut = (l.take u.cut).length := by rw [List.length_take]; omega
            refine ⟨k + 1, y - max 0 1, u.cut, l.take u.cut, a4, c4, by omega, by push_cast; rfl, rfl, by omega, by omega, rfl, hlen, hcn, ?_, hp9, fun _ => by rw [← hlen]; exact ho9, HB5.out⟩
            have h9 := HO5.out
            rw [List.take_zero, List.map_nil, List.append_nil] at h9
            exact h9
          case measure => simp [intOf]; omega
        · have hl0 : u.laid ≠ [] := fun e => by have := HRM.out; rw [e] at this; exact hm this
          have hltb : wr.heap.size < wb.heap.size := (Array.getElem?_eq_some_iff.1 HGB.out).1
          obtain ⟨K, hK⟩ : ∃ K, K = (min y (rm : Int)).toNat := ⟨_, rfl⟩
          have hKm : K ≤ rm := by omega
          have HOT := Lib.hid (show wb.ownsRow w.heap.size 5 1 (.slice va n vc) n (l.map b8) from HOB.out)
          have HOR := Lib.hid (show wr.ownsRow w.heap.size 5 1 (.slice va n vc) n (l.map b8) from HO.out)
          have HSR := Lib.hid (HRB.out.take K hKm)
          have hq2 : (Instr.slice 50 (.slice ra rm rc) none (some (.int .i64 (min y (rm : Int)))) none).run Tryz.prog wb = .ok (.slice ra K rc) wb := by
            rw [show min y (rm : Int) = (K : Int) by omega]; exact slice_cut wb ra rm rc K (by have := HRB.out.2.1; omega)
          have hn9 : n + rm ≤ 2147483647 := by have h1 := HOK2.out.le; rw [if_neg hl0, ← HRM.out, ← HN.out] at h1; exact h1
          have hrm0 : ¬ (rm : Int) = 0 := by omega
          have HK := Lib.hid hK
          clear hcut hK
          have HQ1 := Lib.hid (show (n + K) * 1 ≤ 140737488355328 by omega)
          have HQ2 := Lib.hid (show n + K ≤ maxLen by unfold maxLen; omega)
          have HWB := Lib.hid (show w.heap.size ≤ wb.heap.size from HBB.out.size)
          have HLT := Lib.hid hltb
          have HB0 := Lib.hid b0
          have HB1' := Lib.hid b1
          clear hltb
          go_wp2_with (first
            | (at_builtin; refine L_append8 rfl (.tmp 31) (.tmp 39) 50 (by rfl) sl50 w.heap.size (.slice va n vc) n (l.map b8) (by rfl) HOT.out ra K rc (u.laid.take K) (by rfl) HSR.out HQ1.out HQ2.out HWB.out (fun a4 c4 w4 ho4 hg4 hat4 => ?_)
               have b0 := (World.cell?_of_block (a := ⟨wr.heap.size, 0, none⟩) (hg4.block wr.heap.size HLT.out (fun e => by have := (HOR.out.lt wr.heap.size e.symm).2; omega))).trans HB0.out
               have b1 := (World.cell?_of_block (a := ⟨wr.heap.size, 1, none⟩) (hg4.block wr.heap.size HLT.out (fun e => by have := (HOR.out.lt wr.heap.size e.symm).2; omega))).trans HB1'.out
               have HO4 := Lib.hid ho4
               have HB4 := Lib.hid (HBB.out.grown hg4 HWB.out (fun k hk => (HOT.out.lt k hk).1))
               clear ho4 hg4 hat4)
            | (go_at_call 32; refine (units_any _ _ _ _ _).mono ?_; rintro e w5 ⟨rfl, hb5⟩
               have HO5 := Lib.hid (own_below HO4.out hb5)
               have HB5 := Lib.hid (HB4.out.trans (hb5.mono HB4.out.size))
               clear hb5))
          go_roundw
          case rel =>
            have hun : u.units = rm := by unfold Run.units; rw [← HRM.out]; omega
            have hK := HK.out
            have hup : u.play y.toNat l = l ++ u.laid.take K := by
              unfold Run.play; rw [if_neg hl0]
              congr 1
              rw [List.take_eq_take_iff, ← HRM.out]; omega
            have hp9 := HPL1.out
            have ho9 := HOK2.out
            rw [hun, hup] at hp9
            rw [if_neg hl0, ← HRM.out, ← HN.out] at ho9
            have hlen : n + K = (l ++ u.laid.take K).length := by rw [List.length_append, List.length_take, ← HRM.out, ← HN.out]; omega
            refine ⟨k + 1, y - max (rm : Int) 1, n + K, l ++ u.laid.take K, a4, c4, by omega, by push_cast; rfl, rfl, by omega, by omega, rfl, hlen, by omega, ?_, by rw [show y - max (rm : Int) 1 = y - (rm : Int) by omega]; exact hp9, fun h0 => by rw [← hlen, show K = rm by omega]; exact ho9, HB5.out⟩
            have h9 := HO5.out
            rw [← List.map_append] at h9
            exact h9
          case measure => simp [intOf]; omega
      · have hyle : y ≤ 0 := by omega
        have HFIN := Lib.hid (show playN (d.file i).loose x (d.file i).safe = l by rw [← HPL.out, HDR.out, playN, if_pos hyle])
        have HBW := Lib.hid (show Below w.heap.size w wb from HBB.out)
        have HOW := Lib.hid HOB.out
        go_upto_region 10 with (fail)
        rw [← hwb]
        clear hwb d0 d1 b0 b1
        have HC := Lib.hid (bclone_any wb va n vc l (R8.of_owns HOW.out (by omega)) (by omega))
        have hgW : g < wb.heap.size := Nat.lt_of_lt_of_le hgl HBW.out.size
        go_wp2_with (go_at_call 33; refine HC.out.mono ?_; rintro e w5 ⟨⟨a5, c5, rfl, hv5⟩, hb5⟩
                     have hx := (hb5.block g hgW).trans ((HBW.out.block g hgl).trans HF.out.box)
                     have s1 := cell_of_row _ _ 1 _ _ _ hx
                     have s2 := cell_of_row _ _ 2 _ _ _ hx
                     have s3 := cell_of_row _ _ 3 _ _ _ hx
                     have f1 := frozen_of_row w5 g 1 _ _ hx
                     have f2 := frozen_of_row w5 g 2 _ _ hx
                     have f3 := frozen_of_row w5 g 3 _ _ hx
                     simp only [List.getElem?_toArray, List.getElem?_cons_zero, List.getElem?_cons_succ] at s1 s2 s3
                     have HX := Lib.hid hx
                     have HV5 := Lib.hid hv5
                     have HB5 := Lib.hid hb5
                     clear hx hv5 hb5)
        go_end0
        have hk9 : (d.file i).keep x = ⟨l, l, []⟩ := by unfold Fl.keep; rw [HFIN.out]
        rw [hk9]
        exact ⟨rfl, kept_file HD.out HI.out HG.out HF.out HBW.out HN.out HOW.out HB5.out HV5.out⟩
    · obtain rfl : k = ln := by omega
      have HFIN := Lib.hid (show playN (d.file i).loose x (d.file i).safe = l by rw [← HPL.out, List.drop_of_length_le (by rw [← HLN.out]; exact Nat.le_refl _)]; rfl)
      have HBW := Lib.hid HB.out
      have HOW := Lib.hid HO.out
      have HC := Lib.hid (bclone_any wr va n vc l (R8.of_owns HOW.out (by omega)) (by omega))
      have hgW : g < wr.heap.size := Nat.lt_of_lt_of_le hgl HBW.out.size
      go_wp2_with (go_at_call 33; refine HC.out.mono ?_; rintro e w5 ⟨⟨a5, c5, rfl, hv5⟩, hb5⟩
                   have hx := (hb5.block g hgW).trans ((HBW.out.block g hgl).trans HF.out.box)
                   have s1 := cell_of_row _ _ 1 _ _ _ hx
                   have s2 := cell_of_row _ _ 2 _ _ _ hx
                   have s3 := cell_of_row _ _ 3 _ _ _ hx
                   have f1 := frozen_of_row w5 g 1 _ _ hx
                   have f2 := frozen_of_row w5 g 2 _ _ hx
                   have f3 := frozen_of_row w5 g 3 _ _ hx
                   simp only [List.getElem?_toArray, List.getElem?_cons_zero, List.getElem?_cons_succ] at s1 s2 s3
                   have HX := Lib.hid hx
                   have HV5 := Lib.hid hv5
                   have HB5 := Lib.hid hb5
                   clear hx hv5 hb5)
      go_end0
      have hk9 : (d.file i).keep x = ⟨l, l, []⟩ := by unfold Fl.keep; rw [HFIN.out]
      rw [hk9]
      exact ⟨rfl, kept_file HD.out HI.out HG.out HF.out HBW.out HN.out HOW.out HB5.out HV5.out⟩
end Go.Proofs.YteoggphafhcchaaGreat
namespace Go.Proofs.YteoggphafhcchaaGreat
open Go Go.RowKit
set_option maxRecDepth 100000
set_option maxHeartbeats 1000000
set_option linter.unusedVariables false
set_option linter.unusedSimpArgs false
open Go.Maps Go.WideMaps
theorem sl30 : Sl Tryz.prog 30 3 (.int .i64 0) 1 8 := ⟨Tryz.underlying30, by kernel_rfl, rfl, by decide⟩
theorem new_int (w : World) (v : Value) {k : Nat} (hk : k = w.heap.size) (j : Nat) (u : Value) (h : [v][j]? = some u) : (w.alloc (.cells #[v] 3)).cell? ((⟨k, 0, none⟩ : Addr).add j) = some u := by
  subst hk
  rw [Addr.add_lit, cell_of_row _ _ _ _ _ _ (heap_alloc_new w _), Nat.zero_add]
  simpa using h
def nV (k : Nat) : Value := .int .i64 (k : Int)
abbrev boxCut (a : Option Addr) (n c : Nat) (m : Int) : Obj := .cells #[.slice a n c, .int .i64 m] 32
theorem ptrs_at {w : World} {B e n c : Nat} {a : Option Addr} {fa : Nat → Nat} {is : List Nat} (h : w.ownsRow B e 1 (.slice a n c) n (ptrs fa is)) {j i : Nat} (hj : is[j]? = some i) : ∃ g, a = some ⟨g, 0, none⟩ ∧ B ≤ g ∧ g < w.heap.size ∧ w.cell? ⟨g, j, none⟩ = some (.pointer (some ⟨fa i, 0, none⟩)) := by
  have hl := h.1
  have hjl := (List.getElem?_eq_some_iff.1 hj).1
  have hn : n = is.length := by unfold ptrs at hl; rw [List.length_map] at hl; omega
  have hlt : 0 < n := by omega
  obtain ⟨a0, c0, hv, hg⟩ := owns_shape h
  obtain ⟨g, h1, -, -⟩ := hg hlt
  injection hv with h2 _ h3
  subst h2 h3 h1
  have h4 := h.lt g rfl
  have hp : (ptrs fa is) = is.flatMap fun i => [.pointer (some ⟨fa i, 0, none⟩)] := by unfold ptrs; exact List.map_eq_flatMap
  rw [hp] at h
  have := own_at (enc := fun i => [.pointer (some ⟨fa i, 0, none⟩)]) (s := 1) (fun _ => rfl) h hj 0 _ rfl
  exact ⟨g, rfl, h4.1, h4.2, by simpa using this⟩
theorem ptrs_len {w : World} {B e n : Nat} {v : Value} {fa : Nat → Nat} {is : List Nat} (h : w.ownsRow B e 1 v n (ptrs fa is)) : n = is.length := by
  have := h.1; unfold ptrs at this; rw [List.length_map] at this; omega
theorem grow_step {wR wo wr wx w4 : World} {b3 : Nat} {ob : Option Nat} (hg : wR.grownBy wo (some b3)) (hbi : Below wo.heap.size wo wr) (hx : Below wr.heap.size wr wx) (h4 : wx.grownBy w4 ob) (hob : ∀ k, ob = some k → wR.heap.size ≤ k) (o : Nat) (v : Value) : wR.grownBy (w4.setCell ⟨b3, o, none⟩ v) (some b3) :=
  ⟨h4.os.trans (hx.os.trans (hbi.os.trans hg.os)), h4.tape.trans (hx.tape.trans (hbi.tape.trans hg.tape)), h4.output.trans (hx.output.trans (hbi.output.trans hg.output)), by have := hg.size; have := hbi.size; have := hx.size; have := h4.size; simp; omega, fun k hk hn => by
    have := hg.size; have := hbi.size; have := hx.size
    refine (heap_setCell_other w4 ⟨b3, o, none⟩ k v (fun e => hn (by rw [e]))).trans ?_
    exact (h4.block k (by omega) (fun e => by have := hob k e.symm; omega)).trans ((hx.block k (by omega)).trans ((hbi.block k (by omega)).trans (hg.block k hk hn)))⟩
theorem units_take {l : List Run} {k : Nat} {u : Run} (h : l[k]? = some u) : ((l.take (k + 1)).map Run.units).sum = ((l.take k).map Run.units).sum + u.units := by
  rw [List.take_add_one, h, List.map_append, List.sum_append]; simp
theorem units_le (l : List Run) (k : Nat) : ((l.take k).map Run.units).sum ≤ (l.map Run.units).sum := by
  conv => rhs; rw [← List.take_append_drop k l, List.map_append, List.sum_append]
  exact Nat.le_add_right _ _
theorem reach_lt {d : Dm} (hp : Pre d) : ∀ i ∈ d.reach, i < d.fs.length := fun i hi => by
  have h1 := (List.mergeSort_perm _ _).mem_iff.1 hi
  rcases List.mem_append.1 h1 with h1 | h1
  · obtain ⟨p, h2, rfl⟩ := List.mem_map.1 h1
    exact hp.refs.sf p.1 p.2 (lk_of_mem hp.ns h2)
  · obtain ⟨c, h2, h3⟩ := List.mem_filterMap.1 h1
    exact hp.refs.ch c h2 i h3
theorem reach_len {d : Dm} (hp : Pre d) : d.reach.length < 1099511631873 := by
  have h1 : d.reach.length = d.safe.length + (d.changes.filterMap (·.made)).length := by
    unfold Dm.reach; rw [List.length_mergeSort, List.length_append, List.length_map]
  have h2 := List.length_filterMap_le (·.made) d.changes
  have h3 := hp.chl
  have h4 := hp.fewS
  rw [h1]; omega
theorem loose_any (w : World) (L : Lay) (gd : Nat) (d : Dm) (h : DAt w L gd d) (hp : Pre d) (hun : ∀ i, i < d.fs.length → (d.file i).units ≤ 9223372036854775806) :
    Calls Tryz.prog 10 #[.pointer (some ⟨gd, 0, none⟩)] w fun e w' => Below w.heap.size w w' ∧ ∃ a c, e = .returned (.agg #[.slice a d.reach.length c, .int .i64 d.changes.length]) ∧ w'.ownsRow w.heap.size 3 1 (.slice a d.reach.length c) d.reach.length (d.loose.2.map nV) := by
  obtain ⟨cv, cc, hch, -⟩ := owns_shape h.ch.1
  obtain ⟨cn, hcn⟩ : ∃ cn, cn = d.changes.length := ⟨_, rfl⟩
  have c8 := h.cells.2.2.2.2.2.2.2.2.1
  rw [hch, ← hcn] at c8
  have hgl := h.lt
  rw [← hcn]
  obtain ⟨w1, hw1⟩ : ∃ w1, w1 = w.alloc (boxCut none 0 0 0) := ⟨_, rfl⟩
  obtain ⟨w2, hw2⟩ : ∃ w2, w2 = w1.alloc (boxCut none 0 0 cn) := ⟨_, rfl⟩
  have hb1 : Below w.heap.size w w1 := by rw [hw1]; exact bel1 _ _
  have hb2 : Below w1.heap.size w1 w2 := by rw [hw2]; exact bel1 _ _
  have g1 : w1.heap[w.heap.size]? = some (boxCut none 0 0 0) := by rw [hw1]; exact heap_alloc_new w _
  have g2 : w2.heap[w1.heap.size]? = some (boxCut none 0 0 cn) := by rw [hw2]; exact heap_alloc_new w1 _
  have hb12 := hb1.trans (hb2.mono hb1.size)
  have HB2 := Lib.hid hb12
  have HR := Lib.hid (reach_any w2 L gd d (h.below hb12) hp)
  have HG2 := Lib.hid g2
  have HG1 := Lib.hid ((hb2.block w.heap.size (by rw [hw1]; simp)).trans g1)
  have HD := Lib.hid h
  have HP := Lib.hid hp
  have HUN := Lib.hid hun
  have HCN := Lib.hid hcn
  clear h hp hun hcn hch hb1 hb2 hb12 g1 g2
  obtain ⟨rn, hrn⟩ : ∃ rn, rn = d.reach.length := ⟨_, rfl⟩
  have hrn0 : rn < 1099511631873 := by rw [hrn]; exact reach_len HP.out
  rw [← hrn]
  go_enter Tryz.func10, Tryz.ntmps10
  go_upto_region 2 with (fail)
  rw [← hw1, ← hw2]
  obtain ⟨b3, hb3⟩ : ∃ b3, b3 = w.heap.size + 1 := ⟨_, rfl⟩
  have hb31 : b3 = w1.heap.size := by rw [hb3, hw1]; simp
  have hz2 : w2.heap.size = b3 + 1 := by rw [hw2, hb31]; simp
  rw [← hb31] at HG2
  rw [← hb3]
  have HB3 := Lib.hid hb3
  have hb3z : b3 < w2.heap.size := by omega
  have hb3w : w.heap.size < b3 := by omega
  clear hw1 hw2 hb31 hb3 hz2
  rw [← hrn] at HR
  have HRN := Lib.hid hrn
  clear hrn c8
  go_wp2_with (go_at_call 28; refine HR.out.mono ?_; rintro e wR ⟨⟨ra, rc, rfl, hrow⟩, hbR⟩
               have HROW := Lib.hid hrow
               have HBR := Lib.hid hbR
               have hbx : b3 < wR.heap.size := Nat.lt_of_lt_of_le hb3z hbR.size
               have hgx := (hbR.block b3 hb3z).trans HG2.out
               have HGX := Lib.hid hgx
               clear hrow hbR hgx)
  go_loopw [18] (fun iv wr => ∃ (k : Nat) (va : Option Addr) (vc : Nat), k ≤ rn ∧ iv = .int .i64 k ∧ wR.grownBy wr (some b3) ∧ wr.heap[b3]? = some (boxCut va k vc cn) ∧ wr.ownsRow wR.heap.size 3 1 (.slice va k vc) k ((d.loose.2.take k).map nV)) (fun iv _ => rn - (intOf iv).toNat)
  case atStart => exact ⟨0, none, 0, Nat.zero_le _, rfl, World.grownBy.refl _ _, HGX.out, by simp, .inl ⟨rfl, rfl⟩⟩
  case round =>
    rename World => wo
    obtain ⟨k, va, vc, hk, rfl, hg, hx, ho⟩ := hrel
    have HG := Lib.hid hg
    have HX := Lib.hid hx
    have HO := Lib.hid ho
    clear hg hx ho
    by_cases hkl : k < rn
    · obtain ⟨i, hi⟩ : ∃ i, d.reach[k]? = some i := ⟨_, List.getElem?_eq_getElem (by rw [← HRN.out]; exact hkl)⟩
      have hil := reach_lt HP.out i (List.mem_of_getElem? hi)
      obtain ⟨gq, rfl, hq0, hq1, hq⟩ := ptrs_at HROW.out hi
      have hq' : wo.cell? ⟨gq, k, none⟩ = some (.pointer (some ⟨L.fa i, 0, none⟩)) := (World.cell?_of_block (a := ⟨gq, k, none⟩) (HG.out.block gq hq1 (by simp; omega))).trans hq
      obtain ⟨vn, vs, vl, hf⟩ := HD.out.at hil
      have hbr : Below w.heap.size w wo := HB2.out.trans ((HBR.out.mono HB2.out.size).trans ⟨HG.out.os, HG.out.tape, HG.out.output, HG.out.size, fun j hj => HG.out.block j (by have := HB2.out.size; have := HBR.out.size; omega) (by simp; omega)⟩)
      have hfr : FAt wo L.ρ i (L.fa i) (d.file i) vn vs vl := hf.keep (fun k hk => hbr.block k (HD.out.dom k (by omega))) (fun _ _ => rfl)
      obtain ⟨la, lc, hvl, -⟩ := owns_shape (show wo.ownsRow 0 86 2 vl (d.file i).loose.length _ from hfr.loose.choose_spec.2.1.1)
      obtain ⟨ln, hln⟩ : ∃ ln, ln = (d.file i).loose.length := ⟨_, rfl⟩
      rw [← hln] at hvl
      subst hvl
      have n3 := hfr.cells.2.2.2.1
      have hgf : L.fa i < wo.heap.size := (Array.getElem?_eq_some_iff.1 hfr.box).1
      obtain ⟨g, hg⟩ : ∃ g, g = L.fa i := ⟨_, rfl⟩
      rw [← hg] at n3 hq' hgf
      have hunl := HUN.out i hil
      have HF := Lib.hid hfr
      have HBW := Lib.hid hbr
      have HLN := Lib.hid hln
      have HGE := Lib.hid hg
      have HI := Lib.hid hi
      have HUL := Lib.hid hunl
      have hll : ln < 1099511627776 := by rw [hln]; exact (HP.out.file i).2.2
      clear hf hfr hln hg hbr hi hq hunl
      go_wp2_with fail
      go_loopw [6, 27] (fun nv jv wr => ∃ (j s : Nat), j ≤ ln ∧ jv = .int .i64 j ∧ nv = .int .i64 s ∧ s = (((d.file i).loose.take j).map Run.units).sum ∧ Below wo.heap.size wo wr) (fun _ jv _ => ln - (intOf jv).toNat)
      case atStart => exact ⟨0, 0, Nat.zero_le _, rfl, rfl, by simp, Below.refl _ _⟩
      case round =>
        obtain ⟨j, s, hj, rfl, rfl, hs, hbi⟩ := hrel
        have HS := Lib.hid hs
        have HBI := Lib.hid hbi
        clear hs hbi
        by_cases hjl : j < ln
        · obtain ⟨u, hu⟩ : ∃ u, (d.file i).loose[j]? = some u := ⟨_, List.getElem?_eq_getElem (by rw [← HLN.out]; exact hjl)⟩
          have hfi : FAt wr L.ρ i (L.fa i) (d.file i) vn vs (.slice la ln lc) := HF.out.keep (fun k hk => HBI.out.block k (Nat.lt_of_lt_of_le (HD.out.dom k (by omega)) HBW.out.size)) (fun _ _ => rfl)
          obtain ⟨gr, cc', ua, uc, hv, d0, d1, hrr⟩ := run_at hfi.loose hu
          rw [← HLN.out] at hv
          obtain rfl : la = some ⟨gr, 0, none⟩ := by injection hv
          have hle : u.laid.length ≤ 281474976710656 := hrr.2.2.1
          obtain ⟨rm, hrm⟩ : ∃ rm, rm = u.laid.length := ⟨_, rfl⟩
          rw [← hrm] at d0 hle
          have hst := units_take hu
          have hun1 : u.units = max rm 1 := by unfold Run.units; rw [hrm]
          rw [hun1, ← HS.out] at hst
          have hsu : s + max rm 1 ≤ 9223372036854775806 := by
            have h1 := units_le (d.file i).loose (j + 1)
            have h2 := HUL.out
            unfold Fl.units at h2
            omega
          have HST := Lib.hid hst
          obtain ⟨wb, hwb⟩ : ∃ wb, wb = wr.alloc (.cells #[.slice ua rm uc, .int .i64 u.cut] 86) := ⟨_, rfl⟩
          have hbb : Below wr.heap.size wr wb := by rw [hwb]; exact bel1 _ _
          have gb : wb.heap[wr.heap.size]? = some (.cells #[.slice ua rm uc, .int .i64 u.cut] 86) := by rw [hwb]; exact heap_alloc_new wr _
          have b0 : wb.cell? ⟨wr.heap.size, 0, none⟩ = some (.slice ua rm uc) := by rw [cell_of_row _ _ _ _ _ _ gb]; rfl
          have b1 : wb.cell? ⟨wr.heap.size, 1, none⟩ = some (.int .i64 u.cut) := by rw [cell_of_row _ _ _ _ _ _ gb]; rfl
          have HBB := Lib.hid (HBI.out.trans (hbb.mono HBI.out.size))
          clear hv hfi hrr hu hrm hst hun1 hbb gb
          go_upto_region 9 with (fail)
          rw [← hwb]
          clear hwb d0 d1
          go_wp2_with (go_at_call 32; refine (units_any _ _ _ _ _).mono ?_; rintro e w5 ⟨rfl, hb5⟩
                       have HB5 := Lib.hid (HBB.out.trans (hb5.mono HBB.out.size))
                       clear hb5)
          go_roundw
          case rel => exact ⟨j + 1, s + max rm 1, by omega, by push_cast; rfl, congrArg (Value.int .i64) (by omega), HST.out.symm, HB5.out⟩
          case measure => simp [intOf]; omega
        · obtain rfl : j = ln := by omega
          have HS9 := Lib.hid (show s = (d.file i).units by unfold Fl.units; rw [HS.out, List.take_of_length_le (by rw [← HLN.out]; exact Nat.le_refl _)])
          have hxi := (HBI.out.block b3 (Array.getElem?_eq_some_iff.1 HX.out).1).trans HX.out
          have x0 := cell_of_row _ _ 0 _ _ _ hxi
          simp only [List.getElem?_toArray, List.getElem?_cons_zero, List.getElem?_cons_succ] at x0
          have hoi := own_below HO.out HBI.out
          obtain ⟨wx, hwx⟩ : ∃ wx, wx = wr.alloc (.cells #[.int .i64 s] 3) := ⟨_, rfl⟩
          have hbx1 : Below wr.heap.size wr wx := by rw [hwx]; exact bel1 _ _
          have HNX := Lib.hid (fun jj u h => by have h9 := new_int wr (.int .i64 s) (k := wr.heap.size) rfl jj u h; rw [← hwx] at h9; exact h9)
          have HOX := Lib.hid (own_below hoi hbx1)
          have HXX := Lib.hid ((hbx1.block b3 (Array.getElem?_eq_some_iff.1 hxi).1).trans hxi)
          have hbz : b3 < wx.heap.size := (Array.getElem?_eq_some_iff.1 HXX.out).1
          have hRx : wR.heap.size ≤ wx.heap.size := by have := HG.out.size; have := HBI.out.size; have := hbx1.size; omega
          have HBX1 := Lib.hid hbx1
          have HQ1 := Lib.hid (show (k + 1) * 8 ≤ 140737488355328 by omega)
          have HQ2 := Lib.hid (show k + 1 ≤ maxLen by unfold maxLen; omega)
          have HOB := Lib.hid (fun kk e => (HOX.out.lt kk e).1)
          clear hxi hoi hbx1
          go_wp2_with (first
            | (at_builtin; rw [← hwx]; refine L_appendN rfl (.tmp 37) (.tmp 39) 30 (by rfl) sl30 wR.heap.size (.slice va k vc) k _ (by rfl) HOX.out ⟨wr.heap.size, 0, none⟩ 1 1 [.int .i64 s] (by rfl) (by rfl) HNX.out (by simp [Value.oneCell']) HQ1.out HQ2.out hRx (fun a4 c4 w4 ho4 hg4 hat4 => ?_)
               have hx4 := (hg4.block b3 hbz (fun e => by have := HOB.out b3 e.symm; omega)).trans HXX.out
               have x4 := cell_of_row _ _ 0 _ _ _ hx4
               have f4 := frozen_of_row w4 b3 0 _ _ hx4
               simp only [List.getElem?_toArray, List.getElem?_cons_zero, List.getElem?_cons_succ] at x4
               have HX4 := Lib.hid hx4
               have HO4 := Lib.hid ho4
               have HG4 := Lib.hid hg4
               clear hx4 ho4 hg4 hat4))
          go_roundw
          case rel =>
            refine ⟨k + 1, a4, c4, by omega, by push_cast; rfl, grow_step HG.out HBI.out HBX1.out HG4.out HOB.out 0 _, heap_setCell_same _ b3 0 _ _ _ HX4.out, ?_⟩
            have h9 := own_same (w' := w4.setCell ⟨b3, 0, none⟩ (.slice a4 (k + 1) c4)) HO4.out (fun kk e => heap_setCell_other w4 ⟨b3, 0, none⟩ kk _ (fun e' => by have := (HO4.out.lt kk e).1; simp at e'; omega))
            have h8 : d.loose.2[k]? = some s := by unfold Dm.loose; rw [List.getElem?_map, HI.out, HS9.out]; rfl
            rw [List.take_add_one, h8, List.map_append]
            exact h9
          case measure => simp [intOf]; omega
    · obtain rfl : k = rn := by omega
      have hbr : Below w.heap.size w wo := HB2.out.trans ((HBR.out.mono HB2.out.size).trans ⟨HG.out.os, HG.out.tape, HG.out.output, HG.out.size, fun j hj => HG.out.block j (by have := HB2.out.size; have := HBR.out.size; omega) (by simp; omega)⟩)
      have hg1 := (HG.out.block w.heap.size (by omega) (by simp; omega)).trans ((HBR.out.block w.heap.size (by omega)).trans HG1.out)
      have x0 := cell_of_row _ _ 0 _ _ _ HX.out
      have x1 := cell_of_row _ _ 1 _ _ _ HX.out
      have y0 := cell_of_row _ _ 0 _ _ _ hg1
      have y1 := cell_of_row _ _ 1 _ _ _ hg1
      have f0 := frozen_of_row wo w.heap.size 0 _ _ hg1
      have f1 := frozen_of_row wo w.heap.size 1 _ _ hg1
      simp only [List.getElem?_toArray, List.getElem?_cons_zero, List.getElem?_cons_succ] at x0 x1 y0 y1
      have HBW := Lib.hid hbr
      have HY := Lib.hid hg1
      clear hbr hg1
      go_wp2_with fail
      (try simp only [Exit.inBlock, Exit.then])
      have g9 : ((wo.setCell ⟨w.heap.size, 0, none⟩ (.slice va k vc)).setCell ⟨w.heap.size, 1, none⟩ (.int .i64 cn)).heap[w.heap.size]? = some (boxCut va k vc cn) := heap_setCell_same _ w.heap.size 1 _ _ _ (heap_setCell_same wo w.heap.size 0 _ _ _ HY.out)
      refine bodyPost_ret (results_cell_row rfl _ _ w.heap.size 32 #[.slice va k vc, .int .i64 cn] (0, 0) _ rfl g9 Tryz.underlying32 rfl (by kernel_rfl)) rfl ?_
      have h9 := own_same (w' := (wo.setCell ⟨w.heap.size, 0, none⟩ (.slice va k vc)).setCell ⟨w.heap.size, 1, none⟩ (.int .i64 cn)) HO.out (fun kk e => by
        have h1 := (HO.out.lt kk e).1
        exact (heap_setCell_other _ ⟨w.heap.size, 1, none⟩ kk _ (fun e' => by simp at e'; omega)).trans (heap_setCell_other wo ⟨w.heap.size, 0, none⟩ kk _ (fun e' => by simp at e'; omega)))
      rw [List.take_of_length_le (by unfold Dm.loose; rw [List.length_map, ← HRN.out]; exact Nat.le_refl _)] at h9
      exact ⟨⟨HBW.out.os, HBW.out.tape, HBW.out.output, by simp; exact HBW.out.size, fun kk hk => ((heap_setCell_other _ ⟨w.heap.size, 1, none⟩ kk _ (by simp; omega)).trans (heap_setCell_other wo ⟨w.heap.size, 0, none⟩ kk _ (by simp; omega))).trans (HBW.out.block kk hk)⟩, va, vc, rfl, owns_mono h9 (by have := HB2.out.size; have := HBR.out.size; omega)⟩
end Go.Proofs.YteoggphafhcchaaGreat
