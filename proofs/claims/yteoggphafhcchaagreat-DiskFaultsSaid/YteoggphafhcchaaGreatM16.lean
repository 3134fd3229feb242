import Derived.Test.YteoggphafhcchaaGreatM15
namespace Go.Proofs.YteoggphafhcchaaGreat
open Go Go.RowKit
set_option maxRecDepth 100000
set_option maxHeartbeats 1000000
set_option linter.unusedVariables false
set_option linter.unusedSimpArgs false
open Go.Maps Go.WideMaps
theorem new_run (w : World) (v : Value) (m : Int) {k : Nat} (hk : w.heap.size = k) (j : Nat) (u : Value) (h : [v, .int .i64 m][j]? = some u) : (w.alloc (.cells #[v, .int .i64 m] 86)).cell? ((⟨k, 0, none⟩ : Addr).add j) = some u := by
  subst hk
  rw [Addr.add_lit, cell_of_row _ _ _ _ _ _ (heap_alloc_new w _), Nat.zero_add]
  simpa using h
theorem one_run (v : Value) (m : Int) (hv : v.oneCell' = true) : ∀ u ∈ [v, .int .i64 m], u.oneCell' = true := by
  intro u hu
  simp only [List.mem_cons, List.not_mem_nil, or_false] at hu
  rcases hu with rfl | rfl
  · exact hv
  · rfl
abbrev boxI (n : Int) : Obj := .cells #[.int .i64 n] 3
theorem slice_cut (w : World) (a : Option Addr) (n c k : Nat) (hk : k ≤ c) : (Instr.slice 50 (.slice a n c) none (some (.int .i64 (k : Int))) none).run Tryz.prog w = .ok (.slice a k c) w := by
  obtain ⟨h1, h2⟩ := sl50.elem w
  rw [run_slice_h w 50 a n c h1 .i64 k (by omega) (by omega), h2]
  have e : a.map (·.add 0) = a := by cases a with | none => rfl | some x => cases x; simp [Addr.add]
  simp [Result.andThen, sliced, e]
/-- Cut's closure. -/
theorem cut1_any (w : World) (L : Lay) (gd : Nat) (d : Dm) (h : DAt w L gd d) (i : Nat) (hi : i < d.fs.length) (n : Nat) (hn : n ≤ (d.file i).now.length) (hl : (d.file i).now.length ≤ 2147483647) (hlo : (d.file i).loose.length < 1099511627776) (bd bp bn : Nat) (hbd : Cap w L.ρ bd (boxD gd)) (hbp : Cap w L.ρ bp (boxP (L.fa i))) (hbn : Cap w L.ρ bn (boxI n)) :
    Calls Tryz.prog 69 #[.pointer (some ⟨bd, 0, none⟩), .pointer (some ⟨bp, 0, none⟩), .pointer (some ⟨bn, 0, none⟩)] w fun e w' => e = .returned (.tuple #[]) ∧ ∃ L', DAt w' L' gd { (d.setF i ⟨(d.file i).now.take n, (d.file i).safe, (d.file i).loose ++ [⟨[], n⟩]⟩) with used := wrap64 (d.used - wrap64 (((d.file i).now.length : Int) - n)) } ∧ Upd L.ρ L'.ρ w w' := by
  obtain ⟨vn, vs, vl, hf⟩ := h.at hi
  obtain ⟨av, cv, hvn, -⟩ := owns_shape hf.now.1
  obtain ⟨nv, hnv⟩ : ∃ nv, nv = (d.file i).now.length := ⟨_, rfl⟩
  rw [← hnv] at hvn hl hn
  subst hvn
  obtain ⟨g, hg⟩ : ∃ g, g = L.fa i := ⟨_, rfl⟩
  rw [← hg] at hbp
  have hgl := hf.lt
  have hgd := h.lt
  have HF := Lib.hid hf
  have HD := Lib.hid h
  have HBD := Lib.hid hbd
  have HBP := Lib.hid hbp
  have HBN := Lib.hid hbn
  have HNV := Lib.hid hnv
  have HG := Lib.hid hg
  have kd := cell0 hbd.1
  have kp := cell0 hbp.1
  have kn := cell0 hbn.1
  have c2 := h.cells.2.2.1
  have f2 := h.cells.2.2.2.2.2.2.2.2.2.2.2 2
  have n1 := hf.cells.2.1
  rw [← hg] at n1
  clear h hf hbd hbp hbn hnv hg
  go_enter Tryz.func69, Tryz.ntmps69
  go_wp2_with fail
  go_still_tail 12, (by kernel_rfl)
  change wpList _ _ _ _ _ w.drew
  obtain ⟨wz, hwz⟩ : ∃ wz, wz = w.drew := ⟨_, rfl⟩
  have hbz : Below w.heap.size w wz := by rw [hwz]; exact (Below.refl _ _).drew
  have c2z := keepc hbz c2
  have f2z : wz.frozen? ⟨gd, 2, none⟩ = false := by rw [hwz]; exact f2
  rw [← hwz]
  clear hwz kd kp kn c2 f2 n1
  have HBZ := Lib.hid hbz
  clear hbz
  go_upto_region 1 with (fail)
  obtain ⟨u', hu'⟩ : ∃ u', u' = wrap64 (d.used - ((nv : Int) - (n : Int))) := ⟨_, rfl⟩
  rw [← hu']
  have hdz := HD.out.below HBZ.out
  have hoz : Only L.ρ (· = 1) wz (wz.setCell ⟨gd, 2, none⟩ (.int .i64 u')) := Only.setCell wz gd 2 _ hdz.lg
  have hd1 := hdz.own1 hoz (d' := { d with used := u' }) (heap_setCell_same wz gd 2 _ _ _ hdz.g) rfl rfl rfl rfl rfl rfl
  have hu1 : Upd L.ρ L.ρ w (wz.setCell ⟨gd, 2, none⟩ (.int .i64 u')) := (Upd.of_below (ρ := L.ρ) HBZ.out).trans (Upd.of_only hoz (by omega) (Ext.refl _ _))
  obtain ⟨w1, hw1⟩ : ∃ w1, w1 = wz.setCell ⟨gd, 2, none⟩ (.int .i64 u') := ⟨_, rfl⟩
  rw [← hw1] at hoz hd1 hu1 ⊢
  have hf1 : FAt w1 L.ρ i (L.fa i) (d.file i) (.slice av nv cv) vs vl := (HF.out.keep (w' := wz) (ρ' := L.ρ) (fun k e => HBZ.out.block k (HD.out.dom k (by omega))) (fun _ _ => rfl)).keep (fun k e => hoz.block k (Nat.lt_of_lt_of_le (HD.out.dom k (by omega)) HBZ.out.size) (by omega)) (fun _ _ => rfl)
  have HD1 := Lib.hid hd1
  have HU1 := Lib.hid hu1
  have HF1 := Lib.hid hf1
  have HBP1 := Lib.hid (HBP.out.upd hu1)
  have HBN1 := Lib.hid (HBN.out.upd hu1)
  have HUU := Lib.hid hu'
  have kp := cell0 HBP1.out.1
  have kn := cell0 HBN1.out.1
  have n1 := hf1.cells.2.1
  have f1 := hf1.cells.2.2.2.2 1
  rw [← HG.out] at n1 f1
  have hcap : (n : Int) ≤ (cv : Int) := by
    rcases hf1.now.1.2 with ⟨hv, h0⟩ | ⟨b, cap, cur, hv, -, -, hc, -⟩
    · have h1 : nv = 0 := by injection hv
      omega
    · have h1 : nv = (d.file i).now.length := HNV.out
      injection hv with e1 e2 e3; omega
  have hsl := fun wx => slice_cut wx av nv cv n (by omega)
  clear hw1 hdz hoz hd1 hu1 hf1 c2z f2z hu' HBZ HD HF
  go_wp2_with fail
  go_still_tail 7, (by kernel_rfl)
  change wpList _ _ _ _ _ w1.drew
  obtain ⟨wy, hwy⟩ : ∃ wy, wy = w1.drew := ⟨_, rfl⟩
  have hby : Below w1.heap.size w1 wy := by rw [hwy]; exact (Below.refl _ _).drew
  have n1z := keepc hby n1
  have f1z : wy.frozen? ⟨g, 1, none⟩ = false := by rw [hwy]; exact f1
  have HBY := Lib.hid hby
  rw [← hwy]
  clear hwy kp kn n1 f1 hsl hby
  go_upto_region 2 with (fail)
  have hlt : ((d.file i).now.take n).length = n := by rw [List.length_take]; have := HNV.out; omega
  have hto := HD1.out.nowTo (i := i) hi HF1.out (w4 := wy) ⟨HBY.out.os, HBY.out.tape, HBY.out.output, HBY.out.size, fun k hk _ => HBY.out.block k hk⟩ (v' := .slice av n cv) (l := (d.file i).now.take n) (by
    have h9 := own_below HF1.out.now.1 HBY.out
    have h8 : wy.ownsRow 0 5 1 (.slice av nv cv) nv ((d.file i).now.map b8) := by rw [HNV.out]; rw [HNV.out] at h9; exact h9
    have h7 := own_take h8 (by omega : n ≤ nv)
    rw [Nat.mul_one, ← List.map_take] at h7
    rw [hlt]; exact h7) (.inl (by cases av <;> rfl))
  rw [← HG.out] at hto
  obtain ⟨w2, hw2⟩ : ∃ w2, w2 = wy.setCell ⟨g, 1, none⟩ (.slice av n cv) := ⟨_, rfl⟩
  rw [← hw2] at hto ⊢
  obtain ⟨ρ2, hd2, hu2, hf2⟩ := hto
  have HU2 := Lib.hid (HU1.out.trans hu2)
  have HBP2 := Lib.hid (HBP1.out.upd hu2)
  have HBN2 := Lib.hid (HBN1.out.upd hu2)
  have hgl2 : g < w2.heap.size := hf2.lt
  clear hw2 hu2 n1z f1z HBY hlt HD1 HF1 HU1 HBP1 HBN1 hcap
  obtain ⟨rs, hrl, hO, hall⟩ := hf2.loose
  obtain ⟨la, lc, hvl, -⟩ := owns_shape hO.1
  obtain ⟨ln, hln⟩ : ∃ ln, ln = (d.file i).loose.length := ⟨_, rfl⟩
  have hO1 : OwnL w2 ρ2 86 2 (10 + 4 * i) vl ln (rs.flatMap runV) := by rw [hln]; exact hO
  have hvl1 : vl = .slice la ln lc := by rw [hln]; exact hvl
  subst hvl1
  have kp := cell0 HBP2.out.1
  have hbpl := (Array.getElem?_eq_some_iff.1 HBP2.out.1).1
  have kn := cell0 HBN2.out.1
  have hbnl := (Array.getElem?_eq_some_iff.1 HBN2.out.1).1
  have l3 := hf2.cells.2.2.2.1
  have HD2 := Lib.hid hd2
  have HF2 := Lib.hid hf2
  have HO1 := Lib.hid hO1
  have HRL := Lib.hid hrl
  have HALL := Lib.hid hall
  have HLN := Lib.hid hln
  have HUE := Lib.hid (show (({ d with used := u' } : Dm).setF i ⟨(d.file i).now.take n, (d.file i).safe, (d.file i).loose⟩).setF i ⟨(d.file i).now.take n, (d.file i).safe, (d.file i).loose ++ [⟨[], n⟩]⟩ = { (d.setF i ⟨(d.file i).now.take n, (d.file i).safe, (d.file i).loose ++ [⟨[], n⟩]⟩) with used := wrap64 (d.used - wrap64 (((d.file i).now.length : Int) - n)) } by rw [HUU.out, Dm.set_set, ← HNV.out, wrap64_small (x := (nv : Int) - n) (by omega) (by omega)]; rfl)
  clear hd2 hf2 hO hO1 hrl hall hvl hln
  go_wp2_with fail
  have hb3 : Below w2.heap.size w2 (w2.drew.alloc (.cells #[(.slice none 0 0), .int .i64 n] 86)) := (show Below w2.heap.size w2 w2.drew from (Below.refl _ _).drew).alloc (Nat.le_refl _) _
  have HD3 := Lib.hid (HD2.out.below hb3)
  have HBP3 := Lib.hid (HBP2.out.below hb3)
  have HF3 := Lib.hid (HF2.out.keep (w' := w2.drew.alloc (.cells #[(.slice none 0 0), .int .i64 n] 86)) (ρ' := ρ2) (fun k e => hb3.block k (HD2.out.dom k (by show ρ2 k ≠ 0; omega))) (fun _ _ => rfl))
  have HU3 := Lib.hid (HU2.out.trans (Upd.of_below (ρ := ρ2) hb3))
  have HO3 := Lib.hid (HO1.out.keep (w' := w2.drew.alloc (.cells #[(.slice none 0 0), .int .i64 n] 86)) (ρ' := ρ2) (fun k e => hb3.block k (HD2.out.dom k (by show ρ2 k ≠ 0; omega))) (fun _ e => e))
  have HA3 := Lib.hid (fun (k : Nat) (p : Value × Int) (u : Run) hp hx => (⟨(HALL.out k p u hp hx).1, (HALL.out k p u hp hx).2.keep (fun k e => hb3.block k (HD2.out.dom k (by show ρ2 k ≠ 0; omega))) (fun _ e => e)⟩ : p.2 = (u.cut : Int) ∧ RdL (w2.drew.alloc (.cells #[(.slice none 0 0), .int .i64 n] 86)) ρ2 p.1 u.laid))
  have HN3 := Lib.hid (fun j u => new_run w2.drew (.slice none 0 0) (n : Int) (k := w2.heap.size) rfl j u)
  have HQ1 := Lib.hid (show (ln + 1) * 32 ≤ 140737488355328 by have := HLN.out; omega)
  have HQ2 := Lib.hid (show ln + 1 ≤ maxLen by have := HLN.out; simp [maxLen]; omega)
  have hgl3 : g < w2.heap.size := hgl2
  clear hb3
  go_region_law (first
    | (refine S_appendN rfl (.tmp 30) (.tmp 33) 82 (by rfl) sl82 0 (.slice la ln lc) ln (rs.flatMap runV) (by rfl) HO3.out.1 ⟨w2.heap.size, 0, none⟩ 1 1 [(.slice none 0 0), .int .i64 n] (by rfl) (by rfl) HN3.out (one_run _ _ rfl) HQ1.out HQ2.out (Nat.zero_le _) (fun a4 c4 w4 ho4 hg4 hat4 => ?_)
       have hlo4 := HD3.out.looseTo (i := i) (by show i < (d.fs.set i _).length; rw [List.length_set]; exact hi) (Dm.file_set hi _) (by have h9 := HF3.out; rw [HG.out] at h9; exact h9) hg4 (u := ⟨[], n⟩) (by have := HLN.out; show ln + 1 = (d.file i).loose.length + 1; omega) (by have h9 := HRL.out; exact h9) HA3.out (RdL.nil _ _) (by show OwnL _ _ 86 2 _ _ (d.file i).loose.length _; rw [← HLN.out]; exact HO3.out) ho4 hat4
       have k4 : w4.heap[g]? = some (boxFile i (.slice av n cv) vs (.slice la ln lc)) := (hg4.block g (by have := hgl3; simp; omega) (fun e => by have h9 := HO3.out.2 g e.symm; have h8 := HF3.out.lg; rw [h9] at h8; omega)).trans HF3.out.box
       have kp4 := cell0 ((hg4.block bp (by have := hbpl; simp; omega) (fun e => by have h9 := HO3.out.2 bp e.symm; have h8 := HBP2.out.2; rw [h9] at h8; omega)).trans (HBP3.out.1))
       have e8' := cell_of_row _ _ 3 _ _ _ k4
       have f8' := frozen_of_row w4 g 3 _ _ k4
       simp only [List.getElem?_toArray, List.getElem?_cons_zero, List.getElem?_cons_succ] at e8'
       rw [← HG.out] at hlo4
       clear k4))
  all_goals
    have HE4 := Lib.hid hlo4
    clear hlo4 ho4 hg4 hat4
    go_wp2_with fail
    go_end0
    obtain ⟨ρ5, hd5, hu5⟩ := HE4.out
    refine ⟨rfl, { L with ρ := ρ5 }, ?_, HU3.out.trans hu5⟩
    rw [← HUE.out]
    exact hd5
end Go.Proofs.YteoggphafhcchaaGreat
