import Derived.Test.YtdepdediggokgaaDoorB1
namespace Go.Proofs.YtdepdediggokgaaDoor
open Go.RowKit
set_option linter.unusedVariables false
/-- The mark of a place. -/
def mkB (i j : Nat) : UInt8 := UInt8.ofNat ((i + 1) / 2 ^ (8 * (j % 3)))
theorem mkB_int (i s : Nat) : (((i : Int) + 1) / ((2 ^ s : Nat) : Int)) % 256 = ((UInt8.ofNat ((i + 1) / 2 ^ s)).toNat : Int) := by
  rw [show (i : Int) + 1 = ((i + 1 : Nat) : Int) by omega, ← Int.natCast_ediv]
  simp
theorem mark_any (w : World) (i j : Nat) (hi : i ≤ 4001) (hj : j < 9223372036854775808) :
    Calls Tryd.prog 21 #[.int .i64 i, .int .i64 j] w fun e w' => e = .returned (.int .u8 ((mkB i j).toNat : Int)) ∧ w = w' := by
  have hw : IntKind.i64.wrap ((i : Int) + 1) = (i : Int) + 1 := by simp [IntKind.wrap, IntKind.bits, IntKind.signed]; omega
  have h3 := mkB_int i (8 * (j % 3))
  have HM := Lib.hid (show mkB i j = UInt8.ofNat ((i + 1) / 2 ^ (8 * (j % 3))) from rfl)
  rcases (by omega : j % 3 = 0 ∨ j % 3 = 1 ∨ j % 3 = 2) with h | h | h <;> rw [h] at h3 HM
  · have hq : (j : Int) % 3 = 0 := by omega
    have hq2 : (j : Int).tmod 3 = 0 := by rw [Int.tmod_eq_emod_of_nonneg (by omega)]; exact hq
    have H3 := Lib.hid h3
    clear h h3
    go_enter Tryd.func21, Tryd.ntmps21
    go_wp2
    go_ret
    refine ⟨?_, rfl⟩
    rw [HM.out, ← H3.out]
    simp
  · have hq : (j : Int) % 3 = 1 := by omega
    have hq2 : (j : Int).tmod 3 = 1 := by rw [Int.tmod_eq_emod_of_nonneg (by omega)]; exact hq
    have H3 := Lib.hid h3
    clear h h3
    go_enter Tryd.func21, Tryd.ntmps21
    go_wp2
    go_ret
    refine ⟨?_, rfl⟩
    rw [HM.out, ← H3.out, show ((2 ^ (8 * 1) : Nat) : Int) = 256 by decide, Int.emod_eq_of_lt (by omega) (by omega)]
    rfl
  · have hq : (j : Int) % 3 = 2 := by omega
    have hq2 : (j : Int).tmod 3 = 2 := by rw [Int.tmod_eq_emod_of_nonneg (by omega)]; exact hq
    have H3 := Lib.hid h3
    clear h h3
    go_enter Tryd.func21, Tryd.ntmps21
    go_wp2
    go_ret
    refine ⟨?_, rfl⟩
    rw [HM.out, ← H3.out, show ((2 ^ (8 * 2) : Nat) : Int) = 65536 by decide, Int.emod_eq_of_lt (by omega) (by omega)]
    rfl

/-- All but one block stand. -/
def Oth (w w' : World) (g : Nat) : Prop := ∀ k : Nat, k ≠ g → w'.heap[k]? = w.heap[k]?
theorem BkI.oth {w w' : World} {B gb : Nat} {ls ws : List Value} {ds : List (List UInt8)} (h : BkI w B gb ls ws ds) (ho : ∀ k : Nat, w'.heap[k]? = w.heap[k]?) : BkI w' B gb ls ws ds := by
  obtain ⟨lv, wv, held, hg, hB, hlv, hwv, hlw, h0, h1, hI⟩ := h
  exact ⟨lv, wv, held, (ho gb).trans hg, hB, hlv.kept (fun k _ => ho k), hwv.kept (fun k _ => ho k), hlw, h0, h1, hI.keep (fun k _ _ _ => ho k)⟩

set_option maxHeartbeats 1000000 in
set_option maxRecDepth 100000 in
theorem stays_any (w : World) (B gb : Nat) (ls ws : List Value) (ds : List (List UInt8)) (h : BkI w B gb ls ws ds) (hl : ds.length ≤ 4001) :
    Calls Tryd.prog 37 #[.pointer (some ⟨gb, 0, none⟩)] w fun e w' => e = .returned (.bool true) ∧ (∀ k : Nat, w'.heap[k]? = w.heap[k]?) ∧ Below B w w' := by
  obtain ⟨lv, wv, held, hg, hB, hlv, hwv, hlw, h0, h1, hI⟩ := h
  have e1 := hI.l1
  have e2 := hI.l2
  obtain ⟨al, cl, rfl, rl⟩ := hlv.rv (by omega)
  obtain ⟨aw, cw, rfl, rw'⟩ := hwv.rv (by omega)
  have E1 := Lib.hid e1
  have E2 := Lib.hid e2
  have HI := Lib.hid hI
  have hN : ls.length ≤ 4001 := by omega
  generalize hM : ws.length = M at *
  generalize hNN : ls.length = N at *
  have hMN : M = N := by have := E1.out; have := E2.out; omega
  subst hMN
  have hgb1 : ∀ b o, al = some ⟨b, o, none⟩ → gb ≠ b := fun b o e h => hlv.ne hg (by decide) (by rw [e, h]; rfl)
  have hgb2 : ∀ b o, aw = some ⟨b, o, none⟩ → gb ≠ b := fun b o e h => hwv.ne hg (by decide) (by rw [e, h]; rfl)
  have HLW := Lib.hid hlw
  have HG := Lib.hid hg
  clear e1 e2 hI hM hNN hlw hg hl
  go_enter Tryd.func37, Tryd.ntmps37
  go_wp2
  go_loopw [3] (fun x wr => ∃ i : Nat, i ≤ M ∧ x = .int .i64 i ∧ (∀ k : Nat, wr.heap[k]? = w.heap[k]?) ∧ Below B w wr) (fun x _ => M - (intOf x).toNat)
  case atStart => exact ⟨0, by omega, rfl, fun _ => rfl, Below.refl _ _⟩
  case round =>
    obtain ⟨i, hi, rfl, hk, hb⟩ := hrel
    have hg := (hk gb).trans HG.out
    have c0 := cell_of_row wr gb 0 _ _ _ hg
    have c1 := cell_of_row wr gb 1 _ _ _ hg
    have c3 := cell_of_row wr gb 3 _ _ _ hg
    have f := fun o => frozen_of_row wr gb o _ _ hg
    simp at c0 c1 c3
    have HK := Lib.hid hk
    have HGW := Lib.hid hg
    clear hk hg
    by_cases hlt : i < M
    · obtain ⟨b1, o1, y1, ha1, hy1, hcy1⟩ := rl.at hlt
      obtain ⟨b2, o2, y2, ha2, hy2, hcy2⟩ := rw'.at hlt
      obtain ⟨hd, hv, hu⟩ := HI.out.own i y1 y2 ds[i] hy1 hy2 (by simp)
      generalize ds[i] = d at *
      obtain ⟨av, cv, rfl, -⟩ := owns_shape hv
      obtain ⟨au, cu, rfl, -⟩ := owns_shape hu
      have K5 : Keep5 w wr := fun k _ _ _ => HK.out k
      have R1 := R8.of_owns (K5.owns hv) hd
      have R2 := R8.of_owns (K5.owns hu) hd
      have hgb1' := hgb1 _ _ ha1
      have hgb2' := hgb2 _ _ ha2
      subst ha1 ha2
      have hc1 : wr.cell? ⟨b1, o1 + i, none⟩ = _ := (World.cell?_of_block (HK.out b1)).trans hcy1
      have hc2 : wr.cell? ⟨b2, o2 + i, none⟩ = _ := (World.cell?_of_block (HK.out b2)).trans hcy2
      have hg3 : ∀ nq, ((wr.drewN nq).setCell ⟨gb, 3, none⟩ (.bool false)).heap[gb]? = some (Obj.cells #[.slice (some ⟨b1, o1, none⟩) M cl, .slice (some ⟨b2, o2, none⟩) M cw, .int .i64 held, .bool false] 34 (0, 0)) := fun nq => heap_setCell_same (wr.drewN nq) gb 3 _ _ _ HGW.out
      have hks : ∀ nq, ((wr.drewN nq).setCell ⟨gb, 3, none⟩ (.bool false)).cell? ⟨gb, 3, none⟩ = some (.bool false) ∧ ((wr.drewN nq).setCell ⟨gb, 3, none⟩ (.bool false)).cell? ⟨gb, 0, none⟩ = some (.slice (some ⟨b1, o1, none⟩) M cl) ∧ ((wr.drewN nq).setCell ⟨gb, 3, none⟩ (.bool false)).cell? ⟨gb, 1, none⟩ = some (.slice (some ⟨b2, o2, none⟩) M cw) ∧ ((wr.drewN nq).setCell ⟨gb, 3, none⟩ (.bool false)).cell? ⟨b1, o1 + i, none⟩ = some (.slice av d.length cv) ∧ ((wr.drewN nq).setCell ⟨gb, 3, none⟩ (.bool false)).cell? ⟨b2, o2 + i, none⟩ = some (.slice au d.length cu) := fun nq =>
        ⟨cell_of_row _ gb 3 _ _ _ (hg3 nq), cell_of_row _ gb 0 _ _ _ (hg3 nq), cell_of_row _ gb 1 _ _ _ (hg3 nq), (World.cell?_of_block (heap_setCell_other (wr.drewN nq) ⟨gb, 3, none⟩ b1 _ (Ne.symm hgb1'))).trans hc1, (World.cell?_of_block (heap_setCell_other (wr.drewN nq) ⟨gb, 3, none⟩ b2 _ (Ne.symm hgb2'))).trans hc2⟩
      have KS := Lib.hid hks
      have HG3 := Lib.hid hg3
      clear hg3 hks hcy1 hcy2 hv hu hy1 hy2 hgb1 hgb2 hlv hwv rl rw' K5
      generalize d.length = m0 at *
      have hlt' : (i : Int) < (M : Int) := by omega
      go_wp2
      go_region_held3 (fun w => w.cell? ⟨gb, 3, none⟩ = some (.bool false) ∧ w.cell? ⟨gb, 0, none⟩ = some (.slice (some ⟨b1, o1, none⟩) M cl) ∧ w.cell? ⟨gb, 1, none⟩ = some (.slice (some ⟨b2, o2, none⟩) M cw) ∧ w.cell? ⟨b1, o1 + i, none⟩ = some (.slice av m0 cv) ∧ w.cell? ⟨b2, o2 + i, none⟩ = some (.slice au m0 cu)) (first | exact ⟨c3, c0, c1, hc1, hc2⟩ | exact KS.out _) (first | (go_at_call 17; refine (same_any _ _ _ _ _ _ _ _ _ (R1.drewN _) (R2.drewN _) true (by simp)).mono ?_; rintro e w' ⟨rfl, nn, rfl⟩))
      have hoth : ∀ k : Nat, ((wr.drewN (1 + nn)).setCell ⟨gb, 3, none⟩ (.bool false)).heap[k]? = wr.heap[k]? := fun k => by
        by_cases hk : k = gb
        · subst hk; rw [HG3.out, HGW.out]
        · exact heap_setCell_other (wr.drewN (1 + nn)) ⟨gb, 3, none⟩ k _ hk
      have hbk := (below_drewN hb (1 + nn)).setCell (p := ⟨gb, 3, none⟩) hB (.bool false)
      generalize (wr.drewN (1 + nn)).setCell ⟨gb, 3, none⟩ (.bool false) = w6 at *
      have HO := Lib.hid hoth
      clear hoth c0 c1 c3 f hc1 hc2
      go_wp2
      go_roundw
      case rel => exact ⟨i + 1, by omega, by go_num, fun k => (HO.out k).trans (HK.out k), hbk⟩
      case measure => simp [intOf]; omega
    · clear hlv hwv rl rw'
      go_wp2
      go_ret
      exact ⟨rfl, HK.out, hb⟩
end Go.Proofs.YtdepdediggokgaaDoor
