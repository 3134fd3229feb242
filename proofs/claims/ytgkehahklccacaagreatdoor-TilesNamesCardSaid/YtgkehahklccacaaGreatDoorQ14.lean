import Derived.Shelf.SlIter.Nil
import Derived.Shelf.SortM.Plain
import Derived.Shelf.SortM.SortNone
import Derived.Shelf.SlMaps.Clone
import Derived.Shelf.SlicesE.Clone
import Derived.Ground.GgzProg
import Derived.Ground.SlgmProg
import Derived.Ground.SlmcProg
import Derived.Ground.SlgnProg
import Derived.Test.YtgkehahklccacaaGreatDoorProg
import Derived.Test.YtgkehahklccacaaGreatDoorQ10
import Derived.Test.YtgkehahklccacaaGreatDoorQ13
namespace Go.Proofs
open Go.Shelf
def Tryz.keys37_ren : Go.Shelf.Ren := ⟨fun | 7 => 87 | 10 => 155 | n => n, fun | 23 => 55 | 26 => 9 | 3 => 53 | 28 => 168 | 0 => 0 | 27 => 167 | 33 => 236 | 4 => 4 | n => n, fun | n => n⟩
theorem Tryz.keys37 : Go.Proofs.SlLaysZ.n7 Tryz.prog Tryz.keys37_ren := {
  mixed := by kernel_rfl
  f7 := ⟨Tryz.f87.name, by decide, Tryz.func87.trans (congrArg some (by kernel_rfl))⟩
  f10 := ⟨Tryz.f155.name, by decide, Tryz.func155.trans (congrArg some (by kernel_rfl))⟩
  t0 := Tryz.underlying0
  a0 := Tryz.isAgg0
  z0 := Tryz.sizeOf0
  v0 := Tryz.zeroValue0
  t4 := Tryz.underlying4
  a4 := Tryz.isAgg4
  z4 := Tryz.sizeOf4
  v4 := Tryz.zeroValue4
  t23 := Tryz.underlying55
  a23 := Tryz.isAgg55
  z23 := Tryz.sizeOf55
  v23 := Tryz.zeroValue55
  t26 := Tryz.underlying9
  a26 := Tryz.isAgg9
  z26 := Tryz.sizeOf9
  v26 := Tryz.zeroValue9
  t27 := Tryz.underlying167
  a27 := Tryz.isAgg167
  z27 := Tryz.sizeOf167
  v27 := Tryz.zeroValue167
  t28 := Tryz.underlying168
  a28 := Tryz.isAgg168
  z28 := Tryz.sizeOf168
  v28 := Tryz.zeroValue168
  t33 := Tryz.underlying236
  a33 := Tryz.isAgg236
  z33 := Tryz.sizeOf236
  v33 := Tryz.zeroValue236 }
def Tryz.sorted36_ren : Go.Shelf.Ren := ⟨fun | 6 => 86 | 8 => 153 | 9 => 154 | 11 => 207 | 13 => 112 | 12 => 208 | 23 => 181 | 24 => 182 | 14 => 238 | 15 => 239 | 16 => 240 | 17 => 241 | 18 => 242 | 19 => 243 | 20 => 244 | 21 => 245 | 22 => 246 | 25 => 259 | 26 => 248 | 27 => 249 | 28 => 260 | 29 => 261 | 30 => 262 | 31 => 268 | n => n, fun | 26 => 9 | 28 => 168 | 24 => 165 | 0 => 0 | 3 => 3 | 37 => 86 | 48 => 255 | 50 => 173 | 4 => 4 | 40 => 312 | 39 => 311 | 45 => 316 | 5 => 5 | 9 => 9 | 51 => 346 | 55 => 350 | 57 => 359 | 58 => 360 | 33 => 236 | n => n, fun | n => n⟩
theorem Tryz.sorted36 : Go.Proofs.SlLaysZ.n6 Tryz.prog Tryz.sorted36_ren := {
  mixed := by kernel_rfl
  f6 := ⟨Tryz.f86.name, by decide, Tryz.func86.trans (congrArg some (by kernel_rfl))⟩
  f8 := ⟨Tryz.f153.name, by decide, Tryz.func153.trans (congrArg some (by kernel_rfl))⟩
  f11 := ⟨Tryz.f207.name, by decide, Tryz.func207.trans (congrArg some (by kernel_rfl))⟩
  t0 := Tryz.underlying0
  a0 := Tryz.isAgg0
  z0 := Tryz.sizeOf0
  v0 := Tryz.zeroValue0
  t24 := Tryz.underlying165
  a24 := Tryz.isAgg165
  z24 := Tryz.sizeOf165
  v24 := Tryz.zeroValue165
  t26 := Tryz.underlying9
  a26 := Tryz.isAgg9
  z26 := Tryz.sizeOf9
  v26 := Tryz.zeroValue9
  t28 := Tryz.underlying168
  a28 := Tryz.isAgg168
  z28 := Tryz.sizeOf168
  v28 := Tryz.zeroValue168
  i26 := by kernel_rfl }
def Tryz.sort64_ren : Go.Shelf.Ren := ⟨fun | 6 => 154 | 8 => 112 | 9 => 208 | 19 => 181 | 20 => 182 | 21 => 238 | 22 => 239 | 23 => 240 | 24 => 241 | 25 => 242 | 26 => 243 | 27 => 244 | 28 => 245 | 29 => 246 | 36 => 259 | 31 => 248 | 32 => 249 | 37 => 260 | 38 => 261 | 39 => 262 | 41 => 268 | n => n, fun | 27 => 165 | 29 => 9 | 3 => 3 | 32 => 86 | 26 => 165 | 0 => 0 | 44 => 255 | 46 => 173 | 4 => 4 | 36 => 312 | 35 => 311 | 41 => 316 | 5 => 5 | 9 => 9 | 53 => 346 | 57 => 350 | 63 => 359 | 64 => 360 | n => n, fun | n => n⟩
theorem Tryz.sort64 : Go.Proofs.SlLaysM.n6 Tryz.prog Tryz.sort64_ren := {
  mixed := by kernel_rfl
  f6 := ⟨Tryz.f154.name, by decide, Tryz.func154.trans (congrArg some (by kernel_rfl))⟩
  f8 := Tryz.func112.trans (congrArg some (by kernel_rfl))
  f9 := ⟨Tryz.f208.name, by decide, Tryz.func208.trans (congrArg some (by kernel_rfl))⟩
  f19 := Tryz.func181.trans (congrArg some (by kernel_rfl))
  f20 := Tryz.func182.trans (congrArg some (by kernel_rfl))
  f21 := ⟨Tryz.f238.name, by decide, Tryz.func238.trans (congrArg some (by kernel_rfl))⟩
  f22 := ⟨Tryz.f239.name, by decide, Tryz.func239.trans (congrArg some (by kernel_rfl))⟩
  f23 := ⟨Tryz.f240.name, by decide, Tryz.func240.trans (congrArg some (by kernel_rfl))⟩
  f24 := ⟨Tryz.f241.name, by decide, Tryz.func241.trans (congrArg some (by kernel_rfl))⟩
  f25 := ⟨Tryz.f242.name, by decide, Tryz.func242.trans (congrArg some (by kernel_rfl))⟩
  f26 := ⟨Tryz.f243.name, by decide, Tryz.func243.trans (congrArg some (by kernel_rfl))⟩
  f27 := ⟨Tryz.f244.name, by decide, Tryz.func244.trans (congrArg some (by kernel_rfl))⟩
  f28 := ⟨Tryz.f245.name, by decide, Tryz.func245.trans (congrArg some (by kernel_rfl))⟩
  f29 := ⟨Tryz.f246.name, by decide, Tryz.func246.trans (congrArg some (by kernel_rfl))⟩
  f31 := Tryz.func248.trans (congrArg some (by kernel_rfl))
  f32 := Tryz.func249.trans (congrArg some (by kernel_rfl))
  f36 := ⟨Tryz.f259.name, by decide, Tryz.func259.trans (congrArg some (by kernel_rfl))⟩
  f37 := ⟨Tryz.f260.name, by decide, Tryz.func260.trans (congrArg some (by kernel_rfl))⟩
  f38 := ⟨Tryz.f261.name, by decide, Tryz.func261.trans (congrArg some (by kernel_rfl))⟩
  f39 := ⟨Tryz.f262.name, by decide, Tryz.func262.trans (congrArg some (by kernel_rfl))⟩
  f41 := ⟨Tryz.f268.name, by decide, Tryz.func268.trans (congrArg some (by kernel_rfl))⟩
  t0 := Tryz.underlying0
  a0 := Tryz.isAgg0
  z0 := Tryz.sizeOf0
  v0 := Tryz.zeroValue0
  t3 := Tryz.underlying3
  a3 := Tryz.isAgg3
  z3 := Tryz.sizeOf3
  v3 := Tryz.zeroValue3
  t4 := Tryz.underlying4
  a4 := Tryz.isAgg4
  z4 := Tryz.sizeOf4
  v4 := Tryz.zeroValue4
  t5 := Tryz.underlying5
  a5 := Tryz.isAgg5
  z5 := Tryz.sizeOf5
  v5 := Tryz.zeroValue5
  t9 := Tryz.underlying9
  a9 := Tryz.isAgg9
  z9 := Tryz.sizeOf9
  v9 := Tryz.zeroValue9
  t26 := Tryz.underlying165
  a26 := Tryz.isAgg165
  z26 := Tryz.sizeOf165
  v26 := Tryz.zeroValue165
  t27 := Tryz.underlying165
  a27 := Tryz.isAgg165
  z27 := Tryz.sizeOf165
  v27 := Tryz.zeroValue165
  t29 := Tryz.underlying9
  a29 := Tryz.isAgg9
  z29 := Tryz.sizeOf9
  v29 := Tryz.zeroValue9
  t32 := Tryz.underlying86
  a32 := Tryz.isAgg86
  z32 := Tryz.sizeOf86
  v32 := Tryz.zeroValue86
  t35 := Tryz.underlying311
  a35 := Tryz.isAgg311
  z35 := Tryz.sizeOf311
  v35 := Tryz.zeroValue311
  t36 := Tryz.underlying312
  a36 := Tryz.isAgg312
  z36 := Tryz.sizeOf312
  v36 := Tryz.zeroValue312
  t41 := Tryz.underlying316
  a41 := Tryz.isAgg316
  z41 := Tryz.sizeOf316
  v41 := Tryz.zeroValue316
  t44 := Tryz.underlying255
  a44 := Tryz.isAgg255
  z44 := Tryz.sizeOf255
  v44 := Tryz.zeroValue255
  t46 := Tryz.underlying173
  a46 := Tryz.isAgg173
  z46 := Tryz.sizeOf173
  v46 := Tryz.zeroValue173
  t53 := Tryz.underlying346
  a53 := Tryz.isAgg346
  z53 := Tryz.sizeOf346
  v53 := Tryz.zeroValue346
  t57 := Tryz.underlying350
  a57 := Tryz.isAgg350
  z57 := Tryz.sizeOf350
  v57 := Tryz.zeroValue350
  t63 := Tryz.underlying359
  a63 := Tryz.isAgg359
  z63 := Tryz.sizeOf359
  v63 := Tryz.zeroValue359
  t64 := Tryz.underlying360
  a64 := Tryz.isAgg360
  z64 := Tryz.sizeOf360
  v64 := Tryz.zeroValue360 }
def Tryz.clone31_ren : Go.Shelf.Ren := ⟨fun | 5 => 53 | 7 => 108 | n => n, fun | 23 => 47 | 25 => 9 | 3 => 109 | 4 => 4 | 20 => 20 | n => n, fun | n => n⟩
theorem Tryz.clone31 : Go.Proofs.SlLaysW.n5 Tryz.prog Tryz.clone31_ren := {
  mixed := by kernel_rfl
  f5 := ⟨Tryz.f53.name, by decide, Tryz.func53.trans (congrArg some (by kernel_rfl))⟩
  f7 := Tryz.func108.trans (congrArg some (by kernel_rfl))
  t4 := Tryz.underlying4
  a4 := Tryz.isAgg4
  z4 := Tryz.sizeOf4
  v4 := Tryz.zeroValue4
  t20 := Tryz.underlying20
  a20 := Tryz.isAgg20
  z20 := Tryz.sizeOf20
  v20 := Tryz.zeroValue20
  t23 := Tryz.underlying47
  a23 := Tryz.isAgg47
  z23 := Tryz.sizeOf47
  v23 := Tryz.zeroValue47 }
def Tryz.sclone39_ren : Go.Shelf.Ren := ⟨fun | 41 => 47 | n => n, fun | 22 => 49 | 23 => 35 | 4 => 4 | n => n, fun | n => n⟩
theorem Tryz.sclone39 : Go.Proofs.SlLaysE0.n41 Tryz.prog Tryz.sclone39_ren := {
  mixed := by kernel_rfl
  f41 := ⟨Tryz.f47.name, by decide, Tryz.func47.trans (congrArg some (by kernel_rfl))⟩
  t4 := Tryz.underlying4
  a4 := Tryz.isAgg4
  z4 := Tryz.sizeOf4
  v4 := Tryz.zeroValue4
  t22 := Tryz.underlying49
  a22 := Tryz.isAgg49
  z22 := Tryz.sizeOf49
  v22 := Tryz.zeroValue49 }
end Go.Proofs
namespace Go.Proofs.YtgkehahklccacaaGreatDoor
open Go Go.RowKit
set_option maxRecDepth 100000
set_option maxHeartbeats 1000000
set_option linter.unusedVariables false
set_option linter.unusedSimpArgs false
open Go.Maps Go.WideMaps
/-- Disk.begin, with the closures 53 and 51. -/
theorem begin_syncnames (w : World) (L : Lay) (gd : Nat) (d : Dm) (h : DAt w L gd d) (ha : d.acts < 4611686018427387904) (x0 : Value) (Wh : Dm → Dm) (Pt : Int → Dm → Dm)
    (hW : ∀ w2, Upd L.ρ L.ρ w w2 → DAt w2 L gd { d with acts := d.acts + 1 } → Calls Tryz.prog 167 #[x0] w2 fun e w' => e = .returned (.tuple #[]) ∧ ∃ L', DAt w' L' gd (Wh { d with acts := d.acts + 1 }) ∧ Upd L.ρ L'.ρ w2 w')
    (hP : ∀ w2 n, Upd L.ρ L.ρ w w2 → DAt w2 L gd { d with acts := d.acts + 1 } → Calls Tryz.prog 97 #[.int .i64 n] w2 fun e w' => e = .returned (.tuple #[]) ∧ ∃ L', DAt w' L' gd (Pt n { d with acts := d.acts + 1 }) ∧ Upd L.ρ L'.ρ w2 w') :
    Calls Tryz.prog 94 #[.pointer (some ⟨gd, 0, none⟩), .func (.func 167) #[] #[x0], .func (.func 97) #[] #[]] w fun e w' => e = .returned (.int .i64 (d.begin Wh Pt).2) ∧ ∃ L', DAt w' L' gd (d.begin Wh Pt).1 ∧ Upd L.ρ L'.ρ w w' := by
  have hc0 := h.cells.1
  have hlt := h.lt
  have HP0 := Lib.hid (planned_any w L gd d h d.acts)
  have HD := Lib.hid h
  have HW := Lib.hid hW
  have HP := Lib.hid hP
  have e9 : ((d.acts + 1 : Nat) : Int) = (d.acts : Int) + 1 := by omega
  clear h hW hP
  go_enter Tryz.func94, Tryz.ntmps94
  go_upto_region 2 with (go_at_call 156; (refine HP0.out.mono ?_); rintro e w1 ⟨rfl, hb1⟩; have HB1 := Lib.hid hb1; clear hb1 hc0)
  obtain ⟨st, kd, pt, hf⟩ : ∃ st kd pt, (⟨st, kd, pt⟩ : Flt) = d.planned d.acts := ⟨_, _, _, rfl⟩
  have HF := Lib.hid hf
  rw [← hf]
  obtain ⟨w2, hw2⟩ : ∃ w2, w2 = w1.alloc (.cells #[.int .i64 st, .int .i64 kd, .int .i64 pt] 35) := ⟨_, rfl⟩
  have z1 := HB1.out.size
  have hb2 : Below w.heap.size w w2 := by rw [hw2]; exact HB1.out.alloc z1 _
  have g2 : w2.heap[w1.heap.size]? = some (.cells #[.int .i64 st, .int .i64 kd, .int .i64 pt] 35) := by rw [hw2]; exact heap_alloc_new w1 _
  dsimp only
  rw [← hw2]
  clear hw2 hf
  have hd2 := HD.out.below hb2
  have c0 := hd2.cells.1
  have f0 := hd2.cells.2.2.2.2.2.2.2.2.2.2.2 0
  have hne : w1.heap.size ≠ gd := by omega
  have k1 : ∀ x, (w2.setCell ⟨gd, 0, none⟩ x).cell? ⟨w1.heap.size, 1, none⟩ = some (.int .i64 kd) := fun x => (World.cell?_of_block (heap_setCell_other w2 ⟨gd, 0, none⟩ w1.heap.size x hne)).trans (by rw [cell_of_row _ _ _ _ _ _ g2]; rfl)
  have k2 : ∀ x, (w2.setCell ⟨gd, 0, none⟩ x).cell? ⟨w1.heap.size, 2, none⟩ = some (.int .i64 pt) := fun x => (World.cell?_of_block (heap_setCell_other w2 ⟨gd, 0, none⟩ w1.heap.size x hne)).trans (by rw [cell_of_row _ _ _ _ _ _ g2]; rfl)
  have ho3 : Only L.ρ (· = 1) w (w2.setCell ⟨gd, 0, none⟩ (.int .i64 ((d.acts : Int) + 1))) := (Only.of_below hb2).trans (Only.setCell w2 gd 0 _ HD.out.lg)
  have hd3 : DAt (w2.setCell ⟨gd, 0, none⟩ (.int .i64 ((d.acts : Int) + 1))) L gd { d with acts := d.acts + 1 } := HD.out.own1 ho3 (by have h9 := heap_setCell_same w2 gd 0 _ _ (.int .i64 ((d.acts : Int) + 1)) hd2.g; unfold boxDisk; rw [e9]; exact h9) rfl rfl rfl rfl rfl rfl
  have hu3 : Upd L.ρ L.ρ w (w2.setCell ⟨gd, 0, none⟩ (.int .i64 ((d.acts : Int) + 1))) := Upd.of_only ho3 (by omega) (Ext.refl _ _)
  have HWC := Lib.hid (HW.out _ hu3 hd3)
  have HPC := Lib.hid (HP.out _ pt hu3 hd3)
  have HU3 := Lib.hid hu3
  have HD3 := Lib.hid hd3
  clear e9 ho3 hd3 hu3 hd2 g2 hb2 HB1 HP0 HW HP HD
  have hcase : kd = 1 ∨ kd = 2 ∨ kd = 3 ∨ kd = 4 ∨ kd = 5 ∨ kd = 6 ∨ ((kd == 1) = false ∧ (kd == 2) = false ∧ (kd == 3) = false ∧ (kd == 4) = false ∧ (kd == 5) = false ∧ (kd == 6) = false) := by simp; omega
  rcases hcase with rfl | rfl | rfl | rfl | rfl | rfl | ⟨e1, e2, e3, e4, e5, e6⟩
  · go_wp2_with fail
    go_ret
    have hE : d.begin Wh Pt = ({ d with acts := d.acts + 1 }, 30) := by unfold Dm.begin; rw [← HF.out]; simp
    exact ⟨by rw [hE]; rfl, L, by rw [hE]; exact HD3.out, HU3.out⟩
  · go_wp2_with (first | (go_at_call 167; refine HWC.out.mono ?_; clear k1 k2 c0 f0; rintro e w4 ⟨rfl, L4, hd4, hu4⟩; have c5 := hd4.cells.2.2.2.2.2.1; have f5 := hd4.cells.2.2.2.2.2.2.2.2.2.2.2 5; have HD4 := Lib.hid hd4; have HU4 := Lib.hid hu4; clear hd4 hu4))
    go_ret
    have hE : d.begin Wh Pt = (Wh { d with acts := d.acts + 1 }, 30) := by unfold Dm.begin; rw [← HF.out]; simp
    exact ⟨by rw [hE]; rfl, L4, by rw [hE]; exact HD4.out, HU3.out.trans HU4.out⟩
  · go_wp2_with (first | (go_at_call 97; refine HPC.out.mono ?_; clear k1 k2 c0 f0; rintro e w4 ⟨rfl, L4, hd4, hu4⟩; have c5 := hd4.cells.2.2.2.2.2.1; have f5 := hd4.cells.2.2.2.2.2.2.2.2.2.2.2 5; have HD4 := Lib.hid hd4; have HU4 := Lib.hid hu4; clear hd4 hu4))
    go_ret
    have hE : d.begin Wh Pt = (Pt pt { d with acts := d.acts + 1 }, 30) := by unfold Dm.begin; rw [← HF.out]; simp
    exact ⟨by rw [hE]; rfl, L4, by rw [hE]; exact HD4.out, HU3.out.trans HU4.out⟩
  · go_wp2_with (first | (go_at_call 97; refine HPC.out.mono ?_; clear k1 k2 c0 f0; rintro e w4 ⟨rfl, L4, hd4, hu4⟩; have c5 := hd4.cells.2.2.2.2.2.1; have f5 := hd4.cells.2.2.2.2.2.2.2.2.2.2.2 5; have HD4 := Lib.hid hd4; have HU4 := Lib.hid hu4; clear hd4 hu4))
    go_ret
    have hE : d.begin Wh Pt = (Pt pt { d with acts := d.acts + 1 }, 31) := by unfold Dm.begin; rw [← HF.out]; simp
    exact ⟨by rw [hE]; rfl, L4, by rw [hE]; exact HD4.out, HU3.out.trans HU4.out⟩
  · go_wp2_with (first | (go_at_call 97; refine HPC.out.mono ?_; clear k1 k2 c0 f0; rintro e w4 ⟨rfl, L4, hd4, hu4⟩; have c5 := hd4.cells.2.2.2.2.2.1; have f5 := hd4.cells.2.2.2.2.2.2.2.2.2.2.2 5; have HD4 := Lib.hid hd4; have HU4 := Lib.hid hu4; clear hd4 hu4))
    go_ret
    have hE : d.begin Wh Pt = ({ Pt pt { d with acts := d.acts + 1 } with power := false }, 2) := by unfold Dm.begin; rw [← HF.out]; simp
    have ho5 : Only L4.ρ (· = 1) w4 (w4.setCell ⟨gd, 5, none⟩ (.bool false)) := Only.setCell w4 gd 5 _ HD4.out.lg
    exact ⟨by rw [hE]; rfl, L4, by rw [hE]; exact HD4.out.own1 ho5 (heap_setCell_same w4 gd 5 _ _ _ HD4.out.g) rfl rfl rfl rfl rfl rfl, (HU3.out.trans HU4.out).trans (Upd.of_only ho5 (by omega) (Ext.refl _ _))⟩
  · go_wp2_with (first | (go_at_call 167; refine HWC.out.mono ?_; clear k1 k2 c0 f0; rintro e w4 ⟨rfl, L4, hd4, hu4⟩; have c5 := hd4.cells.2.2.2.2.2.1; have f5 := hd4.cells.2.2.2.2.2.2.2.2.2.2.2 5; have HD4 := Lib.hid hd4; have HU4 := Lib.hid hu4; clear hd4 hu4))
    go_ret
    have hE : d.begin Wh Pt = ({ Wh { d with acts := d.acts + 1 } with power := false }, 2) := by unfold Dm.begin; rw [← HF.out]; simp
    have ho5 : Only L4.ρ (· = 1) w4 (w4.setCell ⟨gd, 5, none⟩ (.bool false)) := Only.setCell w4 gd 5 _ HD4.out.lg
    exact ⟨by rw [hE]; rfl, L4, by rw [hE]; exact HD4.out.own1 ho5 (heap_setCell_same w4 gd 5 _ _ _ HD4.out.g) rfl rfl rfl rfl rfl rfl, (HU3.out.trans HU4.out).trans (Upd.of_only ho5 (by omega) (Ext.refl _ _))⟩
  · go_wp2_with (first | (go_at_call 167; refine HWC.out.mono ?_; clear k1 k2 c0 f0; rintro e w4 ⟨rfl, L4, hd4, hu4⟩; have c5 := hd4.cells.2.2.2.2.2.1; have f5 := hd4.cells.2.2.2.2.2.2.2.2.2.2.2 5; have HD4 := Lib.hid hd4; have HU4 := Lib.hid hu4; clear hd4 hu4))
    go_ret
    have hE : d.begin Wh Pt = (Wh { d with acts := d.acts + 1 }, 0) := by unfold Dm.begin; rw [← HF.out]; simp at e1 e2 e3 e4 e5 e6; simp [e1, e2, e3, e4, e5, e6]
    exact ⟨by rw [hE]; rfl, L4, by rw [hE]; exact HD4.out, HU3.out.trans HU4.out⟩
end Go.Proofs.YtgkehahklccacaaGreatDoor
namespace Go.Proofs.YtgkehahklccacaaGreatDoor
open Go Go.RowKit
set_option maxRecDepth 100000
set_option maxHeartbeats 1000000
set_option linter.unusedVariables false
set_option linter.unusedSimpArgs false
open Go.Maps Go.WideMaps
theorem names_clone (w : World) {ρ : Nat → Nat} {r : Nat} {fa : Nat → Nat} {b : Nat} {m : List (Nm × Nat)} (h : NAt w ρ r fa b m) :
    Calls Tryz.prog 53 #[.map (some b)] w fun e w' => e = .returned (.map (some w.heap.size)) ∧ (∀ (ρ' : Nat → Nat) (r' : Nat), ρ' w.heap.size = r' → NAt w' ρ' r' fa w.heap.size m) ∧ Below w.heap.size w w' ∧ w.heap.size < w'.heap.size := by
  obtain ⟨D, hm, -, hz, hl⟩ := h
  refine (AnyW.maps_Clone_owns Tryz.clone31 9 ptrR b m.length D w hm).mono ?_
  rintro e w' ⟨he, h1, -, hb⟩
  exact ⟨he, fun ρ' r' hr => ⟨D, h1, hr, hz, hl⟩, hb, h1.lt⟩
/-- SyncNames' closure. -/
theorem syncnames1_any (w : World) (L : Lay) (gd : Nat) (d : Dm) (h : DAt w L gd d) (bd : Nat) (hbd : Cap w L.ρ bd (boxD gd)) :
    Calls Tryz.prog 167 #[.pointer (some ⟨bd, 0, none⟩)] w fun e w' => e = .returned (.tuple #[]) ∧ ∃ L', DAt w' L' gd { d with safe := d.names, changes := [] } ∧ Upd L.ρ L'.ρ w w' := by
  have k0 := cell0 hbd.1
  have c6 := h.cells.2.2.2.2.2.2.1
  have hgl := h.lt
  have hbl := (Array.getElem?_eq_some_iff.1 hbd.1).1
  have hne : bd ≠ gd := fun e => by have h1 := hbd.2; have h2 := h.lg; rw [e, h2] at h1; omega
  have HD := Lib.hid h
  have HCL := Lib.hid (names_clone w.drew (h.below (Below.refl _ _).drew).nm)
  have HBD := Lib.hid hbd
  clear h hbd
  go_enter Tryz.func167, Tryz.ntmps167
  go_wp2_with fail
  go_region_held3 (fun w' => w'.cell? ⟨bd, 0, none⟩ = some (.pointer (some ⟨gd, 0, none⟩)) ∧ w'.cell? ⟨gd, 6, none⟩ = some (.map (some L.nb)))
    (first | exact ⟨k0, c6⟩ | exact ⟨keepc hb k0, keepc hb c6⟩ | exact ⟨keeps (keepc hb k0) hne, (World.cell?_setCell_other _ _ _ _ (by simp)).trans (keepc hb c6)⟩)
    (first | (go_at_call 53; refine HCL.out.mono ?_; rintro e w4 ⟨rfl, hN, hb, hz⟩; have hx := (hb.block gd hgl).trans HD.out.g; have s2 := cell_of_row _ _ 7 _ _ _ hx; have f2 := frozen_of_row w4 gd 7 _ _ hx; have HX := Lib.hid hx; simp only [List.getElem?_toArray, List.getElem?_cons_zero, List.getElem?_cons_succ] at s2; clear hx))
  obtain ⟨nb', hnb'⟩ : ∃ nb', nb' = w.heap.size := ⟨_, rfl⟩
  have hN : ∀ (ρ' : Nat → Nat) (r' : Nat), ρ' nb' = r' → NAt w4 ρ' r' L.fa nb' d.names := by rw [hnb']; exact hN
  have hz : nb' < w4.heap.size := by rw [hnb']; exact hz
  rw [← hnb']
  have hnb1 := hnb'
  obtain ⟨w5, hw5⟩ : ∃ w5, w5 = w4.setCell ⟨gd, 7, none⟩ (.map (some nb')) := ⟨_, rfl⟩
  have g5 := heap_setCell_same w4 gd 7 _ _ (.map (some nb')) HX.out
  have m0 : w5.cell? ⟨bd, 0, none⟩ = some (.pointer (some ⟨gd, 0, none⟩)) := by rw [hw5]; exact keeps (keepc hb k0) hne
  rw [← hw5] at g5
  have s3 := cell_of_row _ _ 8 _ _ _ g5
  have f3 := frozen_of_row w5 gd 8 _ _ g5
  simp only [List.getElem?_toArray, List.getElem?_cons_zero, List.getElem?_cons_succ, List.setIfInBounds_toArray, List.set_cons_succ, List.set_cons_zero] at s3
  have HG5 := Lib.hid g5
  have HN := Lib.hid hN
  have HB := Lib.hid hb
  have HW5 := Lib.hid hw5
  rw [← hw5]
  clear hw5 g5 hN hb s2 f2 k0 c6 HX hnb'
  go_wp2_with fail
  go_end0
  have hb4 : Below w.heap.size w w4 := ((Below.refl w.heap.size w).drew).trans HB.out
  have hlg := HD.out.lg
  have ho : Only L.ρ (· = 1) w (w5.setCell ⟨gd, 8, none⟩ (.slice none 0 0)) := by
    rw [HW5.out]
    exact ((Only.of_below hb4).trans (Only.setCell w4 gd 7 _ hlg)).trans (Only.setCell _ gd 8 _ hlg)
  have h0 : L.ρ nb' = 0 := HD.out.new _ (by omega)
  have he : Ext w.heap.size L.ρ (put1 L.ρ nb' 3) := Ext.put 3 h0 (by omega)
  have hk : ∀ k, L.ρ k ≠ 0 → L.ρ k ≠ 1 → (w5.setCell ⟨gd, 8, none⟩ (.slice none 0 0)).heap[k]? = w.heap[k]? := fun k h0 h1 => ho.block k (HD.out.dom k h0) h1
  have hs : ∀ r, r ≠ 0 → ∀ k, L.ρ k = r → put1 L.ρ nb' 3 k = r := fun r hr k e => (he.same k (by omega)).trans e
  have hsz : w4.heap.size = (w5.setCell ⟨gd, 8, none⟩ (.slice none 0 0)).heap.size := by rw [HW5.out]; simp
  refine ⟨rfl, { L with ρ := put1 L.ρ nb' 3, sb := nb', ch := .slice none 0 0 }, ⟨?_, hs 1 (by omega) gd hlg, fun k e => ?_, HD.out.nm.keep (fun k e => hk k (by omega) (by omega)) (hs 2 (by omega)) (fun _ _ _ => rfl), ?_, HD.out.cl.keep (fun k e => hk k (by omega) (by omega)) (hs 4 (by omega)),
    OwnL.nil _ _ _ _ _, HD.out.pl.keep (fun k e => hk k (by omega) (by omega)) (hs 6 (by omega)), fun i f hf => ?_⟩, Upd.of_only ho (by omega) he⟩
  · have h9 := heap_setCell_same w5 gd 8 _ _ (.slice none 0 0) HG5.out
    exact h9
  · by_cases e' : k = nb'
    · rw [← hsz]; omega
    · have e8 : put1 L.ρ nb' 3 k ≠ 0 := e
      unfold put1 at e8
      rw [if_neg e'] at e8
      have := HD.out.dom k e8
      have := ho.size; omega
  · exact (HN.out (put1 L.ρ nb' 3) 3 (by simp [put1])).keep (fun k e => by
      have hkg : k ≠ gd := fun e2 => by rw [e2, hs 1 (by omega) gd hlg] at e; omega
      rw [HW5.out]
      exact (heap_setCell_other _ ⟨gd, 8, none⟩ k _ hkg).trans (heap_setCell_other w4 ⟨gd, 7, none⟩ k _ hkg)) (fun _ e => e) (fun _ _ _ => rfl)
  · obtain ⟨vn, vs, vl, hx⟩ := HD.out.fs i f hf
    exact ⟨vn, vs, vl, hx.keep (fun k e => hk k (by omega) (by omega)) (fun k e => he.same k e)⟩
abbrev snB : ByteArray := ⟨#[83, 121, 110, 99, 78, 97, 109, 101, 115]⟩
theorem syncNames_any (w : World) (L : Lay) (gd : Nat) (d : Dm) (h : DAt w L gd d) (hp : Pre d) :
    Calls Tryz.prog 102 #[.pointer (some ⟨gd, 0, none⟩)] w fun e w' => ∃ L', DAt w' L' gd d.syncNames.1 ∧ Upd L.ρ L'.ρ w w' ∧ ∃ v, e = .returned v ∧ ToldV v w' L'.ρ snB ⟨#[]⟩ d.syncNames.2 := by
  obtain ⟨w1, hw1⟩ : ∃ w1, w1 = w.alloc (boxD gd) := ⟨_, rfl⟩
  have hb1 : Below w.heap.size w w1 := by rw [hw1]; exact bel1 _ _
  have g0 : w1.heap[w.heap.size]? = some (boxD gd) := by rw [hw1]; exact heap_alloc_new w _
  have HD1 := Lib.hid (h.below hb1)
  have HU1 := Lib.hid (Upd.of_below (ρ := L.ρ) hb1)
  have G0 := Lib.hid (show Cap w1 L.ρ w.heap.size (boxD gd) from ⟨g0, h.new _ (Nat.le_refl _)⟩)
  have k0 := cell0 g0
  have HP := Lib.hid hp
  have HA := Lib.hid (ask0 w1 L gd d HD1.out)
  clear h hb1 g0 hp
  go_enter Tryz.func102, Tryz.ntmps102
  go_upto_region 1 with (fail)
  rw [← hw1]
  clear hw1
  by_cases hpw : d.power = false
  · rw [if_pos hpw] at HA
    have HE := Lib.hid (show d.syncNames = (d, 2) by unfold Dm.syncNames; rw [if_pos hpw])
    clear hpw
    go_wp2_with (go_at_call 90; refine HA.out.mono ?_; rintro e w3 ⟨rfl, rfl⟩)
    with_reducible refine (told2 _ L.ρ HD1.out.dom snB ⟨#[]⟩ 2).mono ?_
    rintro e w9 ⟨⟨v, rfl, hv⟩, hb9⟩
    have HV := Lib.hid hv
    have HB9 := Lib.hid hb9
    clear hv hb9
    go_wp2_with fail
    go_ret
    exact ⟨L, by rw [HE.out]; exact HD1.out.below HB9.out, HU1.out.trans (Upd.of_below HB9.out), v, rfl, by rw [HE.out]; exact HV.out⟩
  rw [if_neg hpw] at HA
  have HE := Lib.hid (show d.syncNames = d.begin (fun e => { e with safe := e.names, changes := [] }) (fun _ e => e) by unfold Dm.syncNames; rw [if_neg hpw])
  have HBG := Lib.hid (begin_syncnames w1 L gd d HD1.out (by have := HP.out.acts; omega) (.pointer (some ⟨w.heap.size, 0, none⟩)) (fun e => { e with safe := e.names, changes := [] }) (fun _ e => e)
    (fun w2 hu2 hd2 => syncnames1_any w2 L gd _ hd2 w.heap.size (G0.out.upd hu2))
    (fun w2 n hu2 hd2 => (nothing_any w2 n).mono fun e w' ⟨he, hw⟩ => by subst hw; exact ⟨he, L, hd2, Upd.refl _ _⟩))
  clear hpw
  go_wp2_with (first | (go_at_call 90; refine HA.out.mono ?_; rintro e w3 ⟨rfl, rfl⟩) | (go_at_call 94; refine HBG.out.mono ?_; rintro e w4 ⟨rfl, L4, hd4, hu4⟩; have HD4 := Lib.hid hd4; have HU4 := Lib.hid (HU1.out.trans hu4); clear hd4 hu4))
  obtain ⟨y, hy⟩ : ∃ y, y = (d.begin (fun e => { e with safe := e.names, changes := [] }) (fun _ e => e)).2 := ⟨_, rfl⟩
  rw [← hy]
  have HY := Lib.hid hy
  clear hy
  with_reducible refine (told2 w4 L4.ρ HD4.out.dom snB ⟨#[]⟩ y).mono ?_
  rintro e w9 ⟨⟨v, rfl, hv⟩, hb9⟩
  have HV := Lib.hid hv
  have HB9 := Lib.hid hb9
  clear hv hb9
  go_wp2_with fail
  go_ret
  exact ⟨L4, by rw [HE.out]; exact HD4.out.below HB9.out, HU4.out.trans (Upd.of_below HB9.out), v, rfl, by rw [HE.out, ← HY.out]; exact HV.out⟩
end Go.Proofs.YtgkehahklccacaaGreatDoor
namespace Go.Proofs.YtgkehahklccacaaGreatDoor
open Go Go.RowKit
set_option maxRecDepth 100000
set_option maxHeartbeats 1000000
set_option linter.unusedVariables false
set_option linter.unusedSimpArgs false
open Go.Maps Go.WideMaps
/-- Disk.begin, with the closures 68 and 66. -/
theorem begin_append (w : World) (L : Lay) (gd : Nat) (d : Dm) (h : DAt w L gd d) (ha : d.acts < 4611686018427387904) (x0 x1 y0 y1 y2 : Value) (Wh : Dm → Dm) (Pt : Int → Dm → Dm)
    (hW : ∀ w2, Upd L.ρ L.ρ w w2 → DAt w2 L gd { d with acts := d.acts + 1 } → Calls Tryz.prog 165 #[x0, x1] w2 fun e w' => e = .returned (.tuple #[]) ∧ ∃ L', DAt w' L' gd (Wh { d with acts := d.acts + 1 }) ∧ Upd L.ρ L'.ρ w2 w')
    (hP : ∀ w2 n, Upd L.ρ L.ρ w w2 → DAt w2 L gd { d with acts := d.acts + 1 } → Calls Tryz.prog 164 #[.int .i64 n, y0, y1, y2] w2 fun e w' => e = .returned (.tuple #[]) ∧ ∃ L', DAt w' L' gd (Pt n { d with acts := d.acts + 1 }) ∧ Upd L.ρ L'.ρ w2 w') :
    Calls Tryz.prog 94 #[.pointer (some ⟨gd, 0, none⟩), .func (.func 165) #[] #[x0, x1], .func (.func 164) #[] #[y0, y1, y2]] w fun e w' => e = .returned (.int .i64 (d.begin Wh Pt).2) ∧ ∃ L', DAt w' L' gd (d.begin Wh Pt).1 ∧ Upd L.ρ L'.ρ w w' := by
  have hc0 := h.cells.1
  have hlt := h.lt
  have HP0 := Lib.hid (planned_any w L gd d h d.acts)
  have HD := Lib.hid h
  have HW := Lib.hid hW
  have HP := Lib.hid hP
  have e9 : ((d.acts + 1 : Nat) : Int) = (d.acts : Int) + 1 := by omega
  clear h hW hP
  go_enter Tryz.func94, Tryz.ntmps94
  go_upto_region 2 with (go_at_call 156; (refine HP0.out.mono ?_); rintro e w1 ⟨rfl, hb1⟩; have HB1 := Lib.hid hb1; clear hb1 hc0)
  obtain ⟨st, kd, pt, hf⟩ : ∃ st kd pt, (⟨st, kd, pt⟩ : Flt) = d.planned d.acts := ⟨_, _, _, rfl⟩
  have HF := Lib.hid hf
  rw [← hf]
  obtain ⟨w2, hw2⟩ : ∃ w2, w2 = w1.alloc (.cells #[.int .i64 st, .int .i64 kd, .int .i64 pt] 35) := ⟨_, rfl⟩
  have z1 := HB1.out.size
  have hb2 : Below w.heap.size w w2 := by rw [hw2]; exact HB1.out.alloc z1 _
  have g2 : w2.heap[w1.heap.size]? = some (.cells #[.int .i64 st, .int .i64 kd, .int .i64 pt] 35) := by rw [hw2]; exact heap_alloc_new w1 _
  dsimp only
  rw [← hw2]
  clear hw2 hf
  have hd2 := HD.out.below hb2
  have c0 := hd2.cells.1
  have f0 := hd2.cells.2.2.2.2.2.2.2.2.2.2.2 0
  have hne : w1.heap.size ≠ gd := by omega
  have k1 : ∀ x, (w2.setCell ⟨gd, 0, none⟩ x).cell? ⟨w1.heap.size, 1, none⟩ = some (.int .i64 kd) := fun x => (World.cell?_of_block (heap_setCell_other w2 ⟨gd, 0, none⟩ w1.heap.size x hne)).trans (by rw [cell_of_row _ _ _ _ _ _ g2]; rfl)
  have k2 : ∀ x, (w2.setCell ⟨gd, 0, none⟩ x).cell? ⟨w1.heap.size, 2, none⟩ = some (.int .i64 pt) := fun x => (World.cell?_of_block (heap_setCell_other w2 ⟨gd, 0, none⟩ w1.heap.size x hne)).trans (by rw [cell_of_row _ _ _ _ _ _ g2]; rfl)
  have ho3 : Only L.ρ (· = 1) w (w2.setCell ⟨gd, 0, none⟩ (.int .i64 ((d.acts : Int) + 1))) := (Only.of_below hb2).trans (Only.setCell w2 gd 0 _ HD.out.lg)
  have hd3 : DAt (w2.setCell ⟨gd, 0, none⟩ (.int .i64 ((d.acts : Int) + 1))) L gd { d with acts := d.acts + 1 } := HD.out.own1 ho3 (by have h9 := heap_setCell_same w2 gd 0 _ _ (.int .i64 ((d.acts : Int) + 1)) hd2.g; unfold boxDisk; rw [e9]; exact h9) rfl rfl rfl rfl rfl rfl
  have hu3 : Upd L.ρ L.ρ w (w2.setCell ⟨gd, 0, none⟩ (.int .i64 ((d.acts : Int) + 1))) := Upd.of_only ho3 (by omega) (Ext.refl _ _)
  have HWC := Lib.hid (HW.out _ hu3 hd3)
  have HPC := Lib.hid (HP.out _ pt hu3 hd3)
  have HU3 := Lib.hid hu3
  have HD3 := Lib.hid hd3
  clear e9 ho3 hd3 hu3 hd2 g2 hb2 HB1 HP0 HW HP HD
  have hcase : kd = 1 ∨ kd = 2 ∨ kd = 3 ∨ kd = 4 ∨ kd = 5 ∨ kd = 6 ∨ ((kd == 1) = false ∧ (kd == 2) = false ∧ (kd == 3) = false ∧ (kd == 4) = false ∧ (kd == 5) = false ∧ (kd == 6) = false) := by simp; omega
  rcases hcase with rfl | rfl | rfl | rfl | rfl | rfl | ⟨e1, e2, e3, e4, e5, e6⟩
  · go_wp2_with fail
    go_ret
    have hE : d.begin Wh Pt = ({ d with acts := d.acts + 1 }, 30) := by unfold Dm.begin; rw [← HF.out]; simp
    exact ⟨by rw [hE]; rfl, L, by rw [hE]; exact HD3.out, HU3.out⟩
  · go_wp2_with (first | (go_at_call 165; refine HWC.out.mono ?_; clear k1 k2 c0 f0; rintro e w4 ⟨rfl, L4, hd4, hu4⟩; have c5 := hd4.cells.2.2.2.2.2.1; have f5 := hd4.cells.2.2.2.2.2.2.2.2.2.2.2 5; have HD4 := Lib.hid hd4; have HU4 := Lib.hid hu4; clear hd4 hu4))
    go_ret
    have hE : d.begin Wh Pt = (Wh { d with acts := d.acts + 1 }, 30) := by unfold Dm.begin; rw [← HF.out]; simp
    exact ⟨by rw [hE]; rfl, L4, by rw [hE]; exact HD4.out, HU3.out.trans HU4.out⟩
  · go_wp2_with (first | (go_at_call 164; refine HPC.out.mono ?_; clear k1 k2 c0 f0; rintro e w4 ⟨rfl, L4, hd4, hu4⟩; have c5 := hd4.cells.2.2.2.2.2.1; have f5 := hd4.cells.2.2.2.2.2.2.2.2.2.2.2 5; have HD4 := Lib.hid hd4; have HU4 := Lib.hid hu4; clear hd4 hu4))
    go_ret
    have hE : d.begin Wh Pt = (Pt pt { d with acts := d.acts + 1 }, 30) := by unfold Dm.begin; rw [← HF.out]; simp
    exact ⟨by rw [hE]; rfl, L4, by rw [hE]; exact HD4.out, HU3.out.trans HU4.out⟩
  · go_wp2_with (first | (go_at_call 164; refine HPC.out.mono ?_; clear k1 k2 c0 f0; rintro e w4 ⟨rfl, L4, hd4, hu4⟩; have c5 := hd4.cells.2.2.2.2.2.1; have f5 := hd4.cells.2.2.2.2.2.2.2.2.2.2.2 5; have HD4 := Lib.hid hd4; have HU4 := Lib.hid hu4; clear hd4 hu4))
    go_ret
    have hE : d.begin Wh Pt = (Pt pt { d with acts := d.acts + 1 }, 31) := by unfold Dm.begin; rw [← HF.out]; simp
    exact ⟨by rw [hE]; rfl, L4, by rw [hE]; exact HD4.out, HU3.out.trans HU4.out⟩
  · go_wp2_with (first | (go_at_call 164; refine HPC.out.mono ?_; clear k1 k2 c0 f0; rintro e w4 ⟨rfl, L4, hd4, hu4⟩; have c5 := hd4.cells.2.2.2.2.2.1; have f5 := hd4.cells.2.2.2.2.2.2.2.2.2.2.2 5; have HD4 := Lib.hid hd4; have HU4 := Lib.hid hu4; clear hd4 hu4))
    go_ret
    have hE : d.begin Wh Pt = ({ Pt pt { d with acts := d.acts + 1 } with power := false }, 2) := by unfold Dm.begin; rw [← HF.out]; simp
    have ho5 : Only L4.ρ (· = 1) w4 (w4.setCell ⟨gd, 5, none⟩ (.bool false)) := Only.setCell w4 gd 5 _ HD4.out.lg
    exact ⟨by rw [hE]; rfl, L4, by rw [hE]; exact HD4.out.own1 ho5 (heap_setCell_same w4 gd 5 _ _ _ HD4.out.g) rfl rfl rfl rfl rfl rfl, (HU3.out.trans HU4.out).trans (Upd.of_only ho5 (by omega) (Ext.refl _ _))⟩
  · go_wp2_with (first | (go_at_call 165; refine HWC.out.mono ?_; clear k1 k2 c0 f0; rintro e w4 ⟨rfl, L4, hd4, hu4⟩; have c5 := hd4.cells.2.2.2.2.2.1; have f5 := hd4.cells.2.2.2.2.2.2.2.2.2.2.2 5; have HD4 := Lib.hid hd4; have HU4 := Lib.hid hu4; clear hd4 hu4))
    go_ret
    have hE : d.begin Wh Pt = ({ Wh { d with acts := d.acts + 1 } with power := false }, 2) := by unfold Dm.begin; rw [← HF.out]; simp
    have ho5 : Only L4.ρ (· = 1) w4 (w4.setCell ⟨gd, 5, none⟩ (.bool false)) := Only.setCell w4 gd 5 _ HD4.out.lg
    exact ⟨by rw [hE]; rfl, L4, by rw [hE]; exact HD4.out.own1 ho5 (heap_setCell_same w4 gd 5 _ _ _ HD4.out.g) rfl rfl rfl rfl rfl rfl, (HU3.out.trans HU4.out).trans (Upd.of_only ho5 (by omega) (Ext.refl _ _))⟩
  · go_wp2_with (first | (go_at_call 165; refine HWC.out.mono ?_; clear k1 k2 c0 f0; rintro e w4 ⟨rfl, L4, hd4, hu4⟩; have c5 := hd4.cells.2.2.2.2.2.1; have f5 := hd4.cells.2.2.2.2.2.2.2.2.2.2.2 5; have HD4 := Lib.hid hd4; have HU4 := Lib.hid hu4; clear hd4 hu4))
    go_ret
    have hE : d.begin Wh Pt = (Wh { d with acts := d.acts + 1 }, 0) := by unfold Dm.begin; rw [← HF.out]; simp at e1 e2 e3 e4 e5 e6; simp [e1, e2, e3, e4, e5, e6]
    exact ⟨by rw [hE]; rfl, L4, by rw [hE]; exact HD4.out, HU3.out.trans HU4.out⟩
end Go.Proofs.YtgkehahklccacaaGreatDoor
