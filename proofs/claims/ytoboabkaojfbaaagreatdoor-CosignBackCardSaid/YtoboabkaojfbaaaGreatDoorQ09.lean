import Derived.Test.YtoboabkaojfbaaaGreatDoorQ08
import Derived.Laws.CopyOwn
import Derived.StillTailTactics
import Derived.Deep.RegionHeld3
import Derived.IntWalk
import Derived.Deep.MidRow
import Derived.Lib.SliceRun
namespace Go.Proofs.YtoboabkaojfbaaaGreatDoor
open Go Go.RowKit
set_option maxRecDepth 100000
set_option maxHeartbeats 1000000
set_option linter.unusedVariables false
set_option linter.unusedSimpArgs false

theorem zero5 (w : World) : (zeroValue 5).run Tryz.prog w = .ok (.int .u8 0) w := by kernel_rfl
theorem slice_arr (wx : World) (g k : Nat) (hk : k ≤ 32) (x : Int) (hx : x = (k : Int)) : (Instr.sliceAt 23 (.pointer (some ⟨g, 0, none⟩)) (some (.int .i64 x)) none none).run Tryz.prog wx = .ok (.slice (some (if 32 = k then ⟨g, 0, none⟩ else ⟨g, k, none⟩)) (32 - k) (32 - k)) wx := by
  subst hx
  have ht : Tryz.prog.underlying 23 = some (.array (Tryz.prog.arrayLen 23) (Tryz.prog.elem 23)) := by kernel_rfl
  have hl : Tryz.prog.arrayLen 23 = 32 := by kernel_rfl
  have hs : (sizeOf (Tryz.prog.elem 23)).run Tryz.prog wx = .ok 1 wx := by kernel_rfl
  rw [run_sliceAt_array_l wx 23 ⟨g, 0, none⟩ ht .i64 (k : Int) (by omega) (by rw [hl]; omega), hs, hl]
  simp only [Result.andThen, slicedAt, Int.toNat_natCast, Nat.mul_one, Addr.add_lit, Nat.zero_add]
theorem cutP'_eq (wd : Int) (d : List UInt8) (hd : d.length = 32) (k : Nat) (hk : (k : Int) = min (max wd 1) 32) : cutP' wd d = d.take k ++ List.replicate (32 - k) 0 := by
  unfold cutP'
  rw [hd]
  by_cases h : (max wd 1).toNat ≤ 32
  · rw [show (max wd 1).toNat = k by omega]
  · rw [List.take_of_length_le (by omega), List.take_of_length_le (show d.length ≤ k by omega), show 32 - (max wd 1).toNat = 32 - k by omega]
set_option maxHeartbeats 4000000
theorem cut_dg (w : World) (d : List UInt8) (hd : d.length = 32) (wd : Int) (h0 : -9223372036854775808 ≤ wd) (h1 : wd ≤ 9223372036854775807) :
    Calls Tryz.prog 92 #[.agg (dgA d), .int .i64 wd] w fun e w' => e = .returned (.agg (dgA (cutP' wd d))) ∧ Below w.heap.size w w' := by
  obtain ⟨k, hk⟩ : ∃ k : Nat, (k : Int) = min (max wd 1) 32 := ⟨(min (max wd 1) 32).toNat, by omega⟩
  have hkr : 1 ≤ k ∧ k ≤ 32 := by omega
  obtain ⟨D, hD⟩ : ∃ D, D = dgA d := ⟨_, rfl⟩
  obtain ⟨E, hE⟩ : ∃ E, E = dgA (cutP' wd d) := ⟨_, rfl⟩
  rw [← hD, ← hE]
  have HD := Lib.hid hD; have HE := Lib.hid hE; have HK := Lib.hid hk; have HKR := Lib.hid hkr; have HDL := Lib.hid hd
  have HES := Lib.hid (show E.size = 32 by rw [hE, dgA_size, cutP'_len, hd])
  have HE1 := Lib.hid (show E.all (·.oneCell') = true by rw [hE]; exact dgA_all _)
  clear hD hE hk hkr hd
  go_enter Tryz.func92, Tryz.ntmps92
  go_upto_region 1 with (fail)
  obtain ⟨o2, ho2⟩ : ∃ o2 : Obj, o2 = .cells #[.int .u8 0, .int .u8 0, .int .u8 0, .int .u8 0, .int .u8 0, .int .u8 0, .int .u8 0, .int .u8 0, .int .u8 0, .int .u8 0, .int .u8 0, .int .u8 0, .int .u8 0, .int .u8 0, .int .u8 0, .int .u8 0, .int .u8 0, .int .u8 0, .int .u8 0, .int .u8 0, .int .u8 0, .int .u8 0, .int .u8 0, .int .u8 0, .int .u8 0, .int .u8 0, .int .u8 0, .int .u8 0, .int .u8 0, .int .u8 0, .int .u8 0, .int .u8 0] 23 := ⟨_, rfl⟩
  rw [← ho2]
  have hb1 : Below w.heap.size w ((w.alloc (.cells D 23)).alloc o2) := ((Below.refl _ _).alloc (Nat.le_refl _) _).alloc (by simp) _
  have hg0 : ((w.alloc (.cells D 23)).alloc o2).heap[w.heap.size]? = some (.cells D 23 (0, 0)) := heap_alloc2_old w _ _
  have hg1 : ((w.alloc (.cells D 23)).alloc o2).heap[w.heap.size + 1]? = some o2 := heap_alloc2_new w _ _
  have hz1 : ((w.alloc (.cells D 23)).alloc o2).heap.size = w.heap.size + 2 := by simp
  generalize (w.alloc (.cells D 23)).alloc o2 = w1 at *
  obtain ⟨b0, hb0⟩ : ∃ b0, b0 = w.heap.size := ⟨_, rfl⟩
  rw [← hb0] at hb1 hg0 hg1 hz1 ⊢
  have hk1 := HKR.out
  have hl1 : ((d.map b8).take k).length = k := by rw [List.length_take, List.length_map, HDL.out]; omega
  have hg0' : w1.heap[b0]? = some (.cells ((d.map b8).take k ++ (d.map b8).drop k).toArray 23 (0, 0)) := by rw [List.take_append_drop, hg0, HD.out]; rfl
  have hset := setCells_whole b0 (List.replicate (32 - k) (.int .u8 0)) _ _ w1 23 hg0' (by rw [List.length_replicate, List.length_drop, List.length_map, HDL.out]; omega)
  rw [hl1] at hset
  obtain ⟨w2, hw2⟩ : ∃ w2, w2 = w1.setCells b0 k (List.replicate (32 - k) (.int .u8 0)) := ⟨_, rfl⟩
  rw [← hw2] at hset
  have hE2 : w2.heap[b0]? = some (.cells E 23 (0, 0)) := by
    rw [hset, HE.out, cutP'_eq wd d HDL.out k HK.out]
    refine congrArg (fun c => some (Obj.cells c 23 (0, 0))) ?_
    rw [List.length_replicate, List.drop_of_length_le (by rw [List.length_drop, List.length_map, HDL.out]; omega), List.append_nil]
    unfold dgA
    rw [List.map_append, List.map_take, List.map_replicate]; rfl
  have hgr := setCells_grown b0 (List.replicate (32 - k) (.int .u8 0)) k w1
  have hzs := setCells_size b0 (List.replicate (32 - k) (.int .u8 0)) k w1
  rw [← hw2] at hgr hzs
  obtain ⟨A, hA⟩ : ∃ A : Addr, A = if 32 = k then ⟨b0, 0, none⟩ else ⟨b0, k, none⟩ := ⟨_, rfl⟩
  obtain ⟨q, hq⟩ : ∃ q, q = 32 - k := ⟨_, rfl⟩
  have hsl : ∀ wx, (Instr.sliceAt 23 (.pointer (some ⟨b0, 0, none⟩)) (some (.int .i64 (min (max wd 1) 32))) none none).run Tryz.prog wx = .ok (.slice (some A) q q) wx := fun wx => by
    rw [hA, hq]; exact slice_arr wx b0 k (by omega) _ HK.out.symm
  have hcl : ∀ ty, (Builtin.clear_ #[49] ty #[.slice (some A) q q]).run Tryz.prog w1 = .ok (.tuple #[]) w2 := fun ty => by
    rw [hw2, hA, hq]
    by_cases h : 32 = k
    · subst h; rfl
    · rw [if_neg h]
      exact Lib.run_clear_slice w1 49 5 ty (.int .u8 0) Tryz.underlying49 zero5 rfl rfl b0 k (32 - k) (32 - k) (by omega) (fun j hj => by rw [cell_of_row _ _ _ _ _ _ hg0]; rw [Array.getElem?_eq_getElem (by rw [HD.out, dgA_size, HDL.out]; omega)]; rfl) (fun j hj => frozen_of_row w1 b0 (k + j) _ _ hg0)
  have HE2 := Lib.hid hE2
  have HO2 := Lib.hid (show w2.heap[b0 + 1]? = some o2 from (hgr.block (b0 + 1) (by omega) (fun e => by have := Option.some.inj e; omega)).trans hg1)
  have HB2 := Lib.hid (hb1.grown hgr (by omega) (fun k hk => by rw [← Option.some.inj hk]; exact Nat.le_refl _))
  have HZ2 := Lib.hid (show w2.heap.size = b0 + 2 by rw [hzs, hz1])
  have HB0 := Lib.hid hb0; have HOO := Lib.hid ho2
  clear hset hw2 hE2 hgr hzs hA hq hg0' hg0 hg1 hz1 hb1 hl1 hk1 hb0 ho2
  go_upto_region 2 with (fail)
  refine wp_region_lit ?_
  refine wpList_load_row rfl 23 (.tmp 2) (by rfl) b0 (by rfl) 23 E (0, 0) _ HE2.out Tryz.underlying23 rfl (by rw [HES.out]; exact info38) ?_
  have hO := HO2.out
  rw [HOO.out] at hO
  have HTH := Lib.hid (there_block hO)
  have HGF := Lib.hid (setCells_all hO E.toList (by rw [Array.length_toList, HES.out]; rfl))
  clear hO
  refine wpList_store_mid rfl 23 (.tmp 4) (.tmp 9) (by rfl) (b0 + 1) 0 E (by rfl) (by rfl) (by rw [HES.out]; exact HTH.out) (by rw [HES.out]; exact info38) HE1.out ?_
  have HB9 := Lib.hid (HB2.out.grown (setCells_grown (b0 + 1) E.toList 0 w2) (by have := HZ2.out; omega) (fun k hk => by rw [← Option.some.inj hk]; omega))
  generalize w2.setCells (b0 + 1) 0 E.toList = w9 at *
  have HGF9 := Lib.hid (show w9.heap[b0 + 1]? = some (.cells E 23 (0, 0)) by have := HGF.out; simpa using this)
  clear HTH HGF hsl hcl
  go_wp2_with fail
  refine bodyPost_ret (v := .agg E) (results_cell_row (p := 4) (ty := 23) rfl _ _ (b0 + 1) 23 E (0, 0) _ rfl HGF9.out Tryz.underlying23 rfl (by rw [HES.out]; exact info38)) rfl ⟨rfl, ?_⟩
  rw [← HB0.out]
  exact HB9.out
end Go.Proofs.YtoboabkaojfbaaaGreatDoor
namespace Go.Proofs.YtoboabkaojfbaaaGreatDoor
open Go Go.RowKit
set_option maxRecDepth 100000
set_option maxHeartbeats 1000000
set_option linter.unusedVariables false
set_option linter.unusedSimpArgs false

theorem r8_apart {w : World} {a : Option Addr} {n c : Nat} {p : List UInt8} (h : R8 w a n c p) {gh : Nat} (hg : w.heap.size ≤ gh) : ∀ x, a = some x → 0 < n → gh ≠ x.block := by
  intro x hx h0
  obtain ⟨b, off, e, hc⟩ := h.2.2.2 0 (by have := h.1; omega)
  rw [hx] at e
  obtain rfl := Option.some.inj e
  have := World.block_lt_of_cell? w _ hc
  show gh ≠ b
  have : b < w.heap.size := this
  omega
theorem rt_below {w w' : World} {B : Nat} (h : RoundTab w) (hb : Below B w w') (h3 : 1 < B) : RoundTab w' := fun i hi => by
  rw [hb.cell (p := ⟨1, i, none⟩) h3]; exact h i hi
/-- Texts, one behind the other. -/
def PartsAt (w : World) (a : Option Addr) (n : Nat) (ps : List (List UInt8)) : Prop := ps.length = n ∧ ∀ i p, ps[i]? = some p → ∃ b off ai ni ci, a = some ⟨b, off, none⟩ ∧ w.cell? ⟨b, off + i, none⟩ = some (.slice ai ni ci) ∧ R8 w ai ni ci p
theorem flat_take {ps : List (List UInt8)} {k : Nat} {p : List UInt8} (h : ps[k]? = some p) : (ps.take (k + 1)).flatten = (ps.take k).flatten ++ p := by
  rw [List.take_add_one, h]; simp
theorem flat_le {ps : List (List UInt8)} (k : Nat) : (ps.take k).flatten.length ≤ ps.flatten.length := by
  conv => rhs; rw [← List.take_append_drop k ps, List.flatten_append, List.length_append]
  omega
set_option maxHeartbeats 8000000
theorem of_any (w : World) (wd : Int) (h0 : -9223372036854775808 ≤ wd) (h1 : wd ≤ 9223372036854775807) (dm : UInt8) (a : Option Addr) (n c : Nat) (ps : List (List UInt8)) (hp : PartsAt w a n ps) (hn : n ≤ 1000) (hl : ps.flatten.length ≤ 281474976710656) (ht : RoundTab w) (h3 : 1 < w.heap.size) :
    Calls Tryz.prog 109 #[.int .i64 wd, .int .i64 (dm.toNat : Int), .slice a n c] w fun e w' => e = .returned (.agg (dgA (ofP wd (dm :: ps.flatten)))) ∧ Below w.heap.size w w' := by
  have HP := Lib.hid hp; have HL := Lib.hid hl; have HT := Lib.hid ht; have H01 := Lib.hid (And.intro h0 h1)
  have hdm : dm.toNat ≤ 255 := by have := dm.toNat_lt; omega
  have hdw : IntKind.u8.wrap (dm.toNat : Int) = (dm.toNat : Int) := IntWalk.u8_in _ (by omega)
  clear hp hl ht h0 h1
  go_enter Tryz.func109, Tryz.ntmps109
  go_upto_region 1 with (fail)
  obtain ⟨o1, ho1⟩ : ∃ o1 : Obj, o1 = .cells #[.int .u8 0, .int .u8 0, .int .u8 0, .int .u8 0, .int .u8 0, .int .u8 0, .int .u8 0, .int .u8 0, .int .u8 0, .int .u8 0, .int .u8 0, .int .u8 0, .int .u8 0, .int .u8 0, .int .u8 0, .int .u8 0, .int .u8 0, .int .u8 0, .int .u8 0, .int .u8 0, .int .u8 0, .int .u8 0, .int .u8 0, .int .u8 0, .int .u8 0, .int .u8 0, .int .u8 0, .int .u8 0, .int .u8 0, .int .u8 0, .int .u8 0, .int .u8 0] 23 := ⟨_, rfl⟩
  obtain ⟨r0, hr0⟩ : ∃ r0, r0 = w.heap.size := ⟨_, rfl⟩
  rw [← ho1, ← hr0]
  have hb1 : Below r0 w (w.alloc o1) := (Below.refl _ _).alloc (by omega) _
  have hg1 : (w.alloc o1).heap[r0]? = some o1 := by rw [hr0]; exact heap_alloc_new w _
  have hz1 : (w.alloc o1).heap.size = r0 + 1 := by rw [hr0]; simp
  generalize w.alloc o1 = w1 at *
  have HB1 := Lib.hid hb1; have HG1 := Lib.hid hg1; have HZ1 := Lib.hid hz1; have HR0 := Lib.hid hr0; have HOO := Lib.hid ho1
  clear hb1 hg1 hz1 ho1
  go_upto_region 2 with ((go_at_call 161; (with_reducible refine (newh_any w1).mono ?_); rintro e w2 ⟨gh, rfl, hgh, hs2, hb2⟩))
  have hr03 : 1 < r0 := by omega
  have HS2 := Lib.hid hs2
  have HGH := Lib.hid (show r0 + 1 ≤ gh ∧ gh < w2.heap.size from ⟨by have := HZ1.out; omega, hs2.lt⟩)
  have HB2 := Lib.hid (show Below (r0 + 1) w1 w2 by have := hb2; rw [HZ1.out] at this; exact this)
  clear hs2 hgh hb2 hr0
  obtain ⟨w3, hw3⟩ : ∃ w3, w3 = w2.alloc (.cells #[.int .u8 (dm.toNat : Int)] 5) := ⟨_, rfl⟩
  have hb3 : Below (r0 + 1) w1 w3 := by rw [hw3]; exact HB2.out.alloc (by have := HGH.out; omega) _
  have hh3 : HsAt w3 gh [] := HS2.out.keep (by rw [hw3]; exact Below.heap_alloc _ _ _ HGH.out.2)
  have hr3 : R8 w3 (some ⟨w2.heap.size, 0, none⟩) 1 1 [dm] := by rw [hw3]; exact R8.lit w2 5 (0, 0) [dm] 1 rfl (by omega) _ rfl
  have HWR := Lib.hid (write_any w3 gh (some ⟨w2.heap.size, 0, none⟩) 1 1 [] [dm] hh3 hr3 (fun x hx _ => by obtain rfl := Option.some.inj hx; have := HGH.out; show gh ≠ w2.heap.size; omega) (by show 0 + 1 ≤ _; omega) (rt_below (rt_below HT.out HB1.out hr03) hb3 (by omega)) (by have := hb3.size; have := HZ1.out; omega) (by have := HGH.out; omega))
  have HB3 := Lib.hid hb3
  have HW3 := Lib.hid hw3
  rw [hw3] at HWR HB3
  clear hb3 hh3 hr3 hw3
  go_upto_region 3 with ((with_reducible refine HWR.out.mono ?_); rintro e w4 ⟨rfl, hs4, hg4⟩)
  have HS4 := Lib.hid (show HsAt w4 gh ([] ++ [dm] ++ ((ps.take 0).flatten)) by simpa using hs4)
  have HB4 := Lib.hid (show Below (r0 + 1) w1 w4 from HB3.out.grown hg4 (by have := HB3.out.size; have := HZ1.out; omega) (fun k hk => by rw [← Option.some.inj hk]; exact HGH.out.1))
  rw [← HR0.out]
  clear hs4 hg4 hdw
  have hnl : ps.length = n := HP.out.1
  have HNL := Lib.hid hnl
  clear hnl
  go_wp2_with fail
  go_loopw [18, 9] (fun v _ wr => ∃ k : Nat, k ≤ n ∧ v = .int .i64 k ∧ HsAt wr gh ([] ++ [dm] ++ (ps.take k).flatten) ∧ Below (r0 + 1) w1 wr) (fun v _ _ => n - (intOf v).toNat)
  case atStart => exact ⟨0, by omega, rfl, HS4.out, HB4.out⟩
  case round =>
    obtain ⟨k, hkn, rfl, hh, hb⟩ := hrel
    by_cases hlt : k < n
    · obtain ⟨p, hpk⟩ : ∃ p, ps[k]? = some p := ⟨_, List.getElem?_eq_getElem (by rw [HNL.out]; exact hlt)⟩
      obtain ⟨b, off, ai, ni, ci, rfl, hc, hr⟩ := HP.out.2 k p hpk
      have hbw : Below r0 w wr := HB1.out.trans (hb.mono (by omega))
      have hbl : b < r0 := by rw [HR0.out]; exact World.block_lt_of_cell? w _ hc
      have hc2 : wr.cell? ⟨b, off + k, none⟩ = some (.slice ai ni ci) := (hbw.cell (show b < r0 from hbl)).trans hc
      have hr2 : R8 wr ai ni ci p := hr.belowB (by rw [HR0.out]; exact Nat.le_refl _) hbw
      have hfl := flat_take hpk
      have hle := flat_le (ps := ps) (k + 1)
      have hln := congrArg List.length hfl
      rw [List.length_append] at hln
      have hpl := hr.1
      have HWR := Lib.hid (write_any wr gh ai ni ci _ p hh hr2 (r8_apart hr (by have := HGH.out; rw [← HR0.out]; omega)) (by rw [List.length_append, List.length_append]; show 0 + 1 + _ + ni ≤ _; have := HL.out; omega) (rt_below HT.out hbw hr03) (by have := hb.size; have := HZ1.out; omega) (by have := HGH.out; omega))
      have HFL := Lib.hid hfl
      have HB := Lib.hid hb
      have HLT := Lib.hid hlt
      have h9 : decide ((k : Int) < (n : Int)) = true := by simp; omega
      clear hpk hc hr hr2 hfl hle hln hpl hh hb hbw hkn
      go_wp2_with ((with_reducible refine HWR.out.mono ?_); rintro e w5 ⟨rfl, hs5, hg5⟩; have HS5 := Lib.hid hs5; have HG5 := Lib.hid hg5; clear hs5 hg5 hc2)
      go_roundw
      case rel => exact ⟨k + 1, by have := HLT.out; omega, by go_num, (by rw [HFL.out, ← List.append_assoc]; exact HS5.out), HB.out.grown HG5.out (by have := HB.out.size; have := HZ1.out; omega) (fun k hk => by rw [← Option.some.inj hk]; exact HGH.out.1)⟩
      case measure => have := HLT.out; simp [intOf]; omega
    · obtain rfl : k = n := by omega
      have h9 : decide ((k : Int) < (k : Int)) = false := by simp
      rw [List.take_of_length_le (by rw [HNL.out]; exact Nat.le_refl _)] at hh
      have hbw : Below r0 w wr := HB1.out.trans (hb.mono (by omega))
      have hM : [] ++ [dm] ++ ps.flatten = dm :: ps.flatten := rfl
      rw [hM] at hh
      have HSM := Lib.hid (sum_any wr gh _ hh (by rw [List.length_cons]; have := HL.out; omega) (rt_below HT.out hbw hr03) (by have := hb.size; have := HZ1.out; omega))
      have HB := Lib.hid hb
      obtain ⟨E, hE⟩ : ∃ E, E = dgA (ofP wd (dm :: ps.flatten)) := ⟨_, rfl⟩
      have HE := Lib.hid hE
      have HES := Lib.hid (show E.size = 32 by rw [hE, dgA_size, ofP_len])
      have HE1 := Lib.hid (show E.all (·.oneCell') = true by rw [hE]; exact dgA_all _)
      clear hlt hkn hh hb hbw hM hE
      go_upto_region 8 with (fail)
      clear h9
      go_wp2_with fail
      with_reducible refine HSM.out.mono ?_
      rintro e w5 ⟨rfl, hb5⟩
      have HB5 := Lib.hid hb5
      have HSH := Lib.hid (shaP_len (dm :: ps.flatten))
      have HCT := Lib.hid (cut_dg w5 (shaP (dm :: ps.flatten)) HSH.out wd H01.out.1 H01.out.2)
      clear hb5
      go_wp2_with fail
      with_reducible refine HCT.out.mono ?_
      rintro e w6 ⟨rfl, hb6⟩
      rw [show dgA (cutP' wd (shaP (dm :: ps.flatten))) = E from HE.out.symm]
      have hbb : Below (r0 + 1) w1 w6 := HB.out.trans ((HB5.out.mono (by have := HB.out.size; have := HZ1.out; omega)).trans (hb6.mono (by have := HB5.out.size; have := HB.out.size; have := HZ1.out; omega)))
      have HO := Lib.hid ((hbb.block r0 (Nat.lt_succ_self _)).trans HG1.out)
      have HBB := Lib.hid (HB1.out.trans (hbb.mono (Nat.le_succ _)))
      have HSZ := Lib.hid (show r0 ≤ w6.heap.size by have := hbb.size; have := HZ1.out; omega)
      clear hb6 hbb
      have hO := HO.out
      rw [HOO.out] at hO
      have HTH := Lib.hid (there_block hO)
      have HGF := Lib.hid (setCells_all hO E.toList (by rw [Array.length_toList, HES.out]; rfl))
      clear hO
      go_wp2_with (refine wpList_store_mid rfl 23 (.tmp 6) (.tmp 29) (by rfl) r0 0 E (by rfl) (by rfl) (by rw [HES.out]; exact HTH.out) (by rw [HES.out]; exact info38) HE1.out ?_)
      have HB9 := Lib.hid (HBB.out.grown (setCells_grown r0 E.toList 0 w6) HSZ.out (fun k hk => by rw [← Option.some.inj hk]; exact Nat.le_refl _))
      generalize w6.setCells r0 0 E.toList = w9 at *
      have HGF9 := Lib.hid (show w9.heap[r0]? = some (.cells E 23 (0, 0)) by have := HGF.out; simpa using this)
      clear HTH HGF
      refine bodyPost_ret (v := .agg E) (results_cell_row (p := 6) (ty := 23) rfl _ _ r0 23 E (0, 0) _ rfl HGF9.out Tryz.underlying23 rfl (by rw [HES.out]; exact info38)) rfl ⟨by rw [HE.out], ?_⟩
      rw [← HR0.out]
      exact HB9.out
end Go.Proofs.YtoboabkaojfbaaaGreatDoor
namespace Go.Proofs.YtoboabkaojfbaaaGreatDoor
open Go Go.RowKit
set_option maxRecDepth 100000
set_option maxHeartbeats 1000000
set_option linter.unusedVariables false
set_option linter.unusedSimpArgs false

theorem S_store_mid {P : Program} {w : World} {ops : Array Oper} {o : Oper} {a : Act} {Q : Exit → Act → World → Prop} {K : Act → World → Prop} {E : Prop} (hgd : o.guard = none) (ty : TypeId) (x y : Operand) (ho : o.op = .store ty x y)
    (b off : Nat) (cells : Array Value) (hx : a.eval x = .pointer (some ⟨b, off, none⟩)) (hy : a.eval y = .agg cells)
    (ht : w.there b off cells.size) (hi : (P.info? ty).map (·.size) = some cells.size) (h1 : cells.all (·.oneCell') = true)
    (h : K (a.put o.dst undef) (w.setCells b off cells.toList)) : if Region.wanted o (yielded ops a.tmps) = true then Oper.wp P o a w K Q else E := by
  rw [if_pos (by simp [Region.wanted, hgd])]
  exact wp_store_mid ty x y ho b off cells hx hy ht hi h1 h
set_option maxHeartbeats 4000000
/-- SHA-256 of a text. -/
theorem dsum_any (w : World) (a : Option Addr) (n c : Nat) (p : List UInt8) (hr : R8 w a n c p) (ht : RoundTab w) (h3 : 1 < w.heap.size) (hn : n ≤ 281474976710656) :
    Calls Tryz.prog 93 #[.slice a n c] w fun e w' => e = .returned (.agg (dgA (shaP p))) ∧ Below w.heap.size w w' := by
  have HR := Lib.hid hr; have HT := Lib.hid ht
  obtain ⟨E, hE⟩ : ∃ E, E = dgA (shaP p) := ⟨_, rfl⟩
  have HE := Lib.hid hE
  have HES := Lib.hid (show E.size = 32 by rw [hE, dgA_size, shaP_len])
  have HE1 := Lib.hid (show E.all (·.oneCell') = true by rw [hE]; exact dgA_all _)
  clear hr ht hE
  go_enter Tryz.func93, Tryz.ntmps93
  go_upto_region 1 with (fail)
  obtain ⟨o1, ho1⟩ : ∃ o1 : Obj, o1 = .cells #[.int .u8 0, .int .u8 0, .int .u8 0, .int .u8 0, .int .u8 0, .int .u8 0, .int .u8 0, .int .u8 0, .int .u8 0, .int .u8 0, .int .u8 0, .int .u8 0, .int .u8 0, .int .u8 0, .int .u8 0, .int .u8 0, .int .u8 0, .int .u8 0, .int .u8 0, .int .u8 0, .int .u8 0, .int .u8 0, .int .u8 0, .int .u8 0, .int .u8 0, .int .u8 0, .int .u8 0, .int .u8 0, .int .u8 0, .int .u8 0, .int .u8 0, .int .u8 0] 23 := ⟨_, rfl⟩
  rw [← ho1]
  have hb1 : Below w.heap.size w (w.alloc o1) := (Below.refl _ _).alloc (Nat.le_refl _) _
  have hg1 : (w.alloc o1).heap[w.heap.size]? = some o1 := heap_alloc_new w _
  have hz1 : (w.alloc o1).heap.size = w.heap.size + 1 := by simp
  generalize w.alloc o1 = w1 at *
  obtain ⟨rb, hrb⟩ : ∃ rb, rb = w.heap.size := ⟨_, rfl⟩
  rw [← hrb] at hg1 hz1 ⊢
  have HB1 := Lib.hid hb1; have HG1 := Lib.hid hg1; have HZ1 := Lib.hid hz1; have HOO := Lib.hid ho1
  have HRB := Lib.hid (show w.heap.size ≤ rb by omega)
  have HRR := Lib.hid hrb
  clear hb1 hg1 hz1 ho1 hrb
  go_upto_region 2 with ((go_at_call 161; (with_reducible refine (newh_any w1).mono ?_); rintro e w2 ⟨gh, rfl, hgh, hs2, hb2⟩))
  have hz := HZ1.out
  have hrr := HRR.out
  have hb2' : Below (rb + 1) w1 w2 := by rw [hz] at hb2; exact hb2
  have hbw : Below w.heap.size w w2 := HB1.out.trans (hb2'.mono (by omega))
  have HGH := Lib.hid (show rb + 1 ≤ gh by omega)
  have HB2 := Lib.hid hb2'
  have HWR := Lib.hid (write_any w2 gh a n c [] p hs2 (HR.out.belowB (Nat.le_refl _) hbw) (r8_apart HR.out (by omega)) (by show 0 + n ≤ _; omega) (rt_below HT.out hbw h3) (by have := hbw.size; omega) (by omega))
  clear hs2 hgh hb2 hb2' hbw hz hrr
  go_upto_region 3 with ((go_at_call 162; (with_reducible refine HWR.out.mono ?_); rintro e w4 ⟨rfl, hs4, hg4⟩))
  have hb4 : Below (rb + 1) w1 w4 := HB2.out.grown hg4 (by have := HB2.out.size; have := HZ1.out; omega) (fun k hk => by rw [← Option.some.inj hk]; exact HGH.out)
  have hbw4 : Below w.heap.size w w4 := HB1.out.trans (hb4.mono (by have := HRR.out; omega))
  have HSM := Lib.hid (sum_any w4 gh ([] ++ p) hs4 (by rw [List.nil_append, HR.out.1]; omega) (rt_below HT.out hbw4 h3) (by have := hbw4.size; omega))
  have HB4 := Lib.hid hb4
  clear hs4 hg4 hb4 hbw4
  go_wp2_with fail
  with_reducible refine HSM.out.mono ?_
  rintro e w6 ⟨rfl, hb6⟩
  rw [show dgA (shaP ([] ++ p)) = E from HE.out.symm]
  have hbb : Below (rb + 1) w1 w6 := HB4.out.trans (hb6.mono (by have := HB4.out.size; have := HZ1.out; omega))
  have HO := Lib.hid ((hbb.block rb (Nat.lt_succ_self _)).trans HG1.out)
  have HBB := Lib.hid (HB1.out.trans (hbb.mono (by have := HRR.out; omega)))
  have HSZ := Lib.hid (show w.heap.size ≤ w6.heap.size by have := hbb.size; have := HZ1.out; have := HRR.out; omega)
  clear hb6 hbb
  have hO := HO.out
  rw [HOO.out] at hO
  have HTH := Lib.hid (there_block hO)
  have HGF := Lib.hid (setCells_all hO E.toList (by rw [Array.length_toList, HES.out]; rfl))
  clear hO
  go_wp2_with (refine wpList_store_mid rfl 23 (.tmp 2) (.tmp 9) (by rfl) rb 0 E (by rfl) (by rfl) (by rw [HES.out]; exact HTH.out) (by rw [HES.out]; exact info38) HE1.out ?_)
  have HB9 := Lib.hid (HBB.out.grown (setCells_grown rb E.toList 0 w6) HSZ.out (fun k hk => by rw [← Option.some.inj hk]; exact HRB.out))
  generalize w6.setCells rb 0 E.toList = w9 at *
  have HGF9 := Lib.hid (show w9.heap[rb]? = some (.cells E 23 (0, 0)) by have := HGF.out; simpa using this)
  clear HTH HGF
  go_wp2_with fail
  refine bodyPost_ret (v := .agg E) (results_cell_row (p := 2) (ty := 23) rfl _ _ rb 23 E (0, 0) _ rfl HGF9.out Tryz.underlying23 rfl (by rw [HES.out]; exact info38)) rfl ⟨by rw [HE.out], ?_⟩
  exact HB9.out

theorem nothing_dg (w : World) (wd : Int) (h0 : -9223372036854775808 ≤ wd) (h1 : wd ≤ 9223372036854775807) (ht : RoundTab w) (h3 : 1 < w.heap.size) :
    Calls Tryz.prog 132 #[.int .i64 wd] w fun e w' => e = .returned (.agg (dgA (cutP' wd (shaP [])))) ∧ Below w.heap.size w w' := by
  have HT := Lib.hid ht
  obtain ⟨E, hE⟩ : ∃ E, E = dgA (cutP' wd (shaP [])) := ⟨_, rfl⟩
  have HE := Lib.hid hE
  have HES := Lib.hid (show E.size = 32 by rw [hE, dgA_size, cutP'_len, shaP_len])
  have HE1 := Lib.hid (show E.all (·.oneCell') = true by rw [hE]; exact dgA_all _)
  have H01 := Lib.hid (And.intro h0 h1)
  clear ht hE h0 h1
  go_enter Tryz.func132, Tryz.ntmps132
  go_upto_region 1 with (fail)
  obtain ⟨o1, ho1⟩ : ∃ o1 : Obj, o1 = .cells #[.int .u8 0, .int .u8 0, .int .u8 0, .int .u8 0, .int .u8 0, .int .u8 0, .int .u8 0, .int .u8 0, .int .u8 0, .int .u8 0, .int .u8 0, .int .u8 0, .int .u8 0, .int .u8 0, .int .u8 0, .int .u8 0, .int .u8 0, .int .u8 0, .int .u8 0, .int .u8 0, .int .u8 0, .int .u8 0, .int .u8 0, .int .u8 0, .int .u8 0, .int .u8 0, .int .u8 0, .int .u8 0, .int .u8 0, .int .u8 0, .int .u8 0, .int .u8 0] 23 := ⟨_, rfl⟩
  rw [← ho1]
  have hb1 : Below w.heap.size w (w.alloc o1) := (Below.refl _ _).alloc (Nat.le_refl _) _
  have hg1 : (w.alloc o1).heap[w.heap.size]? = some o1 := heap_alloc_new w _
  have hz1 : (w.alloc o1).heap.size = w.heap.size + 1 := by simp
  generalize w.alloc o1 = w1 at *
  obtain ⟨rb, hrb⟩ : ∃ rb, rb = w.heap.size := ⟨_, rfl⟩
  rw [← hrb] at hg1 hz1 ⊢
  have HB1 := Lib.hid hb1; have HG1 := Lib.hid hg1; have HZ1 := Lib.hid hz1; have HOO := Lib.hid ho1
  have HRB := Lib.hid (show w.heap.size ≤ rb by omega)
  have HRR := Lib.hid hrb
  clear hb1 hg1 hz1 ho1 hrb
  have HSM := Lib.hid (dsum_any w1 none 0 0 [] (R8.nil w1 0) (rt_below HT.out HB1.out h3) (by have := HB1.out.size; omega) (by omega))
  go_wp2_with fail
  with_reducible refine HSM.out.mono ?_
  rintro e w5 ⟨rfl, hb5⟩
  have HB5 := Lib.hid hb5
  have HSH := Lib.hid (shaP_len [])
  have HCT := Lib.hid (cut_dg w5 (shaP []) HSH.out wd H01.out.1 H01.out.2)
  clear hb5
  go_wp2_with fail
  with_reducible refine HCT.out.mono ?_
  rintro e w6 ⟨rfl, hb6⟩
  rw [show dgA (cutP' wd (shaP [])) = E from HE.out.symm]
  have hbb : Below (rb + 1) w1 w6 := by
    have h5 := HB5.out
    rw [HZ1.out] at h5
    exact h5.trans (hb6.mono (by have := h5.size; have := HZ1.out; omega))
  have HO := Lib.hid ((hbb.block rb (Nat.lt_succ_self _)).trans HG1.out)
  have HBB := Lib.hid (HB1.out.trans (hbb.mono (by have := HRR.out; omega)))
  have HSZ := Lib.hid (show w.heap.size ≤ w6.heap.size by have := hbb.size; have := HZ1.out; have := HRR.out; omega)
  clear hb6 hbb
  have hO := HO.out
  rw [HOO.out] at hO
  have HTH := Lib.hid (there_block hO)
  have HGF := Lib.hid (setCells_all hO E.toList (by rw [Array.length_toList, HES.out]; rfl))
  clear hO
  go_wp2_with (refine wpList_store_mid rfl 23 (.tmp 2) (.tmp 5) (by rfl) rb 0 E (by rfl) (by rfl) (by rw [HES.out]; exact HTH.out) (by rw [HES.out]; exact info38) HE1.out ?_)
  have HB9 := Lib.hid (HBB.out.grown (setCells_grown rb E.toList 0 w6) HSZ.out (fun k hk => by rw [← Option.some.inj hk]; exact HRB.out))
  generalize w6.setCells rb 0 E.toList = w9 at *
  have HGF9 := Lib.hid (show w9.heap[rb]? = some (.cells E 23 (0, 0)) by have := HGF.out; simpa using this)
  clear HTH HGF
  go_wp2_with fail
  refine bodyPost_ret (v := .agg E) (results_cell_row (p := 2) (ty := 23) rfl _ _ rb 23 E (0, 0) _ rfl HGF9.out Tryz.underlying23 rfl (by rw [HES.out]; exact info38)) rfl ⟨by rw [HE.out], ?_⟩
  exact HB9.out

end Go.Proofs.YtoboabkaojfbaaaGreatDoor
