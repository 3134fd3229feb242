import Derived.Test.YtoboabkaojfbaaaGreatDoorQ07
import Derived.Laws.CopyOwn
import Derived.StillTailTactics
import Derived.Deep.RegionHeld3
import Derived.IntWalk
import Derived.Deep.MidRow
namespace Go.Proofs.YtoboabkaojfbaaaGreatDoor
open Go Go.RowKit
set_option maxRecDepth 100000
set_option maxHeartbeats 1000000
set_option linter.unusedVariables false
set_option linter.unusedSimpArgs false

/-- A block of N bytes, the first t of them laid. -/
def fillA (l : List UInt8) (t N : Nat) : Array Value := ((l.take t ++ List.replicate (N - t) 0).map b8).toArray
theorem fillA_size (l : List UInt8) (t N : Nat) (h : t ≤ l.length) (hN : t ≤ N) : (fillA l t N).size = N := by
  simp [fillA]; omega
theorem fillA_set (l : List UInt8) (t N : Nat) (c : UInt8) (h : l[t]? = some c) (hN : t < N) : (fillA l t N).setIfInBounds t (b8 c) = fillA l (t + 1) N := by
  have hl := (List.getElem?_eq_some_iff.1 h).1
  have e1 : l.take (t + 1) = l.take t ++ [c] := by rw [List.take_add_one, h]; rfl
  have e2 : List.replicate (N - t) (0 : UInt8) = 0 :: List.replicate (N - (t + 1)) 0 := by
    rw [show N - t = (N - (t + 1)) + 1 by omega, List.replicate_succ]
  unfold fillA
  rw [e1, e2, List.setIfInBounds_toArray, List.map_append, List.set_append_right _ _ (by simp; omega), List.map_cons]
  simp [hl, Nat.min_eq_left (Nat.le_of_lt hl)]
theorem fillA_full (l : List UInt8) (N : Nat) (h : l.length = N) : fillA l N N = (l.map b8).toArray := by
  unfold fillA
  rw [List.take_of_length_le (by omega), Nat.sub_self, List.replicate_zero, List.append_nil]
/-- A digest's cells. -/
def dgA (d : List UInt8) : Array Value := (d.map b8).toArray
theorem dgA_size (d : List UInt8) : (dgA d).size = d.length := by simp [dgA]
theorem dgA_all (d : List UInt8) : (dgA d).all (·.oneCell') = true := all_oneCell_toArray (b8_one d)
theorem setCells_whole (g : Nat) : ∀ (vs pre post : List Value) (w : World) (ty : TypeId), w.heap[g]? = some (.cells (pre ++ post).toArray ty (0, 0)) → vs.length ≤ post.length → (w.setCells g pre.length vs).heap[g]? = some (.cells (pre ++ vs ++ post.drop vs.length).toArray ty (0, 0)) := by
  intro vs
  induction vs with
  | nil => intro pre post w ty h _; simpa [World.setCells] using h
  | cons v vs ih =>
    intro pre post w ty h hl
    cases post with
    | nil => simp at hl
    | cons p post =>
      have h1 := heap_setCell_same w g pre.length _ _ v h
      rw [List.setIfInBounds_toArray, List.set_append_right _ _ (Nat.le_refl _), Nat.sub_self, List.set_cons_zero] at h1
      have := ih (pre ++ [v]) post (w.setCell ⟨g, pre.length, none⟩ v) ty (by rw [h1]; simp) (by simpa using hl)
      rw [List.length_append] at this
      simpa [World.setCells] using this
theorem setCells_all {w : World} {g : Nat} {C : Array Value} {ty : TypeId} (h : w.heap[g]? = some (.cells C ty (0, 0))) (vs : List Value) (hl : vs.length = C.size) : (w.setCells g 0 vs).heap[g]? = some (.cells vs.toArray ty (0, 0)) := by
  have := setCells_whole g vs [] C.toList w ty (by simpa using h) (by simp [hl])
  rw [List.length_nil] at this
  rw [this]
  simp [hl]
theorem setCells_grown (g : Nat) : ∀ (vs : List Value) (o : Nat) (w : World), w.grownBy (w.setCells g o vs) (some g) := by
  intro vs
  induction vs with
  | nil => intro o w; exact grown_refl _ _
  | cons v vs ih => intro o w; exact grown_trans (grown_set (grown_refl w (some g)) 0 o v) (ih (o + 1) _)
theorem setCells_size (g : Nat) : ∀ (vs : List Value) (o : Nat) (w : World), (w.setCells g o vs).heap.size = w.heap.size := by
  intro vs
  induction vs with
  | nil => intro o w; rfl
  | cons v vs ih => intro o w; exact (ih (o + 1) _).trans (by simp)
theorem there_block {w : World} {g : Nat} {C : Array Value} {ty : TypeId} (h : w.heap[g]? = some (.cells C ty (0, 0))) : w.there g 0 C.size := fun j hj => by
  rw [cell_of_row _ _ _ _ _ _ h, Nat.zero_add, Array.getElem?_eq_getElem hj]
  exact ⟨rfl, frozen_of_row w g j _ _ h⟩
theorem hCells_size (m rs : List UInt8) (h : rs.length = 64) : (hCells m rs).size = 73 := by
  simp [hCells, stC, S8.list_len, tlH, h]
theorem hCells_one (m rs : List UInt8) : (hCells m rs).all (·.oneCell') = true := by
  unfold hCells stC tlH
  refine all_oneCell_toArray fun v hv => ?_
  rcases List.mem_append.1 hv with h | h
  · obtain ⟨x, -, rfl⟩ := List.mem_map.1 h; rfl
  · rcases List.mem_append.1 h with h | h
    · exact b8_one _ _ h
    · rw [List.mem_singleton.1 h]; rfl
theorem padL_at (n i : Nat) (h : i < 8) : (padL n)[gapK n + i]? = some (UInt8.ofNat (8 * n / 2 ^ (56 - 8 * i))) := by
  have hg := gapK_le n
  unfold padL
  rw [show gapK n + i = (gapK n - 1 + i) + 1 by omega, List.cons_append, List.getElem?_cons_succ, List.getElem?_append_right (by simp), List.length_replicate, show gapK n - 1 + i - (gapK n - 1) = i by omega]
  unfold be
  rw [List.getElem?_map, List.getElem?_range h]
  show some (UInt8.ofNat (8 * n / 2 ^ (8 * (8 - 1 - i)))) = _
  rw [show 8 * (8 - 1 - i) = 56 - 8 * i by omega]
theorem padL_start (n : Nat) : fillA [128] 1 128 = fillA (padL n) (gapK n) 128 := by
  have hg := gapK_le n
  unfold fillA
  have e : (padL n).take (gapK n) = 128 :: List.replicate (gapK n - 1) 0 := by
    unfold padL
    rw [List.cons_append, show gapK n = (gapK n - 1) + 1 by omega, List.take_succ_cons, Nat.add_sub_cancel, List.take_append_of_le_length (by simp), List.take_of_length_le (by simp)]
  rw [e]
  show ((((128 : UInt8) :: List.replicate 127 0)).map b8).toArray = _
  rw [List.cons_append, List.replicate_append_replicate, show gapK n - 1 + (128 - gapK n) = 127 by omega]
theorem bytes_at (s : S8) (i j : Nat) (hi : i < 8) (hj : j < 4) : s.bytes[4 * i + j]? = some (UInt8.ofNat ((s.list.getD i 0).toNat / 2 ^ (24 - 8 * j))) := by
  unfold S8.bytes
  have hb : ∀ x : UInt32, (be 4 x.toNat)[j]? = some (UInt8.ofNat (x.toNat / 2 ^ (24 - 8 * j))) := fun x => by
    unfold be
    rw [List.getElem?_map, List.getElem?_range hj]
    show some (UInt8.ofNat (x.toNat / 2 ^ (8 * (4 - 1 - j)))) = _
    rw [show 8 * (4 - 1 - j) = 24 - 8 * j by omega]
  obtain ⟨x, hx⟩ : ∃ x, s.list[i]? = some x := ⟨_, List.getElem?_eq_getElem (by rw [S8.list_len]; exact hi)⟩
  have := flat_get (fun x : UInt32 => (be 4 x.toNat).map b8) 4 (fun x => by simp [be_len]) s.list i x hx j (b8 (UInt8.ofNat (x.toNat / 2 ^ (24 - 8 * j)))) (by rw [List.getElem?_map, hb]; rfl)
  have hm : (s.list.flatMap fun x => (be 4 x.toNat).map b8) = (s.list.flatMap fun x => be 4 x.toNat).map b8 := by rw [List.map_flatMap]
  rw [hm, List.getElem?_map, Nat.mul_comm i 4] at this
  obtain ⟨c, hc, hcc⟩ := Option.map_eq_some_iff.1 this
  rw [hc, List.getD_eq_getElem?_getD, hx]
  have : c.toNat = (UInt8.ofNat (x.toNat / 2 ^ (24 - 8 * j))).toNat := by
    have := (Value.int.inj hcc).2
    omega
  rw [UInt8.toNat_inj.1 this]; rfl
end Go.Proofs.YtoboabkaojfbaaaGreatDoor
namespace Go.Proofs.YtoboabkaojfbaaaGreatDoor
open Go Go.RowKit
set_option maxRecDepth 100000
set_option maxHeartbeats 1000000
set_option linter.unusedVariables false
set_option linter.unusedSimpArgs false

theorem info332 : (Tryz.prog.info? 309).map (·.size) = some 73 := by kernel_rfl
theorem info38 : (Tryz.prog.info? 23).map (·.size) = some 32 := by kernel_rfl
theorem slice_end (wx : World) (g k : Nat) (hk : k ≤ 128) (x : Int) (hx : x = (k : Int)) : (Instr.sliceAt 310 (.pointer (some ⟨g, 0, none⟩)) none (some (.int .i64 x)) none).run Tryz.prog wx = .ok (.slice (some ⟨g, 0, none⟩) k 128) wx := by
  subst hx
  have ht : Tryz.prog.underlying 310 = some (.array (Tryz.prog.arrayLen 310) (Tryz.prog.elem 310)) := by kernel_rfl
  have hl : Tryz.prog.arrayLen 310 = 128 := by kernel_rfl
  have hs : (sizeOf (Tryz.prog.elem 310)).run Tryz.prog wx = .ok 1 wx := by kernel_rfl
  rw [run_sliceAt_array_h wx 310 ⟨g, 0, none⟩ ht .i64 (k : Int) (by omega) (by rw [hl]; omega), hs, hl]
  simp [Result.andThen, slicedAt, Addr.add_lit]
theorem fillA_get (l : List UInt8) (t N i : Nat) (hi : i < t) (ht : t ≤ l.length) : (fillA l t N)[i]? = (l.map b8)[i]? := by
  unfold fillA
  rw [List.getElem?_toArray, List.getElem?_map, List.getElem?_append_left (by rw [List.length_take]; omega), List.getElem?_take, if_pos hi, List.getElem?_map]
theorem r8_fill {w : World} {g : Nat} {l : List UInt8} {t N : Nat} {ty : TypeId} (h : w.heap[g]? = some (.cells (fillA l t N) ty (0, 0))) (hl : l.length = t) (hN : t ≤ N) (ht : t ≤ 281474976710656) : R8 w (some ⟨g, 0, none⟩) t N l := by
  refine ⟨hl, hN, ht, fun i hi => ⟨g, 0, rfl, ?_⟩⟩
  rw [cell_of_row _ _ _ _ _ _ h, Nat.zero_add, fillA_get l t N i (by omega) (by omega), List.getElem?_map, List.getElem?_eq_getElem hi]
  rfl
theorem idx8s (R : S8) : ∀ (i : Nat), i < 8 → ∀ w, (Instr.index 305 (.agg #[.int .u32 (R.a.toNat : Int), .int .u32 (R.b.toNat : Int), .int .u32 (R.c.toNat : Int), .int .u32 (R.d.toNat : Int), .int .u32 (R.e.toNat : Int), .int .u32 (R.f.toNat : Int), .int .u32 (R.g.toNat : Int), .int .u32 (R.h.toNat : Int)]) (.int .i64 (i : Int))).run Tryz.prog w = .ok (.int .u32 ((R.list.getD i 0).toNat : Int)) w
  | 0, _ => fun w => by kernel_rfl
  | 1, _ => fun w => by kernel_rfl
  | 2, _ => fun w => by kernel_rfl
  | 3, _ => fun w => by kernel_rfl
  | 4, _ => fun w => by kernel_rfl
  | 5, _ => fun w => by kernel_rfl
  | 6, _ => fun w => by kernel_rfl
  | 7, _ => fun w => by kernel_rfl
  | n + 8, h => by omega
set_option maxHeartbeats 16000000
theorem sum_any (w : World) (gh : Nat) (m : List UInt8) (hh : HsAt w gh m) (hm : m.length ≤ 1125899906842000) (ht : RoundTab w) (h3 : 1 < w.heap.size) :
    Calls Tryz.prog 163 #[.pointer (some ⟨gh, 0, none⟩)] w fun e w' => e = .returned (.agg (dgA (shaP m))) ∧ Below w.heap.size w w' := by
  obtain ⟨rs, h64, hrs, hbk⟩ := hh
  have hgl : gh < w.heap.size := (Array.getElem?_eq_some_iff.1 hbk).1
  obtain ⟨N, hN⟩ : ∃ N, N = m.length := ⟨_, rfl⟩
  obtain ⟨q, hq⟩ : ∃ q, q = N % 64 := ⟨_, rfl⟩
  have hNb : N ≤ 1125899906842000 := by omega
  have HN := Lib.hid hN
  have HQ := Lib.hid hq
  have H64 := Lib.hid h64
  have HRS := Lib.hid hrs
  have HT := Lib.hid ht
  obtain ⟨C, hC⟩ : ∃ C, C = hCells m rs := ⟨_, rfl⟩
  rw [← hC] at hbk
  have HC := Lib.hid hC
  have HCS := Lib.hid (show C.size = 73 by rw [hC]; exact hCells_size m rs h64)
  have HC1 := Lib.hid (show C.all (·.oneCell') = true by rw [hC]; exact hCells_one m rs)
  have HBK := Lib.hid hbk
  clear hN hq h64 hrs ht hC hbk hm
  go_enter Tryz.func163, Tryz.ntmps163
  go_upto_region 1 with (fail)
  obtain ⟨o1, ho1⟩ : ∃ o1 : Obj, o1 = .cells #[.int .u8 0, .int .u8 0, .int .u8 0, .int .u8 0, .int .u8 0, .int .u8 0, .int .u8 0, .int .u8 0, .int .u8 0, .int .u8 0, .int .u8 0, .int .u8 0, .int .u8 0, .int .u8 0, .int .u8 0, .int .u8 0, .int .u8 0, .int .u8 0, .int .u8 0, .int .u8 0, .int .u8 0, .int .u8 0, .int .u8 0, .int .u8 0, .int .u8 0, .int .u8 0, .int .u8 0, .int .u8 0, .int .u8 0, .int .u8 0, .int .u8 0, .int .u8 0] 23 := ⟨_, rfl⟩
  have hb1 : Below w.heap.size w (w.alloc o1) := (Below.refl _ _).alloc (Nat.le_refl _) _
  rw [← ho1]
  generalize hw1 : w.alloc o1 = w1 at *
  have hz1 : w1.heap.size = w.heap.size + 1 := by rw [← hw1]; simp
  have hg1 : w1.heap[w.heap.size]? = some o1 := by rw [← hw1]; exact heap_alloc_new w _
  have HBK1 := Lib.hid ((hb1.block gh hgl).trans HBK.out)
  have hg2 : (w1.alloc (.cells Tryz.zeroCells309 309)).heap[w1.heap.size]? = some (.cells Tryz.zeroCells309 309) := heap_alloc_new w1 _
  have HTH := Lib.hid (there_block hg2)
  have HZ := Lib.hid (show Tryz.zeroCells309.size = 73 by kernel_rfl)
  rw [HZ.out, ← HCS.out] at HTH
  have HG2 := Lib.hid (setCells_all hg2 C.toList (by rw [HZ.out, ← HCS.out]; rfl))
  have HO1 := Lib.hid ho1
  have HB1 := Lib.hid hb1; have HZ1 := Lib.hid hz1; have HG1 := Lib.hid hg1
  clear hw1 hb1 hz1 hg1 hg2 ho1
  go_upto_region 2 with (first
    | (refine wpList_load_row rfl 309 (.tmp 13) (by rfl) gh (by rfl) 309 C (0, 0) _ HBK1.out Tryz.underlying309 rfl (by rw [HCS.out]; exact info332) ?_)
    | (refine wpList_store_mid rfl 309 (.tmp 3) (.tmp 14) (by rfl) w1.heap.size 0 C (by rfl) (by rfl) HTH.out (by rw [HCS.out]; exact info332) HC1.out ?_))
  obtain ⟨g3, hg3⟩ : ∃ g3, g3 = w1.heap.size := ⟨_, rfl⟩
  obtain ⟨r0, hr0⟩ : ∃ r0, r0 = w.heap.size := ⟨_, rfl⟩
  rw [← hr0] at HZ1 HG1 HB1
  rw [← hg3] at HG2 HTH HZ1
  obtain ⟨w2, hw2⟩ : ∃ w2, w2 = (w1.alloc (.cells Tryz.zeroCells309 309)).setCells g3 0 C.toList := ⟨_, rfl⟩
  have hgr := setCells_grown g3 C.toList 0 (w1.alloc (.cells Tryz.zeroCells309 309))
  rw [← hg3, ← hr0, ← hw2]
  rw [← hw2] at HG2 hgr
  have hz2 : w2.heap.size = g3 + 1 := by rw [hw2, setCells_size, World.size_alloc, hg3]
  have hg31 : g3 = r0 + 1 := HZ1.out
  have hb2 : Below g3 w1 w2 := by
    have h1 : Below g3 w1 (w1.alloc (.cells Tryz.zeroCells309 309)) := (Below.refl _ _).alloc (by omega) _
    exact h1.grown hgr (by rw [World.size_alloc]; omega) (fun k hk => by rw [← Option.some.inj hk]; exact Nat.le_refl _)
  have HB2 := Lib.hid (HB1.out.trans (hb2.mono (show r0 ≤ g3 by omega)))
  have HO2 := Lib.hid ((hb2.block r0 (by omega)).trans HG1.out)
  have hG3 : w2.heap[g3]? = some (.cells C 309 (0, 0)) := by have := HG2.out; simpa using this
  have HG3 := Lib.hid hG3
  have HGH := Lib.hid ((hb2.block gh (by omega)).trans HBK1.out)
  have hC2 : C = stC (stOf m).list (tlH rs N) := by rw [HC.out, HN.out]; rfl
  have n3 : w2.cell? ⟨g3, 72, none⟩ = some (.int .u64 (N : Int)) := cell_n (S8.list_len _) H64.out (by rw [← hC2]; exact hG3)
  have nh : w2.cell? ⟨gh, 72, none⟩ = some (.int .u64 (N : Int)) := cell_n (S8.list_len _) H64.out (by rw [← hC2]; exact HGH.out)
  have hghz : gh < w2.heap.size := by omega
  have HLT := Lib.hid (show gh < g3 by omega)
  have HR0 := Lib.hid hr0; have HG31 := Lib.hid hg31; have HZ2 := Lib.hid hz2
  have HC2 := Lib.hid hC2
  have hw8 : IntKind.u64.wrap (8 * (N : Int)) = ((8 * N : Nat) : Int) := by
    simp [IntKind.wrap, IntKind.bits, IntKind.signed]; omega
  clear hgr hw2 hg3 hb2 hG3 hr0 hg31 hz2 hC2 HG1 HBK1 HTH HG2 HB1 HZ1
  go_wp2_with fail
  obtain ⟨e5, he5⟩ : ∃ e5, e5 = w2.heap.size := ⟨_, rfl⟩
  obtain ⟨w3, hw3⟩ : ∃ w3, w3 = w2.alloc (.cells (Tryz.zeroCells310.setIfInBounds 0 (.int .u8 128)) 310) := ⟨_, rfl⟩
  rw [← he5, ← hw3]
  have hz3 : w3.heap.size = e5 + 1 := by rw [hw3, World.size_alloc, he5]
  have hb3 : Below w2.heap.size w2 w3 := by rw [hw3]; exact (Below.refl _ _).alloc (Nat.le_refl _) _
  have hE : w3.heap[e5]? = some (.cells (fillA (padL N) (gapK N) 128) 310 (0, 0)) := by
    rw [hw3, he5, heap_alloc_new, ← padL_start]
    exact congrArg (fun c => some (Obj.cells c 310 (0, 0))) (by kernel_rfl)
  rw [← he5] at hb3
  have he51 : e5 = g3 + 1 := by have := HZ2.out; omega
  have HE := Lib.hid hE; have HE51 := Lib.hid he51; have HZ3 := Lib.hid hz3
  have HB3 := Lib.hid (HB2.out.trans (hb3.mono (by have := HG31.out; omega)))
  have HO3 := Lib.hid ((hb3.block r0 (by have := HG31.out; omega)).trans HO2.out)
  have HG3b := Lib.hid ((hb3.block g3 (by omega)).trans HG3.out)
  have HGH3 := Lib.hid ((hb3.block gh (by have := HLT.out; omega)).trans HGH.out)
  have nh3 : w3.cell? ⟨gh, 72, none⟩ = some (.int .u64 (N : Int)) := cell_n (S8.list_len _) H64.out (by rw [← HC2.out]; exact HGH3.out)
  have HNH3 := Lib.hid nh3
  obtain ⟨G, hG⟩ : ∃ G, G = gapK N := ⟨_, rfl⟩
  have hGl : 1 ≤ G ∧ G ≤ 64 := by rw [hG]; exact gapK_le N
  have HGI := Lib.hid (show (q + G) % 64 = 56 by rw [hG, HQ.out]; exact gapK_is N)
  have HGL := Lib.hid (show ∀ k, 1 ≤ k → k < G → (q + k) % 64 ≠ 56 from fun k h1 h2 => by rw [HQ.out]; exact gapK_least N k h1 (by rw [← hG]; exact h2))
  rw [← hG] at HE
  have HGG := Lib.hid hG
  have HG64 := Lib.hid hGl
  clear he5 hw3 hz3 hb3 hE he51 nh3 hG hGl n3 nh hghz HB2 HO2 HGH HG3 HBK hw8
  go_loop [6] (fun v => ∃ k : Nat, 1 ≤ k ∧ k ≤ G ∧ v = .int .i64 k) (fun v => G - (intOf v).toNat)
  case atStart => exact ⟨1, Nat.le_refl _, HG64.out.1, rfl⟩
  case round =>
    obtain ⟨k, hk1, hkG, rfl⟩ := hrel
    have hmod2 : ((N : Nat) : Int) % 64 = (q : Int) := by have := HQ.out; omega
    have hq64 : q < 64 := by have := HQ.out; omega
    have hk64 : k ≤ 64 := by have := HG64.out; omega
    obtain ⟨r, hr⟩ : ∃ r, r = (q + k) % 64 := ⟨_, rfl⟩
    have hr2 : ((q : Int) + (k : Int)) % 64 = (r : Int) := by omega
    have HR := Lib.hid hr
    have HK := Lib.hid (And.intro hk1 hkG)
    have nh3 := HNH3.out
    by_cases hlt : k < G
    · have h1 : (((r : Nat) : Int) == 56) = false := by have := HGL.out k hk1 hlt; simp; omega
      have h2 : (((r : Nat) : Int) != 56) = true := by have := HGL.out k hk1 hlt; simp; omega
      have HLT2 := Lib.hid hlt
      clear hr hlt hk1 hkG
      go_wp2_with fail
      go_round
      case rel => exact ⟨k + 1, by omega, HLT2.out, by go_num⟩
      case measure => have := HLT2.out; simp [intOf]; omega
    · obtain rfl : k = G := by omega
      have h1 : (((r : Nat) : Int) == 56) = true := by have := HGI.out; simp; omega
      have h2 : (((r : Nat) : Int) != 56) = false := by have := HGI.out; simp; omega
      clear hr hlt hk1 hkG
      go_wp2_with fail
      clear nh3 hmod2 hr2 h1 h2
      go_loopw [31, 7] (fun v _ wr => ∃ i : Nat, i ≤ 8 ∧ v = .int .i64 i ∧ wr.heap[e5]? = some (.cells (fillA (padL N) (k + i) 128) 310 (0, 0)) ∧ Below e5 w3 wr) (fun v _ _ => 8 - (intOf v).toNat)
      case atStart => exact ⟨0, by omega, rfl, HE.out, Below.refl _ _⟩
      case round =>
        obtain ⟨i, hi8, rfl, hh, hb⟩ := hrel
        have HH := Lib.hid hh
        have HB := Lib.hid hb
        by_cases hlt : i < 8
        · obtain ⟨p, hp⟩ : ∃ p, p = k + i := ⟨_, rfl⟩
          obtain ⟨s, hs⟩ : ∃ s, s = 56 - 8 * i := ⟨_, rfl⟩
          have hki : (k : Int) + (i : Int) = (p : Int) := by omega
          have hs1 : 56 - 8 * (i : Int) = (s : Int) := by omega
          have hat := padL_at N i hlt
          rw [← HGG.out, ← hp, ← hs] at hat
          obtain ⟨c, hc⟩ : ∃ c, c = UInt8.ofNat (8 * N / 2 ^ s) := ⟨_, rfl⟩
          rw [← hc] at hat
          have hwb : IntKind.u8.wrap (8 * (N : Int) / 2 ^ s) = ((c.toNat : Nat) : Int) := by
            rw [hc]; have := wrap_byte (8 * N) s; push_cast at this ⊢; exact this
          rw [← hp] at hh
          have hsz : (fillA (padL N) p 128).size = 128 := fillA_size _ _ _ (by rw [padL_len, ← HGG.out]; omega) (by omega)
          have hce : ∃ v, wr.cell? ⟨e5, p, none⟩ = some v := ⟨_, (cell_of_row wr e5 p _ _ _ hh).trans (Array.getElem?_eq_getElem (by rw [hsz]; omega))⟩
          obtain ⟨v0, hv0⟩ := hce
          have hf0 := frozen_of_row wr e5 p _ _ hh
          have HSET := Lib.hid (fillA_set (padL N) p 128 c hat (by omega))
          have HS := Lib.hid hh
          have HP := Lib.hid hp
          have HLT3 := Lib.hid hlt
          have hp128 : p < 128 := by omega
          have hs56 : s ≤ 56 := by omega
          have hp0 : (0 : Int) ≤ (s : Int) := by omega
          have h9 : decide ((i : Int) < 8) = true := by simp; omega
          clear hat hc hh hb hs hsz hp hi8 hlt
          go_upto_region 11 with (fail)
          clear h9
          go_wp2_with fail
          have hs6 := heap_setCell_same wr e5 p _ _ (b8 c) HS.out
          rw [HSET.out] at hs6
          have HS6 := Lib.hid hs6
          clear hs6 hv0 hf0 hwb
          go_roundw
          case rel => exact ⟨i + 1, by have := HLT3.out; omega, by go_num, (by rw [show k + (i + 1) = p + 1 by have := HP.out; omega]; exact HS6.out), HB.out.setCell (Nat.le_refl _) _⟩
          case measure => have := HLT3.out; simp [intOf]; omega
        · obtain rfl : i = 8 := by omega
          have h9 : decide (((8 : Nat) : Int) < 8) = false := by decide
          have hk8 : ((k : Int) + 8).toNat = k + 8 := by omega
          have hpl : (padL N).length = k + 8 := by rw [padL_len, ← HGG.out]
          have hsl := fun wx => slice_end wx e5 (k + 8) (by omega) ((k : Int) + 8) (by push_cast; rfl)
          have hM : HsAt wr g3 m := ⟨rs, H64.out, HRS.out, by rw [hb.block g3 (by have := HE51.out; omega), HG3b.out, HC.out]⟩
          have hne3 : g3 ≠ 1 := by have := HG31.out; have := HR0.out; omega
          have hsz3 : 1 < wr.heap.size := by have := hb.size; have := HZ3.out; have := HE51.out; have := HG31.out; have := HR0.out; omega
          have hrt : RoundTab wr := fun i hi => by
            rw [hb.cell (p := ⟨1, i, none⟩) (by show 1 < e5; have := HE51.out; have := HG31.out; have := HR0.out; omega), HB3.out.cell (p := ⟨1, i, none⟩) (by show 1 < r0; have := HR0.out; omega)]
            exact HT.out i hi
          have HWR := Lib.hid (write_any wr g3 (some ⟨e5, 0, none⟩) (k + 8) 128 m (padL N) hM (r8_fill hh hpl (by omega) (by omega)) (fun x hx _ => by obtain rfl := Option.some.inj hx; show g3 ≠ e5; have := HE51.out; omega) (by have := HN.out; omega) hrt hsz3 hne3)
          have HBW := Lib.hid hb
          clear hlt hi8 hh hb HH HB hM hrt hpl hne3 hsz3
          go_upto_region 15 with ((go_at_call 162; (with_reducible refine HWR.out.mono ?_); rintro e w5 ⟨rfl, hw5, hg5⟩))
          have HW5 := Lib.hid hw5
          have HG5 := Lib.hid hg5
          clear hw5 hg5
          obtain ⟨d8, hd8⟩ : ∃ d8, d8 = w5.heap.size := ⟨_, rfl⟩
          obtain ⟨o8, ho8⟩ : ∃ o8 : Obj, o8 = .cells #[.int .u8 0, .int .u8 0, .int .u8 0, .int .u8 0, .int .u8 0, .int .u8 0, .int .u8 0, .int .u8 0, .int .u8 0, .int .u8 0, .int .u8 0, .int .u8 0, .int .u8 0, .int .u8 0, .int .u8 0, .int .u8 0, .int .u8 0, .int .u8 0, .int .u8 0, .int .u8 0, .int .u8 0, .int .u8 0, .int .u8 0, .int .u8 0, .int .u8 0, .int .u8 0, .int .u8 0, .int .u8 0, .int .u8 0, .int .u8 0, .int .u8 0, .int .u8 0] 23 := ⟨_, rfl⟩
          rw [← ho8, ← hd8]
          have hb6 : Below w5.heap.size w5 (w5.alloc o8) := (Below.refl _ _).alloc (Nat.le_refl _) _
          have hg6 : (w5.alloc o8).heap[d8]? = some o8 := by rw [hd8]; exact heap_alloc_new w5 _
          rw [← hd8] at hb6
          generalize hw6 : w5.alloc o8 = w6 at *
          have hd8l : e5 < d8 := by have := HG5.out.size; have := HBW.out.size; have := HZ3.out; omega
          obtain ⟨S, hS⟩ : ∃ S, S = stOf (m ++ padL N) := ⟨_, rfl⟩
          have hsha : shaP m = S.bytes := by unfold shaP; rw [hS, HN.out]
          obtain ⟨rs6, h646, -, hbk6⟩ := HW5.out
          have hbk6 : w6.heap[g3]? = some (.cells (stC S.list (tlH rs6 (m ++ padL N).length)) 309 (0, 0)) := by rw [hb6.block g3 (by have := HE51.out; omega), hbk6, hS]; rfl
          have hcc : ∀ i, i < 8 → w6.cell? ⟨g3, i, none⟩ = some (.int .u32 ((S.list.getD i 0).toNat : Int)) := fun i hi => by
            rw [cell_of_row _ _ _ _ _ _ hbk6, stC_get _ _ _ (by rw [S8.list_len]; exact hi)]; rfl
          have c0 : w6.cell? ⟨g3, 0, none⟩ = some (.int .u32 (S.a.toNat : Int)) := hcc 0 (by omega)
          have c1 : w6.cell? ⟨g3, 1, none⟩ = some (.int .u32 (S.b.toNat : Int)) := hcc 1 (by omega)
          have c2 : w6.cell? ⟨g3, 2, none⟩ = some (.int .u32 (S.c.toNat : Int)) := hcc 2 (by omega)
          have c3 : w6.cell? ⟨g3, 3, none⟩ = some (.int .u32 (S.d.toNat : Int)) := hcc 3 (by omega)
          have c4 : w6.cell? ⟨g3, 4, none⟩ = some (.int .u32 (S.e.toNat : Int)) := hcc 4 (by omega)
          have c5 : w6.cell? ⟨g3, 5, none⟩ = some (.int .u32 (S.f.toNat : Int)) := hcc 5 (by omega)
          have c6 : w6.cell? ⟨g3, 6, none⟩ = some (.int .u32 (S.g.toNat : Int)) := hcc 6 (by omega)
          have c7 : w6.cell? ⟨g3, 7, none⟩ = some (.int .u32 (S.h.toNat : Int)) := hcc 7 (by omega)
          have HB6 := Lib.hid (HB3.out.trans (show Below r0 w3 w6 from (HBW.out.mono (by have := HE51.out; have := HG31.out; omega)).trans (((Below.refl r0 wr).grown HG5.out (by have := HBW.out.size; have := HZ3.out; have := HE51.out; have := HG31.out; omega) (fun k hk => by rw [← Option.some.inj hk]; have := HG31.out; omega)).trans (hb6.mono (by have := HE51.out; have := HG31.out; omega)))))
          have HO6 := Lib.hid (show w6.heap[r0]? = some o1 from (hb6.block r0 (by have := HE51.out; have := HG31.out; omega)).trans ((HG5.out.block r0 (by have := HBW.out.size; have := HZ3.out; have := HE51.out; have := HG31.out; omega) (fun e => by have := Option.some.inj e; have := HG31.out; omega)).trans ((HBW.out.block r0 (by have := HE51.out; have := HG31.out; omega)).trans HO3.out)))
          have HG6 := Lib.hid (show w6.heap[d8]? = some (.cells (fillA S.bytes 0 32) 23 (0, 0)) by rw [hg6, ho8]; exact congrArg (fun c => some (Obj.cells c 23 (0, 0))) (by unfold fillA; rfl))
          have HS := Lib.hid hsha
          have HIX := Lib.hid (idx8s S)
          have HD8 := Lib.hid hd8l
          have HZ6 := Lib.hid (show w6.heap.size = d8 + 1 by rw [← hw6, World.size_alloc, hd8])
          clear hd8 ho8 hb6 hg6 hw6 hd8l hS hsha hbk6 hcc h646 hsl hk8 h9
          go_wp2_with fail
          go_loopw [51, 9, 10] (fun v _ _ wr => ∃ i : Nat, i ≤ 8 ∧ v = .int .i64 i ∧ wr.heap[d8]? = some (.cells (fillA S.bytes (4 * i) 32) 23 (0, 0)) ∧ Below d8 w6 wr) (fun v _ _ _ => 8 - (intOf v).toNat)
          case atStart => exact ⟨0, by omega, rfl, HG6.out, Below.refl _ _⟩
          case round =>
            clear c0 c1 c2 c3 c4 c5 c6 c7
            rename World => wo
            obtain ⟨i, hi8, rfl, hh, hb⟩ := hrel
            by_cases hlt : i < 8
            · have hix := HIX.out i hlt
              obtain ⟨x, hx⟩ : ∃ x, x = S.list.getD i 0 := ⟨_, rfl⟩
              rw [← hx] at hix
              have HX := Lib.hid hx
              have HH := Lib.hid hh
              have HB := Lib.hid hb
              have HL := Lib.hid hlt
              have h9 : decide ((i : Int) < 8) = true := by simp; omega
              clear hlt hi8 hh hb hx
              go_wp2_with fail
              clear h9 hix
              go_loopw [55, 11] (fun v _ wr => ∃ j : Nat, j ≤ 4 ∧ v = .int .i64 j ∧ wr.heap[d8]? = some (.cells (fillA S.bytes (4 * i + j) 32) 23 (0, 0)) ∧ Below d8 w6 wr) (fun v _ _ => 4 - (intOf v).toNat)
              case atStart => exact ⟨0, by omega, rfl, HH.out, HB.out⟩
              case round =>
                obtain ⟨j, hj4, rfl, hh, hb⟩ := hrel
                by_cases hlt : j < 4
                · have hi := HL.out
                  obtain ⟨p, hp⟩ : ∃ p, p = 4 * i + j := ⟨_, rfl⟩
                  obtain ⟨s, hs⟩ : ∃ s, s = 24 - 8 * j := ⟨_, rfl⟩
                  have hki : 4 * (i : Int) + (j : Int) = (p : Int) := by omega
                  have hs1 : 24 - 8 * (j : Int) = (s : Int) := by omega
                  have hat := bytes_at S i j hi hlt
                  rw [← HX.out, ← hp, ← hs] at hat
                  obtain ⟨c, hc⟩ : ∃ c, c = UInt8.ofNat (x.toNat / 2 ^ s) := ⟨_, rfl⟩
                  rw [← hc] at hat
                  have hwb : IntKind.u8.wrap ((x.toNat : Int) / 2 ^ s) = ((c.toNat : Nat) : Int) := by
                    rw [hc]; exact wrap_byte x.toNat s
                  rw [← hp] at hh
                  have hsz : (fillA S.bytes p 32).size = 32 := fillA_size _ _ _ (by rw [S8.bytes_len]; omega) (by omega)
                  obtain ⟨v0, hv0⟩ : ∃ v, wr.cell? ⟨d8, p, none⟩ = some v := ⟨_, (cell_of_row wr d8 p _ _ _ hh).trans (Array.getElem?_eq_getElem (by rw [hsz]; omega))⟩
                  have hf0 := frozen_of_row wr d8 p _ _ hh
                  have HSET := Lib.hid (fillA_set S.bytes p 32 c hat (by omega))
                  have HS8 := Lib.hid hh
                  have HB8 := Lib.hid hb
                  have HP := Lib.hid hp
                  have HLT3 := Lib.hid hlt
                  have hp128 : p < 32 := by omega
                  have hs56 : s ≤ 24 := by omega
                  have hp0 : (0 : Int) ≤ (s : Int) := by omega
                  have h9 : decide ((j : Int) < 4) = true := by simp; omega
                  have hi7 : i ≤ 7 := by omega
                  clear hat hc hh hb hs hsz hp hj4 hlt hi
                  go_upto_region 21 with (fail)
                  clear h9
                  go_wp2_with fail
                  have hs6 := heap_setCell_same wr d8 p _ _ (b8 c) HS8.out
                  rw [HSET.out] at hs6
                  have HS9 := Lib.hid hs6
                  clear hs6 hv0 hf0 hwb
                  go_roundw
                  case rel => exact ⟨j + 1, by have := HLT3.out; omega, by go_num, (by rw [show 4 * i + (j + 1) = p + 1 by have := HP.out; omega]; exact HS9.out), HB8.out.setCell (Nat.le_refl _) _⟩
                  case measure => have := HLT3.out; simp [intOf]; omega
                · obtain rfl : j = 4 := by omega
                  have h9 : decide (((4 : Nat) : Int) < 4) = false := by decide
                  have HH2 := Lib.hid hh
                  have HB2b := Lib.hid hb
                  have hi7 : i ≤ 7 := by have := HL.out; omega
                  clear hlt hj4 hh hb
                  go_wp2_with fail
                  go_roundw
                  case rel => exact ⟨i + 1, by omega, by go_num, (by rw [show 4 * (i + 1) = 4 * i + 4 by omega]; exact HH2.out), HB2b.out⟩
                  case measure => simp [intOf]; omega
            · obtain rfl : i = 8 := by omega
              have h9 : decide (((8 : Nat) : Int) < 8) = false := by decide
              rw [show 4 * 8 = 32 from rfl, fillA_full _ _ (S8.bytes_len S)] at hh
              have hh : wo.heap[d8]? = some (.cells (dgA S.bytes) 23 (0, 0)) := hh
              have HH := Lib.hid hh
              have HB := Lib.hid hb
              have hO := (hb.block r0 (by have := HD8.out; have := HE51.out; have := HG31.out; omega)).trans HO6.out
              rw [HO1.out] at hO
              have HTH := Lib.hid (there_block hO)
              have HDS := Lib.hid (show (dgA S.bytes).size = 32 by rw [dgA_size, S8.bytes_len])
              have HGF := Lib.hid (setCells_all hO (dgA S.bytes).toList (by rw [Array.length_toList, HDS.out]; rfl))
              clear hlt hi8 hh hb hO
              go_upto_region 24 with (fail)
              clear h9
              refine wp_region_lit ?_
              refine wpList_load_row rfl 23 (.tmp 8) (by rfl) d8 (by rfl) 23 (dgA S.bytes) (0, 0) _ HH.out Tryz.underlying23 rfl (by rw [HDS.out]; exact info38) ?_
              refine wpList_store_mid rfl 23 (.tmp 2) (.tmp 71) (by rfl) r0 0 (dgA S.bytes) (by rfl) (by rfl) (by rw [HDS.out]; exact HTH.out) (by rw [HDS.out]; exact info38) (dgA_all _) ?_
              have HB9 := Lib.hid (HB6.out.trans ((HB.out.mono (by have := HD8.out; have := HE51.out; have := HG31.out; omega)).grown (setCells_grown r0 (dgA S.bytes).toList 0 wo) (by have := HB.out.size; have := HZ6.out; have := HD8.out; have := HE51.out; have := HG31.out; omega) (fun k hk => by rw [← Option.some.inj hk]; exact Nat.le_refl _)))
              generalize wo.setCells r0 0 (dgA S.bytes).toList = w9 at *
              obtain ⟨DD, hDD⟩ : ∃ DD, DD = dgA S.bytes := ⟨_, rfl⟩
              have hGF : w9.heap[r0]? = some (.cells DD 23 (0, 0)) := by rw [hDD]; have := HGF.out; simpa using this
              have HGF9 := Lib.hid hGF
              have HDD := Lib.hid hDD
              rw [← hDD]
              rw [← hDD] at HDS
              clear HTH HGF HH hGF hDD
              go_wp2_with fail
              refine bodyPost_ret (v := .agg DD) (results_cell_row (p := 2) (ty := 23) rfl _ _ r0 23 DD (0, 0) _ rfl HGF9.out Tryz.underlying23 rfl (by rw [HDS.out]; exact info38)) rfl ⟨by rw [HS.out, HDD.out], ?_⟩
              rw [← HR0.out]
              exact HB9.out
end Go.Proofs.YtoboabkaojfbaaaGreatDoor
