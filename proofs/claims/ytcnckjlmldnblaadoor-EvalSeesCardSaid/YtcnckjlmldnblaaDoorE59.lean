import Derived.Test.YtcnckjlmldnblaaDoorE58
import Derived.Test.YtcnckjlmldnblaaDoorE55
import Derived.BigGuardPart
namespace Go.Proofs.YtcnckjlmldnblaaDoor
open Go Go.RowKit
set_option linter.unusedVariables false
set_option linter.unusedSimpArgs false
theorem new_bc' (w : World) (k : Bc) (j : Nat) (u : Value) (h : (Bc.cs k)[j]? = some u) : (w.alloc (.cells #[.string k.nm, .int .i64 k.v.x.k, .int .i64 k.v.x.n, .string k.v.x.t, .slice k.v.a k.v.l k.v.c] 43)).cell? ((⟨w.heap.size, 0, none⟩ : Addr).add j) = some u := by
  rw [Addr.add_lit, cell_of_row _ _ _ _ _ _ (heap_alloc_new w _), Nat.zero_add]
  simpa [Bc.cs] using h
theorem heap_five {w1 : World} {g : Nat} {z0 z1 z2 z3 z4 : Value} {t : TypeId} (h : w1.heap[g]? = some (.cells #[z0, z1, z2, z3, z4] t (0, 0))) (x0 x1 x2 x3 x4 : Value) :
    (((((w1.setCell ⟨g, 0, none⟩ x0).setCell ⟨g, 1, none⟩ x1).setCell ⟨g, 2, none⟩ x2).setCell ⟨g, 3, none⟩ x3).setCell ⟨g, 4, none⟩ x4).heap[g]? = some (.cells #[x0, x1, x2, x3, x4] t (0, 0)) := by
  have h0 := heap_setCell_same w1 g 0 _ _ x0 h
  have h1 := heap_setCell_same _ g 1 _ _ x1 h0
  have h2 := heap_setCell_same _ g 2 _ _ x2 h1
  have h3 := heap_setCell_same _ g 3 _ _ x3 h2
  exact heap_setCell_same _ g 4 _ _ x4 h3
/-- What the law's only makes of a view. -/
structure OnlyO (w' : World) (p p' : Pd) (A B C : List ByteArray) : Prop where
  ok : VwArg w' p'
  b : p'.bs = p.bs.map (onlyB A)
  o : p'.os = p.os.filter (inSS B)
  r : p'.rs = p.rs.filter (inSS C)
  k : p'.clock = p.clock
  s : p'.steps = p.steps
  n : p'.vl ≤ 300 ∧ p'.ol ≤ 300 ∧ p'.rl ≤ 300
theorem filt_take_len (f : ByteArray → Bool) (l : List ByteArray) (k : Nat) : ((l.take k).filter f).length ≤ k := Nat.le_trans (List.length_filter_le _ _) (List.length_take_le _ _)
theorem own5 {W : World} {G h e s n : Nat} {v : Value} {xs : List Value} (ho : W.ownsRow G e s v n xs) (hh : h < G) (x0 x1 x2 x3 x4 : Value) : (((((W.setCell ⟨h, 0, none⟩ x0).setCell ⟨h, 1, none⟩ x1).setCell ⟨h, 2, none⟩ x2).setCell ⟨h, 3, none⟩ x3).setCell ⟨h, 4, none⟩ x4).ownsRow G e s v n xs := by
  have ne : ∀ {W : World}, W.ownsRow G e s v n xs → v.ownBlock ≠ some h := fun ho e => by have := (ho.lt h e).1; omega
  have h0 := ownsRow_setCell_other (a := ⟨h, 0, none⟩) ho (ne ho) x0
  have h1 := ownsRow_setCell_other (a := ⟨h, 1, none⟩) h0 (ne h0) x1
  have h2 := ownsRow_setCell_other (a := ⟨h, 2, none⟩) h1 (ne h1) x2
  have h3 := ownsRow_setCell_other (a := ⟨h, 3, none⟩) h2 (ne h2) x3
  exact ownsRow_setCell_other (a := ⟨h, 4, none⟩) h3 (ne h3) x4
theorem ret35 {tmps : Array Value} {w1 : World} {g : Nat} {z0 z1 z2 z3 z4 x0 x1 x2 x3 x4 : Value} (hg : w1.heap[g]? = some (.cells #[z0, z1, z2, z3, z4] 35 (0, 0))) {R : Ending → World → Prop} (hp : tmps.getD 8 undef = .pointer (some ⟨g, 0, none⟩))
    (hR : R (.returned (.agg #[x0, x1, x2, x3, x4])) (((((w1.setCell ⟨g, 0, none⟩ x0).setCell ⟨g, 1, none⟩ x1).setCell ⟨g, 2, none⟩ x2).setCell ⟨g, 3, none⟩ x3).setCell ⟨g, 4, none⟩ x4)) :
    bodyPost Tryd.prog Tryd.f25 R .ret { tmps := tmps, defers := [] } (((((w1.setCell ⟨g, 0, none⟩ x0).setCell ⟨g, 1, none⟩ x1).setCell ⟨g, 2, none⟩ x2).setCell ⟨g, 3, none⟩ x3).setCell ⟨g, 4, none⟩ x4) :=
  bodyPost_ret (results_cell_row (fn := Tryd.f25) rfl tmps _ g 35 #[x0, x1, x2, x3, x4] (0, 0) _ hp (heap_five hg x0 x1 x2 x3 x4) Tryd.underlying35 rfl (by kernel_rfl)) rfl hR
theorem only_end {w2 W : World} {p : Pd} {G : Nat} {A B C : List ByteArray} {v1 v2 v3 : Value} (hp : VwArg w2 p) (h1 : p.bs.length = p.vl) (h2 : p.os.length = p.ol) (h3 : p.rs.length = p.rl) (hv : p.vl ≤ 300) (ho : p.ol ≤ 300) (hr : p.rl ≤ 300)
    (ha : W.ownsRow G 43 5 v1 (p.bs.map (onlyB A)).length ((p.bs.map (onlyB A)).flatMap Bc.cs)) (hbb : W.ownsRow G 9 1 v2 (p.os.filter (inSS B)).length ((p.os.filter (inSS B)).flatMap Sv)) (hc : W.ownsRow G 9 1 v3 (p.rs.filter (inSS C)).length ((p.rs.filter (inSS C)).flatMap Sv)) (hb : Below w2.heap.size w2 W) :
    ∃ p' : Pd, p'.cs = #[v1, v2, v3, .int .i64 p.clock, .int .i64 p.steps] ∧ OnlyO W p p' A B C := by
  have n1 : (p.bs.map (onlyB A)).length = p.vl := by rw [List.length_map]; exact h1
  have n2 : (p.os.filter (inSS B)).length ≤ p.ol := by rw [← h2]; exact List.length_filter_le _ _
  have n3 : (p.rs.filter (inSS C)).length ≤ p.rl := by rw [← h3]; exact List.length_filter_le _ _
  obtain ⟨a1, c1, rfl, -⟩ := owns_shape ha
  obtain ⟨a2, c2, rfl, z2⟩ := own_rz hbb (by omega)
  obtain ⟨a3, c3, rfl, z3⟩ := own_rz hc (by omega)
  have hrs : RS 5 Bc.cs W a1 (p.bs.map (onlyB A)).length c1 (p.bs.map (onlyB A)) := RS.of_owns ha (by decide) Bc_len (by omega)
  refine ⟨⟨a1, _, c1, p.bs.map (onlyB A), a2, _, c2, p.os.filter (inSS B), a3, _, c3, p.rs.filter (inSS C), p.clock, p.steps⟩, rfl, ⟨⟨hrs, own_nil0 ha, z2, z3, fun b hb' => ?_, ⟨by show (p.bs.map (onlyB A)).length ≤ _; omega, by show (p.os.filter (inSS B)).length ≤ _; omega, by show (p.rs.filter (inSS C)).length ≤ _; omega⟩, hp.c, hp.s⟩, rfl, rfl, rfl, rfl, rfl, ⟨by show (p.bs.map (onlyB A)).length ≤ _; omega, by show (p.os.filter (inSS B)).length ≤ _; omega, by show (p.rs.filter (inSS C)).length ≤ _; omega⟩⟩⟩
  obtain ⟨b0, hb0, rfl⟩ := List.mem_map.1 hb'
  unfold onlyB
  split
  · exact ⟨(hp.b b0 hb0).1.below hb, (hp.b b0 hb0).2⟩
  · exact ⟨⟨rs_nil1 _, fun _ => rfl⟩, (show I64 0 from ⟨by decide, by decide⟩), by show 0 ≤ 8796093022208; omega⟩
set_option maxRecDepth 100000 in
set_option maxHeartbeats 8000000 in
theorem only_any (w : World) (p : Pd) (hp : VwArg w p) (hl : p.vl ≤ 300 ∧ p.ol ≤ 300 ∧ p.rl ≤ 300) (aa : Option Addr) (na ca : Nat) (A : List ByteArray) (hA : RS 1 Sv w aa na ca A) (ab : Option Addr) (nb' cb : Nat) (B : List ByteArray) (hB : RS 1 Sv w ab nb' cb B) (ac : Option Addr) (nc' cc : Nat) (C : List ByteArray) (hC : RS 1 Sv w ac nc' cc C) :
    Calls Tryd.prog 25 #[.agg p.cs, .slice aa na ca, .slice ab nb' cb, .slice ac nc' cc] w fun e w' => (∃ p' : Pd, e = .returned (.agg p'.cs) ∧ OnlyO w' p p' A B C) ∧ Below w.heap.size w w' := by
  obtain ⟨w2, hw2⟩ : ∃ w2, w2 = (w.alloc (boxW35 p)).alloc (.cells #[.slice none 0 0, .slice none 0 0, .slice none 0 0, .int .i64 0, .int .i64 0] 35) := ⟨_, rfl⟩
  have g0 : w2.heap[w.heap.size]? = some (boxW35 p) := by rw [hw2]; exact heap_alloc2_old w _ _
  have g1 : w2.heap[w.heap.size + 1]? = some (.cells #[.slice none 0 0, .slice none 0 0, .slice none 0 0, .int .i64 0, .int .i64 0] 35 (0, 0)) := by rw [hw2]; exact heap_alloc2_new w _ _
  have hb2 : Below w.heap.size w w2 := by rw [hw2]; exact bel2 _ _ _
  have z2 : w2.heap.size = w.heap.size + 2 := by rw [hw2]; simp
  have hvl := hl.1
  have hol := hl.2.1
  have hrl := hl.2.2
  have HP := Lib.hid (hp.below hb2)
  have HPW := Lib.hid hp
  have HPL := Lib.hid hp.v.1
  have HOL := Lib.hid hp.o.rs.1
  have HRL := Lib.hid hp.r.rs.1
  have HA := Lib.hid (hA.below hb2)
  have HB := Lib.hid (hB.below hb2)
  have HC := Lib.hid (hC.below hb2)
  have HB2 := Lib.hid hb2
  have G0 := Lib.hid g0
  have G1 := Lib.hid g1
  have p3 := cell_of_row w2 _ 3 _ _ _ g0
  have p4 := cell_of_row w2 _ 4 _ _ _ g0
  simp only [List.getElem?_toArray, List.getElem?_cons_zero, List.getElem?_cons_succ] at p3 p4
  obtain ⟨G, hG⟩ : ∃ G, G = w2.heap.size := ⟨_, rfl⟩
  have hGw : w.heap.size + 1 < G := by omega
  have HG := Lib.hid hG
  clear hp hl hA hB hC g0 g1 hb2 z2
  go_enter Tryd.func25, Tryd.ntmps25
  go_upto_region 1 with (fail)
  rw [← hw2]
  clear hw2
  go_upto_region 2 with (fail)
  obtain ⟨w3, hw3⟩ : ∃ w3, w3 = w2.alloc (.cells #[.slice none 0 0, .slice none 0 0, .slice none 0 0, .int .i64 p.clock, .int .i64 p.steps] 35) := ⟨_, rfl⟩
  have h3 : OnW w2 w3 G [] [] [] (.slice none 0 0) (.slice none 0 0) (.slice none 0 0) p.clock p.steps := by
    refine ⟨?_, World.ownsRow_nil _ _ _ _, World.ownsRow_nil _ _ _ _, World.ownsRow_nil _ _ _ _, .inl rfl, .inl rfl, ?_⟩
    · rw [hw3, hG]; exact heap_alloc_new w2 _
    · rw [hw3, hG]; exact bel1 _ _
  rw [← hw3, ← hG]
  have H3 := Lib.hid h3
  clear hw3 h3 hG p3 p4
  go_wp2_with fail
  go_loopw [10] (fun i wr => ∃ (k : Nat) (v1 : Value), k ≤ p.vl ∧ i = .int .i64 k ∧ OnW w2 wr G ((p.bs.take k).map (onlyB A)) [] [] v1 (.slice none 0 0) (.slice none 0 0) p.clock p.steps) (fun i _ => p.vl - (intOf i).toNat)
  case atStart => exact ⟨0, _, by omega, rfl, H3.out⟩
  case round =>
    obtain ⟨k, v1, hk, rfl, ho⟩ := hrel
    have HO := Lib.hid ho
    have hbl := ho.bl
    have HBL := Lib.hid hbl
    have HLEN := Lib.hid (show ((p.bs.take k).map (onlyB A)).length = k by simp; have := HPL.out; omega)
    have x0 := cell_of_row wr _ 0 _ _ _ ho.g
    have x1 := cell_of_row wr _ 1 _ _ _ ho.g
    have x2 := cell_of_row wr _ 2 _ _ _ ho.g
    have hP := (hbl.block w.heap.size (by omega)).trans G0.out
    have q0 := cell_of_row wr _ 0 _ _ _ hP
    simp only [List.getElem?_toArray, List.getElem?_cons_zero, List.getElem?_cons_succ] at q0 x0 x1 x2
    have HGR := Lib.hid (show G < wr.heap.size from (Array.getElem?_eq_some_iff.1 ho.g).1)
    have hbw : Below w2.heap.size w2 wr := by rw [← HG.out]; exact hbl
    have HBW := Lib.hid hbw
    clear ho hbl hP hbw
    by_cases hlt : k < p.vl
    · have hltI : (k : Int) < (p.vl : Int) := by omega
      obtain ⟨nb, no, nd, he, hnd, hcl0⟩ := HP.out.v.at hlt
      have hcl := fun j v hv => (HBW.out.cell (p := ⟨nb, no + k * 5 + j, none⟩) (block_lt_of_cell (hcl0 j v hv))).trans (hcl0 j v hv)
      have n0 := hcl 0 _ rfl
      have n1 := hcl 1 _ rfl
      have n2 := hcl 2 _ rfl
      have n3 := hcl 3 _ rfl
      have n4 := hcl 4 _ rfl
      simp only [Nat.add_zero] at n0
      rw [he] at q0
      have hgr : G < wr.heap.size := HGR.out
      have hpr : w.heap.size < wr.heap.size := by omega
      have hnbr : nb < wr.heap.size := block_lt_of_cell n0
      have HSN := Lib.hid (show (p.bs.take (k + 1)).map (onlyB A) = (p.bs.take k).map (onlyB A) ++ [onlyB A nd] by rw [List.take_add_one, hnd]; simp)
      have HAR := Lib.hid (HA.out.below HBW.out)
      have HK1 := Lib.hid (show (k + 1) * 72 ≤ 140737488355328 by omega)
      have HK2 := Lib.hid (show k + 1 ≤ maxLen by simp [maxLen]; omega)
      clear hcl hcl0 hnd he
      go_upto_if 32 with (go_at_call 45; refine (among_any wr aa na ca A HAR.out nd.nm).mono ?_; rintro e w' ⟨rfl, hww⟩; obtain rfl := hww.symm)
      cases hin : inSS A nd.nm
      · have HON := Lib.hid (show onlyB A nd = ⟨nd.nm, ⟨⟨9, 0, ByteArray.empty, []⟩, none, 0, 0⟩⟩ by unfold onlyB; rw [hin]; rfl)
        clear n1 n2 n3 n4
        go_wp2_with fail
        go_region_law (first
          | (refine S_appendN rfl (.tmp 44) (.tmp 53) 33 (by rfl) sl33 G v1 k _ (by rfl) (own_below (by have h := HO.out.a; rwa [HLEN.out] at h) (((Below.refl _ _).drew).alloc (Nat.le_refl _) _)) ⟨wr.heap.size, 0, none⟩ 1 1 (Bc.cs ⟨nd.nm, ⟨⟨9, 0, ByteArray.empty, []⟩, none, 0, 0⟩⟩) (by rfl) rfl (new_bc' wr.drew ⟨nd.nm, ⟨⟨9, 0, ByteArray.empty, []⟩, none, 0, 0⟩⟩) (by simp [Bc.cs, Value.oneCell']) HK1.out HK2.out (by have := HGR.out; simp; omega) (fun a6 c6 w6 ho6 hg6 hat6 => ?_)
             have hh6 := HO.out.box1 hg6
             have c60 := cell_of_row w6 G 0 _ _ _ hh6
             have f60 := frozen_of_row w6 G 0 _ _ hh6))
        all_goals
          have HW6 := Lib.hid (HO.out.add1 (v' := .slice a6 (k + 1) c6) (by rw [HLEN.out]; exact ho6) hg6)
          clear ho6 hg6 hat6 hh6 c60 f60
          go_wp2
          go_roundw
          case rel => exact ⟨k + 1, _, by omega, by go_num, by rw [HSN.out, HON.out]; exact HW6.out⟩
          case measure => simp [intOf]; omega
      · have HON := Lib.hid (show onlyB A nd = nd by unfold onlyB; rw [hin]; rfl)
        go_wp2_with fail
        go_region_law (first
          | (refine S_appendN rfl (.tmp 34) (.tmp 40) 33 (by rfl) sl33 G v1 k _ (by rfl) (own_below (by have h := HO.out.a; rwa [HLEN.out] at h) (((Below.refl _ _).drew).alloc (Nat.le_refl _) _)) ⟨wr.heap.size, 0, none⟩ 1 1 (Bc.cs nd) (by rfl) rfl (new_bc' wr.drew nd) (by simp [Bc.cs, Value.oneCell']) HK1.out HK2.out (by have := HGR.out; simp; omega) (fun a6 c6 w6 ho6 hg6 hat6 => ?_)
             have hh6 := HO.out.box1 hg6
             have c60 := cell_of_row w6 G 0 _ _ _ hh6
             have f60 := frozen_of_row w6 G 0 _ _ hh6))
        all_goals
          have HW6 := Lib.hid (HO.out.add1 (v' := .slice a6 (k + 1) c6) (by rw [HLEN.out]; exact ho6) hg6)
          clear ho6 hg6 hat6 hh6 c60 f60
          go_wp2
          go_roundw
          case rel => exact ⟨k + 1, _, by omega, by go_num, by rw [HSN.out, HON.out]; exact HW6.out⟩
          case measure => simp [intOf]; omega
    · have hltI : ¬ (k : Int) < (p.vl : Int) := by omega
      have HW := Lib.hid (show OnW w2 wr G (p.bs.map (onlyB A)) [] [] v1 (.slice none 0 0) (.slice none 0 0) p.clock p.steps by have h := HO.out; rwa [List.take_of_length_le (by have := HPL.out; omega)] at h)
      clear x0 x1 x2 HO HLEN
      have hgr0 : G < wr.heap.size := HGR.out
      clear HGR HBW HBL
      obtain ⟨wo, rfl⟩ : ∃ wo : World, wo = wr := ⟨_, rfl⟩
      go_wp2_with fail
      clear q0 hltI hlt
      go_loopw [11] (fun i wr => ∃ (k : Nat) (v : Value), k ≤ p.ol ∧ i = .int .i64 k ∧ OnW w2 wr G (p.bs.map (onlyB A)) ((p.os.take k).filter (inSS B)) [] v1 v (.slice none 0 0) p.clock p.steps) (fun i _ => p.ol - (intOf i).toNat)
      case atStart => exact ⟨0, _, by omega, rfl, HW.out⟩
      case round =>
        obtain ⟨k, v2, hk, rfl, ho⟩ := hrel
        have HO := Lib.hid ho
        have hbl := ho.bl
        have HLK := Lib.hid (filt_take_len (inSS B) p.os k)
        have x0 := cell_of_row wr _ 0 _ _ _ ho.g
        have x1 := cell_of_row wr _ 1 _ _ _ ho.g
        have x2 := cell_of_row wr _ 2 _ _ _ ho.g
        have hP := (hbl.block w.heap.size (by omega)).trans G0.out
        have q1 := cell_of_row wr _ 1 _ _ _ hP
        simp only [List.getElem?_toArray, List.getElem?_cons_zero, List.getElem?_cons_succ] at q1 x0 x1 x2
        have HGR := Lib.hid (show G < wr.heap.size from (Array.getElem?_eq_some_iff.1 ho.g).1)
        have hbw : Below w2.heap.size w2 wr := by rw [← HG.out]; exact hbl
        have HBW := Lib.hid hbw
        clear ho hbl hP hbw
        by_cases hlt : k < p.ol
        · have hltI : (k : Int) < (p.ol : Int) := by omega
          obtain ⟨nb, no, y, he, hnd, hcl0⟩ := HP.out.o.rs.at hlt
          have n0 := (HBW.out.cell (p := ⟨nb, no + k * 1 + 0, none⟩) (block_lt_of_cell (hcl0 0 _ rfl))).trans (hcl0 0 _ rfl)
          simp only [Nat.add_zero, Nat.mul_one] at n0
          rw [he] at q1
          have hgr : G < wr.heap.size := HGR.out
          have hpr : w.heap.size < wr.heap.size := by omega
          have hnbr : nb < wr.heap.size := block_lt_of_cell n0
          have HFR := Lib.hid (HB.out.below HBW.out)
          have HND := Lib.hid hnd
          clear hcl0 hnd he
          go_upto_if 69 with (go_at_call 45; refine (among_any wr ab nb' cb B HFR.out y).mono ?_; rintro e w' ⟨rfl, hww⟩; obtain rfl := hww.symm)
          cases hin : inSS B y
          · have HSN := Lib.hid (show (p.os.take (k + 1)).filter (inSS B) = (p.os.take k).filter (inSS B) by rw [List.take_add_one, HND.out, List.filter_append]; simp [hin])
            go_wp2_with fail
            go_roundw
            case rel => exact ⟨k + 1, _, by omega, by go_num, by rw [HSN.out]; exact HO.out⟩
            case measure => simp [intOf]; omega
          · have HSN := Lib.hid (show (p.os.take (k + 1)).filter (inSS B) = (p.os.take k).filter (inSS B) ++ [y] by rw [List.take_add_one, HND.out, List.filter_append]; simp [hin])
            go_wp2_with fail
            go_region_law (first
              | (refine S_appendN rfl (.tmp 71) (.tmp 77) 23 (by rfl) sl45 G v2 ((p.os.take k).filter (inSS B)).length _ (by rfl) (own_below HO.out.b (((Below.refl _ _).drew).alloc (Nat.le_refl _) _)) ⟨wr.heap.size, 0, none⟩ 1 1 (Sv y) (by rfl) rfl (new_str wr.drew y) (by simp [Sv, Value.oneCell']) (by have := HLK.out; omega) (by have := HLK.out; simp [maxLen]; omega) (by have := HGR.out; simp; omega) (fun a6 c6 w6 ho6 hg6 hat6 => ?_)
                 have hh6 := HO.out.box2 hg6
                 have c60 := cell_of_row w6 G 1 _ _ _ hh6
                 have f60 := frozen_of_row w6 G 1 _ _ hh6))
            all_goals
              have HW6 := Lib.hid (HO.out.add2 (v' := .slice a6 (((p.os.take k).filter (inSS B)).length + 1) c6) ho6 hg6 hat6)
              clear ho6 hg6 hat6 hh6 c60 f60
              go_wp2
              go_roundw
              case rel => exact ⟨k + 1, _, by omega, by go_num, by rw [HSN.out]; exact HW6.out⟩
              case measure => simp [intOf]; omega
        · have hltI : ¬ (k : Int) < (p.ol : Int) := by omega
          have HW2 := Lib.hid (show OnW w2 wr G (p.bs.map (onlyB A)) (p.os.filter (inSS B)) [] v1 v2 (.slice none 0 0) p.clock p.steps by have h := HO.out; rwa [List.take_of_length_le (by have := HOL.out; omega)] at h)
          clear x0 x1 x2 HO HLK
          have hgr0 : G < wr.heap.size := HGR.out
          clear HGR HBW HW
          have HW := Lib.hid HW2.out
          clear HW2
          obtain ⟨wo2, rfl⟩ : ∃ wo2 : World, wo2 = wr := ⟨_, rfl⟩
          go_wp2_with fail
          clear q1 hltI hlt
          go_loopw [12] (fun i wr => ∃ (k : Nat) (v : Value), k ≤ p.rl ∧ i = .int .i64 k ∧ OnW w2 wr G (p.bs.map (onlyB A)) (p.os.filter (inSS B)) ((p.rs.take k).filter (inSS C)) v1 v2 v p.clock p.steps) (fun i _ => p.rl - (intOf i).toNat)
          case atStart => exact ⟨0, _, by omega, rfl, HW.out⟩
          case round =>
            obtain ⟨k, v3, hk, rfl, ho⟩ := hrel
            have HO := Lib.hid ho
            have hbl := ho.bl
            have HLK := Lib.hid (filt_take_len (inSS C) p.rs k)
            have x0 := cell_of_row wr _ 0 _ _ _ ho.g
            have x1 := cell_of_row wr _ 1 _ _ _ ho.g
            have x2 := cell_of_row wr _ 2 _ _ _ ho.g
            have hP := (hbl.block w.heap.size (by omega)).trans G0.out
            have q2 := cell_of_row wr _ 2 _ _ _ hP
            simp only [List.getElem?_toArray, List.getElem?_cons_zero, List.getElem?_cons_succ] at q2 x0 x1 x2
            have HGR := Lib.hid (show G < wr.heap.size from (Array.getElem?_eq_some_iff.1 ho.g).1)
            have hbw : Below w2.heap.size w2 wr := by rw [← HG.out]; exact hbl
            have HBW := Lib.hid hbw
            clear ho hbl hP hbw
            by_cases hlt : k < p.rl
            · have hltI : (k : Int) < (p.rl : Int) := by omega
              obtain ⟨nb, no, y, he, hnd, hcl0⟩ := HP.out.r.rs.at hlt
              have n0 := (HBW.out.cell (p := ⟨nb, no + k * 1 + 0, none⟩) (block_lt_of_cell (hcl0 0 _ rfl))).trans (hcl0 0 _ rfl)
              simp only [Nat.add_zero, Nat.mul_one] at n0
              rw [he] at q2
              have hgr : G < wr.heap.size := HGR.out
              have hpr : w.heap.size < wr.heap.size := by omega
              have hnbr : nb < wr.heap.size := block_lt_of_cell n0
              have HFR := Lib.hid (HC.out.below HBW.out)
              have HND := Lib.hid hnd
              clear hcl0 hnd he
              go_upto_if 93 with (go_at_call 45; refine (among_any wr ac nc' cc C HFR.out y).mono ?_; rintro e w' ⟨rfl, hww⟩; obtain rfl := hww.symm)
              cases hin : inSS C y
              · have HSN := Lib.hid (show (p.rs.take (k + 1)).filter (inSS C) = (p.rs.take k).filter (inSS C) by rw [List.take_add_one, HND.out, List.filter_append]; simp [hin])
                go_wp2_with fail
                go_roundw
                case rel => exact ⟨k + 1, _, by omega, by go_num, by rw [HSN.out]; exact HO.out⟩
                case measure => simp [intOf]; omega
              · have HSN := Lib.hid (show (p.rs.take (k + 1)).filter (inSS C) = (p.rs.take k).filter (inSS C) ++ [y] by rw [List.take_add_one, HND.out, List.filter_append]; simp [hin])
                go_wp2_with fail
                go_region_law (first
                  | (refine S_appendN rfl (.tmp 95) (.tmp 101) 23 (by rfl) sl45 G v3 ((p.rs.take k).filter (inSS C)).length _ (by rfl) (own_below HO.out.c (((Below.refl _ _).drew).alloc (Nat.le_refl _) _)) ⟨wr.heap.size, 0, none⟩ 1 1 (Sv y) (by rfl) rfl (new_str wr.drew y) (by simp [Sv, Value.oneCell']) (by have := HLK.out; omega) (by have := HLK.out; simp [maxLen]; omega) (by have := HGR.out; simp; omega) (fun a6 c6 w6 ho6 hg6 hat6 => ?_)
                     have hh6 := HO.out.box3 hg6
                     have c60 := cell_of_row w6 G 2 _ _ _ hh6
                     have f60 := frozen_of_row w6 G 2 _ _ hh6))
                all_goals
                  have HW6 := Lib.hid (HO.out.add3 (v' := .slice a6 (((p.rs.take k).filter (inSS C)).length + 1) c6) ho6 hg6 hat6)
                  clear ho6 hg6 hat6 hh6 c60 f60
                  go_wp2
                  go_roundw
                  case rel => exact ⟨k + 1, _, by omega, by go_num, by rw [HSN.out]; exact HW6.out⟩
                  case measure => simp [intOf]; omega
            · have hltI : ¬ (k : Int) < (p.rl : Int) := by omega
              have HW2 := Lib.hid (show OnW w2 wr G (p.bs.map (onlyB A)) (p.os.filter (inSS B)) (p.rs.filter (inSS C)) v1 v2 v3 p.clock p.steps by have h := HO.out; rwa [List.take_of_length_le (by have := HRL.out; omega)] at h)
              clear x0 x1 x2 HO HLK
              have hgr0 : G < wr.heap.size := HGR.out
              clear HGR HBW HW
              have HW := Lib.hid HW2.out
              clear HW2
              obtain ⟨a1, c1, rfl, -⟩ := owns_shape HW.out.a
              obtain ⟨a2, c2, rfl, -⟩ := owns_shape HW.out.b
              obtain ⟨a3, c3, rfl, -⟩ := owns_shape HW.out.c
              have hb0 := HW.out.bl.block (w.heap.size + 1) (by omega)
              have G1r := Lib.hid (hb0.trans G1.out)
              have HBF := Lib.hid (HB2.out.trans ((HG.out ▸ HW.out.bl : Below w2.heap.size w2 wr).mono (by have := HB2.out.size; omega)))
              have x0 := cell_of_row wr _ 0 _ _ _ HW.out.g
              have x1 := cell_of_row wr _ 1 _ _ _ HW.out.g
              have x2 := cell_of_row wr _ 2 _ _ _ HW.out.g
              have x3 := cell_of_row wr _ 3 _ _ _ HW.out.g
              have x4 := cell_of_row wr _ 4 _ _ _ HW.out.g
              have y0 := cell_of_row wr _ 0 _ _ _ G1r.out
              have y1 := cell_of_row wr _ 1 _ _ _ G1r.out
              have y2 := cell_of_row wr _ 2 _ _ _ G1r.out
              have y3 := cell_of_row wr _ 3 _ _ _ G1r.out
              have y4 := cell_of_row wr _ 4 _ _ _ G1r.out
              have z0 := frozen_of_row wr _ 0 _ _ G1r.out
              have z1 := frozen_of_row wr _ 1 _ _ G1r.out
              have z2 := frozen_of_row wr _ 2 _ _ G1r.out
              have z3 := frozen_of_row wr _ 3 _ _ G1r.out
              have z4 := frozen_of_row wr _ 4 _ _ G1r.out
              simp only [List.getElem?_toArray, List.getElem?_cons_zero, List.getElem?_cons_succ] at x0 x1 x2 x3 x4 y0 y1 y2 y3 y4
              go_wp2_with fail
              refine ret35 G1r.out (by rfl) ?_
              have hbf := HBF.out
              have hfin : Below w.heap.size w (((((wr.setCell ⟨w.heap.size + 1, 0, none⟩ (.slice a1 (p.bs.map (onlyB A)).length c1)).setCell ⟨w.heap.size + 1, 1, none⟩ (.slice a2 (p.os.filter (inSS B)).length c2)).setCell ⟨w.heap.size + 1, 2, none⟩ (.slice a3 (p.rs.filter (inSS C)).length c3)).setCell ⟨w.heap.size + 1, 3, none⟩ (.int .i64 p.clock)).setCell ⟨w.heap.size + 1, 4, none⟩ (.int .i64 p.steps)) :=
                ((((hbf.setCell (p := ⟨w.heap.size + 1, 0, none⟩) (Nat.le_succ _) _).setCell (p := ⟨w.heap.size + 1, 1, none⟩) (Nat.le_succ _) _).setCell (p := ⟨w.heap.size + 1, 2, none⟩) (Nat.le_succ _) _).setCell (p := ⟨w.heap.size + 1, 3, none⟩) (Nat.le_succ _) _).setCell (p := ⟨w.heap.size + 1, 4, none⟩) (Nat.le_succ _) _
              obtain ⟨p', hcs, hoo⟩ := only_end HPW.out HPL.out HOL.out HRL.out hvl hol hrl (own5 HW.out.a (by omega) _ _ _ _ _) (own5 HW.out.b (by omega) _ _ _ _ _) (own5 HW.out.c (by omega) _ _ _ _ _) hfin
              simp only [List.length_map] at hcs hoo hfin
              exact ⟨⟨p', by rw [hcs], hoo⟩, hfin⟩
end Go.Proofs.YtcnckjlmldnblaaDoor
