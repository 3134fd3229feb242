import Derived.Test.YtgkehahklccacaaGreatDoorQ26
import Derived.Test.YtgkehahklccacaaGreatDoorQ20
import Derived.Test.YtgkehahklccacaaGreatDoorQ09
import Derived.IntWalk
namespace Go.Proofs.YtgkehahklccacaaGreatDoor
open Go Go.RowKit
set_option maxRecDepth 100000
set_option maxHeartbeats 1000000
set_option linter.unusedVariables false
set_option linter.unusedSimpArgs false

open Go.Maps Go.WideMaps Go.ChangeMaps
/-- A map of n entries, by level and index. -/
def MAtN (w : World) (b n : Nat) (M : Nat → Nat → Sc) : Prop := ∃ D : DataW Unit, w.ownsMap Tryz.prog 121 sliceR b n D ∧ size D = n ∧ ∀ l j, l < 1099511627776 → j < 1099511627776 → D.atKey (kl2 l j) .nil = scD (M l j) ∧ has D (kl2 l j) = (M l j).isSome
section
variable {w w' : World} {b n : Nat} {M : Nat → Nat → Sc}
theorem MAtN.at (h : MAtN w b n M) : MAt w b n M := by
  obtain ⟨D, h1, -, h2⟩ := h
  exact ⟨D, h1, h2⟩
theorem MAtN.keep (h : MAtN w b n M) (hk : w'.heap[b]? = w.heap[b]?) : MAtN w' b n M := by
  obtain ⟨D, ⟨es, ck, hb, hr⟩, h3⟩ := h
  exact ⟨D, ⟨es, ck, hk.trans hb, hr⟩, h3⟩
theorem MAtN.made (w : World) : MAtN (w.alloc (.map #[] 0)) w.heap.size 0 (fun _ _ => none) :=
  ⟨_, World.ownsMap_made w Tryz.prog 121 sliceR, rfl, fun l j _ _ => ⟨rfl, rfl⟩⟩
theorem MAtN.update (h : MAtN w b n M) (hn : n < maxLen) {l j : Nat} (hl : l < 1099511627776) (hj : j < 1099511627776) (p : Nat × Nat × Nat) (h0 : M l j = none) : ∃ w', (Instr.mapUpdate 95 (.map (some b)) (keyV l j) (encS (some p))).run Tryz.prog w = .ok () w' ∧ MAtN w' b (n + 1) (put2 M l j (some p)) ∧ w.grownBy w' (some b) := by
  obtain ⟨D, h1, hz, h2⟩ := h
  obtain ⟨w', hrun, h3, h4⟩ := h1.update law121 Tryz.underlying95 hn (key121 hl hj) (sliceR_enc (some p))
  refine ⟨w', hrun, ⟨_, h3, ?_, putD (h1.tidy law121) h2 hl hj p⟩, h4⟩
  have hs := size_put (k := kl2 l j) (h1.tidy law121) (scD (some p))
  rw [hs, (h2 l j hl hj).2, h0, hz]
  rfl
theorem MAtN.len (h : MAtN w b n M) (ty : TypeId) : (Builtin.len_ #[95] ty #[.map (some b)]).run Tryz.prog w = .ok (.int .i64 n) w := by
  obtain ⟨D, h1, hz, -⟩ := h
  have := h1.len Tryz.underlying95 ty
  rwa [hz] at this
end
/-- The tiles that were found. -/
structure Found (w : World) (B fb k : Nat) (dss : Nat → List Dg) (M : Nat → Nat → Sc) : Prop where
  map : MAtN w fb k M
  lo : B ≤ fb
  at_ : ∀ j, j < k → ∃ gl, M 0 j = some (gl, 256, 256) ∧ B ≤ gl ∧ gl ≠ fb ∧ gl < w.heap.size ∧ DS w (some ⟨gl, 0, none⟩) 256 256 (dss j)
  no : ∀ l j, ¬ (l = 0 ∧ j < k) → M l j = none
theorem Found.keep {w w' : World} {B fb k : Nat} {dss : Nat → List Dg} {M : Nat → Nat → Sc} (h : Found w B fb k dss M) (hs : w.heap.size ≤ w'.heap.size) (hk : ∀ b, b < w.heap.size → (b = fb ∨ ∃ j, j < k ∧ ∃ n c, M 0 j = some (b, n, c)) → w'.heap[b]? = w.heap[b]?) : Found w' B fb k dss M := by
  refine ⟨h.map.keep (hk fb h.map.at.lt (.inl rfl)), h.lo, fun j hj => ?_, h.no⟩
  obtain ⟨gl, h1, h2, h3, h4, h5⟩ := h.at_ j hj
  exact ⟨gl, h1, h2, h3, Nat.lt_of_lt_of_le h4 hs, h5.same (hk gl h4 (.inr ⟨j, hj, _, _, h1⟩))⟩
theorem Found.below {w w' : World} {B fb k : Nat} {dss : Nat → List Dg} {M : Nat → Nat → Sc} (h : Found w B fb k dss M) (hb : Below w.heap.size w w') : Found w' B fb k dss M := h.keep hb.size (fun b hb' _ => hb.block b hb')
/-- The bytes of k tiles. -/
def tilesQ (wd : Nat) (dss : Nat → List Dg) (k : Nat) : List UInt8 := ((List.range k).map fun j => tileP wd j (dss j)).flatten
theorem tilesQ_succ (wd : Nat) (dss : Nat → List Dg) (k : Nat) : tilesQ wd dss (k + 1) = tilesQ wd dss k ++ tileP wd k (dss k) := by
  unfold tilesQ
  rw [List.range_succ, List.map_append, List.flatten_append]; simp
theorem tilesQ_len (wd : Nat) (dss : Nat → List Dg) : ∀ k, (∀ j, j < k → (dss j).length = 256) → (tilesQ wd dss k).length = 8207 * k
  | 0, _ => rfl
  | k + 1, h => by
    rw [tilesQ_succ, List.length_append, tilesQ_len wd dss k (fun j hj => h j (by omega)), tileP_len, h k (by omega)]; omega
theorem tilesQ_split (wd : Nat) (dss : Nat → List Dg) {k m : Nat} (h : k < m) : ∃ r, tilesQ wd dss m = tilesQ wd dss k ++ tileP wd k (dss k) ++ r := by
  induction m with
  | zero => omega
  | succ m ih =>
    rw [tilesQ_succ]
    by_cases e : k = m
    · subst e; exact ⟨[], by simp⟩
    · obtain ⟨r, hr⟩ := ih (by omega)
      exact ⟨r ++ tileP wd m (dss m), by rw [hr]; simp [List.append_assoc]⟩
/-- What stands behind k tiles begins with the next one. -/
theorem tilesQ_at (wd : Nat) (dss : Nat → List Dg) (rest : List UInt8) {k m : Nat} (h : k < m) (hl : ∀ j, j < m → (dss j).length = 256) : ((tilesQ wd dss m ++ rest).drop (8207 * k)).take 8207 = tileP wd k (dss k) := by
  obtain ⟨r, hr⟩ := tilesQ_split wd dss h
  rw [hr, List.append_assoc, List.append_assoc, List.drop_left' (tilesQ_len wd dss k (fun j hj => hl j (by omega))), List.take_left' (by rw [tileP_len, hl k h])]
theorem dropA_low {a : Option Addr} {n k c B : Nat} (h : ∀ x, a = some x → 0 < n → x.block < B) (hn : 0 < n) : ∀ x, dropA a k c = some x → x.block < B := by
  intro x e
  unfold dropA at e
  split at e
  · exact h x e hn
  · cases a with
    | none => cases e
    | some y =>
      have e := Option.some.inj e
      rw [← e]
      have : (y.add k).block = y.block := by unfold Addr.add; split <;> rfl
      rw [this]
      exact h y rfl hn
set_option maxHeartbeats 8000000
theorem tread_any (w : World) (τ : Nat → Nat) (gt gd : Nat) (T : TT) (Y : TY) (h : TS w τ gt gd T Y) (ht : HalfTab w) (a : Option Addr) (n c : Nat) (dss : Nat → List Dg) (rest : List UInt8) (m size : Nat) (hr : R8 w a n c (tilesQ T.wd.toNat dss m ++ rest))
    (hl : ∀ j, j < m → (dss j).length = 256) (hm : m ≤ size / 256) (hs : size < 65536)
    (hno : m < size / 256 → 8207 ≤ rest.length → ∀ (wx : World) (ax : Option Addr) (cx : Nat), Below w.heap.size w wx → R8 wx ax 8207 cx (rest.take 8207) → Calls Tryz.prog 109 #[.pointer (some ⟨gt, 0, none⟩), .agg #[.int .i64 ((0 : Nat) : Int), .int .i64 (m : Int)], .slice ax 8207 cx] wx fun e w' => (∃ v, e = .returned (.tuple #[v, .bool false])) ∧ Below wx.heap.size wx w') :
    Calls Tryz.prog 57 #[.pointer (some ⟨gt, 0, none⟩), .slice a n c, .int .i64 (size : Int)] w fun e w' => ∃ fb M, e = .returned (.map (some fb)) ∧ Found w' w.heap.size fb m dss M ∧ Below w.heap.size w w' := by
  obtain ⟨F, hF⟩ : ∃ F, F = size / 256 := ⟨_, rfl⟩
  rw [← hF] at hm hno
  have hF2 : F ≤ 255 := by omega
  have hq : (size : Int) / 256 = (F : Int) := by omega
  have HH := Lib.hid (And.intro h (And.intro ht (And.intro hl hs)))
  have HM := Lib.hid (And.intro hm hF2)
  have HNO := Lib.hid hno
  obtain ⟨B, hB⟩ : ∃ B, B = tilesQ T.wd.toNat dss m ++ rest := ⟨_, rfl⟩
  rw [← hB] at hr
  have hBn : n = B.length := hr.1.symm
  have hnB : n = 8207 * m + rest.length := by rw [hBn, hB, List.length_append, tilesQ_len _ _ _ hl]
  have HB := Lib.hid hB
  have HNB := Lib.hid hnB
  have HR := Lib.hid hr
  have HSZ := Lib.hid h.sz
  clear h ht hl hs hm hF2 hno hr hBn hnB hB hF
  have hmm := @run_makeMap Tryz.prog
  go_enter Tryz.func57, Tryz.ntmps57
  go_wp2_with fail
  clear hmm
  have hmd := MAtN.made w
  obtain ⟨w1, hw1⟩ : ∃ w1, w1 = w.alloc (.map #[] 0) := ⟨_, rfl⟩
  obtain ⟨fb, hfb⟩ : ∃ fb, fb = w.heap.size := ⟨_, rfl⟩
  have hb1 : Below w.heap.size w w1 := by rw [hw1]; exact (Below.refl _ _).alloc (Nat.le_refl _) _
  have hz1 : w1.heap.size = fb + 1 := by rw [hw1, World.size_alloc, hfb]
  rw [← hw1, ← hfb] at hmd ⊢
  have HMD := Lib.hid (show Found w1 w.heap.size fb 0 dss (fun _ _ => none) from ⟨hmd, by omega, fun j hj => by omega, fun _ _ _ => rfl⟩)
  have HB1 := Lib.hid hb1
  have HFB := Lib.hid hfb
  clear hmd hw1 hb1 hz1 hfb
  go_loopw [1, 8] (fun s v wr => ∃ k : Nat, k ≤ m ∧ v = .int .i64 ((k + 1 : Nat) : Int) ∧ (∃ a' c', s = .slice a' (n - 8207 * k) c' ∧ R8 wr a' (n - 8207 * k) c' (B.drop (8207 * k)) ∧ ∀ x, a' = some x → 0 < n - 8207 * k → x.block < w.heap.size) ∧ (∃ M, Found wr w.heap.size fb k dss M) ∧ Below w.heap.size w wr) (fun _ v _ => F + 1 - (intOf v).toNat)
  case atStart => exact ⟨0, by omega, rfl, ⟨a, c, by simp, by have := HR.out.below HB1.out; simpa using this, fun x e h0 => by { obtain ⟨b, off, e2, -⟩ := HR.out.2.2.2 0 (by have := HR.out.1; omega); rw [e2] at e; cases e; exact HR.out.lt b off e2 (by omega) }⟩, ⟨_, HMD.out⟩, HB1.out⟩
  case round =>
    obtain ⟨k, hk, rfl, ⟨a1, c1, rfl, hr, hal⟩, ⟨M, hM⟩, hb⟩ := hrel
    have HR1 := Lib.hid hr; have HAL := Lib.hid hal; have HBW := Lib.hid hb; have HMM := Lib.hid hM; have HK := Lib.hid hk
    obtain ⟨x, hx⟩ : ∃ x, x = k + 1 := ⟨_, rfl⟩
    rw [← hx]
    have HX := Lib.hid hx
    clear hr hb hM hk hx hal
    by_cases hF : k < F
    · have h9 : decide (x ≤ F) = true := by have := HX.out; simp; omega
      have hF2 := HM.out.2
      have hx255 : x ≤ 255 := by have := HX.out; omega
      have hxk : (x : Int) - 1 = (k : Int) := by have := HX.out; omega
      have hF := Lib.hid hF
      by_cases hlen : n - 8207 * k < 8207
      · have h8 : decide (((n - 8207 * k : Nat) : Int) < 8207) = true := by simp; omega
        have hkm : k = m := by
          have h1 := HK.out; have h2 := HNB.out; have h3 := HM.out.1
          rcases Nat.lt_or_ge k m with h | h
          · have : 8207 * (k + 1) ≤ 8207 * m := Nat.mul_le_mul_left _ h
            omega
          · omega
        generalize n - 8207 * k = n1 at *
        clear hlen
        go_upto_region 5 with (fail)
        clear h9
        go_wp2_with fail
        refine wp_loop_rounds 1 ?_
        rw [rounds_succ]
        go_wp2_with fail
        go_ret
        subst hkm
        have hb2 : Below wr.heap.size wr (wr.alloc (.cells #[.int .i64 0, .int .i64 (k : Int)] 121)) := (Below.refl _ _).alloc (Nat.le_refl _) _
        exact ⟨fb, M, rfl, HMM.out.below hb2, HBW.out.trans (hb2.mono HBW.out.size)⟩
      · have h8 : decide (((n - 8207 * k : Nat) : Int) < 8207) = false := by simp; omega
        obtain ⟨n1, hn1⟩ : ∃ n1, n1 = n - 8207 * k := ⟨_, rfl⟩
        rw [← hn1] at HR1 HAL h8 ⊢
        have hn1g : 8207 ≤ n1 := by omega
        have hsl := fun wx => slice_to8 wx a1 n1 c1 8207 (by have := HR1.out.2.1; omega)
        rw [show ((8207 : Nat) : Int) = (8207 : Int) from rfl] at hsl
        have HN1 := Lib.hid hn1
        have HN1G := Lib.hid hn1g
        obtain ⟨w2, hw2⟩ : ∃ w2, w2 = wr.alloc (.cells #[.int .i64 0, .int .i64 (k : Int)] 121) := ⟨_, rfl⟩
        have hb2 : Below wr.heap.size wr w2 := by rw [hw2]; exact (Below.refl _ _).alloc (Nat.le_refl _) _
        have hk2 : w2.heap[wr.heap.size]? = some (.cells #[.int .i64 0, .int .i64 (k : Int)] 121 (0, 0)) := by rw [hw2]; exact heap_alloc_new _ _
        have HB2 := Lib.hid hb2
        have HK2 := Lib.hid hk2
        have hw2' := hw2.symm
        clear hw2 hlen hn1 hn1g hb2 hk2
        go_upto_region 5 with (fail)
        clear h9
        go_wp2_with fail
        refine wp_loop_rounds 1 ?_
        rw [rounds_succ]
        go_wp2_with fail
        have k0 := cell_of_row w2 wr.heap.size 0 _ _ _ HK2.out
        have k1 := cell_of_row w2 wr.heap.size 1 _ _ _ HK2.out
        simp only [List.getElem?_toArray, List.getElem?_cons_zero, List.getElem?_cons_succ] at k0 k1
        have HB2W := Lib.hid (HBW.out.trans (HB2.out.mono HBW.out.size))
        have hr2 := (HR1.out.below HB2.out).take 8207 HN1G.out
        by_cases hkm : k < m
        · rw [HB.out, tilesQ_at _ _ _ hkm HH.out.2.2.1] at hr2
          have HB2D := Lib.hid (show Below w.heap.size w w2.drew from ⟨HB2W.out.os, HB2W.out.tape, HB2W.out.output, HB2W.out.size, HB2W.out.block⟩)
          have HTK := Lib.hid (show Calls Tryz.prog 109 #[.pointer (some ⟨gt, 0, none⟩), .agg #[.int .i64 0, .int .i64 (k : Int)], .slice a1 8207 c1] w2.drew _ from ttake_ok w2.drew τ gt gd T Y (HH.out.1.below HB2D.out) k (by have := HM.out; omega) a1 8207 c1 (dss k) (HH.out.2.2.1 k hkm) (show R8 w2.drew _ _ _ _ from hr2) (HH.out.2.1.below HB2D.out (by have := HSZ.out; omega)))
          have HKM := Lib.hid hkm
          have hkb := (Array.getElem?_eq_some_iff.1 HK2.out).1
          clear hr2 hkm
          go_region_held3 (fun x => x.cell? ⟨wr.heap.size, 0, none⟩ = some (.int .i64 0) ∧ x.cell? ⟨wr.heap.size, 1, none⟩ = some (.int .i64 (k : Int)))
            (first | exact ⟨k0, k1⟩ | exact ⟨(World.cell?_of_block (hb3.block wr.heap.size hkb)).trans k0, (World.cell?_of_block (hb3.block wr.heap.size hkb)).trans k1⟩)
            (first | (go_at_call 109; refine (HTK.out).mono ?_; rintro e w3 ⟨gl, rfl, hgl, hds, hb3⟩))
          have HM3 := Lib.hid ((HMM.out.below HB2.out).below (show Below w2.heap.size w2 w3 from ⟨hb3.os, hb3.tape, hb3.output, hb3.size, hb3.block⟩))
          have HB3 := Lib.hid (HB2D.out.trans (hb3.mono HB2D.out.size))
          have HDS := Lib.hid hds
          have HGL := Lib.hid (show w.heap.size ≤ gl ∧ w2.heap.size ≤ gl from ⟨Nat.le_trans HB2W.out.size hgl, hgl⟩)
          have HFBL := Lib.hid (show fb < w2.heap.size from (HMM.out.below HB2.out).map.at.lt)
          obtain ⟨w4, hup, hm4, hg4⟩ := HM3.out.map.update (l := 0) (j := k) (by unfold maxLen; have := HKM.out; have := HM.out; omega) (by decide) (by have := HKM.out; have := HM.out; omega) (gl, 256, 256) (HM3.out.no 0 k (by omega))
          have hup : (Instr.mapUpdate 95 (.map (some fb)) (.agg #[.int .i64 0, .int .i64 (k : Int)]) (.slice (some ⟨gl, 0, none⟩) 256 256)).run Tryz.prog w3 = .ok () w4 := hup
          have hfr : ∀ wx, (Instr.slice 53 (.slice a1 n1 c1) (some (.int .i64 8207)) none none).run Tryz.prog wx = .ok (.slice (dropA a1 8207 c1) (n1 - 8207) (c1 - 8207)) wx := fun wx => slice_from (P := Tryz.prog) sl22 wx a1 n1 c1 8207 8207 rfl HN1G.out
          have l0 := (World.cell?_of_block (hb3.block wr.heap.size hkb)).trans k0
          have l1 := (World.cell?_of_block (hb3.block wr.heap.size hkb)).trans k1
          have hglt : gl < w3.heap.size := by
            obtain ⟨b, off, e, hlt, -⟩ := hds.at (i := 0) (List.getElem?_eq_getElem (by rw [HH.out.2.2.1 k HKM.out]; decide))
            cases e; exact hlt
          have hF4 : Found w4 w.heap.size fb (k + 1) dss (put2 M 0 k (some (gl, 256, 256))) := by
            refine ⟨hm4, HM3.out.lo, fun j hj => ?_, fun l j hlj => ?_⟩
            · by_cases e : j = k
              · subst e
                exact ⟨gl, put2_same _ _ _ _, HGL.out.1, by have := HGL.out.2; have := HFBL.out; omega, Nat.lt_of_lt_of_le hglt hg4.size, hds.same (hg4.block gl hglt (fun e => by have := Option.some.inj e; have := HGL.out.2; have := HFBL.out; omega))⟩
              · obtain ⟨g', q1, q2, q3, q4, q5⟩ := HM3.out.at_ j (by omega)
                exact ⟨g', (put2_other _ (by rintro ⟨-, h⟩; exact e h)).trans q1, q2, q3, Nat.lt_of_lt_of_le q4 hg4.size, q5.same (hg4.block g' q4 (fun e => q3 (Option.some.inj e)))⟩
            · rw [put2_other _ (by rintro ⟨rfl, rfl⟩; exact hlj ⟨rfl, by omega⟩)]
              exact HM3.out.no l j (by omega)
          have HF4 := Lib.hid hF4
          have HB4 := Lib.hid (HB3.out.grown hg4 HB3.out.size (fun q hq => by rw [← Option.some.inj hq]; exact HM3.out.lo))
          have hrd : R8 w4 (dropA a1 8207 c1) (n1 - 8207) (c1 - 8207) (B.drop (8207 * (k + 1))) := by
            have h1 := (HR1.out.dropA 8207 HN1G.out)
            rw [List.drop_drop] at h1
            have h2 := h1.same (w' := w4) (fun b off e h0 => by
              have h9 : b < w.heap.size := dropA_low HAL.out (by have := HN1G.out; omega) _ e
              exact (HB4.out.block b h9).trans (HBW.out.block b h9).symm)
            rwa [show 8207 * k + 8207 = 8207 * (k + 1) by omega] at h2
          have HRD := Lib.hid hrd
          clear hgl hds hb3 hm4 hg4 hglt hF4 hrd k0 k1
          go_wp2_with fail
          have hk := HKM.out
          have hx := HX.out
          have hnk : n - 8207 * (k + 1) = n1 - 8207 := by have := HN1.out; omega
          refine ⟨⟨k + 1, hk, by rw [hx]; go_num, ⟨dropA a1 8207 c1, c1 - 8207, by rw [hnk], by rw [hnk]; exact HRD.out, fun x e h0 => dropA_low HAL.out (by have := HN1G.out; omega) x e⟩, ⟨_, HF4.out⟩, HB4.out⟩, by have := hF.out; rw [hx]; simp [intOf]; omega⟩
        · have hkm : k = m := by have := HK.out; omega
          have hBd : B.drop (8207 * k) = rest := by rw [HB.out, hkm]; exact List.drop_left' (tilesQ_len _ _ _ HH.out.2.2.1)
          rw [hBd] at hr2
          have hrl : 8207 ≤ rest.length := by have h1 := HN1.out; have h2 := HNB.out; have h3 := HN1G.out; rw [hkm] at h1; omega
          have HB2D := Lib.hid (show Below w.heap.size w w2.drew from ⟨HB2W.out.os, HB2W.out.tape, HB2W.out.output, HB2W.out.size, HB2W.out.block⟩)
          have HTK := Lib.hid (show Calls Tryz.prog 109 #[.pointer (some ⟨gt, 0, none⟩), .agg #[.int .i64 0, .int .i64 (k : Int)], .slice a1 8207 c1] w2.drew _ from hkm ▸ HNO.out (by rw [← hkm]; exact hF.out) hrl w2.drew a1 c1 HB2D.out (show R8 w2.drew _ _ _ _ from hr2))
          have HKM := Lib.hid hkm
          have hkb := (Array.getElem?_eq_some_iff.1 HK2.out).1
          clear hr2 hkm hrl hBd
          go_region_held3 (fun x => x.cell? ⟨wr.heap.size, 0, none⟩ = some (.int .i64 0) ∧ x.cell? ⟨wr.heap.size, 1, none⟩ = some (.int .i64 (k : Int)))
            (first | exact ⟨k0, k1⟩ | exact ⟨(World.cell?_of_block (hb3.block wr.heap.size hkb)).trans k0, (World.cell?_of_block (hb3.block wr.heap.size hkb)).trans k1⟩)
            (first | (go_at_call 109; refine (HTK.out).mono ?_; rintro e w3 ⟨⟨v, rfl⟩, hb3⟩))
          have HM3 := Lib.hid ((HMM.out.below HB2.out).below (show Below w2.heap.size w2 w3 from ⟨hb3.os, hb3.tape, hb3.output, hb3.size, hb3.block⟩))
          have HB3 := Lib.hid (HB2D.out.trans (hb3.mono HB2D.out.size))
          clear hb3 k0 k1
          go_wp2_with fail
          go_ret
          rw [HKM.out] at HM3
          exact ⟨fb, M, rfl, HM3.out, HB3.out⟩
    · have h9 : decide (x ≤ F) = false := by have := HX.out; simp; omega
      have hF2 := HM.out.2
      have hkm : k = m := by have := HK.out; have := HM.out.1; omega
      go_wp2_with fail
      go_ret
      subst hkm
      exact ⟨fb, M, rfl, HMM.out, HBW.out⟩
end Go.Proofs.YtgkehahklccacaaGreatDoor
namespace Go.Proofs.YtgkehahklccacaaGreatDoor
open Go Go.RowKit
set_option maxRecDepth 100000
set_option maxHeartbeats 1000000
set_option linter.unusedVariables false
set_option linter.unusedSimpArgs false

open Go.Maps Go.WideMaps Go.ChangeMaps
/-- Has the disk anything that is not safe? -/
def looseB (d : Dm) : Bool := decide (0 < d.changes.length) || d.loose.2.any fun n => decide (0 < n)
/-- What Open answers where nothing is refused. -/
def OpRet (w : World) (L : Lay) (gd : Nat) (d : Dm) (T : TT) (e : Ending) (w' : World) : Prop :=
  ∃ (gt : Nat) (τ : Nat → Nat) (Y : TY), e = .returned (.tuple #[.pointer (some ⟨gt, 0, none⟩), .nilIface]) ∧ BT w' L τ gt gd (d.claim tlN) T Y ∧ Upd L.ρ L.ρ w w' ∧ ∀ k, τ k ≠ 0 → w.heap.size ≤ k
theorem UB.upd {L L' : Lay} {τ τ' : Nat → Nat} {w0 w w' : World} (h : UB L τ L' τ' w w') (hb : Below w0.heap.size w0 w) (hτ : ∀ k, τ k ≠ 0 → w0.heap.size ≤ k) : Upd L.ρ L'.ρ w0 w' :=
  ⟨h.os.trans hb.os, h.tape.trans hb.tape, h.output.trans hb.output, Nat.le_trans hb.size h.size, fun k hk h0 => (h.block k (Nat.lt_of_lt_of_le hk hb.size) h0 (by
    rcases Nat.eq_zero_or_pos (τ k) with e | e
    · exact e
    · have := hτ k (by omega); omega)).trans (hb.block k hk), ⟨h.extL.same, fun k hk h0 => h.extL.old k (Nat.lt_of_lt_of_le hk hb.size) h0⟩⟩
noncomputable def op0 : Code := Tryz.f21.body.getD .skip
set_option maxHeartbeats 8000000
/-- Open, behind its row. -/
theorem open_tail (w0 w : World) (L : Lay) (τ : Nat → Nat) (gt gd : Nat) (d : Dm) (T : TT) (Y : TY) (h : BT w L τ gt gd d T Y) (hb0 : Below w0.heap.size w0 w) (hτ : ∀ k, τ k ≠ 0 → w0.heap.size ≤ k) (hp : Pre d) (hun : ∀ i, i < d.fs.length → (d.file i).units ≤ 9223372036854775806) (hcl : d.claims.length < 1000000) (hco : -4611686018427387904 ≤ d.claimOf tlN ∧ d.claimOf tlN ≤ 4611686018427387904)
    (fb m : Nat) (dss : Nat → List Dg) (M : Nat → Nat → Sc) (hF : Found w w0.heap.size fb m dss M) (hm : m ≤ 1000) (u1 u2 u3 u4 u5 u6 u7 u8 u9 u10 u11 u14 u15 u16 u17 u18 u19 u20 u21 u22 u23 u24 u25 u26 u27 u28 u29 u30 u31 u32 u33 u34 u35 u36 u37 u38 u39 u40 u41 u42 u43 u44 u45 u46 u47 u48 u49 u50 u51 u52 u53 u54 u55 u56 u57 u58 u59 u60 u61 u62 u63 u64 u65 u66 u67 u68 u69 u70 u71 u72 u73 u74 u75 u76 u77 u78 u79 u80 u81 u82 u83 u84 u85 u86 u87 u88 u89 u90 u91 u92 u93 u94 u95 u96 u97 u98 u99 u100 u101 u102 u103 u104 u105 u106 u107 u108 u109 u110 u111 u112 u113 u114 u115 u116 u117 u118 u119 u120 u121 u122 u123 u124 u125 u126 u127 u128 u129 u130 u131 u132 u133 u134 u135 u136 u137 u138 u139 u140 u141 u142 u143 u144 u145 u146 u147 : Value) :
    Code.wp Tryz.prog (dropSeq 8 op0) (bodyPost Tryz.prog Tryz.f21 (OpRet w0 L gd d { T with held := m, l0 := looseB d, l1 := looseB d, cl := d.claimOf tlN + 1 })) ⟨#[.pointer (some ⟨gd, 0, none⟩), u1, u2, u3, u4, u5, u6, u7, u8, u9, u10, u11, .pointer (some ⟨gt, 0, none⟩), .map (some fb), u14, u15, u16, u17, u18, u19, u20, u21, u22, u23, u24, u25, u26, u27, u28, u29, u30, u31, u32, u33, u34, u35, u36, u37, u38, u39, u40, u41, u42, u43, u44, u45, u46, u47, u48, u49, u50, u51, u52, u53, u54, u55, u56, u57, u58, u59, u60, u61, u62, u63, u64, u65, u66, u67, u68, u69, u70, u71, u72, u73, u74, u75, u76, u77, u78, u79, u80, u81, u82, u83, u84, u85, u86, u87, u88, u89, u90, u91, u92, u93, u94, u95, u96, u97, u98, u99, u100, u101, u102, u103, u104, u105, u106, u107, u108, u109, u110, u111, u112, u113, u114, u115, u116, u117, u118, u119, u120, u121, u122, u123, u124, u125, u126, u127, u128, u129, u130, u131, u132, u133, u134, u135, u136, u137, u138, u139, u140, u141, u142, u143, u144, u145, u146, u147], []⟩ w := by
  have hln : ∀ ty, (Builtin.len_ #[95] ty #[.map (some fb)]).run Tryz.prog w = .ok (.int .i64 m) w := fun ty => hF.map.len ty
  have e8 := h.t.cells.2.2.2.2.2.2.2.1
  have f8 := h.t.cells.2.2.2.2.2.2.2.2.2.2 8
  have HH := Lib.hid h
  have HX := Lib.hid (And.intro hb0 (And.intro hτ (And.intro hp (And.intro hun (And.intro hcl hco)))))
  clear h hb0 hτ hp hun hcl hco hF
  refine wp_two_k (c := dropSeq 8 op0) ⟨_, _, rfl⟩ fun K hK => ?_
  have HK := Lib.hid hK
  clear hK
  conv => arg 2; whnf
  go_wp2_with fail
  refine HK.out _ _ ?_
  clear HK K
  rw [dropSeq_succ]
  obtain ⟨hb1, hg1⟩ := row_setCell (i := 8) HH.out.t.box (.int .i64 (m : Int))
  obtain ⟨ht1, hu1⟩ := HH.out.t.own1 (T' := { T with held := m }) hg1 hb1 rfl rfl
  have HB1 := Lib.hid (HH.out.tiles ht1 hu1)
  have HU1 := Lib.hid hu1
  clear hb1 hg1 ht1 hu1 e8 f8 hln
  generalize w.setCell ⟨gt, 8, none⟩ (.int .i64 (m : Int)) = w1 at HB1 HU1 ⊢
  have HLO := Lib.hid (loose_any w1 L gd d HB1.out.d HX.out.2.2.1 HX.out.2.2.2.1)
  obtain ⟨rn, hrn⟩ : ∃ rn, rn = d.reach.length := ⟨_, rfl⟩
  obtain ⟨cn, hcn⟩ : ∃ cn, cn = d.changes.length := ⟨_, rfl⟩
  have hrl : d.loose.2.length = rn := by rw [hrn]; simp [Dm.loose]
  have HRL := Lib.hid hrl
  have HCN := Lib.hid hcn
  rw [← hrn, ← hcn] at HLO
  clear hrn hcn hrl
  refine wp_two_k (c := dropSeq 9 op0) ⟨_, _, rfl⟩ fun K hK => ?_
  have HK := Lib.hid hK
  clear hK
  conv => arg 2; whnf
  go_wp2_with (go_at_call 35; refine HLO.out.mono ?_; rintro e w2 ⟨hb2, sa, sc, rfl, ho⟩; have HB2 := Lib.hid hb2; have HO := Lib.hid ho; clear hb2 ho)
  refine HK.out _ _ ?_
  clear HK K
  rw [dropSeq_succ]
  obtain ⟨g3, hg3⟩ : ∃ g3, g3 = w2.heap.size := ⟨_, rfl⟩
  have hx3 := heap_alloc_new w2 (.cells #[.slice sa rn sc, .int .i64 (cn : Int)] 43)
  have hb3 : Below w2.heap.size w2 (w2.alloc (.cells #[.slice sa rn sc, .int .i64 (cn : Int)] 43)) := (Below.refl _ _).alloc (Nat.le_refl _) _
  have ho3 := HO.out.alloc (.cells #[.slice sa rn sc, .int .i64 (cn : Int)] 43)
  rw [← hg3] at hx3 ⊢
  generalize w2.alloc (.cells #[.slice sa rn sc, .int .i64 (cn : Int)] 43) = w3 at hx3 hb3 ho3 ⊢
  have k0 := cell_of_row w3 g3 0 _ _ _ hx3
  have k1 := cell_of_row w3 g3 1 _ _ _ hx3
  simp only [List.getElem?_toArray, List.getElem?_cons_zero, List.getElem?_cons_succ] at k0 k1
  have hb13 := HB2.out.trans (hb3.mono HB2.out.size)
  have HB3 := Lib.hid (HB1.out.below hb13)
  have HB13 := Lib.hid hb13
  have HO3 := Lib.hid ho3
  clear hg3 hx3 hb3 ho3 hb13
  refine wp_two_k (c := dropSeq 10 op0) ⟨_, _, rfl⟩ fun K hK => ?_
  have HK := Lib.hid hK
  clear hK
  conv => arg 2; whnf
  go_wp2_with fail
  refine HK.out _ _ ?_
  clear HK K
  rw [dropSeq_succ]
  clear k1
  have HRI := Lib.hid (RI.of_owns HO3.out (by rw [← HRL.out]; have := reach_len HX.out.2.2.1; simp [Dm.loose]; omega))
  refine wp_two_k (c := dropSeq 11 op0) ⟨_, _, rfl⟩ fun K hK => ?_
  have HK := Lib.hid hK
  clear hK
  conv => arg 2; whnf
  go_wp2_with fail
  go_loop [19, 126] (fun b v => ∃ k : Nat, k ≤ rn ∧ v = .int .i64 (k : Int) ∧ b = .bool (decide (0 < cn) || (d.loose.2.take k).any fun n => decide (0 < n))) (fun _ v => rn - (intOf v).toNat)
  case atStart => exact ⟨0, by omega, rfl, by simp⟩
  case round =>
    obtain ⟨k, hk, rfl, rfl⟩ := hrel
    by_cases hlt : k < rn
    · obtain ⟨x, hx⟩ : ∃ x, d.loose.2[k]? = some x := ⟨_, List.getElem?_eq_getElem (by rw [HRL.out]; exact hlt)⟩
      obtain ⟨b', off', rfl, hc⟩ := HRI.out.2.2 k x hx
      unfold nV at hc
      have h9 : decide ((k : Int) < (rn : Int)) = true := by simp; omega
      have HT := Lib.hid (show ((d.loose.2.take (k + 1)).any fun n => decide (0 < n)) = (((d.loose.2.take k).any fun n => decide (0 < n)) || decide (0 < x)) by rw [List.take_add_one, hx]; simp [List.any_append])
      obtain ⟨b1, hb1⟩ : ∃ b1, b1 = (decide (0 < cn) || (d.loose.2.take k).any fun n => decide (0 < n)) := ⟨_, rfl⟩
      rw [← hb1]
      have HB1' := Lib.hid hb1
      have HLT := Lib.hid hlt
      clear hb1 hlt hk hx
      have hkb : k ≤ 1099511631873 := by have := HRI.out.2.1; have := HLT.out; omega
      by_cases hx0 : 0 < x
      · have h8 : decide (0 < x) = true := by simp; omega
        have HX0 := Lib.hid hx0
        clear hx0
        cases b1
        all_goals
          go_wp2_with fail
          go_round
          case rel => exact ⟨k + 1, HLT.out, by go_num, by rw [HT.out, ← Bool.or_assoc, ← HB1'.out]; simp [HX0.out]⟩
          case measure => have := HLT.out; simp [intOf]; omega
      · have h8 : decide (0 < x) = false := by simp; omega
        obtain rfl : x = 0 := by omega
        clear hx0
        cases b1
        all_goals
          go_wp2_with fail
          go_round
          case rel => exact ⟨k + 1, HLT.out, by go_num, by rw [HT.out, ← Bool.or_assoc, ← HB1'.out]; simp⟩
          case measure => have := HLT.out; simp [intOf]; omega
    · obtain rfl : k = rn := by omega
      have h9 : decide ((k : Int) < (k : Int)) = false := by simp
      have hlo : (decide (0 < cn) || (d.loose.2.take k).any fun n => decide (0 < n)) = looseB d := by
        rw [List.take_of_length_le (by rw [HRL.out]; exact Nat.le_refl _), HCN.out]; rfl
      rw [hlo]
      obtain ⟨lo, hlo2⟩ : ∃ lo, lo = looseB d := ⟨_, rfl⟩
      rw [← hlo2]
      have HLB := Lib.hid hlo2
      clear hlo hlo2 hlt hk
      go_wp2_with fail
      refine HK.out _ _ ?_
      rw [dropSeq_succ]
      clear HK HRI HO HO3 HLO k0
      have e9 := HB3.out.t.cells.2.2.2.2.2.2.2.2.1
      have e10 := HB3.out.t.cells.2.2.2.2.2.2.2.2.2.1
      have f9 := HB3.out.t.cells.2.2.2.2.2.2.2.2.2.2 9
      have f10 := HB3.out.t.cells.2.2.2.2.2.2.2.2.2.2 10
      refine wp_two_k (c := dropSeq 12 op0) ⟨_, _, rfl⟩ fun K hK => ?_
      have HK := Lib.hid hK
      clear hK
      conv => arg 2; whnf
      go_wp2_with fail
      refine HK.out _ _ ?_
      clear HK K
      rw [dropSeq_succ]
      clear e9 e10 f9 f10
      obtain ⟨hb4, hg4⟩ := row_setCell (i := 9) HB3.out.t.box (.bool lo)
      obtain ⟨ht4, hu4⟩ := HB3.out.t.own1 (T' := { T with held := m, l0 := lo }) hg4 hb4 rfl rfl
      have HB4 := Lib.hid (HB3.out.tiles ht4 hu4)
      obtain ⟨hb5, hg5⟩ := row_setCell (i := 10) HB4.out.t.box (.bool lo)
      obtain ⟨ht5, hu5⟩ := HB4.out.t.own1 (T' := { T with held := m, l0 := lo, l1 := lo }) hg5 hb5 rfl rfl
      have HB5 := Lib.hid (HB4.out.tiles ht5 hu5)
      have HU5 := Lib.hid (((UB.of_tiles (L := L) HU1.out).trans (UB.of_below HB13.out)).trans ((UB.of_tiles (L := L) hu4).trans (UB.of_tiles hu5)))
      clear hb4 hg4 ht4 hu4 hb5 hg5 ht5 hu5 HB4
      generalize (w3.setCell ⟨gt, 9, none⟩ (.bool lo)).setCell ⟨gt, 10, none⟩ (.bool lo) = w5 at HB5 HU5 ⊢
      have HCL := Lib.hid (claim_any w5 L gd d HB5.out.d tlN (by decide) (by have := HX.out.2.2.2.2.1; unfold maxLen; omega) HX.out.2.2.2.2.2)
      obtain ⟨co, hco⟩ : ∃ co, co = d.claimOf tlN + 1 := ⟨_, rfl⟩
      rw [← hco] at HCL ⊢
      clear hco
      refine wp_two_k (c := dropSeq 13 op0) ⟨_, _, rfl⟩ fun K hK => ?_
      have HK := Lib.hid hK
      clear hK
      conv => arg 2; whnf
      go_wp2_with (go_at_call 58; refine HCL.out.mono ?_; rintro e w6 ⟨rfl, hd6, hu6⟩; have hB6 := HB5.out.disk hd6 hu6; have e2 := hB6.t.cells.2.2.1; have f2 := hB6.t.cells.2.2.2.2.2.2.2.2.2.2 2; have HB6 := Lib.hid hB6; have HU6 := Lib.hid (HU5.out.trans (UB.of_disk hu6)); clear hd6 hu6 hB6)
      refine HK.out _ _ ?_
      clear HK K
      rw [dropSeq_succ]
      obtain ⟨hb7, hg7⟩ := row_setCell (i := 2) HB6.out.t.box (.int .i64 co)
      obtain ⟨ht7, hu7⟩ := HB6.out.t.own1 (T' := { T with held := m, l0 := lo, l1 := lo, cl := co }) hg7 hb7 rfl rfl
      have HB7 := Lib.hid (HB6.out.tiles ht7 hu7)
      have HU7 := Lib.hid (HU6.out.trans (UB.of_tiles hu7))
      clear e2 f2 hb7 hg7 ht7 hu7
      conv => arg 2; whnf
      go_wp2_with fail
      go_ret2
      rw [← HLB.out]
      exact ⟨gt, τ, Y, rfl, HB7.out, HU7.out.upd HX.out.1 HX.out.2.1, HX.out.2.1⟩
end Go.Proofs.YtgkehahklccacaaGreatDoor
namespace Go.Proofs.YtgkehahklccacaaGreatDoor
open Go Go.RowKit
set_option maxRecDepth 100000
set_option maxHeartbeats 1000000
set_option linter.unusedVariables false
set_option linter.unusedSimpArgs false

open Go.Maps Go.WideMaps Go.ChangeMaps
theorem ret_i {k : IntKind} {a b : Int} (h : a = b) : Ending.returned (.int k a) = .returned (.int k b) := by rw [h]
/-- What Within answers. -/
def wiP (x lo hi : Int) : Int := lo + x % (hi - lo + 1)
theorem wiP_le (x lo hi : Int) (h : lo ≤ hi) : lo ≤ wiP x lo hi ∧ wiP x lo hi ≤ hi := by
  have h1 := Int.emod_nonneg x (show hi - lo + 1 ≠ 0 by omega)
  have h2 := Int.emod_lt_of_pos x (show 0 < hi - lo + 1 by omega)
  unfold wiP; omega
theorem within_any (w : World) (x lo hi : Int) (hx0 : -9223372036854775808 ≤ x) (hx1 : x ≤ 9223372036854775807) (h0 : 0 ≤ lo) (h1 : lo ≤ hi) (h2 : hi ≤ 1099511627776) :
    Calls Tryz.prog 8 #[.int .i64 x, .int .i64 lo, .int .i64 hi] w fun e w' => e = .returned (.int .i64 (wiP x lo hi)) ∧ w' = w := by
  obtain ⟨m, hm⟩ : ∃ m, m = hi - lo + 1 := ⟨_, rfl⟩
  have ht1 : - m < x.tmod m := by
    have := Int.lt_tmod_of_pos x (show 0 < m by omega); omega
  have ht2 : x.tmod m < m := Int.tmod_lt_of_pos x (by omega)
  have he : x % m = if x.tmod m < 0 then x.tmod m + m else x.tmod m := by
    by_cases hs : 0 ≤ x
    · rw [Int.tmod_eq_emod_of_nonneg hs, if_neg (by have := Int.emod_nonneg x (show m ≠ 0 by omega); omega)]
    · have e1 := Int.tmod_eq_emod (a := x) (b := m)
      have e2 := Int.emod_nonneg x (show m ≠ 0 by omega)
      have e3 := Int.emod_lt_of_pos x (show 0 < m by omega)
      by_cases hd : m ∣ x
      · rw [if_pos (Or.inr hd)] at e1
        have := Int.emod_eq_zero_of_dvd hd
        rw [if_neg (by omega)]; omega
      · rw [if_neg (by rintro (h | h) <;> contradiction)] at e1
        have e4 : x % m ≠ 0 := fun e => hd (Int.dvd_of_emod_eq_zero e)
        rw [if_pos (by omega)]; omega
  have hw : wiP x lo hi = lo + x % m := by unfold wiP; rw [hm]
  have hne : (m == 0) = false := by simp; omega
  have hmm : hi - lo + 1 = m := hm.symm
  rw [hw, he]
  generalize hT : x.tmod m = t at *
  have HT := Lib.hid hT
  have HM := Lib.hid hm
  clear hw he hm
  go_enter Tryz.func8, Tryz.ntmps8
  by_cases ht : t < 0
  · rw [if_pos ht]
    go_wp2
    go_ret
    exact ⟨ret_i (by have := HM.out; omega), rfl⟩
  · rw [if_neg ht]
    go_wp2
    go_ret
    exact ⟨rfl, rfl⟩
theorem byte_of (x : Int) (h0 : 0 ≤ x) (h1 : x < 256) : ∃ c : UInt8, Value.int .u8 x = b8 c := by
  refine ⟨UInt8.ofNat x.toNat, ?_⟩
  unfold b8
  rw [show (UInt8.ofNat x.toNat).toNat = x.toNat by simp; omega]
  congr 1
  omega
theorem dg_store {w : World} {g : Nat} {l : Dg} (h : w.heap[g]? = some (.cells (dgA l.1) 38 (0, 0))) (p : Nat) (v : Value) (hv : ∃ c : UInt8, v = b8 c) : ∃ l' : Dg, (w.setCell ⟨g, p, none⟩ v).heap[g]? = some (.cells (dgA l'.1) 38 (0, 0)) := by
  obtain ⟨c, rfl⟩ := hv
  refine ⟨⟨l.1.set p c, by rw [List.length_set]; exact l.2⟩, ?_⟩
  rw [heap_setCell_same w g p _ _ (b8 c) h]
  congr 2
  unfold dgA
  simp [List.map_set]
theorem dg_cell {w : World} {g : Nat} {l : Dg} (h : w.heap[g]? = some (.cells (dgA l.1) 38 (0, 0))) (p : Nat) (hp : p < 32) : ∃ v, w.cell? ⟨g, p, none⟩ = some v :=
  ⟨_, (cell_of_row w g p _ _ _ h).trans (Array.getElem?_eq_getElem (by rw [dgA_size, l.2]; exact hp))⟩
def zDg : Dg := ⟨List.replicate 32 0, rfl⟩
theorem zdg_eq : dgA zDg.1 = Array.replicate 32 (.int .u8 0) := by rfl
/-- Some digest. -/
def DgRet (w : World) (e : Ending) (w' : World) : Prop := ∃ d : Dg, e = .returned (.agg (dgA d.1)) ∧ Below w.heap.size w w'
set_option maxHeartbeats 4000000
theorem leafof_any (w : World) (x y : Int) :
    Calls Tryz.prog 36 #[.int .i64 x, .int .i64 y] w (DgRet w) := by
  go_enter Tryz.func36, Tryz.ntmps36
  go_upto_region 2 with (fail)
  obtain ⟨o1, ho1⟩ : ∃ o1 : Obj, o1 = .cells #[.int .u8 0, .int .u8 0, .int .u8 0, .int .u8 0, .int .u8 0, .int .u8 0, .int .u8 0, .int .u8 0, .int .u8 0, .int .u8 0, .int .u8 0, .int .u8 0, .int .u8 0, .int .u8 0, .int .u8 0, .int .u8 0, .int .u8 0, .int .u8 0, .int .u8 0, .int .u8 0, .int .u8 0, .int .u8 0, .int .u8 0, .int .u8 0, .int .u8 0, .int .u8 0, .int .u8 0, .int .u8 0, .int .u8 0, .int .u8 0, .int .u8 0, .int .u8 0] 38 := ⟨_, rfl⟩
  rw [← ho1]
  obtain ⟨w2, hw2⟩ : ∃ w2, w2 = (w.alloc o1).alloc o1 := ⟨_, rfl⟩
  obtain ⟨r0, hr0⟩ : ∃ r0, r0 = w.heap.size := ⟨_, rfl⟩
  obtain ⟨d5, hd5⟩ : ∃ d5, d5 = r0 + 1 := ⟨_, rfl⟩
  have hz2 : w2.heap.size = d5 + 1 := by rw [hw2, World.size_alloc, World.size_alloc]; omega
  have ho2 : o1 = .cells (dgA zDg.1) 38 (0, 0) := by rw [ho1]; rfl
  have hh5 : w2.heap[d5]? = some (.cells (dgA zDg.1) 38 (0, 0)) := by rw [hw2, hd5, hr0, ← World.size_alloc w o1, heap_alloc_new, ho2]
  have hh0 : w2.heap[r0]? = some (.cells (dgA zDg.1) 38 (0, 0)) := by
    have e1 : (w.alloc o1).heap[r0]? = some o1 := by rw [hr0]; exact heap_alloc_new _ _
    have e2 := ((Below.refl (w.alloc o1).heap.size (w.alloc o1)).alloc (Nat.le_refl _) o1).block r0 (by rw [World.size_alloc]; omega)
    rw [hw2, ← ho2]
    exact e2.trans e1
  have hb2 : Below r0 w w2 := by rw [hw2, hr0]; exact ((Below.refl _ _).alloc (Nat.le_refl _) _).alloc (by simp) _
  rw [← hw2, ← hr0, ← hd5]
  have HH5 := Lib.hid hh5; have HH0 := Lib.hid hh0; have HB2 := Lib.hid hb2; have HZ2 := Lib.hid hz2; have HD5 := Lib.hid hd5; have HR0 := Lib.hid hr0
  clear hh5 hh0 hb2 hz2 hd5 hr0 hw2 ho1 ho2 o1
  generalize hX : IntKind.u64.wrap (IntKind.u64.wrap (IntKind.u64.wrap x * 2654435769) + IntKind.u64.wrap y) = X0
  go_upto_region 4 with (fail)
  clear hX
  go_loopw [7, 6] (fun v z wr => ∃ k : Nat, k ≤ 4 ∧ v = .int .i64 ((8 * k : Nat) : Int) ∧ (∃ X : Int, z = .int .u64 X) ∧ (∃ l : Dg, wr.heap[d5]? = some (.cells (dgA l.1) 38 (0, 0))) ∧ Below d5 w2 wr) (fun v _ _ => 32 - (intOf v).toNat)
  case atStart => exact ⟨0, by omega, rfl, ⟨_, rfl⟩, ⟨zDg, HH5.out⟩, Below.refl _ _⟩
  case round =>
    rename World => wo
    obtain ⟨k, hk, rfl, ⟨X, rfl⟩, ⟨l, hl⟩, hb⟩ := hrel
    obtain ⟨k8, hk8⟩ : ∃ k8, k8 = 8 * k := ⟨_, rfl⟩
    rw [← hk8]
    have HL := Lib.hid hl; have HB := Lib.hid hb; have HK8 := Lib.hid hk8; have HK := Lib.hid hk
    by_cases hlt : k < 4
    · have h9 : decide ((k8 : Int) < 32) = true := by simp; omega
      have hk32 : k8 ≤ 24 := by omega
      have HLT := Lib.hid hlt
      clear hl hb hk8 hk hlt
      go_upto_region 11 with (fail)
      clear h9
      go_loopw [9] (fun v wr => ∃ j : Nat, j ≤ 8 ∧ v = .int .i64 (j : Int) ∧ (∃ l : Dg, wr.heap[d5]? = some (.cells (dgA l.1) 38 (0, 0))) ∧ Below d5 w2 wr) (fun v _ => 8 - (intOf v).toNat)
      case atStart => exact ⟨0, by omega, rfl, ⟨l, HL.out⟩, HB.out⟩
      case round =>
        obtain ⟨j, hj, rfl, ⟨l2, hl⟩, hb⟩ := hrel
        have HL2 := Lib.hid hl; have HB3 := Lib.hid hb; have HJ := Lib.hid hj
        by_cases hlt : j < 8
        · have h9 : decide ((j : Int) < 8) = true := by simp; omega
          have hj7 : j ≤ 7 := by omega
          obtain ⟨p, hp⟩ : ∃ p, p = k8 + j := ⟨_, rfl⟩
          have hp31 : p < 32 := by omega
          have hkj : (k8 : Int) + (j : Int) = (p : Int) := by omega
          obtain ⟨q, hq⟩ : ∃ q, q = 8 * j := ⟨_, rfl⟩
          have hqj : 8 * (j : Int) = (q : Int) := by omega
          have hq56 : q ≤ 56 := by omega
          have hp0 : (0 : Int) ≤ (q : Int) := by omega
          obtain ⟨v0, hv0⟩ := dg_cell hl p hp31
          have hf0 := frozen_of_row wr d5 p _ _ hl
          have HLT2 := Lib.hid hlt
          clear hl hb hj hp hq hlt
          go_wp2_with fail
          refine ⟨⟨j + 1, by have := HLT2.out; omega, by go_num, dg_store HL2.out p _ (byte_of _ ?_ ?_), HB3.out.setCell (Nat.le_refl _) _⟩, by have := HLT2.out; simp [intOf]; omega⟩
          · exact Int.emod_nonneg _ (by decide)
          · exact Int.emod_lt_of_pos _ (by decide)
        · obtain rfl : j = 8 := by omega
          have h9 : decide (((8 : Nat) : Int) < 8) = false := by decide
          clear hl hb hj hlt
          go_wp2_with fail
          go_roundw
          case rel => exact ⟨k + 1, by have := HLT.out; omega, by (rw [show 8 * (k + 1) = k8 + 8 by have := HK8.out; omega]; go_num), ⟨_, rfl⟩, ⟨l2, HL2.out⟩, HB3.out⟩
          case measure => have := hk32; simp [intOf]; omega
    · obtain rfl : k = 4 := by omega
      have h9 : decide (((32 : Nat) : Int) < 32) = false := by decide
      obtain rfl : k8 = 32 := by omega
      have hO := (hb.block r0 (by have := HD5.out; omega)).trans HH0.out
      have HTH := Lib.hid (there_block hO)
      obtain ⟨E, hE⟩ : ∃ E, E = dgA l.1 := ⟨_, rfl⟩
      have HE := Lib.hid hE
      have HDS := Lib.hid (show E.size = 32 by rw [hE, dgA_size, l.2])
      have HE1 := Lib.hid (show E.all (·.oneCell') = true by rw [hE]; exact dgA_all _)
      rw [← hE] at hl
      have HL9 := Lib.hid hl
      have HGF := Lib.hid (setCells_all hO E.toList (by rw [Array.length_toList, HDS.out]; rfl))
      clear hlt hk hl hb hO hk8 hE
      go_upto_region 14 with (fail)
      clear h9
      refine wp_region_lit ?_
      refine wpList_load_row rfl 38 (.tmp 5) (by rfl) d5 (by rfl) 38 E (0, 0) _ HL9.out Tryz.underlying38 rfl (by rw [HDS.out]; exact info38) ?_
      refine wpList_store_mid rfl 38 (.tmp 4) (.tmp 50) (by rfl) r0 0 E (by rfl) (by rfl) (by rw [HDS.out]; exact HTH.out) (by rw [HDS.out]; exact info38) HE1.out ?_
      have HB9 := Lib.hid ((HB2.out.trans (HB.out.mono (by have := HD5.out; omega))).grown (setCells_grown r0 E.toList 0 wo) (by have := HB.out.size; have := HZ2.out; have := HD5.out; omega) (fun k hk => by rw [← Option.some.inj hk]; exact Nat.le_refl _))
      generalize wo.setCells r0 0 E.toList = w9 at *
      have hGF : w9.heap[r0]? = some (.cells E 38 (0, 0)) := by have := HGF.out; simpa using this
      have HGF9 := Lib.hid hGF
      clear HGF hGF
      go_wp2_with fail
      refine bodyPost_ret (v := .agg E) (results_cell_row (p := 4) (ty := 38) rfl _ _ r0 38 E (0, 0) _ rfl HGF9.out Tryz.underlying38 rfl (by rw [HDS.out]; exact info38)) rfl ⟨l, by rw [HE.out], ?_⟩
      rw [← HR0.out]
      exact HB9.out
end Go.Proofs.YtgkehahklccacaaGreatDoor
namespace Go.Proofs.YtgkehahklccacaaGreatDoor
open Go Go.RowKit
set_option maxRecDepth 100000
set_option maxHeartbeats 1000000
set_option linter.unusedVariables false
set_option linter.unusedSimpArgs false

open Go.Maps Go.WideMaps Go.ChangeMaps
/-- A row of digests in new memory. -/
def RowRet (w : World) (n : Nat) (e : Ending) (w' : World) : Prop := ∃ (g : Nat) (l : List Dg), e = .returned (.slice (some ⟨g, 0, none⟩) n n) ∧ w.heap.size ≤ g ∧ l.length = n ∧ DS w' (some ⟨g, 0, none⟩) n n l ∧ g < w'.heap.size ∧ Below w.heap.size w w'
set_option maxHeartbeats 4000000
theorem row_any (w : World) (x : Int) (n : Nat) (hn : n ≤ 60000) :
    Calls Tryz.prog 9 #[.int .i64 x, .int .i64 (n : Int)] w (RowRet w n) := by
  have HN := Lib.hid hn
  go_enter Tryz.func9, Tryz.ntmps9
  go_upto_region 2 with (refine L_make rfl (.tmp 7) (.tmp 7) 23 (by rfl) sl23 w.heap.size .i64 .i64 n n (by rfl) (by rfl) rfl (by omega) (by unfold maxLen; omega) (Nat.le_refl _) (fun w3 ho3 hg3 => ?_))
  obtain ⟨gl, hgle⟩ : ∃ gl, gl = w.heap.size := ⟨_, rfl⟩
  rw [← hgle] at ho3 ⊢
  obtain ⟨-, hx⟩ := ho3
  have hcur : ∃ (l : List Dg) (rst : List Value), l.length = 0 ∧ rst.length = 32 * (n - 0) ∧ w3.heap[gl]? = some (.cells (l.flatMap dgE ++ rst).toArray 38 (0, 0)) := by
    rcases hx with ⟨hv, -⟩ | ⟨g, cap, cur, hv, -, hc, -, -, hs, -⟩
    · cases hv
    · have := Value.slice.inj hv
      have e1 := this.1
      have e3 := this.2.2
      cases e1
      subst e3
      exact ⟨[], cur.toList, rfl, by simp at hs ⊢; omega, by simpa using hc⟩
  have hb3 : Below w.heap.size w w3 := (Below.refl _ _).grown hg3 (Nat.le_refl _) (by intro k hk; cases hk)
  have HCUR := Lib.hid hcur
  have HB3 := Lib.hid hb3
  have HGL := Lib.hid hgle
  clear hx hcur hb3 hgle hg3 hn
  go_wp2_with fail
  go_loopw [6] (fun v wr => ∃ k : Nat, k ≤ n ∧ v = .int .i64 k ∧ (∃ (l : List Dg) (rst : List Value), l.length = k ∧ rst.length = 32 * (n - k) ∧ wr.heap[gl]? = some (.cells (l.flatMap dgE ++ rst).toArray 38 (0, 0))) ∧ Below w.heap.size w wr) (fun v _ => n - (intOf v).toNat)
  case atStart => exact ⟨0, by omega, rfl, HCUR.out, HB3.out⟩
  case round =>
    obtain ⟨k, hk, rfl, ⟨l, rst, hlk, hrl, hcc⟩, hb⟩ := hrel
    have HB := Lib.hid hb
    have HCC := Lib.hid hcc
    have HLK := Lib.hid hlk
    have HRL := Lib.hid hrl
    by_cases hlt : k < n
    · have HLT := Lib.hid hlt
      have h9 : decide ((k : Int) < (n : Int)) = true := by simp; omega
      have HDA := Lib.hid (leafof_any wr x (k : Int))
      have hk6 : k ≤ 60000 := by have := HN.out; omega
      clear hk hb hcc hlk hrl hlt
      go_upto_region 5 with (fail)
      clear h9
      go_wp2_with fail
      with_reducible refine HDA.out.mono ?_
      rintro e w4 ⟨d, rfl, hb4⟩
      have hgl4 := (hb4.block gl ((Array.getElem?_eq_some_iff.1 HCC.out).1)).trans HCC.out
      obtain ⟨E, hE⟩ : ∃ E, E = dgA d.1 := ⟨_, rfl⟩
      have HES := Lib.hid (show E.size = 32 by rw [hE, dgA_size, d.2])
      have HE1 := Lib.hid (show E.all (·.oneCell') = true by rw [hE]; exact dgA_all _)
      have hpl : (l.flatMap dgE).length = k * 32 := by rw [flatE_len, HLK.out]
      have hsw := setCells_whole gl E.toList _ _ w4 38 hgl4 (by rw [Array.length_toList, HES.out, HRL.out]; have := HLT.out; omega)
      rw [hpl] at hsw
      have HTH := Lib.hid (show w4.there gl (k * 32) E.size from fun j hj => by
        have h0 := there_block hgl4
        have := h0 (k * 32 + j) (by rw [List.size_toArray, List.length_append, hpl, HRL.out]; have := HLT.out; have := HES.out; omega)
        rwa [Nat.zero_add] at this)
      have HSW := Lib.hid hsw
      have HGS := Lib.hid (setCells_grown gl E.toList (k * 32) w4)
      have HE := Lib.hid hE
      have HB4 := Lib.hid (HB.out.trans (hb4.mono HB.out.size))
      rw [← hE]
      clear hb4 hgl4 hE hpl hsw
      go_wp2_with (refine wpList_store_mid rfl 38 (.tmp 19) (.tmp 18) (by rfl) gl (k * 32) E (by rfl) (by rfl) HTH.out (by rw [HES.out]; exact info38) HE1.out ?_)
      have hcc5 : ∃ (l' : List Dg) (rst' : List Value), l'.length = k + 1 ∧ rst'.length = 32 * (n - (k + 1)) ∧ (w4.setCells gl (k * 32) E.toList).heap[gl]? = some (.cells (l'.flatMap dgE ++ rst').toArray 38 (0, 0)) := by
        refine ⟨l ++ [d], rst.drop 32, by rw [List.length_append, HLK.out]; rfl, by rw [List.length_drop, HRL.out]; have := HLT.out; omega, ?_⟩
        rw [HSW.out, List.flatMap_append, Array.length_toList, HES.out]
        have : E.toList = [d].flatMap dgE := by
          rw [HE.out]
          simp [dgA, dgE]
        rw [this]
      have HC5 := Lib.hid hcc5
      have HB5 := Lib.hid (HB4.out.grown HGS.out HB4.out.size (fun q hq => by rw [← Option.some.inj hq, HGL.out]; exact Nat.le_refl _))
      clear hcc5
      go_roundw
      case rel => exact ⟨k + 1, by have := HLT.out; omega, by go_num, HC5.out, HB5.out⟩
      case measure => have := HLT.out; simp [intOf]; omega
    · obtain rfl : k = n := by omega
      have h9 : decide ((k : Int) < (k : Int)) = false := by simp
      have hnil : rst = [] := List.eq_nil_of_length_eq_zero (by rw [hrl]; omega)
      rw [hnil, List.append_nil] at hcc
      have HDS := Lib.hid (show DS wr (some ⟨gl, 0, none⟩) k k l from ⟨hlk, Nat.le_refl _, by have := HN.out; omega, fun i x hx => ⟨gl, 0, rfl, fun j v hv => by
        rw [cell_of_row _ _ _ _ _ _ hcc, Nat.zero_add, List.getElem?_toArray]
        exact flat_get dgE 32 dgE_len _ i x hx j v hv⟩⟩)
      have HGW := Lib.hid (Array.getElem?_eq_some_iff.1 hcc).1
      clear hlt hk hcc hrl hlk hnil hb
      go_wp2_with fail
      go_ret
      exact ⟨gl, l, rfl, by rw [HGL.out]; exact Nat.le_refl _, HLK.out, HDS.out, HGW.out, HB.out⟩
set_option maxHeartbeats 4000000
/-- The leaves of a row, as over hands them in. -/
theorem leaf1_any (w : World) (bn bl : Nat) (a : Option Addr) (n c n0 i : Nat) (l : List Dg) (d : Dg) (hcn : w.cell? ⟨bn, 0, none⟩ = some (.int .i64 (n0 : Int))) (hcl : w.cell? ⟨bl, 0, none⟩ = some (.slice a n c)) (hd : DS w a n c l) (hi : l[i]? = some d) (h0 : i < n0) (hn : n ≤ 60000) :
    Calls Tryz.prog 38 #[.int .i64 (i : Int), .pointer (some ⟨bn, 0, none⟩), .pointer (some ⟨bl, 0, none⟩)] w fun e w' => e = .returned (.agg (dgA d.1)) ∧ Below w.heap.size w w' := by
  obtain ⟨b, off, rfl, hlt, hr⟩ := hd.at hi
  have hin : i < n := by have := hd.1; have := (List.getElem?_eq_some_iff.1 hi).1; omega
  obtain ⟨E, hE⟩ : ∃ E, E = dgA d.1 := ⟨_, rfl⟩
  have HES := Lib.hid (show E.size = 32 by rw [hE, dgA_size, d.2])
  have HE1 := Lib.hid (show E.all (·.oneCell') = true by rw [hE]; exact dgA_all _)
  have hr : w.rangeAt b (off + i * 32) E.toList := by rw [hE]; simpa [dgA] using hr
  rw [← hE]
  have h8 : decide ((i : Int) < 0) = false := by simp
  have h9 : decide (n0 ≤ i) = false := by simp; omega
  obtain ⟨o1, ho1⟩ : ∃ o1 : Obj, o1 = .cells #[.int .u8 0, .int .u8 0, .int .u8 0, .int .u8 0, .int .u8 0, .int .u8 0, .int .u8 0, .int .u8 0, .int .u8 0, .int .u8 0, .int .u8 0, .int .u8 0, .int .u8 0, .int .u8 0, .int .u8 0, .int .u8 0, .int .u8 0, .int .u8 0, .int .u8 0, .int .u8 0, .int .u8 0, .int .u8 0, .int .u8 0, .int .u8 0, .int .u8 0, .int .u8 0, .int .u8 0, .int .u8 0, .int .u8 0, .int .u8 0, .int .u8 0, .int .u8 0] 38 := ⟨_, rfl⟩
  obtain ⟨w1, hw1⟩ : ∃ w1, w1 = w.alloc o1 := ⟨_, rfl⟩
  have hb1 : Below w.heap.size w w1 := by rw [hw1]; exact (Below.refl _ _).alloc (Nat.le_refl _) _
  have hO : w1.heap[w.heap.size]? = some (.cells (dgA zDg.1) 38 (0, 0)) := by rw [hw1, heap_alloc_new, ho1]; rfl
  have hr1 : w1.rangeAt b (off + i * 32) E.toList := fun j v hv => (World.cell?_of_block (hb1.block b hlt)).trans (hr j v hv)
  have c1 := (hb1.cell (p := ⟨bn, 0, none⟩) (World.block_lt_of_cell? w _ hcn)).trans hcn
  have c2 := (hb1.cell (p := ⟨bl, 0, none⟩) (World.block_lt_of_cell? w _ hcl)).trans hcl
  have HTH := Lib.hid (there_block hO)
  have HGF := Lib.hid (setCells_all hO E.toList (by rw [Array.length_toList, HES.out]; rfl))
  have HR1 := Lib.hid hr1
  have HB1 := Lib.hid hb1
  have hw2 : w.alloc (.cells #[.int .u8 0, .int .u8 0, .int .u8 0, .int .u8 0, .int .u8 0, .int .u8 0, .int .u8 0, .int .u8 0, .int .u8 0, .int .u8 0, .int .u8 0, .int .u8 0, .int .u8 0, .int .u8 0, .int .u8 0, .int .u8 0, .int .u8 0, .int .u8 0, .int .u8 0, .int .u8 0, .int .u8 0, .int .u8 0, .int .u8 0, .int .u8 0, .int .u8 0, .int .u8 0, .int .u8 0, .int .u8 0, .int .u8 0, .int .u8 0, .int .u8 0, .int .u8 0] 38) = w1 := by rw [hw1, ho1]
  have HIN := Lib.hid hin
  have HE := Lib.hid hE
  obtain ⟨r0, hr0⟩ : ∃ r0, r0 = w.heap.size := ⟨_, rfl⟩
  clear hcn hcl hd hi h0 hr hO hr1 hb1 hin hE hw1 ho1
  go_enter Tryz.func38, Tryz.ntmps38
  go_upto_region 1 with (fail)
  rw [← hr0]
  rw [← hr0] at HTH HGF HB1
  have HR0 := Lib.hid hr0
  clear hw2 hr0
  go_wp2_with (first
    | (refine L_load_arr rfl 38 (.tmp 15) (by rfl) b (off + i * 32) (by rfl) E _ HR1.out Tryz.underlying38 rfl (by rw [HES.out]; exact info38) ?_)
    | (refine wpList_store_mid rfl 38 (.tmp 4) (.tmp 16) (by rfl) r0 0 E (by rfl) (by rfl) (by rw [HES.out]; exact HTH.out) (by rw [HES.out]; exact info38) HE1.out ?_))
  have HB9 := Lib.hid (HB1.out.grown (setCells_grown r0 E.toList 0 w1) (by rw [HR0.out]; have := HB1.out.size; have := HR0.out; omega) (fun k hk => by rw [← Option.some.inj hk]; exact Nat.le_refl _))
  generalize w1.setCells r0 0 E.toList = w9 at *
  have hGF : w9.heap[r0]? = some (.cells E 38 (0, 0)) := by have := HGF.out; simpa using this
  have HGF9 := Lib.hid hGF
  refine bodyPost_ret (v := .agg E) (results_cell_row (p := 4) (ty := 38) rfl _ _ r0 38 E (0, 0) _ rfl HGF9.out Tryz.underlying38 rfl (by rw [HES.out]; exact info38)) rfl ⟨rfl, ?_⟩
  rw [← HR0.out]
  exact HB9.out
end Go.Proofs.YtgkehahklccacaaGreatDoor
