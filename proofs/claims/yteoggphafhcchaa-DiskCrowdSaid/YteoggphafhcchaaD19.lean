import Derived.Test.YteoggphafhcchaaD18
namespace Go.Proofs.Yteoggphafhcchaa
open Go Go.RowKit
set_option maxRecDepth 100000
set_option maxHeartbeats 1000000
set_option linter.unusedVariables false
set_option linter.unusedSimpArgs false
open Go.Maps Go.WideMaps Go.ChangeMaps
theorem image_any (w : World) (b n : Nat) (DF : DataW Unit) (hm : w.ownsMap Try.prog 9 lenR b n DF) (hn : n ≤ 5000) (hl : ∀ s, has DF (kL s) = true → legalB s = true) (h4 : size DF ≤ 4096) (h0 : 0 < size DF)
    (hz : ∀ kl, has DF kl = true → ∀ zd, DF.atKey kl zd = .lit (.int .i64 0)) :
    Calls Try.prog 6 #[.map (some b), .int .i64 0] w fun e w' => (∃ gd d D, e = .returned (.tuple #[.pointer (some ⟨gd, 0, none⟩), .nilIface]) ∧ New w' w.heap.size gd d (size DF) D ∧ d.files = size DF ∧ size D = size DF ∧
      (∀ s : ByteArray, at? D s = .nil ↔ has DF (kL s) = false) ∧ ∀ s : ByteArray, has D (kL s) = true ↔ has DF (kL s) = true) ∧ Below w.heap.size w w' := by
  have HM := Lib.hid hm
  have HZ := Lib.hid hz
  have HR := Lib.hid (show ∀ r', FitsOut DF r' → r' = 0 by
    intro r' h
    rcases h with ⟨⟨s, h1, h2⟩, -⟩ | ⟨-, ⟨h1, -⟩ | ⟨-, h1⟩⟩
    · rw [hl s h2] at h1; cases h1
    · omega
    · exact h1 hz)
  clear hm hl hz
  go_enter Try.func6, Try.ntmps6
  go_wp2_with (go_at_call 13; refine (new_any _).mono ?_; rintro e w1 ⟨⟨gd, d, rfl, hnew, hfl⟩, hb1⟩)
  have HB1 := Lib.hid hb1
  have HM1 := Lib.hid (show w1.ownsMap Try.prog 9 lenR b n DF from HM.out.kept (gwk hb1) (by simp))
  have HN1 := Lib.hid hnew
  have HFL := Lib.hid hfl
  clear hb1 hnew hfl
  go_wp2_with (first
    | (go_at_call 15; refine (fits_any _ b n DF HM1.out hn).mono ?_; rintro e w2 ⟨⟨r', rfl, hf⟩, hb2⟩; have e0 := HR.out r' hf; subst e0)
    | (go_at_call 17; refine ((callsIn_wide (n := 5)).1 (Try.maps_Keys_17 _ _)).mono ?_; rintro e w3 ⟨rfl, rfl⟩)
    | (go_at_call 16; refine ((callsIn_wide (n := 5)).1 (Try.slices_Sorted_keys_16_17 b n DF lenR w2 (HM1.out.kept (gwk hb2) (by simp)) (by unfold maxLen; omega) (by omega))).mono ?_; rintro e w4 ⟨v, ss, rfl, hS, hrow, hnil, hb4⟩
       obtain ⟨hN, hnd, hmem, hle⟩ := str_facts HM1.out
       obtain ⟨L, hL⟩ : ∃ L, L = ss.mergeSort (fun x y => decide (x ≤ y)) := ⟨_, rfl⟩
       have hLp : L.Perm (strKeys DF) := by rw [hL]; exact (List.mergeSort_perm ss _).trans hS
       rw [← hL] at hrow
       have hss : ss.length = size DF := by rw [hS.length_eq, hN]
       obtain ⟨rb, cap, cs, rfl, hrb, hcs, hLN, hat⟩ := row_block hrow (by omega)
       rw [hss]))
  have HB4 := Lib.hid (show Below w1.heap.size w1 w4 from (hb2.alloc (by have := hb2.size; omega) _).trans (hb4.mono (by have := hb2.size; simp; omega)))
  have HBW4 := Lib.hid (HB1.out.trans (HB4.out.mono HB1.out.size))
  have HN4 := Lib.hid (HN1.out.below HB4.out)
  have HM4 := Lib.hid (show w4.ownsMap Try.prog 9 lenR b n DF from HM1.out.kept (gwk HB4.out) (by simp))
  have HL := Lib.hid (show L.Nodup ∧ (∀ x ∈ L, x.length ≤ maxLen) ∧ ∀ x, x ∈ L ↔ has DF (.string x) = true from ⟨hLp.nodup_iff.2 hnd, fun x hx => hle x (hLp.mem_iff.1 hx), fun x => hLp.mem_iff.trans (hmem x)⟩)
  have HAT := Lib.hid hat
  have HCS := Lib.hid hcs
  have hLn : L.length = size DF := by omega
  clear hb2 hf hS hrow hnil hb4 hN hnd hmem hle hL hLp hss hat hcs hLN hrb
  go_wp2_with fail
  go_loopw [33] (fun i wr => ∃ (k : Nat) (D : DataW Unit) (d' : Dk), k ≤ size DF ∧ i = .int .i64 k ∧ New wr w.heap.size gd d' k D ∧ d'.nb = d.nb ∧ d'.sb = d.sb ∧ d'.files = k ∧ Hid (Nms L k D) ∧ Oi gd d.nb d.sb w4 wr)
    (fun i _ => size DF - (intOf i).toNat)
  case atStart =>
    exact ⟨0, _, d, Nat.zero_le _, rfl, HN4.out, rfl, rfl, HFL.out, Nms.zero L, Oi.refl _ _ _ _⟩
  case round =>
    obtain ⟨k, D, d', hk, rfl, hnw, e1, e2, e3, hnm, hoi⟩ := hrel
    by_cases hkl : k < size DF
    · obtain ⟨l, hl⟩ : ∃ l, L[k]? = some l := ⟨L[k]'(by omega), List.getElem?_eq_getElem _⟩
      have hlm : l ∈ L := List.mem_of_getElem? hl
      have hls : (bs l).size ≤ maxLen := HL.out.2.1 l hlm
      have hrbl : rb < w4.heap.size := (Array.getElem?_eq_some_iff.1 HCS.out).1
      obtain ⟨n1, n2⟩ := HN4.out.nmap
      have hrg : rb ≠ gd := fun e => by have := HCS.out; rw [e, HN4.out.g] at this; simp at this
      have hrn : rb ≠ d.nb := map_ne HN4.out.m HCS.out
      obtain ⟨D2, hm2⟩ := HN4.out.m2
      have hrs : rb ≠ d.sb := map_ne hm2 HCS.out
      have hcr : wr.heap[rb]? = some (.cells cs 9 (0, 0)) := (hoi.block rb hrbl hrg hrn hrs).trans HCS.out
      have hcell : wr.cell? ⟨rb, k, none⟩ = some (.string (bs l)) := by rw [cell_of_row _ _ _ _ _ _ hcr]; exact HAT.out k l hl
      have hsz : wrap64 (d'.files + 1) = d'.files + 1 := by rw [e3]; unfold wrap64; omega
      have HNW := Lib.hid hnw
      have HOI := Lib.hid hoi
      have HNM := Lib.hid hnm
      clear hnw hoi hnm hm2
      go_wp2_with (first
        | (go_at_call 18; refine (file_any _ gd d' HNW.out.g hsz).mono ?_; rintro e w5 ⟨⟨g, rfl, hge, hfe⟩, hg5, hgr5⟩
           have HN5 := Lib.hid (show New w5 w.heap.size gd ({ d' with files := d'.files + 1 } : Dk) k D from HNW.out.again hgr5 hg5 rfl rfl rfl rfl rfl rfl rfl)
           have HO5 := Lib.hid (HOI.out.trans (Oi.of_grown hgr5 (fun k e => .inl (Option.some.inj e).symm)))
           have HF5 := Lib.hid hfe
           have HBW := Lib.hid (HBW4.out.trans (HO5.out.below (B := w.heap.size) HN4.out.hB HN4.out.mB HN4.out.sB HBW4.out.size))
           have hlk : (Instr.lookup 23 (.map (some b)) (.string (bs l)) false).run Try.prog w5 = .ok (.slice none 0 0) w5 := by
             obtain ⟨v, ps, hrun, hv⟩ := (HM.out.kept (gwk HBW.out) (by simp)).lookup law9 Try.underlying23 (show (zeroValue 24).run Try.prog w5 = .ok (.slice none 0 0) w5 from by kernel_rfl) (zd := .lit (.int .i64 0)) (zp := []) rfl (key9 hls)
             rw [HZ.out _ ((HL.out.2.2 l).1 hlm)] at hv
             rcases lenR_cases hv with ⟨rfl, -⟩ | ⟨-, e⟩
             · exact hrun
             · cases e
           obtain ⟨num, hfl⟩ := hfe
           have c1 : w5.cell? ⟨g, 1, none⟩ = some (.slice none 0 0) := by rw [cell_of_row _ _ _ _ _ _ hfl]; rfl
           have c2 : w5.cell? ⟨g, 2, none⟩ = some (.slice none 0 0) := by rw [cell_of_row _ _ _ _ _ _ hfl]; rfl
           have f1 : w5.frozen? ⟨g, 1, none⟩ = false := frozen_of_row w5 g 1 _ _ hfl
           have f2 : w5.frozen? ⟨g, 2, none⟩ = false := frozen_of_row w5 g 2 _ _ hfl
           have s1 : w5.setCell ⟨g, 1, none⟩ (.slice none 0 0) = w5 := setCell_self hfl rfl
           have s2 : w5.setCell ⟨g, 2, none⟩ (.slice none 0 0) = w5 := setCell_self hfl rfl
           clear hg5 hgr5 hfl hcr hcell)
        | (go_at_call 19; refine (clone_nil _).mono ?_; rintro e w' ⟨rfl, rfl⟩))
      clear hlk s1 s2 f1 f2 c2
      obtain ⟨-, -, -, -, -, -, c6, c7, -⟩ := Dk.cells HN5.out.g
      obtain ⟨v0, st, v1, st1, q1, q2, q3, q4, r1, r2, r3, r4, hN6, hO6, hF6⟩ := (HN5.out.below ((Below.refl w'.heap.size w').drew)).lay (by unfold maxLen; omega) hls (g := g) (HF5.out)
      have HN6 := Lib.hid hN6
      have HO6 := Lib.hid hO6
      have HF6 := Lib.hid hF6
      clear hN6 hO6 hF6
      dsimp only at r1 r2 r3 r4 c6 c7
      rw [e1] at r1 r2
      rw [e2] at r3 r4
      go_region
      clear r1 r2 r3 r4 c6 c7
      have hu0 : d'.used = 0 := HN6.out.us
      obtain ⟨-, -, c2, -, -, -, -, -, -, -, -, fr⟩ := Dk.cells HN6.out.g
      dsimp only at c2
      rw [hu0] at c2
      have f2 := fr 2
      have hself : q4.setCell ⟨gd, 2, none⟩ (.int .i64 0) = q4 := setCell_self HN6.out.g (by show some (Value.int .i64 d'.used) = _; rw [hu0])
      have cd2 : q4.drew.cell? ⟨gd, 2, none⟩ = some (.int .i64 0) := c2
      have fd2 : q4.drew.frozen? ⟨gd, 2, none⟩ = false := f2
      have hsd : q4.drew.setCell ⟨gd, 2, none⟩ (.int .i64 0) = q4.drew := congrArg World.drew hself
      have cd1 : q4.drew.cell? ⟨g, 1, none⟩ = some (.slice none 0 0) := HF6.out.now
      clear c1 c2 f2 fr hself
      go_wp2_with fail
      go_region
      go_wp2_with fail
      refine ⟨⟨k + 1, _, _, by omega, by push_cast; rfl, HN6.out.below ((Below.refl q4.heap.size q4).drew), e1, e2, by show d'.files + 1 = _; rw [e3]; push_cast; rfl, HNM.out.step (HN5.out.m.tidy law9) HN5.out.m.isMap HL.out.1 hl g, ?_⟩, ?_⟩
      · have o1 := HO6.out
        rw [e1, e2] at o1
        exact ((HO5.out.trans (Oi.of_below ((Below.refl _ _).drew))).trans o1).trans (Oi.of_below ((Below.refl _ _).drew))
      · simp [intOf]
        omega
    · obtain rfl : k = size DF := by omega
      have HNW := Lib.hid hnw
      have HOI := Lib.hid hoi
      have HNM := Lib.hid hnm
      clear hnw hoi hnm
      go_wp2_with fail
      go_returns
      refine ⟨⟨gd, d', D, rfl, HNW.out, e3, HNM.out.1, fun s => ?_, fun s => ?_⟩, ?_⟩
      · rw [HNM.out.2.1 s, List.take_of_length_le (by omega), HL.out.2.2]
        simp
      · rw [HNM.out.2.2 s, List.take_of_length_le (by omega), HL.out.2.2]
      · exact HBW4.out.trans (HOI.out.below (B := w.heap.size) HN4.out.hB HN4.out.mB HN4.out.sB HBW4.out.size)
end Go.Proofs.Yteoggphafhcchaa
