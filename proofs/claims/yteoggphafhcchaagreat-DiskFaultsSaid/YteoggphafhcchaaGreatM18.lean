import Derived.Test.YteoggphafhcchaaGreatM17
namespace Go.Proofs.YteoggphafhcchaaGreat
open Go Go.RowKit
set_option maxRecDepth 100000
set_option maxHeartbeats 1000000
set_option linter.unusedVariables false
set_option linter.unusedSimpArgs false
open Go.Maps Go.WideMaps
abbrev lnB : ByteArray := ⟨#[76, 101, 110, 103, 116, 104]⟩
theorem length_any (w : World) (L : Lay) (gd : Nat) (d : Dm) (h : DAt w L gd d) (hp : Pre d) (s : Nm) (hs : s.length ≤ maxLen) :
    Calls Tryz.prog 27 #[.pointer (some ⟨gd, 0, none⟩), .string (bs s)] w fun e w' => Below w.heap.size w w' ∧ ∃ v, e = .returned (.tuple #[.int .i64 (d.length s).1, v]) ∧ ToldV v w' L.ρ lnB (bs s) (d.length s).2 := by
  have HA := Lib.hid (ask1 (w.alloc (.cells #[.string (bs s)] 9)) L gd d (h.below (bel1 _ _)) w.heap.size 0 1 s hs (cell0 (heap_alloc_new w _)))
  have HD0 := Lib.hid h
  have HP := Lib.hid hp
  clear h hp
  go_enter Tryz.func27, Tryz.ntmps27
  go_wp2_with fail
  with_reducible refine HA.out.mono ?_
  rintro e w3 ⟨rfl, hb3⟩
  have hb13 : Below w.heap.size w w3 := (bel1 w _).trans (hb3.mono (by simp))
  have HD3 := Lib.hid (HD0.out.below hb13)
  have HB3 := Lib.hid hb13
  clear hb13 hb3 HA HD0
  obtain ⟨r, why, hask⟩ : ∃ r why, d.ask s = (r, why) := ⟨_, _, rfl⟩
  rw [hask]
  dsimp only
  cases e0 : (why == 0)
  · have hr : r = none := ask_fst hask (by simpa using e0)
    subst hr
    have HE := Lib.hid (show d.length s = (0, why) by unfold Dm.length; rw [hask])
    rw [show madeV L.fa none = .pointer none from rfl]
    clear hask
    go_wp2_with fail
    with_reducible refine (told2 w3 L.ρ HD3.out.dom lnB (bs s) why).mono ?_
    rintro e w9 ⟨⟨v, rfl, hv⟩, hb9⟩
    have HV := Lib.hid hv
    have HB9 := Lib.hid hb9
    clear hv hb9
    go_wp2_with fail
    go_ret2
    exact ⟨HB3.out.trans (HB9.out.mono HB3.out.size), v, by rw [HE.out]; rfl, by rw [HE.out]; exact HV.out⟩
  obtain rfl : why = 0 := by simpa using e0
  clear e0
  obtain ⟨i, rfl, hk, hl⟩ := ask_zero hask
  have hi : i < d.fs.length := HP.out.refs.nm s i hk
  have HE := Lib.hid (show d.length s = (((d.file i).now.length : Int), (0 : Int)) by unfold Dm.length; rw [hask])
  rw [show madeV L.fa (some i) = .pointer (some ⟨L.fa i, 0, none⟩) from rfl]
  obtain ⟨vn, vs, vl, hf⟩ := HD3.out.at hi
  obtain ⟨av, cv, hvn, -⟩ := owns_shape hf.now.1
  subst hvn
  have n1 := hf.cells.2.1
  clear hask hf hk hl
  go_wp2_with fail
  go_ret2
  exact ⟨HB3.out, .nilIface, by rw [HE.out]; rfl, .inl ⟨by rw [HE.out], rfl⟩⟩
abbrev rdB : ByteArray := ⟨#[82, 101, 97, 100]⟩
theorem read_any (w : World) (L : Lay) (gd : Nat) (d : Dm) (h : DAt w L gd d) (hp : Pre d) (s : Nm) (hs : s.length ≤ maxLen) (at_ n : Int) (ha0 : -9223372036854775808 ≤ at_) (ha1 : at_ ≤ 9223372036854775807) (hn0 : -9223372036854775808 ≤ n) (hn1 : n ≤ 9223372036854775807) :
    Calls Tryz.prog 26 #[.pointer (some ⟨gd, 0, none⟩), .string (bs s), .int .i64 at_, .int .i64 n] w fun e w' => Below w.heap.size w w' ∧ ∃ a m c v, e = .returned (.tuple #[.slice a m c, v]) ∧ w'.ownsRow w.heap.size 5 1 (.slice a m c) m ((d.read s at_ n).1.map b8) ∧ m = (d.read s at_ n).1.length ∧ ToldV v w' L.ρ rdB (bs s) (d.read s at_ n).2 := by
  have HA := Lib.hid (ask1 (w.alloc (.cells #[.string (bs s)] 9)) L gd d (h.below (bel1 _ _)) w.heap.size 0 1 s hs (cell0 (heap_alloc_new w _)))
  have HD0 := Lib.hid h
  have HP := Lib.hid hp
  clear h hp
  go_enter Tryz.func26, Tryz.ntmps26
  go_wp2_with fail
  with_reducible refine HA.out.mono ?_
  rintro e w3 ⟨rfl, hb3⟩
  have hb13 : Below w.heap.size w w3 := (bel1 w _).trans (hb3.mono (by simp))
  have HD3 := Lib.hid (HD0.out.below hb13)
  have HB3 := Lib.hid hb13
  clear hb13 hb3 HA HD0
  obtain ⟨r, why, hask⟩ : ∃ r why, d.ask s = (r, why) := ⟨_, _, rfl⟩
  rw [hask]
  dsimp only
  cases e0 : (why == 0)
  · have hr : r = none := ask_fst hask (by simpa using e0)
    subst hr
    have HE := Lib.hid (show d.read s at_ n = ([], why) by unfold Dm.read; rw [hask])
    rw [show madeV L.fa none = .pointer none from rfl]
    clear hask
    go_wp2_with fail
    with_reducible refine (told2 w3 L.ρ HD3.out.dom rdB (bs s) why).mono ?_
    rintro e w9 ⟨⟨v, rfl, hv⟩, hb9⟩
    have HV := Lib.hid hv
    have HB9 := Lib.hid hb9
    clear hv hb9
    go_wp2_with fail
    go_ret2
    exact ⟨HB3.out.trans (HB9.out.mono HB3.out.size), none, 0, 0, v, rfl, by rw [HE.out]; exact ⟨by simp, .inl ⟨rfl, rfl⟩⟩, by rw [HE.out]; rfl, by rw [HE.out]; exact HV.out⟩
  obtain rfl : why = 0 := by simpa using e0
  clear e0
  obtain ⟨i, rfl, hk, hl⟩ := ask_zero hask
  have hi : i < d.fs.length := HP.out.refs.nm s i hk
  rw [show madeV L.fa (some i) = .pointer (some ⟨L.fa i, 0, none⟩) from rfl]
  obtain ⟨vn, vs, vl, hf⟩ := HD3.out.at hi
  obtain ⟨av, cv, hvn, -⟩ := owns_shape hf.now.1
  obtain ⟨nv, hnv⟩ : ∃ nv, nv = (d.file i).now.length := ⟨_, rfl⟩
  rw [← hnv] at hvn
  subst hvn
  have n1 := hf.cells.2.1
  have hnl : nv ≤ 2147483647 := by rw [hnv]; exact (HP.out.file i).1
  have HR8 := Lib.hid (show R8 w3 av nv cv (d.file i).now by have h9 := hf.now.1; rw [← hnv] at h9; exact R8.of_owns h9 (by omega))
  have HNV := Lib.hid hnv
  clear hf hk hl hnv
  by_cases q1 : at_ < 0
  · have HE := Lib.hid (show d.read s at_ n = ([], 1) by unfold Dm.read; rw [hask]; dsimp only; rw [if_pos (.inl q1)])
    clear hask
    go_wp2_with fail
    with_reducible refine (told2 w3 L.ρ HD3.out.dom rdB (bs s) 1).mono ?_
    rintro e w9 ⟨⟨v, rfl, hv⟩, hb9⟩
    have HV := Lib.hid hv
    have HB9 := Lib.hid hb9
    clear hv hb9
    go_wp2_with fail
    go_ret2
    exact ⟨HB3.out.trans (HB9.out.mono HB3.out.size), none, 0, 0, v, rfl, by rw [HE.out]; exact ⟨by simp, .inl ⟨rfl, rfl⟩⟩, by rw [HE.out]; rfl, by rw [HE.out]; exact HV.out⟩
  by_cases q2 : n < 0
  · have HE := Lib.hid (show d.read s at_ n = ([], 1) by unfold Dm.read; rw [hask]; dsimp only; rw [if_pos (.inr (.inl q2))])
    clear hask
    go_wp2_with fail
    with_reducible refine (told2 w3 L.ρ HD3.out.dom rdB (bs s) 1).mono ?_
    rintro e w9 ⟨⟨v, rfl, hv⟩, hb9⟩
    have HV := Lib.hid hv
    have HB9 := Lib.hid hb9
    clear hv hb9
    go_wp2_with fail
    go_ret2
    exact ⟨HB3.out.trans (HB9.out.mono HB3.out.size), none, 0, 0, v, rfl, by rw [HE.out]; exact ⟨by simp, .inl ⟨rfl, rfl⟩⟩, by rw [HE.out]; rfl, by rw [HE.out]; exact HV.out⟩
  by_cases q3 : (nv : Int) < at_
  · have HE := Lib.hid (show d.read s at_ n = ([], 1) by unfold Dm.read; rw [hask]; dsimp only; rw [if_pos (.inr (.inr (.inl (by rw [← HNV.out]; exact q3))))])
    clear hask
    go_wp2_with fail
    with_reducible refine (told2 w3 L.ρ HD3.out.dom rdB (bs s) 1).mono ?_
    rintro e w9 ⟨⟨v, rfl, hv⟩, hb9⟩
    have HV := Lib.hid hv
    have HB9 := Lib.hid hb9
    clear hv hb9
    go_wp2_with fail
    go_ret2
    exact ⟨HB3.out.trans (HB9.out.mono HB3.out.size), none, 0, 0, v, rfl, by rw [HE.out]; exact ⟨by simp, .inl ⟨rfl, rfl⟩⟩, by rw [HE.out]; rfl, by rw [HE.out]; exact HV.out⟩
  by_cases q4 : (nv : Int) - at_ < n
  · have HE := Lib.hid (show d.read s at_ n = ([], 1) by unfold Dm.read; rw [hask]; dsimp only; rw [if_pos (.inr (.inr (.inr (by rw [← HNV.out, wrap64_small (by omega) (by omega)]; exact q4))))])
    clear hask
    go_wp2_with fail
    with_reducible refine (told2 w3 L.ρ HD3.out.dom rdB (bs s) 1).mono ?_
    rintro e w9 ⟨⟨v, rfl, hv⟩, hb9⟩
    have HV := Lib.hid hv
    have HB9 := Lib.hid hb9
    clear hv hb9
    go_wp2_with fail
    go_ret2
    exact ⟨HB3.out.trans (HB9.out.mono HB3.out.size), none, 0, 0, v, rfl, by rw [HE.out]; exact ⟨by simp, .inl ⟨rfl, rfl⟩⟩, by rw [HE.out]; rfl, by rw [HE.out]; exact HV.out⟩
  obtain ⟨p, rfl⟩ : ∃ p : Nat, at_ = p := ⟨at_.toNat, by omega⟩
  obtain ⟨m, rfl⟩ : ∃ m : Nat, n = m := ⟨n.toNat, by omega⟩
  have HE := Lib.hid (show d.read s p m = (((d.file i).now.drop p).take m, 0) by
    unfold Dm.read; rw [hask]; dsimp only; rw [if_neg (by rw [← HNV.out, wrap64_small (by omega) (by omega)]; omega)]; simp only [Int.toNat_natCast])
  have hsl := slice_mid sl50 w3 av nv cv p (p + m) (p : Int) ((p : Int) + (m : Int)) rfl (by push_cast; rfl) (by omega) (by have := HR8.out.2.1; omega)
  rw [show p + m - p = m by omega] at hsl
  have hr9 := HR8.out.mid p (p + m) (by omega) (by omega)
  rw [show p + m - p = m by omega] at hr9
  obtain ⟨da, hda⟩ : ∃ da, da = dropA av p cv := ⟨_, rfl⟩
  rw [← hda] at hsl hr9
  have HCL := Lib.hid (bclone_any w3 da m (cv - p) _ hr9 (by omega))
  have HLEN := Lib.hid hr9.1
  clear hask hda hr9
  go_wp2_with (go_at_call 33; refine HCL.out.mono ?_; rintro e w4 ⟨⟨a4, c4, rfl, hv⟩, hb⟩; have HV4 := Lib.hid hv; have HB4 := Lib.hid hb; clear hv hb)
  go_ret2
  refine ⟨HB3.out.trans (HB4.out.mono HB3.out.size), a4, m, c4, .nilIface, rfl, ?_, ?_, .inl ⟨by rw [HE.out], rfl⟩⟩
  · rw [HE.out]; exact owns_mono HV4.out HB3.out.size
  · rw [HE.out]; exact HLEN.out.symm
end Go.Proofs.YteoggphafhcchaaGreat
