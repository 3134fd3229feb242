import Derived.Test.YtakaoacialnjaaaDoorK66
namespace Go.Proofs.YtakaoacialnjaaaDoor
open Go Go.RowKit
set_option linter.unusedVariables false
set_option linter.unusedSimpArgs false
theorem ofF_none (sc : List Nm) (ns : List Nd) : ∀ (i : Nat) (ks : List (Int × Bool)), (ofF sc i ks ns).2.2 ≠ 0 → (ofF sc i ks ns).1 = [] := by
  induction ns with
  | nil => intro i ks h; exact absurd rfl h
  | cons n t ih =>
    intro i ks h
    simp only [ofF] at h ⊢
    split
    · rename_i he; rw [if_pos he] at h; exact ih _ _ h
    · rfl
theorem ofK_none {ns : List Nd} {sc : List Nm} (h : (ofK ns sc).2.2 ≠ 0) : (ofK ns sc).1 = [] := by
  unfold ofK at h ⊢
  split
  · rename_i hT; rw [if_pos hT] at h; exact ofF_none _ _ _ _ h
  · rfl
def clockNd : Nd := ⟨29, ByteArray.empty, 0, 0, ByteArray.empty, none, 0, 0, none, 0, 0, []⟩
theorem clock_right : clockNd.right = true := by decide +kernel
theorem clock_kinds (sc : List Nm) : Kinds sc [(4, false)] [clockNd] := by
  refine ⟨rfl, fun i nd hi => ?_⟩
  cases i with
  | zero =>
    simp only [List.getElem?_cons_zero, Option.some.injEq] at hi
    subst hi
    exact ⟨(4, false), rfl, by simp [lookK, clockNd]⟩
  | succ i => simp at hi
theorem rs_clock (w : World) : RS 7 Nd.cs (w.alloc (.cells clockNd.v 49)) (some ⟨w.heap.size, 0, none⟩) 1 1 [clockNd] := by
  refine ⟨rfl, Nat.le_refl _, by omega, fun i x hx => ⟨w.heap.size, 0, rfl, fun j v hv => ?_⟩⟩
  have hi : i = 0 := by have := (List.getElem?_eq_some_iff.1 hx).1; simpa using this
  subst hi
  simp only [List.getElem?_cons_zero, Option.some.injEq] at hx
  subst hx
  rw [cell_of_row _ _ _ _ _ _ (heap_alloc_new w _)]
  simpa [Nd.v, Nd.cs] using hv
theorem clock_ok (w : World) : clockNd.ok w := ⟨⟨rfl, Nat.le_refl _, by show (0 : Nat) ≤ _; omega, fun i x h => by simp [clockNd] at h⟩, by show (0 : Nat) ≤ _; omega, by show (_ : Int) ≤ 0; omega, by show (0 : Int) ≤ _; omega⟩
/-- The law's heart: what was cut out has the kinds that it had. -/
theorem local_law {ns : List Nd} {sc : List Nm} {ks : List (Int × Bool)} {at' : Nat} (h : ofK ns sc = (ks, at', 0)) (hl : ∀ nd ∈ ns, nd.ks.length = nd.kl) {root : Nat} {bs : List Bool} (hb : Ben ns root bs) {us : List Nd} (hM : Mov ns bs 1 us) :
    ∃ ms, ofK ([clockNd] ++ us) sc = (ms, 0, 0) ∧ ms.length = 1 + us.length ∧ ms[0]? = some (4, false) ∧ ∀ i, i < ns.length → kp bs i = true → ms[plc 1 bs i]? = ks[i]? := by
  have h0 : (ofK ns sc).2.2 = 0 := by rw [h]
  obtain ⟨hT, _, hk⟩ := ofK_ok h0
  rw [h] at hk
  obtain ⟨ms, h1, h2, h3, h4⟩ := cut_ok (kept_of hT hk hl hb.down) (ahead := [clockNd]) (ax := [(4, false)]) (us := us) (fun a ha => by rw [List.mem_singleton.1 ha]; exact ⟨clock_right, rfl⟩) (clock_kinds sc) hM
  exact ⟨ms, h1, h2, by have := h3 0 (by decide); simpa using this, fun i hi hk => by rw [plc_eq hk]; exact h4 i hi hk⟩
theorem trees_kids {ns : List Nd} {sc : List Nm} (h : (ofK ns sc).2.2 = 0) : ∀ (i : Nat) (nd : Nd), ns[i]? = some nd → ∀ k ∈ nd.ks, 0 ≤ k ∧ k < (i : Int) := fun i nd hi => (treesB_ok (ofK_ok h).1 i nd hi).2
theorem ofK_klen {ns : List Nd} {sc : List Nm} (h : (ofK ns sc).2.2 = 0) : (ofK ns sc).1.length = ns.length := (ofK_ok h).2.2.1
end Go.Proofs.YtakaoacialnjaaaDoor
namespace Go.Proofs.YtakaoacialnjaaaDoor
open Go Go.RowKit
set_option linter.unusedVariables false
set_option linter.unusedSimpArgs false
set_option maxRecDepth 100000 in
set_option maxHeartbeats 4000000 in
theorem kindslocal_walk (w : World) (a : Option Addr) (n c : Nat) (ns : List Nd) (hr : RS 7 Nd.cs w a n c ns) (hok : ∀ nd ∈ ns, nd.okS w) (sa : Option Addr) (sn sc' : Nat) (sc : List Nm) (hsc : RS 3 Nm.cs w sa sn sc' sc) (x : Int) (hx0 : -9223372036854775808 ≤ x) (hx1 : x ≤ 9223372036854775807) (ht : NoTab w ∧ ResTab w 2 ∧ 2 < w.heap.size) :
    Calls Tryd.prog 5 #[.slice a n c, .slice sa sn sc', .int .i64 x] w fun e w' => e = .returned (.bool true) ∧ Below w.heap.size w w' := by
  obtain ⟨t0, t2, t3⟩ := ht
  have hlen := hr.1
  have HR := Lib.hid hr
  have HOK := Lib.hid hok
  have HSC := Lib.hid hsc
  have HT := Lib.hid t0
  have HR2 := Lib.hid t2
  have H2 := Lib.hid t3
  have HLK := Lib.hid (show ∀ nd ∈ ns, nd.ks.length = nd.kl from fun nd hnd => (okS_ok (hok nd hnd)).1.1)
  go_enter Tryd.func5, Tryd.ntmps5
  go_wp2_with fail
  with_reducible refine (great_any w a n c ns hr hok sa sn sc' sc hsc).mono ?_
  rintro e w1 ⟨hg, hb1⟩
  have z1 := hb1.size
  have HB1 := Lib.hid hb1
  clear hr hok hsc t0 t2 t3 hb1
  rcases hg with rfl | ⟨rfl, hsml⟩
  · go_wp2_with fail
    with_reducible refine (known_any w1 (HT.out.below HB1.out (by have := H2.out; omega)) (HR2.out.below HB1.out H2.out H2.out) (by have := H2.out; omega)).mono ?_
    rintro e w2 ⟨rfl, hb2⟩
    go_wp2
    go_ret
    exact ⟨rfl, HB1.out.trans (hb2.mono z1)⟩
  obtain ⟨hn, hsn, hsm⟩ := hsml
  have HSM := Lib.hid hsm
  clear hsm
  go_wp2_with fail
  with_reducible refine (of_any w1 a n c ns (HR.out.below HB1.out) (fun nd hnd => (okS_ok (HOK.out nd hnd)).below HB1.out) sa sn sc' sc (HSC.out.below HB1.out) (HT.out.below HB1.out (by have := H2.out; omega)) (HR2.out.below HB1.out H2.out H2.out) (by have := H2.out; omega) (by omega)).mono ?_
  rintro e w2 ⟨⟨xa, xc, rfl, hx⟩, hb2⟩
  have z2 := hb2.size
  have HX2 := Lib.hid hx
  have HB2 := Lib.hid (HB1.out.trans (hb2.mono (by omega)))
  clear hx hb2
  by_cases her : (ofK ns sc).2.2 = 0
  · have HKL := Lib.hid (ofK_klen her)
    have HTK := Lib.hid (trees_kids her)
    generalize hR : ofK ns sc = R at *
    obtain ⟨ks, at', er⟩ := R
    simp only at her
    subst her
    have HKS := Lib.hid hR
    clear hR
    have hksl : ks.length = n := by have := HKL.out; simp only at this; omega
    rw [show (ks, at', (0 : Int)).1.length = n from hksl] at HX2 ⊢
    by_cases hn0 : n = 0
    · subst hn0
      go_wp2_with fail
      with_reducible refine (known_any w2 (HT.out.below HB2.out (by have := H2.out; omega)) (HR2.out.below HB2.out H2.out H2.out) (by have := H2.out; omega)).mono ?_
      rintro e w3 ⟨rfl, hb3⟩
      go_wp2
      go_ret
      exact ⟨rfl, HB2.out.trans (hb3.mono (by omega))⟩
    · have hnp : 0 < n := by omega
      have hne : ((n : Int) == 0) = false := by simp; omega
      go_wp2_with fail
      with_reducible refine (within_any w2 x n (by omega) (by omega) hx0 hx1).mono ?_
      rintro e w3 ⟨⟨r, hr, rfl⟩, hb3⟩
      have z3 := hb3.size
      have HB3 := Lib.hid (HB2.out.trans (hb3.mono (by omega)))
      have HX3 := Lib.hid (own_below HX2.out hb3)
      clear hb3
      go_wp2_with fail
      with_reducible refine (beneath_any w3 a n c ns (HR.out.below HB3.out) (fun nd hnd => (okS_ok (HOK.out nd hnd)).below HB3.out) r hr (by omega) HTK.out).mono ?_
      rintro e w4 ⟨⟨bs, rfl, hbr, hben⟩, hb4⟩
      have z4 := hb4.size
      have HB4 := Lib.hid (HB3.out.trans (hb4.mono (by omega)))
      have HX4 := Lib.hid (own_below HX3.out hb4)
      have HBR4 := Lib.hid (RS.of_owns hbr (by decide) Bv_len (by omega))
      have HBEN := Lib.hid hben
      clear hb4 hbr hben
      generalize hga : w3.heap.size = ga at *
      clear hga
      go_wp2_with fail
      obtain ⟨w5, hw5⟩ : ∃ w5, w5 = w4.alloc (.cells #[.int .i64 29, .string { data := #[] }, .int .i64 0, .int .i64 0, .string { data := #[] }, .slice none 0 0, .slice none 0 0] 49) := ⟨_, rfl⟩
      have hc5 : RS 7 Nd.cs w5 (some ⟨w4.heap.size, 0, none⟩) 1 1 [clockNd] := by rw [hw5]; exact rs_clock w4
      have hb5 : Below w4.heap.size w4 w5 := by rw [hw5]; exact (Below.refl _ _).alloc (Nat.le_refl _) _
      rw [← hw5]
      have z5 := hb5.size
      have HB5 := Lib.hid (HB4.out.trans (hb5.mono (by omega)))
      have HX5 := Lib.hid (own_below HX4.out hb5)
      have HBR5 := Lib.hid (HBR4.out.below hb5)
      have HC5 := Lib.hid hc5
      clear hw5 hc5 hb5
      generalize hgc : w4.heap.size = gc at *
      clear hgc
      with_reducible refine (moved_any w5 a n c ns (HR.out.below HB5.out) (fun nd hnd => (okS_ok (HOK.out nd hnd)).below HB5.out) (some ⟨ga, 0, none⟩) n bs HBR5.out gc 0 1 1 [clockNd] HC5.out hn (by omega) (fun nd hnd => (HSM.out nd hnd).1) (fun i nd hi _ => HTK.out i nd hi)).mono ?_
      rintro e w6 ⟨hmo, hb6⟩
      obtain ⟨la, L, lc, pa, pc, us, rfl, hL, hl6, hu6, hp6, hmv⟩ := hmo
      have z6 := hb6.size
      have HB6 := Lib.hid (HB5.out.trans (hb6.mono (by omega)))
      have HX6 := Lib.hid (own_below HX5.out hb6)
      have HBR6 := Lib.hid (HBR5.out.below hb6)
      have HL6 := Lib.hid hl6
      have HP6 := Lib.hid hp6
      have HOKU := Lib.hid (show ∀ u ∈ [clockNd] ++ us, u.ok w6 from fun u hu => by
        rcases List.mem_append.1 hu with h | h
        · rw [List.mem_singleton.1 h]; exact clock_ok w6
        · exact hu6 u h)
      obtain ⟨ms, hm1, hm2, hm3, hm4⟩ := local_law HKS.out HLK.out HBEN.out hmv
      have husl : us.length ≤ n := by
        have h1 : nk bs ns.length ≤ (List.range ns.length).length := List.countP_le_length
        have h2 := hmv.len
        simp at h1; omega
      have HM1 := Lib.hid hm1
      have HM4 := Lib.hid hm4
      have hml : ms.length = L := by omega
      have hLb : L ≤ 5001 := by omega
      have hLp : 0 < L := by omega
      have HML := Lib.hid hml
      have HM3 := Lib.hid hm3
      clear hb6 hmv hl6 hp6 hu6 hm1 hm4 HC5 hL hm2 hml hm3 husl
      go_wp2_with fail
      with_reducible refine (of_any w6 la L lc ([clockNd] ++ us) HL6.out HOKU.out sa sn sc' sc (HSC.out.below HB6.out) (HT.out.below HB6.out (by have := H2.out; omega)) (HR2.out.below HB6.out H2.out H2.out) (by have := H2.out; omega) (by omega)).mono ?_
      rintro e w7 ⟨hof, hb7⟩
      rw [HM1.out] at hof
      obtain ⟨ma, mc, rfl, hm7⟩ := hof
      rw [show (ms, (0 : Nat), (0 : Int)).1.length = L from HML.out] at hm7 ⊢
      have z7 := hb7.size
      have HB7 := Lib.hid (HB6.out.trans (hb7.mono (by omega)))
      have HX7 := Lib.hid (RS.of_owns (own_below HX6.out hb7) (by decide) Kd_len (by omega))
      have HBR7 := Lib.hid (HBR6.out.below hb7)
      have HP7 := Lib.hid (HP6.out.below hb7)
      have HM7 := Lib.hid (RS.of_owns hm7 (by decide) Kd_len (by omega))
      clear hb7 hm7
      obtain ⟨mb, mo, m0, hma, hm0, hmc⟩ := HM7.out.at hLp
      subst hma
      rw [HM3.out] at hm0
      obtain rfl := (Option.some.inj hm0).symm
      have c0 := hmc 0 _ rfl
      have c1 := hmc 1 _ rfl
      simp only [Nat.zero_mul, Nat.add_zero] at c0 c1
      clear hmc hm0
      go_wp2_with fail
      go_loopw [16] (fun i wr => ∃ k : Nat, k ≤ n ∧ i = .int .i64 (k : Int) ∧ Below w7.heap.size w7 wr) (fun i _ => n - (intOf i).toNat)
      case atStart => exact ⟨0, Nat.zero_le _, rfl, Below.refl _ _⟩
      case round =>
        obtain ⟨k, hk, rfl, hb⟩ := hrel
        have HB8 := Lib.hid hb
        have HBW := Lib.hid (HB7.out.trans (hb.mono (by omega)))
        have z8 := hb.size
        clear hb c0 c1
        by_cases hlt : k < n
        · have hltI : (k : Int) < (n : Int) := by omega
          obtain ⟨kb, ko, q, hqa, hq, hcq⟩ := HBR7.out.at hlt
          cases hqa
          have q0 := (HB8.out.cell (p := ⟨ga, 0 + k * 1 + 0, none⟩) (block_lt_of_cell (hcq 0 _ rfl))).trans (hcq 0 _ rfl)
          simp only [Nat.mul_one, Nat.add_zero, Nat.zero_add] at q0
          have HKQ := Lib.hid (show kp bs k = q by unfold kp; rw [List.getD_eq_getElem?_getD, hq]; rfl)
          clear hcq hq
          cases q
          · go_wp2_with fail
            go_region
            go_wp2_with fail
            go_roundw
            case rel => exact ⟨k + 1, by omega, by go_num, HB8.out.drew⟩
            case measure => simp [intOf] <;> omega
          · obtain ⟨xb, xo, ⟨vb, vo⟩, rfl, hv, hcx⟩ := HX7.out.at hlt
            have x0 := (HB8.out.cell (p := ⟨xb, xo + k * 2 + 0, none⟩) (block_lt_of_cell (hcx 0 _ rfl))).trans (hcx 0 _ rfl)
            have x1 := (HB8.out.cell (p := ⟨xb, xo + k * 2 + 1, none⟩) (block_lt_of_cell (hcx 1 _ rfl))).trans (hcx 1 _ rfl)
            obtain ⟨pb, po, p, rfl, hp, hcp⟩ := HP7.out.at hlt
            have p0 := (HB8.out.cell (p := ⟨pb, po + k * 1 + 0, none⟩) (block_lt_of_cell (hcp 0 _ rfl))).trans (hcp 0 _ rfl)
            obtain rfl : p = ((plc 1 bs k : Nat) : Int) := by
              simp only [List.getElem?_map, List.getElem?_range hlt, Option.map_some, Option.some.injEq] at hp
              exact hp.symm
            have hms := HM4.out k (by omega) HKQ.out
            rw [hv] at hms
            obtain ⟨pl, hpl⟩ : ∃ pl, pl = plc 1 bs k := ⟨_, rfl⟩
            rw [← hpl] at hms p0
            have hplL : pl < L := by rw [← HML.out]; exact (List.getElem?_eq_some_iff.1 hms).1
            have hplI : (pl : Int) < (L : Int) := by omega
            obtain ⟨yb, yo, y, hya, hy, hcy⟩ := HM7.out.at hplL
            cases hya
            rw [hms] at hy
            obtain rfl := (Option.some.inj hy).symm
            have y0 := (HB8.out.cell (p := ⟨mb, mo + pl * 2 + 0, none⟩) (block_lt_of_cell (hcy 0 _ rfl))).trans (hcy 0 _ rfl)
            have y1 := (HB8.out.cell (p := ⟨mb, mo + pl * 2 + 1, none⟩) (block_lt_of_cell (hcy 1 _ rfl))).trans (hcy 1 _ rfl)
            simp only [Nat.mul_one, Nat.add_zero] at x0 p0 y0
            clear hcx hcp hcy hv hp hy hms hpl
            go_wp2_with fail
            go_region
            go_wp2_with fail
            go_roundw
            case rel => exact ⟨k + 1, by omega, by go_num, HB8.out.drew⟩
            case measure => simp [intOf] <;> omega
        · have hltI : ¬ (k : Int) < (n : Int) := by omega
          go_wp2_with fail
          with_reducible refine (known_any wr (HT.out.below HBW.out (by have := H2.out; omega)) (HR2.out.below HBW.out H2.out H2.out) (by have := H2.out; omega)).mono ?_
          rintro e w9 ⟨rfl, hb9⟩
          go_wp2
          go_ret
          exact ⟨rfl, HBW.out.trans (hb9.mono (by omega))⟩
  · have HNE := Lib.hid her
    have hnil := ofK_none her
    generalize ofK ns sc = R at *
    obtain ⟨ks, at', er⟩ := R
    simp only at hnil her
    subst hnil
    have hner : (er == 0) = false := by simpa using her
    have hner2 : (er != 0) = true := by simpa using her
    clear her
    go_wp2_with fail
    with_reducible refine (known_any w2 (HT.out.below HB2.out (by have := H2.out; omega)) (HR2.out.below HB2.out H2.out H2.out) (by have := H2.out; omega)).mono ?_
    rintro e w3 ⟨rfl, hb3⟩
    go_wp2
    go_ret
    exact ⟨rfl, HB2.out.trans (hb3.mono (by omega))⟩
end Go.Proofs.YtakaoacialnjaaaDoor
