import Derived.Test.YtakaoacialnjaaaDoorK70
namespace Go.Proofs.YtakaoacialnjaaaDoor
open Go Go.RowKit
set_option linter.unusedVariables false
set_option linter.unusedSimpArgs false
set_option maxRecDepth 100000 in
set_option maxHeartbeats 4000000 in
theorem kindsswap_walk (w : World) (a : Option Addr) (n c : Nat) (ns : List Nd) (hr : RS 7 Nd.cs w a n c ns) (hok : ∀ nd ∈ ns, nd.okS w) (sa : Option Addr) (sn sc' : Nat) (sc : List Nm) (hsc : RS 3 Nm.cs w sa sn sc' sc) (hsn0 : sa = none → sc' = 0) (x : Int) (hx0 : -9223372036854775808 ≤ x) (hx1 : x ≤ 9223372036854775807) (ht : NoTab w ∧ ResTab w 2 ∧ 2 < w.heap.size) :
    Calls Tryd.prog 6 #[.slice a n c, .slice sa sn sc', .int .i64 x] w fun e w' => e = .returned (.bool true) ∧ Below w.heap.size w w' := by
  obtain ⟨t0, t2, t3⟩ := ht
  have hlen := hr.1
  have hscl := hsc.1
  have HR := Lib.hid hr
  have HOK := Lib.hid hok
  have HSC := Lib.hid hsc
  have HSN0 := Lib.hid hsn0
  have HT := Lib.hid t0
  have HR2 := Lib.hid t2
  have H2 := Lib.hid t3
  have HLK := Lib.hid (show ∀ nd ∈ ns, nd.ks.length = nd.kl from fun nd hnd => (okS_ok (hok nd hnd)).1.1)
  go_enter Tryd.func6, Tryd.ntmps6
  go_wp2_with fail
  with_reducible refine (great_any w a n c ns hr hok sa sn sc' sc hsc).mono ?_
  rintro e w1 ⟨hg, hb1⟩
  have z1 := hb1.size
  have HB1 := Lib.hid hb1
  clear hr hok hsc hsn0 t0 t2 t3 hb1
  rcases hg with rfl | ⟨rfl, hsml⟩
  · go_wp2_with fail
    with_reducible refine (known_any w1 (HT.out.below HB1.out (by have := H2.out; omega)) (HR2.out.below HB1.out H2.out H2.out) (by have := H2.out; omega)).mono ?_
    rintro e w2 ⟨rfl, hb2⟩
    go_wp2
    go_ret
    exact ⟨rfl, HB1.out.trans (hb2.mono z1)⟩
  obtain ⟨hn, hsn, hsm⟩ := hsml
  have HSM := Lib.hid hsm
  clear hsm
  go_wp2_with fail
  with_reducible refine (of_any w1 a n c ns (HR.out.below HB1.out) (fun nd hnd => (okS_ok (HOK.out nd hnd)).below HB1.out) sa sn sc' sc (HSC.out.below HB1.out) (HT.out.below HB1.out (by have := H2.out; omega)) (HR2.out.below HB1.out H2.out H2.out) (by have := H2.out; omega) (by omega)).mono ?_
  rintro e w2 ⟨⟨xa, xc, rfl, hx⟩, hb2⟩
  have z2 := hb2.size
  have HB2 := Lib.hid (HB1.out.trans (hb2.mono (by omega)))
  clear hb2
  by_cases h8 : (ofK ns sc).2.2 = 8 ∨ n = 0
  · have hnil : (ofK ns sc).1 = [] := by
      by_cases h0 : (ofK ns sc).2.2 = 0
      · rcases h8 with h | h
        · rw [h0] at h; cases h
        · have := ofK_klen h0
          exact List.eq_nil_of_length_eq_zero (by omega)
      · exact ofK_none h0
    have H8 := Lib.hid h8
    generalize ofK ns sc = R at *
    obtain ⟨ks, at', er⟩ := R
    simp only at hnil
    subst hnil
    clear h8
    cases he8 : (er == 8)
    · have hn0 : n = 0 := by
        rcases H8.out with h | h
        · simp only at h; rw [h] at he8; cases he8
        · exact h
      subst hn0
      go_wp2_with fail
      with_reducible refine (known_any w2 (HT.out.below HB2.out (by have := H2.out; omega)) (HR2.out.below HB2.out H2.out H2.out) (by have := H2.out; omega)).mono ?_
      rintro e w3 ⟨rfl, hb3⟩
      go_wp2
      go_ret
      exact ⟨rfl, HB2.out.trans (hb3.mono (by omega))⟩
    · go_wp2_with fail
      with_reducible refine (known_any w2 (HT.out.below HB2.out (by have := H2.out; omega)) (HR2.out.below HB2.out H2.out H2.out) (by have := H2.out; omega)).mono ?_
      rintro e w3 ⟨rfl, hb3⟩
      go_wp2
      go_ret
      exact ⟨rfl, HB2.out.trans (hb3.mono (by omega))⟩
  · have hT := ofK_eight (fun h => h8 (.inl h))
    have HTR := Lib.hid hT
    have hnp : 0 < n := by omega
    have hnb : ((n : Int) == 0) = false := by simp; omega
    have hcs := fun h => Lib.hid (ofK_cases (sc := sc) hT h)
    have hok0 := fun h => Lib.hid (ofK_ok (ns := ns) (sc := sc) h)
    have h88 : ((ofK ns sc).2.2 == 8) = false := by simp; exact fun h => h8 (.inl h)
    have hnone := fun h => Lib.hid (ofK_none (ns := ns) (sc := sc) h)
    generalize hR : ofK ns sc = R at *
    obtain ⟨ks, at', er⟩ := R
    simp only at hcs hok0 h88 hnone
    have HX2 := Lib.hid hx
    have HCS := Lib.hid hcs
    have HOK0 := Lib.hid hok0
    have HNO := Lib.hid hnone
    clear hx hcs hok0 hnone h8 hT hR
    go_upto_if 50 with (fail)
    go_cut [7, 10] (fun s7 s10 wx => SwapC w wx ns sc n at' er s7 s10)
    case first =>
      cases he0 : (er == 0)
      · have hne : er ≠ 0 := by simpa using he0
        have he0' : (er != 0) = true := by simpa using he0
        obtain ⟨nd, r, hku, hnd, hlk⟩ := (HCS.out hne).out
        have hatn : at' < n := by have := (List.getElem?_eq_some_iff.1 hnd).1; omega
        have HKU := Lib.hid hku
        have HSL := Lib.hid (show SwapL ns sc n at' er r at' from ⟨hku, .inr ⟨hne, rfl, hatn, nd, hnd, hlk⟩⟩)
        have hatI : (at' : Int) ≤ (n : Int) := by omega
        have hacI : (at' : Int) ≤ (c : Int) := by have := HR.out.2.1; omega
        have hac : at' ≤ c := by have := HR.out.2.1; omega
        have hrl := hku.1
        clear hku hnd hlk hne
        go_wp2_with fail
        with_reducible refine (of_any w2 a at' c (ns.take at') (rs_take (HR.out.below HB2.out) (by omega)) (fun nd hnd => (okS_ok (HOK.out nd (List.mem_of_mem_take hnd))).below HB2.out) sa sn sc' sc (HSC.out.below HB2.out) (HT.out.below HB2.out (by have := H2.out; omega)) (HR2.out.below HB2.out H2.out H2.out) (by have := H2.out; omega) (by omega)).mono ?_
        rintro e w3 ⟨hof, hb3⟩
        rw [HKU.out.of_take HTR.out] at hof
        obtain ⟨ya, yc, rfl, hy⟩ := hof
        rw [show (r, (0 : Nat), (0 : Int)).1.length = at' from hrl] at hy ⊢
        have HY := Lib.hid hy
        have HB3 := Lib.hid (HB2.out.trans (hb3.mono (by omega)))
        clear hy hb3
        go_wp2_with fail
        go_meet
        exact ⟨ya, yc, r, at', rfl, rfl, owns_mono HY.out (by omega), HSL.out, HB3.out⟩
      · have he : er = 0 := by simpa using he0
        subst he
        obtain ⟨q1, q2, q3⟩ := (HOK0.out rfl).out
        have HSL := Lib.hid (show SwapL ns sc n at' 0 ks n from ⟨by have := KU.of q3; rwa [hlen] at this, .inl ⟨rfl, rfl⟩⟩)
        have hkl : ks.length = n := by have := q3.1; omega
        rw [show (ks, at', (0 : Int)).1.length = n from hkl] at HX2 ⊢
        clear q1 q2 q3
        go_wp2_with fail
        go_meet
        exact ⟨xa, xc, ks, n, rfl, rfl, owns_mono HX2.out (by omega), HSL.out, HB2.out⟩
    case rest =>
      obtain ⟨la, lc, l, u, rfl, rfl, hl, hsl, hb⟩ := hcut
      have HBC := Lib.hid hb
      have HL := Lib.hid hl
      have HSL := Lib.hid hsl
      have zc := hb.size
      have hun : u ≤ n := by have := hsl.1.2.1; omega
      have hlu : l.length = u := hsl.1.1
      have HLU := Lib.hid hlu
      clear hb hl hsl hlu HX2 HCS HOK0 HNO HB2 HB1
      by_cases hu0 : u = 0
      · subst hu0
        go_wp2_with fail
        with_reducible refine (known_any wc (HT.out.below HBC.out (by have := H2.out; omega)) (HR2.out.below HBC.out H2.out H2.out) (by have := H2.out; omega)).mono ?_
        rintro e w3 ⟨rfl, hb3⟩
        go_wp2
        go_ret
        exact ⟨rfl, HBC.out.trans (hb3.mono (by omega))⟩
      · have hup : 0 < u := by omega
        have hub : ((u : Int) == 0) = false := by simp; omega
        go_wp2_with fail
        with_reducible refine (within_any wc x u (by omega) (by omega) hx0 hx1).mono ?_
        rintro e w3 ⟨⟨k, hk, rfl⟩, hb3⟩
        have z3 := hb3.size
        have HB3 := Lib.hid (HBC.out.trans (hb3.mono (by omega)))
        have HL3 := Lib.hid (own_below HL.out hb3)
        clear hb3 HL
        go_wp2_with fail
        with_reducible refine (beneath_any w3 a n c ns (HR.out.below HB3.out) (fun nd hnd => (okS_ok (HOK.out nd hnd)).below HB3.out) k (by omega) (by omega) (fun i nd hi => (treesB_ok HTR.out i nd hi).2)).mono ?_
        rintro e w4 ⟨⟨bs, rfl, hbr, hben⟩, hb4⟩
        have z4 := hb4.size
        have HB4 := Lib.hid (HB3.out.trans (hb4.mono (by omega)))
        have HL4 := Lib.hid (own_below HL3.out hb4)
        have HBR4 := Lib.hid (RS.of_owns hbr (by decide) Bv_len (by omega))
        have HBEN := Lib.hid hben
        clear hb4 hbr hben HL3
        generalize hga : w3.heap.size = ga at *
        clear hga
        go_wp2_with (first
          | (at_make; refine L_make rfl _ _ _ rfl sl39 w4.heap.size .i64 .i64 _ n rfl rfl (by omega) (by omega) (by simp [maxLen]; omega) (Nat.le_refl _) (fun w5 ho5 hg5 => ?_)
             have hb5 : Below w4.heap.size w4 w5 := (Below.refl _ _).grown hg5 (Nat.le_refl _) (by intro k hk; cases hk)
             have ho6 : w5.ownsRow w4.heap.size 4 1 (.slice (some ⟨w4.heap.size, 0, none⟩) n n) n ((keepL bs k n 0).flatMap Bv) := by
               have e2 : (madeCells (Value.cells (.bool false)) (n * 1)).toList = (List.replicate n false).flatMap Bv := madeFlat Bv 1 (by decide) Bv_len false n
               rw [e2] at ho5
               rw [keepL_zero]
               exact ho5
             have z5 := hb5.size
             have HB5 := Lib.hid (HB4.out.trans (hb5.mono (by omega)))
             have HL5 := Lib.hid (own_below HL4.out hb5)
             have HBR5 := Lib.hid (HBR4.out.below hb5)
             have HK5 := Lib.hid ho6
             clear ho5 hg5 ho6 hb5))
        obtain ⟨gk, hgk⟩ : ∃ gk, gk = w4.heap.size := ⟨_, rfl⟩
        have hgk2 : w.heap.size ≤ gk := by omega
        have HGA := Lib.hid (show ga ≠ gk ∨ True from .inr trivial)
        rw [← hgk] at HK5 ⊢
        have HBK5 := Lib.hid (show ∀ q, (Value.slice la u lc).ownBlock = some q → q < gk from fun q hq => by rw [hgk]; exact (HL4.out.lt q hq).2)
        have HBG := Lib.hid (show ga < gk ∨ n = 0 by
          rcases Nat.eq_zero_or_pos n with h | h
          · exact .inr h
          · left
            obtain ⟨b, off, y, e1, _, hcl⟩ := HBR4.out.at h
            cases e1
            rw [hgk]
            exact block_lt_of_cell (hcl 0 _ rfl))
        clear hgk HB4 HL4 HBR4
        go_loopw [14] (fun i wr => ∃ j : Nat, j ≤ n ∧ i = .int .i64 (j : Int) ∧ Below w.heap.size w wr ∧ Below gk w5 wr ∧ wr.ownsRow gk 4 1 (.slice (some ⟨gk, 0, none⟩) n n) n ((keepL bs k n j).flatMap Bv)) (fun i _ => n - (intOf i).toNat)
        case atStart => exact ⟨0, Nat.zero_le _, rfl, HB5.out, Below.refl _ _, HK5.out⟩
        case round =>
          obtain ⟨j, hj, rfl, hbw, hbg, hok⟩ := hrel
          have HBW := Lib.hid hbw
          have HBG2 := Lib.hid hbg
          have HKP := Lib.hid hok
          have zr := hbw.size
          clear hbw hbg hok
          by_cases hjl : j < n
          · have hjI : (j : Int) < (n : Int) := by omega
            obtain ⟨qb', qo, q, hqa, hq, hcq⟩ := HBR5.out.at hjl
            cases hqa
            have hgak : ga < gk := by
              rcases HBG.out with h | h
              · exact h
              · omega
            have q0 := (HBG2.out.cell (p := ⟨ga, 0 + j * 1 + 0, none⟩) hgak).trans (hcq 0 _ rfl)
            have HKQ := Lib.hid (show kp bs j = q by unfold kp; rw [List.getD_eq_getElem?_getD, hq]; rfl)
            have c0 := own_at Bv_len HKP.out (keepL_at bs k n j hjl) 0 _ rfl
            have f0 := HKP.out.frozenAt j
            simp only [Nat.mul_one, Nat.add_zero, Nat.zero_add] at q0 c0
            have ho' : (wr.setCell ⟨gk, j, none⟩ (.bool (!q || j == k))).ownsRow gk 4 1 (.slice (some ⟨gk, 0, none⟩) n n) n ((keepL bs k n (j + 1)).flatMap Bv) := by
              have := (own_chain (Bv (!kp bs j || j == k)) _ wr (j * 1) HKP.out).1
              rw [setList_flat Bv 1 Bv_len _ j (!kp bs j || j == k) (by rw [keepL_len]; exact hjl), keepL_set bs k n j hjl, HKQ.out] at this
              simpa [setChain, Bv] using this
            have HO' := Lib.hid ho'
            have HB' := Lib.hid (HBW.out.setCell (p := ⟨gk, j, none⟩) hgk2 (.bool (!q || j == k)))
            have HG' := Lib.hid (HBG2.out.setCell (p := ⟨gk, j, none⟩) (Nat.le_refl _) (.bool (!q || j == k)))
            clear ho' hcq hq
            cases q
            · go_wp2_with fail
              go_roundw
              case rel => exact ⟨j + 1, by omega, by go_num, HB'.out, HG'.out, HO'.out⟩
              case measure => simp [intOf] <;> omega
            · cases ejk : (j == k)
              · have hne : ((j : Int) == (k : Int)) = false := by simp at ejk ⊢; omega
                rw [ejk] at HO' HB' HG'
                clear ejk
                go_wp2_with fail
                go_roundw
                case rel => exact ⟨j + 1, by omega, by go_num, HB'.out, HG'.out, HO'.out⟩
                case measure => simp [intOf] <;> omega
              · obtain rfl : j = k := by simpa using ejk
                rw [ejk] at HO' HB' HG'
                clear ejk
                go_wp2_with fail
                go_roundw
                case rel => exact ⟨j + 1, by omega, by go_num, HB'.out, HG'.out, HO'.out⟩
                case measure => simp [intOf] <;> omega
          · have hjI : ¬ (j : Int) < (n : Int) := by omega
            obtain rfl : j = n := by omega
            have HLW := Lib.hid (own_low (own_low HL5.out (Below.refl gk w5) HBK5.out) HBG2.out HBK5.out)
            obtain ⟨nd, hnd⟩ : ∃ nd, ns[k]? = some nd := ⟨_, List.getElem?_eq_getElem (by omega)⟩
            have HND := Lib.hid hnd
            have hkn : k < j := by omega
            have hknI : (k : Int) < (j : Int) := by omega
            obtain ⟨lb, lo, ⟨b, o⟩, hla, hlk, hcl⟩ := (RS.of_owns HLW.out (by decide) Kd_len (by omega)).at hk
            have HLK2 := Lib.hid hlk
            have HC0 := Lib.hid (hcl 0 _ rfl)
            have HC1 := Lib.hid (hcl 1 _ rfl)
            have HAC := Lib.hid (show (a = none ∧ j = 0 ∧ c = 0 ∧ ns.flatMap Nd.cs = []) ∨ ∃ ad, a = some ad ∧ ∀ i u, (ns.flatMap Nd.cs)[i]? = some u → wr.cell? (ad.add i) = some u from by
              obtain ⟨nb, no, y, ea, _, _⟩ := HR.out.at hnp
              exact .inr ⟨_, ea, (HR.out.below HBW.out).cells Nd_len2 (by decide) ea⟩)
            have hkI : (k : Int) < (u : Int) := by omega
            clear hnd hlk hcl HL5 HK5 HB5
            go_wp2_with (at_builtin; (refine L_append0 rfl _ _ _ rfl sl24 rfl a j c (ns.flatMap Nd.cs) rfl HAC.out (by rw [flat_len Nd.cs 7 Nd_len2, hlen]) one_nds (by omega) (by simp [maxLen]; omega) (fun a6 cv6 w6 ho6 hg6 => ?_)
                                      have hb6 : Below wr.heap.size wr w6 := (Below.refl _ _).grown hg6 (Nat.le_refl _) (by intro q hq; cases hq)
                                      obtain ⟨gv, hgv, hgv1, hgv2⟩ := own_addr ho6 hnp
                                      subst hgv
                                      have HV6 := Lib.hid ho6
                                      have HB6 := Lib.hid hb6
                                      have z6 := hb6.size
                                      clear ho6 hg6 hb6))
            with_reducible refine (unused_any w6 a j c ns ((HR.out.below HBW.out).below HB6.out) sa sn sc' sc ((HSC.out.below HBW.out).below HB6.out) hn hsn).mono ?_
            rintro e w7 ⟨⟨q, hq, rfl, hfree⟩, hb7⟩
            have z7 := hb7.size
            have HFREE := Lib.hid hfree
            have HV7 := Lib.hid (own_below HV6.out hb7)
            have HB7 := Lib.hid (HB6.out.trans (hb7.mono z6))
            have HQS := Lib.hid (qn_size q hq)
            have HLEG := Lib.hid (qn_legal hq)
            clear hfree hb7 HV6 HB6 HAC hq
            generalize qn q = name at *
            have hns5 := (own_chain (Nd.cs ⟨5, name, 0, 0, ByteArray.empty, none, 0, 0, none, 0, 0, []⟩) _ w7 (k * 7) HV7.out).1
            rw [setList_flat Nd.cs 7 Nd_len2 _ k _ (by omega)] at hns5
            have hb5' := below_chain hgv1 (Nd.cs ⟨5, name, 0, 0, ByteArray.empty, none, 0, 0, none, 0, 0, []⟩) w7 (k * 7) HB7.out
            have HN5 := Lib.hid hns5
            have HB5' := Lib.hid hb5'
            have c0 := own_at Nd_len2 HV7.out HND.out 0 _ rfl
            have f0 := HV7.out.frozenAt (k * 7)
            have c1 := own_at Nd_len2 HV7.out HND.out 1 _ rfl
            have f1 := HV7.out.frozenAt (k * 7 + 1)
            have c2 := own_at Nd_len2 HV7.out HND.out 2 _ rfl
            have f2 := HV7.out.frozenAt (k * 7 + 2)
            have c3 := own_at Nd_len2 HV7.out HND.out 3 _ rfl
            have f3 := HV7.out.frozenAt (k * 7 + 3)
            have c4 := own_at Nd_len2 HV7.out HND.out 4 _ rfl
            have f4 := HV7.out.frozenAt (k * 7 + 4)
            have c5 := own_at Nd_len2 HV7.out HND.out 5 _ rfl
            have f5 := HV7.out.frozenAt (k * 7 + 5)
            have c6 := own_at Nd_len2 HV7.out HND.out 6 _ rfl
            have f6 := HV7.out.frozenAt (k * 7 + 6)
            simp only [Nat.add_zero] at c0
            clear hns5 hb5'
            go_upto_region 22 with (fail)
            obtain ⟨w8, hw8⟩ : ∃ w8, w8 = (((((((w7).setCell ⟨gv, k * 7, none⟩ (.int .i64 5)).setCell ⟨gv, k * 7 + 1, none⟩ (.string name)).setCell ⟨gv, k * 7 + 2, none⟩ (.int .i64 0)).setCell ⟨gv, k * 7 + 3, none⟩ (.int .i64 0)).setCell ⟨gv, k * 7 + 4, none⟩ (.string { data := #[] })).setCell ⟨gv, k * 7 + 5, none⟩ (.slice none 0 0)).setCell ⟨gv, k * 7 + 6, none⟩ (.slice none 0 0) := ⟨_, rfl⟩
            have hn8 : w8.ownsRow wr.heap.size 49 7 (.slice (some ⟨gv, 0, none⟩) j cv6) j ((ns.set k ⟨5, name, 0, 0, ByteArray.empty, none, 0, 0, none, 0, 0, []⟩).flatMap Nd.cs) := by rw [hw8]; exact HN5.out
            have hb8 : Below wr.heap.size wr w8 := by rw [hw8]; exact HB5'.out
            rw [← hw8]
            have HN8 := Lib.hid hn8
            have HB8 := Lib.hid hb8
            clear hw8 hn8 hb8 HN5 HB5' c0 c1 c2 c3 c4 c5 c6 f0 f1 f2 f3 f4 f5 f6
            have d0 := (HB8.out.cell (p := ⟨lb, lo + k * 2 + 0, none⟩) (block_lt_of_cell HC0.out)).trans HC0.out
            simp only [Nat.add_zero] at d0
            go_upto_if 118 with (fail)
            go_cut [] (fun wx => wx.ownsRow wr.heap.size 49 7 (.slice (some ⟨gv, 0, none⟩) j cv6) j ((ns.set k (inPl name b)).flatMap Nd.cs) ∧ Below wr.heap.size wr wx)
            case first =>
              cases hb0 : (b == 0)
              · have hbne : b ≠ 0 := by simpa using hb0
                have HF := Lib.hid (inPl_pos (name := name) hbne)
                clear hbne
                go_wp2_with fail
                go_meet
                exact ⟨by rw [HF.out]; exact HN8.out, HB8.out⟩
              · obtain rfl : b = 0 := by simpa using hb0
                have hz8 : (ns.set k ⟨5, name, 0, 0, ByteArray.empty, none, 0, 0, none, 0, 0, []⟩)[k]? = some ⟨5, name, 0, 0, ByteArray.empty, none, 0, 0, none, 0, 0, []⟩ := by rw [List.getElem?_set, if_pos rfl, if_pos (by omega)]
                have c0 := own_at Nd_len2 HN8.out hz8 0 _ rfl
                have f0 := HN8.out.frozenAt (k * 7)
                have c1 := own_at Nd_len2 HN8.out hz8 1 _ rfl
                have f1 := HN8.out.frozenAt (k * 7 + 1)
                have c2 := own_at Nd_len2 HN8.out hz8 2 _ rfl
                have f2 := HN8.out.frozenAt (k * 7 + 2)
                have c3 := own_at Nd_len2 HN8.out hz8 3 _ rfl
                have f3 := HN8.out.frozenAt (k * 7 + 3)
                have c4 := own_at Nd_len2 HN8.out hz8 4 _ rfl
                have f4 := HN8.out.frozenAt (k * 7 + 4)
                have c5 := own_at Nd_len2 HN8.out hz8 5 _ rfl
                have f5 := HN8.out.frozenAt (k * 7 + 5)
                have c6 := own_at Nd_len2 HN8.out hz8 6 _ rfl
                have f6 := HN8.out.frozenAt (k * 7 + 6)
                simp only [Nat.add_zero] at c0
                have hns4 := (own_chain (Nd.cs ⟨4, ByteArray.empty, 0, 0, ByteArray.empty, none, 0, 0, none, 0, 0, []⟩) _ w8 (k * 7) HN8.out).1
                rw [setList_flat Nd.cs 7 Nd_len2 _ k _ (by rw [List.length_set]; omega), List.set_set] at hns4
                have hb4' := below_chain hgv1 (Nd.cs ⟨4, ByteArray.empty, 0, 0, ByteArray.empty, none, 0, 0, none, 0, 0, []⟩) w8 (k * 7) HB8.out
                have HN4 := Lib.hid hns4
                have HB4' := Lib.hid hb4'
                clear hns4 hb4' hz8
                go_wp2_with fail
                go_meet
                exact ⟨by rw [inPl_zero]; exact HN4.out, HB4'.out⟩
            case rest =>
              obtain ⟨hv9, hb9⟩ := hcut
              obtain ⟨wd, rfl⟩ : ∃ wd : World, wd = wc := ⟨_, rfl⟩
              have HV9 := Lib.hid (RS.of_owns hv9 (by decide) Nd_len2 (by omega))
              have HKR9 := Lib.hid ((RS.of_owns HKP.out (by decide) Bv_len (by omega)).below hb9)
              have HL9 := Lib.hid (RS.of_owns (own_below HLW.out hb9) (by decide) Kd_len (by omega))
              have HBD := Lib.hid (HBW.out.trans (hb9.mono zr))
              have zd := HBD.out.size
              have HOUT := Lib.hid (show Outside bs (keepL bs k j j) k ns.length from by rw [hlen]; exact keepL_out bs k j)
              have HKT := Lib.hid (swap_kept HTR.out HLK.out (by omega) HBEN.out HOUT.out (inPl_right HLEG.out b) (inPl_ks name b))
              clear hv9 hb9 HN8 HB8 HV7 HB7 HKP HLW HC0 HC1 d0
              go_wp2_with fail
              with_reducible refine (moved_gen wd (some ⟨gv, 0, none⟩) j cv6 (ns.set k (inPl name b)) HV9.out (fun nd hnd => by
                rcases mem_set_nd hnd with rfl | h
                · exact inPl_ok wd (by have := HQS.out; unfold maxLen; omega) b
                · exact (okS_ok (HOK.out nd h)).below HBD.out) (some ⟨gk, 0, none⟩) j (keepL bs k j j) HKR9.out none 0 0 [] (rs_nil7 wd) (.inl ⟨rfl, rfl⟩) hn (by omega) (fun nd hnd => by
                rcases mem_set_nd hnd with rfl | h
                · exact inPl_kl name b
                · exact (HSM.out nd h).1) (fun i nd hi hki q hq => by have := (HKT.out.one i nd hi hki).2.2.2 q hq; exact ⟨this.1, this.2.1⟩)).mono ?_
              rintro e wa ⟨hmo, hba⟩
              obtain ⟨ma, L, mc, pa, pc, us, rfl, hL, hl6, hu6, hp6, hmv⟩ := hmo
              rw [Nat.zero_add] at hL
              have za := hba.size
              have HBA := Lib.hid (HBD.out.trans (hba.mono (by omega)))
              have HLA := Lib.hid (HL9.out.below hba)
              have HKA := Lib.hid (HKR9.out.below hba)
              have HMA := Lib.hid hl6
              have HPA := Lib.hid hp6
              have HUO := Lib.hid hu6
              have HSW := Lib.hid (swap_law HTR.out HLK.out HSL.out.1 hk HBEN.out HOUT.out HLEG.out HFREE.out HLK2.out hmv)
              have husl : L ≤ j := by
                have h1 : nk (keepL bs k j j) (ns.set k (inPl name b)).length ≤ (List.range (ns.set k (inPl name b)).length).length := List.countP_le_length
                have h2 := hmv.len
                rw [List.length_range, List.length_set] at h1
                rw [List.length_set] at h2
                omega
              have HLL := Lib.hid hL
              obtain ⟨lb2, lo2, y, hla2, hy, hcl⟩ := HLA.out.at hk
              obtain ⟨el1, el2⟩ : lb = lb2 ∧ lo = lo2 := by
                rw [hla] at hla2
                simp only [Option.some.injEq, Addr.mk.injEq, and_true] at hla2
                exact hla2
              rw [HLK2.out] at hy
              obtain rfl := (Option.some.inj hy).symm
              have d0 := hcl 0 _ rfl
              have d1 := hcl 1 _ rfl
              simp only [Nat.add_zero] at d0
              rw [← el1, ← el2] at d0 d1
              clear hla2 el1 el2
              have HSA := Lib.hid (show (sa = none ∧ sn = 0 ∧ sc' = 0 ∧ sc.flatMap Nm.cs = []) ∨ ∃ ad, sa = some ad ∧ ∀ i v, (sc.flatMap Nm.cs)[i]? = some v → wa.cell? (ad.add i) = some v from by
                cases hsa : sa with
                | none =>
                  have h0 := HSN0.out hsa
                  have h1 := HSC.out.2.1
                  left
                  refine ⟨rfl, by omega, h0, ?_⟩
                  rw [List.eq_nil_of_length_eq_zero (by omega : sc.length = 0)]; rfl
                | some ad => exact .inr ⟨ad, rfl, (HSC.out.below HBA.out).cells Nm_len2 (by decide) hsa⟩)
              clear hba hl6 hp6 hu6 hmv hL hcl hy HV9 HKR9 HL9
              go_wp2_with (at_builtin; (refine L_appendE rfl _ _ _ rfl sl25 wa.heap.size (some ⟨wa.heap.size, 0, none⟩) 1 1 (Nm.cs ⟨name, b, o⟩) rfl (World.ownsRow_lit wa #[.string name, .int .i64 b, .bool o] 1 (Nat.le_refl _) (by simp [maxLen]) rfl) sa sn sc' (sc.flatMap Nm.cs) rfl (by
                                          rcases HSA.out with h | ⟨ad, h1, h2⟩
                                          · exact .inl h
                                          · exact .inr ⟨ad, h1, fun i v hv => ((((Below.refl _ _).alloc (Nat.le_refl _) _).cell (p := ad.add i) (block_lt_of_cell (h2 i v hv)))).trans (h2 i v hv)⟩) (by rw [flat_len Nm.cs 3 Nm_len2, hscl]) one_nms (by omega) (by simp [maxLen]; omega) (by simp) (fun ae ce we hoe hge => ?_)
                                        have hbe : Below wa.heap.size wa we := ((Below.refl _ _).alloc (Nat.le_refl _) _).grown hge (by simp) (fun q hq => by simp [Value.ownBlock] at hq; omega)
                                        have HSE := Lib.hid hoe
                                        have HBE := Lib.hid (HBA.out.trans (hbe.mono (by omega)))
                                        have HLE := Lib.hid (HLA.out.below hbe)
                                        have HKE := Lib.hid (HKA.out.below hbe)
                                        have HME := Lib.hid (HMA.out.below hbe)
                                        have HPE := Lib.hid (HPA.out.below hbe)
                                        have HUE := Lib.hid (fun u hu => (HUO.out u hu).below hbe)
                                        have ze := hbe.size
                                        clear hoe hge hbe HSA))
              have HSR := Lib.hid (RS.of_owns (xs := ⟨name, b, o⟩ :: sc) HSE.out (by decide) Nm_len2 (by omega))
              clear d0 d1 HSE
              with_reducible refine (of_any we ma L mc ([] ++ us) HME.out (fun u hu => HUE.out u (by simpa using hu)) ae (1 + sn) ce (⟨name, b, o⟩ :: sc) HSR.out (HT.out.below HBE.out (by have := H2.out; omega)) (HR2.out.below HBE.out H2.out H2.out) (by have := H2.out; omega) (by omega)).mono ?_
              rintro e wf ⟨hof, hbf⟩
              rw [List.nil_append] at hof
              have zf := hbf.size
              have HBF := Lib.hid (HBE.out.trans (hbf.mono (by omega)))
              have HLF := Lib.hid (HLE.out.below hbf)
              have HKF := Lib.hid (HKE.out.below hbf)
              have HPF := Lib.hid (HPE.out.below hbf)
              have HOF := Lib.hid hof
              clear hof hbf HME HUE HSR
              rcases HSL.out.2 with ⟨er0, huj⟩ | ⟨hne, hatu, hult, nd', hnd', hlk'⟩
              · subst er0
                subst huj
                obtain ⟨ms, hm1, hm2, hm3⟩ := HSW.out.1 (by omega)
                have hof := HOF.out
                rw [hm1] at hof
                obtain ⟨fa, fc, rfl, hf7⟩ := hof
                have hml : ms.length = L := by have := HLL.out; omega
                rw [show (ms, (0 : Nat), (0 : Int)).1.length = L from hml] at hf7 ⊢
                have HMF := Lib.hid (RS.of_owns hf7 (by decide) Kd_len (by omega))
                have HM3 := Lib.hid hm3
                have HML := Lib.hid hml
                clear hm1 hm2 hm3 hml hf7 HOF HSW
                go_wp2_with fail
                go_loopw [22] (fun i wr => ∃ i' : Nat, i' ≤ u ∧ i = .int .i64 (i' : Int) ∧ Below wf.heap.size wf wr) (fun i _ => u - (intOf i).toNat)
                case atStart => exact ⟨0, Nat.zero_le _, rfl, Below.refl _ _⟩
                case round =>
                  obtain ⟨i', hi', rfl, hb⟩ := hrel
                  have HB8 := Lib.hid hb
                  have HBW2 := Lib.hid (HBF.out.trans (hb.mono (by omega)))
                  have z8 := hb.size
                  clear hb
                  by_cases hlt : i' < u
                  · have hltI : (i' : Int) < (u : Int) := by omega
                    obtain ⟨kb, ko, q, hqa, hq, hcq⟩ := HKF.out.at hlt
                    cases hqa
                    have q0 := (HB8.out.cell (p := ⟨gk, 0 + i' * 1 + 0, none⟩) (block_lt_of_cell (hcq 0 _ rfl))).trans (hcq 0 _ rfl)
                    simp only [Nat.mul_one, Nat.add_zero, Nat.zero_add] at q0
                    have HKQ := Lib.hid (show kp (keepL bs k u u) i' = q by unfold kp; rw [List.getD_eq_getElem?_getD, hq]; rfl)
                    clear hcq hq
                    cases q
                    · go_wp2_with fail
                      go_region
                      go_wp2_with fail
                      go_roundw
                      case rel => exact ⟨i' + 1, by omega, by go_num, HB8.out.drew⟩
                      case measure => simp [intOf] <;> omega
                    · obtain ⟨xb, xo, ⟨vb, vo⟩, hxe, hv, hcx⟩ := HLF.out.at hlt
                      rw [hla] at hxe
                      obtain ⟨el1, el2⟩ : lb = xb ∧ lo = xo := by
                        simp only [Option.some.injEq, Addr.mk.injEq, and_true] at hxe
                        exact hxe
                      have x0 := (HB8.out.cell (p := ⟨xb, xo + i' * 2 + 0, none⟩) (block_lt_of_cell (hcx 0 _ rfl))).trans (hcx 0 _ rfl)
                      have x1 := (HB8.out.cell (p := ⟨xb, xo + i' * 2 + 1, none⟩) (block_lt_of_cell (hcx 1 _ rfl))).trans (hcx 1 _ rfl)
                      rw [← el1, ← el2] at x0 x1
                      clear hxe el1 el2
                      obtain ⟨pb, po, p, hpe, hp, hcp⟩ := HPF.out.at hlt
                      have p0 := (HB8.out.cell (p := ⟨pb, po + i' * 1 + 0, none⟩) (block_lt_of_cell (hcp 0 _ rfl))).trans (hcp 0 _ rfl)
                      obtain rfl : p = ((plc 0 (keepL bs k u u) i' : Nat) : Int) := by
                        simp only [List.getElem?_map, List.getElem?_range hlt, Option.map_some, Option.some.injEq] at hp
                        exact hp.symm
                      subst hpe
                      have hms := HM3.out i' (by omega) HKQ.out
                      rw [hv] at hms
                      obtain ⟨pl, hpl⟩ : ∃ pl, pl = plc 0 (keepL bs k u u) i' := ⟨_, rfl⟩
                      rw [← hpl] at hms p0
                      have hplL : pl < L := by rw [← HML.out]; exact (List.getElem?_eq_some_iff.1 hms).1
                      have hplI : (pl : Int) < (L : Int) := by omega
                      obtain ⟨yb, yo, y, hya, hy, hcy⟩ := HMF.out.at hplL
                      rw [hms] at hy
                      obtain rfl := (Option.some.inj hy).symm
                      have y0 := (HB8.out.cell (p := ⟨yb, yo + pl * 2 + 0, none⟩) (block_lt_of_cell (hcy 0 _ rfl))).trans (hcy 0 _ rfl)
                      have y1 := (HB8.out.cell (p := ⟨yb, yo + pl * 2 + 1, none⟩) (block_lt_of_cell (hcy 1 _ rfl))).trans (hcy 1 _ rfl)
                      subst hya
                      simp only [Nat.mul_one, Nat.add_zero] at x0 p0 y0
                      clear hcx hcp hcy hv hp hy hms hpl
                      go_wp2_with fail
                      go_region
                      go_wp2_with fail
                      go_roundw
                      case rel => exact ⟨i' + 1, by omega, by go_num, HB8.out.drew⟩
                      case measure => simp [intOf] <;> omega
                  · have hltI : ¬ (i' : Int) < (u : Int) := by omega
                    go_wp2_with fail
                    with_reducible refine (known_any wr (HT.out.below HBW2.out (by have := H2.out; omega)) (HR2.out.below HBW2.out H2.out H2.out) (by have := H2.out; omega)).mono ?_
                    rintro e wz ⟨rfl, hbz⟩
                    go_wp2
                    go_ret
                    exact ⟨rfl, HBW2.out.trans (hbz.mono (by omega))⟩
              · have hek : kp (keepL bs k j j) u = true := by
                  rw [HOUT.out u (by omega)]
                  cases hbu : kp bs u with
                  | false => rfl
                  | true => have := ben_le HTR.out HBEN.out _ u (Nat.le_refl _) hbu; omega
                have hm1 := HSW.out.2 nd' er hnd' hek hlk' hne
                have hof := HOF.out
                rw [hm1] at hof
                obtain ⟨fa, fc, rfl, hf7⟩ := hof
                obtain ⟨pb, po, p, hpe, hp, hcp⟩ := HPF.out.at hult
                have p0 := hcp 0 _ rfl
                obtain rfl : p = ((plc 0 (keepL bs k j j) u : Nat) : Int) := by
                  simp only [List.getElem?_map, List.getElem?_range hult, Option.map_some, Option.some.injEq] at hp
                  exact hp.symm
                rw [plc_eq hek, Nat.zero_add] at p0
                simp only [Nat.mul_one, Nat.add_zero] at p0
                subst hpe
                subst hatu
                have hatI : (at' : Int) < (j : Int) := by omega
                have he1 : (er == 0) = false := by simpa using hne
                have he2 : (er != 0) = true := by simpa using hne
                clear hcp hp hm1 hf7 HOF HSW hnd' hlk' hne hek
                generalize nk (keepL bs k j j) at' = pp at *
                go_wp2_with fail
                go_loopw [22] (fun i wr => i = .int .i64 0 ∧ Below wf.heap.size wf wr) (fun i _ => 0)
                case atStart => exact ⟨rfl, Below.refl _ _⟩
                case round =>
                  obtain ⟨rfl, hb⟩ := hrel
                  have HBW2 := Lib.hid (HBF.out.trans (hb.mono (by omega)))
                  have z8 := hb.size
                  clear hb p0
                  go_wp2_with fail
                  with_reducible refine (known_any wr (HT.out.below HBW2.out (by have := H2.out; omega)) (HR2.out.below HBW2.out H2.out H2.out) (by have := H2.out; omega)).mono ?_
                  rintro e wz ⟨rfl, hbz⟩
                  go_wp2
                  go_ret
                  exact ⟨rfl, HBW2.out.trans (hbz.mono (by omega))⟩
end Go.Proofs.YtakaoacialnjaaaDoor
namespace Go.Proofs.YtakaoacialnjaaaDoor
open Go Go.RowKit
set_option linter.unusedVariables false
set_option linter.unusedSimpArgs false
theorem scope_nil {H : Type} {enc : TypeId × Value → H} {W : World} {a : Option Addr} {n c : Nat} {d : DataW H} {p : List MemPlace} (h : ∃ fuel, DataW.trod enc Tryd.prog W 0 (fun _ => true) true fuel 25 (Value.slice a n c).cells.toList = some (d, p)) : a = none → c = 0 := by
  intro ha
  subst ha
  obtain ⟨fuel, hf⟩ := h
  rcases Go.Deep.open_slice Tryd.underlying25 hf with ⟨hc, _⟩ | ⟨x, len, cap, m, k, D, Pl, hc, _⟩
  · simp [Value.cells] at hc; exact hc.2
  · simp [Value.cells] at hc
end Go.Proofs.YtakaoacialnjaaaDoor
