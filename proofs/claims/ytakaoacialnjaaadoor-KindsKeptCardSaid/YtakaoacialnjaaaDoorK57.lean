import Derived.Test.YtakaoacialnjaaaDoorK56
namespace Go.Proofs.YtakaoacialnjaaaDoor
open Go Go.RowKit
set_option linter.unusedVariables false
set_option linter.unusedSimpArgs false
theorem Who.same {w : World} {B : Nat} {u nd : Nd} (h : Who w B u nd) (hok : nd.ok w) (h1 : nd.kl ≤ 20000) (h2 : nd.sl ≤ 20000) : SameNd w u nd := by
  obtain ⟨e1, e2, e3, e4, e5, e6, e7, e8, e9, e10, hk, ss, hsl, hs, ho⟩ := h
  have a1 := (RS.of_owns hk (by decide) Iv_len (by omega)).cut
  have a2 := (RS.of_owns ho (by decide) Sv_len (by omega)).cut
  rw [hok.1.1] at a1
  rw [hsl] at a2
  exact ⟨e1, e2, e3, e4, e5, e6, e7, e8, by rw [e7, e8, e9]; exact a1, hok.1, ss, by rw [e6, e10]; exact a2, hs⟩
theorem SameNd.mark (w : World) : SameNd w markNd markNd := ⟨rfl, rfl, rfl, rfl, rfl, rfl, rfl, rfl, ⟨rfl, Nat.le_refl _, by show (0 : Nat) ≤ _; omega, fun i x h => by simp [markNd] at h⟩, ⟨rfl, Nat.le_refl _, by show (0 : Nat) ≤ _; omega, fun i x h => by simp [markNd] at h⟩, [], ⟨rfl, Nat.le_refl _, by show (0 : Nat) ≤ _; omega, fun i x h => by simp at h⟩, ⟨rfl, Nat.le_refl _, by show (0 : Nat) ≤ _; omega, fun i x h => by simp at h⟩⟩
theorem RS.behind {α : Type} {s : Nat} {enc : α → List Value} {w : World} {g n c m : Nat} {xs ys : List α} (h : RS s enc w (some ⟨g, 0, Option.none⟩) n c (xs ++ ys)) (hx : xs.length = m) (hc : n ≤ c) : RS s enc w (some ⟨g, m * s, Option.none⟩) ys.length (c - m) ys := by
  obtain ⟨h1, h2, h3, h4⟩ := h
  rw [List.length_append] at h1
  refine ⟨rfl, by omega, by omega, fun i x hi => ⟨g, m * s, rfl, fun j v hv => ?_⟩⟩
  obtain ⟨b, off, e, hcl⟩ := h4 (m + i) x (by rw [List.getElem?_append_right (by omega), hx, Nat.add_sub_cancel_left]; exact hi)
  cases e
  have := hcl j v hv
  rwa [Nat.zero_add, Nat.add_mul] at this
end Go.Proofs.YtakaoacialnjaaaDoor
namespace Go.Proofs.YtakaoacialnjaaaDoor
open Go Go.RowKit
set_option linter.unusedVariables false
set_option linter.unusedSimpArgs false
set_option maxRecDepth 100000 in
set_option maxHeartbeats 4000000 in
theorem left_any (w : World) (B g n : Nat) (us ns : List Nd) (hrow : w.ownsRow B 49 7 (.slice (some ⟨g, 0, none⟩) (n + 8) (n + 8)) (n + 8) ((us ++ List.replicate 8 markNd).flatMap Nd.cs)) (hus : us.length = n) (na : Option Addr) (nc : Nat) (hr : RS 7 Nd.cs w na n nc ns) (hok : ∀ nd ∈ ns, nd.okS w)
    (hwho : ∀ (i : Nat) (u nd : Nd), us[i]? = some u → ns[i]? = some nd → Who w B u nd) (hn : n ≤ 5000) (hsm : ∀ nd ∈ ns, nd.kl ≤ 20000 ∧ nd.sl ≤ 20000) :
    Calls Tryd.prog 24 #[.slice (some ⟨g, 0, none⟩) n (n + 8), .slice na n nc] w fun e w' => e = .returned (.bool true) ∧ Below w.heap.size w w' := by
  have hfull : RS 7 Nd.cs w (some ⟨g, 0, none⟩) (n + 8) (n + 8) (us ++ List.replicate 8 markNd) := RS.of_owns hrow (by decide) Nd_len2 (by omega)
  have hu : RS 7 Nd.cs w (some ⟨g, 0, none⟩) n (n + 8) us := by have := hfull.cut; rwa [hus] at this
  have hbeh := hfull.behind hus (Nat.le_refl _)
  rw [show (List.replicate 8 markNd).length = 8 from rfl, show n + 8 - n = 8 by omega] at hbeh
  have HU := Lib.hid hu
  have HR := Lib.hid hr
  have HBE := Lib.hid hbeh
  have HOK := Lib.hid hok
  have HW := Lib.hid hwho
  have HSM := Lib.hid hsm
  have HSN := Lib.hid (fun (i : Nat) (u nd : Nd) (h1 : us[i]? = some u) (h2 : ns[i]? = some nd) => (hwho i u nd h1 h2).same (hok nd (List.mem_of_getElem? h2)).1 (hsm nd (List.mem_of_getElem? h2)).1 (hsm nd (List.mem_of_getElem? h2)).2)
  clear hrow hfull hu hr hbeh hok hwho hsm
  go_enter Tryd.func24, Tryd.ntmps24
  go_wp2_with (first | (go_at_call 41; refine (alikeN_any w (some ⟨g, 0, none⟩) n (n + 8) us HU.out na nc ns HR.out HSN.out).mono ?_; rintro e w1 ⟨rfl, hb1⟩))
  have HB1 := Lib.hid hb1
  clear hb1
  go_loopw [5] (fun i wr => ∃ k : Nat, k ≤ n ∧ i = .int .i64 k ∧ Below w.heap.size w wr) (fun i _ => n - (intOf i).toNat)
  case atStart => exact ⟨0, by omega, rfl, HB1.out⟩
  case round =>
    obtain ⟨k, hk, rfl, hb⟩ := hrel
    have HB := Lib.hid hb
    clear hb
    by_cases hlt : k < n
    · have hltI : (k : Int) < (n : Int) := by omega
      obtain ⟨xa, xo, u, hga, hu, hcx⟩ := HU.out.at hlt
      cases hga
      obtain ⟨ya, yo, nd, rfl, hnd, hcy⟩ := HR.out.at hlt
      have x5 := (HB.out.cell (p := ⟨g, 0 + k * 7 + 5, none⟩) (block_lt_of_cell (hcx 5 _ rfl))).trans (hcx 5 _ rfl)
      have x6 := (HB.out.cell (p := ⟨g, 0 + k * 7 + 6, none⟩) (block_lt_of_cell (hcx 6 _ rfl))).trans (hcx 6 _ rfl)
      have y5 := (HB.out.cell (p := ⟨ya, yo + k * 7 + 5, none⟩) (block_lt_of_cell (hcy 5 _ rfl))).trans (hcy 5 _ rfl)
      have y6 := (HB.out.cell (p := ⟨ya, yo + k * 7 + 6, none⟩) (block_lt_of_cell (hcy 6 _ rfl))).trans (hcy 6 _ rfl)
      obtain ⟨e1, e2, e3, e4, e5, e6, e7, e8, e9, e10, hkk, ss, hsl, hss, hoo⟩ := (HW.out k u nd hu hnd).below HB.out
      have hsm1 : nd.kl ≤ 20000 := (HSM.out nd (List.mem_of_getElem? hnd)).1
      have hsm2 : nd.sl ≤ 20000 := (HSM.out nd (List.mem_of_getElem? hnd)).2
      have hk2 := Lib.hid ((HOK.out nd (List.mem_of_getElem? hnd)).1.1.below HB.out)
      have hI := Lib.hid (RS.of_owns hkk (by decide) Iv_len (by omega))
      have hS := Lib.hid (RS.of_owns hoo (by decide) Sv_len (by omega))
      have hS2 := Lib.hid hss
      rw [e6, e10] at x5
      rw [e7, e9] at x6
      simp only [Nat.zero_add] at x5 x6
      have hle1 : (nd.kl : Int) ≤ (nd.kl : Int) + 80 := by omega
      have hle2 : (nd.sl : Int) ≤ (nd.sl : Int) + 80 := by omega
      have hw1 : IntKind.i64.wrap ((nd.kl : Int) + 80) = (nd.kl : Int) + 80 := by simp [IntKind.wrap, IntKind.bits, IntKind.signed]; omega
      have hw2 : IntKind.i64.wrap ((nd.sl : Int) + 80) = (nd.sl : Int) + 80 := by simp [IntKind.wrap, IntKind.bits, IntKind.signed]; omega
      have hp1 : (0 : Int) ≤ (nd.kl : Int) + 80 := by omega
      have hp2 : (0 : Int) ≤ (nd.sl : Int) + 80 := by omega
      have hz1 : (0 : Int) ≤ (k : Int) := by omega
      clear hcx hcy hu hnd e1 e2 e3 e4 e5 e6 e7 e8 e9 e10 hkk hss hoo hsl
      go_wp2_with fail
      go_region_held3 (fun w' => w'.cell? ⟨ya, yo + k * 7 + 5, none⟩ = some (.slice nd.sa nd.sl nd.sc) ∧ w'.cell? ⟨ya, yo + k * 7 + 6, none⟩ = some (.slice nd.ka nd.kl nd.kc))
        (first | exact ⟨y5, y6⟩ | exact ⟨keepg hb2 y5, keepg hb2 y6⟩ | exact ⟨keepg hb3 (keepg hb2 y5), keepg hb3 (keepg hb2 y6)⟩)
        (first
          | (go_at_call 43; refine (intact_I wr.drew u.ka nd.kl (nd.kl + 80) nd.ks (-77) hI.out nd.ka nd.kc hk2.out (by omega)).mono ?_; rintro e w2 ⟨rfl, hb2⟩)
          | (go_at_call 44; refine (intact_S w2 u.sa nd.sl (nd.sl + 80) ss mkS (hS.out.below (show Below wr.heap.size wr w2 from (Below.refl _ _).drew.trans hb2)) nd.sa nd.sc (hS2.out.below (show Below wr.heap.size wr w2 from (Below.refl _ _).drew.trans hb2)) (by omega)).mono ?_; rintro e w3 ⟨rfl, hb3⟩))
      have HB3 := Lib.hid (HB.out.trans ((show Below wr.heap.size wr w3 from (show Below wr.heap.size wr w2 from (Below.refl _ _).drew.trans hb2).trans (hb3.mono hb2.size)).mono HB.out.size))
      clear hb2 hb3
      go_wp2
      go_roundw
      case rel => exact ⟨k + 1, by omega, by go_num, HB3.out⟩
      case measure => simp [intOf]; omega
    · have hltI : ¬ (k : Int) < (n : Int) := by omega
      have hq1 : (n : Int) ≤ (n : Int) + 8 := by omega
      go_wp2_with fail
      go_loopw [9] (fun i wr => ∃ j : Nat, j ≤ 8 ∧ i = .int .i64 j ∧ Below w.heap.size w wr) (fun i _ => 8 - (intOf i).toNat)
      case atStart => exact ⟨0, by omega, rfl, HB.out⟩
      case round =>
        obtain ⟨j, hj, rfl, hb⟩ := hrel
        have HB4 := Lib.hid hb
        clear hb
        by_cases hlj : j < 8
        · have hljI : (j : Int) < 8 := by omega
          obtain ⟨xa, xo, z, hga, hz, hcz⟩ := HBE.out.at hlj
          cases hga
          obtain rfl : z = markNd := by rw [List.getElem?_replicate, if_pos hlj] at hz; exact (Option.some.inj hz).symm
          have z0 := (HB4.out.cell (p := ⟨g, n * 7 + j * 7 + 0, none⟩) (block_lt_of_cell (hcz 0 _ rfl))).trans (hcz 0 _ rfl)
          have z1 := (HB4.out.cell (p := ⟨g, n * 7 + j * 7 + 1, none⟩) (block_lt_of_cell (hcz 1 _ rfl))).trans (hcz 1 _ rfl)
          have z2 := (HB4.out.cell (p := ⟨g, n * 7 + j * 7 + 2, none⟩) (block_lt_of_cell (hcz 2 _ rfl))).trans (hcz 2 _ rfl)
          have z3 := (HB4.out.cell (p := ⟨g, n * 7 + j * 7 + 3, none⟩) (block_lt_of_cell (hcz 3 _ rfl))).trans (hcz 3 _ rfl)
          have z4 := (HB4.out.cell (p := ⟨g, n * 7 + j * 7 + 4, none⟩) (block_lt_of_cell (hcz 4 _ rfl))).trans (hcz 4 _ rfl)
          have z5 := (HB4.out.cell (p := ⟨g, n * 7 + j * 7 + 5, none⟩) (block_lt_of_cell (hcz 5 _ rfl))).trans (hcz 5 _ rfl)
          have z6 := (HB4.out.cell (p := ⟨g, n * 7 + j * 7 + 6, none⟩) (block_lt_of_cell (hcz 6 _ rfl))).trans (hcz 6 _ rfl)
          simp only [Nat.add_zero, markNd] at z0 z1 z2 z3 z4 z5 z6
          clear hcz hz
          go_wp2_with fail
          go_region_held3 (fun w' => w'.cell? ⟨g, n * 7 + j * 7, none⟩ = some (.int .i64 (-77)) ∧ w'.cell? ⟨g, n * 7 + j * 7 + 1, none⟩ = some (.string ByteArray.empty) ∧ w'.cell? ⟨g, n * 7 + j * 7 + 2, none⟩ = some (.int .i64 0) ∧ w'.cell? ⟨g, n * 7 + j * 7 + 3, none⟩ = some (.int .i64 0) ∧ w'.cell? ⟨g, n * 7 + j * 7 + 4, none⟩ = some (.string ByteArray.empty) ∧ w'.cell? ⟨g, n * 7 + j * 7 + 5, none⟩ = some (.slice none 0 0) ∧ w'.cell? ⟨g, n * 7 + j * 7 + 6, none⟩ = some (.slice none 0 0))
            (first | exact ⟨z0, z1, z2, z3, z4, z5, z6⟩ | exact ⟨keepg hb5 z0, keepg hb5 z1, keepg hb5 z2, keepg hb5 z3, keepg hb5 z4, keepg hb5 z5, keepg hb5 z6⟩ | exact ⟨keepg hb6 (keepg hb5 z0), keepg hb6 (keepg hb5 z1), keepg hb6 (keepg hb5 z2), keepg hb6 (keepg hb5 z3), keepg hb6 (keepg hb5 z4), keepg hb6 (keepg hb5 z5), keepg hb6 (keepg hb5 z6)⟩)
            (first
              | (go_at_call 36; refine (nodemark_any _).mono ?_; rintro e w5 ⟨rfl, hb5⟩)
              | (go_at_call 42; refine (samenode_any' w5 markNd markNd (SameNd.mark w5)).mono ?_; rintro e w6 ⟨rfl, hb6⟩))
          have HB6 := Lib.hid (HB4.out.trans ((show Below wr.heap.size wr w6 from (show Below wr.heap.size wr w5 from (Below.refl _ _).drew.trans hb5).trans (hb6.mono hb5.size)).mono HB4.out.size))
          clear hb5 hb6
          go_wp2
          go_roundw
          case rel => exact ⟨j + 1, by omega, by go_num, HB6.out⟩
          case measure => simp [intOf]; omega
        · have hljI : ¬ (j : Int) < 8 := by omega
          go_wp2
          go_ret
          exact ⟨rfl, HB4.out⟩
end Go.Proofs.YtakaoacialnjaaaDoor
