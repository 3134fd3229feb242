import Derived.Test.YtcnckjlmldnblaaDoorE49c
import Derived.BigGuardPart
namespace Go.Proofs.YtcnckjlmldnblaaDoor
open Go Go.RowKit
set_option linter.unusedVariables false
set_option linter.unusedSimpArgs false
set_option maxRecDepth 100000 in
set_option maxHeartbeats 16000000 in
theorem evalints_walk (w : World) (a b : Int) (ha : I64 a) (hb : I64 b) (ht : ResTab w 1) (h1 : 1 < w.heap.size) :
    Calls Tryd.prog 7 #[.int .i64 a, .int .i64 b] w fun e w' => e = .returned (.bool true) ∧ Below w.heap.size w w' := by
  have HA := Lib.hid ha
  have HB := Lib.hid hb
  have HS := Lib.hid (show St w w [] from ⟨Below.refl _ _, ht, h1, fun p hp => by cases hp⟩)
  clear ha hb ht h1
  go_enter Tryd.func7, Tryd.ntmps7
  go_wp2_with fail
  with_reducible refine (lawint_any w a).mono ?_
  rintro e z0 ⟨rfl, hb⟩
  have HN := Lib.hid (HS.out.below hb)
  clear hb
  go_upto_region 2 with (fail)
  obtain ⟨v1, hv1⟩ : ∃ v1, v1 = z0.alloc (boxI 1 a none 0) := ⟨_, rfl⟩
  rw [← hv1]
  have hs' := HN.out.alloc (boxI 1 a none 0) _ _ rfl
  rw [← hv1] at hs'
  clear HS HN hv1
  have HS := Lib.hid hs'
  clear hs'
  go_wp2_with fail
  with_reducible refine (lawint_any v1 b).mono ?_
  rintro e z1 ⟨rfl, hb⟩
  have HN := Lib.hid (HS.out.below hb)
  clear hb
  go_upto_region 3 with (fail)
  obtain ⟨v2, hv2⟩ : ∃ v2, v2 = z1.alloc (boxI 1 b none 0) := ⟨_, rfl⟩
  rw [← hv2]
  have hs' := HN.out.alloc (boxI 1 b none 0) _ _ rfl
  rw [← hv2] at hs'
  clear HS HN hv2
  have HS := Lib.hid hs'
  clear hs'
  obtain ⟨c0, c1, c2, c3, -⟩ := box4 (HS.out.g _ (.tail _ (.head _)))
  obtain ⟨d0, d1, d2, d3, -⟩ := box4 (HS.out.g _ (.head _))
  go_wp2_with fail
  with_reducible refine (twoI_any v2 21 (by unfold Two; decide) a b HA.out HB.out none 0 (fun _ => rfl) none 0 (fun _ => rfl) HS.out.t HS.out.h).mono ?_
  rintro e z2 ⟨⟨kQ, nQ, eQ, aQ, cQ, rfl, hr, hz⟩, hb⟩
  have HRQ := Lib.hid hr
  have HZq := Lib.hid hz
  have HN := Lib.hid (HS.out.below hb)
  clear hr hz hb c0 c1 c2 c3 d0 d1 d2 d3
  go_upto_region 4 with (fail)
  obtain ⟨v3, hv3⟩ : ∃ v3, v3 = z2.alloc (boxI kQ nQ aQ cQ) := ⟨_, rfl⟩
  rw [← hv3]
  have hs' := HN.out.alloc (boxI kQ nQ aQ cQ) _ _ rfl
  rw [← hv3] at hs'
  clear HS HN hv3
  have HS := Lib.hid hs'
  clear hs'
  obtain ⟨c0, c1, c2, c3, -⟩ := box4 (HS.out.g _ (.tail _ (.tail _ (.head _))))
  obtain ⟨d0, d1, d2, d3, -⟩ := box4 (HS.out.g _ (.tail _ (.head _)))
  go_wp2_with fail
  with_reducible refine (twoI_any v3 22 (by unfold Two; decide) a b HA.out HB.out none 0 (fun _ => rfl) none 0 (fun _ => rfl) HS.out.t HS.out.h).mono ?_
  rintro e z3 ⟨⟨kR, nR, eR, aR, cR, rfl, hr, hz⟩, hb⟩
  have HRR := Lib.hid hr
  have HZr := Lib.hid hz
  have HN := Lib.hid (HS.out.below hb)
  clear hr hz hb c0 c1 c2 c3 d0 d1 d2 d3
  go_upto_region 5 with (fail)
  obtain ⟨v4, hv4⟩ : ∃ v4, v4 = z3.alloc (boxI kR nR aR cR) := ⟨_, rfl⟩
  rw [← hv4]
  have hs' := HN.out.alloc (boxI kR nR aR cR) _ _ rfl
  rw [← hv4] at hs'
  clear HS HN hv4
  have HS := Lib.hid hs'
  clear hs'
  have HQ := Lib.hid (quot_facts HA.out HB.out HRQ.out HRR.out)
  clear HRQ HRR
  rcases HQ.out with ⟨h1, h2, h3, h4⟩ | ⟨h0, h1, h2, h3, h4⟩ | ⟨h1, h2, h3, h4, h5, h6, h7, h8, h9, h10, h11, h12, h13⟩
  · clear HQ
    subst h1 h2 h3 h4
    go_upto_region 16 with (fail)
    all_goals (try go_big_false)
    all_goals first
      | (exfalso; omega)
      | (skip
         have HS2 := Lib.hid (show St w v4 [(z1.heap.size, boxI 1 0 none 0), (z0.heap.size, boxI 1 a none 0)] from HS.out.sub fun p hp => by
           rcases List.mem_cons.1 hp with rfl | hp
           · exact (.tail _ (.tail _ (.head _)))
           · simp only [List.mem_singleton] at hp
             subst hp
             exact (.tail _ (.tail _ (.tail _ (.head _)))))
         refine ints16 w v4 a 0 z0.heap.size z1.heap.size HA.out HB.out HS2.out _ _ _ _ _ _ _ _ _ _ _ _ _ _ _ _ _ _ _ _ _ _ _ _ _ _ _ _ _ _ _ _ _ _ _ _ _ _ _ _ _ _ _ _ _ _ _ _ _ _ _ _ _ _ _ _ _ _ _ _ _ _ _ _ _ _ _ _ _ _ _ _ _ _ _ _ _ _ _ _ _ _ _ _ _ _ _ _ _ _ _ _ _ _ _ _ _ _ _ _ _ _ _ _ _ _ _ _ _ _ _ _ _ _ _ _ _ _ _ _ _ _ _ _ _ _ _ _ _ _ _ _ _ _ _ _ _ _ _ _ _ _ _ _ _ _ _ _ _ _ _ _ _ _ _ _ _ _ _ _ _ _ _ _ _ _ _ _ _ _ _ _ _ _ _ _ _ _ _ _ _ _ _ _ _ _ _ _ _ _ _ _ _ _ _ _ _ _ _ _ _ _ _ _ _ _ _ _ _ _ _ _ _ _ _ _ _ _ _ _ _ _ _ _ _ _ _ _ _ _ _ _ _ _ _ _ _ _ _ _ _ _ _ _ _ _ _ _ _ _ _ _ _ _ _ _ _ _ _ _ _ _ _ _ _ _ _ _ _ _ _ _ _ _ _ _ _ _ _ _ _ _ _ _ _ _ _ _ _ _ _ _ _ _ _ _ _ _ _ _ _ _ _ _ _ _ _ _ _ _ _ _ _ _ _ _ _ _ _ _ _ _ _ _ _ _ _ _ _ _ _ _ _ _ _ _ _ _ _ _ _ _ _ _ _ _ _ _ _ _ _ _ _ _ _ _ _ _ _ _ _ _ _ _ _ _ _ _ _ _ _ _ ?_
         assumption)
  · have b5 : (a == -9223372036854775808) = true := by simp [h0]
    obtain ⟨c0, c1, c2, c3, -⟩ := box4 (HS.out.g _ (.head _))
    clear HQ
    subst h1 h2 h3 h4
    clear h0
    go_upto_region 16 with (fail)
    all_goals (try go_big_false)
    all_goals first
      | (exfalso; omega)
      | (skip
         have HS2 := Lib.hid (show St w v4 [(z1.heap.size, boxI 1 (-1) none 0), (z0.heap.size, boxI 1 a none 0)] from HS.out.sub fun p hp => by
           rcases List.mem_cons.1 hp with rfl | hp
           · exact (.tail _ (.tail _ (.head _)))
           · simp only [List.mem_singleton] at hp
             subst hp
             exact (.tail _ (.tail _ (.tail _ (.head _)))))
         refine ints16 w v4 a (-1) z0.heap.size z1.heap.size HA.out HB.out HS2.out _ _ _ _ _ _ _ _ _ _ _ _ _ _ _ _ _ _ _ _ _ _ _ _ _ _ _ _ _ _ _ _ _ _ _ _ _ _ _ _ _ _ _ _ _ _ _ _ _ _ _ _ _ _ _ _ _ _ _ _ _ _ _ _ _ _ _ _ _ _ _ _ _ _ _ _ _ _ _ _ _ _ _ _ _ _ _ _ _ _ _ _ _ _ _ _ _ _ _ _ _ _ _ _ _ _ _ _ _ _ _ _ _ _ _ _ _ _ _ _ _ _ _ _ _ _ _ _ _ _ _ _ _ _ _ _ _ _ _ _ _ _ _ _ _ _ _ _ _ _ _ _ _ _ _ _ _ _ _ _ _ _ _ _ _ _ _ _ _ _ _ _ _ _ _ _ _ _ _ _ _ _ _ _ _ _ _ _ _ _ _ _ _ _ _ _ _ _ _ _ _ _ _ _ _ _ _ _ _ _ _ _ _ _ _ _ _ _ _ _ _ _ _ _ _ _ _ _ _ _ _ _ _ _ _ _ _ _ _ _ _ _ _ _ _ _ _ _ _ _ _ _ _ _ _ _ _ _ _ _ _ _ _ _ _ _ _ _ _ _ _ _ _ _ _ _ _ _ _ _ _ _ _ _ _ _ _ _ _ _ _ _ _ _ _ _ _ _ _ _ _ _ _ _ _ _ _ _ _ _ _ _ _ _ _ _ _ _ _ _ _ _ _ _ _ _ _ _ _ _ _ _ _ _ _ _ _ _ _ _ _ _ _ _ _ _ _ _ _ _ _ _ _ _ _ _ _ _ _ _ _ _ _ _ _ _ _ _ _ _ _ _ ?_
         assumption)
  · clear HQ
    obtain ⟨P, hP⟩ : ∃ P, P = nQ * b := ⟨_, rfl⟩
    rw [← hP] at h6 h13
    have HP := Lib.hid hP
    have H6 := Lib.hid h6
    have H11 := Lib.hid h11
    have H12 := Lib.hid h12
    have H13 := Lib.hid h13
    subst h2 h3
    obtain ⟨r0, r1, r2, r3, -⟩ := box4 (HS.out.g _ (.head _))
    have HQ1 := Lib.hid h4
    have HR1 := Lib.hid h5
    clear h4 h5 h6 h11 h12 h13 hP
    by_cases hp : 0 < b
    · have h7' := h7 hp
      have b5 : wrap64 (-b) = -b := wrap_in (by have := HB.out; unfold I64 at *; omega)
      have g1 : (b == 0) = false := by simpa using h1
      have g2 : (b != 0) = true := by simpa using h1
      have g3 : decide (0 < b) = true := by simp [hp]
      have g4 : decide (b < 0) = false := by simp; omega
      clear h1 h7 h8
      go_upto_region 12 with (fail)
      all_goals (try go_big_false)
      clear r0 r1 r2 r3
      have HS3 := Lib.hid (show St w v4 [(z3.heap.size, boxI 1 nR aR cR), (z2.heap.size, boxI 1 nQ aQ cQ), (z1.heap.size, boxI 1 b none 0), (z0.heap.size, boxI 1 a none 0)] from by have h := HS.out; rw [HQ1.out, HR1.out] at h; exact h)
      clear HS
      have HS := Lib.hid HS3.out
      clear HS3
      obtain ⟨c0, c1, c2, c3, -⟩ := box4 (HS.out.g _ (.tail _ (.head _)))
      obtain ⟨d0, d1, d2, d3, -⟩ := box4 (HS.out.g _ (.tail _ (.tail _ (.head _))))
      go_wp2_with fail
      with_reducible refine (twoI_any v4 20 (by unfold Two; decide) nQ b H11.out HB.out aQ cQ HZq.out none 0 (fun _ => rfl) HS.out.t HS.out.h).mono ?_
      rintro e z4 ⟨⟨kP, nP, eP, aP, cP, rfl, hr, hz⟩, hb⟩
      have HRP := Lib.hid hr
      have HZp := Lib.hid hz
      have HN := Lib.hid (HS.out.below hb)
      clear hr hz hb c0 c1 c2 c3 d0 d1 d2 d3
      go_upto_region 13 with (fail)
      obtain ⟨v5, hv5⟩ : ∃ v5, v5 = z4.alloc (boxI kP nP aP cP) := ⟨_, rfl⟩
      rw [← hv5]
      have hs' := HN.out.alloc (boxI kP nP aP cP) _ _ rfl
      rw [← hv5] at hs'
      clear HS HN hv5
      have HS := Lib.hid hs'
      clear hs'
      obtain ⟨hk, hn, he⟩ : kP = 1 ∧ nP = P ∧ eP = 0 := by
        rcases mul_facts HRP.out with ⟨-, h1, h2, h3⟩ | ⟨h1, -⟩
        · exact ⟨h1, by rw [h2, HP.out], h3⟩
        · exact absurd (by rw [← HP.out]; exact H13.out) h1
      subst hk he
      have HNP := Lib.hid hn
      have H13P := Lib.hid (show I64 nP by rw [hn]; exact H13.out)
      clear HRP hn
      obtain ⟨c0, c1, c2, c3, -⟩ := box4 (HS.out.g _ (.head _))
      obtain ⟨d0, d1, d2, d3, -⟩ := box4 (HS.out.g _ (.tail _ (.head _)))
      go_wp2_with fail
      with_reducible refine (twoI_any v5 18 (by unfold Two; decide) nP nR H13P.out H12.out aP cP HZp.out aR cR HZr.out HS.out.t HS.out.h).mono ?_
      rintro e z5 ⟨⟨kS, nS, eS, aS, cS, rfl, hr, hz⟩, hb⟩
      have HRS := Lib.hid hr
      have HZs0 := Lib.hid hz
      have HN := Lib.hid (HS.out.below hb)
      clear hr hz hb c0 c1 c2 c3 d0 d1 d2 d3
      go_upto_region 14 with (fail)
      obtain ⟨v6, hv6⟩ : ∃ v6, v6 = z5.alloc (boxI kS nS aS cS) := ⟨_, rfl⟩
      rw [← hv6]
      have hs' := HN.out.alloc (boxI kS nS aS cS) _ _ rfl
      rw [← hv6] at hs'
      clear HS HN hv6
      have HS := Lib.hid hs'
      clear hs'
      obtain ⟨hn, he⟩ : nS = a ∧ eS = 0 := by
        have e : nP + nR = a := by have := H6.out; have := HNP.out; omega
        rcases add_facts HRS.out with ⟨-, h1, h2, h3⟩ | ⟨h1, -⟩
        · exact ⟨by rw [h2, e], h3⟩
        · exact absurd (by rw [e]; exact HA.out) h1
      clear HRS
      obtain ⟨c0, c1, c2, c3, -⟩ := box4 (HS.out.g _ (.head _))
      obtain ⟨d0, d1, d2, d3, -⟩ := box4 (HS.out.g _ (.tail _ (.tail _ (.head _))))
      rw [hn] at c1
      subst he
      clear hn
      go_upto_region 16 with (fail)
      all_goals (try go_big_false)
      all_goals first
        | (exfalso; omega)
        | (skip
           have HS2 := Lib.hid (show St w v6 [(z1.heap.size, boxI 1 b none 0), (z0.heap.size, boxI 1 a none 0)] from HS.out.sub fun p hp => by
             rcases List.mem_cons.1 hp with rfl | hp
             · exact (.tail _ (.tail _ (.tail _ (.tail _ (.head _)))))
             · simp only [List.mem_singleton] at hp
               subst hp
               exact (.tail _ (.tail _ (.tail _ (.tail _ (.tail _ (.head _)))))))
           refine ints16 w v6 a b z0.heap.size z1.heap.size HA.out HB.out HS2.out _ _ _ _ _ _ _ _ _ _ _ _ _ _ _ _ _ _ _ _ _ _ _ _ _ _ _ _ _ _ _ _ _ _ _ _ _ _ _ _ _ _ _ _ _ _ _ _ _ _ _ _ _ _ _ _ _ _ _ _ _ _ _ _ _ _ _ _ _ _ _ _ _ _ _ _ _ _ _ _ _ _ _ _ _ _ _ _ _ _ _ _ _ _ _ _ _ _ _ _ _ _ _ _ _ _ _ _ _ _ _ _ _ _ _ _ _ _ _ _ _ _ _ _ _ _ _ _ _ _ _ _ _ _ _ _ _ _ _ _ _ _ _ _ _ _ _ _ _ _ _ _ _ _ _ _ _ _ _ _ _ _ _ _ _ _ _ _ _ _ _ _ _ _ _ _ _ _ _ _ _ _ _ _ _ _ _ _ _ _ _ _ _ _ _ _ _ _ _ _ _ _ _ _ _ _ _ _ _ _ _ _ _ _ _ _ _ _ _ _ _ _ _ _ _ _ _ _ _ _ _ _ _ _ _ _ _ _ _ _ _ _ _ _ _ _ _ _ _ _ _ _ _ _ _ _ _ _ _ _ _ _ _ _ _ _ _ _ _ _ _ _ _ _ _ _ _ _ _ _ _ _ _ _ _ _ _ _ _ _ _ _ _ _ _ _ _ _ _ _ _ _ _ _ _ _ _ _ _ _ _ _ _ _ _ _ _ _ _ _ _ _ _ _ _ _ _ _ _ _ _ _ _ _ _ _ _ _ _ _ _ _ _ _ _ _ _ _ _ _ _ _ _ _ _ _ _ _ _ _ _ _ _ _ _ _ _ _ _ _ _ _ ?_
           assumption)
    · have hn : b < 0 := by omega
      have h7' := h8 hn
      have b5 : wrap64 (-nR) = -nR := wrap_in (by have := HB.out; unfold I64 at *; omega)
      have g1 : (b == 0) = false := by simpa using h1
      have g2 : (b != 0) = true := by simpa using h1
      have g3 : decide (0 < b) = false := by simp; omega
      have g4 : decide (b < 0) = true := by simp [hn]
      clear h1 h7 h8 hp
      go_upto_region 12 with (fail)
      all_goals (try go_big_false)
      clear r0 r1 r2 r3
      have HS3 := Lib.hid (show St w v4 [(z3.heap.size, boxI 1 nR aR cR), (z2.heap.size, boxI 1 nQ aQ cQ), (z1.heap.size, boxI 1 b none 0), (z0.heap.size, boxI 1 a none 0)] from by have h := HS.out; rw [HQ1.out, HR1.out] at h; exact h)
      clear HS
      have HS := Lib.hid HS3.out
      clear HS3
      obtain ⟨c0, c1, c2, c3, -⟩ := box4 (HS.out.g _ (.tail _ (.head _)))
      obtain ⟨d0, d1, d2, d3, -⟩ := box4 (HS.out.g _ (.tail _ (.tail _ (.head _))))
      go_wp2_with fail
      with_reducible refine (twoI_any v4 20 (by unfold Two; decide) nQ b H11.out HB.out aQ cQ HZq.out none 0 (fun _ => rfl) HS.out.t HS.out.h).mono ?_
      rintro e z4 ⟨⟨kP, nP, eP, aP, cP, rfl, hr, hz⟩, hb⟩
      have HRP := Lib.hid hr
      have HZp := Lib.hid hz
      have HN := Lib.hid (HS.out.below hb)
      clear hr hz hb c0 c1 c2 c3 d0 d1 d2 d3
      go_upto_region 13 with (fail)
      obtain ⟨v5, hv5⟩ : ∃ v5, v5 = z4.alloc (boxI kP nP aP cP) := ⟨_, rfl⟩
      rw [← hv5]
      have hs' := HN.out.alloc (boxI kP nP aP cP) _ _ rfl
      rw [← hv5] at hs'
      clear HS HN hv5
      have HS := Lib.hid hs'
      clear hs'
      obtain ⟨hk, hn, he⟩ : kP = 1 ∧ nP = P ∧ eP = 0 := by
        rcases mul_facts HRP.out with ⟨-, h1, h2, h3⟩ | ⟨h1, -⟩
        · exact ⟨h1, by rw [h2, HP.out], h3⟩
        · exact absurd (by rw [← HP.out]; exact H13.out) h1
      subst hk he
      have HNP := Lib.hid hn
      have H13P := Lib.hid (show I64 nP by rw [hn]; exact H13.out)
      clear HRP hn
      obtain ⟨c0, c1, c2, c3, -⟩ := box4 (HS.out.g _ (.head _))
      obtain ⟨d0, d1, d2, d3, -⟩ := box4 (HS.out.g _ (.tail _ (.head _)))
      go_wp2_with fail
      with_reducible refine (twoI_any v5 18 (by unfold Two; decide) nP nR H13P.out H12.out aP cP HZp.out aR cR HZr.out HS.out.t HS.out.h).mono ?_
      rintro e z5 ⟨⟨kS, nS, eS, aS, cS, rfl, hr, hz⟩, hb⟩
      have HRS := Lib.hid hr
      have HZs0 := Lib.hid hz
      have HN := Lib.hid (HS.out.below hb)
      clear hr hz hb c0 c1 c2 c3 d0 d1 d2 d3
      go_upto_region 14 with (fail)
      obtain ⟨v6, hv6⟩ : ∃ v6, v6 = z5.alloc (boxI kS nS aS cS) := ⟨_, rfl⟩
      rw [← hv6]
      have hs' := HN.out.alloc (boxI kS nS aS cS) _ _ rfl
      rw [← hv6] at hs'
      clear HS HN hv6
      have HS := Lib.hid hs'
      clear hs'
      obtain ⟨hn, he⟩ : nS = a ∧ eS = 0 := by
        have e : nP + nR = a := by have := H6.out; have := HNP.out; omega
        rcases add_facts HRS.out with ⟨-, h1, h2, h3⟩ | ⟨h1, -⟩
        · exact ⟨by rw [h2, e], h3⟩
        · exact absurd (by rw [e]; exact HA.out) h1
      clear HRS
      obtain ⟨c0, c1, c2, c3, -⟩ := box4 (HS.out.g _ (.head _))
      obtain ⟨d0, d1, d2, d3, -⟩ := box4 (HS.out.g _ (.tail _ (.tail _ (.head _))))
      rw [hn] at c1
      subst he
      clear hn
      go_upto_region 16 with (fail)
      all_goals (try go_big_false)
      all_goals first
        | (exfalso; omega)
        | (skip
           have HS2 := Lib.hid (show St w v6 [(z1.heap.size, boxI 1 b none 0), (z0.heap.size, boxI 1 a none 0)] from HS.out.sub fun p hp => by
             rcases List.mem_cons.1 hp with rfl | hp
             · exact (.tail _ (.tail _ (.tail _ (.tail _ (.head _)))))
             · simp only [List.mem_singleton] at hp
               subst hp
               exact (.tail _ (.tail _ (.tail _ (.tail _ (.tail _ (.head _)))))))
           refine ints16 w v6 a b z0.heap.size z1.heap.size HA.out HB.out HS2.out _ _ _ _ _ _ _ _ _ _ _ _ _ _ _ _ _ _ _ _ _ _ _ _ _ _ _ _ _ _ _ _ _ _ _ _ _ _ _ _ _ _ _ _ _ _ _ _ _ _ _ _ _ _ _ _ _ _ _ _ _ _ _ _ _ _ _ _ _ _ _ _ _ _ _ _ _ _ _ _ _ _ _ _ _ _ _ _ _ _ _ _ _ _ _ _ _ _ _ _ _ _ _ _ _ _ _ _ _ _ _ _ _ _ _ _ _ _ _ _ _ _ _ _ _ _ _ _ _ _ _ _ _ _ _ _ _ _ _ _ _ _ _ _ _ _ _ _ _ _ _ _ _ _ _ _ _ _ _ _ _ _ _ _ _ _ _ _ _ _ _ _ _ _ _ _ _ _ _ _ _ _ _ _ _ _ _ _ _ _ _ _ _ _ _ _ _ _ _ _ _ _ _ _ _ _ _ _ _ _ _ _ _ _ _ _ _ _ _ _ _ _ _ _ _ _ _ _ _ _ _ _ _ _ _ _ _ _ _ _ _ _ _ _ _ _ _ _ _ _ _ _ _ _ _ _ _ _ _ _ _ _ _ _ _ _ _ _ _ _ _ _ _ _ _ _ _ _ _ _ _ _ _ _ _ _ _ _ _ _ _ _ _ _ _ _ _ _ _ _ _ _ _ _ _ _ _ _ _ _ _ _ _ _ _ _ _ _ _ _ _ _ _ _ _ _ _ _ _ _ _ _ _ _ _ _ _ _ _ _ _ _ _ _ _ _ _ _ _ _ _ _ _ _ _ _ _ _ _ _ _ _ _ _ _ _ _ _ _ _ _ _ ?_
           assumption)
end Go.Proofs.YtcnckjlmldnblaaDoor
