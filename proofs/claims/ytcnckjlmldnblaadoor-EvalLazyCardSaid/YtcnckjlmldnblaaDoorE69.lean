import Derived.Test.YtcnckjlmldnblaaDoorE66
import Derived.Test.YtcnckjlmldnblaaDoorT3
import Derived.Test.YtcnckjlmldnblaaDoorE33
import Derived.Test.YtcnckjlmldnblaaDoorE54
import Derived.Test.YtcnckjlmldnblaaDoorE55
import Derived.Test.YtcnckjlmldnblaaDoorE60
import Derived.BigGuardPart
import Derived.OrdersHeld
import Derived.Handy
import Derived.IntWalk
namespace Go.Proofs.YtcnckjlmldnblaaDoor
open Go Go.RowKit
set_option linter.unusedVariables false
set_option linter.unusedSimpArgs false
set_option maxRecDepth 100000 in
set_option maxHeartbeats 16000000 in
theorem evallazy_walk (w : World) (na : Option Addr) (nl nc : Nat) (ns : List Nd) (hr : RS 7 Nd.cs w na nl nc ns) (hok : ∀ nd ∈ ns, nd.okA w) (hn : nl ≤ 1353245080300) (root : Int) (hroot : I64 root)
    (ma : Option Addr) (ml mc : Nat) (ms : List Nd) (hmr : RS 7 Nd.cs w ma ml mc ms) (hmok : ∀ nd ∈ ms, nd.okA w) (hmn : ml ≤ 1353245080300) (p : Pd) (hp : VwArg w p) (ht : ResTab w 1) (h1 : 1 < w.heap.size) :
    Calls Tryd.prog 6 #[.slice na nl nc, .int .i64 root, .slice ma ml mc, .agg p.cs] w fun e w' => e = .returned (.bool true) ∧ Below w.heap.size w w' := by
  obtain ⟨w1, hw1⟩ : ∃ w1, w1 = w.alloc (boxW35 p) := ⟨_, rfl⟩
  have g0 : w1.heap[w.heap.size]? = some (boxW35 p) := by rw [hw1]; exact heap_alloc_new w _
  have hb1 : Below w.heap.size w w1 := by rw [hw1]; exact bel1 _ _
  have z1 : w.heap.size < w1.heap.size := by rw [hw1]; simp
  have HLN := Lib.hid hr.1
  have HLM := Lib.hid hmr.1
  have hnc48 := hr.2.2.1
  have hmc48 := hmr.2.2.1
  have HR := Lib.hid hr
  have HOK := Lib.hid hok
  have HP := Lib.hid hp
  have HKS := Lib.hid (fun nd hm => ⟨(ok_k (okA_w (hok nd hm)).ok).2.2.1, by have := okA_s (hok nd hm); omega⟩ : ∀ nd ∈ ns, nd.kl ≤ 281474976710656 ∧ nd.sl ≤ 281474976710656)
  have HKS2 := Lib.hid (fun nd hm => ⟨(ok_k (okA_w (hmok nd hm)).ok).2.2.1, by have := okA_s (hmok nd hm); omega⟩ : ∀ nd ∈ ms, nd.kl ≤ 281474976710656 ∧ nd.sl ≤ 281474976710656)
  have HMR := Lib.hid hmr
  have HMOK := Lib.hid hmok
  have HRO := Lib.hid hroot
  have HT := Lib.hid ht
  have H1 := Lib.hid h1
  have HB1 := Lib.hid hb1
  have G0 := Lib.hid g0
  have q0 := cell_of_row w1 _ 0 _ _ _ g0
  have q1 := cell_of_row w1 _ 1 _ _ _ g0
  have q2 := cell_of_row w1 _ 2 _ _ _ g0
  have q3 := cell_of_row w1 _ 3 _ _ _ g0
  have q4 := cell_of_row w1 _ 4 _ _ _ g0
  simp only [List.getElem?_toArray, List.getElem?_cons_zero, List.getElem?_cons_succ] at q0 q1 q2 q3 q4
  have HKN := Lib.hid (fun (W : World) (hb : Below w.heap.size w W) => known_any W (ht.below hb h1 h1) (Nat.lt_of_lt_of_le h1 hb.size))
  clear hr hok hp hmr hmok hroot ht h1 hb1 g0
  by_cases h0 : nl = 0
  · have hb0 : ((nl : Int) == 0) = true := by simp [h0]
    clear h0
    go_enter Tryd.func6, Tryd.ntmps6
    go_upto_region 1 with (fail)
    rw [← hw1]
    clear hw1
    go_wp2_with (go_at_call 16; refine (HKN.out _ HB1.out).mono ?_; rintro e w9 ⟨rfl, hb9⟩)
    go_ret
    exact ⟨rfl, HB1.out.trans (hb9.mono (by have := HB1.out.size; omega))⟩
  have hb0 : ((nl : Int) == 0) = false := by simp; omega
  have hpos : 0 < nl := by omega
  clear h0
  by_cases h0 : ml = 0
  · have hbm : ((ml : Int) == 0) = true := by simp [h0]
    clear h0
    go_enter Tryd.func6, Tryd.ntmps6
    go_upto_region 1 with (fail)
    rw [← hw1]
    clear hw1
    go_wp2_with (go_at_call 16; refine (HKN.out _ HB1.out).mono ?_; rintro e w9 ⟨rfl, hb9⟩)
    go_ret
    exact ⟨rfl, HB1.out.trans (hb9.mono (by have := HB1.out.size; omega))⟩
  have hbm : ((ml : Int) == 0) = false := by simp; omega
  have hposm : 0 < ml := by omega
  clear h0
  go_enter Tryd.func6, Tryd.ntmps6
  go_upto_region 1 with (fail)
  rw [← hw1]
  clear hw1
  go_wp2_with fail
  with_reducible refine (great_any w1 na nl nc ns (HR.out.below HB1.out) HKS.out p (HP.out.below HB1.out)).mono ?_
  rintro e w2 ⟨hg, hb2⟩
  obtain ⟨g, rfl, hs⟩ := hg.cases
  have HS := Lib.hid hs
  have HB2 := Lib.hid (HB1.out.trans (hb2.mono (by omega)))
  have G2 := Lib.hid ((hb2.block _ z1).trans G0.out)
  have z2 : w.heap.size < w2.heap.size := by have := hb2.size; omega
  clear hb2 hs hg q0 q1 q2 q3 q4
  cases g
  rotate_left
  · go_wp2_with (go_at_call 16; refine (HKN.out _ HB2.out).mono ?_; rintro e w9 ⟨rfl, hb9⟩)
    go_ret
    exact ⟨rfl, HB2.out.trans (hb9.mono (by have := HB2.out.size; omega))⟩
  obtain ⟨hn5, hnd5, hnm5, hbs5⟩ := HS.out rfl
  have HND := Lib.hid hnd5
  have HBS := Lib.hid hbs5
  have q0 := cell_of_row w2 _ 0 _ _ _ G2.out
  have q1 := cell_of_row w2 _ 1 _ _ _ G2.out
  have q2 := cell_of_row w2 _ 2 _ _ _ G2.out
  have q3 := cell_of_row w2 _ 3 _ _ _ G2.out
  have q4 := cell_of_row w2 _ 4 _ _ _ G2.out
  simp only [List.getElem?_toArray, List.getElem?_cons_zero, List.getElem?_cons_succ] at q0 q1 q2 q3 q4
  clear HS hnd5 hbs5
  go_wp2_with fail
  with_reducible refine (great_any w2 ma ml mc ms (HMR.out.below HB2.out) HKS2.out p (HP.out.below HB2.out)).mono ?_
  rintro e w2b ⟨hg, hb2⟩
  obtain ⟨g, rfl, hs⟩ := hg.cases
  have HS := Lib.hid hs
  have HB2b := Lib.hid (HB2.out.trans (hb2.mono (by omega)))
  have G2b := Lib.hid ((hb2.block _ z2).trans G2.out)
  have z2b : w.heap.size < w2b.heap.size := by have := hb2.size; omega
  clear hb2 hs hg q0 q1 q2 q3 q4
  cases g
  rotate_left
  · go_wp2_with (go_at_call 16; refine (HKN.out _ HB2b.out).mono ?_; rintro e w9 ⟨rfl, hb9⟩)
    go_ret
    exact ⟨rfl, HB2b.out.trans (hb9.mono (by have := HB2b.out.size; omega))⟩
  obtain ⟨hm5, hmd5, -, -⟩ := HS.out rfl
  have HMD := Lib.hid hmd5
  have q0 := cell_of_row w2b _ 0 _ _ _ G2b.out
  have q1 := cell_of_row w2b _ 1 _ _ _ G2b.out
  have q2 := cell_of_row w2b _ 2 _ _ _ G2b.out
  have q3 := cell_of_row w2b _ 3 _ _ _ G2b.out
  have q4 := cell_of_row w2b _ 4 _ _ _ G2b.out
  simp only [List.getElem?_toArray, List.getElem?_cons_zero, List.getElem?_cons_succ] at q0 q1 q2 q3 q4
  clear HS hmd5 HB2 G2 z2
  go_wp2_with fail
  with_reducible refine (within_any w2b root HRO.out nl hpos (by omega)).mono ?_
  rintro e w' ⟨⟨q, hq, rfl⟩, hww⟩
  obtain rfl := hww.symm
  go_wp2_with fail
  with_reducible refine (plainA_any w2b p (HP.out.below HB2b.out) (by omega) (fun b hm => by have := HBS.out b hm; omega)).mono ?_
  rintro e w3 ⟨⟨pp, rfl, hpo, hvw⟩, hb3⟩
  have HB3 := Lib.hid (HB2b.out.trans (hb3.mono (by omega)))
  have HVO := Lib.hid (show VwOk pp.vw by rw [hvw]; exact vwok_of HP.out)
  have HPO := Lib.hid hpo.ok
  have HKI := Lib.hid (fun x hx => ⟨(ok_k (okA_w (HOK.out x hx)).ok).1, ok_i (okA_w (HOK.out x hx)).ok⟩ : ∀ x ∈ ns, x.ks.length = x.kl ∧ I64 x.vn)
  have HKI2 := Lib.hid (fun x hx => ⟨(ok_k (okA_w (HMOK.out x hx)).ok).1, ok_i (okA_w (HMOK.out x hx)).ok⟩ : ∀ x ∈ ms, x.ks.length = x.kl ∧ I64 x.vn)
  have HSM := Lib.hid (fun i nd _ h => by have := (HND.out nd (List.mem_of_getElem? h)).1; omega : ∀ (i : Nat) (nd : Nd), (i : Int) ≤ (q : Int) → ns[i]? = some nd → nd.kl ≤ 1000000)
  have HSM2 := Lib.hid (fun i nd _ h => by have := (HMD.out nd (List.mem_of_getElem? h)).1; omega : ∀ (i : Nat) (nd : Nd), (i : Int) ≤ (ml : Int) - 1 → ms[i]? = some nd → nd.kl ≤ 1000000)
  have HT3 := Lib.hid (fun (W : World) (hb : Below w.heap.size w W) => HT.out.below hb H1.out H1.out)
  have zt3 : 1 < w.heap.size := H1.out
  have z3 : w.heap.size < w3.heap.size := by have := hb3.size; omega
  clear hpo hvw hb3 q0 q1 q2 q3 q4
  go_wp2_with fail
  with_reducible refine (worthV_any w3 na nl nc ns pp ⟨HR.out.below HB3.out, fun nd hm => (okA_w (HOK.out nd hm)).below HB3.out, HPO.out⟩ HVO.out HKI.out (HT3.out _ HB3.out) (by omega) (q : Int) ⟨by omega, by omega⟩ HSM.out (fun x hx => worth_size HVO.out HKI.out (fun i nd hi h => HSM.out i nd (by omega) h) hx)).mono ?_
  rintro e w4 ⟨⟨x, er, ax, cx, rfl, hwu, hzx, hxl⟩, hb4⟩
  have HWU := Lib.hid hwu
  have HXL := Lib.hid hxl
  have HB4 := Lib.hid (HB3.out.trans (hb4.mono (by omega)))
  have HPO4 := Lib.hid (HPO.out.below hb4)
  have HZX := Lib.hid hzx
  have z4 : w.heap.size < w4.heap.size := by have := hb4.size; omega
  clear hwu hzx hb4 hxl
  go_upto_region 6 with (fail)
  obtain ⟨w5, hw5⟩ : ∃ w5, w5 = w4.alloc (boxS x ax x.ss.length cx) := ⟨_, rfl⟩
  have g5 : w5.heap[w4.heap.size]? = some (boxS x ax x.ss.length cx) := by rw [hw5]; exact heap_alloc_new w4 _
  have hb5 : Below w4.heap.size w4 w5 := by rw [hw5]; exact bel1 _ _
  rw [← hw5]
  clear hw5
  have X5 := Lib.hid g5
  have HB5 := Lib.hid (HB4.out.trans (hb5.mono (by omega)))
  have HZX5 := Lib.hid (HZX.out.below hb5)
  have HPO5 := Lib.hid (HPO4.out.below hb5)
  have z5 : w4.heap.size < w5.heap.size := (Array.getElem?_eq_some_iff.1 g5).1
  clear g5 hb5
  go_wp2_with fail
  with_reducible refine (worthV_any w5 ma ml mc ms pp ⟨HMR.out.below HB5.out, fun nd hm => (okA_w (HMOK.out nd hm)).below HB5.out, HPO5.out⟩ HVO.out HKI2.out (HT3.out _ HB5.out) (by omega) ((ml : Int) - 1) ⟨by omega, by omega⟩ HSM2.out (fun x hx => by rw [show (ml : Int) - 1 = ((ml - 1 : Nat) : Int) by omega] at hx; exact worth_size HVO.out HKI2.out (fun i nd hi h => HSM2.out i nd (by omega) h) hx)).mono ?_
  rintro e w6 ⟨⟨x2, f, a2, c2, rfl, hwu2, -, -⟩, hb6⟩
  have HWU2 := Lib.hid hwu2
  have HB6 := Lib.hid (HB5.out.trans (hb6.mono (by omega)))
  have X6 := Lib.hid ((hb6.block _ z5).trans X5.out)
  have HZX6 := Lib.hid (HZX5.out.below hb6)
  have HPO6 := Lib.hid (HPO5.out.below hb6)
  have z6 : w4.heap.size < w6.heap.size := by have := hb6.size; omega
  clear hwu2 hb6
  go_upto_region 7 with (fail)
  obtain ⟨w7, hw7⟩ : ∃ w7, w7 = w6.alloc (boxS x2 a2 x2.ss.length c2) := ⟨_, rfl⟩
  have hb7 : Below w6.heap.size w6 w7 := by rw [hw7]; exact bel1 _ _
  rw [← hw7]
  clear hw7
  have HB7 := Lib.hid (HB6.out.trans (hb7.mono (by omega)))
  have X7 := Lib.hid ((hb7.block _ z6).trans X6.out)
  have HZX7 := Lib.hid (HZX6.out.below hb7)
  have HPO7 := Lib.hid (HPO6.out.below hb7)
  have z7 : w4.heap.size < w7.heap.size := by have := hb7.size; omega
  clear hb7
  cases he8 : (er == 8)
  rotate_left
  · go_wp2_with (go_at_call 16; refine (HKN.out _ HB7.out).mono ?_; rintro e w9 ⟨rfl, hb9⟩)
    go_ret
    exact ⟨rfl, HB7.out.trans (hb9.mono (by have := HB7.out.size; omega))⟩
  cases hf8 : (f == 8)
  rotate_left
  · go_wp2_with (go_at_call 16; refine (HKN.out _ HB7.out).mono ?_; rintro e w9 ⟨rfl, hb9⟩)
    go_ret
    exact ⟨rfl, HB7.out.trans (hb9.mono (by have := HB7.out.size; omega))⟩
  have HTREE := Lib.hid (show treeR ns q = true by
    cases hh : treeR ns q
    · have h8 := worth_tree (v := pp.vw) (by have := HLN.out; omega) hh
      rcases HWU.out with ⟨h1, h2⟩ | ⟨h1, h2⟩
      · rw [h8] at h1; cases h1
      · rw [h8] at h1; cases h1; simp at he8
    · rfl)
  have HTREE2 := Lib.hid (show treeR ms (ml - 1) = true by
    cases hh : treeR ms (ml - 1)
    · have h8 := worth_tree (v := pp.vw) (by have := HLM.out; omega) hh
      rw [show ((ml - 1 : Nat) : Int) = (ml : Int) - 1 by omega] at h8
      rcases HWU2.out with ⟨h1, h2⟩ | ⟨h1, h2⟩
      · rw [h8] at h1; cases h1
      · rw [h8] at h1; cases h1; simp at hf8
    · rfl)
  obtain ⟨K, hK⟩ : ∃ K, K = q + ml := ⟨_, rfl⟩
  have HK := Lib.hid hK
  have hK10 : K ≤ 10000 := by omega
  go_wp2_with fail
  with_reducible refine (behind_any w7 na nl nc ns (HR.out.below HB7.out) hn5 q hq ma ml mc ms (HMR.out.below HB7.out) (fun nd hm => (okA_w (HMOK.out nd hm)).below HB7.out) hm5 (fun nd hm => by have := HMD.out nd hm; omega)).mono ?_
  rintro e w8 ⟨⟨la, lc, ms', he, hrs, hmm, hnw⟩, hb8⟩
  rw [show q + 1 + ml = K + 1 by omega, ← hK] at he
  rw [show q + 1 + ml = K + 1 by omega] at hrs
  subst he
  obtain ⟨lb, lo, nd8, hla, -, -⟩ := hrs.at (show 0 < K + 1 by omega)
  subst hla
  have HB8 := Lib.hid (HB7.out.trans (hb8.mono (by omega)))
  have H2 := Lib.hid (show Two2 ns ms (ns.take (q + 1) ++ ms') q pp.vw from ⟨by have := HLN.out; omega, by have := HLM.out; omega, by omega, by have := HLM.out; omega, HKI.out, HKI2.out,
    fun nd hm => by have := (HND.out nd hm).1; omega, fun nd hm => by have := (HMD.out nd hm).1; omega, HTREE.out, by rw [HLM.out]; exact HTREE2.out, by rw [List.map_append, hmm, List.map_append, List.map_map]; rfl, HVO.out⟩)
  have HS8 := Lib.hid (show LzS w w8 (ns.take (q + 1) ++ ms') ⟨lb, lo, none⟩ lc K pp w4.heap.size x ax cx from ⟨HB8.out, HT3.out _ HB8.out, by have := HB8.out.size; omega, hrs,
    fun nd hm => (List.mem_append.1 hm).elim (fun h' => (okA_w (HOK.out nd (List.mem_of_mem_take h'))).below HB8.out) (hnw nd), HPO7.out.below hb8, (hb8.block _ z7).trans X7.out, ((HZX7.out.below hb8).rz (by have := HXL.out; omega)).rs, hK10⟩)
  clear hrs hmm hnw hb8 hK
  go_upto_region 10 with (fail)
  refine lazy_b w w8 ns ms (ns.take (q + 1) ++ ms') q K pp ⟨lb, lo, none⟩ lc w4.heap.size x er ax cx H2.out (by rw [HLM.out]; exact HK.out) HWU.out HS8.out _ _ _ _ _ _ _ _ _ _ _ _ _ _ _ _ _ _ _ _ _ _ _ _ _ _ _ _ _ _ _ _ _ _ _ _ _ _ _ _ _ _ _ _ _ _ _ _ _ _ _ _ _ _ _ _ _ _ _ _ _ _ _ _ _ _ _ _ _ _ _ _ _ _ _ _ _ _ _ _ _ _ _ _ _ _ _ _ _ _ _ _ _ _ _ _ _ _ _ _ _ _ _ _ _ _ _ _ _ _ _ _ _ _ _ _ _ _ _ _ _ _ _ _ _ _ _ _ _ _ _ _ _ _ _ _ _ _ _ _ _ _ _ _ _ _ _ _ _ _ _ _ _ _ _ _ _ _ _ _ _ _ _ _ _ _ _ _ _ _ _ _ _ _ _ _ _ _ _ _ _ _ _ _ _ _ _ _ _ _ _ _ _ _ _ _ _ _ _ _ _ _ _ _ _ _ _ _ _ _ _ _ _ _ _ _ _ _ _ _ _ _ _ _ _ _ _ _ _ _ _ _ _ _ _ _ _ _ _ _ _ _ _ _ _ _ _ _ _ _ _ _ _ _ _ _ _ _ _ _ _ _ _ _ _ _ _ _ _ _ _ _ _ _ _ _ _ _ _ _ _ _ _ _ _ _ _ _ _ _ _ _ _ _ _ _ _ _ _ _ _ _ _ _ _ _ _ _ _ _ _ _ _ _ _ _ _ _ _ _ _ _ ?_ ?_
  · assumption
  · assumption
end Go.Proofs.YtcnckjlmldnblaaDoor
