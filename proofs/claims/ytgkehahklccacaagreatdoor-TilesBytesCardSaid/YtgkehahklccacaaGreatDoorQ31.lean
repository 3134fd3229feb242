import Derived.Test.YtgkehahklccacaaGreatDoorQ30
import Derived.Test.YtgkehahklccacaaGreatDoorQ27
import Derived.Test.YtgkehahklccacaaGreatDoorCards
import Derived.Test.YtgkehahklccacaaGreatDoorTie
import Derived.ProofKit
import Derived.OpenShut
import Derived.Deep.DeepHandedRow
import Derived.Lib.LaidTab
import Derived.Lib.LaidU8
import Derived.Lib.SmallJoins
import Derived.SizedLaws
import Derived.MakeChecks
namespace Go.Proofs.YtgkehahklccacaaGreatDoor
open Go Go.RowKit
set_option maxRecDepth 100000
set_option maxHeartbeats 1000000
set_option linter.unusedVariables false
set_option linter.unusedSimpArgs false

open Go.Maps Go.WideMaps Go.ChangeMaps
/-- The law in the midst of its row: the elder disk is done, the younger one has k leaves. -/
structure LP (W w : World) (L0 : Lay) (τ0 : Nat → Nat) (gt0 gd : Nat) (d0 : Dm) (T0 : TT) (Y0 : TY) (L1 : Lay) (τ1 : Nat → Nat) (gx : Nat) (wd : Int) (ls : List Dg) (gl n : Nat) : Prop where
  te : TE w L0 τ0 gt0 gd d0 T0 Y0 wd ls
  far : Far L0 τ0 L1 τ1
  hb : Below W.heap.size W w
  lo : Lows W L1 τ1
  ds : DS w (some ⟨gl, 0, none⟩) n n ls
  gl1 : L1.ρ gl = 0
  gl2 : τ1 gl = 0
section
variable {W w w' : World} {L0 L1 L1' : Lay} {τ0 τ1 τ1' : Nat → Nat} {gt0 gd gt gt' gx : Nat} {d0 d d' : Dm} {T0 T T' : TT} {Y0 Y Y' : TY} {wd : Int} {ls : List Dg} {k k' N N' gl n : Nat}
theorem LP.step (h : LP W w L0 τ0 gt0 gd d0 T0 Y0 L1 τ1 gx wd ls gl n) (hgl : gl < w.heap.size) (hu : UB L1 τ1 L1' τ1' w w') : LP W w' L0 τ0 gt0 gd d0 T0 Y0 L1' τ1' gx wd ls gl n := by
  obtain ⟨q1, q2⟩ := h.te.other hu h.far
  obtain ⟨q3, q4⟩ := h.lo.ub h.hb hu
  exact ⟨q1, q2, q4, q3, h.ds.same (hu.block gl hgl h.gl1 h.gl2), hu.extL.old gl hgl h.gl1, hu.extT.old gl hgl h.gl2⟩
theorem LP.drop (h : LP W w L0 τ0 gt0 gd d0 T0 Y0 L1 τ1 gx wd ls gl n) : LP W w L0 τ0 gt0 gd d0 T0 Y0 L1 (fun _ => 0) gx wd ls gl n :=
  ⟨h.te, fun k hk => ⟨(h.far k hk).1, rfl⟩, h.hb, fun k hk => ⟨(h.lo k hk).1, rfl⟩, h.ds, h.gl1, rfl⟩
/-- Tiles opened anew: the elder ones are let go. -/
theorem UB.fresh (hu : Upd L1.ρ L1.ρ w w') (hn : ∀ k, τ1 k ≠ 0 → w.heap.size ≤ k) : UB L1 (fun _ => 0) L1 τ1 w w' :=
  ⟨hu.os, hu.tape, hu.output, hu.size, fun k hk h0 _ => hu.block k hk h0, Ext.refl _ _, ⟨fun k hk => absurd rfl hk, fun k hk _ => by
    rcases Nat.eq_zero_or_pos (τ1 k) with e | e
    · exact e
    · have := hn k (by omega); omega⟩⟩
end
set_option maxHeartbeats 8000000
theorem tb_loop (W w : World) (L0 L1 : Lay) (τ0 τ1 : Nat → Nat) (gt0 gd gt gx : Nat) (d0 d : Dm) (T0 T : TT) (Y0 Y : TY) (wd : Int) (ls : List Dg) (N n gl ev : Nat) (sp pt : Int) (hlp : LP W w L0 τ0 gt0 gd d0 T0 Y0 L1 τ1 gx wd ls gl n) (hxi : XI w L1 τ1 gt gx d T Y wd [] N)
    (hgl : gl < w.heap.size) (hwd : 1 ≤ wd ∧ wd ≤ 32) (hev : 1 ≤ ev ∧ ev ≤ 700) (hsp : -9223372036854775808 ≤ sp ∧ sp ≤ 9223372036854775807) (hpt : -9223372036854775808 ≤ pt ∧ pt ≤ 9223372036854775807) (hn2 : n ≤ 2000) (hN : N ≤ 20000) (hh : HalfTab W) (ht : RoundTab W) (h4 : 4 ≤ W.heap.size) (u0 u2 u4 u7 u8 u9 u10 u11 u12 u13 u14 u18 u20 u23 u24 u25 u26 u27 u28 u29 u30 u31 u32 u33 u34 u35 u36 u37 u38 u39 u40 u41 u42 u43 u44 u45 u46 u47 u48 u49 u50 u51 u52 u53 u54 u55 u56 u57 u58 u59 u60 u61 u62 u63 u64 u65 u66 u67 u68 u69 u70 u71 u72 u73 u74 u75 u76 u77 u78 u79 u80 u81 u82 u83 u84 u85 u86 u87 u88 u89 u90 u91 u92 u93 u94 u95 u96 u97 u98 u99 u100 u101 u102 u103 u104 u105 u106 u107 u108 u109 u110 u111 u112 u113 u114 u115 u116 u117 u118 u119 u120 u121 u122 u123 u124 u125 u126 u127 u128 u129 u130 u131 u132 u133 u134 u135 u136 u137 u138 u139 u140 u141 u142 u143 u144 u145 u146 u147 u148 u149 u150 u151 u152 u153 u154 u155 u156 u157 u158 u159 u160 u161 u162 u163 u164 u165 u166 u167 u168 u169 u170 u171 u172 u173 u174 u175 u176 u177 u178 u179 u180 u181 u182 u183 u184 u185 u186 u187 u188 u189 u190 u191 u192 u193 u194 u195 : Value) :
    Code.wp Tryz.prog (dropSeq 13 tb0) (bodyPost Tryz.prog Tryz.f3 (LawRet W)) ⟨#[u0, .int .i64 (n : Int), u2, .int .i64 (ev : Int), u4, .int .i64 sp, .int .i64 pt, u7, u8, u9, u10, u11, u12, u13, u14, .slice (some ⟨gl, 0, none⟩) n n, .int .i64 wd, .pointer (some ⟨gd, 0, none⟩), u18, .pointer (some ⟨gx, 0, none⟩), u20, .pointer (some ⟨gt0, 0, none⟩), .pointer (some ⟨gt, 0, none⟩), u23, u24, u25, u26, u27, u28, u29, u30, u31, u32, u33, u34, u35, u36, u37, u38, u39, u40, u41, u42, u43, u44, u45, u46, u47, u48, u49, u50, u51, u52, u53, u54, u55, u56, u57, u58, u59, u60, u61, u62, u63, u64, u65, u66, u67, u68, u69, u70, u71, u72, u73, u74, u75, u76, u77, u78, u79, u80, u81, u82, u83, u84, u85, u86, u87, u88, u89, u90, u91, u92, u93, u94, u95, u96, u97, u98, u99, u100, u101, u102, u103, u104, u105, u106, u107, u108, u109, u110, u111, u112, u113, u114, u115, u116, u117, u118, u119, u120, u121, u122, u123, u124, u125, u126, u127, u128, u129, u130, u131, u132, u133, u134, u135, u136, u137, u138, u139, u140, u141, u142, u143, u144, u145, u146, u147, u148, u149, u150, u151, u152, u153, u154, u155, u156, u157, u158, u159, u160, u161, u162, u163, u164, u165, u166, u167, u168, u169, u170, u171, u172, u173, u174, u175, u176, u177, u178, u179, u180, u181, u182, u183, u184, u185, u186, u187, u188, u189, u190, u191, u192, u193, u194, u195], []⟩ w := by
  have HLP := Lib.hid hlp; have HXI := Lib.hid hxi
  have HX := Lib.hid (And.intro hgl (And.intro hwd (And.intro hev (And.intro hsp (And.intro hpt (And.intro hn2 (And.intro hN (And.intro hh (And.intro ht (And.intro h4 hlp.ds.1))))))))))
  clear hlp hxi hgl hwd hev hsp hpt hn2 hN hh ht h4
  refine wp_two_k (c := dropSeq 13 tb0) ⟨_, _, rfl⟩ fun K hK => ?_
  have HK := Lib.hid hK
  clear hK
  conv => arg 2; whnf
  go_wp2_with fail
  go_loopw [22, 23] (fun u v wr => ∃ (k N' : Nat) (L1' : Lay) (τ1' : Nat → Nat) (gt' : Nat) (d' : Dm) (T' : TT) (Y' : TY), k ≤ n ∧ v = .int .i64 (k : Int) ∧ u = .pointer (some ⟨gt', 0, none⟩) ∧ LP W wr L0 τ0 gt0 gd d0 T0 Y0 L1' τ1' gx wd ls gl n ∧ XI wr L1' τ1' gt' gx d' T' Y' wd (ls.take k) N' ∧ N' ≤ N + 10 * k ∧ gl < wr.heap.size) (fun _ v _ => n - (intOf v).toNat)
  case atStart => exact ⟨0, N, L1, τ1, gt, d, T, Y, Nat.zero_le _, rfl, rfl, HLP.out, by rw [List.take_zero]; exact HXI.out, Nat.le_refl _, HX.out.1⟩
  case round =>
    obtain ⟨k, N', L2, τ2, gt', d', T', Y', hk, rfl, rfl, hlp, hxi, hN', hgl⟩ := hrel
    have HL := Lib.hid hlp; have HXK := Lib.hid hxi; have HNN := Lib.hid hN'; have HGL := Lib.hid hgl
    by_cases hlt : k < n
    · have h9 : decide (k < n) = true := by simp; exact hlt
      have h8 : decide ((k : Int) < (n : Int)) = true := by simp; exact hlt
      have hk2 : k ≤ 2000 := by have := HX.out; omega
      obtain ⟨x, hx⟩ : ∃ x, ls[k]? = some x := ⟨_, List.getElem?_eq_getElem (by have := HX.out.2.2.2.2.2.2.2.2.2.2; omega)⟩
      obtain ⟨b', off', e1, -, hr⟩ := hlp.ds.at hx
      cases e1
      obtain ⟨E, hE⟩ : ∃ E, E = dgA x.1 := ⟨_, rfl⟩
      have HES := Lib.hid (show E.size = 32 by rw [hE, dgA_size, x.2])
      have hr : wr.rangeAt gl (0 + k * 32) E.toList := by rw [hE]; simpa [dgA] using hr
      have HR := Lib.hid hr
      have HLT := Lib.hid hlt
      have htk : ls.take (k + 1) = ls.take k ++ [x] := by rw [List.take_add_one, hx]; rfl
      have HAD := Lib.hid (show Calls Tryz.prog 14 #[.pointer (some ⟨gt', 0, none⟩), .agg E] wr (fun e w' => e = .returned .nilIface ∧ ∃ τ' T'' Y'', XI w' L2 τ' gt' gx d' T'' Y'' wd (ls.take (k + 1)) N' ∧ UB L2 τ2 L2 τ' wr w') from htk ▸ hE ▸ hxi.add (by rw [List.length_take]; omega) x (rt_below HX.out.2.2.2.2.2.2.2.2.1 hlp.hb (by have := HX.out; omega)))
      clear hlt hk hlp hxi hN' hgl hx hr hE htk
      go_upto_region 21 with (first
        | (refine L_load_arr rfl 38 (.tmp 97) (by rfl) gl (0 + k * 32) (by simp only [Nat.zero_add]; rfl) E _ HR.out Tryz.underlying38 rfl (by rw [HES.out]; exact info38) ?_)
        | (go_at_call 14; refine HAD.out.mono ?_; rintro e w2 ⟨rfl, τ3, T3, Y3, hxi3, hub⟩; have HX3 := Lib.hid hxi3; have HL3 := Lib.hid (HL.out.step HGL.out hub); have HG3 := Lib.hid (Nat.lt_of_lt_of_le HGL.out hub.size); clear hxi3 hub))
      obtain ⟨q, hq⟩ : ∃ q, q = k % ev := ⟨_, rfl⟩
      obtain ⟨e1, he1⟩ : ∃ e1, e1 = ev - 1 := ⟨_, rfl⟩
      have hev := HX.out.2.2.1
      have hm1 : (k : Int).tmod (ev : Int) = (q : Int) := by rw [hq]; rfl
      have hm2 : (k : Int) % (ev : Int) = (q : Int) := by rw [hq]; rfl
      have hm3 : (ev : Int) - 1 = (e1 : Int) := by omega
      have hm4 : ¬ ev = 0 := by omega
      have hm5 : ¬ (ev : Int) = 0 := by omega
      have he7 : e1 ≤ 700 := by omega
      have HQ := Lib.hid hq; have HE1 := Lib.hid he1
      clear hq he1 h8 h9
      have hl2 : (ls.take (k + 1)).length ≤ 20000 := by rw [List.length_take]; omega
      have HL2 := Lib.hid hl2
      have hn7 : N' ≤ 50000 := by have := HNN.out; have := HX.out; omega
      have HN7 := Lib.hid hn7
      clear hl2 hn7
      by_cases hqe : q = e1
      · have hq1 : ((q : Int) == (e1 : Int)) = true := by rw [beq_iff_eq]; omega
        have hq2 : (q == e1) = true := by simp; exact hqe
        have hq3 : decide (q = e1) = true := decide_eq_true hqe
        have HFL := Lib.hid (HX3.out.flush (by have := HN7.out; omega) HL2.out (HX.out.2.2.2.2.2.2.2.1.below HL3.out.hb (by have := HX.out; omega)) (HL3.out.lo 2 (by have := HX.out; omega)).1)
        obtain ⟨r, hr⟩ : ∃ r, r = flushP T3.tls T3.fs d' := ⟨_, rfl⟩
        have hxf : ∀ (w' : World) (L' : Lay), BT w' L' τ3 gt' gx r.2.1 (T3.put r.1) Y3 → r.2.1.power = true → XI w' L' τ3 gt' gx r.2.1 (T3.put r.1) Y3 wd (ls.take (k + 1)) (N' + 5) := fun w' L' hb hp => by
          subst hr
          exact HX3.out.flushed HL2.out hb hp
        have HXF := Lib.hid hxf
        have htd : TD (tqF wd (ls.take (k + 1))) (N' + 5) r.2.1 := by
          have := (HX3.out.fi.at_flush (tls_each T3) (HX3.out.flat HL2.out) HX3.out.pw).1.td
          rw [tls_tqF, HX3.out.tw, HX3.out.tl, ← hr] at this
          exact this
        have HTD := Lib.hid htd
        have hec : EC d' r.2.1 := by rw [hr]; exact flushP_ec _ _ _
        have HEC := Lib.hid hec
        rw [← hr] at HFL
        clear hev hxf htd hec hr
        go_upto_region 23 with (go_at_call 12; refine HFL.out.mono ?_; rintro e w3 ⟨v, L4, rfl, -, hbt, hub⟩; have HBT3 := Lib.hid hbt; have HL4 := Lib.hid (HL3.out.step HG3.out hub); have HG4 := Lib.hid (Nat.lt_of_lt_of_le HG3.out hub.size); clear hbt hub)
        have HPO := Lib.hid (power_any w3 L4 gx r.2.1 HBT3.out.d)
        cases hp : r.2.1.power
        · rw [hp] at HPO
          clear hp
          have hT6 : (tqF wd (ls.take (k + 1))).length ≤ 1000000 := by rw [tqF_len]; have := HL2.out; omega
          obtain ⟨nm, hnm⟩ : ∃ nm, nm = sp.tmod 2 := ⟨_, rfl⟩
          have hnb : -2 < nm ∧ nm < 2 := by
            have h1 := Int.lt_tmod_of_pos sp (show (0 : Int) < 2 by decide)
            have h2 := Int.tmod_lt_of_pos sp (show (0 : Int) < 2 by decide)
            omega
          obtain ⟨w4, hw4⟩ : ∃ w4, w4 = w3.alloc (.cells #[.int .i64 pt] 3) := ⟨_, rfl⟩
          have hb4 : Below w3.heap.size w3 w4 := by rw [hw4]; exact (Below.refl _ _).alloc (Nat.le_refl _) _
          have hx4 : w4.heap[w3.heap.size]? = some (.cells #[.int .i64 pt] 3 (0, 0)) := by rw [hw4]; exact heap_alloc_new _ _
          have hns : NsAt w4 L4.ρ (some ⟨w3.heap.size, 0, none⟩) 1 [pt] := by
            refine ⟨rfl, fun j x hx => ?_⟩
            have hj : j = 0 := by have := (List.getElem?_eq_some_iff.1 hx).1; simp at this; exact this
            subst hj
            obtain rfl : pt = x := by simpa using hx
            refine ⟨w3.heap.size, 0, rfl, by rw [cell_of_row _ _ _ _ _ _ hx4]; rfl, ?_, HX.out.2.2.2.2.1.1, HX.out.2.2.2.2.1.2⟩
            rcases Nat.eq_zero_or_pos (L4.ρ w3.heap.size) with e | e
            · exact e
            · have := HBT3.out.d.dom w3.heap.size (by omega); omega
          have HRS := Lib.hid (restart_any w4 L4 gx r.2.1 (HBT3.out.d.below hb4) (HTD.out.pre hT6 (by have := HN7.out; omega)) (HTD.out.fine (by have := HN7.out; omega)) HTD.out.okc (some ⟨w3.heap.size, 0, none⟩) 1 1 nm (by omega) (by omega) [pt] hns)
          have HL44 := Lib.hid (HL4.out.step HG4.out (UB.of_below (τ := τ3) hb4))
          have HG44 := Lib.hid (Nat.lt_of_lt_of_le HG4.out hb4.size)
          have HCT := Lib.hid (CalmT.restart HTD.out hT6 nm [pt])
          have hcl : (r.2.1.restart nm [pt]).claims = d'.claims := HEC.out.2
          have HCL := Lib.hid hcl
          have hnm' : sp.tmod 2 = nm := hnm.symm
          have hsl := fun wx => slice_toD wx (some ⟨gl, 0, none⟩) n n (k + 1) (by have := HLT.out; omega)
          have hkc : ((k + 1 : Nat) : Int) = (k : Int) + 1 := by push_cast; rfl
          rw [hkc] at hsl
          have hw4' := hw4.symm
          clear hw4 hb4 hx4 hns hcl hnm hT6 hnb hkc
          go_upto_region 25 with (first
            | (go_at_call 15; refine HPO.out.mono ?_; rintro e wx ⟨rfl, hw⟩; have hw := hw.symm; subst hw)
            | (go_at_call 16; refine HRS.out.mono ?_; rintro e w5 ⟨rfl, L5, hd5, hu5⟩; have HD5 := Lib.hid hd5; have HL5 := Lib.hid (HL44.out.step HG44.out (UB.of_disk hu5)).drop; have HG5 := Lib.hid (Nat.lt_of_lt_of_le HG44.out hu5.size); clear hd5 hu5))
          have HOV := Lib.hid (over_x (ls := ls.take (k + 1)) (wd := wd) (N := N' + 6) HD5.out HCT.out (by have := HN7.out; omega) (by rw [HCL.out]; have := HX3.out.cn; omega)
            (by have h1 := HX3.out.co; have h2 : (r.2.1.restart nm [pt]).claimOf tlN = d'.claimOf tlN := (by unfold Dm.claimOf; rw [HCL.out]); rw [h2]; omega) HX.out.2.1 HL2.out (HL5.out.ds.take (k + 1) (by have := HLT.out; omega)) (HX.out.2.2.2.2.2.2.2.1.below HL5.out.hb (by have := HX.out; omega)) (rt_below HX.out.2.2.2.2.2.2.2.2.1 HL5.out.hb (by have := HX.out; omega))
            (by have := HL5.out.hb.size; have := HX.out; omega) (HL5.out.lo 3 (by have := HX.out; omega)).1 (fun b off e _ => by cases e; exact HL5.out.gl1))
          have hkc : ((k + 1 : Nat) : Int) = (k : Int) + 1 := by push_cast; rfl
          rw [hkc] at HOV
          clear hkc
          go_wp2_with (go_at_call 11; refine HOV.out.mono ?_; rintro e w6 ⟨gt6, τ6, T6, Y6, rfl, hxi6, hu6, hn6⟩; have HX6 := Lib.hid hxi6; have HL6 := Lib.hid (HL5.out.step HG5.out (UB.fresh hu6 hn6)); have HG6 := Lib.hid (Nat.lt_of_lt_of_le HG5.out hu6.size); clear hxi6 hu6 hn6)
          go_roundw
          case rel => exact ⟨k + 1, N' + 7, L5, τ6, gt6, _, T6, Y6, HLT.out, by go_num, rfl, HL6.out, HX6.out, by have := HNN.out; omega, HG6.out⟩
          case measure => have := HLT.out; simp [intOf]; omega
        · rw [hp] at HPO
          have HP := Lib.hid hp
          clear hp
          go_wp2_with (go_at_call 15; refine HPO.out.mono ?_; rintro e wx ⟨rfl, hw⟩; have hw := hw.symm; subst hw)
          go_roundw
          case rel => exact ⟨k + 1, N' + 5, L4, τ3, gt', r.2.1, T3.put r.1, Y3, HLT.out, by go_num, rfl, HL4.out, HXF.out _ _ HBT3.out HP.out, by have := HNN.out; omega, HG4.out⟩
          case measure => have := HLT.out; simp [intOf]; omega
      · have hq1 : ((q : Int) == (e1 : Int)) = false := by rw [beq_eq_false_iff_ne]; omega
        have hq2 : (q == e1) = false := by simp; exact hqe
        have hq3 : decide (q = e1) = false := decide_eq_false hqe
        clear hev
        go_wp2_with fail
        go_roundw
        case rel => exact ⟨k + 1, N', L2, τ3, gt', d', T3, Y3, HLT.out, by go_num, rfl, HL3.out, HX3.out, by have := HNN.out; omega, HG3.out⟩
        case measure => have := HLT.out; simp [intOf]; omega
    · obtain rfl : k = n := by omega
      have h9 : decide (k < k) = false := by simp
      have h8 : decide ((k : Int) < (k : Int)) = false := by simp
      have hlk : ls.take k = ls := List.take_of_length_le (by have := HX.out.2.2.2.2.2.2.2.2.2.2; omega)
      rw [hlk] at HXK
      clear hlt hk hlp hxi hN' hgl hlk
      go_wp2_with fail
      refine HK.out _ _ ?_
      rw [dropSeq_succ]
      exact tb_end W wr L0 L2 τ0 τ2 gt0 gd gt' gx d0 d' T0 T' Y0 Y' wd ls N' k HL.out.te HXK.out HL.out.far HL.out.hb HL.out.lo HX.out.2.2.2.2.2.2.2.2.2.2 HX.out.2.2.2.2.2.1 (by have := HNN.out; have := HX.out; omega) HX.out.2.2.2.2.2.2.2.1 HX.out.2.2.2.2.2.2.2.2.2.1 _ _ _ _ _ _ _ _ _ _ _ _ _ _ _ _ _ _ _ _ _ _ _ _ _ _ _ _ _ _ _ _ _ _ _ _ _ _ _ _ _ _ _ _ _ _ _ _ _ _ _ _ _ _ _ _ _ _ _ _ _ _ _ _ _ _ _ _ _ _ _ _ _ _ _ _ _ _ _ _ _ _ _ _ _ _ _ _ _ _ _ _ _ _ _ _ _ _ _ _ _ _ _ _ _ _ _ _ _ _ _ _ _ _ _ _ _ _ _ _ _ _ _ _ _ _ _ _ _ _ _ _ _ _ _ _ _ _ _ _ _ _ _ _ _ _ _ _ _ _ _ _ _ _ _ _ _ _ _ _ _ _ _ _ _ _ _ _ _ _ _ _ _ _ _ _ _ _ _ _ _ _ _ _ _ _ _ _ _ _ _ 
end Go.Proofs.YtgkehahklccacaaGreatDoor
namespace Go.Proofs.YtgkehahklccacaaGreatDoor
open Go Go.RowKit
set_option maxRecDepth 100000
set_option maxHeartbeats 1000000
set_option linter.unusedVariables false
set_option linter.unusedSimpArgs false

open Go.Maps Go.WideMaps Go.ChangeMaps
theorem DAt.ub {w w' : World} {L0 L0' L1 : Lay} {τ0 τ0' : Nat → Nat} {gx : Nat} {dx : Dm} (h : DAt w L1 gx dx) (hu : UB L0 τ0 L0' τ0' w w') (hf : ∀ k, L1.ρ k ≠ 0 → L0.ρ k = 0 ∧ τ0 k = 0) : DAt w' L1 gx dx ∧ ∀ k, L1.ρ k ≠ 0 → L0'.ρ k = 0 ∧ τ0' k = 0 :=
  ⟨h.stays hu.size (fun k hk => hu.block k (h.dom k hk) (hf k hk).1 (hf k hk).2), fun k hk => ⟨hu.extL.old k (h.dom k hk) (hf k hk).1, hu.extT.old k (h.dom k hk) (hf k hk).2⟩⟩
/-- The law's beginning: the younger disk waits. -/
structure AX (W w : World) (L0 : Lay) (τ0 : Nat → Nat) (L1 : Lay) (gx : Nat) (dx : Dm) (gl n : Nat) (ls : List Dg) : Prop where
  hb : Below W.heap.size W w
  lo0 : Lows W L0 τ0
  dx : DAt w L1 gx dx
  fx : ∀ k, L1.ρ k ≠ 0 → L0.ρ k = 0 ∧ τ0 k = 0
  lo1 : ∀ k, k < W.heap.size → L1.ρ k = 0
  ds : DS w (some ⟨gl, 0, none⟩) n n ls
  gl0 : L0.ρ gl = 0 ∧ τ0 gl = 0
  gl1 : L1.ρ gl = 0
  gls : gl < w.heap.size
theorem AX.step {W w w' : World} {L0 L0' L1 : Lay} {τ0 τ0' : Nat → Nat} {gx gl n : Nat} {dx : Dm} {ls : List Dg} (h : AX W w L0 τ0 L1 gx dx gl n ls) (hu : UB L0 τ0 L0' τ0' w w') : AX W w' L0' τ0' L1 gx dx gl n ls := by
  obtain ⟨q1, q2⟩ := h.lo0.ub h.hb hu
  obtain ⟨q3, q4⟩ := h.dx.ub hu h.fx
  exact ⟨q2, q1, q3, q4, h.lo1, h.ds.same (hu.block gl h.gls h.gl0.1 h.gl0.2), ⟨hu.extL.old gl h.gls h.gl0.1, hu.extT.old gl h.gls h.gl0.2⟩, h.gl1, Nat.lt_of_lt_of_le h.gls hu.size⟩
theorem new_claims (sp : Int) : (Dm.new sp).claims = [] := rfl
set_option maxHeartbeats 8000000
theorem tilesbytes_go (W : World) (n0 : Int) (a0 : -9223372036854775808 ≤ n0) (c0 : n0 ≤ 9223372036854775807) (n1 : Int) (a1 : -9223372036854775808 ≤ n1) (c1 : n1 ≤ 9223372036854775807) (n2 : Int) (a2 : -9223372036854775808 ≤ n2) (c2 : n2 ≤ 9223372036854775807) (n3 : Int) (a3 : -9223372036854775808 ≤ n3) (c3 : n3 ≤ 9223372036854775807)
    (n4 : Int) (a4 : -9223372036854775808 ≤ n4) (c4 : n4 ≤ 9223372036854775807) (n5 : Int) (a5 : -9223372036854775808 ≤ n5) (c5 : n5 ≤ 9223372036854775807) (n6 : Int) (a6 : -9223372036854775808 ≤ n6) (c6 : n6 ≤ 9223372036854775807) (ht : HalfTab W ∧ RoundTab W ∧ 4 ≤ W.heap.size) :
    Calls Tryz.prog 3 #[.int .i64 n0, .int .i64 n1, .int .i64 n2, .int .i64 n3, .int .i64 n4, .int .i64 n5, .int .i64 n6] W (LawRet W) := by
  have W1 := Lib.hid (within_any W n1 0 2000 a1 c1 (by decide) (by decide) (by decide))
  have W3 := Lib.hid (within_any W n3 1 700 a3 c3 (by decide) (by decide) (by decide))
  have W2 := Lib.hid (fun w => within_any w n2 1 32 a2 c2 (by decide) (by decide) (by decide))
  have W5 := Lib.hid (fun w => within_any w n5 0 12 a5 c5 (by decide) (by decide) (by decide))
  have W4 := Lib.hid (fun w => within_any w n4 1 6 a4 c4 (by decide) (by decide) (by decide))
  obtain ⟨n, hn⟩ : ∃ n : Nat, (n : Int) = wiP n1 0 2000 := ⟨(wiP n1 0 2000).toNat, by have := wiP_le n1 0 2000 (by decide); omega⟩
  obtain ⟨ev, hev⟩ : ∃ ev : Nat, (ev : Int) = wiP n3 1 700 := ⟨(wiP n3 1 700).toNat, by have := wiP_le n3 1 700 (by decide); omega⟩
  obtain ⟨wd, hwd⟩ : ∃ wd, wd = wiP n2 1 32 := ⟨_, rfl⟩
  have hnb : n ≤ 2000 := by have := wiP_le n1 0 2000 (by decide); omega
  have hevb : 1 ≤ ev ∧ ev ≤ 700 := by have := wiP_le n3 1 700 (by decide); omega
  have hwdb : 1 ≤ wd ∧ wd ≤ 32 := by rw [hwd]; exact wiP_le n2 1 32 (by decide)
  rw [← hn] at W1
  rw [← hev] at W3
  rw [← hwd] at W2
  have HX := Lib.hid (And.intro hnb (And.intro hevb (And.intro hwdb (And.intro (And.intro a5 c5) (And.intro (And.intro a6 c6) ht)))))
  have HRW := Lib.hid (row_any W n0 n (by omega))
  clear hn hev hwd hnb hevb hwdb a0 c0 a1 c1 a2 c2 a3 c3 a4 c4 a5 c5 a6 c6 ht
  go_enter Tryz.func3, Tryz.ntmps3
  refine wp_two_k (c := tb0) ⟨_, _, rfl⟩ fun K hK => ?_
  have HK := Lib.hid hK
  clear hK
  conv => arg 2; whnf
  go_wp2_with fail
  refine HK.out _ _ ?_
  clear HK K
  refine wp_two_k (c := dropSeq 1 tb0) ⟨_, _, rfl⟩ fun K hK => ?_
  have HK := Lib.hid hK
  clear hK
  conv => arg 2; whnf
  go_wp2_with (go_at_call 8; refine W1.out.mono ?_; rintro e wx ⟨rfl, hw⟩; have hw := hw.symm; subst hw)
  refine HK.out _ _ ?_
  clear HK K
  rw [dropSeq_succ]
  refine wp_two_k (c := dropSeq 2 tb0) ⟨_, _, rfl⟩ fun K hK => ?_
  have HK := Lib.hid hK
  clear hK
  conv => arg 2; whnf
  go_wp2_with (go_at_call 8; refine W3.out.mono ?_; rintro e wx ⟨rfl, hw⟩; have hw := hw.symm; subst hw)
  refine HK.out _ _ ?_
  clear HK K
  rw [dropSeq_succ]
  refine wp_two_k (c := dropSeq 3 tb0) ⟨_, _, rfl⟩ fun K hK => ?_
  have HK := Lib.hid hK
  clear hK
  conv => arg 2; whnf
  go_wp2_with (go_at_call 9; refine HRW.out.mono ?_; rintro e w1 ⟨gl, ls, rfl, hgl, hll, hds, hgw, hb1⟩; have HGL := Lib.hid (And.intro hgl hgw); have HLL := Lib.hid hll; have HDS := Lib.hid hds; have HB1 := Lib.hid hb1; clear hgl hll hds hb1 hgw)
  refine HK.out _ _ ?_
  clear HK K
  rw [dropSeq_succ]
  refine wp_two_k (c := dropSeq 4 tb0) ⟨_, _, rfl⟩ fun K hK => ?_
  have HK := Lib.hid hK
  clear hK
  conv => arg 2; whnf
  go_wp2_with (go_at_call 8; refine (W2.out w1).mono ?_; rintro e wx ⟨rfl, hw⟩; have hw := hw.symm; subst hw)
  refine HK.out _ _ ?_
  clear HK K
  rw [dropSeq_succ]
  have HN1 := Lib.hid (newdisk_any w1 1099511627776 (by decide) (by decide))
  refine wp_two_k (c := dropSeq 5 tb0) ⟨_, _, rfl⟩ fun K hK => ?_
  have HK := Lib.hid hK
  clear hK
  conv => arg 2; whnf
  go_wp2_with (go_at_call 10; refine HN1.out.mono ?_; rintro e w2 ⟨hb2, L0, gd, rfl, hd2, hlo2⟩; have HB2 := Lib.hid hb2; have HD2 := Lib.hid hd2; have HLO2 := Lib.hid hlo2; clear hb2 hd2 hlo2)
  refine HK.out _ _ ?_
  clear HK K
  rw [dropSeq_succ]
  have HN2 := Lib.hid (newdisk_any w2 1099511627776 (by decide) (by decide))
  refine wp_two_k (c := dropSeq 6 tb0) ⟨_, _, rfl⟩ fun K hK => ?_
  have HK := Lib.hid hK
  clear hK
  conv => arg 2; whnf
  go_wp2_with (go_at_call 10; refine HN2.out.mono ?_; rintro e w3 ⟨hb3, L1, gx, rfl, hd3, hlo3⟩; have HB3 := Lib.hid hb3; have HD3 := Lib.hid hd3; have HLO3 := Lib.hid hlo3; clear hb3 hd3 hlo3)
  refine HK.out _ _ ?_
  clear HK K
  rw [dropSeq_succ]
  refine wp_two_k (c := dropSeq 7 tb0) ⟨_, _, rfl⟩ fun K hK => ?_
  have HK := Lib.hid hK
  clear hK
  conv => arg 2; whnf
  go_wp2_with fail
  refine HK.out _ _ ?_
  clear HK K
  rw [dropSeq_succ]
  have hs12 := HB2.out.size
  have hs23 := HB3.out.size
  have hax : AX W w3 L0 (fun _ => 0) L1 gx (Dm.new 1099511627776) gl n ls := by
    have hb13 : Below w1.heap.size w1 w3 := HB2.out.trans (HB3.out.mono hs12)
    have h1 := HB1.out.size
    refine ⟨HB1.out.trans (hb13.mono h1), fun k hk => ⟨HLO2.out k (by omega), rfl⟩, HD3.out, fun k hk => ⟨?_, rfl⟩, fun k hk => HLO3.out k (by omega), HDS.out.below hb13, ⟨HLO2.out gl HGL.out.2, rfl⟩, HLO3.out gl (by have := HGL.out.2; omega), by have := HGL.out.2; omega⟩
    rcases Nat.eq_zero_or_pos (L0.ρ k) with e | e
    · exact e
    · have := HD2.out.dom k (by omega)
      exact absurd (HLO3.out k this) hk
  have HAX := Lib.hid hax
  have hl2 : ls.length ≤ 20000 := by have := HLL.out; have := HX.out; omega
  have h44 : 4 ≤ W.heap.size := HX.out.2.2.2.2.2.2.2
  have HOV := Lib.hid (over_x (ls := ls) (wd := wd) (N := 0) (HD2.out.below HB3.out) (CalmT.new _) (by decide) (Nat.le_refl _) ⟨Int.le_refl _, Int.le_refl _⟩ HX.out.2.2.1 hl2 hax.ds (HX.out.2.2.2.2.2.1.below hax.hb (by omega)) (rt_below HX.out.2.2.2.2.2.2.1 hax.hb (by omega)) (by have := hax.hb.size; omega) (hax.lo0 3 (by omega)).1 (fun b off e _ => by cases e; exact hax.gl0.1))
  have HL2 := Lib.hid hl2
  have H44 := Lib.hid h44
  clear hs12 hs23 hax hl2 h44 HN1 HN2
  refine wp_two_k (c := dropSeq 8 tb0) ⟨_, _, rfl⟩ fun K hK => ?_
  have HK := Lib.hid hK
  clear hK
  conv => arg 2; whnf
  go_wp2_with (go_at_call 11; refine HOV.out.mono ?_; rintro e w4 ⟨gt0, τ0, T0, Y0, rfl, hxi, hu, hnw⟩; have HXI0 := Lib.hid hxi; have HAX4 := Lib.hid (HAX.out.step (UB.fresh hu hnw)); clear hxi hu hnw)
  refine HK.out _ _ ?_
  clear HK K
  rw [dropSeq_succ]
  have HEN := Lib.hid (HXI0.out.fi.ended (tls_each T0) (HXI0.out.flat HL2.out) HXI0.out.pw rfl)
  have HFL := Lib.hid (HXI0.out.flush (by decide) HL2.out (HX.out.2.2.2.2.2.1.below HAX4.out.hb (by have := H44.out; omega)) (HAX4.out.lo0 2 (by have := H44.out; omega)).1)
  obtain ⟨r, hr⟩ : ∃ r, r = flushP T0.tls T0.fs ((Dm.new 1099511627776).claim tlN) := ⟨_, rfl⟩
  have hte : ∀ (w' : World) (L' : Lay), BT w' L' τ0 gt0 gd r.2.1 (T0.put r.1) Y0 → TE w' L' τ0 gt0 gd r.2.1 (T0.put r.1) Y0 wd ls := fun w' L' hb => by
    subst hr
    have hf := HXI0.out.flushed HL2.out hb HEN.out.2.2.2.1
    refine ⟨hb, hf.pre HL2.out (by decide), ?_, HXI0.out.tl, ?_, fun hn => ?_⟩
    · show (flushP _ _ _).1.held = _
      rw [HEN.out.2.1, tls_len, HXI0.out.tl]
    · rw [HEN.out.2.2.2.2.1, tls_tqF, HXI0.out.tw, HXI0.out.tl]
    · refine HEN.out.2.2.2.2.2 (fun e => ?_)
      have := tls_len T0
      rw [e, HXI0.out.tl] at this
      simp at this; omega
  have HTE := Lib.hid hte
  have he0 : r.2.2 = 0 := by rw [hr]; exact HEN.out.1
  rw [← hr] at HFL
  rw [he0] at HFL
  clear hte hr he0 HEN
  refine wp_two_k (c := dropSeq 9 tb0) ⟨_, _, rfl⟩ fun K hK => ?_
  have HK := Lib.hid hK
  clear hK
  conv => arg 2; whnf
  go_wp2_with (go_at_call 12; refine HFL.out.mono ?_; rintro e w5 ⟨v, L5, rfl, hv, hbt, hub⟩; obtain rfl : v = .nilIface := (hv.resolve_right fun q => q.1 rfl).2; have HTE5 := Lib.hid (HTE.out _ _ hbt); have HAX5 := Lib.hid (HAX4.out.step hub); clear hv hbt hub)
  refine HK.out _ _ ?_
  clear HK K
  rw [dropSeq_succ]
  have hlp : LP W w5 L5 τ0 gt0 gd r.2.1 (T0.put r.1) Y0 L1 (fun _ => 0) gx wd ls gl n := by
    refine ⟨HTE5.out, fun k hk => ⟨?_, rfl⟩, HAX5.out.hb, fun k hk => ⟨HAX5.out.lo1 k hk, rfl⟩, HAX5.out.ds, HAX5.out.gl1, rfl⟩
    rcases Nat.eq_zero_or_pos (L1.ρ k) with e | e
    · exact e
    · have := HAX5.out.fx k (by omega)
      rcases hk with h | h
      · exact absurd this.1 h
      · exact absurd this.2 h
  have HLP := Lib.hid hlp
  have HOX := Lib.hid (over_x (ls := []) (wd := wd) (N := 0) HAX5.out.dx (CalmT.new _) (by decide) (Nat.le_refl _) ⟨Int.le_refl _, Int.le_refl _⟩ HX.out.2.2.1 (by decide) (HAX5.out.ds.take 0 (Nat.zero_le _)) (HX.out.2.2.2.2.2.1.below HAX5.out.hb (by have := H44.out; omega)) (rt_below HX.out.2.2.2.2.2.2.1 HAX5.out.hb (by have := H44.out; omega)) (by have := HAX5.out.hb.size; have := H44.out; omega) (HAX5.out.lo1 3 (by have := H44.out; omega)) (fun b off e h0 => by omega))
  have hsl := fun wx => slice_toD wx (some ⟨gl, 0, none⟩) n n 0 (Nat.zero_le _)
  rw [show ((0 : Nat) : Int) = (0 : Int) from rfl] at hsl HOX
  have HG5 := Lib.hid HAX5.out.gls
  clear hlp
  refine wp_two_k (c := dropSeq 10 tb0) ⟨_, _, rfl⟩ fun K hK => ?_
  have HK := Lib.hid hK
  clear hK
  conv => arg 2; whnf
  go_wp2_with (go_at_call 11; refine HOX.out.mono ?_; rintro e w6 ⟨gt, τ1, T, Y, rfl, hxi, hu, hnw⟩; have HXI6 := Lib.hid hxi; have HLP6 := Lib.hid (HLP.out.step HG5.out (UB.fresh hu hnw)); have HG6 := Lib.hid (Nat.lt_of_lt_of_le HG5.out hu.size); clear hxi hu hnw)
  refine HK.out _ _ ?_
  clear HK K
  rw [dropSeq_succ]
  clear hsl
  refine wp_two_k (c := dropSeq 11 tb0) ⟨_, _, rfl⟩ fun K hK => ?_
  have HK := Lib.hid hK
  clear hK
  conv => arg 2; whnf
  go_wp2_with fail
  refine HK.out _ _ ?_
  clear HK K
  rw [dropSeq_succ]
  obtain ⟨s1, hs1⟩ : ∃ s1, s1 = wiP n5 0 12 := ⟨_, rfl⟩
  obtain ⟨k1, hk1⟩ : ∃ k1, k1 = wiP n4 1 6 := ⟨_, rfl⟩
  rw [← hs1] at W5
  rw [← hk1] at W4
  have hx7 := heap_alloc_new w6 (.cells #[.int .i64 s1, .int .i64 k1, .int .i64 n6] 35)
  have hb7 : Below w6.heap.size w6 (w6.alloc (.cells #[.int .i64 s1, .int .i64 k1, .int .i64 n6] 35)) := (Below.refl _ _).alloc (Nat.le_refl _) _
  obtain ⟨w7, hw7⟩ : ∃ w7, w7 = w6.alloc (.cells #[.int .i64 s1, .int .i64 k1, .int .i64 n6] 35) := ⟨_, rfl⟩
  rw [← hw7] at hx7 hb7
  have HLP7 := Lib.hid (HLP6.out.step HG6.out (UB.of_below (τ := τ1) hb7))
  have HXI7 := Lib.hid (HXI6.out.below hb7)
  have HG7 := Lib.hid (Nat.lt_of_lt_of_le HG6.out hb7.size)
  have HPN := Lib.hid (plan_any w7 L1 gx ((Dm.new 1099511627776).claim tlN) HXI7.out.bt.d w6.heap.size 0 1 1 [⟨s1, k1, n6⟩] rfl (by decide) (fun j u hu => by
    rw [cell_of_row _ _ _ _ _ _ hx7]
    have hj : j < 3 := (List.getElem?_eq_some_iff.1 hu).1
    have : j = 0 ∨ j = 1 ∨ j = 2 := by omega
    rcases this with rfl | rfl | rfl <;> simpa [fltV] using hu))
  have hw7' := hw7.symm
  clear hs1 hk1 hx7 hb7 hw7
  refine wp_two_k (c := dropSeq 12 tb0) ⟨_, _, rfl⟩ fun K hK => ?_
  have HK := Lib.hid hK
  clear hK
  conv => arg 2; whnf
  go_wp2_with (first | (go_at_call 8; (with_reducible refine (W5.out w6).mono ?_); rintro e wx ⟨rfl, hw⟩; have hw := hw.symm; subst hw) | (go_at_call 8; (with_reducible refine (W4.out w6).mono ?_); rintro e wx ⟨rfl, hw⟩; have hw := hw.symm; subst hw) | (go_at_call 13; refine HPN.out.mono ?_; rintro e w8 ⟨rfl, L8, hd8, hu8⟩; have HLP8 := Lib.hid (HLP7.out.step HG7.out (UB.of_disk hu8)); have HXI8 := Lib.hid (HXI7.out.planned hd8 hu8); have HG8 := Lib.hid (Nat.lt_of_lt_of_le HG7.out hu8.size); clear hd8 hu8))
  refine HK.out _ _ ?_
  clear HK K
  rw [dropSeq_succ]
  have hX := HX.out
  exact tb_loop W w8 L5 L8 τ0 τ1 gt0 gd gt gx r.2.1 _ (T0.put r.1) T Y0 Y wd ls 1 n gl ev n5 n6 HLP8.out HXI8.out HG8.out hX.2.2.1 hX.2.1 hX.2.2.2.1 hX.2.2.2.2.1 hX.1 (by decide) hX.2.2.2.2.2.1 hX.2.2.2.2.2.2.1 hX.2.2.2.2.2.2.2 _ _ _ _ _ _ _ _ _ _ _ _ _ _ _ _ _ _ _ _ _ _ _ _ _ _ _ _ _ _ _ _ _ _ _ _ _ _ _ _ _ _ _ _ _ _ _ _ _ _ _ _ _ _ _ _ _ _ _ _ _ _ _ _ _ _ _ _ _ _ _ _ _ _ _ _ _ _ _ _ _ _ _ _ _ _ _ _ _ _ _ _ _ _ _ _ _ _ _ _ _ _ _ _ _ _ _ _ _ _ _ _ _ _ _ _ _ _ _ _ _ _ _ _ _ _ _ _ _ _ _ _ _ _ _ _ _ _ _ _ _ _ _ _ _ _ _ _ _ _ _ _ _ _ _ _ _ _ _ _ _ _ _ _ _ _ _ _ _ _ _ _ _ _ _ _ _ _ _ _ _ _ _ _ _ _ 
end Go.Proofs.YtgkehahklccacaaGreatDoor
namespace Go.Proofs.YtgkehahklccacaaGreatDoor
open Go.ChangeShapes Go.WideShapes Go.ChangeAt Go.RowKit
set_option linter.unusedVariables false
set_option maxRecDepth 100000
theorem own : ownKnob Tryz.prog.godebug = none := by kernel_rfl
theorem laidOut : laidOutB Tryz.prog = true := by kernel_rfl
theorem gHalf : Tryz.prog.globalNamed "docket/frame.half" = some 2 := by kernel_rfl
theorem gRound : Tryz.prog.globalNamed "docket/digest.round" = some 3 := by kernel_rfl
theorem gHalfT : (Tryz.prog.globals[2]?).map (·.type) = some 345 := by kernel_rfl
theorem gRoundT : (Tryz.prog.globals[3]?).map (·.type) = some 353 := by kernel_rfl
theorem cHalf : Tryz.prog.cellsOf 345 = 16 := by kernel_rfl
theorem cRound : Tryz.prog.cellsOf 353 = 64 := by kernel_rfl
theorem c255 : Tryz.prog.cellsOf 255 = 1 := by kernel_rfl
def halfI : List Int := [0, 498536548, 997073096, 651767980, 1994146192, 1802195444, 1303535960, 1342533948, 3988292384, 4027552580, 3604390888, 3412177804, 2607071920, 2262029012, 2685067896, 3183342108]
def roundI : List Int := [1116352408, 1899447441, 3049323471, 3921009573, 961987163, 1508970993, 2453635748, 2870763221, 3624381080, 310598401, 607225278, 1426881987, 1925078388, 2162078206, 2614888103, 3248222580, 3835390401, 4022224774, 264347078, 604807628, 770255983, 1249150122, 1555081692, 1996064986, 2554220882, 2821834349, 2952996808, 3210313671, 3336571891, 3584528711, 113926993, 338241895, 666307205, 773529912, 1294757372, 1396182291, 1695183700, 1986661051, 2177026350, 2456956037, 2730485921, 2820302411, 3259730800, 3345764771, 3516065817, 3600352804, 4094571909, 275423344, 430227734, 506948616, 659060556, 883997877, 958139571, 1322822218, 1537002063, 1747873779, 1955562222, 2024104815, 2227730452, 2361852424, 2428436474, 2756734187, 3204031479, 3329325298]
theorem tab_reads {P : Program} {W : World} {name : String} {k : IntKind} {zs : List Int} {g : Nat} {t e : TypeId} {n : Nat}
    (hg : P.globalNamed name = some g) (hty : (P.globals[g]?).map (·.type) = some t) (ht : P.underlying t = some (.array n e)) (he : P.underlying e = some (.int k)) (hce : P.cellsOf e = 1) (hct : P.cellsOf t = n)
    (h : Lib.VarReads P W name (Lib.tabData k zs)) : Lib.TabIs P W name k zs := by
  obtain ⟨g', t', cs, fuel, p, hg', ht', hvar, hd⟩ := h
  obtain rfl := Option.some.inj (hg.symm.trans hg')
  obtain rfl := Option.some.inj (hty.symm.trans ht')
  unfold Lib.TabIs
  rw [hvar, ← Lib.cells_of_tab ht he hce hct hd]
theorem half_same : (Rows.laid_docket_frame_half : DataW Unit) = Lib.tabData .u32 halfI := rfl
theorem round_same : (Rows.laid_docket_digest_round : DataW Unit) = Lib.tabData .u32 roundI := rfl
theorem half_of {W : World} (ht : Lib.TabIs Tryz.prog W "docket/frame.half" .u32 halfI) : HalfTab W := fun i hi => by
  rw [ht.cell gHalf i hi]
  have e : ∀ i : Fin 16, halfI.getD i.val 0 = ((halfL.getD i.val 0).toNat : Int) := by decide +kernel
  rw [e ⟨i, hi⟩]
theorem round_of {W : World} (ht : Lib.TabIs Tryz.prog W "docket/digest.round" .u32 roundI) : RoundTab W := fun i hi => by
  rw [ht.cell gRound i hi]
  have e : ∀ i : Fin 64, roundI.getD i.val 0 = ((kT i.val).toNat : Int) := by decide +kernel
  rw [e ⟨i, hi⟩]
theorem tableB {W : World} (h : laidMetH Tryz.prog [("docket/digest.round", Rows.laid_docket_digest_round), ("docket/frame.half", Rows.laid_docket_frame_half)] W) : HalfTab W ∧ RoundTab W ∧ 4 ≤ W.heap.size := by
  rw [MakeChecks.laidMetH_plain _ _ _ (by kernel_rfl)] at h
  have a := round_of (tab_reads gRound gRoundT Tryz.underlying353 Tryz.underlying255 c255 cRound (Lib.laidMet.reads h (.head _)))
  have b := half_of (tab_reads gHalf gHalfT Tryz.underlying345 Tryz.underlying255 c255 cHalf (Lib.laidMet.reads h (.tail _ (.head _))))
  refine ⟨b, a, ?_⟩
  have := World.block_lt_of_cell? W _ (a 0 (by decide))
  exact this
def setO (v : Array Value) : Obj → Obj
  | .cells _ t frozen => .cells v t frozen
  | o => o
/-- A world for the witnesses: the settled one, the tables holding what their initialisers lay. -/
noncomputable def laidStart (os : Os) : World :=
  { World.holding Tryz.prog os ⟨#[], #[], []⟩ with heap := ((World.holding Tryz.prog os ⟨#[], #[], []⟩).heap.modify 2 (setO (halfI.map fun z => Value.int .u32 z).toArray)).modify 3 (setO (roundI.map fun z => Value.int .u32 z).toArray) }
end Go.Proofs.YtgkehahklccacaaGreatDoor
