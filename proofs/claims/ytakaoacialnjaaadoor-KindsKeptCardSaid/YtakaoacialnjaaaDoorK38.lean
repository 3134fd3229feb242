import Derived.Test.YtakaoacialnjaaaDoorK34
import Derived.Test.YtakaoacialnjaaaDoorK35
import Derived.Test.YtakaoacialnjaaaDoorK18
namespace Go.Proofs.YtakaoacialnjaaaDoor
open Go Go.RowKit
set_option linter.unusedVariables false
theorem sl60 : Sl Tryd.prog 60 72 (.agg #[.int .i64 0, .bool false]) 2 16 := ⟨by kernel_rfl, by kernel_rfl, rfl, by decide⟩
def kf (sc : List Nm) (l : List UInt8) : Int × Bool := match sc.find? (isNm l) with
  | some n => (n.b, n.o)
  | none => (0, false)
theorem named_kf (sc : List Nm) (l : List UInt8) : namedK sc l = (kf sc l, decide (1 ≤ (kf sc l).1) && decide ((kf sc l).1 ≤ 5)) := by
  unfold namedK kf
  cases sc.find? (isNm l) <;> rfl
theorem kf_cons (n : Nm) (t : List Nm) (l : List UInt8) : kf (n :: t) l = if n.nm.toList == l then (n.b, n.o) else kf t l := by
  unfold kf
  rw [List.find?_cons]
  unfold isNm
  cases n.nm.toList == l <;> rfl
def OfOutR (e : Ending) (w w' : World) (r : List (Int × Bool) × Nat × Int) : Prop :=
  ∃ a c, e = .returned (.tuple #[.slice a r.1.length c, .int .i64 (r.2.1 : Int), .int .i64 r.2.2]) ∧ w'.ownsRow w.heap.size 72 2 (.slice a r.1.length c) r.1.length (r.1.flatMap Kd)
theorem new72 (w : World) (k : Int × Bool) (j : Nat) (u : Value) (h : (Kd k)[j]? = some u) : (w.alloc (.cells #[.int .i64 k.1, .bool k.2] 72)).cell? ((⟨w.heap.size, 0, none⟩ : Addr).add j) = some u := by
  rw [Addr.add_lit, cell_of_row _ _ _ _ _ _ (heap_alloc_new w _), Nat.zero_add]
  simpa [Kd] using h
theorem take_kd {l : List (Int × Bool)} {k : Nat} {x : Int × Bool} (h : l[k]? = some x) : (l.take (k + 1)).flatMap Kd = (l.take k).flatMap Kd ++ Kd x := by
  rw [List.take_add_one, h]; simp [List.flatMap_append]
set_option maxRecDepth 100000 in
set_option maxHeartbeats 8000000 in
theorem refof_any (w : World) (a : Option Addr) (n c : Nat) (ns : List Nd) (hr : RS 7 Nd.cs w a n c ns) (hok : ∀ nd ∈ ns, nd.ok w) (sa : Option Addr) (sn sc' : Nat) (sc : List Nm) (hsc : RS 3 Nm.cs w sa sn sc' sc) (hrt : ResTab w 1) (h2 : 1 < w.heap.size)
    (hnb : n ≤ 1000000) (hkb : ∀ nd ∈ ns, nd.kl ≤ 1000000) :
    Calls Tryd.prog 21 #[.slice a n c, .slice sa sn sc'] w fun e w' => OfOutR e w w' (ofK ns sc) ∧ Below w.heap.size w w' := by
  have hlen := hr.1
  have HR := Lib.hid hr
  have HOK := Lib.hid hok
  have HSC := Lib.hid hsc
  have HKB := Lib.hid hkb
  have hsn48 := hsc.2.2.1
  have hscl := hsc.1
  obtain ⟨B, hB⟩ : ∃ B, B = w.heap.size := ⟨_, rfl⟩
  have HBB := Lib.hid hB
  go_enter Tryd.func21, Tryd.ntmps21
  go_wp2_with fail
  with_reducible refine (rows_any w a n c ns hr hok hrt h2 (by omega)).mono ?_
  rintro e w1 ⟨rfl, hb1⟩
  clear hr hok hsc hrt h2 hkb
  cases hT : treesB ns
  · have HK := Lib.hid (show ofK ns sc = ([], 0, 8) by simp [ofK, hT])
    clear hT hB
    go_wp2
    go_ret3
    exact ⟨⟨none, 0, by rw [HK.out]; rfl, by rw [HK.out]; exact World.ownsRow_nil _ _ _ _⟩, hb1⟩
  · have HTB := Lib.hid hT
    have HK := Lib.hid (show ofK ns sc = ofF sc 0 [] ns by simp [ofK, hT])
    have HB1 := Lib.hid (hB ▸ hb1 : Below B w w1)
    clear hT hB hb1
    go_wp2_with fail
    go_loopw [7, 8] (fun v i wr => ∃ k : Nat, k ≤ n ∧ i = .int .i64 k ∧ (∃ la lc, v = .slice la k lc) ∧ ∃ ks : List (Int × Bool), wr.ownsRow B 72 2 v k (ks.flatMap Kd) ∧ ks.length = k ∧ (∀ x ∈ ks, x ∈ K11) ∧ Below B w wr ∧ ofK ns sc = ofF sc k ks (ns.drop k)) (fun _ i _ => n - (intOf i).toNat)
    case atStart => exact ⟨0, by omega, rfl, ⟨none, 0, rfl⟩, [], World.ownsRow_nil _ _ _ _, rfl, by simp, HB1.out, HK.out⟩
    case round =>
      obtain ⟨k, hk, rfl, ⟨la, lc, rfl⟩, ks, hO, hkl, hK, hb, hF⟩ := hrel
      have HO := Lib.hid hO
      have HKL := Lib.hid hkl
      have HK11 := Lib.hid hK
      have HB := Lib.hid hb
      have HF := Lib.hid hF
      have zr := hb.size
      have zB : B ≤ wr.heap.size := by have := HBB.out; omega
      clear hO hkl hK hb hF
      by_cases hlt : k < n
      · obtain ⟨nb, no, nd, rfl, hnd, hcl0⟩ := HR.out.at hlt
        have hcl := fun j v hv => (HB.out.cell (p := ⟨nb, no + k * 7 + j, none⟩) (by have := block_lt_of_cell (hcl0 j v hv); rw [HBB.out]; exact this)).trans (hcl0 j v hv)
        have n0 := hcl 0 _ rfl
        have n1 := hcl 1 _ rfl
        have n2 := hcl 2 _ rfl
        have n3 := hcl 3 _ rfl
        have n4 := hcl 4 _ rfl
        have n5 := hcl 5 _ rfl
        have n6 := hcl 6 _ rfl
        simp only [Nat.add_zero] at n0
        have hltI : (k : Int) < (n : Int) := by omega
        have HND := Lib.hid (drop_cons hnd)
        have HNK := Lib.hid (HOK.out nd (List.mem_of_getElem? hnd))
        have HNB := Lib.hid (HKB.out nd (List.mem_of_getElem? hnd))
        have HTO := Lib.hid (treesB_ok HTB.out k nd hnd)
        have b2 : Below wr.heap.size wr (wr.alloc (.cells nd.v 49)) := (Below.refl _ _).alloc (Nat.le_refl _) _
        have HB2 := Lib.hid (HB.out.trans (b2.mono zB))
        have g2 := heap_alloc_new wr (.cells nd.v 49)
        have HO2 := Lib.hid (own_below HO.out b2)
        have hs2 : wr.heap.size < (wr.alloc (.cells nd.v 49)).heap.size := by simp
        clear hcl hcl0 hnd b2
        go_wp2_with fail
        rw [show (#[.int .i64 nd.op, .string nd.nm, .int .i64 nd.vk, .int .i64 nd.vn, .string nd.vt, .slice nd.sa nd.sl nd.sc, .slice nd.ka nd.kl nd.kc] : Array Value) = nd.v from rfl]
        generalize wr.alloc (.cells nd.v 49) = w2 at *
        obtain ⟨gn, hgn⟩ : ∃ g, g = wr.heap.size := ⟨_, rfl⟩
        rw [← hgn] at g2 hs2 ⊢
        have G2 := Lib.hid g2
        obtain ⟨B2, hB2⟩ : ∃ b, b = w2.heap.size := ⟨_, rfl⟩
        have HB22 := Lib.hid hB2
        have HGN := Lib.hid hgn
        have HS2 := Lib.hid hs2
        clear n0 n1 n2 n3 n4 n5 n6 g2 hB2 hgn hs2
        go_loopw [10, 11] (fun v j wx => ∃ m : Nat, m ≤ nd.kl ∧ j = .int .i64 m ∧ (∃ ma mc, v = .slice ma m mc) ∧ wx.ownsRow B2 72 2 v m (((kidK ks (nd.ks.map Int.toNat)).take m).flatMap Kd) ∧ Below B2 w2 wx) (fun _ j _ => nd.kl - (intOf j).toNat)
        case atStart => exact ⟨0, by omega, rfl, ⟨none, 0, rfl⟩, World.ownsRow_nil _ _ _ _, by rw [HB22.out]; exact Below.refl _ _⟩
        case round =>
          obtain ⟨m, hm, rfl, ⟨ma, mc, rfl⟩, hO4, hb4⟩ := hrel
          have HO4 := Lib.hid hO4
          have HB4 := Lib.hid (HB22.out ▸ hb4 : Below w2.heap.size w2 wr)
          have HB5 := Lib.hid hb4
          have z4 := hb4.size
          have gx := (HB4.out.block gn HS2.out).trans G2.out
          have GX := Lib.hid gx
          have HOx := Lib.hid (own_below HO2.out HB4.out)
          have HBx := Lib.hid (HB2.out.trans (HB4.out.mono (by have := HB2.out.size; have := HBB.out; omega)))
          have m6 := cell_of_row wr _ 6 _ _ _ gx
          have m0 := cell_of_row wr _ 0 _ _ _ gx
          have m1 := cell_of_row wr _ 1 _ _ _ gx
          simp only [Nd.v, List.getElem?_toArray, List.getElem?_cons_zero, List.getElem?_cons_succ] at m6 m0 m1
          clear hO4 hb4 gx
          by_cases hmt : m < nd.kl
          · have hmI : (m : Int) < (nd.kl : Int) := by omega
            obtain ⟨kb, ko, x, hka, hx, hxc⟩ := HNK.out.1.at hmt
            have HB0 : Below w.heap.size w wr := by have := HBx.out; rwa [HBB.out] at this
            have xc0 := hxc 0 _ rfl
            have xc := (HB0.cell (p := ⟨kb, ko + m * 1 + 0, none⟩) (block_lt_of_cell xc0)).trans xc0
            simp only [Nat.add_zero, Nat.mul_one] at xc
            rw [hka] at m6
            have hxr := HTO.out.2 x (List.mem_of_getElem? hx)
            obtain ⟨xn, rfl⟩ : ∃ xn : Nat, x = (xn : Int) := ⟨x.toNat, by omega⟩
            have hxk : xn < k := by omega
            have hxI : (xn : Int) < (k : Int) := by omega
            have hrs := RS.of_owns HOx.out (by decide) Kd_len (by omega)
            obtain ⟨ob, oo, ⟨yb, yo⟩, rfl, hy, hyc⟩ := hrs.at hxk
            have y0 := hyc 0 _ rfl
            have y1 := hyc 1 _ rfl
            simp only [Nat.add_zero] at y0
            have HT := Lib.hid (take_kd (l := kidK ks (nd.ks.map Int.toNat)) (k := m) (x := (yb, yo)) (by simp [kidK, hx, List.getD_eq_getElem?_getD, hy]))
            clear hka hx hxc xc0 hxr hrs hy hyc HB0 m0 m1
            have HNB1 := Lib.hid (show (m + 1) * 16 ≤ 140737488355328 by have := HNB.out; omega)
            have HNB2 := Lib.hid (show m + 1 ≤ maxLen by have := HNB.out; simp [maxLen]; omega)
            have hmb : nd.kl ≤ 1000000 := HNB.out
            have HZ := Lib.hid (show B2 ≤ wr.heap.size by have := HB22.out; omega)
            go_wp2_with (at_builtin; refine L_appendN rfl _ _ _ rfl sl60 B2 (.slice ma m mc) m _ rfl (own_below HO4.out ((Below.refl _ _).alloc (Nat.le_refl _) _)) ⟨wr.heap.size, 0, none⟩ 1 1 (Kd (yb, yo)) rfl rfl (new72 wr (yb, yo)) (by simp [Kd, Value.oneCell']) HNB1.out HNB2.out (by have := HZ.out; simp; omega) (fun a6 c6 w6 ho6 hg6 hat6 => ?_))
            rw [← HT.out] at ho6
            have HO6 := Lib.hid ho6
            have HB6 := Lib.hid ((HB5.out.alloc HZ.out _).grown hg6 (by have := HZ.out; simp; omega) (fun q hq => by have := (HO4.out.lt q hq).1; omega))
            clear ho6 hg6 hat6
            go_roundw
            case rel => exact ⟨m + 1, by omega, by go_num, ⟨a6, c6, rfl⟩, HO6.out, HB6.out⟩
            case measure => simp [intOf]; omega
          · have hmI : ¬ (m : Int) < (nd.kl : Int) := by omega
            obtain rfl : m = nd.kl := by omega
            have hkl : (kidK ks (nd.ks.map Int.toNat)).length = nd.kl := by have := HNK.out.1.1; simpa [kidK] using this
            have hrk := RS.of_owns (by have := HO4.out; rwa [List.take_of_length_le (by omega)] at this) (by decide) Kd_len (by have := HNB.out; omega)
            have HRK := Lib.hid hrk
            have HRI := Lib.hid (right_kids HTO.out.1)
            have HNM := Lib.hid (show ofK ns sc = (if (lookK sc ks nd.op nd.nm.toList (nd.ks.map Int.toNat)).2 = 0 then ofF sc (k + 1) (ks ++ [(lookK sc ks nd.op nd.nm.toList (nd.ks.map Int.toNat)).1]) (ns.drop (k + 1)) else ([], k, (lookK sc ks nd.op nd.nm.toList (nd.ks.map Int.toNat)).2)) by rw [HF.out, HND.out]; rfl)
            have HKI := Lib.hid (show ∀ x ∈ nd.ks.map Int.toNat, x < ks.length by
              intro x hx
              obtain ⟨y, hy, rfl⟩ := List.mem_map.1 hx
              have := HTO.out.2 y hy
              have := HKL.out
              omega)
            have HZ := Lib.hid (show B2 ≤ wr.heap.size by have := HB22.out; omega)
            have HZB := Lib.hid (show B ≤ w2.heap.size by have := HB2.out.size; have := HBB.out; omega)
            clear hkl hrk m1
            cases e5 : (nd.op == 5)
            · cases e24 : (nd.op == 24)
              · have h5 : nd.op ≠ 5 := by simpa using e5
                have h24 : nd.op ≠ 24 := by simpa using e24
                have HL := Lib.hid (one_look sc ks HK11.out nd.op nd.nm.toList (nd.ks.map Int.toNat) HKI.out h5 h24 HRI.out.1 (by have := HRI.out.2; have := HNK.out.1.1; simp only [List.length_map]; omega))
                have H11 := Lib.hid (look_k11 sc ks HK11.out nd.op nd.nm.toList (nd.ks.map Int.toNat) HKI.out HRI.out.1 (by have := HRI.out.2; have := HNK.out.1.1; simp only [List.length_map]; omega))
                have H5 := Lib.hid h5
                clear h5 h24
                go_wp2_with fail
                with_reducible refine (refone_any wr nd.op ma nd.kl mc _ HRK.out H5.out HRI.out.1 HRI.out.2).mono ?_
                rintro e w4 ⟨he, hb4⟩
                generalize hR : oneR nd.op (kidK ks (nd.ks.map Int.toNat)) = R at he
                obtain ⟨⟨rb, ro⟩, rk⟩ := R
                have HR2 := Lib.hid hR
                unfold KindOut at he
                subst he
                have z5 := hb4.size
                have HBy := Lib.hid (HBx.out.trans (hb4.mono (by have := HZ.out; have := HB2.out.size; have := HB22.out; have := HZB.out; omega)))
                have HOy := Lib.hid (own_below HOx.out hb4)
                clear hR hb4 m0 m6
                cases rk
                · have HN := Lib.hid (show ofK ns sc = ([], k, 100) by rw [HNM.out, HL.out, HR2.out]; rfl)
                  go_wp2
                  go_ret3
                  exact ⟨⟨none, 0, by rw [HN.out]; rfl, by rw [HN.out]; exact World.ownsRow_nil _ _ _ _⟩, by have := HBy.out; rw [HBB.out] at this; exact this.alloc this.size _⟩
                · have HN := Lib.hid (show ofK ns sc = ofF sc (k + 1) (ks ++ [(rb, ro)]) (ns.drop (k + 1)) by rw [HNM.out, HL.out, HR2.out]; rfl)
                  have HNEW := Lib.hid (show ∀ x ∈ ks ++ [(rb, ro)], x ∈ K11 by
                    intro x hx
                    rcases List.mem_append.1 hx with hx | hx
                    · exact HK11.out x hx
                    · rw [List.mem_singleton.1 hx]
                      have := H11.out
                      rw [HL.out, HR2.out] at this
                      exact this rfl)
                  have HK1 := Lib.hid (show (k + 1) * 16 ≤ 140737488355328 by omega)
                  have HK2 := Lib.hid (show k + 1 ≤ maxLen by simp [maxLen]; omega)
                  have HBS := Lib.hid (show B ≤ w4.heap.size by have := HBy.out.size; have := HBB.out; omega)
                  go_wp2_with (at_builtin; refine L_appendN rfl _ _ _ rfl sl60 B (.slice la k lc) k _ rfl (own_below (own_below HOy.out ((Below.refl _ _).alloc (Nat.le_refl _) (.cells #[.int .i64 rb, .bool ro] 72))) ((Below.refl _ _).alloc (Nat.le_refl _) (.cells #[.int .i64 rb, .bool ro] 72))) _ 1 1 (Kd (rb, ro)) rfl rfl (by have := new72 (w4.alloc (.cells #[.int .i64 rb, .bool ro] 72)) (rb, ro); first | exact this | (rw [World.size_alloc] at this; exact this)) (by simp [Kd, Value.oneCell']) HK1.out HK2.out (by have := HBS.out; simp; omega) (fun a6 c6 w6 ho6 hg6 hat6 => ?_))
                  have HB6 := Lib.hid (((HBy.out.alloc HBS.out _).alloc (by have := HBS.out; simp; omega) _).grown hg6 (by have := HBS.out; simp; omega) (fun q hq => by have := (HOy.out.lt q hq).1; omega))
                  have HO6 := Lib.hid (show w6.ownsRow B 72 2 (.slice a6 (k + 1) c6) (k + 1) ((ks ++ [(rb, ro)]).flatMap Kd) by rw [List.flatMap_append]; simpa using ho6)
                  clear ho6 hg6 hat6
                  go_roundw
                  case rel => exact ⟨k + 1, by omega, by go_num, ⟨a6, c6, rfl⟩, ks ++ [(rb, ro)], HO6.out, by have := HKL.out; simp; omega, HNEW.out, HB6.out, HN.out⟩
                  case measure => simp [intOf]; omega
              · obtain ⟨wk, rfl⟩ : ∃ wk : World, wk = wr := ⟨_, rfl⟩
                have g5 := heap_alloc_new wk (.cells #[.int .i64 0, .bool false] 72)
                have b5 : Below wk.heap.size wk (wk.alloc (.cells #[.int .i64 0, .bool false] 72)) := (Below.refl _ _).alloc (Nat.le_refl _) _
                have HB50 := Lib.hid b5
                have HG50 := Lib.hid g5
                have HBk := Lib.hid (show Below w.heap.size w wk by have := HBx.out; rwa [HBB.out] at this)
                have HMK := Lib.hid m6
                clear b5 g5
                go_wp2_with fail
                clear m0 m6 HMK
                generalize wk.alloc (.cells #[.int .i64 0, .bool false] 72) = w5 at *
                obtain ⟨gk, hgk⟩ : ∃ g, g = wk.heap.size := ⟨_, rfl⟩
                have HGK := Lib.hid hgk
                rw [← hgk] at HG50 ⊢
                clear hgk
                go_loopw [13] (fun j wy => ∃ m : Nat, m ≤ sn ∧ j = .int .i64 ((m : Int) - 1) ∧ wy.heap[gk]? = some (.cells #[.int .i64 (kf (sc.drop m) nd.nm.toList).1, .bool (kf (sc.drop m) nd.nm.toList).2] 72) ∧ Below gk wk wy) (fun j _ => (intOf j + 1).toNat)
                case atStart => exact ⟨sn, Nat.le_refl _, by go_num, by rw [List.drop_of_length_le (by omega)]; exact HG50.out, by rw [HGK.out]; exact HB50.out⟩
                case round =>
                  obtain ⟨m, hm, rfl, hgm, hbm⟩ := hrel
                  have zc0 : wr.cell? ⟨gk, 0, none⟩ = some (.int .i64 (kf (sc.drop m) nd.nm.toList).1) := cell_of_row wr _ 0 _ _ _ hgm
                  have zc1 : wr.cell? ⟨gk, 1, none⟩ = some (.bool (kf (sc.drop m) nd.nm.toList).2) := cell_of_row wr _ 1 _ _ _ hgm
                  have zf0 : wr.frozen? ⟨gk, 0, none⟩ = false := frozen_of_row wr _ 0 _ _ hgm
                  have zf1 : wr.frozen? ⟨gk, 1, none⟩ = false := frozen_of_row wr _ 1 _ _ hgm
                  have HGM := Lib.hid hgm
                  have HBM := Lib.hid hbm
                  have HB0 := Lib.hid (HBk.out.trans (hbm.mono (by have := HGK.out; have := HBk.out.size; omega)))
                  have zm := hbm.size
                  have hnx := ((HGK.out ▸ hbm : Below wk.heap.size wk wr).block gn (by have := HS2.out; have := HB4.out.size; omega)).trans GX.out
                  have m1 := cell_of_row wr _ 1 _ _ _ hnx
                  have m0 := cell_of_row wr _ 0 _ _ _ hnx
                  simp only [Nd.v, List.getElem?_toArray, List.getElem?_cons_zero, List.getElem?_cons_succ] at m1 m0
                  clear hgm hbm hnx
                  by_cases hm0 : m = 0
                  · subst hm0
                    rw [List.drop_zero] at zc0 zc1
                    have HNK2 := Lib.hid (named_kf sc nd.nm.toList)
                    generalize hq : kf sc nd.nm.toList = q at *
                    obtain ⟨qb, qo⟩ := q
                    have hIneg : ¬ (0 : Int) ≤ ((0 : Nat) : Int) - 1 := by omega
                    have h5 : nd.op = 24 := by simpa using e24
                    have hL : lookK sc ks nd.op nd.nm.toList (nd.ks.map Int.toNat) = if (namedK sc nd.nm.toList).2 then (((2 : Int), false), 0) else ((0, false), 34) := by rw [h5]; rfl
                    have HL := Lib.hid hL
                    have HH5 := Lib.hid h5
                    clear hL h5
                    have HOz := Lib.hid (own_below HOx.out (HGK.out ▸ HBM.out : Below wk.heap.size wk wr))
                    have HBz := Lib.hid (show Below B w wr by have := HB0.out; rwa [← HBB.out] at this)
                    have HBS := Lib.hid (show B ≤ wr.heap.size by have := HB0.out.size; have := HBB.out; omega)
                    have HK1 := Lib.hid (show (k + 1) * 16 ≤ 140737488355328 by omega)
                    have HK2 := Lib.hid (show k + 1 ≤ maxLen by simp [maxLen]; omega)
                    have HRZ := Lib.hid (HRK.out.below (HGK.out ▸ HBM.out : Below wk.heap.size wk wr))
                    by_cases c1 : 1 ≤ qb
                    · by_cases c2 : qb ≤ 5
                      · have hN2 : (namedK sc nd.nm.toList) = ((qb, qo), true) := by rw [HNK2.out]; simp [c1, c2]
                        have HN2 := Lib.hid hN2
                        have d1 : ¬ qb < 1 := by omega
                        have d2 : ¬ qb > 5 := by omega
                        clear hN2
                        have HNEW := Lib.hid (show ∀ x ∈ ks ++ [((2 : Int), false)], x ∈ K11 by
                          intro x hx
                          rcases List.mem_append.1 hx with hx | hx
                          · exact HK11.out x hx
                          · rw [List.mem_singleton.1 hx]; exact mem_bool)
                        have HN := Lib.hid (show ofK ns sc = ofF sc (k + 1) (ks ++ [((2 : Int), false)]) (ns.drop (k + 1)) by rw [HNM.out, HL.out, HN2.out]; rfl)
                        go_wp2_with fail
                        with_reducible refine (refone_any wr nd.op ma nd.kl mc _ HRZ.out (by rw [HH5.out]; decide) HRI.out.1 HRI.out.2).mono ?_
                        rintro e w4 ⟨he, hb4⟩
                        have hR : oneR nd.op (kidK ks (nd.ks.map Int.toNat)) = ((2, false), true) := by rw [HH5.out]; rfl
                        rw [hR] at he
                        unfold KindOut at he
                        subst he
                        have z5 := hb4.size
                        have HBy := Lib.hid (HBz.out.trans (hb4.mono HBS.out))
                        have HOy := Lib.hid (own_below HOz.out hb4)
                        have HBT := Lib.hid (show B ≤ w4.heap.size by have := HBS.out; omega)
                        clear hR hb4 m0 m1 zc0 zc1
                        go_wp2_with (at_builtin; go_loud (refine L_appendN rfl _ _ _ rfl sl60 B (.slice la k lc) k _ rfl (own_below (own_below HOy.out ((Below.refl _ _).alloc (Nat.le_refl _) (.cells #[.int .i64 2, .bool false] 72))) ((Below.refl _ _).alloc (Nat.le_refl _) (.cells #[.int .i64 2, .bool false] 72))) _ 1 1 (Kd (2, false)) rfl rfl (by have := new72 (w4.alloc (.cells #[.int .i64 2, .bool false] 72)) (2, false); first | exact this | (rw [World.size_alloc] at this; exact this)) (by simp [Kd, Value.oneCell']) HK1.out HK2.out (by have := HBT.out; simp; omega) (fun a6 c6 w6 ho6 hg6 hat6 => ?_)))
                        have HB6 := Lib.hid (((HBy.out.alloc HBT.out _).alloc (by have := HBT.out; simp; omega) _).grown hg6 (by have := HBT.out; simp; omega) (fun q hq => by have := (HOy.out.lt q hq).1; omega))
                        have HO6 := Lib.hid (show w6.ownsRow B 72 2 (.slice a6 (k + 1) c6) (k + 1) ((ks ++ [((2 : Int), false)]).flatMap Kd) by rw [List.flatMap_append]; simpa using ho6)
                        clear ho6 hg6 hat6
                        go_roundw
                        case rel => exact ⟨k + 1, by omega, by go_num, ⟨a6, c6, rfl⟩, ks ++ [((2 : Int), false)], HO6.out, by have := HKL.out; simp; omega, HNEW.out, HB6.out, HN.out⟩
                        case measure => simp [intOf]; omega
                      · have HN := Lib.hid (show ofK ns sc = ([], k, 34) by rw [HNM.out, HL.out, HNK2.out]; simp [c2])
                        have d1 : ¬ qb < 1 := by omega
                        have d2 : qb > 5 := by omega
                        go_wp2
                        go_ret3
                        exact ⟨⟨none, 0, by rw [HN.out]; rfl, by rw [HN.out]; exact World.ownsRow_nil _ _ _ _⟩, HB0.out⟩
                    · have HN := Lib.hid (show ofK ns sc = ([], k, 34) by rw [HNM.out, HL.out, HNK2.out]; simp [c1])
                      have d1 : qb < 1 := by omega
                      go_wp2
                      go_ret3
                      exact ⟨⟨none, 0, by rw [HN.out]; rfl, by rw [HN.out]; exact World.ownsRow_nil _ _ _ _⟩, HB0.out⟩
                  · obtain ⟨p, rfl⟩ : ∃ p, m = p + 1 := ⟨m - 1, by omega⟩
                    obtain ⟨sb, so, ⟨rn, rb, ro⟩, rfl, hrk2, hcl0⟩ := HSC.out.at (show p < sn by omega)
                    have hcl := fun j v hv => (HB0.out.cell (p := ⟨sb, so + p * 3 + j, none⟩) (block_lt_of_cell (hcl0 j v hv))).trans (hcl0 j v hv)
                    have r0 := hcl 0 _ rfl
                    have r1 := hcl 1 _ rfl
                    have r2 := hcl 2 _ rfl
                    simp only [Nat.add_zero] at r0
                    have HDR := Lib.hid (show kf (sc.drop p) nd.nm.toList = if rn.toList == nd.nm.toList then (rb, ro) else kf (sc.drop (p + 1)) nd.nm.toList by rw [drop_cons hrk2, kf_cons])
                    have hpI : (((p + 1 : Nat) : Int) - 1) = (p : Int) := by omega
                    have hp0 : (0 : Int) ≤ (p : Int) := by omega
                    have hpn : (p : Int) < (sn : Int) := by omega
                    rw [hpI]
                    clear hcl hcl0 hrk2 hm0
                    generalize kf (sc.drop (p + 1)) nd.nm.toList = q at *
                    obtain ⟨qb, qo⟩ := q
                    cases e1 : (rn.toList == nd.nm.toList)
                    · have HE := Lib.hid (show kf (sc.drop p) nd.nm.toList = (qb, qo) by rw [HDR.out, e1]; rfl)
                      go_wp2
                      go_region
                      go_wp2
                      go_roundw
                      case rel => exact ⟨p, by omega, by go_num, by rw [HE.out]; exact HGM.out, HBM.out.drew⟩
                      case measure => simp [intOf] <;> omega
                    · have HE := Lib.hid (show kf (sc.drop p) nd.nm.toList = (rb, ro) by rw [HDR.out, e1]; rfl)
                      go_wp2
                      go_region
                      go_wp2
                      go_roundw
                      case rel => exact ⟨p, by omega, by go_num, by rw [HE.out]; exact set2 wr.drew gk _ _ _ _ 72 HGM.out, below_set2 HBM.out.drew gk (Nat.le_refl _) _ _⟩
                      case measure => simp [intOf] <;> omega
            · obtain ⟨wk, rfl⟩ : ∃ wk : World, wk = wr := ⟨_, rfl⟩
              have g5 := heap_alloc_new wk (.cells #[.int .i64 0, .bool false] 72)
              have b5 : Below wk.heap.size wk (wk.alloc (.cells #[.int .i64 0, .bool false] 72)) := (Below.refl _ _).alloc (Nat.le_refl _) _
              have HB50 := Lib.hid b5
              have HG50 := Lib.hid g5
              have HBk := Lib.hid (show Below w.heap.size w wk by have := HBx.out; rwa [HBB.out] at this)
              have HMK := Lib.hid m6
              clear b5 g5
              go_wp2_with fail
              clear m0 m6 HMK
              generalize wk.alloc (.cells #[.int .i64 0, .bool false] 72) = w5 at *
              obtain ⟨gk, hgk⟩ : ∃ g, g = wk.heap.size := ⟨_, rfl⟩
              have HGK := Lib.hid hgk
              rw [← hgk] at HG50 ⊢
              clear hgk
              go_loopw [13] (fun j wy => ∃ m : Nat, m ≤ sn ∧ j = .int .i64 ((m : Int) - 1) ∧ wy.heap[gk]? = some (.cells #[.int .i64 (kf (sc.drop m) nd.nm.toList).1, .bool (kf (sc.drop m) nd.nm.toList).2] 72) ∧ Below gk wk wy) (fun j _ => (intOf j + 1).toNat)
              case atStart => exact ⟨sn, Nat.le_refl _, by go_num, by rw [List.drop_of_length_le (by omega)]; exact HG50.out, by rw [HGK.out]; exact HB50.out⟩
              case round =>
                obtain ⟨m, hm, rfl, hgm, hbm⟩ := hrel
                have zc0 : wr.cell? ⟨gk, 0, none⟩ = some (.int .i64 (kf (sc.drop m) nd.nm.toList).1) := cell_of_row wr _ 0 _ _ _ hgm
                have zc1 : wr.cell? ⟨gk, 1, none⟩ = some (.bool (kf (sc.drop m) nd.nm.toList).2) := cell_of_row wr _ 1 _ _ _ hgm
                have zf0 : wr.frozen? ⟨gk, 0, none⟩ = false := frozen_of_row wr _ 0 _ _ hgm
                have zf1 : wr.frozen? ⟨gk, 1, none⟩ = false := frozen_of_row wr _ 1 _ _ hgm
                have HGM := Lib.hid hgm
                have HBM := Lib.hid hbm
                have HB0 := Lib.hid (HBk.out.trans (hbm.mono (by have := HGK.out; have := HBk.out.size; omega)))
                have zm := hbm.size
                have hnx := ((HGK.out ▸ hbm : Below wk.heap.size wk wr).block gn (by have := HS2.out; have := HB4.out.size; omega)).trans GX.out
                have m1 := cell_of_row wr _ 1 _ _ _ hnx
                have m0 := cell_of_row wr _ 0 _ _ _ hnx
                simp only [Nd.v, List.getElem?_toArray, List.getElem?_cons_zero, List.getElem?_cons_succ] at m1 m0
                clear hgm hbm hnx
                by_cases hm0 : m = 0
                · subst hm0
                  rw [List.drop_zero] at zc0 zc1
                  have HNK2 := Lib.hid (named_kf sc nd.nm.toList)
                  generalize hq : kf sc nd.nm.toList = q at *
                  obtain ⟨qb, qo⟩ := q
                  have hIneg : ¬ (0 : Int) ≤ ((0 : Nat) : Int) - 1 := by omega
                  have h5 : nd.op = 5 := by simpa using e5
                  have hL : lookK sc ks nd.op nd.nm.toList (nd.ks.map Int.toNat) = if (namedK sc nd.nm.toList).2 then ((namedK sc nd.nm.toList).1, 0) else ((0, false), 34) := by rw [h5]; rfl
                  have HL := Lib.hid hL
                  have HH5 := Lib.hid h5
                  clear hL h5
                  have HOz := Lib.hid (own_below HOx.out (HGK.out ▸ HBM.out : Below wk.heap.size wk wr))
                  have HBz := Lib.hid (show Below B w wr by have := HB0.out; rwa [← HBB.out] at this)
                  have HBS := Lib.hid (show B ≤ wr.heap.size by have := HB0.out.size; have := HBB.out; omega)
                  have HK1 := Lib.hid (show (k + 1) * 16 ≤ 140737488355328 by omega)
                  have HK2 := Lib.hid (show k + 1 ≤ maxLen by simp [maxLen]; omega)
                  have HRZ := Lib.hid (HRK.out.below (HGK.out ▸ HBM.out : Below wk.heap.size wk wr))
                  by_cases c1 : 1 ≤ qb
                  · by_cases c2 : qb ≤ 5
                    · have hN2 : (namedK sc nd.nm.toList) = ((qb, qo), true) := by rw [HNK2.out]; simp [c1, c2]
                      have HN2 := Lib.hid hN2
                      have d1 : ¬ qb < 1 := by omega
                      have d2 : ¬ qb > 5 := by omega
                      clear hN2
                      have HNEW := Lib.hid (show ∀ x ∈ ks ++ [(qb, qo)], x ∈ K11 by
                        intro x hx
                        rcases List.mem_append.1 hx with hx | hx
                        · exact HK11.out x hx
                        · rw [List.mem_singleton.1 hx]
                          have := named_k11 sc nd.nm.toList
                          rw [HN2.out] at this
                          exact this rfl)
                      have HN := Lib.hid (show ofK ns sc = ofF sc (k + 1) (ks ++ [(qb, qo)]) (ns.drop (k + 1)) by rw [HNM.out, HL.out, HN2.out]; rfl)
                      go_wp2_with (at_builtin; go_loud (refine L_appendN rfl _ _ _ rfl sl60 B (.slice la k lc) k _ rfl (own_below HOz.out ((Below.refl _ _).alloc (Nat.le_refl _) (.cells #[.int .i64 qb, .bool qo] 72))) _ 1 1 (Kd (qb, qo)) rfl rfl (new72 wr (qb, qo)) (by simp [Kd, Value.oneCell']) HK1.out HK2.out (by have := HBS.out; simp; omega) (fun a6 c6 w6 ho6 hg6 hat6 => ?_)))
                      have HB6 := Lib.hid ((HBz.out.alloc HBS.out _).grown hg6 (by have := HBS.out; simp; omega) (fun q hq => by have := (HOz.out.lt q hq).1; omega))
                      have HO6 := Lib.hid (show w6.ownsRow B 72 2 (.slice a6 (k + 1) c6) (k + 1) ((ks ++ [(qb, qo)]).flatMap Kd) by rw [List.flatMap_append]; simpa using ho6)
                      clear ho6 hg6 hat6
                      go_roundw
                      case rel => exact ⟨k + 1, by omega, by go_num, ⟨a6, c6, rfl⟩, ks ++ [(qb, qo)], HO6.out, by have := HKL.out; simp; omega, HNEW.out, HB6.out, HN.out⟩
                      case measure => simp [intOf]; omega
                    · have HN := Lib.hid (show ofK ns sc = ([], k, 34) by rw [HNM.out, HL.out, HNK2.out]; simp [c2])
                      have d1 : ¬ qb < 1 := by omega
                      have d2 : qb > 5 := by omega
                      go_wp2
                      go_ret3
                      exact ⟨⟨none, 0, by rw [HN.out]; rfl, by rw [HN.out]; exact World.ownsRow_nil _ _ _ _⟩, HB0.out⟩
                  · have HN := Lib.hid (show ofK ns sc = ([], k, 34) by rw [HNM.out, HL.out, HNK2.out]; simp [c1])
                    have d1 : qb < 1 := by omega
                    go_wp2
                    go_ret3
                    exact ⟨⟨none, 0, by rw [HN.out]; rfl, by rw [HN.out]; exact World.ownsRow_nil _ _ _ _⟩, HB0.out⟩
                · obtain ⟨p, rfl⟩ : ∃ p, m = p + 1 := ⟨m - 1, by omega⟩
                  obtain ⟨sb, so, ⟨rn, rb, ro⟩, rfl, hrk2, hcl0⟩ := HSC.out.at (show p < sn by omega)
                  have hcl := fun j v hv => (HB0.out.cell (p := ⟨sb, so + p * 3 + j, none⟩) (block_lt_of_cell (hcl0 j v hv))).trans (hcl0 j v hv)
                  have r0 := hcl 0 _ rfl
                  have r1 := hcl 1 _ rfl
                  have r2 := hcl 2 _ rfl
                  simp only [Nat.add_zero] at r0
                  have HDR := Lib.hid (show kf (sc.drop p) nd.nm.toList = if rn.toList == nd.nm.toList then (rb, ro) else kf (sc.drop (p + 1)) nd.nm.toList by rw [drop_cons hrk2, kf_cons])
                  have hpI : (((p + 1 : Nat) : Int) - 1) = (p : Int) := by omega
                  have hp0 : (0 : Int) ≤ (p : Int) := by omega
                  have hpn : (p : Int) < (sn : Int) := by omega
                  rw [hpI]
                  clear hcl hcl0 hrk2 hm0
                  generalize kf (sc.drop (p + 1)) nd.nm.toList = q at *
                  obtain ⟨qb, qo⟩ := q
                  cases e1 : (rn.toList == nd.nm.toList)
                  · have HE := Lib.hid (show kf (sc.drop p) nd.nm.toList = (qb, qo) by rw [HDR.out, e1]; rfl)
                    go_wp2
                    go_region
                    go_wp2
                    go_roundw
                    case rel => exact ⟨p, by omega, by go_num, by rw [HE.out]; exact HGM.out, HBM.out.drew⟩
                    case measure => simp [intOf] <;> omega
                  · have HE := Lib.hid (show kf (sc.drop p) nd.nm.toList = (rb, ro) by rw [HDR.out, e1]; rfl)
                    go_wp2
                    go_region
                    go_wp2
                    go_roundw
                    case rel => exact ⟨p, by omega, by go_num, by rw [HE.out]; exact set2 wr.drew gk _ _ _ _ 72 HGM.out, below_set2 HBM.out.drew gk (Nat.le_refl _) _ _⟩
                    case measure => simp [intOf] <;> omega
      · have hltI : ¬ (k : Int) < (n : Int) := by omega
        have HN := Lib.hid (show ofK ns sc = (ks, 0, 0) by rw [HF.out, List.drop_of_length_le (by omega)]; rfl)
        go_wp2
        go_ret3
        exact ⟨⟨la, lc, by simp only [HN.out, HKL.out]; rfl, by rw [HN.out, HKL.out, ← HBB.out]; exact HO.out⟩, by have := HB.out; rwa [HBB.out] at this⟩
end Go.Proofs.YtakaoacialnjaaaDoor
