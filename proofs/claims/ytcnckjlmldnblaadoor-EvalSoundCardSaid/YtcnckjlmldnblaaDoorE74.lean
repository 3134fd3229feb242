import Derived.Test.YtcnckjlmldnblaaDoorE73
import Derived.Deep.RegionLaw
import Derived.Deep.AppendLies
import Derived.Maps.AppendAt
namespace Go.Proofs.YtcnckjlmldnblaaDoor
open Go Go.RowKit
set_option linter.unusedVariables false
set_option linter.unusedSimpArgs false
open Go.ChangeShapes Go.WideShapes
theorem sl39 : Sl Tryd.prog 93 4 (.bool false) 1 1 := ⟨by kernel_rfl, by kernel_rfl, rfl, by decide⟩
set_option maxRecDepth 100000 in
set_option maxHeartbeats 4000000 in
theorem trees_any (w : World) (a : Option Addr) (n c : Nat) (ns : List Nd) (hr : RS 7 Nd.cs w a n c ns) (hok : ∀ nd ∈ ns, nd.ok w) (ht : ResTab w 1) (h2 : 1 < w.heap.size) :
    Calls Tryd.prog 46 #[.slice a n c] w fun e w' => e = .returned (.bool (treesB ns)) ∧ Below w.heap.size w w' := by
  have hlen := hr.1
  have hn48 := hr.2.2.1
  have HR := Lib.hid hr
  have HOK := Lib.hid hok
  have HT := Lib.hid ht
  clear hr hok ht
  obtain ⟨B, hB⟩ : ∃ B, B = w.heap.size := ⟨_, rfl⟩
  have HBB := Lib.hid hB
  go_enter Tryd.func46, Tryd.ntmps46
  go_wp2_with (at_make; refine L_make rfl _ _ _ rfl sl39 w.heap.size .i64 .i64 _ n rfl rfl rfl (by omega) (by simp [maxLen]; omega) (Nat.le_refl _) (fun w1 ho1 hg1 => ?_))
  rw [madeB, ← hB] at ho1
  have hb1 : Below B w w1 := by have := (Below.refl w.heap.size w).grown hg1 (Nat.le_refl _) (by intro k hk; cases hk); rwa [← hB] at this
  rw [← hB]
  have HO1 := Lib.hid ho1
  have HB1 := Lib.hid hb1
  have H2 := Lib.hid h2
  clear hg1 hB ho1 hb1 h2
  go_loopw [13] (fun i wr => ∃ k : Nat, k ≤ n ∧ i = .int .i64 k ∧ ∃ s : List Bool, wr.ownsRow B 4 1 (.slice (some ⟨B, 0, none⟩) n n) n (s.map Value.bool) ∧ Below B w wr ∧ treesB ns = treesF k s (ns.drop k)) (fun i _ => n - (intOf i).toNat)
  case atStart => exact ⟨0, by omega, rfl, _, HO1.out, HB1.out, by rw [List.drop_zero, ← hlen]; rfl⟩
  case round =>
    obtain ⟨k, hk, rfl, s, ho, hb, hs⟩ := hrel
    have HO := Lib.hid ho
    have HB := Lib.hid hb
    have HS := Lib.hid hs
    have zr := hb.size
    have hsl : s.length = n := by have := ho.1; simpa using this
    have HSL := Lib.hid hsl
    clear ho hb hs hsl
    by_cases hlt : k < n
    · obtain ⟨nb, no, nd, rfl, hnd, hcl0⟩ := HR.out.at hlt
      have hcl := fun j v hv => (HB.out.cell (p := ⟨nb, no + k * 7 + j, none⟩) (by have := block_lt_of_cell (hcl0 j v hv); rw [HBB.out]; exact this)).trans (hcl0 j v hv)
      have n0 := hcl 0 _ rfl
      have n1 := hcl 1 _ rfl
      have n2 := hcl 2 _ rfl
      have n3 := hcl 3 _ rfl
      have n4 := hcl 4 _ rfl
      have n5 := hcl 5 _ rfl
      have n6 := hcl 6 _ rfl
      simp only [Nat.add_zero] at n0
      have hltI : (k : Int) < (n : Int) := by omega
      have HND := Lib.hid (drop_cons hnd)
      have hnok := HOK.out nd (List.mem_of_getElem? hnd)
      have hnm := hnok.2.1
      have HVN := Lib.hid hnok.2.2
      have HKR := Lib.hid hnok.1
      have hwB := Lib.hid (HBB.out ▸ HB.out : Below w.heap.size w wr)
      have b2 : Below wr.heap.size wr (wr.alloc (.cells nd.v 61)) := (Below.refl _ _).alloc (Nat.le_refl _) _
      have g2 := heap_alloc_new wr (.cells nd.v 61)
      have HRT := Lib.hid (HT.out.below (hwB.out.trans (b2.mono hwB.out.size)) H2.out H2.out)
      have h2r : 1 < wr.heap.size := by have := H2.out; have := HBB.out; omega
      clear hcl hcl0 hnd hnok
      go_wp2_with fail
      rw [show (#[.int .i64 nd.op, .string nd.nm, .int .i64 nd.vk, .int .i64 nd.vn, .string nd.vt, .slice nd.sa nd.sl nd.sc, .slice nd.ka nd.kl nd.kc] : Array Value) = nd.v from rfl]
      have hs2 : wr.heap.size < (wr.alloc (.cells nd.v 61)).heap.size := by simp
      have HB2 := Lib.hid (hwB.out.trans (b2.mono hwB.out.size))
      have HO2 := Lib.hid (own_below HO.out b2)
      have hz2 : 1 < (wr.alloc (.cells nd.v 61)).heap.size := by simp; omega
      clear b2
      generalize wr.alloc (.cells nd.v 61) = w2 at *
      with_reducible refine (right_any w2 nd.op nd.nm nd.vk nd.vn nd.vt nd.sa nd.sl nd.sc nd.ka nd.kl nd.kc hnm HRT.out HVN.out hz2).mono ?_
      rintro e w3 ⟨rfl, hb3⟩
      have hs3 := hb3.size
      have m6 := cell_of_row w3 _ 6 _ _ _ ((hb3.block wr.heap.size hs2).trans g2)
      simp only [Nd.v, List.getElem?_toArray, List.getElem?_cons_zero, List.getElem?_cons_succ] at m6
      have HB3 := Lib.hid (HB2.out.trans (hb3.mono HB2.out.size))
      have HO3 := Lib.hid (own_below HO2.out hb3)
      have hsr : wr.heap.size < w3.heap.size := by omega
      have hBr : B < wr.heap.size := (HO.out.lt B rfl).2
      clear n0 n1 n2 n3 n4 n5 n6 g2 hb3 hs2 hs3 hz2
      rw [show rightB nd.op nd.nm.data.toList nd.vk nd.vn nd.vt.data.toList nd.sl nd.kl = nd.right from rfl]
      cases hri : nd.right
      · have HE := Lib.hid (show treesB ns = false by rw [HS.out, HND.out]; simp [treesF, hri])
        clear hri
        go_wp2
        go_ret
        exact ⟨ret_bool HE.out.symm, HB3.out⟩
      · have HE := Lib.hid (show treesB ns = (match kidsF k s nd.ks with | none => false | some s' => treesF (k + 1) s' (ns.drop (k + 1))) by rw [HS.out, HND.out]; simp only [treesF, hri, if_true]; cases kidsF k s nd.ks <;> rfl)
        clear hri
        have hkl := HKR.out.1
        have hkl48 := HKR.out.2.2.1
        go_wp2_with fail
        obtain ⟨wo, rfl⟩ : ∃ wo : World, wo = wr := ⟨_, rfl⟩
        generalize nd.ka = ka at *
        go_loopw [24] (fun j wx => ∃ m : Nat, m ≤ nd.kl ∧ j = .int .i64 m ∧ ∃ t : List Bool, wx.ownsRow B 4 1 (.slice (some ⟨B, 0, none⟩) n n) n (t.map Value.bool) ∧ Below w.heap.size w wx ∧ wo.heap.size < wx.heap.size ∧ kidsF k s nd.ks = kidsF k t (nd.ks.drop m)) (fun j _ => nd.kl - (intOf j).toNat)
        case atStart => exact ⟨0, by omega, rfl, s, HO3.out, HB3.out, hsr, rfl⟩
        case round =>
          obtain ⟨m, hm, rfl, t, ho4, hb4, hs4, hf4⟩ := hrel
          have HO4 := Lib.hid ho4
          have HB4 := Lib.hid hb4
          have HF4 := Lib.hid hf4
          have htl : t.length = n := by have := ho4.1; simpa using this
          have HTL := Lib.hid htl
          clear ho4 hb4 hf4 htl
          by_cases hmt : m < nd.kl
          · obtain ⟨kb, ko, x, rfl, hx, hxc⟩ := HKR.out.at hmt
            have xc0 := hxc 0 _ rfl
            have xc := (HB4.out.cell (p := ⟨kb, ko + m * 1 + 0, none⟩) (block_lt_of_cell xc0)).trans xc0
            simp only [Nat.add_zero, Nat.mul_one] at xc
            have HX := Lib.hid (drop_cons hx)
            have hmI : (m : Int) < (nd.kl : Int) := by omega
            clear hx hxc xc0
            by_cases hneg : x < 0
            · have HN := Lib.hid (show treesB ns = false by rw [HE.out, HF4.out, HX.out]; simp [kidsF, hneg])
              go_wp2
              go_ret
              exact ⟨ret_bool HN.out.symm, HB4.out⟩
            by_cases hge : (k : Int) ≤ x
            · have HN := Lib.hid (show treesB ns = false by rw [HE.out, HF4.out, HX.out]; simp [kidsF, hge])
              go_wp2
              go_ret
              exact ⟨ret_bool HN.out.symm, HB4.out⟩
            obtain ⟨xn, rfl⟩ : ∃ xn : Nat, x = (xn : Int) := ⟨x.toNat, by omega⟩
            have hxn : xn < n := by omega
            have hxI : (xn : Int) < (n : Int) := by omega
            have hge' : ¬ k ≤ xn := by omega
            have hc := HO4.out.cellAt xn (by omega)
            have hfz := HO4.out.frozenAt xn
            obtain ⟨bv, hbv⟩ : ∃ bv, t[xn]? = some bv := ⟨_, List.getElem?_eq_getElem (by have := HTL.out; omega)⟩
            rw [List.getElem?_map, hbv] at hc
            simp only [Option.map_some] at hc
            have hgd : t.getD xn false = bv := by rw [List.getD_eq_getElem?_getD, hbv]; rfl
            cases bv
            · have HN := Lib.hid (show kidsF k s nd.ks = kidsF k (t.set xn true) (nd.ks.drop (m + 1)) by rw [HF4.out, HX.out]; simp only [kidsF, Int.toNat_natCast, hgd]; rw [if_neg (by omega), if_neg (by decide)])
              have ho5 := (HO4.out.stored xn (.bool true)).1
              rw [← List.map_set] at ho5
              have HO5 := Lib.hid ho5
              have HB5 := Lib.hid (HB4.out.setCell (p := ⟨B, xn, none⟩) (by show w.heap.size ≤ B; have := HBB.out; omega) (.bool true))
              clear hbv hgd ho5
              go_wp2
              go_roundw
              case rel => exact ⟨m + 1, by omega, by go_num, _, HO5.out, HB5.out, by simpa using hs4, HN.out⟩
              case measure => simp [intOf]; omega
            · have HN := Lib.hid (show treesB ns = false by rw [HE.out, HF4.out, HX.out]; simp only [kidsF, Int.toNat_natCast, hgd]; rw [if_neg (by omega), if_pos trivial])
              clear hbv hgd
              go_wp2
              go_ret
              exact ⟨ret_bool HN.out.symm, HB4.out⟩
          · have hmI : ¬ (m : Int) < (nd.kl : Int) := by omega
            have HN := Lib.hid (show treesB ns = treesF (k + 1) t (ns.drop (k + 1)) by rw [HE.out, HF4.out, List.drop_of_length_le (show nd.ks.length ≤ m by omega)]; rfl)
            have HBo := Lib.hid (show Below B w wr by rw [HBB.out]; exact HB4.out)
            go_wp2
            go_roundw
            case rel => exact ⟨k + 1, by omega, by go_num, t, HO4.out, HBo.out, HN.out⟩
            case measure => simp [intOf]; omega
    · have hltI : ¬ (k : Int) < (n : Int) := by omega
      have HE := Lib.hid (show treesB ns = true by rw [HS.out, List.drop_of_length_le (by omega)]; rfl)
      go_wp2
      go_ret
      exact ⟨ret_bool HE.out.symm, by have := HB.out; rwa [HBB.out] at this⟩
theorem Kd_len (k : Int × Bool) : (Kd k).length = 2 := rfl
theorem sl22 : Sl Tryd.prog 70 74 (.agg #[.int .i64 0, .bool false]) 2 16 := ⟨by kernel_rfl, by kernel_rfl, rfl, by decide⟩
def OfOut (e : Ending) (w w' : World) (r : List (Int × Bool) × Nat × Int) : Prop :=
  ∃ a c, e = .returned (.tuple #[.slice a r.1.length c, .int .i64 (r.2.1 : Int), .int .i64 r.2.2]) ∧ w'.ownsRow w.heap.size 74 2 (.slice a r.1.length c) r.1.length (r.1.flatMap Kd)
theorem new_cells (w : World) (k : Int × Bool) (t : TypeId) (j : Nat) (u : Value) (h : (Kd k)[j]? = some u) : (w.alloc (.cells #[.int .i64 k.1, .bool k.2] t)).drew.cell? ((⟨w.heap.size, 0, none⟩ : Addr).add j) = some u := by
  rw [Addr.add_lit]
  show (w.alloc (.cells #[.int .i64 k.1, .bool k.2] t)).cell? _ = _
  rw [cell_of_row _ _ _ _ _ _ (heap_alloc_new w _), Nat.zero_add]
  simpa [Kd] using h
theorem grown_set (w : World) (g o : Nat) (v : Value) : w.grownBy (w.setCell ⟨g, o, none⟩ v) (some g) := ⟨rfl, rfl, rfl, by simp, fun k _ hk => heap_setCell_other w ⟨g, o, none⟩ k v (fun e => hk (by rw [e]))⟩
/-- The looker's memory between two rounds. -/
def LkI (w wr : World) (B gl gp : Nat) (sa : Option Addr) (sn sc' : Nat) (ks : List (Int × Bool)) (k : Nat) : Prop :=
  ∃ ka kc, wr.heap[gl]? = some (.cells #[.slice sa sn sc', .slice (some ⟨gp, 0, none⟩) 22 22, .slice ka k kc] 100 (0, 0)) ∧ wr.heap[gp]? = some (.cells pairV 110 (0, 0)) ∧
    wr.ownsRow B 74 2 (.slice ka k kc) k (ks.flatMap Kd) ∧ ks.length = k ∧ Below B w wr
theorem row_pairs (w : World) (g : Nat) (h : w.heap[g]? = some (.cells pairV 110 (0, 0))) : RS 4 Row.cs w (some ⟨g, 0, none⟩) 22 22 pairT := by
  refine ⟨rfl, Nat.le_refl _, by omega, fun i x hx => ⟨g, 0, rfl, fun j v hv => ?_⟩⟩
  rw [cell_of_row w g _ _ _ _ h, Nat.zero_add]
  have := flat_get Row.cs 4 (fun _ => rfl) pairT i x hx j v hv
  simpa [pairV] using this
theorem LkI.lk {w wr : World} {B gl gp : Nat} {sa : Option Addr} {sn sc' : Nat} {ks : List (Int × Bool)} {k : Nat} (h : LkI w wr B gl gp sa sn sc' ks k) (hB : B = w.heap.size) {sc : List Nm} (hs : RS 3 Nm.cs w sa sn sc' sc) (hk : k ≤ 281474976710656) : Nonempty (LK wr gl sc ks) := by
  obtain ⟨ka, kc, h1, h2, h3, rfl, h5⟩ := h
  subst hB
  exact ⟨⟨sa, sn, sc', _, 22, ka, kc, cell_of_row wr gl 0 _ _ _ h1, cell_of_row wr gl 1 _ _ _ h1, cell_of_row wr gl 2 _ _ _ h1, hs.below h5, row_pairs wr gp h2, RS.of_owns h3 (by decide) Kd_len hk⟩⟩
set_option maxRecDepth 100000 in
set_option maxHeartbeats 4000000 in
theorem of_any (w : World) (a : Option Addr) (n c : Nat) (ns : List Nd) (hr : RS 7 Nd.cs w a n c ns) (hok : ∀ nd ∈ ns, nd.ok w) (sa : Option Addr) (sn sc' : Nat) (sc : List Nm) (hsc : RS 3 Nm.cs w sa sn sc' sc) (ht : NoTab w) (hrt : ResTab w 1) (h2 : 1 < w.heap.size)
    (hnb : n ≤ 8796093022207) :
    Calls Tryd.prog 31 #[.slice a n c, .slice sa sn sc'] w fun e w' => OfOut e w w' (ofK ns sc) ∧ Below w.heap.size w w' := by
  have hlen := hr.1
  have hn48 := hr.2.2.1
  have HR := Lib.hid hr
  have HOK := Lib.hid hok
  have HSC := Lib.hid hsc
  have HT := Lib.hid ht
  have HRT := Lib.hid hrt
  have H2 := Lib.hid h2
  obtain ⟨B, hB⟩ : ∃ B, B = w.heap.size := ⟨_, rfl⟩
  have HBB := Lib.hid hB
  go_enter Tryd.func31, Tryd.ntmps31
  go_wp2_with fail
  with_reducible refine (trees_any w a n c ns hr hok hrt h2).mono ?_
  rintro e w1 ⟨rfl, hb1⟩
  clear hr hok hsc ht hrt h2
  cases hT : treesB ns
  · have HK := Lib.hid (show ofK ns sc = ([], 0, 8) by simp [ofK, hT])
    clear hT hB
    go_wp2
    go_ret3
    exact ⟨⟨none, 0, by rw [HK.out]; rfl, by rw [HK.out]; exact World.ownsRow_nil _ _ _ _⟩, hb1⟩
  · have HTB := Lib.hid hT
    have HK := Lib.hid (show ofK ns sc = ofF sc 0 [] ns by simp [ofK, hT])
    clear hT
    go_wp2_with fail
    with_reducible refine (pairs_any w1).mono ?_
    rintro e _ ⟨rfl, rfl⟩
    go_wp2_with fail
    have g1 := heap_alloc_new w1 (.cells pairV 110)
    have g2 := heap_alloc_new (w1.alloc (.cells pairV 110)) (.cells #[.slice sa sn sc', .slice (some ⟨w1.heap.size, 0, none⟩) 22 22, .slice none 0 0] 100)
    have g1' := (Below.heap_alloc (w1.alloc (.cells pairV 110)) (.cells #[.slice sa sn sc', .slice (some ⟨w1.heap.size, 0, none⟩) 22 22, .slice none 0 0] 100) w1.heap.size (by simp)).trans g1
    have b3 : Below w1.heap.size w1 ((w1.alloc (.cells pairV 110)).alloc (.cells #[.slice sa sn sc', .slice (some ⟨w1.heap.size, 0, none⟩) 22 22, .slice none 0 0] 100)) := ((Below.refl _ _).alloc (Nat.le_refl _) _).alloc (by simp) _
    have HB3 := Lib.hid (hb1.trans (b3.mono hb1.size))
    have hz := hb1.size
    clear g1 b3
    simp only [World.size_alloc] at g2
    generalize ((w1.alloc (.cells pairV 110)).alloc (.cells #[.slice sa sn sc', .slice (some ⟨w1.heap.size, 0, none⟩) 22 22, .slice none 0 0] 100)) = w3 at *
    obtain ⟨gp, hgp⟩ : ∃ g, g = w1.heap.size := ⟨_, rfl⟩
    obtain ⟨gl, hgl⟩ : ∃ g, g = w1.heap.size + 1 := ⟨_, rfl⟩
    rw [← hgl] at g2 ⊢
    rw [← hgp] at g1' g2
    have hI0 : LkI w w3 B gl gp sa sn sc' [] 0 := ⟨none, 0, g2, g1', World.ownsRow_nil _ _ _ _, rfl, by rw [HBB.out]; exact HB3.out⟩
    have HI0 := Lib.hid hI0
    have HG := Lib.hid (show gl = gp + 1 ∧ B ≤ gp by omega)
    clear hI0 g1' g2 hb1 hgp hgl hz
    go_loopw [21] (fun i wr => ∃ k : Nat, k ≤ n ∧ i = .int .i64 k ∧ ∃ ks, LkI w wr B gl gp sa sn sc' ks k ∧ ofK ns sc = ofF sc k ks (ns.drop k)) (fun i _ => n - (intOf i).toNat)
    case atStart => exact ⟨0, by omega, rfl, [], HI0.out, HK.out⟩
    case round =>
      obtain ⟨k, hk, rfl, ks, hI, hF⟩ := hrel
      have HI := Lib.hid hI
      have HF := Lib.hid hF
      obtain ⟨ka, kc, G1, G2, HO, hkl, hb⟩ := hI
      have HO := Lib.hid HO
      have HB := Lib.hid hb
      have HBw := Lib.hid (show Below w.heap.size w wr by rw [← HBB.out]; exact hb)
      have zr := hb.size
      have HKL := Lib.hid hkl
      have lgl := (Array.getElem?_eq_some_iff.1 G1).1
      have lgp := (Array.getElem?_eq_some_iff.1 G2).1
      have G1 := Lib.hid G1
      have G2 := Lib.hid G2
      clear hF hb hkl
      by_cases hlt : k < n
      · obtain ⟨nb, no, nd, rfl, hnd, hcl0⟩ := HR.out.at hlt
        have hcl := fun j v hv => (HBw.out.cell (p := ⟨nb, no + k * 7 + j, none⟩) (block_lt_of_cell (hcl0 j v hv))).trans (hcl0 j v hv)
        have n0 := hcl 0 _ rfl
        have n1 := hcl 1 _ rfl
        have n2 := hcl 2 _ rfl
        have n3 := hcl 3 _ rfl
        have n4 := hcl 4 _ rfl
        have n5 := hcl 5 _ rfl
        have n6 := hcl 6 _ rfl
        simp only [Nat.add_zero] at n0
        have hltI : (k : Int) < (n : Int) := by omega
        have HND := Lib.hid (drop_cons hnd)
        have HNK := Lib.hid (HOK.out nd (List.mem_of_getElem? hnd))
        have HTO := Lib.hid (treesB_ok HTB.out k nd hnd)
        obtain ⟨K⟩ := HI.out.lk HBB.out HSC.out (by omega)
        have b2 : Below wr.heap.size wr (wr.alloc (.cells nd.v 61)) := (Below.refl _ _).alloc (Nat.le_refl _) _
        have HB2 := Lib.hid (HBw.out.trans (b2.mono HBw.out.size))
        have g2 := heap_alloc_new wr (.cells nd.v 61)
        have G12 := Lib.hid (((b2.block gl lgl)).trans G1.out)
        have G22 := Lib.hid (((b2.block gp lgp)).trans G2.out)
        have HO2 := Lib.hid (own_below HO.out b2)
        obtain ⟨K2⟩ := K.below b2
        have hs2 : wr.heap.size < (wr.alloc (.cells nd.v 61)).heap.size := by simp
        clear hcl hcl0 hnd K b2
        go_wp2_with fail
        rw [show (#[.int .i64 nd.op, .string nd.nm, .int .i64 nd.vk, .int .i64 nd.vn, .string nd.vt, .slice nd.sa nd.sl nd.sc, .slice nd.ka nd.kl nd.kc] : Array Value) = nd.v from rfl]
        generalize wr.alloc (.cells nd.v 61) = w2 at *
        with_reducible refine (look_any w2 gl sc ks K2 (HT.out.below HB2.out (by have := H2.out; omega)) (by omega) nd (HNK.out.below HB2.out) HTO.out.1 (by rw [HKL.out]; exact HTO.out.2)).mono ?_
        rintro e w4 ⟨he, hb4⟩
        generalize hL : lookK sc ks nd.op nd.nm.toList (nd.ks.map Int.toNat) = L at he
        obtain ⟨⟨rb, ro⟩, re⟩ := L
        have HL := Lib.hid hL
        unfold LookOut at he
        subst he
        have hs4 := hb4.size
        have HB4 := Lib.hid (HB2.out.trans (hb4.mono HB2.out.size))
        have G14 := Lib.hid ((hb4.block gl (by omega)).trans G12.out)
        have G24 := Lib.hid ((hb4.block gp (by omega)).trans G22.out)
        have HO4 := Lib.hid (own_below HO2.out hb4)
        clear hL n0 n1 n2 n3 n4 n5 n6 g2 K2 hb4
        by_cases hre : re = 0
        · subst hre
          have HN := Lib.hid (show ofK ns sc = ofF sc (k + 1) (ks ++ [(rb, ro)]) (ns.drop (k + 1)) by rw [HF.out, HND.out]; simp only [ofF, HL.out, if_true])
          go_wp2_with fail
          have b5 : Below w4.heap.size w4 (w4.alloc (.cells #[.int .i64 rb, .bool ro] 74)) := (Below.refl _ _).alloc (Nat.le_refl _) _
          have X5 := heap_alloc_new w4 (.cells #[.int .i64 rb, .bool ro] 74)
          have G15 := (b5.block gl (by omega)).trans G14.out
          have G25 := (b5.block gp (by omega)).trans G24.out
          have HO5 := Lib.hid (own_below HO4.out b5)
          have HB5 := Lib.hid (HB4.out.trans (b5.mono HB4.out.size))
          have z5 : (w4.alloc (.cells #[.int .i64 rb, .bool ro] 74)).heap.size = w4.heap.size + 1 := by simp
          clear b5
          generalize w4.alloc (.cells #[.int .i64 rb, .bool ro] 74) = w5 at *
          have l5 : gl < w5.heap.size := (Array.getElem?_eq_some_iff.1 G15).1
          have c2 := cell_of_row w5 gl 2 _ _ _ G15
          have x0 := cell_of_row w5 w4.heap.size 0 _ _ _ X5
          have x1 := cell_of_row w5 w4.heap.size 1 _ _ _ X5
          simp only [List.getElem?_toArray, List.getElem?_cons_zero, List.getElem?_cons_succ] at c2 x0 x1
          have hne1 := own_ne HO5.out G15 (by decide)
          have hne2 := own_ne HO5.out G25 (by decide)
          have HG15 := Lib.hid G15
          have HG25 := Lib.hid G25
          have hB5 : B ≤ w5.heap.size := by omega
          have hk1 : (k + 1) * 16 ≤ 140737488355328 := by omega
          have HK1 := Lib.hid hk1
          have HK2 := Lib.hid (show k + 1 ≤ maxLen by simp [maxLen]; omega)
          have Z5 := Lib.hid z5
          have l4 : w4.heap.size < w5.heap.size := by omega
          clear G15 G25 X5 hk1 z5
          go_region_law (first
            | (refine S_appendN rfl (.tmp 40) (.tmp 42) 70 (by rfl) sl22 B (.slice ka k kc) k (ks.flatMap Kd) (by rfl) (own_below HO5.out (((Below.refl _ _).drew).alloc (Nat.le_refl _) _)) ⟨w5.heap.size, 0, none⟩ 1 1 (Kd (rb, ro)) (by rfl) rfl (new_cells w5 (rb, ro) 74) (by simp [Kd, Value.oneCell']) HK1.out HK2.out (by simp; omega) (fun a6 c6 w6 ho6 hg6 hat6 => ?_)
               have hh6 := (hg6.block gl (by simp; omega) hne1.symm).trans ((Below.heap_alloc w5.drew _ gl (by simpa using l5)).trans HG15.out)
               have c62 := cell_of_row w6 gl 2 _ _ _ hh6
               have f62 := frozen_of_row w6 gl 2 _ _ hh6))
          all_goals
            have hh7 := (hg6.block gp (by simp; omega) hne2.symm).trans ((Below.heap_alloc w5.drew _ gp (show gp < w5.heap.size from (Array.getElem?_eq_some_iff.1 HG25.out).1)).trans HG25.out)
            have hgn := own_ne ho6 hh6 (by decide)
            have hb6 : Below w.heap.size w w6 := (HB5.out.drew.alloc (show w.heap.size ≤ w5.heap.size by omega) _).grown hg6 (by simp; omega) (fun q hq => by have := (HO5.out.lt q hq).1; omega)
            have HI7 := Lib.hid (show LkI w (w6.setCell ⟨gl, 2, none⟩ (.slice a6 (k + 1) c6)) B gl gp sa sn sc' (ks ++ [(rb, ro)]) (k + 1) from
              ⟨a6, c6, heap_setCell_same w6 gl 2 _ _ _ hh6, (heap_setCell_other w6 ⟨gl, 2, none⟩ gp _ (by have := HG.out; show gp ≠ gl; omega)).trans hh7,
                by rw [List.flatMap_append]; have := ho6.kept (grown_set w6 gl 2 (.slice a6 (k + 1) c6)) (.inr hgn); simpa using this, by simp [HKL.out], by rw [HBB.out]; exact hb6.setCell (p := ⟨gl, 2, none⟩) (by have := HG.out; show w.heap.size ≤ gl; omega) _⟩)
            clear hh7 hgn hb6 ho6 hg6 hat6 hh6 c62 f62 c2 x0 x1
            go_wp2
            go_roundw
            case rel => exact ⟨k + 1, by omega, by go_num, _, HI7.out, HN.out⟩
            case measure => simp [intOf]; omega
        · have hre' : (re == 0) = false := by simpa using hre
          have hre2 : (re != 0) = true := by simpa using hre
          have HN := Lib.hid (show ofK ns sc = ([], k, re) by rw [HF.out, HND.out]; simp only [ofF, HL.out, if_neg hre])
          go_wp2
          go_ret3
          exact ⟨⟨none, 0, by rw [HN.out]; rfl, by rw [HN.out]; exact World.ownsRow_nil _ _ _ _⟩, HB4.out.alloc (by omega) _⟩
      · have hltI : ¬ (k : Int) < (n : Int) := by omega
        have HN := Lib.hid (show ofK ns sc = (ks, 0, 0) by rw [HF.out, List.drop_of_length_le (by omega)]; rfl)
        have c2 := cell_of_row wr gl 2 _ _ _ G1.out
        go_wp2
        go_ret3
        exact ⟨⟨ka, kc, by simp only [HN.out, HKL.out]; rfl, by rw [HN.out, HKL.out, ← HBB.out]; exact HO.out⟩, HBw.out⟩
end Go.Proofs.YtcnckjlmldnblaaDoor
