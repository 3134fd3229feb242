import Derived.Test.YtakaoacialnjaaaDoorK25
import Derived.Test.YtakaoacialnjaaaDoorK17
namespace Go.Proofs.YtakaoacialnjaaaDoor
open Go Go.RowKit
set_option linter.unusedVariables false
def cnt (b : Bool) : Value := .int .i64 (if b then 1 else 0)
theorem sl42 : Sl Tryd.prog 42 3 (.int .i64 0) 1 8 := ⟨by kernel_rfl, by kernel_rfl, rfl, by decide⟩
theorem madeC (n : Nat) : (madeCells (Value.int .i64 0).cells (n * 1)).toList = (List.replicate n false).map cnt := by
  rw [show (Value.int .i64 0).cells = #[Value.int .i64 0] from rfl, toList_madeCells_one]; simp [cnt]
set_option maxRecDepth 100000 in
set_option maxHeartbeats 4000000 in
theorem rows_any (w : World) (a : Option Addr) (n c : Nat) (ns : List Nd) (hr : RS 7 Nd.cs w a n c ns) (hok : ∀ nd ∈ ns, nd.ok w) (ht : ResTab w 1) (h2 : 1 < w.heap.size) (hnb : n ≤ 8796093022207) :
    Calls Tryd.prog 39 #[.slice a n c] w fun e w' => e = .returned (.bool (treesB ns)) ∧ Below w.heap.size w w' := by
  have hlen := hr.1
  have hn48 := hr.2.2.1
  have HR := Lib.hid hr
  have HOK := Lib.hid hok
  have HT := Lib.hid ht
  clear hr hok ht
  obtain ⟨B, hB⟩ : ∃ B, B = w.heap.size := ⟨_, rfl⟩
  have HBB := Lib.hid hB
  go_enter Tryd.func39, Tryd.ntmps39
  go_wp2_with (at_make; refine L_make rfl _ _ _ rfl sl42 w.heap.size .i64 .i64 _ n rfl rfl rfl (by omega) (by simp [maxLen]; omega) (Nat.le_refl _) (fun w1 ho1 hg1 => ?_))
  rw [madeC, ← hB] at ho1
  have hb1 : Below B w w1 := by have := (Below.refl w.heap.size w).grown hg1 (Nat.le_refl _) (by intro k hk; cases hk); rwa [← hB] at this
  rw [← hB]
  have HO1 := Lib.hid ho1
  have HB1 := Lib.hid hb1
  have H2 := Lib.hid h2
  clear hg1 hB ho1 hb1 h2
  go_loopw [4] (fun i wr => ∃ k : Nat, k ≤ n ∧ i = .int .i64 k ∧ ∃ s : List Bool, wr.ownsRow B 3 1 (.slice (some ⟨B, 0, none⟩) n n) n (s.map cnt) ∧ Below B w wr ∧ treesB ns = treesF k s (ns.drop k)) (fun i _ => n - (intOf i).toNat)
  case atStart => exact ⟨0, by omega, rfl, _, HO1.out, HB1.out, by rw [List.drop_zero, ← hlen]; rfl⟩
  case round =>
    obtain ⟨k, hk, rfl, s, ho, hb, hs⟩ := hrel
    have HO := Lib.hid ho
    have HB := Lib.hid hb
    have HS := Lib.hid hs
    have zr := hb.size
    have hsl : s.length = n := by have := ho.1; simpa using this
    have HSL := Lib.hid hsl
    clear ho hb hs hsl
    by_cases hlt : k < n
    · obtain ⟨nb, no, nd, rfl, hnd, hcl0⟩ := HR.out.at hlt
      have hcl := fun j v hv => (HB.out.cell (p := ⟨nb, no + k * 7 + j, none⟩) (by have := block_lt_of_cell (hcl0 j v hv); rw [HBB.out]; exact this)).trans (hcl0 j v hv)
      have n0 := hcl 0 _ rfl
      have n1 := hcl 1 _ rfl
      have n2 := hcl 2 _ rfl
      have n3 := hcl 3 _ rfl
      have n4 := hcl 4 _ rfl
      have n5 := hcl 5 _ rfl
      have n6 := hcl 6 _ rfl
      have H6 := Lib.hid (hcl0 6 _ rfl)
      simp only [Nat.add_zero] at n0
      have hltI : (k : Int) < (n : Int) := by omega
      have HND := Lib.hid (drop_cons hnd)
      have hnok := HOK.out nd (List.mem_of_getElem? hnd)
      have hnm := hnok.2.1
      have HKR := Lib.hid hnok.1
      have hwB := Lib.hid (HBB.out ▸ HB.out : Below w.heap.size w wr)
      have HRT := Lib.hid (HT.out.below hwB.out H2.out H2.out)
      have h2r : 1 < wr.heap.size := by have := H2.out; have := HBB.out; omega
      have hBr : B < wr.heap.size ∨ n = 0 := by have := (HO.out.lt B rfl).2; exact .inl this
      clear hcl hcl0 hnd hnok
      go_wp2_with fail
      rw [show (#[.int .i64 nd.op, .string nd.nm, .int .i64 nd.vk, .int .i64 nd.vn, .string nd.vt, .slice nd.sa nd.sl nd.sc, .slice nd.ka nd.kl nd.kc] : Array Value) = nd.v from rfl]
      with_reducible refine (refright_any nd.op wr nd.nm nd.vk nd.vn nd.vt nd.sa nd.sl nd.sc nd.ka nd.kl nd.kc hnm HRT.out h2r).mono ?_
      rintro e w3 ⟨rfl, hb3⟩
      have hs3 := hb3.size
      have HB3 := Lib.hid (hwB.out.trans (hb3.mono hwB.out.size))
      have HO3 := Lib.hid (own_below HO.out hb3)
      have m6 := (HB3.out.cell (p := ⟨nb, no + k * 7 + 6, none⟩) (block_lt_of_cell H6.out)).trans H6.out
      have hltB : (k : Int) < (n : Int) := hltI
      clear n0 n1 n2 n3 n4 n5 n6 hb3
      rw [show rightB nd.op nd.nm.data.toList nd.vk nd.vn nd.vt.data.toList nd.sl nd.kl = nd.right from rfl]
      cases hri : nd.right
      · have HE := Lib.hid (show treesB ns = false by rw [HS.out, HND.out]; simp [treesF, hri])
        clear hri
        go_wp2
        go_ret
        exact ⟨ret_bool HE.out.symm, HB3.out⟩
      · have HE := Lib.hid (show treesB ns = (match kidsF k s nd.ks with | none => false | some s' => treesF (k + 1) s' (ns.drop (k + 1))) by rw [HS.out, HND.out]; simp only [treesF, hri, if_true]; rfl)
        clear hri
        have hkl := HKR.out.1
        have hkl48 := HKR.out.2.2.1
        clear m6
        go_wp2_with fail
        go_loopw [5] (fun j wx => ∃ m : Nat, m ≤ nd.kl ∧ j = .int .i64 m ∧ ∃ t : List Bool, wx.ownsRow B 3 1 (.slice (some ⟨B, 0, none⟩) n n) n (t.map cnt) ∧ Below w.heap.size w wx ∧ kidsF k s nd.ks = kidsF k t (nd.ks.drop m)) (fun j _ => nd.kl - (intOf j).toNat)
        case atStart => exact ⟨0, by omega, rfl, s, HO3.out, HB3.out, rfl⟩
        case round =>
          obtain ⟨m, hm, rfl, t, ho4, hb4, hf4⟩ := hrel
          have HO4 := Lib.hid ho4
          have HB4 := Lib.hid hb4
          have HF4 := Lib.hid hf4
          have htl : t.length = n := by have := ho4.1; simpa using this
          have HTL := Lib.hid htl
          have m6 := (HB4.out.cell (p := ⟨nb, no + k * 7 + 6, none⟩) (block_lt_of_cell H6.out)).trans H6.out
          clear ho4 hb4 hf4 htl
          by_cases hmt : m < nd.kl
          · obtain ⟨kb, ko, x, hka, hx, hxc⟩ := HKR.out.at hmt
            have xc0 := hxc 0 _ rfl
            have xc := (HB4.out.cell (p := ⟨kb, ko + m * 1 + 0, none⟩) (block_lt_of_cell xc0)).trans xc0
            simp only [Nat.add_zero, Nat.mul_one] at xc
            rw [hka] at m6
            have HX := Lib.hid (drop_cons hx)
            have hmI : (m : Int) < (nd.kl : Int) := by omega
            clear hx hxc xc0 hka
            by_cases hneg : x < 0
            · have HN := Lib.hid (show treesB ns = false by rw [HE.out, HF4.out, HX.out]; simp [kidsF, hneg])
              go_wp2
              go_ret
              exact ⟨ret_bool HN.out.symm, HB4.out⟩
            by_cases hge : (k : Int) ≤ x
            · have HN := Lib.hid (show treesB ns = false by rw [HE.out, HF4.out, HX.out]; simp [kidsF, hge])
              go_wp2
              go_ret
              exact ⟨ret_bool HN.out.symm, HB4.out⟩
            obtain ⟨xn, rfl⟩ : ∃ xn : Nat, x = (xn : Int) := ⟨x.toNat, by omega⟩
            have hxn : xn < n := by omega
            have hxI : (xn : Int) < (n : Int) := by omega
            have hge' : ¬ k ≤ xn := by omega
            have hc := HO4.out.cellAt xn (by omega)
            have hfz := HO4.out.frozenAt xn
            obtain ⟨bv, hbv⟩ : ∃ bv, t[xn]? = some bv := ⟨_, List.getElem?_eq_getElem (by have := HTL.out; omega)⟩
            rw [List.getElem?_map, hbv] at hc
            simp only [Option.map_some] at hc
            have hgd : t.getD xn false = bv := by rw [List.getD_eq_getElem?_getD, hbv]; rfl
            cases bv
            · have HN := Lib.hid (show kidsF k s nd.ks = kidsF k (t.set xn true) (nd.ks.drop (m + 1)) by rw [HF4.out, HX.out]; simp only [kidsF, Int.toNat_natCast, hgd]; rw [if_neg (by omega), if_neg (by decide)])
              have ho5 := (HO4.out.stored xn (.int .i64 1)).1
              rw [show (Value.int .i64 1) = cnt true from rfl, ← List.map_set] at ho5
              have HO5 := Lib.hid ho5
              have hc5 := ho5.cellAt xn (by omega)
              rw [List.getElem?_map, List.getElem?_set_self (by have := HTL.out; omega)] at hc5
              have HB5 := Lib.hid (HB4.out.setCell (p := ⟨B, xn, none⟩) (by show w.heap.size ≤ B; have := HBB.out; omega) (.int .i64 1))
              simp only [cnt, Option.map_some, if_true] at hc5 hc
              clear hbv hgd ho5
              go_wp2
              go_roundw
              case rel => exact ⟨m + 1, by omega, by go_num, _, HO5.out, HB5.out, HN.out⟩
              case measure => simp [intOf]; omega
            · have HN := Lib.hid (show treesB ns = false by rw [HE.out, HF4.out, HX.out]; simp only [kidsF, Int.toNat_natCast, hgd]; rw [if_neg (by omega), if_pos trivial])
              have hc5 := (HO4.out.stored xn (.int .i64 2)).1.cellAt xn (by omega)
              rw [List.getElem?_set_self (by have := HTL.out; simp; omega)] at hc5
              have HB5 := Lib.hid (HB4.out.setCell (p := ⟨B, xn, none⟩) (by show w.heap.size ≤ B; have := HBB.out; omega) (.int .i64 2))
              simp only [cnt, if_true] at hc
              clear hbv hgd
              go_wp2
              go_ret
              exact ⟨ret_bool HN.out.symm, HB5.out⟩
          · have hmI : ¬ (m : Int) < (nd.kl : Int) := by omega
            have HN := Lib.hid (show treesB ns = treesF (k + 1) t (ns.drop (k + 1)) by rw [HE.out, HF4.out, List.drop_of_length_le (show nd.ks.length ≤ m by omega)]; rfl)
            have HBo := Lib.hid (show Below B w wr by rw [HBB.out]; exact HB4.out)
            go_wp2
            go_roundw
            case rel => exact ⟨k + 1, by omega, by go_num, t, HO4.out, HBo.out, HN.out⟩
            case measure => simp [intOf]; omega
    · have hltI : ¬ (k : Int) < (n : Int) := by omega
      have HE := Lib.hid (show treesB ns = true by rw [HS.out, List.drop_of_length_le (by omega)]; rfl)
      go_wp2
      go_ret
      exact ⟨ret_bool HE.out.symm, by have := HB.out; rwa [HBB.out] at this⟩
end Go.Proofs.YtakaoacialnjaaaDoor
