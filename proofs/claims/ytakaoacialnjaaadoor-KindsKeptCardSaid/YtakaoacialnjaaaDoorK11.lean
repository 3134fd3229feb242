import Derived.Test.YtakaoacialnjaaaDoorK10
namespace Go.Proofs.YtakaoacialnjaaaDoor
open Go Go.RowKit
set_option linter.unusedVariables false
set_option maxRecDepth 100000 in
set_option maxHeartbeats 2000000 in
theorem look_set (w : World) (g : Nat) (sc : List Nm) (ks : List (Int × Bool)) (K : LK w g sc ks)
    (nm : ByteArray) (vk vn : Int) (vt : ByteArray) (sa : Option Addr) (sl sc' : Nat) (ka : Option Addr) (kl kc : Nat) (kids : List Nat) (hk : RS 1 IvN w ka kl kc kids) (hks : ∀ k ∈ kids, k < ks.length) :
    Calls Tryd.prog 34 #[.pointer (some ⟨g, 0, none⟩), .agg (nodeV 6 nm vk vn vt sa sl sc' ka kl kc)] w fun e w' => LookOut e (finK ((5, false), kids.all (textK ks))) ∧ Below w.heap.size w w' := by
  have hlen := hk.1
  have hn48 := hk.2.2.1
  have HKS := Lib.hid hks
  have hw := below3 w (nodeV 6 nm vk vn vt sa sl sc' ka kl kc) #[.int .i64 0, .bool false] #[.int .i64 5, .bool false] 49 30 30
  obtain ⟨g0, g1, g2, gs⟩ := facts3 w (nodeV 6 nm vk vn vt sa sl sc' ka kl kc) #[.int .i64 0, .bool false] #[.int .i64 5, .bool false] 49 30 30
  obtain ⟨K3⟩ := K.below hw
  have HK := Lib.hid (hk.below hw)
  have HB := Lib.hid hw
  clear hks hk hw
  go_enter Tryd.func34, Tryd.ntmps34
  go_wp2
  generalize ((w.alloc (.cells (nodeV 6 nm vk vn vt sa sl sc' ka kl kc) 49)).alloc (.cells #[.int .i64 0, .bool false] 30)).alloc (.cells #[.int .i64 5, .bool false] 30) = w3 at *
  have c1 := cell_of_row w3 _ 0 _ _ _ g1
  have c1' := cell_of_row w3 _ 1 _ _ _ g1
  have c2 := cell_of_row w3 _ 0 _ _ _ g2
  have c2' := cell_of_row w3 _ 1 _ _ _ g2
  have f1 := frozen_of_row w3 _ 0 _ _ g1
  have f1' := frozen_of_row w3 _ 1 _ _ g1
  simp only [List.getElem?_toArray, List.getElem?_cons_zero, List.getElem?_cons_succ] at c1 c1' c2 c2'
  clear g0 g1 g2
  have kc2 := K3.h2
  have krk := Lib.hid K3.rk
  have kl48 := K3.rk.2.2.1
  generalize K3.ka = ca at *
  generalize K3.kc = cc at *
  go_loop [84, 7] (fun i o => ∃ k : Nat, k ≤ kl ∧ i = .int .i64 k ∧ o = .bool ((kids.take k).all (textK ks))) (fun i _ => kl - (intOf i).toNat)
  case atStart => exact ⟨0, by omega, rfl, rfl⟩
  case round =>
    obtain ⟨k, hk, rfl, rfl⟩ := hrel
    by_cases hlt : k < kl
    · obtain ⟨b, off, x, rfl, hx, hcl⟩ := HK.out.at hlt
      have x0 := hcl 0 _ rfl
      simp only [Nat.add_zero, Nat.mul_one] at x0
      have hxl := HKS.out x (List.mem_of_getElem? hx)
      obtain ⟨b2, off2, q, rfl, hq, hcl2⟩ := krk.out.at hxl
      have q0 := hcl2 0 _ rfl
      simp only [Nat.add_zero] at q0
      have hnx : (kids.take (k + 1)).all (textK ks) = ((kids.take k).all (textK ks) && textK ks x) := by rw [List.take_add_one, hx, List.all_append]; simp
      have hxt : textK ks x = (q.1 == 3) := by simp [textK, List.getD_eq_getElem?_getD, hq]
      rw [hxt] at hnx
      have HNX := Lib.hid hnx
      have hltI : (k : Int) < (kl : Int) := by omega
      have hxI : (x : Int) < (ks.length : Int) := by omega
      clear hcl hcl2 hx hq hnx hxt
      obtain ⟨qb, qo⟩ := q
      simp only at q0 HNX
      cases ha : (kids.take k).all (textK ks)
      all_goals
        rw [ha] at HNX
        have HA := Lib.hid ha
        clear ha
        go_wp2
        go_round
        case rel => exact ⟨k + 1, by omega, by go_num, by rw [HNX.out]; rfl⟩
        case measure => simp [intOf]; omega
    · have hltI : ¬ (k : Int) < (kl : Int) := by omega
      have hal : (kids.take k).all (textK ks) = kids.all (textK ks) := by rw [List.take_of_length_le (by omega)]
      rw [hal]
      clear hal
      have hs1 : w.heap.size + 1 < w3.heap.size := by omega
      have hs0 : w.heap.size < w3.heap.size := by omega
      cases ha : kids.all (textK ks)
      · have HA := Lib.hid ha
        clear ha
        go_wp2
        exact bodyPost_ret (v := .tuple #[.agg #[.int .i64 0, .bool false], .int .i64 100]) (by simp [results, Tryd.results34, go_sem, c1, c1']) rfl ⟨by rw [HA.out]; rfl, below_set2 HB.out _ (by omega) _ _⟩
      · have HA := Lib.hid ha
        clear ha
        go_wp2
        exact bodyPost_ret (v := .tuple #[.agg #[.int .i64 5, .bool false], .int .i64 0]) (by simp [results, Tryd.results34, go_sem, c1, c1']) rfl ⟨by rw [HA.out]; rfl, below_set2 HB.out _ (by omega) _ _⟩
end Go.Proofs.YtakaoacialnjaaaDoor
