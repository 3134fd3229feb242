import Derived.Test.YtakaoacialnjaaaDoorK62
namespace Go.Proofs.YtakaoacialnjaaaDoor
open Go Go.RowKit
set_option linter.unusedVariables false
set_option linter.unusedSimpArgs false
set_option maxRecDepth 100000 in
set_option maxHeartbeats 4000000 in
theorem within_any (w : World) (x : Int) (m : Nat) (h1 : 1 ≤ m) (hm : m ≤ 1000000) (hx0 : -9223372036854775808 ≤ x) (hx1 : x ≤ 9223372036854775807) :
    Calls Tryd.prog 17 #[.int .i64 x, .int .i64 0, .int .i64 ((m : Int) - 1)] w fun e w' => (∃ r : Nat, r < m ∧ e = .returned (.int .i64 (r : Int))) ∧ Below w.heap.size w w' := by
  have hq1 : -(m : Int) < x.tmod m := by
    rcases Int.le_total 0 x with h | h
    · have := Int.tmod_nonneg (m : Int) h; omega
    · have := Int.tmod_nonneg (m : Int) (show 0 ≤ -x by omega)
      have h2 := Int.tmod_lt_of_pos (-x) (show (0 : Int) < m by omega)
      rw [Int.neg_tmod] at this h2; omega
  have hq2 : x.tmod m < m := Int.tmod_lt_of_pos x (by omega)
  have hw1 : wrap64 ((m : Int) - 1) = (m : Int) - 1 := by unfold wrap64; omega
  have hw2 : wrap64 ((m : Int) - 1 + 1) = (m : Int) := by unfold wrap64; omega
  have hne : ((m : Int) == 0) = false := by simp; omega
  go_enter Tryd.func17, Tryd.ntmps17
  go_wp2_with fail
  all_goals
    go_ret
    first
      | exact ⟨⟨(x.tmod m + (m - 1) + 1).toNat, by omega, by rw [Int.toNat_of_nonneg (by omega)]; rfl⟩, Below.refl _ _⟩
      | exact ⟨⟨(x.tmod m).toNat, by omega, by rw [Int.toNat_of_nonneg (by omega)]; rfl⟩, Below.refl _ _⟩
def Bv (b : Bool) : List Value := [.bool b]
theorem Bv_len (b : Bool) : (Bv b).length = 1 := rfl
/-- What stands beneath, of the nodes from k on. -/
structure BenI (ns : List Nd) (root k : Nat) (bs : List Bool) : Prop where
  len : bs.length = ns.length
  top : kp bs root = true
  down : ∀ (i : Nat) (nd : Nd), k ≤ i → ns[i]? = some nd → kp bs i = true → ∀ q ∈ nd.ks, kp bs q.toNat = true
  up : ∀ i, kp bs i = true → i = root ∨ ∃ (j : Nat) (nd : Nd), ns[j]? = some nd ∧ kp bs j = true ∧ (i : Int) ∈ nd.ks
  le : ∀ i, kp bs i = true → i ≤ root
theorem kp_set (bs : List Bool) (q i : Nat) : kp (bs.set q true) i = if q = i ∧ q < bs.length then true else kp bs i := by
  unfold kp
  simp only [List.getD_eq_getElem?_getD, List.getElem?_set]
  by_cases h : q = i
  · subst h
    by_cases h2 : q < bs.length
    · simp [h2]
    · simp [h2]
  · simp [h]
theorem BenI.mark {ns : List Nd} {root k p : Nat} {bs : List Bool} (h : BenI ns root k bs) {nd : Nd} (hp : ns[p]? = some nd) (hb : kp bs p = true) (hk : p < k) {q : Int} (hq : q ∈ nd.ks) (h0 : 0 ≤ q) (h1 : q < p) :
    BenI ns root k (bs.set q.toNat true) ∧ kp (bs.set q.toNat true) p = true ∧ ∀ i, kp bs i = true → kp (bs.set q.toNat true) i = true := by
  have hle := h.le p hb
  have hpl : p < ns.length := (List.getElem?_eq_some_iff.1 hp).1
  have mono : ∀ i, kp bs i = true → kp (bs.set q.toNat true) i = true := fun i hi => by rw [kp_set]; split <;> simp [hi]
  refine ⟨⟨by rw [List.length_set, h.len], mono _ h.top, ?_, ?_, ?_⟩, mono _ hb, mono⟩
  · intro i nd' hki hi hbi r hr
    rw [kp_set, if_neg (by omega)] at hbi
    exact mono _ (h.down i nd' hki hi hbi r hr)
  · intro i hi
    rw [kp_set] at hi
    by_cases e : q.toNat = i ∧ q.toNat < bs.length
    · right
      refine ⟨p, nd, hp, mono _ hb, ?_⟩
      rw [show (i : Int) = q by omega]; exact hq
    · rw [if_neg e] at hi
      rcases h.up i hi with h | ⟨j, nd', h1, h2, h3⟩
      · exact .inl h
      · exact .inr ⟨j, nd', h1, mono _ h2, h3⟩
  · intro i hi
    rw [kp_set] at hi
    by_cases e : q.toNat = i ∧ q.toNat < bs.length
    · omega
    · rw [if_neg e] at hi
      exact h.le i hi
theorem ben_start (ns : List Nd) (root : Nat) (h : root < ns.length) : BenI ns root (root + 1) ((List.replicate ns.length false).set root true) := by
  have hk : ∀ i, kp ((List.replicate ns.length false).set root true) i = true → i = root := by
    intro i hi
    rw [kp_set] at hi
    by_cases e : root = i ∧ root < (List.replicate ns.length false).length
    · exact e.1.symm
    · rw [if_neg e] at hi
      unfold kp at hi
      rw [List.getD_eq_getElem?_getD, List.getElem?_replicate] at hi
      split at hi <;> simp at hi
  refine ⟨by simp, by rw [kp_set, if_pos ⟨rfl, by simpa using h⟩], fun i nd hi _ hb => ?_, fun i hi => .inl (hk i hi), fun i hi => by rw [hk i hi]; exact Nat.le_refl _⟩
  have := hk i hb
  omega
theorem BenI.ben {ns : List Nd} {root : Nat} {bs : List Bool} (h : BenI ns root 0 bs) : Ben ns root bs := ⟨h.len, h.top, fun i nd => h.down i nd (Nat.zero_le _), h.up⟩
theorem kp_get {bs : List Bool} {i : Nat} (h : i < bs.length) : bs[i]? = some (kp bs i) := by
  unfold kp
  rw [List.getD_eq_getElem?_getD, List.getElem?_eq_getElem h]; rfl
end Go.Proofs.YtakaoacialnjaaaDoor
namespace Go.Proofs.YtakaoacialnjaaaDoor
open Go Go.RowKit
set_option linter.unusedVariables false
set_option linter.unusedSimpArgs false
set_option maxRecDepth 100000 in
set_option maxHeartbeats 4000000 in
theorem beneath_any (w : World) (a : Option Addr) (n c : Nat) (ns : List Nd) (hr : RS 7 Nd.cs w a n c ns) (hok : ∀ nd ∈ ns, nd.ok w) (root : Nat) (hroot : root < n) (hn : n ≤ 1000000) (hks : ∀ (i : Nat) (nd : Nd), ns[i]? = some nd → ∀ k ∈ nd.ks, 0 ≤ k ∧ k < (i : Int)) :
    Calls Tryd.prog 16 #[.slice a n c, .int .i64 (root : Int)] w fun e w' => (∃ bs, e = .returned (.slice (some ⟨w.heap.size, 0, none⟩) n n) ∧ w'.ownsRow w.heap.size 4 1 (.slice (some ⟨w.heap.size, 0, none⟩) n n) n (bs.flatMap Bv) ∧ Ben ns root bs) ∧ Below w.heap.size w w' := by
  have hlen := hr.1
  have HR := Lib.hid hr
  have HOK := Lib.hid hok
  have HKS := Lib.hid hks
  obtain ⟨B, hB⟩ : ∃ B, B = w.heap.size := ⟨_, rfl⟩
  have HB := Lib.hid hB
  have hrI : (root : Int) < (n : Int) := by omega
  clear hr hok hks hB
  go_enter Tryd.func16, Tryd.ntmps16
  go_wp2_with (first
    | (at_make; refine L_make rfl _ _ _ rfl sl39 B .i64 .i64 _ n rfl rfl (by omega) (by omega) (by simp [maxLen]; omega) (by have := HB.out; omega) (fun w1 ho1 hg1 => ?_)
       rw [← HB.out] at ho1 ⊢
       have hb1 : Below B w w1 := (Below.refl _ _).grown hg1 (by have := HB.out; omega) (by intro k hk; cases hk)
       have ho2 : w1.ownsRow B 4 1 (.slice (some ⟨B, 0, none⟩) n n) n ((List.replicate n false).flatMap Bv) := by
         have e2 : (madeCells (Value.cells (.bool false)) (n * 1)).toList = (List.replicate n false).flatMap Bv := madeFlat Bv 1 (by decide) Bv_len false n
         rw [e2] at ho1
         exact ho1
       have c0 := own_at Bv_len ho2 (k := root) (x := false) (by rw [List.getElem?_replicate, if_pos hroot]) 0 _ rfl
       have f0 := ho2.frozenAt root
       simp only [Nat.mul_one, Nat.add_zero] at c0
       have HO2 := Lib.hid ho2
       have HB1 := Lib.hid hb1
       clear ho1 hg1 ho2 hb1))
  have ho3 : (w1.setCell ⟨B, root, none⟩ (.bool true)).ownsRow B 4 1 (.slice (some ⟨B, 0, none⟩) n n) n (((List.replicate n false).set root true).flatMap Bv) := by
    have := (own_chain (Bv true) _ w1 (root * 1) HO2.out).1
    rw [setList_flat Bv 1 Bv_len _ root true (by simpa using hroot)] at this
    simpa [setChain, Bv] using this
  have HO3 := Lib.hid ho3
  have HB3 := Lib.hid (HB1.out.setCell (p := ⟨B, root, none⟩) (Nat.le_refl _) (.bool true))
  clear ho3 c0 f0
  generalize w1.setCell ⟨B, root, none⟩ (.bool true) = w3 at *
  go_loopw [6] (fun i wr => ∃ (k : Nat) (bs : List Bool), k ≤ root + 1 ∧ i = .int .i64 ((k : Int) - 1) ∧ Below B w wr ∧ wr.ownsRow B 4 1 (.slice (some ⟨B, 0, none⟩) n n) n (bs.flatMap Bv) ∧ BenI ns root k bs) (fun i _ => (intOf i + 1).toNat)
  case atStart => exact ⟨root + 1, _, Nat.le_refl _, by congr 1; omega, HB3.out, HO3.out, by have := ben_start ns root (by omega); rwa [hlen] at this⟩
  case round =>
    obtain ⟨k, bs, hk, rfl, hb, ho, hben⟩ := hrel
    obtain ⟨wk, rfl⟩ : ∃ wk : World, wk = wr := ⟨_, rfl⟩
    have HBK := Lib.hid hb
    have HOK2 := Lib.hid ho
    have HBEN := Lib.hid hben
    clear hb ho hben HB3 HO3
    cases k with
    | zero =>
      go_wp2_with fail
      go_ret
      rw [HB.out] at HBK HOK2
      rw [HB.out]
      exact ⟨⟨bs, rfl, HOK2.out, HBEN.out.ben⟩, HBK.out⟩
    | succ p =>
      have hpe : ((p + 1 : Nat) : Int) - 1 = (p : Int) := by omega
      rw [hpe]
      have hp0 : (0 : Int) ≤ (p : Int) := by omega
      have hpn : p < n := by omega
      have hpI : (p : Int) < (n : Int) := by omega
      obtain ⟨xb, xo, nd, rfl, hnd, hcl⟩ := HR.out.at hpn
      have HC6 := Lib.hid (hcl 6 _ rfl)
      have hko := (HOK.out nd (List.mem_of_getElem? hnd)).1
      have HKO := Lib.hid hko
      have hkl := hko.1
      have hk48 := hko.2.2.1
      have HND := Lib.hid hnd
      clear hcl hnd hko
      go_wp2_with fail
      go_loopw [7] (fun i wr => ∃ (j : Nat) (bs : List Bool), j ≤ nd.kl ∧ i = .int .i64 (j : Int) ∧ Below B w wr ∧ wr.ownsRow B 4 1 (.slice (some ⟨B, 0, none⟩) n n) n (bs.flatMap Bv) ∧ BenI ns root (p + 1) bs ∧ ((kp bs p = false ∧ j = 0) ∨ (kp bs p = true ∧ ∀ (q : Nat) (x : Int), q < j → nd.ks[q]? = some x → kp bs x.toNat = true))) (fun i _ => nd.kl - (intOf i).toNat)
      case atStart =>
        refine ⟨0, bs, Nat.zero_le _, rfl, HBK.out, HOK2.out, HBEN.out, ?_⟩
        cases h : kp bs p
        · exact .inl ⟨rfl, rfl⟩
        · exact .inr ⟨rfl, fun q x hq => by omega⟩
      case round =>
        obtain ⟨j, bs2, hj, rfl, hb, ho, hben, hst⟩ := hrel
        have HB5 := Lib.hid hb
        have HO5 := Lib.hid ho
        have HBE5 := Lib.hid hben
        have hx6 := (HB5.out.cell (p := ⟨xb, xo + p * 7 + 6, none⟩) (by have h6 : xb < w.heap.size := block_lt_of_cell HC6.out; have := HB.out; show xb < B; omega)).trans HC6.out
        have hbl : p < bs2.length := by rw [hben.len]; omega
        have cp := own_at Bv_len ho (k := p) (kp_get hbl) 0 _ rfl
        simp only [Nat.mul_one, Nat.add_zero] at cp
        clear hb ho hben HBK HOK2 HBEN
        rcases hst with ⟨hf, rfl⟩ | ⟨ht, hmk⟩
        · rw [hf] at cp
          have HF := Lib.hid hf
          clear hf
          go_wp2_with fail
          go_roundw
          case rel =>
            refine ⟨p, bs2, by omega, rfl, HB5.out, HO5.out, ?_⟩
            obtain ⟨h1, h2, h3, h4, h5⟩ := HBE5.out
            refine ⟨h1, h2, fun i nd' hi hn hbi => ?_, h4, h5⟩
            by_cases e : i = p
            · subst e; rw [HF.out] at hbi; cases hbi
            · exact h3 i nd' (by omega) hn hbi
          case measure => simp [intOf] <;> omega
        · rw [ht] at cp
          have HT := Lib.hid ht
          have HMK := Lib.hid hmk
          clear ht hmk
          by_cases hjl : j < nd.kl
          · have hjI : (j : Int) < (nd.kl : Int) := by omega
            obtain ⟨yb, yo, x, hka, hx, hcx⟩ := HKO.out.at hjl
            have y0 := (HB5.out.cell (p := ⟨yb, yo + j * 1 + 0, none⟩) (by have h6 : yb < w.heap.size := block_lt_of_cell (hcx 0 _ rfl); have := HB.out; show yb < B; omega)).trans (hcx 0 _ rfl)
            simp only [Nat.mul_one, Nat.add_zero] at y0
            rw [hka] at hx6
            obtain ⟨hx0, hxp⟩ := HKS.out p nd HND.out x (List.mem_of_getElem? hx)
            have hxn : x < (n : Int) := by omega
            obtain ⟨y, rfl⟩ : ∃ y : Nat, x = (y : Int) := ⟨x.toNat, by omega⟩
            have hyn : y < n := by omega
            have cy := own_at Bv_len HO5.out (k := y) (kp_get (by rw [HBE5.out.len]; omega)) 0 _ rfl
            have fy := HO5.out.frozenAt y
            simp only [Nat.mul_one, Nat.add_zero] at cy
            obtain ⟨hm1, hm2, hm3⟩ := HBE5.out.mark HND.out HT.out (Nat.lt_succ_self p) (List.mem_of_getElem? hx) hx0 hxp
            have ho' : (wr.setCell ⟨B, y, none⟩ (.bool true)).ownsRow B 4 1 (.slice (some ⟨B, 0, none⟩) n n) n ((bs2.set y true).flatMap Bv) := by
              have := (own_chain (Bv true) _ wr (y * 1) HO5.out).1
              rw [setList_flat Bv 1 Bv_len _ y true (by rw [HBE5.out.len]; omega)] at this
              simpa [setChain, Bv] using this
            have HO' := Lib.hid ho'
            have HB' := Lib.hid (HB5.out.setCell (p := ⟨B, y, none⟩) (Nat.le_refl _) (.bool true))
            have HM1 := Lib.hid hm1
            have HM2 := Lib.hid hm2
            have HM3 := Lib.hid hm3
            have HX := Lib.hid hx
            clear ho' hm1 hm2 hm3 hx hcx hxp
            go_wp2_with fail
            go_roundw
            case rel =>
              refine ⟨j + 1, bs2.set y true, by omega, by go_num, HB'.out, HO'.out, HM1.out, .inr ⟨HM2.out, fun q x hq hqx => ?_⟩⟩
              by_cases e : q = j
              · subst e
                rw [HX.out] at hqx
                obtain rfl := Option.some.inj hqx
                rw [kp_set, if_pos ⟨by simp, by rw [HBE5.out.len]; omega⟩]
              · exact HM3.out _ (HMK.out q x (by omega) hqx)
            case measure => simp [intOf] <;> omega
          · have hjI : ¬ (j : Int) < (nd.kl : Int) := by omega
            go_wp2_with fail
            go_roundw
            case rel =>
              refine ⟨p, bs2, by omega, rfl, HB5.out, HO5.out, ?_⟩
              obtain ⟨h1, h2, h3, h4, h5⟩ := HBE5.out
              refine ⟨h1, h2, fun i nd' hi hn hbi q hq => ?_, h4, h5⟩
              by_cases e : i = p
              · subst e
                rw [HND.out] at hn
                obtain rfl := Option.some.inj hn
                obtain ⟨r, hr⟩ := List.getElem?_of_mem hq
                exact HMK.out r q (by have := (List.getElem?_eq_some_iff.1 hr).1; omega) hr
              · exact h3 i nd' (by omega) hn hbi q hq
            case measure => simp [intOf] <;> omega
end Go.Proofs.YtakaoacialnjaaaDoor
