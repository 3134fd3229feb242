import Derived.Test.YtakaoacialnjaaaDoorK68
import Derived.Lib.SlBytesRow
namespace Go.Proofs.YtakaoacialnjaaaDoor
open Go Go.RowKit
set_option linter.unusedVariables false
set_option linter.unusedSimpArgs false
/-! Names that stand nowhere. -/
def digs (k : Nat) : List UInt8 := if h : k = 0 then [] else UInt8.ofNat (97 + k % 26) :: digs (k / 26)
termination_by k
decreasing_by omega
theorem digs_zero : digs 0 = [] := by rw [digs]; rfl
theorem digs_pos {k : Nat} (h : 0 < k) : digs k = UInt8.ofNat (97 + k % 26) :: digs (k / 26) := by rw [digs, dif_neg (by omega)]
theorem digs_len (m : Nat) : ∀ k, k < 26 ^ m → (digs k).length ≤ m := by
  induction m with
  | zero => intro k h; obtain rfl : k = 0 := by simpa using h
            rw [digs_zero]; exact Nat.le_refl _
  | succ m ih =>
    intro k h
    by_cases hk : k = 0
    · subst hk; rw [digs_zero]; exact Nat.zero_le _
    · rw [digs_pos (by omega)]
      have := ih (k / 26) (by rw [Nat.pow_succ] at h; omega)
      simp; omega
theorem dig_nat (k : Nat) : (UInt8.ofNat (97 + k % 26)).toNat = 97 + k % 26 := by
  simp; omega
theorem digs_inj : ∀ k j, digs k = digs j → k = j := by
  intro k
  induction k using Nat.strongRecOn with
  | ind k ih =>
    intro j h
    by_cases hk : k = 0
    · subst hk
      by_cases hj : j = 0
      · exact hj.symm
      · rw [digs_zero, digs_pos (by omega)] at h; cases h
    · by_cases hj : j = 0
      · subst hj; rw [digs_zero, digs_pos (by omega)] at h; cases h
      · rw [digs_pos (show 0 < k by omega), digs_pos (show 0 < j by omega)] at h
        injection h with h1 h2
        have h3 := ih (k / 26) (by omega) (j / 26) h2
        have h4 := congrArg UInt8.toNat h1
        rw [dig_nat, dig_nat] at h4
        omega
theorem digs_letters : ∀ k, ∀ c ∈ digs k, letterB c = true := by
  intro k
  induction k using Nat.strongRecOn with
  | ind k ih =>
    intro c hc
    by_cases hk : k = 0
    · subst hk; rw [digs_zero] at hc; cases hc
    · rw [digs_pos (by omega)] at hc
      rcases List.mem_cons.1 hc with rfl | hc
      · unfold letterB
        rw [dig_nat]
        simp; omega
      · exact ih (k / 26) (by omega) c hc
def qb (l : List UInt8) : ByteArray := ⟨l.toArray⟩
def qn (k : Nat) : ByteArray := qb (113 :: digs k)
theorem qb_list (l : List UInt8) : (qb l).toList = l := by rw [ByteArray.toList_eq]; rfl
theorem qb_data (l : List UInt8) : (qb l).data.toList = l := rfl
theorem qb_append (l m : List UInt8) : qb l ++ qb m = qb (l ++ m) := by
  apply ByteArray.ext
  simp [qb]
theorem qn_inj {k j : Nat} (h : qn k = qn j) : k = j := by
  have := congrArg ByteArray.toList h
  unfold qn at this
  rw [qb_list, qb_list] at this
  injection this with _ h2
  exact digs_inj k j h2
theorem qn_legal {k : Nat} (h : k < 17576) : legalB (qn k).data.toList = true := by
  unfold qn
  rw [qb_data]
  have hl := digs_len 3 k h
  have hr : isResB (113 :: digs k) = false := by
    have h0 : resL.all (fun r => r.getD 0 0 != 113) = true := by decide
    unfold isResB
    rw [List.any_eq_false]
    intro r hr hb
    have := List.all_eq_true.1 h0 r hr
    have e : r = 113 :: digs k := by simpa using hb
    rw [e] at this
    simp at this
  unfold legalB nameB
  rw [hr]
  have hall : (113 :: digs k).all wordB = true := by
    rw [List.all_eq_true]
    intro c hc
    rcases List.mem_cons.1 hc with rfl | hc
    · decide
    · unfold wordB; rw [digs_letters k c hc]; rfl
  rw [hall]
  simp only [List.length_cons, List.getD_cons_zero, Bool.not_false, Bool.and_true]
  simp
  exact ⟨by omega, by decide⟩
theorem nodup_sub {α : Type} [DecidableEq α] : ∀ (l m : List α), l.Nodup → (∀ x ∈ l, x ∈ m) → l.length ≤ m.length
  | [], m, _, _ => Nat.zero_le _
  | x :: t, m, hn, hs => by
    obtain ⟨h1, h2⟩ := List.nodup_cons.1 hn
    have hx := hs x List.mem_cons_self
    have := nodup_sub t (m.erase x) h2 (fun y hy => by
      rw [List.mem_erase_of_ne (fun e => h1 (by rw [← e]; exact hy))]
      exact hs y (List.mem_cons_of_mem _ hy))
    rw [List.length_erase_of_mem hx] at this
    have hp : 0 < m.length := List.length_pos_of_mem hx
    simp only [List.length_cons]; omega
/-- More names than there are places: one is free. -/
theorem qn_free (NL : List ByteArray) (N : Nat) (hN : NL.length ≤ N) (h : ∀ j, j ≤ N → qn j ∈ NL) : False := by
  have h1 : ((List.range (N + 1)).map qn).Nodup := by
    unfold List.Nodup
    rw [List.pairwise_map]
    exact List.Pairwise.imp (fun {a b} hab he => hab (qn_inj he)) List.nodup_range
  have := nodup_sub _ NL h1 (fun x hx => by
    obtain ⟨j, hj, rfl⟩ := List.mem_map.1 hx
    exact h j (by have := List.mem_range.1 hj; omega))
  simp at this; omega
def namesOf (ns : List Nd) (sc : List Nm) : List ByteArray := ns.map Nd.nm ++ sc.map Nm.nm
theorem toList_inj {a b : ByteArray} (h : (a.toList == b.toList) = true) : a = b := by
  have h1 : a.toList = b.toList := by simpa using h
  rw [ByteArray.toList_eq, ByteArray.toList_eq] at h1
  exact ByteArray.ext (Array.toList_inj.1 h1)
def StandsOut (e : Ending) (ns : List Nd) (sc : List Nm) (s : ByteArray) : Prop := (e = .returned (.bool true) ∧ s ∈ namesOf ns sc) ∨ (e = .returned (.bool false) ∧ s ∉ namesOf ns sc)
theorem not_names {ns : List Nd} {sc : List Nm} {s : ByteArray} (h1 : ∀ (i : Nat) (nd : Nd), ns[i]? = some nd → (nd.nm.toList == s.toList) = false) (h2 : ∀ (i : Nat) (x : Nm), sc[i]? = some x → (x.nm.toList == s.toList) = false) : s ∉ namesOf ns sc := by
  intro h
  rcases List.mem_append.1 h with h | h
  · obtain ⟨nd, hnd, rfl⟩ := List.mem_map.1 h
    obtain ⟨i, hi⟩ := List.getElem?_of_mem hnd
    have := h1 i nd hi; simp at this
  · obtain ⟨x, hx, rfl⟩ := List.mem_map.1 h
    obtain ⟨i, hi⟩ := List.getElem?_of_mem hx
    have := h2 i x hi; simp at this
set_option maxRecDepth 100000 in
set_option maxHeartbeats 4000000 in
theorem stands_any (w : World) (a : Option Addr) (n c : Nat) (ns : List Nd) (hr : RS 7 Nd.cs w a n c ns) (sa : Option Addr) (sn sc' : Nat) (sc : List Nm) (hsc : RS 3 Nm.cs w sa sn sc' sc) (s : ByteArray) :
    Calls Tryd.prog 35 #[.slice a n c, .slice sa sn sc', .string s] w fun e w' => StandsOut e ns sc s ∧ Below w.heap.size w w' := by
  have hlen := hr.1
  have hscl := hsc.1
  have hn48 := hr.2.2.1
  have hs48 := hsc.2.2.1
  have HR := Lib.hid hr
  have HSC := Lib.hid hsc
  clear hr hsc
  go_enter Tryd.func35, Tryd.ntmps35
  go_wp2_with fail
  go_loopw [7] (fun i wr => ∃ k : Nat, k ≤ n ∧ i = .int .i64 k ∧ Below w.heap.size w wr ∧ ∀ (i : Nat) (nd : Nd), i < k → ns[i]? = some nd → (nd.nm.toList == s.toList) = false) (fun i _ => n - (intOf i).toNat)
  case atStart => exact ⟨0, by omega, rfl, Below.refl _ _, fun i nd h => by omega⟩
  case round =>
    obtain ⟨k, hk, rfl, hb, hno⟩ := hrel
    have HB := Lib.hid hb
    have HNO := Lib.hid hno
    clear hb hno
    by_cases hlt : k < n
    · obtain ⟨xa, xo, nd, rfl, hnd, hcx⟩ := HR.out.at hlt
      have x1 := (HB.out.cell (p := ⟨xa, xo + k * 7 + 1, none⟩) (block_lt_of_cell (hcx 1 _ rfl))).trans (hcx 1 _ rfl)
      have hltI : (k : Int) < (n : Int) := by omega
      have HND := Lib.hid hnd
      clear hcx hnd
      cases e1 : (nd.nm.toList == s.toList) with
      | true =>
        have HS := Lib.hid (show s ∈ namesOf ns sc from List.mem_append_left _ (List.mem_map.2 ⟨nd, List.mem_of_getElem? HND.out, toList_inj e1⟩))
        go_wp2
        go_ret
        exact ⟨.inl ⟨rfl, HS.out⟩, HB.out⟩
      | false =>
        have HE := Lib.hid e1
        go_wp2
        go_roundw
        case rel =>
          refine ⟨k + 1, by omega, by go_num, HB.out, fun i nd' hi hn' => ?_⟩
          by_cases e : i = k
          · subst e; rw [HND.out] at hn'; obtain rfl := Option.some.inj hn'; exact HE.out
          · exact HNO.out i nd' (by omega) hn'
        case measure => simp [intOf] <;> omega
    · have hltI : ¬ (k : Int) < (n : Int) := by omega
      have HN1 := Lib.hid (fun (i : Nat) (nd : Nd) (h : ns[i]? = some nd) => HNO.out i nd (by have := (List.getElem?_eq_some_iff.1 h).1; omega) h)
      clear HNO
      go_wp2_with fail
      go_loopw [8] (fun i wr => ∃ k : Nat, k ≤ sn ∧ i = .int .i64 k ∧ Below w.heap.size w wr ∧ ∀ (i : Nat) (x : Nm), i < k → sc[i]? = some x → (x.nm.toList == s.toList) = false) (fun i _ => sn - (intOf i).toNat)
      case atStart => exact ⟨0, by omega, rfl, HB.out, fun i nd h => by omega⟩
      case round =>
        obtain ⟨j, hj, rfl, hb, hno⟩ := hrel
        have HB2 := Lib.hid hb
        have HNO := Lib.hid hno
        clear hb hno
        by_cases hlj : j < sn
        · obtain ⟨xa, xo, x, rfl, hx, hcx⟩ := HSC.out.at hlj
          have x0 := (HB2.out.cell (p := ⟨xa, xo + j * 3 + 0, none⟩) (block_lt_of_cell (hcx 0 _ rfl))).trans (hcx 0 _ rfl)
          simp only [Nat.add_zero] at x0
          have hljI : (j : Int) < (sn : Int) := by omega
          have HX := Lib.hid hx
          clear hcx hx
          cases e1 : (x.nm.toList == s.toList) with
          | true =>
            have HS := Lib.hid (show s ∈ namesOf ns sc from List.mem_append_right _ (List.mem_map.2 ⟨x, List.mem_of_getElem? HX.out, toList_inj e1⟩))
            go_wp2
            go_ret
            exact ⟨.inl ⟨rfl, HS.out⟩, HB2.out⟩
          | false =>
            have HE := Lib.hid e1
            go_wp2
            go_roundw
            case rel =>
              refine ⟨j + 1, by omega, by go_num, HB2.out, fun i x' hi hn' => ?_⟩
              by_cases e : i = j
              · subst e; rw [HX.out] at hn'; obtain rfl := Option.some.inj hn'; exact HE.out
              · exact HNO.out i x' (by omega) hn'
            case measure => simp [intOf] <;> omega
        · have hljI : ¬ (j : Int) < (sn : Int) := by omega
          have HF := Lib.hid (show s ∉ namesOf ns sc from not_names HN1.out (fun i x h => HNO.out i x (by have := (List.getElem?_eq_some_iff.1 h).1; omega) h))
          go_wp2
          go_ret
          exact ⟨.inr ⟨rfl, HF.out⟩, HB2.out⟩
end Go.Proofs.YtakaoacialnjaaaDoor
namespace Go.Proofs.YtakaoacialnjaaaDoor
open Go Go.RowKit
set_option linter.unusedVariables false
set_option linter.unusedSimpArgs false
theorem conv_byte (w : World) (c : UInt8) : Sem.run Tryd.prog (convert 76 9 (.slice (some ⟨w.heap.size, 0, none⟩) 1 1)) (w.alloc (.cells #[.int .u8 (c.toNat : Int)] 5)) = .ok (.string (qb [c])) (w.alloc (.cells #[.int .u8 (c.toNat : Int)] 5)) := by
  have hb : Go.Lib.Bytes (w.alloc (.cells #[.int .u8 (c.toNat : Int)] 5)) w.heap.size 0 (qb [c]) := by
    intro i hi
    have h0 : i = 0 := by have : (qb [c]).size = 1 := rfl; omega
    subst h0
    rw [cell_of_row _ _ _ _ _ _ (heap_alloc_new w _)]
    rfl
  exact Go.Lib.run_convert_whole (P := Tryd.prog) _ 76 5 9 (by kernel_rfl) (by kernel_rfl) (by kernel_rfl) _ 0 (qb [c]) hb 1
def UnusedOut (e : Ending) (ns : List Nd) (sc : List Nm) : Prop := ∃ k, k < 17576 ∧ e = .returned (.string (qn k)) ∧ qn k ∉ namesOf ns sc
set_option maxRecDepth 100000 in
set_option maxHeartbeats 4000000 in
theorem unused_any (w : World) (a : Option Addr) (n c : Nat) (ns : List Nd) (hr : RS 7 Nd.cs w a n c ns) (sa : Option Addr) (sn sc' : Nat) (sc : List Nm) (hsc : RS 3 Nm.cs w sa sn sc' sc) (hn : n ≤ 5000) (hsn : sn ≤ 500) :
    Calls Tryd.prog 19 #[.slice a n c, .slice sa sn sc'] w fun e w' => UnusedOut e ns sc ∧ Below w.heap.size w w' := by
  have HNL := Lib.hid (show (namesOf ns sc).length = n + sn by unfold namesOf; rw [List.length_append, List.length_map, List.length_map, hr.1, hsc.1])
  have HR := Lib.hid hr
  have HSC := Lib.hid hsc
  clear hr hsc
  have hq0 : qn 0 = { data := #[113] } := by unfold qn; rw [digs_zero]; rfl
  have HQ0 := Lib.hid hq0
  clear hq0
  go_enter Tryd.func19, Tryd.ntmps19
  go_wp2_with fail
  go_loopw [5, 6] (fun s i wr => ∃ k : Nat, k ≤ n + sn + 1 ∧ i = .int .i64 (k : Int) ∧ s = .string (qn (k - 1)) ∧ Below w.heap.size w wr ∧ ∀ j, j < k - 1 → qn j ∈ namesOf ns sc) (fun _ i _ => n + sn + 1 - (intOf i).toNat)
  case atStart => exact ⟨0, by omega, rfl, by rw [show 0 - 1 = 0 from rfl, HQ0.out], Below.refl _ _, fun j h => by omega⟩
  case round =>
    obtain ⟨k, hk, rfl, rfl, hb, hin⟩ := hrel
    obtain ⟨wk, rfl⟩ : ∃ wk : World, wk = wr := ⟨_, rfl⟩
    have HB := Lib.hid hb
    have HIN := Lib.hid hin
    have zk := hb.size
    clear hb hin
    go_wp2_with fail
    with_reducible refine (stands_any wk a n c ns (HR.out.below HB.out) sa sn sc' sc (HSC.out.below HB.out) (qn (k - 1))).mono ?_
    rintro e w2 ⟨hst, hb2⟩
    have HB2 := Lib.hid (HB.out.trans (hb2.mono zk))
    have z2 := hb2.size
    clear hb2
    rcases hst with ⟨rfl, hyes⟩ | ⟨rfl, hno⟩
    · have HY := Lib.hid hyes
      clear hyes
      have hkN : k ≤ n + sn := by
        rcases Nat.lt_or_ge (n + sn) k with h | h
        · have e : k = n + sn + 1 := by omega
          subst e
          refine (qn_free (namesOf ns sc) (n + sn) (by rw [HNL.out]; exact Nat.le_refl _) fun j hj => ?_).elim
          by_cases e : j = n + sn
          · subst e; exact HY.out
          · exact HIN.out j (by omega)
        · exact h
      have hkI : (k : Int) ≤ (n : Int) + (sn : Int) := by omega
      go_wp2_with fail
      go_loopw [5, 7] (fun s i wr => ∃ (d : List UInt8) (q : Nat), s = .string (qb (113 :: d)) ∧ i = .int .i64 (q : Int) ∧ d ++ digs q = digs k ∧ q ≤ k ∧ Below w.heap.size w wr) (fun _ i _ => (intOf i).toNat)
      case atStart => exact ⟨[], k, by congr 1, rfl, rfl, Nat.le_refl _, HB2.out⟩
      case round =>
        obtain ⟨d, q, rfl, rfl, hd, hqk, hb⟩ := hrel
        have HB3 := Lib.hid hb
        have HD := Lib.hid hd
        have z3 := hb.size
        have hdl : d.length ≤ 3 := by
          have h1 := digs_len 3 k (by omega)
          rw [← hd, List.length_append] at h1
          omega
        clear hb hd
        by_cases hq : 0 < q
        · have hqI : (0 : Int) < (q : Int) := by omega
          have hc := conv_byte wr (UInt8.ofNat (97 + q % 26))
          rw [dig_nat, show ((97 + q % 26 : Nat) : Int) = 97 + (q : Int) % 26 by omega] at hc
          generalize hcc : UInt8.ofNat (97 + q % 26) = cc at hc
          have HCC := Lib.hid hcc
          clear hcc
          have hsz : (qb (113 :: d)).size = d.length + 1 := by simp [qb, ByteArray.size]
          have hs1 : (qb [cc]).size = 1 := by simp [qb, ByteArray.size]
          have hap := qb_append (113 :: d) [cc]
          go_wp2_with fail
          go_roundw
          case rel => exact ⟨d ++ [cc], q / 26, rfl, by congr 1, by rw [← HCC.out, ← HD.out, digs_pos hq, List.append_assoc]; rfl, by omega, HB3.out.alloc (by omega) _⟩
          case measure => simp [intOf] <;> omega
        · have hqI : ¬ (0 : Int) < (q : Int) := by omega
          obtain rfl : q = 0 := by omega
          go_wp2_with fail
          go_roundw
          case rel =>
            refine ⟨k + 1, by omega, by go_num, ?_, HB3.out, fun j hj => ?_⟩
            · have := HD.out
              rw [digs_zero, List.append_nil] at this
              rw [this]; rfl
            · by_cases e : j = k - 1
              · rw [e]; exact HY.out
              · exact HIN.out j (by omega)
          case measure => simp [intOf] <;> omega
    · have HN := Lib.hid hno
      clear hno
      go_wp2
      go_ret
      exact ⟨⟨k - 1, by omega, rfl, HN.out⟩, HB2.out⟩
end Go.Proofs.YtakaoacialnjaaaDoor
namespace Go.Proofs.YtakaoacialnjaaaDoor
open Go Go.RowKit
set_option linter.unusedVariables false
set_option linter.unusedSimpArgs false
/-! Plain law: a name in a part's place. -/
/-- What is asked of the kept nodes as trees. -/
structure KeptT (ns : List Nd) (keep : List Bool) : Prop where
  one : ∀ (i : Nat) (nd : Nd), ns[i]? = some nd → kp keep i = true → nd.right = true ∧ nd.ks.length = nd.kl ∧ nd.ks.Nodup ∧ ∀ k ∈ nd.ks, 0 ≤ k ∧ k < (i : Int) ∧ kp keep k.toNat = true
  two : ∀ (i j : Nat) (u v : Nd) (x : Int), ns[i]? = some u → ns[j]? = some v → kp keep i = true → kp keep j = true → x ∈ u.ks → x ∈ v.ks → i = j
theorem mov_from {ns us : List Nd} {keep : List Bool} {p : Nat} (hM : Mov ns keep p us) (j : Nat) (u : Nd) (hj : us[j]? = some u) : ∃ i nd, i < ns.length ∧ kp keep i = true ∧ nk keep i = j ∧ ns[i]? = some nd ∧ u.op = nd.op ∧ u.nm = nd.nm ∧ u.right = nd.right ∧ u.ks = nd.ks.map fun k => ((plc p keep k.toNat : Nat) : Int) := by
  have hjl : j < nk keep ns.length := by rw [← hM.len]; exact (List.getElem?_eq_some_iff.1 hj).1
  obtain ⟨i, h1, h2, h3⟩ := nk_surj keep ns.length j hjl
  obtain ⟨u', hu', e1, e2, e3, e4, e5, e6, e7, e8⟩ := hM.has i _ (List.getElem?_eq_getElem h1) h2
  rw [h3, hj] at hu'
  obtain rfl := Option.some.inj hu'
  exact ⟨i, _, h1, h2, h3, List.getElem?_eq_getElem h1, e1, e2, by unfold Nd.right; rw [e1, e2, e3, e4, e5, e6, e7], e8⟩
theorem cut_trees {ns us : List Nd} {keep : List Bool} (hK : KeptT ns keep) (hM : Mov ns keep 0 us) : treesB us = true := by
  rw [treesB_iff, flat_nodup]
  refine ⟨fun j nd hj => ?_, fun i u hi => ?_, fun i j u v x hi hj hxu hxv => ?_⟩
  · obtain ⟨i, nd', h1, h2, h3, h4, h5, h6, h7, h8⟩ := mov_from hM _ _ hj
    obtain ⟨g1, g2, g3, g4⟩ := hK.one i nd' h4 h2
    refine ⟨by rw [h7]; exact g1, fun k hk => ?_⟩
    rw [h8] at hk
    obtain ⟨q, hq, rfl⟩ := List.mem_map.1 hk
    obtain ⟨q1, q2, q3⟩ := g4 q hq
    rw [plc_eq q3]
    have := nk_lt keep (show q.toNat < i by omega) q3
    omega
  · obtain ⟨i', nd', h1, h2, h3, h4, h5, h6, h7, h8⟩ := mov_from hM _ _ hi
    obtain ⟨g1, g2, g3, g4⟩ := hK.one i' nd' h4 h2
    rw [h8]
    unfold List.Nodup
    rw [List.pairwise_map]
    refine List.Pairwise.imp_of_mem ?_ g3
    intro a b ha' hb' hab he
    obtain ⟨a1, a2, a3⟩ := g4 a ha'
    obtain ⟨b1, b2, b3⟩ := g4 b hb'
    rw [plc_eq a3, plc_eq b3] at he
    have := nk_inj keep a3 b3 (by omega)
    exact hab (by omega)
  · obtain ⟨i', nd, h1, h2, h3, h4, h5, h6, h7, h8⟩ := mov_from hM _ _ hi
    obtain ⟨j', nd', k1, k2, k3, k4, k5, k6, k7, k8⟩ := mov_from hM _ _ hj
    rw [h8] at hxu
    rw [k8] at hxv
    obtain ⟨q, hq, hqx⟩ := List.mem_map.1 hxu
    obtain ⟨r, hr, hrx⟩ := List.mem_map.1 hxv
    obtain ⟨a1, a2, a3⟩ := (hK.one i' nd h4 h2).2.2.2 q hq
    obtain ⟨b1, b2, b3⟩ := (hK.one j' nd' k4 k2).2.2.2 r hr
    rw [plc_eq a3] at hqx
    rw [plc_eq b3] at hrx
    have he := nk_inj keep a3 b3 (by omega)
    have hqr : q = r := by omega
    subst hqr
    have := hK.two i' j' nd nd' q h4 k4 h2 k2 hq hr
    subst this
    omega
/-- The first u nodes have their kinds. -/
def KU (sc : List Nm) (r : List (Int × Bool)) (ns : List Nd) (u : Nat) : Prop := r.length = u ∧ u ≤ ns.length ∧ ∀ (i : Nat) (nd : Nd), i < u → ns[i]? = some nd → ∃ x, r[i]? = some x ∧ lookK sc (r.take i) nd.op nd.nm.toList (nd.ks.map Int.toNat) = (x, 0)
theorem KU.kinds {sc : List Nm} {r : List (Int × Bool)} {ns : List Nd} (h : KU sc r ns ns.length) : Kinds sc r ns := ⟨h.1, fun i nd hi => h.2.2 i nd (List.getElem?_eq_some_iff.1 hi).1 hi⟩
theorem KU.of {sc : List Nm} {r : List (Int × Bool)} {ns : List Nd} (h : Kinds sc r ns) : KU sc r ns ns.length := ⟨h.1, Nat.le_refl _, fun i nd _ hi => h.2 i nd hi⟩
theorem KU.take {sc : List Nm} {r : List (Int × Bool)} {ns : List Nd} {u : Nat} (h : KU sc r ns u) : Kinds sc r (ns.take u) := by
  refine ⟨by rw [h.1, List.length_take]; have := h.2.1; omega, fun i nd hi => ?_⟩
  have hu : i < u := by have := (List.getElem?_eq_some_iff.1 hi).1; rw [List.length_take] at this; omega
  rw [List.getElem?_take_of_lt hu] at hi
  exact h.2.2 i nd hu hi
theorem fail_of {sc : List Nm} {r : List (Int × Bool)} {ns : List Nd} {u : Nat} (h : KU sc r ns u) {nd : Nd} (hn : ns[u]? = some nd) {er : Int} (he : (lookK sc r nd.op nd.nm.toList (nd.ks.map Int.toNat)).2 = er) (h0 : er ≠ 0) :
    ∀ i, i ≤ u → ofF sc i (r.take i) (ns.drop i) = ([], u, er) := by
  intro i hi
  obtain ⟨d, hd⟩ : ∃ d, d = u - i := ⟨_, rfl⟩
  induction d generalizing i with
  | zero =>
    obtain rfl : i = u := by omega
    rw [drop_cons hn]
    simp only [ofF]
    rw [← h.1, List.take_length, he, if_neg h0, h.1]
  | succ d ih =>
    have hlt : i < u := by omega
    have hil : i < ns.length := by have := h.2.1; omega
    have hn' := List.getElem?_eq_getElem hil
    obtain ⟨x, hx, hl⟩ := h.2.2 i _ hlt hn'
    rw [drop_cons hn']
    simp only [ofF]
    rw [hl]
    simp only [if_true]
    have := ih (i + 1) (by omega) (by omega)
    rw [List.take_add_one, hx] at this
    exact this
theorem fail_to (sc : List Nm) (ns : List Nd) : ∀ (pre : List (Int × Bool)), (ofF sc pre.length pre ns).2.2 ≠ 0 →
    ∃ i nd r, (ofF sc pre.length pre ns).2.1 = pre.length + i ∧ ns[i]? = some nd ∧ r.length = i ∧ (lookK sc (pre ++ r) nd.op nd.nm.toList (nd.ks.map Int.toNat)).2 = (ofF sc pre.length pre ns).2.2 ∧
      ∀ (j : Nat) (nd' : Nd), j < i → ns[j]? = some nd' → ∃ x, r[j]? = some x ∧ lookK sc (pre ++ r.take j) nd'.op nd'.nm.toList (nd'.ks.map Int.toNat) = (x, 0) := by
  induction ns with
  | nil => intro pre h; exact absurd rfl h
  | cons n t ih =>
    intro pre h
    simp only [ofF] at h ⊢
    by_cases hl : (lookK sc pre n.op n.nm.toList (n.ks.map Int.toNat)).2 = 0
    · rw [if_pos hl] at h ⊢
      have e : pre.length + 1 = (pre ++ [(lookK sc pre n.op n.nm.toList (n.ks.map Int.toNat)).1]).length := by simp
      rw [e] at h ⊢
      obtain ⟨i, nd, r, h1, h2, h3, h4, h5⟩ := ih _ h
      refine ⟨i + 1, nd, (lookK sc pre n.op n.nm.toList (n.ks.map Int.toNat)).1 :: r, by rw [h1]; simp; omega, by simpa using h2, by simp [h3], ?_, ?_⟩
      · rw [← h4, List.append_assoc]; rfl
      · intro j nd' hj hn
        cases j with
        | zero =>
          simp only [List.getElem?_cons_zero, Option.some.injEq] at hn
          subst hn
          exact ⟨_, rfl, by rw [List.take_zero, List.append_nil]; exact Prod.ext rfl hl⟩
        | succ j =>
          obtain ⟨x, hx, hx2⟩ := h5 j nd' (by omega) (by simpa using hn)
          refine ⟨x, by simpa using hx, ?_⟩
          rw [List.append_assoc] at hx2
          exact hx2
    · rw [if_neg hl] at h ⊢
      exact ⟨0, n, [], rfl, rfl, rfl, by rw [List.append_nil], fun j nd' hj => by omega⟩
/-- What Of answers: kinds for all, or the first node that has none. -/
theorem ofK_cases {ns : List Nd} {sc : List Nm} (hT : treesB ns = true) (h : (ofK ns sc).2.2 ≠ 0) :
    ∃ nd r, KU sc r ns (ofK ns sc).2.1 ∧ ns[(ofK ns sc).2.1]? = some nd ∧ (lookK sc r nd.op nd.nm.toList (nd.ks.map Int.toNat)).2 = (ofK ns sc).2.2 := by
  unfold ofK at h ⊢
  rw [if_pos hT] at h ⊢
  obtain ⟨i, nd, r, h1, h2, h3, h4, h5⟩ := fail_to sc ns [] h
  simp only [List.length_nil, Nat.zero_add, List.nil_append] at h1 h4 h5
  rw [h1]
  refine ⟨nd, r, ⟨h3, Nat.le_of_lt (List.getElem?_eq_some_iff.1 h2).1, h5⟩, h2, h4⟩
theorem ofK_eight {ns : List Nd} {sc : List Nm} (h : (ofK ns sc).2.2 ≠ 8) : treesB ns = true := by
  unfold ofK at h
  split at h
  · assumption
  · exact absurd rfl h
theorem trees_take {ns : List Nd} (h : treesB ns = true) (u : Nat) : treesB (ns.take u) = true := by
  rw [treesB_iff, flat_nodup] at h ⊢
  obtain ⟨h1, h2, h3⟩ := h
  have g : ∀ {i : Nat} {nd : Nd}, (ns.take u)[i]? = some nd → ns[i]? = some nd := by
    intro i nd hi
    have hu : i < u := by have := (List.getElem?_eq_some_iff.1 hi).1; rw [List.length_take] at this; omega
    rwa [List.getElem?_take_of_lt hu] at hi
  exact ⟨fun j nd hj => h1 j nd (g hj), fun i u hi => h2 i u (g hi), fun i j u v x hi hj => h3 i j u v x (g hi) (g hj)⟩
theorem namedK_new {sc : List Nm} {x : Nm} {l : List UInt8} (h : x.nm.toList ≠ l) : namedK (x :: sc) l = namedK sc l := by
  unfold namedK
  rw [List.find?_cons]
  have : isNm l x = false := by unfold isNm; simpa using h
  rw [this]
theorem lookK_new {sc : List Nm} {x : Nm} (ks : List (Int × Bool)) (op : Int) {nm : List UInt8} (kids : List Nat) (h : x.nm.toList ≠ nm) : lookK (x :: sc) ks op nm kids = lookK sc ks op nm kids := by
  unfold lookK
  rw [namedK_new h]
/-- The node that is laid in a part's place. -/
def inPl (name : ByteArray) (b : Int) : Nd := if b = 0 then ⟨4, ByteArray.empty, 0, 0, ByteArray.empty, none, 0, 0, none, 0, 0, []⟩ else ⟨5, name, 0, 0, ByteArray.empty, none, 0, 0, none, 0, 0, []⟩
theorem inPl_ks (name : ByteArray) (b : Int) : (inPl name b).ks = [] ∧ (inPl name b).kl = 0 := by unfold inPl; split <;> exact ⟨rfl, rfl⟩
theorem inPl_right {name : ByteArray} (h : legalB name.data.toList = true) (b : Int) : (inPl name b).right = true := by
  unfold inPl
  split
  · decide +kernel
  · show rightB 5 name.data.toList 0 0 ByteArray.empty.data.toList 0 0 = true
    unfold rightB
    have e1 : kidsN 5 = 0 := by decide
    have e2 : namedB 5 = true := by decide
    have e3 : valB 5 0 0 ByteArray.empty.data.toList = true := by decide +kernel
    rw [e1, e2, e3, h]; simp
theorem k11_cases {b : Int} {o : Bool} (h : (b, o) ∈ K11) : (b = 0 ∧ o = true) ∨ (1 ≤ b ∧ b ≤ 5) := by
  simp only [K11, List.mem_cons, Prod.mk.injEq, List.not_mem_nil, or_false] at h
  rcases h with h | h | h | h | h | h | h | h | h | h | h <;> obtain ⟨rfl, rfl⟩ := h <;> simp
theorem inPl_look {sc : List Nm} {name : ByteArray} {b : Int} {o : Bool} (h : (b, o) ∈ K11) (ks : List (Int × Bool)) : lookK (⟨name, b, o⟩ :: sc) ks (inPl name b).op (inPl name b).nm.toList ((inPl name b).ks.map Int.toNat) = ((b, o), 0) := by
  rcases k11_cases h with ⟨rfl, rfl⟩ | ⟨h1, h2⟩
  · unfold inPl; rw [if_pos rfl]; simp [lookK]
  · unfold inPl
    rw [if_neg (by omega)]
    have hn : namedK (⟨name, b, o⟩ :: sc) name.toList = ((b, o), true) := by
      unfold namedK
      rw [List.find?_cons]
      have : isNm name.toList ⟨name, b, o⟩ = true := by unfold isNm; simp
      rw [this]
      simp [h1, h2]
    simp [lookK, hn]
theorem ku_k11 {sc : List Nm} {r : List (Int × Bool)} {ns : List Nd} {u : Nat} (hT : treesB ns = true) (hl : ∀ nd ∈ ns, nd.ks.length = nd.kl) (h : KU sc r ns u) : ∀ (i : Nat) (x : Int × Bool), r[i]? = some x → x ∈ K11 := by
  intro i
  induction i using Nat.strongRecOn with
  | ind i ih =>
    intro x hx
    have hiu : i < u := by rw [← h.1]; exact (List.getElem?_eq_some_iff.1 hx).1
    obtain ⟨nd, hn⟩ : ∃ nd, ns[i]? = some nd := ⟨_, List.getElem?_eq_getElem (l := ns) (i := i) (by have := h.2.1; omega)⟩
    obtain ⟨y, hy, hlk⟩ := h.2.2 i nd hiu hn
    rw [hx] at hy
    obtain rfl := Option.some.inj hy
    obtain ⟨hr, hks⟩ := treesB_ok hT i nd hn
    obtain ⟨q1, q2⟩ := right_kids hr
    have := look_k11 sc (r.take i) (fun k hk => by
      obtain ⟨j, hj⟩ := List.getElem?_of_mem hk
      have hji : j < i := by have := (List.getElem?_eq_some_iff.1 hj).1; rw [List.length_take] at this; omega
      rw [List.getElem?_take_of_lt hji] at hj
      exact ih j hji k hj) nd.op nd.nm.toList (nd.ks.map Int.toNat) (fun k hk => by
      obtain ⟨q, hq, rfl⟩ := List.mem_map.1 hk
      have := hks q hq
      rw [List.length_take, h.1]; omega) q1 (by rw [List.length_map, hl nd (List.mem_of_getElem? hn)]; exact q2) (by rw [hlk])
    rw [hlk] at this
    exact this
/-- Kept: what does not stand beneath, and the root itself. -/
def Outside (bs keep : List Bool) (k n : Nat) : Prop := ∀ i, i < n → kp keep i = (!kp bs i || i == k)
theorem swap_kept {ns : List Nd} (hT : treesB ns = true) (hl : ∀ nd ∈ ns, nd.ks.length = nd.kl) {k : Nat} (hk : k < ns.length) {bs keep : List Bool} (hb : Ben ns k bs) (ho : Outside bs keep k ns.length) {nn : Nd} (hr : nn.right = true) (hn : nn.ks = [] ∧ nn.kl = 0) : KeptT (ns.set k nn) keep := by
  obtain ⟨h1, h2⟩ := (treesB_iff ns).1 hT
  obtain ⟨h3, h4⟩ := (flat_nodup ns).1 h2
  have hv : ∀ {i : Nat} {nd : Nd}, (ns.set k nn)[i]? = some nd → (i = k ∧ nd = nn) ∨ (i ≠ k ∧ ns[i]? = some nd) := by
    intro i nd hi
    rw [List.getElem?_set] at hi
    by_cases e : k = i
    · rw [if_pos e, if_pos (by omega)] at hi
      exact .inl ⟨e.symm, (Option.some.inj hi).symm⟩
    · rw [if_neg e] at hi
      exact .inr ⟨fun h => e h.symm, hi⟩
  constructor
  · intro i nd hi hki
    rcases hv hi with ⟨rfl, rfl⟩ | ⟨hne, hi'⟩
    · exact ⟨hr, by rw [hn.1, hn.2]; rfl, by rw [hn.1]; exact List.nodup_nil, by rw [hn.1]; simp⟩
    · obtain ⟨g1, g2⟩ := h1 i nd hi'
      have hil : i < ns.length := (List.getElem?_eq_some_iff.1 hi').1
      refine ⟨g1, hl nd (List.mem_of_getElem? hi'), h3 i nd hi', fun q hq => ⟨(g2 q hq).1, (g2 q hq).2, ?_⟩⟩
      have hq1 := g2 q hq
      rw [ho q.toNat (by omega)]
      by_cases e : q.toNat = k
      · simp [e]
      · have hbq : kp bs q.toNat = false := by
          cases hb2 : kp bs q.toNat with
          | false => rfl
          | true =>
            rcases hb.up q.toNat hb2 with h | ⟨j, nd', hj, hbj, hm⟩
            · exact absurd h e
            · have hqq : ((q.toNat : Nat) : Int) = q := by omega
              rw [hqq] at hm
              have hij := h4 i j nd nd' q hi' hj hq hm
              subst hij
              rw [ho i hil, hbj] at hki
              simp at hki
              exact absurd hki hne
        simp [hbq]
  · intro i j u v x hi hj _ _ hxu hxv
    rcases hv hi with ⟨_, rfl⟩ | ⟨_, hi'⟩
    · rw [hn.1] at hxu; cases hxu
    · rcases hv hj with ⟨_, rfl⟩ | ⟨_, hj'⟩
      · rw [hn.1] at hxv; cases hxv
      · exact h4 i j u v x hi' hj' hxu hxv
theorem sim_at {sc : List Nm} {l : List (Int × Bool)} {vs us : List Nd} {keep : List Bool} {u : Nat} (hKT : KeptT vs keep) (hM : Mov vs keep 0 us) (hlu : l.length = u) {i : Nat} {nd um : Nd} (hi : vs[i]? = some nd) (hk : kp keep i = true) (hiu : i ≤ u) (hum : us[nk keep i]? = some um) (e1 : um.op = nd.op) (e2 : um.nm = nd.nm) (e3 : um.ks = nd.ks.map fun k => ((plc 0 keep k.toNat : Nat) : Int)) :
    lookK sc (((kidx keep u).map fun i => l.getD i (0, false)).take (nk keep i)) um.op um.nm.toList (um.ks.map Int.toNat) = lookK sc (l.take i) nd.op nd.nm.toList (nd.ks.map Int.toNat) := by
  obtain ⟨g1, g2, g3, g4⟩ := hKT.one i nd hi hk
  rw [e1, e2, e3, List.map_map]
  have hf : (Int.toNat ∘ fun k : Int => ((plc 0 keep k.toNat : Nat) : Int)) = (plc 0 keep) ∘ Int.toNat := by funext k; simp
  rw [hf, ← List.map_map]
  refine lookK_sim g1 sc (by rw [List.length_map, g2]) ?_
  intro k hk
  obtain ⟨q, hq, rfl⟩ := List.mem_map.1 hk
  obtain ⟨a1, a2, a3⟩ := g4 q hq
  have hlt := nk_lt keep (show q.toNat < i by omega) a3
  rw [plc_eq a3, Nat.zero_add, List.getD_eq_getElem?_getD, List.getD_eq_getElem?_getD, List.getElem?_take_of_lt hlt, List.getElem?_take_of_lt (by omega), List.getElem?_map, kidx_at keep _ q.toNat (by omega) a3,
    Option.map_some, List.getD_eq_getElem?_getD, List.getElem?_eq_getElem (by omega)]
  rfl
theorem swap_law {ns us : List Nd} {sc : List Nm} {l : List (Int × Bool)} {u k : Nat} (hT : treesB ns = true) (hl : ∀ nd ∈ ns, nd.ks.length = nd.kl) (hKU : KU sc l ns u) (hk : k < u) {bs keep : List Bool} (hb : Ben ns k bs) (ho : Outside bs keep k ns.length)
    {name : ByteArray} (hleg : legalB name.data.toList = true) (hnm : name ∉ namesOf ns sc) {b : Int} {o : Bool} (hlk : l[k]? = some (b, o)) (hM : Mov (ns.set k (inPl name b)) keep 0 us) :
    (u = ns.length → ∃ ms, ofK us (⟨name, b, o⟩ :: sc) = (ms, 0, 0) ∧ ms.length = us.length ∧ ∀ i, i < ns.length → kp keep i = true → ms[plc 0 keep i]? = l[i]?) ∧
    (∀ nd er, ns[u]? = some nd → kp keep u = true → (lookK sc l nd.op nd.nm.toList (nd.ks.map Int.toNat)).2 = er → er ≠ 0 → ofK us (⟨name, b, o⟩ :: sc) = ([], nk keep u, er)) := by
  have hun := hKU.2.1
  have hKT := swap_kept hT hl (by omega) hb ho (inPl_right hleg b) (inPl_ks name b)
  have hTU := cut_trees hKT hM
  have h11 := ku_k11 hT hl hKU k _ hlk
  have hset : ∀ {i : Nat} {nd : Nd}, i ≠ k → ns[i]? = some nd → (ns.set k (inPl name b))[i]? = some nd := by
    intro i nd hne hi
    rw [List.getElem?_set, if_neg (fun e => hne e.symm)]; exact hi
  have hnew : ∀ {i : Nat} {nd : Nd}, ns[i]? = some nd → (⟨name, b, o⟩ : Nm).nm.toList ≠ nd.nm.toList := by
    intro i nd hi he
    refine hnm (List.mem_append_left _ (List.mem_map.2 ⟨nd, List.mem_of_getElem? hi, ?_⟩))
    exact (toList_inj (by simpa using he)).symm
  have hKU2 : KU (⟨name, b, o⟩ :: sc) ((kidx keep u).map fun i => l.getD i (0, false)) us (nk keep u) := by
    refine ⟨by rw [List.length_map, kidx_len], by rw [hM.len, List.length_set]; exact nk_mono keep hun, fun j um hj hum => ?_⟩
    obtain ⟨i, nd, h1, h2, h3, h4, h5, h6, h7, h8⟩ := mov_from hM j um hum
    have hiu : i < u := by
      rcases Nat.lt_or_ge i u with h | h
      · exact h
      · have := nk_mono keep h; omega
    rw [← h3] at hum ⊢
    rw [List.getElem?_map, kidx_at keep u i hiu h2, Option.map_some, List.getD_eq_getElem?_getD]
    rw [sim_at hKT hM hKU.1 h4 h2 (Nat.le_of_lt hiu) hum h5 h6 h8]
    by_cases e : i = k
    · subst e
      rw [List.getElem?_set, if_pos rfl, if_pos (by omega)] at h4
      obtain rfl := Option.some.inj h4
      exact ⟨(b, o), by rw [hlk]; rfl, inPl_look h11 _⟩
    · rw [List.getElem?_set, if_neg (fun h => e h.symm)] at h4
      obtain ⟨x, hx, hlx⟩ := hKU.2.2 i nd hiu h4
      exact ⟨x, by rw [hx]; rfl, by rw [lookK_new _ _ _ (hnew h4)]; exact hlx⟩
  constructor
  · intro hu
    have hlen : us.length = nk keep u := by rw [hM.len, List.length_set, hu]
    rw [← hlen] at hKU2
    refine ⟨_, ofK_of hTU hKU2.kinds, hKU2.1, fun i hi hki => ?_⟩
    rw [plc_eq hki, Nat.zero_add, List.getElem?_map, kidx_at keep u i (by omega) hki, Option.map_some, List.getD_eq_getElem?_getD, List.getElem?_eq_getElem (by rw [hKU.1]; omega)]
    rfl
  · intro nd er hnd hku he h0
    have hne : u ≠ k := by omega
    obtain ⟨um, hum, e1, e2, e3, e4, e5, e6, e7, e8⟩ := hM.has u nd (hset hne hnd) hku
    have hs := sim_at (sc := ⟨name, b, o⟩ :: sc) hKT hM hKU.1 (hset hne hnd) hku (Nat.le_refl _) hum e1 e2 e8
    rw [List.take_of_length_le (by rw [List.length_map, kidx_len]; exact Nat.le_refl _), List.take_of_length_le (by rw [hKU.1]; exact Nat.le_refl _), lookK_new _ _ _ (hnew hnd)] at hs
    have := fail_of hKU2 hum (by rw [hs]; exact he) h0 0 (Nat.zero_le _)
    unfold ofK
    rw [if_pos hTU]
    simpa using this
end Go.Proofs.YtakaoacialnjaaaDoor
namespace Go.Proofs.YtakaoacialnjaaaDoor
open Go Go.RowKit
set_option linter.unusedVariables false
set_option linter.unusedSimpArgs false
def SwapL (ns : List Nd) (sc : List Nm) (n at' : Nat) (er : Int) (l : List (Int × Bool)) (u : Nat) : Prop :=
  KU sc l ns u ∧ ((er = 0 ∧ u = n) ∨ (er ≠ 0 ∧ at' = u ∧ u < n ∧ ∃ nd, ns[u]? = some nd ∧ (lookK sc l nd.op nd.nm.toList (nd.ks.map Int.toNat)).2 = er))
def SwapC (w wx : World) (ns : List Nd) (sc : List Nm) (n at' : Nat) (er : Int) (s7 s10 : Value) : Prop :=
  ∃ la lc l u, s7 = .slice la u lc ∧ s10 = .int .i64 (u : Int) ∧ wx.ownsRow w.heap.size 30 2 (.slice la u lc) u (l.flatMap Kd) ∧ SwapL ns sc n at' er l u ∧ Below w.heap.size w wx
theorem KU.of_take {ns : List Nd} {sc : List Nm} {r : List (Int × Bool)} {u : Nat} (hT : treesB ns = true) (h : KU sc r ns u) : ofK (ns.take u) sc = (r, 0, 0) := ofK_of (trees_take hT u) h.take
theorem rs_take {α : Type} {s : Nat} {enc : α → List Value} {w : World} {a : Option Addr} {n c : Nat} {xs : List α} (h : RS s enc w a n c xs) {u : Nat} (hu : u ≤ n) : RS s enc w a u c (xs.take u) := by
  obtain ⟨h1, h2, h3, h4⟩ := h
  refine ⟨by rw [List.length_take]; omega, by omega, by omega, fun i x hx => ?_⟩
  have hi : i < u := by have := (List.getElem?_eq_some_iff.1 hx).1; rw [List.length_take] at this; omega
  rw [List.getElem?_take_of_lt hi] at hx
  exact h4 i x hx
def keepL (bs : List Bool) (k n i : Nat) : List Bool := (List.range n).map fun j => if j < i then (!kp bs j || j == k) else false
theorem keepL_len (bs : List Bool) (k n i : Nat) : (keepL bs k n i).length = n := by simp [keepL]
theorem keepL_zero (bs : List Bool) (k n : Nat) : keepL bs k n 0 = List.replicate n false := by
  apply List.ext_getElem?
  intro i
  simp only [keepL, List.getElem?_map, List.getElem?_replicate]
  by_cases h : i < n
  · simp [h]
  · simp [h]
theorem keepL_at (bs : List Bool) (k n i : Nat) (hi : i < n) : (keepL bs k n i)[i]? = some false := by simp [keepL, hi]
theorem keepL_set (bs : List Bool) (k n i : Nat) (hi : i < n) : (keepL bs k n i).set i (!kp bs i || i == k) = keepL bs k n (i + 1) := by
  apply List.ext_getElem?
  intro j
  rw [List.getElem?_set, keepL_len]
  by_cases e : i = j
  · subst e
    rw [if_pos rfl, if_pos hi]; simp [keepL, hi]
  · rw [if_neg e]
    simp only [keepL, List.getElem?_map]
    by_cases h : j < n
    · simp only [List.getElem?_range h, Option.map_some]
      by_cases hl : j < i
      · rw [if_pos hl, if_pos (by omega)]
      · rw [if_neg hl, if_neg (by omega)]
    · rw [List.getElem?_eq_none (by simpa using h)]; rfl
theorem keepL_out (bs : List Bool) (k n : Nat) : Outside bs (keepL bs k n n) k n := by
  intro i hi
  unfold kp
  rw [List.getD_eq_getElem?_getD]
  simp [keepL, hi, kp]
section
variable {P : Program} {w : World} {ops : Array Oper} {rest : List Oper} {o : Oper} {a : Act} {Q : Exit → Act → World → Prop}
/-- append(v, src...), v owned, src nil or not. -/
theorem L_appendE (hgd : o.guard = none) (s x : Operand) (t : TypeId) (ho : o.op = .call { callee := .builtin .append, args := #[s, x], argTypes := #[t, t] })
    {e : TypeId} {z : Value} {size bytes : Nat} (T : Sl P t e z size bytes) (base : Nat) (av : Option Addr) (n cv : Nat) (xs : List Value) (hs : a.eval s = .slice av n cv) (hown : w.ownsRow base e size (.slice av n cv) n xs) (aa : Option Addr) (m c : Nat) (l : List Value) (hx : a.eval x = .slice aa m c)
    (hsrc : (aa = none ∧ m = 0 ∧ c = 0 ∧ l = []) ∨ ∃ ad, aa = some ad ∧ ∀ j u, l[j]? = some u → w.cell? (ad.add j) = some u) (hl : l.length = m * size) (h1 : ∀ u ∈ l, u.oneCell' = true) (hb : (n + m) * bytes ≤ 140737488355328) (hm : n + m ≤ maxLen) (hbase : base ≤ w.heap.size)
    (h : ∀ a' c' w', w'.ownsRow base e size (.slice a' (n + m) c') (n + m) (xs ++ l) → w.grownBy w' (Value.slice av n cv).ownBlock → wpList P ops Q rest (a.put o.dst (.slice a' (n + m) c')) w') : wpList P ops Q (o :: rest) a w := by
  rcases hsrc with ⟨rfl, rfl, rfl, rfl⟩ | ⟨ad, rfl, hc⟩
  · obtain ⟨i, hi, hz0, hz1, hz2⟩ := info_parts T.inf
    refine wpList_append_own_none hgd s x t ho base e i size T.und hi _ n xs hs hown hx (h av cv w ?_ ⟨rfl, rfl, rfl, Nat.le_refl _, fun _ _ _ => rfl⟩)
    simpa using hown
  · exact L_appendN hgd s x t ho T base _ n xs hs hown ad m c l hx hl hc h1 hb hm hbase fun a' c' w' h2 h3 _ => h a' c' w' h2 h3
end
theorem inPl_ok (w : World) {name : ByteArray} (hn : name.size ≤ maxLen) (b : Int) : (inPl name b).ok w := by
  unfold inPl
  split
  · exact ⟨⟨rfl, Nat.le_refl _, by show (0 : Nat) ≤ _; omega, fun i x h => by simp at h⟩, by show (0 : Nat) ≤ _; omega, by show (_ : Int) ≤ 0; omega, by show (0 : Int) ≤ _; omega⟩
  · exact ⟨⟨rfl, Nat.le_refl _, by show (0 : Nat) ≤ _; omega, fun i x h => by simp at h⟩, hn, by show (_ : Int) ≤ 0; omega, by show (0 : Int) ≤ _; omega⟩
theorem own_low {w w' : World} {B e s n g : Nat} {v : Value} {xs : List Value} (h : w.ownsRow B e s v n xs) (hb : Below g w w') (hlt : ∀ q, v.ownBlock = some q → q < g) : w'.ownsRow B e s v n xs := by
  refine ⟨h.1, ?_⟩
  rcases h.2 with hn | ⟨g', cap, cur, rfl, hb', hgg, rest⟩
  · exact .inl hn
  · refine .inr ⟨g', cap, cur, rfl, hb', ?_, rest⟩
    rw [hb.block g' (hlt g' rfl)]
    exact hgg
theorem one_nds {l : List Nd} : ∀ u ∈ l.flatMap Nd.cs, u.oneCell' = true := by
  intro u hu
  obtain ⟨y, _, hy⟩ := List.mem_flatMap.1 hu
  exact one_nd u hy
theorem inPl_zero (name : ByteArray) : inPl name 0 = ⟨4, ByteArray.empty, 0, 0, ByteArray.empty, none, 0, 0, none, 0, 0, []⟩ := by unfold inPl; rw [if_pos rfl]
theorem inPl_pos {name : ByteArray} {b : Int} (h : b ≠ 0) : inPl name b = ⟨5, name, 0, 0, ByteArray.empty, none, 0, 0, none, 0, 0, []⟩ := by unfold inPl; rw [if_neg h]
theorem ben_le {ns : List Nd} {k : Nat} {bs : List Bool} (hT : treesB ns = true) (hb : Ben ns k bs) : ∀ (d i : Nat), ns.length - i ≤ d → kp bs i = true → i ≤ k := by
  intro d
  induction d with
  | zero =>
    intro i hd hi
    rcases hb.up i hi with h | ⟨j, nd, hj, hbj, hm⟩
    · omega
    · have h1 := (treesB_ok hT j nd hj).2 _ hm
      have h2 := (List.getElem?_eq_some_iff.1 hj).1
      omega
  | succ d ih =>
    intro i hd hi
    rcases hb.up i hi with h | ⟨j, nd, hj, hbj, hm⟩
    · omega
    · have h1 := (treesB_ok hT j nd hj).2 _ hm
      have h2 := (List.getElem?_eq_some_iff.1 hj).1
      have := ih j (by omega) hbj
      omega
theorem mem_set_nd {ns : List Nd} {k : Nat} {x nd : Nd} (h : nd ∈ ns.set k x) : nd = x ∨ nd ∈ ns := by
  rcases List.mem_or_eq_of_mem_set h with h | h
  · exact .inr h
  · exact .inl h
theorem inPl_kl (name : ByteArray) (b : Int) : (inPl name b).kl ≤ 20000 := by rw [(inPl_ks name b).2]; omega
theorem rs_nil7 (w : World) : RS 7 Nd.cs w none 0 0 [] := ⟨rfl, Nat.le_refl _, by omega, fun i x h => by simp at h⟩
theorem qn_size (k : Nat) (h : k < 17576) : (qn k).size ≤ 4 := by
  have h1 := digs_len 3 k h
  have h2 : (qn k).size = (digs k).length + 1 := by simp [qn, qb, ByteArray.size]
  omega
end Go.Proofs.YtakaoacialnjaaaDoor
