import Derived.Test.YtakaoacialnjaaaDoorK68
import Derived.Lib.SlBytesRow
import Derived.Maps.AppendAt
import Derived.StillTailTactics
namespace Go.Proofs.YtakaoacialnjaaaDoor
open Go Go.RowKit
set_option linter.unusedVariables false
set_option linter.unusedSimpArgs false
/-! Names that stand nowhere. -/
def digs (k : Nat) : List UInt8 := if h : k = 0 then [] else UInt8.ofNat (97 + k % 26) :: digs (k / 26)
termination_by k
decreasing_by omega
theorem digs_zero : digs 0 = [] := by rw [digs]; rfl
theorem digs_pos {k : Nat} (h : 0 < k) : digs k = UInt8.ofNat (97 + k % 26) :: digs (k / 26) := by rw [digs, dif_neg (by omega)]
theorem digs_len (m : Nat) : ∀ k, k < 26 ^ m → (digs k).length ≤ m := by
  induction m with
  | zero => intro k h; obtain rfl : k = 0 := by simpa using h
            rw [digs_zero]; exact Nat.le_refl _
  | succ m ih =>
    intro k h
    by_cases hk : k = 0
    · subst hk; rw [digs_zero]; exact Nat.zero_le _
    · rw [digs_pos (by omega)]
      have := ih (k / 26) (by rw [Nat.pow_succ] at h; omega)
      simp; omega
theorem dig_nat (k : Nat) : (UInt8.ofNat (97 + k % 26)).toNat = 97 + k % 26 := by
  simp; omega
theorem digs_inj : ∀ k j, digs k = digs j → k = j := by
  intro k
  induction k using Nat.strongRecOn with
  | ind k ih =>
    intro j h
    by_cases hk : k = 0
    · subst hk
      by_cases hj : j = 0
      · exact hj.symm
      · rw [digs_zero, digs_pos (by omega)] at h; cases h
    · by_cases hj : j = 0
      · subst hj; rw [digs_zero, digs_pos (by omega)] at h; cases h
      · rw [digs_pos (show 0 < k by omega), digs_pos (show 0 < j by omega)] at h
        injection h with h1 h2
        have h3 := ih (k / 26) (by omega) (j / 26) h2
        have h4 := congrArg UInt8.toNat h1
        rw [dig_nat, dig_nat] at h4
        omega
theorem digs_letters : ∀ k, ∀ c ∈ digs k, letterB c = true := by
  intro k
  induction k using Nat.strongRecOn with
  | ind k ih =>
    intro c hc
    by_cases hk : k = 0
    · subst hk; rw [digs_zero] at hc; cases hc
    · rw [digs_pos (by omega)] at hc
      rcases List.mem_cons.1 hc with rfl | hc
      · unfold letterB
        rw [dig_nat]
        simp; omega
      · exact ih (k / 26) (by omega) c hc
def qb (l : List UInt8) : ByteArray := ⟨l.toArray⟩
def qn (k : Nat) : ByteArray := qb (113 :: digs k)
theorem qb_list (l : List UInt8) : (qb l).toList = l := by rw [ByteArray.toList_eq]; rfl
theorem qb_data (l : List UInt8) : (qb l).data.toList = l := rfl
theorem qb_append (l m : List UInt8) : qb l ++ qb m = qb (l ++ m) := by
  apply ByteArray.ext
  simp [qb]
theorem qn_inj {k j : Nat} (h : qn k = qn j) : k = j := by
  have := congrArg ByteArray.toList h
  unfold qn at this
  rw [qb_list, qb_list] at this
  injection this with _ h2
  exact digs_inj k j h2
theorem qn_legal {k : Nat} (h : k < 17576) : legalB (qn k).data.toList = true := by
  unfold qn
  rw [qb_data]
  have hl := digs_len 3 k h
  have hr : isResB (113 :: digs k) = false := by
    have h0 : resL.all (fun r => r.getD 0 0 != 113) = true := by decide
    unfold isResB
    rw [List.any_eq_false]
    intro r hr hb
    have := List.all_eq_true.1 h0 r hr
    have e : r = 113 :: digs k := by simpa using hb
    rw [e] at this
    simp at this
  unfold legalB nameB
  rw [hr]
  have hall : (113 :: digs k).all wordB = true := by
    rw [List.all_eq_true]
    intro c hc
    rcases List.mem_cons.1 hc with rfl | hc
    · decide
    · unfold wordB; rw [digs_letters k c hc]; rfl
  rw [hall]
  simp only [List.length_cons, List.getD_cons_zero, Bool.not_false, Bool.and_true]
  simp
  exact ⟨by omega, by decide⟩
theorem nodup_sub {α : Type} [DecidableEq α] : ∀ (l m : List α), l.Nodup → (∀ x ∈ l, x ∈ m) → l.length ≤ m.length
  | [], m, _, _ => Nat.zero_le _
  | x :: t, m, hn, hs => by
    obtain ⟨h1, h2⟩ := List.nodup_cons.1 hn
    have hx := hs x List.mem_cons_self
    have := nodup_sub t (m.erase x) h2 (fun y hy => by
      rw [List.mem_erase_of_ne (fun e => h1 (by rw [← e]; exact hy))]
      exact hs y (List.mem_cons_of_mem _ hy))
    rw [List.length_erase_of_mem hx] at this
    have hp : 0 < m.length := List.length_pos_of_mem hx
    simp only [List.length_cons]; omega
/-- More names than there are places: one is free. -/
theorem qn_free (NL : List ByteArray) (N : Nat) (hN : NL.length ≤ N) (h : ∀ j, j ≤ N → qn j ∈ NL) : False := by
  have h1 : ((List.range (N + 1)).map qn).Nodup := by
    unfold List.Nodup
    rw [List.pairwise_map]
    exact List.Pairwise.imp (fun {a b} hab he => hab (qn_inj he)) List.nodup_range
  have := nodup_sub _ NL h1 (fun x hx => by
    obtain ⟨j, hj, rfl⟩ := List.mem_map.1 hx
    exact h j (by have := List.mem_range.1 hj; omega))
  simp at this; omega
def namesOf (ns : List Nd) (sc : List Nm) : List ByteArray := ns.map Nd.nm ++ sc.map Nm.nm
theorem toList_inj {a b : ByteArray} (h : (a.toList == b.toList) = true) : a = b := by
  have h1 : a.toList = b.toList := by simpa using h
  rw [ByteArray.toList_eq, ByteArray.toList_eq] at h1
  exact ByteArray.ext (Array.toList_inj.1 h1)
def StandsOut (e : Ending) (ns : List Nd) (sc : List Nm) (s : ByteArray) : Prop := (e = .returned (.bool true) ∧ s ∈ namesOf ns sc) ∨ (e = .returned (.bool false) ∧ s ∉ namesOf ns sc)
theorem not_names {ns : List Nd} {sc : List Nm} {s : ByteArray} (h1 : ∀ (i : Nat) (nd : Nd), ns[i]? = some nd → (nd.nm.toList == s.toList) = false) (h2 : ∀ (i : Nat) (x : Nm), sc[i]? = some x → (x.nm.toList == s.toList) = false) : s ∉ namesOf ns sc := by
  intro h
  rcases List.mem_append.1 h with h | h
  · obtain ⟨nd, hnd, rfl⟩ := List.mem_map.1 h
    obtain ⟨i, hi⟩ := List.getElem?_of_mem hnd
    have := h1 i nd hi; simp at this
  · obtain ⟨x, hx, rfl⟩ := List.mem_map.1 h
    obtain ⟨i, hi⟩ := List.getElem?_of_mem hx
    have := h2 i x hi; simp at this
set_option maxRecDepth 100000 in
set_option maxHeartbeats 4000000 in
theorem stands_any (w : World) (a : Option Addr) (n c : Nat) (ns : List Nd) (hr : RS 7 Nd.cs w a n c ns) (sa : Option Addr) (sn sc' : Nat) (sc : List Nm) (hsc : RS 3 Nm.cs w sa sn sc' sc) (s : ByteArray) :
    Calls Tryd.prog 35 #[.slice a n c, .slice sa sn sc', .string s] w fun e w' => StandsOut e ns sc s ∧ Below w.heap.size w w' := by
  have hlen := hr.1
  have hscl := hsc.1
  have hn48 := hr.2.2.1
  have hs48 := hsc.2.2.1
  have HR := Lib.hid hr
  have HSC := Lib.hid hsc
  clear hr hsc
  go_enter Tryd.func35, Tryd.ntmps35
  go_wp2_with fail
  go_loopw [7] (fun i wr => ∃ k : Nat, k ≤ n ∧ i = .int .i64 k ∧ Below w.heap.size w wr ∧ ∀ (i : Nat) (nd : Nd), i < k → ns[i]? = some nd → (nd.nm.toList == s.toList) = false) (fun i _ => n - (intOf i).toNat)
  case atStart => exact ⟨0, by omega, rfl, Below.refl _ _, fun i nd h => by omega⟩
  case round =>
    obtain ⟨k, hk, rfl, hb, hno⟩ := hrel
    have HB := Lib.hid hb
    have HNO := Lib.hid hno
    clear hb hno
    by_cases hlt : k < n
    · obtain ⟨xa, xo, nd, rfl, hnd, hcx⟩ := HR.out.at hlt
      have x1 := (HB.out.cell (p := ⟨xa, xo + k * 7 + 1, none⟩) (block_lt_of_cell (hcx 1 _ rfl))).trans (hcx 1 _ rfl)
      have hltI : (k : Int) < (n : Int) := by omega
      have HND := Lib.hid hnd
      clear hcx hnd
      cases e1 : (nd.nm.toList == s.toList) with
      | true =>
        have HS := Lib.hid (show s ∈ namesOf ns sc from List.mem_append_left _ (List.mem_map.2 ⟨nd, List.mem_of_getElem? HND.out, toList_inj e1⟩))
        go_wp2
        go_ret
        exact ⟨.inl ⟨rfl, HS.out⟩, HB.out⟩
      | false =>
        have HE := Lib.hid e1
        go_wp2
        go_roundw
        case rel =>
          refine ⟨k + 1, by omega, by go_num, HB.out, fun i nd' hi hn' => ?_⟩
          by_cases e : i = k
          · subst e; rw [HND.out] at hn'; obtain rfl := Option.some.inj hn'; exact HE.out
          · exact HNO.out i nd' (by omega) hn'
        case measure => simp [intOf] <;> omega
    · have hltI : ¬ (k : Int) < (n : Int) := by omega
      have HN1 := Lib.hid (fun (i : Nat) (nd : Nd) (h : ns[i]? = some nd) => HNO.out i nd (by have := (List.getElem?_eq_some_iff.1 h).1; omega) h)
      clear HNO
      go_wp2_with fail
      go_loopw [8] (fun i wr => ∃ k : Nat, k ≤ sn ∧ i = .int .i64 k ∧ Below w.heap.size w wr ∧ ∀ (i : Nat) (x : Nm), i < k → sc[i]? = some x → (x.nm.toList == s.toList) = false) (fun i _ => sn - (intOf i).toNat)
      case atStart => exact ⟨0, by omega, rfl, HB.out, fun i nd h => by omega⟩
      case round =>
        obtain ⟨j, hj, rfl, hb, hno⟩ := hrel
        have HB2 := Lib.hid hb
        have HNO := Lib.hid hno
        clear hb hno
        by_cases hlj : j < sn
        · obtain ⟨xa, xo, x, rfl, hx, hcx⟩ := HSC.out.at hlj
          have x0 := (HB2.out.cell (p := ⟨xa, xo + j * 3 + 0, none⟩) (block_lt_of_cell (hcx 0 _ rfl))).trans (hcx 0 _ rfl)
          simp only [Nat.add_zero] at x0
          have hljI : (j : Int) < (sn : Int) := by omega
          have HX := Lib.hid hx
          clear hcx hx
          cases e1 : (x.nm.toList == s.toList) with
          | true =>
            have HS := Lib.hid (show s ∈ namesOf ns sc from List.mem_append_right _ (List.mem_map.2 ⟨x, List.mem_of_getElem? HX.out, toList_inj e1⟩))
            go_wp2
            go_ret
            exact ⟨.inl ⟨rfl, HS.out⟩, HB2.out⟩
          | false =>
            have HE := Lib.hid e1
            go_wp2
            go_roundw
            case rel =>
              refine ⟨j + 1, by omega, by go_num, HB2.out, fun i x' hi hn' => ?_⟩
              by_cases e : i = j
              · subst e; rw [HX.out] at hn'; obtain rfl := Option.some.inj hn'; exact HE.out
              · exact HNO.out i x' (by omega) hn'
            case measure => simp [intOf] <;> omega
        · have hljI : ¬ (j : Int) < (sn : Int) := by omega
          have HF := Lib.hid (show s ∉ namesOf ns sc from not_names HN1.out (fun i x h => HNO.out i x (by have := (List.getElem?_eq_some_iff.1 h).1; omega) h))
          go_wp2
          go_ret
          exact ⟨.inr ⟨rfl, HF.out⟩, HB2.out⟩
end Go.Proofs.YtakaoacialnjaaaDoor
namespace Go.Proofs.YtakaoacialnjaaaDoor
open Go Go.RowKit
set_option linter.unusedVariables false
set_option linter.unusedSimpArgs false
theorem conv_byte (w : World) (c : UInt8) : Sem.run Tryd.prog (convert 76 9 (.slice (some ⟨w.heap.size, 0, none⟩) 1 1)) (w.alloc (.cells #[.int .u8 (c.toNat : Int)] 5)) = .ok (.string (qb [c])) (w.alloc (.cells #[.int .u8 (c.toNat : Int)] 5)) := by
  have hb : Go.Lib.Bytes (w.alloc (.cells #[.int .u8 (c.toNat : Int)] 5)) w.heap.size 0 (qb [c]) := by
    intro i hi
    have h0 : i = 0 := by have : (qb [c]).size = 1 := rfl; omega
    subst h0
    rw [cell_of_row _ _ _ _ _ _ (heap_alloc_new w _)]
    rfl
  exact Go.Lib.run_convert_whole (P := Tryd.prog) _ 76 5 9 (by kernel_rfl) (by kernel_rfl) (by kernel_rfl) _ 0 (qb [c]) hb 1
def UnusedOut (e : Ending) (ns : List Nd) (sc : List Nm) : Prop := ∃ k, k < 17576 ∧ e = .returned (.string (qn k)) ∧ qn k ∉ namesOf ns sc
set_option maxRecDepth 100000 in
set_option maxHeartbeats 4000000 in
theorem unused_any (w : World) (a : Option Addr) (n c : Nat) (ns : List Nd) (hr : RS 7 Nd.cs w a n c ns) (sa : Option Addr) (sn sc' : Nat) (sc : List Nm) (hsc : RS 3 Nm.cs w sa sn sc' sc) (hn : n ≤ 5000) (hsn : sn ≤ 500) :
    Calls Tryd.prog 19 #[.slice a n c, .slice sa sn sc'] w fun e w' => UnusedOut e ns sc ∧ Below w.heap.size w w' := by
  have HNL := Lib.hid (show (namesOf ns sc).length = n + sn by unfold namesOf; rw [List.length_append, List.length_map, List.length_map, hr.1, hsc.1])
  have HR := Lib.hid hr
  have HSC := Lib.hid hsc
  clear hr hsc
  have hq0 : qn 0 = { data := #[113] } := by unfold qn; rw [digs_zero]; rfl
  have HQ0 := Lib.hid hq0
  clear hq0
  go_enter Tryd.func19, Tryd.ntmps19
  go_wp2_with fail
  go_loopw [5, 6] (fun s i wr => ∃ k : Nat, k ≤ n + sn + 1 ∧ i = .int .i64 (k : Int) ∧ s = .string (qn (k - 1)) ∧ Below w.heap.size w wr ∧ ∀ j, j < k - 1 → qn j ∈ namesOf ns sc) (fun _ i _ => n + sn + 1 - (intOf i).toNat)
  case atStart => exact ⟨0, by omega, rfl, by rw [show 0 - 1 = 0 from rfl, HQ0.out], Below.refl _ _, fun j h => by omega⟩
  case round =>
    obtain ⟨k, hk, rfl, rfl, hb, hin⟩ := hrel
    obtain ⟨wk, rfl⟩ : ∃ wk : World, wk = wr := ⟨_, rfl⟩
    have HB := Lib.hid hb
    have HIN := Lib.hid hin
    have zk := hb.size
    clear hb hin
    go_wp2_with fail
    with_reducible refine (stands_any wk a n c ns (HR.out.below HB.out) sa sn sc' sc (HSC.out.below HB.out) (qn (k - 1))).mono ?_
    rintro e w2 ⟨hst, hb2⟩
    have HB2 := Lib.hid (HB.out.trans (hb2.mono zk))
    have z2 := hb2.size
    clear hb2
    rcases hst with ⟨rfl, hyes⟩ | ⟨rfl, hno⟩
    · have HY := Lib.hid hyes
      clear hyes
      have hkN : k ≤ n + sn := by
        rcases Nat.lt_or_ge (n + sn) k with h | h
        · have e : k = n + sn + 1 := by omega
          subst e
          refine (qn_free (namesOf ns sc) (n + sn) (by rw [HNL.out]; exact Nat.le_refl _) fun j hj => ?_).elim
          by_cases e : j = n + sn
          · subst e; exact HY.out
          · exact HIN.out j (by omega)
        · exact h
      have hkI : (k : Int) ≤ (n : Int) + (sn : Int) := by omega
      go_wp2_with fail
      go_loopw [5, 7] (fun s i wr => ∃ (d : List UInt8) (q : Nat), s = .string (qb (113 :: d)) ∧ i = .int .i64 (q : Int) ∧ d ++ digs q = digs k ∧ q ≤ k ∧ Below w.heap.size w wr) (fun _ i _ => (intOf i).toNat)
      case atStart => exact ⟨[], k, by congr 1, rfl, rfl, Nat.le_refl _, HB2.out⟩
      case round =>
        obtain ⟨d, q, rfl, rfl, hd, hqk, hb⟩ := hrel
        have HB3 := Lib.hid hb
        have HD := Lib.hid hd
        have z3 := hb.size
        have hdl : d.length ≤ 3 := by
          have h1 := digs_len 3 k (by omega)
          rw [← hd, List.length_append] at h1
          omega
        clear hb hd
        by_cases hq : 0 < q
        · have hqI : (0 : Int) < (q : Int) := by omega
          have hc := conv_byte wr (UInt8.ofNat (97 + q % 26))
          rw [dig_nat, show ((97 + q % 26 : Nat) : Int) = 97 + (q : Int) % 26 by omega] at hc
          generalize hcc : UInt8.ofNat (97 + q % 26) = cc at hc
          have HCC := Lib.hid hcc
          clear hcc
          have hsz : (qb (113 :: d)).size = d.length + 1 := by simp [qb, ByteArray.size]
          have hs1 : (qb [cc]).size = 1 := by simp [qb, ByteArray.size]
          have hap := qb_append (113 :: d) [cc]
          go_wp2_with fail
          go_roundw
          case rel => exact ⟨d ++ [cc], q / 26, rfl, by congr 1, by rw [← HCC.out, ← HD.out, digs_pos hq, List.append_assoc]; rfl, by omega, HB3.out.alloc (by omega) _⟩
          case measure => simp [intOf] <;> omega
        · have hqI : ¬ (0 : Int) < (q : Int) := by omega
          obtain rfl : q = 0 := by omega
          go_wp2_with fail
          go_roundw
          case rel =>
            refine ⟨k + 1, by omega, by go_num, ?_, HB3.out, fun j hj => ?_⟩
            · have := HD.out
              rw [digs_zero, List.append_nil] at this
              rw [this]; rfl
            · by_cases e : j = k - 1
              · rw [e]; exact HY.out
              · exact HIN.out j (by omega)
          case measure => simp [intOf] <;> omega
    · have HN := Lib.hid hno
      clear hno
      go_wp2
      go_ret
      exact ⟨⟨k - 1, by omega, rfl, HN.out⟩, HB2.out⟩
end Go.Proofs.YtakaoacialnjaaaDoor
namespace Go.Proofs.YtakaoacialnjaaaDoor
open Go Go.RowKit
set_option linter.unusedVariables false
set_option linter.unusedSimpArgs false
/-! Plain law: a name in a part's place. -/
/-- What is asked of the kept nodes as trees. -/
structure KeptT (ns : List Nd) (keep : List Bool) : Prop where
  one : ∀ (i : Nat) (nd : Nd), ns[i]? = some nd → kp keep i = true → nd.right = true ∧ nd.ks.length = nd.kl ∧ nd.ks.Nodup ∧ ∀ k ∈ nd.ks, 0 ≤ k ∧ k < (i : Int) ∧ kp keep k.toNat = true
  two : ∀ (i j : Nat) (u v : Nd) (x : Int), ns[i]? = some u → ns[j]? = some v → kp keep i = true → kp keep j = true → x ∈ u.ks → x ∈ v.ks → i = j
theorem mov_from {ns us : List Nd} {keep : List Bool} {p : Nat} (hM : Mov ns keep p us) (j : Nat) (u : Nd) (hj : us[j]? = some u) : ∃ i nd, i < ns.length ∧ kp keep i = true ∧ nk keep i = j ∧ ns[i]? = some nd ∧ u.op = nd.op ∧ u.nm = nd.nm ∧ u.right = nd.right ∧ u.ks = nd.ks.map fun k => ((plc p keep k.toNat : Nat) : Int) := by
  have hjl : j < nk keep ns.length := by rw [← hM.len]; exact (List.getElem?_eq_some_iff.1 hj).1
  obtain ⟨i, h1, h2, h3⟩ := nk_surj keep ns.length j hjl
  obtain ⟨u', hu', e1, e2, e3, e4, e5, e6, e7, e8⟩ := hM.has i _ (List.getElem?_eq_getElem h1) h2
  rw [h3, hj] at hu'
  obtain rfl := Option.some.inj hu'
  exact ⟨i, _, h1, h2, h3, List.getElem?_eq_getElem h1, e1, e2, by unfold Nd.right; rw [e1, e2, e3, e4, e5, e6, e7], e8⟩
theorem cut_trees {ns us : List Nd} {keep : List Bool} (hK : KeptT ns keep) (hM : Mov ns keep 0 us) : treesB us = true := by
  rw [treesB_iff, flat_nodup]
  refine ⟨fun j nd hj => ?_, fun i u hi => ?_, fun i j u v x hi hj hxu hxv => ?_⟩
  · obtain ⟨i, nd', h1, h2, h3, h4, h5, h6, h7, h8⟩ := mov_from hM _ _ hj
    obtain ⟨g1, g2, g3, g4⟩ := hK.one i nd' h4 h2
    refine ⟨by rw [h7]; exact g1, fun k hk => ?_⟩
    rw [h8] at hk
    obtain ⟨q, hq, rfl⟩ := List.mem_map.1 hk
    obtain ⟨q1, q2, q3⟩ := g4 q hq
    rw [plc_eq q3]
    have := nk_lt keep (show q.toNat < i by omega) q3
    omega
  · obtain ⟨i', nd', h1, h2, h3, h4, h5, h6, h7, h8⟩ := mov_from hM _ _ hi
    obtain ⟨g1, g2, g3, g4⟩ := hK.one i' nd' h4 h2
    rw [h8]
    unfold List.Nodup
    rw [List.pairwise_map]
    refine List.Pairwise.imp_of_mem ?_ g3
    intro a b ha' hb' hab he
    obtain ⟨a1, a2, a3⟩ := g4 a ha'
    obtain ⟨b1, b2, b3⟩ := g4 b hb'
    rw [plc_eq a3, plc_eq b3] at he
    have := nk_inj keep a3 b3 (by omega)
    exact hab (by omega)
  · obtain ⟨i', nd, h1, h2, h3, h4, h5, h6, h7, h8⟩ := mov_from hM _ _ hi
    obtain ⟨j', nd', k1, k2, k3, k4, k5, k6, k7, k8⟩ := mov_from hM _ _ hj
    rw [h8] at hxu
    rw [k8] at hxv
    obtain ⟨q, hq, hqx⟩ := List.mem_map.1 hxu
    obtain ⟨r, hr, hrx⟩ := List.mem_map.1 hxv
    obtain ⟨a1, a2, a3⟩ := (hK.one i' nd h4 h2).2.2.2 q hq
    obtain ⟨b1, b2, b3⟩ := (hK.one j' nd' k4 k2).2.2.2 r hr
    rw [plc_eq a3] at hqx
    rw [plc_eq b3] at hrx
    have he := nk_inj keep a3 b3 (by omega)
    have hqr : q = r := by omega
    subst hqr
    have := hK.two i' j' nd nd' q h4 k4 h2 k2 hq hr
    subst this
    omega
/-- The first u nodes have their kinds. -/
def KU (sc : List Nm) (r : List (Int × Bool)) (ns : List Nd) (u : Nat) : Prop := r.length = u ∧ u ≤ ns.length ∧ ∀ (i : Nat) (nd : Nd), i < u → ns[i]? = some nd → ∃ x, r[i]? = some x ∧ lookK sc (r.take i) nd.op nd.nm.toList (nd.ks.map Int.toNat) = (x, 0)
theorem KU.kinds {sc : List Nm} {r : List (Int × Bool)} {ns : List Nd} (h : KU sc r ns ns.length) : Kinds sc r ns := ⟨h.1, fun i nd hi => h.2.2 i nd (List.getElem?_eq_some_iff.1 hi).1 hi⟩
theorem KU.of {sc : List Nm} {r : List (Int × Bool)} {ns : List Nd} (h : Kinds sc r ns) : KU sc r ns ns.length := ⟨h.1, Nat.le_refl _, fun i nd _ hi => h.2 i nd hi⟩
theorem KU.take {sc : List Nm} {r : List (Int × Bool)} {ns : List Nd} {u : Nat} (h : KU sc r ns u) : Kinds sc r (ns.take u) := by
  refine ⟨by rw [h.1, List.length_take]; have := h.2.1; omega, fun i nd hi => ?_⟩
  have hu : i < u := by have := (List.getElem?_eq_some_iff.1 hi).1; rw [List.length_take] at this; omega
  rw [List.getElem?_take_of_lt hu] at hi
  exact h.2.2 i nd hu hi
theorem fail_of {sc : List Nm} {r : List (Int × Bool)} {ns : List Nd} {u : Nat} (h : KU sc r ns u) {nd : Nd} (hn : ns[u]? = some nd) {er : Int} (he : (lookK sc r nd.op nd.nm.toList (nd.ks.map Int.toNat)).2 = er) (h0 : er ≠ 0) :
    ∀ i, i ≤ u → ofF sc i (r.take i) (ns.drop i) = ([], u, er) := by
  intro i hi
  obtain ⟨d, hd⟩ : ∃ d, d = u - i := ⟨_, rfl⟩
  induction d generalizing i with
  | zero =>
    obtain rfl : i = u := by omega
    rw [drop_cons hn]
    simp only [ofF]
    rw [← h.1, List.take_length, he, if_neg h0, h.1]
  | succ d ih =>
    have hlt : i < u := by omega
    have hil : i < ns.length := by have := h.2.1; omega
    have hn' := List.getElem?_eq_getElem hil
    obtain ⟨x, hx, hl⟩ := h.2.2 i _ hlt hn'
    rw [drop_cons hn']
    simp only [ofF]
    rw [hl]
    simp only [if_true]
    have := ih (i + 1) (by omega) (by omega)
    rw [List.take_add_one, hx] at this
    exact this
theorem fail_to (sc : List Nm) (ns : List Nd) : ∀ (pre : List (Int × Bool)), (ofF sc pre.length pre ns).2.2 ≠ 0 →
    ∃ i nd r, (ofF sc pre.length pre ns).2.1 = pre.length + i ∧ ns[i]? = some nd ∧ r.length = i ∧ (lookK sc (pre ++ r) nd.op nd.nm.toList (nd.ks.map Int.toNat)).2 = (ofF sc pre.length pre ns).2.2 ∧
      ∀ (j : Nat) (nd' : Nd), j < i → ns[j]? = some nd' → ∃ x, r[j]? = some x ∧ lookK sc (pre ++ r.take j) nd'.op nd'.nm.toList (nd'.ks.map Int.toNat) = (x, 0) := by
  induction ns with
  | nil => intro pre h; exact absurd rfl h
  | cons n t ih =>
    intro pre h
    simp only [ofF] at h ⊢
    by_cases hl : (lookK sc pre n.op n.nm.toList (n.ks.map Int.toNat)).2 = 0
    · rw [if_pos hl] at h ⊢
      have e : pre.length + 1 = (pre ++ [(lookK sc pre n.op n.nm.toList (n.ks.map Int.toNat)).1]).length := by simp
      rw [e] at h ⊢
      obtain ⟨i, nd, r, h1, h2, h3, h4, h5⟩ := ih _ h
      refine ⟨i + 1, nd, (lookK sc pre n.op n.nm.toList (n.ks.map Int.toNat)).1 :: r, by rw [h1]; simp; omega, by simpa using h2, by simp [h3], ?_, ?_⟩
      · rw [← h4, List.append_assoc]; rfl
      · intro j nd' hj hn
        cases j with
        | zero =>
          simp only [List.getElem?_cons_zero, Option.some.injEq] at hn
          subst hn
          exact ⟨_, rfl, by rw [List.take_zero, List.append_nil]; exact Prod.ext rfl hl⟩
        | succ j =>
          obtain ⟨x, hx, hx2⟩ := h5 j nd' (by omega) (by simpa using hn)
          refine ⟨x, by simpa using hx, ?_⟩
          rw [List.append_assoc] at hx2
          exact hx2
    · rw [if_neg hl] at h ⊢
      exact ⟨0, n, [], rfl, rfl, rfl, by rw [List.append_nil], fun j nd' hj => by omega⟩
/-- What Of answers: kinds for all, or the first node that has none. -/
theorem ofK_cases {ns : List Nd} {sc : List Nm} (hT : treesB ns = true) (h : (ofK ns sc).2.2 ≠ 0) :
    ∃ nd r, KU sc r ns (ofK ns sc).2.1 ∧ ns[(ofK ns sc).2.1]? = some nd ∧ (lookK sc r nd.op nd.nm.toList (nd.ks.map Int.toNat)).2 = (ofK ns sc).2.2 := by
  unfold ofK at h ⊢
  rw [if_pos hT] at h ⊢
  obtain ⟨i, nd, r, h1, h2, h3, h4, h5⟩ := fail_to sc ns [] h
  simp only [List.length_nil, Nat.zero_add, List.nil_append] at h1 h4 h5
  rw [h1]
  refine ⟨nd, r, ⟨h3, Nat.le_of_lt (List.getElem?_eq_some_iff.1 h2).1, h5⟩, h2, h4⟩
theorem ofK_eight {ns : List Nd} {sc : List Nm} (h : (ofK ns sc).2.2 ≠ 8) : treesB ns = true := by
  unfold ofK at h
  split at h
  · assumption
  · exact absurd rfl h
theorem trees_take {ns : List Nd} (h : treesB ns = true) (u : Nat) : treesB (ns.take u) = true := by
  rw [treesB_iff, flat_nodup] at h ⊢
  obtain ⟨h1, h2, h3⟩ := h
  have g : ∀ {i : Nat} {nd : Nd}, (ns.take u)[i]? = some nd → ns[i]? = some nd := by
    intro i nd hi
    have hu : i < u := by have := (List.getElem?_eq_some_iff.1 hi).1; rw [List.length_take] at this; omega
    rwa [List.getElem?_take_of_lt hu] at hi
  exact ⟨fun j nd hj => h1 j nd (g hj), fun i u hi => h2 i u (g hi), fun i j u v x hi hj => h3 i j u v x (g hi) (g hj)⟩
theorem namedK_new {sc : List Nm} {x : Nm} {l : List UInt8} (h : x.nm.toList ≠ l) : namedK (x :: sc) l = namedK sc l := by
  unfold namedK
  rw [List.find?_cons]
  have : isNm l x = false := by unfold isNm; simpa using h
  rw [this]
theorem lookK_new {sc : List Nm} {x : Nm} (ks : List (Int × Bool)) (op : Int) {nm : List UInt8} (kids : List Nat) (h : x.nm.toList ≠ nm) : lookK (x :: sc) ks op nm kids = lookK sc ks op nm kids := by
  unfold lookK
  rw [namedK_new h]
/-- The node that is laid in a part's place. -/
def inPl (name : ByteArray) (b : Int) : Nd := if b = 0 then ⟨4, ByteArray.empty, 0, 0, ByteArray.empty, none, 0, 0, none, 0, 0, []⟩ else ⟨5, name, 0, 0, ByteArray.empty, none, 0, 0, none, 0, 0, []⟩
theorem inPl_ks (name : ByteArray) (b : Int) : (inPl name b).ks = [] ∧ (inPl name b).kl = 0 := by unfold inPl; split <;> exact ⟨rfl, rfl⟩
theorem inPl_right {name : ByteArray} (h : legalB name.data.toList = true) (b : Int) : (inPl name b).right = true := by
  unfold inPl
  split
  · decide +kernel
  · show rightB 5 name.data.toList 0 0 ByteArray.empty.data.toList 0 0 = true
    unfold rightB
    have e1 : kidsN 5 = 0 := by decide
    have e2 : namedB 5 = true := by decide
    have e3 : valB 5 0 0 ByteArray.empty.data.toList = true := by decide +kernel
    rw [e1, e2, e3, h]; simp
theorem k11_cases {b : Int} {o : Bool} (h : (b, o) ∈ K11) : (b = 0 ∧ o = true) ∨ (1 ≤ b ∧ b ≤ 5) := by
  simp only [K11, List.mem_cons, Prod.mk.injEq, List.not_mem_nil, or_false] at h
  rcases h with h | h | h | h | h | h | h | h | h | h | h <;> obtain ⟨rfl, rfl⟩ := h <;> simp
theorem inPl_look {sc : List Nm} {name : ByteArray} {b : Int} {o : Bool} (h : (b, o) ∈ K11) (ks : List (Int × Bool)) : lookK (⟨name, b, o⟩ :: sc) ks (inPl name b).op (inPl name b).nm.toList ((inPl name b).ks.map Int.toNat) = ((b, o), 0) := by
  rcases k11_cases h with ⟨rfl, rfl⟩ | ⟨h1, h2⟩
  · unfold inPl; rw [if_pos rfl]; simp [lookK]
  · unfold inPl
    rw [if_neg (by omega)]
    have hn : namedK (⟨name, b, o⟩ :: sc) name.toList = ((b, o), true) := by
      unfold namedK
      rw [List.find?_cons]
      have : isNm name.toList ⟨name, b, o⟩ = true := by unfold isNm; simp
      rw [this]
      simp [h1, h2]
    simp [lookK, hn]
theorem ku_k11 {sc : List Nm} {r : List (Int × Bool)} {ns : List Nd} {u : Nat} (hT : treesB ns = true) (hl : ∀ nd ∈ ns, nd.ks.length = nd.kl) (h : KU sc r ns u) : ∀ (i : Nat) (x : Int × Bool), r[i]? = some x → x ∈ K11 := by
  intro i
  induction i using Nat.strongRecOn with
  | ind i ih =>
    intro x hx
    have hiu : i < u := by rw [← h.1]; exact (List.getElem?_eq_some_iff.1 hx).1
    obtain ⟨nd, hn⟩ : ∃ nd, ns[i]? = some nd := ⟨_, List.getElem?_eq_getElem (l := ns) (i := i) (by have := h.2.1; omega)⟩
    obtain ⟨y, hy, hlk⟩ := h.2.2 i nd hiu hn
    rw [hx] at hy
    obtain rfl := Option.some.inj hy
    obtain ⟨hr, hks⟩ := treesB_ok hT i nd hn
    obtain ⟨q1, q2⟩ := right_kids hr
    have := look_k11 sc (r.take i) (fun k hk => by
      obtain ⟨j, hj⟩ := List.getElem?_of_mem hk
      have hji : j < i := by have := (List.getElem?_eq_some_iff.1 hj).1; rw [List.length_take] at this; omega
      rw [List.getElem?_take_of_lt hji] at hj
      exact ih j hji k hj) nd.op nd.nm.toList (nd.ks.map Int.toNat) (fun k hk => by
      obtain ⟨q, hq, rfl⟩ := List.mem_map.1 hk
      have := hks q hq
      rw [List.length_take, h.1]; omega) q1 (by rw [List.length_map, hl nd (List.mem_of_getElem? hn)]; exact q2) (by rw [hlk])
    rw [hlk] at this
    exact this
/-- Kept: what does not stand beneath, and the root itself. -/
def Outside (bs keep : List Bool) (k n : Nat) : Prop := ∀ i, i < n → kp keep i = (!kp bs i || i == k)
theorem swap_kept {ns : List Nd} (hT : treesB ns = true) (hl : ∀ nd ∈ ns, nd.ks.length = nd.kl) {k : Nat} (hk : k < ns.length) {bs keep : List Bool} (hb : Ben ns k bs) (ho : Outside bs keep k ns.length) {nn : Nd} (hr : nn.right = true) (hn : nn.ks = [] ∧ nn.kl = 0) : KeptT (ns.set k nn) keep := by
  obtain ⟨h1, h2⟩ := (treesB_iff ns).1 hT
  obtain ⟨h3, h4⟩ := (flat_nodup ns).1 h2
  have hv : ∀ {i : Nat} {nd : Nd}, (ns.set k nn)[i]? = some nd → (i = k ∧ nd = nn) ∨ (i ≠ k ∧ ns[i]? = some nd) := by
    intro i nd hi
    rw [List.getElem?_set] at hi
    by_cases e : k = i
    · rw [if_pos e, if_pos (by omega)] at hi
      exact .inl ⟨e.symm, (Option.some.inj hi).symm⟩
    · rw [if_neg e] at hi
      exact .inr ⟨fun h => e h.symm, hi⟩
  constructor
  · intro i nd hi hki
    rcases hv hi with ⟨rfl, rfl⟩ | ⟨hne, hi'⟩
    · exact ⟨hr, by rw [hn.1, hn.2]; rfl, by rw [hn.1]; exact List.nodup_nil, by rw [hn.1]; simp⟩
    · obtain ⟨g1, g2⟩ := h1 i nd hi'
      have hil : i < ns.length := (List.getElem?_eq_some_iff.1 hi').1
      refine ⟨g1, hl nd (List.mem_of_getElem? hi'), h3 i nd hi', fun q hq => ⟨(g2 q hq).1, (g2 q hq).2, ?_⟩⟩
      have hq1 := g2 q hq
      rw [ho q.toNat (by omega)]
      by_cases e : q.toNat = k
      · simp [e]
      · have hbq : kp bs q.toNat = false := by
          cases hb2 : kp bs q.toNat with
          | false => rfl
          | true =>
            rcases hb.up q.toNat hb2 with h | ⟨j, nd', hj, hbj, hm⟩
            · exact absurd h e
            · have hqq : ((q.toNat : Nat) : Int) = q := by omega
              rw [hqq] at hm
              have hij := h4 i j nd nd' q hi' hj hq hm
              subst hij
              rw [ho i hil, hbj] at hki
              simp at hki
              exact absurd hki hne
        simp [hbq]
  · intro i j u v x hi hj _ _ hxu hxv
    rcases hv hi with ⟨_, rfl⟩ | ⟨_, hi'⟩
    · rw [hn.1] at hxu; cases hxu
    · rcases hv hj with ⟨_, rfl⟩ | ⟨_, hj'⟩
      · rw [hn.1] at hxv; cases hxv
      · exact h4 i j u v x hi' hj' hxu hxv
theorem sim_at {sc : List Nm} {l : List (Int × Bool)} {vs us : List Nd} {keep : List Bool} {u : Nat} (hKT : KeptT vs keep) (hM : Mov vs keep 0 us) (hlu : l.length = u) {i : Nat} {nd um : Nd} (hi : vs[i]? = some nd) (hk : kp keep i = true) (hiu : i ≤ u) (hum : us[nk keep i]? = some um) (e1 : um.op = nd.op) (e2 : um.nm = nd.nm) (e3 : um.ks = nd.ks.map fun k => ((plc 0 keep k.toNat : Nat) : Int)) :
    lookK sc (((kidx keep u).map fun i => l.getD i (0, false)).take (nk keep i)) um.op um.nm.toList (um.ks.map Int.toNat) = lookK sc (l.take i) nd.op nd.nm.toList (nd.ks.map Int.toNat) := by
  obtain ⟨g1, g2, g3, g4⟩ := hKT.one i nd hi hk
  rw [e1, e2, e3, List.map_map]
  have hf : (Int.toNat ∘ fun k : Int => ((plc 0 keep k.toNat : Nat) : Int)) = (plc 0 keep) ∘ Int.toNat := by funext k; simp
  rw [hf, ← List.map_map]
  refine lookK_sim g1 sc (by rw [List.length_map, g2]) ?_
  intro k hk
  obtain ⟨q, hq, rfl⟩ := List.mem_map.1 hk
  obtain ⟨a1, a2, a3⟩ := g4 q hq
  have hlt := nk_lt keep (show q.toNat < i by omega) a3
  rw [plc_eq a3, Nat.zero_add, List.getD_eq_getElem?_getD, List.getD_eq_getElem?_getD, List.getElem?_take_of_lt hlt, List.getElem?_take_of_lt (by omega), List.getElem?_map, kidx_at keep _ q.toNat (by omega) a3,
    Option.map_some, List.getD_eq_getElem?_getD, List.getElem?_eq_getElem (by omega)]
  rfl
theorem swap_law {ns us : List Nd} {sc : List Nm} {l : List (Int × Bool)} {u k : Nat} (hT : treesB ns = true) (hl : ∀ nd ∈ ns, nd.ks.length = nd.kl) (hKU : KU sc l ns u) (hk : k < u) {bs keep : List Bool} (hb : Ben ns k bs) (ho : Outside bs keep k ns.length)
    {name : ByteArray} (hleg : legalB name.data.toList = true) (hnm : name ∉ namesOf ns sc) {b : Int} {o : Bool} (hlk : l[k]? = some (b, o)) (hM : Mov (ns.set k (inPl name b)) keep 0 us) :
    (u = ns.length → ∃ ms, ofK us (⟨name, b, o⟩ :: sc) = (ms, 0, 0) ∧ ms.length = us.length ∧ ∀ i, i < ns.length → kp keep i = true → ms[plc 0 keep i]? = l[i]?) ∧
    (∀ nd er, ns[u]? = some nd → kp keep u = true → (lookK sc l nd.op nd.nm.toList (nd.ks.map Int.toNat)).2 = er → er ≠ 0 → ofK us (⟨name, b, o⟩ :: sc) = ([], nk keep u, er)) := by
  have hun := hKU.2.1
  have hKT := swap_kept hT hl (by omega) hb ho (inPl_right hleg b) (inPl_ks name b)
  have hTU := cut_trees hKT hM
  have h11 := ku_k11 hT hl hKU k _ hlk
  have hset : ∀ {i : Nat} {nd : Nd}, i ≠ k → ns[i]? = some nd → (ns.set k (inPl name b))[i]? = some nd := by
    intro i nd hne hi
    rw [List.getElem?_set, if_neg (fun e => hne e.symm)]; exact hi
  have hnew : ∀ {i : Nat} {nd : Nd}, ns[i]? = some nd → (⟨name, b, o⟩ : Nm).nm.toList ≠ nd.nm.toList := by
    intro i nd hi he
    refine hnm (List.mem_append_left _ (List.mem_map.2 ⟨nd, List.mem_of_getElem? hi, ?_⟩))
    exact (toList_inj (by simpa using he)).symm
  have hKU2 : KU (⟨name, b, o⟩ :: sc) ((kidx keep u).map fun i => l.getD i (0, false)) us (nk keep u) := by
    refine ⟨by rw [List.length_map, kidx_len], by rw [hM.len, List.length_set]; exact nk_mono keep hun, fun j um hj hum => ?_⟩
    obtain ⟨i, nd, h1, h2, h3, h4, h5, h6, h7, h8⟩ := mov_from hM j um hum
    have hiu : i < u := by
      rcases Nat.lt_or_ge i u with h | h
      · exact h
      · have := nk_mono keep h; omega
    rw [← h3] at hum ⊢
    rw [List.getElem?_map, kidx_at keep u i hiu h2, Option.map_some, List.getD_eq_getElem?_getD]
    rw [sim_at hKT hM hKU.1 h4 h2 (Nat.le_of_lt hiu) hum h5 h6 h8]
    by_cases e : i = k
    · subst e
      rw [List.getElem?_set, if_pos rfl, if_pos (by omega)] at h4
      obtain rfl := Option.some.inj h4
      exact ⟨(b, o), by rw [hlk]; rfl, inPl_look h11 _⟩
    · rw [List.getElem?_set, if_neg (fun h => e h.symm)] at h4
      obtain ⟨x, hx, hlx⟩ := hKU.2.2 i nd hiu h4
      exact ⟨x, by rw [hx]; rfl, by rw [lookK_new _ _ _ (hnew h4)]; exact hlx⟩
  constructor
  · intro hu
    have hlen : us.length = nk keep u := by rw [hM.len, List.length_set, hu]
    rw [← hlen] at hKU2
    refine ⟨_, ofK_of hTU hKU2.kinds, hKU2.1, fun i hi hki => ?_⟩
    rw [plc_eq hki, Nat.zero_add, List.getElem?_map, kidx_at keep u i (by omega) hki, Option.map_some, List.getD_eq_getElem?_getD, List.getElem?_eq_getElem (by rw [hKU.1]; omega)]
    rfl
  · intro nd er hnd hku he h0
    have hne : u ≠ k := by omega
    obtain ⟨um, hum, e1, e2, e3, e4, e5, e6, e7, e8⟩ := hM.has u nd (hset hne hnd) hku
    have hs := sim_at (sc := ⟨name, b, o⟩ :: sc) hKT hM hKU.1 (hset hne hnd) hku (Nat.le_refl _) hum e1 e2 e8
    rw [List.take_of_length_le (by rw [List.length_map, kidx_len]; exact Nat.le_refl _), List.take_of_length_le (by rw [hKU.1]; exact Nat.le_refl _), lookK_new _ _ _ (hnew hnd)] at hs
    have := fail_of hKU2 hum (by rw [hs]; exact he) h0 0 (Nat.zero_le _)
    unfold ofK
    rw [if_pos hTU]
    simpa using this
end Go.Proofs.YtakaoacialnjaaaDoor
namespace Go.Proofs.YtakaoacialnjaaaDoor
open Go Go.RowKit
set_option linter.unusedVariables false
set_option linter.unusedSimpArgs false
def SwapL (ns : List Nd) (sc : List Nm) (n at' : Nat) (er : Int) (l : List (Int × Bool)) (u : Nat) : Prop :=
  KU sc l ns u ∧ ((er = 0 ∧ u = n) ∨ (er ≠ 0 ∧ at' = u ∧ u < n ∧ ∃ nd, ns[u]? = some nd ∧ (lookK sc l nd.op nd.nm.toList (nd.ks.map Int.toNat)).2 = er))
def SwapC (w wx : World) (ns : List Nd) (sc : List Nm) (n at' : Nat) (er : Int) (s7 s10 : Value) : Prop :=
  ∃ la lc l u, s7 = .slice la u lc ∧ s10 = .int .i64 (u : Int) ∧ wx.ownsRow w.heap.size 30 2 (.slice la u lc) u (l.flatMap Kd) ∧ SwapL ns sc n at' er l u ∧ Below w.heap.size w wx
theorem KU.of_take {ns : List Nd} {sc : List Nm} {r : List (Int × Bool)} {u : Nat} (hT : treesB ns = true) (h : KU sc r ns u) : ofK (ns.take u) sc = (r, 0, 0) := ofK_of (trees_take hT u) h.take
theorem rs_take {α : Type} {s : Nat} {enc : α → List Value} {w : World} {a : Option Addr} {n c : Nat} {xs : List α} (h : RS s enc w a n c xs) {u : Nat} (hu : u ≤ n) : RS s enc w a u c (xs.take u) := by
  obtain ⟨h1, h2, h3, h4⟩ := h
  refine ⟨by rw [List.length_take]; omega, by omega, by omega, fun i x hx => ?_⟩
  have hi : i < u := by have := (List.getElem?_eq_some_iff.1 hx).1; rw [List.length_take] at this; omega
  rw [List.getElem?_take_of_lt hi] at hx
  exact h4 i x hx
def keepL (bs : List Bool) (k n i : Nat) : List Bool := (List.range n).map fun j => if j < i then (!kp bs j || j == k) else false
theorem keepL_len (bs : List Bool) (k n i : Nat) : (keepL bs k n i).length = n := by simp [keepL]
theorem keepL_zero (bs : List Bool) (k n : Nat) : keepL bs k n 0 = List.replicate n false := by
  apply List.ext_getElem?
  intro i
  simp only [keepL, List.getElem?_map, List.getElem?_replicate]
  by_cases h : i < n
  · simp [h]
  · simp [h]
theorem keepL_at (bs : List Bool) (k n i : Nat) (hi : i < n) : (keepL bs k n i)[i]? = some false := by simp [keepL, hi]
theorem keepL_set (bs : List Bool) (k n i : Nat) (hi : i < n) : (keepL bs k n i).set i (!kp bs i || i == k) = keepL bs k n (i + 1) := by
  apply List.ext_getElem?
  intro j
  rw [List.getElem?_set, keepL_len]
  by_cases e : i = j
  · subst e
    rw [if_pos rfl, if_pos hi]; simp [keepL, hi]
  · rw [if_neg e]
    simp only [keepL, List.getElem?_map]
    by_cases h : j < n
    · simp only [List.getElem?_range h, Option.map_some]
      by_cases hl : j < i
      · rw [if_pos hl, if_pos (by omega)]
      · rw [if_neg hl, if_neg (by omega)]
    · rw [List.getElem?_eq_none (by simpa using h)]; rfl
theorem keepL_out (bs : List Bool) (k n : Nat) : Outside bs (keepL bs k n n) k n := by
  intro i hi
  unfold kp
  rw [List.getD_eq_getElem?_getD]
  simp [keepL, hi, kp]
section
variable {P : Program} {w : World} {ops : Array Oper} {rest : List Oper} {o : Oper} {a : Act} {Q : Exit → Act → World → Prop}
/-- append(v, src...), v owned, src nil or not. -/
theorem L_appendE (hgd : o.guard = none) (s x : Operand) (t : TypeId) (ho : o.op = .call { callee := .builtin .append, args := #[s, x], argTypes := #[t, t] })
    {e : TypeId} {z : Value} {size bytes : Nat} (T : Sl P t e z size bytes) (base : Nat) (av : Option Addr) (n cv : Nat) (xs : List Value) (hs : a.eval s = .slice av n cv) (hown : w.ownsRow base e size (.slice av n cv) n xs) (aa : Option Addr) (m c : Nat) (l : List Value) (hx : a.eval x = .slice aa m c)
    (hsrc : (aa = none ∧ m = 0 ∧ c = 0 ∧ l = []) ∨ ∃ ad, aa = some ad ∧ ∀ j u, l[j]? = some u → w.cell? (ad.add j) = some u) (hl : l.length = m * size) (h1 : ∀ u ∈ l, u.oneCell' = true) (hb : (n + m) * bytes ≤ 140737488355328) (hm : n + m ≤ maxLen) (hbase : base ≤ w.heap.size)
    (h : ∀ a' c' w', w'.ownsRow base e size (.slice a' (n + m) c') (n + m) (xs ++ l) → w.grownBy w' (Value.slice av n cv).ownBlock → wpList P ops Q rest (a.put o.dst (.slice a' (n + m) c')) w') : wpList P ops Q (o :: rest) a w := by
  rcases hsrc with ⟨rfl, rfl, rfl, rfl⟩ | ⟨ad, rfl, hc⟩
  · obtain ⟨i, hi, hz0, hz1, hz2⟩ := info_parts T.inf
    refine wpList_append_own_none hgd s x t ho base e i size T.und hi _ n xs hs hown hx (h av cv w ?_ ⟨rfl, rfl, rfl, Nat.le_refl _, fun _ _ _ => rfl⟩)
    simpa using hown
  · exact L_appendN hgd s x t ho T base _ n xs hs hown ad m c l hx hl hc h1 hb hm hbase fun a' c' w' h2 h3 _ => h a' c' w' h2 h3
end
theorem inPl_ok (w : World) {name : ByteArray} (hn : name.size ≤ maxLen) (b : Int) : (inPl name b).ok w := by
  unfold inPl
  split
  · exact ⟨⟨rfl, Nat.le_refl _, by show (0 : Nat) ≤ _; omega, fun i x h => by simp at h⟩, by show (0 : Nat) ≤ _; omega, by show (_ : Int) ≤ 0; omega, by show (0 : Int) ≤ _; omega⟩
  · exact ⟨⟨rfl, Nat.le_refl _, by show (0 : Nat) ≤ _; omega, fun i x h => by simp at h⟩, hn, by show (_ : Int) ≤ 0; omega, by show (0 : Int) ≤ _; omega⟩
theorem own_low {w w' : World} {B e s n g : Nat} {v : Value} {xs : List Value} (h : w.ownsRow B e s v n xs) (hb : Below g w w') (hlt : ∀ q, v.ownBlock = some q → q < g) : w'.ownsRow B e s v n xs := by
  refine ⟨h.1, ?_⟩
  rcases h.2 with hn | ⟨g', cap, cur, rfl, hb', hgg, rest⟩
  · exact .inl hn
  · refine .inr ⟨g', cap, cur, rfl, hb', ?_, rest⟩
    rw [hb.block g' (hlt g' rfl)]
    exact hgg
theorem one_nds {l : List Nd} : ∀ u ∈ l.flatMap Nd.cs, u.oneCell' = true := by
  intro u hu
  obtain ⟨y, _, hy⟩ := List.mem_flatMap.1 hu
  exact one_nd u hy
theorem inPl_zero (name : ByteArray) : inPl name 0 = ⟨4, ByteArray.empty, 0, 0, ByteArray.empty, none, 0, 0, none, 0, 0, []⟩ := by unfold inPl; rw [if_pos rfl]
theorem inPl_pos {name : ByteArray} {b : Int} (h : b ≠ 0) : inPl name b = ⟨5, name, 0, 0, ByteArray.empty, none, 0, 0, none, 0, 0, []⟩ := by unfold inPl; rw [if_neg h]
theorem ben_le {ns : List Nd} {k : Nat} {bs : List Bool} (hT : treesB ns = true) (hb : Ben ns k bs) : ∀ (d i : Nat), ns.length - i ≤ d → kp bs i = true → i ≤ k := by
  intro d
  induction d with
  | zero =>
    intro i hd hi
    rcases hb.up i hi with h | ⟨j, nd, hj, hbj, hm⟩
    · omega
    · have h1 := (treesB_ok hT j nd hj).2 _ hm
      have h2 := (List.getElem?_eq_some_iff.1 hj).1
      omega
  | succ d ih =>
    intro i hd hi
    rcases hb.up i hi with h | ⟨j, nd, hj, hbj, hm⟩
    · omega
    · have h1 := (treesB_ok hT j nd hj).2 _ hm
      have h2 := (List.getElem?_eq_some_iff.1 hj).1
      have := ih j (by omega) hbj
      omega
theorem mem_set_nd {ns : List Nd} {k : Nat} {x nd : Nd} (h : nd ∈ ns.set k x) : nd = x ∨ nd ∈ ns := by
  rcases List.mem_or_eq_of_mem_set h with h | h
  · exact .inr h
  · exact .inl h
theorem inPl_kl (name : ByteArray) (b : Int) : (inPl name b).kl ≤ 20000 := by rw [(inPl_ks name b).2]; omega
theorem rs_nil7 (w : World) : RS 7 Nd.cs w none 0 0 [] := ⟨rfl, Nat.le_refl _, by omega, fun i x h => by simp at h⟩
theorem qn_size (k : Nat) (h : k < 17576) : (qn k).size ≤ 4 := by
  have h1 := digs_len 3 k h
  have h2 : (qn k).size = (digs k).length + 1 := by simp [qn, qb, ByteArray.size]
  omega
end Go.Proofs.YtakaoacialnjaaaDoor
namespace Go.Proofs.YtakaoacialnjaaaDoor
open Go Go.RowKit
set_option linter.unusedVariables false
set_option linter.unusedSimpArgs false
set_option maxRecDepth 100000 in
set_option maxHeartbeats 4000000 in
theorem kindsswap_walk (w : World) (a : Option Addr) (n c : Nat) (ns : List Nd) (hr : RS 7 Nd.cs w a n c ns) (hok : ∀ nd ∈ ns, nd.okS w) (sa : Option Addr) (sn sc' : Nat) (sc : List Nm) (hsc : RS 3 Nm.cs w sa sn sc' sc) (hsn0 : sa = none → sc' = 0) (x : Int) (hx0 : -9223372036854775808 ≤ x) (hx1 : x ≤ 9223372036854775807) (ht : NoTab w ∧ ResTab w 2 ∧ 2 < w.heap.size) :
    Calls Tryd.prog 6 #[.slice a n c, .slice sa sn sc', .int .i64 x] w fun e w' => e = .returned (.bool true) ∧ Below w.heap.size w w' := by
  obtain ⟨t0, t2, t3⟩ := ht
  have hlen := hr.1
  have hscl := hsc.1
  have HR := Lib.hid hr
  have HOK := Lib.hid hok
  have HSC := Lib.hid hsc
  have HSN0 := Lib.hid hsn0
  have HT := Lib.hid t0
  have HR2 := Lib.hid t2
  have H2 := Lib.hid t3
  have HLK := Lib.hid (show ∀ nd ∈ ns, nd.ks.length = nd.kl from fun nd hnd => (okS_ok (hok nd hnd)).1.1)
  go_enter Tryd.func6, Tryd.ntmps6
  go_wp2_with fail
  with_reducible refine (great_any w a n c ns hr hok sa sn sc' sc hsc).mono ?_
  rintro e w1 ⟨hg, hb1⟩
  have z1 := hb1.size
  have HB1 := Lib.hid hb1
  clear hr hok hsc hsn0 t0 t2 t3 hb1
  rcases hg with rfl | ⟨rfl, hsml⟩
  · go_wp2_with fail
    with_reducible refine (known_any w1 (HT.out.below HB1.out (by have := H2.out; omega)) (HR2.out.below HB1.out H2.out H2.out) (by have := H2.out; omega)).mono ?_
    rintro e w2 ⟨rfl, hb2⟩
    go_wp2
    go_ret
    exact ⟨rfl, HB1.out.trans (hb2.mono z1)⟩
  obtain ⟨hn, hsn, hsm⟩ := hsml
  have HSM := Lib.hid hsm
  clear hsm
  go_wp2_with fail
  with_reducible refine (of_any w1 a n c ns (HR.out.below HB1.out) (fun nd hnd => (okS_ok (HOK.out nd hnd)).below HB1.out) sa sn sc' sc (HSC.out.below HB1.out) (HT.out.below HB1.out (by have := H2.out; omega)) (HR2.out.below HB1.out H2.out H2.out) (by have := H2.out; omega) (by omega)).mono ?_
  rintro e w2 ⟨⟨xa, xc, rfl, hx⟩, hb2⟩
  have z2 := hb2.size
  have HB2 := Lib.hid (HB1.out.trans (hb2.mono (by omega)))
  clear hb2
  by_cases h8 : (ofK ns sc).2.2 = 8 ∨ n = 0
  · have hnil : (ofK ns sc).1 = [] := by
      by_cases h0 : (ofK ns sc).2.2 = 0
      · rcases h8 with h | h
        · rw [h0] at h; cases h
        · have := ofK_klen h0
          exact List.eq_nil_of_length_eq_zero (by omega)
      · exact ofK_none h0
    have H8 := Lib.hid h8
    generalize ofK ns sc = R at *
    obtain ⟨ks, at', er⟩ := R
    simp only at hnil
    subst hnil
    clear h8
    cases he8 : (er == 8)
    · have hn0 : n = 0 := by
        rcases H8.out with h | h
        · simp only at h; rw [h] at he8; cases he8
        · exact h
      subst hn0
      go_wp2_with fail
      with_reducible refine (known_any w2 (HT.out.below HB2.out (by have := H2.out; omega)) (HR2.out.below HB2.out H2.out H2.out) (by have := H2.out; omega)).mono ?_
      rintro e w3 ⟨rfl, hb3⟩
      go_wp2
      go_ret
      exact ⟨rfl, HB2.out.trans (hb3.mono (by omega))⟩
    · go_wp2_with fail
      with_reducible refine (known_any w2 (HT.out.below HB2.out (by have := H2.out; omega)) (HR2.out.below HB2.out H2.out H2.out) (by have := H2.out; omega)).mono ?_
      rintro e w3 ⟨rfl, hb3⟩
      go_wp2
      go_ret
      exact ⟨rfl, HB2.out.trans (hb3.mono (by omega))⟩
  · have hT := ofK_eight (fun h => h8 (.inl h))
    have HTR := Lib.hid hT
    have hnp : 0 < n := by omega
    have hnb : ((n : Int) == 0) = false := by simp; omega
    have hcs := fun h => Lib.hid (ofK_cases (sc := sc) hT h)
    have hok0 := fun h => Lib.hid (ofK_ok (ns := ns) (sc := sc) h)
    have h88 : ((ofK ns sc).2.2 == 8) = false := by simp; exact fun h => h8 (.inl h)
    have hnone := fun h => Lib.hid (ofK_none (ns := ns) (sc := sc) h)
    generalize hR : ofK ns sc = R at *
    obtain ⟨ks, at', er⟩ := R
    simp only at hcs hok0 h88 hnone
    have HX2 := Lib.hid hx
    have HCS := Lib.hid hcs
    have HOK0 := Lib.hid hok0
    have HNO := Lib.hid hnone
    clear hx hcs hok0 hnone h8 hT hR
    go_upto_if 50 with (fail)
    go_cut [7, 10] (fun s7 s10 wx => SwapC w wx ns sc n at' er s7 s10)
    case first =>
      cases he0 : (er == 0)
      · have hne : er ≠ 0 := by simpa using he0
        have he0' : (er != 0) = true := by simpa using he0
        obtain ⟨nd, r, hku, hnd, hlk⟩ := (HCS.out hne).out
        have hatn : at' < n := by have := (List.getElem?_eq_some_iff.1 hnd).1; omega
        have HKU := Lib.hid hku
        have HSL := Lib.hid (show SwapL ns sc n at' er r at' from ⟨hku, .inr ⟨hne, rfl, hatn, nd, hnd, hlk⟩⟩)
        have hatI : (at' : Int) ≤ (n : Int) := by omega
        have hacI : (at' : Int) ≤ (c : Int) := by have := HR.out.2.1; omega
        have hac : at' ≤ c := by have := HR.out.2.1; omega
        have hrl := hku.1
        clear hku hnd hlk hne
        go_wp2_with fail
        with_reducible refine (of_any w2 a at' c (ns.take at') (rs_take (HR.out.below HB2.out) (by omega)) (fun nd hnd => (okS_ok (HOK.out nd (List.mem_of_mem_take hnd))).below HB2.out) sa sn sc' sc (HSC.out.below HB2.out) (HT.out.below HB2.out (by have := H2.out; omega)) (HR2.out.below HB2.out H2.out H2.out) (by have := H2.out; omega) (by omega)).mono ?_
        rintro e w3 ⟨hof, hb3⟩
        rw [HKU.out.of_take HTR.out] at hof
        obtain ⟨ya, yc, rfl, hy⟩ := hof
        rw [show (r, (0 : Nat), (0 : Int)).1.length = at' from hrl] at hy ⊢
        have HY := Lib.hid hy
        have HB3 := Lib.hid (HB2.out.trans (hb3.mono (by omega)))
        clear hy hb3
        go_wp2_with fail
        go_meet
        exact ⟨ya, yc, r, at', rfl, rfl, owns_mono HY.out (by omega), HSL.out, HB3.out⟩
      · have he : er = 0 := by simpa using he0
        subst he
        obtain ⟨q1, q2, q3⟩ := (HOK0.out rfl).out
        have HSL := Lib.hid (show SwapL ns sc n at' 0 ks n from ⟨by have := KU.of q3; rwa [hlen] at this, .inl ⟨rfl, rfl⟩⟩)
        have hkl : ks.length = n := by have := q3.1; omega
        rw [show (ks, at', (0 : Int)).1.length = n from hkl] at HX2 ⊢
        clear q1 q2 q3
        go_wp2_with fail
        go_meet
        exact ⟨xa, xc, ks, n, rfl, rfl, owns_mono HX2.out (by omega), HSL.out, HB2.out⟩
    case rest =>
      obtain ⟨la, lc, l, u, rfl, rfl, hl, hsl, hb⟩ := hcut
      have HBC := Lib.hid hb
      have HL := Lib.hid hl
      have HSL := Lib.hid hsl
      have zc := hb.size
      have hun : u ≤ n := by have := hsl.1.2.1; omega
      have hlu : l.length = u := hsl.1.1
      have HLU := Lib.hid hlu
      clear hb hl hsl hlu HX2 HCS HOK0 HNO HB2 HB1
      by_cases hu0 : u = 0
      · subst hu0
        go_wp2_with fail
        with_reducible refine (known_any wc (HT.out.below HBC.out (by have := H2.out; omega)) (HR2.out.below HBC.out H2.out H2.out) (by have := H2.out; omega)).mono ?_
        rintro e w3 ⟨rfl, hb3⟩
        go_wp2
        go_ret
        exact ⟨rfl, HBC.out.trans (hb3.mono (by omega))⟩
      · have hup : 0 < u := by omega
        have hub : ((u : Int) == 0) = false := by simp; omega
        go_wp2_with fail
        with_reducible refine (within_any wc x u (by omega) (by omega) hx0 hx1).mono ?_
        rintro e w3 ⟨⟨k, hk, rfl⟩, hb3⟩
        have z3 := hb3.size
        have HB3 := Lib.hid (HBC.out.trans (hb3.mono (by omega)))
        have HL3 := Lib.hid (own_below HL.out hb3)
        clear hb3 HL
        go_wp2_with fail
        with_reducible refine (beneath_any w3 a n c ns (HR.out.below HB3.out) (fun nd hnd => (okS_ok (HOK.out nd hnd)).below HB3.out) k (by omega) (by omega) (fun i nd hi => (treesB_ok HTR.out i nd hi).2)).mono ?_
        rintro e w4 ⟨⟨bs, rfl, hbr, hben⟩, hb4⟩
        have z4 := hb4.size
        have HB4 := Lib.hid (HB3.out.trans (hb4.mono (by omega)))
        have HL4 := Lib.hid (own_below HL3.out hb4)
        have HBR4 := Lib.hid (RS.of_owns hbr (by decide) Bv_len (by omega))
        have HBEN := Lib.hid hben
        clear hb4 hbr hben HL3
        generalize hga : w3.heap.size = ga at *
        clear hga
        go_wp2_with (first
          | (at_make; refine L_make rfl _ _ _ rfl sl39 w4.heap.size .i64 .i64 _ n rfl rfl (by omega) (by omega) (by simp [maxLen]; omega) (Nat.le_refl _) (fun w5 ho5 hg5 => ?_)
             have hb5 : Below w4.heap.size w4 w5 := (Below.refl _ _).grown hg5 (Nat.le_refl _) (by intro k hk; cases hk)
             have ho6 : w5.ownsRow w4.heap.size 4 1 (.slice (some ⟨w4.heap.size, 0, none⟩) n n) n ((keepL bs k n 0).flatMap Bv) := by
               have e2 : (madeCells (Value.cells (.bool false)) (n * 1)).toList = (List.replicate n false).flatMap Bv := madeFlat Bv 1 (by decide) Bv_len false n
               rw [e2] at ho5
               rw [keepL_zero]
               exact ho5
             have z5 := hb5.size
             have HB5 := Lib.hid (HB4.out.trans (hb5.mono (by omega)))
             have HL5 := Lib.hid (own_below HL4.out hb5)
             have HBR5 := Lib.hid (HBR4.out.below hb5)
             have HK5 := Lib.hid ho6
             clear ho5 hg5 ho6 hb5))
        obtain ⟨gk, hgk⟩ : ∃ gk, gk = w4.heap.size := ⟨_, rfl⟩
        have hgk2 : w.heap.size ≤ gk := by omega
        have HGA := Lib.hid (show ga ≠ gk ∨ True from .inr trivial)
        rw [← hgk] at HK5 ⊢
        have HBK5 := Lib.hid (show ∀ q, (Value.slice la u lc).ownBlock = some q → q < gk from fun q hq => by rw [hgk]; exact (HL4.out.lt q hq).2)
        have HBG := Lib.hid (show ga < gk ∨ n = 0 by
          rcases Nat.eq_zero_or_pos n with h | h
          · exact .inr h
          · left
            obtain ⟨b, off, y, e1, _, hcl⟩ := HBR4.out.at h
            cases e1
            rw [hgk]
            exact block_lt_of_cell (hcl 0 _ rfl))
        clear hgk HB4 HL4 HBR4
        go_loopw [14] (fun i wr => ∃ j : Nat, j ≤ n ∧ i = .int .i64 (j : Int) ∧ Below w.heap.size w wr ∧ Below gk w5 wr ∧ wr.ownsRow gk 4 1 (.slice (some ⟨gk, 0, none⟩) n n) n ((keepL bs k n j).flatMap Bv)) (fun i _ => n - (intOf i).toNat)
        case atStart => exact ⟨0, Nat.zero_le _, rfl, HB5.out, Below.refl _ _, HK5.out⟩
        case round =>
          obtain ⟨j, hj, rfl, hbw, hbg, hok⟩ := hrel
          have HBW := Lib.hid hbw
          have HBG2 := Lib.hid hbg
          have HKP := Lib.hid hok
          have zr := hbw.size
          clear hbw hbg hok
          by_cases hjl : j < n
          · have hjI : (j : Int) < (n : Int) := by omega
            obtain ⟨qb', qo, q, hqa, hq, hcq⟩ := HBR5.out.at hjl
            cases hqa
            have hgak : ga < gk := by
              rcases HBG.out with h | h
              · exact h
              · omega
            have q0 := (HBG2.out.cell (p := ⟨ga, 0 + j * 1 + 0, none⟩) hgak).trans (hcq 0 _ rfl)
            have HKQ := Lib.hid (show kp bs j = q by unfold kp; rw [List.getD_eq_getElem?_getD, hq]; rfl)
            have c0 := own_at Bv_len HKP.out (keepL_at bs k n j hjl) 0 _ rfl
            have f0 := HKP.out.frozenAt j
            simp only [Nat.mul_one, Nat.add_zero, Nat.zero_add] at q0 c0
            have ho' : (wr.setCell ⟨gk, j, none⟩ (.bool (!q || j == k))).ownsRow gk 4 1 (.slice (some ⟨gk, 0, none⟩) n n) n ((keepL bs k n (j + 1)).flatMap Bv) := by
              have := (own_chain (Bv (!kp bs j || j == k)) _ wr (j * 1) HKP.out).1
              rw [setList_flat Bv 1 Bv_len _ j (!kp bs j || j == k) (by rw [keepL_len]; exact hjl), keepL_set bs k n j hjl, HKQ.out] at this
              simpa [setChain, Bv] using this
            have HO' := Lib.hid ho'
            have HB' := Lib.hid (HBW.out.setCell (p := ⟨gk, j, none⟩) hgk2 (.bool (!q || j == k)))
            have HG' := Lib.hid (HBG2.out.setCell (p := ⟨gk, j, none⟩) (Nat.le_refl _) (.bool (!q || j == k)))
            clear ho' hcq hq
            cases q
            · go_wp2_with fail
              go_roundw
              case rel => exact ⟨j + 1, by omega, by go_num, HB'.out, HG'.out, HO'.out⟩
              case measure => simp [intOf] <;> omega
            · cases ejk : (j == k)
              · have hne : ((j : Int) == (k : Int)) = false := by simp at ejk ⊢; omega
                rw [ejk] at HO' HB' HG'
                clear ejk
                go_wp2_with fail
                go_roundw
                case rel => exact ⟨j + 1, by omega, by go_num, HB'.out, HG'.out, HO'.out⟩
                case measure => simp [intOf] <;> omega
              · obtain rfl : j = k := by simpa using ejk
                rw [ejk] at HO' HB' HG'
                clear ejk
                go_wp2_with fail
                go_roundw
                case rel => exact ⟨j + 1, by omega, by go_num, HB'.out, HG'.out, HO'.out⟩
                case measure => simp [intOf] <;> omega
          · have hjI : ¬ (j : Int) < (n : Int) := by omega
            obtain rfl : j = n := by omega
            have HLW := Lib.hid (own_low (own_low HL5.out (Below.refl gk w5) HBK5.out) HBG2.out HBK5.out)
            obtain ⟨nd, hnd⟩ : ∃ nd, ns[k]? = some nd := ⟨_, List.getElem?_eq_getElem (by omega)⟩
            have HND := Lib.hid hnd
            have hkn : k < j := by omega
            have hknI : (k : Int) < (j : Int) := by omega
            obtain ⟨lb, lo, ⟨b, o⟩, hla, hlk, hcl⟩ := (RS.of_owns HLW.out (by decide) Kd_len (by omega)).at hk
            have HLK2 := Lib.hid hlk
            have HC0 := Lib.hid (hcl 0 _ rfl)
            have HC1 := Lib.hid (hcl 1 _ rfl)
            have HAC := Lib.hid (show (a = none ∧ j = 0 ∧ c = 0 ∧ ns.flatMap Nd.cs = []) ∨ ∃ ad, a = some ad ∧ ∀ i u, (ns.flatMap Nd.cs)[i]? = some u → wr.cell? (ad.add i) = some u from by
              obtain ⟨nb, no, y, ea, _, _⟩ := HR.out.at hnp
              exact .inr ⟨_, ea, (HR.out.below HBW.out).cells Nd_len2 (by decide) ea⟩)
            have hkI : (k : Int) < (u : Int) := by omega
            clear hnd hlk hcl HL5 HK5 HB5
            go_wp2_with (at_builtin; (refine L_append0 rfl _ _ _ rfl sl24 rfl a j c (ns.flatMap Nd.cs) rfl HAC.out (by rw [flat_len Nd.cs 7 Nd_len2, hlen]) one_nds (by omega) (by simp [maxLen]; omega) (fun a6 cv6 w6 ho6 hg6 => ?_)
                                      have hb6 : Below wr.heap.size wr w6 := (Below.refl _ _).grown hg6 (Nat.le_refl _) (by intro q hq; cases hq)
                                      obtain ⟨gv, hgv, hgv1, hgv2⟩ := own_addr ho6 hnp
                                      subst hgv
                                      have HV6 := Lib.hid ho6
                                      have HB6 := Lib.hid hb6
                                      have z6 := hb6.size
                                      clear ho6 hg6 hb6))
            with_reducible refine (unused_any w6 a j c ns ((HR.out.below HBW.out).below HB6.out) sa sn sc' sc ((HSC.out.below HBW.out).below HB6.out) hn hsn).mono ?_
            rintro e w7 ⟨⟨q, hq, rfl, hfree⟩, hb7⟩
            have z7 := hb7.size
            have HFREE := Lib.hid hfree
            have HV7 := Lib.hid (own_below HV6.out hb7)
            have HB7 := Lib.hid (HB6.out.trans (hb7.mono z6))
            have HQS := Lib.hid (qn_size q hq)
            have HLEG := Lib.hid (qn_legal hq)
            clear hfree hb7 HV6 HB6 HAC hq
            generalize qn q = name at *
            have hns5 := (own_chain (Nd.cs ⟨5, name, 0, 0, ByteArray.empty, none, 0, 0, none, 0, 0, []⟩) _ w7 (k * 7) HV7.out).1
            rw [setList_flat Nd.cs 7 Nd_len2 _ k _ (by omega)] at hns5
            have hb5' := below_chain hgv1 (Nd.cs ⟨5, name, 0, 0, ByteArray.empty, none, 0, 0, none, 0, 0, []⟩) w7 (k * 7) HB7.out
            have HN5 := Lib.hid hns5
            have HB5' := Lib.hid hb5'
            have c0 := own_at Nd_len2 HV7.out HND.out 0 _ rfl
            have f0 := HV7.out.frozenAt (k * 7)
            have c1 := own_at Nd_len2 HV7.out HND.out 1 _ rfl
            have f1 := HV7.out.frozenAt (k * 7 + 1)
            have c2 := own_at Nd_len2 HV7.out HND.out 2 _ rfl
            have f2 := HV7.out.frozenAt (k * 7 + 2)
            have c3 := own_at Nd_len2 HV7.out HND.out 3 _ rfl
            have f3 := HV7.out.frozenAt (k * 7 + 3)
            have c4 := own_at Nd_len2 HV7.out HND.out 4 _ rfl
            have f4 := HV7.out.frozenAt (k * 7 + 4)
            have c5 := own_at Nd_len2 HV7.out HND.out 5 _ rfl
            have f5 := HV7.out.frozenAt (k * 7 + 5)
            have c6 := own_at Nd_len2 HV7.out HND.out 6 _ rfl
            have f6 := HV7.out.frozenAt (k * 7 + 6)
            simp only [Nat.add_zero] at c0
            clear hns5 hb5'
            go_upto_region 22 with (fail)
            obtain ⟨w8, hw8⟩ : ∃ w8, w8 = (((((((w7).setCell ⟨gv, k * 7, none⟩ (.int .i64 5)).setCell ⟨gv, k * 7 + 1, none⟩ (.string name)).setCell ⟨gv, k * 7 + 2, none⟩ (.int .i64 0)).setCell ⟨gv, k * 7 + 3, none⟩ (.int .i64 0)).setCell ⟨gv, k * 7 + 4, none⟩ (.string { data := #[] })).setCell ⟨gv, k * 7 + 5, none⟩ (.slice none 0 0)).setCell ⟨gv, k * 7 + 6, none⟩ (.slice none 0 0) := ⟨_, rfl⟩
            have hn8 : w8.ownsRow wr.heap.size 49 7 (.slice (some ⟨gv, 0, none⟩) j cv6) j ((ns.set k ⟨5, name, 0, 0, ByteArray.empty, none, 0, 0, none, 0, 0, []⟩).flatMap Nd.cs) := by rw [hw8]; exact HN5.out
            have hb8 : Below wr.heap.size wr w8 := by rw [hw8]; exact HB5'.out
            rw [← hw8]
            have HN8 := Lib.hid hn8
            have HB8 := Lib.hid hb8
            clear hw8 hn8 hb8 HN5 HB5' c0 c1 c2 c3 c4 c5 c6 f0 f1 f2 f3 f4 f5 f6
            have d0 := (HB8.out.cell (p := ⟨lb, lo + k * 2 + 0, none⟩) (block_lt_of_cell HC0.out)).trans HC0.out
            simp only [Nat.add_zero] at d0
            go_upto_if 118 with (fail)
            go_cut [] (fun wx => wx.ownsRow wr.heap.size 49 7 (.slice (some ⟨gv, 0, none⟩) j cv6) j ((ns.set k (inPl name b)).flatMap Nd.cs) ∧ Below wr.heap.size wr wx)
            case first =>
              cases hb0 : (b == 0)
              · have hbne : b ≠ 0 := by simpa using hb0
                have HF := Lib.hid (inPl_pos (name := name) hbne)
                clear hbne
                go_wp2_with fail
                go_meet
                exact ⟨by rw [HF.out]; exact HN8.out, HB8.out⟩
              · obtain rfl : b = 0 := by simpa using hb0
                have hz8 : (ns.set k ⟨5, name, 0, 0, ByteArray.empty, none, 0, 0, none, 0, 0, []⟩)[k]? = some ⟨5, name, 0, 0, ByteArray.empty, none, 0, 0, none, 0, 0, []⟩ := by rw [List.getElem?_set, if_pos rfl, if_pos (by omega)]
                have c0 := own_at Nd_len2 HN8.out hz8 0 _ rfl
                have f0 := HN8.out.frozenAt (k * 7)
                have c1 := own_at Nd_len2 HN8.out hz8 1 _ rfl
                have f1 := HN8.out.frozenAt (k * 7 + 1)
                have c2 := own_at Nd_len2 HN8.out hz8 2 _ rfl
                have f2 := HN8.out.frozenAt (k * 7 + 2)
                have c3 := own_at Nd_len2 HN8.out hz8 3 _ rfl
                have f3 := HN8.out.frozenAt (k * 7 + 3)
                have c4 := own_at Nd_len2 HN8.out hz8 4 _ rfl
                have f4 := HN8.out.frozenAt (k * 7 + 4)
                have c5 := own_at Nd_len2 HN8.out hz8 5 _ rfl
                have f5 := HN8.out.frozenAt (k * 7 + 5)
                have c6 := own_at Nd_len2 HN8.out hz8 6 _ rfl
                have f6 := HN8.out.frozenAt (k * 7 + 6)
                simp only [Nat.add_zero] at c0
                have hns4 := (own_chain (Nd.cs ⟨4, ByteArray.empty, 0, 0, ByteArray.empty, none, 0, 0, none, 0, 0, []⟩) _ w8 (k * 7) HN8.out).1
                rw [setList_flat Nd.cs 7 Nd_len2 _ k _ (by rw [List.length_set]; omega), List.set_set] at hns4
                have hb4' := below_chain hgv1 (Nd.cs ⟨4, ByteArray.empty, 0, 0, ByteArray.empty, none, 0, 0, none, 0, 0, []⟩) w8 (k * 7) HB8.out
                have HN4 := Lib.hid hns4
                have HB4' := Lib.hid hb4'
                clear hns4 hb4' hz8
                go_wp2_with fail
                go_meet
                exact ⟨by rw [inPl_zero]; exact HN4.out, HB4'.out⟩
            case rest =>
              obtain ⟨hv9, hb9⟩ := hcut
              obtain ⟨wd, rfl⟩ : ∃ wd : World, wd = wc := ⟨_, rfl⟩
              have HV9 := Lib.hid (RS.of_owns hv9 (by decide) Nd_len2 (by omega))
              have HKR9 := Lib.hid ((RS.of_owns HKP.out (by decide) Bv_len (by omega)).below hb9)
              have HL9 := Lib.hid (RS.of_owns (own_below HLW.out hb9) (by decide) Kd_len (by omega))
              have HBD := Lib.hid (HBW.out.trans (hb9.mono zr))
              have zd := HBD.out.size
              have HOUT := Lib.hid (show Outside bs (keepL bs k j j) k ns.length from by rw [hlen]; exact keepL_out bs k j)
              have HKT := Lib.hid (swap_kept HTR.out HLK.out (by omega) HBEN.out HOUT.out (inPl_right HLEG.out b) (inPl_ks name b))
              clear hv9 hb9 HN8 HB8 HV7 HB7 HKP HLW HC0 HC1 d0
              go_wp2_with fail
              with_reducible refine (moved_gen wd (some ⟨gv, 0, none⟩) j cv6 (ns.set k (inPl name b)) HV9.out (fun nd hnd => by
                rcases mem_set_nd hnd with rfl | h
                · exact inPl_ok wd (by have := HQS.out; unfold maxLen; omega) b
                · exact (okS_ok (HOK.out nd h)).below HBD.out) (some ⟨gk, 0, none⟩) j (keepL bs k j j) HKR9.out none 0 0 [] (rs_nil7 wd) (.inl ⟨rfl, rfl⟩) hn (by omega) (fun nd hnd => by
                rcases mem_set_nd hnd with rfl | h
                · exact inPl_kl name b
                · exact (HSM.out nd h).1) (fun i nd hi hki q hq => by have := (HKT.out.one i nd hi hki).2.2.2 q hq; exact ⟨this.1, this.2.1⟩)).mono ?_
              rintro e wa ⟨hmo, hba⟩
              obtain ⟨ma, L, mc, pa, pc, us, rfl, hL, hl6, hu6, hp6, hmv⟩ := hmo
              rw [Nat.zero_add] at hL
              have za := hba.size
              have HBA := Lib.hid (HBD.out.trans (hba.mono (by omega)))
              have HLA := Lib.hid (HL9.out.below hba)
              have HKA := Lib.hid (HKR9.out.below hba)
              have HMA := Lib.hid hl6
              have HPA := Lib.hid hp6
              have HUO := Lib.hid hu6
              have HSW := Lib.hid (swap_law HTR.out HLK.out HSL.out.1 hk HBEN.out HOUT.out HLEG.out HFREE.out HLK2.out hmv)
              have husl : L ≤ j := by
                have h1 : nk (keepL bs k j j) (ns.set k (inPl name b)).length ≤ (List.range (ns.set k (inPl name b)).length).length := List.countP_le_length
                have h2 := hmv.len
                rw [List.length_range, List.length_set] at h1
                rw [List.length_set] at h2
                omega
              have HLL := Lib.hid hL
              obtain ⟨lb2, lo2, y, hla2, hy, hcl⟩ := HLA.out.at hk
              obtain ⟨el1, el2⟩ : lb = lb2 ∧ lo = lo2 := by
                rw [hla] at hla2
                simp only [Option.some.injEq, Addr.mk.injEq, and_true] at hla2
                exact hla2
              rw [HLK2.out] at hy
              obtain rfl := (Option.some.inj hy).symm
              have d0 := hcl 0 _ rfl
              have d1 := hcl 1 _ rfl
              simp only [Nat.add_zero] at d0
              rw [← el1, ← el2] at d0 d1
              clear hla2 el1 el2
              have HSA := Lib.hid (show (sa = none ∧ sn = 0 ∧ sc' = 0 ∧ sc.flatMap Nm.cs = []) ∨ ∃ ad, sa = some ad ∧ ∀ i v, (sc.flatMap Nm.cs)[i]? = some v → wa.cell? (ad.add i) = some v from by
                cases hsa : sa with
                | none =>
                  have h0 := HSN0.out hsa
                  have h1 := HSC.out.2.1
                  left
                  refine ⟨rfl, by omega, h0, ?_⟩
                  rw [List.eq_nil_of_length_eq_zero (by omega : sc.length = 0)]; rfl
                | some ad => exact .inr ⟨ad, rfl, (HSC.out.below HBA.out).cells Nm_len2 (by decide) hsa⟩)
              clear hba hl6 hp6 hu6 hmv hL hcl hy HV9 HKR9 HL9
              go_wp2_with (at_builtin; (refine L_appendE rfl _ _ _ rfl sl25 wa.heap.size (some ⟨wa.heap.size, 0, none⟩) 1 1 (Nm.cs ⟨name, b, o⟩) rfl (World.ownsRow_lit wa #[.string name, .int .i64 b, .bool o] 1 (Nat.le_refl _) (by simp [maxLen]) rfl) sa sn sc' (sc.flatMap Nm.cs) rfl (by
                                          rcases HSA.out with h | ⟨ad, h1, h2⟩
                                          · exact .inl h
                                          · exact .inr ⟨ad, h1, fun i v hv => ((((Below.refl _ _).alloc (Nat.le_refl _) _).cell (p := ad.add i) (block_lt_of_cell (h2 i v hv)))).trans (h2 i v hv)⟩) (by rw [flat_len Nm.cs 3 Nm_len2, hscl]) one_nms (by omega) (by simp [maxLen]; omega) (by simp) (fun ae ce we hoe hge => ?_)
                                        have hbe : Below wa.heap.size wa we := ((Below.refl _ _).alloc (Nat.le_refl _) _).grown hge (by simp) (fun q hq => by simp [Value.ownBlock] at hq; omega)
                                        have HSE := Lib.hid hoe
                                        have HBE := Lib.hid (HBA.out.trans (hbe.mono (by omega)))
                                        have HLE := Lib.hid (HLA.out.below hbe)
                                        have HKE := Lib.hid (HKA.out.below hbe)
                                        have HME := Lib.hid (HMA.out.below hbe)
                                        have HPE := Lib.hid (HPA.out.below hbe)
                                        have HUE := Lib.hid (fun u hu => (HUO.out u hu).below hbe)
                                        have ze := hbe.size
                                        clear hoe hge hbe HSA))
              have HSR := Lib.hid (RS.of_owns (xs := ⟨name, b, o⟩ :: sc) HSE.out (by decide) Nm_len2 (by omega))
              clear d0 d1 HSE
              with_reducible refine (of_any we ma L mc ([] ++ us) HME.out (fun u hu => HUE.out u (by simpa using hu)) ae (1 + sn) ce (⟨name, b, o⟩ :: sc) HSR.out (HT.out.below HBE.out (by have := H2.out; omega)) (HR2.out.below HBE.out H2.out H2.out) (by have := H2.out; omega) (by omega)).mono ?_
              rintro e wf ⟨hof, hbf⟩
              rw [List.nil_append] at hof
              have zf := hbf.size
              have HBF := Lib.hid (HBE.out.trans (hbf.mono (by omega)))
              have HLF := Lib.hid (HLE.out.below hbf)
              have HKF := Lib.hid (HKE.out.below hbf)
              have HPF := Lib.hid (HPE.out.below hbf)
              have HOF := Lib.hid hof
              clear hof hbf HME HUE HSR
              rcases HSL.out.2 with ⟨er0, huj⟩ | ⟨hne, hatu, hult, nd', hnd', hlk'⟩
              · subst er0
                subst huj
                obtain ⟨ms, hm1, hm2, hm3⟩ := HSW.out.1 (by omega)
                have hof := HOF.out
                rw [hm1] at hof
                obtain ⟨fa, fc, rfl, hf7⟩ := hof
                have hml : ms.length = L := by have := HLL.out; omega
                rw [show (ms, (0 : Nat), (0 : Int)).1.length = L from hml] at hf7 ⊢
                have HMF := Lib.hid (RS.of_owns hf7 (by decide) Kd_len (by omega))
                have HM3 := Lib.hid hm3
                have HML := Lib.hid hml
                clear hm1 hm2 hm3 hml hf7 HOF HSW
                go_wp2_with fail
                go_loopw [22] (fun i wr => ∃ i' : Nat, i' ≤ u ∧ i = .int .i64 (i' : Int) ∧ Below wf.heap.size wf wr) (fun i _ => u - (intOf i).toNat)
                case atStart => exact ⟨0, Nat.zero_le _, rfl, Below.refl _ _⟩
                case round =>
                  obtain ⟨i', hi', rfl, hb⟩ := hrel
                  have HB8 := Lib.hid hb
                  have HBW2 := Lib.hid (HBF.out.trans (hb.mono (by omega)))
                  have z8 := hb.size
                  clear hb
                  by_cases hlt : i' < u
                  · have hltI : (i' : Int) < (u : Int) := by omega
                    obtain ⟨kb, ko, q, hqa, hq, hcq⟩ := HKF.out.at hlt
                    cases hqa
                    have q0 := (HB8.out.cell (p := ⟨gk, 0 + i' * 1 + 0, none⟩) (block_lt_of_cell (hcq 0 _ rfl))).trans (hcq 0 _ rfl)
                    simp only [Nat.mul_one, Nat.add_zero, Nat.zero_add] at q0
                    have HKQ := Lib.hid (show kp (keepL bs k u u) i' = q by unfold kp; rw [List.getD_eq_getElem?_getD, hq]; rfl)
                    clear hcq hq
                    cases q
                    · go_wp2_with fail
                      go_region
                      go_wp2_with fail
                      go_roundw
                      case rel => exact ⟨i' + 1, by omega, by go_num, HB8.out.drew⟩
                      case measure => simp [intOf] <;> omega
                    · obtain ⟨xb, xo, ⟨vb, vo⟩, hxe, hv, hcx⟩ := HLF.out.at hlt
                      rw [hla] at hxe
                      obtain ⟨el1, el2⟩ : lb = xb ∧ lo = xo := by
                        simp only [Option.some.injEq, Addr.mk.injEq, and_true] at hxe
                        exact hxe
                      have x0 := (HB8.out.cell (p := ⟨xb, xo + i' * 2 + 0, none⟩) (block_lt_of_cell (hcx 0 _ rfl))).trans (hcx 0 _ rfl)
                      have x1 := (HB8.out.cell (p := ⟨xb, xo + i' * 2 + 1, none⟩) (block_lt_of_cell (hcx 1 _ rfl))).trans (hcx 1 _ rfl)
                      rw [← el1, ← el2] at x0 x1
                      clear hxe el1 el2
                      obtain ⟨pb, po, p, hpe, hp, hcp⟩ := HPF.out.at hlt
                      have p0 := (HB8.out.cell (p := ⟨pb, po + i' * 1 + 0, none⟩) (block_lt_of_cell (hcp 0 _ rfl))).trans (hcp 0 _ rfl)
                      obtain rfl : p = ((plc 0 (keepL bs k u u) i' : Nat) : Int) := by
                        simp only [List.getElem?_map, List.getElem?_range hlt, Option.map_some, Option.some.injEq] at hp
                        exact hp.symm
                      subst hpe
                      have hms := HM3.out i' (by omega) HKQ.out
                      rw [hv] at hms
                      obtain ⟨pl, hpl⟩ : ∃ pl, pl = plc 0 (keepL bs k u u) i' := ⟨_, rfl⟩
                      rw [← hpl] at hms p0
                      have hplL : pl < L := by rw [← HML.out]; exact (List.getElem?_eq_some_iff.1 hms).1
                      have hplI : (pl : Int) < (L : Int) := by omega
                      obtain ⟨yb, yo, y, hya, hy, hcy⟩ := HMF.out.at hplL
                      rw [hms] at hy
                      obtain rfl := (Option.some.inj hy).symm
                      have y0 := (HB8.out.cell (p := ⟨yb, yo + pl * 2 + 0, none⟩) (block_lt_of_cell (hcy 0 _ rfl))).trans (hcy 0 _ rfl)
                      have y1 := (HB8.out.cell (p := ⟨yb, yo + pl * 2 + 1, none⟩) (block_lt_of_cell (hcy 1 _ rfl))).trans (hcy 1 _ rfl)
                      subst hya
                      simp only [Nat.mul_one, Nat.add_zero] at x0 p0 y0
                      clear hcx hcp hcy hv hp hy hms hpl
                      go_wp2_with fail
                      go_region
                      go_wp2_with fail
                      go_roundw
                      case rel => exact ⟨i' + 1, by omega, by go_num, HB8.out.drew⟩
                      case measure => simp [intOf] <;> omega
                  · have hltI : ¬ (i' : Int) < (u : Int) := by omega
                    go_wp2_with fail
                    with_reducible refine (known_any wr (HT.out.below HBW2.out (by have := H2.out; omega)) (HR2.out.below HBW2.out H2.out H2.out) (by have := H2.out; omega)).mono ?_
                    rintro e wz ⟨rfl, hbz⟩
                    go_wp2
                    go_ret
                    exact ⟨rfl, HBW2.out.trans (hbz.mono (by omega))⟩
              · have hek : kp (keepL bs k j j) u = true := by
                  rw [HOUT.out u (by omega)]
                  cases hbu : kp bs u with
                  | false => rfl
                  | true => have := ben_le HTR.out HBEN.out _ u (Nat.le_refl _) hbu; omega
                have hm1 := HSW.out.2 nd' er hnd' hek hlk' hne
                have hof := HOF.out
                rw [hm1] at hof
                obtain ⟨fa, fc, rfl, hf7⟩ := hof
                obtain ⟨pb, po, p, hpe, hp, hcp⟩ := HPF.out.at hult
                have p0 := hcp 0 _ rfl
                obtain rfl : p = ((plc 0 (keepL bs k j j) u : Nat) : Int) := by
                  simp only [List.getElem?_map, List.getElem?_range hult, Option.map_some, Option.some.injEq] at hp
                  exact hp.symm
                rw [plc_eq hek, Nat.zero_add] at p0
                simp only [Nat.mul_one, Nat.add_zero] at p0
                subst hpe
                subst hatu
                have hatI : (at' : Int) < (j : Int) := by omega
                have he1 : (er == 0) = false := by simpa using hne
                have he2 : (er != 0) = true := by simpa using hne
                clear hcp hp hm1 hf7 HOF HSW hnd' hlk' hne hek
                generalize nk (keepL bs k j j) at' = pp at *
                go_wp2_with fail
                go_loopw [22] (fun i wr => i = .int .i64 0 ∧ Below wf.heap.size wf wr) (fun i _ => 0)
                case atStart => exact ⟨rfl, Below.refl _ _⟩
                case round =>
                  obtain ⟨rfl, hb⟩ := hrel
                  have HBW2 := Lib.hid (HBF.out.trans (hb.mono (by omega)))
                  have z8 := hb.size
                  clear hb p0
                  go_wp2_with fail
                  with_reducible refine (known_any wr (HT.out.below HBW2.out (by have := H2.out; omega)) (HR2.out.below HBW2.out H2.out H2.out) (by have := H2.out; omega)).mono ?_
                  rintro e wz ⟨rfl, hbz⟩
                  go_wp2
                  go_ret
                  exact ⟨rfl, HBW2.out.trans (hbz.mono (by omega))⟩
end Go.Proofs.YtakaoacialnjaaaDoor
namespace Go.Proofs.YtakaoacialnjaaaDoor
open Go Go.RowKit
set_option linter.unusedVariables false
set_option linter.unusedSimpArgs false
theorem scope_nil {H : Type} {enc : TypeId × Value → H} {W : World} {a : Option Addr} {n c : Nat} {d : DataW H} {p : List MemPlace} (h : ∃ fuel, DataW.trod enc Tryd.prog W 0 (fun _ => true) true fuel 25 (Value.slice a n c).cells.toList = some (d, p)) : a = none → c = 0 := by
  intro ha
  subst ha
  obtain ⟨fuel, hf⟩ := h
  rcases Go.Deep.open_slice Tryd.underlying25 hf with ⟨hc, _⟩ | ⟨x, len, cap, m, k, D, Pl, hc, _⟩
  · simp [Value.cells] at hc; exact hc.2
  · simp [Value.cells] at hc
end Go.Proofs.YtakaoacialnjaaaDoor
namespace Go.Proofs.YtakaoacialnjaaaDoor
open Go Go.RowKit
set_option linter.unusedVariables false
set_option linter.unusedSimpArgs false
def dropA (a : Option Addr) (k cap : Nat) : Option Addr := if cap = k then a else a.map (·.add k)
section
variable {P : Program} {t e : TypeId} {z : Value} {bytes : Nat} (T : Sl P t e z 1 bytes) (w : World) (a : Option Addr) (len cap : Nat)
include T
theorem Sl.elem : P.underlying t = some (.slice (P.elem t)) ∧ (sizeOf (P.elem t)).run P w = .ok 1 w := by
  obtain ⟨i, hi, hz0, hz1, hz2⟩ := info_parts T.inf
  have he : P.elem t = e := by simp [Program.elem, T.und]
  rw [he]
  exact ⟨T.und, by simp [sizeOf, typeInfo, hi, hz1]⟩
theorem slice_from (k : Nat) (x : Int) (hx : x = (k : Int)) (hk : k ≤ len) : (Instr.slice t (.slice a len cap) (some (.int .i64 x)) none none).run P w = .ok (.slice (dropA a k cap) (len - k) (cap - k)) w := by
  subst hx
  obtain ⟨h1, h2⟩ := T.elem w
  rw [run_slice_l w t a len cap h1 .i64 k (by omega) (by omega), h2]
  simp [Result.andThen, sliced, dropA]
theorem slice_mid (k h : Nat) (x y : Int) (hx : x = (k : Int)) (hy : y = (h : Int)) (hk : k ≤ h) (hc : h ≤ cap) : (Instr.slice t (.slice a len cap) (some (.int .i64 x)) (some (.int .i64 y)) none).run P w = .ok (.slice (dropA a k cap) (h - k) (cap - k)) w := by
  subst hx hy
  obtain ⟨h1, h2⟩ := T.elem w
  rw [run_slice_lh w t a len cap h1 .i64 .i64 k h (by omega) (by omega) (by omega), h2]
  simp [Result.andThen, sliced, dropA]
end
open Go Go.RowKit

/-- A slice of one-cell elements that can be read in w: its elements are vs. -/
def RV (w : World) (a : Option Addr) (len cap : Nat) (vs : List Value) : Prop :=
  vs.length = len ∧ len ≤ cap ∧ len ≤ 281474976710656 ∧ ∀ i (h : i < vs.length), ∃ b off, a = some ⟨b, off, none⟩ ∧ w.cell? ⟨b, off + i, none⟩ = some vs[i]
theorem RV.at {w : World} {a : Option Addr} {len cap : Nat} {vs : List Value} (h : RV w a len cap vs) {i : Nat} (hi : i < len) :
    ∃ b off v, a = some ⟨b, off, none⟩ ∧ vs[i]? = some v ∧ w.cell? ⟨b, off + i, none⟩ = some v := by
  obtain ⟨h1, h2, h3, h4⟩ := h
  obtain ⟨b, off, e, hc⟩ := h4 i (by omega)
  exact ⟨b, off, vs[i], e, by simp, hc⟩
theorem RV.drewN {w : World} {a : Option Addr} {len cap : Nat} {vs : List Value} (h : RV w a len cap vs) (n : Nat) : RV (w.drewN n) a len cap vs := h
theorem RV.nil (w : World) (c : Nat) : RV w none 0 c [] := ⟨rfl, by omega, by omega, fun i hi => by simp at hi⟩
theorem RV.of_none {w : World} {n c : Nat} {vs : List Value} (h : RV w none n c vs) : vs = [] ∧ n = 0 := by
  have hl : vs = [] := by
    cases vs with
    | nil => rfl
    | cons x l => obtain ⟨b, off, e, _⟩ := h.2.2.2 0 (by simp); cases e
  exact ⟨hl, by rw [← h.1, hl]; rfl⟩
theorem RV.below {w w' : World} {a : Option Addr} {len cap : Nat} {vs : List Value} (h : RV w a len cap vs) (hb : Below w.heap.size w w') : RV w' a len cap vs := by
  obtain ⟨h1, h2, h3, h4⟩ := h
  refine ⟨h1, h2, h3, fun i hi => ?_⟩
  obtain ⟨b, off, e, hc⟩ := h4 i hi
  exact ⟨b, off, e, by rw [hb.cell (World.block_lt_of_cell? w _ hc)]; exact hc⟩
theorem RV.take {w : World} {a : Option Addr} {len cap : Nat} {vs : List Value} (h : RV w a len cap vs) (n : Nat) (hn : n ≤ len) : RV w a n cap (vs.take n) := by
  obtain ⟨h1, h2, h3, h4⟩ := h
  refine ⟨by simp; omega, by omega, by omega, fun i hi => ?_⟩
  simp at hi
  obtain ⟨b, off, e, hc⟩ := h4 i (by omega)
  exact ⟨b, off, e, by simpa using hc⟩
theorem RV.dropA {w : World} {a : Option Addr} {len cap : Nat} {vs : List Value} (h : RV w a len cap vs) (k : Nat) (hk : k ≤ len) : RV w (dropA a k cap) (len - k) (cap - k) (vs.drop k) := by
  obtain ⟨h1, h2, h3, h4⟩ := h
  refine ⟨by simp; omega, by omega, by omega, fun i hi => ?_⟩
  simp at hi
  obtain ⟨b, off, rfl, hc⟩ := h4 (k + i) (by omega)
  refine ⟨b, off + k, ?_, ?_⟩
  · rw [Go.Proofs.YtakaoacialnjaaaDoor.dropA, if_neg (by omega)]; simp [Addr.add_lit]
  · rw [Nat.add_assoc, hc]; simp
theorem RV.cells {w : World} {a : Option Addr} {len cap : Nat} {vs : List Value} (h : RV w a len cap vs) {ad : Addr} (ha : a = some ad) : ∀ j u, vs[j]? = some u → w.cell? (ad.add j) = some u := by
  intro j u hu
  obtain ⟨h1, h2, h3, h4⟩ := h
  have hj : j < vs.length := (List.getElem?_eq_some_iff.1 hu).1
  obtain ⟨b, off, e, hc⟩ := h4 j hj
  obtain rfl := Option.some.inj (ha.symm.trans e)
  simp [hj] at hu
  rw [Addr.add_lit, hc, hu]
theorem RV.of_owns {w : World} {base e : Nat} {a : Option Addr} {n c : Nat} {vs : List Value} (h : w.ownsRow base e 1 (.slice a n c) n vs) (hn : n ≤ 281474976710656) : RV w a n c vs := by
  obtain ⟨h1, h2⟩ := h
  simp at h1
  rcases h2 with ⟨h2, rfl⟩ | ⟨g, cap, cur, hv, hg, hh, hnc, hcm, hcs, ht⟩
  · obtain rfl : vs = [] := List.eq_nil_of_length_eq_zero h1
    exact ⟨rfl, by omega, by omega, fun i hi => by simp at hi⟩
  · obtain ⟨rfl, -, rfl⟩ := Value.slice.inj hv
    refine ⟨h1, hnc, hn, fun i hi => ⟨g, 0, rfl, ?_⟩⟩
    rw [cell_of_row w g _ cur e (0, 0) hh]
    have hi2 : (cur.toList.take (n * 1))[i]? = vs[i]? := by rw [ht]
    rw [List.getElem?_take, if_pos (by omega)] at hi2
    simpa [hi] using hi2
theorem RV.lit (w : World) (e : TypeId) (fr : Nat × Nat) (vs : List Value) (n : Nat) (hn : vs.length = n) (hs : n ≤ 281474976710656) (cs : Array Value) (hc : cs = vs.toArray) :
    RV (w.alloc (.cells cs e fr)) (some ⟨w.heap.size, 0, none⟩) n n vs := by
  refine ⟨hn, Nat.le_refl _, hs, fun i hi => ⟨w.heap.size, 0, rfl, ?_⟩⟩
  have hh : (w.alloc (.cells cs e fr)).heap[w.heap.size]? = some (.cells cs e fr) := heap_alloc_new w _
  rw [cell_of_row _ _ _ cs e fr hh, hc]
  simp [hi]
theorem owns_lit (w : World) (B e : Nat) (vs : List Value) (n : Nat) (hn : vs.length = n) (hm : n ≤ maxLen) (hB : B ≤ w.heap.size) (cs : Array Value) (hc : cs = vs.toArray) :
    (w.alloc (.cells cs e)).ownsRow B e 1 (.slice (some ⟨w.heap.size, 0, none⟩) n n) n vs := by
  have := World.ownsRow_lit (base := B) (e := e) (size := 1) w cs n hB hm (by rw [hc]; simpa using hn)
  rwa [hc, List.toList_toArray, ← hc] at this

section
variable {P : Program} {w : World} {ops : Array Oper} {rest : List Oper} {o : Oper} {a : Act} {Q : Exit → Act → World → Prop}
/-- append(v, src...), v owned, src a slice of one-cell values that can be read. -/
theorem W_appendV {K : Act → World → Prop} (s x : Operand) (t : TypeId) (ho : o.op = .call { callee := .builtin .append, args := #[s, x], argTypes := #[t, t] })
    {e : TypeId} {z : Value} {bytes : Nat} (T : Sl P t e z 1 bytes) (base : Nat) (v : Value) (n : Nat) (xs : List Value) (hs : a.eval s = v) (hown : w.ownsRow base e 1 v n xs)
    (sa : Option Addr) (m c : Nat) (l : List Value) (hx : a.eval x = .slice sa m c) (hr : RV w sa m c l) (h1 : ∀ u ∈ l, u.oneCell' = true) (hb : (n + m) * bytes ≤ 140737488355328) (hm : n + m ≤ maxLen) (hbase : base ≤ w.heap.size)
    (h : ∀ a' c' w', w'.ownsRow base e 1 (.slice a' (n + m) c') (n + m) (xs ++ l) → w.grownBy w' v.ownBlock → ((Value.slice a' (n + m) c').ownBlock = v.ownBlock ∨ (Value.slice a' (n + m) c').ownBlock = some w.heap.size) → K (a.put o.dst (.slice a' (n + m) c')) w') : o.wp P a w K Q := by
  obtain ⟨i, hi, hz0, hz1, hz2⟩ := info_parts T.inf
  cases sa with
  | some ad =>
    obtain ⟨v', w', hr2, h2, h3, _, h5⟩ := run_append_own_at (P := P) w base t o.type e i z 1 bytes T.und hi hz0 hz1 hz2 T.zs T.pos v n xs hown ad m c l (by simp [hr.1]) (hr.cells rfl) h1 hm hb hbase
    unfold Oper.wp execOp
    simp only [ho, resolve, invoke, builtin, Sem.run_bind, Sem.run_pure, Result.andThen_ok, List.map_toArray, List.map_cons, List.map_nil, hs, hx, hr2]
    obtain ⟨a', c', rfl, _⟩ := owns_shape h2
    exact h a' c' w' h2 h3 h5
  | none =>
    obtain ⟨rfl, rfl⟩ := hr.of_none
    subst hs
    obtain ⟨a', c', hv', _⟩ := owns_shape hown
    have hh := h a' c' w (by simpa [hv'] using hown) ⟨rfl, rfl, rfl, Nat.le_refl _, fun _ _ _ => rfl⟩ (.inl (by simp [hv']))
    simp only [Nat.add_zero, ← hv'] at hh
    rcases hown.2 with ⟨hv, rfl⟩ | ⟨g, cap, cur, hv, _, _, hnc, _⟩
    · rw [hv] at hh
      unfold Oper.wp
      simp [execOp, ho, resolve, invoke, builtin, hv, hx, Builtin.append_, run_underlying T.und, sizeOf, typeInfo, hi, Builtin.lenOf, Builtin.firstCells, Result.andThen]
      exact hh
    · rw [hv] at hh
      unfold Oper.wp
      simp [execOp, ho, resolve, invoke, builtin, hv, hx, Builtin.append_, run_underlying T.und, sizeOf, typeInfo, hi, Builtin.lenOf, Builtin.firstCells, Result.andThen, hnc, storeCells]
      exact hh
theorem L_appendV (hgd : o.guard = none) (s x : Operand) (t : TypeId) (ho : o.op = .call { callee := .builtin .append, args := #[s, x], argTypes := #[t, t] })
    {e : TypeId} {z : Value} {bytes : Nat} (T : Sl P t e z 1 bytes) (base : Nat) (v : Value) (n : Nat) (xs : List Value) (hs : a.eval s = v) (hown : w.ownsRow base e 1 v n xs)
    (sa : Option Addr) (m c : Nat) (l : List Value) (hx : a.eval x = .slice sa m c) (hr : RV w sa m c l) (h1 : ∀ u ∈ l, u.oneCell' = true) (hb : (n + m) * bytes ≤ 140737488355328) (hm : n + m ≤ maxLen) (hbase : base ≤ w.heap.size)
    (h : ∀ a' c' w', w'.ownsRow base e 1 (.slice a' (n + m) c') (n + m) (xs ++ l) → w.grownBy w' v.ownBlock → ((Value.slice a' (n + m) c').ownBlock = v.ownBlock ∨ (Value.slice a' (n + m) c').ownBlock = some w.heap.size) → wpList P ops Q rest (a.put o.dst (.slice a' (n + m) c')) w') : wpList P ops Q (o :: rest) a w :=
  wpList_plain hgd fun _ hK => W_appendV s x t ho T base v n xs hs hown sa m c l hx hr h1 hb hm hbase fun a' c' w' h2 h3 h4 => hK _ _ (h a' c' w' h2 h3 h4)
theorem S_appendV {K : Act → World → Prop} {E : Prop} (hgd : o.guard = none) (s x : Operand) (t : TypeId) (ho : o.op = .call { callee := .builtin .append, args := #[s, x], argTypes := #[t, t] })
    {e : TypeId} {z : Value} {bytes : Nat} (T : Sl P t e z 1 bytes) (base : Nat) (v : Value) (n : Nat) (xs : List Value) (hs : a.eval s = v) (hown : w.ownsRow base e 1 v n xs)
    (sa : Option Addr) (m c : Nat) (l : List Value) (hx : a.eval x = .slice sa m c) (hr : RV w sa m c l) (h1 : ∀ u ∈ l, u.oneCell' = true) (hb : (n + m) * bytes ≤ 140737488355328) (hm : n + m ≤ maxLen) (hbase : base ≤ w.heap.size)
    (h : ∀ a' c' w', w'.ownsRow base e 1 (.slice a' (n + m) c') (n + m) (xs ++ l) → w.grownBy w' v.ownBlock → ((Value.slice a' (n + m) c').ownBlock = v.ownBlock ∨ (Value.slice a' (n + m) c').ownBlock = some w.heap.size) → K (a.put o.dst (.slice a' (n + m) c')) w') :
    if Region.wanted o (yielded ops a.tmps) = true then Oper.wp P o a w K Q else E := by
  rw [if_pos (by simp [Region.wanted, hgd])]
  exact W_appendV s x t ho T base v n xs hs hown sa m c l hx hr h1 hb hm hbase h
end
open Go Go.RowKit

def OwA (w : World) (B e : Nat) (v : Value) (xs : List Value) : Prop :=
  (v = .slice none 0 0 ∧ xs = []) ∨ ∃ g off cap cur, v = .slice (some ⟨g, off, none⟩) xs.length cap ∧ B ≤ g ∧ w.heap[g]? = some (.cells cur e (0, 0)) ∧ xs.length ≤ cap ∧ cap ≤ maxLen ∧ cur.size = off + cap ∧ (cur.toList.drop off).take xs.length = xs
theorem OwA.nil (w : World) (B e : Nat) : OwA w B e (.slice none 0 0) [] := .inl ⟨rfl, rfl⟩
theorem OwA.lt {w : World} {B e : Nat} {v : Value} {xs : List Value} (h : OwA w B e v xs) : ∀ k, v.ownBlock = some k → B ≤ k ∧ k < w.heap.size ∧ ∃ cur, w.heap[k]? = some (.cells cur e (0, 0)) := by
  intro k hk
  rcases h with ⟨rfl, _⟩ | ⟨g, off, cap, cur, rfl, hb, hg, _⟩
  · simp [Value.ownBlock] at hk
  · simp [Value.ownBlock] at hk
    subst hk
    exact ⟨hb, (Array.getElem?_eq_some_iff.1 hg).1, cur, hg⟩
theorem OwA.kept {w w' : World} {B e : Nat} {v : Value} {xs : List Value} (h : OwA w B e v xs) (hk : ∀ k, v.ownBlock = some k → w'.heap[k]? = w.heap[k]?) : OwA w' B e v xs := by
  rcases h with h | ⟨g, off, cap, cur, rfl, hb, hg, r⟩
  · exact .inl h
  · exact .inr ⟨g, off, cap, cur, rfl, hb, (hk g rfl).trans hg, r⟩
theorem OwA.rv {w : World} {B e : Nat} {v : Value} {xs : List Value} (h : OwA w B e v xs) (hn : xs.length ≤ 281474976710656) : ∃ a c, v = .slice a xs.length c ∧ RV w a xs.length c xs := by
  rcases h with ⟨rfl, rfl⟩ | ⟨g, off, cap, cur, rfl, hb, hg, hc, hm, hs, ht⟩
  · exact ⟨none, 0, rfl, RV.nil _ _⟩
  · refine ⟨_, cap, rfl, rfl, hc, hn, fun i hi => ⟨g, off, rfl, ?_⟩⟩
    rw [cell_of_row w g _ cur e (0, 0) hg]
    have : ((cur.toList.drop off).take xs.length)[i]? = xs[i]? := by rw [ht]
    rw [List.getElem?_take, if_pos hi, List.getElem?_drop] at this
    simpa [hi] using this
theorem OwA.tail {w : World} {B e : Nat} {a : Option Addr} {n c : Nat} {x : Value} {xs : List Value} (h : OwA w B e (.slice a n c) (x :: xs)) (h2 : 0 < xs.length) : OwA w B e (.slice (dropA a 1 c) (n - 1) (c - 1)) xs := by
  rcases h with ⟨_, h⟩ | ⟨g, off, cap, cur, hv, hb, hg, hc, hm, hs, ht⟩
  · cases h
  · obtain ⟨rfl, rfl, rfl⟩ := Value.slice.inj hv
    simp only [List.length_cons] at hc ht ⊢
    refine .inr ⟨g, off + 1, c - 1, cur, ?_, hb, hg, by omega, by omega, by omega, ?_⟩
    · rw [dropA, if_neg (by omega)]; simp [Addr.add_lit]
    · have h3 := congrArg (List.drop 1) ht
      rw [List.drop_take, List.drop_drop] at h3
      simpa using h3

section
variable {P : Program} (w : World)
theorem run_append_A (base t ty e : Nat) {z : Value} {bytes : Nat} (T : Sl P t e z 1 bytes) (v : Value) (xs : List Value) (hown : OwA w base e v xs)
    (ad : Addr) (m c : Nat) (news : List Value) (hl : news.length = m) (hnews : ∀ j u, news[j]? = some u → w.cell? (ad.add j) = some u) (h1 : ∀ u ∈ news, u.oneCell' = true) (hm : 0 < m)
    (hb : (xs.length + m) * bytes ≤ 140737488355328) (h63 : xs.length + m ≤ maxLen) (hbase : base ≤ w.heap.size) :
    ∃ a' c' w', (Builtin.append_ #[t, t] ty #[v, .slice (some ad) m c]).run P w = .ok (.slice (some a') (xs.length + m) c') w' ∧ OwA w' base e (.slice (some a') (xs.length + m) c') (xs ++ news) ∧ w.grownBy w' v.ownBlock ∧
      (some a'.block = v.ownBlock ∨ a'.block = w.heap.size) := by
  obtain ⟨i, hi, hz0, hz1, hz2⟩ := info_parts T.inf
  rcases hown with ⟨rfl, rfl⟩ | ⟨g, off, cap, cur, rfl, hbg, hg, hc, hcm, hs, ht⟩
  · obtain ⟨v', w', hr2, h2, h3, _, h5⟩ := run_append_own_at (P := P) w base t ty e i z 1 bytes T.und hi hz0 hz1 hz2 T.zs T.pos (.slice none 0 0) 0 [] (World.ownsRow_nil _ _ _ _) ad m c news (by simp [hl]) hnews h1 (by simpa using h63) (by simpa using hb) hbase
    simp only [Nat.zero_add, List.nil_append, List.length_nil] at h2 hr2 ⊢
    rcases h2.2 with ⟨_, h0⟩ | ⟨g, cap, cur, rfl, hbg, hg, hnc, hcm, hcs, ht⟩
    · omega
    · refine ⟨_, _, w', hr2, .inr ⟨g, 0, cap, cur, by rw [hl], hbg, hg, by omega, hcm, by omega, by simpa [hl] using ht⟩, h3, ?_⟩
      rcases h5 with h5 | h5
      · simp [Value.ownBlock] at h5
      · exact .inr (by simpa [Value.ownBlock] using h5)
  · have hsmall : xs.length + m ≤ 9223372036854775807 := by simp only [maxLen] at h63; omega
    by_cases hroom : xs.length + m ≤ cap
    · have hf := run_firstCells_some (P := P) w i.size m ad m c news (by rw [hz1, hl]; omega) hnews
      have hst := run_storeCells_at P g (off + xs.length) e news 0 cur w hg (by omega) h1
      simp only [Nat.add_zero] at hst
      refine ⟨⟨g, off, none⟩, cap, w.setRow g (cur.toList.take (off + xs.length) ++ news ++ cur.toList.drop (off + xs.length + news.length)).toArray, ?_, .inr ⟨g, off, cap, _, by rw [List.length_append, hl], hbg, setRow_heap w g cur _ e _ hg, by rw [List.length_append]; omega, hcm, ?_, ?_⟩, ⟨rfl, rfl, rfl, by simp, fun k _ hk => setRow_other w g k _ (fun e => hk (by simp [Value.ownBlock, e]))⟩, .inl rfl⟩
      · rw [hz1] at hf
        simp [Builtin.append_, run_underlying T.und, sizeOf, typeInfo, hi, Builtin.lenOf, hroom, hf, Addr.add_lit, hz1, hst]
      · simp only [List.size_toArray, List.length_append, List.length_take, List.length_drop, Array.length_toList]
        omega
      · have e1 : (List.take (off + xs.length) cur.toList).drop off = xs := by
          rw [List.drop_take, show off + xs.length - off = xs.length by omega]; exact ht
        rw [List.toList_toArray, List.append_assoc, List.drop_append_of_le_length (by simp; omega), e1, ← List.append_assoc, List.take_left]
    · have holds : ∀ j u, xs[j]? = some u → w.cell? ((⟨g, off, none⟩ : Addr).add j) = some u := by
        intro j u hu
        rw [Addr.add_lit, cell_of_row w g _ cur e (0, 0) hg]
        rw [← ht, List.getElem?_take] at hu
        split at hu
        · simpa [List.getElem?_drop] using hu
        · cases hu
      have hr := run_append_grow (P := P) w t ty e i z T.und hi hz0 ⟨g, off, none⟩ xs.length cap xs (by rw [hz1]; omega) holds ad m c news (by rw [hz1]; omega) hnews (by omega) (by omega) (by rw [hz2]; exact growslice_fits (by omega) hb)
      have hge := grownCap_ge w (xs.length + m) cap e
      have hcm2 : grownCap w (xs.length + m) cap e ≤ maxLen := grownCap_le_maxLen w _ cap e h63
      refine ⟨_, _, _, hr, .inr ⟨w.heap.size, 0, _, _, by rw [List.length_append, hl], hbase, heap_alloc_new w.drew _, by rw [List.length_append]; omega, hcm2, ?_, ?_⟩, ⟨rfl, rfl, rfl, by simp, fun k hk _ => heap_alloc_old w.drew _ hk⟩, .inr rfl⟩
      · simp only [Array.size_append, List.size_toArray, size_zeroCells, T.zs, hl]
        omega
      · simp only [Array.toList_append, List.drop_zero, List.append_assoc]
        rw [← List.append_assoc]
        exact List.take_left
end

section
variable {P : Program} {w : World} {ops : Array Oper} {rest : List Oper} {o : Oper} {a : Act} {Q : Exit → Act → World → Prop}
theorem W_appendA {K : Act → World → Prop} (s x : Operand) (t : TypeId) (ho : o.op = .call { callee := .builtin .append, args := #[s, x], argTypes := #[t, t] })
    {e : TypeId} {z : Value} {bytes : Nat} (T : Sl P t e z 1 bytes) (base : Nat) (v : Value) (xs : List Value) (hs : a.eval s = v) (hown : OwA w base e v xs)
    (ad : Addr) (c : Nat) (u : Value) (hx : a.eval x = .slice (some ad) 1 c) (hr : w.cell? ad = some u) (h1 : u.oneCell' = true) (hb : (xs.length + 1) * bytes ≤ 140737488355328) (hm : xs.length + 1 ≤ maxLen) (hbase : base ≤ w.heap.size)
    (h : ∀ a' c' w', OwA w' base e (.slice (some a') (xs.length + 1) c') (xs ++ [u]) → w.grownBy w' v.ownBlock → (some a'.block = v.ownBlock ∨ a'.block = w.heap.size) → K (a.put o.dst (.slice (some a') (xs.length + 1) c')) w') : o.wp P a w K Q := by
  obtain ⟨a', c', w', hr2, h2, h3, h5⟩ := run_append_A (P := P) w base t o.type e T v xs hown ad 1 c [u] rfl
    (by intro j y hj; match j, hj with | 0, hj => (simp at hj; subst hj; simpa [Addr.add] using hr)) (by simpa using h1) (by omega) hb hm hbase
  unfold Oper.wp execOp
  simp only [ho, resolve, invoke, builtin, Sem.run_bind, Sem.run_pure, Result.andThen_ok, List.map_toArray, List.map_cons, List.map_nil, hs, hx, hr2]
  exact h a' c' w' h2 h3 h5
theorem L_appendA (hgd : o.guard = none) (s x : Operand) (t : TypeId) (ho : o.op = .call { callee := .builtin .append, args := #[s, x], argTypes := #[t, t] })
    {e : TypeId} {z : Value} {bytes : Nat} (T : Sl P t e z 1 bytes) (base : Nat) (v : Value) (xs : List Value) (hs : a.eval s = v) (hown : OwA w base e v xs)
    (ad : Addr) (c : Nat) (u : Value) (hx : a.eval x = .slice (some ad) 1 c) (hr : w.cell? ad = some u) (h1 : u.oneCell' = true) (hb : (xs.length + 1) * bytes ≤ 140737488355328) (hm : xs.length + 1 ≤ maxLen) (hbase : base ≤ w.heap.size)
    (h : ∀ a' c' w', OwA w' base e (.slice (some a') (xs.length + 1) c') (xs ++ [u]) → w.grownBy w' v.ownBlock → (some a'.block = v.ownBlock ∨ a'.block = w.heap.size) → wpList P ops Q rest (a.put o.dst (.slice (some a') (xs.length + 1) c')) w') : wpList P ops Q (o :: rest) a w :=
  wpList_plain hgd fun _ hK => W_appendA s x t ho T base v xs hs hown ad c u hx hr h1 hb hm hbase fun a' c' w' h2 h3 h4 => hK _ _ (h a' c' w' h2 h3 h4)
theorem S_appendA {K : Act → World → Prop} {E : Prop} (hgd : o.guard = none) (s x : Operand) (t : TypeId) (ho : o.op = .call { callee := .builtin .append, args := #[s, x], argTypes := #[t, t] })
    {e : TypeId} {z : Value} {bytes : Nat} (T : Sl P t e z 1 bytes) (base : Nat) (v : Value) (xs : List Value) (hs : a.eval s = v) (hown : OwA w base e v xs)
    (ad : Addr) (c : Nat) (u : Value) (hx : a.eval x = .slice (some ad) 1 c) (hr : w.cell? ad = some u) (h1 : u.oneCell' = true) (hb : (xs.length + 1) * bytes ≤ 140737488355328) (hm : xs.length + 1 ≤ maxLen) (hbase : base ≤ w.heap.size)
    (h : ∀ a' c' w', OwA w' base e (.slice (some a') (xs.length + 1) c') (xs ++ [u]) → w.grownBy w' v.ownBlock → (some a'.block = v.ownBlock ∨ a'.block = w.heap.size) → K (a.put o.dst (.slice (some a') (xs.length + 1) c')) w') :
    if Region.wanted o (yielded ops a.tmps) = true then Oper.wp P o a w K Q else E := by
  rw [if_pos (by simp [Region.wanted, hgd])]
  exact W_appendA s x t ho T base v xs hs hown ad c u hx hr h1 hb hm hbase h
end
end Go.Proofs.YtakaoacialnjaaaDoor
namespace Go.Proofs.YtakaoacialnjaaaDoor
open Go Go.RowKit
set_option linter.unusedVariables false
set_option linter.unusedSimpArgs false
theorem rs_drewN {α : Type} {s : Nat} {enc : α → List Value} {w : World} {a : Option Addr} {n c : Nat} {xs : List α} (h : RS s enc w a n c xs) (k : Nat) : RS s enc (w.drewN k) a n c xs := h
theorem below_drewN' {B : Nat} {a w : World} (h : Below B a w) (n : Nat) : Below B a (w.drewN n) := h.trans ⟨rfl, rfl, rfl, Nat.le_refl _, fun _ _ => rfl⟩
theorem own_cap0 {w : World} {B e s n c : Nat} {a : Option Addr} {xs : List Value} (h : w.ownsRow B e s (.slice a n c) n xs) : a = none → c = 0 := by
  intro ha
  subst ha
  rcases h.2 with ⟨h1, _⟩ | ⟨g, cap, cur, h1, _⟩
  · injection h1
  · cases h1
theorem one_kds {l : List (Int × Bool)} : ∀ u ∈ l.flatMap Kd, u.oneCell' = true := by
  intro u hu
  obtain ⟨y, _, hy⟩ := List.mem_flatMap.1 hu
  simp [Kd] at hy
  rcases hy with rfl | rfl <;> rfl
set_option maxRecDepth 100000 in
set_option maxHeartbeats 4000000 in
theorem same_any (w : World) (a1 a2 : Option Addr) (n1 n2 c1 c2 : Nat) (l1 l2 : List (Int × Bool)) (h1 : RS 2 Kd w a1 n1 c1 l1) (h2 : RS 2 Kd w a2 n2 c2 l2) (r : Bool) (hr : l1 = l2 ∧ r = true) :
    Calls Tryd.prog 45 #[.slice a1 n1 c1, .slice a2 n2 c2] w fun e w' => e = .returned (.bool r) ∧ ∃ n, w' = w.drewN n := by
  obtain ⟨rfl, rfl⟩ := hr
  obtain rfl : n1 = n2 := h1.1.symm.trans h2.1
  have hn48 := h1.2.2.1
  have HX := Lib.hid h1
  have HY := Lib.hid h2
  clear h1 h2
  go_enter Tryd.func45, Tryd.ntmps45
  go_wp2_with fail
  go_loopw [5] (fun i wr => ∃ k : Nat, k ≤ n1 ∧ i = .int .i64 k ∧ ∃ nn, wr = w.drewN nn) (fun i _ => n1 - (intOf i).toNat)
  case atStart => exact ⟨0, by omega, rfl, 0, rfl⟩
  case round =>
    obtain ⟨k, hk, rfl, nn, rfl⟩ := hrel
    by_cases hlt : k < n1
    · obtain ⟨xa, xo, x, rfl, hx, hcx⟩ := HX.out.at hlt
      obtain ⟨ya, yo, y, rfl, hy, hcy⟩ := HY.out.at hlt
      obtain rfl : x = y := Option.some.inj (hx.symm.trans hy)
      obtain ⟨vb, vo⟩ := x
      have x0 : (w.drewN nn).cell? ⟨xa, xo + k * 2 + 0, none⟩ = _ := hcx 0 _ rfl
      have x1 : (w.drewN nn).cell? ⟨xa, xo + k * 2 + 1, none⟩ = _ := hcx 1 _ rfl
      have y0 : (w.drewN nn).cell? ⟨ya, yo + k * 2 + 0, none⟩ = _ := hcy 0 _ rfl
      have y1 : (w.drewN nn).cell? ⟨ya, yo + k * 2 + 1, none⟩ = _ := hcy 1 _ rfl
      simp only [Nat.add_zero] at x0 y0
      have hltI : (k : Int) < (n1 : Int) := by omega
      clear hx hy hcx hcy
      generalize hW : w.drewN nn = W at *
      have HW := Lib.hid hW
      clear hW
      go_wp2
      go_region
      go_wp2
      go_roundw
      case rel => exact ⟨k + 1, by omega, by go_num, nn + 1, by rw [← HW.out]; rfl⟩
      case measure => simp [intOf]; omega
    · have hltI : ¬ (k : Int) < (n1 : Int) := by omega
      go_wp2
      go_ret
      exact ⟨rfl, nn, rfl⟩
section
variable {P : Program} {w : World} {ops : Array Oper} {rest : List Oper} {o : Oper} {a : Act} {Q : Exit → Act → World → Prop}
theorem S_append8 {K : Act → World → Prop} {E : Prop} (hgd : o.guard = none) (s x : Operand) (t : TypeId) (ho : o.op = .call { callee := .builtin .append, args := #[s, x], argTypes := #[t, t] })
    {e : TypeId} {z : Value} {bytes : Nat} (T : Sl P t e z 2 bytes) (base : Nat) (v : Value) (n : Nat) (xs : List Value) (hs : a.eval s = v) (hown : w.ownsRow base e 2 v n xs)
    (sa : Option Addr) (m c : Nat) (l : List (Int × Bool)) (hx : a.eval x = .slice sa m c) (hr : RS 2 Kd w sa m c l ∧ (sa = none → c = 0)) (hb : (n + m) * bytes ≤ 140737488355328) (hm : n + m ≤ maxLen) (hbase : base ≤ w.heap.size)
    (h : ∀ a' c' w', w'.ownsRow base e 2 (.slice a' (n + m) c') (n + m) (xs ++ l.flatMap Kd) → w.grownBy w' v.ownBlock → ((Value.slice a' (n + m) c').ownBlock = v.ownBlock ∨ (Value.slice a' (n + m) c').ownBlock = some w.heap.size) → K (a.put o.dst (.slice a' (n + m) c')) w') :
    if Region.wanted o (yielded ops a.tmps) = true then Oper.wp P o a w K Q else E := by
  cases sa with
  | none =>
    have hc := hr.2 rfl
    have hm0 : m = 0 := by have := hr.1.2.1; omega
    subst hc hm0
    rw [if_pos (by simp [Region.wanted, hgd])]
    obtain ⟨i, hi, hz0, hz1, hz2⟩ := info_parts T.inf
    have hl0 : l = [] := List.eq_nil_of_length_eq_zero hr.1.1
    subst hl0
    obtain ⟨a', c', rfl, _⟩ := owns_shape hown
    have hrun := run_append_owned_none (P := P) (w := w) base t o.type e i 2 T.und hi _ n xs hown
    unfold Oper.wp
    simp only [execOp, ho, resolve, invoke, builtin, List.map_toArray, List.map_cons, List.map_nil, hs, hx, hrun, Result.andThen, Sem.run_bind, Sem.run_pure]
    exact h a' c' w (by simpa using hown) ⟨rfl, rfl, rfl, Nat.le_refl _, fun _ _ _ => rfl⟩ (.inl rfl)
  | some ad => exact S_appendN hgd s x t ho T base v n xs hs hown ad m c (l.flatMap Kd) hx (by rw [flat_len Kd 2 Kd_len, hr.1.1]) (hr.1.cells Kd_len (by decide) rfl) one_kds hb hm hbase h
end
end Go.Proofs.YtakaoacialnjaaaDoor
namespace Go.Proofs.YtakaoacialnjaaaDoor
open Go Go.RowKit
set_option linter.unusedVariables false
set_option linter.unusedSimpArgs false
theorem sl54 : Sl Tryd.prog 54 22 (.slice none 0 0) 1 24 := ⟨Tryd.underlying54, by kernel_rfl, rfl, by decide⟩

/-- Types of rows that a book does not write. -/
def TK (t : TypeId) : Prop := t ≠ 22 ∧ t ≠ 56
theorem tk22 {t : TypeId} (h : TK t) {a b : Array Value} {f g : Nat × Nat} : (some (Obj.cells a 22 f) : Option Obj) ≠ some (Obj.cells b t g) := by
  intro e
  simp only [Option.some.injEq, Obj.cells.injEq] at e
  exact h.1 e.2.1.symm
theorem tk56 {t : TypeId} (h : TK t) {a b : Array Value} {f g : Nat × Nat} : (some (Obj.cells a 56 f) : Option Obj) ≠ some (Obj.cells b t g) := by
  intro e
  simp only [Option.some.injEq, Obj.cells.injEq] at e
  exact h.2 e.2.1.symm
/-- Rows that are no book's stand. -/
def Keep5 (w w' : World) : Prop := ∀ (k : Nat) (cs : Array Value) (t : TypeId) (fz : Nat × Nat), TK t → w.heap[k]? = some (Obj.cells cs t fz) → w'.heap[k]? = w.heap[k]?
theorem Keep5.refl (w : World) : Keep5 w w := fun _ _ _ _ _ _ => rfl
theorem Keep5.trans {a b c : World} (h : Keep5 a b) (k : Keep5 b c) : Keep5 a c := fun g cs t fz ht hg => (k g cs t fz ht ((h g cs t fz ht hg).trans hg)).trans (h g cs t fz ht hg)
theorem Keep5.row {w w' : World} {B e s : Nat} {v : Value} {n : Nat} {xs : List Value} (k : Keep5 w w') (ht : TK e) (h : w.ownsRow B e s v n xs) : w'.ownsRow B e s v n xs := by
  refine ⟨h.1, ?_⟩
  rcases h.2 with h | ⟨g, cap, cur, hv, hb, hg, r⟩
  · exact .inl h
  · exact .inr ⟨g, cap, cur, hv, hb, (k g _ _ _ ht hg).trans hg, r⟩
theorem Keep5.owns {w w' : World} {B : Nat} {v : Value} {n : Nat} {xs : List Value} (k : Keep5 w w') (h : w.ownsRow B 30 2 v n xs) : w'.ownsRow B 30 2 v n xs := k.row ⟨by decide, by decide⟩ h
theorem Keep5.grown {w w' : World} {row : Option Nat} (h : w.grownBy w' row) (hr : ∀ k, row = some k → ∀ (cs : Array Value) (t : TypeId) (fz : Nat × Nat), TK t → w.heap[k]? ≠ some (Obj.cells cs t fz)) : Keep5 w w' := fun g cs t fz ht hg =>
  h.block g (Array.getElem?_eq_some_iff.1 hg).1 (fun e => hr g e.symm cs t fz ht hg)
theorem Keep5.setCell (w : World) (g o : Nat) (u : Value) (hr : ∀ (cs : Array Value) (t : TypeId) (fz : Nat × Nat), TK t → w.heap[g]? ≠ some (Obj.cells cs t fz)) : Keep5 w (w.setCell ⟨g, o, none⟩ u) := fun k cs t fz ht hk =>
  heap_setCell_other w ⟨g, o, none⟩ k _ (fun e => hr cs t fz ht (by subst e; exact hk))

structure Its (w : World) (B : Nat) (ls ws : List Value) (ds : List (List (Int × Bool))) : Prop where
  l1 : ls.length = ds.length
  l2 : ws.length = ds.length
  own : ∀ (i : Nat) v u d, ls[i]? = some v → ws[i]? = some u → ds[i]? = some d → d.length ≤ 281474976710656 ∧ w.ownsRow B 30 2 v d.length (d.flatMap Kd) ∧ w.ownsRow B 30 2 u d.length (d.flatMap Kd)
  apart : ∀ (i j : Nat) v v', i < j → ls[i]? = some v → ls[j]? = some v' → v.ownBlock = none ∨ v.ownBlock ≠ v'.ownBlock
theorem Its.keep {w w' : World} {B : Nat} {ls ws : List Value} {ds : List (List (Int × Bool))} (h : Its w B ls ws ds) (k : Keep5 w w') : Its w' B ls ws ds :=
  ⟨h.l1, h.l2, fun i v u d hv hu hd => by
    obtain ⟨h0, h1, h2⟩ := h.own i v u d hv hu hd
    exact ⟨h0, k.owns h1, k.owns h2⟩, h.apart⟩
theorem Its.tail {w : World} {B : Nat} {v u : Value} {ls ws : List Value} {d : List (Int × Bool)} {ds : List (List (Int × Bool))} (h : Its w B (v :: ls) (u :: ws) (d :: ds)) : Its w B ls ws ds :=
  ⟨by simpa using h.l1, by simpa using h.l2, fun i v' u' d' hv hu hd => h.own (i + 1) v' u' d' (by simpa using hv) (by simpa using hu) (by simpa using hd),
   fun i j v1 v2 hij h1 h2 => h.apart (i + 1) (j + 1) v1 v2 (by omega) (by simpa using h1) (by simpa using h2)⟩
theorem Its.snoc {w : World} {B : Nat} {v u : Value} {ls ws : List Value} {d : List (Int × Bool)} {ds : List (List (Int × Bool))} (h : Its w B ls ws ds) (hd : d.length ≤ 281474976710656) (hv : w.ownsRow B 30 2 v d.length (d.flatMap Kd)) (hu : w.ownsRow B 30 2 u d.length (d.flatMap Kd))
    (ha : ∀ x ∈ ls, x.ownBlock = none ∨ x.ownBlock ≠ v.ownBlock) : Its w B (ls ++ [v]) (ws ++ [u]) (ds ++ [d]) := by
  have l1 := h.l1
  have l2 := h.l2
  refine ⟨by simp [l1], by simp [l2], fun i v' u' d' h1 h2 h3 => ?_, fun i j v1 v2 hij h1 h2 => ?_⟩
  · rcases Nat.lt_trichotomy i ds.length with hi | hi | hi
    · rw [List.getElem?_append_left (by omega)] at h1 h2 h3
      exact h.own i v' u' d' h1 h2 h3
    · rw [List.getElem?_append_right (by omega)] at h1 h2 h3
      rw [l1] at h1; rw [l2] at h2
      simp [hi] at h1 h2 h3
      subst h1 h2 h3
      exact ⟨hd, hv, hu⟩
    · rw [List.getElem?_eq_none (by simp [l1]; omega)] at h1
      cases h1
  · have hj : j < ls.length + 1 := by
      have := (List.getElem?_eq_some_iff.1 h2).1
      simpa using this
    rw [List.getElem?_append_left (by omega)] at h1
    rcases Nat.lt_or_ge j ls.length with hj2 | hj2
    · rw [List.getElem?_append_left hj2] at h2
      exact h.apart i j v1 v2 hij h1 h2
    · obtain rfl : j = ls.length := by omega
      simp at h2
      subst h2
      exact ha v1 (List.mem_of_getElem? h1)

/-- A book of rows of bytes, with nothing bad seen. -/
def BkI (w : World) (B gb : Nat) (ls ws : List Value) (ds : List (List (Int × Bool))) : Prop :=
  ∃ lv wv held, w.heap[gb]? = some (Obj.cells #[lv, wv, .int .i64 held, .bool false] 56 (0, 0)) ∧ B ≤ gb ∧ OwA w B 22 lv ls ∧ OwA w B 22 wv ws ∧ (lv.ownBlock = none ∨ lv.ownBlock ≠ wv.ownBlock) ∧ -9223372036854775808 ≤ held ∧ held ≤ 9223372036854775807 ∧ Its w B ls ws ds
theorem OwA.ne {w : World} {B e t : Nat} {v : Value} {xs : List Value} (h : OwA w B e v xs) {g : Nat} {cs : Array Value} {fz : Nat × Nat} (hg : w.heap[g]? = some (Obj.cells cs t fz)) (hne : t ≠ e) : some g ≠ v.ownBlock := by
  intro hk
  obtain ⟨_, _, cur, hc⟩ := h.lt g hk.symm
  rw [hg] at hc
  simp at hc
  exact hne hc.2.1

theorem wrap64_ge (n : Int) : -9223372036854775808 ≤ wrap64 n := by unfold wrap64; omega
theorem wrap64_le (n : Int) : wrap64 n ≤ 9223372036854775807 := by unfold wrap64; omega
theorem dropA_block (b o k c : Nat) (n : Nat) (m : Nat) : (Value.slice (dropA (some ⟨b, o, none⟩) k c) n m).ownBlock = some b := by
  unfold dropA
  split <;> simp [Value.ownBlock, Addr.add_lit]
theorem book_dropped {wr w' : World} {B gb b1 o1 b2 o2 M cl cw : Nat} {held held' : Int} {L W : List Value} {D : List (List (Int × Bool))}
    (hoth : ∀ k, k ≠ gb → w'.heap[k]? = wr.heap[k]?) (hg' : w'.heap[gb]? = some (Obj.cells #[.slice (dropA (some ⟨b1, o1, none⟩) 1 cl) (M - 1) (cl - 1), .slice (dropA (some ⟨b2, o2, none⟩) 1 cw) (M - 1) (cw - 1), .int .i64 held', .bool false] 56 (0, 0)))
    (hg : wr.heap[gb]? = some (Obj.cells #[.slice (some ⟨b1, o1, none⟩) M cl, .slice (some ⟨b2, o2, none⟩) M cw, .int .i64 held, .bool false] 56 (0, 0))) (hB : B ≤ gb) (hgb1 : gb ≠ b1) (hgb2 : gb ≠ b2)
    (hT : OwA wr B 22 (.slice (dropA (some ⟨b1, o1, none⟩) 1 cl) (M - 1) (cl - 1)) L) (hU : OwA wr B 22 (.slice (dropA (some ⟨b2, o2, none⟩) 1 cw) (M - 1) (cw - 1)) W)
    (hlw : (Value.slice (some ⟨b1, o1, none⟩) M cl).ownBlock = none ∨ (Value.slice (some ⟨b1, o1, none⟩) M cl).ownBlock ≠ (Value.slice (some ⟨b2, o2, none⟩) M cw).ownBlock)
    (h0 : -9223372036854775808 ≤ held') (h1 : held' ≤ 9223372036854775807) (hI : Its wr B L W D) : BkI w' B gb L W D ∧ Keep5 wr w' := by
  have hk : Keep5 wr w' := fun k cs t fz ht hk => hoth k (fun e => by subst e; rw [hg] at hk; exact tk56 ht hk)
  refine ⟨⟨_, _, _, hg', hB, hT.kept (fun k h => ?_), hU.kept (fun k h => ?_), ?_, h0, h1, hI.keep hk⟩, hk⟩
  · rw [dropA_block] at h
    exact hoth k (fun e => hgb1 (by rw [← e]; exact (Option.some.inj h).symm))
  · rw [dropA_block] at h
    exact hoth k (fun e => hgb2 (by rw [← e]; exact (Option.some.inj h).symm))
  · rw [dropA_block, dropA_block]
    exact hlw
/-- How many lists a book holds. -/
def bkLen (w : World) (gb : Nat) : Nat := match w.cell? ⟨gb, 0, none⟩ with | some (Value.slice _ n _) => n | _ => 0
theorem bkLen_eq {w : World} {gb : Nat} {a : Option Addr} {n c : Nat} (h : w.cell? ⟨gb, 0, none⟩ = some (Value.slice a n c)) : bkLen w gb = n := by simp [bkLen, h]
set_option maxHeartbeats 1000000 in
set_option maxRecDepth 100000 in
theorem keep_any (w : World) (B gb : Nat) (ls ws : List Value) (ds : List (List (Int × Bool))) (h : BkI w B gb ls ws ds) (hl : ds.length ≤ 4000) (a : Option Addr) (n c : Nat) (d : List (Int × Bool)) (ho : w.ownsRow B 30 2 (.slice a n c) n (d.flatMap Kd)) (hn : n ≤ 1000000)
    (hap : ∀ x ∈ ls, x.ownBlock = none ∨ x.ownBlock ≠ (Value.slice a n c).ownBlock) :
    Calls Tryd.prog 25 #[.pointer (some ⟨gb, 0, none⟩), .slice a n c] w fun e w' => e = .returned (.tuple #[]) ∧ (∃ u k, (∀ q, u.ownBlock = some q → w.heap.size ≤ q) ∧ BkI w' B gb ((ls ++ [Value.slice a n c]).drop k) ((ws ++ [u]).drop k) ((ds ++ [d]).drop k)) ∧ Below B w w' ∧ Keep5 w w' := by
  obtain ⟨lv, wv, held, hg, hB, hlv, hwv, hlw, h0, h1, hI⟩ := h
  have e1 := hI.l1
  have e2 := hI.l2
  obtain ⟨al, cl, rfl, -⟩ := hlv.rv (by omega)
  obtain ⟨aw, cw, rfl, -⟩ := hwv.rv (by omega)
  have hne1 := hlv.ne hg (by decide)
  have hne2 := hwv.ne hg (by decide)
  have hll : ls.length ≤ 4000 := by omega
  have hwl : ws.length ≤ 4000 := by omega
  have E1 := Lib.hid e1
  have E2 := Lib.hid e2
  have HI := Lib.hid hI
  clear e1 e2 hI
  have Hg := Lib.hid hg
  have HO := Lib.hid ho
  have HP := Lib.hid hap
  have hlt := (Array.getElem?_eq_some_iff.1 hg).1
  have c0 := cell_of_row w gb 0 _ _ _ hg
  have f := fun o => frozen_of_row w gb o _ _ hg
  simp at c0
  clear hap ho hg
  go_enter Tryd.func25, Tryd.ntmps25
  go_wp2_with (first
    | (at_builtin; refine L_appendA rfl _ _ _ rfl sl54 B (.slice al ls.length cl) ls rfl (hlv.kept (fun k hk => Below.heap_alloc w _ k (hlv.lt k hk).2.1)) ⟨w.heap.size, 0, none⟩ 1 (.slice a n c) rfl (by simp) rfl (by omega) (by simp [maxLen]; omega) (by simp; omega) (fun a1 c1 w1 ho1 hg1 hat1 => ?_)
       have hgw1 := (hg1.block gb (by simp; omega) hne1).trans ((Below.heap_alloc w _ gb hlt).trans Hg.out)
       have c01 := cell_of_row w1 gb 0 _ _ _ hgw1
       have f01 := fun o => frozen_of_row w1 gb o _ _ hgw1))
  have hne3 := ho1.ne hgw1 (by decide)
  have hg2 : (w1.setCell ⟨gb, 0, none⟩ (.slice (some a1) (ls.length + 1) c1)).heap[gb]? = some (Obj.cells #[.slice (some a1) (ls.length + 1) c1, .slice aw ws.length cw, .int .i64 held, .bool false] 56 (0, 0)) := heap_setCell_same w1 gb 0 _ _ _ hgw1
  have hb1 : Below B w w1 := ((Below.refl B w).alloc (by omega) _).grown hg1 (by simp; omega) (fun k hk => (hlv.lt k hk).1)
  have hb2 := hb1.setCell (p := ⟨gb, 0, none⟩) hB (.slice (some a1) (ls.length + 1) c1)
  have hk1 : Keep5 w w1 := ((Keep5.grown (World.grownBy_alloc w (.cells #[.slice a n c] 22) none) (by intro k hk; cases hk))).trans (Keep5.grown hg1 (fun k hk cs t fz ht => by
    obtain ⟨_, hl2, cur, hc⟩ := hlv.lt k hk
    rw [Below.heap_alloc w _ k hl2, hc]; exact tk22 ht))
  have hk2 := hk1.trans (Keep5.setCell w1 gb 0 (.slice (some a1) (ls.length + 1) c1) (fun cs t fz ht => by rw [hgw1]; exact tk56 ht))
  have ho2 : OwA (w1.setCell ⟨gb, 0, none⟩ (.slice (some a1) (ls.length + 1) c1)) B 22 (.slice (some a1) (ls.length + 1) c1) (ls ++ [.slice a n c]) := ho1.kept (fun k hk => heap_setCell_other w1 ⟨gb, 0, none⟩ k _ (fun e => hne3 (by rw [hk, e])))
  have hap1 : some a1.block ≠ (Value.slice aw ws.length cw).ownBlock := by
    rcases hat1 with h | h
    · rw [h]
      rcases hlw with h2 | h2
      · rw [h2] at h; cases h
      · exact h2
    · intro e
      have := (hwv.lt _ e.symm).2.1
      simp at h; omega
  have hw2 : OwA (w1.setCell ⟨gb, 0, none⟩ (.slice (some a1) (ls.length + 1) c1)) B 22 (.slice aw ws.length cw) ws := hwv.kept (fun k hk => by
    have hl2 := (hwv.lt k hk).2.1
    rw [heap_setCell_other w1 ⟨gb, 0, none⟩ k _ (fun e => hne2 (by rw [hk, e])), hg1.block k (by simp; omega) (fun e => by
      rcases hlw with h2 | h2
      · rw [h2] at e; cases e
      · exact h2 (by rw [← e, hk])), Below.heap_alloc w _ k hl2])
  clear hg1 hgw1 c01 f01 hb1 hk1 hne3 ho1 hlv hwv hlw hat1 c0 f hne1 Hg
  generalize w1.setCell ⟨gb, 0, none⟩ (.slice (some a1) (ls.length + 1) c1) = w2 at *
  have hlt2 := (Array.getElem?_eq_some_iff.1 hg2).1
  have c21 := cell_of_row w2 gb 1 _ _ _ hg2
  have f2 := fun o => frozen_of_row w2 gb o _ _ hg2
  simp at c21
  have HG2 := Lib.hid hg2
  have hr2 := And.intro (RS.of_owns (hk2.owns HO.out) (by decide) Kd_len (by omega)) (own_cap0 HO.out)
  have z2 := hb2.size
  have hB2 : B ≤ w2.heap.size := by omega
  clear hg2
  have HB1 := Lib.hid (show (0 + n) * 16 ≤ 140737488355328 by omega)
  have HB2 := Lib.hid (show 0 + n ≤ maxLen by simp [maxLen]; omega)
  have HB3 := Lib.hid (show (ws.length + 1) * 24 ≤ 140737488355328 by omega)
  have HB4 := Lib.hid (show ws.length + 1 ≤ maxLen by simp [maxLen]; omega)
  go_upto_block 0 with (fail)
  go_cut [] (fun wx => ∃ u, (∀ q, u.ownBlock = some q → w.heap.size ≤ q) ∧ BkI wx B gb (ls ++ [Value.slice a n c]) (ws ++ [u]) (ds ++ [d]) ∧ Below B w wx ∧ Keep5 w wx)
  case first =>
   go_region_law (first
    | (refine S_append8 rfl (.const (.slice none 0 0)) (.tmp 19) 22 (by rfl) sl22 B (.slice none 0 0) 0 [] (by rfl) (World.ownsRow_nil _ _ _ _) a n c d (by rfl) hr2 HB1.out HB2.out (by simpa using hB2) (fun a3 c3 w3 ho3 hg3 hat3 => ?_)
       have c31 := (hg3.cell_far ⟨gb, 1, none⟩ (by simpa using hlt2) (by simp [Value.ownBlock])).trans c21
       have f31 := (hg3.frozen_far ⟨gb, 1, none⟩ (by simpa using hlt2) (by simp [Value.ownBlock])).trans (f2 1)
       have hca3 : ∀ o, (w3.alloc o).cell? ⟨gb, 1, none⟩ = some (.slice aw ws.length cw) := fun o => by rw [World.cell?_alloc_past (hn := by have := hg3.size; simp at this; omega)]; exact c31)
    | (refine S_appendA rfl (.tmp 18) (.tmp 21) 54 (by rfl) sl54 B (.slice aw ws.length cw) ws (by rfl) (hw2.kept (fun k hk => by rw [Below.heap_alloc w3 _ k (by have := (hw2.lt k hk).2.1; have := hg3.size; simp at this; omega)]; exact hg3.block k (hw2.lt k hk).2.1 (by simp [Value.ownBlock]))) ⟨w3.heap.size, 0, none⟩ 1 (.slice a3 (0 + n) c3) (by rfl) (by simp) rfl HB3.out HB4.out (by have := hg3.size; simp at this; simp; omega) (fun a4 c4 w4 ho4 hg4 hat4 => ?_)
       have z3 := hg3.size
       have hh3 := (hg3.block gb (by simpa using hlt2) (by simp [Value.ownBlock])).trans HG2.out
       have hh4 := (hg4.block gb (by simp at z3; simp; omega) hne2).trans ((Below.heap_alloc w3 _ gb (by simp at z3; omega)).trans hh3)
       have c41 := cell_of_row w4 gb 1 _ _ _ hh4
       have f41 := frozen_of_row w4 gb 1 _ _ hh4
       clear hh3))
   all_goals
    have hg5 : (w4.setCell ⟨gb, 1, none⟩ (.slice (some a4) (ws.length + 1) c4)).heap[gb]? = some (Obj.cells #[.slice (some a1) (ls.length + 1) c1, .slice (some a4) (ws.length + 1) c4, .int .i64 held, .bool false] 56 (0, 0)) := heap_setCell_same w4 gb 1 _ _ _ hh4
    have hne3 := ho2.ne HG2.out (by decide)
    have hne4 := ho4.ne hh4 (by decide)
    have hb4 : Below B w w4 := ((hb2.drew.grown hg3 (by simp; omega) (fun k hk => by simp [Value.ownBlock] at hk)).alloc (by simp at z3; omega) _).grown hg4 (by simp at z3 ⊢; omega) (fun k hk => (hw2.lt k hk).1)
    have hk4 : Keep5 w2 w4 := (((show Keep5 w2 w2.drew from fun _ _ _ _ _ _ => rfl).trans (Keep5.grown hg3 (fun k hk => by simp [Value.ownBlock] at hk))).trans (Keep5.grown (World.grownBy_alloc w3 (.cells #[.slice a3 n c3] 22) none) (by intro k hk; cases hk))).trans (Keep5.grown hg4 (fun k hk cs t fz ht => by
      obtain ⟨_, hl2, cur, hc⟩ := hw2.lt k hk
      rw [Below.heap_alloc w3 _ k (by simp at z3; omega), hg3.block k (by simpa using hl2) (by simp [Value.ownBlock])]
      rw [show w2.drew.heap = w2.heap from rfl, hc]; exact tk22 ht))
    have HUQ := Lib.hid (show ∀ q, (Value.slice a3 (0 + n) c3).ownBlock = some q → w.heap.size ≤ q from fun q hq => by
      rcases hat3 with h | h
      · rw [h] at hq; simp [Value.ownBlock] at hq
      · rw [h] at hq
        have := Option.some.inj hq
        simp at this; omega)
    have hk34 : Keep5 w3 w4 := ((Keep5.grown (World.grownBy_alloc w3 (.cells #[.slice a3 n c3] 22) none) (by intro k hk; cases hk))).trans (Keep5.grown hg4 (fun k hk cs t fz ht => by
      obtain ⟨_, hl2, cur, hc⟩ := hw2.lt k hk
      rw [Below.heap_alloc w3 _ k (by simp at z3; omega), hg3.block k (by simpa using hl2) (by simp [Value.ownBlock])]
      rw [show w2.drew.heap = w2.heap from rfl, hc]; exact tk22 ht))
    have hk45 := Keep5.setCell w4 gb 1 (.slice (some a4) (ws.length + 1) c4) (fun cs t fz ht => by rw [hh4]; exact tk56 ht)
    have hl1 := (ho2.lt _ rfl).2.1
    have ho5 : OwA (w4.setCell ⟨gb, 1, none⟩ (.slice (some a4) (ws.length + 1) c4)) B 22 (.slice (some a1) (ls.length + 1) c1) (ls ++ [.slice a n c]) := ho2.kept (fun k hk => by
      obtain rfl : a1.block = k := by simpa [Value.ownBlock] using hk
      rw [heap_setCell_other w4 ⟨gb, 1, none⟩ _ _ (fun e => hne3 (by simp [Value.ownBlock, e])), hg4.block _ (by simp at z3; simp; omega) hap1, Below.heap_alloc w3 _ _ (by simp at z3; omega), hg3.block _ (by simpa using hl1) (by simp [Value.ownBlock])]
      rfl)
    have hw5 : OwA (w4.setCell ⟨gb, 1, none⟩ (.slice (some a4) (ws.length + 1) c4)) B 22 (.slice (some a4) (ws.length + 1) c4) (ws ++ [.slice a3 (0 + n) c3]) := ho4.kept (fun k hk => heap_setCell_other w4 ⟨gb, 1, none⟩ k _ (fun e => hne4 (by rw [hk, e])))
    have hap5 : (Value.slice (some a1) (ls.length + 1) c1).ownBlock = none ∨ (Value.slice (some a1) (ls.length + 1) c1).ownBlock ≠ (Value.slice (some a4) (ws.length + 1) c4).ownBlock := by
      right
      simp only [Value.ownBlock]
      intro e
      rcases hat4 with h | h
      · exact hap1 (by rw [e, h])
      · obtain e := Option.some.inj e
        simp at h z3; omega
    have hI5 : Its (w4.setCell ⟨gb, 1, none⟩ (.slice (some a4) (ws.length + 1) c4)) B (ls ++ [.slice a n c]) (ws ++ [.slice a3 (0 + n) c3]) (ds ++ [d]) := by
      have hdn : d.length = n := by have := HO.out.1; rw [flat_len Kd 2 Kd_len] at this; omega
      refine (HI.out.keep ((hk2.trans hk4).trans hk45)).snoc (by omega) ?_ ?_ HP.out
      · rw [hdn]; exact ((hk2.trans hk4).trans hk45).owns HO.out
      · have := (hk34.trans hk45).owns ho3
        rw [hdn]
        simpa using this
    have hb5 := hb4.setCell (p := ⟨gb, 1, none⟩) hB (.slice (some a4) (ws.length + 1) c4)
    have hk5 := (hk2.trans hk4).trans hk45
    generalize w4.setCell ⟨gb, 1, none⟩ (.slice (some a4) (ws.length + 1) c4) = w5 at *
    clear hk45 hk34 hk4 hb4 hne3 hne4 c41 f41 hh4 hat4 hg4 ho4 hca3 f31 c31 hat3 hg3 ho3 hr2 HG2 c21 f2 hw2 ho2 hk2 hb2 hap1 hne2 hl1 HB1 HB2 HB3 HB4 z2 z3 hB2
    go_wp2
    go_meet
    exact ⟨_, HUQ.out, ⟨_, _, _, hg5, hB, ho5, hw5, hap5, h0, h1, hI5⟩, hb5, hk5⟩
  case rest =>
    obtain ⟨u, hUQ, hI2, hbc, hkc⟩ := hcut
    have HUQ := Lib.hid hUQ
    clear hUQ
    clear hb2 HB1 HB2 HB3 HB4 hap1 hne2
    obtain ⟨lv, wv, held2, hg, -, hlv, hwv, hlw, h02, h12, hI2⟩ := hI2
    have c52 := cell_of_row wc gb 2 _ _ _ hg
    have f5 := frozen_of_row wc gb 2 _ _ hg
    simp at c52
    have HG5 := Lib.hid hg
    have HI2 := Lib.hid hI2
    clear hg hI2
    go_wp2_with fail
    have hg6 : ∀ u, (wc.setCell ⟨gb, 2, none⟩ u).heap[gb]? = some (Obj.cells #[lv, wv, u, .bool false] 56 (0, 0)) := fun u => heap_setCell_same wc gb 2 _ _ _ HG5.out
    have hne5 := hlv.ne HG5.out (by decide)
    have hne6 := hwv.ne HG5.out (by decide)
    have hk56 := fun u => Keep5.setCell wc gb 2 u (fun cs t fz ht => by rw [HG5.out]; exact tk56 ht)
    have hl5 := fun u => hlv.kept (w' := wc.setCell ⟨gb, 2, none⟩ u) (fun k hk => heap_setCell_other wc ⟨gb, 2, none⟩ k _ (fun e => hne5 (by rw [hk, e])))
    have hw5 := fun u => hwv.kept (w' := wc.setCell ⟨gb, 2, none⟩ u) (fun k hk => heap_setCell_other wc ⟨gb, 2, none⟩ k _ (fun e => hne6 (by rw [hk, e])))
    have hb5 := fun u => hbc.setCell (p := ⟨gb, 2, none⟩) hB u
    go_loopw [] (fun wr => ∃ k, k ≤ ls.length ∧ BkI wr B gb ((ls ++ [Value.slice a n c]).drop k) ((ws ++ [u]).drop k) ((ds ++ [d]).drop k) ∧ Below B w wr ∧ Keep5 w wr) (fun wr => bkLen wr gb)
    case atStart =>
      refine ⟨0, by omega, ⟨_, _, _, hg6 _, hB, hl5 _, hw5 _, hlw, ?_, ?_, HI2.out.keep (hk56 _)⟩, hb5 _, hkc.trans (hk56 _)⟩
      · exact wrap64_ge _
      · exact wrap64_le _
    case round =>
      clear hl5 hw5 hb5 hk56 hne5 hne6 hg6 hlv hwv hlw h02 h12 f5 c52 HG5 HI2
      obtain ⟨k, hk, ⟨lv, wv, held, hg, -, hlv, hwv, hlw, h0, h1, hI⟩, hb, hkp⟩ := hrel
      have eL : ((ls ++ [Value.slice a n c]).drop k).length = ls.length + 1 - k := by simp
      have hk1 : (ls ++ [Value.slice a n c]).drop (k + 1) = ((ls ++ [Value.slice a n c]).drop k).drop 1 := by rw [List.drop_drop]
      have hk2 : (ws ++ [u]).drop (k + 1) = ((ws ++ [u]).drop k).drop 1 := by rw [List.drop_drop]
      have hk3 : (ds ++ [d]).drop (k + 1) = ((ds ++ [d]).drop k).drop 1 := by rw [List.drop_drop]
      obtain ⟨L, HKL⟩ : ∃ L, RowKit.Hid ((ls ++ [Value.slice a n c]).drop k = L) := ⟨_, Lib.hid rfl⟩
      obtain ⟨W, HKW⟩ : ∃ L, RowKit.Hid ((ws ++ [u]).drop k = L) := ⟨_, Lib.hid rfl⟩
      obtain ⟨D, HKD⟩ : ∃ L, RowKit.Hid ((ds ++ [d]).drop k = L) := ⟨_, Lib.hid rfl⟩
      rw [HKL.out] at hk1 hlv hI eL
      rw [HKW.out] at hk2 hwv hI
      rw [HKD.out] at hk3 hI
      have e1 := hI.l1
      have e2 := hI.l2
      have HK1 := Lib.hid hk1; have HK2 := Lib.hid hk2; have HK3 := Lib.hid hk3
      clear hk1 hk2 hk3
      obtain ⟨al, cl, rfl, rl⟩ := hlv.rv (by omega)
      obtain ⟨aw, cw, rfl, rw'⟩ := hwv.rv (by omega)
      have c0 := cell_of_row wr gb 0 _ _ _ hg
      have c1 := cell_of_row wr gb 1 _ _ _ hg
      have c2 := cell_of_row wr gb 2 _ _ _ hg
      have c3 := cell_of_row wr gb 3 _ _ _ hg
      have f := fun o => frozen_of_row wr gb o _ _ hg
      simp at c0 c1 c2 c3
      have HG := Lib.hid hg
      have HI := Lib.hid hI
      have E1 := Lib.hid e1
      have E2 := Lib.hid e2
      have EL := Lib.hid eL
      have hLs : L.length ≤ 281474976710656 := by omega
      have hWs : W.length ≤ 281474976710656 := by omega
      have HKK := Lib.hid hk
      generalize hLN : L.length = N at *
      generalize hWN : W.length = M at *
      have HLN := Lib.hid hLN
      have HWN := Lib.hid hWN
      clear hg hI e1 e2 eL hk hLN hWN
      by_cases n1 : 1 < N
      · have hMN : M = N := E2.out.trans E1.out.symm
        subst hMN
        cases L with
        | nil => have := HLN.out; simp at this; omega
        | cons v0 L =>
        cases W with
        | nil => have := HWN.out; simp at this; omega
        | cons u0 W =>
        cases D with
        | nil => have := HI.out.l1; simp at this
        | cons d0 D =>
        have HBK := Lib.hid (show BkI wr B gb (v0 :: L) (u0 :: W) (d0 :: D) from ⟨_, _, _, HG.out, hB, hlv, hwv, hlw, h0, h1, HI.out⟩)
        obtain ⟨hd0, hv0, hu0⟩ := HI.out.own 0 v0 u0 d0 rfl rfl rfl
        obtain ⟨av, cv, rfl, -⟩ := owns_shape hv0
        obtain ⟨au, cu, rfl, -⟩ := owns_shape hu0
        have R1 := RS.of_owns hv0 (by decide) Kd_len hd0
        have R2 := RS.of_owns hu0 (by decide) Kd_len hd0
        obtain ⟨b1, o1, y1, rfl, hy1, hcy1⟩ := rl.at (i := 0) (by omega)
        obtain ⟨b2, o2, y2, rfl, hy2, hcy2⟩ := rw'.at (i := 0) (by omega)
        simp only [List.getElem?_cons_zero] at hy1 hy2
        obtain rfl := Option.some.inj hy1
        obtain rfl := Option.some.inj hy2
        have HT := Lib.hid (hlv.tail (by have := HLN.out; simp at this; omega))
        have HU := Lib.hid (hwv.tail (by have := HWN.out; simp at this; omega))
        have HI' := Lib.hid HI.out.tail
        have hbn1 := hlv.ne HG.out (by decide)
        have hbn2 := hwv.ne HG.out (by decide)
        have hcl := rl.2.1
        have hcw := rw'.2.1
        have hs1 := fun wx => slice_from (P := Tryd.prog) sl54 wx (some ⟨b1, o1, none⟩) M cl 1 1 rfl (by omega)
        have hs2 := fun wx => slice_from (P := Tryd.prog) sl54 wx (some ⟨b2, o2, none⟩) M cw 1 1 rfl (by omega)
        have HN1 := Lib.hid n1
        have hn0 : (0 : Int) < (M : Int) := by omega
        have hn00 : 0 < M := by omega
        have n1' : (1 : Int) < (M : Int) := by omega
        have hdl : d0.length ≤ 281474976710656 := hd0
        have HLW := Lib.hid hlw
        simp only [Nat.add_zero] at hcy1 hcy2
        clear hy1 hy2 rl rw' hv0 hu0 hd0 hlv hwv n1 hlw
        generalize d0.length = m0 at *
        have hgb1 : gb ≠ b1 := fun e => hbn1 (by rw [e]; rfl)
        have hgb2 : gb ≠ b2 := fun e => hbn2 (by rw [e]; rfl)
        have hg3 : ∀ nq, ((wr.drewN nq).setCell ⟨gb, 3, none⟩ (.bool false)).heap[gb]? = some (Obj.cells #[.slice (some ⟨b1, o1, none⟩) M cl, .slice (some ⟨b2, o2, none⟩) M cw, .int .i64 held, .bool false] 56 (0, 0)) := fun nq => heap_setCell_same (wr.drewN nq) gb 3 _ _ _ HG.out
        have hks : ∀ nq, ((wr.drewN nq).setCell ⟨gb, 3, none⟩ (.bool false)).cell? ⟨gb, 3, none⟩ = some (.bool false) ∧ ((wr.drewN nq).setCell ⟨gb, 3, none⟩ (.bool false)).cell? ⟨gb, 0, none⟩ = some (.slice (some ⟨b1, o1, none⟩) M cl) ∧ ((wr.drewN nq).setCell ⟨gb, 3, none⟩ (.bool false)).cell? ⟨gb, 1, none⟩ = some (.slice (some ⟨b2, o2, none⟩) M cw) ∧ ((wr.drewN nq).setCell ⟨gb, 3, none⟩ (.bool false)).cell? ⟨b1, o1, none⟩ = some (.slice av m0 cv) ∧ ((wr.drewN nq).setCell ⟨gb, 3, none⟩ (.bool false)).cell? ⟨b2, o2, none⟩ = some (.slice au m0 cu) := fun nq =>
          ⟨cell_of_row _ gb 3 _ _ _ (hg3 nq), cell_of_row _ gb 0 _ _ _ (hg3 nq), cell_of_row _ gb 1 _ _ _ (hg3 nq), (World.cell?_of_block (heap_setCell_other (wr.drewN nq) ⟨gb, 3, none⟩ b1 _ (Ne.symm hgb1))).trans hcy1, (World.cell?_of_block (heap_setCell_other (wr.drewN nq) ⟨gb, 3, none⟩ b2 _ (Ne.symm hgb2))).trans hcy2⟩
        have KS := Lib.hid hks
        have HG3 := Lib.hid hg3
        clear hg3 hks
        by_cases n2 : 1000000 < held
        · go_wp2
          go_region_held3 (fun w => w.cell? ⟨gb, 3, none⟩ = some (.bool false) ∧ w.cell? ⟨gb, 0, none⟩ = some (.slice (some ⟨b1, o1, none⟩) M cl) ∧ w.cell? ⟨gb, 1, none⟩ = some (.slice (some ⟨b2, o2, none⟩) M cw) ∧ w.cell? ⟨b1, o1, none⟩ = some (.slice av m0 cv) ∧ w.cell? ⟨b2, o2, none⟩ = some (.slice au m0 cu)) (first | exact ⟨c3, c0, c1, hcy1, hcy2⟩ | exact KS.out _) (first | (go_at_call 45; refine (same_any _ _ _ _ _ _ _ _ _ (rs_drewN R1 _) (rs_drewN R2 _) true ⟨rfl, rfl⟩).mono ?_; rintro e w' ⟨rfl, nn, rfl⟩))
          have hgk := HG3.out (1 + nn)
          have hoth : ∀ k, k ≠ gb → ((wr.drewN (1 + nn)).setCell ⟨gb, 3, none⟩ (.bool false)).heap[k]? = wr.heap[k]? := fun k hk => heap_setCell_other (wr.drewN (1 + nn)) ⟨gb, 3, none⟩ k _ hk
          have hbk := (below_drewN hb (1 + nn)).setCell (p := ⟨gb, 3, none⟩) hB (.bool false)
          generalize (wr.drewN (1 + nn)).setCell ⟨gb, 3, none⟩ (.bool false) = w6 at *
          have d0 := cell_of_row w6 gb 0 _ _ _ hgk
          have d2 := cell_of_row w6 gb 2 _ _ _ hgk
          have fd := fun o => frozen_of_row w6 gb o _ _ hgk
          simp at d0 d2
          have db1 : w6.cell? ⟨b1, o1, none⟩ = some (.slice av m0 cv) := (World.cell?_of_block (hoth b1 (Ne.symm hgb1))).trans hcy1
          have HGK := Lib.hid hgk
          have HOTH := Lib.hid hoth
          clear hgk hoth c0 c1 c2 c3 f hcy1 hcy2
          go_wp2
          go_still_tail 14, (by kernel_rfl)
          change wpList _ _ _ _ _ w6.drew
          have e0 : w6.drew.cell? ⟨gb, 0, none⟩ = _ := d0
          have e1 : w6.drew.cell? ⟨gb, 1, none⟩ = some (.slice (some ⟨b2, o2, none⟩) M cw) := cell_of_row w6 gb 1 _ _ _ HGK.out
          have e2 : w6.drew.cell? ⟨gb, 2, none⟩ = _ := d2
          have fe : ∀ o, w6.drew.frozen? ⟨gb, o, none⟩ = false := fd
          have hbk7 : Below B w w6.drew := hbk.drew
          have HOTH7 := Lib.hid (show ∀ k, k ≠ gb → w6.drew.heap[k]? = wr.heap[k]? from HOTH.out)
          have HGK7 := Lib.hid (show w6.drew.heap[gb]? = _ from HGK.out)
          clear HOTH HGK d0 d2 fd hbk db1
          generalize w6.drew = w7 at *
          go_wp2
          generalize hX : wrap64 (wrap64 (held - (cv : Int)) - 1) = X
          have hX0 : -9223372036854775808 ≤ X := by rw [← hX]; exact wrap64_ge _
          have hX1 : X ≤ 9223372036854775807 := by rw [← hX]; exact wrap64_le _
          have q1 := heap_setCell_same w7 gb 2 _ _ (.int .i64 X) HGK7.out
          have q2 := heap_setCell_same _ gb 0 _ _ (.slice (dropA (some ⟨b1, o1, none⟩) 1 cl) (M - 1) (cl - 1)) q1
          have q3 := heap_setCell_same _ gb 1 _ _ (.slice (dropA (some ⟨b2, o2, none⟩) 1 cw) (M - 1) (cw - 1)) q2
          have hb8 := ((hbk7.setCell (p := ⟨gb, 2, none⟩) hB (.int .i64 X)).setCell (p := ⟨gb, 0, none⟩) hB (.slice (dropA (some ⟨b1, o1, none⟩) 1 cl) (M - 1) (cl - 1))).setCell (p := ⟨gb, 1, none⟩) hB (.slice (dropA (some ⟨b2, o2, none⟩) 1 cw) (M - 1) (cw - 1))
          have hoth8 : ∀ k, k ≠ gb → (((w7.setCell ⟨gb, 2, none⟩ (.int .i64 X)).setCell ⟨gb, 0, none⟩ (.slice (dropA (some ⟨b1, o1, none⟩) 1 cl) (M - 1) (cl - 1))).setCell ⟨gb, 1, none⟩ (.slice (dropA (some ⟨b2, o2, none⟩) 1 cw) (M - 1) (cw - 1))).heap[k]? = wr.heap[k]? := fun k hk => by
            rw [heap_setCell_other _ ⟨gb, 1, none⟩ k _ hk, heap_setCell_other _ ⟨gb, 0, none⟩ k _ hk, heap_setCell_other _ ⟨gb, 2, none⟩ k _ hk, HOTH7.out k hk]
          generalize ((w7.setCell ⟨gb, 2, none⟩ (.int .i64 X)).setCell ⟨gb, 0, none⟩ (.slice (dropA (some ⟨b1, o1, none⟩) 1 cl) (M - 1) (cl - 1))).setCell ⟨gb, 1, none⟩ (.slice (dropA (some ⟨b2, o2, none⟩) 1 cw) (M - 1) (cw - 1)) = w8 at *
          obtain ⟨hbk8, hkk8⟩ := book_dropped hoth8 q3 HG.out hB hgb1 hgb2 HT.out HU.out HLW.out hX0 hX1 HI'.out
          have z0 := bkLen_eq (cell_of_row w8 gb 0 _ _ _ q3)
          have z1 := bkLen_eq (cell_of_row wr gb 0 _ _ _ HG.out)
          refine ⟨⟨k + 1, by have := EL.out; omega, by rw [HK1.out, HK2.out, HK3.out]; exact hbk8, hb8, hkp.trans hkk8⟩, ?_⟩
          rw [z0, z1]; omega
        · have n2' := Lib.hid n2
          by_cases n3 : 4000 < M
          · go_wp2
            go_region_held3 (fun w => w.cell? ⟨gb, 3, none⟩ = some (.bool false) ∧ w.cell? ⟨gb, 0, none⟩ = some (.slice (some ⟨b1, o1, none⟩) M cl) ∧ w.cell? ⟨gb, 1, none⟩ = some (.slice (some ⟨b2, o2, none⟩) M cw) ∧ w.cell? ⟨b1, o1, none⟩ = some (.slice av m0 cv) ∧ w.cell? ⟨b2, o2, none⟩ = some (.slice au m0 cu)) (first | exact ⟨c3, c0, c1, hcy1, hcy2⟩ | exact KS.out _) (first | (go_at_call 45; refine (same_any _ _ _ _ _ _ _ _ _ (rs_drewN R1 _) (rs_drewN R2 _) true ⟨rfl, rfl⟩).mono ?_; rintro e w' ⟨rfl, nn, rfl⟩))
            have hgk := HG3.out (1 + nn)
            have hoth : ∀ k, k ≠ gb → ((wr.drewN (1 + nn)).setCell ⟨gb, 3, none⟩ (.bool false)).heap[k]? = wr.heap[k]? := fun k hk => heap_setCell_other (wr.drewN (1 + nn)) ⟨gb, 3, none⟩ k _ hk
            have hbk := (below_drewN hb (1 + nn)).setCell (p := ⟨gb, 3, none⟩) hB (.bool false)
            generalize (wr.drewN (1 + nn)).setCell ⟨gb, 3, none⟩ (.bool false) = w6 at *
            have d0 := cell_of_row w6 gb 0 _ _ _ hgk
            have d2 := cell_of_row w6 gb 2 _ _ _ hgk
            have fd := fun o => frozen_of_row w6 gb o _ _ hgk
            simp at d0 d2
            have db1 : w6.cell? ⟨b1, o1, none⟩ = some (.slice av m0 cv) := (World.cell?_of_block (hoth b1 (Ne.symm hgb1))).trans hcy1
            have HGK := Lib.hid hgk
            have HOTH := Lib.hid hoth
            clear hgk hoth c0 c1 c2 c3 f hcy1 hcy2
            go_wp2
            go_still_tail 14, (by kernel_rfl)
            change wpList _ _ _ _ _ w6.drew
            have e0 : w6.drew.cell? ⟨gb, 0, none⟩ = _ := d0
            have e1 : w6.drew.cell? ⟨gb, 1, none⟩ = some (.slice (some ⟨b2, o2, none⟩) M cw) := cell_of_row w6 gb 1 _ _ _ HGK.out
            have e2 : w6.drew.cell? ⟨gb, 2, none⟩ = _ := d2
            have fe : ∀ o, w6.drew.frozen? ⟨gb, o, none⟩ = false := fd
            have hbk7 : Below B w w6.drew := hbk.drew
            have HOTH7 := Lib.hid (show ∀ k, k ≠ gb → w6.drew.heap[k]? = wr.heap[k]? from HOTH.out)
            have HGK7 := Lib.hid (show w6.drew.heap[gb]? = _ from HGK.out)
            clear HOTH HGK d0 d2 fd hbk db1
            generalize w6.drew = w7 at *
            go_wp2
            generalize hX : wrap64 (wrap64 (held - (cv : Int)) - 1) = X
            have hX0 : -9223372036854775808 ≤ X := by rw [← hX]; exact wrap64_ge _
            have hX1 : X ≤ 9223372036854775807 := by rw [← hX]; exact wrap64_le _
            have q1 := heap_setCell_same w7 gb 2 _ _ (.int .i64 X) HGK7.out
            have q2 := heap_setCell_same _ gb 0 _ _ (.slice (dropA (some ⟨b1, o1, none⟩) 1 cl) (M - 1) (cl - 1)) q1
            have q3 := heap_setCell_same _ gb 1 _ _ (.slice (dropA (some ⟨b2, o2, none⟩) 1 cw) (M - 1) (cw - 1)) q2
            have hb8 := ((hbk7.setCell (p := ⟨gb, 2, none⟩) hB (.int .i64 X)).setCell (p := ⟨gb, 0, none⟩) hB (.slice (dropA (some ⟨b1, o1, none⟩) 1 cl) (M - 1) (cl - 1))).setCell (p := ⟨gb, 1, none⟩) hB (.slice (dropA (some ⟨b2, o2, none⟩) 1 cw) (M - 1) (cw - 1))
            have hoth8 : ∀ k, k ≠ gb → (((w7.setCell ⟨gb, 2, none⟩ (.int .i64 X)).setCell ⟨gb, 0, none⟩ (.slice (dropA (some ⟨b1, o1, none⟩) 1 cl) (M - 1) (cl - 1))).setCell ⟨gb, 1, none⟩ (.slice (dropA (some ⟨b2, o2, none⟩) 1 cw) (M - 1) (cw - 1))).heap[k]? = wr.heap[k]? := fun k hk => by
              rw [heap_setCell_other _ ⟨gb, 1, none⟩ k _ hk, heap_setCell_other _ ⟨gb, 0, none⟩ k _ hk, heap_setCell_other _ ⟨gb, 2, none⟩ k _ hk, HOTH7.out k hk]
            generalize ((w7.setCell ⟨gb, 2, none⟩ (.int .i64 X)).setCell ⟨gb, 0, none⟩ (.slice (dropA (some ⟨b1, o1, none⟩) 1 cl) (M - 1) (cl - 1))).setCell ⟨gb, 1, none⟩ (.slice (dropA (some ⟨b2, o2, none⟩) 1 cw) (M - 1) (cw - 1)) = w8 at *
            obtain ⟨hbk8, hkk8⟩ := book_dropped hoth8 q3 HG.out hB hgb1 hgb2 HT.out HU.out HLW.out hX0 hX1 HI'.out
            have z0 := bkLen_eq (cell_of_row w8 gb 0 _ _ _ q3)
            have z1 := bkLen_eq (cell_of_row wr gb 0 _ _ _ HG.out)
            refine ⟨⟨k + 1, by have := EL.out; omega, by rw [HK1.out, HK2.out, HK3.out]; exact hbk8, hb8, hkp.trans hkk8⟩, ?_⟩
            rw [z0, z1]; omega
          · have HH := Lib.hid (show BkI wr B gb (.slice av m0 cv :: L) (.slice au m0 cu :: W) (d0 :: D) from HBK.out)
            have hN3 : M ≤ 4000 := by omega
            have hN2 : held ≤ 1000000 := by omega
            go_wp2
            go_end0
            exact ⟨rfl, ⟨u, HUQ.out, k, by rw [HKL.out, HKW.out, HKD.out]; exact HH.out⟩, hb, hkp⟩
      · have HN := Lib.hid n1
        have HH := Lib.hid (show BkI wr B gb L W D from ⟨_, _, _, HG.out, hB, hlv, hwv, hlw, h0, h1, HI.out⟩)
        clear hlv hwv hlw
        go_wp2
        go_end0
        exact ⟨rfl, ⟨u, HUQ.out, k, by rw [HKL.out, HKW.out, HKD.out]; exact HH.out⟩, hb, hkp⟩
end Go.Proofs.YtakaoacialnjaaaDoor
namespace Go.Proofs.YtakaoacialnjaaaDoor
open Go Go.RowKit
set_option linter.unusedVariables false
set_option linter.unusedSimpArgs false
/-- All but one block stand. -/
def Oth (w w' : World) (g : Nat) : Prop := ∀ k : Nat, k ≠ g → w'.heap[k]? = w.heap[k]?
theorem BkI.oth {w w' : World} {B gb : Nat} {ls ws : List Value} {ds : List (List (Int × Bool))} (h : BkI w B gb ls ws ds) (ho : ∀ k : Nat, w'.heap[k]? = w.heap[k]?) : BkI w' B gb ls ws ds := by
  obtain ⟨lv, wv, held, hg, hB, hlv, hwv, hlw, h0, h1, hI⟩ := h
  exact ⟨lv, wv, held, (ho gb).trans hg, hB, hlv.kept (fun k _ => ho k), hwv.kept (fun k _ => ho k), hlw, h0, h1, hI.keep (fun k _ _ _ _ _ => ho k)⟩

set_option maxHeartbeats 1000000 in
set_option maxRecDepth 100000 in
theorem stays_any (w : World) (B gb : Nat) (ls ws : List Value) (ds : List (List (Int × Bool))) (h : BkI w B gb ls ws ds) (hl : ds.length ≤ 4001) :
    Calls Tryd.prog 46 #[.pointer (some ⟨gb, 0, none⟩)] w fun e w' => e = .returned (.bool true) ∧ (∀ k : Nat, w'.heap[k]? = w.heap[k]?) ∧ Below B w w' := by
  obtain ⟨lv, wv, held, hg, hB, hlv, hwv, hlw, h0, h1, hI⟩ := h
  have e1 := hI.l1
  have e2 := hI.l2
  obtain ⟨al, cl, rfl, rl⟩ := hlv.rv (by omega)
  obtain ⟨aw, cw, rfl, rw'⟩ := hwv.rv (by omega)
  have E1 := Lib.hid e1
  have E2 := Lib.hid e2
  have HI := Lib.hid hI
  have hN : ls.length ≤ 4001 := by omega
  generalize hM : ws.length = M at *
  generalize hNN : ls.length = N at *
  have hMN : M = N := by have := E1.out; have := E2.out; omega
  subst hMN
  have hgb1 : ∀ b o, al = some ⟨b, o, none⟩ → gb ≠ b := fun b o e h => hlv.ne hg (by decide) (by rw [e, h]; rfl)
  have hgb2 : ∀ b o, aw = some ⟨b, o, none⟩ → gb ≠ b := fun b o e h => hwv.ne hg (by decide) (by rw [e, h]; rfl)
  have HLW := Lib.hid hlw
  have HG := Lib.hid hg
  clear e1 e2 hI hM hNN hlw hg hl
  go_enter Tryd.func46, Tryd.ntmps46
  go_wp2
  go_loopw [3] (fun x wr => ∃ i : Nat, i ≤ M ∧ x = .int .i64 i ∧ (∀ k : Nat, wr.heap[k]? = w.heap[k]?) ∧ Below B w wr) (fun x _ => M - (intOf x).toNat)
  case atStart => exact ⟨0, by omega, rfl, fun _ => rfl, Below.refl _ _⟩
  case round =>
    obtain ⟨i, hi, rfl, hk, hb⟩ := hrel
    have hg := (hk gb).trans HG.out
    have c0 := cell_of_row wr gb 0 _ _ _ hg
    have c1 := cell_of_row wr gb 1 _ _ _ hg
    have c3 := cell_of_row wr gb 3 _ _ _ hg
    have f := fun o => frozen_of_row wr gb o _ _ hg
    simp at c0 c1 c3
    have HK := Lib.hid hk
    have HGW := Lib.hid hg
    clear hk hg
    by_cases hlt : i < M
    · obtain ⟨b1, o1, y1, ha1, hy1, hcy1⟩ := rl.at hlt
      obtain ⟨b2, o2, y2, ha2, hy2, hcy2⟩ := rw'.at hlt
      obtain ⟨hd, hv, hu⟩ := HI.out.own i y1 y2 ds[i] hy1 hy2 (by simp)
      generalize ds[i] = d at *
      obtain ⟨av, cv, rfl, -⟩ := owns_shape hv
      obtain ⟨au, cu, rfl, -⟩ := owns_shape hu
      have K5 : Keep5 w wr := fun k _ _ _ _ _ => HK.out k
      have R1 := RS.of_owns (K5.owns hv) (by decide) Kd_len hd
      have R2 := RS.of_owns (K5.owns hu) (by decide) Kd_len hd
      have hgb1' := hgb1 _ _ ha1
      have hgb2' := hgb2 _ _ ha2
      subst ha1 ha2
      have hc1 : wr.cell? ⟨b1, o1 + i, none⟩ = _ := (World.cell?_of_block (HK.out b1)).trans hcy1
      have hc2 : wr.cell? ⟨b2, o2 + i, none⟩ = _ := (World.cell?_of_block (HK.out b2)).trans hcy2
      have hg3 : ∀ nq, ((wr.drewN nq).setCell ⟨gb, 3, none⟩ (.bool false)).heap[gb]? = some (Obj.cells #[.slice (some ⟨b1, o1, none⟩) M cl, .slice (some ⟨b2, o2, none⟩) M cw, .int .i64 held, .bool false] 56 (0, 0)) := fun nq => heap_setCell_same (wr.drewN nq) gb 3 _ _ _ HGW.out
      have hks : ∀ nq, ((wr.drewN nq).setCell ⟨gb, 3, none⟩ (.bool false)).cell? ⟨gb, 3, none⟩ = some (.bool false) ∧ ((wr.drewN nq).setCell ⟨gb, 3, none⟩ (.bool false)).cell? ⟨gb, 0, none⟩ = some (.slice (some ⟨b1, o1, none⟩) M cl) ∧ ((wr.drewN nq).setCell ⟨gb, 3, none⟩ (.bool false)).cell? ⟨gb, 1, none⟩ = some (.slice (some ⟨b2, o2, none⟩) M cw) ∧ ((wr.drewN nq).setCell ⟨gb, 3, none⟩ (.bool false)).cell? ⟨b1, o1 + i, none⟩ = some (.slice av d.length cv) ∧ ((wr.drewN nq).setCell ⟨gb, 3, none⟩ (.bool false)).cell? ⟨b2, o2 + i, none⟩ = some (.slice au d.length cu) := fun nq =>
        ⟨cell_of_row _ gb 3 _ _ _ (hg3 nq), cell_of_row _ gb 0 _ _ _ (hg3 nq), cell_of_row _ gb 1 _ _ _ (hg3 nq), (World.cell?_of_block (heap_setCell_other (wr.drewN nq) ⟨gb, 3, none⟩ b1 _ (Ne.symm hgb1'))).trans hc1, (World.cell?_of_block (heap_setCell_other (wr.drewN nq) ⟨gb, 3, none⟩ b2 _ (Ne.symm hgb2'))).trans hc2⟩
      have KS := Lib.hid hks
      have HG3 := Lib.hid hg3
      clear hg3 hks hcy1 hcy2 hv hu hy1 hy2 hgb1 hgb2 hlv hwv rl rw' K5
      generalize d.length = m0 at *
      have hlt' : (i : Int) < (M : Int) := by omega
      go_wp2
      go_region_held3 (fun w => w.cell? ⟨gb, 3, none⟩ = some (.bool false) ∧ w.cell? ⟨gb, 0, none⟩ = some (.slice (some ⟨b1, o1, none⟩) M cl) ∧ w.cell? ⟨gb, 1, none⟩ = some (.slice (some ⟨b2, o2, none⟩) M cw) ∧ w.cell? ⟨b1, o1 + i, none⟩ = some (.slice av m0 cv) ∧ w.cell? ⟨b2, o2 + i, none⟩ = some (.slice au m0 cu)) (first | exact ⟨c3, c0, c1, hc1, hc2⟩ | exact KS.out _) (first | (go_at_call 45; refine (same_any _ _ _ _ _ _ _ _ _ (rs_drewN R1 _) (rs_drewN R2 _) true ⟨rfl, rfl⟩).mono ?_; rintro e w' ⟨rfl, nn, rfl⟩))
      have hoth : ∀ k : Nat, ((wr.drewN (1 + nn)).setCell ⟨gb, 3, none⟩ (.bool false)).heap[k]? = wr.heap[k]? := fun k => by
        by_cases hk : k = gb
        · subst hk; rw [HG3.out, HGW.out]
        · exact heap_setCell_other (wr.drewN (1 + nn)) ⟨gb, 3, none⟩ k _ hk
      have hbk := (below_drewN hb (1 + nn)).setCell (p := ⟨gb, 3, none⟩) hB (.bool false)
      generalize (wr.drewN (1 + nn)).setCell ⟨gb, 3, none⟩ (.bool false) = w6 at *
      have HO := Lib.hid hoth
      clear hoth c0 c1 c3 f hc1 hc2
      go_wp2
      go_roundw
      case rel => exact ⟨i + 1, by omega, by go_num, fun k => (HO.out k).trans (HK.out k), hbk⟩
      case measure => simp [intOf]; omega
    · clear hlv hwv rl rw'
      go_wp2
      go_ret
      exact ⟨rfl, HK.out, hb⟩
def mkK (i : Nat) : Int := -1000 - (i : Int)
set_option maxRecDepth 100000 in
set_option maxHeartbeats 4000000 in
theorem markkind_any (w : World) (i j : Nat) (hi : i ≤ 4001) : Calls Tryd.prog 27 #[.int .i64 i, .int .i64 j] w fun e w' => e = .returned (.agg #[.int .i64 (mkK i), .bool false]) ∧ Below w.heap.size w w' := by
  have hw : IntKind.i64.wrap (-1000 - (i : Int)) = -1000 - (i : Int) := by simp [IntKind.wrap, IntKind.bits, IntKind.signed]; omega
  go_enter Tryd.func27, Tryd.ntmps27
  go_wp2
  refine bodyPost_ret (v := .agg #[.int .i64 (mkK i), .bool false]) (by simp [results, Tryd.results27, go_sem, mkK]) rfl ⟨rfl, ?_⟩
  exact (Below.refl _ _).alloc (Nat.le_refl _) _
end Go.Proofs.YtakaoacialnjaaaDoor
namespace Go.Proofs.YtakaoacialnjaaaDoor
open Go Go.RowKit
set_option linter.unusedVariables false
set_option linter.unusedSimpArgs false
theorem slice_to (wx : World) (a : Option Addr) (len cap h : Nat) (hc : h ≤ cap) : (Instr.slice 22 (.slice a len cap) none (some (.int .i64 (h : Int))) none).run Tryd.prog wx = .ok (.slice a h cap) wx := by
  obtain ⟨i, hi, hz0, hz1, hz2⟩ := info_parts sl22.inf
  have he : Tryd.prog.elem 22 = 30 := by simp [Program.elem, sl22.und]
  have h2 : (sizeOf (Tryd.prog.elem 22)).run Tryd.prog wx = .ok 2 wx := by rw [he]; simp [sizeOf, typeInfo, hi, hz1]
  rw [run_slice_h wx 22 a len cap (by rw [he]; exact sl22.und) .i64 h (by omega) (by omega), h2]
  have hid : ∀ x : Option Addr, x.map (fun y => y.add (0 * 2)) = x := by intro x; cases x <;> simp [Addr.add]
  simp only [Result.andThen, sliced, hid, ite_self]
  rfl
/-- A row of kinds of which the first m places are marked. -/
def Rw (w : World) (v : Value) (m : Nat) (k : Int) : Prop :=
  ∃ a n c, v = .slice a n c ∧ c < 9223372036854775808 ∧ (c = 0 ∨ ∃ g cur, a = some ⟨g, 0, none⟩ ∧ w.heap[g]? = some (.cells cur 30 (0, 0)) ∧ cur.size = c * 2 ∧ ∀ j, j < m → j < c → cur[j * 2]? = some (.int .i64 k) ∧ cur[j * 2 + 1]? = some (.bool false))
theorem Rw.of_owns {w : World} {B : Nat} {v : Value} {n : Nat} {xs : List Value} (h : w.ownsRow B 30 2 v n xs) (k : Int) : Rw w v 0 k := by
  rcases h.2 with ⟨rfl, rfl⟩ | ⟨g, cap, cur, rfl, hb, hg, hn, hm, hs, _⟩
  · exact ⟨none, 0, 0, rfl, by omega, .inl rfl⟩
  · refine ⟨_, _, cap, rfl, by simp [maxLen] at hm; omega, .inr ⟨g, cur, rfl, hg, by omega, fun j hj => by omega⟩⟩
theorem Rw.kept {w w' : World} {v : Value} {m : Nat} {k : Int} (h : Rw w v m k) (hk : ∀ g : Nat, v.ownBlock = some g → g < w.heap.size → w'.heap[g]? = w.heap[g]?) : Rw w' v m k := by
  obtain ⟨a, n, c, rfl, hc, h0 | ⟨g, cur, rfl, hg, hs, hm⟩⟩ := h
  · exact ⟨a, n, c, rfl, hc, .inl h0⟩
  · exact ⟨_, n, c, rfl, hc, .inr ⟨g, cur, rfl, (hk g rfl (Array.getElem?_eq_some_iff.1 hg).1).trans hg, hs, hm⟩⟩
theorem Rw.set {w : World} {g n c j : Nat} {k : Int} (h : Rw w (.slice (some ⟨g, 0, none⟩) n c) j k) (hj : j < c) : Rw ((w.setCell ⟨g, j * 2, none⟩ (.int .i64 k)).setCell ⟨g, j * 2 + 1, none⟩ (.bool false)) (.slice (some ⟨g, 0, none⟩) n c) (j + 1) k := by
  obtain ⟨a, n, c, hv, hc, h0 | ⟨g', cur, ha, hg, hs, hm⟩⟩ := h
  · obtain ⟨rfl, rfl, rfl⟩ := Value.slice.inj hv
    omega
  · obtain ⟨rfl, rfl, rfl⟩ := Value.slice.inj hv
    obtain rfl : g = g' := by simpa using ha
    have g1 := heap_setCell_same w g (j * 2) _ _ (.int .i64 k) hg
    have g2 := heap_setCell_same _ g (j * 2 + 1) _ _ (.bool false) g1
    refine ⟨_, _, _, rfl, hc, .inr ⟨g, _, rfl, g2, by simp [hs], fun i hi hic => ?_⟩⟩
    simp only [Array.getElem?_setIfInBounds, Array.size_setIfInBounds]
    by_cases e : i = j
    · subst e
      refine ⟨?_, ?_⟩
      · rw [if_neg (by omega), if_pos rfl, if_pos (by omega)]
      · rw [if_pos rfl, if_pos (by omega)]
    · obtain ⟨m1, m2⟩ := hm i (by omega) hic
      refine ⟨?_, ?_⟩
      · rw [if_neg (by omega), if_neg (by omega)]; exact m1
      · rw [if_neg (by omega), if_neg (by omega)]; exact m2
theorem Rw.at {w : World} {a : Option Addr} {n c j m : Nat} {k : Int} (h : Rw w (.slice a n c) m k) (hj : j < c) : ∃ g x y, a = some ⟨g, 0, none⟩ ∧ w.cell? ⟨g, j * 2, none⟩ = some x ∧ w.cell? ⟨g, j * 2 + 1, none⟩ = some y ∧ (∀ o, w.frozen? ⟨g, o, none⟩ = false) ∧ (j < m → x = .int .i64 k ∧ y = .bool false) ∧ ∃ cur, w.heap[g]? = some (.cells cur 30 (0, 0)) := by
  obtain ⟨a, n, c, hv, hc, h0 | ⟨g, cur, rfl, hg, hs, hm⟩⟩ := h
  · obtain ⟨rfl, rfl, rfl⟩ := Value.slice.inj hv
    omega
  · obtain ⟨rfl, rfl, rfl⟩ := Value.slice.inj hv
    have hc2 := cell_of_row w g (j * 2) cur 30 (0, 0) hg
    have hc3 := cell_of_row w g (j * 2 + 1) cur 30 (0, 0) hg
    rw [Array.getElem?_eq_getElem (by omega)] at hc2 hc3
    refine ⟨g, _, _, rfl, hc2, hc3, fun o => frozen_of_row w g o _ _ hg, fun h => ?_, cur, hg⟩
    obtain ⟨m1, m2⟩ := hm j h hj
    rw [Array.getElem?_eq_getElem (by omega)] at m1 m2
    exact ⟨Option.some.inj m1, Option.some.inj m2⟩
/-- All but rows of kinds stand. -/
def KN5 (w w' : World) : Prop := w.heap.size ≤ w'.heap.size ∧ ∀ k : Nat, k < w.heap.size → (∀ (cs : Array Value) (fz : Nat × Nat), w.heap[k]? ≠ some (Obj.cells cs 30 fz)) → w'.heap[k]? = w.heap[k]?
/-- What the marking holds: the lists before the i-th are full, of the i-th m places. -/
def Mk (ls : List Value) (i m : Nat) (w0 w : World) : Prop :=
  KN5 w0 w ∧ ∀ (t : Nat) v, ls[t]? = some v → Rw w v (if t < i then 9223372036854775808 else if t = i then m else 0) (mkK t)
theorem Mk.below {ls : List Value} {i m : Nat} {w0 w w' : World} (h : Mk ls i m w0 w) (hb : Below w.heap.size w w') : Mk ls i m w0 w' :=
  ⟨⟨Nat.le_trans h.1.1 hb.size, fun k hk hn => (hb.block k (Nat.lt_of_lt_of_le hk h.1.1)).trans (h.1.2 k hk hn)⟩, fun t v ht => (h.2 t v ht).kept fun g _ hg => hb.block g hg⟩
theorem Mk.step {w0 w : World} {B : Nat} {ls ws : List Value} {ds : List (List (Int × Bool))} {i j g n c : Nat} (hI : Its w0 B ls ws ds) (h : Mk ls i j w0 w) (hi : ls[i]? = some (.slice (some ⟨g, 0, none⟩) n c)) (hj : j < c) (hb : ∃ cur, w0.heap[g]? = some (Obj.cells cur 30 (0, 0))) :
    Mk ls i (j + 1) w0 ((w.setCell ⟨g, j * 2, none⟩ (.int .i64 (mkK i))).setCell ⟨g, j * 2 + 1, none⟩ (.bool false)) := by
  have ho : ∀ k, k ≠ g → ((w.setCell ⟨g, j * 2, none⟩ (.int .i64 (mkK i))).setCell ⟨g, j * 2 + 1, none⟩ (.bool false)).heap[k]? = w.heap[k]? := fun k hk =>
    (heap_setCell_other _ ⟨g, j * 2 + 1, none⟩ k _ hk).trans (heap_setCell_other w ⟨g, j * 2, none⟩ k _ hk)
  refine ⟨⟨by simpa using h.1.1, fun k hk hn => ?_⟩, fun t v ht => ?_⟩
  · rw [ho k (fun e => by obtain ⟨cur, hc⟩ := hb; subst e; exact hn _ _ hc)]
    exact h.1.2 k hk hn
  · have hr := h.2 t v ht
    by_cases hti : t = i
    · subst hti
      obtain rfl := Option.some.inj (ht.symm.trans hi)
      rw [if_neg (by omega), if_pos rfl] at hr ⊢
      exact hr.set hj
    · have e : (if t < i then 9223372036854775808 else if t = i then j + 1 else 0) = (if t < i then 9223372036854775808 else if t = i then j else 0) := by simp [hti]
      rw [e]
      refine hr.kept fun g' hg' _ => ho g' (fun e => ?_)
      subst e
      rcases Nat.lt_or_ge t i with hlt | hge
      · rcases hI.apart t i v _ hlt ht hi with h | h
        · rw [h] at hg'; cases hg'
        · exact h hg'
      · rcases hI.apart i t _ v (by omega) hi ht with h | h
        · cases h
        · exact h hg'.symm
theorem Mk.next {w0 w : World} {ls : List Value} {i c : Nat} {a : Option Addr} {n : Nat} (h : Mk ls i c w0 w) (hi : ls[i]? = some (.slice a n c)) : Mk ls (i + 1) 0 w0 w := by
  refine ⟨h.1, fun t v ht => ?_⟩
  have hr := h.2 t v ht
  by_cases hti : t = i
  · subst hti
    obtain rfl := Option.some.inj (ht.symm.trans hi)
    rw [if_neg (by omega), if_pos rfl] at hr
    rw [if_pos (by omega)]
    obtain ⟨a, n, c, hv, hc, h0 | ⟨g, cur, ha, hg, hs, hm⟩⟩ := hr
    · exact ⟨a, n, c, hv, hc, .inl h0⟩
    · obtain ⟨rfl, rfl, rfl⟩ := Value.slice.inj hv
      exact ⟨_, _, _, rfl, hc, .inr ⟨g, cur, ha, hg, hs, fun j _ hj => hm j hj hj⟩⟩
  · have e : (if t < i + 1 then 9223372036854775808 else if t = i + 1 then 0 else 0) = (if t < i then 9223372036854775808 else if t = i then c else 0) := by
      simp only [hti, if_false]
      by_cases h : t < i
      · rw [if_pos h, if_pos (by omega)]
      · rw [if_neg h, if_neg (by omega)]; simp
    rw [e]; exact hr
end Go.Proofs.YtakaoacialnjaaaDoor
namespace Go.Proofs.YtakaoacialnjaaaDoor
open Go Go.RowKit
set_option linter.unusedVariables false
set_option linter.unusedSimpArgs false
set_option maxRecDepth 100000 in
set_option maxHeartbeats 4000000 in
theorem apart_any (w : World) (B gb : Nat) (ls ws : List Value) (ds : List (List (Int × Bool))) (h : BkI w B gb ls ws ds) (hl : ds.length ≤ 4001) (hBw : B ≤ w.heap.size) :
    Calls Tryd.prog 26 #[.pointer (some ⟨gb, 0, none⟩), .func (.func 27) #[] #[]] w fun e w' => e = .returned (.bool true) ∧ Below B w w' := by
  go_enter Tryd.func26, Tryd.ntmps26
  go_wp2_with fail
  with_reducible refine (stays_any w B gb ls ws ds h hl).mono ?_
  rintro e w1 ⟨rfl, hk1, hb1⟩
  have hBw1 : B ≤ w1.heap.size := by have := hb1.size; omega
  obtain ⟨lv, wv, held, hg, hB, hlv, hwv, hlw, h0, h1, hI⟩ := h.oth hk1
  have e1 := hI.l1
  obtain ⟨al, cl, rfl, rl⟩ := hlv.rv (by omega)
  have hN : ls.length ≤ 4001 := by omega
  have HI := Lib.hid hI
  have HG := Lib.hid hg
  have hglt : gb < w1.heap.size := (Array.getElem?_eq_some_iff.1 hg).1
  have hls : ∀ k, (Value.slice al ls.length cl).ownBlock = some k → k < w1.heap.size ∧ ∃ cur, w1.heap[k]? = some (Obj.cells cur 22 (0, 0)) := fun k hk => (hlv.lt k hk).2
  generalize hNN : ls.length = N at *
  have HNN := Lib.hid hNN
  have HLS := Lib.hid hls
  clear hwv hlw h0 h1 hI e1 hg hls hlv hNN h hk1
  go_upto_block 0 with (fail)
  go_cut [] (fun wx => Mk ls N 0 w1 wx ∧ Below B w wx)
  case first =>
    go_wp2_with fail
    go_loopw [5, 6, 7] (fun x _ _ wx => ∃ i : Nat, i ≤ N ∧ x = .int .i64 i ∧ Mk ls i 0 w1 wx ∧ Below B w wx) (fun x _ _ _ => N - (intOf x).toNat)
    case atStart =>
      refine ⟨0, by omega, rfl, ⟨⟨Nat.le_refl _, fun k _ _ => rfl⟩, fun t v ht => ?_⟩, hb1⟩
      have htl : t < ls.length := (List.getElem?_eq_some_iff.1 ht).1
      obtain ⟨_, hv, _⟩ := HI.out.own t v ws[t]! ds[t]! ht (by have := HI.out.l1; have := HI.out.l2; rw [List.getElem?_eq_getElem (by omega)]; simp [show t < ws.length by omega]) (by have := HI.out.l1; rw [List.getElem?_eq_getElem (by omega)]; simp [show t < ds.length by omega])
      simpa using Rw.of_owns hv (mkK t)
    case round =>
      obtain ⟨i, hi, rfl, hM, hb⟩ := hrel
      have hgw := (hM.1.2 gb hglt (by rw [HG.out]; simp)).trans HG.out
      have c0 := cell_of_row wr gb 0 _ _ _ hgw
      have f0 := frozen_of_row wr gb 0 _ _ hgw
      simp at c0
      have HM := Lib.hid hM
      have HB := Lib.hid hb
      have zr : w1.heap.size ≤ wr.heap.size := hM.1.1
      clear hgw hM hb
      by_cases hlt : i < N
      · obtain ⟨b1, o1, y1, rfl, hy1, hcy1⟩ := rl.at hlt
        obtain ⟨hb1lt, cur1, hcur1⟩ := HLS.out b1 rfl
        have hc1 : wr.cell? ⟨b1, o1 + i, none⟩ = _ := (World.cell?_of_block (HM.out.1.2 b1 hb1lt (by rw [hcur1]; simp))).trans hcy1
        obtain ⟨av, nv, cv, rfl, hcv, -⟩ := HM.out.2 i y1 hy1
        have hs := fun wx => slice_to wx av nv cv cv (Nat.le_refl _)
        have hlt' : (i : Int) < (N : Int) := by omega
        have HCV := Lib.hid hcv
        have HY := Lib.hid hy1
        clear hcy1 hcur1 rl hcv hy1
        go_wp2
        go_quiet (fail)
        go_wp2
        clear hs hc1 c0 f0 hlt'
        go_loopw [7] (fun x wx => ∃ j : Nat, j ≤ cv ∧ x = .int .i64 j ∧ Mk ls i j w1 wx ∧ Below B w wx) (fun x _ => cv - (intOf x).toNat)
        case atStart => exact ⟨0, by omega, rfl, HM.out.below (below_drewN (Below.refl _ _) nq), below_drewN HB.out nq⟩
        case round =>
          obtain ⟨j, hj, rfl, hM2, hb2⟩ := hrel
          have HM2 := Lib.hid hM2
          have HB2 := Lib.hid hb2
          have z2 : w1.heap.size ≤ wr.heap.size := hM2.1.1
          clear hM2 hb2
          by_cases hjc : j < cv
          · have hr := HM2.out.2 i _ HY.out
            rw [if_neg (by omega), if_pos rfl] at hr
            have hI := HI.out.own i (.slice av nv cv) ws[i]! ds[i]! HY.out (by have := HI.out.l1; have := HI.out.l2; have := HNN.out; simp [show i < ws.length by omega]) (by have := HI.out.l1; have := HNN.out; simp [show i < ds.length by omega])
            obtain ⟨g, x, y, rfl, -⟩ := hr.at hjc
            have hg1 : (∃ cur, w1.heap[g]? = some (Obj.cells cur 30 (0, 0))) ∧ B ≤ g := by
              rcases hI.2.1.2 with ⟨hv, _⟩ | ⟨g', cap, cur, hv, hb, hg, _⟩
              · cases hv
              · obtain ⟨e, -, -⟩ := Value.slice.inj hv
                obtain rfl : g = g' := by simpa using e
                exact ⟨⟨cur, hg⟩, hb⟩
            have HG1 := Lib.hid hg1
            have hjc' : (j : Int) < (cv : Int) := by omega
            clear hr hI hg1
            go_wp2_with fail
            with_reducible refine (markkind_any _ i j (by omega)).mono ?_
            rintro e w' ⟨rfl, hbm⟩
            have hM3 := HM2.out.below hbm
            have HM3 := Lib.hid hM3
            have HB3 := Lib.hid (HB2.out.trans (hbm.mono (by omega)))
            have hr := hM3.2 i _ HY.out
            rw [if_neg (by omega), if_pos rfl] at hr
            obtain ⟨g', x, y, hgg, hcx, hcy, hfx, -⟩ := hr.at hjc
            obtain rfl : g = g' := by simpa using hgg
            have hst := HM3.out.step HI.out HY.out hjc HG1.out.1
            have hbs := (HB3.out.setCell (p := ⟨g, j * 2, none⟩) HG1.out.2 (.int .i64 (mkK i))).setCell (p := ⟨g, j * 2 + 1, none⟩) HG1.out.2 (.bool false)
            have HST := Lib.hid hst
            have HBS := Lib.hid hbs
            have fx0 := hfx (j * 2)
            have fx1 := hfx (j * 2 + 1)
            have hw : IntKind.i64.wrap ((j : Int) + 1) = (j : Int) + 1 := by have := HCV.out; simp [IntKind.wrap, IntKind.bits, IntKind.signed]; omega
            have hj63 : (j : Int) + 1 < 9223372036854775808 := by have := HCV.out; omega
            clear hM3 hr hgg hst hbs hfx hbm
            go_wp2
            go_roundw
            case rel => exact ⟨j + 1, by omega, by go_num, HST.out, HBS.out⟩
            case measure => simp [intOf]; omega
          · obtain rfl : j = cv := by omega
            have HNX := Lib.hid (HM2.out.next HY.out)
            go_wp2
            go_roundw
            case rel => exact ⟨i + 1, by omega, by go_num, HNX.out, HB2.out⟩
            case measure => simp [intOf]; omega
      · obtain rfl : i = N := by omega
        clear rl
        go_wp2
        go_meet
        exact ⟨HM.out, HB.out⟩
  case rest =>
    obtain ⟨hM, hb⟩ := hcut
    have HM := Lib.hid hM
    have HB := Lib.hid hb
    have zc : w1.heap.size ≤ wc.heap.size := hM.1.1
    have HGW := Lib.hid ((hM.1.2 gb hglt (by rw [HG.out]; simp)).trans HG.out)
    clear hM hb
    have c0 := cell_of_row wc gb 0 _ _ _ HGW.out
    simp at c0
    go_wp2_with fail
    go_loopw [8, 9, 10] (fun x _ _ wx => ∃ i : Nat, i ≤ N ∧ x = .int .i64 i ∧ Below wc.heap.size wc wx) (fun x _ _ _ => N - (intOf x).toNat)
    case atStart => exact ⟨0, by omega, rfl, Below.refl _ _⟩
    case round =>
      obtain ⟨i, hi, rfl, hb⟩ := hrel
      have HX := Lib.hid hb
      have zw := hb.size
      have HGR := Lib.hid ((hb.block gb (by omega)).trans HGW.out)
      have HBR := Lib.hid (HB.out.trans (hb.mono (by omega)))
      have c0 := cell_of_row wr gb 0 _ _ _ HGR.out
      have c1 := cell_of_row wr gb 1 _ _ _ HGR.out
      have c2 := cell_of_row wr gb 2 _ _ _ HGR.out
      have f0 := fun o => frozen_of_row wr gb o _ _ HGR.out
      simp at c0 c1 c2
      clear hb
      by_cases hlt : i < N
      · obtain ⟨b1, o1, y1, rfl, hy1, hcy1⟩ := rl.at hlt
        obtain ⟨hb1lt, cur1, hcur1⟩ := HLS.out b1 rfl
        have hc1 : wr.cell? ⟨b1, o1 + i, none⟩ = _ := (World.cell?_of_block ((HX.out.block b1 (by omega)).trans (HM.out.1.2 b1 hb1lt (by rw [hcur1]; simp)))).trans hcy1
        have hR := HM.out.2 i y1 hy1
        rw [if_pos hlt] at hR
        have hR' := hR
        obtain ⟨av, nv, cv, rfl, hcv, -⟩ := hR'
        have hs := fun wx => slice_to wx av nv cv cv (Nat.le_refl _)
        have hlt' : (i : Int) < (N : Int) := by omega
        have HCV := Lib.hid hcv
        have HR := Lib.hid hR
        clear hcy1 hcur1 rl hcv hy1 hR
        go_wp2
        go_quiet (fail)
        go_wp2
        clear hs hc1 hlt' c0 c1 c2 f0
        go_loopw [10] (fun x wx => ∃ j : Nat, j ≤ cv ∧ x = .int .i64 j ∧ Below wc.heap.size wc wx) (fun x _ => cv - (intOf x).toNat)
        case atStart => exact ⟨0, by omega, rfl, below_drewN HX.out nq⟩
        case round =>
          obtain ⟨j, hj, rfl, hb2⟩ := hrel
          have HX2 := Lib.hid hb2
          have zw2 := hb2.size
          have hRW := HR.out.kept (fun g _ hg => hb2.block g hg)
          clear hb2
          by_cases hjc : j < cv
          · obtain ⟨g, x, y, rfl, hcx, hcy, -, hxx, -⟩ := hRW.at hjc
            obtain ⟨rfl, rfl⟩ := hxx (by have := HCV.out; omega)
            have hw : IntKind.i64.wrap ((j : Int) + 1) = (j : Int) + 1 := by have := HCV.out; simp [IntKind.wrap, IntKind.bits, IntKind.signed]; omega
            have hjc' : (j : Int) < (cv : Int) := by omega
            clear hRW
            go_wp2
            go_region_held3 (fun w => w.cell? ⟨g, j * 2, none⟩ = some (.int .i64 (mkK i)) ∧ w.cell? ⟨g, j * 2 + 1, none⟩ = some (.bool false)) (first | exact ⟨hcx, hcy⟩ | exact ⟨keepg hbm hcx, keepg hbm hcy⟩) (first | (go_at_call 27; refine (markkind_any wr.drew i j (by omega)).mono ?_; rintro e w' ⟨rfl, hbm⟩))
            have HX3 := Lib.hid (HX2.out.trans ((show Below wr.heap.size wr w' from (Below.refl _ _).drew.trans hbm).mono (by omega)))
            have hj63 : (j : Int) + 1 < 9223372036854775808 := by have := HCV.out; omega
            clear hbm
            go_wp2
            go_roundw
            case rel => exact ⟨j + 1, by omega, by go_num, HX3.out⟩
            case measure => simp [intOf]; omega
          · obtain rfl : j = cv := by omega
            clear hRW
            go_wp2
            go_roundw
            case rel => exact ⟨i + 1, by omega, by go_num, HX2.out⟩
            case measure => simp [intOf]; omega
      · clear rl
        have hb4 := ((HBR.out.setCell (p := ⟨gb, 0, none⟩) hB (.slice none 0 0)).setCell (p := ⟨gb, 1, none⟩) hB (.slice none 0 0)).setCell (p := ⟨gb, 2, none⟩) hB (.int .i64 0)
        have HB4 := Lib.hid hb4
        clear hb4
        go_wp2
        go_ret
        exact ⟨rfl, HB4.out⟩
end Go.Proofs.YtakaoacialnjaaaDoor
namespace Go.Proofs.YtakaoacialnjaaaDoor
open Go Go.RowKit
set_option linter.unusedVariables false
set_option linter.unusedSimpArgs false
open Go.ChangeShapes Go.WideShapes
theorem c58 : Tryd.prog.cellsOf 58 = 2 := by kernel_rfl
theorem c24 : Tryd.prog.cellsOf 24 = 1 := by kernel_rfl
theorem c25 : Tryd.prog.cellsOf 25 = 1 := by kernel_rfl
theorem by58 : Tryd.prog.bytesOf 58 = 48 := by kernel_rfl
/-- One call that is asked for. -/
structure Ak where
  na : Option Addr
  nl : Nat
  nc : Nat
  ns : List Nd
  sa : Option Addr
  sl : Nat
  sc : Nat
  nm : List Nm
def Ak.cs (k : Ak) : List Value := [.slice k.na k.nl k.nc, .slice k.sa k.sl k.sc]
theorem Ak_len (k : Ak) : k.cs.length = 2 := rfl
structure AkOk (W : World) (k : Ak) : Prop where
  n : RS 7 Nd.cs W k.na k.nl k.nc k.ns
  ok : ∀ nd ∈ k.ns, nd.okS W
  s : RS 3 Nm.cs W k.sa k.sl k.sc k.nm
  s0 : k.sa = none → k.sc = 0
theorem AkOk.below {w w' : World} {k : Ak} (h : AkOk w k) (hb : Below w.heap.size w w') : AkOk w' k := ⟨h.n.below hb, fun nd hnd => okS_below (h.ok nd hnd) hb, h.s.below hb, h.s0⟩
section
variable {H : Type} {enc : TypeId × Value → H} {W : World} {fuel : Nat}
theorem scope_nil' {cs : List Value} {x : DataW H × List MemPlace} (h : DataW.trod enc Tryd.prog W 0 (fun _ => true) true fuel 25 cs = some x) {a : Option Addr} {n c : Nat} (hc : cs = [.slice a n c]) : a = none → c = 0 := by
  intro ha
  subst ha
  subst hc
  rcases Go.Deep.open_slice Tryd.underlying25 h with ⟨hc, _⟩ | ⟨x, len, cap, m, k, D, Pl, hc, _⟩
  · simp at hc; exact hc.2
  · simp at hc
theorem open_ask {cs : List Value} {x : DataW H × List MemPlace} (h : DataW.trod enc Tryd.prog W 0 (fun _ => true) true fuel 58 cs = some x) (hw : ∀ n ∈ x.1.weights Tryd.prog 58, n ≤ reachBytes) : ∃ k : Ak, cs = k.cs ∧ AkOk W k := by
  obtain ⟨ys, n', -, rfl, hl, hyl, hf⟩ := DataW.trod_struct Tryd.underlying58 h
  rw [c58] at hl
  obtain ⟨v0, v1, rfl⟩ := l2 hl
  obtain ⟨y0, y1, rfl⟩ := l2 hyl
  have f0 : DataW.trod enc Tryd.prog W 0 (fun _ => true) true n' 24 (([v0, v1].drop 0).take (Tryd.prog.cellsOf 24)) = some y0 := hf 0 _ rfl
  have f1 : DataW.trod enc Tryd.prog W 0 (fun _ => true) true n' 25 (([v0, v1].drop 1).take (Tryd.prog.cellsOf 25)) = some y1 := hf 1 _ rfl
  simp only [c24, c25, List.drop_zero, List.drop_succ_cons, List.take_succ_cons, List.take_zero, List.take_nil] at f0 f1
  simp only [List.map_cons, List.map_nil, DataW.weights, Tryd.underlying58, DataW.weightsEach, List.mem_append, List.append_nil] at hw
  obtain ⟨na, nl, nc, ns, h0, h1, h2⟩ := open_nodes f0 (fun n hn => hw n (Or.inl hn))
  obtain ⟨sa, sl, sc, nm, h3, h4⟩ := open_scope f1 (fun n hn => hw n (Or.inr hn))
  have h5 := scope_nil' f1 h3
  simp only [List.cons.injEq, and_true] at h0 h3
  subst h0 h3
  exact ⟨⟨na, nl, nc, ns, sa, sl, sc, nm⟩, rfl, h1, h2, h4, h5⟩
theorem open_asks {cs : List Value} {x : DataW H × List MemPlace} (h : DataW.trod enc Tryd.prog W 0 (fun _ => true) true fuel 52 cs = some x) (hw : ∀ n ∈ x.1.weights Tryd.prog 52, n ≤ reachBytes) :
    ∃ a n c ks, cs = [.slice a n c] ∧ RS 2 Ak.cs W a n c ks ∧ ∀ k ∈ ks, AkOk W k := by
  rcases Go.Deep.open_slice Tryd.underlying52 h with ⟨rfl, _⟩ | ⟨a, len, cap, m, n, D, Pl, rfl, hb, hl, hm, hmm, rfl, hx⟩
  · exact ⟨none, 0, 0, [], rfl, ⟨rfl, Nat.le_refl _, by omega, fun i x h => by simp at h⟩, fun nd h => by simp at h⟩
  · simp only [if_true] at hmm
    have hmm' := hmm.symm
    subst hmm'
    rw [c58] at hx
    have hw0 := hw _ (by simp only [DataW.weights, Tryd.underlying52]; exact List.mem_cons_self)
    simp only [List.length_map, List.length_range, by58, reachBytes] at hw0
    have each : ∀ i, i < len → ∃ k : Ak, (∀ j v, k.cs[j]? = some v → W.cell? (a.add (i * 2 + j)) = some v) ∧ AkOk W k := by
      intro i hi
      obtain ⟨cs', h1, h2⟩ := hx i (by omega)
      obtain ⟨nd, rfl, hok⟩ := open_ask h2 (fun q hq => hw q (by
        simp only [DataW.weights, Tryd.underlying52, List.mem_cons, List.mem_append]
        exact Or.inr (Or.inl (weightsAll_mem (List.mem_map.2 ⟨i, List.mem_range.2 hi, rfl⟩) _ hq))))
      obtain ⟨_, h3, h4⟩ := World.cells?_some h1
      refine ⟨nd, fun j v hv => ?_, hok⟩
      have hj : j < 2 := by have := (List.getElem?_eq_some_iff.1 hv).1; rwa [h3] at this
      rw [← Go.Deep.add_add, h4 j hj, hv]
    haveI : Inhabited Ak := ⟨⟨none, 0, 0, [], none, 0, 0, []⟩⟩
    obtain ⟨f, hf⟩ := Go.Deep.choose_lt each
    refine ⟨some a, len, cap, (List.range len).map f, rfl, ⟨by simp, hl, by omega, fun i nd hi => ?_⟩, fun nd hnd => ?_⟩
    · have hil : i < len := by have := (List.getElem?_eq_some_iff.1 hi).1; simpa using this
      obtain rfl : f i = nd := by simpa [hil] using hi
      obtain ⟨b, off, rfl⟩ := spot_row (W := W) (n := 1) (fun j hj => ⟨_, by have := (hf 0 (by omega)).1 0 _ rfl; simpa [show j = 0 by omega] using this⟩) (by omega)
      refine ⟨b, off, rfl, fun j v hv => ?_⟩
      have := (hf i hil).1 j v hv
      rwa [Addr.add_lit, ← Nat.add_assoc] at this
    · obtain ⟨i, hi, rfl⟩ := List.mem_map.1 hnd
      exact (hf i (List.mem_range.1 hi)).2
end
end Go.Proofs.YtakaoacialnjaaaDoor
