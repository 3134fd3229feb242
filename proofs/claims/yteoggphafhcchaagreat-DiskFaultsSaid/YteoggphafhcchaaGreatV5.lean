import Derived.Test.YteoggphafhcchaaGreatV2
import Derived.Test.YteoggphafhcchaaGreatV4
namespace Go.Proofs.YteoggphafhcchaaGreat
open Go Go.RowKit Go.Shelf Go.Lib Go.Sort
set_option maxRecDepth 100000
set_option maxHeartbeats 1000000
set_option linter.unusedVariables false
set_option linter.unusedSimpArgs false
open Go.Maps Go.WideMaps
theorem setCell_self {w : World} {b o : Nat} {cs : Array Value} {t : TypeId} (h : w.heap[b]? = some (.cells cs t (0, 0))) {v : Value} (hv : cs[o]? = some v) : w.setCell ⟨b, o, none⟩ v = w := by
  have e : (w.setCell ⟨b, o, none⟩ v).heap = w.heap := by
    apply Array.ext_getElem?
    intro i
    by_cases hi : i = b
    · subst hi
      rw [heap_setCell_same w i o cs t v h, h]
      congr 2
      apply Array.ext_getElem?
      intro j
      rw [Array.getElem?_setIfInBounds]
      split
      · rename_i e1
        subst e1
        split
        · exact hv.symm
        · rename_i h2
          rw [Array.getElem?_eq_none (by omega)] at hv; cases hv
      · rfl
    · exact heap_setCell_other w ⟨b, o, none⟩ i v hi
  exact (show w.setCell ⟨b, o, none⟩ v = { w with heap := (w.setCell ⟨b, o, none⟩ v).heap } from rfl).trans (by rw [e])
theorem row_block {w : World} {B N : Nat} {v : Value} {L : List (List UInt8)} (h : w.ownsRow B 9 1 v N (L.map encStr)) (h0 : 0 < N) : ∃ rb cap cs, v = .slice (some ⟨rb, 0, none⟩) N cap ∧ B ≤ rb ∧ w.heap[rb]? = some (.cells cs 9 (0, 0)) ∧ L.length = N ∧ ∀ (k : Nat) (l : List UInt8), L[k]? = some l → cs[k]? = some (.string (bs l)) := by
  have hlen := h.1
  rcases h.2 with ⟨-, e⟩ | ⟨rb, cap, cs, rfl, hb, hg, h1, h2, h3, h4⟩
  · omega
  · refine ⟨rb, cap, cs, rfl, hb, hg, by simpa using hlen, fun k l hk => ?_⟩
    have e1 : (cs.toList.take (N * 1))[k]? = some (.string (bs l)) := by
      rw [h4, List.getElem?_map, hk]; rfl
    rw [List.getElem?_take] at e1
    split at e1
    · simpa using e1
    · cases e1
theorem str_facts {w : World} {b n : Nat} {D : DataW Unit} {R : Value → Option (DataW Unit × List MemPlace)} (h : w.ownsMap Tryz.prog 9 R b n D) :
    (strKeys D).length = Maps.size D ∧ (strKeys D).Nodup ∧ (∀ x, x ∈ strKeys D ↔ has D (.string x) = true) ∧ ∀ x ∈ strKeys D, x.length ≤ maxLen := by
  have hle := strKeys_le h Tryz.underlying9
  obtain ⟨es, he, hp, -⟩ := h.entries law9
  obtain ⟨es', he', hk⟩ := h.keysOf
  rw [he] at he'
  obtain rfl : es = es' := by injection he'
  have hs : ∀ p ∈ es, ∃ x, p.1 = .string x := fun p hp => by
    obtain ⟨v, hv⟩ := hk p hp
    obtain ⟨x, -, e, -⟩ := Maps.keyOf_str Tryz.underlying9 hv
    exact ⟨x, e⟩
  subst he
  refine ⟨by simp [strKeys, Maps.size], ?_, fun x => ?_, hle⟩
  · show (es.map fun p => strOf p.1).Nodup
    rw [List.nodup_iff_pairwise_ne, List.pairwise_map]
    refine hp.imp_of_mem fun {p q} h1 h2 hne e => hne ?_
    obtain ⟨x, hx⟩ := hs p h1
    obtain ⟨y, hy⟩ := hs q h2
    rw [hx, hy] at e ⊢
    have : x = y := e
    rw [this]
  · constructor
    · intro hx
      obtain ⟨p, hp1, rfl⟩ := List.mem_map.1 hx
      obtain ⟨y, hy⟩ := hs p hp1
      refine List.any_eq_true.2 ⟨p, hp1, ?_⟩
      rw [hy]
      exact WideAt.sameKey_self trivial
    · intro hx
      obtain ⟨p, hp1, hk1⟩ := List.any_eq_true.1 hx
      have e := WideAt.sameKey_eq hk1
      exact List.mem_map.2 ⟨p, hp1, by rw [e]; rfl⟩
theorem vals_ids {w : World} {fa : Nat → Nat} {b : Nat} {m : List (Nm × Nat)} {D : DataW Unit} (hm : w.ownsMap Tryz.prog 9 ptrR b m.length D) (hz : size D = m.length) (hl : ∀ s : Nm, D.atKey (.string s) .nil = (match lk m s with | none => .nil | some i => .lit (.int .i64 (fa i : Nat))) ∧ has D (.string s) = (lk m s).isSome) (hn : (keysOf m).Nodup)
    {xs : List (Option Nat)} (hx : ValsOf D xs) : ∃ is : List Nat, is.Perm (m.map (·.2)) ∧ xs = is.map (fun i => some (fa i)) := by
  obtain ⟨ps, hp, hv, rfl⟩ := hx
  obtain ⟨-, hnd, hmem, -⟩ := str_facts hm
  have hpm : (ps.map (·.1)).Perm (keysOf m) := hp.trans ((List.perm_ext_iff_of_nodup hnd hn).2 fun x => by rw [hmem, (hl x).2, lk_some])
  have hlk : ∀ p ∈ ps, ∃ i, lk m p.1 = some i ∧ p.2 = some (fa i) := fun p h => by
    have hk : p.1 ∈ keysOf m := hpm.mem_iff.1 (List.mem_map.2 ⟨p, h, rfl⟩)
    obtain ⟨i, hi⟩ := Option.isSome_iff_exists.1 (lk_some.2 hk)
    refine ⟨i, hi, ?_⟩
    have h1 := hv p h .nil
    rw [(hl p.1).1, hi] at h1
    cases e : p.2 with
    | none => rw [e] at h1; simp [valD] at h1
    | some g => rw [e] at h1; simp [valD] at h1; rw [show fa i = g by omega]
  refine ⟨ps.map (fun p => (lk m p.1).getD 0), ?_, ?_⟩
  · have h2 : (ps.map (·.1)).map (fun s => (lk m s).getD 0) = ps.map (fun p => (lk m p.1).getD 0) := by rw [List.map_map]; rfl
    rw [← h2]
    have h3 := hpm.map (fun s => (lk m s).getD 0)
    refine h3.trans ?_
    have h4 : (keysOf m).map (fun s => (lk m s).getD 0) = m.map (·.2) := by
      unfold keysOf
      rw [List.map_map]
      exact List.map_congr_left fun p hp => by
        have := lk_of_mem hn (s := p.1) (i := p.2) hp
        simp [this]
    rw [h4]
  · rw [List.map_map]
    refine List.map_congr_left fun p hp => ?_
    obtain ⟨i, h1, h2⟩ := hlk p hp
    rw [h2]; simp [h1]
theorem sl74 : Sl Tryz.prog 74 76 (.pointer none) 1 8 := ⟨Tryz.underlying74, by kernel_rfl, rfl, by decide⟩
theorem new_ptr (w : World) (v : Value) {k : Nat} (hk : w.heap.size = k) (j : Nat) (u : Value) (h : [v][j]? = some u) : (w.alloc (.cells #[v] 76)).cell? ((⟨k, 0, none⟩ : Addr).add j) = some u := by
  subst hk
  rw [Addr.add_lit, cell_of_row _ _ _ _ _ _ (heap_alloc_new w _), Nat.zero_add]
  simpa using h
def ptrs (fa : Nat → Nat) (is : List Nat) : List Value := is.map fun i => .pointer (some ⟨fa i, 0, none⟩)
/-- The cells of a disk's change. -/
theorem ch_at {w : World} {L : Lay} {gd : Nat} {d : Dm} (h : DAt w L gd d) {k : Nat} {c : Chg} (hc : d.changes[k]? = some c) : ∃ g cc, L.ch = .slice (some ⟨g, 0, none⟩) d.changes.length cc ∧ w.cell? ⟨g, k * 3, none⟩ = some (.string (bs c.src)) ∧ w.cell? ⟨g, k * 3 + 1, none⟩ = some (.string (bs c.dst)) ∧ w.cell? ⟨g, k * 3 + 2, none⟩ = some (madeV L.fa c.made) := by
  have hk := (List.getElem?_eq_some_iff.1 hc).1
  obtain ⟨a, cc, hv, hg⟩ := owns_shape h.ch.1
  obtain ⟨g, rfl, -, -⟩ := hg (by omega)
  have ho := h.ch.1
  rw [hv] at ho
  exact ⟨g, cc, hv, own_at (enc := chV L.fa) (s := 3) (fun _ => rfl) ho hc 0 _ rfl, own_at (enc := chV L.fa) (s := 3) (fun _ => rfl) ho hc 1 _ rfl, own_at (enc := chV L.fa) (s := 3) (fun _ => rfl) ho hc 2 _ rfl⟩
theorem msort_perm {l l' : List Nat} (h : l.Perm l') : l.mergeSort (fun x y => decide (x ≤ y)) = l'.mergeSort (fun x y => decide (x ≤ y)) := by
  have tr : ∀ a b c : Nat, decide (a ≤ b) = true → decide (b ≤ c) = true → decide (a ≤ c) = true := fun a b c h1 h2 => by simp only [decide_eq_true_eq] at *; omega
  have tot : ∀ a b : Nat, (decide (a ≤ b) || decide (b ≤ a)) = true := fun a b => by simp only [Bool.or_eq_true, decide_eq_true_eq]; omega
  refine List.Perm.eq_of_pairwise (le := fun a b => decide (a ≤ b) = true) (fun a b _ _ h1 h2 => ?_) (List.pairwise_mergeSort tr tot l) (List.pairwise_mergeSort tr tot l') (((List.mergeSort_perm l _).trans h).trans (List.mergeSort_perm l' _).symm)
  simp only [decide_eq_true_eq] at h1 h2
  omega
def madeOf (l : List Chg) : List Nat := l.filterMap (·.made)
theorem reach_any (w : World) (L : Lay) (gd : Nat) (d : Dm) (h : DAt w L gd d) (hp : Pre d) :
    Calls Tryz.prog 28 #[.pointer (some ⟨gd, 0, none⟩)] w fun e w' => (∃ a c, e = .returned (.slice a d.reach.length c) ∧ w'.ownsRow w.heap.size 76 1 (.slice a d.reach.length c) d.reach.length (ptrs L.fa d.reach)) ∧ Below w.heap.size w w' := by
  obtain ⟨D, hm, -, hz, hl⟩ := h.sf
  have c7 := h.cells.2.2.2.2.2.2.2.1
  have c8 := h.cells.2.2.2.2.2.2.2.2.1
  obtain ⟨chA, chC, hch, -⟩ := owns_shape h.ch.1
  obtain ⟨cn, hcn⟩ : ∃ cn, cn = d.changes.length := ⟨_, rfl⟩
  rw [← hcn] at hch
  rw [hch] at c8
  have HCH := Lib.hid hch
  have HCN := Lib.hid hcn
  have HD := Lib.hid h
  have HP := Lib.hid hp
  have HM := Lib.hid hm
  have HZL := Lib.hid (And.intro hz hl)
  have hgl := h.lt
  have hcb : cn < 1099511627776 := by rw [hcn]; exact hp.chl
  clear h hp hm hz hl hch hcn
  go_enter Tryz.func28, Tryz.ntmps28
  go_wp2_with (first
    | (go_at_call 57; refine ((callsIn_wide (n := 5)).1 (values_any _ _)).mono ?_; rintro e w1 ⟨rfl, ew1⟩
       have hb1 : Below w.heap.size w w1 := by rw [ew1]; exact bel1 _ _
       have hc1 : w1.cell? ⟨w.heap.size, 0, none⟩ = some (.map (some L.sb)) := by rw [ew1, cell_of_row _ _ _ _ _ _ (heap_alloc_new w _)]; rfl
       have hz1 : w.heap.size < w1.heap.size := by rw [ew1]; simp
       have HCO := Lib.hid (collect_any w1 w.heap.size L.sb d.safe.length D hz1 hc1 (HM.out.kept (gwk hb1) (by simp)) (by rw [HZL.out.1]; have := HP.out.fewS; omega))
       have HB1 := Lib.hid hb1
       clear ew1 hc1 hb1)
    | (go_at_call 56; refine ((callsIn_wide (n := 4)).1 HCO.out).mono ?_; rintro e w2 ⟨v, xs, rfl, hx, hrow, hb2⟩
       obtain ⟨a2, n2, rfl, -⟩ := owns_shape hrow
       have hb2' := HB1.out.trans (hb2.mono HB1.out.size)
       have c8 := (hb2'.cell (p := ⟨gd, 8, none⟩) hgl).trans c8
       have HX := Lib.hid hx
       have HROW := Lib.hid (owns_mono hrow HB1.out.size)
       have HB2 := Lib.hid hb2'
       clear hx hrow hb2 hb2' HCO))
  obtain ⟨is, hperm, hxs⟩ := vals_ids HM.out HZL.out.1 HZL.out.2 HP.out.ns HX.out
  have hxl : xs.length = is.length := by rw [hxs]; simp
  have hisl : is.length ≤ 4096 := by have h1 := hperm.length_eq; rw [List.length_map] at h1; have := HP.out.fewS; omega
  have hrow0 : w2.ownsRow w.heap.size 76 1 (.slice a2 is.length n2) is.length (ptrs L.fa is) := by
    have h1 := HROW.out
    rw [hxl, hxs, List.map_map] at h1
    exact h1
  have hlt : ∀ i ∈ is, i < d.fs.length := fun i hi => by
    have h1 := hperm.mem_iff.1 hi
    obtain ⟨p, hp, rfl⟩ := List.mem_map.1 h1
    exact HP.out.refs.sf p.1 p.2 (lk_of_mem HP.out.ns hp)
  rw [hxl]
  have HPERM := Lib.hid hperm
  have HROW0 := Lib.hid hrow0
  have HLT := Lib.hid hlt
  have hmade : ∀ k, k ≤ cn → (madeOf (d.changes.take k)).length ≤ k := fun k hk => by
    have h1 := List.length_filterMap_le (·.made) (d.changes.take k)
    rw [List.length_take] at h1
    unfold madeOf; omega
  have HMD := Lib.hid hmade
  clear hperm hxs hxl hrow0 hlt HROW HX HM HZL c7 hmade
  go_loopw [3, 17] (fun v i wr => ∃ (k n : Nat) (va : Option Addr) (vc : Nat), k ≤ cn ∧ i = .int .i64 k ∧ n = (is ++ madeOf (d.changes.take k)).length ∧ v = .slice va n vc ∧ wr.ownsRow w.heap.size 76 1 (.slice va n vc) n (ptrs L.fa (is ++ madeOf (d.changes.take k))) ∧ Below w.heap.size w wr) (fun _ i _ => cn - (intOf i).toNat)
  case atStart => exact ⟨0, is.length, a2, n2, Nat.zero_le _, rfl, by simp [madeOf], rfl, by simpa [madeOf] using HROW0.out, HB2.out⟩
  case round =>
    obtain ⟨k, n, va, vc, hk, rfl, hn, rfl, ho, hb⟩ := hrel
    have HO := Lib.hid ho
    have HB := Lib.hid hb
    have HN := Lib.hid hn
    have hn0 : n ≤ 4096 + k := by rw [hn, List.length_append]; have := HMD.out k hk; omega
    clear ho hb hn
    by_cases hkl : k < cn
    · obtain ⟨c, hc⟩ : ∃ c, d.changes[k]? = some c := ⟨_, List.getElem?_eq_getElem (by rw [← HCN.out]; exact hkl)⟩
      have hdr := HD.out.below (HB.out)
      obtain ⟨g, cc, hv, d0, d1, d2⟩ := ch_at hdr hc
      rw [HCH.out, ← HCN.out] at hv
      obtain rfl : chA = some ⟨g, 0, none⟩ := by injection hv
      have htk : (d.changes.take (k + 1)) = d.changes.take k ++ [c] := by rw [List.take_add_one, hc]; rfl
      have HTK := Lib.hid htk
      have hcm : ∀ i, c.made = some i → i < d.fs.length := fun i hi => HP.out.refs.ch c (List.mem_of_getElem? hc) i hi
      have HDR := Lib.hid hdr
      clear hdr hv hc htk
      obtain ⟨mv, hmv⟩ : ∃ mv, madeV L.fa c.made = .pointer mv := by cases c.made <;> exact ⟨_, rfl⟩
      rw [hmv] at d2
      have HMV := Lib.hid hmv
      obtain ⟨wb, hwb⟩ : ∃ wb, wb = wr.alloc (boxC (bs c.src) (bs c.dst) (.pointer mv)) := ⟨_, rfl⟩
      have hbb : Below wr.heap.size wr wb := by rw [hwb]; exact bel1 _ _
      have gb : wb.heap[wr.heap.size]? = some (boxC (bs c.src) (bs c.dst) (.pointer mv)) := by rw [hwb]; exact heap_alloc_new wr _
      obtain ⟨-, -, b2⟩ := box3 gb
      have HBB := Lib.hid (HB.out.trans (hbb.mono HB.out.size))
      have HOB := Lib.hid (own_below HO.out hbb)
      clear hmv hbb gb
      go_upto_region 5 with (fail)
      rw [← hwb]
      clear hwb d0 d1 d2
      cases hmade : c.made with
      | none =>
        have hm0 : mv = none := by have h1 := HMV.out; rw [hmade] at h1; injection h1 with h1; exact h1.symm
        subst hm0
        have HMK := Lib.hid (show madeOf (d.changes.take (k + 1)) = madeOf (d.changes.take k) by rw [HTK.out]; unfold madeOf; rw [List.filterMap_append]; simp [hmade])
        clear hmade hcm
        go_wp2_with fail
        go_roundw
        case rel => exact ⟨k + 1, n, va, vc, by omega, by push_cast; rfl, by rw [HMK.out]; exact HN.out, rfl, by rw [HMK.out]; exact HOB.out, HBB.out⟩
        case measure => simp [intOf]; omega
      | some i =>
        have hm0 : mv = some ⟨L.fa i, 0, none⟩ := by have h1 := HMV.out; rw [hmade] at h1; injection h1 with h1; exact h1.symm
        subst hm0
        have HMK := Lib.hid (show madeOf (d.changes.take (k + 1)) = madeOf (d.changes.take k) ++ [i] by rw [HTK.out]; unfold madeOf; rw [List.filterMap_append]; simp [hmade])
        have hbx : Below wb.heap.size wb (wb.alloc (.cells #[.pointer (some ⟨L.fa i, 0, none⟩)] 76)) := bel1 _ _
        have HOX := Lib.hid (own_below HOB.out hbx)
        have HNX := Lib.hid (fun j u => new_ptr wb (.pointer (some ⟨L.fa i, 0, none⟩)) (k := wb.heap.size) rfl j u)
        have HBX := Lib.hid (HBB.out.trans (hbx.mono HBB.out.size))
        have HQ1 := Lib.hid (show (n + 1) * 8 ≤ 140737488355328 by omega)
        have HQ2 := Lib.hid (show n + 1 ≤ maxLen by unfold maxLen; omega)
        clear hmade hcm hbx
        go_wp2_with (at_builtin; refine L_appendN rfl (.tmp 24) (.tmp 27) 74 (by rfl) sl74 w.heap.size (.slice va n vc) n _ (by rfl) HOX.out ⟨wb.heap.size, 0, none⟩ 1 1 [.pointer (some ⟨L.fa i, 0, none⟩)] (by rfl) (by rfl) HNX.out (by simp [Value.oneCell']) HQ1.out HQ2.out (by have := HBX.out.size; exact this) (fun a4 c4 w4 ho4 hg4 hat4 => ?_); have HO4 := Lib.hid ho4; have HB4 := Lib.hid (HBX.out.grown hg4 HBX.out.size (fun k hk => (HOX.out.lt k hk).1)); clear ho4 hg4 hat4)
        go_roundw
        case rel => exact ⟨k + 1, n + 1, a4, c4, by omega, by push_cast; rfl, by rw [HMK.out, ← List.append_assoc, List.length_append, ← HN.out]; rfl, rfl, by rw [HMK.out, ← List.append_assoc]; unfold ptrs; rw [List.map_append]; exact HO4.out, HB4.out⟩
        case measure => simp [intOf]; omega
    · obtain rfl : k = cn := by omega
      have htk : d.changes.take k = d.changes := List.take_of_length_le (by rw [← HCN.out]; exact Nat.le_refl _)
      rw [htk] at HO HN
      have HRE := Lib.hid (show (is ++ madeOf d.changes).mergeSort (fun x y => decide (x ≤ y)) = d.reach by
        have hp1 : (is ++ madeOf d.changes).Perm (d.safe.map (·.2) ++ d.changes.filterMap (·.made)) := HPERM.out.append_right _
        exact msort_perm hp1)
      have hdr := HD.out.below HB.out
      have hnum : ∀ i, i < d.fs.length → wr.cell? ⟨L.fa i, 0, none⟩ = some (.int .i64 ((i : Int) + 1)) := fun i hi => by
        obtain ⟨f, hf⟩ : ∃ f, d.fs[i]? = some f := ⟨_, List.getElem?_eq_getElem hi⟩
        obtain ⟨_, _, _, hfa⟩ := hdr.fs i f hf
        exact hfa.cells.1
      have hB : ∀ i, i < d.fs.length → L.fa i < w.heap.size := fun i hi => by
        obtain ⟨f, hf⟩ : ∃ f, d.fs[i]? = some f := ⟨_, List.getElem?_eq_getElem hi⟩
        obtain ⟨_, _, _, hfa⟩ := HD.out.fs i f hf
        exact hfa.lt
      have hids : ∀ i ∈ is ++ madeOf d.changes, i < d.fs.length := fun i hi => by
        rcases List.mem_append.1 hi with h1 | h1
        · exact HLT.out i h1
        · unfold madeOf at h1
          obtain ⟨c, h2, h3⟩ := List.mem_filterMap.1 h1
          exact HP.out.refs.ch c h2 i h3
      have HS := Lib.hid (sort_ids wr L.fa d.fs.length w.heap.size hnum (.slice va n vc) (is ++ madeOf d.changes) hids (by rw [← HN.out]; omega) (by rw [← HN.out]; exact HO.out) hB)
      have HBK := Lib.hid (show ∀ k ∈ (Value.slice va n vc).ownBlock, w.heap.size ≤ k from fun k hk => (HO.out.lt k hk).1)
      have HRL := Lib.hid (show n = d.reach.length by rw [← HRE.out, List.length_mergeSort]; exact HN.out)
      clear hids hdr hnum hB htk HD HP HLT HPERM
      go_wp2_with (go_at_call 58; refine HS.out.mono ?_; rintro e w4 ⟨rfl, ho4, hg4⟩
                   have HO4 := Lib.hid ho4
                   have HB4 := Lib.hid (HB.out.grown hg4 HB.out.size HBK.out)
                   clear ho4 hg4)
      go_ret
      refine ⟨⟨va, vc, by rw [← HRL.out]; rfl, ?_⟩, HB4.out⟩
      have h1 := HO4.out
      rw [HRE.out, ← HN.out, HRL.out] at h1
      exact h1
end Go.Proofs.YteoggphafhcchaaGreat
