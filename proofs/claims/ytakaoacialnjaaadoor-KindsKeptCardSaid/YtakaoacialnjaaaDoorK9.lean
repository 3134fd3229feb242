import Derived.Test.YtakaoacialnjaaaDoorK8
namespace Go.Proofs.YtakaoacialnjaaaDoor
open Go Go.RowKit
set_option linter.unusedVariables false
/-- A name with its kind. -/
structure Nm where
  nm : ByteArray
  b : Int
  o : Bool
def Nm.cs (n : Nm) : List Value := [.string n.nm, .int .i64 n.b, .bool n.o]
def isNm (l : List UInt8) (n : Nm) : Bool := n.nm.toList == l
/-- The kind that the scope tells of a name. -/
def namedK (sc : List Nm) (l : List UInt8) : (Int × Bool) × Bool := match sc.find? (isNm l) with
  | some n => ((n.b, n.o), decide (1 ≤ n.b) && decide (n.b ≤ 5))
  | none => ((0, false), false)
theorem findN_next (l : List Nm) (p : Nm → Bool) (k : Nat) (r : Nm) (hr : l[k]? = some r) (h : (l.take k).find? p = none) (hn : p r = false) : (l.take (k + 1)).find? p = none := by
  rw [List.take_add_one, hr, List.find?_append, h]; simp [hn]
theorem named_hit (l : List Nm) (n : List UInt8) (k : Nat) (r : Nm) (hr : l[k]? = some r) (h : (l.take k).find? (isNm n) = none) (hn : isNm n r = true) : namedK l n = ((r.b, r.o), decide (1 ≤ r.b) && decide (r.b ≤ 5)) := by
  have e : l = l.take k ++ r :: l.drop (k + 1) := by
    obtain ⟨h1, h2⟩ := List.getElem?_eq_some_iff.1 hr
    rw [← h2, ← List.drop_eq_getElem_cons h1, List.take_append_drop]
  unfold namedK
  rw [e, List.find?_append, h]; simp [hn]
theorem named_miss (l : List Nm) (n : List UInt8) (h : l.find? (isNm n) = none) : namedK l n = ((0, false), false) := by
  unfold namedK; rw [h]
set_option maxRecDepth 100000 in
set_option maxHeartbeats 2000000 in
theorem named_any (w : World) (g : Nat) (a : Option Addr) (n c : Nat) (sc : List Nm) (hr : RS 3 Nm.cs w a n c sc) (hg : w.cell? ⟨g, 0, none⟩ = some (.slice a n c)) (s : ByteArray) :
    Calls Tryd.prog 49 #[.pointer (some ⟨g, 0, none⟩), .string s] w fun e w' => KindOut e (namedK sc s.toList) ∧ Below w.heap.size w w' := by
  have hlen := hr.1
  have hn48 := hr.2.2.1
  have HR := Lib.hid hr
  have hgl := block_lt_of_cell hg
  simp only at hgl
  have bw : Below w.heap.size w (w.alloc (.cells #[.int .i64 0, .bool false] 30)) := (Below.refl _ _).alloc (Nat.le_refl _) _
  have z0 : (w.alloc (.cells #[.int .i64 0, .bool false] 30)).heap[w.heap.size]? = some (.cells #[.int .i64 0, .bool false] 30) := heap_alloc_new _ _
  have hs3 : w.heap.size < (w.alloc (.cells #[.int .i64 0, .bool false] 30)).heap.size := by simp
  clear hr
  go_enter Tryd.func49, Tryd.ntmps49
  go_wp2_with fail
  generalize w.alloc (.cells #[.int .i64 0, .bool false] 30) = w3 at *
  go_loopw [13] (fun i wr => ∃ k : Nat, k ≤ n ∧ i = .int .i64 k ∧ Below w3.heap.size w3 wr ∧ (sc.take k).find? (isNm s.toList) = none) (fun i _ => n - (intOf i).toNat)
  case atStart => exact ⟨0, by omega, rfl, Below.refl _ _, rfl⟩
  case round =>
    obtain ⟨k, hk, rfl, hb, hf⟩ := hrel
    have HF := Lib.hid hf
    have zr := hb.size
    have z1 := (hb.block w.heap.size hs3).trans z0
    have zc0 : wr.cell? ⟨w.heap.size, 0, none⟩ = some (.int .i64 0) := cell_of_row wr _ 0 _ _ _ z1
    have zc1 : wr.cell? ⟨w.heap.size, 1, none⟩ = some (.bool false) := cell_of_row wr _ 1 _ _ _ z1
    have zf0 : wr.frozen? ⟨w.heap.size, 0, none⟩ = false := frozen_of_row wr _ 0 _ _ z1
    have zf1 : wr.frozen? ⟨w.heap.size, 1, none⟩ = false := frozen_of_row wr _ 1 _ _ z1
    have zs : w.heap.size < wr.heap.size := by omega
    have HB := Lib.hid hb
    have HB0 := Lib.hid (bw.trans (hb.mono (by omega)))
    clear hf hb z1 z0 bw
    by_cases hlt : k < n
    · obtain ⟨b, off, r, rfl, hrk, hcl0⟩ := HR.out.at hlt
      have hcl := fun j v hv => (HB0.out.cell (p := ⟨b, off + k * 3 + j, none⟩) (block_lt_of_cell (hcl0 j v hv))).trans (hcl0 j v hv)
      have r0 := hcl 0 _ rfl
      have r1 := hcl 1 _ rfl
      have r2 := hcl 2 _ rfl
      simp only [Nat.add_zero] at r0
      have hltI : (k : Int) < (n : Int) := by omega
      obtain ⟨rn, rb, ro⟩ := r
      simp only at r0 r1 r2
      clear hcl hcl0
      have hmiss := fun h => Lib.hid (findN_next sc (isNm s.toList) k _ hrk HF.out h)
      have hhit := fun h => Lib.hid (named_hit sc s.toList k _ hrk HF.out h)
      simp only [isNm] at hmiss hhit
      have HRK := Lib.hid hrk
      clear hrk
      cases e1 : (rn.toList == s.toList) with
      | true =>
        have H := hhit e1
        clear hmiss hhit
        by_cases c1 : 1 ≤ rb
        · by_cases c2 : rb ≤ 5
          · have d2 : decide (rb ≤ 5) = true := by simpa using c2
            go_wp2
            go_region
            all_goals go_wp2
            all_goals exact bodyPost_ret (v := .tuple #[.agg #[.int .i64 rb, .bool ro], .bool true]) (by simp [results, Tryd.results49, go_sem, zc0, zc1, zs]) rfl ⟨by rw [H.out]; simp [KindOut, c1, c2], (((HB0.out.setCell (p := ⟨w.heap.size, 0, none⟩) (Nat.le_refl _) _).setCell (p := ⟨w.heap.size, 1, none⟩) (Nat.le_refl _) _).alloc (by simp; omega) _).drew⟩
          · have d2 : decide (rb ≤ 5) = false := by simpa using c2
            go_wp2
            go_region
            all_goals go_wp2
            all_goals exact bodyPost_ret (v := .tuple #[.agg #[.int .i64 rb, .bool ro], .bool false]) (by simp [results, Tryd.results49, go_sem, zc0, zc1, zs]) rfl ⟨by rw [H.out]; simp [KindOut, c1, c2], (((HB0.out.setCell (p := ⟨w.heap.size, 0, none⟩) (Nat.le_refl _) _).setCell (p := ⟨w.heap.size, 1, none⟩) (Nat.le_refl _) _).alloc (by simp; omega) _).drew⟩
        · have d1 : decide (1 ≤ rb) = false := by simpa using c1
          go_wp2
          go_region
          all_goals go_wp2
          all_goals exact bodyPost_ret (v := .tuple #[.agg #[.int .i64 rb, .bool ro], .bool false]) (by simp [results, Tryd.results49, go_sem, zc0, zc1, zs]) rfl ⟨by rw [H.out, d1]; rfl, (((HB0.out.setCell (p := ⟨w.heap.size, 0, none⟩) (Nat.le_refl _) _).setCell (p := ⟨w.heap.size, 1, none⟩) (Nat.le_refl _) _).alloc (by simp; omega) _).drew⟩
      | false =>
        have H := hmiss e1
        clear hmiss hhit
        go_wp2
        go_roundw
        case rel => exact ⟨k + 1, by omega, by go_num, HB.out.alloc (by omega) _, H.out⟩
        case measure => simp [intOf]; omega
    · have hltI : ¬ (k : Int) < (n : Int) := by omega
      have H := Lib.hid (named_miss sc s.toList (by have := HF.out; rwa [List.take_of_length_le (by omega)] at this))
      go_wp2
      exact bodyPost_ret (v := .tuple #[.agg #[.int .i64 0, .bool false], .bool false]) (by simp [results, Tryd.results49, go_sem, zc0, zc1]) rfl
        ⟨by rw [H.out]; rfl, (HB0.out.setCell (p := ⟨w.heap.size, 0, none⟩) (Nat.le_refl _) _).setCell (p := ⟨w.heap.size, 1, none⟩) (Nat.le_refl _) _⟩
end Go.Proofs.YtakaoacialnjaaaDoor
