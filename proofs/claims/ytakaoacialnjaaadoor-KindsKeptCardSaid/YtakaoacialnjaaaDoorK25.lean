import Derived.Test.YtakaoacialnjaaaDoorK24
namespace Go.Proofs.YtakaoacialnjaaaDoor
open Go Go.RowKit
set_option linter.unusedVariables false
set_option maxRecDepth 100000 in
set_option maxHeartbeats 4000000 in
theorem rr1 (w : World) (nm : ByteArray) (vk vn : Int) (vt : ByteArray) (sa : Option Addr) (sl sc : Nat) (ka : Option Addr) (kl kc : Nat) (hnm : nm.size ≤ maxLen) (hr : ResTab w 1) (h1 : 1 < w.heap.size) :
    Calls Tryd.prog 53 #[.agg (nodeV 1 nm vk vn vt sa sl sc ka kl kc)] w fun e w' => e = .returned (.bool (rightB 1 nm.data.toList vk vn vt.data.toList sl kl)) ∧ Below w.heap.size w w' := by
  have HR := Lib.hid hr
  have hk : kidsN 1 = 0 := rfl
  clear hr
  go_enter Tryd.func53, Tryd.ntmps53
  go_wp2_with (first | (go_at_call 61; refine (kidsof_any _ _).mono ?_; rintro e w' ⟨rfl, rfl⟩) | (go_at_call 62; refine (reflegal_any _ _ hnm (ResTab.below HR.out ((Below.refl _ _).alloc (Nat.le_refl _) _) h1 h1)).mono ?_; rintro e w' ⟨rfl, rfl⟩))
  all_goals go_ret
  all_goals refine ⟨ret_bool ?_, ?_⟩
  all_goals first
    | exact (Below.refl _ _).alloc (Nat.le_refl _) _
    | exact ((Below.refl _ _).alloc (Nat.le_refl _) _).alloc (by simp) _
    | (simp_all [rightB, namedB, valB, ByteArray.toList_eq]; done)
    | (simp_all [rightB, namedB, valB] <;> intros <;> omega)
    | (simp_all [rightB, namedB, valB, ByteArray.toList_eq] <;> intros <;> omega)
    | (simp_all [rightB, namedB, valB, ByteArray.toList_eq] <;> grind)
set_option maxRecDepth 100000 in
set_option maxHeartbeats 4000000 in
theorem rr2 (w : World) (nm : ByteArray) (vk vn : Int) (vt : ByteArray) (sa : Option Addr) (sl sc : Nat) (ka : Option Addr) (kl kc : Nat) (hnm : nm.size ≤ maxLen) (hr : ResTab w 1) (h1 : 1 < w.heap.size) :
    Calls Tryd.prog 53 #[.agg (nodeV 2 nm vk vn vt sa sl sc ka kl kc)] w fun e w' => e = .returned (.bool (rightB 2 nm.data.toList vk vn vt.data.toList sl kl)) ∧ Below w.heap.size w w' := by
  have HR := Lib.hid hr
  have hk : kidsN 2 = 0 := rfl
  clear hr
  go_enter Tryd.func53, Tryd.ntmps53
  go_wp2_with (first | (go_at_call 61; refine (kidsof_any _ _).mono ?_; rintro e w' ⟨rfl, rfl⟩) | (go_at_call 62; refine (reflegal_any _ _ hnm (ResTab.below HR.out ((Below.refl _ _).alloc (Nat.le_refl _) _) h1 h1)).mono ?_; rintro e w' ⟨rfl, rfl⟩))
  all_goals go_ret
  all_goals refine ⟨ret_bool ?_, ?_⟩
  all_goals first
    | exact (Below.refl _ _).alloc (Nat.le_refl _) _
    | exact ((Below.refl _ _).alloc (Nat.le_refl _) _).alloc (by simp) _
    | (simp_all [rightB, namedB, valB, ByteArray.toList_eq]; done)
    | (simp_all [rightB, namedB, valB] <;> intros <;> omega)
    | (simp_all [rightB, namedB, valB, ByteArray.toList_eq] <;> intros <;> omega)
    | (simp_all [rightB, namedB, valB, ByteArray.toList_eq] <;> grind)
set_option maxRecDepth 100000 in
set_option maxHeartbeats 4000000 in
theorem rr3 (w : World) (nm : ByteArray) (vk vn : Int) (vt : ByteArray) (sa : Option Addr) (sl sc : Nat) (ka : Option Addr) (kl kc : Nat) (hnm : nm.size ≤ maxLen) (hr : ResTab w 1) (h1 : 1 < w.heap.size) :
    Calls Tryd.prog 53 #[.agg (nodeV 3 nm vk vn vt sa sl sc ka kl kc)] w fun e w' => e = .returned (.bool (rightB 3 nm.data.toList vk vn vt.data.toList sl kl)) ∧ Below w.heap.size w w' := by
  have HR := Lib.hid hr
  have hk : kidsN 3 = 0 := rfl
  clear hr
  go_enter Tryd.func53, Tryd.ntmps53
  go_wp2_with (first | (go_at_call 61; refine (kidsof_any _ _).mono ?_; rintro e w' ⟨rfl, rfl⟩) | (go_at_call 62; refine (reflegal_any _ _ hnm (ResTab.below HR.out ((Below.refl _ _).alloc (Nat.le_refl _) _) h1 h1)).mono ?_; rintro e w' ⟨rfl, rfl⟩))
  all_goals go_ret
  all_goals refine ⟨ret_bool ?_, ?_⟩
  all_goals first
    | exact (Below.refl _ _).alloc (Nat.le_refl _) _
    | exact ((Below.refl _ _).alloc (Nat.le_refl _) _).alloc (by simp) _
    | (simp_all [rightB, namedB, valB, ByteArray.toList_eq]; done)
    | (simp_all [rightB, namedB, valB] <;> intros <;> omega)
    | (simp_all [rightB, namedB, valB, ByteArray.toList_eq] <;> intros <;> omega)
    | (simp_all [rightB, namedB, valB, ByteArray.toList_eq] <;> grind)
set_option maxRecDepth 100000 in
set_option maxHeartbeats 4000000 in
theorem rr5 (w : World) (nm : ByteArray) (vk vn : Int) (vt : ByteArray) (sa : Option Addr) (sl sc : Nat) (ka : Option Addr) (kl kc : Nat) (hnm : nm.size ≤ maxLen) (hr : ResTab w 1) (h1 : 1 < w.heap.size) :
    Calls Tryd.prog 53 #[.agg (nodeV 5 nm vk vn vt sa sl sc ka kl kc)] w fun e w' => e = .returned (.bool (rightB 5 nm.data.toList vk vn vt.data.toList sl kl)) ∧ Below w.heap.size w w' := by
  have HR := Lib.hid hr
  have hk : kidsN 5 = 0 := rfl
  clear hr
  go_enter Tryd.func53, Tryd.ntmps53
  go_wp2_with (first | (go_at_call 61; refine (kidsof_any _ _).mono ?_; rintro e w' ⟨rfl, rfl⟩) | (go_at_call 62; refine (reflegal_any _ _ hnm (ResTab.below HR.out ((Below.refl _ _).alloc (Nat.le_refl _) _) h1 h1)).mono ?_; rintro e w' ⟨rfl, rfl⟩))
  all_goals go_ret
  all_goals refine ⟨ret_bool ?_, ?_⟩
  all_goals first
    | exact (Below.refl _ _).alloc (Nat.le_refl _) _
    | exact ((Below.refl _ _).alloc (Nat.le_refl _) _).alloc (by simp) _
    | (simp_all [rightB, namedB, valB, ByteArray.toList_eq]; done)
    | (simp_all [rightB, namedB, valB] <;> intros <;> omega)
    | (simp_all [rightB, namedB, valB, ByteArray.toList_eq] <;> intros <;> omega)
    | (simp_all [rightB, namedB, valB, ByteArray.toList_eq] <;> grind)
set_option maxRecDepth 100000 in
set_option maxHeartbeats 4000000 in
theorem rr24 (w : World) (nm : ByteArray) (vk vn : Int) (vt : ByteArray) (sa : Option Addr) (sl sc : Nat) (ka : Option Addr) (kl kc : Nat) (hnm : nm.size ≤ maxLen) (hr : ResTab w 1) (h1 : 1 < w.heap.size) :
    Calls Tryd.prog 53 #[.agg (nodeV 24 nm vk vn vt sa sl sc ka kl kc)] w fun e w' => e = .returned (.bool (rightB 24 nm.data.toList vk vn vt.data.toList sl kl)) ∧ Below w.heap.size w w' := by
  have HR := Lib.hid hr
  have hk : kidsN 24 = 0 := rfl
  clear hr
  go_enter Tryd.func53, Tryd.ntmps53
  go_wp2_with (first | (go_at_call 61; refine (kidsof_any _ _).mono ?_; rintro e w' ⟨rfl, rfl⟩) | (go_at_call 62; refine (reflegal_any _ _ hnm (ResTab.below HR.out ((Below.refl _ _).alloc (Nat.le_refl _) _) h1 h1)).mono ?_; rintro e w' ⟨rfl, rfl⟩))
  all_goals go_ret
  all_goals refine ⟨ret_bool ?_, ?_⟩
  all_goals first
    | exact (Below.refl _ _).alloc (Nat.le_refl _) _
    | exact ((Below.refl _ _).alloc (Nat.le_refl _) _).alloc (by simp) _
    | (simp_all [rightB, namedB, valB, ByteArray.toList_eq]; done)
    | (simp_all [rightB, namedB, valB] <;> intros <;> omega)
    | (simp_all [rightB, namedB, valB, ByteArray.toList_eq] <;> intros <;> omega)
    | (simp_all [rightB, namedB, valB, ByteArray.toList_eq] <;> grind)
set_option maxRecDepth 100000 in
set_option maxHeartbeats 4000000 in
theorem rr25 (w : World) (nm : ByteArray) (vk vn : Int) (vt : ByteArray) (sa : Option Addr) (sl sc : Nat) (ka : Option Addr) (kl kc : Nat) (hnm : nm.size ≤ maxLen) (hr : ResTab w 1) (h1 : 1 < w.heap.size) :
    Calls Tryd.prog 53 #[.agg (nodeV 25 nm vk vn vt sa sl sc ka kl kc)] w fun e w' => e = .returned (.bool (rightB 25 nm.data.toList vk vn vt.data.toList sl kl)) ∧ Below w.heap.size w w' := by
  have HR := Lib.hid hr
  have hk : kidsN 25 = 0 := rfl
  clear hr
  go_enter Tryd.func53, Tryd.ntmps53
  go_wp2_with (first | (go_at_call 61; refine (kidsof_any _ _).mono ?_; rintro e w' ⟨rfl, rfl⟩) | (go_at_call 62; refine (reflegal_any _ _ hnm (ResTab.below HR.out ((Below.refl _ _).alloc (Nat.le_refl _) _) h1 h1)).mono ?_; rintro e w' ⟨rfl, rfl⟩))
  all_goals go_ret
  all_goals refine ⟨ret_bool ?_, ?_⟩
  all_goals first
    | exact (Below.refl _ _).alloc (Nat.le_refl _) _
    | exact ((Below.refl _ _).alloc (Nat.le_refl _) _).alloc (by simp) _
    | (simp_all [rightB, namedB, valB, ByteArray.toList_eq]; done)
    | (simp_all [rightB, namedB, valB] <;> intros <;> omega)
    | (simp_all [rightB, namedB, valB, ByteArray.toList_eq] <;> intros <;> omega)
    | (simp_all [rightB, namedB, valB, ByteArray.toList_eq] <;> grind)
set_option maxRecDepth 100000 in
set_option maxHeartbeats 4000000 in
theorem rr26 (w : World) (nm : ByteArray) (vk vn : Int) (vt : ByteArray) (sa : Option Addr) (sl sc : Nat) (ka : Option Addr) (kl kc : Nat) (hnm : nm.size ≤ maxLen) (hr : ResTab w 1) (h1 : 1 < w.heap.size) :
    Calls Tryd.prog 53 #[.agg (nodeV 26 nm vk vn vt sa sl sc ka kl kc)] w fun e w' => e = .returned (.bool (rightB 26 nm.data.toList vk vn vt.data.toList sl kl)) ∧ Below w.heap.size w w' := by
  have HR := Lib.hid hr
  have hk : kidsN 26 = 0 := rfl
  clear hr
  go_enter Tryd.func53, Tryd.ntmps53
  go_wp2_with (first | (go_at_call 61; refine (kidsof_any _ _).mono ?_; rintro e w' ⟨rfl, rfl⟩) | (go_at_call 62; refine (reflegal_any _ _ hnm (ResTab.below HR.out ((Below.refl _ _).alloc (Nat.le_refl _) _) h1 h1)).mono ?_; rintro e w' ⟨rfl, rfl⟩))
  all_goals go_ret
  all_goals refine ⟨ret_bool ?_, ?_⟩
  all_goals first
    | exact (Below.refl _ _).alloc (Nat.le_refl _) _
    | exact ((Below.refl _ _).alloc (Nat.le_refl _) _).alloc (by simp) _
    | (simp_all [rightB, namedB, valB, ByteArray.toList_eq]; done)
    | (simp_all [rightB, namedB, valB] <;> intros <;> omega)
    | (simp_all [rightB, namedB, valB, ByteArray.toList_eq] <;> intros <;> omega)
    | (simp_all [rightB, namedB, valB, ByteArray.toList_eq] <;> grind)
theorem kk_cases (op : Int) : kidsN op = -2 ∨ kidsN op = -1 ∨ 0 ≤ kidsN op := by
  simp only [kidsN]
  repeat' split
  all_goals omega
set_option maxRecDepth 100000 in
set_option maxHeartbeats 4000000 in
theorem rrrest (op : Int) (hop : op ≠ 1 ∧ op ≠ 2 ∧ op ≠ 3 ∧ op ≠ 5 ∧ op ≠ 24 ∧ op ≠ 25 ∧ op ≠ 26) (w : World) (nm : ByteArray) (vk vn : Int) (vt : ByteArray) (sa : Option Addr) (sl sc : Nat) (ka : Option Addr) (kl kc : Nat) (hnm : nm.size ≤ maxLen) (hr : ResTab w 1) (h1 : 1 < w.heap.size) :
    Calls Tryd.prog 53 #[.agg (nodeV op nm vk vn vt sa sl sc ka kl kc)] w fun e w' => e = .returned (.bool (rightB op nm.data.toList vk vn vt.data.toList sl kl)) ∧ Below w.heap.size w w' := by
  have HR := Lib.hid hr
  have HO := Lib.hid hop
  have hn : namedB op = false := by simp [namedB]; omega
  have hv : valB op vk vn vt.data.toList = (decide (vk = 0) && decide (vn = 0) && vt.data.toList.isEmpty) := by
    simp only [valB]; rw [if_neg (by omega), if_neg (by omega), if_neg (by omega)]
  obtain ⟨kk, hkk⟩ : ∃ k, kidsN op = k := ⟨_, rfl⟩
  have e : rightB op nm.data.toList vk vn vt.data.toList sl kl = (!decide (kk = -2) && (decide (kk = -1) || decide ((kl : Int) = kk)) && nm.data.toList.isEmpty && decide (sl = 0) && (decide (vk = 0) && decide (vn = 0) && vt.data.toList.isEmpty)) := by
    rw [rightB, hn, hv, hkk]; rfl
  have HE := Lib.hid e
  have f1 : (op == 1) = false := by simp; omega
  have f2 : (op == 2) = false := by simp; omega
  have f3 : (op == 3) = false := by simp; omega
  have f5 : (op == 5) = false := by simp; omega
  have f24 : (op == 24) = false := by simp; omega
  have f25 : (op == 25) = false := by simp; omega
  have f26 : (op == 26) = false := by simp; omega
  have hcc := kk_cases op
  rw [hkk] at hcc
  clear hop hr hn hv e
  rcases hcc with rfl | rfl | h0
  · go_enter Tryd.func53, Tryd.ntmps53
    go_wp2_with (first | (go_at_call 61; refine (kidsof_any _ _).mono ?_; rintro e w' ⟨rfl, rfl⟩) | (go_at_call 62; refine (reflegal_any _ _ hnm (ResTab.below HR.out ((Below.refl _ _).alloc (Nat.le_refl _) _) h1 h1)).mono ?_; rintro e w' ⟨rfl, rfl⟩))
    all_goals go_ret
    all_goals refine ⟨ret_bool ?_, ?_⟩
    all_goals first
      | exact (Below.refl _ _).alloc (Nat.le_refl _) _
      | exact ((Below.refl _ _).alloc (Nat.le_refl _) _).alloc (by simp) _
      | (rw [HE.out]; simp_all; done)
      | (rw [HE.out]; simp_all [ByteArray.toList_eq]; done)
      | (rw [HE.out]; simp_all <;> intros <;> omega)
      | (rw [HE.out]; simp_all [ByteArray.toList_eq] <;> intros <;> omega)
  · go_enter Tryd.func53, Tryd.ntmps53
    go_wp2_with (first | (go_at_call 61; refine (kidsof_any _ _).mono ?_; rintro e w' ⟨rfl, rfl⟩) | (go_at_call 62; refine (reflegal_any _ _ hnm (ResTab.below HR.out ((Below.refl _ _).alloc (Nat.le_refl _) _) h1 h1)).mono ?_; rintro e w' ⟨rfl, rfl⟩))
    all_goals go_ret
    all_goals refine ⟨ret_bool ?_, ?_⟩
    all_goals first
      | exact (Below.refl _ _).alloc (Nat.le_refl _) _
      | exact ((Below.refl _ _).alloc (Nat.le_refl _) _).alloc (by simp) _
      | (rw [HE.out]; simp_all; done)
      | (rw [HE.out]; simp_all [ByteArray.toList_eq]; done)
      | (rw [HE.out]; simp_all <;> intros <;> omega)
      | (rw [HE.out]; simp_all [ByteArray.toList_eq] <;> intros <;> omega)
  · have g1 : (kk == -2) = false := by simp; omega
    have g2 : ¬ kk = -2 := by omega
    have g3 : ¬ kk = -1 := by omega
    by_cases hl : (kl : Int) = kk
    · have l1 : ((kl : Int) != kk) = false := by simpa using hl
      have HL := Lib.hid hl
      clear hl
      go_enter Tryd.func53, Tryd.ntmps53
      go_wp2_with (first | (go_at_call 61; refine (kidsof_any _ _).mono ?_; rintro e w' ⟨rfl, rfl⟩) | (go_at_call 62; refine (reflegal_any _ _ hnm (ResTab.below HR.out ((Below.refl _ _).alloc (Nat.le_refl _) _) h1 h1)).mono ?_; rintro e w' ⟨rfl, rfl⟩))
      all_goals go_ret
      all_goals refine ⟨ret_bool ?_, ?_⟩
      all_goals first
        | exact (Below.refl _ _).alloc (Nat.le_refl _) _
        | exact ((Below.refl _ _).alloc (Nat.le_refl _) _).alloc (by simp) _
        | (rw [HE.out]; have hl := HL.out; simp_all [ByteArray.toList_eq]; done)
        | (rw [HE.out]; have hl := HL.out; simp_all <;> intros <;> omega)
        | (rw [HE.out]; have hl := HL.out; simp_all [ByteArray.toList_eq] <;> intros <;> omega)
    · have l1 : ((kl : Int) != kk) = true := by simpa using hl
      go_enter Tryd.func53, Tryd.ntmps53
      go_wp2_with (first | (go_at_call 61; refine (kidsof_any _ _).mono ?_; rintro e w' ⟨rfl, rfl⟩) | (go_at_call 62; refine (reflegal_any _ _ hnm (ResTab.below HR.out ((Below.refl _ _).alloc (Nat.le_refl _) _) h1 h1)).mono ?_; rintro e w' ⟨rfl, rfl⟩))
      all_goals go_ret
      all_goals exact ⟨ret_bool (by rw [HE.out]; simp [g2, g3, hl]), (Below.refl _ _).alloc (Nat.le_refl _) _⟩
theorem refright_any (op : Int) (w : World) (nm : ByteArray) (vk vn : Int) (vt : ByteArray) (sa : Option Addr) (sl sc : Nat) (ka : Option Addr) (kl kc : Nat) (hnm : nm.size ≤ maxLen) (hr : ResTab w 1) (h1 : 1 < w.heap.size) :
    Calls Tryd.prog 53 #[.agg (nodeV op nm vk vn vt sa sl sc ka kl kc)] w fun e w' => e = .returned (.bool (rightB op nm.data.toList vk vn vt.data.toList sl kl)) ∧ Below w.heap.size w w' := by
  by_cases h : op = 1 ∨ op = 2 ∨ op = 3 ∨ op = 5 ∨ op = 24 ∨ op = 25 ∨ op = 26
  · rcases h with rfl | rfl | rfl | rfl | rfl | rfl | rfl
    · exact rr1 w nm vk vn vt sa sl sc ka kl kc hnm hr h1
    · exact rr2 w nm vk vn vt sa sl sc ka kl kc hnm hr h1
    · exact rr3 w nm vk vn vt sa sl sc ka kl kc hnm hr h1
    · exact rr5 w nm vk vn vt sa sl sc ka kl kc hnm hr h1
    · exact rr24 w nm vk vn vt sa sl sc ka kl kc hnm hr h1
    · exact rr25 w nm vk vn vt sa sl sc ka kl kc hnm hr h1
    · exact rr26 w nm vk vn vt sa sl sc ka kl kc hnm hr h1
  · exact rrrest op (by omega) w nm vk vn vt sa sl sc ka kl kc hnm hr h1
end Go.Proofs.YtakaoacialnjaaaDoor
