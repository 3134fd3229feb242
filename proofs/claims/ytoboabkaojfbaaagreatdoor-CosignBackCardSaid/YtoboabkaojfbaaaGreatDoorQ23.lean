import Derived.Test.YtoboabkaojfbaaaGreatDoorQ21
import Derived.Test.YtoboabkaojfbaaaGreatDoorQ22
import Derived.Test.YtoboabkaojfbaaaGreatDoorQ13
namespace Go.Proofs.YtoboabkaojfbaaaGreatDoor
open Go Go.RowKit
set_option maxRecDepth 100000
set_option maxHeartbeats 8000000
set_option linter.unusedVariables false
set_option linter.unusedSimpArgs false
/-! head.rise. -/
def RU (l : List Sg) (m : Nat) : Prop := ∀ j s t, j + 1 < m → l[j]? = some s → l[j + 1]? = some t → cmpS s t < 0
theorem rise_all : ∀ l : List Sg, RU l l.length → riseP l = true
  | [], _ => rfl
  | [_], _ => rfl
  | a :: b :: r, h => by
    rw [riseP, Bool.and_eq_true, decide_eq_true_eq]
    exact ⟨h 0 a b (by simp) rfl rfl, rise_all (b :: r) (fun j s t hj h1 h2 => h (j + 1) s t (by simp only [List.length_cons] at hj ⊢; omega) (by simpa using h1) (by simpa using h2))⟩
theorem rise_not : ∀ (l : List Sg) (j : Nat) (s t : Sg), l[j]? = some s → l[j + 1]? = some t → ¬ cmpS s t < 0 → riseP l = false
  | [], j, s, t, h, _, _ => by simp at h
  | [_], j, s, t, _, h, _ => by simp at h
  | a :: b :: r, 0, s, t, h1, h2, h3 => by
    simp at h1 h2
    subst h1; subst h2
    rw [riseP, decide_eq_false h3]; rfl
  | a :: b :: r, j + 1, s, t, h1, h2, h3 => by
    rw [riseP, rise_not (b :: r) j s t (by simpa using h1) (by simpa using h2) h3, Bool.and_false]
theorem load_sg {w : World} {b o : Nat} {D : Array Value} (hc : w.rangeAt b o D.toList) (hs : D.size = 64) : (Instr.loadAt 63 (.pointer (some ⟨b, o, none⟩))).run Tryz.prog w = .ok (.agg D) w := by
  have := run_loadAt_mid (P := Tryz.prog) w b o 63 D.toList _ hc Tryz.underlying63 rfl (by rw [Array.length_toList, hs]; exact info63)
  rwa [Array.toArray_toList] at this
theorem sg_at {w : World} {a : Option Addr} {n c : Nat} {l : List Sg} (h : RS 64 sgE w a n c l) {i : Nat} {s : Sg} (hi : l[i]? = some s) : ∃ b off, a = some ⟨b, off, none⟩ ∧ b < w.heap.size ∧ w.rangeAt b (off + i * 64) (sgA s).toList := by
  obtain ⟨b, off, e, hc⟩ := h.2.2.2 i s hi
  have h0 : (sgE s)[0]? = some ((sgE s)[0]'(by rw [sgE_len]; omega)) := List.getElem?_eq_getElem _
  refine ⟨b, off, e, World.block_lt_of_cell? w _ (hc 0 _ h0), fun j v hj => ?_⟩
  have := hc j v (by simpa [sgA] using hj)
  exact this
theorem range_below {w w' : World} {b o : Nat} {L : List Value} (h : w.rangeAt b o L) (hb : Below w.heap.size w w') : w'.rangeAt b o L := fun j v hj => keepR hb (h j v hj)
theorem below_grow (w : World) (q : Nat) (os : Array Obj) : Below w.heap.size w (Go.Sort.grow (w.drewN q) os) :=
  ⟨rfl, rfl, rfl, by show w.heap.size ≤ (w.heap ++ os).size; rw [Array.size_append]; omega, fun k hk => by
    have := Go.Sort.heap_grow_old (w.drewN q) os (k := k) (show k < (w.drewN q).heap.size from hk)
    exact this⟩
theorem rise_any (w : World) (a : Option Addr) (n c : Nat) (l : List Sg) (h : RS 64 sgE w a n c l) (hn : n ≤ 1000000) :
    Calls Tryz.prog 169 #[.slice a n c] w fun e w' => e = .returned (.bool (riseP l)) ∧ Below w.heap.size w w' := by
  have HH := Lib.hid h; have HN := Lib.hid hn
  clear h hn
  go_enter Tryz.func169, Tryz.ntmps169
  go_wp2_with fail
  go_loopw [3] (fun v wr => ∃ k : Nat, v = .int .i64 ((k : Int) + 1) ∧ (k = 0 ∨ k + 1 ≤ n) ∧ RU l (k + 1) ∧ Below w.heap.size w wr) (fun v _ => n - (intOf v).toNat)
  case atStart => exact ⟨0, rfl, .inl rfl, fun j s t hj _ _ => by omega, Below.refl _ _⟩
  case round =>
    obtain ⟨k, rfl, hk, hru, hb⟩ := hrel
    have HRU := Lib.hid hru; have HB := Lib.hid hb; have HK := Lib.hid hk
    clear hru hk
    by_cases hlt : k + 1 < n
    · obtain ⟨x, hx⟩ : ∃ x, l[k]? = some x := ⟨_, List.getElem?_eq_getElem (by have := HH.out.1; omega)⟩
      obtain ⟨y, hy⟩ : ∃ y, l[k + 1]? = some y := ⟨_, List.getElem?_eq_getElem (by have := HH.out.1; omega)⟩
      obtain ⟨b, off, rfl, -, hr1⟩ := sg_at (HH.out.below hb) hx
      obtain ⟨b2, off2, e2, -, hr2⟩ := sg_at (HH.out.below hb) hy
      obtain ⟨rfl, rfl⟩ : b = b2 ∧ off = off2 := by have := Option.some.inj e2; simp only [Addr.mk.injEq] at this; exact ⟨this.1, this.2.1⟩
      obtain ⟨E, hE⟩ : ∃ E, E = sgA x := ⟨_, rfl⟩
      obtain ⟨F, hF⟩ : ∃ F, F = sgA y := ⟨_, rfl⟩
      have HES := Lib.hid (show E.size = 64 ∧ F.size = 64 by rw [hE, hF]; exact ⟨sgA_size _, sgA_size _⟩)
      rw [← hE] at hr1
      rw [← hF] at hr2
      have HBK := Lib.hid (fun w => show Calls Tryz.prog 181 #[.agg E, .agg F] w _ by rw [hE, hF]; exact byKey_any w x y)
      have HXY := Lib.hid (show l[k]? = some x ∧ l[k + 1]? = some y from ⟨hx, hy⟩)
      have hk6 : k ≤ 1000000 := by have := HN.out; omega
      have h9 : decide ((k : Int) + 1 < (n : Int)) = true := by rw [decide_eq_true_eq]; omega
      have hn1 : n ≤ 1000000 := HN.out
      have hw0 : IntKind.i64.wrap (k : Int) = (k : Int) := IntWalk.i64_in _ (by omega)
      have hkn : (k : Int) < (n : Int) := by omega
      have ht1 : ((k : Int) + 1).toNat = k + 1 := by omega
      have ht0 : (0 : Int) ≤ (k : Int) + 1 := by omega
      have hkn1 : (k : Int) + 1 < (n : Int) := by omega
      obtain ⟨q, hq⟩ : ∃ q, q = cmpS x y := ⟨_, rfl⟩
      rw [← hq] at HBK
      have HQ := Lib.hid hq
      clear hb hx hy e2 hE hF hq
      go_upto_region 4 with (fail)
      refine wp_region_held_drew (S := fun x => x.rangeAt b (off + k * 64) E.toList ∧ x.rangeAt b (off + (k + 1) * 64) F.toList) (by kernel_rfl) ⟨hr1, hr2⟩ (fun hHeld => ?_)
      apply wpT 0
      apply wpT 1
      apply wpT 2
      apply wpT 3
      apply wpL 4 (.agg E)
      · exact fun w hSw => exec_load rfl (load_sg hSw.1 HES.out.1)
      apply wpT 5
      apply wpT 6
      apply wpT 7
      apply wpL 8 (.agg F)
      · exact fun w hSw => exec_load rfl (load_sg hSw.2 HES.out.2)
      apply wpR 9
      intro K hK
      go_simp
      refine (HBK.out _).mono ?_
      rintro e w4 ⟨rfl, q1, os, rfl⟩
      have hbg : Below wr.heap.size wr (Go.Sort.grow (wr.drew.drewN q1) os) := by
        have h0 := below_grow wr.drew q1 os
        exact ⟨h0.os, h0.tape, h0.output, h0.size, h0.block⟩
      have HBG := Lib.hid (HB.out.trans (hbg.mono HB.out.size))
      apply bk hK
      · exact ⟨range_below hr1 hbg, range_below hr2 hbg⟩
      intro hHeld
      clear hK K hbg
      apply wpT 10
      refine wpAnyH_done (by kernel_rfl) ?_ _
      clear hr1 hr2 hw0 hkn ht1 ht0
      generalize Go.Sort.grow (wr.drew.drewN q1) os = w4 at *
      by_cases c1 : q < 0
      · have d1 : decide (0 ≤ q) = false := by rw [decide_eq_false_iff_not]; omega
        have HLT := Lib.hid hlt; have HC1 := Lib.hid c1
        go_wp2_with fail
        refine ⟨⟨k + 1, by push_cast; rfl, .inr (by have := HLT.out; omega), fun j s t hj h1 h2 => ?_, HBG.out⟩, ?_⟩
        · by_cases e : j + 1 < k + 1
          · exact HRU.out j s t e h1 h2
          · obtain rfl : j = k := by omega
            rw [HXY.out.1] at h1; rw [HXY.out.2] at h2
            cases h1; cases h2
            rw [← HQ.out]; exact HC1.out
        · have := HLT.out
          simp [intOf]; omega
      · have d1 : decide (0 ≤ q) = true := by rw [decide_eq_true_eq]; omega
        have HV := Lib.hid (show riseP l = false from rise_not l k x y HXY.out.1 HXY.out.2 (by rw [← HQ.out]; exact c1))
        go_wp2_with fail
        go_ret
        exact ⟨by rw [HV.out]; rfl, HBG.out⟩
    · have h9 : decide ((k : Int) + 1 < (n : Int)) = false := by rw [decide_eq_false_iff_not]; omega
      have HV := Lib.hid (show riseP l = true from rise_all l (fun j s t hj h1 h2 => HRU.out j s t (by have := HH.out.1; have := HK.out; omega) h1 h2))
      have hlt' : ¬ (k : Int) + 1 < (n : Int) := by omega
      clear hlt
      go_wp2_with fail
      go_ret
      exact ⟨by rw [HV.out]; rfl, HB.out⟩
end Go.Proofs.YtoboabkaojfbaaaGreatDoor
namespace Go.Proofs.YtoboabkaojfbaaaGreatDoor
open Go Go.RowKit
set_option maxRecDepth 100000
set_option maxHeartbeats 8000000
set_option linter.unusedVariables false
set_option linter.unusedSimpArgs false
/-! head.rising. -/
theorem sl26 : Sl Tryz.prog 26 63 (.agg (sgA ⟨zDg, zDg⟩)) 64 64 := ⟨Tryz.underlying26, by kernel_rfl, by show (sgA ⟨zDg, zDg⟩).size = 64; exact sgA_size _, by decide⟩
theorem sg_cells {w : World} {a : Option Addr} {n c : Nat} {l : List Sg} (h : RS 64 sgE w a n c l) (h1 : 1 ≤ n) : ∃ b off, a = some ⟨b, off, none⟩ ∧ ∀ j u, (l.flatMap sgE)[j]? = some u → w.cell? ((⟨b, off, none⟩ : Addr).add j) = some u := by
  obtain ⟨x0, hx0⟩ : ∃ x, l[0]? = some x := ⟨_, List.getElem?_eq_getElem (by have := h.1; omega)⟩
  obtain ⟨b, off, e, -⟩ := h.2.2.2 0 x0 hx0
  refine ⟨b, off, e, fun j u hj => ?_⟩
  have hjl : j < l.length * 64 := by have := (List.getElem?_eq_some_iff.1 hj).1; rwa [flat_len sgE 64 sgE_len] at this
  have hx : l[j / 64]? = some (l[j / 64]'(by omega)) := List.getElem?_eq_getElem _
  obtain ⟨b', off', e', hc⟩ := h.2.2.2 (j / 64) _ hx
  obtain ⟨rfl, rfl⟩ : b = b' ∧ off = off' := by rw [e] at e'; have := Option.some.inj e'; simp only [Addr.mk.injEq] at this; exact ⟨this.1, this.2.1⟩
  have hv : (sgE (l[j / 64]'(by omega)))[j % 64]? = some ((sgE (l[j / 64]'(by omega)))[j % 64]'(by rw [sgE_len]; omega)) := List.getElem?_eq_getElem _
  have h2 := flat_get sgE 64 sgE_len l (j / 64) _ hx (j % 64) _ hv
  rw [show j / 64 * 64 + j % 64 = j by omega, hj] at h2
  rw [Option.some.inj h2, Addr.add_lit, show off + j = off + j / 64 * 64 + j % 64 by omega]
  exact hc _ _ hv
theorem rising_any (w : World) (a : Option Addr) (n c : Nat) (l : List Sg) (h : RS 64 sgE w a n c l) (h1 : 1 ≤ n) (hn : n ≤ 1000) :
    Calls Tryz.prog 118 #[.slice a n c] w fun e w' => ∃ a' c' l', e = .returned (.tuple #[.slice a' n c', .bool (riseP l')]) ∧ l'.Perm l ∧ (l'.Pairwise fun s t => ¬ cmpS t s < 0) ∧ RS 64 sgE w' a' n c' l' ∧ (∀ x, a' = some x → w.heap.size ≤ x.block) ∧ Below w.heap.size w w' := by
  obtain ⟨b, off, rfl, hc⟩ := sg_cells h h1
  have HC := Lib.hid hc
  have HN := Lib.hid (show 1 ≤ n ∧ n ≤ 1000 ∧ l.length = n from ⟨h1, hn, h.1⟩)
  clear h hc h1 hn
  go_enter Tryz.func118, Tryz.ntmps118
  go_upto_region 2 with (at_builtin; refine L_appendN rfl (.const (.slice none 0 0)) (.tmp 5) 26 (by rfl) sl26 w.heap.size (.slice none 0 0) 0 [] (by rfl) (World.ownsRow_nil _ _ _ _) ⟨b, off, none⟩ n c (l.flatMap sgE) (by rfl) (by rw [flat_len sgE 64 sgE_len, HN.out.2.2]) HC.out (fun u hu => by obtain ⟨s, -, hs⟩ := List.mem_flatMap.1 hu; exact sgE_one s u hs) (by have := HN.out; omega) (by have := HN.out; simp [maxLen]; omega) (Nat.le_refl _) (fun a3 c3 w3 ho3 hg3 _ => ?_); have HO3 := Lib.hid ho3; have HG3 := Lib.hid hg3; clear ho3 hg3)
  have HB3 := Lib.hid (show Below w.heap.size w w3 from (Below.refl _ _).grown HG3.out (Nat.le_refl _) (by intro k hk; cases hk))
  have ho := HO3.out
  simp only [Nat.zero_add, List.nil_append] at ho ⊢
  have HRS := Lib.hid (RS.of_owns ho (by decide) sgE_len (by have := HN.out; omega))
  obtain ⟨g, rfl, hgw, cur, hcur⟩ : ∃ g, a3 = some ⟨g, 0, none⟩ ∧ w.heap.size ≤ g ∧ ∃ cur, w3.heap[g]? = some (.cells cur 63 (0, 0)) := by
    rcases ho.2 with ⟨hv, h0⟩ | ⟨g, cap, cur, hv, hg, hh, -⟩
    · have := (Value.slice.inj hv).2.1; have := HN.out; omega
    · exact ⟨g, (Value.slice.inj hv).1, hg, cur, hh⟩
  have HGW := Lib.hid hgw
  have HS := Lib.hid (show Calls Tryz.prog 180 #[.slice (some ⟨g, 0, none⟩) n c3, .func (.func 181) #[] #[]] w3 (fun e w' => e = .returned (.tuple #[]) ∧ ∃ l' : List Sg, l'.Perm l ∧ (l'.Pairwise fun s t => ¬ cmpS t s < 0) ∧ RS 64 sgE w' (some ⟨g, 0, none⟩) n c3 l' ∧ w3.grownBy w' (some g)) by
    have := sort_any w3 g c3 cur l (by rw [HN.out.2.2]; exact HRS.out) hcur (by have := HN.out; omega)
    rw [HN.out.2.2] at this
    exact this)
  clear ho hgw hcur
  go_upto_region 3 with (go_at_call 180; (with_reducible refine HS.out.mono ?_); rintro e w4 ⟨rfl, l', hp, hpw, hrs, hg⟩; have HP := Lib.hid hp; have HPW := Lib.hid hpw; have HRS4 := Lib.hid hrs; have HG4 := Lib.hid hg; clear hp hpw hrs hg)
  have HB4 := Lib.hid (show Below w.heap.size w w4 from HB3.out.grown HG4.out HB3.out.size (fun k hk => by rw [← Option.some.inj hk]; exact HGW.out))
  have HR := Lib.hid (rise_any w4 (some ⟨g, 0, none⟩) n c3 l' HRS4.out (by have := HN.out; omega))
  go_wp2_with (go_at_call 169; (with_reducible refine HR.out.mono ?_); rintro e w5 ⟨rfl, hb⟩; have HB5 := Lib.hid hb; clear hb)
  go_ret2
  exact ⟨some ⟨g, 0, none⟩, c3, l', rfl, HP.out, HPW.out, HRS4.out.below HB5.out, fun x hx => by rw [← Option.some.inj hx]; exact HGW.out, HB4.out.trans (HB5.out.mono HB4.out.size)⟩
end Go.Proofs.YtoboabkaojfbaaaGreatDoor
namespace Go.Proofs.YtoboabkaojfbaaaGreatDoor
open Go Go.RowKit
set_option maxRecDepth 100000
set_option maxHeartbeats 16000000
set_option linter.unusedVariables false
set_option linter.unusedSimpArgs false
/-! head.EncodeNote. -/
def ntA (h : Hd) (v : Value) : Array Value := (hdE h ++ [v]).toArray
theorem hdE_len (h : Hd) : (hdE h).length = 98 := HB_len _ _ _ _ _
theorem nt_head {w : World} {g : Nat} {h : Hd} {v : Value} {t : TypeId} (hb : w.heap[g]? = some (.cells (ntA h v) t (0, 0))) : w.rangeAt g 0 (hdA h).toList := fun j u hj => by
  have hl := (List.getElem?_eq_some_iff.1 hj).1
  rw [cell_of_row _ _ _ _ _ _ hb, Nat.zero_add]
  unfold ntA
  rw [List.getElem?_toArray, List.getElem?_append_left (by simpa [hdA] using hl)]
  simpa [hdA] using hj
theorem nt_signs {w : World} {g : Nat} {h : Hd} {v : Value} {t : TypeId} (hb : w.heap[g]? = some (.cells (ntA h v) t (0, 0))) : w.cell? ⟨g, 98, none⟩ = some v := by
  rw [cell_of_row _ _ _ _ _ _ hb]
  unfold ntA
  rw [List.getElem?_toArray, List.getElem?_append_right (by rw [hdE_len]; omega), hdE_len]; rfl
def NtRet (w : World) (h : Hd) (l : List Sg) (e : Ending) (w' : World) : Prop := ∃ a n c, e = .returned (.tuple #[.slice a n c, .int .i64 ((noteE ⟨h, l⟩ : Nat) : Int)]) ∧ (noteE ⟨h, l⟩ = 0 → ∃ l', l'.Perm l ∧ riseP l' = true ∧ w'.ownsRow w.heap.size 5 1 (.slice a n c) n ((noteB h l').map b8)) ∧ Below w.heap.size w w'
theorem sg_key {w : World} {g : Nat} {s : Sg} {E : Array Value} {t : TypeId} (hb : w.heap[g]? = some (.cells E t (0, 0))) (hE : E = sgA s) : w.rangeAt g 0 (dgE s.key) ∧ w.rangeAt g 32 (dgE s.tag) := by
  subst hE
  constructor
  · intro j v hj
    have hl := (List.getElem?_eq_some_iff.1 hj).1
    rw [cell_of_row _ _ _ _ _ _ hb, Nat.zero_add]
    unfold sgA sgE
    rw [List.getElem?_toArray, List.getElem?_append_left hl, hj]
  · intro j v hj
    rw [cell_of_row _ _ _ _ _ _ hb]
    unfold sgA sgE
    rw [List.getElem?_toArray, List.getElem?_append_right (by rw [dgE_len]; omega), dgE_len, Nat.add_sub_cancel_left, hj]
theorem signB_take {l : List Sg} {k : Nat} {s : Sg} (h : l[k]? = some s) : signB (l.take (k + 1)) = signB (l.take k) ++ (s.key.1 ++ s.tag.1) := by
  rw [List.take_add_one, h]; simp [signB]
theorem encN_any (w : World) (h : Hd) (a : Option Addr) (n c : Nat) (l : List Sg) (hs : RS 64 sgE w a n c l) : Calls Tryz.prog 56 #[.agg (ntA h (.slice a n c))] w (NtRet w h l) := by
  have HS0 := Lib.hid hs
  have HNL := Lib.hid (show l.length = n ∧ n ≤ 281474976710656 from ⟨hs.1, hs.2.2.1⟩)
  have HNE := Lib.hid (show noteE ⟨h, l⟩ = if rightH h then (if l.length = 0 ∨ 16 < l.length then 7 else if twiceP l then 92 else 0) else 1 from rfl)
  obtain ⟨A, hA⟩ : ∃ A, A = ntA h (.slice a n c) := ⟨_, rfl⟩
  have HA := Lib.hid hA
  rw [← hA]
  obtain ⟨D, hD⟩ : ∃ D, D = hdA h := ⟨_, rfl⟩
  have HD := Lib.hid (show D = hdA h ∧ D.size = 98 by rw [hD]; exact ⟨rfl, hdA_size h⟩)
  have HRG := Lib.hid (fun w => show Calls Tryz.prog 96 #[.agg D] w (fun e w' => e = .returned (.bool (rightH h)) ∧ Below w.heap.size w w') by rw [hD]; exact right_any w h)
  clear hs hA hD
  go_enter Tryz.func56, Tryz.ntmps56
  go_upto_region 1 with (fail)
  obtain ⟨g, hg⟩ : ∃ g, g = w.heap.size := ⟨_, rfl⟩
  rw [← hg]
  have HG := Lib.hid hg
  have HQ1 := Lib.hid (show (w.alloc (.cells A 28)).heap[g]? = some (.cells (ntA h (.slice a n c)) 28 (0, 0)) by rw [hg, ← HA.out]; exact heap_alloc_new w _)
  have HB1 := Lib.hid ((Below.refl w.heap.size w).alloc (Nat.le_refl _) (.cells A 28))
  clear hg
  generalize w.alloc (.cells A 28) = w1 at *
  have HRN := Lib.hid (show w1.rangeAt g 0 D.toList by rw [HD.out.1]; exact nt_head HQ1.out)
  have stop : ∀ (q : Nat), noteE ⟨h, l⟩ = q → q ≠ 0 → ∀ w2, Below w.heap.size w w2 → NtRet w h l (.returned (.tuple #[.slice none 0 0, .int .i64 (q : Int)])) w2 := fun q hq h0 w2 hb => ⟨none, 0, 0, by rw [hq], fun e => absurd (hq.symm.trans e) h0, hb⟩
  have STOP := Lib.hid stop
  clear stop
  cases hr : rightH h with
  | false =>
    have HN := Lib.hid (show noteE ⟨h, l⟩ = 1 by rw [HNE.out, hr]; rfl)
    rw [hr] at HRG
    clear hr
    go_wp2_with (first
      | (refine L_load_arr rfl 25 (.tmp 9) (by rfl) g 0 (by rfl) D _ HRN.out Tryz.underlying25 rfl (by rw [HD.out.2]; exact info25) ?_)
      | (go_at_call 96; (with_reducible refine (HRG.out _).mono ?_); rintro e w2 ⟨rfl, hb⟩; have HB2 := Lib.hid hb; clear hb))
    go_ret2
    exact STOP.out 1 HN.out (by decide) _ (HB1.out.trans (HB2.out.mono HB1.out.size))
  | true =>
    have HRT := Lib.hid hr
    rw [hr] at HRG
    clear hr
    go_upto_region 3 with (first
      | (refine L_load_arr rfl 25 (.tmp 9) (by rfl) g 0 (by rfl) D _ HRN.out Tryz.underlying25 rfl (by rw [HD.out.2]; exact info25) ?_)
      | (go_at_call 96; (with_reducible refine (HRG.out _).mono ?_); rintro e w2 ⟨rfl, hb⟩; have HB2 := Lib.hid hb; clear hb))
    have HQ2 := Lib.hid (show w2.heap[g]? = some (.cells (ntA h (.slice a n c)) 28 (0, 0)) from (HB2.out.block g (Array.getElem?_eq_some_iff.1 HQ1.out).1).trans HQ1.out)
    have HBW2 := Lib.hid (HB1.out.trans (HB2.out.mono HB1.out.size))
    have k98 : w2.cell? ⟨g, 98, none⟩ = some (.slice a n c) := nt_signs HQ2.out
    by_cases c1 : n = 0
    · have HN := Lib.hid (show noteE ⟨h, l⟩ = 7 by rw [HNE.out, if_pos HRT.out, if_pos (.inl (by have := HNL.out.1; omega))])
      subst c1
      go_wp2_with fail
      go_ret2
      exact STOP.out 7 HN.out (by decide) _ HBW2.out
    · have d1 : ((n : Int) == 0) = false := by simp; omega
      by_cases c2 : 16 < n
      · have HN := Lib.hid (show noteE ⟨h, l⟩ = 7 by rw [HNE.out, if_pos HRT.out, if_pos (.inr (by have := HNL.out.1; omega))])
        have d2 : decide ((16 : Int) < (n : Int)) = true := by rw [decide_eq_true_eq]; omega
        go_wp2_with fail
        go_ret2
        exact STOP.out 7 HN.out (by decide) _ HBW2.out
      · have d2 : decide ((16 : Int) < (n : Int)) = false := by rw [decide_eq_false_iff_not]; omega
        have HN16 := Lib.hid (show 1 ≤ n ∧ n ≤ 16 by omega)
        have HRI := Lib.hid (rising_any w2 a n c l (HS0.out.below HBW2.out) (by omega) (by omega))
        go_upto_region 6 with (go_at_call 118; (with_reducible refine HRI.out.mono ?_); rintro e w3 ⟨a', c', l', rfl, hp, hpw, hrs, hnew, hb⟩; have HP := Lib.hid hp; have HPW := Lib.hid hpw; have HRS := Lib.hid hrs; have HNEW := Lib.hid hnew; have HB3 := Lib.hid hb; clear hp hpw hrs hnew hb)
        have HBW3 := Lib.hid (HBW2.out.trans (HB3.out.mono HBW2.out.size))
        have HTW := Lib.hid (show riseP l' = !twiceP l by rw [rise_sorted l' (HPW.out.imp fun {s t} q => by omega), twice_perm HP.out])
        clear k98 d1 d2 c1 c2
        cases hrp : riseP l' with
        | false =>
          have HN := Lib.hid (show noteE ⟨h, l⟩ = 92 by
            have ht := HTW.out
            rw [hrp] at ht
            rw [HNE.out, if_pos HRT.out, if_neg (by have := HNL.out.1; have := HN16.out; omega), if_pos (by simpa using ht.symm)])
          clear hrp
          go_wp2_with fail
          go_ret2
          exact STOP.out 92 HN.out (by decide) _ HBW3.out
        | true =>
          have HRP := Lib.hid hrp
          have HN := Lib.hid (show noteE ⟨h, l⟩ = 0 by
            have ht := HTW.out
            rw [hrp] at ht
            rw [HNE.out, if_pos HRT.out, if_neg (by have := HNL.out.1; have := HN16.out; omega), if_neg (by simpa using ht.symm)])
          clear hrp
          have HNW := Lib.hid (new_any w3)
          have HB0 := Lib.hid (show w.heap.size ≤ w3.heap.size from HBW3.out.size)
          go_upto_region 9 with (go_at_call 75; (with_reducible refine HNW.out.mono ?_); rintro e w4 ⟨gw, rfl, hwr, hb⟩; have HWR := Lib.hid hwr; have HB4 := Lib.hid hb; clear hwr hb)
          obtain ⟨hgw, v0, hh, ho⟩ := HWR.out
          have HV4 := Lib.hid (show WrV w4 w3.heap.size gw v0 [] from ⟨hgw, hh, ho⟩)
          clear hgw hh ho
          have HP4 := Lib.hid (show Calls Tryz.prog 76 #[.pointer (some ⟨gw, 0, none⟩), .int .u8 33] w4 (fun e w' => e = .returned (.tuple #[]) ∧ WO w4 w' w3.heap.size gw v0 ([] ++ be 1 33)) from put8_f w4 w3.heap.size gw [] 33 v0 HV4.out (by decide) HB4.out.size)
          go_upto_region 10 with (go_at_call 76; (with_reducible refine HP4.out.mono ?_); rintro e w5 ⟨rfl, ho⟩; have HO5 := Lib.hid ho; clear ho)
          have HB5 := Lib.hid (HB4.out.trans (HO5.out.low HV4.out (B0 := w3.heap.size) (Nat.le_refl _) HB4.out.size))
          obtain ⟨v5, hv, -, -⟩ := HO5.out
          have HV5 := Lib.hid hv
          clear hv
          have HQ5 := Lib.hid (show w5.rangeAt g 0 D.toList by
            rw [HD.out.1]
            exact nt_head ((HB5.out.block g (by have := HG.out; have := (Array.getElem?_eq_some_iff.1 HQ2.out).1; have := HB3.out.size; omega)).trans ((HB3.out.block g (Array.getElem?_eq_some_iff.1 HQ2.out).1).trans HQ2.out)))
          have HL5 := Lib.hid (show Calls Tryz.prog 119 #[.pointer (some ⟨gw, 0, none⟩), .agg D] w5 (fun e w' => e = .returned (.tuple #[]) ∧ WO w5 w' w3.heap.size gw v5 (([] ++ be 1 33) ++ laidP h)) by rw [HD.out.1]; exact lay_any w5 w3.heap.size gw v5 _ h HV5.out HRT.out (by simp [be_len]) HB5.out.size)
          go_upto_region 11 with (first
            | (refine L_load_arr rfl 25 (.tmp 35) (by rfl) g 0 (by rfl) D _ HQ5.out Tryz.underlying25 rfl (by rw [HD.out.2]; exact info25) ?_)
            | (go_at_call 119; (with_reducible refine HL5.out.mono ?_); rintro e w6 ⟨rfl, ho⟩; have HO6 := Lib.hid ho; clear ho))
          have HB6 := Lib.hid (HB5.out.trans (HO6.out.low HV5.out (B0 := w3.heap.size) (Nat.le_refl _) HB5.out.size))
          obtain ⟨v6, hv, -, -⟩ := HO6.out
          have HV6 := Lib.hid hv
          clear hv
          have hwu : IntKind.u8.wrap (n : Int) = (n : Int) := by
            have := HN16.out
            simp [IntKind.wrap, IntKind.bits, IntKind.signed]; omega
          have HP6 := Lib.hid (show Calls Tryz.prog 76 #[.pointer (some ⟨gw, 0, none⟩), .int .u8 (n : Int)] w6 (fun e w' => e = .returned (.tuple #[]) ∧ WO w6 w' w3.heap.size gw v6 ((([] ++ be 1 33) ++ laidP h) ++ be 1 n)) by
            have h1 : (UInt8.ofNat n).toNat = n := UInt8.toNat_ofNat_of_lt' (by have := HN16.out; show n < 256; omega)
            have := put8_f w6 w3.heap.size gw _ (UInt8.ofNat n) v6 HV6.out (by simp [be_len, laidP_len]) HB6.out.size
            rw [h1] at this
            exact this)
          go_upto_region 12 with (go_at_call 76; (with_reducible refine HP6.out.mono ?_); rintro e w7 ⟨rfl, ho⟩; have HO7 := Lib.hid ho; clear ho)
          clear hwu
          have HB7 := Lib.hid (HB6.out.trans (HO7.out.low HV6.out (B0 := w3.heap.size) (Nat.le_refl _) HB6.out.size))
          obtain ⟨v7, hv, -, -⟩ := HO7.out
          obtain ⟨LL, hLL⟩ : ∃ LL, LL = (([] ++ be 1 33) ++ laidP h) ++ be 1 n := ⟨_, rfl⟩
          rw [← hLL] at hv
          have HV7 := Lib.hid hv
          have HLL := Lib.hid (show LL.length = 115 ∧ ∀ r, LL ++ r = be 1 33 ++ (laidP h ++ (be 1 n ++ r)) by rw [hLL]; exact ⟨by simp [be_len, laidP_len], fun r => by simp only [List.nil_append, List.append_assoc]⟩)
          clear hv hLL
          clear HQ1 HQ2 HQ5 HRN HRG HRI HNW HP4 HL5 HP6 HO5 HO6 HO7 HV4 HV5 HV6 HWR HB4 HB5 HB6
          go_wp2_with fail
          go_loopw [45, 8] (fun v _ wr => ∃ (k : Nat) (vi : Value), k ≤ n ∧ v = .int .i64 (k : Int) ∧ WrV wr w3.heap.size gw vi (LL ++ signB (l'.take k)) ∧ Below w3.heap.size w3 wr) (fun v _ _ => n - (intOf v).toNat)
          case atStart => exact ⟨0, v7, Nat.zero_le _, rfl, by simpa [signB] using HV7.out, HB7.out⟩
          case round =>
            obtain ⟨k, vi, hk, rfl, hv, hb⟩ := hrel
            have HVI := Lib.hid hv; have HBI := Lib.hid hb
            by_cases hlt : k < n
            · obtain ⟨x, hx⟩ : ∃ x, l'[k]? = some x := ⟨_, List.getElem?_eq_getElem (by have := HRS.out.1; omega)⟩
              obtain ⟨b, off, rfl, -, hr1⟩ := sg_at (HRS.out.below hb) hx
              obtain ⟨E, hE⟩ : ∃ E, E = sgA x := ⟨_, rfl⟩
              have HE := Lib.hid hE
              have HES := Lib.hid (show E.size = 64 ∧ E.all (·.oneCell') = true by rw [hE]; exact ⟨sgA_size _, all_oneCell_toArray (sgE_one x)⟩)
              rw [← hE] at hr1
              have HR1 := Lib.hid hr1
              have HTK := Lib.hid (signB_take hx)
              have HKN := Lib.hid (show k < n ∧ (LL ++ signB (l'.take k)).length ≤ 10000 ∧ k + 1 ≤ n by
                have h1 := signB_len (l'.take k)
                rw [List.length_take] at h1
                rw [List.length_append, h1, HLL.out.1]
                have := HN16.out
                exact ⟨hlt, by omega, by omega⟩)
              have HTH := Lib.hid (show (wr.alloc (.cells (sgA ⟨zDg, zDg⟩) 63)).there wr.heap.size 0 64 by
                have := there_block (heap_alloc_new wr (.cells (sgA ⟨zDg, zDg⟩) 63))
                rwa [sgA_size] at this)
              have h9 : decide ((k : Int) < (n : Int)) = true := by rw [decide_eq_true_eq]; omega
              have hk6 : k ≤ 1000000 := by have := HN16.out; omega
              have hki : (k : Int) < (n : Int) := by omega
              clear hv hb hx hE hr1 hk
              go_upto_region 15 with (first
                | (refine L_load_arr rfl 63 (.tmp 47) (by rfl) b (off + k * 64) (by rfl) E _ HR1.out Tryz.underlying63 rfl (by rw [HES.out.1]; exact info63) ?_)
                | (refine wpList_store_mid rfl 63 (.tmp 8) (.tmp 48) (by rfl) wr.heap.size 0 E (by rfl) (by rfl) (by rw [HES.out.1]; exact HTH.out) (by rw [HES.out.1]; exact info63) HES.out.2 ?_))
              change Code.wp Tryz.prog _ _ _ ((wr.alloc (.cells (sgA ⟨zDg, zDg⟩) 63)).setCells wr.heap.size 0 E.toList)
              obtain ⟨g8, hg8⟩ : ∃ g8, g8 = wr.heap.size := ⟨_, rfl⟩
              rw [← hg8]
              have HG8 := Lib.hid hg8
              have HQ8 := Lib.hid (show ((wr.alloc (.cells (sgA ⟨zDg, zDg⟩) 63)).setCells g8 0 E.toList).heap[g8]? = some (.cells E 63 (0, 0)) by
                have := setCells_all (show (wr.alloc (.cells (sgA ⟨zDg, zDg⟩) 63)).heap[g8]? = some (.cells (sgA ⟨zDg, zDg⟩) 63 (0, 0)) by rw [hg8]; exact heap_alloc_new wr _) E.toList (by rw [Array.length_toList, HES.out.1, sgA_size])
                simpa using this)
              have HB8 := Lib.hid (show Below wr.heap.size wr ((wr.alloc (.cells (sgA ⟨zDg, zDg⟩) 63)).setCells g8 0 E.toList) from ((Below.refl _ _).alloc (Nat.le_refl _) _).grown (setCells_grown _ _ _ _) (by rw [World.size_alloc]; omega) (fun k hk => by rw [← Option.some.inj hk, hg8]; exact Nat.le_refl _))
              clear hg8
              generalize (wr.alloc (.cells (sgA ⟨zDg, zDg⟩) 63)).setCells g8 0 E.toList = w8 at *
              obtain ⟨D1, hD1⟩ : ∃ D, D = dgA x.key.1 := ⟨_, rfl⟩
              obtain ⟨D2, hD2⟩ : ∃ D, D = dgA x.tag.1 := ⟨_, rfl⟩
              have HD1 := Lib.hid (show DgN D1 x.key by rw [hD1]; exact dgN _)
              have HD2 := Lib.hid (show DgN D2 x.tag by rw [hD2]; exact dgN _)
              have HK1 := Lib.hid (show w8.rangeAt g8 0 D1.toList by rw [HD1.out.2.1]; exact (sg_key HQ8.out HE.out).1)
              have HK2 := Lib.hid (show w8.rangeAt g8 32 D2.toList by rw [HD2.out.2.1]; exact (sg_key HQ8.out HE.out).2)
              clear hD1 hD2
              have HV8 := Lib.hid (HVI.out.below HB8.out)
              have HBA := Lib.hid ((Below.refl w8.heap.size w8).alloc (Nat.le_refl _) (.cells (D1.toList ++ D2.toList).toArray 23))
              have HB3' := Lib.hid (show Below w3.heap.size w3 w8 from HBI.out.trans (HB8.out.mono HBI.out.size))
              have HC8 := Lib.hid (show Calls Tryz.prog 79 #[.pointer (some ⟨gw, 0, none⟩), .slice (some ⟨w8.heap.size, 0, none⟩) 2 2] (w8.alloc (.cells (D1.toList ++ D2.toList).toArray 23)) (fun e w' => e = .returned (.tuple #[]) ∧ WO (w8.alloc (.cells (D1.toList ++ D2.toList).toArray 23)) w' w3.heap.size gw vi ((LL ++ signB (l'.take k)) ++ ([x.key, x.tag].map (·.1)).flatten)) from
                digs_f (w8.alloc (.cells (D1.toList ++ D2.toList).toArray 23)) w3.heap.size gw (LL ++ signB (l'.take k)) vi (HV8.out.below HBA.out) (by have := HKN.out.2.1; omega) (by have := HB3'.out.size; have := HBA.out.size; omega) (some ⟨w8.heap.size, 0, none⟩) 2 2 [x.key, x.tag] (ds_block (ds := [x.key, x.tag]) (heap_alloc_new w8 _) (by simp [HD1.out.2.1, HD2.out.2.1]) (by simp only [List.length_cons, List.length_nil]; omega)) (by decide) (fun y hy _ => by cases hy; exact ⟨by show w8.heap.size < _; rw [World.size_alloc]; omega, by have := HV8.out.gl; show w8.heap.size ≠ gw; omega, fun e => by have : w8.heap.size < w8.heap.size := HV8.out.own e.symm; omega⟩))
              go_upto_region 16 with (first
                | (refine L_load_arr rfl 23 (.tmp 50) (by rfl) g8 0 (by rfl) D1 _ HK1.out Tryz.underlying23 rfl (by rw [HD1.out.2.2.1]; exact info38) ?_)
                | (refine L_load_arr rfl 23 (.tmp 52) (by rfl) g8 32 (by rfl) D2 _ HK2.out Tryz.underlying23 rfl (by rw [HD2.out.2.2.1]; exact info38) ?_)
                | (refine L_build2 rfl (.tmp 51) (.tmp 53) (by rfl) D1 D2 (by rfl) (by rfl) HD1.out.2.2.1 HD2.out.2.2.1 ?_)
                | (go_at_call 79; (with_reducible refine HC8.out.mono ?_); rintro e w9 ⟨rfl, ho⟩; have HO9 := Lib.hid ho; clear ho))
              have HB9 := Lib.hid (show Below w3.heap.size w3 w9 from HB3'.out.trans ((HBA.out.mono HB3'.out.size).trans (HO9.out.low (HV8.out.below HBA.out) (B0 := w3.heap.size) (Nat.le_refl _) (by have := HB3'.out.size; have := HBA.out.size; omega))))
              obtain ⟨v9, hv9, -, -⟩ := HO9.out
              have HV9 := Lib.hid (show WrV w9 w3.heap.size gw v9 (LL ++ signB (l'.take (k + 1))) by
                rw [HTK.out, ← List.append_assoc]
                simpa using hv9)
              clear hv9
              go_wp2_with fail
              go_roundw
              case rel => exact ⟨k + 1, v9, HKN.out.2.2, by push_cast; rfl, HV9.out, HB9.out⟩
              case measure => have := HKN.out.1; simp [intOf]; omega
            · have HKE := Lib.hid (show k = n by omega)
              have HBYT := Lib.hid (show LL ++ signB (l'.take k) = noteB h l' by
                rw [List.take_of_length_le (by have := HRS.out.1; omega), HLL.out.2]
                unfold noteB
                rw [show l'.length = n from HRS.out.1])
              rw [HBYT.out] at hv
              have HALL := Lib.hid (all_any wr w3.heap.size gw (noteB h l') ⟨hv.1, vi, hv.2⟩ (by rw [noteB_len]; have := HRS.out.1; have := HN16.out; omega))
              have h9 : decide ((k : Int) < (n : Int)) = false := by rw [decide_eq_false_iff_not]; omega
              have hki : ¬ (k : Int) < (n : Int) := by omega
              clear hv hb hk hlt
              go_wp2_with (go_at_call 80; (with_reducible refine HALL.out.mono ?_); rintro e w9 ⟨a9, n9, c9, rfl, ho, hb⟩; have HO9 := Lib.hid ho; have HB9 := Lib.hid hb; clear ho hb)
              go_ret2
              have hbw : Below w.heap.size w wr := HBW3.out.trans (HBI.out.mono HB0.out)
              exact ⟨a9, n9, c9, by rw [HN.out]; rfl, fun _ => ⟨l', HP.out, HRP.out, own_base HO9.out hbw.size⟩, hbw.trans (HB9.out.mono hbw.size)⟩
end Go.Proofs.YtoboabkaojfbaaaGreatDoor
