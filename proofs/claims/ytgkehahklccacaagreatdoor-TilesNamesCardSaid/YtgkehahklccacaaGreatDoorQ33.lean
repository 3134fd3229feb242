import Derived.Test.YtgkehahklccacaaGreatDoorQ32
import Derived.Test.YtgkehahklccacaaGreatDoorQ28
namespace Go.Proofs.YtgkehahklccacaaGreatDoor
open Go Go.RowKit
set_option maxRecDepth 100000
set_option maxHeartbeats 1000000
set_option linter.unusedVariables false
set_option linter.unusedSimpArgs false

open Go.Maps Go.WideMaps Go.ChangeMaps
theorem sl130 : Sl Tryz.prog 130 133 (.agg #[.int .i64 0, .int .i64 0]) 2 16 := ⟨Tryz.underlying130, by kernel_rfl, rfl, by decide⟩
def spE (s : Nat × Nat) : List Value := [.int .i64 (s.1 : Int), .int .i64 (s.2 : Int)]
theorem ctz_ge {x q : Nat} (h0 : 0 < x) (hx : x < 1000000000000) (hq : 2 ^ q ∣ x) : q ≤ Lib.ctz 64 x := by
  obtain ⟨m, hm, -⟩ := Lib.ctzFrom_spec 64 x h0 (by omega)
  have e : Lib.ctz 64 x = Lib.ctzFrom 64 x := by unfold Lib.ctz; rw [if_neg (by omega)]
  rw [e]
  generalize Lib.ctzFrom 64 x = c at *
  rcases Nat.lt_or_ge c q with h | h
  · have h2 : 2 ^ (c + 1) ∣ x := Nat.dvd_trans (Nat.pow_dvd_pow 2 h) hq
    rw [hm, Nat.pow_succ] at h2
    have := Nat.dvd_of_mul_dvd_mul_left (Nat.pow_pos (show 0 < 2 by decide)) h2
    omega
  · exact h
theorem rowShape {w : World} {base : Nat} {e : TypeId} {size : Nat} {v : Value} {n : Nat} {xs : List Value} (h : w.ownsRow base e size v n xs) : ∃ a c, v = .slice a n c := by
  rcases h.2 with ⟨rfl, rfl⟩ | ⟨g, cap, _, rfl, _⟩
  · exact ⟨_, _, rfl⟩
  · exact ⟨_, _, rfl⟩
theorem tab_below {w w' : World} {l : List Nat} {B : Nat} (h : TabAt 1 l w) (hb : Below B w w') (h1 : 1 < B) : TabAt 1 l w' := fun j hj => (hb.cell h1).trans (h j hj)
set_option maxHeartbeats 8000000
theorem spots_any (w : World) (fr tq : Nat) (h : fr ≤ tq) (hto : tq ≤ 1000000) (hal : Al fr (tq - fr)) (htz : TabAt 1 Lib.deBruijn64tab w) (h1 : 1 < w.heap.size) :
    Calls Tryz.prog 61 #[.int .i64 (fr : Int), .int .i64 (tq : Int)] w fun e w' => ∃ a n c, e = .returned (.slice a n c) ∧ n = (spL fr (tq - fr)).length ∧ w'.ownsRow w.heap.size 133 2 (.slice a n c) n ((spL fr (tq - fr)).flatMap spE) ∧ Below w.heap.size w w' := by
  have d1 : decide ((fr : Int) < 0) = false := by simp
  have d2 : decide (1099511627776 < (tq : Int)) = false := by simp; omega
  have HH := Lib.hid (And.intro hto (And.intro htz h1))
  have HAL := Lib.hid hal
  have HF := Lib.hid h
  clear h hto hal htz h1
  go_enter Tryz.func61, Tryz.ntmps61
  go_wp2_with fail
  clear d1 d2
  go_loopw [0, 5] (fun v r wr => ∃ (x : Nat) (done : List (Nat × Nat)), fr ≤ x ∧ x ≤ tq ∧ v = .int .i64 (x : Int) ∧ Al x (tq - x) ∧ spL fr (tq - fr) = done ++ spL x (tq - x) ∧ wr.ownsRow w.heap.size 133 2 r done.length (done.flatMap spE) ∧ Below w.heap.size w wr) (fun v _ _ => tq - (intOf v).toNat)
  case atStart => exact ⟨fr, [], Nat.le_refl _, HF.out, rfl, HAL.out, rfl, World.ownsRow_nil _ _ _ _, Below.refl _ _⟩
  case round =>
    obtain ⟨x, done, hfx, hx, rfl, hax, hsp, ho, hb⟩ := hrel
    by_cases hlt : x < tq
    · obtain ⟨len, hlen⟩ : ∃ len, len = tq - x := ⟨_, rfl⟩
      have hl0 : 0 < len := by omega
      have hl6 : len ≤ 1000000 := by have := HH.out.1; omega
      obtain ⟨p1, p2, p3⟩ := logP_le hl0 (by omega)
      rw [← hlen] at hax hsp
      have hnx := hax.next hl0 (by omega)
      have hsp2 := spL_pos x len hl0
      have hdv := hax (logP len) p1
      obtain ⟨q, hq⟩ : ∃ q, q = logP len := ⟨_, rfl⟩
      rw [← hq] at p1 p2 hnx hsp2 hdv
      obtain ⟨P, hP⟩ : ∃ P, P = 2 ^ q := ⟨_, rfl⟩
      have hP0 : 0 < P := by rw [hP]; exact Nat.pow_pos (by decide)
      have hq20 : q ≤ 19 := by
        rcases Nat.lt_or_ge 19 q with e | e
        · have : 2 ^ 20 ≤ 2 ^ q := Nat.pow_le_pow_right (by decide) e
          omega
        · exact e
      obtain ⟨i, hi⟩ : ∃ i, i = x / P := ⟨_, rfl⟩
      have hx6 : x ≤ 1000000 := by have := HH.out.1; omega
      have HC := Lib.hid (fun wx => Any.bits_Len Tryz.lays125 (len : Int) wx (by omega) (by omega))
      have hbl : Lib.bitLen (len : Int).toNat = q + 1 := by rw [Int.toNat_natCast, hq]; unfold logP; omega
      rw [hbl] at HC
      have s1 : (tq : Int) - (x : Int) = (len : Int) := by omega
      have s2 : IntKind.u64.wrap (len : Int) = (len : Int) := by simp [IntKind.wrap, IntKind.bits, IntKind.signed]; omega
      have s3 : ((q + 1 : Nat) : Int) - 1 = (q : Int) := by omega
      have s4 : (x : Int) / (P : Int) = (i : Int) := by rw [hi]; rfl
      have s5 : IntKind.u64.wrap (x : Int) = (x : Int) := by simp [IntKind.wrap, IntKind.bits, IntKind.signed]; omega
      have s6 : (2 : Int) ^ q = (P : Int) := by rw [hP]; push_cast; rfl
      obtain ⟨w1, hw1⟩ : ∃ w1, w1 = wr.alloc (.cells #[.int .i64 (q : Int), .int .i64 (i : Int)] 133) := ⟨_, rfl⟩
      have hb1 : Below w.heap.size w w1 := by rw [hw1]; exact hb.alloc hb.size _
      have ho1 : w1.ownsRow w.heap.size 133 2 u5 done.length (done.flatMap spE) := by rw [hw1]; exact ho.alloc _
      have hca : ∀ (k : Nat) (u : Value), ([.int .i64 (q : Int), .int .i64 (i : Int)] : List Value)[k]? = some u → w1.cell? ((⟨wr.heap.size, 0, none⟩ : Addr).add k) = some u := fun k u hu => by rw [hw1]; exact cellA #[.int .i64 (q : Int), .int .i64 (i : Int)] 133 wr k u hu
      have hdl : done.length ≤ 1000000 := by
        have h1 := spL_len _ (tq - fr) fr (Nat.le_refl _)
        rw [hsp, List.length_append] at h1
        have := HH.out.1; omega
      have HB1 := Lib.hid hb1; have HO1 := Lib.hid ho1; have HCA := Lib.hid hca; have HDL := Lib.hid hdl
      have HSP := Lib.hid (show spL fr (tq - fr) = (done ++ [(q, i)]) ++ spL (x + P) (tq - (x + P)) by
        rw [hsp, hsp2, List.append_assoc, ← hP, ← hi, show tq - (x + P) = len - P by omega]; rfl)
      have HNX := Lib.hid (show Al (x + P) (tq - (x + P)) by rw [show tq - (x + P) = len - P by omega, hP]; exact hnx)
      have HXL := Lib.hid (show fr ≤ x + P ∧ x + P ≤ tq ∧ x < tq by omega)
      have HP0 := Lib.hid hP0
      have hw1' : wr.alloc (.cells #[.int .i64 (q : Int), .int .i64 (i : Int)] 133) = w1 := hw1.symm
      have hPb : P ≤ 1000000 := by omega
      have h9 : decide ((x : Int) < (tq : Int)) = true := by simp; omega
      have h8 : decide (x < tq) = true := by simp; omega
      have hcz : 0 < x → q ≤ Lib.ctz 64 x := fun h0 => ctz_ge h0 (by omega) hdv
      have HB := Lib.hid hb
      clear hfx hx hax hsp ho hb hlt hlen hl0 p1 p2 p3 hnx hsp2 hdv hq hP hP0 hi hbl hw1 hb1 ho1 hca hdl
      by_cases hx0 : x = 0
      · have h7 : decide ((0 : Int) < (x : Int)) = false := by simp; omega
        have h6 : decide (0 < x) = false := by simp; omega
        clear hx0 hcz
        go_wp2_with (first
          | (go_at_call 112; refine (HC.out wr).mono ?_; rintro e wx ⟨rfl, hw⟩; have hw := hw.symm; subst hw)
          | (at_builtin; go_loud (refine L_appendN rfl (.tmp 29) (.tmp 35) 130 (by rfl) sl130 w.heap.size _ done.length _ (by rfl) HO1.out ⟨_, 0, none⟩ 1 1 [.int .i64 (q : Int), .int .i64 (i : Int)] (by rfl) (by rfl) HCA.out (by intro u hu; simp only [List.mem_cons, List.not_mem_nil, or_false] at hu; rcases hu with rfl | rfl <;> rfl) (by have := HDL.out; omega) (by have := HDL.out; simp [maxLen]; omega) HB1.out.size (fun a4 c4 w4 ho4 hg4 hat4 => ?_))))
        have HO4 := Lib.hid ho4
        have HB4 := Lib.hid (HB1.out.grown hg4 HB1.out.size (fun k hk => (HO1.out.lt k hk).1))
        clear ho4 hg4 hat4
        refine ⟨⟨x + P, done ++ [(q, i)], by have := HXL.out; omega, HXL.out.2.1, by push_cast; rfl, HNX.out, HSP.out, ?_, HB4.out⟩, ?_⟩
        · have := HO4.out
          simpa [spE] using this
        · have h1 := HXL.out; have h2 := HP0.out
          show tq - (intOf (.int .i64 ((x : Int) + (P : Int)))).toNat < tq - (intOf (.int .i64 (x : Int))).toNat
          simp only [intOf]
          omega
      · have h7 : decide ((0 : Int) < (x : Int)) = true := by simp; omega
        have h6 : decide (0 < x) = true := by simp; omega
        have HTZ := Lib.hid (fun wx (hT : TabAt 1 Lib.deBruijn64tab wx) => Any7.bits_TrailingZeros Tryz.lays7n27 x (by omega) wx fun _ => hT)
        have hmin : min (q : Int) ((Lib.ctz 64 x : Nat) : Int) = (q : Int) := by have := hcz (by omega); omega
        clear hx0 hcz
        go_wp2_with (first
          | (go_at_call 113; refine (HTZ.out _ (tab_below HH.out.2.1 HB.out HH.out.2.2)).mono ?_; rintro e wx ⟨rfl, hw⟩; have hw := hw.symm; subst hw)
          | (go_at_call 112; refine (HC.out wr).mono ?_; rintro e wx ⟨rfl, hw⟩; have hw := hw.symm; subst hw)
          | (at_builtin; go_loud (refine L_appendN rfl (.tmp 29) (.tmp 35) 130 (by rfl) sl130 w.heap.size _ done.length _ (by rfl) HO1.out ⟨_, 0, none⟩ 1 1 [.int .i64 (q : Int), .int .i64 (i : Int)] (by rfl) (by rfl) HCA.out (by intro u hu; simp only [List.mem_cons, List.not_mem_nil, or_false] at hu; rcases hu with rfl | rfl <;> rfl) (by have := HDL.out; omega) (by have := HDL.out; simp [maxLen]; omega) HB1.out.size (fun a4 c4 w4 ho4 hg4 hat4 => ?_))))
        have HO4 := Lib.hid ho4
        have HB4 := Lib.hid (HB1.out.grown hg4 HB1.out.size (fun k hk => (HO1.out.lt k hk).1))
        clear ho4 hg4 hat4
        refine ⟨⟨x + P, done ++ [(q, i)], by have := HXL.out; omega, HXL.out.2.1, by push_cast; rfl, HNX.out, HSP.out, ?_, HB4.out⟩, ?_⟩
        · have := HO4.out
          simpa [spE] using this
        · have h1 := HXL.out; have h2 := HP0.out
          show tq - (intOf (.int .i64 ((x : Int) + (P : Int)))).toNat < tq - (intOf (.int .i64 (x : Int))).toNat
          simp only [intOf]
          omega
    · have h9 : decide ((x : Int) < (tq : Int)) = false := by simp; omega
      have h8 : decide (x < tq) = false := by simp; omega
      have hxe : x = tq := by omega
      clear hlt
      go_wp2_with fail
      go_ret
      subst hxe
      rw [Nat.sub_self, spL_zero, List.append_nil] at hsp
      rw [hsp]
      obtain ⟨a, c, rfl⟩ := rowShape ho
      exact ⟨a, _, c, rfl, rfl, ho, hb⟩
end Go.Proofs.YtgkehahklccacaaGreatDoor
namespace Go.Proofs.YtgkehahklccacaaGreatDoor
open Go Go.RowKit
set_option maxRecDepth 100000
set_option maxHeartbeats 1000000
set_option linter.unusedVariables false
set_option linter.unusedSimpArgs false

open Go.Maps Go.WideMaps Go.ChangeMaps
theorem results_row_tmp {P : Program} {fn : Func} {p u : Tmp} {ty : TypeId} (h : fn.results = #[.cell p ty, .tmp u]) (tmps : Array Value) (w : World) (g : Nat) (t : TypeId) (cs : Array Value) (fr : Nat × Nat) (d : TypeDesc)
    (hp : tmps.getD p undef = .pointer (some ⟨g, 0, none⟩)) (hg : w.heap[g]? = some (.cells cs t fr))
    (hu : P.underlying ty = some d) (hd : (match d with | .struct _ | .array _ _ => true | _ => false) = true) (hi : (P.info? ty).map (·.size) = some cs.size) :
    (results fn tmps).run P w = .ok (.tuple #[.agg cs, tmps.getD u undef]) w := by
  rw [results_cell_tmp h, hp]
  simp [asAddr, run_loadVar_row w g t ty cs fr d hg hu hd hi, Result.andThen]
def sl23z : Value := .agg (dgA zDg.1)
/-- A slice literal of one digest. -/
theorem L_build1 {ops : Array Oper} {rest : List Oper} {o : Oper} {a : Act} {w : World} {Q : Exit → Act → World → Prop} (hg : o.guard = none) (d : Operand) (ho : o.op = .buildSlice 23 1 #[(0, d)]) (D : Array Value) (hd : a.eval d = .agg D) (hs : D.size = 32)
    (h : wpList Tryz.prog ops Q rest (a.put o.dst (.slice (some ⟨w.heap.size, 0, none⟩) 1 1)) (w.alloc (.cells D 38))) : wpList Tryz.prog ops Q (o :: rest) a w := by
  obtain ⟨ie, hie, hz0, hz1, hz2⟩ := info_parts sl23.inf
  have h32 : ie.size = 32 := by have := hz0; have := hz1; first | assumption | omega
  have hf : Instr.fill (fun i => some (i * ie.size, ie.size)) ((Array.range (1 * ie.size)).map ((sl23z).cells[· % (sl23z).cells.size]!)) (#[(0, Value.agg D)] : Array (Nat × Value)).toList = some D := by
    have := Great.fill_whole (s := ie.size) (by omega) [Value.agg D] ((Array.range (1 * ie.size)).map ((sl23z).cells[· % (sl23z).cells.size]!)) (by intro v hv; rw [List.mem_singleton.1 hv]; show D.size = ie.size; omega) (by simp)
    simpa [Value.cells] using this
  refine wpList_buildSlice hg 23 38 1 #[(0, d)] ho D ie sl23z Tryz.underlying23 hie ?_ (by omega) (by omega) ?_ h
  · first | assumption | exact hz1
  · simp only [List.map_toArray, List.map_cons, List.map_nil, hd]
    exact hf
theorem info133 : (Tryz.prog.info? 133).map (·.size) = some 2 := by kernel_rfl
theorem ask_any (w : World) (L : Lay) (τ : Nat → Nat) (gt gd : Nat) (d : Dm) (T : TT) (Y : TY) (h : BT w L τ gt gd d T Y) (hl : T.live d tlN = 0) (c : ByteArray) :
    Calls Tryz.prog 59 #[.pointer (some ⟨gt, 0, none⟩), .string c, .bool true] w fun e w' => e = .returned .nilIface ∧ Below w.heap.size w w' := by
  have HL := Lib.hid (live_any w L τ gt gd d T Y h c)
  rw [hl] at HL
  clear h hl
  go_enter Tryz.func59, Tryz.ntmps59
  go_wp2_with (go_at_call 39; refine HL.out.mono ?_; rintro e w1 ⟨⟨v, rfl, hv⟩, hb⟩; obtain rfl : v = .nilIface := (hv.resolve_right fun q => q.1 rfl).2)
  go_ret
  exact ⟨rfl, hb⟩
set_option maxHeartbeats 8000000
theorem root_none (w : World) (L : Lay) (τ : Nat → Nat) (gt gd : Nat) (d : Dm) (T : TT) (Y : TY) (h : BT w L τ gt gd d T Y) (hl : T.live d tlN = 0) (ht : RoundTab w) :
    Calls Tryz.prog 25 #[.pointer (some ⟨gt, 0, none⟩), .int .i64 0] w fun e w' => e = .returned (.tuple #[.agg (dgA (rootP T.wd (T.L.take 0)).1), .nilIface]) ∧ Below w.heap.size w w' := by
  have h4 := h.t.sz
  obtain ⟨rb, hrb⟩ : ∃ rb, rb = w.heap.size := ⟨_, rfl⟩
  obtain ⟨w1, hw1⟩ : ∃ w1, w1 = w.alloc (.cells (dgA zDg.1) 38) := ⟨_, rfl⟩
  have hb1 : Below w.heap.size w w1 := by rw [hw1]; exact (Below.refl _ _).alloc (Nat.le_refl _) _
  have hz1 : w1.heap.size = rb + 1 := by rw [hw1, World.size_alloc]; omega
  have hg1 : w1.heap[rb]? = some (.cells (dgA zDg.1) 38 (0, 0)) := by rw [hw1, hrb]; exact heap_alloc_new _ _
  have HASK := Lib.hid (ask_any w1 L τ gt gd d T Y (h.below hb1) hl ⟨#[82, 111, 111, 116]⟩)
  obtain ⟨E, hE⟩ : ∃ E, E = dgA (rootP T.wd (T.L.take 0)).1 := ⟨_, rfl⟩
  have hNT := fun (wx : World) (hb : Below w.heap.size w wx) => show Calls Tryz.prog 60 #[.int .i64 T.wd] wx (fun e w' => e = .returned (.agg (dgA (rootP T.wd (T.L.take 0)).1)) ∧ Below wx.heap.size wx w') from nothing_dg wx T.wd (by have := h.t.wdb; omega) (by have := h.t.wdb; omega) (rt_below ht hb (by omega)) (by have := hb.size; omega)
  rw [← hE] at hNT
  have HNT := Lib.hid hNT
  have HE := Lib.hid hE
  have HES := Lib.hid (show E.size = 32 by rw [hE, dgA_size, (rootP T.wd (T.L.take 0)).2])
  have HE1 := Lib.hid (show E.all (·.oneCell') = true by rw [hE]; exact dgA_all _)
  obtain ⟨-, -, -, c3, c4, -⟩ := h.t.cells
  have HC3 := Lib.hid (show ∀ wx, Below w.heap.size w wx → wx.cell? ⟨gt, 3, none⟩ = some (.int .i64 T.wd) from fun wx hb => (hb.cell (h.t.dom gt (by rw [h.t.lg]; decide))).trans c3)
  have hc4 := (hb1.cell (h.t.dom gt (by rw [h.t.lg]; decide))).trans c4
  have HB1 := Lib.hid hb1; have HG1 := Lib.hid hg1; have HRB := Lib.hid hrb
  have b3 : decide ((0 : Int) ≤ (T.L.length : Int)) = true := by simp
  have hw1' : w.alloc (.cells #[.int .u8 0, .int .u8 0, .int .u8 0, .int .u8 0, .int .u8 0, .int .u8 0, .int .u8 0, .int .u8 0, .int .u8 0, .int .u8 0, .int .u8 0, .int .u8 0, .int .u8 0, .int .u8 0, .int .u8 0, .int .u8 0, .int .u8 0, .int .u8 0, .int .u8 0, .int .u8 0, .int .u8 0, .int .u8 0, .int .u8 0, .int .u8 0, .int .u8 0, .int .u8 0, .int .u8 0, .int .u8 0, .int .u8 0, .int .u8 0, .int .u8 0, .int .u8 0] 38) = w1 := hw1.symm
  have hz1' : w1.heap.size = rb + 1 := hz1
  have hrb' : w.heap.size = rb := hrb.symm
  clear h hl ht h4 hrb hw1 hb1 hz1 hg1 c3 hNT hE
  go_enter Tryz.func25, Tryz.ntmps25
  go_wp2_with (first
    | (go_at_call 59; refine HASK.out.mono ?_; rintro e w2 ⟨rfl, hb2⟩; have HB2 := Lib.hid (HB1.out.trans (hb2.mono HB1.out.size)); have HG2 := Lib.hid ((hb2.block rb (by omega)).trans HG1.out); have c3 := HC3.out w2 HB2.out; clear hb2)
    | (go_at_call 60; refine (HNT.out _ HB2.out).mono ?_; rintro e w6 ⟨rfl, hb6⟩; have HB6 := Lib.hid (HB2.out.trans (hb6.mono HB2.out.size)); have HG6 := Lib.hid ((hb6.block rb (Array.getElem?_eq_some_iff.1 HG2.out).1).trans HG2.out); have HTH6 := Lib.hid (there_block HG6.out); clear hb6)
    | (refine wpList_store_mid rfl 38 (.tmp 4) (.tmp 32) (by rfl) rb 0 E (by rfl) (by rfl) (by rw [HES.out]; exact HTH6.out) (by rw [HES.out]; exact info38) HE1.out ?_))
  have HGF := Lib.hid (setCells_all HG6.out E.toList (by rw [Array.length_toList, HES.out]; rfl))
  have HB9 := Lib.hid (HB6.out.grown (setCells_grown rb E.toList 0 w6) HB6.out.size (fun k hk => by rw [← Option.some.inj hk, HRB.out]; exact Nat.le_refl _))
  have HGF9 := Lib.hid (show (w6.setCells rb 0 E.toList).heap[rb]? = some (.cells E 38 (0, 0)) by have := HGF.out; simpa using this)
  generalize w6.setCells rb 0 E.toList = w9 at *
  clear HTH6 HGF
  refine bodyPost_ret (v := .tuple #[.agg E, .nilIface]) (results_row_tmp (p := 4) (u := 5) (ty := 38) rfl _ _ rb 38 E (0, 0) _ rfl HGF9.out Tryz.underlying38 rfl (by rw [HES.out]; exact info38)) rfl ⟨by rw [HE.out], HB9.out⟩
theorem root_some (w : World) (L : Lay) (τ : Nat → Nat) (gt gd : Nat) (d : Dm) (T : TT) (Y : TY) (h : BT w L τ gt gd d T Y) (hl : T.live d tlN = 0) (ht : RoundTab w) (htz : TabAt 1 Lib.deBruijn64tab w) (n : Nat) (h0 : 0 < n) (hn : n ≤ T.L.length) :
    Calls Tryz.prog 25 #[.pointer (some ⟨gt, 0, none⟩), .int .i64 (n : Int)] w fun e w' => e = .returned (.tuple #[.agg (dgA (rootP T.wd (T.L.take n)).1), .nilIface]) ∧ Below w.heap.size w w' := by
  have hfew := h.t.few
  have h4 := h.t.sz
  obtain ⟨rb, hrb⟩ : ∃ rb, rb = w.heap.size := ⟨_, rfl⟩
  obtain ⟨w1, hw1⟩ : ∃ w1, w1 = w.alloc (.cells (dgA zDg.1) 38) := ⟨_, rfl⟩
  have hb1 : Below w.heap.size w w1 := by rw [hw1]; exact (Below.refl _ _).alloc (Nat.le_refl _) _
  have hz1 : w1.heap.size = rb + 1 := by rw [hw1, World.size_alloc]; omega
  have hg1 : w1.heap[rb]? = some (.cells (dgA zDg.1) 38 (0, 0)) := by rw [hw1, hrb]; exact heap_alloc_new _ _
  obtain ⟨sp, hsp⟩ : ∃ sp, sp = spL 0 n := ⟨_, rfl⟩
  have hfo := fold_spots T.wd T.L n n 0 (Nat.le_refl _) (Al.zero n) h0 (by omega) (by omega)
  rw [← hsp, List.drop_zero] at hfo
  have hlv := spL_level n n 0 (Nat.le_refl _) (Al.zero n) (by omega)
  rw [← hsp] at hlv
  have hle := spL_len n n 0 (Nat.le_refl _)
  rw [← hsp] at hle
  have hpos : 0 < sp.length := by rw [hsp, spL_pos _ _ h0]; simp
  have HASK := Lib.hid (ask_any w1 L τ gt gd d T Y (h.below hb1) hl ⟨#[82, 111, 111, 116]⟩)
  have HSP := Lib.hid (fun (wx : World) (hb : Below w.heap.size w wx) => show Calls Tryz.prog 61 #[.int .i64 0, .int .i64 (n : Int)] wx (fun e w' => ∃ a m c, e = .returned (.slice a m c) ∧ m = sp.length ∧ w'.ownsRow wx.heap.size 133 2 (.slice a m c) m (sp.flatMap spE) ∧ Below wx.heap.size wx w') by
    have := spots_any wx 0 n (Nat.zero_le _) (by omega) (Al.zero _) (tab_below htz hb (by omega)) (by have := hb.size; omega)
    rw [Nat.sub_zero, ← hsp] at this
    exact this)
  have HAT := Lib.hid (fun (wx : World) (hb : Below w.heap.size w wx) (q i : Nat) (hq : (q, i) ∈ sp) => show Calls Tryz.prog 62 #[.pointer (some ⟨gt, 0, none⟩), .agg #[.int .i64 (q : Int), .int .i64 (i : Int)]] wx (fun e w' => e = .returned (.agg (dgA (spotD T.wd T.L (q, i)).1)) ∧ Below wx.heap.size wx w') by
    have hh := hlv _ hq
    refine at_any wx τ gt gd T Y (h.t.below hb) q i ?_ ?_ (rt_below ht hb (by omega))
    · rcases Nat.lt_or_ge q 16 with e | e
      · exact e
      · have : 2 ^ 16 ≤ 2 ^ q := Nat.pow_le_pow_right (by decide) e
        have h2 : 2 ^ q ≤ n := by simpa using hh.2
        omega
    · have h2 : i * 2 ^ q + 2 ^ q ≤ 0 + n := hh.1
      rw [Nat.add_mul, Nat.one_mul]
      omega)
  have HFOLD := Lib.hid (fun (wx : World) (hb : Below w.heap.size w wx) (a : Option Addr) (m c : Nat) (hds : DS wx a m c (sp.map (spotD T.wd T.L))) (hm : m = sp.length) => hfo ▸ fold_any wx T.wd (by have := h.t.wdb; omega) (by have := h.t.wdb; omega) a m c _ hds (by omega) (by omega) (rt_below ht hb (by omega)) (by have := hb.size; omega))
  obtain ⟨-, -, -, c3, c4, -⟩ := h.t.cells
  have hc3 : ∀ wx, Below w.heap.size w wx → wx.cell? ⟨gt, 3, none⟩ = some (.int .i64 T.wd) := fun wx hb => (hb.cell (h.t.dom gt (by rw [h.t.lg]; decide))).trans c3
  have hc4 := (hb1.cell (h.t.dom gt (by rw [h.t.lg]; decide))).trans c4
  have HC3 := Lib.hid hc3
  have HB1 := Lib.hid hb1; have HG1 := Lib.hid hg1; have HRB := Lib.hid hrb
  have HN := Lib.hid (And.intro h0 (And.intro hn (And.intro hfew (And.intro hle hpos))))
  have b1 : ((n : Int) == 0) = false := by simp; omega
  have b2 : decide ((0 : Int) ≤ (n : Int)) = true := by simp
  have b3 : decide ((n : Int) ≤ (T.L.length : Int)) = true := by simp; omega
  have b4 : decide (n ≤ T.L.length) = true := by simp; omega
  have hw1' : w.alloc (.cells #[.int .u8 0, .int .u8 0, .int .u8 0, .int .u8 0, .int .u8 0, .int .u8 0, .int .u8 0, .int .u8 0, .int .u8 0, .int .u8 0, .int .u8 0, .int .u8 0, .int .u8 0, .int .u8 0, .int .u8 0, .int .u8 0, .int .u8 0, .int .u8 0, .int .u8 0, .int .u8 0, .int .u8 0, .int .u8 0, .int .u8 0, .int .u8 0, .int .u8 0, .int .u8 0, .int .u8 0, .int .u8 0, .int .u8 0, .int .u8 0, .int .u8 0, .int .u8 0] 38) = w1 := hw1.symm
  have hz1' : w1.heap.size = rb + 1 := hz1
  have hrb' : w.heap.size = rb := hrb.symm
  clear h hl ht htz h0 hn hfew h4 hrb hw1 hb1 hz1 hg1 hsp hfo hlv hle hpos c3 hc3
  go_enter Tryz.func25, Tryz.ntmps25
  go_wp2_with (first
    | (go_at_call 59; refine HASK.out.mono ?_; rintro e w2 ⟨rfl, hb2⟩; have HB2 := Lib.hid (HB1.out.trans (hb2.mono HB1.out.size)); have HG2 := Lib.hid ((hb2.block rb (by omega)).trans HG1.out); clear hb2)
    | (go_at_call 61; refine (HSP.out _ HB2.out).mono ?_; rintro e w3 ⟨a, m, c, rfl, hm, ho, hb3⟩; have HM := Lib.hid hm; have HO := Lib.hid ho; have HB3 := Lib.hid (HB2.out.trans (hb3.mono HB2.out.size)); have HG3 := Lib.hid ((hb3.block rb (Array.getElem?_eq_some_iff.1 HG2.out).1).trans HG2.out); clear hm ho hb3))
  obtain ⟨gs, cs, hsl, hgs, -⟩ := HO.out.form (by rw [HM.out]; exact HN.out.2.2.2.2)
  obtain ⟨rfl, -, rfl⟩ := Value.slice.inj hsl
  have hrs : RS 2 spE w3 (some ⟨gs, 0, none⟩) m c sp := RS.of_owns HO.out (by decide) (fun _ => rfl) (by have := HM.out; have := HN.out; omega)
  have HRS := Lib.hid hrs
  clear hrs hsl hgs b1 b2 b3 b4 hw1' hz1' c4 hc4
  have HW := Lib.hid hrb'
  clear hrb'
  go_loopw [7, 36] (fun v u wr => ∃ k : Nat, k ≤ m ∧ u = .int .i64 (k : Int) ∧ wr.ownsRow w3.heap.size 38 32 v k (((sp.take k).map (spotD T.wd T.L)).flatMap dgE) ∧ Below w3.heap.size w3 wr) (fun _ u _ => m - (intOf u).toNat)
  case atStart => exact ⟨0, Nat.zero_le _, rfl, World.ownsRow_nil _ _ _ _, Below.refl _ _⟩
  case round =>
    obtain ⟨k, hk, rfl, ho, hb⟩ := hrel
    have HO := Lib.hid ho; have HB := Lib.hid hb; have HK := Lib.hid hk
    by_cases hlt : k < m
    · obtain ⟨s, hs⟩ : ∃ s, sp[k]? = some s := ⟨_, List.getElem?_eq_getElem (by have := HM.out; omega)⟩
      obtain ⟨q, i⟩ := s
      have hmem : (q, i) ∈ sp := List.mem_of_getElem? hs
      obtain ⟨E, hE⟩ : ∃ E, E = dgA (spotD T.wd T.L (q, i)).1 := ⟨_, rfl⟩
      have hES : E.size = 32 := by rw [hE, dgA_size, (spotD T.wd T.L (q, i)).2]
      have HE1 := Lib.hid (show ∀ u ∈ E.toList, u.oneCell' = true from fun u hu => by
        rw [hE] at hu
        exact Array.all_eq_true'.1 (dgA_all _) u (Array.mem_toList_iff.1 hu))
      obtain ⟨D, hD⟩ : ∃ D : Array Value, D = #[.int .i64 (q : Int), .int .i64 (i : Int)] := ⟨_, rfl⟩
      have hDS : D.size = 2 := by rw [hD]; rfl
      have HD1 := Lib.hid (show D.all (·.oneCell') = true by rw [hD]; exact all_oneCell_toArray (cs := [.int .i64 (q : Int), .int .i64 (i : Int)]) (by intro v hv; simp only [List.mem_cons, List.not_mem_nil, or_false] at hv; rcases hv with rfl | rfl <;> rfl))
      have hat := fun (wx : World) (hb : Below w.heap.size w wx) => HAT.out wx hb q i hmem
      rw [← hD, ← hE] at hat
      have HATK := Lib.hid hat
      have hr : wr.rangeAt gs (0 + k * 2) #[.int .i64 (q : Int), .int .i64 (i : Int)].toList := fun j v hv => (hb.cell (World.block_lt_of_cell? w3 _ (HRS.out.cell k (q, i) hs j v hv))).trans (HRS.out.cell k (q, i) hs j v hv)
      rw [← hD] at hr
      obtain ⟨r0, hr0⟩ : ∃ r0, r0 = wr.heap.size := ⟨_, rfl⟩
      obtain ⟨w4, hw4⟩ : ∃ w4, w4 = wr.alloc (.cells #[.int .i64 0, .int .i64 0] 133) := ⟨_, rfl⟩
      have hO4 : w4.heap[r0]? = some (.cells #[.int .i64 0, .int .i64 0] 133 (0, 0)) := by rw [hw4, hr0]; exact heap_alloc_new _ _
      have hth : w4.there r0 0 2 := there_block hO4
      have h1 := setCells_all hO4 D.toList (by rw [Array.length_toList, hDS]; rfl)
      have hb4 : Below wr.heap.size wr w4 := by rw [hw4]; exact (Below.refl _ _).alloc (Nat.le_refl _) _
      have hb5 : Below wr.heap.size wr (w4.setCells r0 0 D.toList) := hb4.grown (setCells_grown _ _ _ _) hb4.size (fun k hk => by rw [← Option.some.inj hk]; omega)
      have HB5 := Lib.hid hb5
      have HG5 := Lib.hid (show (w4.setCells r0 0 D.toList).heap[r0]? = some (.cells D 133 (0, 0)) by simpa using h1)
      have HDS := Lib.hid hDS
      have HTH := Lib.hid hth
      have HR := Lib.hid hr
      have HES := Lib.hid hES
      have HMEM := Lib.hid hmem
      have HHE := Lib.hid hE
      have HS := Lib.hid (show (((sp.take (k + 1)).map (spotD T.wd T.L)).flatMap dgE) = ((sp.take k).map (spotD T.wd T.L)).flatMap dgE ++ E.toList by
        rw [List.take_add_one, hs, hE]; simp [dgE, dgA])
      have hw4' : wr.alloc (.cells #[.int .i64 0, .int .i64 0] 133) = w4 := hw4.symm
      have hr0' : wr.heap.size = r0 := hr0.symm
      have h9 : decide ((k : Int) < (m : Int)) = true := by simp; omega
      have h8 : decide (k < m) = true := by simp; omega
      have HLT := Lib.hid hlt
      have hk6 : k ≤ 1000000 := by have := HM.out; have := HN.out; omega
      have HK6 := Lib.hid hk6
      clear hk ho hb hlt hs hmem hE hES hr hr0 hw4 hO4 hth h1 hb4 hb5 hD hDS hat
      go_wp2_with (first
        | (refine L_load_arr rfl 133 (.tmp 38) (by rfl) gs (0 + k * 2) (by simp only [Nat.zero_add]; rfl) D _ HR.out Tryz.underlying133 rfl (by rw [HDS.out]; exact info133) ?_)
        | (refine wpList_store_mid rfl 133 (.tmp 9) (.tmp 39) (by rfl) r0 0 D (by rfl) (by rfl) (by rw [HDS.out]; exact HTH.out) (by rw [HDS.out]; exact info133) HD1.out ?_)
        | (refine wpList_load_row rfl 133 (.tmp 9) (by rfl) r0 (by rfl) 133 D (0, 0) _ HG5.out Tryz.underlying133 rfl (by rw [HDS.out]; exact info133) ?_)
        | (go_at_call 62; refine (HATK.out _ (HB3.out.trans ((HB.out.trans (HB5.out.mono HB.out.size)).mono HB3.out.size))).mono ?_; rintro e w6 ⟨rfl, hb6⟩; have HB6 := Lib.hid (HB5.out.trans (hb6.mono HB5.out.size)); clear hb6)
        | (refine L_build1 rfl (.tmp 43) (by rfl) E (by rfl) HES.out ?_; have ho6 := (own_below HO.out HB6.out).alloc (.cells E 38); have hc6 : ∀ j u, E.toList[j]? = some u → (w6.alloc (.cells E 38)).cell? ((⟨w6.heap.size, 0, none⟩ : Addr).add j) = some u := fun j u hu => cellA E 38 w6 j u hu; have hb6 := HB6.out.alloc HB6.out.size (.cells E 38); have hs6 : w3.heap.size ≤ (w6.alloc (.cells E 38)).heap.size := Nat.le_trans HB.out.size hb6.size; refine L_appendN rfl (.tmp 40) (.tmp 44) 23 (by rfl) sl23 w3.heap.size _ k _ (by rfl) ho6 ⟨w6.heap.size, 0, none⟩ 1 1 E.toList (by rfl) (by rw [Array.length_toList, HES.out]) hc6 HE1.out (by have := HK6.out; omega) (by have := HK6.out; simp [maxLen]; omega) hs6 (fun a8 c8 w8 ho8 hg8 hat8 => ?_); have HO8 := Lib.hid ho8; have HB8 := Lib.hid ((HB.out.trans (hb6.mono HB.out.size)).grown hg8 (Nat.le_trans HB.out.size hb6.size) (fun k hk => (ho6.lt k hk).1)); clear ho8 hg8 hat8 ho6 hc6 hb6 hs6))
      refine ⟨⟨k + 1, HLT.out, by push_cast; rfl, by rw [HS.out]; exact HO8.out, HB8.out⟩, ?_⟩
      have := HLT.out
      simp [intOf]; omega
    · obtain rfl : k = m := by omega
      have htk : sp.take k = sp := List.take_of_length_le (by rw [HM.out]; exact Nat.le_refl _)
      rw [htk] at ho
      obtain ⟨g7, c7, rfl, hg7, -⟩ := ho.form (by rw [HM.out]; exact HN.out.2.2.2.2)
      have hds := DS.of_owns ho (by have := HM.out; have := HN.out; omega)
      have hbw := HB3.out.trans (hb.mono HB3.out.size)
      obtain ⟨E, hE⟩ : ∃ E, E = dgA (rootP T.wd (T.L.take n)).1 := ⟨_, rfl⟩
      have hfo := HFOLD.out wr hbw _ _ _ hds HM.out
      rw [← hE] at hfo
      have HFO := Lib.hid hfo
      have HE := Lib.hid hE
      have HES := Lib.hid (show E.size = 32 by rw [hE, dgA_size, (rootP T.wd (T.L.take n)).2])
      have HE1 := Lib.hid (show E.all (·.oneCell') = true by rw [hE]; exact dgA_all _)
      have c3 := HC3.out wr hbw
      have HBW := Lib.hid hbw
      have HGR := Lib.hid ((hb.block rb (Array.getElem?_eq_some_iff.1 HG3.out).1).trans HG3.out)
      have h9 : decide ((k : Int) < (k : Int)) = false := by simp
      have h8 : decide (k < k) = false := by simp
      clear ho hb hbw hds hfo hE hlt hk htk hg7
      go_wp2_with (first
        | (go_at_call 63; refine HFO.out.mono ?_; rintro e w6 ⟨rfl, hb6⟩; have HB6 := Lib.hid (HBW.out.trans (hb6.mono HBW.out.size)); have HG6 := Lib.hid ((hb6.block rb (Array.getElem?_eq_some_iff.1 HGR.out).1).trans HGR.out); have HTH6 := Lib.hid (there_block HG6.out); clear hb6)
        | (refine wpList_store_mid rfl 38 (.tmp 4) (.tmp 52) (by rfl) rb 0 E (by rfl) (by rfl) (by rw [HES.out]; exact HTH6.out) (by rw [HES.out]; exact info38) HE1.out ?_))
      have HGF := Lib.hid (setCells_all HG6.out E.toList (by rw [Array.length_toList, HES.out]; rfl))
      have HB9 := Lib.hid (HB6.out.grown (setCells_grown rb E.toList 0 w6) HB6.out.size (fun k hk => by rw [← Option.some.inj hk, HRB.out]; exact Nat.le_refl _))
      have HGF9 := Lib.hid (show (w6.setCells rb 0 E.toList).heap[rb]? = some (.cells E 38 (0, 0)) by have := HGF.out; simpa using this)
      generalize w6.setCells rb 0 E.toList = w9 at *
      clear HTH6 HGF
      refine bodyPost_ret (v := .tuple #[.agg E, .nilIface]) (results_row_tmp (p := 4) (u := 5) (ty := 38) rfl _ _ rb 38 E (0, 0) _ rfl HGF9.out Tryz.underlying38 rfl (by rw [HES.out]; exact info38)) rfl ⟨by rw [HE.out], HB9.out⟩
end Go.Proofs.YtgkehahklccacaaGreatDoor
namespace Go.Proofs.YtgkehahklccacaaGreatDoor
open Go Go.RowKit
set_option maxRecDepth 100000
set_option maxHeartbeats 1000000
set_option linter.unusedVariables false
set_option linter.unusedSimpArgs false

open Go.Maps Go.WideMaps Go.ChangeMaps
def opB : ByteArray := ⟨#[79, 112, 101, 110]⟩
/-- Open has refused its arguments. -/
def OpenNo (w : World) (e : Ending) (w' : World) : Prop := (∃ g, e = .returned (.tuple #[.pointer none, .iface 90 (.pointer (some ⟨g, 0, none⟩))]) ∧ w.heap.size ≤ g ∧ w'.heap[g]? = some (boxF tlB opB 1)) ∧ Below w.heap.size w w'
theorem open_no1 (w : World) (gd : Nat) : Calls Tryz.prog 21 #[.pointer none, .int .i64 1, .int .i64 0, .func (.func 20) #[] #[]] w fun e w' => OpenNo w e w' := by
  have hf := tfault_any w opB 1
  have hn1 : ∀ wx, (binOp .eql 58 (.func (.func 20) #[] #[]) .nilFunc).run Tryz.prog wx = .ok (.bool false) wx := fun wx => by kernel_rfl
  have hn2 : ∀ wx, (binOp .eql 58 .nilFunc .nilFunc).run Tryz.prog wx = .ok (.bool true) wx := fun wx => by kernel_rfl
  go_enter Tryz.func21, Tryz.ntmps21
  go_wp2_with (go_at_call 48; refine hf.mono ?_; rintro e w' ⟨⟨g, rfl, hg, hh⟩, hb⟩)
  go_ret2
  exact ⟨⟨g, rfl, hg, hh⟩, hb⟩
theorem open_no2 (w : World) (gd : Nat) : Calls Tryz.prog 21 #[.pointer (some ⟨gd, 0, none⟩), .int .i64 1, .int .i64 0, .nilFunc] w fun e w' => OpenNo w e w' := by
  have hf := tfault_any w opB 1
  have hn1 : ∀ wx, (binOp .eql 58 (.func (.func 20) #[] #[]) .nilFunc).run Tryz.prog wx = .ok (.bool false) wx := fun wx => by kernel_rfl
  have hn2 : ∀ wx, (binOp .eql 58 .nilFunc .nilFunc).run Tryz.prog wx = .ok (.bool true) wx := fun wx => by kernel_rfl
  go_enter Tryz.func21, Tryz.ntmps21
  go_wp2_with (go_at_call 48; refine hf.mono ?_; rintro e w' ⟨⟨g, rfl, hg, hh⟩, hb⟩)
  go_ret2
  exact ⟨⟨g, rfl, hg, hh⟩, hb⟩
theorem open_no3 (w : World) (gd : Nat) : Calls Tryz.prog 21 #[.pointer (some ⟨gd, 0, none⟩), .int .i64 0, .int .i64 0, .func (.func 20) #[] #[]] w fun e w' => OpenNo w e w' := by
  have hf := tfault_any w opB 1
  have hn1 : ∀ wx, (binOp .eql 58 (.func (.func 20) #[] #[]) .nilFunc).run Tryz.prog wx = .ok (.bool false) wx := fun wx => by kernel_rfl
  have hn2 : ∀ wx, (binOp .eql 58 .nilFunc .nilFunc).run Tryz.prog wx = .ok (.bool true) wx := fun wx => by kernel_rfl
  go_enter Tryz.func21, Tryz.ntmps21
  go_wp2_with (go_at_call 48; refine hf.mono ?_; rintro e w' ⟨⟨g, rfl, hg, hh⟩, hb⟩)
  go_ret2
  exact ⟨⟨g, rfl, hg, hh⟩, hb⟩
theorem open_no4 (w : World) (gd : Nat) : Calls Tryz.prog 21 #[.pointer (some ⟨gd, 0, none⟩), .int .i64 33, .int .i64 0, .func (.func 20) #[] #[]] w fun e w' => OpenNo w e w' := by
  have hf := tfault_any w opB 1
  have hn1 : ∀ wx, (binOp .eql 58 (.func (.func 20) #[] #[]) .nilFunc).run Tryz.prog wx = .ok (.bool false) wx := fun wx => by kernel_rfl
  have hn2 : ∀ wx, (binOp .eql 58 .nilFunc .nilFunc).run Tryz.prog wx = .ok (.bool true) wx := fun wx => by kernel_rfl
  go_enter Tryz.func21, Tryz.ntmps21
  go_wp2_with (go_at_call 48; refine hf.mono ?_; rintro e w' ⟨⟨g, rfl, hg, hh⟩, hb⟩)
  go_ret2
  exact ⟨⟨g, rfl, hg, hh⟩, hb⟩
theorem open_no5 (w : World) (gd : Nat) : Calls Tryz.prog 21 #[.pointer (some ⟨gd, 0, none⟩), .int .i64 32, .int .i64 (-1), .func (.func 20) #[] #[]] w fun e w' => OpenNo w e w' := by
  have hf := tfault_any w opB 1
  have hn1 : ∀ wx, (binOp .eql 58 (.func (.func 20) #[] #[]) .nilFunc).run Tryz.prog wx = .ok (.bool false) wx := fun wx => by kernel_rfl
  have hn2 : ∀ wx, (binOp .eql 58 .nilFunc .nilFunc).run Tryz.prog wx = .ok (.bool true) wx := fun wx => by kernel_rfl
  go_enter Tryz.func21, Tryz.ntmps21
  go_wp2_with (go_at_call 48; refine hf.mono ?_; rintro e w' ⟨⟨g, rfl, hg, hh⟩, hb⟩)
  go_ret2
  exact ⟨⟨g, rfl, hg, hh⟩, hb⟩
theorem open_no6 (w : World) (gd : Nat) : Calls Tryz.prog 21 #[.pointer (some ⟨gd, 0, none⟩), .int .i64 32, .int .i64 1099511627777, .func (.func 20) #[] #[]] w fun e w' => OpenNo w e w' := by
  have hf := tfault_any w opB 1
  have hn1 : ∀ wx, (binOp .eql 58 (.func (.func 20) #[] #[]) .nilFunc).run Tryz.prog wx = .ok (.bool false) wx := fun wx => by kernel_rfl
  have hn2 : ∀ wx, (binOp .eql 58 .nilFunc .nilFunc).run Tryz.prog wx = .ok (.bool true) wx := fun wx => by kernel_rfl
  go_enter Tryz.func21, Tryz.ntmps21
  go_wp2_with (go_at_call 48; refine hf.mono ?_; rintro e w' ⟨⟨g, rfl, hg, hh⟩, hb⟩)
  go_ret2
  exact ⟨⟨g, rfl, hg, hh⟩, hb⟩
theorem refused_open (w : World) (g : Nat) (h : w.heap[g]? = some (boxF tlB opB 1)) : Calls Tryz.prog 23 #[.iface 90 (.pointer (some ⟨g, 0, none⟩)), .string tlB, .string opB, .int .i64 1] w fun e w' => e = .returned (.bool true) ∧ w' = w := by
  have his := is_same w _ _ _ 1 ⟨g, rfl, h⟩
  have c0 := cell_of_row w g 0 _ _ _ h
  have c1 := cell_of_row w g 1 _ _ _ h
  have c2 := cell_of_row w g 2 _ _ _ h
  simp only [List.getElem?_toArray, List.getElem?_cons_zero, List.getElem?_cons_succ] at c0 c1 c2
  clear h
  have hta : ∀ (v : Value) (wx : World), (Instr.typeAssert (.iface 90 v) 27 90 true).run Tryz.prog wx = .ok (.tuple #[v, .bool true]) wx := fun v wx => by kernel_rfl
  go_enter Tryz.func23, Tryz.ntmps23
  go_wp2_with (go_at_call 41; refine his.mono ?_; rintro e w' ⟨rfl, rfl⟩)
  go_ret
  exact ⟨rfl, rfl⟩
end Go.Proofs.YtgkehahklccacaaGreatDoor
namespace Go.Proofs.YtgkehahklccacaaGreatDoor
open Go Go.RowKit
set_option maxRecDepth 100000
set_option maxHeartbeats 1000000
set_option linter.unusedVariables false
set_option linter.unusedSimpArgs false

open Go.Maps Go.WideMaps Go.ChangeMaps
set_option maxHeartbeats 8000000
theorem open_loop20 (w0 w : World) (L : Lay) (τ : Nat → Nat) (gt gd : Nat) (d : Dm) (T : TT) (Y : TY) (fb m n : Nat) (M : Nat → Nat → Sc) (ls : List Dg) (h : OL w0 w L τ gt gd d T Y fb m M ls 0) (hp : Pre d) (hun : ∀ i, i < d.fs.length → (d.file i).units ≤ 9223372036854775806) (hcl : d.claims.length < 1000000) (hco : -4611686018427387904 ≤ d.claimOf tlN ∧ d.claimOf tlN ≤ 4611686018427387904)
    (hn : ls.length = n) (hn6 : n ≤ 60000) (hm : m ≤ n / 256) (ht : RoundTab w0) (h3 : 3 < w0.heap.size) 
    (hleaf : ∀ (i : Nat) (x : Dg) (wx : World), ls[i]? = some x → Below w0.heap.size w0 wx → Calls Tryz.prog 20 #[.int .i64 (i : Int)] wx fun e w' => e = .returned (.agg (dgA x.1)) ∧ Below wx.heap.size wx w') (u1 u4 u5 u6 u7 u8 u9 u10 u11 u14 u15 u16 u17 u18 u19 u20 u21 u22 u23 u24 u25 u26 u27 u28 u29 u30 u31 u32 u33 u34 u35 u36 u37 u38 u39 u40 u41 u42 u43 u44 u45 u46 u47 u48 u49 u50 u51 u52 u53 u54 u55 u56 u57 u58 u59 u60 u61 u62 u63 u64 u65 u66 u67 u68 u69 u70 u71 u72 u73 u74 u75 u76 u77 u78 u79 u80 u81 u82 u83 u84 u85 u86 u87 u88 u89 u90 u91 u92 u93 u94 u95 u96 u97 u98 u99 u100 u101 u102 u103 u104 u105 u106 u107 u108 u109 u110 u111 u112 u113 u114 u115 u116 u117 u118 u119 u120 u121 u122 u123 u124 u125 u126 u127 u128 u129 u130 u131 u132 u133 u134 u135 u136 u137 u138 u139 u140 u141 u142 u143 u144 u145 u146 u147 : Value) :
    Code.wp Tryz.prog (dropSeq 7 op0) (bodyPost Tryz.prog Tryz.f21 (OpRet w0 L gd d { T with held := m, l0 := looseB d, l1 := looseB d, cl := d.claimOf tlN + 1, L := ls })) ⟨#[.pointer (some ⟨gd, 0, none⟩), u1, .int .i64 (n : Int), .func (.func 20) #[] #[], u4, u5, u6, u7, u8, u9, u10, u11, .pointer (some ⟨gt, 0, none⟩), .map (some fb), u14, u15, u16, u17, u18, u19, u20, u21, u22, u23, u24, u25, u26, u27, u28, u29, u30, u31, u32, u33, u34, u35, u36, u37, u38, u39, u40, u41, u42, u43, u44, u45, u46, u47, u48, u49, u50, u51, u52, u53, u54, u55, u56, u57, u58, u59, u60, u61, u62, u63, u64, u65, u66, u67, u68, u69, u70, u71, u72, u73, u74, u75, u76, u77, u78, u79, u80, u81, u82, u83, u84, u85, u86, u87, u88, u89, u90, u91, u92, u93, u94, u95, u96, u97, u98, u99, u100, u101, u102, u103, u104, u105, u106, u107, u108, u109, u110, u111, u112, u113, u114, u115, u116, u117, u118, u119, u120, u121, u122, u123, u124, u125, u126, u127, u128, u129, u130, u131, u132, u133, u134, u135, u136, u137, u138, u139, u140, u141, u142, u143, u144, u145, u146, u147], []⟩ w := by
  have HX := Lib.hid (And.intro hp (And.intro hun (And.intro hcl (And.intro hco (And.intro hn (And.intro hn6 (And.intro hm (And.intro ht h3))))))))
  have HLF := Lib.hid hleaf
  have H := Lib.hid h
  clear h hp hun hcl hco hn hn6 hm ht h3 hleaf
  refine wp_two_k (c := dropSeq 7 op0) ⟨_, _, rfl⟩ fun K hK => ?_
  have HK := Lib.hid hK
  clear hK
  conv => arg 2; whnf
  go_wp2_with fail
  go_loopw [14] (fun _ wr => ∃ (k : Nat) (τ' : Nat → Nat) (Y' : TY), k ≤ n ∧ (k % 256 = 0 ∨ 256 * m ≤ k) ∧ OL w0 wr L τ' gt gd d T Y' fb m M ls k) (fun _ wr => n - opz wr gt)
  case atStart => exact ⟨0, τ, Y, Nat.zero_le _, .inl rfl, H.out⟩
  case round =>
    obtain ⟨k, τ1, Y1, hk, hka, hol⟩ := hrel
    have HOL := Lib.hid hol
    have HKA := Lib.hid hka
    have e4 := hol.bt.t.cells.2.2.2.2.1
    rw [show ({ T with L := ls.take k } : TT).L.length = k by show (ls.take k).length = k; rw [List.length_take]; have := HX.out.2.2.2.2.1; omega] at e4
    have HZ := Lib.hid (show opz wr gt = k by unfold opz; rw [e4]; simp [intOf])
    by_cases hlt : k < n
    · obtain ⟨x, hx⟩ : ∃ x, ls[k]? = some x := ⟨_, List.getElem?_eq_getElem (by rw [HX.out.2.2.2.2.1]; exact hlt)⟩
      obtain ⟨j, hj⟩ : ∃ j, j = k / 256 := ⟨_, rfl⟩
      have hkj : (k : Int) / 256 = (j : Int) := by omega
      have hk6 : k ≤ 60000 := by have := HX.out.2.2.2.2.2.1; omega
      have h9 : decide (k < n) = true := by simp; exact hlt
      have hlook := hol.fd.map.at.look_ok (l := 0) (j := j) (by decide) (by omega)
      have hl0 : (Instr.lookup 95 (.map (some fb)) (.agg #[.int .i64 0, .int .i64 (j : Int)]) true).run Tryz.prog wr = .ok (.tuple #[encS (M 0 j), .bool (M 0 j).isSome]) wr := hlook
      clear hlook
      have HLT := Lib.hid hlt
      have HJ := Lib.hid hj
      have HXX := Lib.hid hx
      by_cases hkm : k < 256 * m
      · obtain ⟨gl, hM, -, -, -, -⟩ := hol.fd.at_ j (by omega)
        have hk256 : k = 256 * j := by omega
        have hkr : (k : Int) % 256 = 0 := by omega
        rw [hM] at hl0
        have hlook : (Instr.lookup 95 (.map (some fb)) (.agg #[.int .i64 0, .int .i64 (j : Int)]) true).run Tryz.prog wr = .ok (.tuple #[.slice (some ⟨gl, 0, none⟩) 256 256, .bool true]) wr := hl0
        have HKM := Lib.hid hkm
        have HK256 := Lib.hid hk256
        have HM := Lib.hid hM
        clear hlt hk hka hol hx hj hkm hk256 hM hl0
        rename World => wo
        go_wp2_with fail
        clear hkr
        go_loopw [97] (fun v wr => ∃ (i : Nat) (τ' : Nat → Nat) (Y' : TY), i ≤ 256 ∧ v = .int .i64 (i : Int) ∧ OL w0 wr L τ' gt gd d T Y' fb m M ls (k + i)) (fun v _ => 256 - (intOf v).toNat)
        case atStart => exact ⟨0, τ1, Y1, by omega, rfl, HOL.out⟩
        case round =>
          obtain ⟨i, τ2, Y2, hi, rfl, hol⟩ := hrel
          have HO := Lib.hid hol
          by_cases hlt : i < 256
          · have hki : k + i < n := by have := HKM.out; have := HK256.out; have := HX.out.2.2.2.2.2.2.1; omega
            obtain ⟨x, hx⟩ : ∃ x, ls[k + i]? = some x := ⟨_, List.getElem?_eq_getElem (by rw [HX.out.2.2.2.2.1]; exact hki)⟩
            obtain ⟨g', q1, -, -, -, hds⟩ := hol.fd.at_ j (by have := HKM.out; have := HK256.out; omega)
            rw [HM.out] at q1
            cases q1
            have hcx : (chunk ls j)[i]? = some x := by unfold chunk; rw [List.getElem?_take, if_pos hlt, List.getElem?_drop, ← HK256.out]; exact hx
            obtain ⟨b', off', e1, hbl, hr⟩ := hds.at hcx
            cases e1
            obtain ⟨E, hE⟩ : ∃ E, E = dgA x.1 := ⟨_, rfl⟩
            have hES : E.size = 32 := by rw [hE, dgA_size, x.2]
            have HE1 := Lib.hid (show E.all (·.oneCell') = true by rw [hE]; exact dgA_all _)
            have hr : wr.rangeAt gl (0 + i * 32) E.toList := by rw [hE]; simpa [dgA] using hr
            obtain ⟨hb2, hg2, hth⟩ := new_dig wr E hES
            obtain ⟨r0, hr0⟩ : ∃ r0, r0 = wr.heap.size := ⟨_, rfl⟩
            obtain ⟨w1, hw1⟩ : ∃ w1, w1 = wr.alloc (.cells (dgA zDg.1) 38) := ⟨_, rfl⟩
            have hba : Below wr.heap.size wr w1 := by rw [hw1]; exact (Below.refl _ _).alloc (Nat.le_refl _) _
            have hr1 : w1.rangeAt gl (0 + i * 32) E.toList := fun q v hv => (World.cell?_of_block (hba.block gl hbl)).trans (hr q v hv)
            rw [← hw1] at hb2 hg2 hth
            have hw1' : wr.alloc (.cells #[.int .u8 0, .int .u8 0, .int .u8 0, .int .u8 0, .int .u8 0, .int .u8 0, .int .u8 0, .int .u8 0, .int .u8 0, .int .u8 0, .int .u8 0, .int .u8 0, .int .u8 0, .int .u8 0, .int .u8 0, .int .u8 0, .int .u8 0, .int .u8 0, .int .u8 0, .int .u8 0, .int .u8 0, .int .u8 0, .int .u8 0, .int .u8 0, .int .u8 0, .int .u8 0, .int .u8 0, .int .u8 0, .int .u8 0, .int .u8 0, .int .u8 0, .int .u8 0] 38) = w1 := hw1.symm
            have HGR := Lib.hid ((hol.below hb2).grow (by rw [HX.out.2.2.2.2.1]; exact HX.out.2.2.2.2.2.1) HX.out.2.2.2.2.2.2.2.1 hx HX.out.2.2.2.2.2.2.2.2)
            rw [← hE] at HGR
            rw [← hr0] at hg2 hth HGR
            have HES := Lib.hid hES; have HG2 := Lib.hid hg2; have HTH := Lib.hid hth; have HR := Lib.hid hr; have HR1 := Lib.hid hr1
            have h9 : decide ((i : Int) < 256) = true := by simp; omega
            have HLT2 := Lib.hid hlt
            have HR0 := Lib.hid hr0
            have hi6 : i ≤ 255 := by omega
            clear hlt hki hx hds hcx hbl hr hr1 hba hb2 hg2 hth hES hE hol hw1 hi hr0
            have HRR := HR0.out
            clear HRR
            go_wp2_with (first
              | (refine L_load_arr rfl 38 (.tmp 99) (by rfl) gl (0 + i * 32) (by simp only [Nat.zero_add]; rfl) E _ HR.out Tryz.underlying38 rfl (by rw [HES.out]; exact info38) ?_)
              | (rw [← HR0.out]; refine wpList_store_mid rfl 38 (.tmp 17) (.tmp 100) (by rfl) r0 0 E (by rfl) (by rfl) HTH.out (by rw [HES.out]; exact info38) HE1.out ?_)
              | (refine wpList_load_row rfl 38 (.tmp 17) (by rfl) r0 (by rfl) 38 E (0, 0) _ HG2.out Tryz.underlying38 rfl (by rw [HES.out]; exact info38) ?_)
              | (go_at_call 49; refine HGR.out.mono ?_; rintro e w3 ⟨rfl, τ3, Y3, hol3⟩; have HOL3 := Lib.hid hol3; clear hol3))
            refine ⟨⟨i + 1, τ3, Y3, HLT2.out, by go_num, HOL3.out⟩, ?_⟩
            have := HLT2.out
            simp [intOf]; omega
          · obtain rfl : i = 256 := by omega
            have h9 : decide (((256 : Nat) : Int) < 256) = false := by decide
            clear hlt hi hol
            have hkn : k + 255 < n := by have := HKM.out; have := HK256.out; have := HX.out.2.2.2.2.2.2.1; omega
            have hz2 := OL.opz (k := k + 255) HO.out (by rw [HX.out.2.2.2.2.1]; exact hkn)
            have HKN := Lib.hid hkn
            have HZ2 := Lib.hid hz2
            clear hkn hz2
            go_wp2_with fail
            refine ⟨⟨k + 256, τ2, Y2, by have := HKN.out; omega, .inl (by have := HK256.out; omega), HO.out⟩, ?_⟩
            have := HKN.out
            rw [HZ2.out, HZ.out]; omega
      · rw [hol.fd.no 0 j (by omega)] at hl0
        have hlook : (Instr.lookup 95 (.map (some fb)) (.agg #[.int .i64 0, .int .i64 (j : Int)]) true).run Tryz.prog wr = .ok (.tuple #[.slice none 0 0, .bool false]) wr := hl0
        have HKM := Lib.hid hkm
        have HLC := Lib.hid (HLF.out k x wr hx hol.hb)
        clear hlt hk hka hol hx hj hkm hl0
        go_wp2_with (first
          | (go_at_call 20; refine HLC.out.mono ?_; rintro e w2 ⟨rfl, hb2⟩; have HGR := Lib.hid ((HOL.out.below hb2).grow (by rw [HX.out.2.2.2.2.1]; exact HX.out.2.2.2.2.2.1) HX.out.2.2.2.2.2.2.2.1 HXX.out HX.out.2.2.2.2.2.2.2.2); clear hb2)
          | (go_at_call 49; refine HGR.out.mono ?_; rintro e w3 ⟨rfl, τ2, Y2, hol2⟩; have HOL2 := Lib.hid hol2; clear hol2))
        have hz2 := HOL2.out.opz (by rw [HX.out.2.2.2.2.1]; exact HLT.out)
        refine ⟨⟨k + 1, τ2, Y2, HLT.out, .inr (by have := HKM.out; omega), HOL2.out⟩, ?_⟩
        have := HLT.out
        rw [hz2, HZ.out]; omega
    · obtain rfl : k = n := by omega
      have h9 : decide (k < k) = false := by simp
      have hlk : ls.take k = ls := List.take_of_length_le (by rw [HX.out.2.2.2.2.1]; exact Nat.le_refl _)
      clear hlt hk hka hol
      go_wp2_with fail
      refine HK.out _ _ ?_
      rw [dropSeq_succ]
      have hbt := HOL.out.bt
      rw [hlk] at hbt
      exact open_tail w0 wr L τ1 gt gd d { T with L := ls } Y1 hbt HOL.out.hb HOL.out.new HX.out.1 HX.out.2.1 HX.out.2.2.1 HX.out.2.2.2.1 fb m (chunk ls) M HOL.out.fd (by have := HX.out.2.2.2.2.2.2.1; have := HX.out.2.2.2.2.2.1; omega) _ _ _ _ _ _ _ _ _ _ _ _ _ _ _ _ _ _ _ _ _ _ _ _ _ _ _ _ _ _ _ _ _ _ _ _ _ _ _ _ _ _ _ _ _ _ _ _ _ _ _ _ _ _ _ _ _ _ _ _ _ _ _ _ _ _ _ _ _ _ _ _ _ _ _ _ _ _ _ _ _ _ _ _ _ _ _ _ _ _ _ _ _ _ _ _ _ _ _ _ _ _ _ _ _ _ _ _ _ _ _ _ _ _ _ _ _ _ _ _ _ _ _ _ _ _ _ _ _ _ _ _ _ _ _ _ _ _ _ _ _ _ _ _ _ 
theorem open_any20 (w : World) (L : Lay) (gd : Nat) (d : Dm) (h : DAt w L gd d) (hp : Pre d) (hpw : d.power = true) (hun : ∀ i, i < d.fs.length → (d.file i).units ≤ 9223372036854775806) (hcl : d.claims.length < 1000000) (hco : -4611686018427387904 ≤ d.claimOf tlN ∧ d.claimOf tlN ≤ 4611686018427387904)
    (wd : Int) (hwd : 1 ≤ wd ∧ wd ≤ 32) (ls : List Dg) (n : Nat) (hn : ls.length = n) (hn6 : n ≤ 60000) (m : Nat) (hm : m ≤ n / 256) (rest : List UInt8) (hB : (wholeD d).1 = tilesQ wd.toNat (chunk ls) m ++ rest) (hw0 : (wholeD d).2 = 0)
    (hl0 : -9223372036854775808 ≤ (d.length tlN).1) (hl1 : (d.length tlN).1 ≤ 9223372036854775807) (hlB : (wholeD d).1.length ≤ 281474976710656) (hno : m < n / 256 → 8207 ≤ rest.length → TakeNo wd.toNat m (rest.take 8207)) (hh : HalfTab w) (ht : RoundTab w) (h4 : 4 ≤ w.heap.size) 
    (hleaf : ∀ (i : Nat) (x : Dg) (wx : World), ls[i]? = some x → Below w.heap.size w wx → Calls Tryz.prog 20 #[.int .i64 (i : Int)] wx fun e w' => e = .returned (.agg (dgA x.1)) ∧ Below wx.heap.size wx w') :
    Calls Tryz.prog 21 #[.pointer (some ⟨gd, 0, none⟩), .int .i64 wd, .int .i64 (n : Int), .func (.func 20) #[] #[]] w (OpRet w L gd d ⟨d.epoch, d.claimOf tlN + 1, wd, m, looseB d, looseB d, ls⟩) := by
  have hnf : ∀ wx, (binOp .eql 58 (.func (.func 20) #[] #[]) .nilFunc).run Tryz.prog wx = .ok (.bool false) wx := fun wx => by kernel_rfl
  have HPW := Lib.hid (power_any w L gd d h)
  rw [hpw] at HPW
  have HWH := Lib.hid (whole_any w L gd d h hp hl0 hl1)
  have H := Lib.hid h
  have HX := Lib.hid (And.intro hp (And.intro hun (And.intro hcl (And.intro hco (And.intro hn (And.intro hn6 (And.intro hm (And.intro ht h4))))))))
  have HB := Lib.hid (And.intro hB (And.intro hw0 (And.intro hlB hno)))
  have HH := Lib.hid hh
  have HLF := Lib.hid hleaf
  have HWD := Lib.hid hwd
  have d1 : decide (wd < 1) = false := by simp; omega
  have d2 : decide (32 < wd) = false := by simp; omega
  have d3 : decide ((n : Int) < 0) = false := by simp
  have d4 : decide (1099511627776 < (n : Int)) = false := by simp; omega
  clear h hp hpw hun hcl hco hwd hn hn6 hm hB hw0 hl0 hl1 hlB hno hh ht h4 hleaf
  go_enter Tryz.func21, Tryz.ntmps21
  refine wp_two_k (c := op0) ⟨_, _, rfl⟩ fun K hK => ?_
  have HK := Lib.hid hK
  clear hK
  conv => arg 2; whnf
  go_wp2_with fail
  refine HK.out _ _ ?_
  clear HK K
  refine wp_two_k (c := dropSeq 1 op0) ⟨_, _, rfl⟩ fun K hK => ?_
  have HK := Lib.hid hK
  clear hK
  conv => arg 2; whnf
  go_wp2_with fail
  refine HK.out _ _ ?_
  clear HK K
  rw [dropSeq_succ]
  clear d1 d2 d3 d4 hnf
  refine wp_two_k (c := dropSeq 2 op0) ⟨_, _, rfl⟩ fun K hK => ?_
  have HK := Lib.hid hK
  clear hK
  conv => arg 2; whnf
  go_wp2_with (go_at_call 15; refine HPW.out.mono ?_; rintro e wx ⟨rfl, hw⟩; have hw := hw.symm; subst hw)
  refine HK.out _ _ ?_
  clear HK K
  rw [dropSeq_succ]
  refine wp_two_k (c := dropSeq 3 op0) ⟨_, _, rfl⟩ fun K hK => ?_
  have HK := Lib.hid hK
  clear hK
  conv => arg 2; whnf
  go_wp2_with (go_at_call 55; refine HWH.out.mono ?_; rintro e w1 ⟨hb1, sa, sn, sc, v, rfl, ho, hm, hv⟩; rw [HB.out.2.1] at hv; obtain rfl : v = .nilIface := (hv.resolve_right fun q => q.1 rfl).2; have HB1 := Lib.hid hb1; have HO := Lib.hid ho; have HM := Lib.hid hm; clear hv hb1 ho hm)
  refine HK.out _ _ ?_
  clear HK K
  rw [dropSeq_succ]
  refine wp_two_k (c := dropSeq 4 op0) ⟨_, _, rfl⟩ fun K hK => ?_
  have HK := Lib.hid hK
  clear hK
  conv => arg 2; whnf
  go_wp2_with fail
  refine HK.out _ _ ?_
  clear HK K
  rw [dropSeq_succ]
  have HEP := Lib.hid (epoch_any w1 L gd d (H.out.below HB1.out))
  obtain ⟨ep, hep⟩ : ∃ ep : Int, ep = (d.epoch : Int) := ⟨_, rfl⟩
  rw [← hep] at HEP ⊢
  clear hep
  have hmm := @run_makeMap Tryz.prog
  refine wp_two_k (c := dropSeq 5 op0) ⟨_, _, rfl⟩ fun K hK => ?_
  have HK := Lib.hid hK
  clear hK
  conv => arg 2; whnf
  go_wp2_with (go_at_call 56; refine HEP.out.mono ?_; rintro e wx ⟨rfl, hw⟩; have hw := hw.symm; subst hw)
  refine HK.out _ _ ?_
  clear HK K
  rw [dropSeq_succ]
  clear hmm
  have z1 := HB1.out.size
  have hts := TS.start w1 gd ep wd (by have := HX.out.2.2.2.2.2.2.2.2; omega) HWD.out
  have hbn : Below w1.heap.size w1 (((w1.alloc (.map #[] 0)).alloc (.map #[] 0)).alloc (boxT0 gd ep wd w1.heap.size (w1.heap.size + 1))) := (((Below.refl _ _).alloc (Nat.le_refl _) _).alloc (by simp) _).alloc (by simp; omega) _
  obtain ⟨gt, hgt⟩ : ∃ gt, gt = w1.heap.size + 2 := ⟨_, rfl⟩
  obtain ⟨τ, hτ⟩ : ∃ τ, τ = put1 (put1 (put1 (fun _ => 0) w1.heap.size 2) (w1.heap.size + 1) 3) (w1.heap.size + 2) 1 := ⟨_, rfl⟩
  have hτn : ∀ k, τ k ≠ 0 → w1.heap.size ≤ k := fun k hk => by
    rw [hτ] at hk
    unfold put1 at hk
    split at hk
    · omega
    · split at hk
      · omega
      · split at hk
        · omega
        · exact absurd rfl hk
  rw [← hτ, ← hgt] at hts
  rw [show w1.heap.size + 1 + 1 = gt from hgt.symm]
  obtain ⟨w4, hw4⟩ : ∃ w4, w4 = ((w1.alloc (.map #[] 0)).alloc (.map #[] 0)).alloc (boxT0 gd ep wd w1.heap.size (w1.heap.size + 1)) := ⟨_, rfl⟩
  rw [← hw4] at hts hbn
  rw [show ((w1.alloc (.map #[] 0)).alloc (.map #[] 0)).alloc (.cells #[.pointer (some ⟨gd, 0, none⟩), .int .i64 ep, .int .i64 0, .int .i64 wd, .int .i64 0, .map (some w1.heap.size), .map (some (w1.heap.size + 1)), .slice none 0 0, .int .i64 0, .bool false, .bool false] 99) = w4 from hw4.symm]
  have hb4 := HB1.out.trans (hbn.mono z1)
  have hsz : sn ≤ 281474976710656 := by rw [HM.out]; exact HB.out.2.2.1
  have hr4 := (R8.of_owns HO.out hsz).below hbn
  rw [HB.out.1] at hr4
  have HT := Lib.hid (show ∀ j, j < m → (chunk ls j).length = 256 from fun j hj => by unfold chunk; rw [List.length_take, List.length_drop]; have := HX.out.2.2.2.2.1; have := HX.out.2.2.2.2.2.2.1; omega)
  have HRD := Lib.hid (tread_any w4 τ gt gd _ _ hts (HH.out.below hb4 (by have := HX.out.2.2.2.2.2.2.2.2; omega)) sa sn sc (chunk ls) rest m n hr4 HT.out HX.out.2.2.2.2.2.2.1 (by have := HX.out.2.2.2.2.2.1; omega)
    (fun q1 q2 wx ax cx q3 q4 => HB.out.2.2.2 q1 q2 wx τ gt gd _ _ (hts.below q3) rfl (HH.out.below (hb4.trans (q3.mono hb4.size)) (by have := HX.out.2.2.2.2.2.2.2.2; omega)) ax cx q4))
  have HTS := Lib.hid hts; have HB4 := Lib.hid hb4; have HTN := Lib.hid (show ∀ k, τ k ≠ 0 → w.heap.size ≤ k from fun k hk => Nat.le_trans z1 (hτn k hk))
  have HT4 := Lib.hid hts.dom
  clear hts hbn hgt hτ hτn hw4 hb4 hsz hr4 z1
  refine wp_two_k (c := dropSeq 6 op0) ⟨_, _, rfl⟩ fun K hK => ?_
  have HK := Lib.hid hK
  clear hK
  conv => arg 2; whnf
  go_wp2_with (go_at_call 57; refine HRD.out.mono ?_; rintro e w5 ⟨fb, M, rfl, hfd, hb5⟩; have HFD := Lib.hid hfd; have HB5 := Lib.hid hb5; clear hfd hb5)
  refine HK.out _ _ ?_
  clear HK K
  rw [dropSeq_succ]
  have hz4 := HB4.out.size
  have h0 : ∀ b, w4.heap.size ≤ b → τ b = 0 := fun b hb => by
    rcases Nat.eq_zero_or_pos (τ b) with e | e
    · exact e
    · have := HT4.out b (by omega); omega
  have hol : OL w w5 L τ gt gd d ⟨ep, 0, wd, 0, false, false, []⟩ _ fb m M ls 0 := ⟨⟨H.out.below (HB4.out.trans (HB5.out.mono hz4)), HTS.out.below HB5.out, fun k hk => by
      rcases Nat.eq_zero_or_pos (L.ρ k) with e | e
      · exact e
      · have := H.out.dom k (by omega); have := HTN.out k hk; omega⟩, HB4.out.trans (HB5.out.mono hz4), HTN.out, ⟨HFD.out.map, Nat.le_trans hz4 HFD.out.lo, fun j hj => by
      obtain ⟨g, q1, q2, q3⟩ := HFD.out.at_ j hj
      exact ⟨g, q1, Nat.le_trans hz4 q2, q3⟩, HFD.out.no⟩, h0 fb HFD.out.lo, fun j g n c hj hM => by
      obtain ⟨g', q1, q2, -⟩ := HFD.out.at_ j hj
      rw [hM] at q1
      cases q1
      exact h0 _ q2⟩
  exact open_loop20 w w5 L τ gt gd d _ _ fb m n M ls hol HX.out.1 HX.out.2.1 HX.out.2.2.1 HX.out.2.2.2.1 HX.out.2.2.2.2.1 HX.out.2.2.2.2.2.1 HX.out.2.2.2.2.2.2.1 HX.out.2.2.2.2.2.2.2.1 (by have := HX.out.2.2.2.2.2.2.2.2; omega) HLF.out _ _ _ _ _ _ _ _ _ _ _ _ _ _ _ _ _ _ _ _ _ _ _ _ _ _ _ _ _ _ _ _ _ _ _ _ _ _ _ _ _ _ _ _ _ _ _ _ _ _ _ _ _ _ _ _ _ _ _ _ _ _ _ _ _ _ _ _ _ _ _ _ _ _ _ _ _ _ _ _ _ _ _ _ _ _ _ _ _ _ _ _ _ _ _ _ _ _ _ _ _ _ _ _ _ _ _ _ _ _ _ _ _ _ _ _ _ _ _ _ _ _ _ _ _ _ _ _ _ _ _ _ _ _ _ _ _ _ _ _ _ _ _ 
end Go.Proofs.YtgkehahklccacaaGreatDoor
