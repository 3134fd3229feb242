import Derived.Test.YtoboabkaojfbaaaGreatDoorQ49
namespace Go.Proofs.YtoboabkaojfbaaaGreatDoor
open Go Go.RowKit
set_option maxRecDepth 100000
set_option maxHeartbeats 8000000
set_option linter.unusedVariables false
set_option linter.unusedSimpArgs false
/-! cosign.DecodeFaces. -/
theorem df_long {w w' : World} {raw : List UInt8} (hl : 9000 < raw.length) (hb : Below w.heap.size w w') {Z : Array Value} (hZ : Z = (FB zHd nilS zHd nilS 0 0 zDg zDg nilS nilS).toArray) : DfRet w raw (.returned (.tuple #[.agg Z, .int .i64 170])) w' := by
  have h : decF raw = none := by unfold decF; rw [if_pos hl]
  refine ⟨⟨none, 0, 0⟩, ⟨none, 0, 0⟩, ⟨none, 0, 0⟩, ⟨none, 0, 0⟩, ?_, by rw [h]; exact zFc_own _ _, hb⟩
  rw [h, if_pos hl, hZ]; rfl
theorem neq167_88 (u : World) : (binOp .neq 167 (.agg #[.int .i64 8, .int .i64 8]) (.agg #[.int .i64 0, .int .i64 0])).run Tryz.prog u = .ok (.bool true) u := by kernel_rfl
theorem neq167_80 (u : World) : (binOp .neq 167 (.agg #[.int .i64 8, .int .i64 0]) (.agg #[.int .i64 0, .int .i64 0])).run Tryz.prog u = .ok (.bool true) u := by kernel_rfl
theorem neq167_08 (u : World) : (binOp .neq 167 (.agg #[.int .i64 0, .int .i64 8]) (.agg #[.int .i64 0, .int .i64 0])).run Tryz.prog u = .ok (.bool true) u := by kernel_rfl
theorem neq167_00 (u : World) : (binOp .neq 167 (.agg #[.int .i64 0, .int .i64 0]) (.agg #[.int .i64 0, .int .i64 0])).run Tryz.prog u = .ok (.bool false) u := by kernel_rfl
theorem built167 : Tryz.prog.built 167 [] = some #[.int .i64 0, .int .i64 0] := by kernel_rfl
theorem exec_build167 {ρ : Operand → Value} {o : Oper} (ho : o.op = .build 167 #[]) (w : World) : (execOp ρ o).run Tryz.prog w = .ok (.value (.agg #[.int .i64 0, .int .i64 0])) w := by
  have hb : (Instr.build 167 #[]).run Tryz.prog w = .ok (.agg #[.int .i64 0, .int .i64 0]) w := run_build w 167 #[] _ built167
  unfold execOp
  simp only [ho, List.map_toArray, List.map_nil, Sem.run_bind, hb, Result.andThen_ok, Sem.run_pure]
structure DfJ (w0 x : World) (B gr g2 g5 g6 : Nat) (F : Fc) (sA sB wA wB : S3) (s : Rs) (ea eb : Int) : Prop where
  i : DfI w0 x B gr g2 g5 F sA sB wA wB s
  e : x.heap[g6]? = some (.cells #[.int .i64 ea, .int .i64 eb] 167 (0, 0))
  n2 : g2 ≠ g6
  n5 : g5 ≠ g6
  nr : gr ≠ g6
  l : w0.heap.size ≤ g6
  lB : B ≤ g6
section
variable {w0 x x' : World} {B gr g2 g5 g6 : Nat} {F F' : Fc} {sA sB wA wB sA' sB' wA' wB' : S3} {s s' : Rs} {ea eb : Int}
theorem DfJ.below (h : DfJ w0 x B gr g2 g5 g6 F sA sB wA wB s ea eb) (hb : Below x.heap.size x x') : DfJ w0 x' B gr g2 g5 g6 F sA sB wA wB s ea eb := ⟨h.i.below hb, blk_up h.e hb, h.n2, h.n5, h.nr, h.l, h.lB⟩
theorem DfJ.reader (h : DfJ w0 x B gr g2 g5 g6 F sA sB wA wB s ea eb) (hg : x.grownBy x' (some gr)) (hr : RdG x' B gr s') : DfJ w0 x' B gr g2 g5 g6 F sA sB wA wB s' ea eb := ⟨h.i.reader hg hr, blk_keep hg h.e (fun e => h.nr e.symm), h.n2, h.n5, h.nr, h.l, h.lB⟩
theorem DfJ.put (h : DfJ w0 x B gr g2 g5 g6 F sA sB wA wB s ea eb) (hg : x.grownBy x' (some g6)) (ea' eb' : Int) (he : x'.heap[g6]? = some (.cells #[.int .i64 ea', .int .i64 eb'] 167 (0, 0))) : DfJ w0 x' B gr g2 g5 g6 F sA sB wA wB s ea' eb' :=
  ⟨⟨h.i.hb.grown hg h.i.hb.size (fun q hq => by rw [← Option.some.inj hq]; exact h.l), h.i.rd.far hg h.lB h.nr, blk_keep hg h.i.b2 h.n2, blk_keep hg h.i.b5 h.n5, h.i.own.kept h.e (by decide) (by decide) hg, h.i.n2, h.i.n5, h.i.n25, h.i.l2, h.i.l5, h.i.lr, h.i.B5, Nat.le_trans h.i.Bs hg.size⟩, he, h.n2, h.n5, h.nr, h.l, h.lB⟩
theorem DfJ.put0 (h : DfJ w0 x B gr g2 g5 g6 F sA sB wA wB s ea eb) (z : Int) : DfJ w0 (x.setCell ⟨g6, 0, none⟩ (.int .i64 z)) B gr g2 g5 g6 F sA sB wA wB s z eb :=
  h.put (set_g _ _ _ _) z eb (by have := heap_setCell_same x g6 0 _ _ (.int .i64 z) h.e; simpa using this)
theorem DfJ.put1 (h : DfJ w0 x B gr g2 g5 g6 F sA sB wA wB s ea eb) (z : Int) : DfJ w0 (x.setCell ⟨g6, 1, none⟩ (.int .i64 z)) B gr g2 g5 g6 F sA sB wA wB s ea z :=
  h.put (set_g _ _ _ _) ea z (by have := heap_setCell_same x g6 1 _ _ (.int .i64 z) h.e; simpa using this)
theorem DfJ.c0 (h : DfJ w0 x B gr g2 g5 g6 F sA sB wA wB s ea eb) : x.cell? ⟨g6, 0, none⟩ = some (.int .i64 ea) := by rw [cell_of_row _ _ _ _ _ _ h.e]; rfl
theorem DfJ.c1 (h : DfJ w0 x B gr g2 g5 g6 F sA sB wA wB s ea eb) : x.cell? ⟨g6, 1, none⟩ = some (.int .i64 eb) := by rw [cell_of_row _ _ _ _ _ _ h.e]; rfl
end
section
variable {w0 x : World} {B gr g2 g5 g6 : Nat} {X Y : Nt} {fm nu : Int} {la lb : Dg} {va vb : List Dg} {sA sB wA wB : S3} {s : Rs} {ea eb : Int}
theorem DfJ.setA (h : DfJ w0 x B gr g2 g5 g6 ⟨X, Y, fm, nu, la, lb, va, vb⟩ sA sB wA wB s ea eb) (Z : Nt) (t : S3) (E : Array Value) (hE : E = ntA Z.head t.v) (hl : x.ownsRow w0.heap.size 63 64 t.v t.n (Z.signs.flatMap sgE)) : DfJ w0 (x.setCells g5 0 E.toList) B gr g2 g5 g6 ⟨Z, Y, fm, nu, la, lb, va, vb⟩ t sB wA wB s ea eb :=
  ⟨h.i.setA Z t E hE hl, blk_keep (setCells_grown _ _ _ _) h.e (fun e => h.n5 e.symm), h.n2, h.n5, h.nr, h.l, h.lB⟩
theorem DfJ.setB (h : DfJ w0 x B gr g2 g5 g6 ⟨X, Y, fm, nu, la, lb, va, vb⟩ sA sB wA wB s ea eb) (Z : Nt) (t : S3) (E : Array Value) (hE : E = ntA Z.head t.v) (hl : x.ownsRow w0.heap.size 63 64 t.v t.n (Z.signs.flatMap sgE)) : DfJ w0 (x.setCells g5 99 E.toList) B gr g2 g5 g6 ⟨X, Z, fm, nu, la, lb, va, vb⟩ sA t wA wB s ea eb :=
  ⟨h.i.setB Z t E hE hl, blk_keep (setCells_grown _ _ _ _) h.e (fun e => h.n5 e.symm), h.n2, h.n5, h.nr, h.l, h.lB⟩
end
theorem decF_bad {raw : List UInt8} {x y : List UInt8 × Rs} (hl : ¬ 9000 < raw.length) (hx : x = rBytes 9000 (rTake 1 (rTake 1 (raw, 0)).2).2) (hy : y = rBytes 9000 x.2) (h : y.2.2 ≠ 0 ∨ decN x.1 = none ∨ decN y.1 = none) : decF raw = none := by
  subst hx
  subst hy
  unfold decF
  rw [if_neg hl]
  have : readF raw = none := by
    unfold readF
    simp only
    rcases h with h | h | h
    · split
      · rw [if_pos h]
      · rfl
    · rw [h]
    · rw [h]
      split
      · rename_i e; cases e
      · rfl
  rw [this]
theorem decF_go {raw : List UInt8} {x y : List UInt8 × Rs} {X Y : Nt} (hl : ¬ 9000 < raw.length) (hx : x = rBytes 9000 (rTake 1 (rTake 1 (raw, 0)).2).2) (hy : y = rBytes 9000 x.2) (h0 : y.2.2 = 0) (h1 : decN x.1 = some X) (h2 : decN y.1 = some Y) :
    decF raw = if rDone (restF X Y (rTake 1 (rTake 1 (raw, 0)).2).1 y.2).2 ≠ 0 then none else if formedP (restF X Y (rTake 1 (rTake 1 (raw, 0)).2).1 y.2).1 && decide (encF (restF X Y (rTake 1 (rTake 1 (raw, 0)).2).1 y.2).1 = raw) then some (restF X Y (rTake 1 (rTake 1 (raw, 0)).2).1 y.2).1 else none := by
  subst hx
  subst hy
  unfold decF
  rw [if_neg hl]
  have : readF raw = some (restF X Y (rTake 1 (rTake 1 (raw, 0)).2).1 (rBytes 9000 (rBytes 9000 (rTake 1 (rTake 1 (raw, 0)).2).2).2).2) := by
    unfold readF restF
    simp only [h1, h2]
    rw [if_neg (by rw [h0]; simp)]
    split
    · rfl
    · rfl
  rw [this]
theorem decF_any (w : World) (a : Option Addr) (n c : Nat) (raw : List UInt8) (hr : R8 w a n c raw) (hn : n ≤ 1000000000000) (ht : Tabs w) :
    Calls Tryz.prog 39 #[.slice a n c] w (DfRet w raw) := by
  have HR := Lib.hid hr; have HN := Lib.hid hn; have HT := Lib.hid ht
  have HNL := Lib.hid (show raw.length = n from hr.1)
  obtain ⟨Z, hZ⟩ : ∃ Z, Z = (FB zHd nilS zHd nilS 0 0 zDg zDg nilS nilS).toArray := ⟨_, rfl⟩
  have HZ := Lib.hid hZ
  have HZS := Lib.hid (show Z.size = 266 ∧ Z.all (·.oneCell') = true by rw [hZ]; exact ⟨by rw [List.size_toArray, FB_len], FB_one _ _ _ _ _ _ _ _ _ _ rfl rfl rfl rfl⟩)
  have HBZ := Lib.hid (fun (ρ : Operand → Value) (o : Oper) (ho : o.op = .build 35 #[]) (w : World) => show (execOp ρ o).run Tryz.prog w = .ok (.value (.agg Z)) w by rw [hZ]; exact exec_build35 ho w)
  have HTH := Lib.hid (fun (x : World) (g2 : Nat) (hq : x.heap[g2]? = some o35) => df_there hq)
  clear hr hn ht hZ
  go_enter Tryz.func39, Tryz.ntmps39
  go_upto_region 1 with (fail)
  change Code.wp Tryz.prog _ _ _ (w.alloc o35)
  obtain ⟨g2, hg2⟩ : ∃ g, g = w.heap.size := ⟨_, rfl⟩
  rw [← hg2]
  have HG2 := Lib.hid hg2
  have HQ1 := Lib.hid (show (w.alloc o35).heap[g2]? = some o35 by rw [hg2]; exact heap_alloc_new w _)
  have HB1 := Lib.hid ((Below.refl w.heap.size w).alloc (Nat.le_refl _) o35)
  clear hg2
  generalize w.alloc o35 = w1 at *
  have HFIN := Lib.hid (fun (x : World) (G : Array Value) (hs : G.size = 266) (hq : x.heap[g2]? = some o35) (hb : Below w.heap.size w x) => df_fin (w0 := w) G hs hq hb (by rw [HG2.out]; exact Nat.le_refl _))
  by_cases hlen : 9000 < n
  · have HLO := Lib.hid (show 9000 < raw.length by rw [HNL.out]; exact hlen)
    have d1 : decide ((9000 : Int) < (n : Int)) = true := by rw [decide_eq_true_eq]; omega
    clear hlen
    go_wp2_with (first
      | (refine L_value rfl (HBZ.out _ _ (by rfl) _) ?_)
      | (refine wpList_store_mid rfl 35 (.tmp 2) (.tmp 12) (by rfl) g2 0 Z (by rfl) (by rfl) (by rw [HZS.out.1]; exact HTH.out _ _ HQ1.out) (by rw [HZS.out.1]; exact info35) HZS.out.2 ?_))
    exact bodyPost_ret (v := .tuple #[.agg Z, .int .i64 170]) (results_row_tmp (p := 2) (u := 3) (ty := 35) rfl _ _ g2 35 Z (0, 0) _ rfl (HFIN.out _ Z HZS.out.1 HQ1.out HB1.out).1 Tryz.underlying35 rfl (by rw [HZS.out.1]; exact info35)) rfl (df_long HLO.out (HFIN.out _ Z HZS.out.1 HQ1.out HB1.out).2 HZ.out)
  · have HLEN := Lib.hid (show ¬ 9000 < raw.length by rw [HNL.out]; exact hlen)
    have d1 : decide ((9000 : Int) < (n : Int)) = false := by rw [decide_eq_false_iff_not]; omega
    have HRD := Lib.hid (read_g w1 a n c raw (HR.out.below HB1.out) HN.out)
    go_upto_region 4 with (go_at_call 98; (with_reducible refine HRD.out.mono ?_); rintro e w2 ⟨gr, rfl, hge, hrd, hb⟩; have HGE := Lib.hid hge; have HRG2 := Lib.hid hrd; have HX2 := Lib.hid hb; clear hge hrd hb)
    clear hlen d1
    have HQ2 := Lib.hid ((HX2.out.block g2 (Array.getElem?_eq_some_iff.1 HQ1.out).1).trans HQ1.out)
    have HB2 := Lib.hid (HB1.out.trans (HX2.out.mono HB1.out.size))
    obtain ⟨B, hB⟩ : ∃ B, B = w2.heap.size := ⟨_, rfl⟩
    rw [← hB] at HRG2
    have HBB := Lib.hid (show B = w2.heap.size ∧ w.heap.size ≤ gr ∧ g2 ≠ gr ∧ w.heap.size ≤ B ∧ gr < B from ⟨hB, by have := HGE.out; have := HB1.out.size; omega, by have := (Array.getElem?_eq_some_iff.1 HQ1.out).1; have := HGE.out; omega, by rw [hB]; exact HB2.out.size, by rw [hB]; exact HRG2.out.lt⟩)
    clear hB
    obtain ⟨s1, hs1⟩ : ∃ s, s = rTake 1 (raw, 0) := ⟨_, rfl⟩
    have HT1 := Lib.hid (show Calls Tryz.prog 99 #[.pointer (some ⟨gr, 0, none⟩)] w2 (fun e w' => (∃ k : Nat, e = .returned (.int .u8 (k : Int))) ∧ RdG w' B gr s1.2 ∧ w2.grownBy w' (some gr)) by
      rw [hs1]; exact (take8_any w2 B gr (raw, 0) HRG2.out).mono (fun e w' h => ⟨⟨_, h.1⟩, h.2.1, h.2.2⟩))
    go_upto_region 5 with (go_at_call 99; (with_reducible refine HT1.out.mono ?_); rintro e w3 ⟨⟨k3, rfl⟩, hrd, hg⟩; have HRG3 := Lib.hid hrd; have HX3 := Lib.hid hg; clear hrd hg)
    have HQ3 := Lib.hid (blk_keep HX3.out HQ2.out HBB.out.2.2.1)
    have HB3 := Lib.hid (HB2.out.grown HX3.out HB2.out.size (fun q hq => by rw [← Option.some.inj hq]; exact HBB.out.2.1))
    obtain ⟨s2, hs2⟩ : ∃ s, s = rTake 1 s1.2 := ⟨_, rfl⟩
    obtain ⟨m, hm⟩ : ∃ k, k = s2.1 := ⟨_, rfl⟩
    have hml : m < 256 := by rw [hm, hs2]; exact rTake_lt 1 _ 256 (by decide)
    have HT3 := Lib.hid (show Calls Tryz.prog 99 #[.pointer (some ⟨gr, 0, none⟩)] w3 (fun e w' => e = .returned (.int .u8 (m : Int)) ∧ RdG w' B gr s2.2 ∧ w3.grownBy w' (some gr)) by rw [hm, hs2]; exact take8_any w3 B gr s1.2 HRG3.out)
    have HS := Lib.hid (And.intro hs1 (And.intro hs2 hm))
    have hwm : IntKind.i64.wrap (m : Int) = (m : Int) := IntWalk.i64_in _ (by omega)
    obtain ⟨G, hG⟩ : ∃ G, G = (FB zHd nilS zHd nilS (m : Int) 0 zDg zDg nilS nilS).toArray := ⟨_, rfl⟩
    have HGS := Lib.hid (show G.size = 266 ∧ G.all (·.oneCell') = true by rw [hG]; exact ⟨by rw [List.size_toArray, FB_len], FB_one _ _ _ _ _ _ _ _ _ _ rfl rfl rfl rfl⟩)
    have HBG := Lib.hid (fun (ρ : Operand → Value) (o : Oper) (ho : o.op = .build 35 #[(2, .tmp 19)]) (h1 : ρ (.tmp 19) = .int .i64 (m : Int)) (w : World) => show (execOp ρ o).run Tryz.prog w = .ok (.value (.agg G)) w by rw [hG]; exact exec_build35m ho h1 w)
    have HG := Lib.hid hG
    clear hs1 hs2 hm hml hG
    have HZ35 := Lib.hid (fun (x : World) => show (x.alloc o35).there x.heap.size 0 266 from df_there (heap_alloc_new x _))
    go_upto_region 7 with (first
      | (go_at_call 99; (with_reducible refine HT3.out.mono ?_); rintro e w4 ⟨rfl, hrd, hg⟩; have HRG4 := Lib.hid hrd; have HX4 := Lib.hid hg; clear hrd hg)
      | (refine L_value rfl (HBG.out _ _ (by rfl) (by rfl) _) ?_)
      | (refine wpList_store_mid rfl 35 (.tmp 5) (.tmp 20) (by rfl) w4.heap.size 0 G (by rfl) (by rfl) (by rw [HGS.out.1]; exact HZ35.out w4) (by rw [HGS.out.1]; exact info35) HGS.out.2 ?_))
    change Code.wp Tryz.prog _ _ _ (((w4.alloc o35).setCells w4.heap.size 0 G.toList).alloc (.cells #[.int .i64 0, .int .i64 0] 167))
    obtain ⟨g5, hg5⟩ : ∃ g, g = w4.heap.size := ⟨_, rfl⟩
    obtain ⟨g6, hg6⟩ : ∃ g, g = w4.heap.size + 1 := ⟨_, rfl⟩
    first
      | rw [← hg6, ← hg5]
      | rw [← hg5, ← hg6]
    have HQ4 := Lib.hid (blk_keep HX4.out HQ3.out HBB.out.2.2.1)
    have HB4 := Lib.hid (HB3.out.grown HX4.out HB3.out.size (fun q hq => by rw [← Option.some.inj hq]; exact HBB.out.2.1))
    have HG6 := Lib.hid (show g5 = w4.heap.size ∧ g6 = w4.heap.size + 1 ∧ B ≤ w4.heap.size ∧ gr < w4.heap.size ∧ g2 < w4.heap.size ∧ w.heap.size ≤ w4.heap.size from ⟨hg5, hg6, by have := HX4.out.size; have := HX3.out.size; have := HBB.out.1; omega, HRG4.out.lt, (Array.getElem?_eq_some_iff.1 HQ4.out).1, HB4.out.size⟩)
    have HX5 := Lib.hid (show Below w4.heap.size w4 ((w4.alloc o35).setCells g5 0 G.toList) from ((Below.refl _ _).alloc (Nat.le_refl _) _).grown (setCells_grown _ _ _ _) (by rw [World.size_alloc]; omega) (fun k hk => by rw [← Option.some.inj hk, hg5]; exact Nat.le_refl _))
    have HD5 := Lib.hid (show ((w4.alloc o35).setCells g5 0 G.toList).heap[g5]? = some (.cells G 35 (0, 0)) by
      have := setCells_all (show (w4.alloc o35).heap[g5]? = some (.cells (FB zHd nilS zHd nilS 0 0 zDg zDg nilS nilS).toArray 35 (0, 0)) by rw [hg5]; exact heap_alloc_new w4 _) G.toList (by rw [Array.length_toList, HGS.out.1, List.size_toArray, FB_len])
      simpa using this)
    have HZ5 := Lib.hid (show ((w4.alloc o35).setCells g5 0 G.toList).heap.size = g6 by rw [hg6]; simp)
    clear hg5 hg6 HZ35
    generalize (w4.alloc o35).setCells g5 0 G.toList = x5 at *
    have HI5 := Lib.hid (show DfI w x5 B gr g2 g5 ⟨⟨zHd, []⟩, ⟨zHd, []⟩, (m : Int), 0, zD, zD, [], []⟩ ⟨none, 0, 0⟩ ⟨none, 0, 0⟩ ⟨none, 0, 0⟩ ⟨none, 0, 0⟩ s2.2 from
      ⟨HB4.out.trans (HX5.out.mono HB4.out.size), HRG4.out.below HX5.out, blk_up HQ4.out HX5.out, by have := HD5.out; rw [HG.out] at this; exact this, ⟨World.ownsRow_nil _ _ _ _, World.ownsRow_nil _ _ _ _, World.ownsRow_nil _ _ _ _, World.ownsRow_nil _ _ _ _⟩, HBB.out.2.2.1, by have := HG6.out; omega, by have := HG6.out; omega, by rw [HG2.out]; exact Nat.le_refl _, by have := HG6.out; omega, HBB.out.2.1, by have := HG6.out; omega, by have := HG6.out; have := HX5.out.size; omega⟩)
    have HJ5 := Lib.hid (show DfJ w (x5.alloc (.cells #[.int .i64 0, .int .i64 0] 167)) B gr g2 g5 g6 ⟨⟨zHd, []⟩, ⟨zHd, []⟩, (m : Int), 0, zD, zD, [], []⟩ ⟨none, 0, 0⟩ ⟨none, 0, 0⟩ ⟨none, 0, 0⟩ ⟨none, 0, 0⟩ s2.2 0 0 from
      ⟨HI5.out.below ((Below.refl _ _).alloc (Nat.le_refl _) _), by rw [← HZ5.out]; exact heap_alloc_new x5 _, by have := HG6.out; omega, by have := HG6.out; omega, by have := HG6.out; omega, by have := HG6.out; omega, by have := HG6.out; omega⟩)
    clear HRG2 HRG3 HRG4 HT1 HT3 HRD HQ1 HQ2 HQ3 HQ4 HD5 HI5 HX2 HX3 HX4 HX5 HB1 HB2 HB3 HB4 HZ5 HBG HGS HG
    generalize x5.alloc (.cells #[.int .i64 0, .int .i64 0] 167) = w5 at *
    obtain ⟨x, hx⟩ : ∃ x, x = rBytes 9000 s2.2 := ⟨_, rfl⟩
    obtain ⟨y, hy⟩ : ∃ y, y = rBytes 9000 x.2 := ⟨_, rfl⟩
    have HX := Lib.hid (show (x = rBytes 9000 (rTake 1 (rTake 1 (raw, 0)).2).2 ∧ y = rBytes 9000 x.2) ∧ m = (rTake 1 (rTake 1 (raw, 0)).2).1 ∧ x.1.length ≤ 9000 ∧ y.1.length ≤ 9000 from ⟨⟨by rw [hx, HS.out.2.1, HS.out.1], hy⟩, by rw [HS.out.2.2, HS.out.2.1, HS.out.1], by rw [hx]; exact rBytes_le _ _, by rw [hy]; exact rBytes_le _ _⟩)
    have HC1 := Lib.hid (show Calls Tryz.prog 101 #[.pointer (some ⟨gr, 0, none⟩), .int .i64 9000] w5 (fun e w' => ∃ a2 n2 c2, e = .returned (.slice a2 n2 c2) ∧ R8 w' a2 n2 c2 x.1 ∧ RdG w' B gr x.2 ∧ w5.grownBy w' (some gr)) by rw [hx]; exact bytes_g w5 B gr s2.2 HJ5.out.i.rd)
    have HC2 := Lib.hid (fun (u : World) (hu : RdG u B gr x.2) => show Calls Tryz.prog 101 #[.pointer (some ⟨gr, 0, none⟩), .int .i64 9000] u (fun e w' => ∃ a2 n2 c2, e = .returned (.slice a2 n2 c2) ∧ R8 w' a2 n2 c2 y.1 ∧ RdG w' B gr y.2 ∧ u.grownBy w' (some gr)) by rw [hy]; exact bytes_g u B gr x.2 hu)
    clear hx hy
    obtain ⟨X, hX⟩ : ∃ X, X = (decN x.1).getD zNt := ⟨_, rfl⟩
    obtain ⟨Y, hY⟩ : ∃ Y, Y = (decN y.1).getD zNt := ⟨_, rfl⟩
    obtain ⟨ea, hea⟩ : ∃ e : Int, e = if (decN x.1).isSome then 0 else 8 := ⟨_, rfl⟩
    obtain ⟨eb, heb⟩ : ∃ e : Int, e = if (decN y.1).isSome then 0 else 8 := ⟨_, rfl⟩
    have HD1 := Lib.hid (fun (u : World) (p : Option Addr) (k d : Nat) (h : R8 u p k d x.1) => show Calls Tryz.prog 100 #[.slice p k d] u (fun e w' => ∃ (E : Array Value) (s : S3), e = .returned (.tuple #[.agg E, .int .i64 ea]) ∧ E = ntA X.head s.v ∧ w'.ownsRow u.heap.size 63 64 s.v s.n (X.signs.flatMap sgE) ∧ Below u.heap.size u w') by rw [hea, hX]; exact decN_v u p k d x.1 h (by have := h.1; have := HX.out.2.2.1; omega))
    have HD2 := Lib.hid (fun (u : World) (p : Option Addr) (k d : Nat) (h : R8 u p k d y.1) => show Calls Tryz.prog 100 #[.slice p k d] u (fun e w' => ∃ (E : Array Value) (s : S3), e = .returned (.tuple #[.agg E, .int .i64 eb]) ∧ E = ntA Y.head s.v ∧ w'.ownsRow u.heap.size 63 64 s.v s.n (Y.signs.flatMap sgE) ∧ Below u.heap.size u w') by rw [heb, hY]; exact decN_v u p k d y.1 h (by have := h.1; have := HX.out.2.2.2; omega))
    have HXY := Lib.hid (show (X = (decN x.1).getD zNt ∧ Y = (decN y.1).getD zNt) ∧ (ea = (if (decN x.1).isSome then 0 else 8)) ∧ (eb = (if (decN y.1).isSome then 0 else 8)) ∧ X.signs.length ≤ 1000 ∧ Y.signs.length ≤ 1000 from ⟨⟨hX, hY⟩, hea, heb, by rw [hX]; exact riseP_le, by rw [hY]; exact riseP_le⟩)
    clear hX hY hea heb
    go_upto_region 8 with (first
      | (go_at_call 101; (with_reducible refine HC1.out.mono ?_); rintro e w6 ⟨p1, k1, d1, rfl, hr8, hrd, hg⟩; have HJ6 := Lib.hid (HJ5.out.reader hg hrd); have HR6 := Lib.hid hr8; clear hrd hg hr8)
      | (go_at_call 100; (with_reducible refine (HD1.out _ _ _ _ HR6.out).mono ?_); rintro e w7 ⟨E1, t1, rfl, hE, ho, hb⟩; have HJ7 := Lib.hid (HJ6.out.below hb); have HE1 := Lib.hid (show E1.size = 99 ∧ E1.all (·.oneCell') = true by rw [hE]; exact ⟨ntA_size _ _, ntA_one _ _ rfl⟩); have HJ8 := Lib.hid (HJ7.out.setA X t1 E1 hE (owns_mono ho HJ6.out.i.hb.size)); have k8 := HJ8.out.c0; have f8 := frozen_of_row _ g6 0 _ _ HJ8.out.e; clear hb hE ho)
      | (refine wpList_store_mid rfl 28 (.tmp 27) (.tmp 25) (by rfl) g5 0 E1 (by rfl) (by rfl) (by rw [HE1.out.1]; exact FB.there HJ7.out.i.b5 0 99 (by decide)) (by rw [HE1.out.1]; exact info28) HE1.out.2 ?_))
    have HJ9 := Lib.hid (HJ8.out.put0 ea)
    clear k8 f8
    generalize (w7.setCells g5 0 E1.toList).setCell ⟨g6, 0, none⟩ (.int .i64 ea) = w9 at *
    clear HJ5 HJ6 HJ7 HJ8 HC1
    go_upto_region 9 with (first
      | (go_at_call 101; (with_reducible refine (HC2.out _ HJ9.out.i.rd).mono ?_); rintro e w10 ⟨p2, k2, d2, rfl, hr8, hrd, hg⟩; have HJ10 := Lib.hid (HJ9.out.reader hg hrd); have HR10 := Lib.hid hr8; clear hrd hg hr8)
      | (go_at_call 100; (with_reducible refine (HD2.out _ _ _ _ HR10.out).mono ?_); rintro e w11 ⟨E2, t2, rfl, hE, ho, hb⟩; have HJ11 := Lib.hid (HJ10.out.below hb); have HE2 := Lib.hid (show E2.size = 99 ∧ E2.all (·.oneCell') = true by rw [hE]; exact ⟨ntA_size _ _, ntA_one _ _ rfl⟩); have HJ12 := Lib.hid (HJ11.out.setB Y t2 E2 hE (owns_mono ho HJ10.out.i.hb.size)); have k12 := HJ12.out.c1; have f12 := frozen_of_row _ g6 1 _ _ HJ12.out.e; clear hb hE ho)
      | (refine wpList_store_mid rfl 28 (.tmp 35) (.tmp 33) (by rfl) g5 99 E2 (by rfl) (by rfl) (by rw [HE2.out.1]; exact FB.there HJ11.out.i.b5 99 99 (by decide)) (by rw [HE2.out.1]; exact info28) HE2.out.2 ?_))
    have HJ := Lib.hid (HJ12.out.put1 eb)
    clear k12 f12
    generalize (w11.setCells g5 99 E2.toList).setCell ⟨g6, 1, none⟩ (.int .i64 eb) = w13 at *
    clear HJ9 HJ10 HJ11 HJ12 HC2 HR6 HR10 HD1 HD2
    rename_i K9 hK9 Kc hKc
    have HK9 := Lib.hid (fun (b : Act) (u : World) (h : Code.wp Tryz.prog (dropSeq 9 df0) (bodyPost Tryz.prog Tryz.f39 (DfRet w raw)) b u) => hK9 b u h)
    clear hK9
    have HWY := Lib.hid (why_any w13 B gr y.2 HJ.out.i.rd)
    obtain ⟨q, hq⟩ : ∃ q, q = y.2.2 := ⟨_, rfl⟩
    rw [← hq] at HWY
    have HQY := Lib.hid hq
    clear hq
    have HB167 := Lib.hid (fun (ρ : Operand → Value) (o : Oper) (ho : o.op = .build 167 #[]) (w : World) => exec_build167 (ρ := ρ) ho w)
    by_cases c0 : q = 0
    · subst c0
      cases h1 : decN x.1 with
      | none =>
        cases h2 : decN y.1 with
        | none =>
          have e8 : ea = 8 := by rw [HXY.out.2.1, h1]; rfl
          have e9 : eb = 8 := by rw [HXY.out.2.2.1, h2]; rfl
          subst e8
          subst e9
          have HRG := Lib.hid (row_range HJ.out.e)
          have HNE := Lib.hid neq167_88
          have HV := Lib.hid (decF_bad HLEN.out HX.out.1.1 HX.out.1.2 (.inr (.inl h1)))
          clear h1 h2
          go_wp2_with (first
            | (go_at_call 102; (with_reducible refine HWY.out.mono ?_); rintro e w14 ⟨rfl, rfl⟩)
            | (refine L_load_arrW 167 (.tmp 6) (by rfl) g6 0 (by rfl) #[.int .i64 8, .int .i64 8] _ HRG.out Tryz.underlying167 rfl (by kernel_rfl) (by rfl) ?_)
            | (refine L_valueW (HB167.out _ _ (by rfl) _) (by rfl) ?_)
            | (refine L_binW .neq 167 167 (.tmp 41) (.tmp 42) (by rfl) (.agg #[.int .i64 8, .int .i64 8]) (.agg #[.int .i64 0, .int .i64 0]) (by rfl) (by rfl) (.bool true) (HNE.out _) (by kernel_rfl) (by rfl) ?_)
            | (refine L_value rfl (HBZ.out _ _ (by rfl) _) ?_)
            | (refine wpList_store_mid rfl 35 (.tmp 2) (.tmp 45) (by rfl) g2 0 Z (by rfl) (by rfl) (by rw [HZS.out.1]; exact HTH.out _ _ HJ.out.i.b2) (by rw [HZS.out.1]; exact info35) HZS.out.2 ?_))
          exact bodyPost_ret (v := .tuple #[.agg Z, .int .i64 8]) (results_row_tmp (p := 2) (u := 3) (ty := 35) rfl _ _ g2 35 Z (0, 0) _ rfl (HFIN.out _ Z HZS.out.1 HJ.out.i.b2 HJ.out.i.hb).1 Tryz.underlying35 rfl (by rw [HZS.out.1]; exact info35)) rfl (df_no HV.out HLEN.out (HFIN.out _ Z HZS.out.1 HJ.out.i.b2 HJ.out.i.hb).2 HZ.out)
        | some Y1 =>
          have e8 : ea = 8 := by rw [HXY.out.2.1, h1]; rfl
          have e9 : eb = 0 := by rw [HXY.out.2.2.1, h2]; rfl
          subst e8
          subst e9
          have HRG := Lib.hid (row_range HJ.out.e)
          have HNE := Lib.hid neq167_80
          have HV := Lib.hid (decF_bad HLEN.out HX.out.1.1 HX.out.1.2 (.inr (.inl h1)))
          clear h1 h2
          go_wp2_with (first
            | (go_at_call 102; (with_reducible refine HWY.out.mono ?_); rintro e w14 ⟨rfl, rfl⟩)
            | (refine L_load_arrW 167 (.tmp 6) (by rfl) g6 0 (by rfl) #[.int .i64 8, .int .i64 0] _ HRG.out Tryz.underlying167 rfl (by kernel_rfl) (by rfl) ?_)
            | (refine L_valueW (HB167.out _ _ (by rfl) _) (by rfl) ?_)
            | (refine L_binW .neq 167 167 (.tmp 41) (.tmp 42) (by rfl) (.agg #[.int .i64 8, .int .i64 0]) (.agg #[.int .i64 0, .int .i64 0]) (by rfl) (by rfl) (.bool true) (HNE.out _) (by kernel_rfl) (by rfl) ?_)
            | (refine L_value rfl (HBZ.out _ _ (by rfl) _) ?_)
            | (refine wpList_store_mid rfl 35 (.tmp 2) (.tmp 45) (by rfl) g2 0 Z (by rfl) (by rfl) (by rw [HZS.out.1]; exact HTH.out _ _ HJ.out.i.b2) (by rw [HZS.out.1]; exact info35) HZS.out.2 ?_))
          exact bodyPost_ret (v := .tuple #[.agg Z, .int .i64 8]) (results_row_tmp (p := 2) (u := 3) (ty := 35) rfl _ _ g2 35 Z (0, 0) _ rfl (HFIN.out _ Z HZS.out.1 HJ.out.i.b2 HJ.out.i.hb).1 Tryz.underlying35 rfl (by rw [HZS.out.1]; exact info35)) rfl (df_no HV.out HLEN.out (HFIN.out _ Z HZS.out.1 HJ.out.i.b2 HJ.out.i.hb).2 HZ.out)
      | some X1 =>
        cases h2 : decN y.1 with
        | none =>
          have e8 : ea = 0 := by rw [HXY.out.2.1, h1]; rfl
          have e9 : eb = 8 := by rw [HXY.out.2.2.1, h2]; rfl
          subst e8
          subst e9
          have HRG := Lib.hid (row_range HJ.out.e)
          have HNE := Lib.hid neq167_08
          have HV := Lib.hid (decF_bad HLEN.out HX.out.1.1 HX.out.1.2 (.inr (.inr h2)))
          clear h1 h2
          go_wp2_with (first
            | (go_at_call 102; (with_reducible refine HWY.out.mono ?_); rintro e w14 ⟨rfl, rfl⟩)
            | (refine L_load_arrW 167 (.tmp 6) (by rfl) g6 0 (by rfl) #[.int .i64 0, .int .i64 8] _ HRG.out Tryz.underlying167 rfl (by kernel_rfl) (by rfl) ?_)
            | (refine L_valueW (HB167.out _ _ (by rfl) _) (by rfl) ?_)
            | (refine L_binW .neq 167 167 (.tmp 41) (.tmp 42) (by rfl) (.agg #[.int .i64 0, .int .i64 8]) (.agg #[.int .i64 0, .int .i64 0]) (by rfl) (by rfl) (.bool true) (HNE.out _) (by kernel_rfl) (by rfl) ?_)
            | (refine L_value rfl (HBZ.out _ _ (by rfl) _) ?_)
            | (refine wpList_store_mid rfl 35 (.tmp 2) (.tmp 45) (by rfl) g2 0 Z (by rfl) (by rfl) (by rw [HZS.out.1]; exact HTH.out _ _ HJ.out.i.b2) (by rw [HZS.out.1]; exact info35) HZS.out.2 ?_))
          exact bodyPost_ret (v := .tuple #[.agg Z, .int .i64 8]) (results_row_tmp (p := 2) (u := 3) (ty := 35) rfl _ _ g2 35 Z (0, 0) _ rfl (HFIN.out _ Z HZS.out.1 HJ.out.i.b2 HJ.out.i.hb).1 Tryz.underlying35 rfl (by rw [HZS.out.1]; exact info35)) rfl (df_no HV.out HLEN.out (HFIN.out _ Z HZS.out.1 HJ.out.i.b2 HJ.out.i.hb).2 HZ.out)
        | some Y1 =>
          have e8 : ea = 0 := by rw [HXY.out.2.1, h1]; rfl
          have e9 : eb = 0 := by rw [HXY.out.2.2.1, h2]; rfl
          subst e8
          subst e9
          have HRG := Lib.hid (row_range HJ.out.e)
          have HNE := Lib.hid neq167_00
          have HV := Lib.hid (decF_go HLEN.out HX.out.1.1 HX.out.1.2 HQY.out.symm h1 h2)
          have hX : X = X1 := by rw [HXY.out.1.1, h1]; rfl
          have hY : Y = Y1 := by rw [HXY.out.1.2, h2]; rfl
          subst hX
          subst hY
          clear h1 h2
          go_wp2_with (first
            | (go_at_call 102; (with_reducible refine HWY.out.mono ?_); rintro e w14 ⟨rfl, rfl⟩)
            | (refine L_load_arrW 167 (.tmp 6) (by rfl) g6 0 (by rfl) #[.int .i64 0, .int .i64 0] _ HRG.out Tryz.underlying167 rfl (by kernel_rfl) (by rfl) ?_)
            | (refine L_valueW (HB167.out _ _ (by rfl) _) (by rfl) ?_)
            | (refine L_binW .neq 167 167 (.tmp 41) (.tmp 42) (by rfl) (.agg #[.int .i64 0, .int .i64 0]) (.agg #[.int .i64 0, .int .i64 0]) (by rfl) (by rfl) (.bool false) (HNE.out _) (by kernel_rfl) (by rfl) ?_))
          refine HK9.out _ _ ?_
          refine df_mid w _ raw a n c HR.out HLEN.out HT.out X Y m t1 t2 ⟨HXY.out.2.2.2.1, HXY.out.2.2.2.2⟩ B gr g2 g5 y.2 HJ.out.i (by rw [HX.out.2.1]; exact HV.out) _ _ _ _ _ _ _ _ _ _ _ _ _ _ _ _ _ _ _ _ _ _ _ _ _ _ _ _ _ _ _ _ _ _ _ _ _ _ _ _ _ _ _ _ _ _ _ _ _ _ _ _ _ _ _ _ _ _ _ _ _ _ _ _ _ _ _ _ _ _ _ _ _ _ _ _ _ _ _ _ _ _ _ _ _ _ _ _ _ _ _ _ _
    · have HV := Lib.hid (decF_bad HLEN.out HX.out.1.1 HX.out.1.2 (.inl (by rw [← HQY.out]; exact c0)))
      have d1 : ((q : Int) == 0) = false := by simp; omega
      have d2 : ((q : Int) != 0) = true := by simp; omega
      go_wp2_with (first
        | (go_at_call 102; (with_reducible refine HWY.out.mono ?_); rintro e w14 ⟨rfl, rfl⟩)
        | (refine L_value rfl (HBZ.out _ _ (by rfl) _) ?_)
        | (refine wpList_store_mid rfl 35 (.tmp 2) (.tmp 45) (by rfl) g2 0 Z (by rfl) (by rfl) (by rw [HZS.out.1]; exact HTH.out _ _ HJ.out.i.b2) (by rw [HZS.out.1]; exact info35) HZS.out.2 ?_))
      exact bodyPost_ret (v := .tuple #[.agg Z, .int .i64 8]) (results_row_tmp (p := 2) (u := 3) (ty := 35) rfl _ _ g2 35 Z (0, 0) _ rfl (HFIN.out _ Z HZS.out.1 HJ.out.i.b2 HJ.out.i.hb).1 Tryz.underlying35 rfl (by rw [HZS.out.1]; exact info35)) rfl (df_no HV.out HLEN.out (HFIN.out _ Z HZS.out.1 HJ.out.i.b2 HJ.out.i.hb).2 HZ.out)
end Go.Proofs.YtoboabkaojfbaaaGreatDoor
