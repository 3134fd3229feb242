import Derived.Test.YtoboabkaojfbaaaGreatDoorQ25
namespace Go.Proofs.YtoboabkaojfbaaaGreatDoor
open Go Go.RowKit
set_option maxRecDepth 100000
set_option maxHeartbeats 1000000
set_option linter.unusedVariables false
set_option linter.unusedSimpArgs false
/-! Notes, proofs of two faces, leaves, as cells. -/
structure S3 where
  a : Option Addr
  n : Nat
  c : Nat
def S3.v (s : S3) : Value := .slice s.a s.n s.c
theorem S3.one (s : S3) : s.v.oneCell' = true := rfl
def FB (ha : Hd) (vA : Value) (hb : Hd) (vB : Value) (fm nu : Int) (la lb : Dg) (wA wB : Value) : List Value :=
  hdE ha ++ (vA :: (hdE hb ++ (vB :: (.int .i64 fm :: (.int .i64 nu :: (dgE la ++ (dgE lb ++ [wA, wB])))))))
def LB (nu : Int) (la lb : Dg) (wA wB : Value) : List Value := .int .i64 nu :: (dgE la ++ (dgE lb ++ [wA, wB]))
theorem FB_len (ha : Hd) (vA : Value) (hb : Hd) (vB : Value) (fm nu : Int) (la lb : Dg) (wA wB : Value) : (FB ha vA hb vB fm nu la lb wA wB).length = 266 := by
  simp [FB, hdE_len, dgE_len]
theorem LB_len (nu : Int) (la lb : Dg) (wA wB : Value) : (LB nu la lb wA wB).length = 67 := by simp [LB, dgE_len]
theorem hdE_one (h : Hd) : ∀ v ∈ hdE h, v.oneCell' = true := fun v hv => Array.all_eq_true'.1 (HB_one h.log h.size h.root h.index h.clock) v (List.mem_toArray.2 hv)
theorem dgE_one (d : Dg) : ∀ v ∈ dgE d, v.oneCell' = true := b8_one _
theorem FB_one (ha : Hd) (vA : Value) (hb : Hd) (vB : Value) (fm nu : Int) (la lb : Dg) (wA wB : Value) (h1 : vA.oneCell' = true) (h2 : vB.oneCell' = true) (h3 : wA.oneCell' = true) (h4 : wB.oneCell' = true) : (FB ha vA hb vB fm nu la lb wA wB).toArray.all (·.oneCell') = true := by
  refine all_oneCell_toArray (fun v hv => ?_)
  unfold FB at hv
  simp only [List.mem_append, List.mem_cons, List.mem_singleton, List.not_mem_nil, or_false] at hv
  rcases hv with h | rfl | h | rfl | rfl | rfl | h | h | rfl | rfl
  · exact hdE_one _ v h
  · exact h1
  · exact hdE_one _ v h
  · exact h2
  · rfl
  · rfl
  · exact dgE_one _ v h
  · exact dgE_one _ v h
  · exact h3
  · exact h4
theorem LB_one (nu : Int) (la lb : Dg) (wA wB : Value) (h3 : wA.oneCell' = true) (h4 : wB.oneCell' = true) : (LB nu la lb wA wB).toArray.all (·.oneCell') = true := by
  refine all_oneCell_toArray (fun v hv => ?_)
  unfold LB at hv
  simp only [List.mem_append, List.mem_cons, List.mem_singleton, List.not_mem_nil, or_false] at hv
  rcases hv with rfl | h | h | rfl | rfl
  · rfl
  · exact dgE_one _ v h
  · exact dgE_one _ v h
  · exact h3
  · exact h4
theorem ntA_size (h : Hd) (v : Value) : (ntA h v).size = 99 := by simp [ntA, hdE_len]
theorem ntA_one (h : Hd) (v : Value) (hv : v.oneCell' = true) : (ntA h v).all (·.oneCell') = true := by
  refine all_oneCell_toArray (fun u hu => ?_)
  rcases List.mem_append.1 hu with h | h
  · exact hdE_one _ u h
  · rw [List.mem_singleton] at h; rw [h]; exact hv
theorem info28 : (Tryz.prog.info? 28).map (·.size) = some 99 := by kernel_rfl
theorem info35 : (Tryz.prog.info? 35).map (·.size) = some 266 := by kernel_rfl
theorem info31 : (Tryz.prog.info? 31).map (·.size) = some 67 := by kernel_rfl
abbrev nilS : Value := .slice none 0 0
def o28 : Obj := .cells (ntA zHd nilS) 28
def o35 : Obj := .cells (FB zHd nilS zHd nilS 0 0 zDg zDg nilS nilS).toArray 35
theorem built28 : Tryz.prog.built 28 [] = some (ntA zHd nilS) := by kernel_rfl
theorem built35 : Tryz.prog.built 35 [] = some (FB zHd nilS zHd nilS 0 0 zDg zDg nilS nilS).toArray := by kernel_rfl
theorem built31 : Tryz.prog.built 31 [] = some (LB 0 zDg zDg nilS nilS).toArray := by kernel_rfl
theorem exec_build28 {ρ : Operand → Value} {o : Oper} (ho : o.op = .build 28 #[]) (w : World) : (execOp ρ o).run Tryz.prog w = .ok (.value (.agg (ntA zHd nilS))) w := by
  have hb : (Instr.build 28 #[]).run Tryz.prog w = .ok (.agg (ntA zHd nilS)) w := run_build w 28 #[] _ built28
  unfold execOp
  simp only [ho, List.map_toArray, List.map_nil, Sem.run_bind, hb, Result.andThen_ok, Sem.run_pure]
theorem exec_build35 {ρ : Operand → Value} {o : Oper} (ho : o.op = .build 35 #[]) (w : World) : (execOp ρ o).run Tryz.prog w = .ok (.value (.agg (FB zHd nilS zHd nilS 0 0 zDg zDg nilS nilS).toArray)) w := by
  have hb : (Instr.build 35 #[]).run Tryz.prog w = .ok (.agg (FB zHd nilS zHd nilS 0 0 zDg zDg nilS nilS).toArray) w := run_build w 35 #[] _ built35
  unfold execOp
  simp only [ho, List.map_toArray, List.map_nil, Sem.run_bind, hb, Result.andThen_ok, Sem.run_pure]
theorem exec_build31 {ρ : Operand → Value} {o : Oper} (ho : o.op = .build 31 #[]) (w : World) : (execOp ρ o).run Tryz.prog w = .ok (.value (.agg (LB 0 zDg zDg nilS nilS).toArray)) w := by
  have hb : (Instr.build 31 #[]).run Tryz.prog w = .ok (.agg (LB 0 zDg zDg nilS nilS).toArray) w := run_build w 31 #[] _ built31
  unfold execOp
  simp only [ho, List.map_toArray, List.map_nil, Sem.run_bind, hb, Result.andThen_ok, Sem.run_pure]
section
variable {w : World} {g : Nat} {t : TypeId} {ha : Hd} {vA : Value} {hb : Hd} {vB : Value} {fm nu : Int} {la lb : Dg} {wA wB : Value}
theorem FB.r_ha (h : w.heap[g]? = some (.cells (FB ha vA hb vB fm nu la lb wA wB).toArray t (0, 0))) : w.rangeAt g 0 (hdE ha) := mid_range h 0 (A := []) (B := (vA :: (hdE hb ++ (vB :: (.int .i64 fm :: (.int .i64 nu :: (dgE la ++ (dgE lb ++ (wA :: (wB :: [])))))))))) (by simp [FB]) (by simp [hdE_len, dgE_len])
theorem FB.s_ha (h : w.heap[g]? = some (.cells (FB ha vA hb vB fm nu la lb wA wB).toArray t (0, 0))) (z : Hd) : (w.setCells g 0 (hdE z)).heap[g]? = some (.cells (FB z vA hb vB fm nu la lb wA wB).toArray t (0, 0)) := by
  rw [mid_set h 0 (A := []) (Z := hdE ha) (V := hdE z) (B := (vA :: (hdE hb ++ (vB :: (.int .i64 fm :: (.int .i64 nu :: (dgE la ++ (dgE lb ++ (wA :: (wB :: [])))))))))) (by simp [FB]) (by simp [hdE_len, dgE_len]) (by simp [hdE_len, dgE_len])]
  simp [FB]
theorem FB.c_vA (h : w.heap[g]? = some (.cells (FB ha vA hb vB fm nu la lb wA wB).toArray t (0, 0))) : w.cell? ⟨g, 98, none⟩ = some (vA) := mid_cell h 98 (A := (hdE ha ++ [])) (B := (hdE hb ++ (vB :: (.int .i64 fm :: (.int .i64 nu :: (dgE la ++ (dgE lb ++ (wA :: (wB :: []))))))))) (by simp [FB]) (by simp [hdE_len, dgE_len])
theorem FB.s_vA (h : w.heap[g]? = some (.cells (FB ha vA hb vB fm nu la lb wA wB).toArray t (0, 0))) (z : Value) : (w.setCell ⟨g, 98, none⟩ (z)).heap[g]? = some (.cells (FB ha z hb vB fm nu la lb wA wB).toArray t (0, 0)) := by
  rw [mid_set1 h 98 (A := (hdE ha ++ [])) (z := vA) (v := z) (B := (hdE hb ++ (vB :: (.int .i64 fm :: (.int .i64 nu :: (dgE la ++ (dgE lb ++ (wA :: (wB :: []))))))))) (by simp [FB]) (by simp [hdE_len, dgE_len])]
  simp [FB]
theorem FB.r_hb (h : w.heap[g]? = some (.cells (FB ha vA hb vB fm nu la lb wA wB).toArray t (0, 0))) : w.rangeAt g 99 (hdE hb) := mid_range h 99 (A := (hdE ha ++ (vA :: []))) (B := (vB :: (.int .i64 fm :: (.int .i64 nu :: (dgE la ++ (dgE lb ++ (wA :: (wB :: [])))))))) (by simp [FB]) (by simp [hdE_len, dgE_len])
theorem FB.s_hb (h : w.heap[g]? = some (.cells (FB ha vA hb vB fm nu la lb wA wB).toArray t (0, 0))) (z : Hd) : (w.setCells g 99 (hdE z)).heap[g]? = some (.cells (FB ha vA z vB fm nu la lb wA wB).toArray t (0, 0)) := by
  rw [mid_set h 99 (A := (hdE ha ++ (vA :: []))) (Z := hdE hb) (V := hdE z) (B := (vB :: (.int .i64 fm :: (.int .i64 nu :: (dgE la ++ (dgE lb ++ (wA :: (wB :: [])))))))) (by simp [FB]) (by simp [hdE_len, dgE_len]) (by simp [hdE_len, dgE_len])]
  simp [FB]
theorem FB.c_vB (h : w.heap[g]? = some (.cells (FB ha vA hb vB fm nu la lb wA wB).toArray t (0, 0))) : w.cell? ⟨g, 197, none⟩ = some (vB) := mid_cell h 197 (A := (hdE ha ++ (vA :: (hdE hb ++ [])))) (B := (.int .i64 fm :: (.int .i64 nu :: (dgE la ++ (dgE lb ++ (wA :: (wB :: []))))))) (by simp [FB]) (by simp [hdE_len, dgE_len])
theorem FB.s_vB (h : w.heap[g]? = some (.cells (FB ha vA hb vB fm nu la lb wA wB).toArray t (0, 0))) (z : Value) : (w.setCell ⟨g, 197, none⟩ (z)).heap[g]? = some (.cells (FB ha vA hb z fm nu la lb wA wB).toArray t (0, 0)) := by
  rw [mid_set1 h 197 (A := (hdE ha ++ (vA :: (hdE hb ++ [])))) (z := vB) (v := z) (B := (.int .i64 fm :: (.int .i64 nu :: (dgE la ++ (dgE lb ++ (wA :: (wB :: []))))))) (by simp [FB]) (by simp [hdE_len, dgE_len])]
  simp [FB]
theorem FB.c_fm (h : w.heap[g]? = some (.cells (FB ha vA hb vB fm nu la lb wA wB).toArray t (0, 0))) : w.cell? ⟨g, 198, none⟩ = some (.int .i64 fm) := mid_cell h 198 (A := (hdE ha ++ (vA :: (hdE hb ++ (vB :: []))))) (B := (.int .i64 nu :: (dgE la ++ (dgE lb ++ (wA :: (wB :: [])))))) (by simp [FB]) (by simp [hdE_len, dgE_len])
theorem FB.s_fm (h : w.heap[g]? = some (.cells (FB ha vA hb vB fm nu la lb wA wB).toArray t (0, 0))) (z : Int) : (w.setCell ⟨g, 198, none⟩ (.int .i64 z)).heap[g]? = some (.cells (FB ha vA hb vB z nu la lb wA wB).toArray t (0, 0)) := by
  rw [mid_set1 h 198 (A := (hdE ha ++ (vA :: (hdE hb ++ (vB :: []))))) (z := .int .i64 fm) (v := .int .i64 z) (B := (.int .i64 nu :: (dgE la ++ (dgE lb ++ (wA :: (wB :: [])))))) (by simp [FB]) (by simp [hdE_len, dgE_len])]
  simp [FB]
theorem FB.c_nu (h : w.heap[g]? = some (.cells (FB ha vA hb vB fm nu la lb wA wB).toArray t (0, 0))) : w.cell? ⟨g, 199, none⟩ = some (.int .i64 nu) := mid_cell h 199 (A := (hdE ha ++ (vA :: (hdE hb ++ (vB :: (.int .i64 fm :: [])))))) (B := (dgE la ++ (dgE lb ++ (wA :: (wB :: []))))) (by simp [FB]) (by simp [hdE_len, dgE_len])
theorem FB.s_nu (h : w.heap[g]? = some (.cells (FB ha vA hb vB fm nu la lb wA wB).toArray t (0, 0))) (z : Int) : (w.setCell ⟨g, 199, none⟩ (.int .i64 z)).heap[g]? = some (.cells (FB ha vA hb vB fm z la lb wA wB).toArray t (0, 0)) := by
  rw [mid_set1 h 199 (A := (hdE ha ++ (vA :: (hdE hb ++ (vB :: (.int .i64 fm :: [])))))) (z := .int .i64 nu) (v := .int .i64 z) (B := (dgE la ++ (dgE lb ++ (wA :: (wB :: []))))) (by simp [FB]) (by simp [hdE_len, dgE_len])]
  simp [FB]
theorem FB.r_la (h : w.heap[g]? = some (.cells (FB ha vA hb vB fm nu la lb wA wB).toArray t (0, 0))) : w.rangeAt g 200 (dgE la) := mid_range h 200 (A := (hdE ha ++ (vA :: (hdE hb ++ (vB :: (.int .i64 fm :: (.int .i64 nu :: []))))))) (B := (dgE lb ++ (wA :: (wB :: [])))) (by simp [FB]) (by simp [hdE_len, dgE_len])
theorem FB.s_la (h : w.heap[g]? = some (.cells (FB ha vA hb vB fm nu la lb wA wB).toArray t (0, 0))) (z : Dg) : (w.setCells g 200 (dgE z)).heap[g]? = some (.cells (FB ha vA hb vB fm nu z lb wA wB).toArray t (0, 0)) := by
  rw [mid_set h 200 (A := (hdE ha ++ (vA :: (hdE hb ++ (vB :: (.int .i64 fm :: (.int .i64 nu :: []))))))) (Z := dgE la) (V := dgE z) (B := (dgE lb ++ (wA :: (wB :: [])))) (by simp [FB]) (by simp [hdE_len, dgE_len]) (by simp [hdE_len, dgE_len])]
  simp [FB]
theorem FB.r_lb (h : w.heap[g]? = some (.cells (FB ha vA hb vB fm nu la lb wA wB).toArray t (0, 0))) : w.rangeAt g 232 (dgE lb) := mid_range h 232 (A := (hdE ha ++ (vA :: (hdE hb ++ (vB :: (.int .i64 fm :: (.int .i64 nu :: (dgE la ++ [])))))))) (B := (wA :: (wB :: []))) (by simp [FB]) (by simp [hdE_len, dgE_len])
theorem FB.s_lb (h : w.heap[g]? = some (.cells (FB ha vA hb vB fm nu la lb wA wB).toArray t (0, 0))) (z : Dg) : (w.setCells g 232 (dgE z)).heap[g]? = some (.cells (FB ha vA hb vB fm nu la z wA wB).toArray t (0, 0)) := by
  rw [mid_set h 232 (A := (hdE ha ++ (vA :: (hdE hb ++ (vB :: (.int .i64 fm :: (.int .i64 nu :: (dgE la ++ [])))))))) (Z := dgE lb) (V := dgE z) (B := (wA :: (wB :: []))) (by simp [FB]) (by simp [hdE_len, dgE_len]) (by simp [hdE_len, dgE_len])]
  simp [FB]
theorem FB.c_wA (h : w.heap[g]? = some (.cells (FB ha vA hb vB fm nu la lb wA wB).toArray t (0, 0))) : w.cell? ⟨g, 264, none⟩ = some (wA) := mid_cell h 264 (A := (hdE ha ++ (vA :: (hdE hb ++ (vB :: (.int .i64 fm :: (.int .i64 nu :: (dgE la ++ (dgE lb ++ []))))))))) (B := (wB :: [])) (by simp [FB]) (by simp [hdE_len, dgE_len])
theorem FB.s_wA (h : w.heap[g]? = some (.cells (FB ha vA hb vB fm nu la lb wA wB).toArray t (0, 0))) (z : Value) : (w.setCell ⟨g, 264, none⟩ (z)).heap[g]? = some (.cells (FB ha vA hb vB fm nu la lb z wB).toArray t (0, 0)) := by
  rw [mid_set1 h 264 (A := (hdE ha ++ (vA :: (hdE hb ++ (vB :: (.int .i64 fm :: (.int .i64 nu :: (dgE la ++ (dgE lb ++ []))))))))) (z := wA) (v := z) (B := (wB :: [])) (by simp [FB]) (by simp [hdE_len, dgE_len])]
  simp [FB]
theorem FB.c_wB (h : w.heap[g]? = some (.cells (FB ha vA hb vB fm nu la lb wA wB).toArray t (0, 0))) : w.cell? ⟨g, 265, none⟩ = some (wB) := mid_cell h 265 (A := (hdE ha ++ (vA :: (hdE hb ++ (vB :: (.int .i64 fm :: (.int .i64 nu :: (dgE la ++ (dgE lb ++ (wA :: [])))))))))) (B := []) (by simp [FB]) (by simp [hdE_len, dgE_len])
theorem FB.s_wB (h : w.heap[g]? = some (.cells (FB ha vA hb vB fm nu la lb wA wB).toArray t (0, 0))) (z : Value) : (w.setCell ⟨g, 265, none⟩ (z)).heap[g]? = some (.cells (FB ha vA hb vB fm nu la lb wA z).toArray t (0, 0)) := by
  rw [mid_set1 h 265 (A := (hdE ha ++ (vA :: (hdE hb ++ (vB :: (.int .i64 fm :: (.int .i64 nu :: (dgE la ++ (dgE lb ++ (wA :: [])))))))))) (z := wB) (v := z) (B := []) (by simp [FB]) (by simp [hdE_len, dgE_len])]
  simp [FB]
theorem FB.r_noteA (h : w.heap[g]? = some (.cells (FB ha vA hb vB fm nu la lb wA wB).toArray t (0, 0))) : w.rangeAt g 0 (ntA ha vA).toList := mid_range h 0 (A := []) (B := (hdE hb ++ (vB :: (.int .i64 fm :: (.int .i64 nu :: (dgE la ++ (dgE lb ++ (wA :: (wB :: []))))))))) (by simp [FB, ntA]) rfl
theorem FB.r_noteB (h : w.heap[g]? = some (.cells (FB ha vA hb vB fm nu la lb wA wB).toArray t (0, 0))) : w.rangeAt g 99 (ntA hb vB).toList := mid_range h 99 (A := (hdE ha ++ (vA :: []))) (B := (.int .i64 fm :: (.int .i64 nu :: (dgE la ++ (dgE lb ++ (wA :: (wB :: []))))))) (by simp [FB, ntA]) (by simp [hdE_len, dgE_len])
theorem FB.s_noteA (h : w.heap[g]? = some (.cells (FB ha vA hb vB fm nu la lb wA wB).toArray t (0, 0))) (z : Hd) (u : Value) : (w.setCells g 0 (ntA z u).toList).heap[g]? = some (.cells (FB z u hb vB fm nu la lb wA wB).toArray t (0, 0)) := by
  rw [mid_set h 0 (A := []) (Z := hdE ha ++ [vA]) (V := (ntA z u).toList) (B := (hdE hb ++ (vB :: (.int .i64 fm :: (.int .i64 nu :: (dgE la ++ (dgE lb ++ (wA :: (wB :: []))))))))) (by simp [FB]) rfl (by simp [ntA, hdE_len])]
  simp [FB, ntA]
theorem FB.s_noteB (h : w.heap[g]? = some (.cells (FB ha vA hb vB fm nu la lb wA wB).toArray t (0, 0))) (z : Hd) (u : Value) : (w.setCells g 99 (ntA z u).toList).heap[g]? = some (.cells (FB ha vA z u fm nu la lb wA wB).toArray t (0, 0)) := by
  rw [mid_set h 99 (A := (hdE ha ++ (vA :: []))) (Z := hdE hb ++ [vB]) (V := (ntA z u).toList) (B := (.int .i64 fm :: (.int .i64 nu :: (dgE la ++ (dgE lb ++ (wA :: (wB :: []))))))) (by simp [FB]) (by simp [hdE_len, dgE_len]) (by simp [ntA, hdE_len])]
  simp [FB, ntA]
theorem FB.c_sizeA (h : w.heap[g]? = some (.cells (FB ha vA hb vB fm nu la lb wA wB).toArray t (0, 0))) : w.cell? ⟨g, 32, none⟩ = some (.int .i64 ha.size) := mid_cell h 32 (A := [] ++ dgE ha.log) (B := dgE ha.root ++ (dgE ha.index ++ (.int .i64 ha.clock :: (vA :: (hdE hb ++ (vB :: (.int .i64 fm :: (.int .i64 nu :: (dgE la ++ (dgE lb ++ (wA :: (wB :: [])))))))))))) (by simp [FB, hdE, HB]) (by simp [hdE_len, dgE_len])
theorem FB.r_rootA (h : w.heap[g]? = some (.cells (FB ha vA hb vB fm nu la lb wA wB).toArray t (0, 0))) : w.rangeAt g 33 (dgE ha.root) := mid_range h 33 (A := [] ++ (dgE ha.log ++ [.int .i64 ha.size])) (B := dgE ha.index ++ (.int .i64 ha.clock :: (vA :: (hdE hb ++ (vB :: (.int .i64 fm :: (.int .i64 nu :: (dgE la ++ (dgE lb ++ (wA :: (wB :: []))))))))))) (by simp [FB, hdE, HB]) (by simp [hdE_len, dgE_len])
theorem FB.c_sizeB (h : w.heap[g]? = some (.cells (FB ha vA hb vB fm nu la lb wA wB).toArray t (0, 0))) : w.cell? ⟨g, 131, none⟩ = some (.int .i64 hb.size) := mid_cell h 131 (A := (hdE ha ++ (vA :: [])) ++ dgE hb.log) (B := dgE hb.root ++ (dgE hb.index ++ (.int .i64 hb.clock :: (vB :: (.int .i64 fm :: (.int .i64 nu :: (dgE la ++ (dgE lb ++ (wA :: (wB :: [])))))))))) (by simp [FB, hdE, HB]) (by simp [hdE_len, dgE_len])
theorem FB.r_rootB (h : w.heap[g]? = some (.cells (FB ha vA hb vB fm nu la lb wA wB).toArray t (0, 0))) : w.rangeAt g 132 (dgE hb.root) := mid_range h 132 (A := (hdE ha ++ (vA :: [])) ++ (dgE hb.log ++ [.int .i64 hb.size])) (B := dgE hb.index ++ (.int .i64 hb.clock :: (vB :: (.int .i64 fm :: (.int .i64 nu :: (dgE la ++ (dgE lb ++ (wA :: (wB :: []))))))))) (by simp [FB, hdE, HB]) (by simp [hdE_len, dgE_len])
theorem FB.there (h : w.heap[g]? = some (.cells (FB ha vA hb vB fm nu la lb wA wB).toArray t (0, 0))) (off n : Nat) (hn : off + n ≤ 266) : w.there g off n := mid_there h off n (by rw [List.size_toArray, FB_len]; exact hn)
end
section
variable {w : World} {g : Nat} {t : TypeId} {nu : Int} {la lb : Dg} {wA wB : Value}
theorem LB.c_nu (h : w.heap[g]? = some (.cells (LB nu la lb wA wB).toArray t (0, 0))) : w.cell? ⟨g, 0, none⟩ = some (.int .i64 nu) := mid_cell h 0 (A := []) (B := (dgE la ++ (dgE lb ++ (wA :: (wB :: []))))) (by simp [LB]) (by simp [hdE_len, dgE_len])
theorem LB.r_la (h : w.heap[g]? = some (.cells (LB nu la lb wA wB).toArray t (0, 0))) : w.rangeAt g 1 (dgE la) := mid_range h 1 (A := (.int .i64 nu :: [])) (B := (dgE lb ++ (wA :: (wB :: [])))) (by simp [LB]) (by simp [hdE_len, dgE_len])
theorem LB.r_lb (h : w.heap[g]? = some (.cells (LB nu la lb wA wB).toArray t (0, 0))) : w.rangeAt g 33 (dgE lb) := mid_range h 33 (A := (.int .i64 nu :: (dgE la ++ []))) (B := (wA :: (wB :: []))) (by simp [LB]) (by simp [hdE_len, dgE_len])
theorem LB.c_wA (h : w.heap[g]? = some (.cells (LB nu la lb wA wB).toArray t (0, 0))) : w.cell? ⟨g, 65, none⟩ = some (wA) := mid_cell h 65 (A := (.int .i64 nu :: (dgE la ++ (dgE lb ++ [])))) (B := (wB :: [])) (by simp [LB]) (by simp [hdE_len, dgE_len])
theorem LB.c_wB (h : w.heap[g]? = some (.cells (LB nu la lb wA wB).toArray t (0, 0))) : w.cell? ⟨g, 66, none⟩ = some (wB) := mid_cell h 66 (A := (.int .i64 nu :: (dgE la ++ (dgE lb ++ (wA :: []))))) (B := []) (by simp [LB]) (by simp [hdE_len, dgE_len])
end
/-- A proof's cells, and what its lists hold. -/
def fcA (f : Fc) (sA sB wA wB : S3) : Array Value := (FB f.a.head sA.v f.b.head sB.v f.form f.number f.leafA f.leafB wA.v wB.v).toArray
structure FcAt (w : World) (f : Fc) (sA sB wA wB : S3) : Prop where
  a : RS 64 sgE w sA.a sA.n sA.c f.a.signs
  b : RS 64 sgE w sB.a sB.n sB.c f.b.signs
  wa : DS w wA.a wA.n wA.c f.wayA
  wb : DS w wB.a wB.n wB.c f.wayB
theorem FcAt.below {w w' : World} {f : Fc} {sA sB wA wB : S3} (h : FcAt w f sA sB wA wB) (hb : Below w.heap.size w w') : FcAt w' f sA sB wA wB := ⟨h.a.below hb, h.b.below hb, h.wa.below hb, h.wb.below hb⟩
theorem fcA_size (f : Fc) (sA sB wA wB : S3) : (fcA f sA sB wA wB).size = 266 := by unfold fcA; rw [List.size_toArray, FB_len]
theorem fcA_one (f : Fc) (sA sB wA wB : S3) : (fcA f sA sB wA wB).all (·.oneCell') = true := FB_one _ _ _ _ _ _ _ _ _ _ rfl rfl rfl rfl
def lvA (l : Lv) (wA wB : S3) : Array Value := (LB l.number l.a l.b wA.v wB.v).toArray
theorem lvA_size (l : Lv) (wA wB : S3) : (lvA l wA wB).size = 67 := by unfold lvA; rw [List.size_toArray, LB_len]
theorem lvA_one (l : Lv) (wA wB : S3) : (lvA l wA wB).all (·.oneCell') = true := LB_one _ _ _ _ _ rfl rfl
structure LvAt (w : World) (l : Lv) (wA wB : S3) : Prop where
  wa : DS w wA.a wA.n wA.c l.wayA
  wb : DS w wB.a wB.n wB.c l.wayB
theorem LvAt.below {w w' : World} {l : Lv} {wA wB : S3} (h : LvAt w l wA wB) (hb : Below w.heap.size w w') : LvAt w' l wA wB := ⟨h.wa.below hb, h.wb.below hb⟩
end Go.Proofs.YtoboabkaojfbaaaGreatDoor
namespace Go.Proofs.YtoboabkaojfbaaaGreatDoor
open Go Go.RowKit
set_option maxRecDepth 100000
set_option maxHeartbeats 4000000
set_option linter.unusedVariables false
set_option linter.unusedSimpArgs false
/-! Loads of great rows, structs built of parts, and head.sign. -/
theorem load23r {w : World} {b o : Nat} {D : Array Value} (hc : w.rangeAt b o D.toList) (hs : D.size = 32) : (Instr.loadAt 23 (.pointer (some ⟨b, o, none⟩))).run Tryz.prog w = .ok (.agg D) w := by
  have := run_loadAt_mid (P := Tryz.prog) w b o 23 D.toList _ hc Tryz.underlying23 rfl (by rw [Array.length_toList, hs]; exact info38)
  rwa [Array.toArray_toList] at this
theorem load25 {w : World} {b o : Nat} {D : Array Value} (hc : w.rangeAt b o D.toList) (hs : D.size = 98) : (Instr.loadAt 25 (.pointer (some ⟨b, o, none⟩))).run Tryz.prog w = .ok (.agg D) w := by
  have := run_loadAt_mid (P := Tryz.prog) w b o 25 D.toList _ hc Tryz.underlying25 rfl (by rw [Array.length_toList, hs]; exact info25)
  rwa [Array.toArray_toList] at this
theorem load28 {w : World} {b o : Nat} {D : Array Value} (hc : w.rangeAt b o D.toList) (hs : D.size = 99) : (Instr.loadAt 28 (.pointer (some ⟨b, o, none⟩))).run Tryz.prog w = .ok (.agg D) w := by
  have := run_loadAt_mid (P := Tryz.prog) w b o 28 D.toList _ hc Tryz.underlying28 rfl (by rw [Array.length_toList, hs]; exact info28)
  rwa [Array.toArray_toList] at this
theorem load35 {w : World} {b o : Nat} {D : Array Value} (hc : w.rangeAt b o D.toList) (hs : D.size = 266) : (Instr.loadAt 35 (.pointer (some ⟨b, o, none⟩))).run Tryz.prog w = .ok (.agg D) w := by
  have := run_loadAt_mid (P := Tryz.prog) w b o 35 D.toList _ hc Tryz.underlying35 rfl (by rw [Array.length_toList, hs]; exact info35)
  rwa [Array.toArray_toList] at this
theorem load31 {w : World} {b o : Nat} {D : Array Value} (hc : w.rangeAt b o D.toList) (hs : D.size = 67) : (Instr.loadAt 31 (.pointer (some ⟨b, o, none⟩))).run Tryz.prog w = .ok (.agg D) w := by
  have := run_loadAt_mid (P := Tryz.prog) w b o 31 D.toList _ hc Tryz.underlying31 rfl (by rw [Array.length_toList, hs]; exact info31)
  rwa [Array.toArray_toList] at this
theorem row_range {w : World} {g : Nat} {C : Array Value} {t : TypeId} (h : w.heap[g]? = some (.cells C t (0, 0))) : w.rangeAt g 0 C.toList := fun j v hj => by
  rw [cell_of_row _ _ _ _ _ _ h, Nat.zero_add]
  simpa using hj
/-! Structs built. -/
theorem built_fill {P : Program} {t : TypeId} {z : Value} {sz by' : Nat} {places : List (Nat × Nat)} (hi : (P.info? t).map (fun i => (i.zero, i.size, i.bytes)) = some (some z, sz, by')) (hu : P.underlying t = some (.struct (P.fieldsOf t))) (hp : (P.fieldsOf t).toList.mapM (fun f => (P.info? f.type).map fun i => (f.offset, i.size)) = some places) (parts : List (Nat × Value)) :
    P.built t parts = Instr.fill (places.toArray[·]?) z.cells parts := by
  obtain ⟨it, hit, hz, -⟩ := info_parts hi
  exact built_struct hit hu hz hp parts
def o63 : Obj := .cells (sgA ⟨zDg, zDg⟩) 63
theorem built63 (x y : Dg) : Tryz.prog.built 63 [(0, .agg (dgA x.1)), (1, .agg (dgA y.1))] = some (sgA ⟨x, y⟩) := by
  rw [built_fill (z := .agg (sgA ⟨zDg, zDg⟩)) (places := [(0, 32), (32, 32)]) sl26.inf (by kernel_rfl) (by kernel_rfl)]
  have h0 := fill_part (([(0, 32), (32, 32)] : List (Nat × Nat)).toArray[·]?) 0 0 (.agg (dgA x.1)) [(1, .agg (dgA y.1))] [] (dgE zDg) (dgE zDg) (dgE x) (by rw [dgE_len]; rfl) rfl rfl (by rw [dgE_len, dgE_len])
  have h1 := fill_part (([(0, 32), (32, 32)] : List (Nat × Nat)).toArray[·]?) 1 32 (.agg (dgA y.1)) [] (dgE x) (dgE zDg) [] (dgE y) (by rw [dgE_len]; rfl) rfl (dgE_len x) (by rw [dgE_len, dgE_len])
  rw [List.append_nil, List.append_nil] at h1
  exact h0.trans h1
theorem exec_build63 {ρ : Operand → Value} {o : Oper} {d e : Operand} {D E : Array Value} {x y : Dg} (ho : o.op = .build 63 #[(0, d), (1, e)]) (hd : ρ d = .agg D) (he : ρ e = .agg E) (hD : D = dgA x.1) (hE : E = dgA y.1) (w : World) : (execOp ρ o).run Tryz.prog w = .ok (.value (.agg (sgA ⟨x, y⟩))) w := by
  subst hD; subst hE
  have hb : (Instr.build 63 #[(0, .agg (dgA x.1)), (1, .agg (dgA y.1))]).run Tryz.prog w = .ok (.agg (sgA ⟨x, y⟩)) w := run_build w 63 #[(0, .agg (dgA x.1)), (1, .agg (dgA y.1))] _ (built63 x y)
  unfold execOp
  simp only [ho, List.map_toArray, List.map_cons, List.map_nil, hd, he, Sem.run_bind, hb, Result.andThen_ok, Sem.run_pure]
/-- head.sign. -/
theorem sign_any (w : World) (h : Hd) (a : Option Addr) (n c : Nat) (k : List UInt8) (hr : rightH h = true) (hk : R8 w a n c k) (hn : n ≤ 64) (ht : RoundTab w) (h3 : 1 < w.heap.size) :
    Calls Tryz.prog 97 #[.agg (hdA h), .slice a n c] w fun e w' => e = .returned (.agg (sgA (signP h k))) ∧ Below w.heap.size w w' := by
  have HRR := Lib.hid hr; have HK := Lib.hid hk; have HN := Lib.hid hn
  have HT := Lib.hid (show RoundTab w ∧ 1 < w.heap.size from ⟨ht, h3⟩)
  obtain ⟨A, hA⟩ : ∃ A, A = hdA h := ⟨_, rfl⟩
  have HA := Lib.hid hA
  have HAS := Lib.hid (show A.size = 98 by rw [hA, hdA_size])
  rw [← hA]
  obtain ⟨D, hD⟩ : ∃ D, D = dgA (idP k).1 := ⟨_, rfl⟩
  have HD := Lib.hid hD
  obtain ⟨E, hE⟩ : ∃ E, E = dgA (macP k (laidP h)).1 := ⟨_, rfl⟩
  have HE := Lib.hid hE
  obtain ⟨G, hG⟩ : ∃ G, G = sgA (signP h k) := ⟨_, rfl⟩
  have HG := Lib.hid (show G = sgA ⟨idP k, macP k (laidP h)⟩ from hG)
  have HGS := Lib.hid (show G.size = 64 ∧ G.all (·.oneCell') = true by rw [hG]; exact ⟨sgA_size _, all_oneCell_toArray (sgE_one _)⟩)
  rw [← hG]
  clear hA hr hk hn ht h3 hD hE hG
  go_enter Tryz.func97, Tryz.ntmps97
  go_upto_region 1 with (fail)
  change Code.wp Tryz.prog _ _ _ ((w.alloc (.cells A 25)).alloc o63)
  obtain ⟨g2, hg2⟩ : ∃ g, g = w.heap.size := ⟨_, rfl⟩
  obtain ⟨g4, hg4⟩ : ∃ g, g = w.heap.size + 1 := ⟨_, rfl⟩
  have HQ2 := Lib.hid (show ((w.alloc (.cells A 25)).alloc o63).heap[g2]? = some (.cells A 25 (0, 0)) by rw [hg2]; exact heap_alloc2_old w _ _)
  have HQ4 := Lib.hid (show ((w.alloc (.cells A 25)).alloc o63).heap[g4]? = some o63 by rw [hg4]; exact heap_alloc2_new w _ _)
  have HB1 := Lib.hid (show Below w.heap.size w ((w.alloc (.cells A 25)).alloc o63) from ((Below.refl _ _).alloc (Nat.le_refl _) _).alloc (by simp) _)
  first
    | rw [← hg4, ← hg2]
    | rw [← hg2, ← hg4]
  have HGG := Lib.hid (show g2 = w.heap.size ∧ g4 = w.heap.size + 1 from ⟨hg2, hg4⟩)
  clear hg2 hg4
  generalize (w.alloc (.cells A 25)).alloc o63 = w1 at *
  have HCI := Lib.hid (fun (x : World) (hx : Below w1.heap.size w1 x) => show Calls Tryz.prog 40 #[.slice a n c] x (fun e w' => e = .returned (.agg D) ∧ Below x.heap.size x w') by
    rw [HD.out]
    have hb := HB1.out.trans (hx.mono HB1.out.size)
    exact id_any x a n c k (HK.out.below hb) (rt_below HT.out.1 hb HT.out.2) (by have := hb.size; have := HT.out.2; omega))
  have HCL := Lib.hid (fun (x : World) => show Calls Tryz.prog 165 #[.agg A] x (fun e w' => ∃ a n c, e = .returned (.slice a n c) ∧ w'.ownsRow x.heap.size 5 1 (.slice a n c) n ((laidP h).map b8) ∧ Below x.heap.size x w') by rw [HA.out]; exact laid_any x h HRR.out)
  have HCM := Lib.hid (fun (x : World) (hx : Below w1.heap.size w1 x) (b : Option Addr) (m d : Nat) (hp : R8 x b m d (laidP h)) => show Calls Tryz.prog 164 #[.slice a n c, .slice b m d] x (fun e w' => e = .returned (.agg E) ∧ Below x.heap.size x w') by
    rw [HE.out]
    have hb := HB1.out.trans (hx.mono HB1.out.size)
    exact mac_any x a b n c m d k (laidP h) (HK.out.below hb) hp HN.out (by have := hp.1; rw [laidP_len] at this; omega) (rt_below HT.out.1 hb HT.out.2) (by have := hb.size; have := HT.out.2; omega))
  have HLA := Lib.hid (fun (x : World) (hx : Below w1.heap.size w1 x) => show x.rangeAt g2 0 A.toList from row_range ((hx.block g2 (Array.getElem?_eq_some_iff.1 HQ2.out).1).trans HQ2.out))
  have HSS := Lib.hid (fun (x : World) (hx : Below w1.heap.size w1 x) => show Below w.heap.size w x ∧ x.heap[g2]? = some (.cells A 25 (0, 0)) from ⟨HB1.out.trans (hx.mono HB1.out.size), (hx.block g2 (Array.getElem?_eq_some_iff.1 HQ2.out).1).trans HQ2.out⟩)
  have HX1 := Lib.hid (show Below w1.heap.size w1 w1.drew from (Below.refl _ _).drew)
  refine wp_region_held_drew (S := fun x => Below w.heap.size w x ∧ x.heap[g2]? = some (.cells A 25 (0, 0))) (by kernel_rfl) (HSS.out _ HX1.out) (fun hHeld => ?_)
  apply wpT 0
  apply wpT 2
  apply wpL 3 (.agg A)
  · exact fun w hSw => exec_load rfl (load25 (row_range hSw.2) HAS.out)
  apply wpR 1
  intro K hK
  go_simp
  refine (HCI.out _ HX1.out).mono ?_
  rintro e w2 ⟨rfl, hb⟩
  have HX2 := Lib.hid (HX1.out.trans (hb.mono HX1.out.size))
  clear hb
  apply bk hK
  · exact HSS.out _ HX2.out
  intro hHeld
  clear hK K
  apply wpR 4
  intro K hK
  go_simp
  refine (HCL.out _).mono ?_
  rintro e w3 ⟨pa, pn, pc, rfl, ho, hb⟩
  have HX3 := Lib.hid (HX2.out.trans (hb.mono HX2.out.size))
  have HP3 := Lib.hid (R8.of_own8 ho (by rw [laidP_len]; decide))
  clear ho hb
  apply bk hK
  · exact HSS.out _ HX3.out
  intro hHeld
  clear hK K
  apply wpR 5
  intro K hK
  go_simp
  refine (HCM.out _ HX3.out pa pn pc HP3.out).mono ?_
  rintro e w4 ⟨rfl, hb⟩
  have HX4 := Lib.hid (HX3.out.trans (hb.mono HX3.out.size))
  clear hb
  apply bk hK
  · exact HSS.out _ HX4.out
  intro hHeld
  clear hK K
  apply wpL 6 (.agg G)
  · exact fun w hSw => by rw [HG.out]; exact exec_build63 rfl (by rfl) (by rfl) HD.out HE.out w
  have HQE := Lib.hid (show w4.heap[g4]? = some (.cells (sgA ⟨zDg, zDg⟩) 63 (0, 0)) from (HX4.out.block g4 (Array.getElem?_eq_some_iff.1 HQ4.out).1).trans HQ4.out)
  have HTH := Lib.hid (show w4.there g4 0 64 by have := there_block HQE.out; rwa [sgA_size] at this)
  apply wpR 7
  intro K hK
  refine S_store_mid rfl 63 (.tmp 4) (.tmp 11) (by rfl) g4 0 G (by rfl) (by rfl) (by rw [HGS.out.1]; exact HTH.out) (by rw [HGS.out.1]; exact info63) HGS.out.2 ?_
  have HGF := Lib.hid (show (w4.setCells g4 0 G.toList).heap[g4]? = some (.cells G 63 (0, 0)) by have := setCells_all HQE.out G.toList (by rw [Array.length_toList, HGS.out.1, sgA_size]); simpa using this)
  have HBF := Lib.hid (show Below w.heap.size w (w4.setCells g4 0 G.toList) from (HB1.out.trans (HX4.out.mono HB1.out.size)).grown (setCells_grown _ _ _ _) (HB1.out.trans (HX4.out.mono HB1.out.size)).size (fun q hq => by rw [← Option.some.inj hq, HGG.out.2]; omega))
  apply bk hK
  · exact ⟨HBF.out, (blk_keep (setCells_grown _ _ _ _) hHeld.2 (by have := HGG.out; omega))⟩
  intro hHeld
  clear hK K
  refine wpAnyH_done (by kernel_rfl) ?_ _
  go_wp2_with fail
  refine bodyPost_ret (v := .agg G) (results_cell_row (p := 4) (ty := 63) rfl _ _ g4 63 G (0, 0) _ rfl HGF.out Tryz.underlying63 rfl (by rw [HGS.out.1]; exact info63)) rfl ⟨rfl, HBF.out⟩
end Go.Proofs.YtoboabkaojfbaaaGreatDoor
