import Derived.Test.YtgkehahklccacaaGreatDoorQ20
namespace Go.Proofs.YtgkehahklccacaaGreatDoor
open Go Go.RowKit
set_option maxRecDepth 100000
set_option maxHeartbeats 1000000
set_option linter.unusedVariables false
set_option linter.unusedSimpArgs false

open Go.Maps Go.WideMaps Go.ChangeMaps
theorem exec_lookup {P : Program} {ρ : Operand → Value} {o : Oper} {ty : TypeId} {m k : Operand} {ok : Bool} {v : Value} {w : World} (ho : o.op = .lookup ty m k ok) (h : (Instr.lookup ty (ρ m) (ρ k) ok).run P w = .ok v w) : (execOp ρ o).run P w = .ok (.value v) w := by
  unfold execOp
  simp only [ho, Sem.run_bind, h, Result.andThen_ok, Sem.run_pure]
theorem exec_mapUpdate {P : Program} {ρ : Operand → Value} {o : Oper} {ty : TypeId} {m s x : Operand} {w w' : World} (ho : o.op = .mapUpdate ty m s x) (h : (Instr.mapUpdate ty (ρ m) (ρ s) (ρ x)).run P w = .ok () w') : (execOp ρ o).run P w = .ok .skip w' := by
  unfold execOp
  simp only [ho, Sem.run_bind, h, Result.andThen_ok, Sem.run_pure]
theorem mkL {w : World} {gt fb ob g6 l j no g n c : Nat} {Mo : Nat → Nat → Sc} {cs : Array Value} (h : w.heap[gt]? = some (.cells cs 99 (0, 0))) (h5 : cs[5]? = some (.map (some fb))) (h6 : cs[6]? = some (.map (some ob))) (hg6 : w.heap[g6]? = some (.cells #[.int .i64 (l : Int), .int .i64 (j : Int)] 121 (0, 0))) (hm : MAt w ob no Mo) (hl : l < 1099511627776) (hj : j < 1099511627776) (hM : Mo l j = some (g, n, c)) :
    w.cell? ⟨gt, 5, none⟩ = some (.map (some fb)) ∧ w.cell? ⟨gt, 6, none⟩ = some (.map (some ob)) ∧ w.cell? ⟨g6, 0, none⟩ = some (.int .i64 (l : Int)) ∧ w.cell? ⟨g6, 1, none⟩ = some (.int .i64 (j : Int)) ∧ (Instr.lookup 95 (.map (some ob)) (keyV l j) false).run Tryz.prog w = .ok (.slice (some ⟨g, 0, none⟩) n c) w := by
  have hk := hm.look hl hj
  rw [hM] at hk
  refine ⟨by rw [cell_of_row _ _ _ _ _ _ h]; exact h5, by rw [cell_of_row _ _ _ _ _ _ h]; exact h6, by rw [cell_of_row _ _ _ _ _ _ hg6]; rfl, by rw [cell_of_row _ _ _ _ _ _ hg6]; rfl, hk⟩
set_option maxHeartbeats 8000000
/-- not full yet: the loop's end. -/
theorem grow_r7a (W : World) (gt fb ob g3 g6 l j no g n c : Nat) (Mo : Nat → Nat → Sc) (cs : Array Value) (hl : l < 1099511627776) (hj : j < 1099511627776) (h1 : W.heap[gt]? = some (.cells cs 99 (0, 0))) (h5 : cs[5]? = some (.map (some fb))) (h6 : cs[6]? = some (.map (some ob))) (h2 : W.heap[g6]? = some (.cells #[.int .i64 (l : Int), .int .i64 (j : Int)] 121 (0, 0)))
    (hm : MAt W ob no Mo) (hM : Mo l j = some (g, n, c)) (hn : n < 256)
    (v4 u1 u2 u7 u8 u9 u10 u11 u12 u13 u14 u15 u16 u17 u18 u19 u20 u21 u22 u23 u24 u25 u26 u27 u28 u29 u30 u31 u32 u33 u34 u35 u36 u37 u38 u39 u40 u41 u42 u43 u44 u45 u46 u47 u48 u49 u50 u51 u52 u53 u54 u55 u56 u57 u58 u59 u60 u61 u62 u63 u64 u65 u66 u67 u68 u69 u70 u71 u72 u73 u74 u75 u76 u77 u78 u79 u80 u81 u82 u83 u84 u85 : Value) (K : Act → World → Prop) (R : Exit → Act → World → Prop) (hR : ∀ c a a' w, R (.panic c) a w → a.defers = a'.defers → R (.panic c) a' w)
    (hK : ∀ (u1 u2 u7 u8 u9 u10 u11 u12 u13 u14 u15 u16 u17 u18 u19 u20 u21 u22 u23 u24 u25 u26 u27 u28 u29 u30 u31 u32 u33 u34 u35 u36 u37 u38 u39 u40 u41 u42 u43 u44 u45 u46 u47 u48 u49 u50 u51 u52 u53 u54 u55 u56 u57 u58 u59 u60 u61 u62 u63 u64 u65 u66 u67 u68 u69 u70 u71 u72 u73 u74 u75 u76 u77 u78 u79 u80 u81 u82 u83 u84 u85 : Value), R .ret ⟨#[.pointer (some ⟨gt, 0, none⟩), u1, u2, .pointer (some ⟨g3, 0, none⟩), v4, .int .i64 (l : Int), .pointer (some ⟨g6, 0, none⟩), u7, u8, u9, u10, u11, u12, u13, u14, u15, u16, u17, u18, u19, u20, u21, u22, u23, u24, u25, u26, u27, u28, u29, u30, u31, u32, u33, u34, u35, u36, u37, u38, u39, u40, u41, u42, u43, u44, u45, u46, u47, u48, u49, u50, u51, u52, u53, u54, u55, u56, u57, u58, u59, u60, u61, u62, u63, u64, u65, u66, u67, u68, u69, u70, u71, u72, u73, u74, u75, u76, u77, u78, u79, u80, u81, u82, u83, u84, u85], []⟩ W.drew) :
    Code.wp Tryz.prog (headSeq (dropSeq 2 gX)) (Exit.then K R) ⟨#[.pointer (some ⟨gt, 0, none⟩), u1, u2, .pointer (some ⟨g3, 0, none⟩), v4, .int .i64 (l : Int), .pointer (some ⟨g6, 0, none⟩), u7, u8, u9, u10, u11, u12, u13, u14, u15, u16, u17, u18, u19, u20, u21, u22, u23, u24, u25, u26, u27, u28, u29, u30, u31, u32, u33, u34, u35, u36, u37, u38, u39, u40, u41, u42, u43, u44, u45, u46, u47, u48, u49, u50, u51, u52, u53, u54, u55, u56, u57, u58, u59, u60, u61, u62, u63, u64, u65, u66, u67, u68, u69, u70, u71, u72, u73, u74, u75, u76, u77, u78, u79, u80, u81, u82, u83, u84, u85], []⟩ W := by
  have HK := Lib.hid hK
  have hs0 := mkL (w := W.drew) h1 h5 h6 h2 hm hl hj hM
  have hb : decide ((n : Int) < 256) = true := decide_eq_true (by omega)
  have HLJ := Lib.hid (And.intro hl hj)
  clear hK hm h1 h2 hl hj hn h5 h6
  conv => arg 2; whnf
  refine wp_seq ?_
  refine wp_region_held_drew (S := fun w => w.cell? ⟨gt, 5, none⟩ = some (.map (some fb)) ∧ w.cell? ⟨gt, 6, none⟩ = some (.map (some ob)) ∧ w.cell? ⟨g6, 0, none⟩ = some (.int .i64 (l : Int)) ∧ w.cell? ⟨g6, 1, none⟩ = some (.int .i64 (j : Int)) ∧ (Instr.lookup 95 (.map (some ob)) (keyV l j) false).run Tryz.prog w = .ok (.slice (some ⟨g, 0, none⟩) n c) w) (by kernel_rfl) hs0 (fun hHeld => ?_)
  refine wpAnyH_take (i := 0) (oi := _) (v := ?_) rfl (by kernel_rfl) (by kernel_rfl) (by kernel_rfl) (fun c a w h => hR c _ _ w h rfl) (Or.inl ⟨by rfl, ?_⟩) (by assumption) ?_
  rotate_left
  · intro w hSw
    (try dsimp only at hSw)
    go_simp
    all_goals (first | done | with_reducible rfl)
  (try simp only [Act.put, List.setIfInBounds_toArray, List.set_cons_zero, List.set_cons_succ, List.getElem_toArray, List.getElem_cons_succ, List.getElem_cons_zero])
  refine wpAnyH_take (i := 1) (oi := _) (v := ?_) rfl (by kernel_rfl) (by kernel_rfl) (by kernel_rfl) (fun c a w h => hR c _ _ w h rfl) (Or.inl ⟨by rfl, ?_⟩) (by assumption) ?_
  rotate_left
  · intro w hSw
    (try dsimp only at hSw)
    go_simp
    all_goals (first | done | with_reducible rfl)
  (try simp only [Act.put, List.setIfInBounds_toArray, List.set_cons_zero, List.set_cons_succ, List.getElem_toArray, List.getElem_cons_succ, List.getElem_cons_zero])
  refine wpAnyH_take (i := 2) (oi := _) (v := ?_) rfl (by kernel_rfl) (by kernel_rfl) (by kernel_rfl) (fun c a w h => hR c _ _ w h rfl) (Or.inl ⟨by rfl, ?_⟩) (by assumption) ?_
  rotate_left
  · intro w hSw
    (try dsimp only at hSw)
    go_simp
    all_goals (first | done | with_reducible rfl)
  (try simp only [Act.put, List.setIfInBounds_toArray, List.set_cons_zero, List.set_cons_succ, List.getElem_toArray, List.getElem_cons_succ, List.getElem_cons_zero])
  refine wpAnyH_take (i := 3) (oi := _) (v := ?_) rfl (by kernel_rfl) (by kernel_rfl) (by kernel_rfl) (fun c a w h => hR c _ _ w h rfl) (Or.inl ⟨by rfl, ?_⟩) (by assumption) ?_
  rotate_left
  · intro w hSw
    (try dsimp only at hSw)
    go_simp
    all_goals (first | done | with_reducible rfl)
  (try simp only [Act.put, List.setIfInBounds_toArray, List.set_cons_zero, List.set_cons_succ, List.getElem_toArray, List.getElem_cons_succ, List.getElem_cons_zero])
  refine wpAnyH_take (i := 4) (oi := _) (v := ?_) rfl (by kernel_rfl) (by kernel_rfl) (by kernel_rfl) (fun c a w h => hR c _ _ w h rfl) (Or.inl ⟨by rfl, ?_⟩) (by assumption) ?_
  rotate_left
  · intro w hSw
    (try dsimp only at hSw)
    go_simp
    all_goals (first | done | with_reducible rfl)
  (try simp only [Act.put, List.setIfInBounds_toArray, List.set_cons_zero, List.set_cons_succ, List.getElem_toArray, List.getElem_cons_succ, List.getElem_cons_zero])
  refine wpAnyH_take (i := 5) (oi := _) (v := .slice (some ⟨g, 0, none⟩) n c) rfl (by kernel_rfl) (by kernel_rfl) (by kernel_rfl) (fun c a w h => hR c _ _ w h rfl) (Or.inl ⟨by rfl, fun w hSw => exec_lookup (by rfl) (hSw.2.2.2.2)⟩) (by assumption) ?_
  (try simp only [Act.put, List.setIfInBounds_toArray, List.set_cons_zero, List.set_cons_succ, List.getElem_toArray, List.getElem_cons_succ, List.getElem_cons_zero])
  refine wpAnyH_take (i := 6) (oi := _) (v := ?_) rfl (by kernel_rfl) (by kernel_rfl) (by kernel_rfl) (fun c a w h => hR c _ _ w h rfl) (Or.inl ⟨by rfl, ?_⟩) (by assumption) ?_
  rotate_left
  · intro w hSw
    (try dsimp only at hSw)
    go_simp
    all_goals (first | done | with_reducible rfl)
  (try simp only [Act.put, List.setIfInBounds_toArray, List.set_cons_zero, List.set_cons_succ, List.getElem_toArray, List.getElem_cons_succ, List.getElem_cons_zero])
  refine wpAnyH_take (i := 7) (oi := _) (v := ?_) rfl (by kernel_rfl) (by kernel_rfl) (by kernel_rfl) (fun c a w h => hR c _ _ w h rfl) (Or.inl ⟨by rfl, ?_⟩) (by assumption) ?_
  rotate_left
  · intro w hSw
    (try dsimp only at hSw)
    go_simp
    all_goals (first | done | with_reducible rfl)
  (try simp only [Act.put, List.setIfInBounds_toArray, List.set_cons_zero, List.set_cons_succ, List.getElem_toArray, List.getElem_cons_succ, List.getElem_cons_zero])
  refine wpAnyH_take (i := 8) (oi := _) (v := ?_) rfl (by kernel_rfl) (by kernel_rfl) (by kernel_rfl) (fun c a w h => hR c _ _ w h rfl) (Or.inl ⟨by rfl, ?_⟩) (by assumption) ?_
  rotate_left
  · intro w hSw
    (try dsimp only at hSw)
    go_simp
    all_goals (first | done | with_reducible rfl)
  (try simp only [Act.put, List.setIfInBounds_toArray, List.set_cons_zero, List.set_cons_succ, List.getElem_toArray, List.getElem_cons_succ, List.getElem_cons_zero])
  refine wpAnyH_take (i := 9) (oi := _) (v := undef) rfl (by kernel_rfl) (by kernel_rfl) (by kernel_rfl) (fun c a w h => hR c _ _ w h rfl) (Or.inr ⟨by rfl, rfl⟩) (by assumption) ?_
  (try simp only [Act.put, List.setIfInBounds_toArray, List.set_cons_zero, List.set_cons_succ, List.getElem_toArray, List.getElem_cons_succ, List.getElem_cons_zero])
  refine wpAnyH_take (i := 10) (oi := _) (v := undef) rfl (by kernel_rfl) (by kernel_rfl) (by kernel_rfl) (fun c a w h => hR c _ _ w h rfl) (Or.inr ⟨by rfl, rfl⟩) (by assumption) ?_
  (try simp only [Act.put, List.setIfInBounds_toArray, List.set_cons_zero, List.set_cons_succ, List.getElem_toArray, List.getElem_cons_succ, List.getElem_cons_zero])
  refine wpAnyH_take (i := 11) (oi := _) (v := ?_) rfl (by kernel_rfl) (by kernel_rfl) (by kernel_rfl) (fun c a w h => hR c _ _ w h rfl) (Or.inl ⟨by rfl, ?_⟩) (by assumption) ?_
  rotate_left
  · intro w hSw
    (try dsimp only at hSw)
    go_simp
    all_goals (first | done | with_reducible rfl)
  (try simp only [Act.put, List.setIfInBounds_toArray, List.set_cons_zero, List.set_cons_succ, List.getElem_toArray, List.getElem_cons_succ, List.getElem_cons_zero])
  refine wpAnyH_done (by kernel_rfl) ?_ _
  go_wp2
  exact HK.out _ _ _ _ _ _ _ _ _ _ _ _ _ _ _ _ _ _ _ _ _ _ _ _ _ _ _ _ _ _ _ _ _ _ _ _ _ _ _ _ _ _ _ _ _ _ _ _ _ _ _ _ _ _ _ _ _ _ _ _ _ _ _ _ _ _ _ _ _ _ _ _ _ _ _ _ _ _ _ _ _ 
/-- full: on. -/
theorem grow_r7b (W : World) (gt fb ob g3 g6 l j no g n c : Nat) (Mo : Nat → Nat → Sc) (cs : Array Value) (hl : l < 1099511627776) (hj : j < 1099511627776) (h1 : W.heap[gt]? = some (.cells cs 99 (0, 0))) (h5 : cs[5]? = some (.map (some fb))) (h6 : cs[6]? = some (.map (some ob))) (h2 : W.heap[g6]? = some (.cells #[.int .i64 (l : Int), .int .i64 (j : Int)] 121 (0, 0)))
    (hm : MAt W ob no Mo) (hM : Mo l j = some (g, n, c)) (hn : n = 256) (hl0 : l = 0)
    (v4 u1 u2 u7 u8 u9 u10 u11 u12 u13 u14 u15 u16 u17 u18 u19 u20 u21 u22 u23 u24 u25 u26 u27 u28 u29 u30 u31 u32 u33 u34 u35 u36 u37 u38 u39 u40 u41 u42 u43 u44 u45 u46 u47 u48 u49 u50 u51 u52 u53 u54 u55 u56 u57 u58 u59 u60 u61 u62 u63 u64 u65 u66 u67 u68 u69 u70 u71 u72 u73 u74 u75 u76 u77 u78 u79 u80 u81 u82 u83 u84 u85 : Value) (K : Act → World → Prop) (R : Exit → Act → World → Prop) (hR : ∀ c a a' w, R (.panic c) a w → a.defers = a'.defers → R (.panic c) a' w)
    (hK : ∀ (u1 u2 u7 u8 u9 u10 u11 u12 u13 u14 u15 u16 u17 u18 u19 u20 u21 u22 u23 u24 u25 u26 u27 u28 u29 u30 u31 u32 u33 u34 u35 u36 u37 u38 u39 u40 u41 u42 u43 u44 u45 u46 u47 u48 u49 u50 u51 u52 u53 u54 u55 u56 u57 u58 u59 u60 u61 u62 u63 u64 u65 u66 u67 u68 u69 u70 u71 u72 u73 u74 u75 u76 u77 u78 u79 u80 u81 u82 u83 u84 u85 : Value), K ⟨#[.pointer (some ⟨gt, 0, none⟩), u1, u2, .pointer (some ⟨g3, 0, none⟩), v4, .int .i64 (l : Int), .pointer (some ⟨g6, 0, none⟩), u7, u8, u9, u10, u11, u12, u13, u14, u15, u16, u17, u18, u19, u20, u21, u22, u23, u24, u25, u26, u27, u28, u29, u30, u31, u32, u33, u34, u35, u36, u37, u38, u39, u40, u41, u42, u43, u44, u45, u46, u47, u48, u49, u50, u51, u52, u53, u54, u55, u56, u57, u58, u59, u60, u61, u62, u63, u64, u65, u66, u67, u68, u69, u70, u71, u72, u73, u74, u75, u76, u77, u78, u79, u80, u81, u82, u83, u84, u85], []⟩ W.drew) :
    Code.wp Tryz.prog (headSeq (dropSeq 2 gX)) (Exit.then K R) ⟨#[.pointer (some ⟨gt, 0, none⟩), u1, u2, .pointer (some ⟨g3, 0, none⟩), v4, .int .i64 (l : Int), .pointer (some ⟨g6, 0, none⟩), u7, u8, u9, u10, u11, u12, u13, u14, u15, u16, u17, u18, u19, u20, u21, u22, u23, u24, u25, u26, u27, u28, u29, u30, u31, u32, u33, u34, u35, u36, u37, u38, u39, u40, u41, u42, u43, u44, u45, u46, u47, u48, u49, u50, u51, u52, u53, u54, u55, u56, u57, u58, u59, u60, u61, u62, u63, u64, u65, u66, u67, u68, u69, u70, u71, u72, u73, u74, u75, u76, u77, u78, u79, u80, u81, u82, u83, u84, u85], []⟩ W := by
  have HK := Lib.hid hK
  have hs0 := mkL (w := W.drew) h1 h5 h6 h2 hm hl hj hM
  have hb : decide ((n : Int) < 256) = false := decide_eq_false (by omega)
  have hb5 : decide ((l : Int) = 5) = false := decide_eq_false (by omega)
  have HLJ := Lib.hid (And.intro hl hj)
  clear hK hm h1 h2 hl hj hn h5 h6 hl0
  conv => arg 2; whnf
  refine wp_seq ?_
  refine wp_region_held_drew (S := fun w => w.cell? ⟨gt, 5, none⟩ = some (.map (some fb)) ∧ w.cell? ⟨gt, 6, none⟩ = some (.map (some ob)) ∧ w.cell? ⟨g6, 0, none⟩ = some (.int .i64 (l : Int)) ∧ w.cell? ⟨g6, 1, none⟩ = some (.int .i64 (j : Int)) ∧ (Instr.lookup 95 (.map (some ob)) (keyV l j) false).run Tryz.prog w = .ok (.slice (some ⟨g, 0, none⟩) n c) w) (by kernel_rfl) hs0 (fun hHeld => ?_)
  refine wpAnyH_take (i := 0) (oi := _) (v := ?_) rfl (by kernel_rfl) (by kernel_rfl) (by kernel_rfl) (fun c a w h => hR c _ _ w h rfl) (Or.inl ⟨by rfl, ?_⟩) (by assumption) ?_
  rotate_left
  · intro w hSw
    (try dsimp only at hSw)
    go_simp
    all_goals (first | done | with_reducible rfl)
  (try simp only [Act.put, List.setIfInBounds_toArray, List.set_cons_zero, List.set_cons_succ, List.getElem_toArray, List.getElem_cons_succ, List.getElem_cons_zero])
  refine wpAnyH_take (i := 1) (oi := _) (v := ?_) rfl (by kernel_rfl) (by kernel_rfl) (by kernel_rfl) (fun c a w h => hR c _ _ w h rfl) (Or.inl ⟨by rfl, ?_⟩) (by assumption) ?_
  rotate_left
  · intro w hSw
    (try dsimp only at hSw)
    go_simp
    all_goals (first | done | with_reducible rfl)
  (try simp only [Act.put, List.setIfInBounds_toArray, List.set_cons_zero, List.set_cons_succ, List.getElem_toArray, List.getElem_cons_succ, List.getElem_cons_zero])
  refine wpAnyH_take (i := 2) (oi := _) (v := ?_) rfl (by kernel_rfl) (by kernel_rfl) (by kernel_rfl) (fun c a w h => hR c _ _ w h rfl) (Or.inl ⟨by rfl, ?_⟩) (by assumption) ?_
  rotate_left
  · intro w hSw
    (try dsimp only at hSw)
    go_simp
    all_goals (first | done | with_reducible rfl)
  (try simp only [Act.put, List.setIfInBounds_toArray, List.set_cons_zero, List.set_cons_succ, List.getElem_toArray, List.getElem_cons_succ, List.getElem_cons_zero])
  refine wpAnyH_take (i := 3) (oi := _) (v := ?_) rfl (by kernel_rfl) (by kernel_rfl) (by kernel_rfl) (fun c a w h => hR c _ _ w h rfl) (Or.inl ⟨by rfl, ?_⟩) (by assumption) ?_
  rotate_left
  · intro w hSw
    (try dsimp only at hSw)
    go_simp
    all_goals (first | done | with_reducible rfl)
  (try simp only [Act.put, List.setIfInBounds_toArray, List.set_cons_zero, List.set_cons_succ, List.getElem_toArray, List.getElem_cons_succ, List.getElem_cons_zero])
  refine wpAnyH_take (i := 4) (oi := _) (v := ?_) rfl (by kernel_rfl) (by kernel_rfl) (by kernel_rfl) (fun c a w h => hR c _ _ w h rfl) (Or.inl ⟨by rfl, ?_⟩) (by assumption) ?_
  rotate_left
  · intro w hSw
    (try dsimp only at hSw)
    go_simp
    all_goals (first | done | with_reducible rfl)
  (try simp only [Act.put, List.setIfInBounds_toArray, List.set_cons_zero, List.set_cons_succ, List.getElem_toArray, List.getElem_cons_succ, List.getElem_cons_zero])
  refine wpAnyH_take (i := 5) (oi := _) (v := .slice (some ⟨g, 0, none⟩) n c) rfl (by kernel_rfl) (by kernel_rfl) (by kernel_rfl) (fun c a w h => hR c _ _ w h rfl) (Or.inl ⟨by rfl, fun w hSw => exec_lookup (by rfl) (hSw.2.2.2.2)⟩) (by assumption) ?_
  (try simp only [Act.put, List.setIfInBounds_toArray, List.set_cons_zero, List.set_cons_succ, List.getElem_toArray, List.getElem_cons_succ, List.getElem_cons_zero])
  refine wpAnyH_take (i := 6) (oi := _) (v := ?_) rfl (by kernel_rfl) (by kernel_rfl) (by kernel_rfl) (fun c a w h => hR c _ _ w h rfl) (Or.inl ⟨by rfl, ?_⟩) (by assumption) ?_
  rotate_left
  · intro w hSw
    (try dsimp only at hSw)
    go_simp
    all_goals (first | done | with_reducible rfl)
  (try simp only [Act.put, List.setIfInBounds_toArray, List.set_cons_zero, List.set_cons_succ, List.getElem_toArray, List.getElem_cons_succ, List.getElem_cons_zero])
  refine wpAnyH_take (i := 7) (oi := _) (v := ?_) rfl (by kernel_rfl) (by kernel_rfl) (by kernel_rfl) (fun c a w h => hR c _ _ w h rfl) (Or.inl ⟨by rfl, ?_⟩) (by assumption) ?_
  rotate_left
  · intro w hSw
    (try dsimp only at hSw)
    go_simp
    all_goals (first | done | with_reducible rfl)
  (try simp only [Act.put, List.setIfInBounds_toArray, List.set_cons_zero, List.set_cons_succ, List.getElem_toArray, List.getElem_cons_succ, List.getElem_cons_zero])
  refine wpAnyH_take (i := 8) (oi := _) (v := ?_) rfl (by kernel_rfl) (by kernel_rfl) (by kernel_rfl) (fun c a w h => hR c _ _ w h rfl) (Or.inl ⟨by rfl, ?_⟩) (by assumption) ?_
  rotate_left
  · intro w hSw
    (try dsimp only at hSw)
    go_simp
    all_goals (first | done | with_reducible rfl)
  (try simp only [Act.put, List.setIfInBounds_toArray, List.set_cons_zero, List.set_cons_succ, List.getElem_toArray, List.getElem_cons_succ, List.getElem_cons_zero])
  refine wpAnyH_take (i := 9) (oi := _) (v := ?_) rfl (by kernel_rfl) (by kernel_rfl) (by kernel_rfl) (fun c a w h => hR c _ _ w h rfl) (Or.inl ⟨by rfl, ?_⟩) (by assumption) ?_
  rotate_left
  · intro w hSw
    (try dsimp only at hSw)
    go_simp
    all_goals (first | done | with_reducible rfl)
  (try simp only [Act.put, List.setIfInBounds_toArray, List.set_cons_zero, List.set_cons_succ, List.getElem_toArray, List.getElem_cons_succ, List.getElem_cons_zero])
  refine wpAnyH_take (i := 10) (oi := _) (v := .bool false) rfl (by kernel_rfl) (by kernel_rfl) (by kernel_rfl) (fun c a w h => hR c _ _ w h rfl) (Or.inl ⟨by rfl, ?_⟩) (by assumption) ?_
  · intro w hSw
    (try dsimp only at hSw)
    go_simp
    exact of_decide_eq_false hb5
  (try simp only [Act.put, List.setIfInBounds_toArray, List.set_cons_zero, List.set_cons_succ, List.getElem_toArray, List.getElem_cons_succ, List.getElem_cons_zero])
  refine wpAnyH_take (i := 11) (oi := _) (v := ?_) rfl (by kernel_rfl) (by kernel_rfl) (by kernel_rfl) (fun c a w h => hR c _ _ w h rfl) (Or.inl ⟨by rfl, ?_⟩) (by assumption) ?_
  rotate_left
  · intro w hSw
    (try dsimp only at hSw)
    go_simp
    all_goals (first | done | with_reducible rfl)
  (try simp only [Act.put, List.setIfInBounds_toArray, List.set_cons_zero, List.set_cons_succ, List.getElem_toArray, List.getElem_cons_succ, List.getElem_cons_zero])
  refine wpAnyH_done (by kernel_rfl) ?_ _
  go_wp2
  exact HK.out _ _ _ _ _ _ _ _ _ _ _ _ _ _ _ _ _ _ _ _ _ _ _ _ _ _ _ _ _ _ _ _ _ _ _ _ _ _ _ _ _ _ _ _ _ _ _ _ _ _ _ _ _ _ _ _ _ _ _ _ _ _ _ _ _ _ _ _ _ _ _ _ _ _ _ _ _ _ _ _ _ 
/-- full[k] = open[k]. -/
theorem grow_r8 (W : World) (gt fb ob g3 g6 l j no g n c : Nat) (Mo : Nat → Nat → Sc) (cs : Array Value) (hl : l < 1099511627776) (hj : j < 1099511627776) (h1 : W.heap[gt]? = some (.cells cs 99 (0, 0))) (h5 : cs[5]? = some (.map (some fb))) (h6 : cs[6]? = some (.map (some ob))) (h2 : W.heap[g6]? = some (.cells #[.int .i64 (l : Int), .int .i64 (j : Int)] 121 (0, 0)))
    (hm : MAt W ob no Mo) (hM : Mo l j = some (g, n, c)) (nf : Nat) (Mf : Nat → Nat → Sc) (hmf : MAt W fb nf Mf) (hnf : nf ≤ 1000000) (hne : fb ≠ gt ∧ fb ≠ g6 ∧ fb ≠ ob)
    (v4 u1 u2 u7 u8 u9 u10 u11 u12 u13 u14 u15 u16 u17 u18 u19 u20 u21 u22 u23 u24 u25 u26 u27 u28 u29 u30 u31 u32 u33 u34 u35 u36 u37 u38 u39 u40 u41 u42 u43 u44 u45 u46 u47 u48 u49 u50 u51 u52 u53 u54 u55 u56 u57 u58 u59 u60 u61 u62 u63 u64 u65 u66 u67 u68 u69 u70 u71 u72 u73 u74 u75 u76 u77 u78 u79 u80 u81 u82 u83 u84 u85 : Value) (K : Act → World → Prop) (R : Exit → Act → World → Prop) (hR : ∀ c a a' w, R (.panic c) a w → a.defers = a'.defers → R (.panic c) a' w)
    (hK : ∀ (u1 u2 u7 u8 u9 u10 u11 u12 u13 u14 u15 u16 u17 u18 u19 u20 u21 u22 u23 u24 u25 u26 u27 u28 u29 u30 u31 u32 u33 u34 u35 u36 u37 u38 u39 u40 u41 u42 u43 u44 u45 u46 u47 u48 u49 u50 u51 u52 u53 u54 u55 u56 u57 u58 u59 u60 u61 u62 u63 u64 u65 u66 u67 u68 u69 u70 u71 u72 u73 u74 u75 u76 u77 u78 u79 u80 u81 u82 u83 u84 u85 : Value) (w' : World), W.grownBy w' (some fb) → MAt w' fb (nf + 1) (put2 Mf l j (some (g, n, c))) → K ⟨#[.pointer (some ⟨gt, 0, none⟩), u1, u2, .pointer (some ⟨g3, 0, none⟩), v4, .int .i64 (l : Int), .pointer (some ⟨g6, 0, none⟩), u7, u8, u9, u10, u11, u12, u13, u14, u15, u16, u17, u18, u19, u20, u21, u22, u23, u24, u25, u26, u27, u28, u29, u30, u31, u32, u33, u34, u35, u36, u37, u38, u39, u40, u41, u42, u43, u44, u45, u46, u47, u48, u49, u50, u51, u52, u53, u54, u55, u56, u57, u58, u59, u60, u61, u62, u63, u64, u65, u66, u67, u68, u69, u70, u71, u72, u73, u74, u75, u76, u77, u78, u79, u80, u81, u82, u83, u84, u85], []⟩ w') :
    Code.wp Tryz.prog (headSeq (dropSeq 3 gX)) (Exit.then K R) ⟨#[.pointer (some ⟨gt, 0, none⟩), u1, u2, .pointer (some ⟨g3, 0, none⟩), v4, .int .i64 (l : Int), .pointer (some ⟨g6, 0, none⟩), u7, u8, u9, u10, u11, u12, u13, u14, u15, u16, u17, u18, u19, u20, u21, u22, u23, u24, u25, u26, u27, u28, u29, u30, u31, u32, u33, u34, u35, u36, u37, u38, u39, u40, u41, u42, u43, u44, u45, u46, u47, u48, u49, u50, u51, u52, u53, u54, u55, u56, u57, u58, u59, u60, u61, u62, u63, u64, u65, u66, u67, u68, u69, u70, u71, u72, u73, u74, u75, u76, u77, u78, u79, u80, u81, u82, u83, u84, u85], []⟩ W := by
  have HK := Lib.hid hK
  have hs0 := mkL (w := W.drew) h1 h5 h6 h2 hm hl hj hM
  obtain ⟨w5, he5, hm5, hg5⟩ := (show MAt W.drew fb nf Mf from hmf.keep rfl).update (by simp [maxLen]; omega) hl hj (g, n, c)
  have HM5 := Lib.hid hm5
  have HG5 := Lib.hid hg5
  have hlt : ∀ (k : Nat) (o : Obj), W.heap[k]? = some o → k < W.drew.heap.size := fun k o h => (Array.getElem?_eq_some_iff.1 h).1
  have hs5 := mkL (w := w5) ((hg5.block gt (hlt _ _ h1) (fun e => hne.1 (by injection e with e; exact e.symm))).trans h1) h5 h6 ((hg5.block g6 (hlt _ _ h2) (fun e => hne.2.1 (by injection e with e; exact e.symm))).trans h2) (hm.keep (hg5.block ob hm.lt (fun e => hne.2.2 (by injection e with e; exact e.symm)))) hl hj hM
  have HLJ := Lib.hid (And.intro hl hj)
  clear hK hm h1 h2 hl hj h5 h6 hmf hm5 hg5 hlt hne
  conv => arg 2; whnf
  refine wp_region_held_drew (S := fun w => w.cell? ⟨gt, 5, none⟩ = some (.map (some fb)) ∧ w.cell? ⟨gt, 6, none⟩ = some (.map (some ob)) ∧ w.cell? ⟨g6, 0, none⟩ = some (.int .i64 (l : Int)) ∧ w.cell? ⟨g6, 1, none⟩ = some (.int .i64 (j : Int)) ∧ (Instr.lookup 95 (.map (some ob)) (keyV l j) false).run Tryz.prog w = .ok (.slice (some ⟨g, 0, none⟩) n c) w) (by kernel_rfl) hs0 (fun hHeld => ?_)
  refine wpAnyH_take (i := 0) (oi := _) (v := ?_) rfl (by kernel_rfl) (by kernel_rfl) (by kernel_rfl) (fun c a w h => hR c _ _ w h rfl) (Or.inl ⟨by rfl, ?_⟩) (by assumption) ?_
  rotate_left
  · intro w hSw
    (try dsimp only at hSw)
    go_simp
    all_goals (first | done | with_reducible rfl)
  (try simp only [Act.put, List.setIfInBounds_toArray, List.set_cons_zero, List.set_cons_succ, List.getElem_toArray, List.getElem_cons_succ, List.getElem_cons_zero])
  refine wpAnyH_take (i := 1) (oi := _) (v := ?_) rfl (by kernel_rfl) (by kernel_rfl) (by kernel_rfl) (fun c a w h => hR c _ _ w h rfl) (Or.inl ⟨by rfl, ?_⟩) (by assumption) ?_
  rotate_left
  · intro w hSw
    (try dsimp only at hSw)
    go_simp
    all_goals (first | done | with_reducible rfl)
  (try simp only [Act.put, List.setIfInBounds_toArray, List.set_cons_zero, List.set_cons_succ, List.getElem_toArray, List.getElem_cons_succ, List.getElem_cons_zero])
  refine wpAnyH_take (i := 2) (oi := _) (v := ?_) rfl (by kernel_rfl) (by kernel_rfl) (by kernel_rfl) (fun c a w h => hR c _ _ w h rfl) (Or.inl ⟨by rfl, ?_⟩) (by assumption) ?_
  rotate_left
  · intro w hSw
    (try dsimp only at hSw)
    go_simp
    all_goals (first | done | with_reducible rfl)
  (try simp only [Act.put, List.setIfInBounds_toArray, List.set_cons_zero, List.set_cons_succ, List.getElem_toArray, List.getElem_cons_succ, List.getElem_cons_zero])
  refine wpAnyH_take (i := 3) (oi := _) (v := ?_) rfl (by kernel_rfl) (by kernel_rfl) (by kernel_rfl) (fun c a w h => hR c _ _ w h rfl) (Or.inl ⟨by rfl, ?_⟩) (by assumption) ?_
  rotate_left
  · intro w hSw
    (try dsimp only at hSw)
    go_simp
    all_goals (first | done | with_reducible rfl)
  (try simp only [Act.put, List.setIfInBounds_toArray, List.set_cons_zero, List.set_cons_succ, List.getElem_toArray, List.getElem_cons_succ, List.getElem_cons_zero])
  refine wpAnyH_take (i := 4) (oi := _) (v := ?_) rfl (by kernel_rfl) (by kernel_rfl) (by kernel_rfl) (fun c a w h => hR c _ _ w h rfl) (Or.inl ⟨by rfl, ?_⟩) (by assumption) ?_
  rotate_left
  · intro w hSw
    (try dsimp only at hSw)
    go_simp
    all_goals (first | done | with_reducible rfl)
  (try simp only [Act.put, List.setIfInBounds_toArray, List.set_cons_zero, List.set_cons_succ, List.getElem_toArray, List.getElem_cons_succ, List.getElem_cons_zero])
  refine wpAnyH_take (i := 5) (oi := _) (v := ?_) rfl (by kernel_rfl) (by kernel_rfl) (by kernel_rfl) (fun c a w h => hR c _ _ w h rfl) (Or.inl ⟨by rfl, ?_⟩) (by assumption) ?_
  rotate_left
  · intro w hSw
    (try dsimp only at hSw)
    go_simp
    all_goals (first | done | with_reducible rfl)
  (try simp only [Act.put, List.setIfInBounds_toArray, List.set_cons_zero, List.set_cons_succ, List.getElem_toArray, List.getElem_cons_succ, List.getElem_cons_zero])
  refine wpAnyH_take (i := 6) (oi := _) (v := ?_) rfl (by kernel_rfl) (by kernel_rfl) (by kernel_rfl) (fun c a w h => hR c _ _ w h rfl) (Or.inl ⟨by rfl, ?_⟩) (by assumption) ?_
  rotate_left
  · intro w hSw
    (try dsimp only at hSw)
    go_simp
    all_goals (first | done | with_reducible rfl)
  (try simp only [Act.put, List.setIfInBounds_toArray, List.set_cons_zero, List.set_cons_succ, List.getElem_toArray, List.getElem_cons_succ, List.getElem_cons_zero])
  refine wpAnyH_take (i := 7) (oi := _) (v := ?_) rfl (by kernel_rfl) (by kernel_rfl) (by kernel_rfl) (fun c a w h => hR c _ _ w h rfl) (Or.inl ⟨by rfl, ?_⟩) (by assumption) ?_
  rotate_left
  · intro w hSw
    (try dsimp only at hSw)
    go_simp
    all_goals (first | done | with_reducible rfl)
  (try simp only [Act.put, List.setIfInBounds_toArray, List.set_cons_zero, List.set_cons_succ, List.getElem_toArray, List.getElem_cons_succ, List.getElem_cons_zero])
  refine wpAnyH_take (i := 8) (oi := _) (v := ?_) rfl (by kernel_rfl) (by kernel_rfl) (by kernel_rfl) (fun c a w h => hR c _ _ w h rfl) (Or.inl ⟨by rfl, ?_⟩) (by assumption) ?_
  rotate_left
  · intro w hSw
    (try dsimp only at hSw)
    go_simp
    all_goals (first | done | with_reducible rfl)
  (try simp only [Act.put, List.setIfInBounds_toArray, List.set_cons_zero, List.set_cons_succ, List.getElem_toArray, List.getElem_cons_succ, List.getElem_cons_zero])
  refine wpAnyH_take (i := 9) (oi := _) (v := ?_) rfl (by kernel_rfl) (by kernel_rfl) (by kernel_rfl) (fun c a w h => hR c _ _ w h rfl) (Or.inl ⟨by rfl, ?_⟩) (by assumption) ?_
  rotate_left
  · intro w hSw
    (try dsimp only at hSw)
    go_simp
    all_goals (first | done | with_reducible rfl)
  (try simp only [Act.put, List.setIfInBounds_toArray, List.set_cons_zero, List.set_cons_succ, List.getElem_toArray, List.getElem_cons_succ, List.getElem_cons_zero])
  refine wpAnyH_take (i := 10) (oi := _) (v := .slice (some ⟨g, 0, none⟩) n c) rfl (by kernel_rfl) (by kernel_rfl) (by kernel_rfl) (fun c a w h => hR c _ _ w h rfl) (Or.inl ⟨by rfl, fun w hSw => exec_lookup (by rfl) (hSw.2.2.2.2)⟩) (by assumption) ?_
  (try simp only [Act.put, List.setIfInBounds_toArray, List.set_cons_zero, List.set_cons_succ, List.getElem_toArray, List.getElem_cons_succ, List.getElem_cons_zero])
  refine wpAnyH_ready (rs := [11]) (by kernel_rfl) (by simp) ?_
  refine AllReadyH.cons (o := _) rfl (fun K hK => ?_) AllReadyH.nil
  refine S_skip rfl (exec_mapUpdate (by rfl) he5) ?_
  refine hK.out _ _ hs5 (fun hHeld => ?_)
  clear hK K
  (try simp only [Act.put, List.setIfInBounds_toArray, List.set_cons_zero, List.set_cons_succ, List.getElem_toArray, List.getElem_cons_succ, List.getElem_cons_zero])
  refine wpAnyH_done (by kernel_rfl) ?_ _
  exact HK.out _ _ _ _ _ _ _ _ _ _ _ _ _ _ _ _ _ _ _ _ _ _ _ _ _ _ _ _ _ _ _ _ _ _ _ _ _ _ _ _ _ _ _ _ _ _ _ _ _ _ _ _ _ _ _ _ _ _ _ _ _ _ _ _ _ _ _ _ _ _ _ _ _ _ _ _ _ _ _ _ _ _ ⟨HG5.out.os, HG5.out.tape, HG5.out.output, HG5.out.size, HG5.out.block⟩ HM5.out
/-- delete(open, k). -/
theorem exec_delete {P : Program} {ρ : Operand → Value} {o : Oper} {m k : Operand} {t t' : TypeId} {w w' : World} {v : Value} (ho : o.op = .call { callee := .builtin .delete, args := #[m, k], argTypes := #[t, t'] }) (h : (Builtin.delete_ #[t, t'] o.type #[ρ m, ρ k]).run P w = .ok v w') : (execOp ρ o).run P w = .ok (.value v) w' := by
  unfold execOp
  simp only [ho, resolve, invoke, builtin, Sem.run_bind, Sem.run_pure, Result.andThen_ok, List.map_toArray, List.map_cons, List.map_nil, h]
theorem grow_r9 (W : World) (gt ob g3 g6 l j no : Nat) (Mo : Nat → Nat → Sc) (cs : Array Value) (hl : l < 1099511627776) (hj : j < 1099511627776) (h1 : W.heap[gt]? = some (.cells cs 99 (0, 0))) (h6 : cs[6]? = some (.map (some ob))) (h2 : W.heap[g6]? = some (.cells #[.int .i64 (l : Int), .int .i64 (j : Int)] 121 (0, 0)))
    (hm : MAt W ob no Mo) (hne : ob ≠ gt ∧ ob ≠ g6)
    (v4 u1 u2 u7 u8 u9 u10 u11 u12 u13 u14 u15 u16 u17 u18 u19 u20 u21 u22 u23 u24 u25 u26 u27 u28 u29 u30 u31 u32 u33 u34 u35 u36 u37 u38 u39 u40 u41 u42 u43 u44 u45 u46 u47 u48 u49 u50 u51 u52 u53 u54 u55 u56 u57 u58 u59 u60 u61 u62 u63 u64 u65 u66 u67 u68 u69 u70 u71 u72 u73 u74 u75 u76 u77 u78 u79 u80 u81 u82 u83 u84 u85 : Value) (K : Act → World → Prop) (R : Exit → Act → World → Prop) (hR : ∀ c a a' w, R (.panic c) a w → a.defers = a'.defers → R (.panic c) a' w)
    (hK : ∀ (u1 u2 u7 u8 u9 u10 u11 u12 u13 u14 u15 u16 u17 u18 u19 u20 u21 u22 u23 u24 u25 u26 u27 u28 u29 u30 u31 u32 u33 u34 u35 u36 u37 u38 u39 u40 u41 u42 u43 u44 u45 u46 u47 u48 u49 u50 u51 u52 u53 u54 u55 u56 u57 u58 u59 u60 u61 u62 u63 u64 u65 u66 u67 u68 u69 u70 u71 u72 u73 u74 u75 u76 u77 u78 u79 u80 u81 u82 u83 u84 u85 : Value) (w' : World), W.grownBy w' (some ob) → MAt w' ob no (put2 Mo l j none) → K ⟨#[.pointer (some ⟨gt, 0, none⟩), u1, u2, .pointer (some ⟨g3, 0, none⟩), v4, .int .i64 (l : Int), .pointer (some ⟨g6, 0, none⟩), u7, u8, u9, u10, u11, u12, u13, u14, u15, u16, u17, u18, u19, u20, u21, u22, u23, u24, u25, u26, u27, u28, u29, u30, u31, u32, u33, u34, u35, u36, u37, u38, u39, u40, u41, u42, u43, u44, u45, u46, u47, u48, u49, u50, u51, u52, u53, u54, u55, u56, u57, u58, u59, u60, u61, u62, u63, u64, u65, u66, u67, u68, u69, u70, u71, u72, u73, u74, u75, u76, u77, u78, u79, u80, u81, u82, u83, u84, u85], []⟩ w') :
    Code.wp Tryz.prog (headSeq (dropSeq 4 gX)) (Exit.then K R) ⟨#[.pointer (some ⟨gt, 0, none⟩), u1, u2, .pointer (some ⟨g3, 0, none⟩), v4, .int .i64 (l : Int), .pointer (some ⟨g6, 0, none⟩), u7, u8, u9, u10, u11, u12, u13, u14, u15, u16, u17, u18, u19, u20, u21, u22, u23, u24, u25, u26, u27, u28, u29, u30, u31, u32, u33, u34, u35, u36, u37, u38, u39, u40, u41, u42, u43, u44, u45, u46, u47, u48, u49, u50, u51, u52, u53, u54, u55, u56, u57, u58, u59, u60, u61, u62, u63, u64, u65, u66, u67, u68, u69, u70, u71, u72, u73, u74, u75, u76, u77, u78, u79, u80, u81, u82, u83, u84, u85], []⟩ W := by
  have HK := Lib.hid hK
  have hs0 : W.drew.cell? ⟨gt, 6, none⟩ = some (.map (some ob)) ∧ W.drew.cell? ⟨g6, 0, none⟩ = some (.int .i64 (l : Int)) ∧ W.drew.cell? ⟨g6, 1, none⟩ = some (.int .i64 (j : Int)) :=
    ⟨by rw [cell_of_row W.drew _ _ _ _ _ h1]; exact h6, by rw [cell_of_row W.drew _ _ _ _ _ h2]; rfl, by rw [cell_of_row W.drew _ _ _ _ _ h2]; rfl⟩
  have H1 := Lib.hid h1; have H2 := Lib.hid h2; have H6 := Lib.hid h6; have HNE := Lib.hid hne
  have HM0 := Lib.hid (show MAt W.drew ob no Mo from hm.keep rfl)
  have HLJ := Lib.hid (And.intro hl hj)
  clear hK hm h1 h2 hl hj h6 hne
  conv => arg 2; whnf
  refine wp_region_held_drew (S := fun w => w.cell? ⟨gt, 6, none⟩ = some (.map (some ob)) ∧ w.cell? ⟨g6, 0, none⟩ = some (.int .i64 (l : Int)) ∧ w.cell? ⟨g6, 1, none⟩ = some (.int .i64 (j : Int))) (by kernel_rfl) hs0 (fun hHeld => ?_)
  refine wpAnyH_take (i := 0) (oi := _) (v := ?_) rfl (by kernel_rfl) (by kernel_rfl) (by kernel_rfl) (fun c a w h => hR c _ _ w h rfl) (Or.inl ⟨by rfl, ?_⟩) (by assumption) ?_
  rotate_left
  · intro w hSw
    (try dsimp only at hSw)
    go_simp
    all_goals (first | done | with_reducible rfl)
  (try simp only [Act.put, List.setIfInBounds_toArray, List.set_cons_zero, List.set_cons_succ, List.getElem_toArray, List.getElem_cons_succ, List.getElem_cons_zero])
  refine wpAnyH_take (i := 1) (oi := _) (v := ?_) rfl (by kernel_rfl) (by kernel_rfl) (by kernel_rfl) (fun c a w h => hR c _ _ w h rfl) (Or.inl ⟨by rfl, ?_⟩) (by assumption) ?_
  rotate_left
  · intro w hSw
    (try dsimp only at hSw)
    go_simp
    all_goals (first | done | with_reducible rfl)
  (try simp only [Act.put, List.setIfInBounds_toArray, List.set_cons_zero, List.set_cons_succ, List.getElem_toArray, List.getElem_cons_succ, List.getElem_cons_zero])
  refine wpAnyH_take (i := 2) (oi := _) (v := ?_) rfl (by kernel_rfl) (by kernel_rfl) (by kernel_rfl) (fun c a w h => hR c _ _ w h rfl) (Or.inl ⟨by rfl, ?_⟩) (by assumption) ?_
  rotate_left
  · intro w hSw
    (try dsimp only at hSw)
    go_simp
    all_goals (first | done | with_reducible rfl)
  (try simp only [Act.put, List.setIfInBounds_toArray, List.set_cons_zero, List.set_cons_succ, List.getElem_toArray, List.getElem_cons_succ, List.getElem_cons_zero])
  refine wpAnyH_take (i := 3) (oi := _) (v := ?_) rfl (by kernel_rfl) (by kernel_rfl) (by kernel_rfl) (fun c a w h => hR c _ _ w h rfl) (Or.inl ⟨by rfl, ?_⟩) (by assumption) ?_
  rotate_left
  · intro w hSw
    (try dsimp only at hSw)
    go_simp
    all_goals (first | done | with_reducible rfl)
  (try simp only [Act.put, List.setIfInBounds_toArray, List.set_cons_zero, List.set_cons_succ, List.getElem_toArray, List.getElem_cons_succ, List.getElem_cons_zero])
  refine wpAnyH_take (i := 4) (oi := _) (v := ?_) rfl (by kernel_rfl) (by kernel_rfl) (by kernel_rfl) (fun c a w h => hR c _ _ w h rfl) (Or.inl ⟨by rfl, ?_⟩) (by assumption) ?_
  rotate_left
  · intro w hSw
    (try dsimp only at hSw)
    go_simp
    all_goals (first | done | with_reducible rfl)
  (try simp only [Act.put, List.setIfInBounds_toArray, List.set_cons_zero, List.set_cons_succ, List.getElem_toArray, List.getElem_cons_succ, List.getElem_cons_zero])
  refine wpAnyH_ready (rs := [5]) (by kernel_rfl) (by simp) ?_
  refine AllReadyH.cons (o := _) rfl (fun K hK => ?_) AllReadyH.nil
  obtain ⟨w5, he5, hm5, hg5⟩ := HM0.out.del HLJ.out.1 HLJ.out.2 _
  have hlt : ∀ (k : Nat) (o : Obj), W.heap[k]? = some o → k < W.drew.heap.size := fun k o h => (Array.getElem?_eq_some_iff.1 h).1
  have k1 := (hg5.block gt (hlt _ _ H1.out) (fun e => HNE.out.1 (by injection e with e; exact e.symm))).trans H1.out
  have k2 := (hg5.block g6 (hlt _ _ H2.out) (fun e => HNE.out.2 (by injection e with e; exact e.symm))).trans H2.out
  refine S_value rfl (exec_delete (by rfl) he5) ?_
  refine hK.out _ _ ⟨by rw [cell_of_row w5 _ _ _ _ _ k1]; exact H6.out, by rw [cell_of_row w5 _ _ _ _ _ k2]; rfl, by rw [cell_of_row w5 _ _ _ _ _ k2]; rfl⟩ (fun hHeld => ?_)
  clear hK K
  (try simp only [Act.put, List.setIfInBounds_toArray, List.set_cons_zero, List.set_cons_succ, List.getElem_toArray, List.getElem_cons_succ, List.getElem_cons_zero])
  refine wpAnyH_done (by kernel_rfl) ?_ _
  exact HK.out _ _ _ _ _ _ _ _ _ _ _ _ _ _ _ _ _ _ _ _ _ _ _ _ _ _ _ _ _ _ _ _ _ _ _ _ _ _ _ _ _ _ _ _ _ _ _ _ _ _ _ _ _ _ _ _ _ _ _ _ _ _ _ _ _ _ _ _ _ _ _ _ _ _ _ _ _ _ _ _ _ _ ⟨hg5.os, hg5.tape, hg5.output, hg5.size, hg5.block⟩ hm5
end Go.Proofs.YtgkehahklccacaaGreatDoor
