import Derived.Test.YtoboabkaojfbaaaGreatDoorQ45
import Derived.Test.YtoboabkaojfbaaaGreatDoorQ37
import Derived.Test.YtoboabkaojfbaaaGreatDoorQ36
import Derived.Test.YtoboabkaojfbaaaGreatDoorQ26
namespace Go.Proofs.YtoboabkaojfbaaaGreatDoor
open Go Go.RowKit
set_option maxRecDepth 100000
set_option maxHeartbeats 8000000
set_option linter.unusedVariables false
set_option linter.unusedSimpArgs false
/-! cosign.Faces: its middle part -/

theorem built35p (h : Hd) (u : S3) (k : Hd) (v : S3) (fm : Int) : Tryz.prog.built 35 [(0, .agg (ntA h u.v)), (1, .agg (ntA k v.v)), (2, .int .i64 fm)] = some (FB h u.v k v.v fm 0 zDg zDg nilS nilS).toArray := by
  rw [built_fill (z := .agg (FB zHd nilS zHd nilS 0 0 zDg zDg nilS nilS).toArray) (sz := 266) (by' := 400) (places := [(0, 99), (99, 99), (198, 1), (199, 1), (200, 32), (232, 32), (264, 1), (265, 1)]) (by kernel_rfl) (by kernel_rfl) (by kernel_rfl)]
  have e0 : (FB zHd nilS zHd nilS 0 0 zDg zDg nilS nilS) = [] ++ ((hdE zHd ++ [nilS]) ++ (hdE zHd ++ (nilS :: (.int .i64 0 :: (.int .i64 0 :: (dgE zDg ++ (dgE zDg ++ [nilS, nilS]))))))) := by simp [FB]
  have e1 : ([] : List Value) ++ ((ntA h u.v).toList ++ (hdE zHd ++ (nilS :: (.int .i64 0 :: (.int .i64 0 :: (dgE zDg ++ (dgE zDg ++ [nilS, nilS]))))))) = (ntA h u.v).toList ++ ((hdE zHd ++ [nilS]) ++ (.int .i64 0 :: (.int .i64 0 :: (dgE zDg ++ (dgE zDg ++ [nilS, nilS]))))) := by simp
  have e2 : (ntA h u.v).toList ++ ((ntA k v.v).toList ++ (.int .i64 0 :: (.int .i64 0 :: (dgE zDg ++ (dgE zDg ++ [nilS, nilS]))))) = ((ntA h u.v).toList ++ (ntA k v.v).toList) ++ ([.int .i64 0] ++ (.int .i64 0 :: (dgE zDg ++ (dgE zDg ++ [nilS, nilS])))) := by simp
  have hl (x : Hd) (y : Value) : (ntA x y).toList.length = 99 := by rw [Array.length_toList, ntA_size]
  have hz : (hdE zHd ++ [nilS]).length = 99 := by rw [List.length_append, hdE_len]; rfl
  have h0 := fill_part (([(0, 99), (99, 99), (198, 1), (199, 1), (200, 32), (232, 32), (264, 1), (265, 1)] : List (Nat × Nat)).toArray[·]?) 0 0 (.agg (ntA h u.v)) [(1, .agg (ntA k v.v)), (2, .int .i64 fm)] [] (hdE zHd ++ [nilS]) (hdE zHd ++ (nilS :: (.int .i64 0 :: (.int .i64 0 :: (dgE zDg ++ (dgE zDg ++ [nilS, nilS])))))) (ntA h u.v).toList (by rw [hl]; rfl) (by rw [Array.toArray_toList]; rfl) rfl (by rw [hz, hl])
  have h1 := fill_part (([(0, 99), (99, 99), (198, 1), (199, 1), (200, 32), (232, 32), (264, 1), (265, 1)] : List (Nat × Nat)).toArray[·]?) 1 99 (.agg (ntA k v.v)) [(2, .int .i64 fm)] (ntA h u.v).toList (hdE zHd ++ [nilS]) (.int .i64 0 :: (.int .i64 0 :: (dgE zDg ++ (dgE zDg ++ [nilS, nilS])))) (ntA k v.v).toList (by rw [hl]; rfl) (by rw [Array.toArray_toList]; rfl) (hl _ _) (by rw [hz, hl])
  have h2 := fill_part (([(0, 99), (99, 99), (198, 1), (199, 1), (200, 32), (232, 32), (264, 1), (265, 1)] : List (Nat × Nat)).toArray[·]?) 2 198 (.int .i64 fm) [] ((ntA h u.v).toList ++ (ntA k v.v).toList) [.int .i64 0] (.int .i64 0 :: (dgE zDg ++ (dgE zDg ++ [nilS, nilS]))) [.int .i64 fm] rfl rfl (by rw [List.length_append, hl, hl]) rfl
  show Instr.fill _ (FB zHd nilS zHd nilS 0 0 zDg zDg nilS nilS).toArray _ = _
  rw [e0, h0, e1, h1, e2, h2]
  show some _ = some _
  congr 1
  simp [FB, ntA]
theorem exec_build35p {ρ : Operand → Value} {o : Oper} {d e x : Operand} {D E : Array Value} {h k : Hd} {u v : S3} {fm : Int} (ho : o.op = .build 35 #[(0, d), (1, e), (2, x)]) (hd : ρ d = .agg D) (he : ρ e = .agg E) (hx : ρ x = .int .i64 fm) (hD : D = ntA h u.v) (hE : E = ntA k v.v) (w : World) : (execOp ρ o).run Tryz.prog w = .ok (.value (.agg (FB h u.v k v.v fm 0 zDg zDg nilS nilS).toArray)) w := by
  subst hD; subst hE
  have hb : (Instr.build 35 #[(0, .agg (ntA h u.v)), (1, .agg (ntA k v.v)), (2, .int .i64 fm)]).run Tryz.prog w = .ok (.agg (FB h u.v k v.v fm 0 zDg zDg nilS nilS).toArray) w := run_build w 35 #[(0, .agg (ntA h u.v)), (1, .agg (ntA k v.v)), (2, .int .i64 fm)] _ (built35p h u k v fm)
  unfold execOp
  simp only [ho, List.map_toArray, List.map_cons, List.map_nil, hd, he, hx, Sem.run_bind, hb, Result.andThen_ok, Sem.run_pure]
theorem built31p (nu : Int) (a b : Dg) (u v : Value) (h1 : u.oneCell' = true) (h2 : v.oneCell' = true) (hu : u.cells = #[u]) (hv : v.cells = #[v]) : Tryz.prog.built 31 [(0, .int .i64 nu), (1, .agg (dgA a.1)), (2, .agg (dgA b.1)), (3, u), (4, v)] = some (LB nu a b u v).toArray := by
  rw [built_fill (z := .agg (LB 0 zDg zDg nilS nilS).toArray) (sz := 67) (by' := 120) (places := [(0, 1), (1, 32), (33, 32), (65, 1), (66, 1)]) (by kernel_rfl) (by kernel_rfl) (by kernel_rfl)]
  have p0 := fill_part (([(0, 1), (1, 32), (33, 32), (65, 1), (66, 1)] : List (Nat × Nat)).toArray[·]?) 0 0 (.int .i64 nu) [(1, .agg (dgA a.1)), (2, .agg (dgA b.1)), (3, u), (4, v)] [] [.int .i64 0] (dgE zDg ++ (dgE zDg ++ [nilS, nilS])) [.int .i64 nu] rfl rfl rfl rfl
  have p1 := fill_part (([(0, 1), (1, 32), (33, 32), (65, 1), (66, 1)] : List (Nat × Nat)).toArray[·]?) 1 1 (.agg (dgA a.1)) [(2, .agg (dgA b.1)), (3, u), (4, v)] [.int .i64 nu] (dgE zDg) (dgE zDg ++ [nilS, nilS]) (dgE a) (by rw [dgE_len]; rfl) rfl rfl (by rw [dgE_len, dgE_len])
  have p2 := fill_part (([(0, 1), (1, 32), (33, 32), (65, 1), (66, 1)] : List (Nat × Nat)).toArray[·]?) 2 33 (.agg (dgA b.1)) [(3, u), (4, v)] (.int .i64 nu :: dgE a) (dgE zDg) [nilS, nilS] (dgE b) (by rw [dgE_len]; rfl) rfl (by rw [List.length_cons, dgE_len]) (by rw [dgE_len, dgE_len])
  have p3 := fill_part (([(0, 1), (1, 32), (33, 32), (65, 1), (66, 1)] : List (Nat × Nat)).toArray[·]?) 3 65 u [(4, v)] (.int .i64 nu :: (dgE a ++ dgE b)) [nilS] [nilS] [u] rfl hu (by rw [List.length_cons, List.length_append, dgE_len, dgE_len]) rfl
  have p4 := fill_part (([(0, 1), (1, 32), (33, 32), (65, 1), (66, 1)] : List (Nat × Nat)).toArray[·]?) 4 66 v [] (.int .i64 nu :: (dgE a ++ (dgE b ++ [u]))) [nilS] [] [v] rfl hv (by simp [dgE_len]) rfl
  have q0 : (LB 0 zDg zDg nilS nilS) = [] ++ ([.int .i64 0] ++ (dgE zDg ++ (dgE zDg ++ [nilS, nilS]))) := by simp [LB]
  have q1 : ([] : List Value) ++ ([.int .i64 nu] ++ (dgE zDg ++ (dgE zDg ++ [nilS, nilS]))) = [.int .i64 nu] ++ (dgE zDg ++ (dgE zDg ++ [nilS, nilS])) := by simp
  have q2 : ([.int .i64 nu] : List Value) ++ (dgE a ++ (dgE zDg ++ [nilS, nilS])) = (.int .i64 nu :: dgE a) ++ (dgE zDg ++ [nilS, nilS]) := by simp
  have q3 : (.int .i64 nu :: dgE a) ++ (dgE b ++ [nilS, nilS]) = (.int .i64 nu :: (dgE a ++ dgE b)) ++ ([nilS] ++ [nilS]) := by simp
  have q4 : (.int .i64 nu :: (dgE a ++ dgE b)) ++ ([u] ++ [nilS]) = (.int .i64 nu :: (dgE a ++ (dgE b ++ [u]))) ++ ([nilS] ++ []) := by simp
  show Instr.fill _ (LB 0 zDg zDg nilS nilS).toArray _ = _
  rw [q0, p0, q1, p1, q2, p2, q3, p3, q4, p4]
  show some _ = some _
  congr 1
  simp [LB]
theorem exec_build31p {ρ : Operand → Value} {o : Oper} {c d e x y : Operand} {D E : Array Value} {nu : Int} {a b : Dg} {p q : Option Addr} {i j k l : Nat} (ho : o.op = .build 31 #[(0, c), (1, d), (2, e), (3, x), (4, y)]) (hc : ρ c = .int .i64 nu) (hd : ρ d = .agg D) (he : ρ e = .agg E) (hx : ρ x = .slice p i j) (hy : ρ y = .slice q k l) (hD : D = dgA a.1) (hE : E = dgA b.1) (w : World) : (execOp ρ o).run Tryz.prog w = .ok (.value (.agg (LB nu a b (.slice p i j) (.slice q k l)).toArray)) w := by
  subst hD; subst hE
  have hb : (Instr.build 31 #[(0, .int .i64 nu), (1, .agg (dgA a.1)), (2, .agg (dgA b.1)), (3, .slice p i j), (4, .slice q k l)]).run Tryz.prog w = .ok (.agg (LB nu a b (.slice p i j) (.slice q k l)).toArray) w := run_build w 31 #[(0, .int .i64 nu), (1, .agg (dgA a.1)), (2, .agg (dgA b.1)), (3, .slice p i j), (4, .slice q k l)] _ (built31p nu a b _ _ rfl rfl rfl rfl)
  unfold execOp
  simp only [ho, List.map_toArray, List.map_cons, List.map_nil, hc, hd, he, hx, hy, Sem.run_bind, hb, Result.andThen_ok, Sem.run_pure]
theorem fa_mid (w0 w : World) (hb : Below w0.heap.size w0 w) (wd : Int) (h0 : -9223372036854775808 ≤ wd) (h1 : wd ≤ 9223372036854775807) (X Y : Nt) (L : Lv) (aA aB : Option Addr) (nA nB cA cB : Nat) (hL : LvAt w0 L ⟨aA, nA, cA⟩ ⟨aB, nB, cB⟩) (hn : nA * 32 ≤ 140737488355328 ∧ nB * 32 ≤ 140737488355328) (ht : Tabs w0) (g6 g7 g9 g10 : Nat) (sX sY : S3)
    (h6 : w.heap[g6]? = some (.cells (ntA X.head sX.v) 28 (0, 0))) (h7 : w.heap[g7]? = some (.cells (ntA Y.head sY.v) 28 (0, 0))) (h9 : w.heap[g9]? = some (.cells (lvA L ⟨aA, nA, cA⟩ ⟨aB, nB, cB⟩) 31 (0, 0))) (h10 : w.heap[g10]? = some o35) (hl : w0.heap.size ≤ g10)
    (hX : w.ownsRow w0.heap.size 63 64 sX.v sX.n (X.signs.flatMap sgE)) (hY : w.ownsRow w0.heap.size 63 64 sY.v sY.n (Y.signs.flatMap sgE)) (hS : X.signs.length ≤ 1000 ∧ Y.signs.length ≤ 1000) (u1 u2 u3 u4 u5 u8 u11 u12 u13 u14 u15 u16 u17 u18 u19 u20 u21 u22 u23 u24 u25 u26 u27 u28 u29 u30 u31 u32 u33 u34 u35 u36 u37 u38 u39 u40 u41 u42 u43 u44 u45 u46 u47 u48 u49 u50 u51 u52 u53 u54 u55 u56 u57 u58 u59 u60 u61 u62 u63 u64 u65 u66 u67 u68 u69 u70 u71 u72 u73 u74 u75 u76 u77 u78 u79 u80 u81 u82 u83 u84 u85 u86 u87 u88 u89 u90 u91 u92 u93 u94 u95 u96 u97 u98 u99 u100 u101 u102 u103 u104 u105 u106 u107 u108 u109 u110 u111 u112 u113 u114 u115 u116 u117 u118 u119 u120 u121 u122 u123 u124 u125 u126 : Value) :
    Code.wp Tryz.prog (dropSeq 8 fa0) (bodyPost Tryz.prog Tryz.f14 (FsRet w0 (facesIn wd X Y L))) ⟨#[.int .i64 wd, u1, u2, u3, u4, u5, .pointer (some ⟨g6, 0, none⟩), .pointer (some ⟨g7, 0, none⟩), u8, .pointer (some ⟨g9, 0, none⟩), .pointer (some ⟨g10, 0, none⟩), u11, u12, u13, u14, u15, u16, u17, u18, u19, u20, u21, u22, u23, u24, u25, u26, u27, u28, u29, u30, u31, u32, u33, u34, u35, u36, u37, u38, u39, u40, u41, u42, u43, u44, u45, u46, u47, u48, u49, u50, u51, u52, u53, u54, u55, u56, u57, u58, u59, u60, u61, u62, u63, u64, u65, u66, u67, u68, u69, u70, u71, u72, u73, u74, u75, u76, u77, u78, u79, u80, u81, u82, u83, u84, u85, u86, u87, u88, u89, u90, u91, u92, u93, u94, u95, u96, u97, u98, u99, u100, u101, u102, u103, u104, u105, u106, u107, u108, u109, u110, u111, u112, u113, u114, u115, u116, u117, u118, u119, u120, u121, u122, u123, u124, u125, u126], []⟩ w := by
  refine wp_two_k (c := dropSeq 8 fa0) ⟨_, _, rfl⟩ fun K hK => ?_
  have HK := Lib.hid (fun (a : Act) (x : World) (h : Code.wp Tryz.prog (dropSeq 9 fa0) (bodyPost Tryz.prog Tryz.f14 (FsRet w0 (facesIn wd X Y L))) a x) => hK a x (by rw [dropSeq_succ]; exact h))
  clear hK
  obtain ⟨NX, hNX⟩ : ∃ A, A = ntA X.head sX.v := ⟨_, rfl⟩
  obtain ⟨NY, hNY⟩ : ∃ A, A = ntA Y.head sY.v := ⟨_, rfl⟩
  obtain ⟨HX, hHX⟩ : ∃ A, A = hdA X.head := ⟨_, rfl⟩
  obtain ⟨HY, hHY⟩ : ∃ A, A = hdA Y.head := ⟨_, rfl⟩
  obtain ⟨fm, hfm⟩ : ∃ x, x = formOf X.head Y.head := ⟨_, rfl⟩
  obtain ⟨AF, hAF⟩ : ∃ A, A = (FB X.head sX.v Y.head sY.v fm 0 zDg zDg nilS nilS).toArray := ⟨_, rfl⟩
  have HNX := Lib.hid (show NX = ntA X.head sX.v ∧ NX.size = 99 from ⟨hNX, by rw [hNX]; exact ntA_size _ _⟩)
  have HNY := Lib.hid (show NY = ntA Y.head sY.v ∧ NY.size = 99 from ⟨hNY, by rw [hNY]; exact ntA_size _ _⟩)
  have HHS := Lib.hid (show HX.size = 98 ∧ HY.size = 98 by rw [hHX, hHY]; exact ⟨hdA_size _, hdA_size _⟩)
  have HAF := Lib.hid (show AF = (FB X.head sX.v Y.head sY.v fm 0 zDg zDg nilS nilS).toArray ∧ AF.size = 266 ∧ AF.all (·.oneCell') = true from ⟨hAF, by rw [hAF, List.size_toArray, FB_len], by rw [hAF]; exact FB_one _ _ _ _ _ _ _ _ _ _ rfl rfl rfl rfl⟩)
  have HFM := Lib.hid hfm
  have HFO := Lib.hid (fun (x : World) => show Calls Tryz.prog 59 #[.agg HX, .agg HY] x (fun e w' => e = .returned (.int .i64 fm) ∧ Below x.heap.size x w') by rw [hHX, hHY, hfm]; exact formOf_any x X.head Y.head)
  rw [← hNX] at h6
  rw [← hNY] at h7
  have HSS := Lib.hid (fun (x : World) (hx : Below w.heap.size w x) => show x.heap[g6]? = some (.cells NX 28 (0, 0)) ∧ x.heap[g7]? = some (.cells NY 28 (0, 0)) from ⟨blk_up h6 hx, blk_up h7 hx⟩)
  have HLX := Lib.hid (fun (x : World) (h : x.heap[g6]? = some (.cells NX 28 (0, 0))) => show x.rangeAt g6 0 HX.toList by rw [hHX]; rw [hNX] at h; exact nt_head h)
  have HLY := Lib.hid (fun (x : World) (h : x.heap[g7]? = some (.cells NY 28 (0, 0))) => show x.rangeAt g7 0 HY.toList by rw [hHY]; rw [hNY] at h; exact nt_head h)
  have HEND := Lib.hid (fun (x : World) (g : Nat) (hx : Below w.heap.size w x) (hg : x.heap[g]? = some (.cells AF 35 (0, 0))) (hgl : w.heap.size ≤ g) => show ∀ (v1 v2 v3 v4 v5 v6 v7 v8 v11 v12 v13 v14 v15 v16 v17 v19 v20 v21 v22 v23 v24 v25 v26 v27 v28 v29 v30 v31 v32 v33 v34 v35 v36 v37 v38 v39 v40 v41 v42 v43 v44 v45 v46 v47 v48 v49 v50 v51 v52 v53 v54 v55 v56 v57 v58 v59 v60 v61 v62 v63 v64 v65 v66 v67 v68 v69 v70 v71 v72 v73 v74 v75 v76 v77 v78 v79 v80 v81 v82 v83 v84 v85 v86 v87 v88 v89 v90 v91 v92 v93 v94 v95 v96 v97 v98 v99 v100 v101 v102 v103 v104 v105 v106 v107 v108 v109 v110 v111 v112 v113 v114 v115 v116 v117 v118 v119 v120 v121 v122 v123 v124 v125 v126 : Value), Code.wp Tryz.prog (dropSeq 9 fa0) (bodyPost Tryz.prog Tryz.f14 (FsRet w0 (facesIn wd X Y L))) ⟨#[.int .i64 wd, v1, v2, v3, v4, v5, v6, v7, v8, .pointer (some ⟨g9, 0, none⟩), .pointer (some ⟨g10, 0, none⟩), v11, v12, v13, v14, v15, v16, v17, .pointer (some ⟨g, 0, none⟩), v19, v20, v21, v22, v23, v24, v25, v26, v27, v28, v29, v30, v31, v32, v33, v34, v35, v36, v37, v38, v39, v40, v41, v42, v43, v44, v45, v46, v47, v48, v49, v50, v51, v52, v53, v54, v55, v56, v57, v58, v59, v60, v61, v62, v63, v64, v65, v66, v67, v68, v69, v70, v71, v72, v73, v74, v75, v76, v77, v78, v79, v80, v81, v82, v83, v84, v85, v86, v87, v88, v89, v90, v91, v92, v93, v94, v95, v96, v97, v98, v99, v100, v101, v102, v103, v104, v105, v106, v107, v108, v109, v110, v111, v112, v113, v114, v115, v116, v117, v118, v119, v120, v121, v122, v123, v124, v125, v126], []⟩ x from by
    intro v1 v2 v3 v4 v5 v6 v7 v8 v11 v12 v13 v14 v15 v16 v17 v19 v20 v21 v22 v23 v24 v25 v26 v27 v28 v29 v30 v31 v32 v33 v34 v35 v36 v37 v38 v39 v40 v41 v42 v43 v44 v45 v46 v47 v48 v49 v50 v51 v52 v53 v54 v55 v56 v57 v58 v59 v60 v61 v62 v63 v64 v65 v66 v67 v68 v69 v70 v71 v72 v73 v74 v75 v76 v77 v78 v79 v80 v81 v82 v83 v84 v85 v86 v87 v88 v89 v90 v91 v92 v93 v94 v95 v96 v97 v98 v99 v100 v101 v102 v103 v104 v105 v106 v107 v108 v109 v110 v111 v112 v113 v114 v115 v116 v117 v118 v119 v120 v121 v122 v123 v124 v125 v126
    have l9 := (Array.getElem?_eq_some_iff.1 h9).1
    have l10 := (Array.getElem?_eq_some_iff.1 h10).1
    refine fa_tail w0 x wd h0 h1 X Y L aA aB nA nB cA cB hL hn ht g9 g10 g sX sY ⟨hb.trans (hx.mono hb.size), blk_up h10 hx, ?_, ⟨own_below hX hx, own_below hY hx, World.ownsRow_nil _ _ _ _, World.ownsRow_nil _ _ _ _⟩, by omega, hl, by have := hb.size; omega⟩ (blk_up h9 hx) (by omega) hS _ _ _ _ _ _ _ _ _ _ _ _ _ _ _ _ _ _ _ _ _ _ _ _ _ _ _ _ _ _ _ _ _ _ _ _ _ _ _ _ _ _ _ _ _ _ _ _ _ _ _ _ _ _ _ _ _ _ _ _ _ _ _ _ _ _ _ _ _ _ _ _ _ _ _ _ _ _ _ _ _ _ _ _ _ _ _ _ _ _ _ _ _ _ _ _ _ _ _ _ _ _ _ _ _ _ _ _ _ _ _ _ _ _ _ _ _ _ _ _ _ _ _
    rw [hg, HAF.out.1, HFM.out]; rfl)
  have hd : Below w.heap.size w w.drew := (Below.refl _ _).drew
  have HD := Lib.hid hd
  clear hNX hNY hHX hHY hfm hAF h6 h7 h9 h10 hl hX hY hS hL hn ht hb h0 h1 hd
  conv => arg 2; whnf
  go_upto_region 14 with (fail)
  refine wp_region_held_drew (S := fun x : World => x.heap[g6]? = some (.cells NX 28 (0, 0)) ∧ x.heap[g7]? = some (.cells NY 28 (0, 0))) (by kernel_rfl) (HSS.out _ HD.out) (fun hHeld => ?_)
  apply wpL 0 (.agg NX)
  · exact fun w hSw => exec_load rfl (load28 (row_range hSw.1) HNX.out.2)
  apply wpL 1 (.agg NY)
  · exact fun w hSw => exec_load rfl (load28 (row_range hSw.2) HNY.out.2)
  apply wpT 2
  apply wpL 3 (.agg HX)
  · exact fun w hSw => exec_load rfl (load25 (HLX.out _ hSw.1) HHS.out.1)
  apply wpT 4
  apply wpL 5 (.agg HY)
  · exact fun w hSw => exec_load rfl (load25 (HLY.out _ hSw.2) HHS.out.2)
  refine wpAnyH_ready (rs := [6, 8]) (by kernel_rfl) (by simp) (AllReadyH.cons (o := _) rfl (fun K' hK => ?_) (AllReadyH.cons (o := _) rfl (fun K' hK => ?_) AllReadyH.nil))
  · go_simp
    refine (HFO.out _).mono ?_
    rintro e w2 ⟨rfl, hb⟩
    have HX2 := Lib.hid (HD.out.trans (hb.mono HD.out.size))
    clear hb
    apply bk hK
    · exact HSS.out _ HX2.out
    intro hHeld
    clear hK K'
    apply wpL 7 (.agg AF)
    · exact fun w hSw => by rw [HAF.out.1]; exact exec_build35p rfl (by rfl) (by rfl) (by rfl) HNX.out.1 HNY.out.1 w
    apply wpR 8
    intro K' hK
    refine S_value rfl (exec_al35 (by rfl) _) ?_
    have HX3 := Lib.hid (HX2.out.trans ((below_new w2 zc35 35).mono HX2.out.size))
    apply bk hK
    · exact HSS.out _ HX3.out
    intro hHeld
    clear hK K'
    apply wpR 9
    intro K' hK
    refine S_storeF rfl 35 (.tmp 18) (.tmp 95) (by rfl) w2 zc35 AF (by rfl) (by rfl) (by rw [HAF.out.2.1, zc35_size]) (by rw [HAF.out.2.1]; exact info35) HAF.out.2.2 ?_
    have HX4 := Lib.hid (HX2.out.trans ((below_new w2 AF 35).mono HX2.out.size))
    apply bk hK
    · exact HSS.out _ HX4.out
    intro hHeld
    clear hK K'
    refine wpAnyH_done (by kernel_rfl) ?_ _
    change K _ _
    refine HK.out _ _ ?_
    exact HEND.out (w2.alloc (.cells AF 35)) w2.heap.size HX4.out (box_new w2 AF 35) HX2.out.size _ _ _ _ _ _ _ _ _ _ _ _ _ _ _ _ _ _ _ _ _ _ _ _ _ _ _ _ _ _ _ _ _ _ _ _ _ _ _ _ _ _ _ _ _ _ _ _ _ _ _ _ _ _ _ _ _ _ _ _ _ _ _ _ _ _ _ _ _ _ _ _ _ _ _ _ _ _ _ _ _ _ _ _ _ _ _ _ _ _ _ _ _ _ _ _ _ _ _ _ _ _ _ _ _ _ _ _ _ _ _ _ _ _ _ _ _ _ _ _ _ _ _
  · refine S_value rfl (exec_al35 (by rfl) _) ?_
    have HX2 := Lib.hid (HD.out.trans ((below_new w.drew zc35 35).mono HD.out.size))
    have HQ2 := Lib.hid (show (w.drew.alloc (.cells zc35 35)).heap[w.drew.heap.size]? = some (.cells zc35 35 (0, 0)) from box_new _ _ _)
    apply bk hK
    · exact HSS.out _ HX2.out
    intro hHeld
    clear hK K'
    obtain ⟨g, hg⟩ : ∃ g, g = w.drew.heap.size := ⟨_, rfl⟩
    rw [← hg] at HQ2 ⊢
    have HG := Lib.hid (show w.heap.size ≤ g by rw [hg]; exact HD.out.size)
    clear hg
    generalize w.drew.alloc (.cells zc35 35) = w2 at *
    apply wpR 6
    intro K' hK
    go_simp
    refine (HFO.out _).mono ?_
    rintro e w3 ⟨rfl, hb⟩
    have HX3 := Lib.hid (HX2.out.trans (hb.mono HX2.out.size))
    have HQ3 := Lib.hid (blk_up HQ2.out hb)
    clear hb
    apply bk hK
    · exact HSS.out _ HX3.out
    intro hHeld
    clear hK K'
    apply wpL 7 (.agg AF)
    · exact fun w hSw => by rw [HAF.out.1]; exact exec_build35p rfl (by rfl) (by rfl) (by rfl) HNX.out.1 HNY.out.1 w
    apply wpR 9
    intro K' hK
    refine S_store_mid rfl 35 (.tmp 18) (.tmp 95) (by rfl) g 0 AF (by rfl) (by rfl) (by rw [HAF.out.2.1]; have := there_block HQ3.out; rwa [zc35_size] at this) (by rw [HAF.out.2.1]; exact info35) HAF.out.2.2 ?_
    have HX4 := Lib.hid (show Below w.heap.size w (w3.setCells g 0 AF.toList) from HX3.out.grown (setCells_grown _ _ _ _) HX3.out.size (fun q hq => by rw [← Option.some.inj hq]; exact HG.out))
    have HQ4 := Lib.hid (show (w3.setCells g 0 AF.toList).heap[g]? = some (.cells AF 35 (0, 0)) by have := setCells_all HQ3.out AF.toList (by rw [Array.length_toList, HAF.out.2.1, zc35_size]); simpa using this)
    apply bk hK
    · exact HSS.out _ HX4.out
    intro hHeld
    clear hK K'
    refine wpAnyH_done (by kernel_rfl) ?_ _
    change K _ _
    refine HK.out _ _ ?_
    exact HEND.out (w3.setCells g 0 AF.toList) g HX4.out HQ4.out HG.out _ _ _ _ _ _ _ _ _ _ _ _ _ _ _ _ _ _ _ _ _ _ _ _ _ _ _ _ _ _ _ _ _ _ _ _ _ _ _ _ _ _ _ _ _ _ _ _ _ _ _ _ _ _ _ _ _ _ _ _ _ _ _ _ _ _ _ _ _ _ _ _ _ _ _ _ _ _ _ _ _ _ _ _ _ _ _ _ _ _ _ _ _ _ _ _ _ _ _ _ _ _ _ _ _ _ _ _ _ _ _ _ _ _ _ _ _ _ _ _ _ _ _
end Go.Proofs.YtoboabkaojfbaaaGreatDoor
namespace Go.Proofs.YtoboabkaojfbaaaGreatDoor
open Go Go.RowKit
set_option maxRecDepth 100000
set_option maxHeartbeats 8000000
set_option linter.unusedVariables false
set_option linter.unusedSimpArgs false
/-! cosign.signed. -/
theorem range_far {w w' : World} {g b o : Nat} {L : List Value} (hg : w.grownBy w' (some g)) (h : w.rangeAt b o L) (hne : b ≠ g) : w'.rangeAt b o L := fun j v hj =>
  (World.cell?_of_block (a := ⟨b, o + j, none⟩) (hg.block b (World.block_lt_of_cell? w _ (h j v hj)) (fun e2 => hne (Option.some.inj e2)))).trans (h j v hj)
theorem cell_far {w w' : World} {g b o : Nat} {v : Value} (hg : w.grownBy w' (some g)) (h : w.cell? ⟨b, o, none⟩ = some v) (hne : b ≠ g) : w'.cell? ⟨b, o, none⟩ = some v :=
  (World.cell?_of_block (a := ⟨b, o, none⟩) (hg.block b (World.block_lt_of_cell? w _ h) (fun e2 => hne (Option.some.inj e2)))).trans h
def SgRet (w : World) (x : Nt) (key : Dg) (e : Ending) (w' : World) : Prop := ∃ t : S3, e = .returned (.tuple #[.agg (ntA ((onlyP x key).getD zNt).head t.v), .bool (onlyP x key).isSome]) ∧ w'.ownsRow w.heap.size 63 64 t.v t.n (((onlyP x key).getD zNt).signs.flatMap sgE) ∧ Below w.heap.size w w'
theorem signed_any (w : World) (x : Nt) (a : Option Addr) (n c : Nat) (hs : RS 64 sgE w a n c x.signs) (h0 : 0 < n) (key : Dg) :
    Calls Tryz.prog 57 #[.agg (ntA x.head (.slice a n c)), .agg (dgA key.1)] w (SgRet w x key) := by
  obtain ⟨X, hX⟩ : ∃ X, X = ntA x.head (.slice a n c) := ⟨_, rfl⟩
  obtain ⟨K0, hK0⟩ : ∃ K, K = dgA key.1 := ⟨_, rfl⟩
  rw [← hX, ← hK0]
  obtain ⟨Z, hZ⟩ : ∃ Z, Z = ntA zHd nilS := ⟨_, rfl⟩
  have HZ := Lib.hid hZ; have HXX := Lib.hid (And.intro hX hK0); have HS := Lib.hid hs
  have HZS := Lib.hid (show Z.size = 99 ∧ Z.all (·.oneCell') = true by rw [hZ]; exact ⟨ntA_size _ _, ntA_one _ _ rfl⟩)
  have HBZ := Lib.hid (fun (ρ : Operand → Value) (o : Oper) (ho : o.op = .build 28 #[]) (w : World) => show (execOp ρ o).run Tryz.prog w = .ok (.value (.agg Z)) w by rw [hZ]; exact exec_build28 ho w)
  have HON := Lib.hid (only_ix x key)
  obtain ⟨ix, hix⟩ : ∃ i, i = ixS key x.signs := ⟨_, rfl⟩
  rw [← hix] at HON
  have HIX := Lib.hid hix
  have hnb : n ≤ 281474976710656 := hs.2.2.1
  have HNN := Lib.hid (show x.signs.length = n ∧ 0 < n from ⟨hs.1, h0⟩)
  clear hX hK0 hZ hix hs h0
  go_enter Tryz.func57, Tryz.ntmps57
  go_upto_region 1 with (fail)
  change Code.wp Tryz.prog _ _ _ (((w.alloc (.cells X 28)).alloc (.cells K0 23)).alloc o28)
  obtain ⟨g2, hg2⟩ : ∃ g, g = w.heap.size := ⟨_, rfl⟩
  obtain ⟨g3, hg3⟩ : ∃ g, g = w.heap.size + 1 := ⟨_, rfl⟩
  obtain ⟨g4, hg4⟩ : ∃ g, g = w.heap.size + 2 := ⟨_, rfl⟩
  have hb1 : Below w.heap.size w (w.alloc (.cells X 28)) := (Below.refl _ _).alloc (Nat.le_refl _) _
  have hb2 : Below w.heap.size w ((w.alloc (.cells X 28)).alloc (.cells K0 23)) := hb1.alloc (by simp) _
  have HB1 := Lib.hid (show Below w.heap.size w (((w.alloc (.cells X 28)).alloc (.cells K0 23)).alloc o28) from hb2.alloc (by simp; omega) _)
  have HQ2 := Lib.hid (show (((w.alloc (.cells X 28)).alloc (.cells K0 23)).alloc o28).heap[g2]? = some (.cells X 28 (0, 0)) by
    rw [hg2]; exact blk_up (heap_alloc2_old w _ _) ((Below.refl _ _).alloc (Nat.le_refl _) _))
  have HQ3 := Lib.hid (show (((w.alloc (.cells X 28)).alloc (.cells K0 23)).alloc o28).heap[g3]? = some (.cells K0 23 (0, 0)) by
    rw [hg3]; exact blk_up (heap_alloc2_new w _ _) ((Below.refl _ _).alloc (Nat.le_refl _) _))
  have HQ4 := Lib.hid (show (((w.alloc (.cells X 28)).alloc (.cells K0 23)).alloc o28).heap[g4]? = some o28 by
    have := heap_alloc_new ((w.alloc (.cells X 28)).alloc (.cells K0 23)) o28
    rw [hg4]; simpa using this)
  have HGG := Lib.hid (show g2 = w.heap.size ∧ g3 = w.heap.size + 1 ∧ g4 = w.heap.size + 2 from ⟨hg2, hg3, hg4⟩)
  first
    | rw [← hg4, ← hg3, ← hg2]
    | rw [← hg2, ← hg3, ← hg4]
    | rw [← hg3, ← hg4, ← hg2]
  clear hb1 hb2 hg2 hg3 hg4
  generalize ((w.alloc (.cells X 28)).alloc (.cells K0 23)).alloc o28 = w1 at *
  have k98 : w1.cell? ⟨g2, 98, none⟩ = some (.slice a n c) := by have := HQ2.out; rw [HXX.out.1] at this; exact nt_signs this
  have HCI := Lib.hid (show Calls Tryz.prog 120 #[.slice a n c, .func (.func 121) #[] #[.pointer (some ⟨g3, 0, none⟩)]] w1 (fun e w' => e = .returned (.int .i64 ix) ∧ Below w1.heap.size w1 w') by
    rw [HIX.out]; exact index_any w1 a n c x.signs (HS.out.below HB1.out) HNN.out.2 g3 key (by have := HQ3.out; rw [HXX.out.2] at this; exact this))
  go_upto_region 2 with (go_at_call 120; (with_reducible refine HCI.out.mono ?_); rintro e w2 ⟨rfl, hb⟩; have HX2 := Lib.hid hb; clear hb)
  have HB2 := Lib.hid (HB1.out.trans (HX2.out.mono HB1.out.size))
  have HE4 := Lib.hid (blk_up HQ4.out HX2.out)
  have HE2 := Lib.hid (blk_up HQ2.out HX2.out)
  have HTH := Lib.hid (fun (u : World) (hq : u.heap[g4]? = some o28) => show u.there g4 0 99 by
    have := there_block (show u.heap[g4]? = some (.cells (ntA zHd nilS) 28 (0, 0)) from hq); rwa [ntA_size] at this)
  have HFIN := Lib.hid (fun (u : World) (G : Array Value) (hsz : G.size = 99) (hq : u.heap[g4]? = some o28) (hb : Below w.heap.size w u) => show (u.setCells g4 0 G.toList).heap[g4]? = some (.cells G 28 (0, 0)) ∧ Below w.heap.size w (u.setCells g4 0 G.toList) by
    refine ⟨?_, hb.grown (setCells_grown _ _ _ _) hb.size (fun q hq => by rw [← Option.some.inj hq, HGG.out.2.2]; omega)⟩
    have := setCells_all (show u.heap[g4]? = some (.cells (ntA zHd nilS) 28 (0, 0)) from hq) G.toList (by rw [Array.length_toList, hsz, ntA_size])
    simpa using this)
  clear k98 HCI HIX
  rcases HON.out with ⟨k, s, h1, h2, h3⟩ | ⟨h1, h2⟩
  · have HV := Lib.hid h3
    have HSK := Lib.hid h2
    subst h1
    have hkn : k < n := by have := (List.getElem?_eq_some_iff.1 h2).1; have := HNN.out.1; omega
    have d0 : decide ((k : Int) < 0) = false := by simp
    have hki : (k : Int) < (n : Int) := by omega
    have hkn2 : (0 : Int) ≤ (k : Int) := by omega
    obtain ⟨b, off, e, hbl, hrg⟩ := sg_at HS.out HSK.out
    subst e
    obtain ⟨A, hA⟩ : ∃ A, A = sgA s := ⟨_, rfl⟩
    rw [← hA] at hrg
    have HA := Lib.hid (show A = sgA s ∧ A.size = 64 from ⟨hA, by rw [hA]; exact sgA_size _⟩)
    obtain ⟨D, hD⟩ : ∃ D, D = hdA x.head := ⟨_, rfl⟩
    have HD := Lib.hid (show D = hdA x.head ∧ D.size = 98 from ⟨hD, by rw [hD]; exact hdA_size _⟩)
    have HR := Lib.hid (show w2.rangeAt b (off + k * 64) A.toList from range_below hrg HB2.out)
    have HR2 := Lib.hid (show w2.rangeAt g2 0 D.toList by have := HE2.out; rw [HXX.out.1] at this; rw [HD.out.1]; exact nt_head this)
    have HC2 := Lib.hid (show w2.cell? ⟨g2, 98, none⟩ = some (.slice (some ⟨b, off, none⟩) n c) by have := HE2.out; rw [HXX.out.1] at this; exact nt_signs this)
    have HBL := Lib.hid (show b < w.heap.size from hbl)
    clear h2 h3 hA hD hrg hbl
    go_upto_region 4 with (fail)
    obtain ⟨G, hG⟩ : ∃ G, G = ntA x.head (S3.v ⟨some ⟨w2.heap.size, 0, none⟩, 1, 1⟩) := ⟨_, rfl⟩
    have HG := Lib.hid (show G = ntA x.head (S3.v ⟨some ⟨w2.heap.size, 0, none⟩, 1, 1⟩) ∧ G.size = 99 ∧ G.all (·.oneCell') = true by rw [hG]; exact ⟨rfl, ntA_size _ _, ntA_one _ _ rfl⟩)
    clear hG
    have HSS := Lib.hid (fun (u : World) (hu : Below w2.heap.size w2 u) => show u.rangeAt g2 0 D.toList ∧ u.cell? ⟨g2, 98, none⟩ = some (.slice (some ⟨b, off, none⟩) n c) ∧ u.rangeAt b (off + k * 64) A.toList from ⟨range_below HR2.out hu, keepR hu HC2.out, range_below HR.out hu⟩)
    refine wp_region_held_drew (S := fun u => u.rangeAt g2 0 D.toList ∧ u.cell? ⟨g2, 98, none⟩ = some (.slice (some ⟨b, off, none⟩) n c) ∧ u.rangeAt b (off + k * 64) A.toList) (by kernel_rfl) (HSS.out _ (Below.refl _ _).drew) (fun hHeld => ?_)
    apply wpT 0
    apply wpL 1 (.agg D)
    · exact fun w hSw => exec_load rfl (load25 hSw.1 HD.out.2)
    apply wpT 2
    apply wpT 3
    apply wpT 4
    apply wpT 5
    apply wpL 6 (.agg A)
    · exact fun w hSw => exec_load rfl (load_sg hSw.2.2 HA.out.2)
    apply wpR 7
    intro K hK
    refine S_build1g rfl (.tmp 20) (by rfl) A (by rfl) HA.out.2 ?_
    have HX3 := Lib.hid (show Below w2.heap.size w2 (w2.drew.alloc (.cells A 63)) from ((Below.refl _ _).drew).alloc (by simp) _)
    have HN3 := Lib.hid (show (w2.drew.alloc (.cells A 63)).heap[w2.heap.size]? = some (.cells A 63 (0, 0)) from heap_alloc_new w2.drew _)
    apply bk hK
    · exact HSS.out _ HX3.out
    intro hHeld
    clear hK K
    apply wpL 8 (.agg G)
    · exact fun w hSw => by rw [HG.out.1]; exact exec_build28p (s := ⟨some ⟨w2.heap.size, 0, none⟩, 1, 1⟩) rfl (by rfl) (by rfl) HD.out.1 w
    have HE5 := Lib.hid (blk_up HE4.out HX3.out)
    have HB5 := Lib.hid (HB2.out.trans (HX3.out.mono HB2.out.size))
    generalize w2.drew.alloc (.cells A 63) = w5 at *
    apply wpR 9
    intro K hK
    refine S_store_mid rfl 28 (.tmp 4) (.tmp 22) (by rfl) g4 0 G (by rfl) (by rfl) (by rw [HG.out.2.1]; exact HTH.out _ HE5.out) (by rw [HG.out.2.1]; exact info28) HG.out.2.2 ?_
    have HF := Lib.hid (HFIN.out _ G HG.out.2.1 HE5.out HB5.out)
    apply bk hK
    · exact ⟨range_far (setCells_grown _ _ _ _) hHeld.1 (by have := HGG.out; omega), cell_far (setCells_grown _ _ _ _) hHeld.2.1 (by have := HGG.out; omega), range_far (setCells_grown _ _ _ _) hHeld.2.2 (by have := HGG.out; have := HBL.out; omega)⟩
    intro hHeld
    clear hK K
    apply wpT 10
    refine wpAnyH_done (by kernel_rfl) ?_ _
    go_wp2_with fail
    refine bodyPost_ret (v := .tuple #[.agg G, .bool true]) (results_row_tmp (p := 4) (u := 5) (ty := 28) rfl _ _ g4 28 G (0, 0) _ rfl HF.out.1 Tryz.underlying28 rfl (by rw [HG.out.2.1]; exact info28)) rfl ⟨⟨some ⟨w2.heap.size, 0, none⟩, 1, 1⟩, by rw [HV.out, HG.out.1]; rfl, ?_, HF.out.2⟩
    rw [HV.out]
    exact own_block sgE 64 (by decide) sgE_len (l := [s]) (blk_keep (setCells_grown _ _ _ _) (by have := HN3.out; rw [HA.out.1] at this; simpa [sgA] using this) (by have := (Array.getElem?_eq_some_iff.1 HE4.out).1; omega)) rfl HB2.out.size (by show (1 : Nat) ≤ maxLen; decide)
  · have HV := Lib.hid h2
    subst h1
    go_wp2_with (first
      | (refine L_value rfl (HBZ.out _ _ (by rfl) _) ?_)
      | (refine wpList_store_mid rfl 28 (.tmp 4) (.tmp 13) (by rfl) g4 0 Z (by rfl) (by rfl) (by rw [HZS.out.1]; exact HTH.out _ HE4.out) (by rw [HZS.out.1]; exact info28) HZS.out.2 ?_))
    exact bodyPost_ret (v := .tuple #[.agg Z, .bool false]) (results_row_tmp (p := 4) (u := 5) (ty := 28) rfl _ _ g4 28 Z (0, 0) _ rfl (HFIN.out _ Z HZS.out.1 HE4.out HB2.out).1 Tryz.underlying28 rfl (by rw [HZS.out.1]; exact info28)) rfl ⟨⟨none, 0, 0⟩, by rw [HV.out, HZ.out]; rfl, by rw [HV.out]; exact World.ownsRow_nil _ _ _ _, (HFIN.out _ Z HZS.out.1 HE4.out HB2.out).2⟩
end Go.Proofs.YtoboabkaojfbaaaGreatDoor
