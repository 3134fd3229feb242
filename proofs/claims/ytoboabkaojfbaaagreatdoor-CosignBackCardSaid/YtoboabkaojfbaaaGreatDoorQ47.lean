import Derived.Test.YtoboabkaojfbaaaGreatDoorQ46
namespace Go.Proofs.YtoboabkaojfbaaaGreatDoor
open Go Go.RowKit
set_option maxRecDepth 100000
set_option maxHeartbeats 8000000
set_option linter.unusedVariables false
set_option linter.unusedSimpArgs false
/-! cosign.Faces -/

theorem nt_log {w : World} {g : Nat} {h : Hd} {v : Value} {t : TypeId} (hb : w.heap[g]? = some (.cells (ntA h v) t (0, 0))) : w.rangeAt g 0 (dgE h.log) :=
  mid_range hb 0 (A := []) (Z := dgE h.log) (B := .int .i64 h.size :: (dgE h.root ++ (dgE h.index ++ [.int .i64 h.clock, v]))) (by simp [ntA, hdE, HB]) rfl
theorem facesP_8 {wd : Int} {x y : Nt} {key : Dg} {l : Lv} (h : noteE x ≠ 0 ∨ noteE y ≠ 0) : facesP wd x y key l = (zFc, 8) := by unfold facesP; rw [if_pos h]
theorem facesP_160 {wd : Int} {x y : Nt} {key : Dg} {l : Lv} (h1 : noteE x = 0) (h2 : noteE y = 0) (h : onlyP x key = none ∨ onlyP y key = none) : facesP wd x y key l = (zFc, 160) := by
  unfold facesP; rw [if_neg (by rw [h1, h2]; simp)]
  rcases h with h | h
  · rw [h]
  · rw [h]; cases onlyP x key <;> rfl
theorem facesP_170 {wd : Int} {x y : Nt} {key : Dg} {l : Lv} {X Y : Nt} (h1 : noteE x = 0) (h2 : noteE y = 0) (hx : onlyP x key = some X) (hy : onlyP y key = some Y) (h : X.head.log ≠ Y.head.log ∨ X.head = Y.head) : facesP wd x y key l = (zFc, 170) := by
  unfold facesP; rw [if_neg (by rw [h1, h2]; simp), hx, hy]
  show (if _ then _ else _) = _
  rw [if_pos h]
theorem facesP_in {wd : Int} {x y : Nt} {key : Dg} {l : Lv} {X Y : Nt} (h1 : noteE x = 0) (h2 : noteE y = 0) (hx : onlyP x key = some X) (hy : onlyP y key = some Y) (h : ¬ (X.head.log ≠ Y.head.log ∨ X.head = Y.head)) : facesP wd x y key l = if afterP X.head Y.head then facesIn wd Y X ⟨l.number, l.b, l.a, l.wayB, l.wayA⟩ else facesIn wd X Y l := by
  unfold facesP; rw [if_neg (by rw [h1, h2]; simp), hx, hy]
  show (if _ then _ else _) = _
  rw [if_neg h]
theorem onlyP_len {x X : Nt} {key : Dg} (h : onlyP x key = some X) : X.signs.length ≤ 1000 := by
  unfold onlyP at h
  cases hf : x.signs.find? fun s => decide (s.key = key) with
  | none => rw [hf] at h; cases h
  | some s => rw [hf] at h; cases h; simp
/-- What lies in memory behind the notes and the key: five boxes. -/
structure FaB (w0 x : World) (g6 g7 g8 g9 g10 : Nat) (NA NB KK LC : Array Value) : Prop where
  hb : Below w0.heap.size w0 x
  b6 : x.heap[g6]? = some (.cells NA 28 (0, 0))
  b7 : x.heap[g7]? = some (.cells NB 28 (0, 0))
  b8 : x.heap[g8]? = some (.cells KK 23 (0, 0))
  b9 : x.heap[g9]? = some (.cells LC 31 (0, 0))
  b10 : x.heap[g10]? = some o35
section
variable {w0 x x' : World} {g6 g7 g8 g9 g10 : Nat} {NA NB KK LC : Array Value}
theorem FaB.below (h : FaB w0 x g6 g7 g8 g9 g10 NA NB KK LC) (hb : Below x.heap.size x x') : FaB w0 x' g6 g7 g8 g9 g10 NA NB KK LC :=
  ⟨h.hb.trans (hb.mono h.hb.size), blk_up h.b6 hb, blk_up h.b7 hb, blk_up h.b8 hb, blk_up h.b9 hb, blk_up h.b10 hb⟩
theorem FaB.set6 (h : FaB w0 x g6 g7 g8 g9 g10 NA NB KK LC) (hl : w0.heap.size = g6 ∧ g7 = g6 + 1 ∧ g8 = g6 + 2 ∧ g9 = g6 + 3 ∧ g10 = g6 + 4) (D : Array Value) (hs : D.size = NA.size) : FaB w0 (x.setCells g6 0 D.toList) g6 g7 g8 g9 g10 D NB KK LC := by
  have hg := setCells_grown g6 D.toList 0 x
  have := setCells_all h.b6 D.toList (by rw [Array.length_toList, hs])
  exact ⟨h.hb.grown hg h.hb.size (fun q hq => by rw [← Option.some.inj hq]; omega), by simpa using this, blk_keep hg h.b7 (by omega), blk_keep hg h.b8 (by omega), blk_keep hg h.b9 (by omega), blk_keep hg h.b10 (by omega)⟩
theorem FaB.set7 (h : FaB w0 x g6 g7 g8 g9 g10 NA NB KK LC) (hl : w0.heap.size = g6 ∧ g7 = g6 + 1 ∧ g8 = g6 + 2 ∧ g9 = g6 + 3 ∧ g10 = g6 + 4) (D : Array Value) (hs : D.size = NB.size) : FaB w0 (x.setCells g7 0 D.toList) g6 g7 g8 g9 g10 NA D KK LC := by
  have hg := setCells_grown g7 D.toList 0 x
  have := setCells_all h.b7 D.toList (by rw [Array.length_toList, hs])
  exact ⟨h.hb.grown hg h.hb.size (fun q hq => by rw [← Option.some.inj hq]; omega), blk_keep hg h.b6 (by omega), by simpa using this, blk_keep hg h.b8 (by omega), blk_keep hg h.b9 (by omega), blk_keep hg h.b10 (by omega)⟩
theorem FaB.set9 (h : FaB w0 x g6 g7 g8 g9 g10 NA NB KK LC) (hl : w0.heap.size = g6 ∧ g7 = g6 + 1 ∧ g8 = g6 + 2 ∧ g9 = g6 + 3 ∧ g10 = g6 + 4) (D : Array Value) (hs : D.size = LC.size) : FaB w0 (x.setCells g9 0 D.toList) g6 g7 g8 g9 g10 NA NB KK D := by
  have hg := setCells_grown g9 D.toList 0 x
  have := setCells_all h.b9 D.toList (by rw [Array.length_toList, hs])
  exact ⟨h.hb.grown hg h.hb.size (fun q hq => by rw [← Option.some.inj hq]; omega), blk_keep hg h.b6 (by omega), blk_keep hg h.b7 (by omega), blk_keep hg h.b8 (by omega), by simpa using this, blk_keep hg h.b10 (by omega)⟩
theorem FaB.there6 (h : FaB w0 x g6 g7 g8 g9 g10 NA NB KK LC) (n : Nat) (hn : NA.size = n) : x.there g6 0 n := by have := there_block h.b6; rwa [hn] at this
theorem FaB.there7 (h : FaB w0 x g6 g7 g8 g9 g10 NA NB KK LC) (n : Nat) (hn : NB.size = n) : x.there g7 0 n := by have := there_block h.b7; rwa [hn] at this
theorem FaB.there9 (h : FaB w0 x g6 g7 g8 g9 g10 NA NB KK LC) (n : Nat) (hn : LC.size = n) : x.there g9 0 n := by have := there_block h.b9; rwa [hn] at this
end
theorem fab_new (w : World) (NA NB KK LC : Array Value) : FaB w (((((w.alloc (.cells NA 28)).alloc (.cells NB 28)).alloc (.cells KK 23)).alloc (.cells LC 31)).alloc o35) w.heap.size (w.heap.size + 1) (w.heap.size + 2) (w.heap.size + 3) (w.heap.size + 4) NA NB KK LC := by
  have h1 := below_new w NA 28
  have h2 := below_new (w.alloc (.cells NA 28)) NB 28
  have h3 := below_new ((w.alloc (.cells NA 28)).alloc (.cells NB 28)) KK 23
  have h4 := below_new (((w.alloc (.cells NA 28)).alloc (.cells NB 28)).alloc (.cells KK 23)) LC 31
  have h5 : Below _ ((((w.alloc (.cells NA 28)).alloc (.cells NB 28)).alloc (.cells KK 23)).alloc (.cells LC 31)) (((((w.alloc (.cells NA 28)).alloc (.cells NB 28)).alloc (.cells KK 23)).alloc (.cells LC 31)).alloc o35) := below_new _ _ 35
  have b1 := box_new w NA 28
  have b2 := box_new (w.alloc (.cells NA 28)) NB 28
  have b3 := box_new ((w.alloc (.cells NA 28)).alloc (.cells NB 28)) KK 23
  have b4 := box_new (((w.alloc (.cells NA 28)).alloc (.cells NB 28)).alloc (.cells KK 23)) LC 31
  have b5 : (((((w.alloc (.cells NA 28)).alloc (.cells NB 28)).alloc (.cells KK 23)).alloc (.cells LC 31)).alloc o35).heap[((((w.alloc (.cells NA 28)).alloc (.cells NB 28)).alloc (.cells KK 23)).alloc (.cells LC 31)).heap.size]? = some o35 := heap_alloc_new _ _
  simp only [World.size_alloc] at b1 b2 b3 b4 b5
  refine ⟨h1.trans ((h2.trans ((h3.trans ((h4.trans (h5.mono h4.size)).mono h3.size)).mono h2.size)).mono h1.size), blk_up (blk_up (blk_up (blk_up b1 h2) h3) h4) h5, ?_, ?_, ?_, ?_⟩
  · exact blk_up (blk_up (blk_up b2 h3) h4) h5
  · exact blk_up (blk_up b3 h4) h5
  · exact blk_up b4 h5
  · exact b5
theorem faces_any (w : World) (wd : Int) (h0 : -9223372036854775808 ≤ wd) (h1 : wd ≤ 9223372036854775807) (x y : Nt) (aX aY : Option Addr) (nX cX nY cY : Nat) (hx : RS 64 sgE w aX nX cX x.signs) (hy : RS 64 sgE w aY nY cY y.signs) (key : Dg) (l : Lv) (aA aB : Option Addr) (nA nB cA cB : Nat) (hl : LvAt w l ⟨aA, nA, cA⟩ ⟨aB, nB, cB⟩) (hn : nA * 32 ≤ 140737488355328 ∧ nB * 32 ≤ 140737488355328) (ht : Tabs w) :
    Calls Tryz.prog 14 #[.int .i64 wd, .agg (ntA x.head (.slice aX nX cX)), .agg (ntA y.head (.slice aY nY cY)), .agg (dgA key.1), .agg (lvA l ⟨aA, nA, cA⟩ ⟨aB, nB, cB⟩)] w (FsRet w (facesP wd x y key l)) := by
  obtain ⟨NA, hNA⟩ : ∃ A, A = ntA x.head (.slice aX nX cX) := ⟨_, rfl⟩
  obtain ⟨NB, hNB⟩ : ∃ A, A = ntA y.head (.slice aY nY cY) := ⟨_, rfl⟩
  obtain ⟨KK, hKK⟩ : ∃ A, A = dgA key.1 := ⟨_, rfl⟩
  obtain ⟨LC, hLC⟩ : ∃ A, A = lvA l ⟨aA, nA, cA⟩ ⟨aB, nB, cB⟩ := ⟨_, rfl⟩
  have HNA := Lib.hid (show NA = ntA x.head (.slice aX nX cX) ∧ NA.size = 99 from ⟨hNA, by rw [hNA]; exact ntA_size _ _⟩)
  have HNB := Lib.hid (show NB = ntA y.head (.slice aY nY cY) ∧ NB.size = 99 from ⟨hNB, by rw [hNB]; exact ntA_size _ _⟩)
  have HKK := Lib.hid (show KK = dgA key.1 ∧ KK.size = 32 from ⟨hKK, by rw [hKK, dgA_size, key.2]⟩)
  have HLC := Lib.hid (show LC = lvA l ⟨aA, nA, cA⟩ ⟨aB, nB, cB⟩ ∧ LC.size = 67 from ⟨hLC, by rw [hLC]; exact lvA_size _ _ _⟩)
  rw [← hNA, ← hNB, ← hKK, ← hLC]
  obtain ⟨eX, heX⟩ : ∃ e : Int, e = ((noteE x : Nat) : Int) := ⟨_, rfl⟩
  obtain ⟨eY, heY⟩ : ∃ e : Int, e = ((noteE y : Nat) : Int) := ⟨_, rfl⟩
  have HE := Lib.hid (And.intro heX heY)
  have HCX := Lib.hid (fun (z : World) (hz : Below w.heap.size w z) => show Calls Tryz.prog 56 #[.agg NA] z (fun e w' => ∃ a n c, e = .returned (.tuple #[.slice a n c, .int .i64 eX]) ∧ Below z.heap.size z w') by
    rw [hNA, heX]
    refine (encN_any z x.head aX nX cX x.signs (hx.below hz)).mono ?_
    rintro e w' ⟨a, n, c, h1, -, h3⟩
    exact ⟨a, n, c, h1, h3⟩)
  have HCY := Lib.hid (fun (z : World) (hz : Below w.heap.size w z) => show Calls Tryz.prog 56 #[.agg NB] z (fun e w' => ∃ a n c, e = .returned (.tuple #[.slice a n c, .int .i64 eY]) ∧ Below z.heap.size z w') by
    rw [hNB, heY]
    refine (encN_any z y.head aY nY cY y.signs (hy.below hz)).mono ?_
    rintro e w' ⟨a, n, c, h1, -, h3⟩
    exact ⟨a, n, c, h1, h3⟩)
  have HSX := Lib.hid (fun (z : World) (hz : Below w.heap.size w z) (hp : 0 < nX) => show Calls Tryz.prog 57 #[.agg NA, .agg KK] z (SgRet z x key) by
    rw [hNA, hKK]; exact signed_any z x aX nX cX (hx.below hz) hp key)
  have HSY := Lib.hid (fun (z : World) (hz : Below w.heap.size w z) (hp : 0 < nY) => show Calls Tryz.prog 57 #[.agg NB, .agg KK] z (SgRet z y key) by
    rw [hNB, hKK]; exact signed_any z y aY nY cY (hy.below hz) hp key)
  have HP := Lib.hid (show (noteE x = 0 → 0 < nX) ∧ (noteE y = 0 → 0 < nY) by
    have e1 := hx.1; have e2 := hy.1
    constructor
    · intro h; unfold noteE at h; split at h
      · split at h
        · cases h
        · omega
      · cases h
    · intro h; unfold noteE at h; split at h
      · split at h
        · cases h
        · omega
      · cases h)
  have HL := Lib.hid hl; have HN := Lib.hid hn; have HT := Lib.hid ht; have HWD := Lib.hid (And.intro h0 h1)
  obtain ⟨Z, hZ⟩ : ∃ Z, Z = (FB zHd nilS zHd nilS 0 0 zDg zDg nilS nilS).toArray := ⟨_, rfl⟩
  have HZ := Lib.hid hZ
  have HZS := Lib.hid (show Z.size = 266 ∧ Z.all (·.oneCell') = true by rw [hZ]; exact ⟨by rw [List.size_toArray, FB_len], FB_one _ _ _ _ _ _ _ _ _ _ rfl rfl rfl rfl⟩)
  have HBZ := Lib.hid (fun (ρ : Operand → Value) (o : Oper) (ho : o.op = .build 35 #[]) (w : World) => show (execOp ρ o).run Tryz.prog w = .ok (.value (.agg Z)) w by rw [hZ]; exact exec_build35 ho w)
  clear hZ
  clear hNA hNB hKK hLC heX heY hx hy hl hn ht h0 h1
  go_enter Tryz.func14, Tryz.ntmps14
  go_upto_region 1 with (fail)
  change Code.wp Tryz.prog _ _ _ (((((w.alloc (.cells NA 28)).alloc (.cells NB 28)).alloc (.cells KK 23)).alloc (.cells LC 31)).alloc o35)
  have hfab := fab_new w NA NB KK LC
  obtain ⟨g6, hg6⟩ : ∃ g, g = w.heap.size := ⟨_, rfl⟩
  obtain ⟨g7, hg7⟩ : ∃ g, g = w.heap.size + 1 := ⟨_, rfl⟩
  obtain ⟨g8, hg8⟩ : ∃ g, g = w.heap.size + 2 := ⟨_, rfl⟩
  obtain ⟨g9, hg9⟩ : ∃ g, g = w.heap.size + 3 := ⟨_, rfl⟩
  obtain ⟨g10, hg10⟩ : ∃ g, g = w.heap.size + 4 := ⟨_, rfl⟩
  have HG := Lib.hid (show (w.heap.size = g6 ∧ g7 = g6 + 1 ∧ g8 = g6 + 2 ∧ g9 = g6 + 3 ∧ g10 = g6 + 4) ∧ True ∧ True ∧ True ∧ w.heap.size ≤ g10 from ⟨by omega, trivial, trivial, trivial, by omega⟩)
  rw [← hg7, ← hg8, ← hg9, ← hg10, ← hg6] at hfab
  have HI1 := Lib.hid hfab
  rw [← hg10, ← hg9, ← hg8, ← hg7, ← hg6]
  clear hg6 hg7 hg8 hg9 hg10 hfab
  generalize ((((w.alloc (.cells NA 28)).alloc (.cells NB 28)).alloc (.cells KK 23)).alloc (.cells LC 31)).alloc o35 = w1 at *
  go_upto_region 2 with (first
    | (refine L_load_arr rfl 28 (.tmp 6) (by rfl) g6 0 (by rfl) NA _ (row_range HI1.out.b6) Tryz.underlying28 rfl (by rw [HNA.out.2]; exact info28) ?_)
    | (go_at_call 56; (with_reducible refine (HCX.out _ HI1.out.hb).mono ?_); rintro e w2 ⟨xa, xn, xc, rfl, hb⟩; have HI2 := Lib.hid (HI1.out.below hb); clear hb))
  go_upto_region 3 with (first
    | (refine L_load_arr rfl 28 (.tmp 7) (by rfl) g7 0 (by rfl) NB _ (row_range HI2.out.b7) Tryz.underlying28 rfl (by rw [HNB.out.2]; exact info28) ?_)
    | (go_at_call 56; (with_reducible refine (HCY.out _ HI2.out.hb).mono ?_); rintro e w3 ⟨ya, yn, yc, rfl, hb⟩; have HI3 := Lib.hid (HI2.out.below hb); clear hb))
  by_cases c1 : eX = 0
  · have HE1 := Lib.hid (show noteE x = 0 by have := HE.out.1; omega)
    subst c1
    by_cases c2 : eY = 0
    · have HE2 := Lib.hid (show noteE y = 0 by have := HE.out.2; omega)
      subst c2
      clear HE HCX HCY
      have HPX := Lib.hid (HP.out.1 HE1.out); have HPY := Lib.hid (HP.out.2 HE2.out)
      obtain ⟨bX, hbX⟩ : ∃ b, b = (onlyP x key).isSome := ⟨_, rfl⟩
      obtain ⟨bY, hbY⟩ : ∃ b, b = (onlyP y key).isSome := ⟨_, rfl⟩
      have HBB := Lib.hid (And.intro hbX hbY)
      have HSX2 := Lib.hid (fun (z : World) (hz : Below w.heap.size w z) => show Calls Tryz.prog 57 #[.agg NA, .agg KK] z (fun e w' => ∃ (t : S3) (G : Array Value), e = .returned (.tuple #[.agg G, .bool bX]) ∧ (G = ntA ((onlyP x key).getD zNt).head t.v ∧ G.size = 99 ∧ G.all (·.oneCell') = true) ∧ w'.ownsRow w.heap.size 63 64 t.v t.n (((onlyP x key).getD zNt).signs.flatMap sgE) ∧ Below z.heap.size z w') by
        refine (HSX.out z hz HPX.out).mono ?_
        rintro e w' ⟨t, h1, h2, h3⟩
        exact ⟨t, _, by rw [hbX]; exact h1, ⟨rfl, ntA_size _ _, ntA_one _ _ rfl⟩, owns_mono h2 hz.size, h3⟩)
      have HSY2 := Lib.hid (fun (z : World) (hz : Below w.heap.size w z) => show Calls Tryz.prog 57 #[.agg NB, .agg KK] z (fun e w' => ∃ (t : S3) (G : Array Value), e = .returned (.tuple #[.agg G, .bool bY]) ∧ (G = ntA ((onlyP y key).getD zNt).head t.v ∧ G.size = 99 ∧ G.all (·.oneCell') = true) ∧ w'.ownsRow w.heap.size 63 64 t.v t.n (((onlyP y key).getD zNt).signs.flatMap sgE) ∧ Below z.heap.size z w') by
        refine (HSY.out z hz HPY.out).mono ?_
        rintro e w' ⟨t, h1, h2, h3⟩
        exact ⟨t, _, by rw [hbY]; exact h1, ⟨rfl, ntA_size _ _, ntA_one _ _ rfl⟩, owns_mono h2 hz.size, h3⟩)
      clear HSX HSY HPX HPY HP hbX hbY
      go_upto_region 6 with (first
    | (refine L_load_arr rfl 28 (.tmp 6) (by rfl) g6 0 (by rfl) NA _ (row_range HI3.out.b6) Tryz.underlying28 rfl (by rw [HNA.out.2]; exact info28) ?_)
    | (refine L_load_arr rfl 23 (.tmp 8) (by rfl) g8 0 (by rfl) KK _ (row_range HI3.out.b8) Tryz.underlying23 rfl (by rw [HKK.out.2]; exact info38) ?_)
    | (go_at_call 57; (with_reducible refine (HSX2.out _ HI3.out.hb).mono ?_); rintro e w4 ⟨t, G, rfl, hG, ho, hb⟩; have HI4 := Lib.hid (HI3.out.below hb); have HGX := Lib.hid hG; have HOX := Lib.hid ho; clear hb hG ho)
    | (refine wpList_store_mid rfl 28 (.tmp 6) (.tmp 40) (by rfl) g6 0 G (by rfl) (by rfl) (by rw [HGX.out.2.1]; exact (HI4.out.there6 99 HNA.out.2)) (by rw [HGX.out.2.1]; exact info28) HGX.out.2.2 ?_))
      have HI5 := Lib.hid (HI4.out.set6 HG.out.1 G (by rw [HGX.out.2.1, HNA.out.2]))
      have HOX5 := Lib.hid (HOX.out.kept (setCells_grown g6 G.toList 0 w4) (.inr (own_ne HOX.out HI4.out.b6 (by decide))))
      generalize w4.setCells g6 0 G.toList = w5 at *
      clear HI4 HOX
      go_upto_region 7 with (first
    | (refine L_load_arr rfl 28 (.tmp 7) (by rfl) g7 0 (by rfl) NB _ (row_range HI5.out.b7) Tryz.underlying28 rfl (by rw [HNB.out.2]; exact info28) ?_)
    | (refine L_load_arr rfl 23 (.tmp 8) (by rfl) g8 0 (by rfl) KK _ (row_range HI5.out.b8) Tryz.underlying23 rfl (by rw [HKK.out.2]; exact info38) ?_)
    | (go_at_call 57; (with_reducible refine (HSY2.out _ HI5.out.hb).mono ?_); rintro e w6 ⟨u, M, rfl, hM, ho, hb⟩; have HI6 := Lib.hid (HI5.out.below hb); have HGY := Lib.hid hM; have HOY := Lib.hid ho; have HOX6 := Lib.hid (own_below HOX5.out hb); clear hb hM ho)
    | (refine wpList_store_mid rfl 28 (.tmp 7) (.tmp 46) (by rfl) g7 0 M (by rfl) (by rfl) (by rw [HGY.out.2.1]; exact (HI6.out.there7 99 HNB.out.2)) (by rw [HGY.out.2.1]; exact info28) HGY.out.2.2 ?_))
      have HI7 := Lib.hid (HI6.out.set7 HG.out.1 M (by rw [HGY.out.2.1, HNB.out.2]))
      have HOX7 := Lib.hid (HOX6.out.kept (setCells_grown g7 M.toList 0 w6) (.inr (own_ne HOX6.out HI6.out.b7 (by decide))))
      have HOY7 := Lib.hid (HOY.out.kept (setCells_grown g7 M.toList 0 w6) (.inr (own_ne HOY.out HI6.out.b7 (by decide))))
      generalize w6.setCells g7 0 M.toList = w7 at *
      clear HI6 HOX6 HOY HI5 HOX5 HSX2 HSY2
      cases hoX : onlyP x key with
      | none =>
        have HV := Lib.hid (show facesP wd x y key l = (zFc, 160) from facesP_160 HE1.out HE2.out (.inl hoX))
        have hb0 : bX = false := by rw [HBB.out.1, hoX]; rfl
        subst hb0
        clear hoX HBB
        go_wp2_with (first
    | (refine L_value rfl (HBZ.out _ _ (by rfl) _) ?_)
    | (refine wpList_store_mid rfl 35 (.tmp 10) (.tmp 54) (by rfl) g10 0 Z (by rfl) (by rfl) (by rw [HZS.out.1]; exact df_there HI7.out.b10) (by rw [HZS.out.1]; exact info35) HZS.out.2 ?_))
        exact bodyPost_ret (v := .tuple #[.agg Z, .int .i64 160]) (results_row_tmp (p := 10) (u := 11) (ty := 35) rfl _ _ g10 35 Z (0, 0) _ rfl (df_fin (w0 := w) Z HZS.out.1 HI7.out.b10 HI7.out.hb HG.out.2.2.2.2).1 Tryz.underlying35 rfl (by rw [HZS.out.1]; exact info35)) rfl (fs_no HV.out (df_fin (w0 := w) Z HZS.out.1 HI7.out.b10 HI7.out.hb HG.out.2.2.2.2).2 HZ.out rfl)
      | some X =>
        cases hoY : onlyP y key with
        | none =>
          have HV := Lib.hid (show facesP wd x y key l = (zFc, 160) from facesP_160 HE1.out HE2.out (.inr hoY))
          have hb0 : bX = true := by rw [HBB.out.1, hoX]; rfl
          have hb1 : bY = false := by rw [HBB.out.2, hoY]; rfl
          subst hb0
          subst hb1
          clear hoX hoY HBB
          go_wp2_with (first
    | (refine L_value rfl (HBZ.out _ _ (by rfl) _) ?_)
    | (refine wpList_store_mid rfl 35 (.tmp 10) (.tmp 54) (by rfl) g10 0 Z (by rfl) (by rfl) (by rw [HZS.out.1]; exact df_there HI7.out.b10) (by rw [HZS.out.1]; exact info35) HZS.out.2 ?_))
          exact bodyPost_ret (v := .tuple #[.agg Z, .int .i64 160]) (results_row_tmp (p := 10) (u := 11) (ty := 35) rfl _ _ g10 35 Z (0, 0) _ rfl (df_fin (w0 := w) Z HZS.out.1 HI7.out.b10 HI7.out.hb HG.out.2.2.2.2).1 Tryz.underlying35 rfl (by rw [HZS.out.1]; exact info35)) rfl (fs_no HV.out (df_fin (w0 := w) Z HZS.out.1 HI7.out.b10 HI7.out.hb HG.out.2.2.2.2).2 HZ.out rfl)
        | some Y =>
          have hb0 : bX = true := by rw [HBB.out.1, hoX]; rfl
          have hb1 : bY = true := by rw [HBB.out.2, hoY]; rfl
          subst hb0
          subst hb1
          have HO2 := Lib.hid (And.intro hoX hoY)
          have HGX2 := Lib.hid (show G = ntA X.head t.v ∧ G.size = 99 ∧ G.all (·.oneCell') = true by have := HGX.out; rw [hoX] at this; exact this)
          have HGY2 := Lib.hid (show M = ntA Y.head u.v ∧ M.size = 99 ∧ M.all (·.oneCell') = true by have := HGY.out; rw [hoY] at this; exact this)
          have HOX8 := Lib.hid (show w7.ownsRow w.heap.size 63 64 t.v t.n (X.signs.flatMap sgE) by have := HOX7.out; rw [hoX] at this; exact this)
          have HOY8 := Lib.hid (show w7.ownsRow w.heap.size 63 64 u.v u.n (Y.signs.flatMap sgE) by have := HOY7.out; rw [hoY] at this; exact this)
          clear hoX hoY HBB HGX HGY HOX7 HOY7
          obtain ⟨lX, hlX⟩ : ∃ D, D = dgA X.head.log.1 := ⟨_, rfl⟩
          obtain ⟨lY, hlY⟩ : ∃ D, D = dgA Y.head.log.1 := ⟨_, rfl⟩
          obtain ⟨dX, hdX⟩ : ∃ D, D = hdA X.head := ⟨_, rfl⟩
          obtain ⟨dY, hdY⟩ : ∃ D, D = hdA Y.head := ⟨_, rfl⟩
          have HLS := Lib.hid (show lX.size = 32 ∧ lY.size = 32 ∧ dX.size = 98 ∧ dY.size = 98 by rw [hlX, hlY, hdX, hdY]; exact ⟨by rw [dgA_size, X.head.log.2], by rw [dgA_size, Y.head.log.2], hdA_size _, hdA_size _⟩)
          have HR7 := Lib.hid (show w7.rangeAt g6 0 lX.toList ∧ w7.rangeAt g7 0 lY.toList ∧ w7.rangeAt g6 0 dX.toList ∧ w7.rangeAt g7 0 dY.toList by
            have q6 := HI7.out.b6
            have q7 := HI7.out.b7
            rw [HGX2.out.1] at q6
            rw [HGY2.out.1] at q7
            rw [hlX, hlY, hdX, hdY]
            exact ⟨nt_log q6, nt_log q7, nt_head q6, nt_head q7⟩)
          obtain ⟨cl, hcl⟩ : ∃ b, b = decide (X.head.log = Y.head.log) := ⟨_, rfl⟩
          obtain ⟨ce, hce⟩ : ∃ b, b = decide (X.head = Y.head) := ⟨_, rfl⟩
          obtain ⟨ca, hca⟩ : ∃ b, b = afterP X.head Y.head := ⟨_, rfl⟩
          have HNE := Lib.hid (fun (z : World) => show (binOp .neq 23 (.agg lX) (.agg lY)).run Tryz.prog z = .ok (.bool (!cl)) z by rw [hlX, hlY, hcl]; exact neqd_dg _ _ _)
          have HEQ := Lib.hid (fun (z : World) => show (binOp .eql 25 (.agg dX) (.agg dY)).run Tryz.prog z = .ok (.bool ce) z by rw [hdX, hdY, hce]; exact eql_hd _ _ _)
          have HAFT := Lib.hid (show Calls Tryz.prog 58 #[.agg dX, .agg dY] w7 (fun e w' => e = .returned (.bool ca) ∧ Below w7.heap.size w7 w') by rw [hdX, hdY, hca]; exact after_any w7 X.head Y.head)
          have HCC := Lib.hid (And.intro hcl (And.intro hce hca))
          clear hlX hlY hdX hdY hcl hce hca
          cases cl with
          | false =>
            have HV := Lib.hid (show facesP wd x y key l = (zFc, 170) from facesP_170 HE1.out HE2.out HO2.out.1 HO2.out.2 (.inl (of_decide_eq_false HCC.out.1.symm)))
            go_wp2_with (first
    | (refine L_load_arr rfl 23 (.tmp 56) (by rfl) g6 0 (by rfl) lX _ HR7.out.1 Tryz.underlying23 rfl (by rw [HLS.out.1]; exact info38) ?_)
    | (refine L_load_arr rfl 23 (.tmp 59) (by rfl) g7 0 (by rfl) lY _ HR7.out.2.1 Tryz.underlying23 rfl (by rw [HLS.out.2.1]; exact info38) ?_)
    | (refine L_binW .neq 23 23 (.tmp 57) (.tmp 60) (by rfl) (.agg lX) (.agg lY) (by rfl) (by rfl) (.bool true) (HNE.out _) (by kernel_rfl) (by rfl) ?_)
    | (refine L_value rfl (HBZ.out _ _ (by rfl) _) ?_)
    | (refine wpList_store_mid rfl 35 (.tmp 10) (.tmp 69) (by rfl) g10 0 Z (by rfl) (by rfl) (by rw [HZS.out.1]; exact df_there HI7.out.b10) (by rw [HZS.out.1]; exact info35) HZS.out.2 ?_))
            exact bodyPost_ret (v := .tuple #[.agg Z, .int .i64 170]) (results_row_tmp (p := 10) (u := 11) (ty := 35) rfl _ _ g10 35 Z (0, 0) _ rfl (df_fin (w0 := w) Z HZS.out.1 HI7.out.b10 HI7.out.hb HG.out.2.2.2.2).1 Tryz.underlying35 rfl (by rw [HZS.out.1]; exact info35)) rfl (fs_no HV.out (df_fin (w0 := w) Z HZS.out.1 HI7.out.b10 HI7.out.hb HG.out.2.2.2.2).2 HZ.out rfl)
          | true =>
            cases ce with
            | true =>
              have HV := Lib.hid (show facesP wd x y key l = (zFc, 170) from facesP_170 HE1.out HE2.out HO2.out.1 HO2.out.2 (.inr (of_decide_eq_true HCC.out.2.1.symm)))
              go_wp2_with (first
    | (refine L_load_arr rfl 23 (.tmp 56) (by rfl) g6 0 (by rfl) lX _ HR7.out.1 Tryz.underlying23 rfl (by rw [HLS.out.1]; exact info38) ?_)
    | (refine L_load_arr rfl 23 (.tmp 59) (by rfl) g7 0 (by rfl) lY _ HR7.out.2.1 Tryz.underlying23 rfl (by rw [HLS.out.2.1]; exact info38) ?_)
    | (refine L_binW .neq 23 23 (.tmp 57) (.tmp 60) (by rfl) (.agg lX) (.agg lY) (by rfl) (by rfl) (.bool false) (HNE.out _) (by kernel_rfl) (by rfl) ?_)
    | (refine L_load_arrW 25 (.tmp 63) (by rfl) g6 0 (by rfl) dX _ HR7.out.2.2.1 Tryz.underlying25 rfl (by rw [HLS.out.2.2.1]; exact info25) (by rfl) ?_)
    | (refine L_load_arrW 25 (.tmp 65) (by rfl) g7 0 (by rfl) dY _ HR7.out.2.2.2 Tryz.underlying25 rfl (by rw [HLS.out.2.2.2]; exact info25) (by rfl) ?_)
    | (refine L_binW .eql 25 25 (.tmp 64) (.tmp 66) (by rfl) (.agg dX) (.agg dY) (by rfl) (by rfl) (.bool true) (HEQ.out _) (by kernel_rfl) (by rfl) ?_)
    | (refine L_value rfl (HBZ.out _ _ (by rfl) _) ?_)
    | (refine wpList_store_mid rfl 35 (.tmp 10) (.tmp 69) (by rfl) g10 0 Z (by rfl) (by rfl) (by rw [HZS.out.1]; exact df_there HI7.out.b10) (by rw [HZS.out.1]; exact info35) HZS.out.2 ?_))
              exact bodyPost_ret (v := .tuple #[.agg Z, .int .i64 170]) (results_row_tmp (p := 10) (u := 11) (ty := 35) rfl _ _ g10 35 Z (0, 0) _ rfl (df_fin (w0 := w) Z HZS.out.1 HI7.out.b10 HI7.out.hb HG.out.2.2.2.2).1 Tryz.underlying35 rfl (by rw [HZS.out.1]; exact info35)) rfl (fs_no HV.out (df_fin (w0 := w) Z HZS.out.1 HI7.out.b10 HI7.out.hb HG.out.2.2.2.2).2 HZ.out rfl)
            | false =>
              have HV := Lib.hid (facesP_in (wd := wd) (l := l) HE1.out HE2.out HO2.out.1 HO2.out.2 (fun h => by
                rcases h with h | h
                · exact h (of_decide_eq_true HCC.out.1.symm)
                · exact (of_decide_eq_false HCC.out.2.1.symm) h))
              go_upto_region 11 with (first
    | (refine L_load_arr rfl 23 (.tmp 56) (by rfl) g6 0 (by rfl) lX _ HR7.out.1 Tryz.underlying23 rfl (by rw [HLS.out.1]; exact info38) ?_)
    | (refine L_load_arr rfl 23 (.tmp 59) (by rfl) g7 0 (by rfl) lY _ HR7.out.2.1 Tryz.underlying23 rfl (by rw [HLS.out.2.1]; exact info38) ?_)
    | (refine L_binW .neq 23 23 (.tmp 57) (.tmp 60) (by rfl) (.agg lX) (.agg lY) (by rfl) (by rfl) (.bool false) (HNE.out _) (by kernel_rfl) (by rfl) ?_)
    | (refine L_load_arrW 25 (.tmp 63) (by rfl) g6 0 (by rfl) dX _ HR7.out.2.2.1 Tryz.underlying25 rfl (by rw [HLS.out.2.2.1]; exact info25) (by rfl) ?_)
    | (refine L_load_arrW 25 (.tmp 65) (by rfl) g7 0 (by rfl) dY _ HR7.out.2.2.2 Tryz.underlying25 rfl (by rw [HLS.out.2.2.2]; exact info25) (by rfl) ?_)
    | (refine L_binW .eql 25 25 (.tmp 64) (.tmp 66) (by rfl) (.agg dX) (.agg dY) (by rfl) (by rfl) (.bool false) (HEQ.out _) (by kernel_rfl) (by rfl) ?_))
              rename_i K8 hK8 Kc hKc
              have HK8 := Lib.hid (fun (a : Act) (z : World) (h : Code.wp Tryz.prog (dropSeq 8 fa0) (bodyPost Tryz.prog Tryz.f14 (FsRet w (facesP wd x y key l))) a z) => hK8 a z h)
              clear hK8
              rw [← HCC.out.2.2] at HV
              clear HNE HEQ
              cases ca with
              | false =>
                go_wp2_with (first
    | (refine L_load_arr rfl 25 (.tmp 70) (by rfl) g6 0 (by rfl) dX _ HR7.out.2.2.1 Tryz.underlying25 rfl (by rw [HLS.out.2.2.1]; exact info25) ?_)
    | (refine L_load_arr rfl 25 (.tmp 72) (by rfl) g7 0 (by rfl) dY _ HR7.out.2.2.2 Tryz.underlying25 rfl (by rw [HLS.out.2.2.2]; exact info25) ?_)
    | (go_at_call 58; (with_reducible refine HAFT.out.mono ?_); rintro e w8 ⟨rfl, hb⟩; have HI8 := Lib.hid (HI7.out.below hb); have HX8 := Lib.hid hb; clear hb))
                change K8 _ _
                refine HK8.out _ _ ?_
                rw [HV.out]
                exact fa_mid w w8 HI8.out.hb wd HWD.out.1 HWD.out.2 X Y l aA aB nA nB cA cB HL.out HN.out HT.out g6 g7 g9 g10 t u (by rw [← HGX2.out.1]; exact HI8.out.b6) (by rw [← HGY2.out.1]; exact HI8.out.b7) (by rw [← HLC.out.1]; exact HI8.out.b9) HI8.out.b10 HG.out.2.2.2.2 (own_below HOX8.out HX8.out) (own_below HOY8.out HX8.out) ⟨onlyP_len HO2.out.1, onlyP_len HO2.out.2⟩ _ _ _ _ _ _ _ _ _ _ _ _ _ _ _ _ _ _ _ _ _ _ _ _ _ _ _ _ _ _ _ _ _ _ _ _ _ _ _ _ _ _ _ _ _ _ _ _ _ _ _ _ _ _ _ _ _ _ _ _ _ _ _ _ _ _ _ _ _ _ _ _ _ _ _ _ _ _ _ _ _ _ _ _ _ _ _ _ _ _ _ _ _ _ _ _ _ _ _ _ _ _ _ _ _ _ _ _ _ _ _ _ _ _ _ _ _ _ _ _ _ _
              | true =>
                go_upto_region 12 with (first
    | (refine L_load_arr rfl 25 (.tmp 70) (by rfl) g6 0 (by rfl) dX _ HR7.out.2.2.1 Tryz.underlying25 rfl (by rw [HLS.out.2.2.1]; exact info25) ?_)
    | (refine L_load_arr rfl 25 (.tmp 72) (by rfl) g7 0 (by rfl) dY _ HR7.out.2.2.2 Tryz.underlying25 rfl (by rw [HLS.out.2.2.2]; exact info25) ?_)
    | (go_at_call 58; (with_reducible refine HAFT.out.mono ?_); rintro e w8 ⟨rfl, hb⟩; have HI8 := Lib.hid (HI7.out.below hb); have HX8 := Lib.hid hb; clear hb))
                have HI9 := Lib.hid (HI8.out.set6 HG.out.1 M (by rw [HGY2.out.2.1, HGX2.out.2.1]))
                have HI10 := Lib.hid (HI9.out.set7 HG.out.1 G (by rw [HGY2.out.2.1, HGX2.out.2.1]))
                have HOX9 := Lib.hid ((own_below HOX8.out HX8.out).kept (setCells_grown g6 M.toList 0 w8) (.inr (own_ne (own_below HOX8.out HX8.out) HI8.out.b6 (by decide))))
                have HOY9 := Lib.hid ((own_below HOY8.out HX8.out).kept (setCells_grown g6 M.toList 0 w8) (.inr (own_ne (own_below HOY8.out HX8.out) HI8.out.b6 (by decide))))
                have HOX10 := Lib.hid (HOX9.out.kept (setCells_grown g7 G.toList 0 (w8.setCells g6 0 M.toList)) (.inr (own_ne HOX9.out HI9.out.b7 (by decide))))
                have HOY10 := Lib.hid (HOY9.out.kept (setCells_grown g7 G.toList 0 (w8.setCells g6 0 M.toList)) (.inr (own_ne HOY9.out HI9.out.b7 (by decide))))
                go_upto_region 13 with (first
    | (refine L_load_arr rfl 28 (.tmp 7) (by rfl) g7 0 (by rfl) M _ (row_range HI8.out.b7) Tryz.underlying28 rfl (by rw [HGY2.out.2.1]; exact info28) ?_)
    | (refine L_load_arr rfl 28 (.tmp 6) (by rfl) g6 0 (by rfl) G _ (row_range HI8.out.b6) Tryz.underlying28 rfl (by rw [HGX2.out.2.1]; exact info28) ?_)
    | (refine wpList_store_mid rfl 28 (.tmp 6) (.tmp 75) (by rfl) g6 0 M (by rfl) (by rfl) (by rw [HGY2.out.2.1]; exact (HI8.out.there6 99 HGX2.out.2.1)) (by rw [HGY2.out.2.1]; exact info28) HGY2.out.2.2 ?_)
    | (refine wpList_store_mid rfl 28 (.tmp 7) (.tmp 76) (by rfl) g7 0 G (by rfl) (by rfl) (by rw [HGX2.out.2.1]; exact (HI9.out.there7 99 HGY2.out.2.1)) (by rw [HGX2.out.2.1]; exact info28) HGX2.out.2.2 ?_))
                generalize (w8.setCells g6 0 M.toList).setCells g7 0 G.toList = w10 at *
                obtain ⟨DA, hDA⟩ : ∃ A, A = dgA l.a.1 := ⟨_, rfl⟩
                obtain ⟨DB, hDB⟩ : ∃ A, A = dgA l.b.1 := ⟨_, rfl⟩
                obtain ⟨nu, hnu⟩ : ∃ x, x = l.number := ⟨_, rfl⟩
                obtain ⟨LX, hLX⟩ : ∃ A, A = lvA ⟨l.number, l.b, l.a, l.wayB, l.wayA⟩ ⟨aB, nB, cB⟩ ⟨aA, nA, cA⟩ := ⟨_, rfl⟩
                have HLX := Lib.hid (show LX = lvA ⟨l.number, l.b, l.a, l.wayB, l.wayA⟩ ⟨aB, nB, cB⟩ ⟨aA, nA, cA⟩ ∧ LX.size = 67 ∧ LX.all (·.oneCell') = true by rw [hLX]; exact ⟨rfl, lvA_size _ _ _, lvA_one _ _ _⟩)
                have HDA := Lib.hid (show DA.size = 32 ∧ DA.toList = dgE l.a by rw [hDA]; exact ⟨by rw [dgA_size, l.a.2], rfl⟩)
                have HDB := Lib.hid (show DB.size = 32 ∧ DB.toList = dgE l.b by rw [hDB]; exact ⟨by rw [dgA_size, l.b.2], rfl⟩)
                have HBL := Lib.hid (fun (ρ : Operand → Value) (o : Oper) (c d e x y : Operand) (ho : o.op = .build 31 #[(0, c), (1, d), (2, e), (3, x), (4, y)]) (hc : ρ c = .int .i64 nu) (hd : ρ d = .agg DB) (he : ρ e = .agg DA) (hx : ρ x = .slice aB nB cB) (hy : ρ y = .slice aA nA cA) (w : World) => show (execOp ρ o).run Tryz.prog w = .ok (.value (.agg LX)) w by rw [hLX]; rw [hnu] at hc; exact exec_build31p ho hc hd he hx hy hDB hDA w)
                have q9 : w10.heap[g9]? = some (.cells (LB l.number l.a l.b (.slice aA nA cA) (.slice aB nB cB)).toArray 31 (0, 0)) := by have := HI10.out.b9; rw [HLC.out.1] at this; exact this
                have k0 : w10.cell? ⟨g9, 0, none⟩ = some (.int .i64 nu) := by rw [hnu]; exact LB.c_nu q9
                have k65 : w10.cell? ⟨g9, 65, none⟩ = some (.slice aA nA cA) := LB.c_wA q9
                have k66 : w10.cell? ⟨g9, 66, none⟩ = some (.slice aB nB cB) := LB.c_wB q9
                have HRB := Lib.hid (show w10.rangeAt g9 33 DB.toList by rw [HDB.out.2]; exact LB.r_lb q9)
                have HRA := Lib.hid (show w10.rangeAt g9 1 DA.toList by rw [HDA.out.2]; exact LB.r_la q9)
                have HI11 := Lib.hid (HI10.out.set9 HG.out.1 LX (by rw [HLX.out.2.1, HLC.out.2]))
                have HOX11 := Lib.hid (HOX10.out.kept (setCells_grown g9 LX.toList 0 w10) (.inr (own_ne HOX10.out HI10.out.b9 (by decide))))
                have HOY11 := Lib.hid (HOY10.out.kept (setCells_grown g9 LX.toList 0 w10) (.inr (own_ne HOY10.out HI10.out.b9 (by decide))))
                clear q9 hDA hDB hnu hLX
                go_wp2_with (first
    | (refine L_load_arr rfl 23 (.tmp 79) (by rfl) g9 33 (by rfl) DB _ HRB.out Tryz.underlying23 rfl (by rw [HDB.out.1]; exact info38) ?_)
    | (refine L_load_arr rfl 23 (.tmp 81) (by rfl) g9 1 (by rfl) DA _ HRA.out Tryz.underlying23 rfl (by rw [HDA.out.1]; exact info38) ?_)
    | (refine L_value rfl (HBL.out _ _ (.tmp 78) (.tmp 80) (.tmp 82) (.tmp 84) (.tmp 86) (by rfl) (by rfl) (by rfl) (by rfl) (by rfl) (by rfl) _) ?_)
    | (refine wpList_store_mid rfl 31 (.tmp 9) (.tmp 87) (by rfl) g9 0 LX (by rfl) (by rfl) (by rw [HLX.out.2.1]; exact (HI10.out.there9 67 HLC.out.2)) (by rw [HLX.out.2.1]; exact info31) HLX.out.2.2 ?_))
                change K8 _ _
                refine HK8.out _ _ ?_
                rw [HV.out]
                exact fa_mid w _ HI11.out.hb wd HWD.out.1 HWD.out.2 Y X ⟨l.number, l.b, l.a, l.wayB, l.wayA⟩ aB aA nB nA cB cA ⟨HL.out.wb, HL.out.wa⟩ ⟨HN.out.2, HN.out.1⟩ HT.out g6 g7 g9 g10 u t (by rw [← HGY2.out.1]; exact HI11.out.b6) (by rw [← HGX2.out.1]; exact HI11.out.b7) (by rw [← HLX.out.1]; exact HI11.out.b9) HI11.out.b10 HG.out.2.2.2.2 HOY11.out HOX11.out ⟨onlyP_len HO2.out.2, onlyP_len HO2.out.1⟩ _ _ _ _ _ _ _ _ _ _ _ _ _ _ _ _ _ _ _ _ _ _ _ _ _ _ _ _ _ _ _ _ _ _ _ _ _ _ _ _ _ _ _ _ _ _ _ _ _ _ _ _ _ _ _ _ _ _ _ _ _ _ _ _ _ _ _ _ _ _ _ _ _ _ _ _ _ _ _ _ _ _ _ _ _ _ _ _ _ _ _ _ _ _ _ _ _ _ _ _ _ _ _ _ _ _ _ _ _ _ _ _ _ _ _ _ _ _ _ _ _ _
    · have HE2 := Lib.hid (show facesP wd x y key l = (zFc, 8) from facesP_8 (.inr (by have := HE.out.2; omega)))
      have d1 : (eY == 0) = false := by rw [beq_eq_false_iff_ne]; exact c2
      have d1n : (eY != 0) = true := by rw [bne_iff_ne]; exact c2
      go_wp2_with (first
    | (refine L_value rfl (HBZ.out _ _ (by rfl) _) ?_)
    | (refine wpList_store_mid rfl 35 (.tmp 10) (.tmp 35) (by rfl) g10 0 Z (by rfl) (by rfl) (by rw [HZS.out.1]; exact df_there HI3.out.b10) (by rw [HZS.out.1]; exact info35) HZS.out.2 ?_))
      exact bodyPost_ret (v := .tuple #[.agg Z, .int .i64 8]) (results_row_tmp (p := 10) (u := 11) (ty := 35) rfl _ _ g10 35 Z (0, 0) _ rfl (df_fin (w0 := w) Z HZS.out.1 HI3.out.b10 HI3.out.hb HG.out.2.2.2.2).1 Tryz.underlying35 rfl (by rw [HZS.out.1]; exact info35)) rfl (fs_no HE2.out (df_fin (w0 := w) Z HZS.out.1 HI3.out.b10 HI3.out.hb HG.out.2.2.2.2).2 HZ.out rfl)
  · have HE2 := Lib.hid (show facesP wd x y key l = (zFc, 8) from facesP_8 (.inl (by have := HE.out.1; omega)))
    have d1 : (eX == 0) = false := by rw [beq_eq_false_iff_ne]; exact c1
    have d1n : (eX != 0) = true := by rw [bne_iff_ne]; exact c1
    go_wp2_with (first
    | (refine L_value rfl (HBZ.out _ _ (by rfl) _) ?_)
    | (refine wpList_store_mid rfl 35 (.tmp 10) (.tmp 35) (by rfl) g10 0 Z (by rfl) (by rfl) (by rw [HZS.out.1]; exact df_there HI3.out.b10) (by rw [HZS.out.1]; exact info35) HZS.out.2 ?_))
    exact bodyPost_ret (v := .tuple #[.agg Z, .int .i64 8]) (results_row_tmp (p := 10) (u := 11) (ty := 35) rfl _ _ g10 35 Z (0, 0) _ rfl (df_fin (w0 := w) Z HZS.out.1 HI3.out.b10 HI3.out.hb HG.out.2.2.2.2).1 Tryz.underlying35 rfl (by rw [HZS.out.1]; exact info35)) rfl (fs_no HE2.out (df_fin (w0 := w) Z HZS.out.1 HI3.out.b10 HI3.out.hb HG.out.2.2.2.2).2 HZ.out rfl)
end Go.Proofs.YtoboabkaojfbaaaGreatDoor
