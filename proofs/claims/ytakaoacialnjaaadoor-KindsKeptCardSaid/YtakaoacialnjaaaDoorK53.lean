import Derived.Test.YtakaoacialnjaaaDoorK50
namespace Go.Proofs.YtakaoacialnjaaaDoor
open Go Go.RowKit
set_option linter.unusedVariables false
set_option linter.unusedSimpArgs false
theorem below_chain {B g : Nat} {a : World} (hg : B ≤ g) : ∀ (vs : List Value) (w : World) (o : Nat), Below B a w → Below B a (setChain w g o vs)
  | [], _, _, h => h
  | v :: t, w, o, h => below_chain hg t _ _ (h.setCell (p := ⟨g, o, none⟩) hg v)
theorem two_new (w : World) (X Y : Array Value) (t : TypeId) : ∃ w2, w2 = (w.alloc (.cells X t)).alloc (.cells Y t) ∧ w2.heap[w.heap.size]? = some (.cells X t (0, 0)) ∧ w2.heap[w.heap.size + 1]? = some (.cells Y t (0, 0)) ∧ Below w.heap.size w w2 ∧ w.heap.size + 1 < w2.heap.size := by
  refine ⟨_, rfl, ?_, ?_, ((Below.refl _ _).alloc (Nat.le_refl _) _).alloc (by simp) _, by simp⟩
  · rw [Below.heap_alloc _ _ _ (by simp)]; exact heap_alloc_new w _
  · have := heap_alloc_new (w.alloc (.cells X t)) (.cells Y t)
    rwa [World.size_alloc] at this
def valV (vk vn : Int) (vt : ByteArray) (sa : Option Addr) (sl sc : Nat) : Array Value := #[.int .i64 vk, .int .i64 vn, .string vt, .slice sa sl sc]
set_option maxRecDepth 100000 in
set_option maxHeartbeats 4000000 in
theorem samevalue_any (w : World) (vk vn : Int) (vt : ByteArray) (sl : Nat) (ss : List ByteArray) (sa : Option Addr) (sc : Nat) (h1 : RS 1 Sv w sa sl sc ss) (sb : Option Addr) (sd : Nat) (h2 : RS 1 Sv w sb sl sd ss) :
    Calls Tryd.prog 57 #[.agg #[.int .i64 vk, .int .i64 vn, .string vt, .slice sa sl sc], .agg #[.int .i64 vk, .int .i64 vn, .string vt, .slice sb sl sd]] w fun e w' => e = .returned (.bool true) ∧ Below w.heap.size w w' := by
  obtain ⟨w2, hw2, g0, g1, hb, hz⟩ := two_new w #[.int .i64 vk, .int .i64 vn, .string vt, .slice sa sl sc] #[.int .i64 vk, .int .i64 vn, .string vt, .slice sb sl sd] 47
  have HW := Lib.hid hw2.symm
  have H1 := Lib.hid (h1.below hb)
  have H2 := Lib.hid (h2.below hb)
  have HB := Lib.hid hb
  have a0 := cell_of_row w2 _ 0 _ _ _ g0
  have a1 := cell_of_row w2 _ 1 _ _ _ g0
  have a2 := cell_of_row w2 _ 2 _ _ _ g0
  have a3 := cell_of_row w2 _ 3 _ _ _ g0
  have b0 := cell_of_row w2 _ 0 _ _ _ g1
  have b1 := cell_of_row w2 _ 1 _ _ _ g1
  have b2 := cell_of_row w2 _ 2 _ _ _ g1
  have b3 := cell_of_row w2 _ 3 _ _ _ g1
  simp only [List.getElem?_toArray, List.getElem?_cons_zero, List.getElem?_cons_succ] at a0 a1 a2 a3 b0 b1 b2 b3
  clear hw2 g0 g1 hb h1 h2
  go_enter Tryd.func57, Tryd.ntmps57
  go_upto_region 1 with (fail)
  rw [HW.out]
  go_wp2_with (go_at_call 59; refine (same_S w2 sa sl sc ss H1.out sb sd H2.out).mono ?_; rintro e w3 ⟨rfl, hb3⟩)
  go_ret
  exact ⟨rfl, HB.out.trans (hb3.mono (by omega))⟩
/-- Two nodes with the same parts, wherever their lists lie. -/
def SameNd (w : World) (u nd : Nd) : Prop := u.op = nd.op ∧ u.nm = nd.nm ∧ u.vk = nd.vk ∧ u.vn = nd.vn ∧ u.vt = nd.vt ∧ u.sl = nd.sl ∧ u.kl = nd.kl ∧ u.ks = nd.ks ∧ RS 1 Iv w u.ka u.kl u.kc u.ks ∧ RS 1 Iv w nd.ka nd.kl nd.kc nd.ks ∧
  ∃ ss, RS 1 Sv w u.sa u.sl u.sc ss ∧ RS 1 Sv w nd.sa nd.sl nd.sc ss
theorem SameNd.below {w w' : World} {u nd : Nd} (h : SameNd w u nd) (hb : Below w.heap.size w w') : SameNd w' u nd := by
  obtain ⟨h1, h2, h3, h4, h5, h6, h7, h8, h9, h10, ss, h11, h12⟩ := h
  exact ⟨h1, h2, h3, h4, h5, h6, h7, h8, h9.below hb, h10.below hb, ss, h11.below hb, h12.below hb⟩
set_option maxRecDepth 100000 in
set_option maxHeartbeats 4000000 in
theorem samenode_any (w : World) (op : Int) (nm : ByteArray) (vk vn : Int) (vt : ByteArray) (sl kl : Nat) (ss : List ByteArray) (ks : List Int) (sa : Option Addr) (sc : Nat) (h1 : RS 1 Sv w sa sl sc ss) (ka : Option Addr) (kc : Nat) (k1 : RS 1 Iv w ka kl kc ks)
    (sb : Option Addr) (sd : Nat) (h2 : RS 1 Sv w sb sl sd ss) (kb : Option Addr) (kd : Nat) (k2 : RS 1 Iv w kb kl kd ks) :
    Calls Tryd.prog 42 #[.agg #[.int .i64 op, .string nm, .int .i64 vk, .int .i64 vn, .string vt, .slice sa sl sc, .slice ka kl kc], .agg #[.int .i64 op, .string nm, .int .i64 vk, .int .i64 vn, .string vt, .slice sb sl sd, .slice kb kl kd]] w fun e w' => e = .returned (.bool true) ∧ Below w.heap.size w w' := by
  obtain ⟨w2, hw2, g0, g1, hb, hz⟩ := two_new w #[.int .i64 op, .string nm, .int .i64 vk, .int .i64 vn, .string vt, .slice sa sl sc, .slice ka kl kc] #[.int .i64 op, .string nm, .int .i64 vk, .int .i64 vn, .string vt, .slice sb sl sd, .slice kb kl kd] 49
  have HW := Lib.hid hw2.symm
  have H1 := Lib.hid (h1.below hb)
  have H2 := Lib.hid (h2.below hb)
  have K1 := Lib.hid (k1.below hb)
  have K2 := Lib.hid (k2.below hb)
  have HB := Lib.hid hb
  have a0 := cell_of_row w2 _ 0 _ _ _ g0
  have a1 := cell_of_row w2 _ 1 _ _ _ g0
  have a2 := cell_of_row w2 _ 2 _ _ _ g0
  have a3 := cell_of_row w2 _ 3 _ _ _ g0
  have a4 := cell_of_row w2 _ 4 _ _ _ g0
  have a5 := cell_of_row w2 _ 5 _ _ _ g0
  have a6 := cell_of_row w2 _ 6 _ _ _ g0
  have b0 := cell_of_row w2 _ 0 _ _ _ g1
  have b1 := cell_of_row w2 _ 1 _ _ _ g1
  have b2 := cell_of_row w2 _ 2 _ _ _ g1
  have b3 := cell_of_row w2 _ 3 _ _ _ g1
  have b4 := cell_of_row w2 _ 4 _ _ _ g1
  have b5 := cell_of_row w2 _ 5 _ _ _ g1
  have b6 := cell_of_row w2 _ 6 _ _ _ g1
  simp only [List.getElem?_toArray, List.getElem?_cons_zero, List.getElem?_cons_succ] at a0 a1 a2 a3 a4 a5 a6 b0 b1 b2 b3 b4 b5 b6
  clear hw2 g0 g1 hb h1 h2 k1 k2
  go_enter Tryd.func42, Tryd.ntmps42
  go_upto_region 1 with (fail)
  rw [HW.out]
  go_wp2_with (first
    | (go_at_call 57; refine (samevalue_any w2 vk vn vt sl ss sa sc H1.out sb sd H2.out).mono ?_; rintro e w3 ⟨rfl, hb3⟩; have a6' := keepg hb3 a6; have b6' := keepg hb3 b6)
    | (go_at_call 58; refine (same_I w3 ka kl kc ks (K1.out.below hb3) kb kd (K2.out.below hb3)).mono ?_; rintro e w4 ⟨rfl, hb4⟩))
  go_ret
  exact ⟨rfl, HB.out.trans ((hb3.trans (hb4.mono hb3.size)).mono (by omega))⟩
theorem samenode_any' (w : World) (u nd : Nd) (h : SameNd w u nd) : Calls Tryd.prog 42 #[.agg #[.int .i64 u.op, .string u.nm, .int .i64 u.vk, .int .i64 u.vn, .string u.vt, .slice u.sa u.sl u.sc, .slice u.ka u.kl u.kc], .agg #[.int .i64 nd.op, .string nd.nm, .int .i64 nd.vk, .int .i64 nd.vn, .string nd.vt, .slice nd.sa nd.sl nd.sc, .slice nd.ka nd.kl nd.kc]] w fun e w' => e = .returned (.bool true) ∧ Below w.heap.size w w' := by
  obtain ⟨op, nm, vk, vn, vt, sa, sl, sc, ka, kl, kc, ks⟩ := u
  obtain ⟨op', nm', vk', vn', vt', sb, sl', sd, kb, kl', kd, ks'⟩ := nd
  obtain ⟨h1, h2, h3, h4, h5, h6, h7, h8, h9, h10, ss, h11, h12⟩ := h
  dsimp only at h1 h2 h3 h4 h5 h6 h7 h8 h9 h10 h11 h12
  subst h1 h2 h3 h4 h5 h6 h7 h8
  exact samenode_any w op nm vk vn vt sl kl ss ks sa sc h11 ka kc h9 sb sd h12 kb kd h10
def markNd : Nd := ⟨-77, ByteArray.empty, 0, 0, ByteArray.empty, none, 0, 0, none, 0, 0, []⟩
set_option maxRecDepth 100000 in
set_option maxHeartbeats 4000000 in
theorem nodemark_any (w : World) : Calls Tryd.prog 36 #[] w fun e w' => e = .returned (.agg #[.int .i64 (-77), .string ByteArray.empty, .int .i64 0, .int .i64 0, .string ByteArray.empty, .slice none 0 0, .slice none 0 0]) ∧ Below w.heap.size w w' := by
  go_enter Tryd.func36, Tryd.ntmps36
  go_wp2
  refine bodyPost_ret (v := .agg #[.int .i64 (-77), .string ByteArray.empty, .int .i64 0, .int .i64 0, .string ByteArray.empty, .slice none 0 0, .slice none 0 0]) (by simp [results, Tryd.results36, go_sem]; rfl) rfl ⟨rfl, ?_⟩
  exact (Below.refl _ _).alloc (Nat.le_refl _) _
end Go.Proofs.YtakaoacialnjaaaDoor
namespace Go.Proofs.YtakaoacialnjaaaDoor
open Go Go.RowKit
set_option linter.unusedVariables false
set_option linter.unusedSimpArgs false
set_option maxRecDepth 100000 in
set_option maxHeartbeats 4000000 in
theorem alikeN_any (w : World) (a : Option Addr) (n c : Nat) (us : List Nd) (hx : RS 7 Nd.cs w a n c us) (b : Option Addr) (d : Nat) (ns : List Nd) (hy : RS 7 Nd.cs w b n d ns) (hs : ∀ (i : Nat) (u nd : Nd), us[i]? = some u → ns[i]? = some nd → SameNd w u nd) :
    Calls Tryd.prog 41 #[.slice a n c, .slice b n d, .func (.func 42) #[] #[]] w fun e w' => e = .returned (.bool true) ∧ Below w.heap.size w w' := by
  have hn48 := hx.2.2.1
  have HX := Lib.hid hx
  have HY := Lib.hid hy
  have HS := Lib.hid hs
  clear hx hy hs
  go_enter Tryd.func41, Tryd.ntmps41
  go_wp2_with fail
  go_loopw [7] (fun i wr => ∃ k : Nat, k ≤ n ∧ i = .int .i64 k ∧ Below w.heap.size w wr) (fun i _ => n - (intOf i).toNat)
  case atStart => exact ⟨0, by omega, rfl, Below.refl _ _⟩
  case round =>
    obtain ⟨k, hk, rfl, hb⟩ := hrel
    have HB := Lib.hid hb
    clear hb
    by_cases hlt : k < n
    · obtain ⟨xa, xo, u, rfl, hu, hcx⟩ := HX.out.at hlt
      obtain ⟨ya, yo, nd, rfl, hnd, hcy⟩ := HY.out.at hlt
      have HSN := Lib.hid ((HS.out k u nd hu hnd).below (HB.out))
      have x0 := (HB.out.cell (p := ⟨xa, xo + k * 7 + 0, none⟩) (block_lt_of_cell (hcx 0 _ rfl))).trans (hcx 0 _ rfl)
      have x1 := (HB.out.cell (p := ⟨xa, xo + k * 7 + 1, none⟩) (block_lt_of_cell (hcx 1 _ rfl))).trans (hcx 1 _ rfl)
      have x2 := (HB.out.cell (p := ⟨xa, xo + k * 7 + 2, none⟩) (block_lt_of_cell (hcx 2 _ rfl))).trans (hcx 2 _ rfl)
      have x3 := (HB.out.cell (p := ⟨xa, xo + k * 7 + 3, none⟩) (block_lt_of_cell (hcx 3 _ rfl))).trans (hcx 3 _ rfl)
      have x4 := (HB.out.cell (p := ⟨xa, xo + k * 7 + 4, none⟩) (block_lt_of_cell (hcx 4 _ rfl))).trans (hcx 4 _ rfl)
      have x5 := (HB.out.cell (p := ⟨xa, xo + k * 7 + 5, none⟩) (block_lt_of_cell (hcx 5 _ rfl))).trans (hcx 5 _ rfl)
      have x6 := (HB.out.cell (p := ⟨xa, xo + k * 7 + 6, none⟩) (block_lt_of_cell (hcx 6 _ rfl))).trans (hcx 6 _ rfl)
      have y0 := (HB.out.cell (p := ⟨ya, yo + k * 7 + 0, none⟩) (block_lt_of_cell (hcy 0 _ rfl))).trans (hcy 0 _ rfl)
      have y1 := (HB.out.cell (p := ⟨ya, yo + k * 7 + 1, none⟩) (block_lt_of_cell (hcy 1 _ rfl))).trans (hcy 1 _ rfl)
      have y2 := (HB.out.cell (p := ⟨ya, yo + k * 7 + 2, none⟩) (block_lt_of_cell (hcy 2 _ rfl))).trans (hcy 2 _ rfl)
      have y3 := (HB.out.cell (p := ⟨ya, yo + k * 7 + 3, none⟩) (block_lt_of_cell (hcy 3 _ rfl))).trans (hcy 3 _ rfl)
      have y4 := (HB.out.cell (p := ⟨ya, yo + k * 7 + 4, none⟩) (block_lt_of_cell (hcy 4 _ rfl))).trans (hcy 4 _ rfl)
      have y5 := (HB.out.cell (p := ⟨ya, yo + k * 7 + 5, none⟩) (block_lt_of_cell (hcy 5 _ rfl))).trans (hcy 5 _ rfl)
      have y6 := (HB.out.cell (p := ⟨ya, yo + k * 7 + 6, none⟩) (block_lt_of_cell (hcy 6 _ rfl))).trans (hcy 6 _ rfl)
      simp only [Nat.add_zero] at x0 y0
      have hltI : (k : Int) < (n : Int) := by omega
      clear hcx hcy hu hnd
      go_wp2_with fail
      go_region_held3 (fun w' => w'.cell? ⟨xa, xo + k * 7, none⟩ = some (.int .i64 u.op) ∧ w'.cell? ⟨xa, xo + k * 7 + 1, none⟩ = some (.string u.nm) ∧ w'.cell? ⟨xa, xo + k * 7 + 2, none⟩ = some (.int .i64 u.vk) ∧ w'.cell? ⟨xa, xo + k * 7 + 3, none⟩ = some (.int .i64 u.vn) ∧ w'.cell? ⟨xa, xo + k * 7 + 4, none⟩ = some (.string u.vt) ∧ w'.cell? ⟨xa, xo + k * 7 + 5, none⟩ = some (.slice u.sa u.sl u.sc) ∧ w'.cell? ⟨xa, xo + k * 7 + 6, none⟩ = some (.slice u.ka u.kl u.kc) ∧ w'.cell? ⟨ya, yo + k * 7, none⟩ = some (.int .i64 nd.op) ∧ w'.cell? ⟨ya, yo + k * 7 + 1, none⟩ = some (.string nd.nm) ∧ w'.cell? ⟨ya, yo + k * 7 + 2, none⟩ = some (.int .i64 nd.vk) ∧ w'.cell? ⟨ya, yo + k * 7 + 3, none⟩ = some (.int .i64 nd.vn) ∧ w'.cell? ⟨ya, yo + k * 7 + 4, none⟩ = some (.string nd.vt) ∧ w'.cell? ⟨ya, yo + k * 7 + 5, none⟩ = some (.slice nd.sa nd.sl nd.sc) ∧ w'.cell? ⟨ya, yo + k * 7 + 6, none⟩ = some (.slice nd.ka nd.kl nd.kc))
        (first | exact ⟨x0, x1, x2, x3, x4, x5, x6, y0, y1, y2, y3, y4, y5, y6⟩ | exact ⟨keepg hb2 x0, keepg hb2 x1, keepg hb2 x2, keepg hb2 x3, keepg hb2 x4, keepg hb2 x5, keepg hb2 x6, keepg hb2 y0, keepg hb2 y1, keepg hb2 y2, keepg hb2 y3, keepg hb2 y4, keepg hb2 y5, keepg hb2 y6⟩)
        (first | (go_at_call 42; refine (samenode_any' wr.drew u nd HSN.out).mono ?_; rintro e w2 ⟨rfl, hb2⟩))
      have HB2 := Lib.hid (HB.out.trans ((show Below wr.heap.size wr w2 from (Below.refl _ _).drew.trans hb2).mono HB.out.size))
      clear hb2
      go_wp2
      go_roundw
      case rel => exact ⟨k + 1, by omega, by go_num, HB2.out⟩
      case measure => simp [intOf]; omega
    · have hltI : ¬ (k : Int) < (n : Int) := by omega
      go_wp2
      go_ret
      exact ⟨rfl, HB.out⟩
end Go.Proofs.YtakaoacialnjaaaDoor
namespace Go.Proofs.YtakaoacialnjaaaDoor
open Go Go.RowKit
set_option linter.unusedVariables false
set_option linter.unusedSimpArgs false
theorem grown_set' (w : World) (g o : Nat) (v : Value) : w.grownBy (w.setCell ⟨g, o, none⟩ v) (some g) := ⟨rfl, rfl, rfl, by simp, fun k _ hk => heap_setCell_other w ⟨g, o, none⟩ k v (fun e => hk (by rw [e]))⟩
theorem own_apart {w : World} {B e s n : Nat} {v : Value} {xs : List Value} {B' e' s' n' : Nat} {v' : Value} {xs' : List Value} (h : w.ownsRow B e s v n xs) (h' : w.ownsRow B' e' s' v' n' xs') (hne : e ≠ e') : v.ownBlock = none ∨ v.ownBlock ≠ v'.ownBlock := by
  rcases h.2 with ⟨rfl, _⟩ | ⟨g, cap, cur, rfl, _, hh, _⟩
  · exact .inl rfl
  · right
    have := own_ne h' hh hne
    simpa [Value.ownBlock] using this.symm
theorem own_grown {w w' : World} {B e s n : Nat} {v : Value} {xs : List Value} {B' e' s' n' : Nat} {v' : Value} {xs' : List Value} (h : w.ownsRow B e s v n xs) (h' : w.ownsRow B' e' s' v' n' xs') (hne : e ≠ e') (hg : w.grownBy w' v'.ownBlock) : w'.ownsRow B e s v n xs :=
  h.kept hg (own_apart h h' hne)
def mkS : ByteArray := { data := #[109, 97, 114, 107] }
/-- A node that whole made of another one. -/
def Who (w : World) (B : Nat) (u nd : Nd) : Prop := u.op = nd.op ∧ u.nm = nd.nm ∧ u.vk = nd.vk ∧ u.vn = nd.vn ∧ u.vt = nd.vt ∧ u.sl = nd.sl ∧ u.kl = nd.kl ∧ u.ks = nd.ks ∧ u.kc = nd.kl + 80 ∧ u.sc = nd.sl + 80 ∧
  w.ownsRow B 3 1 (.slice u.ka (nd.kl + 80) (nd.kl + 80)) (nd.kl + 80) ((nd.ks ++ List.replicate 80 (-77)).flatMap Iv) ∧
  ∃ ss, ss.length = nd.sl ∧ RS 1 Sv w nd.sa nd.sl nd.sc ss ∧ w.ownsRow B 9 1 (.slice u.sa (nd.sl + 80) (nd.sl + 80)) (nd.sl + 80) ((ss ++ List.replicate 80 mkS).flatMap Sv)
theorem Who.below {w w' : World} {B : Nat} {u nd : Nd} (h : Who w B u nd) (hb : Below w.heap.size w w') : Who w' B u nd := by
  obtain ⟨h1, h2, h3, h4, h5, h6, h7, h8, h9, h10, h11, ss, h12, h13, h14⟩ := h
  exact ⟨h1, h2, h3, h4, h5, h6, h7, h8, h9, h10, own_below h11 hb, ss, h12, h13.below hb, own_below h14 hb⟩
/-- The rows of the nodes made so far, the node's own strings read in the first world. -/
def WhoI (w0 w : World) (u nd : Nd) : Prop := u.op = nd.op ∧ u.nm = nd.nm ∧ u.vk = nd.vk ∧ u.vn = nd.vn ∧ u.vt = nd.vt ∧ u.sl = nd.sl ∧ u.kl = nd.kl ∧ u.ks = nd.ks ∧ u.kc = nd.kl + 80 ∧ u.sc = nd.sl + 80 ∧
  w.ownsRow w0.heap.size 3 1 (.slice u.ka (nd.kl + 80) (nd.kl + 80)) (nd.kl + 80) ((nd.ks ++ List.replicate 80 (-77)).flatMap Iv) ∧
  ∃ ss, ss.length = nd.sl ∧ RS 1 Sv w0 nd.sa nd.sl nd.sc ss ∧ w.ownsRow w0.heap.size 9 1 (.slice u.sa (nd.sl + 80) (nd.sl + 80)) (nd.sl + 80) ((ss ++ List.replicate 80 mkS).flatMap Sv)
theorem WhoI.who {w0 w : World} {u nd : Nd} (h : WhoI w0 w u nd) (hb : Below w0.heap.size w0 w) : Who w w0.heap.size u nd := by
  obtain ⟨h1, h2, h3, h4, h5, h6, h7, h8, h9, h10, h11, ss, h12, h13, h14⟩ := h
  exact ⟨h1, h2, h3, h4, h5, h6, h7, h8, h9, h10, h11, ss, h12, h13.below hb, h14⟩
theorem WhoI.below {w0 w w' : World} {u nd : Nd} (h : WhoI w0 w u nd) (hb : Below w.heap.size w w') : WhoI w0 w' u nd := by
  obtain ⟨h1, h2, h3, h4, h5, h6, h7, h8, h9, h10, h11, ss, h12, h13, h14⟩ := h
  exact ⟨h1, h2, h3, h4, h5, h6, h7, h8, h9, h10, own_below h11 hb, ss, h12, h13, own_below h14 hb⟩
theorem WhoI.grown {w0 w w' : World} {u nd : Nd} (h : WhoI w0 w u nd) {B' s' n' : Nat} {v' : Value} {xs' : List Value} (hv : w.ownsRow B' 49 s' v' n' xs') (hg : w.grownBy w' v'.ownBlock) : WhoI w0 w' u nd := by
  obtain ⟨h1, h2, h3, h4, h5, h6, h7, h8, h9, h10, h11, ss, h12, h13, h14⟩ := h
  exact ⟨h1, h2, h3, h4, h5, h6, h7, h8, h9, h10, own_grown h11 hv (by decide) hg, ss, h12, h13, own_grown h14 hv (by decide) hg⟩
def WholeOut (e : Ending) (w w' : World) (ns : List Nd) (n : Nat) : Prop :=
  ∃ g us, e = .returned (.slice (some ⟨g, 0, none⟩) n (n + 8)) ∧ us.length = n ∧ w'.ownsRow w.heap.size 49 7 (.slice (some ⟨g, 0, none⟩) (n + 8) (n + 8)) (n + 8) ((us ++ List.replicate 8 markNd).flatMap Nd.cs) ∧
    ∀ (i : Nat) (u nd : Nd), us[i]? = some u → ns[i]? = some nd → WhoI w w' u nd
def zeroNd : Nd := ⟨0, ByteArray.empty, 0, 0, ByteArray.empty, none, 0, 0, none, 0, 0, []⟩
theorem Nd_len2 (x : Nd) : x.cs.length = 7 := rfl
theorem fill1 (n k : Nat) (hk : k < n + 8) : (List.replicate k markNd ++ List.replicate (n + 8 - k) zeroNd).set k markNd = List.replicate (k + 1) markNd ++ List.replicate (n + 8 - (k + 1)) zeroNd ∧ (List.replicate k markNd ++ List.replicate (n + 8 - k) zeroNd)[k]? = some zeroNd := by
  constructor
  · rw [List.set_append_right _ _ (by simp), show k - (List.replicate k markNd).length = 0 by simp, show n + 8 - k = (n + 8 - (k + 1)) + 1 by omega,
      List.replicate_succ, List.set_cons_zero, List.replicate_succ' (n := k)]
    simp
  · rw [List.getElem?_append_right (by simp), List.getElem?_replicate, if_pos (by simp; omega)]
theorem fill2 (us : List Nd) (n k : Nat) (u : Nd) (hl : us.length = k) (hk : k < n) : (us ++ List.replicate (n + 8 - k) markNd).set k u = (us ++ [u]) ++ List.replicate (n + 8 - (k + 1)) markNd ∧ (us ++ List.replicate (n + 8 - k) markNd)[k]? = some markNd := by
  constructor
  · rw [List.set_append_right _ _ (by omega), show k - us.length = 0 by omega, show n + 8 - k = (n + 8 - (k + 1)) + 1 by omega, List.replicate_succ, List.set_cons_zero]
    simp
  · rw [List.getElem?_append_right (by omega), List.getElem?_replicate, if_pos (by omega)]
end Go.Proofs.YtakaoacialnjaaaDoor
