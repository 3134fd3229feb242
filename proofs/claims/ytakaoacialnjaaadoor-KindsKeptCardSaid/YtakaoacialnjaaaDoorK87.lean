import Derived.Test.YtakaoacialnjaaaDoorK70
namespace Go.Proofs.YtakaoacialnjaaaDoor
open Go Go.RowKit
set_option linter.unusedVariables false
set_option linter.unusedSimpArgs false
theorem sv_uniq {w : World} {a : Option Addr} {n c : Nat} {xs ys : List ByteArray} (h1 : RS 1 Sv w a n c xs) (h2 : RS 1 Sv w a n c ys) : xs = ys := by
  apply List.ext_getElem (h1.1.trans h2.1.symm)
  intro i hi hj
  obtain ⟨b, off, e, hc⟩ := h1.2.2.2 i _ (List.getElem?_eq_getElem hi)
  obtain ⟨b', off', e', hc'⟩ := h2.2.2.2 i _ (List.getElem?_eq_getElem hj)
  rw [e] at e'
  simp only [Option.some.injEq, Addr.mk.injEq, and_true] at e'
  obtain ⟨rfl, rfl⟩ := e'
  have x1 := hc 0 _ rfl
  have x2 := hc' 0 _ rfl
  rw [x1] at x2
  simpa using x2
/-- Two copies of one node: each is what left wants of the other. -/
theorem WhoI.pair {w0 w1 w : World} {u v nd : Nd} (hu : WhoI w0 w u nd) (hv : WhoI w1 w v nd) (hb : Below w0.heap.size w0 w1) (h1 : nd.kl ≤ 20000) (h2 : nd.sl ≤ 20000) : Who w w0.heap.size u v := by
  obtain ⟨a1, a2, a3, a4, a5, a6, a7, a8, a9, a10, a11, ss, a12, a13, a14⟩ := hu
  obtain ⟨b1, b2, b3, b4, b5, b6, b7, b8, b9, b10, b11, ts, b12, b13, b14⟩ := hv
  obtain rfl : ss = ts := sv_uniq (a13.below hb) b13
  have q := (RS.of_owns b14 (by decide) Sv_len (by omega)).cut
  rw [b12] at q
  refine ⟨a1.trans b1.symm, a2.trans b2.symm, a3.trans b3.symm, a4.trans b4.symm, a5.trans b5.symm, a6.trans b6.symm, a7.trans b7.symm, a8.trans b8.symm, by rw [b7]; exact a9, by rw [b6]; exact a10, by rw [b7, b8]; exact a11, ss, by rw [b6]; exact a12, by rw [b6, b10]; exact q, by rw [b6]; exact a14⟩
theorem WhoI.okS {w0 w : World} {u nd : Nd} (h : WhoI w0 w u nd) (hok : nd.ok w0) (h1 : nd.kl ≤ 20000) (h2 : nd.sl ≤ 20000) : u.okS w := by
  unfold Nd.okS
  refine ⟨h.ok hok h1, ?_⟩
  obtain ⟨b1, b2, b3, b4, b5, b6, b7, b8, b9, b10, b11, ts, b12, b13, b14⟩ := h
  have q := (RS.of_owns b14 (by decide) Sv_len (by omega)).cut
  rw [b12] at q
  exact ⟨ts, by rw [b6, b10]; exact q⟩
/-- Another operator in a node and in its copy. -/
theorem WhoI.flip {w0 w : World} {u nd : Nd} (h : WhoI w0 w u nd) (o : Int) : WhoI w0 w { u with op := o } { nd with op := o } := by
  obtain ⟨b1, r⟩ := h
  exact ⟨rfl, r⟩
/-- Rows that no book writes keep what a copy says. -/
theorem WhoI.keep5 {w0 w w' : World} {u nd : Nd} (h : WhoI w0 w u nd) (hk : Keep5 w w') : WhoI w0 w' u nd := by
  obtain ⟨h1, h2, h3, h4, h5, h6, h7, h8, h9, h10, h11, ss, h12, h13, h14⟩ := h
  exact ⟨h1, h2, h3, h4, h5, h6, h7, h8, h9, h10, hk.row ⟨by decide, by decide⟩ h11, ss, h12, h13, hk.row ⟨by decide, by decide⟩ h14⟩
/-- The book ahead of the first answer. -/
theorem bk_new (w : World) : BkI (w.alloc (.cells #[.slice none 0 0, .slice none 0 0, .int .i64 0, .bool false] 56)) w.heap.size w.heap.size [] [] [] :=
  ⟨.slice none 0 0, .slice none 0 0, 0, heap_alloc_new w _, Nat.le_refl _, OwA.nil _ _ _, OwA.nil _ _ _, .inl rfl, by omega, by omega, ⟨rfl, rfl, fun i v u d h => by simp at h, fun i j v v' _ h => by simp at h⟩⟩
theorem BkI.below {w w' : World} {B gb : Nat} {ls ws : List Value} {ds : List (List (Int × Bool))} (h : BkI w B gb ls ws ds) (hb : Below w.heap.size w w') : BkI w' B gb ls ws ds := by
  obtain ⟨lv, wv, held, hg, hB, hlv, hwv, hlw, h0, h1, hI⟩ := h
  exact ⟨lv, wv, held, (hb.block gb (Array.getElem?_eq_some_iff.1 hg).1).trans hg, hB, hlv.kept (fun k hk => hb.block k (hlv.lt k hk).2.1), hwv.kept (fun k hk => hb.block k (hwv.lt k hk).2.1), hlw, h0, h1,
    hI.keep (fun k cs t fz ht hk => hb.block k (Array.getElem?_eq_some_iff.1 hk).1)⟩
/-- A new answer lies apart from all that was kept. -/
theorem BkI.fresh {w w' : World} {B gb : Nat} {ls ws : List Value} {ds : List (List (Int × Bool))} (h : BkI w B gb ls ws ds) {v : Value} {e s n : Nat} {xs : List Value} (ho : w'.ownsRow w.heap.size e s v n xs) : ∀ x ∈ ls, x.ownBlock = none ∨ x.ownBlock ≠ v.ownBlock := by
  intro x hx
  obtain ⟨lv, wv, held, hg, hB, hlv, hwv, hlw, h0, h1, hI⟩ := h
  obtain ⟨i, hi⟩ := List.getElem?_of_mem hx
  have hil := (List.getElem?_eq_some_iff.1 hi).1
  obtain ⟨_, hv, _⟩ := hI.own i x _ _ hi (List.getElem?_eq_getElem (by have := hI.l1; have := hI.l2; omega)) (List.getElem?_eq_getElem (by have := hI.l1; omega))
  cases hb : x.ownBlock with
  | none => exact .inl rfl
  | some q =>
    right
    intro e
    have h2 := (hv.lt q hb).2
    have h3 := (ho.lt q e.symm).1
    omega
/-- What the calls of one asking find: the two copies, the scope's copy. -/
structure KpI (w2 w3 w4 wr : World) (m gu gv : Nat) (ns us vs : List Nd) (sa : Option Addr) (sl c : Nat) (scs : List Nm) : Prop where
  u : wr.ownsRow w2.heap.size 49 7 (.slice (some ⟨gu, 0, none⟩) (m + 8) (m + 8)) (m + 8) ((us ++ List.replicate 8 markNd).flatMap Nd.cs)
  v : wr.ownsRow w3.heap.size 49 7 (.slice (some ⟨gv, 0, none⟩) (m + 8) (m + 8)) (m + 8) ((vs ++ List.replicate 8 markNd).flatMap Nd.cs)
  s : wr.ownsRow w4.heap.size 34 3 (.slice sa sl c) sl (scs.flatMap Nm.cs)
  lu : us.length = m
  lv : vs.length = m
  ln : ns.length = m
  ls : scs.length = sl
  wu : ∀ (i : Nat) (x nd : Nd), us[i]? = some x → ns[i]? = some nd → WhoI w2 wr x nd
  wv : ∀ (i : Nat) (x nd : Nd), vs[i]? = some x → ns[i]? = some nd → WhoI w3 wr x nd
  ok : ∀ nd ∈ ns, nd.ok w2 ∧ nd.ok w3 ∧ nd.kl ≤ 20000 ∧ nd.sl ≤ 20000
theorem KpI.below {w2 w3 w4 wr w' : World} {m gu gv : Nat} {ns us vs : List Nd} {sa : Option Addr} {sl c : Nat} {scs : List Nm} (h : KpI w2 w3 w4 wr m gu gv ns us vs sa sl c scs) (hb : Below wr.heap.size wr w') : KpI w2 w3 w4 w' m gu gv ns us vs sa sl c scs :=
  ⟨own_below h.u hb, own_below h.v hb, own_below h.s hb, h.lu, h.lv, h.ln, h.ls, fun i x nd h1 h2 => (h.wu i x nd h1 h2).below hb, fun i x nd h1 h2 => (h.wv i x nd h1 h2).below hb, h.ok⟩
theorem KpI.keep5 {w2 w3 w4 wr w' : World} {m gu gv : Nat} {ns us vs : List Nd} {sa : Option Addr} {sl c : Nat} {scs : List Nm} (h : KpI w2 w3 w4 wr m gu gv ns us vs sa sl c scs) (hk : Keep5 wr w') : KpI w2 w3 w4 w' m gu gv ns us vs sa sl c scs :=
  ⟨hk.row ⟨by decide, by decide⟩ h.u, hk.row ⟨by decide, by decide⟩ h.v, hk.row ⟨by decide, by decide⟩ h.s, h.lu, h.lv, h.ln, h.ls, fun i x nd h1 h2 => (h.wu i x nd h1 h2).keep5 hk, fun i x nd h1 h2 => (h.wv i x nd h1 h2).keep5 hk, h.ok⟩
end Go.Proofs.YtakaoacialnjaaaDoor
namespace Go.Proofs.YtakaoacialnjaaaDoor
open Go Go.RowKit
set_option linter.unusedVariables false
set_option linter.unusedSimpArgs false
/-- Blocks of other types than t stand. -/
def Only (t : TypeId) (w w' : World) : Prop := ∀ (k : Nat) (cs : Array Value) (e : TypeId) (fz : Nat × Nat), e ≠ t → w.heap[k]? = some (Obj.cells cs e fz) → w'.heap[k]? = w.heap[k]?
theorem Only.row {t : TypeId} {w w' : World} {B e s : Nat} {v : Value} {n : Nat} {xs : List Value} (k : Only t w w') (ht : e ≠ t) (h : w.ownsRow B e s v n xs) : w'.ownsRow B e s v n xs := by
  refine ⟨h.1, ?_⟩
  rcases h.2 with h | ⟨g, cap, cur, hv, hb, hg, r⟩
  · exact .inl h
  · exact .inr ⟨g, cap, cur, hv, hb, (k g _ _ _ ht hg).trans hg, r⟩
theorem own_blk {w : World} {B e s g n c : Nat} {xs : List Value} (h : w.ownsRow B e s (.slice (some ⟨g, 0, none⟩) n c) n xs) : B ≤ g ∧ ∃ cur, w.heap[g]? = some (.cells cur e (0, 0)) := by
  rcases h.2 with h | ⟨g', cap, cur, hv, hb, hg, r⟩
  · obtain ⟨h, _⟩ := h; cases h
  · simp only [Value.slice.injEq, Option.some.injEq, Addr.mk.injEq] at hv
    obtain ⟨⟨rfl, _⟩, _⟩ := hv
    exact ⟨hb, cur, hg⟩
theorem own_blt {w : World} {B e s g n c : Nat} {xs : List Value} (h : w.ownsRow B e s (.slice (some ⟨g, 0, none⟩) n c) n xs) : g < w.heap.size := by
  obtain ⟨_, cur, hc⟩ := own_blk h
  exact (Array.getElem?_eq_some_iff.1 hc).1
theorem Only.set {w : World} {B e s g n c : Nat} {xs : List Value} (h : w.ownsRow B e s (.slice (some ⟨g, 0, none⟩) n c) n xs) (o : Nat) (u : Value) : Only e w (w.setCell ⟨g, o, none⟩ u) := fun k cs e' fz hne hk =>
  heap_setCell_other w ⟨g, o, none⟩ k _ (fun hh => by
    obtain ⟨_, cur, hc⟩ := own_blk h
    have : k = g := hh
    subst this
    rw [hk] at hc
    simp only [Option.some.injEq, Obj.cells.injEq] at hc
    exact hne hc.2.1)
theorem Only.trans {t : TypeId} {a b c : World} (h : Only t a b) (k : Only t b c) : Only t a c := fun g cs e fz he hg => (k g cs e fz he ((h g cs e fz he hg).trans hg)).trans (h g cs e fz he hg)
theorem Only.bk {t : TypeId} {w w' : World} {B gb : Nat} {ls ws : List Value} {ds : List (List (Int × Bool))} (k : Only t w w') (h1 : (22 : TypeId) ≠ t) (h2 : (56 : TypeId) ≠ t) (h3 : (30 : TypeId) ≠ t) (h : BkI w B gb ls ws ds) : BkI w' B gb ls ws ds := by
  obtain ⟨lv, wv, held, hg, hB, hlv, hwv, hlw, e0, e1, hI⟩ := h
  refine ⟨lv, wv, held, (k gb _ _ _ h2 hg).trans hg, hB, hlv.kept (fun q hq => ?_), hwv.kept (fun q hq => ?_), hlw, e0, e1, hI.l1, hI.l2, fun i v u d hv hu hd => ?_, hI.apart⟩
  · obtain ⟨_, _, cur, hc⟩ := hlv.lt q hq
    exact k q _ _ _ h1 hc
  · obtain ⟨_, _, cur, hc⟩ := hwv.lt q hq
    exact k q _ _ _ h1 hc
  · obtain ⟨a, b, c⟩ := hI.own i v u d hv hu hd
    exact ⟨a, k.row h3 b, k.row h3 c⟩
theorem Only.who {t : TypeId} {w0 w w' : World} {u nd : Nd} (k : Only t w w') (k3 : (3 : TypeId) ≠ t) (k9 : (9 : TypeId) ≠ t) (h : WhoI w0 w u nd) : WhoI w0 w' u nd := by
  obtain ⟨h1, h2, h3, h4, h5, h6, h7, h8, h9, h10, h11, ss, h12, h13, h14⟩ := h
  exact ⟨h1, h2, h3, h4, h5, h6, h7, h8, h9, h10, k.row k3 h11, ss, h12, h13, k.row k9 h14⟩
/-- Another operator in one node. -/
def opAt (l : List Nd) (i : Nat) (o : Int) : List Nd := l.modify i fun x => { x with op := o }
theorem opAt_len (l : List Nd) (i : Nat) (o : Int) : (opAt l i o).length = l.length := List.length_modify _ _ _
theorem opAt_get (l : List Nd) (i : Nat) (o : Int) (j : Nat) (x : Nd) (h : (opAt l i o)[j]? = some x) : ∃ y, l[j]? = some y ∧ x = (if i = j then { y with op := o } else y) := by
  unfold opAt at h
  rw [List.getElem?_modify] at h
  cases hl : l[j]? with
  | none => rw [hl] at h; simp at h
  | some y =>
    rw [hl] at h
    refine ⟨y, rfl, ?_⟩
    by_cases hij : i = j
    · simp [hij] at h ⊢; exact h.symm
    · simp [hij] at h ⊢; exact h.symm
theorem opAt_row (R : List Nd) (o : Int) : ∀ (l : List Nd) (i : Nat), i < l.length → ((l ++ R).flatMap Nd.cs).set (i * 7) (.int .i64 o) = ((opAt l i o) ++ R).flatMap Nd.cs
  | [], i, h => by simp at h
  | x :: t, 0, _ => rfl
  | x :: t, i + 1, h => by
    have ih := opAt_row R o t i (by simpa using h)
    show ((x :: (t ++ R)).flatMap Nd.cs).set ((i + 1) * 7) _ = (x :: (opAt t i o ++ R)).flatMap Nd.cs
    rw [List.flatMap_cons, List.flatMap_cons, ← ih, List.set_append_right _ _ (by rw [Nd_len2]; omega), Nd_len2]
    congr 2
    omega
theorem KpI.flip {w2 w3 w4 wr : World} {m gu gv : Nat} {ns us vs : List Nd} {sa : Option Addr} {sl c : Nat} {scs : List Nm} (h : KpI w2 w3 w4 wr m gu gv ns us vs sa sl c scs) (hm : 0 < m) (hne : gu ≠ gv) (o : Int) :
    Only 49 wr ((wr.setCell ⟨gv, (m - 1) * 7, none⟩ (.int .i64 o)).setCell ⟨gu, (m - 1) * 7, none⟩ (.int .i64 o)) ∧
    KpI w2 w3 w4 ((wr.setCell ⟨gv, (m - 1) * 7, none⟩ (.int .i64 o)).setCell ⟨gu, (m - 1) * 7, none⟩ (.int .i64 o)) m gu gv (opAt ns (m - 1) o) (opAt us (m - 1) o) (opAt vs (m - 1) o) sa sl c scs := by
  have o1 : Only 49 wr (wr.setCell ⟨gv, (m - 1) * 7, none⟩ (.int .i64 o)) := Only.set h.v _ _
  have hv1 := (h.v.stored ((m - 1) * 7) (.int .i64 o)).1
  have hu1 := ownsRow_setCell_other h.u (a := ⟨gv, (m - 1) * 7, none⟩) (by intro e; exact hne (Option.some.inj e)) (.int .i64 o)
  generalize wr.setCell ⟨gv, (m - 1) * 7, none⟩ (.int .i64 o) = W1 at *
  have o2 : Only 49 W1 (W1.setCell ⟨gu, (m - 1) * 7, none⟩ (.int .i64 o)) := Only.set hu1 _ _
  have hu2 := (hu1.stored ((m - 1) * 7) (.int .i64 o)).1
  have hv2 := ownsRow_setCell_other hv1 (a := ⟨gu, (m - 1) * 7, none⟩) (by intro e; exact hne (Option.some.inj e).symm) (.int .i64 o)
  generalize W1.setCell ⟨gu, (m - 1) * 7, none⟩ (.int .i64 o) = W2 at *
  rw [opAt_row _ _ _ _ (by rw [h.lu]; omega)] at hu2
  rw [opAt_row _ _ _ _ (by rw [h.lv]; omega)] at hv2
  have ot := o1.trans o2
  refine ⟨ot, hu2, hv2, ot.row (by decide) h.s, by rw [opAt_len]; exact h.lu, by rw [opAt_len]; exact h.lv, by rw [opAt_len]; exact h.ln, h.ls, fun i x nd h1 h2 => ?_, fun i x nd h1 h2 => ?_, fun nd hnd => ?_⟩
  · obtain ⟨y, hy, rfl⟩ := opAt_get _ _ _ _ _ h1
    obtain ⟨z, hz, rfl⟩ := opAt_get _ _ _ _ _ h2
    have q := ot.who (by decide) (by decide) (h.wu i y z hy hz)
    by_cases hi : m - 1 = i
    · rw [if_pos hi, if_pos hi]; exact q.flip o
    · rw [if_neg hi, if_neg hi]; exact q
  · obtain ⟨y, hy, rfl⟩ := opAt_get _ _ _ _ _ h1
    obtain ⟨z, hz, rfl⟩ := opAt_get _ _ _ _ _ h2
    have q := ot.who (by decide) (by decide) (h.wv i y z hy hz)
    by_cases hi : m - 1 = i
    · rw [if_pos hi, if_pos hi]; exact q.flip o
    · rw [if_neg hi, if_neg hi]; exact q
  · obtain ⟨j, hj⟩ := List.getElem?_of_mem hnd
    obtain ⟨z, hz, rfl⟩ := opAt_get _ _ _ _ _ hj
    have q := h.ok z (List.mem_of_getElem? hz)
    by_cases hi : m - 1 = j
    · rw [if_pos hi]; exact q
    · rw [if_neg hi]; exact q
/-- Another kind of the first name. -/
def optOf : List Nm → List Nm
  | [] => []
  | x :: t => ⟨x.nm, x.b, !x.o⟩ :: t
theorem optOf_len : ∀ l : List Nm, (optOf l).length = l.length
  | [] => rfl
  | _ :: _ => rfl
theorem KpI.sflip {w2 w3 w4 wr : World} {m gu gv gs : Nat} {ns us vs : List Nd} {sl c : Nat} {x : Nm} {t : List Nm} (h : KpI w2 w3 w4 wr m gu gv ns us vs (some ⟨gs, 0, none⟩) sl c (x :: t)) :
    Only 34 wr (wr.setCell ⟨gs, 2, none⟩ (.bool (!x.o))) ∧
    KpI w2 w3 w4 (wr.setCell ⟨gs, 2, none⟩ (.bool (!x.o))) m gu gv ns us vs (some ⟨gs, 0, none⟩) sl c (⟨x.nm, x.b, !x.o⟩ :: t) := by
  have ot : Only 34 wr (wr.setCell ⟨gs, 2, none⟩ (.bool (!x.o))) := Only.set h.s _ _
  have hs := (h.s.stored 2 (.bool (!x.o))).1
  exact ⟨ot, ot.row (by decide) h.u, ot.row (by decide) h.v, hs, h.lu, h.lv, h.ln, h.ls, fun i x nd h1 h2 => ot.who (by decide) (by decide) (h.wu i x nd h1 h2), fun i x nd h1 h2 => ot.who (by decide) (by decide) (h.wv i x nd h1 h2), h.ok⟩
end Go.Proofs.YtakaoacialnjaaaDoor
namespace Go.Proofs.YtakaoacialnjaaaDoor
open Go Go.RowKit
set_option linter.unusedVariables false
set_option linter.unusedSimpArgs false
theorem own_mono {w : World} {B B' e s n : Nat} {v : Value} {xs : List Value} (h : w.ownsRow B e s v n xs) (hb : B' ≤ B) : w.ownsRow B' e s v n xs := by
  refine ⟨h.1, ?_⟩
  rcases h.2 with h | ⟨g, cap, cur, hv, hB, r⟩
  · exact .inl h
  · exact .inr ⟨g, cap, cur, hv, by omega, r⟩
set_option maxRecDepth 100000 in
set_option maxHeartbeats 4000000 in
theorem kindskept_walk (w : World) (a : Option Addr) (n c : Nat) (ks : List Ak) (hr : RS 2 Ak.cs w a n c ks) (hok : ∀ k ∈ ks, AkOk w k) (ht : (NoTab w ∧ ResTab w 2 ∧ 2 < w.heap.size) ∧ ResTab w 1) :
    Calls Tryd.prog 7 #[.slice a n c] w fun e w' => e = .returned (.bool true) ∧ Below w.heap.size w w' := by
  have hlen := hr.1
  have hn48 := hr.2.2.1
  have HR := Lib.hid hr
  have HOK := Lib.hid hok
  have HT := Lib.hid (show Tab3 w from ⟨ht.1.1, ht.1.2.1, ht.2, ht.1.2.2⟩)
  obtain ⟨B, hB⟩ : ∃ B, B = w.heap.size := ⟨_, rfl⟩
  have HBB := Lib.hid hB
  obtain ⟨w1, hw1⟩ : ∃ w1, w1 = w.alloc (.cells #[.slice none 0 0, .slice none 0 0, .int .i64 0, .bool false] 56) := ⟨_, rfl⟩
  have hbk1 : BkI w1 w.heap.size w.heap.size [] [] [] := by rw [hw1]; exact bk_new w
  have hb1 : Below w.heap.size w w1 := by rw [hw1]; exact (Below.refl _ _).alloc (Nat.le_refl _) _
  have HW1 := Lib.hid hw1.symm
  have HBK1 := Lib.hid hbk1
  have HB1 := Lib.hid hb1
  clear hr hok ht hw1 hbk1 hb1
  go_enter Tryd.func7, Tryd.ntmps7
  go_wp2_with fail
  rw [HW1.out]
  go_loopw [4] (fun x wr => ∃ (i : Nat) (ls ws : List Value) (ds : List (List (Int × Bool))), i ≤ 30 ∧ i ≤ n ∧ x = .int .i64 (i : Int) ∧ Below w.heap.size w wr ∧ BkI wr w.heap.size w.heap.size ls ws ds ∧ ds.length ≤ 4 * i) (fun x _ => 30 - (intOf x).toNat)
  case atStart => exact ⟨0, [], [], [], by omega, by omega, rfl, HB1.out, HBK1.out, by simp⟩
  case round =>
    obtain ⟨i, ls, ws, ds, hi30, hin, rfl, hb, hbk, hds⟩ := hrel
    have HB := Lib.hid hb
    have HBK := Lib.hid hbk
    have zr := hb.size
    have HDS := Lib.hid hds
    have HI30 := Lib.hid hi30
    clear hb hbk hds hi30
    have hend : ¬ ((i : Int) < (n : Int) ∧ (i : Int) < 30) → True := fun _ => trivial
    clear hend
    by_cases hlt : i < n
    · have hltI : (i : Int) < (n : Int) := by omega
      by_cases h30 : i < 30
      · have h30I : ((i : Int) < 30) = True := by simp; omega
        obtain ⟨xb, xo, k, rfl, hk, hcx⟩ := HR.out.at hlt
        have x0 := (HB.out.cell (p := ⟨xb, xo + i * 2 + 0, none⟩) (block_lt_of_cell (hcx 0 _ rfl))).trans (hcx 0 _ rfl)
        have x1 := (HB.out.cell (p := ⟨xb, xo + i * 2 + 1, none⟩) (block_lt_of_cell (hcx 1 _ rfl))).trans (hcx 1 _ rfl)
        simp only [Nat.add_zero] at x0
        have HX0 := Lib.hid (hcx 0 _ rfl)
        have HX1 := Lib.hid (hcx 1 _ rfl)
        have HAK := Lib.hid (HOK.out k (List.mem_of_getElem? hk))
        have hkc := HAK.out.n.2.1
        have hkl48 := HAK.out.n.2.2.1
        have H30 := Lib.hid h30
        clear hk hcx h30
        go_upto_if 35 with (fail)
        go_cut [5] (fun s wx => ∃ m : Nat, m ≤ k.nl ∧ s = .slice k.na m k.nc ∧ wx = wr)
        case first =>
          cases h5 : decide ((500 : Int) < (k.nl : Int))
          · go_wp2_with fail
            go_meet
            exact ⟨k.nl, Nat.le_refl _, rfl, rfl⟩
          · have h5n : 500 ≤ k.nl := by simp at h5; omega
            have h5c : (500 : Int) ≤ (k.nc : Int) := by omega
            go_wp2_with fail
            go_meet
            exact ⟨500, h5n, rfl, rfl⟩
        case rest =>
          obtain ⟨m, hm, rfl, rfl⟩ := hcut
          have HNS := Lib.hid (rs_take HAK.out.n hm)
          have HNO := Lib.hid (fun nd (hnd : nd ∈ k.ns.take m) => HAK.out.ok nd (List.mem_of_mem_take hnd))
          go_wp2_with fail
          with_reducible refine (great_any _ k.na m k.nc (k.ns.take m) (HNS.out.below HB.out) (fun nd hnd => okS_below (HNO.out nd hnd) HB.out) k.sa k.sl k.sc k.nm (HAK.out.s.below HB.out)).mono ?_
          rintro e w2 ⟨hg, hb2⟩
          have z2 := hb2.size
          have HB2 := Lib.hid (HB.out.trans (hb2.mono zr))
          have HBK2 := Lib.hid (HBK.out.below hb2)
          clear hb2
          rcases hg with rfl | ⟨rfl, hsml⟩
          · go_wp2_with fail
            go_roundw
            case rel => exact ⟨i + 1, ls, ws, ds, by have := H30.out; omega, by omega, by go_num, HB2.out, HBK2.out, by have := HDS.out; omega⟩
            case measure => have := H30.out; simp [intOf] <;> omega
          · have HSML := Lib.hid hsml
            have hm5 : m ≤ 5000 := hsml.1
            have hsl5 : k.sl ≤ 500 := hsml.2.1
            have HSM := Lib.hid hsml.2.2
            clear hsml
            go_wp2_with fail
            with_reducible refine (whole_any w2 k.na m k.nc (k.ns.take m) (HNS.out.below HB2.out) (fun nd hnd => okS_below (HNO.out nd hnd) HB2.out) hm5 HSM.out).mono ?_
            rintro e w3 ⟨⟨gu, us, rfl, hus, hrow, hwho⟩, hb3⟩
            have z3 := hb3.size
            have HB3 := Lib.hid (HB2.out.trans (hb3.mono (by omega)))
            have HBK3 := Lib.hid (HBK2.out.below hb3)
            have HB23 := Lib.hid hb3
            have HU3 := Lib.hid hrow
            have HLT3 := Lib.hid (own_blt hrow)
            have HWU3 := Lib.hid hwho
            have HUS := Lib.hid hus
            clear hb3 hrow hwho hus
            go_wp2_with fail
            with_reducible refine (whole_any w3 k.na m k.nc (k.ns.take m) (HNS.out.below HB3.out) (fun nd hnd => okS_below (HNO.out nd hnd) HB3.out) hm5 HSM.out).mono ?_
            rintro e w4 ⟨⟨gv, vs, rfl, hvs, hrow, hwho⟩, hb4⟩
            have z4 := hb4.size
            have HB4 := Lib.hid (HB3.out.trans (hb4.mono (by omega)))
            have HBK4 := Lib.hid (HBK3.out.below hb4)
            have HU4 := Lib.hid (own_below HU3.out hb4)
            have HWU4 := Lib.hid (fun (i : Nat) (u nd : Nd) (h1 : us[i]? = some u) (h2 : (k.ns.take m)[i]? = some nd) => (HWU3.out i u nd h1 h2).below hb4)
            have HV4 := Lib.hid hrow
            have HNE := Lib.hid (show gu ≠ gv from fun e => by
              have h1 := (own_blk hrow).1
              have h2 := HLT3.out
              omega)
            have HWV4 := Lib.hid hwho
            have HVS := Lib.hid hvs
            clear hb4 hrow hwho hvs HU3 HWU3
            have x0 := (HB4.out.cell (p := ⟨xb, xo + i * 2 + 0, none⟩) (block_lt_of_cell HX0.out)).trans HX0.out
            have x1 := (HB4.out.cell (p := ⟨xb, xo + i * 2 + 1, none⟩) (block_lt_of_cell HX1.out)).trans HX1.out
            simp only [Nat.add_zero] at x0
            have HSA := Lib.hid (show (k.sa = none ∧ k.sl = 0 ∧ k.sc = 0 ∧ k.nm.flatMap Nm.cs = []) ∨ ∃ ad, k.sa = some ad ∧ ∀ i v, (k.nm.flatMap Nm.cs)[i]? = some v → w4.cell? (ad.add i) = some v from by
              have hs := HAK.out.s
              cases hsa : k.sa with
              | none =>
                have h0 := HAK.out.s0 hsa
                have h1 := hs.2.1
                left
                refine ⟨rfl, by omega, h0, ?_⟩
                rw [List.eq_nil_of_length_eq_zero (by have := hs.1; omega : k.nm.length = 0)]; rfl
              | some ad => exact .inr ⟨ad, rfl, (hs.below HB4.out).cells Nm_len2 (by decide) hsa⟩)
            have HSL := Lib.hid HAK.out.s.1
            go_wp2_with (at_builtin; (refine L_append0 rfl _ _ _ rfl sl25 rfl k.sa k.sl k.sc (k.nm.flatMap Nm.cs) rfl HSA.out (by rw [flat_len Nm.cs 3 Nm_len2, HSL.out]) one_nms (by omega) (by simp [maxLen]; omega) (fun a5 c5 w5 ho5 hg5 => ?_)
                                      have hb5 : Below w4.heap.size w4 w5 := (Below.refl _ _).grown hg5 (Nat.le_refl _) (by intro q hq; cases hq)
                                      have HSC5 := Lib.hid ho5
                                      have HB5 := Lib.hid (HB4.out.trans (hb5.mono (by omega)))
                                      have HBK5 := Lib.hid (HBK4.out.below hb5)
                                      have HU5 := Lib.hid (own_below HU4.out hb5)
                                      have HV5 := Lib.hid (own_below HV4.out hb5)
                                      have HWU5 := Lib.hid (fun (i : Nat) (u nd : Nd) (h1 : us[i]? = some u) (h2 : (k.ns.take m)[i]? = some nd) => (HWU4.out i u nd h1 h2).below hb5)
                                      have HWV5 := Lib.hid (fun (i : Nat) (u nd : Nd) (h1 : vs[i]? = some u) (h2 : (k.ns.take m)[i]? = some nd) => (HWV4.out i u nd h1 h2).below hb5)
                                      have z5 := hb5.size
                                      clear ho5 hg5 hb5 HU4 HV4 HWU4 HWV4 x0 x1))
            have HNL := Lib.hid HNS.out.1
            have HKP := Lib.hid (show KpI w2 w3 w4 w5 m gu gv (k.ns.take m) us vs a5 k.sl c5 k.nm from ⟨HU5.out, HV5.out, HSC5.out, HUS.out, HVS.out, HNL.out, HSL.out, HWU5.out, HWV5.out, fun nd hnd => ⟨(okS_ok (HNO.out nd hnd)).below HB2.out, (okS_ok (HNO.out nd hnd)).below HB3.out, (HSM.out nd hnd).1, (HSM.out nd hnd).2⟩⟩)
            clear HU5 HV5 HSC5 HWU5 HWV5 HSA
            go_loopw [9] (fun x wr => ∃ (j : Nat) (ls ws : List Value) (ds : List (List (Int × Bool))) (ns' us vs : List Nd) (scs : List Nm), j ≤ 4 ∧ x = .int .i64 (j : Int) ∧ Below w.heap.size w wr ∧ BkI wr w.heap.size w.heap.size ls ws ds ∧ ds.length ≤ 4 * i + j ∧ KpI w2 w3 w4 wr m gu gv ns' us vs a5 k.sl c5 scs) (fun x _ => 4 - (intOf x).toNat)
            case atStart => exact ⟨0, ls, ws, ds, _, us, vs, k.nm, by omega, rfl, HB5.out, HBK5.out, by have := HDS.out; omega, HKP.out⟩
            case round =>
              obtain ⟨j, ls2, ws2, ds2, ns2, us2, vs2, scs2, hj, rfl, hb, hbk, hds, hkp⟩ := hrel
              have HB6 := Lib.hid hb
              have HBK6 := Lib.hid hbk
              have HDS6 := Lib.hid hds
              have HKP6 := Lib.hid hkp
              have z6 := hb.size
              clear hb hbk hds hkp
              by_cases hj4 : j < 4
              · have hj4I : (j : Int) < 4 := by omega
                go_upto_region 15 with (fail)
                go_cut [65] (fun s wx => s = .bool (decide (j = 2 ∧ 0 < m)) ∧ wr = wx)
                case first =>
                  by_cases h2 : j = 2
                  · have h2I : ((j : Int) = 2) = True := by simp; omega
                    by_cases h0 : 0 < m
                    · have h0I : ((0 : Int) < (m : Int)) = True := by simp; omega
                      have hb2 : decide (j = 2 ∧ 0 < m) = true := by simp; exact ⟨h2, h0⟩
                      have HBD := Lib.hid hb2
                      clear h2 h0 hb2
                      go_wp2_with fail
                      go_meet
                      exact ⟨by have q := HBD.out; (try rw [q]); (try (simp at q; simp; omega)), rfl⟩
                    · have h0I : ((0 : Int) < (m : Int)) = False := by simp; omega
                      have hb2 : decide (j = 2 ∧ 0 < m) = false := by simp; omega
                      have HBD := Lib.hid hb2
                      clear h2 h0 hb2
                      go_wp2_with fail
                      go_meet
                      exact ⟨by have q := HBD.out; (try rw [q]); (try (simp at q; simp; omega)), rfl⟩
                  · have h2I : ((j : Int) = 2) = False := by simp; omega
                    have hb2 : decide (j = 2 ∧ 0 < m) = false := by simp; omega
                    have HBD := Lib.hid hb2
                    clear h2 hb2
                    go_wp2_with fail
                    go_meet
                    exact ⟨by have q := HBD.out; (try rw [q]); (try (simp at q; simp; omega)), rfl⟩
                case rest =>
                  obtain ⟨rfl, rfl⟩ := hcut
                  go_upto_if 65 with (fail)
                  go_cut [] (fun wx => ∃ ns us vs, KpI w2 w3 w4 wx m gu gv ns us vs a5 k.sl c5 scs2 ∧ Below w.heap.size w wx ∧ BkI wx w.heap.size w.heap.size ls2 ws2 ds2)
                  case first =>
                    cases hb2 : decide (j = 2 ∧ 0 < m)
                    · go_wp2_with fail
                      go_meet
                      exact ⟨ns2, us2, vs2, HKP6.out, HB6.out, HBK6.out⟩
                    · have hm0 : 0 < m := by simp at hb2; exact hb2.2
                      have hvl : m - 1 < vs2.length := by have := HKP6.out.lv; omega
                      have hul : m - 1 < us2.length := by have := HKP6.out.lu; omega
                      have hv8 : (vs2 ++ List.replicate 8 markNd)[m - 1]? = some vs2[m - 1] := by rw [List.getElem?_append_left hvl]; exact List.getElem?_eq_getElem hvl
                      have hu8 : (us2 ++ List.replicate 8 markNd)[m - 1]? = some us2[m - 1] := by rw [List.getElem?_append_left hul]; exact List.getElem?_eq_getElem hul
                      have c0 := own_at Nd_len2 HKP6.out.v hv8 0 _ rfl
                      have f0 := HKP6.out.v.frozenAt ((m - 1) * 7)
                      have d0 := own_at Nd_len2 HKP6.out.u hu8 0 _ rfl
                      have g0 := HKP6.out.u.frozenAt ((m - 1) * 7)
                      have hcast : ((m : Int) - 1) = ((m - 1 : Nat) : Int) := by omega
                      simp only [Nat.add_zero] at c0 d0
                      generalize vs2[m - 1] = vx at c0 hv8
                      generalize us2[m - 1] = ux at d0 hu8
                      have HFL := Lib.hid (HKP6.out.flip hm0 HNE.out (bits .xor .i64 vx.op 1))
                      have hbl : Below w.heap.size w ((wr.setCell ⟨gv, (m - 1) * 7, none⟩ (.int .i64 (bits .xor .i64 vx.op 1))).setCell ⟨gu, (m - 1) * 7, none⟩ (.int .i64 (bits .xor .i64 vx.op 1))) :=
                        (HB6.out.setCell (by have := (own_blk HKP6.out.v).1; have := z3; show w.heap.size ≤ gv; omega) _).setCell (by have := (own_blk HKP6.out.u).1; show w.heap.size ≤ gu; omega) _
                      have HBL := Lib.hid hbl
                      have hne := HNE.out
                      obtain ⟨q, hq⟩ : ∃ q, q = m - 1 := ⟨_, rfl⟩
                      obtain rfl : m = q + 1 := by omega
                      simp only [Nat.add_sub_cancel] at c0 f0 d0 g0 hcast HFL HBL
                      have d1 : (wr.setCell ⟨gv, q * 7, none⟩ (.int .i64 (bits .xor .i64 vx.op 1))).cell? ⟨gu, q * 7, none⟩ = some (.int .i64 ux.op) :=
                        (World.cell?_of_block (heap_setCell_other wr ⟨gv, q * 7, none⟩ gu _ hne)).trans d0
                      clear hvl hul hv8 hu8 hq hne hbl hm0
                      go_wp2_with fail
                      go_meet
                      exact ⟨_, _, _, HFL.out.2, HBL.out, HFL.out.1.bk (by decide) (by decide) (by decide) HBK6.out⟩
                  case rest =>
                    obtain ⟨ns3, us3, vs3, hkp, hb, hbk⟩ := hcut
                    have HKP7 := Lib.hid hkp
                    have HB7 := Lib.hid hb
                    have HBK7 := Lib.hid hbk
                    clear hkp hb hbk HKP6 HB6 HBK6
                    go_upto_region 18 with (fail)
                    go_cut [99] (fun s wx => s = .bool (decide (j = 3 ∧ 0 < k.sl)) ∧ wc = wx)
                    case first =>
                      by_cases h2 : j = 3
                      · have h2I : ((j : Int) = 3) = True := by simp; omega
                        by_cases h0 : 0 < k.sl
                        · have h0I : ((0 : Int) < (k.sl : Int)) = True := by simp; omega
                          have hb2 : decide (j = 3 ∧ 0 < k.sl) = true := by simp; exact ⟨h2, h0⟩
                          have HBD := Lib.hid hb2
                          clear h2 h0 hb2
                          go_wp2_with fail
                          go_meet
                          exact ⟨by have q := HBD.out; (try rw [q]); (try (simp at q; simp; omega)), rfl⟩
                        · have h0I : ((0 : Int) < (k.sl : Int)) = False := by simp; omega
                          have hb2 : decide (j = 3 ∧ 0 < k.sl) = false := by simp; omega
                          have HBD := Lib.hid hb2
                          clear h2 h0 hb2
                          go_wp2_with fail
                          go_meet
                          exact ⟨by have q := HBD.out; (try rw [q]); (try (simp at q; simp; omega)), rfl⟩
                      · have h2I : ((j : Int) = 3) = False := by simp; omega
                        have hb2 : decide (j = 3 ∧ 0 < k.sl) = false := by simp; omega
                        have HBD := Lib.hid hb2
                        clear h2 hb2
                        go_wp2_with fail
                        go_meet
                        exact ⟨by have q := HBD.out; (try rw [q]); (try (simp at q; simp; omega)), rfl⟩
                    case rest =>
                      obtain ⟨rfl, rfl⟩ := hcut
                      go_upto_if 99 with (fail)
                      go_cut [] (fun wx => ∃ scs, KpI w2 w3 w4 wx m gu gv ns3 us3 vs3 a5 k.sl c5 scs ∧ Below w.heap.size w wx ∧ BkI wx w.heap.size w.heap.size ls2 ws2 ds2)
                      case first =>
                        cases hb2 : decide (j = 3 ∧ 0 < k.sl)
                        · go_wp2_with fail
                          go_meet
                          exact ⟨scs2, HKP7.out, HB7.out, HBK7.out⟩
                        · have h0 : 0 < k.sl := by simp at hb2; exact hb2.2
                          have hkp := HKP7.out
                          obtain ⟨gs, hgs, hgs1, hgs2⟩ := own_addr hkp.s h0
                          obtain ⟨x0, t, hst⟩ : ∃ x t, scs2 = x :: t := by
                            cases scs2 with
                            | nil => have := hkp.ls; simp at this; omega
                            | cons x t => exact ⟨x, t, rfl⟩
                          subst hgs
                          subst hst
                          have h0I : (0 : Int) < (k.sl : Int) := by omega
                          have c2 := own_at Nm_len2 hkp.s (k := 0) (x := x0) rfl 2 _ rfl
                          have f2 := hkp.s.frozenAt 2
                          simp only [Nat.zero_mul, Nat.zero_add] at c2
                          have HFL := Lib.hid hkp.sflip
                          have hbl : Below w.heap.size w (wc.setCell ⟨gs, 2, none⟩ (.bool (!x0.o))) := HB7.out.setCell (by show w.heap.size ≤ gs; omega) _
                          have HBL := Lib.hid hbl
                          clear hkp hgs1 hgs2 hbl h0
                          go_wp2_with fail
                          go_meet
                          exact ⟨_, HFL.out.2, HBL.out, HFL.out.1.bk (by decide) (by decide) (by decide) HBK7.out⟩
                      case rest =>
                        obtain ⟨scs3, hkp, hb, hbk⟩ := hcut
                        have z8 := hb.size
                        have HKP8 := Lib.hid hkp
                        have HB8 := Lib.hid hb
                        have HBK8 := Lib.hid hbk
                        have HT8 := Lib.hid (HT.out.below hb)
                        clear hkp hb hbk HKP7 HB7 HBK7
                        have hul : us3.length = m := HKP8.out.lu
                        have hvl : vs3.length = m := HKP8.out.lv
                        have hnl : ns3.length = m := HKP8.out.ln
                        have hscl : scs3.length = k.sl := HKP8.out.ls
                        have HLEN := Lib.hid (And.intro hul (And.intro hvl (And.intro hnl hscl)))
                        have HPN := Lib.hid (show ∀ (i : Nat) (x : Nd), i < m → ∃ nd, ns3[i]? = some nd from fun i _ hi => ⟨ns3[i]'(by omega), List.getElem?_eq_getElem (by omega)⟩)
                        have HU8 := Lib.hid (show RS 7 Nd.cs wc (some ⟨gu, 0, none⟩) m (m + 8) us3 by
                          have := (RS.of_owns HKP8.out.u (by decide) Nd_len2 (by omega)).cut
                          rwa [hul] at this)
                        have HUO8 := Lib.hid (show ∀ u ∈ us3, u.ok wc from fun u hu => by
                          obtain ⟨i, hi⟩ := List.getElem?_of_mem hu
                          obtain ⟨nd, hnd⟩ := HPN.out i u (by have := (List.getElem?_eq_some_iff.1 hi).1; omega)
                          have q := HKP8.out.ok nd (List.mem_of_getElem? hnd)
                          exact (HKP8.out.wu i u nd hi hnd).ok q.1 q.2.2.1)
                        have HS8 := Lib.hid (show RS 3 Nm.cs wc a5 k.sl c5 scs3 from RS.of_owns HKP8.out.s (by decide) Nm_len2 (by omega))
                        have HK := Lib.hid (show ofK us3 scs3 = ofK vs3 scs3 from (ofK_same us3 ns3 scs3 (by omega) (fun i u nd h1 h2 => (HKP8.out.wu i u nd h1 h2).core)).trans (ofK_same vs3 ns3 scs3 (by omega) (fun i u nd h1 h2 => (HKP8.out.wv i u nd h1 h2).core)).symm)
                        clear hul hvl hnl hscl
                        go_wp2_with fail
                        with_reducible refine (of_any wc (some ⟨gu, 0, none⟩) m (m + 8) us3 HU8.out HUO8.out a5 k.sl c5 scs3 HS8.out HT8.out.t HT8.out.r2 HT8.out.h2 (by omega)).mono ?_
                        rintro e w9 ⟨⟨xa, xc, rfl, hx⟩, hb9⟩
                        rw [HK.out] at hx ⊢
                        have z9 := hb9.size
                        have HX9 := Lib.hid hx
                        have HB89 := Lib.hid hb9
                        have HB9 := Lib.hid (HB8.out.trans (hb9.mono z8))
                        have HKP9 := Lib.hid (HKP8.out.below hb9)
                        have HBK9 := Lib.hid (HBK8.out.below hb9)
                        have HS9 := Lib.hid (HS8.out.below hb9)
                        clear hx hb9 HU8 HUO8
                        go_wp2_with fail
                        with_reducible refine (plain_any w9 a5 k.sl c5 scs3 HS9.out (by omega)).mono ?_
                        rintro e w10 ⟨⟨pa, pc, rfl, hp⟩, hb10⟩
                        have z10 := hb10.size
                        have HP := Lib.hid (show RS 3 Nm.cs w10 pa k.sl pc scs3 by have := RS.of_owns hp (by decide) Nm_len2 (by have := HLEN.out.2.2.2; omega); rwa [HLEN.out.2.2.2] at this)
                        have HB10 := Lib.hid (HB9.out.trans (hb10.mono (by omega)))
                        have HKP10 := Lib.hid (HKP9.out.below hb10)
                        have HBK10 := Lib.hid (HBK9.out.below hb10)
                        have HX10 := Lib.hid (own_below HX9.out hb10)
                        rw [HLEN.out.2.2.2]
                        clear hp hb10
                        have HV10 := Lib.hid (show RS 7 Nd.cs w10 (some ⟨gv, 0, none⟩) m (m + 8) vs3 by
                          have := (RS.of_owns HKP10.out.v (by decide) Nd_len2 (by omega)).cut
                          rwa [HLEN.out.2.1] at this)
                        have HVO10 := Lib.hid (show ∀ v ∈ vs3, v.ok w10 from fun v hv => by
                          obtain ⟨i, hi⟩ := List.getElem?_of_mem hv
                          obtain ⟨nd, hnd⟩ := HPN.out i v (by have := (List.getElem?_eq_some_iff.1 hi).1; have := HLEN.out.2.1; omega)
                          have q := HKP10.out.ok nd (List.mem_of_getElem? hnd)
                          exact (HKP10.out.wv i v nd hi hnd).ok q.2.1 q.2.2.1)
                        have HVS := Lib.hid (show ∀ v ∈ vs3, v.kl ≤ 20000 ∧ v.sl ≤ 20000 from fun v hv => by
                          obtain ⟨i, hi⟩ := List.getElem?_of_mem hv
                          obtain ⟨nd, hnd⟩ := HPN.out i v (by have := (List.getElem?_eq_some_iff.1 hi).1; have := HLEN.out.2.1; omega)
                          have q := HKP10.out.ok nd (List.mem_of_getElem? hnd)
                          obtain ⟨_, _, _, _, _, e6, e7, _⟩ := HKP10.out.wv i v nd hi hnd
                          rw [e6, e7]
                          exact q.2.2)
                        go_wp2_with fail
                        with_reducible refine (refof_any w10 (some ⟨gv, 0, none⟩) m (m + 8) vs3 HV10.out HVO10.out pa k.sl pc scs3 HP.out (HT.out.below HB10.out).r1 (by have := (HT.out.below HB10.out).h2; omega) (by omega) (fun nd hnd => by have := (HVS.out nd hnd).1; omega)).mono ?_
                        rintro e w11 ⟨⟨ya, yc, rfl, hy⟩, hb11⟩
                        have z11 := hb11.size
                        have HOL := Lib.hid (ofK_len vs3 scs3)
                        have HB11 := Lib.hid (HB10.out.trans (hb11.mono (by omega)))
                        have HKP11 := Lib.hid (HKP10.out.below hb11)
                        have HBK11 := Lib.hid (HBK10.out.below hb11)
                        have HX11 := Lib.hid (own_below HX10.out hb11)
                        have HY11 := Lib.hid (RS.of_owns hy (by decide) Kd_len (by have := HOL.out; have := HLEN.out.2.1; omega))
                        have HXR11 := Lib.hid (RS.of_owns (own_below HX10.out hb11) (by decide) Kd_len (by have := HOL.out; have := HLEN.out.2.1; omega))
                        clear hy hb11 HK
                        generalize ofK vs3 scs3 = R at *
                        obtain ⟨rk, at', er⟩ := R
                        go_wp2_with fail
                        with_reducible refine (alike_any w11 xa rk.length xc rk HXR11.out ya rk.length yc rk HY11.out).mono ?_
                        rintro e w12 ⟨rfl, hb12⟩
                        have z12 := hb12.size
                        have HB12 := Lib.hid (HB11.out.trans (hb12.mono (by omega)))
                        have HKP12 := Lib.hid (HKP11.out.below hb12)
                        have HBK12 := Lib.hid (HBK11.out.below hb12)
                        have HX12 := Lib.hid (own_below HX11.out hb12)
                        clear hb12
                        have HV12 := Lib.hid (show RS 7 Nd.cs w12 (some ⟨gv, 0, none⟩) m (m + 8) vs3 by
                          have := (RS.of_owns HKP12.out.v (by decide) Nd_len2 (by omega)).cut
                          rwa [HLEN.out.2.1] at this)
                        have HVO12 := Lib.hid (show ∀ v ∈ vs3, v.okS w12 from fun v hv => by
                          obtain ⟨i, hi⟩ := List.getElem?_of_mem hv
                          obtain ⟨nd, hnd⟩ := HPN.out i v (by have := (List.getElem?_eq_some_iff.1 hi).1; have := HLEN.out.2.1; omega)
                          have q := HKP12.out.ok nd (List.mem_of_getElem? hnd)
                          exact (HKP12.out.wv i v nd hi hnd).okS q.2.1 q.2.2.1 q.2.2.2)
                        have HWH := Lib.hid (show ∀ (i : Nat) (u nd : Nd), us3[i]? = some u → vs3[i]? = some nd → Who w12 w2.heap.size u nd from fun i u v h1 h2 => by
                          obtain ⟨nd, hnd⟩ := HPN.out i v (by have := (List.getElem?_eq_some_iff.1 h2).1; have := HLEN.out.2.1; omega)
                          have q := HKP12.out.ok nd (List.mem_of_getElem? hnd)
                          exact WhoI.pair (HKP12.out.wu i u nd h1 hnd) (HKP12.out.wv i v nd h2 hnd) HB23.out q.2.2.1 q.2.2.2)
                        go_wp2_with fail
                        with_reducible refine (left_any w12 w2.heap.size gu m us3 vs3 HKP12.out.u HLEN.out.1 (some ⟨gv, 0, none⟩) (m + 8) HV12.out HVO12.out HWH.out hm5 HVS.out).mono ?_
                        rintro e w13 ⟨rfl, hb13⟩
                        have z13 := hb13.size
                        have HB13 := Lib.hid (HB12.out.trans (hb13.mono (by omega)))
                        have HKP13 := Lib.hid (HKP12.out.below hb13)
                        have HBK13 := Lib.hid (HBK12.out.below hb13)
                        have HX13 := Lib.hid (own_below HX12.out hb13)
                        clear hb13
                        go_wp2_with fail
                        with_reducible refine (keep_any w13 w.heap.size w.heap.size ls2 ws2 ds2 HBK13.out (by have := HDS6.out; have := H30.out; omega) xa rk.length xc rk (own_mono HX13.out (by omega)) (by have := HOL.out; have := HLEN.out.2.1; omega) (HBK8.out.fresh HX13.out)).mono ?_
                        rintro e w14 ⟨rfl, ⟨u0, k0, -, hbk14⟩, hb14, hk14⟩
                        have HB14 := Lib.hid (HB13.out.trans hb14)
                        have HBK14 := Lib.hid hbk14
                        have HKP14 := Lib.hid (HKP13.out.keep5 hk14)
                        have HDL := Lib.hid (show ((ds2 ++ [rk]).drop k0).length ≤ 4 * i + (j + 1) by have := HDS6.out; simp; omega)
                        clear hbk14 hb14 hk14
                        go_wp2_with fail
                        go_roundw
                        case rel => exact ⟨j + 1, _, _, _, ns3, us3, vs3, scs3, by omega, by go_num, HB14.out, HBK14.out, HDL.out, HKP14.out⟩
                        case measure => simp [intOf] <;> omega
              · obtain rfl : j = 4 := by omega
                go_wp2_with fail
                go_roundw
                case rel => exact ⟨i + 1, ls2, ws2, ds2, by have := H30.out; omega, by omega, by go_num, HB6.out, HBK6.out, by have := HDS6.out; omega⟩
                case measure => have := H30.out; simp [intOf] <;> omega
      · have h30I : ((i : Int) < 30) = False := by simp; omega
        clear h30
        go_wp2_with fail
        with_reducible refine (apart_any wr w.heap.size w.heap.size ls ws ds HBK.out (by have := HDS.out; have := HI30.out; omega) zr).mono ?_
        rintro e w2 ⟨rfl, hb2⟩
        have HB2 := Lib.hid (HB.out.trans hb2)
        have HT2 := Lib.hid (HT.out.below HB2.out)
        clear hb2
        go_wp2_with fail
        with_reducible refine (known_any w2 HT2.out.t HT2.out.r2 HT2.out.h2).mono ?_
        rintro e w3 ⟨rfl, hb3⟩
        go_wp2
        go_ret
        exact ⟨rfl, HB2.out.trans (hb3.mono HB2.out.size)⟩
    · have hltI : ¬ (i : Int) < (n : Int) := by omega
      go_wp2_with fail
      with_reducible refine (apart_any wr w.heap.size w.heap.size ls ws ds HBK.out (by have := HDS.out; have := HI30.out; omega) zr).mono ?_
      rintro e w2 ⟨rfl, hb2⟩
      have HB2 := Lib.hid (HB.out.trans hb2)
      have HT2 := Lib.hid (HT.out.below HB2.out)
      clear hb2
      go_wp2_with fail
      with_reducible refine (known_any w2 HT2.out.t HT2.out.r2 HT2.out.h2).mono ?_
      rintro e w3 ⟨rfl, hb3⟩
      go_wp2
      go_ret
      exact ⟨rfl, HB2.out.trans (hb3.mono HB2.out.size)⟩
end Go.Proofs.YtakaoacialnjaaaDoor
