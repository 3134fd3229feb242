import Derived.Test.YteoggphafhcchaaGreatM2
import Derived.Maps.OwnSet
namespace Go.Proofs.YteoggphafhcchaaGreat
open Go Go.RowKit
set_option maxRecDepth 100000
set_option maxHeartbeats 1000000
set_option linter.unusedVariables false
set_option linter.unusedSimpArgs false
open Go.Maps Go.WideMaps
/-! The disk in memory. A label for each block: 0: not the disk's; 1 its own; 2 names; 3 safe names; 4 claims; 5 changes; 6 never written; and of the file i: 7 + 4 i itself, then its bytes, its safe bytes, its runs. -/
structure Lay where
  ρ : Nat → Nat
  fa : Nat → Nat
  nb : Nat
  sb : Nat
  cb : Nat
  ch : Value
  pl : Value
/-- Blocks with labels in S alone are written. -/
structure Only (ρ : Nat → Nat) (S : Nat → Prop) (w w' : World) : Prop where
  os : w'.os = w.os
  tape : w'.tape = w.tape
  output : w'.output = w.output
  size : w.heap.size ≤ w'.heap.size
  block : ∀ k, k < w.heap.size → ¬ S (ρ k) → w'.heap[k]? = w.heap[k]?
theorem Only.refl (ρ : Nat → Nat) (S : Nat → Prop) (w : World) : Only ρ S w w := ⟨rfl, rfl, rfl, Nat.le_refl _, fun _ _ _ => rfl⟩
theorem Only.trans {ρ : Nat → Nat} {S : Nat → Prop} {a b c : World} (h : Only ρ S a b) (k : Only ρ S b c) : Only ρ S a c :=
  ⟨k.os.trans h.os, k.tape.trans h.tape, k.output.trans h.output, Nat.le_trans h.size k.size, fun i hi hs => (k.block i (Nat.lt_of_lt_of_le hi h.size) hs).trans (h.block i hi hs)⟩
theorem Only.mono {ρ : Nat → Nat} {S S' : Nat → Prop} {a b : World} (h : Only ρ S a b) (hs : ∀ r, S r → S' r) : Only ρ S' a b := ⟨h.os, h.tape, h.output, h.size, fun i hi hn => h.block i hi (fun e => hn (hs _ e))⟩
theorem Only.of_below {ρ : Nat → Nat} {S : Nat → Prop} {a b : World} (h : Below a.heap.size a b) : Only ρ S a b := ⟨h.os, h.tape, h.output, h.size, fun i hi _ => h.block i hi⟩
theorem Only.of_grown {ρ : Nat → Nat} {S : Nat → Prop} {a b : World} {row : Option Nat} (h : a.grownBy b row) (hr : ∀ k, row = some k → S (ρ k)) : Only ρ S a b :=
  ⟨h.os, h.tape, h.output, h.size, fun i hi hn => h.block i hi (fun e => hn (hr i e.symm))⟩
theorem Only.setCell {ρ : Nat → Nat} {S : Nat → Prop} (w : World) (b o : Nat) (v : Value) (hs : S (ρ b)) : Only ρ S w (w.setCell ⟨b, o, none⟩ v) :=
  ⟨rfl, rfl, rfl, by simp, fun i hi hn => heap_setCell_other w ⟨b, o, none⟩ i v (fun e => hn (by rw [e]; exact hs))⟩
/-- The label of one more block. -/
def put1 (ρ : Nat → Nat) (k r : Nat) : Nat → Nat := fun j => if j = k then r else ρ j
/-- Labels grow: what bore one bears it still, and new blocks alone come by one. -/
structure Ext (n : Nat) (ρ ρ' : Nat → Nat) : Prop where
  same : ∀ k, ρ k ≠ 0 → ρ' k = ρ k
  old : ∀ k, k < n → ρ k = 0 → ρ' k = 0
theorem Ext.refl (n : Nat) (ρ : Nat → Nat) : Ext n ρ ρ := ⟨fun _ _ => rfl, fun _ _ h => h⟩
theorem Ext.trans {n m : Nat} {a b c : Nat → Nat} (h : Ext n a b) (k : Ext m b c) (hm : n ≤ m) : Ext n a c :=
  ⟨fun j hj => (k.same j (by rw [h.same j hj]; exact hj)).trans (h.same j hj), fun j hj h0 => k.old j (by omega) (h.old j hj h0)⟩
theorem Ext.put {n : Nat} {ρ : Nat → Nat} {k : Nat} (r : Nat) (h0 : ρ k = 0) (hk : n ≤ k) : Ext n ρ (put1 ρ k r) :=
  ⟨fun j hj => by unfold put1; rw [if_neg (by rintro rfl; exact hj h0)], fun j hj h => by unfold put1; rw [if_neg (by omega)]; exact h⟩
/-- What a call on the disk leaves alone. -/
structure Upd (ρ ρ' : Nat → Nat) (w w' : World) : Prop where
  os : w'.os = w.os
  tape : w'.tape = w.tape
  output : w'.output = w.output
  size : w.heap.size ≤ w'.heap.size
  block : ∀ k, k < w.heap.size → ρ k = 0 → w'.heap[k]? = w.heap[k]?
  ext : Ext w.heap.size ρ ρ'
theorem Upd.refl (ρ : Nat → Nat) (w : World) : Upd ρ ρ w w := ⟨rfl, rfl, rfl, Nat.le_refl _, fun _ _ _ => rfl, Ext.refl _ _⟩
theorem Upd.trans {ρ1 ρ2 ρ3 : Nat → Nat} {a b c : World} (h : Upd ρ1 ρ2 a b) (k : Upd ρ2 ρ3 b c) : Upd ρ1 ρ3 a c :=
  ⟨k.os.trans h.os, k.tape.trans h.tape, k.output.trans h.output, Nat.le_trans h.size k.size, fun i hi h0 => (k.block i (Nat.lt_of_lt_of_le hi h.size) (h.ext.old i hi h0)).trans (h.block i hi h0), h.ext.trans k.ext h.size⟩
theorem Upd.of_only {ρ ρ' : Nat → Nat} {S : Nat → Prop} {a b : World} (h : Only ρ S a b) (h0 : ¬ S 0) (he : Ext a.heap.size ρ ρ') : Upd ρ ρ' a b :=
  ⟨h.os, h.tape, h.output, h.size, fun i hi hn => h.block i hi (by rw [hn]; exact h0), he⟩
theorem Upd.of_below {ρ : Nat → Nat} {a b : World} (h : Below a.heap.size a b) : Upd ρ ρ a b := ⟨h.os, h.tape, h.output, h.size, fun i hi _ => h.block i hi, Ext.refl _ _⟩
theorem Upd.below {ρ ρ' : Nat → Nat} {a b : World} {B : Nat} (h : Upd ρ ρ' a b) (hB : B ≤ a.heap.size) (h0 : ∀ k, k < B → ρ k = 0) : Below B a b := ⟨h.os, h.tape, h.output, h.size, fun i hi => h.block i (by omega) (h0 i hi)⟩
theorem Upd.low {ρ ρ' : Nat → Nat} {a b : World} {B : Nat} (h : Upd ρ ρ' a b) (hB : B ≤ a.heap.size) (h0 : ∀ k, k < B → ρ k = 0) : ∀ k, k < B → ρ' k = 0 := fun k hk => h.ext.old k (by omega) (h0 k hk)
/-- A row that is the disk's own, by its label. -/
def OwnL (w : World) (ρ : Nat → Nat) (e s r : Nat) (v : Value) (n : Nat) (xs : List Value) : Prop := w.ownsRow 0 e s v n xs ∧ ∀ k, v.ownBlock = some k → ρ k = r
theorem own_same {w w' : World} {B e s n : Nat} {v : Value} {xs : List Value} (h : w.ownsRow B e s v n xs) (hs : ∀ k, v.ownBlock = some k → w'.heap[k]? = w.heap[k]?) : w'.ownsRow B e s v n xs := by
  refine ⟨h.1, ?_⟩
  rcases h.2 with h2 | ⟨g, cap, cur, hv, hb, hg, hr⟩
  · exact .inl h2
  · exact .inr ⟨g, cap, cur, hv, hb, (hs g (by rw [hv]; rfl)).trans hg, hr⟩
theorem OwnL.keep {w w' : World} {ρ ρ' : Nat → Nat} {e s r n : Nat} {v : Value} {xs : List Value} (h : OwnL w ρ e s r v n xs) (hk : ∀ k, ρ k = r → w'.heap[k]? = w.heap[k]?) (hρ : ∀ k, ρ k = r → ρ' k = r) : OwnL w' ρ' e s r v n xs :=
  ⟨own_same h.1 (fun k e => hk k (h.2 k e)), fun k e => hρ k (h.2 k e)⟩
theorem OwnL.nil (w : World) (ρ : Nat → Nat) (e s r : Nat) : OwnL w ρ e s r (.slice none 0 0) 0 [] := ⟨⟨by simp, .inl ⟨rfl, rfl⟩⟩, fun k e => by cases e⟩
/-- Bytes that nobody writes. -/
def RdL (w : World) (ρ : Nat → Nat) (v : Value) (l : List UInt8) : Prop := ∃ a c, v = .slice a l.length c ∧ R8 w a l.length c l ∧ ∀ b off, a = some ⟨b, off, none⟩ → 0 < l.length → ρ b = 6
theorem R8.same {w w' : World} {a : Option Addr} {n c : Nat} {l : List UInt8} (h : R8 w a n c l) (hs : ∀ b off, a = some ⟨b, off, none⟩ → 0 < n → w'.heap[b]? = w.heap[b]?) : R8 w' a n c l := by
  obtain ⟨h1, h2, h3, h4⟩ := h
  refine ⟨h1, h2, h3, fun i hi => ?_⟩
  obtain ⟨b, off, e, hc⟩ := h4 i hi
  exact ⟨b, off, e, (World.cell?_of_block (hs b off e (by omega))).trans hc⟩
theorem RdL.keep {w w' : World} {ρ ρ' : Nat → Nat} {v : Value} {l : List UInt8} (h : RdL w ρ v l) (hk : ∀ k, ρ k = 6 → w'.heap[k]? = w.heap[k]?) (hρ : ∀ k, ρ k = 6 → ρ' k = 6) : RdL w' ρ' v l := by
  obtain ⟨a, c, hv, hr, hl⟩ := h
  exact ⟨a, c, hv, hr.same (fun b off e h0 => hk b (hl b off e h0)), fun b off e h0 => hρ b (hl b off e h0)⟩
def runV (p : Value × Int) : List Value := [p.1, .int .i64 p.2]
def RunsAt (w : World) (ρ : Nat → Nat) (r : Nat) (v : Value) (l : List Run) : Prop :=
  ∃ rs : List (Value × Int), rs.length = l.length ∧ OwnL w ρ 86 2 r v l.length (rs.flatMap runV) ∧ ∀ (k : Nat) (p : Value × Int) (u : Run), rs[k]? = some p → l[k]? = some u → p.2 = (u.cut : Int) ∧ RdL w ρ p.1 u.laid
theorem RunsAt.keep {w w' : World} {ρ ρ' : Nat → Nat} {r : Nat} {v : Value} {l : List Run} (h : RunsAt w ρ r v l) (hk : ∀ k, ρ k = r ∨ ρ k = 6 → w'.heap[k]? = w.heap[k]?) (hρ : ∀ k, ρ k = r ∨ ρ k = 6 → ρ' k = ρ k) : RunsAt w' ρ' r v l := by
  obtain ⟨rs, h1, h2, h3⟩ := h
  exact ⟨rs, h1, h2.keep (fun k e => hk k (.inl e)) (fun k e => (hρ k (.inl e)).trans e), fun k p u hp hu => ⟨(h3 k p u hp hu).1, (h3 k p u hp hu).2.keep (fun k e => hk k (.inr e)) (fun k e => (hρ k (.inr e)).trans e)⟩⟩
theorem RunsAt.nil (w : World) (ρ : Nat → Nat) (r : Nat) : RunsAt w ρ r (.slice none 0 0) [] := ⟨[], rfl, OwnL.nil _ _ _ _ _, fun k p u h => by simp at h⟩
abbrev boxFile (i : Nat) (vn vs vl : Value) : Obj := .cells #[.int .i64 ((i : Int) + 1), vn, vs, vl] 84
structure FAt (w : World) (ρ : Nat → Nat) (i g : Nat) (f : Fl) (vn vs vl : Value) : Prop where
  box : w.heap[g]? = some (boxFile i vn vs vl)
  lg : ρ g = 7 + 4 * i
  now : OwnL w ρ 5 1 (8 + 4 * i) vn f.now.length (f.now.map b8)
  safe : OwnL w ρ 5 1 (9 + 4 * i) vs f.safe.length (f.safe.map b8)
  loose : RunsAt w ρ (10 + 4 * i) vl f.loose
theorem FAt.keep {w w' : World} {ρ ρ' : Nat → Nat} {i g : Nat} {f : Fl} {vn vs vl : Value} (h : FAt w ρ i g f vn vs vl) (hk : ∀ k, ρ k = 6 ∨ (7 + 4 * i ≤ ρ k ∧ ρ k ≤ 10 + 4 * i) → w'.heap[k]? = w.heap[k]?) (hρ : ∀ k, ρ k ≠ 0 → ρ' k = ρ k) : FAt w' ρ' i g f vn vs vl :=
  ⟨(hk g (.inr (by rw [h.lg]; omega))).trans h.box, (hρ g (by rw [h.lg]; omega)).trans h.lg, h.now.keep (fun k e => hk k (.inr (by omega))) (fun k e => (hρ k (by omega)).trans e),
    h.safe.keep (fun k e => hk k (.inr (by omega))) (fun k e => (hρ k (by omega)).trans e), h.loose.keep (fun k e => hk k (by omega)) (fun k e => hρ k (by omega))⟩
/-- A map of names to files. -/
def NAt (w : World) (ρ : Nat → Nat) (r : Nat) (fa : Nat → Nat) (b : Nat) (m : List (Nm × Nat)) : Prop :=
  ∃ D : DataW Unit, w.ownsMap Tryz.prog 9 ptrR b m.length D ∧ ρ b = r ∧ size D = m.length ∧ ∀ s : Nm, D.atKey (.string s) .nil = (match lk m s with | none => .nil | some i => .lit (.int .i64 (fa i : Nat))) ∧ has D (.string s) = (lk m s).isSome
theorem NAt.keep {w w' : World} {ρ ρ' : Nat → Nat} {r : Nat} {fa fa' : Nat → Nat} {b : Nat} {m : List (Nm × Nat)} (h : NAt w ρ r fa b m) (hk : ∀ k, ρ k = r → w'.heap[k]? = w.heap[k]?) (hρ : ∀ k, ρ k = r → ρ' k = r) (hf : ∀ s i, lk m s = some i → fa' i = fa i) : NAt w' ρ' r fa' b m := by
  obtain ⟨D, ⟨es, ck, hb, hr⟩, h1, h2, h3⟩ := h
  refine ⟨D, ⟨es, ck, (hk b h1).trans hb, hr⟩, hρ b h1, h2, fun s => ⟨(h3 s).1.trans ?_, (h3 s).2⟩⟩
  cases e : lk m s with
  | none => rfl
  | some i => simp only [hf s i e]
theorem NAt.lt {w : World} {ρ : Nat → Nat} {r : Nat} {fa : Nat → Nat} {b : Nat} {m : List (Nm × Nat)} (h : NAt w ρ r fa b m) : b < w.heap.size ∧ ρ b = r := by
  obtain ⟨D, hm, h1, -⟩ := h
  exact ⟨hm.lt, h1⟩
def madeV (fa : Nat → Nat) : Option Nat → Value
  | none => .pointer none
  | some i => .pointer (some ⟨fa i, 0, none⟩)
def chV (fa : Nat → Nat) (c : Chg) : List Value := [.string (bs c.src), .string (bs c.dst), madeV fa c.made]
def fltV (f : Flt) : List Value := [.int .i64 f.step, .int .i64 f.kind, .int .i64 f.part]
def PlAt (w : World) (ρ : Nat → Nat) (v : Value) (l : List Flt) : Prop := ∃ a c, v = .slice a l.length c ∧ RS 3 fltV w a l.length c l ∧ ∀ b off, a = some ⟨b, off, none⟩ → 0 < l.length → ρ b = 6
theorem PlAt.keep {w w' : World} {ρ ρ' : Nat → Nat} {v : Value} {l : List Flt} (h : PlAt w ρ v l) (hk : ∀ k, ρ k = 6 → w'.heap[k]? = w.heap[k]?) (hρ : ∀ k, ρ k = 6 → ρ' k = 6) : PlAt w' ρ' v l := by
  obtain ⟨a, c, hv, ⟨h1, h2, h3, h4⟩, hl⟩ := h
  refine ⟨a, c, hv, ⟨h1, h2, h3, fun i x hx => ?_⟩, fun b off e h0 => hρ b (hl b off e h0)⟩
  obtain ⟨b, off, e, hc⟩ := h4 i x hx
  have h0 : 0 < l.length := by have := (List.getElem?_eq_some_iff.1 hx).1; omega
  exact ⟨b, off, e, fun j u hu => (World.cell?_of_block (hk b (hl b off e h0))).trans (hc j u hu)⟩
theorem PlAt.nil (w : World) (ρ : Nat → Nat) : PlAt w ρ (.slice none 0 0) [] := ⟨none, 0, rfl, ⟨rfl, Nat.le_refl _, by simp, fun i x h => by simp at h⟩, fun b off e => by cases e⟩
def ClAt (w : World) (ρ : Nat → Nat) (b : Nat) (m : List (Nm × Int)) : Prop :=
  ∃ D : DataW Unit, w.ownsMap Tryz.prog 9 (plainElem Tryz.prog 3) b m.length D ∧ ρ b = 4 ∧ ∀ s : Nm, D.atKey (.string s) (.lit (.int .i64 0)) = .lit (.int .i64 ((lk m s).getD 0)) ∧ has D (.string s) = (lk m s).isSome
theorem ClAt.keep {w w' : World} {ρ ρ' : Nat → Nat} {b : Nat} {m : List (Nm × Int)} (h : ClAt w ρ b m) (hk : ∀ k, ρ k = 4 → w'.heap[k]? = w.heap[k]?) (hρ : ∀ k, ρ k = 4 → ρ' k = 4) : ClAt w' ρ' b m := by
  obtain ⟨D, ⟨es, ck, hb, hr⟩, h1, h3⟩ := h
  exact ⟨D, ⟨es, ck, (hk b h1).trans hb, hr⟩, hρ b h1, h3⟩
abbrev boxDisk (L : Lay) (d : Dm) : Obj := .cells #[.int .i64 (d.acts : Int), .int .i64 d.space, .int .i64 d.used, .int .i64 (d.fs.length : Int), .int .i64 (d.epoch : Int), .bool d.power, .map (some L.nb), .map (some L.sb), L.ch, L.pl, .map (some L.cb)] 48
/-- The disk d, at gd, laid out as L says. -/
structure DAt (w : World) (L : Lay) (gd : Nat) (d : Dm) : Prop where
  g : w.heap[gd]? = some (boxDisk L d)
  lg : L.ρ gd = 1
  dom : ∀ k, L.ρ k ≠ 0 → k < w.heap.size
  nm : NAt w L.ρ 2 L.fa L.nb d.names
  sf : NAt w L.ρ 3 L.fa L.sb d.safe
  cl : ClAt w L.ρ L.cb d.claims
  ch : OwnL w L.ρ 79 3 5 L.ch d.changes.length (d.changes.flatMap (chV L.fa))
  pl : PlAt w L.ρ L.pl d.plan
  fs : ∀ i f, d.fs[i]? = some f → ∃ vn vs vl, FAt w L.ρ i (L.fa i) f vn vs vl
/-- What is not written stays. -/
theorem DAt.stays {w w' : World} {L : Lay} {gd : Nat} {d : Dm} (h : DAt w L gd d) (hs : w.heap.size ≤ w'.heap.size) (hk : ∀ k, L.ρ k ≠ 0 → w'.heap[k]? = w.heap[k]?) : DAt w' L gd d := by
  have hk' : ∀ r, r ≠ 0 → ∀ k, L.ρ k = r → w'.heap[k]? = w.heap[k]? := fun r hr k e => hk k (by rw [e]; exact hr)
  refine ⟨(hk gd (by rw [h.lg]; omega)).trans h.g, h.lg, fun k e => Nat.lt_of_lt_of_le (h.dom k e) hs, h.nm.keep (hk' 2 (by omega)) (fun _ e => e) (fun _ _ _ => rfl), h.sf.keep (hk' 3 (by omega)) (fun _ e => e) (fun _ _ _ => rfl),
    h.cl.keep (hk' 4 (by omega)) (fun _ e => e), h.ch.keep (hk' 5 (by omega)) (fun _ e => e), h.pl.keep (hk' 6 (by omega)) (fun _ e => e), fun i f hf => ?_⟩
  obtain ⟨vn, vs, vl, hx⟩ := h.fs i f hf
  exact ⟨vn, vs, vl, hx.keep (fun k e => hk k (by omega)) (fun _ _ => rfl)⟩
theorem DAt.below {w w' : World} {L : Lay} {gd : Nat} {d : Dm} (h : DAt w L gd d) (hb : Below w.heap.size w w') : DAt w' L gd d := h.stays hb.size (fun k e => hb.block k (h.dom k e))
theorem DAt.lt {w : World} {L : Lay} {gd : Nat} {d : Dm} (h : DAt w L gd d) : gd < w.heap.size := (Array.getElem?_eq_some_iff.1 h.g).1
/-- Another disk's call. -/
theorem DAt.other {w w' : World} {L : Lay} {gd : Nat} {d : Dm} {ρ ρ' : Nat → Nat} (h : DAt w L gd d) (hu : Upd ρ ρ' w w') (hs : ∀ k, L.ρ k ≠ 0 → ρ k = 0) : DAt w' L gd d ∧ ∀ k, L.ρ k ≠ 0 → ρ' k = 0 :=
  ⟨h.stays hu.size (fun k e => hu.block k (h.dom k e) (hs k e)), fun k e => hu.ext.old k (h.dom k e) (hs k e)⟩
/-- The disk's own cells. -/
theorem DAt.cells {w : World} {L : Lay} {gd : Nat} {d : Dm} (h : DAt w L gd d) :
    w.cell? ⟨gd, 0, none⟩ = some (.int .i64 d.acts) ∧ w.cell? ⟨gd, 1, none⟩ = some (.int .i64 d.space) ∧ w.cell? ⟨gd, 2, none⟩ = some (.int .i64 d.used) ∧ w.cell? ⟨gd, 3, none⟩ = some (.int .i64 d.fs.length) ∧ w.cell? ⟨gd, 4, none⟩ = some (.int .i64 d.epoch) ∧ w.cell? ⟨gd, 5, none⟩ = some (.bool d.power) ∧
    w.cell? ⟨gd, 6, none⟩ = some (.map (some L.nb)) ∧ w.cell? ⟨gd, 7, none⟩ = some (.map (some L.sb)) ∧ w.cell? ⟨gd, 8, none⟩ = some L.ch ∧ w.cell? ⟨gd, 9, none⟩ = some L.pl ∧ w.cell? ⟨gd, 10, none⟩ = some (.map (some L.cb)) ∧ ∀ o, w.frozen? ⟨gd, o, none⟩ = false := by
  have h := h.g
  refine ⟨?_, ?_, ?_, ?_, ?_, ?_, ?_, ?_, ?_, ?_, ?_, fun o => frozen_of_row w gd o _ _ h⟩ <;> (rw [cell_of_row _ _ _ _ _ _ h]; rfl)
/-- The disk's own block written alone. -/
theorem DAt.own1 {w w' : World} {L : Lay} {gd : Nat} {d d' : Dm} (h : DAt w L gd d) (ho : Only L.ρ (· = 1) w w') (hg : w'.heap[gd]? = some (boxDisk L d')) (e1 : d'.fs = d.fs) (e2 : d'.names = d.names) (e3 : d'.safe = d.safe) (e4 : d'.changes = d.changes) (e5 : d'.plan = d.plan) (e6 : d'.claims = d.claims) : DAt w' L gd d' := by
  have hk : ∀ k, L.ρ k ≠ 0 → L.ρ k ≠ 1 → w'.heap[k]? = w.heap[k]? := fun k h0 h1 => ho.block k (h.dom k h0) h1
  refine ⟨hg, h.lg, fun k e => Nat.lt_of_lt_of_le (h.dom k e) ho.size, by rw [e2]; exact h.nm.keep (fun k e => hk k (by omega) (by omega)) (fun _ e => e) (fun _ _ _ => rfl), by rw [e3]; exact h.sf.keep (fun k e => hk k (by omega) (by omega)) (fun _ e => e) (fun _ _ _ => rfl),
    by rw [e6]; exact h.cl.keep (fun k e => hk k (by omega) (by omega)) (fun _ e => e), by rw [e4]; exact h.ch.keep (fun k e => hk k (by omega) (by omega)) (fun _ e => e), by rw [e5]; exact h.pl.keep (fun k e => hk k (by omega) (by omega)) (fun _ e => e), fun i f hf => ?_⟩
  rw [e1] at hf
  obtain ⟨vn, vs, vl, hx⟩ := h.fs i f hf
  exact ⟨vn, vs, vl, hx.keep (fun k e => hk k (by omega) (by omega)) (fun _ _ => rfl)⟩
/-- A file's blocks written (labels of file i), the file laid anew. -/
theorem DAt.file1 {w w' : World} {L : Lay} {ρ' : Nat → Nat} {gd i : Nat} {d : Dm} (h : DAt w L gd d) (hi : i < d.fs.length) (ho : Only L.ρ (fun r => 7 + 4 * i ≤ r ∧ r ≤ 10 + 4 * i) w w') (he : Ext w.heap.size L.ρ ρ') (hd : ∀ k, ρ' k ≠ 0 → k < w'.heap.size) {f : Fl} {vn vs vl : Value} (hf : FAt w' ρ' i (L.fa i) f vn vs vl) :
    DAt w' { L with ρ := ρ' } gd (d.setF i f) := by
  have hk : ∀ k, L.ρ k ≠ 0 → (L.ρ k < 7 + 4 * i ∨ 10 + 4 * i < L.ρ k) → w'.heap[k]? = w.heap[k]? := fun k h0 h1 => ho.block k (h.dom k h0) (by omega)
  have hs : ∀ r, r ≠ 0 → ∀ k, L.ρ k = r → ρ' k = r := fun r hr k e => (he.same k (by omega)).trans e
  refine ⟨?_, hs 1 (by omega) gd h.lg, hd, h.nm.keep (fun k e => hk k (by omega) (by omega)) (hs 2 (by omega)) (fun _ _ _ => rfl), h.sf.keep (fun k e => hk k (by omega) (by omega)) (hs 3 (by omega)) (fun _ _ _ => rfl), h.cl.keep (fun k e => hk k (by omega) (by omega)) (hs 4 (by omega)), h.ch.keep (fun k e => hk k (by omega) (by omega)) (hs 5 (by omega)), h.pl.keep (fun k e => hk k (by omega) (by omega)) (hs 6 (by omega)), fun j g hg => ?_⟩
  · have hlen : (d.setF i f).fs.length = d.fs.length := by simp [Dm.setF]
    have := (hk gd (by rw [h.lg]; omega) (by rw [h.lg]; omega)).trans h.g
    simpa [boxDisk, Dm.setF] using this
  · by_cases hj : j = i
    · subst hj
      have : (d.fs.set j f)[j]? = some f := by simp [hi]
      obtain rfl : f = g := by simpa [Dm.setF, hi] using hg
      exact ⟨vn, vs, vl, hf⟩
    · have hg' : d.fs[j]? = some g := by simpa [Dm.setF, List.getElem?_set, Ne.symm hj] using hg
      obtain ⟨a, b, c, hx⟩ := h.fs j g hg'
      exact ⟨a, b, c, hx.keep (fun k e => hk k (by omega) (by omega)) (fun k e => he.same k e)⟩
end Go.Proofs.YteoggphafhcchaaGreat
