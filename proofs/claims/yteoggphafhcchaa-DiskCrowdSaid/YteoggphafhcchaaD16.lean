import Derived.Test.YteoggphafhcchaaD15
import Derived.Test.YteoggphafhcchaaIter
namespace Go.Proofs.Yteoggphafhcchaa
open Go Go.RowKit
set_option maxRecDepth 100000
set_option maxHeartbeats 1000000
set_option linter.unusedVariables false
set_option linter.unusedSimpArgs false
open Go.Maps Go.WideMaps Go.ChangeMaps
/-- What an image's making leaves alone: all but the disk's own three blocks. -/
structure Oi (gd nb sb : Nat) (w w' : World) : Prop where
  os : w'.os = w.os
  tape : w'.tape = w.tape
  output : w'.output = w.output
  size : w.heap.size ≤ w'.heap.size
  block : ∀ k, k < w.heap.size → k ≠ gd → k ≠ nb → k ≠ sb → w'.heap[k]? = w.heap[k]?
theorem Oi.refl (gd nb sb : Nat) (w : World) : Oi gd nb sb w w := ⟨rfl, rfl, rfl, Nat.le_refl _, fun _ _ _ _ _ => rfl⟩
theorem Oi.trans {gd nb sb : Nat} {a b c : World} (h : Oi gd nb sb a b) (k : Oi gd nb sb b c) : Oi gd nb sb a c :=
  ⟨k.os.trans h.os, k.tape.trans h.tape, k.output.trans h.output, Nat.le_trans h.size k.size, fun i hi h1 h2 h3 => (k.block i (Nat.lt_of_lt_of_le hi h.size) h1 h2 h3).trans (h.block i hi h1 h2 h3)⟩
theorem Oi.of_grown {gd nb sb : Nat} {a b : World} {row : Option Nat} (h : a.grownBy b row) (hr : ∀ k, row = some k → k = gd ∨ k = nb ∨ k = sb) : Oi gd nb sb a b :=
  ⟨h.os, h.tape, h.output, h.size, fun i hi h1 h2 h3 => h.block i hi (fun e => by rcases hr i e.symm with h | h | h <;> contradiction)⟩
theorem Oi.of_below {gd nb sb : Nat} {a b : World} (h : Below a.heap.size a b) : Oi gd nb sb a b := ⟨h.os, h.tape, h.output, h.size, fun i hi _ _ _ => h.block i hi⟩
theorem Oi.setCell {gd nb sb : Nat} (w : World) (o : Nat) (v : Value) : Oi gd nb sb w (w.setCell ⟨gd, o, none⟩ v) :=
  ⟨rfl, rfl, rfl, by simp, fun i hi h1 _ _ => heap_setCell_other w ⟨gd, o, none⟩ i v h1⟩
theorem Oi.below {gd nb sb B : Nat} {a b : World} (h : Oi gd nb sb a b) (h1 : B ≤ gd) (h2 : B ≤ nb) (h3 : B ≤ sb) (hB : B ≤ a.heap.size) : Below B a b :=
  ⟨h.os, h.tape, h.output, h.size, fun i hi => h.block i (by omega) (by omega) (by omega) (by omega)⟩
theorem New.nmap {w : World} {B gd n : Nat} {d : Dk} {D : DataW Unit} (h : New w B gd d n D) : gd ≠ d.nb ∧ gd ≠ d.sb := by
  obtain ⟨D2, h2⟩ := h.m2
  exact ⟨map_ne h.m h.g, map_ne h2 h.g⟩
/-- A step that turns none of the disk's blocks. -/
theorem New.below {w w' : World} {B gd n : Nat} {d : Dk} {D : DataW Unit} (h : New w B gd d n D) (hb : Below w.heap.size w w') : New w' B gd d n D := by
  obtain ⟨D2, h2⟩ := h.m2
  have hg := gwk hb
  exact ⟨(hb.block gd (Array.getElem?_eq_some_iff.1 h.g).1).trans h.g, h.hB, h.pw, h.pl, h.us, h.ac, h.m.kept hg (by simp), ⟨D2, h2.kept hg (by simp)⟩, h.ne, h.mB, h.sB, h.ch,
    fun s g hs => by obtain ⟨num, hf⟩ := h.ok s g hs; exact ⟨num, (hb.block g (Array.getElem?_eq_some_iff.1 hf).1).trans hf⟩⟩
/-- The disk's own block written: the same disk but for its counts. -/
theorem New.again {w w' : World} {B gd n : Nat} {d d' : Dk} {D : DataW Unit} (h : New w B gd d n D) (hg : w.grownBy w' (some gd)) (hd : w'.heap[gd]? = some d'.box) (e1 : d'.power = d.power) (e2 : d'.pl = d.pl) (e3 : d'.used = d.used) (e4 : d'.acts = d.acts) (e5 : d'.nb = d.nb) (e6 : d'.sb = d.sb) (e7 : d'.ch = d.ch) : New w' B gd d' n D := by
  obtain ⟨D2, h2⟩ := h.m2
  obtain ⟨n1, n2⟩ := h.nmap
  refine ⟨hd, h.hB, e1.trans h.pw, e2.trans h.pl, e3.trans h.us, e4.trans h.ac, ?_, ⟨D2, ?_⟩, ?_, ?_, ?_, e7.trans h.ch, fun s g hs => ?_⟩
  · rw [e5]; exact h.m.kept hg (fun e => n1 (Option.some.inj e).symm)
  · rw [e6]; exact h2.kept hg (fun e => n2 (Option.some.inj e).symm)
  · rw [e5, e6]; exact h.ne
  · rw [e5]; exact h.mB
  · rw [e6]; exact h.sB
  · obtain ⟨num, hf⟩ := h.ok s g hs
    refine ⟨num, (hg.block g (Array.getElem?_eq_some_iff.1 hf).1 (fun e => ?_)).trans hf⟩
    rw [Option.some.inj e, h.g] at hf; simp at hf
/-- One name laid in both maps. -/
theorem New.lay {w : World} {B gd n : Nat} {d : Dk} {D : DataW Unit} (h : New w B gd d n D) (hn : n < maxLen) {s : ByteArray} (hs : s.size ≤ maxLen) {g : Nat} (hf : FileE w g) :
    ∃ (v0 st v1 st1 : Value) (w1 w2 w3 w4 : World), (Instr.mapEntry 37 (.map (some d.nb)) (.string s)).run Try.prog w = .ok (.tuple #[v0, st]) w1 ∧
      (Instr.entryStore 37 (.map (some d.nb)) st (.pointer (some ⟨g, 0, none⟩))).run Try.prog w1 = .ok () w2 ∧
      (Instr.mapEntry 37 (.map (some d.sb)) (.string s)).run Try.prog w2 = .ok (.tuple #[v1, st1]) w3 ∧
      (Instr.entryStore 37 (.map (some d.sb)) st1 (.pointer (some ⟨g, 0, none⟩))).run Try.prog w3 = .ok () w4 ∧
      New w4 B gd d (n + 1) (D.put (kL s) (.lit (.int .i64 g))) ∧ Oi gd d.nb d.sb w w4 ∧ FileE w4 g := by
  obtain ⟨D2, h2⟩ := h.m2
  obtain ⟨n1, n2⟩ := h.nmap
  have hne := h.ne
  obtain ⟨v0, st, w1, r1, g1, k1⟩ := entry_own h.m hn hs
  obtain ⟨w2, r2, m2, g2⟩ := k1 g w1 rfl
  have h22 := (h2.kept g1 (fun e => hne (Option.some.inj e).symm)).kept g2 (fun e => hne (Option.some.inj e).symm)
  obtain ⟨v1, st1, w3, r3, g3, k3⟩ := entry_own h22 hn hs
  obtain ⟨w4, r4, m4, g4⟩ := k3 g w3 rfl
  have o : Oi gd d.nb d.sb w w4 := (((Oi.of_grown g1 (fun k e => .inr (.inl (Option.some.inj e).symm))).trans (Oi.of_grown g2 (fun k e => .inr (.inl (Option.some.inj e).symm)))).trans (Oi.of_grown g3 (fun k e => .inr (.inr (Option.some.inj e).symm)))).trans (Oi.of_grown g4 (fun k e => .inr (.inr (Option.some.inj e).symm)))
  have keep : ∀ (k : Nat) (cs : Array Value) (t : TypeId) (fz : Nat × Nat), w.heap[k]? = some (.cells cs t fz) → w4.heap[k]? = some (.cells cs t fz) := by
    intro k cs t fz hk
    have q1 : k ≠ d.nb := map_ne h.m hk
    have q2 : k ≠ d.sb := map_ne h2 hk
    have y1 := (g1.block k (Array.getElem?_eq_some_iff.1 hk).1 (fun e => q1 (Option.some.inj e))).trans hk
    have y2 := (g2.block k (Array.getElem?_eq_some_iff.1 y1).1 (fun e => q1 (Option.some.inj e))).trans y1
    have y3 := (g3.block k (Array.getElem?_eq_some_iff.1 y2).1 (fun e => q2 (Option.some.inj e))).trans y2
    exact (g4.block k (Array.getElem?_eq_some_iff.1 y3).1 (fun e => q2 (Option.some.inj e))).trans y3
  have fk : ∀ {g : Nat}, FileE w g → FileE w4 g := fun ⟨num, hf⟩ => ⟨num, keep _ _ _ _ hf⟩
  refine ⟨v0, st, v1, st1, w1, w2, w3, w4, r1, r2, r3, r4, ⟨keep _ _ _ _ h.g, h.hB, h.pw, h.pl, h.us, h.ac, (m2.kept g3 (fun e => hne (Option.some.inj e))).kept g4 (fun e => hne (Option.some.inj e)), ⟨_, m4⟩, hne, h.mB, h.sB, h.ch, fun t g' ht => ?_⟩, o, fk hf⟩
  rw [at_put h.m.isMap] at ht
  split at ht
  · have : (g : Int) = g' := by simpa using ht
    obtain rfl : g = g' := by omega
    exact fk hf
  · exact fk (h.ok t g' ht)
end Go.Proofs.Yteoggphafhcchaa
