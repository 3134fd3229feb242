import Derived.Test.YteoggphafhcchaaD9
namespace Go.Proofs.Yteoggphafhcchaa
open Go Go.RowKit
set_option maxRecDepth 100000
set_option maxHeartbeats 4000000
set_option linter.unusedVariables false
set_option linter.unusedSimpArgs false
open Go.Maps Go.WideMaps
theorem keepo {w w' : World} {gd nb : Nat} (h : Ot gd nb w w') {b : Nat} (h1 : b ≠ gd) (h2 : b ≠ nb) {cs : Array Value} {t : TypeId} {fz : Nat × Nat} (hb : w.heap[b]? = some (.cells cs t fz)) (ht : t ≠ 73) : w'.heap[b]? = some (.cells cs t fz) :=
  (h.2 b (Array.getElem?_eq_some_iff.1 hb).1 h1 h2 (fun cs' fz' e => by rw [hb] at e; simp at e; exact ht e.2.1)).trans hb
theorem St.filed {w w' : World} {B gd : Nat} {d : Dk} {q n : Nat} {D : DataW Unit} (h : St w B gd d q n D) {x : Int} (hg : w'.heap[gd]? = some ({ d with files := x } : Dk).box) (hgr : w.grownBy w' (some gd)) :
    St w' B gd { d with files := x } q n D ∧ Ot gd d.nb w w' := by
  have ho : Ot gd d.nb w w' := Ot.of_grown hgr (fun k hk => .inl (Option.some.inj hk).symm)
  have hne : gd ≠ d.nb := map_ne h.m h.g
  refine ⟨⟨hg, h.hB, h.pw, h.pl, h.us, h.m.kept hgr (fun e => hne (Option.some.inj e).symm), h.mB, ?_, fun s g hs => ho.file h.g h.m (h.ok s g hs)⟩, ho⟩
  obtain ⟨xs, hx⟩ := h.ch
  refine ⟨xs, hx.kept hgr ?_⟩
  cases hob : d.ch.ownBlock with
  | none => exact .inl rfl
  | some k =>
    obtain ⟨cs, hc⟩ := own_type hx hob
    refine .inr fun e => ?_
    rw [Option.some.inj e, h.g] at hc; simp at hc
theorem St.acts {w : World} {B gd : Nat} {d : Dk} {q n : Nat} {D : DataW Unit} (h : St w B gd d q n D) (x : Int) : St (w.setCell ⟨gd, 0, none⟩ (.int .i64 x)) B gd { d with acts := x } q n D ∧ Ot gd d.nb w (w.setCell ⟨gd, 0, none⟩ (.int .i64 x)) := by
  have ho : Ot gd d.nb w (w.setCell ⟨gd, 0, none⟩ (.int .i64 x)) := Ot.setCell w 0 _
  have hne : gd ≠ d.nb := map_ne h.m h.g
  refine ⟨⟨Dk.acts_set h.g x, h.hB, h.pw, h.pl, h.us, h.m.setCell (a := ⟨gd, 0, none⟩) (fun e => hne e.symm) _, h.mB, ?_, fun s g hs => ho.file h.g h.m (h.ok s g hs)⟩, ho⟩
  obtain ⟨xs, hx⟩ := h.ch
  refine ⟨xs, ownsRow_setCell_other hx (a := ⟨gd, 0, none⟩) (fun e => ?_) _⟩
  obtain ⟨cs, hc⟩ := own_type hx e
  rw [h.g] at hc; simp at hc
abbrev boxD (gd : Nat) : Obj := .cells #[.pointer (some ⟨gd, 0, none⟩)] 26
abbrev boxN (s : ByteArray) : Obj := .cells #[.string s] 9
theorem cell0 {w : World} {b : Nat} {v : Value} {t : TypeId} (h : w.heap[b]? = some (.cells #[v] t (0, 0))) : w.cell? ⟨b, 0, none⟩ = some v := by
  rw [cell_of_row _ _ _ _ _ _ h]; rfl
/-- What an act leaves: the disk, with these names. -/
def Done (w w' : World) (B gd : Nat) (d : Dk) (q n : Nat) (D : DataW Unit) : Prop := (∃ d', St w' B gd d' q n D ∧ d'.acts = d.acts ∧ d'.nb = d.nb ∧ (d.files ≤ d'.files ∧ d'.files ≤ d.files + 1)) ∧ Ot gd d.nb w w' ∧ Below B w w'
theorem create1_any (w : World) (B gd : Nat) (d : Dk) (q n : Nat) (D : DataW Unit) (h : St w B gd d q n D) (hB : B ≤ w.heap.size) (hq : q ≤ 1000) (hn : n < 1000000) (s : ByteArray) (hs : s.size ≤ maxLen) (hs0 : (s.toList == []) = false) (hff : wrap64 (d.files + 1) = d.files + 1) (bd bn : Nat) (hbd : w.heap[bd]? = some (boxD gd)) (hbn : w.heap[bn]? = some (boxN s)) :
    Calls Try.prog 24 #[.pointer (some ⟨bd, 0, none⟩), .pointer (some ⟨bn, 0, none⟩)] w fun e w' => e = .returned (.tuple #[]) ∧ ∃ g : Nat, Done w w' B gd d (q + 1) (n + 1) (D.put (kL s) (.lit (.int .i64 g))) := by
  have k0 := cell0 hbd
  have k1 := cell0 hbn
  have hlt := h.lt
  have d1 : bd ≠ gd := fun e => by subst e; have := h.g; rw [hbd] at this; simp at this
  have d2 : bn ≠ gd := fun e => by subst e; have := h.g; rw [hbn] at this; simp at this
  have HS := Lib.hid h
  have HBD := Lib.hid hbd
  have HBN := Lib.hid hbn
  have e1 : bd ≠ d.nb := map_ne h.m hbd
  have e2 : bn ≠ d.nb := map_ne h.m hbn
  clear h hbd hbn
  go_enter Try.func24, Try.ntmps24
  go_wp2_with fail
  go_region_held3 (fun w' => w'.cell? ⟨bd, 0, none⟩ = some (.pointer (some ⟨gd, 0, none⟩)) ∧ w'.cell? ⟨bn, 0, none⟩ = some (.string s)) (first | exact ⟨k0, k1⟩ | exact ⟨cell0 HBD3.out, cell0 HBN3.out⟩ | exact ⟨cell0 HBD2.out, cell0 HBN2.out⟩) (first
    | (go_at_call 18; refine (file_any w.drew gd d (HS.out.below (Below.refl _ _).drew).g hff).mono ?_; rintro e w2 ⟨⟨g, rfl, hg, hfl⟩, hg2, hgr⟩
       have HF := Lib.hid ((HS.out.below (Below.refl _ _).drew).filed hg2 hgr)
       have HBD2 := Lib.hid (keepo HF.out.2 d1 e1 (show w.drew.heap[bd]? = _ from HBD.out) (by decide))
       have HBN2 := Lib.hid (keepo HF.out.2 d2 e2 (show w.drew.heap[bn]? = _ from HBN.out) (by decide))
       have HFL := Lib.hid hfl
       have z2 : w.heap.size ≤ w2.heap.size := hgr.size
       have HB2 := Lib.hid (show Below B w w2 from (show Below B w w.drew from (Below.refl _ _).drew).grown hgr (by show B ≤ w.heap.size; omega) (fun k hk => by cases hk; exact HS.out.hB))
       clear hg hfl hg2 hgr)
    | (go_at_call 25; refine (change_make w2 B gd _ q n D HF.out.1 (by omega) hq hn ByteArray.empty s hs hs0 g HFL.out).mono ?_; rintro e w3 ⟨rfl, hst, hot, hbl⟩
       have HBD3 := Lib.hid (keepo hot d1 e1 HBD2.out (by decide))
       have HBN3 := Lib.hid (keepo hot d2 e2 HBN2.out (by decide))))
  go_end0
  obtain ⟨c, hc⟩ := hst
  exact ⟨rfl, g, ⟨_, hc, rfl, rfl, by show d.files ≤ d.files + 1; omega, Int.le_refl _⟩, (show Ot gd d.nb w w.drew from ⟨Nat.le_refl _, fun _ _ _ _ _ => rfl⟩).trans (HF.out.2.trans hot), HB2.out.trans hbl⟩

end Go.Proofs.Yteoggphafhcchaa
