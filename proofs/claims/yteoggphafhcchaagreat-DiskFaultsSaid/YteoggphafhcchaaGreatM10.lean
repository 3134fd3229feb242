import Derived.Test.YteoggphafhcchaaGreatM9a
import Derived.Test.YteoggphafhcchaaGreatM9b
import Derived.Test.YteoggphafhcchaaGreatM9c
import Derived.Test.YteoggphafhcchaaGreatM9d
namespace Go.Proofs.YteoggphafhcchaaGreat
open Go Go.RowKit
set_option maxRecDepth 100000
set_option maxHeartbeats 1000000
set_option linter.unusedVariables false
set_option linter.unusedSimpArgs false
open Go.Maps Go.WideMaps
/-- Every file that is named was made. -/
structure Refs (d : Dm) : Prop where
  nm : ∀ s i, lk d.names s = some i → i < d.fs.length
  sf : ∀ s i, lk d.safe s = some i → i < d.fs.length
  ch : ∀ c ∈ d.changes, ∀ i, c.made = some i → i < d.fs.length
theorem flatMap_congr' {α β : Type} {l : List α} {f g : α → List β} (h : ∀ x ∈ l, f x = g x) : l.flatMap f = l.flatMap g := by
  induction l with
  | nil => rfl
  | cons x r ih => rw [List.flatMap_cons, List.flatMap_cons, h x (List.mem_cons_self), ih (fun y hy => h y (List.mem_cons_of_mem _ hy))]
abbrev boxD (gd : Nat) : Obj := .cells #[.pointer (some ⟨gd, 0, none⟩)] 24
abbrev boxN (s : ByteArray) : Obj := .cells #[.string s] 9
theorem cell0 {w : World} {b : Nat} {v : Value} {t : TypeId} (h : w.heap[b]? = some (.cells #[v] t (0, 0))) : w.cell? ⟨b, 0, none⟩ = some v := by
  rw [cell_of_row _ _ _ _ _ _ h]; rfl
/-- A block that is not the disk's. -/
def Cap (w : World) (ρ : Nat → Nat) (b : Nat) (o : Obj) : Prop := w.heap[b]? = some o ∧ ρ b = 0
theorem Cap.upd {w w' : World} {ρ ρ' : Nat → Nat} {b : Nat} {o : Obj} (h : Cap w ρ b o) (hu : Upd ρ ρ' w w') : Cap w' ρ' b o := by
  have hlt := (Array.getElem?_eq_some_iff.1 h.1).1
  exact ⟨(hu.block b hlt h.2).trans h.1, hu.ext.old b hlt h.2⟩
theorem Cap.below {w w' : World} {ρ : Nat → Nat} {b : Nat} {o : Obj} (h : Cap w ρ b o) (hb : Below w.heap.size w w') : Cap w' ρ b o := h.upd (Upd.of_below hb)
/-- A new file. -/
theorem DAt.newfile {w w1 : World} {L : Lay} {gd : Nat} {d : Dm} (h : DAt w L gd d) (hr : Refs d) (ho : Only L.ρ (· = 1) w w1) (hg : w1.heap[gd]? = some (.cells #[.int .i64 (d.acts : Int), .int .i64 d.space, .int .i64 d.used, .int .i64 ((d.fs.length : Int) + 1), .int .i64 (d.epoch : Int), .bool d.power, .map (some L.nb), .map (some L.sb), L.ch, L.pl, .map (some L.cb)] 48)) (z : w1.heap.size = w.heap.size) :
    ∃ L', DAt (w1.alloc (boxFile d.fs.length (.slice none 0 0) (.slice none 0 0) (.slice none 0 0))) L' gd { d with fs := d.fs ++ [⟨[], [], []⟩] } ∧ Upd L.ρ L'.ρ w (w1.alloc (boxFile d.fs.length (.slice none 0 0) (.slice none 0 0) (.slice none 0 0))) ∧ L'.fa d.fs.length = w1.heap.size := by
  have h0 : L.ρ w1.heap.size = 0 := by
    rcases Nat.eq_zero_or_pos (L.ρ w1.heap.size) with h9 | h9
    · exact h9
    · have := h.dom w1.heap.size (by omega); omega
  have hb : Below w1.heap.size w1 (w1.alloc (boxFile d.fs.length (.slice none 0 0) (.slice none 0 0) (.slice none 0 0))) := bel1 _ _
  have o2 : Only L.ρ (· = 1) w (w1.alloc (boxFile d.fs.length (.slice none 0 0) (.slice none 0 0) (.slice none 0 0))) := ho.trans (Only.of_below hb)
  have he : Ext w.heap.size L.ρ (put1 L.ρ w1.heap.size (7 + 4 * d.fs.length)) := Ext.put _ h0 (by omega)
  have hk : ∀ k, L.ρ k ≠ 0 → L.ρ k ≠ 1 → (w1.alloc (boxFile d.fs.length (.slice none 0 0) (.slice none 0 0) (.slice none 0 0))).heap[k]? = w.heap[k]? := fun k h0 h1 => o2.block k (h.dom k h0) h1
  have hs : ∀ r, r ≠ 0 → ∀ k, L.ρ k = r → put1 L.ρ w1.heap.size (7 + 4 * d.fs.length) k = r := fun r hr k e => (he.same k (by omega)).trans e
  have hfa : ∀ i, i < d.fs.length → (fun j => if j = d.fs.length then w1.heap.size else L.fa j) i = L.fa i := fun i hi => by show (if i = d.fs.length then _ else _) = _; rw [if_neg (by omega)]
  refine ⟨{ L with ρ := put1 L.ρ w1.heap.size (7 + 4 * d.fs.length), fa := fun j => if j = d.fs.length then w1.heap.size else L.fa j }, ⟨?_, hs 1 (by omega) gd h.lg, fun k e => ?_, h.nm.keep (fun k e => hk k (by omega) (by omega)) (hs 2 (by omega)) (fun s i e => hfa i (hr.nm s i e)), h.sf.keep (fun k e => hk k (by omega) (by omega)) (hs 3 (by omega)) (fun s i e => hfa i (hr.sf s i e)),
    h.cl.keep (fun k e => hk k (by omega) (by omega)) (hs 4 (by omega)), ?_, h.pl.keep (fun k e => hk k (by omega) (by omega)) (hs 6 (by omega)), fun i f hf => ?_⟩, Upd.of_only o2 (by omega) he, by show (if d.fs.length = d.fs.length then _ else _) = _; rw [if_pos rfl]⟩
  · have hgd := (hb.block gd (Array.getElem?_eq_some_iff.1 hg).1).trans hg
    simpa [boxDisk] using hgd
  · by_cases e' : k = w1.heap.size
    · rw [e']; simp
    · have e9 : L.ρ k ≠ 0 := by
        have e8 : put1 L.ρ w1.heap.size (7 + 4 * d.fs.length) k ≠ 0 := e
        unfold put1 at e8; rw [if_neg e'] at e8; exact e8
      have := h.dom k e9; simp; omega
  · have e : d.changes.flatMap (chV (fun j => if j = d.fs.length then w1.heap.size else L.fa j)) = d.changes.flatMap (chV L.fa) := flatMap_congr' fun c hc => by
      unfold chV
      cases hm : c.made with
      | none => rfl
      | some i =>
        have hl := hr.ch c hc i hm
        simp only [madeV]
        rw [if_neg (by omega)]
    show OwnL _ _ 79 3 5 L.ch d.changes.length (d.changes.flatMap _)
    rw [e]
    exact h.ch.keep (fun k e => hk k (by omega) (by omega)) (hs 5 (by omega))
  · by_cases hi : i < d.fs.length
    · have hf' : d.fs[i]? = some f := by rw [← hf]; show _ = (d.fs ++ _)[i]?; rw [List.getElem?_append_left hi]
      obtain ⟨vn, vs, vl, hx⟩ := h.fs i f hf'
      refine ⟨vn, vs, vl, ?_⟩
      show FAt _ _ i (if i = d.fs.length then _ else _) f vn vs vl
      rw [if_neg (by omega)]
      exact hx.keep (fun k e => hk k (by omega) (by omega)) (fun k e => he.same k e)
    · have hf' : (d.fs ++ [(⟨[], [], []⟩ : Fl)])[i]? = some f := hf
      rw [List.getElem?_append_right (by omega)] at hf'
      obtain rfl : i = d.fs.length := by
        have := (List.getElem?_eq_some_iff.1 hf').1
        simp at this; omega
      simp at hf'
      subst hf'
      refine ⟨.slice none 0 0, .slice none 0 0, .slice none 0 0, ?_⟩
      show FAt _ _ _ (if d.fs.length = d.fs.length then _ else _) _ _ _ _
      rw [if_pos rfl]
      exact ⟨heap_alloc_new w1 _, by simp [put1], OwnL.nil _ _ _ _ _, OwnL.nil _ _ _ _ _, RunsAt.nil _ _ _⟩
theorem file_any (w : World) (L : Lay) (gd : Nat) (d : Dm) (h : DAt w L gd d) (hr : Refs d) (hf : d.fs.length < 4611686018427387904) :
    Calls Tryz.prog 38 #[.pointer (some ⟨gd, 0, none⟩)] w fun e w' => ∃ L', e = .returned (.pointer (some ⟨L'.fa d.fs.length, 0, none⟩)) ∧ DAt w' L' gd { d with fs := d.fs ++ [⟨[], [], []⟩] } ∧ Upd L.ρ L'.ρ w w' := by
  obtain ⟨-, -, -, c3, -, -, -, -, -, -, -, fr⟩ := h.cells
  have f3 := fr 3
  have g1 := heap_setCell_same w gd 3 _ _ (.int .i64 ((d.fs.length : Int) + 1)) h.g
  obtain ⟨w1, hw1⟩ : ∃ w1, w1 = w.setCell ⟨gd, 3, none⟩ (.int .i64 ((d.fs.length : Int) + 1)) := ⟨_, rfl⟩
  have ho : Only L.ρ (· = 1) w w1 := by rw [hw1]; exact Only.setCell w gd 3 _ h.lg
  rw [← hw1] at g1
  have z1 : w1.heap.size = w.heap.size := by rw [hw1]; simp
  have e3 : w1.cell? ⟨gd, 3, none⟩ = some (.int .i64 ((d.fs.length : Int) + 1)) := by rw [cell_of_row _ _ _ _ _ _ g1]; rfl
  have HN := Lib.hid (h.newfile hr ho g1 z1)
  clear fr h g1 ho hr
  go_enter Tryz.func38, Tryz.ntmps38
  go_upto_region 2 with (fail)
  rw [← hw1]
  clear hw1 c3 f3
  go_wp2_with fail
  go_ret
  obtain ⟨L', h1, h2, h3⟩ := HN.out
  exact ⟨L', by rw [h3, z1]; rfl, h1, h2⟩
/-- Create's closure. -/
theorem create1_any (w : World) (L : Lay) (gd : Nat) (d : Dm) (h : DAt w L gd d) (hr : Refs d) (hf : d.fs.length < 4611686018427387904) (s : Nm) (hc : ChOk d ⟨[], s, some d.fs.length⟩) (bd bn : Nat) (hbd : Cap w L.ρ bd (boxD gd)) (hbn : Cap w L.ρ bn (boxN (bs s))) :
    Calls Tryz.prog 49 #[.pointer (some ⟨bd, 0, none⟩), .pointer (some ⟨bn, 0, none⟩)] w fun e w' => e = .returned (.tuple #[]) ∧ ∃ L', DAt w' L' gd (({ d with fs := d.fs ++ [⟨[], [], []⟩] } : Dm).change ⟨[], s, some d.fs.length⟩) ∧ Upd L.ρ L'.ρ w w' := by
  have k0 := cell0 hbd.1
  have k1 := cell0 hbn.1
  have hd : Below w.heap.size w w.drew := (Below.refl _ _).drew
  have HD := Lib.hid (h.below hd)
  have HU := Lib.hid (Upd.of_below (ρ := L.ρ) hd)
  have HBD := Lib.hid (hbd.below hd)
  have HBN := Lib.hid (hbn.below hd)
  have HR := Lib.hid hr
  have HC := Lib.hid (show ChOk { d with fs := d.fs ++ [⟨[], [], []⟩] } ⟨[], s, some d.fs.length⟩ from ⟨hc.nd, hc.src, hc.dst, hc.few, hc.many, hc.old, hc.new⟩)
  clear h hbd hbn hr hc hd
  go_enter Tryz.func49, Tryz.ntmps49
  go_wp2_with fail
  go_region_held3 (fun w' => w'.cell? ⟨bd, 0, none⟩ = some (.pointer (some ⟨gd, 0, none⟩)) ∧ w'.cell? ⟨bn, 0, none⟩ = some (.string (bs s))) (first | exact ⟨k0, k1⟩ | exact ⟨cell0 HBD3.out.1, cell0 HBN3.out.1⟩ | exact ⟨cell0 HBD2.out.1, cell0 HBN2.out.1⟩) (first
    | (go_at_call 38; refine (file_any w.drew L gd d HD.out HR.out hf).mono ?_; rintro e w2 ⟨L2, rfl, hd2, hu2⟩
       have HD2 := Lib.hid hd2
       have HU2 := Lib.hid hu2
       have HBD2 := Lib.hid (HBD.out.upd hu2)
       have HBN2 := Lib.hid (HBN.out.upd hu2)
       clear hd2 hu2)
    | (go_at_call 50; refine (change_make w2 L2 gd _ HD2.out [] s d.fs.length HC.out).mono ?_; rintro e w3 ⟨rfl, L3, hd3, hu3⟩
       have HD3 := Lib.hid hd3
       have HU3 := Lib.hid hu3
       have HBD3 := Lib.hid (HBD2.out.upd hu3)
       have HBN3 := Lib.hid (HBN2.out.upd hu3)
       clear hd3 hu3))
  go_end0
  exact ⟨rfl, L3, HD3.out, (HU.out.trans HU2.out).trans HU3.out⟩
/-- Rename's change. -/
theorem change_rename (w : World) (L : Lay) (gd : Nat) (d : Dm) (h : DAt w L gd d) (hr : Refs d) (src dst : Nm) (hc : ChOk d ⟨src, dst, none⟩) (hd : dst ≠ []) :
    Calls Tryz.prog 50 #[.pointer (some ⟨gd, 0, none⟩), .agg #[.string (bs src), .string (bs dst), .pointer none]] w fun e w' => e = .returned (.tuple #[]) ∧ ∃ L', DAt w' L' gd (d.change ⟨src, dst, none⟩) ∧ Upd L.ρ L'.ρ w w' := by
  by_cases hs : dst = src
  · exact change_same w L gd d h src dst hc hs
  · cases hk : lk d.names dst with
    | none => exact change_move0 w L gd d h src dst hc hs hd hk
    | some j => exact change_move1 w L gd d h src dst hc hs hd j hk ⟨_, List.getElem?_eq_getElem (hr.nm _ _ hk)⟩
theorem rename1_any (w : World) (L : Lay) (gd : Nat) (d : Dm) (h : DAt w L gd d) (hr : Refs d) (s t : Nm) (hc : ChOk d ⟨s, t, none⟩) (ht : t ≠ []) (bd bn bt : Nat) (hbd : Cap w L.ρ bd (boxD gd)) (hbn : Cap w L.ρ bn (boxN (bs s))) (hbt : Cap w L.ρ bt (boxN (bs t))) :
    Calls Tryz.prog 71 #[.pointer (some ⟨bd, 0, none⟩), .pointer (some ⟨bn, 0, none⟩), .pointer (some ⟨bt, 0, none⟩)] w fun e w' => e = .returned (.tuple #[]) ∧ ∃ L', DAt w' L' gd (d.change ⟨s, t, none⟩) ∧ Upd L.ρ L'.ρ w w' := by
  have k0 := cell0 hbd.1
  have k1 := cell0 hbn.1
  have k2 := cell0 hbt.1
  have HX := Lib.hid (change_rename w L gd d h hr s t hc ht)
  clear h hbd hbn hbt hr hc ht
  go_enter Tryz.func71, Tryz.ntmps71
  go_wp2_with (go_at_call 50; refine HX.out.mono ?_; rintro e w3 ⟨rfl, hx⟩)
  go_end0
  exact ⟨rfl, hx⟩
theorem remove1_any (w : World) (L : Lay) (gd : Nat) (d : Dm) (h : DAt w L gd d) (hr : Refs d) (s : Nm) (hc : ChOk d ⟨s, [], none⟩) (hs : s ≠ []) (hk0 : lk d.names [] = none) (bd bn : Nat) (hbd : Cap w L.ρ bd (boxD gd)) (hbn : Cap w L.ρ bn (boxN (bs s))) :
    Calls Tryz.prog 72 #[.pointer (some ⟨bd, 0, none⟩), .pointer (some ⟨bn, 0, none⟩)] w fun e w' => e = .returned (.tuple #[]) ∧ ∃ L', DAt w' L' gd (d.change ⟨s, [], none⟩) ∧ Upd L.ρ L'.ρ w w' := by
  have k0 := cell0 hbd.1
  have k1 := cell0 hbn.1
  obtain ⟨j, hj⟩ : ∃ j, lk d.names s = some j := by
    cases e : lk d.names s with
    | none => exact absurd e (hc.old rfl)
    | some j => exact ⟨j, rfl⟩
  have HX := Lib.hid (change_drop w L gd d h s hc hs hk0 j hj ⟨_, List.getElem?_eq_getElem (hr.nm _ _ hj)⟩ [] rfl)
  clear h hbd hbn hr hc hs hk0 hj
  go_enter Tryz.func72, Tryz.ntmps72
  go_wp2_with (go_at_call 50; refine HX.out.mono ?_; rintro e w3 ⟨rfl, hx⟩)
  go_end0
  exact ⟨rfl, hx⟩
theorem nothing_any (w : World) (n : Int) : Calls Tryz.prog 51 #[.int .i64 n] w fun e w' => e = .returned (.tuple #[]) ∧ w' = w := by
  go_enter Tryz.func51, Tryz.ntmps51
  go_wp2
  go_end0
  exact ⟨rfl, rfl⟩
end Go.Proofs.YteoggphafhcchaaGreat
