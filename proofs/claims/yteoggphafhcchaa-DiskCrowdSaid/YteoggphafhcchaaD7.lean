import Derived.Test.YteoggphafhcchaaD6
import Derived.Deep.RegionWith
namespace Go.Proofs.Yteoggphafhcchaa
open Go Go.RowKit
set_option maxRecDepth 100000
set_option maxHeartbeats 4000000
set_option linter.unusedVariables false
set_option linter.unusedSimpArgs false
open Go.Maps Go.WideMaps
abbrev boxFl (num : Int) : Obj := .cells #[.int .i64 num, .slice none 0 0, .slice none 0 0, .slice none 0 0] 62
/-- A file without bytes. -/
def FileE (w : World) (g : Nat) : Prop := ∃ num, w.heap[g]? = some (boxFl num)
/-- All blocks but the disk's, its names' and the rows of changes stand. -/
def Ot (gd nb : Nat) (w w' : World) : Prop := w.heap.size ≤ w'.heap.size ∧ ∀ k, k < w.heap.size → k ≠ gd → k ≠ nb → (∀ cs fz, w.heap[k]? ≠ some (.cells cs 73 fz)) → w'.heap[k]? = w.heap[k]?
theorem Ot.refl (gd nb : Nat) (w : World) : Ot gd nb w w := ⟨Nat.le_refl _, fun _ _ _ _ _ => rfl⟩
theorem Ot.trans {gd nb : Nat} {a b c : World} (h : Ot gd nb a b) (k : Ot gd nb b c) : Ot gd nb a c :=
  ⟨Nat.le_trans h.1 k.1, fun q h1 h2 h3 h4 => by
    have e := h.2 q h1 h2 h3 h4
    rw [← e]
    exact k.2 q (Nat.lt_of_lt_of_le h1 h.1) h2 h3 (fun cs fz => by rw [e]; exact h4 cs fz)⟩
theorem Ot.of_below {gd nb : Nat} {w w' : World} (h : Below w.heap.size w w') : Ot gd nb w w' := ⟨h.size, fun k hk _ _ _ => h.block k hk⟩
theorem Ot.of_grown {gd nb : Nat} {w w' : World} {row : Option Nat} (h : w.grownBy w' row) (hr : ∀ k, row = some k → k = gd ∨ k = nb ∨ ∃ cs fz, w.heap[k]? = some (.cells cs 73 fz)) : Ot gd nb w w' :=
  ⟨h.size, fun k hk h1 h2 h3 => h.block k hk fun e => by
    rcases hr k e.symm with h | h | ⟨cs, fz, h⟩
    · exact h1 h
    · exact h2 h
    · exact h3 cs fz h⟩
theorem Ot.setCell {gd nb : Nat} (w : World) (o : Nat) (u : Value) : Ot gd nb w (w.setCell ⟨gd, o, none⟩ u) := ⟨by simp, fun k _ h1 _ _ => heap_setCell_other w ⟨gd, o, none⟩ k _ h1⟩
theorem Ot.file {gd nb : Nat} {w w' : World} (h : Ot gd nb w w') {d : Dk} (hg : w.heap[gd]? = some d.box) {n : Nat} {D : DataW Unit} (hm : w.ownsMap Try.prog 9 ptrR nb n D) {g : Nat} (hf : FileE w g) : FileE w' g := by
  obtain ⟨num, hf⟩ := hf
  refine ⟨num, (h.2 g (Array.getElem?_eq_some_iff.1 hf).1 (fun e => ?_) (fun e => ?_) (fun cs fz e => ?_)).trans hf⟩
  · subst e; rw [hg] at hf; simp at hf
  · subst e
    obtain ⟨es, ck, hb, -⟩ := hm
    rw [hb] at hf; cases hf
  · rw [hf] at e; simp at e
/-- A disk of empty files, with power and without faults. -/
structure St (w : World) (B gd : Nat) (d : Dk) (q n : Nat) (D : DataW Unit) : Prop where
  g : w.heap[gd]? = some d.box
  hB : B ≤ gd
  pw : d.power = true
  pl : d.pl = .slice none 0 0
  us : d.used = 0
  m : w.ownsMap Try.prog 9 ptrR d.nb n D
  mB : B ≤ d.nb
  ch : ∃ xs, w.ownsRow B 73 3 d.ch q xs
  ok : ∀ s (g : Nat), at? D s = .lit (.int .i64 g) → FileE w g
theorem St.below {w w' : World} {B gd : Nat} {d : Dk} {q n : Nat} {D : DataW Unit} (h : St w B gd d q n D) (hb : Below w.heap.size w w') : St w' B gd d q n D :=
  ⟨(hb.block gd (Array.getElem?_eq_some_iff.1 h.g).1).trans h.g, h.hB, h.pw, h.pl, h.us, by
    obtain ⟨es, ck, hm, r⟩ := h.m
    exact ⟨es, ck, (hb.block _ (Array.getElem?_eq_some_iff.1 hm).1).trans hm, r⟩, h.mB, by obtain ⟨xs, hx⟩ := h.ch; exact ⟨xs, own_below hx hb⟩,
    fun s g hs => by obtain ⟨num, hf⟩ := h.ok s g hs; exact ⟨num, (hb.block g (Array.getElem?_eq_some_iff.1 hf).1).trans hf⟩⟩
theorem St.lt {w : World} {B gd : Nat} {d : Dk} {q n : Nat} {D : DataW Unit} (h : St w B gd d q n D) : gd < w.heap.size := (Array.getElem?_eq_some_iff.1 h.g).1
theorem file_any (w : World) (gd : Nat) (d : Dk) (hg : w.heap[gd]? = some d.box) (hf : wrap64 (d.files + 1) = d.files + 1) :
    Calls Try.prog 18 #[.pointer (some ⟨gd, 0, none⟩)] w fun e w' => (∃ g, e = .returned (.pointer (some ⟨g, 0, none⟩)) ∧ w.heap.size ≤ g ∧ FileE w' g) ∧ w'.heap[gd]? = some ({ d with files := d.files + 1 } : Dk).box ∧ w.grownBy w' (some gd) := by
  obtain ⟨-, -, -, c3, -, -, -, -, -, -, -, fr⟩ := Dk.cells hg
  have f3 := fr 3
  have g1 : (w.setCell ⟨gd, 3, none⟩ (.int .i64 (d.files + 1))).heap[gd]? = some ({ d with files := d.files + 1 } : Dk).box := heap_setCell_same w gd 3 _ _ _ hg
  have hlt := (Array.getElem?_eq_some_iff.1 hg).1
  have hgr : w.grownBy (w.setCell ⟨gd, 3, none⟩ (.int .i64 (d.files + 1))) (some gd) := ⟨rfl, rfl, rfl, by simp, fun k _ hk => heap_setCell_other w ⟨gd, 3, none⟩ k _ (fun e => hk (by rw [e]))⟩
  obtain ⟨w1, hw1⟩ : ∃ w1, w1 = w.setCell ⟨gd, 3, none⟩ (.int .i64 (d.files + 1)) := ⟨_, rfl⟩
  rw [← hw1] at g1 hgr
  have z1 : w1.heap.size = w.heap.size := by rw [hw1]; simp
  obtain ⟨-, -, -, e3, -⟩ := Dk.cells g1
  have G1 := Lib.hid g1
  have HGR := Lib.hid hgr
  clear fr g1 hgr hg
  go_enter Try.func18, Try.ntmps18
  go_upto_region 2 with (fail)
  rw [hf, ← hw1]
  clear hw1 c3 f3
  go_wp2_with fail
  go_ret
  refine ⟨⟨_, rfl, by omega, d.files + 1, by first | exact heap_alloc_new w1 _ | (rw [← z1]; exact heap_alloc_new w1 _)⟩, (Below.heap_alloc w1 _ gd (by omega)).trans G1.out, HGR.out.trans (World.grownBy_alloc w1 _ _)⟩
theorem kL_inj {s t : ByteArray} (h : kL s = kL t) : s = t := by
  have h1 : s.data.toList = t.data.toList := by injection h
  apply ByteArray.ext; exact Array.toList_inj.1 h1
theorem keylit (s : ByteArray) : WideAt.IsKeyLit (kL s) := trivial
theorem at_put {D : DataW Unit} (hD : IsMap D) (s t : ByteArray) (x : DataW Unit) : at? (D.put (kL t) x) s = if s = t then x else at? D s := by
  unfold at?
  by_cases h : s = t
  · subst h; rw [if_pos rfl]; exact atKey_put_same hD (keylit s) x _
  · rw [if_neg h]; exact atKey_put_other (fun e => h (kL_inj e)) x _
theorem at_del {D : DataW Unit} (s t : ByteArray) : at? (D.del (kL t)) s = if s = t then .nil else at? D s := by
  unfold at?
  by_cases h : s = t
  · subst h; rw [if_pos rfl]; exact atKey_del_same _
  · rw [if_neg h]; exact atKey_del_other (fun e => h (kL_inj e)) _
theorem sl38 : Sl Try.prog 38 73 (.agg #[.string ByteArray.empty, .string ByteArray.empty, .pointer none]) 3 40 := ⟨Try.underlying38, by kernel_rfl, rfl, by decide⟩
theorem own_type {w : World} {B e s n : Nat} {v : Value} {xs : List Value} (h : w.ownsRow B e s v n xs) {k : Nat} (hk : v.ownBlock = some k) : ∃ cs, w.heap[k]? = some (.cells cs e (0, 0)) := by
  rcases h.2 with ⟨rfl, _⟩ | ⟨g, cap, cur, rfl, hb, hg, r⟩
  · simp [Value.ownBlock] at hk
  · simp [Value.ownBlock] at hk
    subst hk
    exact ⟨cur, hg⟩
theorem map_ne {w : World} {nb n k : Nat} {D : DataW Unit} (hm : w.ownsMap Try.prog 9 ptrR nb n D) {cs : Array Value} {t : TypeId} {fz : Nat × Nat} (h : w.heap[k]? = some (.cells cs t fz)) : k ≠ nb := by
  rintro rfl
  obtain ⟨es, ck, hb, -⟩ := hm
  rw [hb] at h; cases h
theorem keepm {w w' : World} {nb : Nat} (hg : w.grownBy w' (some nb)) {b o : Nat} (hne : b ≠ nb) {v : Value} (h : w.cell? ⟨b, o, none⟩ = some v) : w'.cell? ⟨b, o, none⟩ = some v :=
  (World.cell?_of_block (hg.block b (World.block_lt_of_cell? w _ h) (fun e => hne (Option.some.inj e)))).trans h
theorem new_ch (w : World) (f t : ByteArray) (m : Value) {k : Nat} (hk : w.heap.size = k) (j : Nat) (u : Value) (h : [.string f, .string t, m][j]? = some u) : (w.alloc (boxC f t m)).cell? ((⟨k, 0, none⟩ : Addr).add j) = some u := by
  subst hk
  rw [Addr.add_lit, cell_of_row _ _ _ _ _ _ (heap_alloc_new w _), Nat.zero_add]
  simpa using h
theorem one_ch {f t : ByteArray} {g : Option Addr} : ∀ u ∈ [Value.string f, .string t, .pointer g], u.oneCell' = true := by
  intro u hu
  simp only [List.mem_cons, List.not_mem_nil, or_false] at hu
  rcases hu with rfl | rfl | rfl <;> rfl
/-- The last piece of every change: it is laid behind the others. -/
theorem change_end {w1 w2 : World} {B gd : Nat} {d : Dk} {q n m : Nat} {D E : DataW Unit} (hS : St w1 B gd d q n D) (hm : w2.ownsMap Try.prog 9 ptrR d.nb m E) (hgr : w1.grownBy w2 (some d.nb)) (hE : ∀ s (g : Nat), at? E s = .lit (.int .i64 g) → FileE w1 g) :
    St w2 B gd d q m E ∧ Ot gd d.nb w1 w2 := by
  have hot : Ot gd d.nb w1 w2 := Ot.of_grown hgr (fun k hk => .inr (.inl (Option.some.inj hk).symm))
  refine ⟨⟨(hgr.block gd hS.lt (fun e => map_ne hS.m hS.g (Option.some.inj e))).trans hS.g, hS.hB, hS.pw, hS.pl, hS.us, hm, hS.mB, ?_, fun s g h => hot.file hS.g hS.m (hE s g h)⟩, hot⟩
  obtain ⟨xs, hx⟩ := hS.ch
  refine ⟨xs, hx.kept hgr ?_⟩
  cases ho : d.ch.ownBlock with
  | none => exact .inl rfl
  | some k =>
    obtain ⟨cs, hc⟩ := own_type hx ho
    exact .inr fun e => map_ne hS.m hc (Option.some.inj e)
theorem St.grownCh {w w' : World} {B gd : Nat} {d : Dk} {q n : Nat} {D : DataW Unit} (h : St w B gd d q n D) (hg : w.grownBy w' d.ch.ownBlock) {c : Value} {p : Nat} {ys : List Value} (ho : w'.ownsRow B 73 3 c p ys) :
    St (w'.setCell ⟨gd, 8, none⟩ c) B gd { d with ch := c } p n D ∧ Ot gd d.nb w (w'.setCell ⟨gd, 8, none⟩ c) ∧ w'.heap[gd]? = some d.box := by
  obtain ⟨xs, hx⟩ := h.ch
  have hgd : w'.heap[gd]? = some d.box := (hg.block gd h.lt (fun e => by
    obtain ⟨cs, hc⟩ := own_type hx e.symm
    rw [h.g] at hc; simp at hc)).trans h.g
  have ho1 : Ot gd d.nb w w' := Ot.of_grown hg (fun k hk => .inr (.inr (by obtain ⟨cs, hc⟩ := own_type hx hk; exact ⟨cs, _, hc⟩)))
  have hm' : w'.ownsMap Try.prog 9 ptrR d.nb n D := h.m.kept hg (fun e => by
    obtain ⟨cs, hc⟩ := own_type hx e.symm
    exact map_ne h.m hc rfl)
  have hot := ho1.trans (Ot.setCell (gd := gd) (nb := d.nb) w' 8 c)
  have hne : gd ≠ d.nb := map_ne h.m h.g
  refine ⟨⟨heap_setCell_same w' gd 8 _ _ c hgd, h.hB, h.pw, h.pl, h.us, hm'.setCell (a := ⟨gd, 8, none⟩) (fun e => hne e.symm) c, h.mB, ⟨ys, ownsRow_setCell_other ho (a := ⟨gd, 8, none⟩) (fun e => ?_) c⟩, fun s g hs => hot.file h.g h.m (h.ok s g hs)⟩, hot, hgd⟩
  obtain ⟨cs, hc⟩ := own_type ho e
  rw [hgd] at hc; simp at hc
/-- A new file's name is laid: Create's own change. -/
theorem change_make (w : World) (B gd : Nat) (d : Dk) (q n : Nat) (D : DataW Unit) (h : St w B gd d q n D) (hB : B ≤ w.heap.size) (hq : q ≤ 1000) (hn : n < 1000000) (f t : ByteArray) (ht : t.size ≤ maxLen) (ht0 : (t.toList == []) = false) (g : Nat) (hfl : FileE w g) :
    Calls Try.prog 25 #[.pointer (some ⟨gd, 0, none⟩), chV f t (.pointer (some ⟨g, 0, none⟩))] w fun e w' => e = .returned (.tuple #[]) ∧ (∃ c, St w' B gd { d with ch := c } (q + 1) (n + 1) (D.put (kL t) (.lit (.int .i64 g)))) ∧ Ot gd d.nb w w' ∧ Below B w w' := by
  obtain ⟨w1, hw1⟩ : ∃ w1, w1 = w.alloc (boxC f t (.pointer (some ⟨g, 0, none⟩))) := ⟨_, rfl⟩
  have hb1 : Below w.heap.size w w1 := by rw [hw1]; exact bel1 _ _
  have g1 : w1.heap[w.heap.size]? = some (boxC f t (.pointer (some ⟨g, 0, none⟩))) := by rw [hw1]; exact heap_alloc_new w _
  have hS := h.below hb1
  have hlt := h.lt
  have HS := Lib.hid hS
  have HFL := Lib.hid (show FileE w1 g by obtain ⟨num, hf⟩ := hfl; exact ⟨num, (hb1.block g (Array.getElem?_eq_some_iff.1 hf).1).trans hf⟩)
  obtain ⟨-, -, -, -, -, -, c6, -⟩ := Dk.cells hS.g
  obtain ⟨b0, b1, b2⟩ := box3 g1
  have HB1 := Lib.hid hb1
  have G1 := Lib.hid g1
  have hgd0 : gd < w1.heap.size := hS.lt
  have z1 : w.heap.size < w1.heap.size := by rw [hw1]; simp
  have hnw : w.heap.size ≠ d.nb := map_ne hS.m g1
  have hgw : gd ≠ w.heap.size := by omega
  have hgn : gd ≠ d.nb := map_ne hS.m hS.g
  clear h hb1 g1 hS hfl
  go_enter Try.func25, Try.ntmps25
  go_upto_region 1 with (fail)
  rw [← hw1]
  clear hw1
  go_wp2_with fail
  go_region_held3 (fun w' => w'.cell? ⟨gd, 6, none⟩ = some (.map (some d.nb)) ∧ w'.cell? ⟨w.heap.size, 0, none⟩ = some (.string f) ∧ w'.cell? ⟨w.heap.size, 1, none⟩ = some (.string t) ∧ w'.cell? ⟨w.heap.size, 2, none⟩ = some (.pointer (some ⟨g, 0, none⟩))) (first | exact ⟨c6, b0, b1, b2⟩ | exact ⟨keepm hgr2 hgn c6, keepm hgr2 hnw b0, keepm hgr2 hnw b1, keepm hgr2 hnw b2⟩) (first | (go_at_call 37; refine (do_make w1.drew d.nb n D HS.out.m.drew hn f t ht ht0 g).mono ?_; rintro e w2 ⟨rfl, hm2, hgr2⟩))
  have hce := change_end (show St w1.drew B gd d q n D from HS.out.below (Below.refl _ _).drew) hm2 hgr2 (fun s g' hs => by
    rw [at_put HS.out.m.isMap] at hs
    by_cases e : s = t
    · rw [if_pos e] at hs
      obtain rfl : g' = g := by have h2 : ((g' : Nat) : Int) = g := by simpa using hs.symm
                                omega
      exact HFL.out
    · rw [if_neg e] at hs
      exact HS.out.ok s g' hs)
  have HS2 := Lib.hid hce.1
  have HO2 := Lib.hid ((Ot.of_below (gd := gd) (nb := d.nb) (HB1.out)).trans ((show Ot gd d.nb w1 w1.drew from ⟨Nat.le_refl _, fun _ _ _ _ _ => rfl⟩).trans hce.2))
  have HBB := Lib.hid (show Below B w w2 from (HB1.out.mono hB).trans ((show Below B w1 w1.drew from (Below.refl _ _).drew).grown hgr2 (by show B ≤ w1.heap.size; omega) (fun k hk => by cases hk; exact HS.out.mB)))
  have G2 := Lib.hid ((hgr2.block w.heap.size (by show w.heap.size < w1.heap.size; omega) (fun e => hnw (Option.some.inj e))).trans G1.out)
  have z2 : w1.heap.size ≤ w2.heap.size := hgr2.size
  obtain ⟨xs, hx⟩ := hce.1.ch
  have HX := Lib.hid hx
  obtain ⟨-, -, -, -, -, -, -, -, e8, -⟩ := Dk.cells hce.1.g
  obtain ⟨b0', b1', b2'⟩ := box3 G2.out
  clear hm2 hgr2 hce hx c6 b0 b1 b2
  go_wp2_with fail
  have hb3 : Below w2.heap.size w2 (w2.drew.alloc (boxC f t (.pointer (some ⟨g, 0, none⟩)))) := (show Below w2.heap.size w2 w2.drew from (Below.refl _ _).drew).alloc (Nat.le_refl _) _
  have HS3 := Lib.hid (HS2.out.below hb3)
  have HX3 := Lib.hid (own_below HX.out hb3)
  have HN3 := Lib.hid (fun j u => new_ch w2.drew f t (.pointer (some ⟨g, 0, none⟩)) (k := w2.heap.size) rfl j u)
  have HB3 := Lib.hid (HBB.out.trans (hb3.mono (by omega)))
  have HO3 := Lib.hid (HO2.out.trans (Ot.of_below hb3))
  have HQ1 := Lib.hid (show (q + 1) * 40 ≤ 140737488355328 by omega)
  have HQ2 := Lib.hid (show q + 1 ≤ maxLen by simp [maxLen]; omega)
  have hBz : B ≤ w2.heap.size := by omega
  have hlt2 : gd < w2.heap.size := HS2.out.lt
  have hlt3 : w.heap.size < w2.heap.size := by omega
  clear hb3
  go_region_law (first
    | (refine S_appendN rfl (.tmp 67) (.tmp 69) 38 (by rfl) sl38 B d.ch q xs (by rfl) HX3.out ⟨w2.heap.size, 0, none⟩ 1 1 [.string f, .string t, .pointer (some ⟨g, 0, none⟩)] (by rfl) (by rfl) HN3.out one_ch HQ1.out HQ2.out (by simp; omega) (fun a4 c4 w4 ho4 hg4 hat4 => ?_)
       have hgr4 := HS3.out.grownCh hg4 ho4
       have hk8 := Dk.cells hgr4.2.2
       have e8' := hk8.2.2.2.2.2.2.2.2.1
       have f8' := hk8.2.2.2.2.2.2.2.2.2.2.2 8
       clear hk8))
  all_goals
    have HE4 := Lib.hid hgr4
    have HB4 := Lib.hid (HB3.out.grown hg4 (by simp; omega) (fun k hk => (HX3.out.lt k hk).1))
    clear hgr4 ho4 hg4 hat4 e8 b0' b1' b2'
    go_wp2_with fail
    go_end0
    exact ⟨rfl, ⟨_, HE4.out.1⟩, HO3.out.trans HE4.out.2.1, HB4.out.setCell (p := ⟨gd, 8, none⟩) (HS.out.hB) _⟩
end Go.Proofs.Yteoggphafhcchaa
