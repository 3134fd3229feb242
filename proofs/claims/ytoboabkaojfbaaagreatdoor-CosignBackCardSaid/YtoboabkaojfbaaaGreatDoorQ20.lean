import Derived.Test.YtoboabkaojfbaaaGreatDoorQ19
import Derived.Lib.BytesEntry
import Derived.Laws.Externs
namespace Go.Proofs.YtoboabkaojfbaaaGreatDoor
open Go Go.RowKit
set_option maxRecDepth 100000
set_option maxHeartbeats 1000000
set_option linter.unusedVariables false
set_option linter.unusedSimpArgs false
/-! Keys, signs, the proof of two faces as a function, and what it says. -/
def idP (key : List UInt8) : Dg := ⟨ofP 32 (9 :: key.take 64), ofP_len _ _⟩
def keyP (key : List UInt8) : List UInt8 := if 64 < key.length then shaP key else key
def padK (x : UInt8) (k : List UInt8) : List UInt8 := (List.range 64).map fun i => k.getD i 0 ^^^ x
def macP (key msg : List UInt8) : Dg := ⟨shaP (padK 92 (keyP key) ++ shaP (padK 54 (keyP key) ++ msg)), shaP_len _⟩
def signP (h : Hd) (key : List UInt8) : Sg := ⟨idP key, macP key (laidP h)⟩
def isKey (key : List UInt8) : Bool := decide (0 < key.length) && decide (key.length ≤ 64)
/-- head.Sign's number. -/
def signE (h : Hd) (key : List UInt8) : Nat := if isKey key then (if rightH h then 0 else 1) else 160
def checkP (h : Hd) (s : Sg) (key : List UInt8) : Nat := if isKey key && decide (idP key = s.key) then (if rightH h then (if signP h key = s then 0 else 161) else 1) else 160
def noteE (n : Nt) : Nat := if rightH n.head then (if n.signs.length = 0 ∨ 16 < n.signs.length then 7 else if twiceP n.signs then 92 else 0) else 1
def onlyP (n : Nt) (key : Dg) : Option Nt := (n.signs.find? fun s => decide (s.key = key)).map fun s => ⟨n.head, [s]⟩
structure Lv where
  number : Int
  a : Dg
  b : Dg
  wayA : List Dg
  wayB : List Dg
def cutOk (wd : Int) (d : Dg) : Bool := decide (cutP' wd d.1 = d.1)
def climbsP (wd : Int) (size number : Int) (leaf : Dg) (way : List Dg) (root : Dg) : Bool :=
  decide (climbW wd number.toNat ((wayP size.toNat 0 size.toNat number.toNat).reverse.zip way) leaf = root)
/-- What a proof of form 3 says (asked of what is right by its form). -/
def leadsP (wd : Int) (f : Fc) : Bool :=
  (f.leafA :: f.leafB :: (f.wayA ++ f.wayB)).all (cutOk wd) && (climbsP wd f.a.head.size f.number f.leafA f.wayA f.a.head.root && climbsP wd f.b.head.size f.number f.leafB f.wayB f.b.head.root)
def zFc : Fc := ⟨⟨zHd, []⟩, ⟨zHd, []⟩, 0, 0, zD, zD, [], []⟩
def facesIn (wd : Int) (x y : Nt) (l : Lv) : Fc × Nat :=
  if formOf x.head y.head = 3 then
    let f : Fc := ⟨x, y, 3, l.number, l.a, l.b, l.wayA, l.wayB⟩
    if formedP f && leadsP wd f then (f, 0) else (zFc, 170)
  else (⟨x, y, formOf x.head y.head, 0, zD, zD, [], []⟩, 0)
def facesP (wd : Int) (a b : Nt) (key : Dg) (l : Lv) : Fc × Nat :=
  if noteE a ≠ 0 ∨ noteE b ≠ 0 then (zFc, 8) else
  match onlyP a key, onlyP b key with
  | some x, some y =>
    if x.head.log ≠ y.head.log ∨ x.head = y.head then (zFc, 170)
    else if afterP x.head y.head then facesIn wd y x ⟨l.number, l.b, l.a, l.wayB, l.wayA⟩ else facesIn wd x y l
  | _, _ => (zFc, 160)
def accP (wd : Int) (f : Fc) (key : List UInt8) : Nat :=
  if formedP f && (decide (f.form ≠ 3) || leadsP wd f) then
    match f.a.signs, f.b.signs with
    | s :: _, t :: _ => if checkP f.a.head s key ≠ 0 then checkP f.a.head s key else checkP f.b.head t key
    | _, _ => 170
  else 170
theorem laidP_inj {a b : Hd} (ha : rightH a = true) (hb : rightH b = true) (h : laidP a = laidP b) : a = b := by
  have h1 := rHead_app a ha []
  have h2 := rHead_app b hb []
  rw [h, h2] at h1
  exact (Option.some.inj (Prod.mk.inj h1).1).symm
/-- Of two unlike right heads one stands behind the other. -/
theorem after_swap {a b : Hd} (ha : rightH a = true) (hb : rightH b = true) (h : a ≠ b) : afterP b a = !afterP a b := by
  unfold afterP
  by_cases e : a.size = b.size
  · rw [if_neg (by simp [e]), if_neg (by simp [e])]
    unfold encH
    rw [if_pos ha, if_pos hb]
    have h0 : cmpB (laidP a) (laidP b) ≠ 0 := fun q => h (laidP_inj ha hb (cmpB_eq _ _ q))
    have := cmpB_swap (laidP a) (laidP b)
    rw [this]
    by_cases g : cmpB (laidP a) (laidP b) > 0
    · rw [decide_eq_true g, decide_eq_false (by omega)]; rfl
    · rw [decide_eq_false g, decide_eq_true (by omega)]; rfl
  · rw [if_pos (fun q => e q.symm), if_pos e]
    by_cases g : a.size > b.size
    · rw [decide_eq_true g, decide_eq_false (by omega)]; rfl
    · rw [decide_eq_false g, decide_eq_true (by omega)]; rfl
def fallsP (a b : Hd) : Bool := (decide (a.size < b.size) && decide (b.clock < a.clock)) || (decide (b.size < a.size) && decide (a.clock < b.clock))
def zLv (n : Int) : Lv := ⟨n, zD, zD, [], []⟩
theorem noteE_one (h : Hd) (s : Sg) (hr : rightH h = true) : noteE ⟨h, [s]⟩ = 0 := by unfold noteE; rw [if_pos hr]; rfl
theorem onlyP_one (h : Hd) (s : Sg) : onlyP ⟨h, [s]⟩ s.key = some ⟨h, [s]⟩ := by unfold onlyP; simp
/-- A proof of form 3 with no leaves is none. -/
theorem facesIn_zero (wd : Int) (x y : Nt) (n : Int) (h : formOf x.head y.head = 3) : facesIn wd x y (zLv n) = (zFc, 170) := by
  unfold facesIn
  rw [if_pos h]
  show (if (formedP ⟨x, y, 3, n, zD, zD, [], []⟩ && leadsP wd ⟨x, y, 3, n, zD, zD, [], []⟩) = true then _ else _) = _
  have : formedP ⟨x, y, 3, n, zD, zD, [], []⟩ = false := by
    unfold formedP
    simp
  rw [this]
  rfl
/-- A proof of form 1 or 2. -/
theorem facesIn_low (wd : Int) (x y : Nt) (l : Lv) (h : formOf x.head y.head ≠ 3) : facesIn wd x y l = (⟨x, y, formOf x.head y.head, 0, zD, zD, [], []⟩, 0) := by
  unfold facesIn; rw [if_neg h]
theorem formed_low (a b : Hd) (s t : Sg) (ha : rightH a = true) (hb : rightH b = true) (hk : s.key = t.key) (hl : a.log = b.log) (hn : a ≠ b) (haf : afterP a b = false) (hf : formOf a b ≠ 3) :
    formedP ⟨⟨a, [s]⟩, ⟨b, [t]⟩, formOf a b, 0, zD, zD, [], []⟩ = true := by
  unfold formedP okN key0
  simp only [ha, hb, hk, hl, haf, if_neg hf]
  simp [hn]
/-- CosignShows: where one key signed two heads of one size, or falling clocks, both ways make one proof; it is taken with the key alone. -/
theorem shows_no (a b : Hd) (key : List UInt8) (x y : Sg) (hx : x = signP a key) (hy : y = signP b key) (ha : rightH a = true) (hb : rightH b = true) (hl : b.log = a.log) (wd n : Int)
    (h1 : ¬ (a.size = b.size ∧ a ≠ b)) (h2 : fallsP a b = false) : facesP wd ⟨a, [x]⟩ ⟨b, [y]⟩ x.key (zLv n) = (zFc, 170) := by
  have hk : y.key = x.key := by rw [hx, hy]; rfl
  unfold facesP
  rw [if_neg (by rw [noteE_one a x ha, noteE_one b y hb]; simp), onlyP_one, ← hk, onlyP_one]
  show (if a.log ≠ b.log ∨ a = b then _ else _) = _
  by_cases e : a = b
  · rw [if_pos (Or.inr e)]
  · rw [if_neg (by simp [hl, e])]
    have hs : a.size ≠ b.size := fun q => h1 ⟨q, e⟩
    simp only [fallsP, Bool.or_eq_false_iff, Bool.and_eq_false_iff, decide_eq_false_iff_not] at h2
    have ef : afterP a b = decide (a.size > b.size) := by unfold afterP; rw [if_pos hs]
    rw [ef]
    by_cases g : a.size > b.size
    · rw [if_pos (by simpa using g)]
      exact facesIn_zero wd ⟨b, [y]⟩ ⟨a, [x]⟩ n (by unfold formOf; show (if b.size = a.size then (1 : Int) else if a.clock < b.clock then 2 else 3) = 3; rw [if_neg (by omega), if_neg (by omega)])
    · rw [if_neg (by simpa using g)]
      exact facesIn_zero wd ⟨a, [x]⟩ ⟨b, [y]⟩ n (by unfold formOf; show (if a.size = b.size then (1 : Int) else if b.clock < a.clock then 2 else 3) = 3; rw [if_neg (by omega), if_neg (by omega)])
theorem shows_yes (a b : Hd) (key : List UInt8) (x y : Sg) (hx : x = signP a key) (hy : y = signP b key) (hkey : isKey key = true) (ha : rightH a = true) (hb : rightH b = true) (hl : b.log = a.log)
    (h1 : (a.size = b.size ∧ a ≠ b) ∨ fallsP a b = true) :
    ∃ p : Fc, (∀ wd n, facesP wd ⟨a, [x]⟩ ⟨b, [y]⟩ x.key (zLv n) = (p, 0) ∧ facesP wd ⟨b, [y]⟩ ⟨a, [x]⟩ x.key (zLv n) = (p, 0)) ∧ p.a.head.size ≤ p.b.head.size ∧ formedP p = true ∧ (∀ wd, accP wd p key = 0) ∧ ∀ wd other, idP other ≠ x.key → accP wd p other = 160 := by
  have hk : y.key = x.key := by rw [hx, hy]; rfl
  have hne : a ≠ b := by
    rcases h1 with h | h
    · exact h.2
    · rintro rfl
      simp only [fallsP, Bool.or_eq_true, Bool.and_eq_true, decide_eq_true_eq] at h
      omega
  have hsw := after_swap ha hb hne
  have main : ∀ (c d : Hd) (s t : Sg), s = signP c key → t = signP d key → rightH c = true → rightH d = true → c.log = d.log → c ≠ d → afterP c d = false → ((c.size = d.size) ∨ fallsP c d = true) →
      formOf c d ≠ 3 ∧ c.size ≤ d.size ∧ formedP ⟨⟨c, [s]⟩, ⟨d, [t]⟩, formOf c d, 0, zD, zD, [], []⟩ = true ∧ (∀ wd, accP wd ⟨⟨c, [s]⟩, ⟨d, [t]⟩, formOf c d, 0, zD, zD, [], []⟩ key = 0) ∧ ∀ wd other, idP other ≠ idP key → accP wd ⟨⟨c, [s]⟩, ⟨d, [t]⟩, formOf c d, 0, zD, zD, [], []⟩ other = 160 := by
    intro c d s t hs ht hc hd hlg hcd haf hq
    have hsz : c.size ≤ d.size := by
      unfold afterP at haf
      by_cases e : c.size = d.size
      · omega
      · rw [if_pos e, decide_eq_false_iff_not] at haf; omega
    have hfo : formOf c d ≠ 3 := by
      unfold formOf
      rcases hq with h | h
      · rw [if_pos h]; decide
      · simp only [fallsP, Bool.or_eq_true, Bool.and_eq_true, decide_eq_true_eq] at h
        rw [if_neg (by omega), if_pos (by omega)]; decide
    have hfm := formed_low c d s t hc hd (by rw [hs, ht]; rfl) hlg hcd haf hfo
    refine ⟨hfo, hsz, hfm, fun wd => ?_, fun wd other ho => ?_⟩
    · unfold accP
      rw [hfm, if_pos (by simp [hfo])]
      show (if checkP c s key ≠ 0 then _ else checkP d t key) = 0
      have e1 : checkP c s key = 0 := by unfold checkP; rw [hs]; simp [hkey, hc, signP]
      have e2 : checkP d t key = 0 := by unfold checkP; rw [ht]; simp [hkey, hd, signP]
      rw [e1, e2]; rfl
    · unfold accP
      rw [hfm, if_pos (by simp [hfo])]
      show (if checkP c s other ≠ 0 then checkP c s other else checkP d t other) = 160
      have e1 : checkP c s other = 160 := by
        unfold checkP
        rw [if_neg]
        rw [Bool.and_eq_true, decide_eq_true_eq]
        intro q; apply ho; rw [q.2, hs]; rfl
      rw [e1]; rfl
  have hfal : fallsP a b = fallsP b a := by unfold fallsP; rw [Bool.or_comm]
  have hxk : x.key = idP key := by rw [hx]; rfl
  have step : ∀ (c d : Hd) (s t : Sg) (wd n : Int), s.key = t.key → rightH c = true → rightH d = true → c.log = d.log → c ≠ d → formOf (if afterP c d then d else c) (if afterP c d then c else d) ≠ 3 →
      facesP wd ⟨c, [s]⟩ ⟨d, [t]⟩ s.key (zLv n) = (if afterP c d then (⟨⟨d, [t]⟩, ⟨c, [s]⟩, formOf d c, 0, zD, zD, [], []⟩, 0) else (⟨⟨c, [s]⟩, ⟨d, [t]⟩, formOf c d, 0, zD, zD, [], []⟩, 0)) := by
    intro c d s t wd n hst hc hd hlg hcd hfo
    unfold facesP
    rw [if_neg (by rw [noteE_one c s hc, noteE_one d t hd]; simp), onlyP_one, hst, onlyP_one]
    show (if c.log ≠ d.log ∨ c = d then _ else _) = _
    rw [if_neg (by simp [hlg, hcd])]
    cases haf : afterP c d with
    | true =>
      rw [haf] at hfo
      rw [if_pos rfl, if_pos rfl]
      exact facesIn_low wd ⟨d, [t]⟩ ⟨c, [s]⟩ _ (by simpa using hfo)
    | false =>
      rw [haf] at hfo
      rw [if_neg (by simp), if_neg (by simp)]
      exact facesIn_low wd ⟨c, [s]⟩ ⟨d, [t]⟩ _ (by simpa using hfo)
  cases haf : afterP a b with
  | false =>
    obtain ⟨m1, m2, m3, m4, m5⟩ := main a b x y hx hy ha hb hl.symm hne haf (h1.imp And.left id)
    rw [haf] at hsw
    refine ⟨_, fun wd n => ⟨?_, ?_⟩, m2, m3, m4, fun wd o ho => m5 wd o (by rwa [← hxk])⟩
    · rw [step a b x y wd n hk.symm ha hb hl.symm hne (by rw [haf]; simpa using m1), haf]; rfl
    · rw [← hk, step b a y x wd n hk hb ha hl (Ne.symm hne) (by rw [hsw]; simpa using m1), hsw]; rfl
  | true =>
    rw [haf] at hsw
    obtain ⟨m1, m2, m3, m4, m5⟩ := main b a y x hy hx hb ha hl (Ne.symm hne) hsw (by rw [← hfal]; exact h1.imp (fun q => q.1.symm) id)
    refine ⟨_, fun wd n => ⟨?_, ?_⟩, m2, m3, m4, fun wd o ho => m5 wd o (by rwa [← hxk])⟩
    · rw [step a b x y wd n hk.symm ha hb hl.symm hne (by rw [haf]; simpa using m1), haf]; rfl
    · rw [← hk, step b a y x wd n hk hb ha hl (Ne.symm hne) (by rw [hsw]; simpa using m1), hsw]; rfl
end Go.Proofs.YtoboabkaojfbaaaGreatDoor
namespace Go.Proofs.YtoboabkaojfbaaaGreatDoor
open Go Go.RowKit
set_option maxRecDepth 100000
set_option maxHeartbeats 8000000
set_option linter.unusedVariables false
set_option linter.unusedSimpArgs false
/-! A head's bytes. -/
theorem own_base {w : World} {B B' e s n : Nat} {v : Value} {xs : List Value} (h : w.ownsRow B e s v n xs) (hb : B' ≤ B) : w.ownsRow B' e s v n xs := by
  refine ⟨h.1, ?_⟩
  rcases h.2 with hn | ⟨g', cap, cur, rfl, hb', rest⟩
  · exact .inl hn
  · exact .inr ⟨g', cap, cur, rfl, Nat.le_trans hb hb', rest⟩
theorem WO.low {w w' : World} {B gw B0 : Nat} {v0 : Value} {l l' : List UInt8} (h : WO w w' B gw v0 l') (hw : WrV w B gw v0 l) (h0 : B0 ≤ B) (h1 : B0 ≤ w.heap.size) : Below B0 w w' := by
  obtain ⟨v, a, b, c⟩ := h
  exact ⟨b.b.os, b.b.tape, b.b.output, b.b.size, fun k hk => b.blk k (by omega) (by have := hw.1; omega) (fun e => by have := (hw.2.2.lt k e.symm).1; omega)⟩
theorem hd_load (w : World) (g : Nat) (A : Array Value) (h : w.heap[g]? = some (.cells A 25 (0, 0))) (hA : A.size = 98) : w.heap[g]? = some (.cells A 25 (0, 0)) ∧ A.size = 98 := ⟨h, hA⟩
/-- head.laid. -/
theorem laid_any (w : World) (h : Hd) (hr : rightH h = true) :
    Calls Tryz.prog 165 #[.agg (hdA h)] w fun e w' => ∃ a n c, e = .returned (.slice a n c) ∧ w'.ownsRow w.heap.size 5 1 (.slice a n c) n ((laidP h).map b8) ∧ Below w.heap.size w w' := by
  have HRR := Lib.hid hr
  obtain ⟨A, hA⟩ : ∃ A, A = hdA h := ⟨_, rfl⟩
  have HA := Lib.hid hA
  have HAS := Lib.hid (show A.size = 98 by rw [hA, hdA_size])
  rw [← hA]
  clear hA hr
  go_enter Tryz.func165, Tryz.ntmps165
  go_upto_region 1 with (fail)
  obtain ⟨g, hg⟩ : ∃ g, g = w.heap.size := ⟨_, rfl⟩
  rw [← hg]
  have HG := Lib.hid hg
  have HQ1 := Lib.hid (show (w.alloc (.cells A 25)).heap[g]? = some (.cells A 25 (0, 0)) by rw [hg]; exact heap_alloc_new w _)
  have HB1 := Lib.hid ((Below.refl w.heap.size w).alloc (Nat.le_refl _) (.cells A 25))
  clear hg
  generalize w.alloc (.cells A 25) = w1 at *
  have HN := Lib.hid (new_any w1)
  go_upto_region 2 with (go_at_call 75; (with_reducible refine HN.out.mono ?_); rintro e w2 ⟨gw, rfl, hwr, hb⟩; have HWR := Lib.hid hwr; have HB2 := Lib.hid hb; clear hwr hb)
  obtain ⟨hgw, v, hh, ho⟩ := HWR.out
  have HV := Lib.hid (show WrV w2 w1.heap.size gw v [] from ⟨hgw, hh, ho⟩)
  have HQ2 := Lib.hid (show w2.heap[g]? = some (.cells A 25 (0, 0)) from (HB2.out.block g (Array.getElem?_eq_some_iff.1 HQ1.out).1).trans HQ1.out)
  have HL := Lib.hid (show Calls Tryz.prog 119 #[.pointer (some ⟨gw, 0, none⟩), .agg A] w2 (fun e w' => e = .returned (.tuple #[]) ∧ WO w2 w' w1.heap.size gw v ([] ++ laidP h)) by rw [HA.out]; exact lay_any w2 w1.heap.size gw v [] h HV.out HRR.out (by decide) HB2.out.size)
  clear hgw hh ho
  go_upto_region 3 with (first
    | (refine wpList_load_row rfl 25 (.tmp 1) (by rfl) g (by rfl) 25 A (0, 0) _ HQ2.out Tryz.underlying25 rfl (by rw [HAS.out]; exact info25) ?_)
    | (go_at_call 119; (with_reducible refine HL.out.mono ?_); rintro e w3 ⟨rfl, ho⟩; have HO := Lib.hid ho; clear ho))
  have hlow := HO.out.low HV.out (B0 := w1.heap.size) (Nat.le_refl _) HB2.out.size
  have HB3 := Lib.hid (show Below w.heap.size w w3 from (HB1.out.trans (HB2.out.mono HB1.out.size)).trans (hlow.mono HB1.out.size))
  obtain ⟨v3, hv3, -, -⟩ := HO.out
  have HALL := Lib.hid (all_any w3 w1.heap.size gw (laidP h) ⟨hv3.1, v3, hv3.2⟩ (by rw [laidP_len]; decide))
  clear hlow hv3
  go_wp2_with (go_at_call 80; (with_reducible refine HALL.out.mono ?_); rintro e w4 ⟨a, n, c, rfl, ho, hb⟩; have HO4 := Lib.hid ho; have HB4 := Lib.hid hb; clear ho hb)
  go_ret
  exact ⟨a, n, c, rfl, own_base HO4.out HB3.out.size, HB3.out.trans (HB4.out.mono HB3.out.size)⟩
/-- head.EncodeHead. -/
theorem encH_any (w : World) (h : Hd) :
    Calls Tryz.prog 122 #[.agg (hdA h)] w fun e w' => ∃ a n c, e = .returned (.tuple #[.slice a n c, .int .i64 (if rightH h then 0 else 1)]) ∧ w'.ownsRow w.heap.size 5 1 (.slice a n c) n ((encH h).map b8) ∧ Below w.heap.size w w' := by
  obtain ⟨A, hA⟩ : ∃ A, A = hdA h := ⟨_, rfl⟩
  have HA := Lib.hid hA
  have HAS := Lib.hid (show A.size = 98 by rw [hA, hdA_size])
  rw [← hA]
  clear hA
  obtain ⟨en, hen⟩ : ∃ en : Int, en = (if rightH h = true then 0 else 1) := ⟨_, rfl⟩
  rw [← hen]
  have HEN := Lib.hid hen
  clear hen
  have HEH := Lib.hid (show encH h = if rightH h then laidP h else [] from rfl)
  have HR := Lib.hid (fun w => show Calls Tryz.prog 96 #[.agg A] w (fun e w' => e = .returned (.bool (rightH h)) ∧ Below w.heap.size w w') by rw [HA.out]; exact right_any w h)
  have HLD := Lib.hid (fun w (hr : rightH h = true) => show Calls Tryz.prog 165 #[.agg A] w (fun e w' => ∃ a n c, e = .returned (.slice a n c) ∧ w'.ownsRow w.heap.size 5 1 (.slice a n c) n ((laidP h).map b8) ∧ Below w.heap.size w w') by rw [HA.out]; exact laid_any w h hr)
  go_enter Tryz.func122, Tryz.ntmps122
  go_upto_region 1 with (fail)
  obtain ⟨g, hg⟩ : ∃ g, g = w.heap.size := ⟨_, rfl⟩
  rw [← hg]
  have HQ1 := Lib.hid (show (w.alloc (.cells A 25)).heap[g]? = some (.cells A 25 (0, 0)) by rw [hg]; exact heap_alloc_new w _)
  have HB1 := Lib.hid ((Below.refl w.heap.size w).alloc (Nat.le_refl _) (.cells A 25))
  clear hg
  generalize w.alloc (.cells A 25) = w1 at *
  cases hr : rightH h with
  | true =>
    have HRT := Lib.hid hr
    rw [hr] at HR
    clear hr
    go_upto_region 3 with (first
      | (refine wpList_load_row rfl 25 (.tmp 1) (by rfl) g (by rfl) 25 A (0, 0) _ HQ1.out Tryz.underlying25 rfl (by rw [HAS.out]; exact info25) ?_)
      | (go_at_call 96; (with_reducible refine (HR.out _).mono ?_); rintro e w2 ⟨rfl, hb⟩; have HB2 := Lib.hid hb; clear hb))
    have HQ2 := Lib.hid (show w2.heap[g]? = some (.cells A 25 (0, 0)) from (HB2.out.block g (Array.getElem?_eq_some_iff.1 HQ1.out).1).trans HQ1.out)
    have HB2' := Lib.hid (HB1.out.trans (HB2.out.mono HB1.out.size))
    go_wp2_with (first
      | (refine wpList_load_row rfl 25 (.tmp 1) (by rfl) g (by rfl) 25 A (0, 0) _ HQ2.out Tryz.underlying25 rfl (by rw [HAS.out]; exact info25) ?_)
      | (go_at_call 165; (with_reducible refine (HLD.out _ HRT.out).mono ?_); rintro e w3 ⟨a, n, c, rfl, ho, hb⟩; have HO3 := Lib.hid ho; have HB3 := Lib.hid hb; clear ho hb))
    go_ret2
    exact ⟨a, n, c, by rw [HEN.out, if_pos HRT.out]; rfl, by rw [HEH.out, if_pos HRT.out]; exact own_base HO3.out HB2'.out.size, HB2'.out.trans (HB3.out.mono HB2'.out.size)⟩
  | false =>
    have HRT := Lib.hid hr
    rw [hr] at HR
    clear hr
    go_wp2_with (first
      | (refine wpList_load_row rfl 25 (.tmp 1) (by rfl) g (by rfl) 25 A (0, 0) _ HQ1.out Tryz.underlying25 rfl (by rw [HAS.out]; exact info25) ?_)
      | (go_at_call 96; (with_reducible refine (HR.out _).mono ?_); rintro e w2 ⟨rfl, hb⟩; have HB2 := Lib.hid hb; clear hb))
    go_ret2
    exact ⟨none, 0, 0, by rw [HEN.out, if_neg (by rw [HRT.out]; decide)]; rfl, by rw [HEH.out, if_neg (by rw [HRT.out]; decide)]; exact World.ownsRow_nil _ _ _ _, HB1.out.trans (HB2.out.mono HB1.out.size)⟩
/-- head.isKey. -/
theorem isKey_any (w : World) (a : Option Addr) (n c : Nat) (k : List UInt8) (hn : k.length = n) (hb : n ≤ 281474976710656) :
    Calls Tryz.prog 95 #[.slice a n c] w fun e w' => e = .returned (.bool (isKey k)) ∧ w' = w := by
  have HI := Lib.hid (show isKey k = (decide (0 < n) && decide (n ≤ 64)) by rw [← hn]; rfl)
  clear hn
  by_cases c1 : 0 < n
  · have d1 : decide ((0 : Int) < (n : Int)) = true := by rw [decide_eq_true_eq]; omega
    by_cases c2 : n ≤ 64
    · have d2 : decide ((n : Int) ≤ 64) = true := by rw [decide_eq_true_eq]; omega
      go_enter Tryz.func95, Tryz.ntmps95
      go_wp2_with fail
      go_ret
      exact ⟨by rw [HI.out]; simp [c1, c2], rfl⟩
    · have d2 : decide ((n : Int) ≤ 64) = false := by rw [decide_eq_false_iff_not]; omega
      go_enter Tryz.func95, Tryz.ntmps95
      go_wp2_with fail
      go_ret
      exact ⟨by rw [HI.out]; simp [c1, c2], rfl⟩
  · have d1 : decide ((0 : Int) < (n : Int)) = false := by rw [decide_eq_false_iff_not]; omega
    go_enter Tryz.func95, Tryz.ntmps95
    go_wp2_with fail
    go_ret
    exact ⟨by rw [HI.out]; simp [c1], rfl⟩
end Go.Proofs.YtoboabkaojfbaaaGreatDoor
namespace Go.Proofs.YtoboabkaojfbaaaGreatDoor
open Go Go.RowKit
set_option maxRecDepth 100000
set_option maxHeartbeats 8000000
set_option linter.unusedVariables false
set_option linter.unusedSimpArgs false
/-! bytes.Compare. -/
theorem cmpB_lib : ∀ a b : List UInt8, Lib.compareBytes a b = cmpB a b
  | [], [] => rfl
  | [], _ :: _ => rfl
  | _ :: _, [] => rfl
  | x :: a, y :: b => by rw [Lib.compareBytes, cmpB, cmpB_lib a b]
theorem bytes_back (l : List UInt8) : Lib.bytesOf (l.map fun c => (c.toNat : Int)) = l := by
  unfold Lib.bytesOf
  rw [List.map_map]
  conv => rhs; rw [← List.map_id l]
  apply List.map_congr_left
  intro c _
  simp
theorem run_bytesOf8 {P : Program} {w : World} {a : Option Addr} {n c : Nat} {l : List UInt8} (h : R8 w a n c l) : (Extern.Bytes.bytesOf (.slice a n c)).run P w = .ok ⟨l.toArray⟩ w := by
  obtain ⟨h1, h2, h3, h4⟩ := h
  cases a with
  | none =>
    cases l with
    | nil => rfl
    | cons x r => obtain ⟨b, off, e, -⟩ := h4 0 (by simp); cases e
  | some a =>
    have hl := Lib.run_loadBytesX (P := P) w (l.map fun c => (c.toNat : Int)) a .empty (fun j x hj => by
      rw [List.getElem?_map] at hj
      obtain ⟨y, hy, rfl⟩ := Option.map_eq_some_iff.1 hj
      obtain ⟨hlt, rfl⟩ := List.getElem?_eq_some_iff.1 hy
      obtain ⟨b, off, e, hc⟩ := h4 j hlt
      obtain rfl := Option.some.inj e
      rw [Addr.add_lit]
      exact hc)
    rw [List.length_map, h1, bytes_back] at hl
    show (Extern.Bytes.loadBytes a n .empty).run P w = _
    rw [hl]
    congr 1
    apply ByteArray.ext
    simp
theorem run_compare8 {P : Program} {w : World} {a b : Option Addr} {n m c d : Nat} {x y : List UInt8} (h : R8 w a n c x) (k : R8 w b m d y) : (Extern.BytealgCompare.compare #[.slice a n c, .slice b m d]).run P w = .ok (.int .i64 (cmpB x y)) w := by
  change Sem.run P (do pure (goInt (Extern.BytealgCompare.cmp (← Extern.Bytes.bytesOf (.slice a n c)) (← Extern.Bytes.bytesOf (.slice b m d))))) w = _
  simp only [Sem.run_bind, run_bytesOf8 h, run_bytesOf8 k, Sem.run_pure, Result.andThen]
  rw [Lib.cmp_eq, cmpB_lib]
  rfl
theorem compare_any (w : World) (a b : Option Addr) (n m c d : Nat) (x y : List UInt8) (h : R8 w a n c x) (k : R8 w b m d y) :
    Calls Tryz.prog 123 #[.slice a n c, .slice b m d] w fun e w' => e = .returned (.int .i64 (cmpB x y)) ∧ w' = w := by
  go_enter Tryz.func123, Tryz.ntmps123
  go_wp2
  rw [run_callFunc_extern Tryz.func182 (by kernel_rfl) (by kernel_rfl) (by kernel_rfl) (e := Extern.BytealgCompare.compare) (by kernel_rfl), run_compare8 h k]
  simp only [Result.andThen]
  rw [Oper.upon_value]
  go_wp2
  go_ret
  exact ⟨rfl, rfl⟩
end Go.Proofs.YtoboabkaojfbaaaGreatDoor
namespace Go.Proofs.YtoboabkaojfbaaaGreatDoor
open Go Go.RowKit
set_option maxRecDepth 100000
set_option maxHeartbeats 8000000
set_option linter.unusedVariables false
set_option linter.unusedSimpArgs false
/-! cosign.after, formOf. -/
theorem box2 (w : World) (A B : Array Value) : ∃ w1 g1 g2, (w.alloc (.cells A 25)).alloc (.cells B 25) = w1 ∧ g1 = w.heap.size ∧ g2 = w.heap.size + 1 ∧ w1.heap[g1]? = some (.cells A 25 (0, 0)) ∧ w1.heap[g2]? = some (.cells B 25 (0, 0)) ∧ Below w.heap.size w w1 :=
  ⟨_, _, _, rfl, rfl, rfl, heap_alloc2_old w _ _, heap_alloc2_new w _ _, ((Below.refl _ _).alloc (Nat.le_refl _) _).alloc (by simp) _⟩
theorem formOf_any (w : World) (a b : Hd) : Calls Tryz.prog 59 #[.agg (hdA a), .agg (hdA b)] w fun e w' => e = .returned (.int .i64 (formOf a b)) ∧ Below w.heap.size w w' := by
  obtain ⟨w1, g1, g2, hw1, hg1, hg2, hA, hB, hb⟩ := box2 w (hdA a) (hdA b)
  have HBW := Lib.hid hb
  have k1 := HB.at_size hA
  have k2 := HB.at_size hB
  have k3 := HB.at_clock hA
  have k4 := HB.at_clock hB
  obtain ⟨s1, h1⟩ : ∃ s, s = a.size := ⟨_, rfl⟩
  obtain ⟨s2, h2⟩ : ∃ s, s = b.size := ⟨_, rfl⟩
  obtain ⟨t1, h3⟩ : ∃ s, s = a.clock := ⟨_, rfl⟩
  obtain ⟨t2, h4⟩ : ∃ s, s = b.clock := ⟨_, rfl⟩
  have HF := Lib.hid (show formOf a b = if s1 = s2 then 1 else if t2 < t1 then 2 else 3 by rw [h1, h2, h3, h4]; rfl)
  rw [← h1] at k1; rw [← h2] at k2; rw [← h3] at k3; rw [← h4] at k4
  obtain ⟨A, hAA⟩ : ∃ A, A = hdA a := ⟨_, rfl⟩
  obtain ⟨B, hBB⟩ : ∃ B, B = hdA b := ⟨_, rfl⟩
  rw [← hAA, ← hBB] at hw1 ⊢
  have HWW := Lib.hid hw1; have HGG := Lib.hid (show g1 = w.heap.size ∧ g1 + 1 = g2 from ⟨hg1, by omega⟩)
  clear hw1 hg1 hg2
  clear h1 h2 h3 h4 hA hB hAA hBB hb
  go_enter Tryz.func59, Tryz.ntmps59
  go_upto_region 1 with (fail)
  rw [HWW.out, ← HGG.out.1, HGG.out.2]
  by_cases c1 : s1 = s2
  · subst c1
    have HV := Lib.hid (show formOf a b = 1 by rw [HF.out, if_pos rfl])
    clear HF
    go_wp2_with fail
    go_ret
    exact ⟨by rw [HV.out]; rfl, HBW.out⟩
  · have d1 : (s1 == s2) = false := by simpa using c1
    by_cases c2 : t2 < t1
    · have d2 := decide_eq_true c2
      have HV := Lib.hid (show formOf a b = 2 by rw [HF.out, if_neg c1, if_pos c2])
      clear HF
      go_wp2_with fail
      go_ret
      exact ⟨by rw [HV.out]; rfl, HBW.out⟩
    · have d2 := decide_eq_false c2
      have HV := Lib.hid (show formOf a b = 3 by rw [HF.out, if_neg c1, if_neg c2])
      clear HF
      go_wp2_with fail
      go_ret
      exact ⟨by rw [HV.out]; rfl, HBW.out⟩
theorem R8.of_own8 {w : World} {B : Nat} {a : Option Addr} {n c : Nat} {l : List UInt8} (h : w.ownsRow B 5 1 (.slice a n c) n (l.map b8)) (hn : l.length ≤ 281474976710656) : R8 w a n c l := R8.of_owns h (by have := h.1; simp at this; omega)
theorem encH_len (h : Hd) : (encH h).length ≤ 113 := by
  unfold encH
  split
  · rw [laidP_len]; exact Nat.le_refl _
  · exact Nat.zero_le _
theorem encH_any' (w : World) (h : Hd) :
    Calls Tryz.prog 122 #[.agg (hdA h)] w fun e w' => ∃ a n c q, e = .returned (.tuple #[.slice a n c, .int .i64 q]) ∧ w'.ownsRow w.heap.size 5 1 (.slice a n c) n ((encH h).map b8) ∧ Below w.heap.size w w' :=
  (encH_any w h).mono fun e w' ⟨a, n, c, h1, h2, h3⟩ => ⟨a, n, c, _, h1, h2, h3⟩
theorem after_any (w : World) (a b : Hd) : Calls Tryz.prog 58 #[.agg (hdA a), .agg (hdA b)] w fun e w' => e = .returned (.bool (afterP a b)) ∧ Below w.heap.size w w' := by
  obtain ⟨w1, g1, g2, hw1, hg1, hg2, hA, hB, hb⟩ := box2 w (hdA a) (hdA b)
  have HBW := Lib.hid hb
  have k1 := HB.at_size hA
  have k2 := HB.at_size hB
  obtain ⟨s1, h1⟩ : ∃ s, s = a.size := ⟨_, rfl⟩
  obtain ⟨s2, h2⟩ : ∃ s, s = b.size := ⟨_, rfl⟩
  have HF := Lib.hid (show afterP a b = if s1 ≠ s2 then decide (s1 > s2) else decide (cmpB (encH a) (encH b) > 0) by rw [h1, h2]; rfl)
  rw [← h1] at k1; rw [← h2] at k2
  obtain ⟨A, hAA⟩ : ∃ A, A = hdA a := ⟨_, rfl⟩
  obtain ⟨B, hBB⟩ : ∃ B, B = hdA b := ⟨_, rfl⟩
  have HEA := Lib.hid (fun w => show Calls Tryz.prog 122 #[.agg A] w _ by rw [hAA]; exact encH_any' w a)
  have HEB := Lib.hid (fun w => show Calls Tryz.prog 122 #[.agg B] w _ by rw [hBB]; exact encH_any' w b)
  have HAS := Lib.hid (show A.size = 98 ∧ B.size = 98 by rw [hAA, hBB]; exact ⟨hdA_size _, hdA_size _⟩)
  rw [← hAA] at hA; rw [← hBB] at hB
  have HQA := Lib.hid hA; have HQB := Lib.hid hB
  rw [← hAA, ← hBB] at hw1 ⊢
  have HWW := Lib.hid hw1; have HGG := Lib.hid (show g1 = w.heap.size ∧ g1 + 1 = g2 from ⟨hg1, by omega⟩)
  clear hw1 hg1 hg2
  clear h1 h2 hA hB hAA hBB hb
  go_enter Tryz.func58, Tryz.ntmps58
  go_upto_region 1 with (fail)
  rw [HWW.out, ← HGG.out.1, HGG.out.2]
  by_cases c1 : s1 = s2
  · subst c1
    have HF2 := Lib.hid (show afterP a b = decide (cmpB (encH a) (encH b) > 0) by rw [HF.out, if_neg (by simp)])
    go_upto_region 4 with (first
      | (refine wpList_load_row rfl 25 (.tmp 2) (by rfl) g1 (by rfl) 25 A (0, 0) _ HQA.out Tryz.underlying25 rfl (by rw [HAS.out.1]; exact info25) ?_)
      | (go_at_call 122; (with_reducible refine (HEA.out _).mono ?_); rintro e w2 ⟨x, n, c, q1, rfl, ho, hb⟩; have HO2 := Lib.hid ho; have HB2 := Lib.hid hb; clear ho hb))
    have HQB2 := Lib.hid (show w2.heap[g2]? = some (.cells B 25 (0, 0)) from (HB2.out.block g2 (Array.getElem?_eq_some_iff.1 HQB.out).1).trans HQB.out)
    go_upto_region 5 with (first
      | (refine wpList_load_row rfl 25 (.tmp 3) (by rfl) g2 (by rfl) 25 B (0, 0) _ HQB2.out Tryz.underlying25 rfl (by rw [HAS.out.2]; exact info25) ?_)
      | (go_at_call 122; (with_reducible refine (HEB.out _).mono ?_); rintro e w3 ⟨y, m, d, q2, rfl, ho, hb⟩; have HO3 := Lib.hid ho; have HB3 := Lib.hid hb; clear ho hb))
    have HCM := Lib.hid (compare_any w3 x y n m c d (encH a) (encH b) ((R8.of_own8 HO2.out (by have := encH_len a; omega)).below HB3.out) (R8.of_own8 HO3.out (by have := encH_len b; omega)))
    have HBE := Lib.hid (show Below w.heap.size w w3 from (HBW.out.trans (HB2.out.mono HBW.out.size)).trans (HB3.out.mono (Nat.le_trans HBW.out.size HB2.out.size)))
    obtain ⟨z, hz⟩ : ∃ z, z = cmpB (encH a) (encH b) := ⟨_, rfl⟩
    rw [← hz] at HCM HF2
    clear hz
    go_wp2_with (go_at_call 123; (with_reducible refine HCM.out.mono ?_); rintro e w4 ⟨rfl, e4⟩; have e4 := e4.symm; subst e4)
    go_ret
    exact ⟨by rw [HF2.out]; rfl, HBE.out⟩
  · have d1 : (s1 == s2) = false := by simpa using c1
    have HF2 := Lib.hid (show afterP a b = decide (s1 > s2) by rw [HF.out, if_pos c1])
    go_wp2_with fail
    go_ret
    exact ⟨by rw [HF2.out]; rfl, HBW.out⟩
end Go.Proofs.YtoboabkaojfbaaaGreatDoor
