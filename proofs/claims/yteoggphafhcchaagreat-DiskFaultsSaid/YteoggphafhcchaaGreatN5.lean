import Derived.Test.YteoggphafhcchaaGreatN4
namespace Go.Proofs.YteoggphafhcchaaGreat
open Go Go.RowKit Go.Shelf Go.Lib Go.Sort
set_option maxRecDepth 100000
set_option maxHeartbeats 1000000
set_option linter.unusedVariables false
set_option linter.unusedSimpArgs false
open Go.Maps Go.WideMaps
/-- A slice as a map's element. -/
abbrev Sc := Option (Nat × Nat × Nat)
def encS : Sc → Value
  | none => .slice none 0 0
  | some (g, n, c) => .slice (some ⟨g, 0, none⟩) n c
def scD : Sc → DataW Unit
  | none => .nil
  | some (g, n, c) => .agg [.lit (.int .i64 (g : Nat)), .lit (.int .i64 (n : Nat)), .lit (.int .i64 (c : Nat))]
def sliceR (v : Value) : Option (DataW Unit × List MemPlace) := match v with
  | .slice none 0 0 => some (.nil, [])
  | .slice (some ⟨g, 0, none⟩) n c => some (.agg [.lit (.int .i64 (g : Nat)), .lit (.int .i64 (n : Nat)), .lit (.int .i64 (c : Nat))], [])
  | _ => none
theorem sliceR_enc (c : Sc) : sliceR (encS c) = some (scD c, []) := by
  cases c with
  | none => rfl
  | some p => rfl
theorem sliceR_inv {v : Value} {y : DataW Unit × List MemPlace} (h : sliceR v = some y) : ∃ c, v = encS c := by
  unfold sliceR at h
  split at h
  · exact ⟨none, rfl⟩
  · exact ⟨some (_, _, _), rfl⟩
  · cases h
theorem scD_inj {a b : Sc} (h : scD a = scD b) : a = b := by
  cases a with
  | none => cases b with
    | none => rfl
    | some p => cases h
  | some p =>
    cases b with
    | none => cases h
    | some q =>
      obtain ⟨g, n, c⟩ := p
      obtain ⟨g', n', c'⟩ := q
      simp [scD] at h
      obtain ⟨h1, h2, h3⟩ := h
      rw [show g = g' by omega, show n = n' by omega, show c = c' by omega]
theorem own_enc {w : World} {B e s n : Nat} {v : Value} {xs : List Value} (h : w.ownsRow B e s v n xs) : ∃ c, v = encS c := by
  rcases h.2 with ⟨h1, -⟩ | ⟨g, cap, cur, h1, -⟩
  · exact ⟨none, h1⟩
  · exact ⟨some (g, n, cap), h1⟩
theorem zero50 (w : World) : (zeroValue 50).run Tryz.prog w = .ok (.slice none 0 0) w := by kernel_rfl
/-- A map of bytes, all of it new memory above B. -/
def KAt (w : World) (B b : Nat) (l : List (Nm × List UInt8)) : Prop := B ≤ b ∧ ∃ D : DataW Unit, w.ownsMap Tryz.prog 9 sliceR b l.length D ∧ size D = l.length ∧
  ∀ s : Nm, has D (.string s) = (lk l s).isSome ∧ ∃ c : Sc, D.atKey (.string s) .nil = scD c ∧ (lk l s = none → c = none) ∧ ∀ x, lk l s = some x → w.ownsRow B 5 1 (encS c) x.length (x.map b8)
theorem KAt.same {w : World} {B b : Nat} {l l' : List (Nm × List UInt8)} (h : KAt w B b l) (hl : l.length = l'.length) (he : ∀ s, lk l s = lk l' s) : KAt w B b l' := by
  obtain ⟨h0, D, h1, h2, h3⟩ := h
  exact ⟨h0, D, by rw [← hl]; exact h1, by rw [← hl]; exact h2, fun s => by rw [← he]; exact h3 s⟩
theorem KAt.none (w : World) (b : Nat) (hb : b = w.heap.size) : KAt (w.alloc (.map #[] 0)) w.heap.size b [] := by
  subst hb
  refine ⟨Nat.le_refl _, _, World.ownsMap_made w Tryz.prog 9 sliceR, rfl, fun s => ⟨rfl, Option.none, rfl, fun _ => rfl, fun x h => by cases h⟩⟩
theorem KAt.below {w w' : World} {B b : Nat} {l : List (Nm × List UInt8)} (h : KAt w B b l) (hb : Below w.heap.size w w') : KAt w' B b l := by
  obtain ⟨h0, D, h1, h2, h3⟩ := h
  exact ⟨h0, D, h1.kept (gwk hb) (by simp), h2, fun s => ⟨(h3 s).1, by
    obtain ⟨c, h4, h5, h6⟩ := (h3 s).2
    exact ⟨c, h4, h5, fun x hx => own_below (h6 x hx) hb⟩⟩⟩
theorem KAt.lt {w : World} {B b : Nat} {l : List (Nm × List UInt8)} (h : KAt w B b l) : b < w.heap.size := by
  obtain ⟨-, D, h1, -⟩ := h
  exact h1.lt
theorem KAt.map {w : World} {B b : Nat} {l : List (Nm × List UInt8)} (h : KAt w B b l) : ∃ D, w.ownsMap Tryz.prog 9 sliceR b l.length D ∧ ∀ (s : Nm) (c : Sc) (x : List UInt8) (w' : World), w.ownsRow B 5 1 (encS c) x.length (x.map b8) → w.grownBy w' (some b) → w'.ownsMap Tryz.prog 9 sliceR b (l.length + 1) (D.put (.string s) (scD c)) → KAt w' B b (ins l s x) := by
  obtain ⟨h0, D, h1, h2, h3⟩ := h
  refine ⟨D, h1, fun s c x w' ho hg hm => ?_⟩
  have ht := h1.tidy law9
  have hmap : ∃ o es ck, w.heap[b]? = some (.map es ck) ∧ o = es := by
    obtain ⟨es, ck, hb, -⟩ := h1
    exact ⟨_, es, ck, hb, rfl⟩
  obtain ⟨-, es, ck, hbm, -⟩ := hmap
  have hkeep : ∀ {v : Value} {n : Nat} {xs : List Value}, w.ownsRow B 5 1 v n xs → w'.ownsRow B 5 1 v n xs := fun {v n xs} hv => own_same hv (fun k e => by
    have hlt := (hv.lt k e).2
    refine hg.block k hlt (fun e2 => ?_)
    have e3 : k = b := Option.some.inj e2
    subst e3
    rcases hv.2 with ⟨h4, -⟩ | ⟨g, cap, cur, h4, -, h5, -⟩
    · rw [h4] at e; cases e
    · rw [h4] at e
      obtain rfl : g = k := Option.some.inj e
      rw [hbm] at h5; cases h5)
  have hs := size_put (k := .string s) ht (scD c)
  have hsz : size (D.put (.string s) (scD c)) = (ins l s x).length := by
    rw [hs, (h3 s).1, len_ins, h2]
    by_cases h : s ∈ keysOf l
    · rw [if_pos (lk_some.2 h), if_pos h]
    · rw [if_neg (by rw [lk_none.2 h]; simp), if_neg h]
  refine ⟨h0, _, by have := ownsMap_tight hm; rwa [hsz] at this, hsz, fun t => ?_⟩
  rw [lk_ins]
  by_cases e : t = s
  · subst e
    rw [if_pos rfl]
    exact ⟨has_put_same ht.isMap (show WideAt.IsKeyLit (.string t) from trivial) _, c, atKey_put_same ht.isMap (show WideAt.IsKeyLit (.string t) from trivial) _ _, fun h => (by cases h), fun y hy => (by cases hy; exact hkeep ho)⟩
  · rw [if_neg e]
    obtain ⟨c', h4, h5, h6⟩ := (h3 t).2
    exact ⟨(has_put_other (fun h => e (litS_inj h)) _).trans (h3 t).1, c', (atKey_put_other (fun h => e (litS_inj h)) _ _).trans h4, h5, fun y hy => hkeep (h6 y hy)⟩
theorem kept_any (w : World) (L : Lay) (gd : Nat) (d : Dm) (h : DAt w L gd d) (hp : Pre d) :
    Calls Tryz.prog 12 #[.pointer (some ⟨gd, 0, none⟩)] w fun e w' => Below w.heap.size w w' ∧ ∃ b, e = .returned (.map (some b)) ∧ KAt w' w.heap.size b d.kept := by
  have hmm := @run_makeMap Tryz.prog
  obtain ⟨D, hmo, hρ, hz, hl⟩ := h.sf
  have hgl := h.lt
  obtain ⟨w1, hw1⟩ : ∃ w1, w1 = w.alloc (.map #[] 0) := ⟨_, rfl⟩
  have hb1 : Below w.heap.size w w1 := by rw [hw1]; exact bel1 _ _
  have hk1 : KAt w1 w.heap.size w.heap.size [] := by rw [hw1]; exact KAt.none w _ rfl
  have c7 := (h.below hb1).cells.2.2.2.2.2.2.2.1
  obtain ⟨mb, hmb⟩ : ∃ mb, mb = w.heap.size := ⟨_, rfl⟩
  rw [← hmb] at hk1
  have HMO := Lib.hid hmo
  have HM1 := Lib.hid (hmo.kept (gwk hb1) (by simp))
  have HL := Lib.hid (And.intro hz hl)
  have HD := Lib.hid h
  have HP := Lib.hid hp
  have HB1 := Lib.hid hb1
  have HK1 := Lib.hid (show KAt w1 mb mb [] by rw [hmb] at hk1 ⊢; exact hk1)
  have HMB := Lib.hid hmb
  clear h hp hmo hρ hz hl hb1 hk1
  go_enter Tryz.func12, Tryz.ntmps12
  go_upto_region 2 with (fail)
  rw [← hw1, ← hmb]
  clear hw1 hmb hmm
  go_wp2_with (first
    | (at_range; refine wpList_range_own _ rfl _ 43 rfl 9 76 law9 Tryz.underlying43 _ L.sb _ D rfl HM1.out ?_; intro w0 hrg0 hg0 hs0)
    | go_in)
  go_frame
  obtain ⟨it, hit⟩ : ∃ it, it = w1.heap.size := ⟨_, rfl⟩
  rw [← hit] at hrg0
  rw [← hit]
  have hnb := HMB.out
  have hk0 : KAt w0 mb mb [] := HK1.out.below ⟨hg0.os, hg0.tape, hg0.output, hg0.size, fun k hk => hg0.block k hk (by simp)⟩
  have hb0 : Below w.heap.size w w0 := HB1.out.trans ⟨hg0.os, hg0.tape, hg0.output, hg0.size, fun k hk => hg0.block k (Nat.lt_of_lt_of_le hk HB1.out.size) (by simp)⟩
  have hmbs : mb ≠ L.sb := by have := HD.out.sf.lt.1; omega
  have hmbi : mb ≠ it := by have := HK1.out.lt; omega
  have hmw : w.heap.size ≤ mb := by omega
  have hitw : w.heap.size ≤ it := by rw [hit]; exact HB1.out.size
  have HIT := Lib.hid hit
  have HSZ := Lib.hid (show size D ≤ 4096 by rw [HL.out.1]; exact HP.out.fewS)
  clear hg0 hs0 hit hnb
  go_loopw [4, 5] (fun _ _ wr => ∃ (left : Lit → Bool) (cnt : Nat) (l : List (Nm × List UInt8)), wr.ranges Tryz.prog 9 ptrR L.sb it d.safe.length D left cnt ∧ l.length + cnt ≤ size D ∧ Collected D left (keysOf l) ∧ KAt wr mb mb l ∧ (∀ s x, lk l s = some x → ∃ i, lk d.safe s = some i ∧ x = (d.file i).safe) ∧ Below w.heap.size w wr)
    (fun _ _ wr => wr.rangeLeft L.sb it)
  case atStart => exact ⟨_, _, [], hrg0, by simp, Collected.start D, hk0, fun s x h => (by cases h), hb0⟩
  case round =>
    obtain ⟨left, cnt, l, hrg, hcs, hC, hK, hX, hbr⟩ := hrel
    have HCO := Lib.hid hC
    have HK := Lib.hid hK
    have HX := Lib.hid hX
    have HBR := Lib.hid hbr
    clear hC hK hX hbr
    go_wp2_with (first
      | (at_next; refine wpList_next_ranges _ rfl _ rfl 9 law9 ptrR encStr encP (fun key kl hk => by obtain ⟨x, hx, _⟩ := Maps.keyOf_str Tryz.underlying9 hk; exact ⟨x, hx⟩) (fun v y hv => encP_of hv) L.sb it d.safe.length D left cnt rfl hrg ?_ ?_)
      | go_in)
    · intro hc0 hl0
      have hperm := HCO.out.perm HMO.out (string_keyed Tryz.underlying9) Tryz.underlying9 hl0
      obtain ⟨-, hnd, hmem, -⟩ := str_facts HMO.out
      have hp2 : (keysOf l).Perm (keysOf d.safe) := hperm.trans ((List.perm_ext_iff_of_nodup hnd HP.out.ns).2 fun x => by rw [hmem, (HL.out.2 x).2, lk_some])
      have HK2 := Lib.hid (show KAt wr mb mb d.kept by
        refine HK.out.same ?_ (fun s => ?_)
        · have h1 := hp2.length_eq
          unfold keysOf at h1
          rw [List.length_map, List.length_map] at h1
          unfold Dm.kept; rw [List.length_map]; exact h1
        · have hk9 : ∀ (m : List (Nm × Nat)) s, lk (m.map fun p => (p.1, (d.file p.2).safe)) s = (lk m s).map fun i => (d.file i).safe := fun m s => by
            induction m with
            | nil => rfl
            | cons p r ih =>
              obtain ⟨k, i⟩ := p
              simp only [List.map_cons, lk]
              split
              · rfl
              · exact ih
          unfold Dm.kept
          rw [hk9]
          cases e : lk l s with
          | none =>
            have h1 : s ∉ keysOf d.safe := fun h => lk_none.1 e (hp2.mem_iff.2 h)
            rw [lk_none.2 h1]; rfl
          | some x =>
            obtain ⟨i, h1, h2⟩ := HX.out s x e
            rw [h1, h2]; rfl)
      clear hperm hnd hmem hp2 hc0 hl0 hrg
      go_wp2_with fail
      go_ret
      exact ⟨HBR.out, mb, rfl, by rw [← HMB.out]; exact HK2.out⟩
    · intro x cp kl yd yp w2 cnt2 hkey hlk hv hat hrg2 hlt hg2 hs2 hen
      obtain ⟨x', ex, rfl, _⟩ := Maps.keyOf_str Tryz.underlying9 hkey
      obtain rfl : x = x' := encStr_inj ex
      obtain rfl := ptrR_enc hv
      have hhas : has D (.string x) = true := has_true_of_atKey hat
      obtain ⟨i, hi⟩ := Option.isSome_iff_exists.1 (((HL.out.2 x).2).symm.trans hhas)
      have hcp : cp = some (L.fa i) := by
        have h1 := (HL.out.2 x).1
        rw [hat, hi] at h1
        cases cp with
        | none => simp [valD] at h1
        | some g => simp [valD] at h1; rw [show g = L.fa i by omega]
      subst hcp
      have hep : encP (some (L.fa i)) = .pointer (some ⟨L.fa i, 0, none⟩) := rfl
      rw [hep] at hen
      have hb2 : Below w.heap.size w w2 := HBR.out.trans ⟨hg2.os, hg2.tape, hg2.output, hg2.size, fun k hk => hg2.block k (Nat.lt_of_lt_of_le hk HBR.out.size) (by intro e2; have h1 := Option.some.inj e2; omega)⟩
      have hk2 : KAt w2 mb mb l := by
        obtain ⟨h0, Dk, h1, h2, h3⟩ := HK.out
        refine ⟨h0, Dk, h1.kept hg2 (by simpa using hmbi), h2, fun s => ⟨(h3 s).1, ?_⟩⟩
        obtain ⟨c, h4, h5, h6⟩ := (h3 s).2
        refine ⟨c, h4, h5, fun y hy => own_same (h6 y hy) (fun k e => hg2.block k ((h6 y hy).lt k e).2 (fun e2 => ?_))⟩
        have e3 : k = it := Option.some.inj e2
        rw [e3] at e
        rcases (h6 y hy).2 with ⟨h7, -⟩ | ⟨g, cap, cur, h7, -, h8, -⟩
        · rw [h7] at e; cases e
        · rw [h7] at e
          obtain rfl : g = it := Option.some.inj e
          have h9 := hrg.iter_walk
          obtain ⟨o, ho1, ho2⟩ := h9
          rw [h8] at ho1; cases ho1; cases ho2
      have hil : i < d.fs.length := HP.out.refs.sf x i hi
      obtain ⟨vn, vs, vl, hf⟩ := (HD.out.below hb2).at hil
      obtain ⟨av, cv2, hvs, -⟩ := owns_shape hf.safe.1
      obtain ⟨nv, hnv⟩ : ∃ nv, nv = (d.file i).safe.length := ⟨_, rfl⟩
      rw [← hnv] at hvs
      have n2 := hf.cells.2.2.1
      rw [hvs] at n2
      have hnvb : nv ≤ 2147483647 := by rw [hnv]; exact (HP.out.file i).2.1
      have hr : R8 w2 av nv cv2 (d.file i).safe := by have h9 := hf.safe.1; rw [hvs, ← hnv] at h9; exact R8.of_owns h9 (by omega)
      have HCL := Lib.hid (bclone_any w2 av nv cv2 (d.file i).safe hr (by omega))
      have HNV := Lib.hid hnv
      have HI := Lib.hid hi
      have HRG := Lib.hid hrg2
      have HB2 := Lib.hid hb2
      have HK2 := Lib.hid hk2
      have HKEY := Lib.hid hkey
      have HC2 := Lib.hid (HCO.out.step hlk hat)
      have HNEW := Lib.hid (show x ∉ keysOf l from fun h => by have := ((HCO.out.2 x).1 h).2; rw [hlk] at this; cases this)
      have HLC := Lib.hid (show l.length + 1 + cnt2 ≤ size D by omega)
      have hll : l.length ≤ 4096 := by have := HSZ.out; omega
      have HLT := Lib.hid (show w2.rangeLeft L.sb it < wr.rangeLeft L.sb it from by rw [hrg2.left_eq, hrg.left_eq]; exact hlt)
      rw [hep]
      clear hb2 hk2 hrg2 hg2 hs2 hvs hf hlk hat hv hkey hhas hi hlt hrg hep hnv ex hr
      go_wp2_with (first
        | (go_at_call 33; refine HCL.out.mono ?_; rintro e w4 ⟨⟨a4, c4, rfl, hv4⟩, hb4⟩
           obtain ⟨Dk, hmk, hput⟩ := (HK2.out.below hb4).map
           obtain ⟨sc, hsc⟩ := own_enc hv4
           have hval : sliceR (.slice a4 nv c4) = some (scD sc, []) := by rw [hsc]; exact sliceR_enc sc
           have HMK := Lib.hid hmk
           have HPUT := Lib.hid hput
           have HSC := Lib.hid hsc
           have HVAL := Lib.hid hval
           have HV4 := Lib.hid hv4
           have HB4 := Lib.hid hb4
           clear hmk hput hsc hval hv4 hb4)
        | (at_mapUpdate; refine wpList_mapUpdate_own _ rfl _ _ _ 35 rfl 9 50 law9 Tryz.underlying35 sliceR mb l.length Dk rfl HMK.out (by unfold maxLen; omega) _ _ (.string x) rfl rfl HKEY.out (scD sc) [] HVAL.out ?_; intro w5 hown5 hgrow5
           have HO5 := Lib.hid hown5
           have HG5 := Lib.hid hgrow5
           clear hown5 hgrow5))
      have HK5 := Lib.hid (HPUT.out x sc (d.file i).safe w5 (by rw [← HSC.out, ← HNV.out]; exact owns_mono HV4.out (by have := HB2.out.size; have := HK2.out.lt; omega)) HG5.out HO5.out)
      have HR5 := Lib.hid (((HRG.out.kept (gwk HB4.out) (by simp) (by simp)).kept HG5.out (by simpa using hmbs.symm) (by simpa using hmbi.symm)))
      have HB5 := Lib.hid ((HB2.out.trans (HB4.out.mono HB2.out.size)).grown HG5.out (by have := HB2.out.size; have := HB4.out.size; omega) (fun k e => by cases e; exact hmw))
      simp only [Act.put]
      go_roundw
      case rel =>
        refine ⟨_, cnt2, ins l x (d.file i).safe, HR5.out, ?_, ?_, HK5.out, fun s y hy => ?_, HB5.out⟩
        · have := len_ins_le l x (d.file i).safe; have := HLC.out; omega
        · rw [keys_ins, if_neg HNEW.out]; exact HC2.out
        · rw [lk_ins] at hy
          by_cases e : s = x
          · rw [if_pos e] at hy; cases hy; exact ⟨i, by rw [e]; exact HI.out, rfl⟩
          · rw [if_neg e] at hy; exact HX.out s y hy
      case measure => exact Nat.lt_of_le_of_lt (Nat.le_of_eq (HR5.out.left_eq.trans HRG.out.left_eq.symm)) HLT.out
end Go.Proofs.YteoggphafhcchaaGreat
