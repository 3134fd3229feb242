import Derived.Test.YtakaoacialnjaaaDoorK57
namespace Go.Proofs.YtakaoacialnjaaaDoor
open Go Go.RowKit
set_option linter.unusedVariables false
set_option linter.unusedSimpArgs false
/-- A node without the places of its lists. -/
def Nd.core (n : Nd) : Nd := ⟨n.op, n.nm, n.vk, n.vn, n.vt, none, n.sl, 0, none, n.kl, 0, n.ks⟩
theorem ofF_core (sc : List Nm) (ns : List Nd) : ∀ (i : Nat) (ks : List (Int × Bool)), ofF sc i ks (ns.map Nd.core) = ofF sc i ks ns := by
  induction ns with
  | nil => intro i ks; rfl
  | cons n t ih =>
    intro i ks
    simp only [List.map_cons, ofF]
    rw [ih]
    rfl
theorem treesF_core (ns : List Nd) : ∀ (i : Nat) (s : List Bool), treesF i s (ns.map Nd.core) = treesF i s ns := by
  induction ns with
  | nil => intro i s; rfl
  | cons n t ih =>
    intro i s
    simp only [List.map_cons, treesF]
    have h1 : n.core.right = n.right := rfl
    have h2 : n.core.ks = n.ks := rfl
    rw [h1, h2]
    cases kidsF i s n.ks with
    | none => rfl
    | some s' => simp only [ih]
theorem ofK_core (ns : List Nd) (sc : List Nm) : ofK (ns.map Nd.core) sc = ofK ns sc := by
  have h : treesB (ns.map Nd.core) = treesB ns := by unfold treesB; rw [List.length_map, treesF_core]
  unfold ofK
  rw [h, ofF_core]
theorem ofK_same (us ns : List Nd) (sc : List Nm) (hl : us.length = ns.length) (h : ∀ (i : Nat) (u nd : Nd), us[i]? = some u → ns[i]? = some nd → u.core = nd.core) : ofK us sc = ofK ns sc := by
  rw [← ofK_core us, ← ofK_core ns]
  congr 1
  apply List.ext_getElem?
  intro i
  rw [List.getElem?_map, List.getElem?_map]
  by_cases hi : i < us.length
  · have h1 := List.getElem?_eq_getElem hi
    have h2 := List.getElem?_eq_getElem (l := ns) (i := i) (by omega)
    rw [h1, h2]
    simp only [Option.map_some]
    rw [h i _ _ h1 h2]
  · rw [List.getElem?_eq_none (by omega), List.getElem?_eq_none (by omega)]
theorem WhoI.core {w0 w : World} {u nd : Nd} (h : WhoI w0 w u nd) : u.core = nd.core := by
  obtain ⟨op, nm, vk, vn, vt, sa, sl, sc, ka, kl, kc, ks⟩ := u
  obtain ⟨op', nm', vk', vn', vt', sb, sl', sd, kb, kl', kd, ks'⟩ := nd
  obtain ⟨h1, h2, h3, h4, h5, h6, h7, h8, -⟩ := h
  dsimp only at h1 h2 h3 h4 h5 h6 h7 h8
  subst h1 h2 h3 h4 h5 h6 h7 h8
  rfl
theorem WhoI.ok {w0 w : World} {u nd : Nd} (h : WhoI w0 w u nd) (hok : nd.ok w0) (hk : nd.kl ≤ 20000) : u.ok w := by
  obtain ⟨h1, h2, h3, h4, h5, h6, h7, h8, h9, h10, h11, -⟩ := h
  have a1 := (RS.of_owns h11 (by decide) Iv_len (by omega)).cut
  rw [hok.1.1] at a1
  exact ⟨by rw [h7, h8, h9]; exact a1, by rw [h2]; exact hok.2.1, by rw [h4]; exact hok.2.2⟩
theorem okS_ok {w : World} {nd : Nd} (h : nd.okS w) : nd.ok w := by unfold Nd.okS at h; exact h.1
theorem okS_below {w w' : World} {nd : Nd} (h : nd.okS w) (hb : Below w.heap.size w w') : nd.okS w' := by
  unfold Nd.okS at h ⊢
  obtain ⟨h1, ss, h2⟩ := h
  exact ⟨h1.below hb, ss, h2.below hb⟩
structure Tab3 (w : World) : Prop where
  t : NoTab w
  r2 : ResTab w 2
  r1 : ResTab w 1
  h2 : 2 < w.heap.size
theorem Tab3.below {w w' : World} (h : Tab3 w) (hb : Below w.heap.size w w') : Tab3 w' :=
  ⟨h.t.below hb (by have := h.h2; omega), h.r2.below hb h.h2 h.h2, h.r1.below hb (by have := h.h2; omega) (by have := h.h2; omega), by have := h.h2; have := hb.size; omega⟩
end Go.Proofs.YtakaoacialnjaaaDoor
namespace Go.Proofs.YtakaoacialnjaaaDoor
open Go Go.RowKit
set_option linter.unusedVariables false
set_option linter.unusedSimpArgs false
set_option maxRecDepth 100000 in
set_option maxHeartbeats 4000000 in
theorem told_any (w : World) (a : Option Addr) (n c : Nat) (ns : List Nd) (hr : RS 7 Nd.cs w a n c ns) (hok : ∀ nd ∈ ns, nd.okS w) (sa : Option Addr) (sn sc' : Nat) (sc : List Nm) (hsc : RS 3 Nm.cs w sa sn sc' sc) (ht : Tab3 w) (hsml : Small ns n sn) :
    Calls Tryd.prog 14 #[.slice a n c, .slice sa sn sc'] w fun e w' => e = .returned (.bool true) ∧ Below w.heap.size w w' := by
  obtain ⟨hn, hsn, hsm⟩ := hsml
  have hlen := hr.1
  have hscl := hsc.1
  have HR := Lib.hid hr
  have HOK := Lib.hid hok
  have HSC := Lib.hid hsc
  have HT := Lib.hid ht
  have HSM := Lib.hid hsm
  go_enter Tryd.func14, Tryd.ntmps14
  go_wp2_with fail
  with_reducible refine (whole_any w a n c ns hr hok hn hsm).mono ?_
  rintro e w1 ⟨⟨g, us, rfl, hus, hrow, hwho⟩, hb1⟩
  have HROW := Lib.hid hrow
  have HWHO := Lib.hid hwho
  have HB1 := Lib.hid hb1
  have HUS := Lib.hid hus
  have z1 := hb1.size
  clear hr hok hsc ht hrow hwho hb1 hus hsm
  go_wp2_with fail
  obtain ⟨w2, hw2⟩ : ∃ w2, w2 = w1.alloc (.cells #[.string { data := #[109, 97, 114, 107] }, .int .i64 0, .bool false] 34) := ⟨_, rfl⟩
  have g2 : w2.heap[w1.heap.size]? = some (.cells #[.string { data := #[109, 97, 114, 107] }, .int .i64 0, .bool false] 34 (0, 0)) := by rw [hw2]; exact heap_alloc_new w1 _
  have hb2 : Below w1.heap.size w1 w2 := by rw [hw2]; exact (Below.refl _ _).alloc (Nat.le_refl _) _
  have z2 : w1.heap.size < w2.heap.size := by rw [hw2]; simp
  rw [← hw2]
  have HB2 := Lib.hid (HB1.out.trans (hb2.mono z1))
  have HROW2 := Lib.hid (own_below HROW.out hb2)
  have HG2 := Lib.hid g2
  have HWHO2 := Lib.hid (fun (i : Nat) (u nd : Nd) (h1 : us[i]? = some u) (h2 : ns[i]? = some nd) => (HWHO.out i u nd h1 h2).below hb2)
  clear hw2 g2 hb2
  with_reducible refine (roomy_N w2 sa sn sc' sc ⟨{ data := #[109, 97, 114, 107] }, 0, false⟩ (HSC.out.below HB2.out) (by omega)).mono ?_
  rintro e w3 ⟨gf, rfl, hf, hb3⟩
  have z3 := hb3.size
  have HB3 := Lib.hid (HB2.out.trans (hb3.mono (by omega)))
  have HROW3 := Lib.hid (own_below HROW2.out hb3)
  have HG3 := Lib.hid ((hb3.block _ z2).trans HG2.out)
  have HWHO3 := Lib.hid (fun (i : Nat) (u nd : Nd) (h1 : us[i]? = some u) (h2 : ns[i]? = some nd) => (HWHO2.out i u nd h1 h2).below hb3)
  have HF3 := Lib.hid (RS.of_owns hf (by decide) Nm_len2 (by omega))
  clear hf hb3
  have hq1 : (sn : Int) ≤ (sn : Int) + 80 := by omega
  have HU3 := Lib.hid (show RS 7 Nd.cs w3 (some ⟨g, 0, none⟩) n (n + 8) us by
    have := (RS.of_owns HROW3.out (by decide) Nd_len2 (by omega)).cut
    rwa [HUS.out] at this)
  have HUO3 := Lib.hid (show ∀ u ∈ us, u.ok w3 from fun u hu => by
    obtain ⟨i, hi⟩ := List.getElem?_of_mem hu
    have hil : i < ns.length := by have := (List.getElem?_eq_some_iff.1 hi).1; have := HUS.out; omega
    have h2 := List.getElem?_eq_getElem hil
    have hm := List.mem_of_getElem? h2
    exact (HWHO3.out i u _ hi h2).ok (okS_ok (HOK.out _ hm)) (HSM.out _ hm).1)
  have HS3 := Lib.hid (show RS 3 Nm.cs w3 (some ⟨gf, 0, none⟩) sn (sn + 80) sc by have := HF3.out.cut; rwa [hscl] at this)
  have hK : ofK us sc = ofK ns sc := ofK_same us ns sc (by have := HUS.out; omega) (fun i u nd h1 h2 => (HWHO3.out i u nd h1 h2).core)
  have HK := Lib.hid hK
  clear hK
  go_wp2_with fail
  with_reducible refine (of_any w3 (some ⟨g, 0, none⟩) n (n + 8) us HU3.out HUO3.out (some ⟨gf, 0, none⟩) sn (sn + 80) sc HS3.out (HT.out.below HB3.out).t (HT.out.below HB3.out).r2 (HT.out.below HB3.out).h2 (by omega)).mono ?_
  rintro e w4 ⟨⟨xa, xc, rfl, hx⟩, hb4⟩
  rw [HK.out] at hx ⊢
  have z4 := hb4.size
  have HX4 := Lib.hid hx
  have HB4 := Lib.hid (HB3.out.trans (hb4.mono (by omega)))
  have HROW4 := Lib.hid (own_below HROW3.out hb4)
  have HG4 := Lib.hid ((hb4.block _ (by omega)).trans HG3.out)
  have HWHO4 := Lib.hid (fun (i : Nat) (u nd : Nd) (h1 : us[i]? = some u) (h2 : ns[i]? = some nd) => (HWHO3.out i u nd h1 h2).below hb4)
  have HF4 := Lib.hid (HF3.out.below hb4)
  clear hx hb4 HU3 HUO3 HS3
  go_wp2_with fail
  with_reducible refine (plain_any w4 sa sn sc' sc (HSC.out.below HB4.out) (by omega)).mono ?_
  rintro e w5 ⟨⟨pa, pc, rfl, hp⟩, hb5⟩
  have z5 := hb5.size
  have HP := Lib.hid (show RS 3 Nm.cs w5 pa sn pc sc by have := RS.of_owns hp (by decide) Nm_len (by omega); rwa [hscl] at this)
  have HB5 := Lib.hid (HB4.out.trans (hb5.mono (by omega)))
  have HROW5 := Lib.hid (own_below HROW4.out hb5)
  have HG5 := Lib.hid ((hb5.block _ (by omega)).trans HG4.out)
  have HWHO5 := Lib.hid (fun (i : Nat) (u nd : Nd) (h1 : us[i]? = some u) (h2 : ns[i]? = some nd) => (HWHO4.out i u nd h1 h2).below hb5)
  have HF5 := Lib.hid (HF4.out.below hb5)
  have HX5 := Lib.hid (own_below HX4.out hb5)
  rw [hscl]
  clear hp hb5
  go_wp2_with fail
  with_reducible refine (refof_any w5 a n c ns (HR.out.below HB5.out) (fun nd hnd => ((okS_ok (HOK.out nd hnd)).below HB5.out)) pa sn pc sc HP.out (HT.out.below HB5.out).r1 (by have := (HT.out.below HB5.out).h2; omega) (by omega) (fun nd hnd => by have := (HSM.out nd hnd).1; omega)).mono ?_
  rintro e w6 ⟨⟨ya, yc, rfl, hy⟩, hb6⟩
  have z6 := hb6.size
  have hl := ofK_len ns sc
  have HB6 := Lib.hid (HB5.out.trans (hb6.mono (by omega)))
  have HROW6 := Lib.hid (own_below HROW5.out hb6)
  have HG6 := Lib.hid ((hb6.block _ (by omega)).trans HG5.out)
  have HWHO6 := Lib.hid (fun (i : Nat) (u nd : Nd) (h1 : us[i]? = some u) (h2 : ns[i]? = some nd) => (HWHO5.out i u nd h1 h2).below hb6)
  have HF6 := Lib.hid (HF5.out.below hb6)
  have HX6 := Lib.hid (RS.of_owns (own_below HX5.out hb6) (by decide) Kd_len (by omega))
  have HY6 := Lib.hid (RS.of_owns hy (by decide) Kd_len (by omega))
  clear hy hb6
  generalize ofK ns sc = R at *
  obtain ⟨ks, at', er⟩ := R
  go_wp2_with fail
  with_reducible refine (alike_any w6 xa ks.length xc ks HX6.out ya ks.length yc ks HY6.out).mono ?_
  rintro e w7 ⟨rfl, hb7⟩
  have z7 := hb7.size
  have HB7 := Lib.hid (HB6.out.trans (hb7.mono (by omega)))
  have HROW7 := Lib.hid (own_below HROW6.out hb7)
  have HG7 := Lib.hid ((hb7.block _ (by omega)).trans HG6.out)
  have HWHO7 := Lib.hid (fun (i : Nat) (u nd : Nd) (h1 : us[i]? = some u) (h2 : ns[i]? = some nd) => ((HWHO6.out i u nd h1 h2).below hb7).who HB7.out)
  have HF7 := Lib.hid (HF6.out.below hb7)
  clear hb7
  go_wp2_with fail
  with_reducible refine (left_any w7 w.heap.size g n us ns HROW7.out HUS.out a c (HR.out.below HB7.out) (fun nd hnd => okS_below (HOK.out nd hnd) HB7.out) HWHO7.out hn HSM.out).mono ?_
  rintro e w8 ⟨rfl, hb8⟩
  have HB8 := Lib.hid (HB7.out.trans (hb8.mono (by omega)))
  have g8 := (hb8.block _ (by omega)).trans HG7.out
  have m0 := cell_of_row w8 _ 0 _ _ _ g8
  have m1 := cell_of_row w8 _ 1 _ _ _ g8
  have m2 := cell_of_row w8 _ 2 _ _ _ g8
  simp only [List.getElem?_toArray, List.getElem?_cons_zero, List.getElem?_cons_succ] at m0 m1 m2
  have HF8 := Lib.hid (HF7.out.below hb8)
  clear hb8 g8
  go_wp2_with fail
  with_reducible refine (intact_N w8 (some ⟨gf, 0, none⟩) sn (sn + 80) sc ⟨{ data := #[109, 97, 114, 107] }, 0, false⟩ HF8.out sa sc' (HSC.out.below HB8.out) (by omega)).mono ?_
  rintro e w9 ⟨rfl, hb9⟩
  have HB9 := Lib.hid (HB8.out.trans (hb9.mono HB8.out.size))
  go_wp2
  go_ret
  exact ⟨rfl, HB9.out⟩
end Go.Proofs.YtakaoacialnjaaaDoor
namespace Go.Proofs.YtakaoacialnjaaaDoor
open Go Go.RowKit
set_option linter.unusedVariables false
set_option linter.unusedSimpArgs false
theorem one_nms {l : List Nm} : ∀ u ∈ l.flatMap Nm.cs, u.oneCell' = true := by
  intro u hu
  obtain ⟨y, _, hy⟩ := List.mem_flatMap.1 hu
  simp [Nm.cs] at hy
  rcases hy with rfl | rfl | rfl <;> rfl
theorem own_addr {w : World} {B e s n c : Nat} {a : Option Addr} {xs : List Value} (h : w.ownsRow B e s (.slice a n c) n xs) (hn : 0 < n) : ∃ g, a = some ⟨g, 0, none⟩ ∧ B ≤ g ∧ g < w.heap.size := by
  obtain ⟨a', c', hv, hp⟩ := owns_shape h
  simp only [Value.slice.injEq] at hv
  obtain ⟨rfl, -, -⟩ := hv
  exact hp hn
theorem scope_set (x : Nm) (t : List Nm) (b : Int) (o : Bool) : setList (((x :: t)).flatMap Nm.cs) 1 [.int .i64 b, .bool o] = ((⟨x.nm, b, o⟩ :: t).flatMap Nm.cs) := rfl
set_option maxRecDepth 100000 in
set_option maxHeartbeats 4000000 in
theorem kindsof_walk (w : World) (a : Option Addr) (n c : Nat) (ns : List Nd) (hr : RS 7 Nd.cs w a n c ns) (hok : ∀ nd ∈ ns, nd.okS w) (sa : Option Addr) (sn sc' : Nat) (sc : List Nm) (hsc : RS 3 Nm.cs w sa sn sc' sc) (ob : Int) (oo : Bool) (ht : (NoTab w ∧ ResTab w 2 ∧ 2 < w.heap.size) ∧ ResTab w 1) :
    Calls Tryd.prog 4 #[.slice a n c, .slice sa sn sc', .agg #[.int .i64 ob, .bool oo]] w fun e w' => e = .returned (.bool true) ∧ Below w.heap.size w w' := by
  obtain ⟨w0, hw0⟩ : ∃ w0, w0 = w.alloc (.cells #[.int .i64 ob, .bool oo] 30) := ⟨_, rfl⟩
  have hb0 : Below w.heap.size w w0 := by rw [hw0]; exact (Below.refl _ _).alloc (Nat.le_refl _) _
  have g0 : w0.heap[w.heap.size]? = some (.cells #[.int .i64 ob, .bool oo] 30 (0, 0)) := by rw [hw0]; exact heap_alloc_new w _
  have z0 : w.heap.size < w0.heap.size := by rw [hw0]; simp
  have HW := Lib.hid hw0.symm
  have HG0 := Lib.hid g0
  have HB0 := Lib.hid hb0
  have HT0 := Lib.hid ((show Tab3 w from ⟨ht.1.1, ht.1.2.1, ht.2, ht.1.2.2⟩).below hb0)
  have HR := Lib.hid (hr.below hb0)
  have HOK := Lib.hid (fun nd hnd => okS_below (hok nd hnd) hb0)
  have HSC := Lib.hid (hsc.below hb0)
  have hscl := hsc.1
  have hs48 := hsc.2.2.1
  clear hw0 hb0 g0 ht hr hok hsc
  go_enter Tryd.func4, Tryd.ntmps4
  go_wp2_with fail
  rw [HW.out]
  with_reducible refine (great_any w0 a n c ns HR.out HOK.out sa sn sc' sc HSC.out).mono ?_
  rintro e w1 ⟨hg, hb1⟩
  have z1 := hb1.size
  have HT1 := Lib.hid (HT0.out.below hb1)
  have HB1 := Lib.hid hb1
  clear hb1
  rcases hg with rfl | ⟨rfl, hsml⟩
  · go_wp2_with fail
    with_reducible refine (known_any w1 HT1.out.t HT1.out.r2 HT1.out.h2).mono ?_
    rintro e w2 ⟨rfl, hb2⟩
    go_wp2
    go_ret
    exact ⟨rfl, HB0.out.trans ((HB1.out.trans (hb2.mono z1)).mono (Nat.le_of_lt z0))⟩
  · have HSML := Lib.hid hsml
    have hsn : sn ≤ 500 := hsml.2.1
    clear hsml
    go_wp2_with fail
    with_reducible refine (known_any w1 HT1.out.t HT1.out.r2 HT1.out.h2).mono ?_
    rintro e w2 ⟨rfl, hb2⟩
    have z2 := hb2.size
    have HT2 := Lib.hid (HT1.out.below hb2)
    have HB2 := Lib.hid (HB1.out.trans (hb2.mono z1))
    clear hb2
    go_wp2_with fail
    with_reducible refine (told_any w2 a n c ns (HR.out.below HB2.out) (fun nd hnd => okS_below (HOK.out nd hnd) HB2.out) sa sn sc' sc (HSC.out.below HB2.out) HT2.out HSML.out).mono ?_
    rintro e w3 ⟨rfl, hb3⟩
    have z3 := hb3.size
    have HT3 := Lib.hid (HT2.out.below hb3)
    have HB3 := Lib.hid (HB2.out.trans (hb3.mono (by omega)))
    clear hb3
    by_cases hs0 : 0 < sn
    · have hsI : (0 : Int) < (sn : Int) := by omega
      obtain ⟨sb, so, x0, hsa, hx0, -⟩ := HSC.out.at hs0
      obtain ⟨t, ht⟩ : ∃ t, sc = x0 :: t := by
        cases sc with
        | nil => simp at hx0
        | cons y t => simp at hx0; exact ⟨t, by rw [hx0]⟩
      have HST := Lib.hid ht
      clear ht hx0
      have hcells := (HSC.out.below HB3.out).cells Nm_len2 (by decide) hsa
      have HCL := Lib.hid hcells
      subst hsa
      clear hcells
      go_wp2_with (at_builtin; (refine L_appendN rfl _ _ _ rfl sl25 w3.heap.size (.slice none 0 0) 0 [] rfl (World.ownsRow_nil _ _ _ _) ⟨sb, so, none⟩ sn sc' (sc.flatMap Nm.cs) rfl (by rw [flat_len Nm.cs 3 Nm_len2, hscl]) HCL.out one_nms (by omega) (by simp [maxLen]; omega) (by omega) (fun a6 c6 w6 ho6 hg6 hat6 => ?_)
                                simp only [Nat.zero_add, List.nil_append] at ho6
                                obtain ⟨gv, hgv, hgv1, hgv2⟩ := own_addr ho6 hs0
                                subst hgv
                                rw [HST.out] at ho6
                                have hb6 : Below w3.heap.size w3 w6 := (Below.refl _ _).grown hg6 (Nat.le_refl _) (by intro q hq; cases hq)
                                have HB6 := Lib.hid (HB3.out.trans (hb6.mono (by omega)))
                                have c1 := own_at Nm_len2 ho6 (k := 0) (x := x0) rfl 1 _ rfl
                                have c2 := own_at Nm_len2 ho6 (k := 0) (x := x0) rfl 2 _ rfl
                                have f1 := ho6.frozenAt 1
                                have f2 := ho6.frozenAt 2
                                simp only [Nat.zero_mul, Nat.zero_add] at c1 c2
                                have gb := (HB6.out.block w.heap.size z0).trans HG0.out
                                have o0 := cell_of_row w6 _ 0 _ _ _ gb
                                have o1 := cell_of_row w6 _ 1 _ _ _ gb
                                simp only [List.getElem?_toArray, List.getElem?_cons_zero, List.getElem?_cons_succ] at o0 o1
                                have HO6 := Lib.hid ho6
                                have HB36 := Lib.hid hb6
                                clear ho6 hg6 hat6 gb hb6))
      obtain ⟨w7, hw7⟩ : ∃ w7, w7 = (w6.setCell ⟨gv, 1, none⟩ (.int .i64 ob)).setCell ⟨gv, 2, none⟩ (.bool oo) := ⟨_, rfl⟩
      have ho7 := (own_chain [.int .i64 ob, .bool oo] _ w6 1 HO6.out).1
      rw [scope_set] at ho7
      have ho7' : w7.ownsRow w3.heap.size 34 3 (.slice (some ⟨gv, 0, none⟩) sn c6) sn ((⟨x0.nm, ob, oo⟩ :: t).flatMap Nm.cs) := by rw [hw7]; exact ho7
      have hb7 : Below w3.heap.size w3 w7 := by rw [hw7]; exact (HB36.out.setCell (p := ⟨gv, 1, none⟩) hgv1 _).setCell (p := ⟨gv, 2, none⟩) hgv1 _
      have hl7 : (⟨x0.nm, ob, oo⟩ :: t : List Nm).length = sn := by rw [← hscl, HST.out]; rfl
      have HRV := Lib.hid (RS.of_owns ho7' (by decide) Nm_len2 (by omega))
      have HT7 := Lib.hid (HT3.out.below hb7)
      have HB7 := Lib.hid (HB3.out.trans (hb7.mono (by omega)))
      have z7 := hb7.size
      rw [← hw7]
      clear hw7 ho7 ho7' hb7 c1 c2 f1 f2 o0 o1
      with_reducible refine (told_any w7 a n c ns (HR.out.below HB7.out) (fun nd hnd => okS_below (HOK.out nd hnd) HB7.out) (some ⟨gv, 0, none⟩) sn c6 (⟨x0.nm, ob, oo⟩ :: t) HRV.out HT7.out HSML.out).mono ?_
      rintro e w8 ⟨rfl, hb8⟩
      have z8 := hb8.size
      have HT8 := Lib.hid (HT7.out.below hb8)
      have HB8 := Lib.hid (HB7.out.trans (hb8.mono (by omega)))
      clear hb8
      go_wp2_with fail
      with_reducible refine (told_any w8 a n c ns (HR.out.below HB8.out) (fun nd hnd => okS_below (HOK.out nd hnd) HB8.out) (some ⟨sb, so, none⟩) sn sc' sc (HSC.out.below HB8.out) HT8.out HSML.out).mono ?_
      rintro e w9 ⟨rfl, hb9⟩
      go_wp2
      go_ret
      exact ⟨rfl, HB0.out.trans ((HB8.out.trans (hb9.mono (by omega))).mono (Nat.le_of_lt z0))⟩
    · have hsI : ¬ (0 : Int) < (sn : Int) := by omega
      go_wp2_with fail
      with_reducible refine (told_any w3 a n c ns (HR.out.below HB3.out) (fun nd hnd => okS_below (HOK.out nd hnd) HB3.out) sa sn sc' sc (HSC.out.below HB3.out) HT3.out HSML.out).mono ?_
      rintro e w4 ⟨rfl, hb4⟩
      go_wp2
      go_ret
      exact ⟨rfl, HB0.out.trans ((HB3.out.trans (hb4.mono (by omega))).mono (Nat.le_of_lt z0))⟩
end Go.Proofs.YtakaoacialnjaaaDoor
