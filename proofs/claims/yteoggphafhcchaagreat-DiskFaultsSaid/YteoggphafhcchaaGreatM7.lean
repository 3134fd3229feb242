import Derived.Test.YteoggphafhcchaaGreatD6
namespace Go.Proofs.YteoggphafhcchaaGreat
open Go Go.RowKit
set_option maxRecDepth 100000
set_option maxHeartbeats 1000000
set_option linter.unusedVariables false
set_option linter.unusedSimpArgs false
open Go.Maps Go.WideMaps
theorem ownsMap_tight {w : World} {P : Program} {k : TypeId} {R : Value → Option (DataW Unit × List MemPlace)} {b n : Nat} {D : DataW Unit} (h : w.ownsMap P k R b n D) : w.ownsMap P k R b (size D) D := by
  obtain ⟨es, clock, hb, F, hs, rfl⟩ := h
  exact ⟨es, clock, hb, F, by simp [Maps.size, length_sorted], rfl⟩
theorem litS_inj {s t : Nm} (h : Lit.string s = Lit.string t) : s = t := by injection h
theorem NAt.put {w' : World} {ρ : Nat → Nat} {r : Nat} {fa : Nat → Nat} {b n i : Nat} {m : List (Nm × Nat)} {D : DataW Unit} {s : Nm} (ht : Tidy D) (hρ : ρ b = r) (hz : size D = m.length) (hl : ∀ s : Nm, D.atKey (.string s) .nil = (match lk m s with | none => .nil | some i => .lit (.int .i64 (fa i : Nat))) ∧ has D (.string s) = (lk m s).isSome)
    (hm' : w'.ownsMap Tryz.prog 9 ptrR b n (D.put (.string s) (.lit (.int .i64 (fa i : Nat))))) : NAt w' ρ r fa b (ins m s i) := by
  have hs := size_put (k := .string s) ht (.lit (.int .i64 (fa i : Nat)))
  have hsz : size (D.put (.string s) (.lit (.int .i64 (fa i : Nat)))) = (ins m s i).length := by
    rw [hs, (hl s).2, len_ins, hz]
    by_cases h : s ∈ keysOf m
    · rw [if_pos (lk_some.2 h), if_pos h]
    · rw [if_neg (by rw [lk_none.2 h]; simp), if_neg h]
  refine ⟨_, by have := ownsMap_tight hm'; rwa [hsz] at this, hρ, hsz, fun t => ?_⟩
  rw [lk_ins]
  by_cases e : t = s
  · subst e
    rw [if_pos rfl]
    exact ⟨atKey_put_same ht.isMap (show WideAt.IsKeyLit (.string t) from trivial) _ _, has_put_same ht.isMap (show WideAt.IsKeyLit (.string t) from trivial) _⟩
  · rw [if_neg e]
    exact ⟨(atKey_put_other (fun h => e (litS_inj h)) _ _).trans (hl t).1, (has_put_other (fun h => e (litS_inj h)) _).trans (hl t).2⟩
theorem del_facts {fa : Nat → Nat} {m : List (Nm × Nat)} {D : DataW Unit} {s : Nm} (hn : (keysOf m).Nodup) (ht : Tidy D) (hz : size D = m.length) (hl : ∀ s : Nm, D.atKey (.string s) .nil = (match lk m s with | none => .nil | some i => .lit (.int .i64 (fa i : Nat))) ∧ has D (.string s) = (lk m s).isSome) (hs : s ∈ keysOf m) :
    size (D.del (.string s)) = (era m s).length ∧ ∀ t : Nm, (D.del (.string s)).atKey (.string t) .nil = (match lk (era m s) t with | none => .nil | some i => .lit (.int .i64 (fa i : Nat))) ∧ has (D.del (.string s)) (.string t) = (lk (era m s) t).isSome := by
  have hd := size_del (k := .string s) ht
  rw [(hl s).2, if_pos (lk_some.2 hs), hz] at hd
  refine ⟨by have := len_era hs; omega, fun t => ?_⟩
  rw [lk_era hn]
  by_cases e : t = s
  · subst e
    rw [if_pos rfl]
    exact ⟨atKey_del_same _, has_del_same⟩
  · rw [if_neg e]
    exact ⟨(atKey_del_other (fun h => e (litS_inj h)) _).trans (hl t).1, (has_del_other (fun h => e (litS_inj h))).trans (hl t).2⟩
theorem NAt.del {w w' : World} {ρ : Nat → Nat} {r : Nat} {fa : Nat → Nat} {b n n' : Nat} {m : List (Nm × Nat)} {D : DataW Unit} {s : Nm} (hn : (keysOf m).Nodup) (hm : w.ownsMap Tryz.prog 9 ptrR b n D) (hρ : ρ b = r) (hz : size D = m.length) (hl : ∀ s : Nm, D.atKey (.string s) .nil = (match lk m s with | none => .nil | some i => .lit (.int .i64 (fa i : Nat))) ∧ has D (.string s) = (lk m s).isSome)
    (hm' : w'.ownsMap Tryz.prog 9 ptrR b n' (D.del (.string s))) (hs : s ∈ keysOf m) : NAt w' ρ r fa b (era m s) := by
  obtain ⟨h1, h2⟩ := del_facts hn (hm.tidy law9) hz hl hs
  exact ⟨_, by have := ownsMap_tight hm'; rwa [h1] at this, hρ, h1, h2⟩
theorem kL_bs (s : Nm) : kL (bs s) = .string s := by simp [kL, bs]
theorem at_bs (D : DataW Unit) (s : Nm) : at? D (bs s) = D.atKey (.string s) .nil := by unfold at?; rw [kL_bs]
theorem bs_ne {s : Nm} (h : s ≠ []) : ((bs s).toList == []) = false := by
  rw [ByteArray.toList_eq]; simpa [bs] using h
/-- change.do, on a map of names. -/
theorem do_any (w : World) (ρ : Nat → Nat) (r : Nat) (fa : Nat → Nat) (b : Nat) (m : List (Nm × Nat)) (c : Chg) (hN : NAt w ρ r fa b m) (hn : (keysOf m).Nodup) (h1 : c.src.length ≤ maxLen) (h2 : c.dst.length ≤ maxLen) (h3 : m.length < 1000000)
    (h4 : c.made = none → lk m c.src ≠ none) (h5 : c.made ≠ none → c.dst ≠ []) :
    Calls Tryz.prog 30 #[.agg #[.string (bs c.src), .string (bs c.dst), madeV fa c.made], .map (some b)] w fun e w' => e = .returned (.tuple #[]) ∧ NAt w' ρ r fa b (c.act m) ∧ w.grownBy w' (some b) := by
  obtain ⟨D, hm, hρ, hz, hl⟩ := hN
  obtain ⟨src, dst, made⟩ := c
  dsimp only at h1 h2 h4 h5 ⊢
  cases made with
  | some i =>
    have hd : dst ≠ [] := h5 (by simp)
    refine (do_make w b m.length D hm h3 (bs src) (bs dst) (lenBs h2) (bs_ne hd) (fa i)).mono ?_
    rintro e w' ⟨he, hm', hg⟩
    rw [kL_bs] at hm'
    refine ⟨he, ?_, hg⟩
    unfold Chg.act
    simp only [hd, if_false]
    exact NAt.put (hm.tidy law9) hρ hz hl hm'
  | none =>
    cases hk : lk m src with
    | none => exact absurd hk (h4 rfl)
    | some i =>
      have hs : src ∈ keysOf m := lk_some.1 (by rw [hk]; rfl)
      have hat : at? D (bs src) = .lit (.int .i64 (fa i : Nat)) := by rw [at_bs, (hl src).1, hk]
      by_cases hd : dst = []
      · subst hd
        refine (do_drop w b m.length D hm (bs src) (lenBs h1)).mono ?_
        rintro e w' ⟨he, hm', hg⟩
        rw [kL_bs] at hm'
        refine ⟨he, ?_, hg⟩
        unfold Chg.act
        simp only [hk, if_true]
        exact NAt.del hn hm hρ hz hl hm' hs
      · refine (do_move w b m.length D hm h3 (bs src) (bs dst) (lenBs h1) (lenBs h2) (bs_ne hd) (fa i) hat).mono ?_
        rintro e w' ⟨he, hm', hg⟩
        rw [kL_bs, kL_bs] at hm'
        refine ⟨he, ?_, hg⟩
        unfold Chg.act
        simp only [hk, hd, if_false]
        obtain ⟨g1, g2⟩ := del_facts hn (hm.tidy law9) hz hl hs
        exact NAt.put ((hm.tidy law9).del _) hρ g1 g2 hm'
end Go.Proofs.YteoggphafhcchaaGreat
