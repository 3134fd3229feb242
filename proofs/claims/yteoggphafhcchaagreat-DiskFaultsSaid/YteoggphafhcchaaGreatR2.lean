import Derived.Test.YteoggphafhcchaaGreatR1
namespace Go.Proofs.YteoggphafhcchaaGreat
open Go Go.RowKit
set_option maxRecDepth 100000
set_option maxHeartbeats 1000000
set_option linter.unusedVariables false
set_option linter.unusedSimpArgs false
open Go.Maps Go.WideMaps
theorem Calm.withPlan {d : Dm} (h : Calm d) (p : List Flt) : Calm { d with plan := p } :=
  ⟨⟨⟨h.pre.refs.nm, h.pre.refs.sf, h.pre.refs.ch⟩, h.pre.nn, h.pre.ns, h.pre.few, h.pre.fewS, h.pre.acts, h.pre.epoch, h.pre.fsl, h.pre.chl, h.pre.leg, h.pre.fl⟩, h.units⟩
theorem Calm.withActs {d : Dm} (h : Calm d) (a : Nat) (ha : a < 1099511627776) : Calm { d with acts := a } :=
  ⟨⟨⟨h.pre.refs.nm, h.pre.refs.sf, h.pre.refs.ch⟩, h.pre.nn, h.pre.ns, h.pre.few, h.pre.fewS, ha, h.pre.epoch, h.pre.fsl, h.pre.chl, h.pre.leg, h.pre.fl⟩, h.units⟩
theorem Calm.withPower {d : Dm} (h : Calm d) (b : Bool) : Calm { d with power := b } :=
  ⟨⟨⟨h.pre.refs.nm, h.pre.refs.sf, h.pre.refs.ch⟩, h.pre.nn, h.pre.ns, h.pre.few, h.pre.fewS, h.pre.acts, h.pre.epoch, h.pre.fsl, h.pre.chl, h.pre.leg, h.pre.fl⟩, h.units⟩
/-- What a step is, if it is no act. -/
def newOp : Op3 := ⟨1, 0, [110, 101, 119], [], 0, 0, [], none, 0, none, 0, 0, none, 0, 0, 0⟩
def Op3.act (o : Op3) : Op3 := if 1 ≤ o.kind ∧ o.kind ≤ 7 then o else newOp
theorem act_is (o : Op3) : 1 ≤ o.act.kind ∧ o.act.kind ≤ 7 := by
  unfold Op3.act
  split
  · assumption
  · exact ⟨by decide, by decide⟩
theorem newOp_low (w : World) (B : Nat) : OpLow w B newOp := ⟨⟨by decide, by decide⟩, by unfold maxLen; decide, by unfold maxLen; decide, by decide, by decide, by decide, R8.nil w 0, fun b off e => by cases e⟩
theorem OpLow.act {w : World} {B : Nat} {o : Op3} (h : OpLow w B o) : OpLow w B o.act := by
  unfold Op3.act
  split
  · exact h
  · exact newOp_low w B
/-- One disk with a fault ahead, the other one without. -/
structure Faulty (D : Dm) (o : Op3) (kk : Int) (r : Dm × Int) : Prop where
  refused : (D.refuse o ≠ 0 ∧ r.1 = { D with plan := [⟨D.acts, kk, 0⟩] } ∧ r.2 ≠ 0 ∧ D.does o = (D, D.refuse o)) ∨
    (D.refuse o = 0 ∧ (D.does o).1 = D.eff o { D with acts := D.acts + 1 } ∧
      ((kk = 1 ∧ r = ({ D with acts := D.acts + 1, plan := [⟨D.acts, kk, 0⟩] }, 30)) ∨ (kk = 2 ∧ r = ({ D.eff o { D with acts := D.acts + 1 } with plan := [⟨D.acts, kk, 0⟩] }, 30)) ∨ (kk = 6 ∧ r = ({ D.eff o { D with acts := D.acts + 1 } with plan := [⟨D.acts, kk, 0⟩], power := false }, 2))))
theorem faulty {S N C : Nat} {D : Dm} (h : Inv S N C D) (o : Op3) (ho : 1 ≤ o.kind ∧ o.kind ≤ 7) (kk : Int) (hk : kk = 1 ∨ kk = 2 ∨ kk = 6) : Faulty D o kk (({ D with plan := [⟨D.acts, kk, 0⟩] } : Dm).does o) := by
  obtain ⟨A, hA⟩ : ∃ A : Dm, A = { D with plan := [⟨D.acts, kk, 0⟩] } := ⟨_, rfl⟩
  rw [← hA]
  have e1 : A.refuse o = D.refuse o := by rw [hA]; rfl
  have e2 : ∀ e, A.eff o e = D.eff o e := fun e => by rw [hA]; rfl
  have hp : (A.planned A.acts).kind = kk := by
    rw [hA]
    unfold Dm.planned
    have : (List.find? (fun f : Flt => decide (f.step = ((D.acts : Nat) : Int) ∧ 1 ≤ f.kind ∧ f.kind ≤ 6)) [⟨D.acts, kk, 0⟩]) = some ⟨D.acts, kk, 0⟩ := by
      rw [List.find?_cons_of_pos]
      simp
      omega
    show ((List.find? _ [(⟨D.acts, kk, 0⟩ : Flt)]).getD ⟨0, 0, 0⟩).kind = kk
    rw [this]; rfl
  have e3 : D.eff o { A with acts := A.acts + 1 } = { D.eff o { D with acts := D.acts + 1 } with plan := [⟨D.acts, kk, 0⟩] } := by
    have h9 := eff_with D o D (D.acts + 1) [⟨D.acts, kk, 0⟩]
    have h8 := eff_with D o D (D.acts + 1) D.plan
    rw [hA]
    refine (show D.eff o { D with acts := D.acts + 1, plan := [⟨D.acts, kk, 0⟩] } = _ from h9).trans ?_
    have h7 : D.eff o { D with acts := D.acts + 1 } = { D.eff o D with acts := D.acts + 1, plan := D.plan } := h8
    rw [h7]
  rcases does_all A o ho with ⟨hr, he⟩ | ⟨hr, hw⟩
  · rcases does_all D o ho with ⟨hr2, he2⟩ | ⟨hr2, -⟩
    · exact ⟨.inl ⟨hr2, by rw [he, hA], by rw [he]; exact hr, he2⟩⟩
    · rw [e1] at hr; exact absurd hr2 hr
  · rcases does_all D o ho with ⟨hr2, -⟩ | ⟨hr2, hw2⟩
    · rw [e1] at hr; exact absurd hr hr2
    · refine ⟨.inr ⟨hr2, hw2.k0 (by rw [planned_nil h.pl]), ?_⟩⟩
      rcases hk with rfl | rfl | rfl
      · exact .inl ⟨rfl, by rw [hw.k1 hp, hA]⟩
      · exact .inr (.inl ⟨rfl, by rw [hw.k2 hp, e2, e3]⟩)
      · exact .inr (.inr ⟨rfl, by rw [hw.k6 hp, e2, e3]⟩)
/-! A refusal's own block is none of a disk's. -/
def clr (ρ : Nat → Nat) (g : Nat) : Nat → Nat := fun k => if k = g then 0 else ρ k
theorem clr_ne {ρ : Nat → Nat} {g k : Nat} (h : k ≠ g) : clr ρ g k = ρ k := by unfold clr; rw [if_neg h]
theorem clr_sub {ρ : Nat → Nat} {g k : Nat} (h : clr ρ g k ≠ 0) : ρ k ≠ 0 := by
  unfold clr at h
  split at h
  · exact absurd rfl h
  · exact h
theorem clr_low {ρ : Nat → Nat} {g k : Nat} (h : ρ k = 0) : clr ρ g k = 0 := by
  unfold clr
  split
  · rfl
  · exact h
section
variable {w : World} {g : Nat} {cb nb : ByteArray} {yb : Int} (hg : w.heap[g]? = some (boxF cb nb yb))
include hg
theorem OwnL.clear {ρ : Nat → Nat} {e s r n : Nat} {v : Value} {xs : List Value} (h : OwnL w ρ e s r v n xs) (he : e ≠ 122) : OwnL w (clr ρ g) e s r v n xs :=
  ⟨h.1, fun k hk => by
    rw [clr_ne (fun e2 => ?_)]
    · exact h.2 k hk
    · subst e2
      rcases h.1.2 with ⟨h1, -⟩ | ⟨b, cap, cur, h1, -, h2, -⟩
      · rw [h1] at hk; cases hk
      · rw [h1] at hk
        obtain rfl : b = k := Option.some.inj hk
        rw [hg] at h2
        injection h2 with h2
        injection h2 with _ h2 _
        exact he h2.symm⟩
theorem RdL.clear {ρ : Nat → Nat} {v : Value} {l : List UInt8} (h : RdL w ρ v l) : RdL w (clr ρ g) v l := by
  obtain ⟨a, c, hv, hr, hl⟩ := h
  refine ⟨a, c, hv, hr, fun b off e h0 => ?_⟩
  rw [clr_ne (fun e2 => ?_)]
  · exact hl b off e h0
  · subst e2
    obtain ⟨b', off', e', hc⟩ := hr.2.2.2 0 h0
    rw [e] at e'
    cases e'
    rw [cell_of_row _ _ _ _ _ _ hg] at hc
    have : off + 0 = 0 ∨ off + 0 = 1 ∨ off + 0 = 2 ∨ 3 ≤ off + 0 := by omega
    rcases this with h | h | h | h
    · rw [h] at hc; simp at hc
    · rw [h] at hc; simp at hc
    · rw [h] at hc; simp at hc
    · rw [Array.getElem?_eq_none (by simpa using h)] at hc; cases hc
theorem RunsAt.clear {ρ : Nat → Nat} {r : Nat} {v : Value} {l : List Run} (h : RunsAt w ρ r v l) : RunsAt w (clr ρ g) r v l := by
  obtain ⟨rs, h1, h2, h3⟩ := h
  exact ⟨rs, h1, h2.clear hg (by decide), fun k p u hp hu => ⟨(h3 k p u hp hu).1, (h3 k p u hp hu).2.clear hg⟩⟩
theorem DAt.clear {L : Lay} {gd : Nat} {d : Dm} (h : DAt w L gd d) (hp : d.plan = []) : DAt w { L with ρ := clr L.ρ g } gd d := by
  have hgd : gd ≠ g := fun e => by subst e; rw [h.g] at hg; cases hg
  refine ⟨h.g, (clr_ne hgd).trans h.lg, fun k e => h.dom k (clr_sub e), ?_, ?_, ?_, h.ch.clear hg (by decide), ?_, fun i f hf => ?_⟩
  · obtain ⟨D, hm, h1, h2⟩ := h.nm
    exact ⟨D, hm, (clr_ne (fun e => by obtain ⟨es, ck, hb, -⟩ := hm; rw [e, hg] at hb; cases hb)).trans h1, h2⟩
  · obtain ⟨D, hm, h1, h2⟩ := h.sf
    exact ⟨D, hm, (clr_ne (fun e => by obtain ⟨es, ck, hb, -⟩ := hm; rw [e, hg] at hb; cases hb)).trans h1, h2⟩
  · obtain ⟨D, hm, h1, h2⟩ := h.cl
    exact ⟨D, hm, (clr_ne (fun e => by obtain ⟨es, ck, hb, -⟩ := hm; rw [e, hg] at hb; cases hb)).trans h1, h2⟩
  · obtain ⟨a, c, h1, h2, -⟩ := h.pl
    exact ⟨a, c, h1, h2, fun b off e h0 => by rw [hp] at h0; exact absurd h0 (by decide)⟩
  · obtain ⟨vn, vs, vl, hx⟩ := h.fs i f hf
    exact ⟨vn, vs, vl, hx.box, (clr_ne (fun e => by have := hx.box; rw [e, hg] at this; cases this)).trans hx.lg, hx.now.clear hg (by decide), hx.safe.clear hg (by decide), hx.loose.clear hg⟩
end
theorem eff_acts (d : Dm) (o : Op3) : (d.eff o { d with acts := d.acts + 1 }).acts = d.acts + 1 := by
  have h := eff_with d o d (d.acts + 1) d.plan
  rw [show ({ d with acts := d.acts + 1, plan := d.plan } : Dm) = { d with acts := d.acts + 1 } from rfl] at h
  rw [h]
theorem toldE_not {v : Value} {w : World} {ρ : Nat → Nat} {y : Int} (h : ToldE v w ρ y) (hy : y ≠ 0) : ∃ c n, IsFault w v c n y ∧ ∃ g, v = .iface 88 (.pointer (some ⟨g, 0, none⟩)) ∧ ρ g = 0 := by
  obtain ⟨c, n, h⟩ := h
  rcases h with ⟨h0, -⟩ | ⟨-, g, e, hb, h0⟩
  · exact absurd h0 hy
  · exact ⟨c, n, ⟨g, e, hb⟩, g, e, h0⟩
theorem new_box0 {w w2 : World} {g : Nat} {z0 z1 z2 z3 z4 z5 z6 z7 z8 z9 : Value} (h : w2.heap[g]? = some (.cells #[z0, z1, z2, z3, z4, z5, z6, z7, z8, z9] 52)) (hb : Below w.heap.size w w2) (hg : w.heap.size ≤ g) :
    ((((((((((w2.setCell ⟨g, 0, none⟩ (.int .i64 1)).setCell ⟨g, 1, none⟩ (.int .i64 0)).setCell ⟨g, 2, none⟩ (.string ⟨#[110, 101, 119]⟩)).setCell ⟨g, 3, none⟩ (.string ⟨#[]⟩)).setCell ⟨g, 4, none⟩ (.int .i64 0)).setCell ⟨g, 5, none⟩ (.int .i64 0)).setCell ⟨g, 6, none⟩ (.slice none 0 0)).setCell ⟨g, 7, none⟩ (.slice none 0 0)).setCell ⟨g, 8, none⟩ (.slice none 0 0)).setCell ⟨g, 9, none⟩ (.int .i64 0)).heap[g]? = some (.cells newOp.cells 52) ∧ Below w.heap.size w ((((((((((w2.setCell ⟨g, 0, none⟩ (.int .i64 1)).setCell ⟨g, 1, none⟩ (.int .i64 0)).setCell ⟨g, 2, none⟩ (.string ⟨#[110, 101, 119]⟩)).setCell ⟨g, 3, none⟩ (.string ⟨#[]⟩)).setCell ⟨g, 4, none⟩ (.int .i64 0)).setCell ⟨g, 5, none⟩ (.int .i64 0)).setCell ⟨g, 6, none⟩ (.slice none 0 0)).setCell ⟨g, 7, none⟩ (.slice none 0 0)).setCell ⟨g, 8, none⟩ (.slice none 0 0)).setCell ⟨g, 9, none⟩ (.int .i64 0)) := by
  have h0 : (w2.setCell ⟨g, 0, none⟩ (.int .i64 1)).heap[g]? = some (.cells #[.int .i64 1, z1, z2, z3, z4, z5, z6, z7, z8, z9] 52) := heap_setCell_same _ g 0 _ _ _ h
  have h1 : ((w2.setCell ⟨g, 0, none⟩ (.int .i64 1)).setCell ⟨g, 1, none⟩ (.int .i64 0)).heap[g]? = some (.cells #[.int .i64 1, .int .i64 0, z2, z3, z4, z5, z6, z7, z8, z9] 52) := heap_setCell_same _ g 1 _ _ _ h0
  have h2 : (((w2.setCell ⟨g, 0, none⟩ (.int .i64 1)).setCell ⟨g, 1, none⟩ (.int .i64 0)).setCell ⟨g, 2, none⟩ (.string ⟨#[110, 101, 119]⟩)).heap[g]? = some (.cells #[.int .i64 1, .int .i64 0, .string ⟨#[110, 101, 119]⟩, z3, z4, z5, z6, z7, z8, z9] 52) := heap_setCell_same _ g 2 _ _ _ h1
  have h3 : ((((w2.setCell ⟨g, 0, none⟩ (.int .i64 1)).setCell ⟨g, 1, none⟩ (.int .i64 0)).setCell ⟨g, 2, none⟩ (.string ⟨#[110, 101, 119]⟩)).setCell ⟨g, 3, none⟩ (.string ⟨#[]⟩)).heap[g]? = some (.cells #[.int .i64 1, .int .i64 0, .string ⟨#[110, 101, 119]⟩, .string ⟨#[]⟩, z4, z5, z6, z7, z8, z9] 52) := heap_setCell_same _ g 3 _ _ _ h2
  have h4 : (((((w2.setCell ⟨g, 0, none⟩ (.int .i64 1)).setCell ⟨g, 1, none⟩ (.int .i64 0)).setCell ⟨g, 2, none⟩ (.string ⟨#[110, 101, 119]⟩)).setCell ⟨g, 3, none⟩ (.string ⟨#[]⟩)).setCell ⟨g, 4, none⟩ (.int .i64 0)).heap[g]? = some (.cells #[.int .i64 1, .int .i64 0, .string ⟨#[110, 101, 119]⟩, .string ⟨#[]⟩, .int .i64 0, z5, z6, z7, z8, z9] 52) := heap_setCell_same _ g 4 _ _ _ h3
  have h5 : ((((((w2.setCell ⟨g, 0, none⟩ (.int .i64 1)).setCell ⟨g, 1, none⟩ (.int .i64 0)).setCell ⟨g, 2, none⟩ (.string ⟨#[110, 101, 119]⟩)).setCell ⟨g, 3, none⟩ (.string ⟨#[]⟩)).setCell ⟨g, 4, none⟩ (.int .i64 0)).setCell ⟨g, 5, none⟩ (.int .i64 0)).heap[g]? = some (.cells #[.int .i64 1, .int .i64 0, .string ⟨#[110, 101, 119]⟩, .string ⟨#[]⟩, .int .i64 0, .int .i64 0, z6, z7, z8, z9] 52) := heap_setCell_same _ g 5 _ _ _ h4
  have h6 : (((((((w2.setCell ⟨g, 0, none⟩ (.int .i64 1)).setCell ⟨g, 1, none⟩ (.int .i64 0)).setCell ⟨g, 2, none⟩ (.string ⟨#[110, 101, 119]⟩)).setCell ⟨g, 3, none⟩ (.string ⟨#[]⟩)).setCell ⟨g, 4, none⟩ (.int .i64 0)).setCell ⟨g, 5, none⟩ (.int .i64 0)).setCell ⟨g, 6, none⟩ (.slice none 0 0)).heap[g]? = some (.cells #[.int .i64 1, .int .i64 0, .string ⟨#[110, 101, 119]⟩, .string ⟨#[]⟩, .int .i64 0, .int .i64 0, .slice none 0 0, z7, z8, z9] 52) := heap_setCell_same _ g 6 _ _ _ h5
  have h7 : ((((((((w2.setCell ⟨g, 0, none⟩ (.int .i64 1)).setCell ⟨g, 1, none⟩ (.int .i64 0)).setCell ⟨g, 2, none⟩ (.string ⟨#[110, 101, 119]⟩)).setCell ⟨g, 3, none⟩ (.string ⟨#[]⟩)).setCell ⟨g, 4, none⟩ (.int .i64 0)).setCell ⟨g, 5, none⟩ (.int .i64 0)).setCell ⟨g, 6, none⟩ (.slice none 0 0)).setCell ⟨g, 7, none⟩ (.slice none 0 0)).heap[g]? = some (.cells #[.int .i64 1, .int .i64 0, .string ⟨#[110, 101, 119]⟩, .string ⟨#[]⟩, .int .i64 0, .int .i64 0, .slice none 0 0, .slice none 0 0, z8, z9] 52) := heap_setCell_same _ g 7 _ _ _ h6
  have h8 : (((((((((w2.setCell ⟨g, 0, none⟩ (.int .i64 1)).setCell ⟨g, 1, none⟩ (.int .i64 0)).setCell ⟨g, 2, none⟩ (.string ⟨#[110, 101, 119]⟩)).setCell ⟨g, 3, none⟩ (.string ⟨#[]⟩)).setCell ⟨g, 4, none⟩ (.int .i64 0)).setCell ⟨g, 5, none⟩ (.int .i64 0)).setCell ⟨g, 6, none⟩ (.slice none 0 0)).setCell ⟨g, 7, none⟩ (.slice none 0 0)).setCell ⟨g, 8, none⟩ (.slice none 0 0)).heap[g]? = some (.cells #[.int .i64 1, .int .i64 0, .string ⟨#[110, 101, 119]⟩, .string ⟨#[]⟩, .int .i64 0, .int .i64 0, .slice none 0 0, .slice none 0 0, .slice none 0 0, z9] 52) := heap_setCell_same _ g 8 _ _ _ h7
  have h9 : ((((((((((w2.setCell ⟨g, 0, none⟩ (.int .i64 1)).setCell ⟨g, 1, none⟩ (.int .i64 0)).setCell ⟨g, 2, none⟩ (.string ⟨#[110, 101, 119]⟩)).setCell ⟨g, 3, none⟩ (.string ⟨#[]⟩)).setCell ⟨g, 4, none⟩ (.int .i64 0)).setCell ⟨g, 5, none⟩ (.int .i64 0)).setCell ⟨g, 6, none⟩ (.slice none 0 0)).setCell ⟨g, 7, none⟩ (.slice none 0 0)).setCell ⟨g, 8, none⟩ (.slice none 0 0)).setCell ⟨g, 9, none⟩ (.int .i64 0)).heap[g]? = some (.cells #[.int .i64 1, .int .i64 0, .string ⟨#[110, 101, 119]⟩, .string ⟨#[]⟩, .int .i64 0, .int .i64 0, .slice none 0 0, .slice none 0 0, .slice none 0 0, .int .i64 0] 52) := heap_setCell_same _ g 9 _ _ _ h8
  exact ⟨h9, ((((((((((hb.setCell (p := ⟨g, 0, none⟩) hg (.int .i64 1)).setCell (p := ⟨g, 1, none⟩) hg (.int .i64 0)).setCell (p := ⟨g, 2, none⟩) hg (.string ⟨#[110, 101, 119]⟩)).setCell (p := ⟨g, 3, none⟩) hg (.string ⟨#[]⟩)).setCell (p := ⟨g, 4, none⟩) hg (.int .i64 0)).setCell (p := ⟨g, 5, none⟩) hg (.int .i64 0)).setCell (p := ⟨g, 6, none⟩) hg (.slice none 0 0)).setCell (p := ⟨g, 7, none⟩) hg (.slice none 0 0)).setCell (p := ⟨g, 8, none⟩) hg (.slice none 0 0)).setCell (p := ⟨g, 9, none⟩) hg (.int .i64 0))⟩
theorem new_box {w w2 : World} {g : Nat} {o : Op3} (h : w2.heap[g]? = some (.cells o.cells 52)) (hb : Below w.heap.size w w2) (hg : w.heap.size ≤ g) :
    ((((((((((w2.setCell ⟨g, 0, none⟩ (.int .i64 1)).setCell ⟨g, 1, none⟩ (.int .i64 0)).setCell ⟨g, 2, none⟩ (.string ⟨#[110, 101, 119]⟩)).setCell ⟨g, 3, none⟩ (.string ⟨#[]⟩)).setCell ⟨g, 4, none⟩ (.int .i64 0)).setCell ⟨g, 5, none⟩ (.int .i64 0)).setCell ⟨g, 6, none⟩ (.slice none 0 0)).setCell ⟨g, 7, none⟩ (.slice none 0 0)).setCell ⟨g, 8, none⟩ (.slice none 0 0)).setCell ⟨g, 9, none⟩ (.int .i64 0)).heap[g]? = some (.cells newOp.cells 52) ∧ Below w.heap.size w ((((((((((w2.setCell ⟨g, 0, none⟩ (.int .i64 1)).setCell ⟨g, 1, none⟩ (.int .i64 0)).setCell ⟨g, 2, none⟩ (.string ⟨#[110, 101, 119]⟩)).setCell ⟨g, 3, none⟩ (.string ⟨#[]⟩)).setCell ⟨g, 4, none⟩ (.int .i64 0)).setCell ⟨g, 5, none⟩ (.int .i64 0)).setCell ⟨g, 6, none⟩ (.slice none 0 0)).setCell ⟨g, 7, none⟩ (.slice none 0 0)).setCell ⟨g, 8, none⟩ (.slice none 0 0)).setCell ⟨g, 9, none⟩ (.int .i64 0)) := new_box0 h hb hg
theorem diskfaults_walk (w : World) (sp : Int) (hsp0 : -9223372036854775808 ≤ sp) (hsp1 : sp ≤ 9223372036854775807) (a : Option Addr) (n c : Nat) (ops : List Op3) (hsc : ScAt w w.heap.size a n ops) (o : Op3) (ho : OpLow w w.heap.size o) (kd : Int) (hk0 : -9223372036854775808 ≤ kd) (hk1 : kd ≤ 9223372036854775807) :
    Calls Tryz.prog 4 #[.int .i64 sp, .slice a n c, o.val, .int .i64 kd] w fun e w' => e = .returned (.bool true) ∧ Below w.heap.size w w' := by
  have hfew := hsc.few
  have hlen := hsc.len
  have HSC := Lib.hid hsc
  have HLN := Lib.hid hlen
  have HO := Lib.hid ho.act
  have HACT := Lib.hid (act_is o)
  clear hsc hlen
  obtain ⟨is, his⟩ : ∃ is : Bool, is = decide (1 ≤ o.kind ∧ o.kind ≤ 7) := ⟨_, rfl⟩
  have hia := isact_any (w.alloc (.cells o.cells 52)) o
  unfold Op3.val at hia ⊢
  rw [← his] at hia
  have HIA := Lib.hid hia
  have HIS := Lib.hid his
  clear hia his ho
  go_enter Tryz.func4, Tryz.ntmps4
  go_upto_region 2 with (first
    | (go_at_call 5; refine (within_s _ sp hsp0 hsp1).mono ?_; rintro e w1 ⟨⟨S, hS, rfl⟩, e1⟩; rw [e1]; clear e1 w1))
  obtain ⟨w1, hw1⟩ : ∃ w1, w1 = w.alloc (.cells o.cells 52) := ⟨_, rfl⟩
  obtain ⟨bo, hbo⟩ : ∃ bo, bo = w.heap.size := ⟨_, rfl⟩
  have hx1 : w1.heap[bo]? = some (.cells o.cells 52) := by rw [hw1, hbo]; exact heap_alloc_new w _
  have hb1 : Below w.heap.size w w1 := by rw [hw1]; exact bel1 _ _
  rw [← hw1] at HIA
  rw [show (w.alloc (.cells #[.int .i64 o.kind, .int .i64 o.at_, .string (bs o.a), .string (bs o.b), .int .i64 o.n, .int .i64 o.m, .slice o.pa o.p.length o.pc, .slice o.fa o.fn o.fc, .slice o.ca o.cn o.cc, .int .i64 o.nm] 52)) = w1 from hw1.symm]
  rw [← hbo]
  have s0 : w1.cell? ⟨bo, 0, none⟩ = some (.int .i64 o.kind) := by rw [cell_of_row _ _ _ _ _ _ hx1]; rfl
  have s1 : w1.cell? ⟨bo, 1, none⟩ = some (.int .i64 o.at_) := by rw [cell_of_row _ _ _ _ _ _ hx1]; rfl
  have s2 : w1.cell? ⟨bo, 2, none⟩ = some (.string (bs o.a)) := by rw [cell_of_row _ _ _ _ _ _ hx1]; rfl
  have s3 : w1.cell? ⟨bo, 3, none⟩ = some (.string (bs o.b)) := by rw [cell_of_row _ _ _ _ _ _ hx1]; rfl
  have s4 : w1.cell? ⟨bo, 4, none⟩ = some (.int .i64 o.n) := by rw [cell_of_row _ _ _ _ _ _ hx1]; rfl
  have s5 : w1.cell? ⟨bo, 5, none⟩ = some (.int .i64 o.m) := by rw [cell_of_row _ _ _ _ _ _ hx1]; rfl
  have s6 : w1.cell? ⟨bo, 6, none⟩ = some (.slice o.pa o.p.length o.pc) := by rw [cell_of_row _ _ _ _ _ _ hx1]; rfl
  have s7 : w1.cell? ⟨bo, 7, none⟩ = some (.slice o.fa o.fn o.fc) := by rw [cell_of_row _ _ _ _ _ _ hx1]; rfl
  have s8 : w1.cell? ⟨bo, 8, none⟩ = some (.slice o.ca o.cn o.cc) := by rw [cell_of_row _ _ _ _ _ _ hx1]; rfl
  have s9 : w1.cell? ⟨bo, 9, none⟩ = some (.int .i64 o.nm) := by rw [cell_of_row _ _ _ _ _ _ hx1]; rfl
  have HX1 := Lib.hid hx1
  have HB1 := Lib.hid hb1
  have HBO := Lib.hid hbo
  clear hx1 hb1 hw1 hbo
  go_upto_if 21 with (first
    | (go_at_call 15; refine HIA.out.mono ?_; rintro e w2 ⟨rfl, hb2⟩
       have hx2 := (hb2.block bo (Array.getElem?_eq_some_iff.1 HX1.out).1).trans HX1.out
       have t0 := keepc hb2 s0
       have t1 := keepc hb2 s1
       have t2 := keepc hb2 s2
       have t3 := keepc hb2 s3
       have t4 := keepc hb2 s4
       have t5 := keepc hb2 s5
       have t6 := keepc hb2 s6
       have t7 := keepc hb2 s7
       have t8 := keepc hb2 s8
       have t9 := keepc hb2 s9
       have f0 := frozen_of_row w2 bo 0 _ _ hx2
       have f1 := frozen_of_row w2 bo 1 _ _ hx2
       have f2 := frozen_of_row w2 bo 2 _ _ hx2
       have f3 := frozen_of_row w2 bo 3 _ _ hx2
       have f4 := frozen_of_row w2 bo 4 _ _ hx2
       have f5 := frozen_of_row w2 bo 5 _ _ hx2
       have f6 := frozen_of_row w2 bo 6 _ _ hx2
       have f7 := frozen_of_row w2 bo 7 _ _ hx2
       have f8 := frozen_of_row w2 bo 8 _ _ hx2
       have f9 := frozen_of_row w2 bo 9 _ _ hx2
       have HX2 := Lib.hid hx2
       have HB2 := Lib.hid (HB1.out.trans (hb2.mono HB1.out.size))
       clear hb2 hx2 s0 s1 s2 s3 s4 s5 s6 s7 s8 s9))
  go_cut [] (fun wx => wx.heap[bo]? = some (.cells o.act.cells 52) ∧ Below w.heap.size w wx)
  case first =>
    cases is with
    | true =>
      have ha : o.act = o := by unfold Op3.act; rw [if_pos (of_decide_eq_true HIS.out.symm)]
      have HA := Lib.hid ha
      clear ha
      go_wp2_with fail
      go_meet
      exact ⟨by rw [HA.out]; exact HX2.out, HB2.out⟩
    | false =>
      have ha : o.act = newOp := by unfold Op3.act; rw [if_neg (of_decide_eq_false HIS.out.symm)]
      have HA := Lib.hid ha
      clear ha
      go_wp2_with fail
      go_meet
      rw [HA.out]
      exact new_box HX2.out HB2.out (by rw [HBO.out]; exact Nat.le_refl _)
  case rest =>
    obtain ⟨hxq, hbq⟩ := hcut
    rename World => wq
    obtain ⟨o2, ho2⟩ : ∃ o2, o2 = o.act := ⟨_, rfl⟩
    rw [← ho2] at hxq HO HACT
    have HXQ := Lib.hid hxq
    have HBQ := Lib.hid hbq
    clear hxq hbq ho2 HB1 HX1 HIA HIS HX2 HB2 t0 t1 t2 t3 t4 t5 t6 t7 t8 t9 f0 f1 f2 f3 f4 f5 f6 f7 f8 f9
    obtain ⟨wr, hwr⟩ : ∃ wr, wr = wq.alloc (.cells #[.int .i64 1, .int .i64 2, .int .i64 6] 3) := ⟨_, rfl⟩
    obtain ⟨gk, hgk⟩ : ∃ gk, gk = wq.heap.size := ⟨_, rfl⟩
    have hbr : Below wq.heap.size wq wr := by rw [hwr]; exact bel1 _ _
    have hxr : wr.heap[gk]? = some (.cells #[.int .i64 1, .int .i64 2, .int .i64 6] 3) := by rw [hwr, hgk]; exact heap_alloc_new wq _
    have HXR := Lib.hid ((hbr.block bo (Array.getElem?_eq_some_iff.1 HXQ.out).1).trans HXQ.out)
    have HBR := Lib.hid (HBQ.out.trans (hbr.mono HBQ.out.size))
    have hkc : ∀ r : Nat, r ≤ 2 → ∃ kk : Int, (kk = 1 ∨ kk = 2 ∨ kk = 6) ∧ wr.cell? ⟨gk, r, none⟩ = some (.int .i64 kk) := fun r hr => by
      have : r = 0 ∨ r = 1 ∨ r = 2 := by omega
      rcases this with rfl | rfl | rfl
      · exact ⟨1, .inl rfl, by rw [cell_of_row _ _ _ _ _ _ hxr]; rfl⟩
      · exact ⟨2, .inr (.inl rfl), by rw [cell_of_row _ _ _ _ _ _ hxr]; rfl⟩
      · exact ⟨6, .inr (.inr rfl), by rw [cell_of_row _ _ _ _ _ _ hxr]; rfl⟩
    have HKC := Lib.hid hkc
    have HWR := Lib.hid (And.intro hwr hgk)
    clear hbr hxr hkc hwr hgk
    go_upto_region 5 with (first
      | (go_at_call 5; rw [← HWR.out.1, ← HWR.out.2]; refine (within_3 _ kd hk0 hk1).mono ?_; rintro e w1' ⟨⟨r, hr, rfl⟩, e1⟩; rw [e1]; clear e1 w1'
         obtain ⟨kk, hkk, hkcell⟩ := HKC.out r hr
         have HKK := Lib.hid hkk
         clear hkk))
    clear hkcell
    obtain ⟨D, hD⟩ : ∃ D, D = madeD S ops := ⟨_, rfl⟩
    obtain ⟨hinv, hacts⟩ := Inv.made hS ops
    rw [← hD] at hinv hacts
    have hopl : ops.length = n := HLN.out
    have HI := Lib.hid hinv
    have HC := Lib.hid (hinv.calm hS (by omega) (by omega) (by omega))
    have hpw : D.power = true := hinv.pw
    obtain ⟨A, hA⟩ : ∃ A : Nat, A = D.acts := ⟨_, rfl⟩
    have hA9 : A ≤ 999999000000 := by omega
    obtain ⟨Da, hDa⟩ : ∃ Da : Dm, Da = { D with plan := [⟨A, kk, 0⟩] } := ⟨_, rfl⟩
    have HFA := Lib.hid (show Faulty D o2 kk (Da.does o2) from by rw [hDa, hA]; exact faulty hinv o2 HACT.out kk HKK.out)
    have HCA := Lib.hid (show Calm Da from by rw [hDa]; exact HC.out.withPlan _)
    have HPW := Lib.hid hpw
    have HDM := Lib.hid hD
    have HAA := Lib.hid hA
    have HDA0 := Lib.hid hDa
    clear hinv hpw hacts hopl hD hA hDa
    go_upto_region 9 with (first
      | (go_at_call 6; have _g := HDM; refine (made_any wr S hS w.heap.size HBR.out.size a n c ops (HSC.out.below HBR.out)).mono ?_; rintro e w2 ⟨hb2, La, ga, rfl, hda, hla⟩
         rw [← HDM.out] at hda
         have HD1 := Lib.hid hda
         have HL1 := Lib.hid hla
         have HB2 := Lib.hid hb2
         have HDN := Lib.hid HDM.out
         clear hda hla hb2 HDM _g)
      | (go_at_call 6; have _g := HDN; refine (made_any w2 S hS w.heap.size (by have := HBR.out.size; have := HB2.out.size; omega) a n c ops ((HSC.out.below HBR.out).below (HB2.out.mono HBR.out.size))).mono ?_; rintro e w3 ⟨hb3, Lb, gb, rfl, hdb, hlb⟩
         rw [← HDN.out] at hdb
         have HDB := Lib.hid hdb
         have HDA := Lib.hid (HD1.out.below hb3)
         have HSEP := Lib.hid (show ∀ k, Lb.ρ k ≠ 0 → La.ρ k = 0 from fun k hk => by
           by_cases h9 : La.ρ k = 0
           · exact h9
           · exact absurd (hlb k (HD1.out.dom k h9)) hk)
         have HLB := Lib.hid (show ∀ k, k < wr.heap.size → Lb.ρ k = 0 from fun k hk => hlb k (by have := HB2.out.size; omega))
         have HB3 := Lib.hid (hbcc HB2.out hb3)
         clear hdb hlb hb3 HD1 _g HB2))
    have hac := acts_any w3 La ga D HDA.out
    rw [← HAA.out] at hac
    have HAC := Lib.hid hac
    clear hac
    obtain ⟨w4, hw4⟩ : ∃ w4, w4 = w3.alloc (.cells #[.int .i64 A, .int .i64 kk, .int .i64 0] 56) := ⟨_, rfl⟩
    obtain ⟨gp, hgp⟩ : ∃ gp, gp = w3.heap.size := ⟨_, rfl⟩
    have hb4 : Below w3.heap.size w3 w4 := by rw [hw4]; exact bel1 _ _
    have hx4 : w4.heap[gp]? = some (.cells #[.int .i64 A, .int .i64 kk, .int .i64 0] 56) := by rw [hw4, hgp]; exact heap_alloc_new w3 _
    have HA4 := Lib.hid (HDA.out.below hb4)
    have HD4 := Lib.hid (HDB.out.below hb4)
    have HB4 := Lib.hid (hbcc HB3.out hb4)
    have hpl := plan_any w4 La ga D HA4.out gp 0 1 1 [⟨A, kk, 0⟩] rfl (by omega) (fun j u hu => by
      rw [Nat.zero_add, cell_of_row _ _ _ _ _ _ hx4]
      have hu : ([.int .i64 (A : Int), .int .i64 kk, .int .i64 0] : List Value)[j]? = some u := hu
      simpa using hu)
    rw [← HDA0.out] at hpl
    have HPL := Lib.hid hpl
    have HW4 := Lib.hid (And.intro hw4 hgp)
    clear hpl hw4 hgp hb4 hx4 HDA HDB
    go_upto_region 10 with (first
      | (go_at_call 14; have _g := HAC; refine HAC.out.mono ?_; rintro e w' ⟨rfl, e1⟩; rw [e1]; clear e1 w' HAC _g)
      | (go_at_call 16; rw [← HW4.out.1, ← HW4.out.2]; refine HPL.out.mono ?_; rintro e w5 ⟨rfl, L5, hd5, hu5⟩
         obtain ⟨hdb5, hs5⟩ := HD4.out.other hu5 HSEP.out
         have HA5 := Lib.hid hd5
         have HD5 := Lib.hid hdb5
         have HS5 := Lib.hid hs5
         have HL5 := Lib.hid (hu5.low HB4.out.size HL1.out)
         have HB5 := Lib.hid (HB4.out.trans (hu5.below HB4.out.size HL1.out))
         clear hd5 hu5 hdb5 hs5 HPL HA4 HD4))
    have hwr : w.heap.size ≤ wr.heap.size := HBR.out.size
    have hx5 := (HB5.out.block bo (Array.getElem?_eq_some_iff.1 HXR.out).1).trans HXR.out
    unfold Op3.cells at hx5
    have s0 := cell_of_row _ _ 0 _ _ _ hx5
    have s1 := cell_of_row _ _ 1 _ _ _ hx5
    have s2 := cell_of_row _ _ 2 _ _ _ hx5
    have s3 := cell_of_row _ _ 3 _ _ _ hx5
    have s4 := cell_of_row _ _ 4 _ _ _ hx5
    have s5 := cell_of_row _ _ 5 _ _ _ hx5
    have s6 := cell_of_row _ _ 6 _ _ _ hx5
    have s7 := cell_of_row _ _ 7 _ _ _ hx5
    have s8 := cell_of_row _ _ 8 _ _ _ hx5
    have s9 := cell_of_row _ _ 9 _ _ _ hx5
    simp only [List.getElem?_toArray, List.getElem?_cons_zero, List.getElem?_cons_succ] at s0 s1 s2 s3 s4 s5 s6 s7 s8 s9
    have hac := acts_any w5 L5 ga Da HA5.out
    rw [show Da.acts = A by rw [HDA0.out]; exact HAA.out.symm] at hac
    have HAC := Lib.hid hac
    have hdo := does_any w5 L5 ga Da HA5.out HCA.out.pre o2 ((HO.out.below (HBR.out.trans (HB5.out.mono hwr))).ok (fun k hk => HL5.out k (by omega))) HACT.out
    unfold Op3.val at hdo
    have HDO := Lib.hid hdo
    clear hac hdo hx5
    go_upto_region 12 with (first
      | (go_at_call 14; have _g := HAC; refine HAC.out.mono ?_; rintro e w' ⟨rfl, e1⟩; rw [e1]; clear e1 w' HAC _g)
      | (go_at_call 17; refine HDO.out.mono ?_; rintro e w6 ⟨L6, hd6, hu6, va, rfl, hta⟩
         obtain ⟨hdb6, hs6⟩ := HD5.out.other hu6 HS5.out
         have HA6 := Lib.hid hd6
         have HD6 := Lib.hid hdb6
         have HS6 := Lib.hid hs6
         have HL6 := Lib.hid (hu6.low HB5.out.size HL5.out)
         have HB6 := Lib.hid (HB5.out.trans (hu6.below HB5.out.size HL5.out))
         have HTA := Lib.hid hta
         clear hd6 hu6 hdb6 hs6 hta HDO HA5 HD5 HB5 HL5 HS5 s0 s1 s2 s3 s4 s5 s6 s7 s8 s9))
    have hx6 := (HB6.out.block bo (Array.getElem?_eq_some_iff.1 HXR.out).1).trans HXR.out
    unfold Op3.cells at hx6
    have s0 := cell_of_row _ _ 0 _ _ _ hx6
    have s1 := cell_of_row _ _ 1 _ _ _ hx6
    have s2 := cell_of_row _ _ 2 _ _ _ hx6
    have s3 := cell_of_row _ _ 3 _ _ _ hx6
    have s4 := cell_of_row _ _ 4 _ _ _ hx6
    have s5 := cell_of_row _ _ 5 _ _ _ hx6
    have s6 := cell_of_row _ _ 6 _ _ _ hx6
    have s7 := cell_of_row _ _ 7 _ _ _ hx6
    have s8 := cell_of_row _ _ 8 _ _ _ hx6
    have s9 := cell_of_row _ _ 9 _ _ _ hx6
    simp only [List.getElem?_toArray, List.getElem?_cons_zero, List.getElem?_cons_succ] at s0 s1 s2 s3 s4 s5 s6 s7 s8 s9
    have hdo := does_any w6 Lb gb D HD6.out HC.out.pre o2 ((HO.out.below (HBR.out.trans (HB6.out.mono hwr))).ok (fun k hk => HLB.out k (by omega))) HACT.out
    unfold Op3.val at hdo
    have HDO := Lib.hid hdo
    have HWB := Lib.hid (HBR.out.trans (HB6.out.mono hwr))
    clear hdo hx6
    rcases HFA.out.refused with ⟨h0, h1, h2, h3⟩ | ⟨h0, h1, ⟨hk1', h2⟩ | ⟨hk1', h2⟩ | ⟨hk1', h2⟩⟩
    · obtain ⟨E, hE⟩ : ∃ E : Dm, E = { D with plan := [⟨D.acts, kk, 0⟩] } := ⟨_, rfl⟩
      rw [← hE] at h1
      have hA6 := HA6.out
      rw [h1] at hA6
      obtain ⟨ca, na, hf, ga', rfl, -⟩ := toldE_not HTA.out h2
      have HE := Lib.hid hA6
      have HCE := Lib.hid (show Calm E from by rw [hE]; exact HC.out.withPlan _)
      have HVW := Lib.hid (show View E D from by rw [hE]; exact ⟨rfl, rfl, rfl, rfl, rfl, rfl⟩)
      have hac := acts_any w6 L6 ga E hA6
      rw [show E.acts = A by rw [hE]; exact HAA.out.symm] at hac
      have HAC := Lib.hid hac
      have HEP := Lib.hid (show E.power = true from by rw [hE]; exact HPW.out)
      have hdo := HDO.out
      rw [h3] at hdo
      have HDO := Lib.hid hdo
      have HR := Lib.hid h0
      clear hA6 h1 h2 h3 h0 hf hE hac hdo HFA
      go_wp2_with (first
        | (go_at_call 14; have _g := HAC; refine HAC.out.mono ?_; rintro e w' ⟨rfl, e1⟩; rw [e1]; clear e1 w' HAC _g)
        | (go_at_call 17; have _g := HWB; refine HDO.out.mono ?_; rintro e w7 ⟨L7, hd7, hu7, vb, rfl, htb⟩
           obtain ⟨cb, nb, -, gb', rfl, -⟩ := toldE_not htb HR.out
           have HEA := Lib.hid (HE.out.other hu7 (fun k hk => by
             by_cases h9 : Lb.ρ k = 0
             · exact h9
             · exact absurd (HS6.out k h9) hk)).1
           have hac := acts_any w7 L7 gb D hd7
           rw [← HAA.out] at hac
           have HAC2 := Lib.hid hac
           have HSM := Lib.hid (same_any w7 L6 L7 ga gb E D HEA.out hd7 HCE.out HC.out HVW.out)
           have HB7 := Lib.hid (HWB.out.trans (hu7.below HWB.out.size (fun k hk => HLB.out k (by omega))))
           clear hd7 hu7 htb hac HWB _g s0 s1 s2 s3 s4 s5 s6 s7 s8 s9)
        | (go_at_call 14; have _g := HAC2; refine HAC2.out.mono ?_; rintro e w' ⟨rfl, e1⟩; rw [e1]; clear e1 w' HAC2 _g)
        | (go_at_call 7; have _g := HSM; refine HSM.out.mono ?_; rintro e w8 ⟨rfl, hb8⟩
           have hpo := power_any w8 L6 ga E (HEA.out.below hb8)
           rw [HEP.out] at hpo
           have HPO := Lib.hid hpo
           have HB8 := Lib.hid (HB7.out.trans (hb8.mono HB7.out.size))
           clear hb8 hpo HSM _g)
        | (go_at_call 18; refine HPO.out.mono ?_; rintro e w' ⟨rfl, e1⟩; rw [e1]; clear e1 w'))
      go_ret
      exact ⟨rfl, HB8.out⟩
    · subst hk1'
      obtain ⟨E, hE⟩ : ∃ E : Dm, E = { D with acts := D.acts + 1, plan := [⟨D.acts, 1, 0⟩] } := ⟨_, rfl⟩
      rw [← hE] at h2
      have hA6 := HA6.out
      have hta := HTA.out
      rw [h2] at hA6 hta
      obtain ⟨ca, na, hf, ga', rfl, -⟩ := toldE_not hta (show (30 : Int) ≠ 0 by decide)
      have HE := Lib.hid hA6
      have HCE := Lib.hid (show Calm E from by rw [hE]; exact (HC.out.withActs (D.acts + 1) (by have := HAA.out; omega)).withPlan _)
      have HVW := Lib.hid (show View E D from by rw [hE]; exact ⟨rfl, rfl, rfl, rfl, rfl, rfl⟩)
      have hac := acts_any w6 L6 ga E hA6
      rw [show (E.acts : Int) = (A : Int) + 1 by rw [hE, HAA.out]; push_cast; rfl] at hac
      have HAC := Lib.hid hac
      have hpo := power_any w6 L6 ga E hA6
      rw [show E.power = true from by rw [hE]; exact HPW.out] at hpo
      have HPO := Lib.hid hpo
      have HIS := Lib.hid (is_same w6 _ ca na 30 hf)
      have HSM := Lib.hid (same_any w6 L6 Lb ga gb E D hA6 HD6.out HCE.out HC.out HVW.out)
      clear hA6 h1 h2 h0 hf hE hac hta hpo HFA HDO
      go_wp2_with (first
        | (go_at_call 14; refine HAC.out.mono ?_; rintro e w' ⟨rfl, e1⟩; rw [e1]; clear e1 w')
        | (go_at_call 19; refine HIS.out.mono ?_; rintro e w' ⟨rfl, e1⟩; rw [e1]; clear e1 w')
        | (go_at_call 18; refine HPO.out.mono ?_; rintro e w' ⟨rfl, e1⟩; rw [e1]; clear e1 w')
        | (go_at_call 7; have _g := HSM; refine HSM.out.mono ?_; rintro e w8 ⟨rfl, hb8⟩
           have HB8 := Lib.hid (HWB.out.trans (hb8.mono HWB.out.size))
           clear hb8 HSM _g))
      go_ret
      exact ⟨rfl, HB8.out⟩
    · subst hk1'
      obtain ⟨B, hB⟩ : ∃ B : Dm, B = (D.does o2).1 := ⟨_, rfl⟩
      obtain ⟨E, hE⟩ : ∃ E : Dm, E = { B with plan := [⟨D.acts, 2, 0⟩] } := ⟨_, rfl⟩
      rw [← h1, ← hB, ← hE] at h2
      have hA6 := HA6.out
      have hta := HTA.out
      rw [h2] at hA6 hta
      obtain ⟨ca, na, hf, ga', rfl, -⟩ := toldE_not hta (show (30 : Int) ≠ 0 by decide)
      have HE := Lib.hid hA6
      obtain ⟨hib, hab⟩ := HI.out.does hS o2 HACT.out
      rw [← hB] at hib hab
      have HCB := Lib.hid (show Calm B from hib.calm hS (by have := HLN.out; omega) (by have := HLN.out; omega) (by have := HAA.out; omega))
      have HCE := Lib.hid (show Calm E from by rw [hE]; exact HCB.out.withPlan _)
      have HVW := Lib.hid (show View E B from by rw [hE]; exact ⟨rfl, rfl, rfl, rfl, rfl, rfl⟩)
      have hac := acts_any w6 L6 ga E hA6
      rw [show (E.acts : Int) = (A : Int) + 1 by rw [hE, hB, h1, HAA.out]; exact congrArg Int.ofNat (eff_acts D o2)] at hac
      have HAC := Lib.hid hac
      obtain ⟨gx, hvx, hgx⟩ := hf
      obtain ⟨Lc, hLc⟩ : ∃ Lc : Lay, Lc = { Lb with ρ := clr Lb.ρ gx } := ⟨_, rfl⟩
      have hdc : DAt w6 Lc gb D := by rw [hLc]; exact HD6.out.clear hgx HI.out.pl
      have HSC6 := Lib.hid (show ∀ k, L6.ρ k ≠ 0 → Lc.ρ k = 0 from fun k hk => by
        by_cases h9 : Lc.ρ k = 0
        · exact h9
        · rw [hLc] at h9
          exact absurd (HS6.out k (clr_sub h9)) hk)
      have HLC := Lib.hid (show ∀ k, k < wr.heap.size → Lc.ρ k = 0 from fun k hk => by rw [hLc]; exact clr_low (HLB.out k hk))
      have hdo := does_any w6 Lc gb D hdc HC.out.pre o2 ((HO.out.below HWB.out).ok (fun k hk => HLC.out k (by omega))) HACT.out
      unfold Op3.val at hdo
      rw [← hB] at hdo
      have HDO := Lib.hid hdo
      have HEP := Lib.hid (show E.power = true from by rw [hE]; exact hib.pw)
      have HEC := Lib.hid (show (E.acts : Int) = (A : Int) + 1 from by rw [hE, hB, h1, HAA.out]; exact congrArg Int.ofNat (eff_acts D o2))
      have HFU := Lib.hid (show ∀ (w' : World) {ρ' : Nat → Nat}, Upd Lc.ρ ρ' w6 w' → IsFault w' (.iface 88 (.pointer (some ⟨ga', 0, none⟩))) ca na 30 from fun w' ρ' hu =>
        ⟨gx, hvx, (hu.block gx (Array.getElem?_eq_some_iff.1 hgx).1 (by rw [hLc]; show clr Lb.ρ gx gx = 0; unfold clr; rw [if_pos rfl])).trans hgx⟩)
      clear hA6 h1 h2 h0 hE hB hac hta hdo hib hab HFA hgx hvx hLc hdc
      go_wp2_with (first
        | (go_at_call 14; have _g := HDO; refine HAC.out.mono ?_; rintro e w' ⟨rfl, e1⟩; rw [e1]; clear e1 w' _g)
        | (go_at_call 17; have _g := HWB; refine HDO.out.mono ?_; rintro e w7 ⟨L7, hd7, hu7, vb, rfl, htb⟩
           have HEA := Lib.hid (HE.out.other hu7 HSC6.out).1
           have hac := acts_any w7 L6 ga E HEA.out
           rw [show (E.acts : Int) = (A : Int) + 1 from HEC.out] at hac
           have HAC2 := Lib.hid hac
           have hpo := power_any w7 L6 ga E HEA.out
           rw [HEP.out] at hpo
           have HPO := Lib.hid hpo
           have HIS := Lib.hid (is_same w7 _ ca na 30 (HFU.out w7 hu7))
           have HSM := Lib.hid (same_any w7 L6 L7 ga gb E B HEA.out hd7 HCE.out HCB.out HVW.out)
           have HB7 := Lib.hid (HWB.out.trans (hu7.below HWB.out.size (fun k hk => HLC.out k (by omega))))
           clear hd7 hu7 htb hac hpo HWB HDO _g s0 s1 s2 s3 s4 s5 s6 s7 s8 s9)
        | (go_at_call 14; refine HAC2.out.mono ?_; rintro e w' ⟨rfl, e1⟩; rw [e1]; clear e1 w')
        | (go_at_call 19; refine HIS.out.mono ?_; rintro e w' ⟨rfl, e1⟩; rw [e1]; clear e1 w')
        | (go_at_call 18; refine HPO.out.mono ?_; rintro e w' ⟨rfl, e1⟩; rw [e1]; clear e1 w')
        | (go_at_call 7; have _g := HSM; refine HSM.out.mono ?_; rintro e w8 ⟨rfl, hb8⟩
           have HB8 := Lib.hid (HB7.out.trans (hb8.mono HB7.out.size))
           clear hb8 HSM _g))
      go_ret
      exact ⟨rfl, HB8.out⟩
    · subst hk1'
      obtain ⟨B, hB⟩ : ∃ B : Dm, B = (D.does o2).1 := ⟨_, rfl⟩
      obtain ⟨E, hE⟩ : ∃ E : Dm, E = { B with plan := [⟨D.acts, 6, 0⟩], power := false } := ⟨_, rfl⟩
      rw [← h1, ← hB, ← hE] at h2
      have hA6 := HA6.out
      have hta := HTA.out
      rw [h2] at hA6 hta
      obtain ⟨ca, na, hf, ga', rfl, -⟩ := toldE_not hta (show (2 : Int) ≠ 0 by decide)
      have HE := Lib.hid hA6
      obtain ⟨hib, hab⟩ := HI.out.does hS o2 HACT.out
      rw [← hB] at hib hab
      have HCB := Lib.hid (show Calm B from hib.calm hS (by have := HLN.out; omega) (by have := HLN.out; omega) (by have := HAA.out; omega))
      have HCE := Lib.hid (show Calm E from by rw [hE]; exact (HCB.out.withPlan [⟨D.acts, 6, 0⟩]).withPower false)
      have HVW := Lib.hid (show ∀ nm ns, View (E.restart nm ns) (B.restart nm ns) from fun nm ns => View.restart (by rw [hE]) (by rw [hE]) (by rw [hE]) nm ns)
      have HLE := Lib.hid (show E.loose = B.loose ∧ E.reach = B.reach ∧ E.changes = B.changes from by rw [hE]; exact ⟨rfl, rfl, rfl⟩)
      have hfb := hib.fine (by have := HLN.out; omega)
      have HRB := Lib.hid (show Calm (B.restart B.changes.length B.unitsL) from restart_calm HCB.out.pre hfb hib.okc (hib.units_all hS (by have := HLN.out; omega)) (by rw [hib.ep]; omega) _ _ (fun s i h => by
        rw [List.take_of_length_le (by omega), hib.rel] at h
        exact hib.leg s i h))
      have HREE := Lib.hid (show Calm (E.restart B.changes.length B.unitsL) from by
        have h9 := restart_calm HCE.out.pre (by rw [hE]; exact hfb) (by rw [hE]; exact hib.okc) (by rw [hE]; exact hib.units_all hS (by have := HLN.out; omega)) (by rw [hE]; show B.epoch < _; rw [hib.ep]; omega) B.changes.length B.unitsL (fun s i h => by
          rw [hE] at h
          have h : lk (chs (B.changes.take (max (B.changes.length : Int) 0).toNat) B.safe) s = some i := h
          rw [List.take_of_length_le (by omega), hib.rel] at h
          exact hib.leg s i h)
        exact h9)
      have HOKE := Lib.hid (show OkC E ∧ Fine E.fs ∧ OkC B ∧ Fine B.fs from by rw [hE]; exact ⟨hib.okc, hfb, hib.okc, hfb⟩)
      have hchl : B.changes.length ≤ 999999000000 := by have h9 := hib.chl; have := HLN.out; omega
      have hac := acts_any w6 L6 ga E hA6
      rw [show (E.acts : Int) = (A : Int) + 1 by rw [hE, hB, h1, HAA.out]; exact congrArg Int.ofNat (eff_acts D o2)] at hac
      have HAC := Lib.hid hac
      obtain ⟨gx, hvx, hgx⟩ := hf
      obtain ⟨Lc, hLc⟩ : ∃ Lc : Lay, Lc = { Lb with ρ := clr Lb.ρ gx } := ⟨_, rfl⟩
      have hdc : DAt w6 Lc gb D := by rw [hLc]; exact HD6.out.clear hgx HI.out.pl
      have HSC6 := Lib.hid (show ∀ k, L6.ρ k ≠ 0 → Lc.ρ k = 0 from fun k hk => by
        by_cases h9 : Lc.ρ k = 0
        · exact h9
        · rw [hLc] at h9
          exact absurd (HS6.out k (clr_sub h9)) hk)
      have HLC := Lib.hid (show ∀ k, k < wr.heap.size → Lc.ρ k = 0 from fun k hk => by rw [hLc]; exact clr_low (HLB.out k hk))
      have hdo := does_any w6 Lc gb D hdc HC.out.pre o2 ((HO.out.below HWB.out).ok (fun k hk => HLC.out k (by omega))) HACT.out
      unfold Op3.val at hdo
      rw [← hB] at hdo
      have HDO := Lib.hid hdo
      have HEP := Lib.hid (show E.power = false from by rw [hE])
      have HEC := Lib.hid (show (E.acts : Int) = (A : Int) + 1 from by rw [hE, hB, h1, HAA.out]; exact congrArg Int.ofNat (eff_acts D o2))
      have HFU := Lib.hid (show ∀ (w' : World) {ρ' : Nat → Nat}, Upd Lc.ρ ρ' w6 w' → IsFault w' (.iface 88 (.pointer (some ⟨ga', 0, none⟩))) ca na 2 from fun w' ρ' hu =>
        ⟨gx, hvx, (hu.block gx (Array.getElem?_eq_some_iff.1 hgx).1 (by rw [hLc]; show clr Lb.ρ gx gx = 0; unfold clr; rw [if_pos rfl])).trans hgx⟩)
      have HWB6 := Lib.hid (show Below wr.heap.size wr w6 from HB6.out)
      clear hfb hA6 h1 h2 h0 hE hB hac hta hdo hib hab HFA hgx hvx hLc hdc
      obtain ⟨rn, hrn⟩ : ∃ rn, rn = B.reach.length := ⟨_, rfl⟩
      obtain ⟨cn, hcn⟩ : ∃ cn, cn = B.changes.length := ⟨_, rfl⟩
      have HRN := Lib.hid (And.intro hrn hcn)
      have hrnb : rn < 1099511631873 := by rw [hrn]; exact reach_len HCB.out.pre
      rw [← hcn] at hchl
      have hcn0 : -9223372036854775808 ≤ (cn : Int) := by omega
      have hcn1 : (cn : Int) ≤ 9223372036854775807 := by omega
      clear hrn hcn
      go_upto_region 24 with (first
        | (go_at_call 14; have _g := HDO; refine HAC.out.mono ?_; rintro e w' ⟨rfl, e1⟩; rw [e1]; clear e1 w' _g)
        | (go_at_call 17; have _g := HWB; refine HDO.out.mono ?_; rintro e w7 ⟨L7, hd7, hu7, vb, rfl, htb⟩
           have hea := (HE.out.other hu7 HSC6.out).1
           have hac := acts_any w7 L6 ga E hea
           rw [show (E.acts : Int) = (A : Int) + 1 from HEC.out] at hac
           have HAC2 := Lib.hid hac
           have hpo := power_any w7 L6 ga E hea
           rw [HEP.out] at hpo
           have HPO := Lib.hid hpo
           have HIS := Lib.hid (is_same w7 _ ca na 2 (HFU.out w7 hu7))
           have hla := loose_any w7 L6 ga E hea HCE.out.pre HCE.out.units
           rw [HLE.out.1, HLE.out.2.1, HLE.out.2.2, ← HRN.out.1, ← HRN.out.2] at hla
           have HLA := Lib.hid hla
           have HEA := Lib.hid hea
           have HEB := Lib.hid hd7
           have HSP7 := Lib.hid (show ∀ k, L7.ρ k ≠ 0 → L6.ρ k = 0 from fun k hk => by
             by_cases h9 : L6.ρ k = 0
             · exact h9
             · exact absurd ((HE.out.other hu7 HSC6.out).2 k h9) hk)
           have HL7 := Lib.hid (hu7.low HWB6.out.size HLC.out)
           have HB7 := Lib.hid (HWB6.out.trans (hu7.below HWB6.out.size HLC.out))
           clear hd7 hu7 htb hac hpo hla hea HWB HDO _g s0 s1 s2 s3 s4 s5 s6 s7 s8 s9)
        | (go_at_call 14; refine HAC2.out.mono ?_; rintro e w' ⟨rfl, e1⟩; rw [e1]; clear e1 w')
        | (go_at_call 19; refine HIS.out.mono ?_; rintro e w' ⟨rfl, e1⟩; rw [e1]; clear e1 w')
        | (go_at_call 18; refine HPO.out.mono ?_; rintro e w' ⟨rfl, e1⟩; rw [e1]; clear e1 w')
        | (go_at_call 10; have _g := HLA; refine HLA.out.mono ?_; rintro e w8 ⟨hb8, a8, c8, rfl, ho8⟩
           have HB8 := Lib.hid hb8
           have HO8 := Lib.hid ho8
           clear hb8 ho8 HLA _g))
      obtain ⟨w9, hw9⟩ : ∃ w9, w9 = w8.alloc (boxCut a8 rn c8 cn) := ⟨_, rfl⟩
      obtain ⟨g8, hg8⟩ : ∃ g8, g8 = w8.heap.size := ⟨_, rfl⟩
      have hb9 : Below w8.heap.size w8 w9 := by rw [hw9]; exact bel1 _ _
      have hx9 : w9.heap[g8]? = some (boxCut a8 rn c8 cn) := by rw [hw9, hg8]; exact heap_alloc_new w8 _
      rw [show (w8.alloc (.cells #[.slice a8 rn c8, .int .i64 cn] 32)) = w9 from hw9.symm]
      rw [← hg8]
      have HX9 := Lib.hid hx9
      have HO9 := Lib.hid (own_below HO8.out hb9)
      have HB9 := Lib.hid (hbcc HB8.out hb9)
      have HG8 := Lib.hid (show w7.heap.size ≤ g8 from by rw [hg8]; exact HB8.out.size)
      have hlb := loose_any w9 L7 gb B (HEB.out.below HB9.out) HCB.out.pre HCB.out.units
      rw [← HRN.out.1, ← HRN.out.2] at hlb
      have HLB2 := Lib.hid hlb
      clear hlb hw9 hg8 hb9 hx9 HO8 HB8
      go_upto_region 25 with (first
        | (go_at_call 10; refine HLB2.out.mono ?_; rintro e w10 ⟨hb10, a10, c10, rfl, ho10⟩
           have HB10 := Lib.hid hb10
           have HO10 := Lib.hid ho10
           clear hb10 ho10))
      obtain ⟨w11, hw11⟩ : ∃ w11, w11 = w10.alloc (boxCut a10 rn c10 cn) := ⟨_, rfl⟩
      obtain ⟨g10, hg10⟩ : ∃ g10, g10 = w10.heap.size := ⟨_, rfl⟩
      have hb11 : Below w10.heap.size w10 w11 := by rw [hw11]; exact bel1 _ _
      have hx11 : w11.heap[g10]? = some (boxCut a10 rn c10 cn) := by rw [hw11, hg10]; exact heap_alloc_new w10 _
      rw [show (w10.alloc (.cells #[.slice a10 rn c10, .int .i64 cn] 32)) = w11 from hw11.symm]
      rw [← hg10]
      have hb911 : Below w9.heap.size w9 w11 := hbcc HB10.out hb11
      have hx9' := (hb911.block g8 (Array.getElem?_eq_some_iff.1 HX9.out).1).trans HX9.out
      have x0 := cell_of_row _ _ 0 _ _ _ hx9'
      have x1 := cell_of_row _ _ 1 _ _ _ hx9'
      have y0 := cell_of_row _ _ 0 _ _ _ hx11
      have y1 := cell_of_row _ _ 1 _ _ _ hx11
      simp only [List.getElem?_toArray, List.getElem?_cons_zero, List.getElem?_cons_succ] at x0 x1 y0 y1
      have HO9' := Lib.hid (own_below HO9.out hb911)
      have HO11 := Lib.hid (own_below HO10.out hb11)
      have hsi := same_ints w11 a8 a10 rn rn c8 c10 B.loose.2 B.loose.2 (RI.of_owns HO9'.out (by omega)) (RI.of_owns HO11.out (by omega)) HCB.out.loose HCB.out.loose
      rw [decide_eq_true rfl] at hsi
      have HSI := Lib.hid hsi
      have HX9' := Lib.hid hx9'
      have HX11 := Lib.hid hx11
      have HB711 := Lib.hid (hbcc HB9.out hb911)
      have HG10 := Lib.hid (show w7.heap.size ≤ g10 ∧ w9.heap.size ≤ w10.heap.size from by rw [hg10]; have := HB9.out.size; have := HB10.out.size; exact ⟨by omega, by omega⟩)
      clear hsi hw11 hg10 hb11 hx11 hb911 hx9' HO9 HO10 HX9
      go_upto_region 28 with (first
        | (go_at_call 20; have _g := HSI; refine HSI.out.mono ?_; rintro e w12 ⟨rfl, hb12⟩
           have z0 := keepc hb12 x0
           have z1 := keepc hb12 x1
           have HO12a := Lib.hid (own_below HO9'.out hb12)
           have HO12b := Lib.hid (own_below HO11.out hb12)
           have HX12 := Lib.hid ((hb12.block g10 (Array.getElem?_eq_some_iff.1 HX11.out).1).trans HX11.out)
           have HB12 := Lib.hid (hbcc HB711.out hb12)
           have hre := restart_any w12 L6 ga E (HEA.out.below HB12.out) HCE.out.pre HOKE.out.2.1 HOKE.out.1 a8 rn c8 (cn : Int) hcn0 hcn1 B.unitsL (ns_of HO12a.out (fun k hk => HEA.out.new k hk) HCB.out.loose)
           have HRE := Lib.hid hre
           clear hb12 hre HSI _g)
        | (go_at_call 9; have _g := HRE; refine HRE.out.mono ?_; rintro e w13 ⟨rfl, L13, hd13, hu13⟩
           obtain ⟨hdb13, hs13⟩ := (HEB.out.below HB12.out).other hu13 HSP7.out
           rw [HRN.out.2] at hd13
           have HEA13 := Lib.hid hd13
           have HEB13 := Lib.hid hdb13
           have HS13 := Lib.hid hs13
           have hx13 := (hu13.block g10 (Array.getElem?_eq_some_iff.1 HX12.out).1 (HEA.out.new g10 HG10.out.1)).trans HX12.out
           have q0 := cell_of_row _ _ 0 _ _ _ hx13
           have q1 := cell_of_row _ _ 1 _ _ _ hx13
           have HO13 := Lib.hid (own_same HO12b.out (fun k e => hu13.block k (HO12b.out.lt k e).2 (HEA.out.new k (by have := (HO12b.out.lt k e).1; have := HB9.out.size; omega))))
           have HB13 := Lib.hid (HB7.out.trans ((HB12.out.mono HB7.out.size).trans (hu13.below (B := wr.heap.size) (by have := HB7.out.size; have := HB12.out.size; omega) HL6.out)))
           have hre := restart_any w13 L7 gb B hdb13 HCB.out.pre HOKE.out.2.2.2 HOKE.out.2.2.1 a10 rn c10 (cn : Int) hcn0 hcn1 B.unitsL (ns_of HO13.out (fun k hk => HEB.out.new k (by have := HB9.out.size; omega)) HCB.out.loose)
           have HRE2 := Lib.hid hre
           clear hd13 hu13 hdb13 hs13 hx13 hre HRE _g x0 x1 y0 y1 z0 z1))
      simp only [List.getElem?_toArray, List.getElem?_cons_zero, List.getElem?_cons_succ] at q0 q1
      go_wp2_with (first
        | (go_at_call 9; have _g := HRE2; refine HRE2.out.mono ?_; rintro e w14 ⟨rfl, L14, hd14, hu14⟩
           rw [HRN.out.2] at hd14
           have hea14 := (HEA13.out.other hu14 (fun k hk => by
             by_cases h9 : L7.ρ k = 0
             · exact h9
             · exact absurd (HS13.out k h9) hk)).1
           have HSM := Lib.hid (same_any w14 L13 L14 ga gb _ _ hea14 hd14 HREE.out HRB.out (HVW.out _ _))
           have HB14 := Lib.hid (HB13.out.trans (hu14.below HB13.out.size HL7.out))
           clear hd14 hu14 hea14 HRE2 _g q0 q1)
        | (go_at_call 7; have _g := HSM; refine HSM.out.mono ?_; rintro e w15 ⟨rfl, hb15⟩
           have HB15 := Lib.hid (HB14.out.trans (hb15.mono HB14.out.size))
           clear hb15 HSM _g))
      go_ret
      exact ⟨rfl, HBR.out.trans (HB15.out.mono hwr)⟩
end Go.Proofs.YteoggphafhcchaaGreat
