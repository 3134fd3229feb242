import Derived.Test.YtcnckjlmldnblaaDoorE59
import Derived.Test.YtcnckjlmldnblaaDoorE30
import Derived.Test.YtcnckjlmldnblaaDoorE55
import Derived.BigGuardPart
namespace Go.Proofs.YtcnckjlmldnblaaDoor
open Go Go.RowKit
set_option linter.unusedVariables false
set_option linter.unusedSimpArgs false
/-- A worth, in two results. -/
def WU (r : Wr) (x : Vl) (er : Int) : Prop := (r = .ok x ∧ er = 0) ∨ (r = .error er ∧ x = v0)
theorem WU.uniq {r : Wr} {x y : Vl} {e f : Int} (h : WU r x e) (k : WU r y f) : x = y ∧ e = f := by
  rcases h with ⟨h1, h2⟩ | ⟨h1, h2⟩ <;> rcases k with ⟨k1, k2⟩ | ⟨k1, k2⟩
  · rw [h1] at k1; cases k1; exact ⟨rfl, by rw [h2, k2]⟩
  · rw [h1] at k1; cases k1
  · rw [h1] at k1; cases k1
  · rw [h1] at k1; cases k1; exact ⟨by rw [h2, k2], rfl⟩
/-- Worth, its answer told as a value and a number. -/
theorem worthU_any (w : World) (na : Option Addr) (nl nc : Nat) (ns : List Nd) (p : Pd) (hE : EnvW w na nl nc ns p) (hv : VwOk p.vw) (hn : ∀ x ∈ ns, x.ks.length = x.kl ∧ I64 x.vn) (ht : ResTab w 1) (h2 : 1 < w.heap.size) (root : Int) (hroot : I64 root) (hsm : ∀ (i : Nat) (nd : Nd), (i : Int) ≤ root → ns[i]? = some nd → nd.kl ≤ 1000000)
    (hsz : ∀ x, worthR ns root p.vw = .ok x → x.ss.length ≤ 1000000) :
    Calls Tryd.prog 23 #[.slice na nl nc, .int .i64 root, .iface 86 (.agg p.cs)] w fun e w' => (∃ (x : Vl) (er : Int) (a : Option Addr) (c : Nat), e = .returned (.tuple #[VA x a x.ss.length c, .int .i64 er]) ∧ WU (worthR ns root p.vw) x er ∧ RZ w' a x.ss.length c x.ss) ∧ Below w.heap.size w w' :=
  (worthf_any w na nl nc ns p hE hv hn ht h2 root hroot hsm).mono fun e w' ⟨hm, hb⟩ => ⟨by
    rcases hm.cases with ⟨x, a, l, c, hr, rfl, hs⟩ | ⟨er, hr, rfl⟩
    · obtain ⟨a', l', c', e, hl, -⟩ := id hs
      simp only [VA, Value.agg.injEq, Array.mk.injEq, List.cons.injEq, Value.slice.injEq, true_and, and_true] at e
      obtain ⟨rfl, rfl, rfl⟩ := e
      subst hl
      exact ⟨x, 0, a, c, rfl, .inl ⟨hr, rfl⟩, hs.rz (by have := hsz x hr; omega)⟩
    · exact ⟨v0, er, none, 0, rfl, .inr ⟨hr, rfl⟩, rs_nil1 _, fun _ => rfl⟩, hb⟩
/-- What a worth that is told has of members. -/
theorem worth_size {ns : List Nd} {v : Vw} {q : Nat} (hv : VwOk v) (hn : ∀ nd ∈ ns, nd.ks.length = nd.kl ∧ I64 nd.vn) (hs : ∀ (i : Nat) (nd : Nd), i < q + 1 → ns[i]? = some nd → nd.kl ≤ 1000000) {x : Vl} (h : worthR ns q v = .ok x) : x.ss.length ≤ 1000000 := by
  unfold worthR at h
  split at h
  · cases h
  · rw [Int.toNat_natCast] at h
    split at h
    · rename_i ht
      have := (fit_wK hv hn (q + 1) q (treeR_good hs ht)) x h
      have := (right_parts this.r).2.2.2.2
      omega
    · cases h
/-- A view out of one that is handed in, if it is small. -/
theorem vwok_of {w : World} {p : Pd} (hp : VwArg w p) : VwOk ⟨p.bs.map fun b => (b.nm, b.v.x), p.os, p.rs, p.clock, p.steps⟩ := by
  refine ⟨fun q hq => ?_, hp.c, hp.s⟩
  obtain ⟨b, hb, rfl⟩ := List.mem_map.1 hq
  exact (hp.b b hb).2.1
/-- Plain over a small view that is handed in. -/
theorem plainA_any (w : World) (p : Pd) (hp : VwArg w p) (hl : p.vl + p.ol + p.rl ≤ 1000000) (hb : ∀ b ∈ p.bs, b.v.l ≤ 1000000) :
    Calls Tryd.prog 22 #[.slice p.va p.vl p.vc, .slice p.oa p.ol p.oc, .slice p.ra p.rl p.rc, .int .i64 p.clock, .int .i64 p.steps] w fun e w' => PlainOut e w' w.heap.size ⟨p.bs.map fun b => (b.nm, b.v.x), p.os, p.rs, p.clock, p.steps⟩ ∧ Below w.heap.size w w' :=
  plain_any w p.va p.vl p.vc p.bs hp.v hp.vz (fun b hm => ⟨(hp.b b hm).1, (hp.b b hm).2.1, hb b hm⟩) p.oa p.ol p.oc p.os hp.o p.ra p.rl p.rc p.rs hp.r (by omega) (by omega) (by omega) p.clock p.steps
/-- The views of the law of what is not named. -/
theorem agr_only {bs : List Bc} {os rs : List ByteArray} {ck st : Int} {t : Nms} : Agr t ⟨(bs.map (onlyB t.1)).map fun b => (b.nm, b.v.x), os.filter (inSS t.2.1), rs.filter (inSS t.2.2), ck, st⟩ ⟨bs.map fun b => (b.nm, b.v.x), os, rs, ck, st⟩ := by
  have hf : ∀ (l A : List ByteArray) (x : ByteArray), x ∈ A → inSS (l.filter (inSS A)) x = inSS l x := fun l A x hx => by
    rw [Bool.eq_iff_iff, inSS_iff, inSS_iff, List.mem_filter]
    exact ⟨fun h => h.1, fun h => ⟨h, (inSS_iff A x).2 hx⟩⟩
  refine ⟨fun x hx => ?_, fun x hx => hf os _ x hx, fun x hx => hf rs _ x hx, rfl, rfl⟩
  unfold Vw.value
  simp only
  induction bs with
  | nil => rfl
  | cons b bs ih =>
    simp only [List.map_cons, List.find?_cons]
    have hnm : (onlyB t.1 b).nm = b.nm := by unfold onlyB; split <;> rfl
    rw [hnm]
    cases hb : (b.nm.toList == x.toList)
    · exact ih
    · have e : b.nm = x := toList_inj' (by simpa using hb)
      have : onlyB t.1 b = b := by unfold onlyB; rw [if_pos (by rw [inSS_iff, e]; exact hx)]
      simp only [this]
end Go.Proofs.YtcnckjlmldnblaaDoor
