import Derived.Test.YtcnckjlmldnblaaDoorE64
namespace Go.Proofs.YtcnckjlmldnblaaDoor
open Go Go.RowKit
set_option linter.unusedVariables false
set_option linter.unusedSimpArgs false
/-- An operator over two places. -/
def nd2 (op : Int) (q M : Nat) (ka : Option Addr) (kc : Nat) : Nd := ⟨op, ByteArray.empty, 0, 0, ByteArray.empty, none, 0, 0, ka, 2, kc, [(q : Int), ((q + M : Nat) : Int)]⟩
/-- A truth that is written down. -/
def ndB (i : Int) : Nd := ⟨2, ByteArray.empty, 2, i, ByteArray.empty, none, 0, 0, none, 0, 0, []⟩
/-- An if over the truth and the two places. -/
def nd3 (q M : Nat) (ka : Option Addr) (kc : Nat) : Nd := ⟨23, ByteArray.empty, 0, 0, ByteArray.empty, none, 0, 0, ka, 3, kc, [((q + M + 1 : Nat) : Int), (q : Int), ((q + M : Nat) : Int)]⟩
/-- What stands ahead of the two trees of the law: how they lie, and that they are trees. -/
structure Two2 (ns ms L : List Nd) (q : Nat) (v : Vw) : Prop where
  hq : q < ns.length
  hm : 0 < ms.length
  sq : q ≤ 5000
  sm : ms.length ≤ 5000
  k1 : ∀ nd ∈ ns, nd.ks.length = nd.kl ∧ I64 nd.vn
  k2 : ∀ nd ∈ ms, nd.ks.length = nd.kl ∧ I64 nd.vn
  s1 : ∀ nd ∈ ns, nd.kl ≤ 1000000
  s2 : ∀ nd ∈ ms, nd.kl ≤ 1000000
  t1 : treeR ns q = true
  t2 : treeR ms (ms.length - 1) = true
  l : L.map Nd.bare = (ns.take (q + 1) ++ ms.map (Nd.shift (shiftG q))).map Nd.bare
  v : VwOk v
variable {ns ms L : List Nd} {q : Nat} {v : Vw}
theorem Two2.alike (h : Two2 ns ms L q v) (tl : List Nd) (r : Int) : worthR (L ++ tl) r v = worthR (joinN (shiftG q) ns q ms tl) r v := by
  refine worthR_alike ?_ r v
  unfold joinN
  rw [List.map_append, h.l, List.map_append (l₁ := _ ++ _)]
def pickF (q : Nat) (W Y : Wr) (k : Int) : Wr := if k = q then W else Y
theorem pick_q (q : Nat) (W Y : Wr) : pickF q W Y (q : Int) = W := by simp [pickF]
theorem pick_m {q M : Nat} (hM : 0 < M) (W Y : Wr) : pickF q W Y ((q + M : Nat) : Int) = Y := by
  unfold pickF
  rw [if_neg (by omega)]
theorem Two2.op (h : Two2 ns ms L q v) {op : Int} (ho : op = 9 ∨ op = 10 ∨ op = 33) (ka : Option Addr) (kc : Nat) :
    worthR (L ++ [nd2 op q ms.length ka kc]) ((q + ms.length + 1 : Nat) : Int) v = nodeW (pickF q (worthR ns q v) (worthR ms ((ms.length : Int) - 1) v)) (nd2 op q ms.length ka kc) v := by
  rw [h.alike]
  exact worth_op h.hq h.hm (fun k h0 h1 => shiftG_in h.sq h.sm k h0 h1) (fun nd hm => (h.k1 nd hm).1) (fun nd hm => (h.k2 nd hm).1) (fun i nd _ hi => h.s1 nd (List.mem_of_getElem? hi)) (fun i nd _ hi => h.s2 nd (List.mem_of_getElem? hi)) h.t1 h.t2
    (by rcases ho with rfl | rfl | rfl <;> rfl) rfl rfl _ (pick_q _ _ _) (pick_m h.hm _ _)
theorem Two2.moved (h : Two2 ns ms L q v) : worthR L ((q + ms.length : Nat) : Int) v = worthR ms ((ms.length : Int) - 1) v := by
  have := h.alike [] ((q + ms.length : Nat) : Int)
  rw [List.append_nil] at this
  rw [this]
  exact worth_moved h.hq h.hm (fun k h0 h1 => shiftG_in h.sq h.sm k h0 h1) (fun nd hm => (h.k2 nd hm).1) (fun i nd _ hi => h.s2 nd (List.mem_of_getElem? hi)) h.t2
theorem Two2.ifs (h : Two2 ns ms L q v) {i : Int} (hi : i = 0 ∨ i = 1) (ka : Option Addr) (kc : Nat) :
    worthR (L ++ [ndB i, nd3 q ms.length ka kc]) ((q + ms.length + 2 : Nat) : Int) v = if i = 1 then worthR ns q v else worthR ms ((ms.length : Int) - 1) v := by
  rw [h.alike]
  have hM := h.hm
  rw [worth_if (f := fun k => if k = ((q + ms.length + 1 : Nat) : Int) then .ok ⟨2, i, ByteArray.empty, []⟩ else pickF q (worthR ns q v) (worthR ms ((ms.length : Int) - 1) v) k) h.hq h.hm (fun k h0 h1 => shiftG_in h.sq h.sm k h0 h1) (fun nd hm => (h.k1 nd hm).1) (fun nd hm => (h.k2 nd hm).1) (fun i nd _ hi => h.s1 nd (List.mem_of_getElem? hi)) (fun i nd _ hi => h.s2 nd (List.mem_of_getElem? hi)) h.t1 h.t2
    (by rcases hi with rfl | rfl <;> rfl) rfl rfl rfl rfl (fun f => by simp [nodeW, leafW, ndB]) (by rw [if_neg (by omega), pick_q]) (by rw [if_neg (by omega), pick_m h.hm])]
  rw [pick_if (c := ((q + ms.length + 1 : Nat) : Int)) (a := (q : Int)) (b := ((q + ms.length : Nat) : Int)) (i := i) rfl rfl (by simp)]
  by_cases h1 : i = 1
  · rw [if_pos h1, if_pos h1, if_neg (by omega), pick_q]
  · rw [if_neg h1, if_neg h1, if_neg (by omega), pick_m h.hm]
/-- The first part's worth, as it may come. -/
theorem Two2.fit (h : Two2 ns ms L q v) {x : Vl} (hx : worthR ns q v = .ok x) : Fit x := by
  unfold worthR at hx
  split at hx
  · cases hx
  · rw [Int.toNat_natCast, if_pos h.t1] at hx
    exact fit_wK h.v h.k1 (q + 1) q (treeR_good (fun i nd _ hi => h.s1 nd (List.mem_of_getElem? hi)) h.t1) x hx
theorem kind_pos {x : Vl} (h : Fit x) : 0 ≤ x.k := by
  obtain ⟨h1, -⟩ := right_parts h.r
  simp only [formedV, Bool.and_eq_true] at h1
  have h2 := h1.2
  repeat' split at h2
  all_goals first | omega | cases h2
/-- What the law asks of an and, of an or. -/
theorem Two2.two (h : Two2 ns ms L q v) {op : Int} (ho : op = 9 ∨ op = 10) {ka : Option Addr} {kc : Nat} {w x : Vl} {e g : Int} (hw : WU (worthR ns q v) w e) (hx : WU (worthR (L ++ [nd2 op q ms.length ka kc]) ((q + ms.length + 1 : Nat) : Int) v) x g) :
    (e ≠ 0 ∧ g = e) ∨ (e = 0 ∧ w.k = 0 ∧ g = 110) ∨ (e = 0 ∧ 0 < w.k ∧ w.k ≠ 2 ∧ g = 100) ∨ (e = 0 ∧ w.k = 2 ∧ w.n = 0 ∧ op = 9 ∧ g = 0 ∧ x = w) ∨ (e = 0 ∧ w.k = 2 ∧ w.n = 1 ∧ op = 10 ∧ g = 0 ∧ x = w) ∨
    (e = 0 ∧ w.k = 2 ∧ w.n = 1 ∧ op = 9) ∨ (e = 0 ∧ w.k = 2 ∧ w.n = 0 ∧ op = 10) := by
  rw [h.op (by rcases ho with rfl | rfl <;> simp)] at hx
  obtain ⟨h1, h2, h3, h4, h5⟩ := lazy_two (nd := nd2 op q ms.length ka kc) (a := (q : Int)) (b := ((q + ms.length : Nat) : Int)) (W := worthR ns q v) ho rfl (pick_q _ _ _) (nzw_worth _ _ _) hw hx
  by_cases he : e = 0
  · have hfit : Fit w := by
      rcases hw with ⟨a, -⟩ | ⟨a, b⟩
      · exact h.fit a
      · exact absurd he (nzw_worth _ _ _ _ a)
    have hk := kind_pos hfit
    by_cases k0 : w.k = 0
    · exact .inr (.inl ⟨he, k0, h2 he k0⟩)
    · by_cases k2 : w.k = 2
      · have hn : w.n = 0 ∨ w.n = 1 := by
          obtain ⟨p1, -⟩ := right_parts hfit.r
          simp only [formedV, Bool.and_eq_true] at p1
          have p2 := p1.2
          rw [if_neg (by omega), if_pos k2] at p2
          simpa using p2
        rcases hn with n0 | n1
        · rcases ho with rfl | rfl
          · obtain ⟨a, b⟩ := h4 he k2 n0 rfl
            exact .inr (.inr (.inr (.inl ⟨he, k2, n0, rfl, a, by rw [b, truth_of hfit k2 false (by simpa using n0)]⟩)))
          · exact .inr (.inr (.inr (.inr (.inr (.inr ⟨he, k2, n0, rfl⟩)))))
        · rcases ho with rfl | rfl
          · exact .inr (.inr (.inr (.inr (.inr (.inl ⟨he, k2, n1, rfl⟩)))))
          · obtain ⟨a, b⟩ := h5 he k2 n1 rfl
            exact .inr (.inr (.inr (.inr (.inl ⟨he, k2, n1, rfl, a, by rw [b, truth_of hfit k2 true (by simpa using n1)]⟩))))
      · exact .inr (.inr (.inl ⟨he, by omega, k2, h3 he k0 k2⟩))
  · exact .inl ⟨he, h1 he⟩
/-- What the law asks of a default. -/
theorem Two2.deflt (h : Two2 ns ms L q v) {ka : Option Addr} {kc : Nat} {w x y : Vl} {e g f : Int} (hw : WU (worthR ns q v) w e) (hy : WU (worthR L ((q + ms.length : Nat) : Int) v) y f) (hx : WU (worthR (L ++ [nd2 33 q ms.length ka kc]) ((q + ms.length + 1 : Nat) : Int) v) x g) :
    (e ≠ 0 ∧ g = e) ∨ (e = 0 ∧ 0 < w.k ∧ g = 0 ∧ x = w) ∨ (e = 0 ∧ w.k = 0 ∧ g = f ∧ x = y) := by
  rw [h.op (by simp)] at hx
  rw [h.moved] at hy
  obtain ⟨h1, h2, h3⟩ := lazy_default (nd := nd2 33 q ms.length ka kc) (a := (q : Int)) (b := ((q + ms.length : Nat) : Int)) (W := worthR ns q v) (Y := worthR ms ((ms.length : Int) - 1) v) rfl rfl (pick_q _ _ _) (pick_m h.hm _ _) (nzw_worth _ _ _) hw hy hx
  by_cases he : e = 0
  · have hfit : Fit w := by
      rcases hw with ⟨a, -⟩ | ⟨a, b⟩
      · exact h.fit a
      · exact absurd he (nzw_worth _ _ _ _ a)
    have hk := kind_pos hfit
    by_cases k0 : w.k = 0
    · exact .inr (.inr ⟨he, k0, h3 he k0⟩)
    · exact .inr (.inl ⟨he, by omega, h2 he k0⟩)
  · exact .inl ⟨he, h1 he⟩
/-- What the law asks of the two ifs. -/
theorem Two2.pick (h : Two2 ns ms L q v) {i : Int} (hi : i = 0 ∨ i = 1) {ka : Option Addr} {kc : Nat} {w x y : Vl} {e g f : Int} (hw : WU (worthR ns q v) w e) (hy : WU (worthR L ((q + ms.length : Nat) : Int) v) y f) (hx : WU (worthR (L ++ [ndB i, nd3 q ms.length ka kc]) ((q + ms.length + 2 : Nat) : Int) v) x g) :
    (i = 1 → g = e ∧ x = w) ∧ (i = 0 → g = f ∧ x = y) := by
  rw [h.ifs hi] at hx
  rw [h.moved] at hy
  constructor
  · intro h1
    rw [if_pos h1] at hx
    have := WU.uniq hx hw
    exact ⟨this.2, this.1⟩
  · intro h0
    rw [if_neg (by omega)] at hx
    have := WU.uniq hx hy
    exact ⟨this.2, this.1⟩
end Go.Proofs.YtcnckjlmldnblaaDoor
