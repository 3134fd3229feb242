import Derived.Test.YtcnckjlmldnblaaDoorE60
import Derived.Test.YtcnckjlmldnblaaDoorT3
import Derived.Test.YtcnckjlmldnblaaDoorE33
import Derived.Test.YtcnckjlmldnblaaDoorE51
import Derived.BigGuardPart
import Derived.OrdersHeld
import Derived.Deep.RegionHeld3
import Derived.Handy
import Derived.IntWalk
import Derived.Laws.AppendOwnNone
import Derived.Deep.DeepAppendWide
namespace Go.Proofs.YtcnckjlmldnblaaDoor
open Go Go.RowKit
set_option linter.unusedVariables false
set_option linter.unusedSimpArgs false
theorem SV.setbox {w : World} {B : Nat} {x : Vl} {a : Option Addr} {l c : Nat} {g : Nat} {z0 z1 z2 z3 : Value} {t : TypeId} (h : SV w B (VA x a l c) x) (hg : w.heap[g]? = some (.cells #[z0, z1, z2, z3] t (0, 0))) (ht : t ≠ 9) (x0 x1 x2 x3 : Value) :
    SV ((((w.setCell ⟨g, 0, none⟩ x0).setCell ⟨g, 1, none⟩ x1).setCell ⟨g, 2, none⟩ x2).setCell ⟨g, 3, none⟩ x3) B (VA x a l c) x := by
  obtain ⟨a, l, c, e, hl, h⟩ := h
  refine ⟨a, l, c, e, hl, ?_⟩
  rcases h with h | h
  · exact .inl h
  · exact .inr (own_box h (own_ne h hg ht) _ _ _ _)
/-- Worth, with the block that its members lie in. -/
theorem worthV_any (w : World) (na : Option Addr) (nl nc : Nat) (ns : List Nd) (p : Pd) (hE : EnvW w na nl nc ns p) (hv : VwOk p.vw) (hn : ∀ x ∈ ns, x.ks.length = x.kl ∧ I64 x.vn) (ht : ResTab w 1) (h2 : 1 < w.heap.size) (root : Int) (hroot : I64 root) (hsm : ∀ (i : Nat) (nd : Nd), (i : Int) ≤ root → ns[i]? = some nd → nd.kl ≤ 1000000)
    (hsz : ∀ x, worthR ns root p.vw = .ok x → x.ss.length ≤ 1000000) :
    Calls Tryd.prog 23 #[.slice na nl nc, .int .i64 root, .iface 86 (.agg p.cs)] w fun e w' => (∃ (x : Vl) (er : Int) (a : Option Addr) (c : Nat), e = .returned (.tuple #[VA x a x.ss.length c, .int .i64 er]) ∧ WU (worthR ns root p.vw) x er ∧ SV w' w.heap.size (VA x a x.ss.length c) x ∧ x.ss.length ≤ 1000000) ∧ Below w.heap.size w w' :=
  (worthf_any w na nl nc ns p hE hv hn ht h2 root hroot hsm).mono fun e w' ⟨hm, hb⟩ => ⟨by
    rcases hm.cases with ⟨x, a, l, c, hr, rfl, hs⟩ | ⟨er, hr, rfl⟩
    · obtain ⟨a', l', c', e, hl, -⟩ := id hs
      simp only [VA, Value.agg.injEq, Array.mk.injEq, List.cons.injEq, Value.slice.injEq, true_and, and_true] at e
      obtain ⟨rfl, rfl, rfl⟩ := e
      subst hl
      exact ⟨x, 0, a, c, rfl, .inl ⟨hr, rfl⟩, hs, hsz x hr⟩
    · exact ⟨v0, er, none, 0, rfl, .inr ⟨hr, rfl⟩, ⟨none, 0, 0, rfl, rfl, .inl ⟨rfl, fun _ => rfl⟩⟩, Nat.zero_le _⟩, hb⟩
section
variable {P : Program} {w : World} {ops : Array Oper} {rest : List Oper} {o : Oper} {a : Act} {Q : Exit → Act → World → Prop}
theorem W_appendE {K : Act → World → Prop} (s x : Operand) (t : TypeId) (ho : o.op = .call { callee := .builtin .append, args := #[s, x], argTypes := #[t, t] })
    {e : TypeId} {z : Value} {size bytes : Nat} (T : Sl P t e z size bytes) (base : Nat) (av : Option Addr) (n cv : Nat) (xs : List Value) (hs : a.eval s = .slice av n cv) (hown : w.ownsRow base e size (.slice av n cv) n xs) (aa : Option Addr) (m c : Nat) (l : List Value) (hx : a.eval x = .slice aa m c)
    (hsrc : (aa = none ∧ m = 0 ∧ c = 0 ∧ l = []) ∨ ∃ ad, aa = some ad ∧ ∀ j u, l[j]? = some u → w.cell? (ad.add j) = some u) (hl : l.length = m * size) (h1 : ∀ u ∈ l, u.oneCell' = true) (hb : ((n + m) + (n + m) / 4 + 192) * bytes ≤ 281474976710656) (hm : n + m ≤ maxLen) (hbase : base ≤ w.heap.size)
    (h : ∀ a' c' w', w'.ownsRow base e size (.slice a' (n + m) c') (n + m) (xs ++ l) → w.grownBy w' (Value.slice av n cv).ownBlock → K (a.put o.dst (.slice a' (n + m) c')) w') : o.wp P a w K Q := by
  rcases hsrc with ⟨rfl, rfl, rfl, rfl⟩ | ⟨ad, rfl, hc⟩
  · obtain ⟨i, hi, hz0, hz1, hz2⟩ := info_parts T.inf
    have hrun := run_append_owned_none (P := P) (w := w) base t o.type e i size T.und hi _ n xs hown
    unfold Oper.wp
    simp [execOp, ho, resolve, invoke, builtin, hs, hx, hrun, Result.andThen]
    exact h av cv w (by simpa using hown) ⟨rfl, rfl, rfl, Nat.le_refl _, fun _ _ _ => rfl⟩
  · obtain ⟨i, hi, hz0, hz1, hz2⟩ := info_parts T.inf
    exact wp_append_own_wide w s x t ho base e i z size bytes T.und hi hz0 hz1 hz2 T.zs T.pos _ n xs hs hown ad m c l hx hl hc h1 hm hb hbase fun v' w' h2 h3 _ => by
      obtain ⟨a', c', rfl, _⟩ := owns_shape h2
      exact h a' c' w' h2 h3
end
theorem sl48' : Sl Tryd.prog 48 61 (.agg #[.int .i64 0, .string ByteArray.empty, .int .i64 0, .int .i64 0, .string ByteArray.empty, .slice none 0 0, .slice none 0 0]) 7 104 := ⟨by kernel_rfl, by kernel_rfl, rfl, by decide⟩
theorem one_nds {ns : List Nd} : ∀ u ∈ ns.flatMap Nd.cs, u.oneCell' = true := fun u hu => by
  obtain ⟨b, -, h⟩ := List.mem_flatMap.1 hu
  simp only [Nd.cs, List.mem_cons, List.not_mem_nil, or_false] at h
  rcases h with rfl | rfl | rfl | rfl | rfl | rfl | rfl <;> rfl
theorem ok_k {w : World} {nd : Nd} (h : nd.ok w) : RS 1 Iv w nd.ka nd.kl nd.kc nd.ks := And.left h
theorem ok_i {w : World} {nd : Nd} (h : nd.ok w) : I64 nd.vn := And.right (And.right h)
theorem okA_w {W : World} {nd : Nd} (h : nd.okA W) : NdW W nd := And.left h
theorem okA_s {W : World} {nd : Nd} (h : nd.okA W) : nd.sl ≤ 8796093022208 := And.right h
set_option maxRecDepth 100000 in
set_option maxHeartbeats 8000000 in
theorem evallocal_walk (w : World) (na : Option Addr) (nl nc : Nat) (ns : List Nd) (hr : RS 7 Nd.cs w na nl nc ns) (hok : ∀ nd ∈ ns, nd.okA w) (hn : nl ≤ 1353245080300) (root : Int) (hroot : I64 root) (p : Pd) (hp : VwArg w p)
    (ma : Option Addr) (ml mc : Nat) (ms : List Nd) (hmr : RS 7 Nd.cs w ma ml mc ms) (hmz : ma = none → mc = 0) (hmok : ∀ nd ∈ ms, nd.okA w) (hmn : ml ≤ 1353245080300) (ht : ResTab w 1) (h1 : 1 < w.heap.size) :
    Calls Tryd.prog 5 #[.slice na nl nc, .int .i64 root, .agg p.cs, .slice ma ml mc] w fun e w' => e = .returned (.bool true) ∧ Below w.heap.size w w' := by
  obtain ⟨w1, hw1⟩ : ∃ w1, w1 = w.alloc (boxW35 p) := ⟨_, rfl⟩
  have g0 : w1.heap[w.heap.size]? = some (boxW35 p) := by rw [hw1]; exact heap_alloc_new w _
  have hb1 : Below w.heap.size w w1 := by rw [hw1]; exact bel1 _ _
  have z1 : w.heap.size < w1.heap.size := by rw [hw1]; simp
  have HLN := Lib.hid hr.1
  have hnc48 := hr.2.2.1
  have HR := Lib.hid hr
  have HOK := Lib.hid hok
  have HP := Lib.hid hp
  have HKS := Lib.hid (fun nd hm => ⟨(ok_k (okA_w (hok nd hm)).ok).2.2.1, by have := okA_s (hok nd hm); omega⟩ : ∀ nd ∈ ns, nd.kl ≤ 281474976710656 ∧ nd.sl ≤ 281474976710656)
  have HMR := Lib.hid hmr
  have HMZ := Lib.hid hmz
  have HMOK := Lib.hid hmok
  have HRO := Lib.hid hroot
  have HT := Lib.hid ht
  have H1 := Lib.hid h1
  have HB1 := Lib.hid hb1
  have G0 := Lib.hid g0
  have q0 := cell_of_row w1 _ 0 _ _ _ g0
  have q1 := cell_of_row w1 _ 1 _ _ _ g0
  have q2 := cell_of_row w1 _ 2 _ _ _ g0
  have q3 := cell_of_row w1 _ 3 _ _ _ g0
  have q4 := cell_of_row w1 _ 4 _ _ _ g0
  simp only [List.getElem?_toArray, List.getElem?_cons_zero, List.getElem?_cons_succ] at q0 q1 q2 q3 q4
  have HKN := Lib.hid (fun (W : World) (hb : Below w.heap.size w W) => known_any W (ht.below hb h1 h1) (Nat.lt_of_lt_of_le h1 hb.size))
  clear hr hok hp hmr hmz hmok hroot ht h1 hb1 g0
  by_cases h0 : nl = 0
  · have hb0 : ((nl : Int) == 0) = true := by simp [h0]
    clear h0
    go_enter Tryd.func5, Tryd.ntmps5
    go_upto_region 1 with (fail)
    rw [← hw1]
    clear hw1
    go_wp2_with (go_at_call 16; refine (HKN.out _ HB1.out).mono ?_; rintro e w9 ⟨rfl, hb9⟩)
    go_ret
    exact ⟨rfl, HB1.out.trans (hb9.mono (by omega))⟩
  have hb0 : ((nl : Int) == 0) = false := by simp; omega
  have hpos : 0 < nl := by omega
  clear h0
  go_enter Tryd.func5, Tryd.ntmps5
  go_upto_region 1 with (fail)
  rw [← hw1]
  clear hw1
  go_wp2_with fail
  with_reducible refine (great_any w1 na nl nc ns (HR.out.below HB1.out) HKS.out p (HP.out.below HB1.out)).mono ?_
  rintro e w2 ⟨hg, hb2⟩
  obtain ⟨g, rfl, hs⟩ := hg.cases
  have HS := Lib.hid hs
  have HB2 := Lib.hid (HB1.out.trans (hb2.mono (by omega)))
  have G2 := Lib.hid ((hb2.block _ z1).trans G0.out)
  have z2 : w.heap.size < w2.heap.size := by have := hb2.size; omega
  clear hb2 hs hg q0 q1 q2 q3 q4
  cases g
  rotate_left
  · go_wp2_with (go_at_call 16; refine (HKN.out _ HB2.out).mono ?_; rintro e w9 ⟨rfl, hb9⟩)
    go_ret
    exact ⟨rfl, HB2.out.trans (hb9.mono (by omega))⟩
  obtain ⟨hn5, hnd5, hnm5, hbs5⟩ := HS.out rfl
  have HND := Lib.hid hnd5
  have HBS := Lib.hid hbs5
  have q0 := cell_of_row w2 _ 0 _ _ _ G2.out
  have q1 := cell_of_row w2 _ 1 _ _ _ G2.out
  have q2 := cell_of_row w2 _ 2 _ _ _ G2.out
  have q3 := cell_of_row w2 _ 3 _ _ _ G2.out
  have q4 := cell_of_row w2 _ 4 _ _ _ G2.out
  simp only [List.getElem?_toArray, List.getElem?_cons_zero, List.getElem?_cons_succ] at q0 q1 q2 q3 q4
  clear HS hnd5 hbs5
  go_wp2_with fail
  with_reducible refine (within_any w2 root HRO.out nl hpos (by omega)).mono ?_
  rintro e w' ⟨⟨q, hq, rfl⟩, hww⟩
  obtain rfl := hww.symm
  go_wp2_with fail
  with_reducible refine (plainA_any w2 p (HP.out.below HB2.out) (by omega) (fun b hm => by have := HBS.out b hm; omega)).mono ?_
  rintro e w3 ⟨⟨pp, rfl, hpo, hvw⟩, hb3⟩
  have HB3 := Lib.hid (HB2.out.trans (hb3.mono (by omega)))
  have HVW := Lib.hid hvw
  have HVO := Lib.hid (show VwOk pp.vw by rw [hvw]; exact vwok_of HP.out)
  have HE := Lib.hid (show EnvW w3 na nl nc ns pp from ⟨HR.out.below HB3.out, fun nd hm => (okA_w (HOK.out nd hm)).below HB3.out, hpo.ok⟩)
  have HKI := Lib.hid (fun x hx => ⟨(ok_k (okA_w (HOK.out x hx)).ok).1, ok_i (okA_w (HOK.out x hx)).ok⟩ : ∀ x ∈ ns, x.ks.length = x.kl ∧ I64 x.vn)
  have HSM := Lib.hid (fun i nd _ h => by have := (HND.out nd (List.mem_of_getElem? h)).1; omega : ∀ (i : Nat) (nd : Nd), (i : Int) ≤ (q : Int) → ns[i]? = some nd → nd.kl ≤ 1000000)
  have HT3 := Lib.hid (HT.out.below HB3.out H1.out H1.out)
  have zt3 : 1 < w3.heap.size := by have := H1.out; have := HB3.out.size; omega
  have G3 := Lib.hid ((hb3.block _ z2).trans G2.out)
  have z3 : w.heap.size < w3.heap.size := by have := hb3.size; omega
  clear hpo hvw hb3 q0 q1 q2 q3 q4
  go_wp2_with fail
  with_reducible refine (worthU_any w3 na nl nc ns pp HE.out HVO.out HKI.out HT3.out zt3 (q : Int) ⟨by omega, by omega⟩ HSM.out (fun x hx => worth_size HVO.out HKI.out (fun i nd hi h => HSM.out i nd (by omega) h) hx)).mono ?_
  rintro e w4 ⟨⟨x, er, ax, cx, rfl, hwu, hzx⟩, hb4⟩
  have HWU := Lib.hid hwu
  have HZX := Lib.hid hzx
  have HB4 := Lib.hid (HB3.out.trans (hb4.mono (by omega)))
  have G4 := Lib.hid ((hb4.block _ z3).trans G3.out)
  have z4 : w.heap.size < w4.heap.size := by have := hb4.size; omega
  clear hwu hzx hb4
  go_upto_region 6 with (fail)
  obtain ⟨w5, hw5⟩ : ∃ w5, w5 = w4.alloc (boxS x ax x.ss.length cx) := ⟨_, rfl⟩
  have g5 : w5.heap[w4.heap.size]? = some (boxS x ax x.ss.length cx) := by rw [hw5]; exact heap_alloc_new w4 _
  have hb5 : Below w4.heap.size w4 w5 := by rw [hw5]; exact bel1 _ _
  rw [← hw5]
  clear hw5
  have X5 := Lib.hid g5
  have HB5 := Lib.hid (HB4.out.trans (hb5.mono (by omega)))
  have HZX5 := Lib.hid (HZX.out.below hb5)
  have G5 := Lib.hid ((hb5.block _ z4).trans G4.out)
  have z5 : w4.heap.size < w5.heap.size := (Array.getElem?_eq_some_iff.1 g5).1
  clear g5 hb5
  cases he8 : (er == 8)
  rotate_left
  · have hx0 : x.k = 0 := by
      rcases HWU.out with ⟨h1, h2⟩ | ⟨h1, h2⟩
      · simp at he8; omega
      · rw [h2]; rfl
    have hx1 : (x.k == 0) = true := by simp [hx0]
    obtain ⟨c0, c1, c2, c3, -⟩ := box4 X5.out
    clear hx0
    go_wp2_with (go_at_call 16; refine (HKN.out _ HB5.out).mono ?_; rintro e w9 ⟨rfl, hb9⟩)
    go_ret
    exact ⟨rfl, HB5.out.trans (hb9.mono (by omega))⟩
  have HTREE := Lib.hid (show treeR ns q = true by
    cases hh : treeR ns q
    · have h8 := worth_tree (v := pp.vw) (by have := HLN.out; omega) hh
      rcases HWU.out with ⟨h1, h2⟩ | ⟨h1, h2⟩
      · rw [h8] at h1; cases h1
      · rw [h8] at h1; cases h1; simp at he8
    · rfl)
  have HE8 := Lib.hid he8
  have HOK5 := Lib.hid (fun nd hm => ((okA_w (HOK.out nd hm)).below HB5.out).ok : ∀ nd ∈ ns, nd.ok w5)
  go_wp2_with fail
  with_reducible refine (names_any w5 na nl nc ns (HR.out.below HB5.out) HOK5.out hn5 q hq HTREE.out).mono ?_
  rintro e w6 ⟨⟨a1, k1, a2, k2, a3, k3, rfl, r1, r2, r3⟩, hb6⟩
  have R1 := Lib.hid r1.rs
  have R2 := Lib.hid r2.rs
  have R3' := Lib.hid r3.rs
  have HB6 := Lib.hid (HB5.out.trans (hb6.mono (by omega)))
  have X6 := Lib.hid ((hb6.block _ z5).trans X5.out)
  have HZX6 := Lib.hid (HZX5.out.below hb6)
  have G6 := Lib.hid ((hb6.block _ (by omega)).trans G5.out)
  have z6 : w4.heap.size < w6.heap.size := by have := hb6.size; omega
  have q0 := cell_of_row w6 _ 0 _ _ _ G6.out
  have q1 := cell_of_row w6 _ 1 _ _ _ G6.out
  have q2 := cell_of_row w6 _ 2 _ _ _ G6.out
  have q3 := cell_of_row w6 _ 3 _ _ _ G6.out
  have q4 := cell_of_row w6 _ 4 _ _ _ G6.out
  simp only [List.getElem?_toArray, List.getElem?_cons_zero, List.getElem?_cons_succ] at q0 q1 q2 q3 q4
  clear r1 r2 r3 hb6
  go_wp2_with fail
  with_reducible refine (only_any w6 p (HP.out.below HB6.out) ⟨by omega, by omega, by omega⟩ a1 _ k1 _ R1.out a2 _ k2 _ R2.out a3 _ k3 _ R3'.out).mono ?_
  rintro e w7 ⟨⟨po, rfl, hoo⟩, hb7⟩
  have HOO := Lib.hid hoo
  have HB7 := Lib.hid (HB6.out.trans (hb7.mono (by omega)))
  have X7 := Lib.hid ((hb7.block _ z6).trans X6.out)
  have HZX7 := Lib.hid (HZX6.out.below hb7)
  have z7 : w4.heap.size < w7.heap.size := by have := hb7.size; omega
  clear hoo hb7 q0 q1 q2 q3 q4
  go_upto_region 10 with (fail)
  obtain ⟨w8, hw8⟩ : ∃ w8, w8 = w7.alloc (boxW35 po) := ⟨_, rfl⟩
  have g8 : w8.heap[w7.heap.size]? = some (boxW35 po) := by rw [hw8]; exact heap_alloc_new w7 _
  have hb8 : Below w7.heap.size w7 w8 := by rw [hw8]; exact bel1 _ _
  rw [← hw8]
  clear hw8
  have HB8 := Lib.hid (HB7.out.trans (hb8.mono (by omega)))
  have X8 := Lib.hid ((hb8.block _ z7).trans X7.out)
  have HZX8 := Lib.hid (HZX7.out.below hb8)
  have z8 : w7.heap.size < w8.heap.size := (Array.getElem?_eq_some_iff.1 g8).1
  have HPO := Lib.hid (HOO.out.ok.below hb8)
  have u0 := cell_of_row w8 _ 0 _ _ _ g8
  have u1 := cell_of_row w8 _ 1 _ _ _ g8
  have u2 := cell_of_row w8 _ 2 _ _ _ g8
  have u3 := cell_of_row w8 _ 3 _ _ _ g8
  have u4 := cell_of_row w8 _ 4 _ _ _ g8
  simp only [List.getElem?_toArray, List.getElem?_cons_zero, List.getElem?_cons_succ] at u0 u1 u2 u3 u4
  have hwq : IntKind.i64.wrap ((q : Int) + 1) = (q : Int) + 1 := IntWalk.i64_in _ (by omega)
  have htq : ((q : Int) + 1).toNat = q + 1 := by omega
  have hq0 : (0 : Int) ≤ (q : Int) + 1 := by omega
  have hqn : (q : Int) + 1 ≤ (nl : Int) := by omega
  have hnc : nl ≤ nc := (HR.out).2.1
  have hqc : (q : Int) + 1 ≤ (nc : Int) := by omega
  obtain ⟨nb, no, nd0, hna, -, -⟩ := HR.out.at hpos
  subst hna
  have HR8 := Lib.hid (HR.out.below HB8.out)
  have HM8 := Lib.hid (HMR.out.below HB8.out)
  have HTK := Lib.hid (show (ns.take (q + 1)).length = q + 1 by simp; have := HLN.out; omega)
  have hml := Lib.hid HMR.out.1
  have hmlen : ml ≤ 1353245080300 := hmn
  have HSRC := Lib.hid (src_cells Nd_len2 (by decide) (HMR.out.below HB8.out) HMZ.out)
  clear g8 hb8
  have HNM := Lib.hid (fun nd hm => (List.mem_append.1 hm).elim (fun h => okA_w (HOK.out nd (List.mem_of_mem_take h))) (fun h => okA_w (HMOK.out nd h)) : ∀ nd ∈ ns.take (q + 1) ++ ms, NdW w nd)
  have HKI2 := Lib.hid (fun nd hm => ⟨(ok_k (HNM.out nd hm).ok).1, ok_i (HNM.out nd hm).ok⟩ : ∀ nd ∈ ns.take (q + 1) ++ ms, nd.ks.length = nd.kl ∧ I64 nd.vn)
  have HSM2 := Lib.hid (fun i nd hi h => HSM.out i nd hi (by rw [List.getElem?_append_left (by have := HTK.out; omega), List.getElem?_take_of_lt (by omega)] at h; exact h) : ∀ (i : Nat) (nd : Nd), (i : Int) ≤ (q : Int) → (ns.take (q + 1) ++ ms)[i]? = some nd → nd.kl ≤ 1000000)
  have HVO2 := Lib.hid (vwok_of HPO.out)
  have HEQ := Lib.hid (show worthR (ns.take (q + 1) ++ ms) (q : Int) ⟨po.bs.map fun b => (b.nm, b.v.x), po.os, po.rs, po.clock, po.steps⟩ = worthR ns (q : Int) pp.vw by
    rw [HVW.out, HOO.out.b, HOO.out.o, HOO.out.r, HOO.out.k, HOO.out.s]
    exact worth_local (by have := HLN.out; omega) HKI.out (fun i nd hi h => HSM.out i nd (by omega) h) HTREE.out agr_only (fun i hi => by rw [List.getElem?_append_left (by have := HTK.out; omega), List.getElem?_take_of_lt (by omega)]) (by rw [List.length_append, HTK.out]; omega))
  have HOB := Lib.hid (fun b hb => by
    rw [HOO.out.b] at hb
    obtain ⟨b0, hb0, rfl⟩ := List.mem_map.1 hb
    unfold onlyB
    split
    · have := HBS.out b0 hb0; omega
    · show 0 ≤ 1000000; omega : ∀ b ∈ po.bs, b.v.l ≤ 1000000)
  refine wp_region_held_drew (S := (fun w' => Below w8.heap.size w8 w' ∧ w'.cell? ⟨w7.heap.size, 0, none⟩ = some (.slice po.va po.vl po.vc) ∧ w'.cell? ⟨w7.heap.size, 1, none⟩ = some (.slice po.oa po.ol po.oc) ∧ w'.cell? ⟨w7.heap.size, 2, none⟩ = some (.slice po.ra po.rl po.rc) ∧ w'.cell? ⟨w7.heap.size, 3, none⟩ = some (.int .i64 po.clock) ∧ w'.cell? ⟨w7.heap.size, 4, none⟩ = some (.int .i64 po.steps))) (by kernel_rfl) ⟨(Below.refl _ _).drew, u0, u1, u2, u3, u4⟩ (fun hHeld => ?_)
  clear u0 u1 u2 u3 u4
  obtain ⟨w8d, hw8d⟩ : ∃ w8d, w8d = w8.drew := ⟨_, rfl⟩
  rw [← hw8d] at hHeld ⊢
  clear hw8d
  refine wpAnyH_take (i := 0) (oi := _) (v := ?_) rfl (by kernel_rfl) (by kernel_rfl) (by kernel_rfl) (fun _ _ _ h => h) (Or.inl ⟨by rfl, ?_⟩) (by assumption) ?_
  rotate_left
  · intro w hSw
    (try dsimp only at hSw)
    go_simp
    all_goals (first | done | with_reducible rfl)
  (try simp only [Act.put, List.setIfInBounds_toArray, List.set_cons_zero, List.set_cons_succ, List.getElem_toArray, List.getElem_cons_succ, List.getElem_cons_zero])
  refine wpAnyH_take (i := 1) (oi := _) (v := ?_) rfl (by kernel_rfl) (by kernel_rfl) (by kernel_rfl) (fun _ _ _ h => h) (Or.inl ⟨by rfl, ?_⟩) (by assumption) ?_
  rotate_left
  · intro w hSw
    (try dsimp only at hSw)
    go_simp
    all_goals (first | done | with_reducible rfl)
  (try simp only [Act.put, List.setIfInBounds_toArray, List.set_cons_zero, List.set_cons_succ, List.getElem_toArray, List.getElem_cons_succ, List.getElem_cons_zero])
  refine wpAnyH_take (i := 2) (oi := _) (v := ?_) rfl (by kernel_rfl) (by kernel_rfl) (by kernel_rfl) (fun _ _ _ h => h) (Or.inl ⟨by rfl, ?_⟩) (by assumption) ?_
  rotate_left
  · intro w hSw
    (try dsimp only at hSw)
    go_simp
    all_goals (first | done | with_reducible rfl)
  (try simp only [Act.put, List.setIfInBounds_toArray, List.set_cons_zero, List.set_cons_succ, List.getElem_toArray, List.getElem_cons_succ, List.getElem_cons_zero])
  refine wpAnyH_take (i := 3) (oi := _) (v := ?_) rfl (by kernel_rfl) (by kernel_rfl) (by kernel_rfl) (fun _ _ _ h => h) (Or.inl ⟨by rfl, ?_⟩) (by assumption) ?_
  rotate_left
  · intro w hSw
    (try dsimp only at hSw)
    go_simp
    all_goals (first | done | with_reducible rfl)
  (try simp only [Act.put, List.setIfInBounds_toArray, List.set_cons_zero, List.set_cons_succ, List.getElem_toArray, List.getElem_cons_succ, List.getElem_cons_zero])
  refine wpAnyH_take (i := 5) (oi := _) (v := ?_) rfl (by kernel_rfl) (by kernel_rfl) (by kernel_rfl) (fun _ _ _ h => h) (Or.inl ⟨by rfl, ?_⟩) (by assumption) ?_
  rotate_left
  · intro w hSw
    (try dsimp only at hSw)
    go_simp
    all_goals (first | done | with_reducible rfl)
  (try simp only [Act.put, List.setIfInBounds_toArray, List.set_cons_zero, List.set_cons_succ, List.getElem_toArray, List.getElem_cons_succ, List.getElem_cons_zero])
  refine wpAnyH_take (i := 7) (oi := _) (v := ?_) rfl (by kernel_rfl) (by kernel_rfl) (by kernel_rfl) (fun _ _ _ h => h) (Or.inl ⟨by rfl, ?_⟩) (by assumption) ?_
  rotate_left
  · intro w hSw
    (try dsimp only at hSw)
    go_simp
    all_goals (first | done | with_reducible rfl)
  (try simp only [Act.put, List.setIfInBounds_toArray, List.set_cons_zero, List.set_cons_succ, List.getElem_toArray, List.getElem_cons_succ, List.getElem_cons_zero])
  refine wpAnyH_take (i := 8) (oi := _) (v := ?_) rfl (by kernel_rfl) (by kernel_rfl) (by kernel_rfl) (fun _ _ _ h => h) (Or.inl ⟨by rfl, ?_⟩) (by assumption) ?_
  rotate_left
  · intro w hSw
    (try dsimp only at hSw)
    go_simp
    all_goals (first | done | with_reducible rfl)
  (try simp only [Act.put, List.setIfInBounds_toArray, List.set_cons_zero, List.set_cons_succ, List.getElem_toArray, List.getElem_cons_succ, List.getElem_cons_zero])
  refine wpAnyH_take (i := 9) (oi := _) (v := ?_) rfl (by kernel_rfl) (by kernel_rfl) (by kernel_rfl) (fun _ _ _ h => h) (Or.inl ⟨by rfl, ?_⟩) (by assumption) ?_
  rotate_left
  · intro w hSw
    (try dsimp only at hSw)
    go_simp
    all_goals (first | done | with_reducible rfl)
  (try simp only [Act.put, List.setIfInBounds_toArray, List.set_cons_zero, List.set_cons_succ, List.getElem_toArray, List.getElem_cons_succ, List.getElem_cons_zero])
  refine wpAnyH_take (i := 10) (oi := _) (v := ?_) rfl (by kernel_rfl) (by kernel_rfl) (by kernel_rfl) (fun _ _ _ h => h) (Or.inl ⟨by rfl, ?_⟩) (by assumption) ?_
  rotate_left
  · intro w hSw
    (try dsimp only at hSw)
    go_simp
    all_goals (first | done | with_reducible rfl)
  (try simp only [Act.put, List.setIfInBounds_toArray, List.set_cons_zero, List.set_cons_succ, List.getElem_toArray, List.getElem_cons_succ, List.getElem_cons_zero])
  refine wpAnyH_take (i := 11) (oi := _) (v := ?_) rfl (by kernel_rfl) (by kernel_rfl) (by kernel_rfl) (fun _ _ _ h => h) (Or.inl ⟨by rfl, ?_⟩) (by assumption) ?_
  rotate_left
  · intro w hSw
    (try dsimp only at hSw)
    go_simp
    all_goals (first | done | with_reducible rfl)
  (try simp only [Act.put, List.setIfInBounds_toArray, List.set_cons_zero, List.set_cons_succ, List.getElem_toArray, List.getElem_cons_succ, List.getElem_cons_zero])
  refine wpAnyH_take (i := 12) (oi := _) (v := ?_) rfl (by kernel_rfl) (by kernel_rfl) (by kernel_rfl) (fun _ _ _ h => h) (Or.inl ⟨by rfl, ?_⟩) (by assumption) ?_
  rotate_left
  · intro w hSw
    (try dsimp only at hSw)
    go_simp
    all_goals (first | done | with_reducible rfl)
  (try simp only [Act.put, List.setIfInBounds_toArray, List.set_cons_zero, List.set_cons_succ, List.getElem_toArray, List.getElem_cons_succ, List.getElem_cons_zero])
  refine wpAnyH_take (i := 13) (oi := _) (v := ?_) rfl (by kernel_rfl) (by kernel_rfl) (by kernel_rfl) (fun _ _ _ h => h) (Or.inl ⟨by rfl, ?_⟩) (by assumption) ?_
  rotate_left
  · intro w hSw
    (try dsimp only at hSw)
    go_simp
    all_goals (first | done | with_reducible rfl)
  (try simp only [Act.put, List.setIfInBounds_toArray, List.set_cons_zero, List.set_cons_succ, List.getElem_toArray, List.getElem_cons_succ, List.getElem_cons_zero])
  refine wpAnyH_take (i := 14) (oi := _) (v := ?_) rfl (by kernel_rfl) (by kernel_rfl) (by kernel_rfl) (fun _ _ _ h => h) (Or.inl ⟨by rfl, ?_⟩) (by assumption) ?_
  rotate_left
  · intro w hSw
    (try dsimp only at hSw)
    go_simp
    all_goals (first | done | with_reducible rfl)
  (try simp only [Act.put, List.setIfInBounds_toArray, List.set_cons_zero, List.set_cons_succ, List.getElem_toArray, List.getElem_cons_succ, List.getElem_cons_zero])
  refine wpAnyH_take (i := 15) (oi := _) (v := ?_) rfl (by kernel_rfl) (by kernel_rfl) (by kernel_rfl) (fun _ _ _ h => h) (Or.inl ⟨by rfl, ?_⟩) (by assumption) ?_
  rotate_left
  · intro w hSw
    (try dsimp only at hSw)
    go_simp
    all_goals (first | done | with_reducible rfl)
  (try simp only [Act.put, List.setIfInBounds_toArray, List.set_cons_zero, List.set_cons_succ, List.getElem_toArray, List.getElem_cons_succ, List.getElem_cons_zero])
  refine wpAnyH_take (i := 16) (oi := _) (v := ?_) rfl (by kernel_rfl) (by kernel_rfl) (by kernel_rfl) (fun _ _ _ h => h) (Or.inl ⟨by rfl, ?_⟩) (by assumption) ?_
  rotate_left
  · intro w hSw
    (try dsimp only at hSw)
    go_simp
    all_goals (first | done | with_reducible rfl)
  (try simp only [Act.put, List.setIfInBounds_toArray, List.set_cons_zero, List.set_cons_succ, List.getElem_toArray, List.getElem_cons_succ, List.getElem_cons_zero])
  refine wpAnyH_take (i := 17) (oi := _) (v := ?_) rfl (by kernel_rfl) (by kernel_rfl) (by kernel_rfl) (fun _ _ _ h => h) (Or.inl ⟨by rfl, ?_⟩) (by assumption) ?_
  rotate_left
  · intro w hSw
    (try dsimp only at hSw)
    go_simp
    all_goals (first | done | with_reducible rfl)
  (try simp only [Act.put, List.setIfInBounds_toArray, List.set_cons_zero, List.set_cons_succ, List.getElem_toArray, List.getElem_cons_succ, List.getElem_cons_zero])
  refine wpAnyH_ready (rs := [4, 23]) (by kernel_rfl) (by simp) ?_
  refine AllReadyH.cons (o := _) rfl (fun K hK => ?_) (AllReadyH.cons (o := _) rfl (fun K hK => ?_) AllReadyH.nil)
  · refine W_appendE _ _ 48 (by rfl) sl48' w8.heap.size none 0 0 [] (by rfl) (World.ownsRow_nil _ _ _ _) (some ⟨nb, no, none⟩) (q + 1) nc ((ns.take (q + 1)).flatMap Nd.cs) (by rfl) (.inr ⟨_, rfl, fun j u hu => ((HR8.out.below hHeld.1).take (q + 1) (by omega)).cells Nd_len2 (by decide) rfl j u hu⟩) (by rw [flat_len Nd.cs 7 Nd_len2, HTK.out]) one_nds (by omega) (by simp [maxLen]; omega) (by have := hHeld.1.size; omega) (fun a4 c4 y1 ho4 hg4 => ?_)
    have hb : Below w8d.heap.size w8d y1 := (Below.refl _ _).grown hg4 (Nat.le_refl _) (fun k hk => by cases hk)
    have HA := Lib.hid (show y1.ownsRow w8.heap.size 61 7 (.slice a4 (q + 1) c4) (q + 1) ((ns.take (q + 1)).flatMap Nd.cs) by simpa using ho4)
    refine hK.out _ _ ⟨hHeld.1.trans ((hb).mono hHeld.1.size), keepb hb hHeld.2.1, keepb hb hHeld.2.2.1, keepb hb hHeld.2.2.2.1, keepb hb hHeld.2.2.2.2.1, keepb hb hHeld.2.2.2.2.2⟩ (fun hHeld => ?_)
    clear hK K
    (try simp only [Act.put, List.setIfInBounds_toArray, List.set_cons_zero, List.set_cons_succ, List.getElem_toArray, List.getElem_cons_succ, List.getElem_cons_zero])
    (try simp only [Nat.zero_add])
    clear hb ho4 hg4
    refine wpAnyH_ready (rs := [6, 23]) (by kernel_rfl) (by simp) ?_
    refine AllReadyH.cons (o := _) rfl (fun K hK => ?_) (AllReadyH.cons (o := _) rfl (fun K hK => ?_) AllReadyH.nil)
    · refine W_appendE _ _ 48 (by rfl) sl48' w8.heap.size a4 (q + 1) c4 _ (by rfl) HA.out ma ml mc (ms.flatMap Nd.cs) (by rfl) (by
        rcases HSRC.out with h | ⟨ad, h, hc⟩
        · exact .inl h
        · exact .inr ⟨ad, h, fun j u hu => (hHeld.1.cell (block_lt_of_cell' (hc j u hu))).trans (hc j u hu)⟩) (by rw [flat_len Nd.cs 7 Nd_len2, hml.out]) one_nds (by omega) (by simp [maxLen]; omega) (by have := hHeld.1.size; omega) (fun a6 c6 y2 ho6 hg6 => ?_)
      have hb0 : Below w8.heap.size y1 y2 := (Below.refl _ _).grown hg6 (hHeld.1.size) (fun k hk => (HA.out.lt k hk).1)
      have HA6 := Lib.hid (show y2.ownsRow w8.heap.size 61 7 (.slice a6 (q + 1 + ml) c6) (q + 1 + ml) ((ns.take (q + 1) ++ ms).flatMap Nd.cs) by rw [List.flatMap_append]; exact ho6)
      refine hK.out _ _ ⟨hHeld.1.trans hb0, (hb0.cell (p := ⟨w7.heap.size, 0, none⟩) z8).trans hHeld.2.1, (hb0.cell (p := ⟨w7.heap.size, 1, none⟩) z8).trans hHeld.2.2.1, (hb0.cell (p := ⟨w7.heap.size, 2, none⟩) z8).trans hHeld.2.2.2.1, (hb0.cell (p := ⟨w7.heap.size, 3, none⟩) z8).trans hHeld.2.2.2.2.1, (hb0.cell (p := ⟨w7.heap.size, 4, none⟩) z8).trans hHeld.2.2.2.2.2⟩ (fun hHeld => ?_)
      clear hK K
      (try simp only [Act.put, List.setIfInBounds_toArray, List.set_cons_zero, List.set_cons_succ, List.getElem_toArray, List.getElem_cons_succ, List.getElem_cons_zero])
      clear HA
      have HA := Lib.hid HA6.out
      clear HA6 hb0 ho6 hg6
      refine wpAnyH_ready (rs := [18, 23]) (by kernel_rfl) (by simp) ?_
      refine AllReadyH.cons (o := _) rfl (fun K hK => ?_) (AllReadyH.cons (o := _) rfl (fun K hK => ?_) AllReadyH.nil)
      · go_simp
        refine (plainA_any y2 po (HPO.out.below hHeld.1) (by have := HOO.out.n; omega) HOB.out).mono ?_
        rintro e y3 ⟨⟨p2, rfl, hp2, hv2⟩, hb⟩
        have HV2 := Lib.hid hv2
        have HE2 := Lib.hid (show EnvW y3 a6 (q + 1 + ml) c6 (ns.take (q + 1) ++ ms) p2 from ⟨(RS.of_owns HA.out (by decide) Nd_len2 (by omega)).below hb, fun nd hm => (HNM.out nd hm).below ((HB8.out.trans (hHeld.1.mono (by have := HB8.out.size; omega))).trans (hb.mono (by have := (HB8.out.trans (hHeld.1.mono (by have := HB8.out.size; omega))).size; omega))), hp2.ok⟩)
        have hbk := hb
        refine hK.out _ _ ⟨hHeld.1.trans ((hb).mono hHeld.1.size), keepb hb hHeld.2.1, keepb hb hHeld.2.2.1, keepb hb hHeld.2.2.2.1, keepb hb hHeld.2.2.2.2.1, keepb hb hHeld.2.2.2.2.2⟩ (fun hHeld => ?_)
        clear hK K HA
        (try simp only [Act.put, List.setIfInBounds_toArray, List.set_cons_zero, List.set_cons_succ, List.getElem_toArray, List.getElem_cons_succ, List.getElem_cons_zero])
        clear hb hbk hp2 hv2
        refine wpAnyH_ready (rs := [19, 23]) (by kernel_rfl) (by simp) ?_
        refine AllReadyH.cons (o := _) rfl (fun K hK => ?_) (AllReadyH.cons (o := _) rfl (fun K hK => ?_) AllReadyH.nil)
        · go_simp
          refine (worthV_any y3 a6 (q + 1 + ml) c6 (ns.take (q + 1) ++ ms) p2 HE2.out (by rw [HV2.out]; exact HVO2.out) HKI2.out (HT.out.below (HB8.out.trans (hHeld.1.mono (by have := HB8.out.size; omega))) H1.out H1.out) (by have := H1.out; have := (HB8.out.trans (hHeld.1.mono (by have := HB8.out.size; omega))).size; omega) (q : Int) ⟨by omega, by omega⟩ HSM2.out (fun x hx => by rw [HV2.out] at hx; exact worth_size HVO2.out HKI2.out (fun i nd hi h => HSM2.out i nd (by omega) h) hx)).mono ?_
          rintro e y4 ⟨⟨x2, er2, ax2, cx2, rfl, hwu2, hzx2, hxl2⟩, hb⟩
          rw [HV2.out] at hwu2
          have HWU2 := Lib.hid hwu2
          have HZ2 := Lib.hid hzx2
          have HXL2 := Lib.hid hxl2
          refine hK.out _ _ ⟨hHeld.1.trans ((hb).mono hHeld.1.size), keepb hb hHeld.2.1, keepb hb hHeld.2.2.1, keepb hb hHeld.2.2.2.1, keepb hb hHeld.2.2.2.2.1, keepb hb hHeld.2.2.2.2.2⟩ (fun hHeld => ?_)
          clear hK K HE2
          (try simp only [Act.put, List.setIfInBounds_toArray, List.set_cons_zero, List.set_cons_succ, List.getElem_toArray, List.getElem_cons_succ, List.getElem_cons_zero])
          clear hb hwu2 hzx2 hxl2
          refine wpAnyH_take (i := 20) (oi := _) (v := ?_) rfl (by kernel_rfl) (by kernel_rfl) (by kernel_rfl) (fun _ _ _ h => h) (Or.inl ⟨by rfl, ?_⟩) (by assumption) ?_
          rotate_left
          · intro w hSw
            (try dsimp only at hSw)
            go_simp
            all_goals (first | done | with_reducible rfl)
          (try simp only [Act.put, List.setIfInBounds_toArray, List.set_cons_zero, List.set_cons_succ, List.getElem_toArray, List.getElem_cons_succ, List.getElem_cons_zero])
          refine wpAnyH_take (i := 21) (oi := _) (v := ?_) rfl (by kernel_rfl) (by kernel_rfl) (by kernel_rfl) (fun _ _ _ h => h) (Or.inl ⟨by rfl, ?_⟩) (by assumption) ?_
          rotate_left
          · intro w hSw
            (try dsimp only at hSw)
            go_simp
            all_goals (first | done | with_reducible rfl)
          (try simp only [Act.put, List.setIfInBounds_toArray, List.set_cons_zero, List.set_cons_succ, List.getElem_toArray, List.getElem_cons_succ, List.getElem_cons_zero])
          refine wpAnyH_take (i := 22) (oi := _) (v := ?_) rfl (by kernel_rfl) (by kernel_rfl) (by kernel_rfl) (fun _ _ _ h => h) (Or.inl ⟨by rfl, ?_⟩) (by assumption) ?_
          rotate_left
          · intro w hSw
            (try dsimp only at hSw)
            go_simp
            all_goals (first | done | with_reducible rfl)
          (try simp only [Act.put, List.setIfInBounds_toArray, List.set_cons_zero, List.set_cons_succ, List.getElem_toArray, List.getElem_cons_succ, List.getElem_cons_zero])
          refine wpAnyH_ready (rs := [23]) (by kernel_rfl) (by simp) ?_
          refine AllReadyH.cons (o := _) rfl (fun K hK => ?_) AllReadyH.nil
          go_simp
          have hbz : Below y4.heap.size y4 (y4.alloc boxZ) := bel1 _ _
          have hal : w8.heap.size ≤ y4.heap.size := hHeld.1.size
          have gz := heap_alloc_new y4 (.cells #[.int .i64 0, .int .i64 0, .string ByteArray.empty, .slice none 0 0] 25)
          refine hK.out _ _ ⟨hHeld.1.trans ((hbz).mono hHeld.1.size), keepb hbz hHeld.2.1, keepb hbz hHeld.2.2.1, keepb hbz hHeld.2.2.2.1, keepb hbz hHeld.2.2.2.2.1, keepb hbz hHeld.2.2.2.2.2⟩ (fun hHeld => ?_)
          clear hK K
          (try simp only [Act.put, List.setIfInBounds_toArray, List.set_cons_zero, List.set_cons_succ, List.getElem_toArray, List.getElem_cons_succ, List.getElem_cons_zero])
          obtain ⟨y5, hy5⟩ : ∃ y5, y5 = y4.alloc boxZ := ⟨_, rfl⟩
          rw [← hy5] at hHeld hbz
          rw [show y4.alloc (.cells #[.int .i64 0, .int .i64 0, .string ByteArray.empty, .slice none 0 0] 25) = y5 from hy5.symm] at gz
          rw [← hy5]
          have GZ := Lib.hid gz
          have HZ2' := Lib.hid (HZ2.out.below hbz)
          clear HZ2
          have HZ2 := Lib.hid HZ2'.out
          clear HZ2'
          clear hbz gz hy5
          obtain ⟨c0, c1, c2, c3, f0, f1, f2, f3⟩ := box4 GZ.out
          have hne : w7.heap.size ≠ y4.heap.size := by omega
          refine wpAnyH_ready (rs := [24]) (by kernel_rfl) (by simp) ?_
          refine AllReadyH.cons (o := _) rfl (fun K hK => ?_) AllReadyH.nil
          go_simp
          refine hK.out _ _ ⟨below_box hal hHeld.1 _ _ _ _, keepo hHeld.2.1 hne, keepo hHeld.2.2.1 hne, keepo hHeld.2.2.2.1 hne, keepo hHeld.2.2.2.2.1 hne, keepo hHeld.2.2.2.2.2 hne⟩ (fun hHeld => ?_)
          clear hK K c0 c1 c2 c3 f0 f1 f2 f3
          (try simp only [Act.put, List.setIfInBounds_toArray, List.set_cons_zero, List.set_cons_succ, List.getElem_toArray, List.getElem_cons_succ, List.getElem_cons_zero])
          refine wpAnyH_take (i := 25) (oi := _) (v := ?_) rfl (by kernel_rfl) (by kernel_rfl) (by kernel_rfl) (fun _ _ _ h => h) (Or.inl ⟨by rfl, ?_⟩) (by assumption) ?_
          rotate_left
          · intro w hSw
            (try dsimp only at hSw)
            go_simp
            all_goals (first | done | with_reducible rfl)
          (try simp only [Act.put, List.setIfInBounds_toArray, List.set_cons_zero, List.set_cons_succ, List.getElem_toArray, List.getElem_cons_succ, List.getElem_cons_zero])
          refine wpAnyH_done (by kernel_rfl) ?_ _
          go_upto_region 11 with (fail)
          have xf := heap_box GZ.out (.int .i64 x2.k) (.int .i64 x2.n) (.string x2.t) (.slice ax2 x2.ss.length cx2)
          have rzf := SV.setbox (HZ2.out) GZ.out (by decide) (.int .i64 x2.k) (.int .i64 x2.n) (.string x2.t) (.slice ax2 x2.ss.length cx2)
          have hbf : Below w8.heap.size w8 (((((y5.setCell ⟨y4.heap.size, 0, none⟩ (.int .i64 x2.k)).setCell ⟨y4.heap.size, 1, none⟩ (.int .i64 x2.n)).setCell ⟨y4.heap.size, 2, none⟩ (.string x2.t)).setCell ⟨y4.heap.size, 3, none⟩ (.slice ax2 x2.ss.length cx2))) := hHeld.1
          have rzg : RS 1 Sv (((((y5.setCell ⟨y4.heap.size, 0, none⟩ (.int .i64 x2.k)).setCell ⟨y4.heap.size, 1, none⟩ (.int .i64 x2.n)).setCell ⟨y4.heap.size, 2, none⟩ (.string x2.t)).setCell ⟨y4.heap.size, 3, none⟩ (.slice ax2 x2.ss.length cx2))) ax2 x2.ss.length cx2 x2.ss := (rzf.rz (by have := HXL2.out; omega)).rs
          obtain ⟨wf, hwf⟩ : ∃ wf, wf = (((((y5.setCell ⟨y4.heap.size, 0, none⟩ (.int .i64 x2.k)).setCell ⟨y4.heap.size, 1, none⟩ (.int .i64 x2.n)).setCell ⟨y4.heap.size, 2, none⟩ (.string x2.t)).setCell ⟨y4.heap.size, 3, none⟩ (.slice ax2 x2.ss.length cx2))) := ⟨_, rfl⟩
          rw [← hwf] at xf hbf rzg
          rw [← hwf]
          clear hwf hHeld
          have HBF := Lib.hid (HB8.out.trans (hbf.mono (by have := HB8.out.size; omega)))
          have RZG := Lib.hid rzg
          have RZX := Lib.hid ((HZX8.out).rs.below hbf)
          obtain ⟨c0, c1, c2, c3, -⟩ := box4 ((hbf.block w4.heap.size (by omega)).trans X8.out)
          obtain ⟨d0, d1, d2, d3, -⟩ := box4 xf
          clear hbf xf rzf rzg
          have huq := WU.uniq (HEQ.out ▸ HWU2.out) HWU.out
          obtain ⟨hx, he⟩ := huq
          subst hx he
          have hee : (er2 == er2) = true := by simp
          go_wp2_with fail
          with_reducible refine (sameV_any wf x2 ax x2.ss.length cx RZX.out ax2 cx2 RZG.out).mono ?_
          rintro e wg ⟨rfl, hbg⟩
          have HBG := Lib.hid (HBF.out.trans (hbg.mono HBF.out.size))
          clear hbg
          go_wp2_with fail
          with_reducible refine (HKN.out wg HBG.out).mono ?_
          rintro e wh ⟨rfl, hbh⟩
          go_wp2_with fail
          go_ret
          exact ⟨rfl, HBG.out.trans (hbh.mono HBG.out.size)⟩
        · go_simp
          have hbz : Below y3.heap.size y3 (y3.alloc boxZ) := bel1 _ _
          have hal : w8.heap.size ≤ y3.heap.size := hHeld.1.size
          have gz := heap_alloc_new y3 (.cells #[.int .i64 0, .int .i64 0, .string ByteArray.empty, .slice none 0 0] 25)
          refine hK.out _ _ ⟨hHeld.1.trans ((hbz).mono hHeld.1.size), keepb hbz hHeld.2.1, keepb hbz hHeld.2.2.1, keepb hbz hHeld.2.2.2.1, keepb hbz hHeld.2.2.2.2.1, keepb hbz hHeld.2.2.2.2.2⟩ (fun hHeld => ?_)
          clear hK K
          (try simp only [Act.put, List.setIfInBounds_toArray, List.set_cons_zero, List.set_cons_succ, List.getElem_toArray, List.getElem_cons_succ, List.getElem_cons_zero])
          obtain ⟨y6, hy6⟩ : ∃ y6, y6 = y3.alloc boxZ := ⟨_, rfl⟩
          rw [← hy6] at hHeld hbz
          rw [show y3.alloc (.cells #[.int .i64 0, .int .i64 0, .string ByteArray.empty, .slice none 0 0] 25) = y6 from hy6.symm] at gz
          rw [← hy6]
          have GZ := Lib.hid gz
          have HE2' := Lib.hid (HE2.out.below hbz)
          clear HE2
          have HE2 := Lib.hid HE2'.out
          clear HE2'
          clear hbz gz hy6
          refine wpAnyH_ready (rs := [19]) (by kernel_rfl) (by simp) ?_
          refine AllReadyH.cons (o := _) rfl (fun K hK => ?_) AllReadyH.nil
          go_simp
          have hzl : y3.heap.size < y6.heap.size := (Array.getElem?_eq_some_iff.1 GZ.out).1
          refine (worthV_any y6 a6 (q + 1 + ml) c6 (ns.take (q + 1) ++ ms) p2 HE2.out (by rw [HV2.out]; exact HVO2.out) HKI2.out (HT.out.below (HB8.out.trans (hHeld.1.mono (by have := HB8.out.size; omega))) H1.out H1.out) (by have := H1.out; have := (HB8.out.trans (hHeld.1.mono (by have := HB8.out.size; omega))).size; omega) (q : Int) ⟨by omega, by omega⟩ HSM2.out (fun x hx => by rw [HV2.out] at hx; exact worth_size HVO2.out HKI2.out (fun i nd hi h => HSM2.out i nd (by omega) h) hx)).mono ?_
          rintro e y7 ⟨⟨x2, er2, ax2, cx2, rfl, hwu2, hzx2, hxl2⟩, hb⟩
          rw [HV2.out] at hwu2
          have HWU2 := Lib.hid hwu2
          have HZ2 := Lib.hid hzx2
          have HXL2 := Lib.hid hxl2
          have GZ' := Lib.hid ((hb.block _ hzl).trans GZ.out)
          clear GZ
          have GZ := Lib.hid GZ'.out
          clear GZ'
          refine hK.out _ _ ⟨hHeld.1.trans ((hb).mono hHeld.1.size), keepb hb hHeld.2.1, keepb hb hHeld.2.2.1, keepb hb hHeld.2.2.2.1, keepb hb hHeld.2.2.2.2.1, keepb hb hHeld.2.2.2.2.2⟩ (fun hHeld => ?_)
          clear hK K HE2
          (try simp only [Act.put, List.setIfInBounds_toArray, List.set_cons_zero, List.set_cons_succ, List.getElem_toArray, List.getElem_cons_succ, List.getElem_cons_zero])
          clear hb hwu2 hzx2 hxl2
          refine wpAnyH_take (i := 20) (oi := _) (v := ?_) rfl (by kernel_rfl) (by kernel_rfl) (by kernel_rfl) (fun _ _ _ h => h) (Or.inl ⟨by rfl, ?_⟩) (by assumption) ?_
          rotate_left
          · intro w hSw
            (try dsimp only at hSw)
            go_simp
            all_goals (first | done | with_reducible rfl)
          (try simp only [Act.put, List.setIfInBounds_toArray, List.set_cons_zero, List.set_cons_succ, List.getElem_toArray, List.getElem_cons_succ, List.getElem_cons_zero])
          refine wpAnyH_take (i := 21) (oi := _) (v := ?_) rfl (by kernel_rfl) (by kernel_rfl) (by kernel_rfl) (fun _ _ _ h => h) (Or.inl ⟨by rfl, ?_⟩) (by assumption) ?_
          rotate_left
          · intro w hSw
            (try dsimp only at hSw)
            go_simp
            all_goals (first | done | with_reducible rfl)
          (try simp only [Act.put, List.setIfInBounds_toArray, List.set_cons_zero, List.set_cons_succ, List.getElem_toArray, List.getElem_cons_succ, List.getElem_cons_zero])
          refine wpAnyH_take (i := 22) (oi := _) (v := ?_) rfl (by kernel_rfl) (by kernel_rfl) (by kernel_rfl) (fun _ _ _ h => h) (Or.inl ⟨by rfl, ?_⟩) (by assumption) ?_
          rotate_left
          · intro w hSw
            (try dsimp only at hSw)
            go_simp
            all_goals (first | done | with_reducible rfl)
          (try simp only [Act.put, List.setIfInBounds_toArray, List.set_cons_zero, List.set_cons_succ, List.getElem_toArray, List.getElem_cons_succ, List.getElem_cons_zero])
          obtain ⟨c0, c1, c2, c3, f0, f1, f2, f3⟩ := box4 GZ.out
          have hne : w7.heap.size ≠ y3.heap.size := by omega
          refine wpAnyH_ready (rs := [24]) (by kernel_rfl) (by simp) ?_
          refine AllReadyH.cons (o := _) rfl (fun K hK => ?_) AllReadyH.nil
          go_simp
          refine hK.out _ _ ⟨below_box hal hHeld.1 _ _ _ _, keepo hHeld.2.1 hne, keepo hHeld.2.2.1 hne, keepo hHeld.2.2.2.1 hne, keepo hHeld.2.2.2.2.1 hne, keepo hHeld.2.2.2.2.2 hne⟩ (fun hHeld => ?_)
          clear hK K c0 c1 c2 c3 f0 f1 f2 f3
          (try simp only [Act.put, List.setIfInBounds_toArray, List.set_cons_zero, List.set_cons_succ, List.getElem_toArray, List.getElem_cons_succ, List.getElem_cons_zero])
          refine wpAnyH_take (i := 25) (oi := _) (v := ?_) rfl (by kernel_rfl) (by kernel_rfl) (by kernel_rfl) (fun _ _ _ h => h) (Or.inl ⟨by rfl, ?_⟩) (by assumption) ?_
          rotate_left
          · intro w hSw
            (try dsimp only at hSw)
            go_simp
            all_goals (first | done | with_reducible rfl)
          (try simp only [Act.put, List.setIfInBounds_toArray, List.set_cons_zero, List.set_cons_succ, List.getElem_toArray, List.getElem_cons_succ, List.getElem_cons_zero])
          refine wpAnyH_done (by kernel_rfl) ?_ _
          go_upto_region 11 with (fail)
          have xf := heap_box GZ.out (.int .i64 x2.k) (.int .i64 x2.n) (.string x2.t) (.slice ax2 x2.ss.length cx2)
          have rzf := SV.setbox (HZ2.out) GZ.out (by decide) (.int .i64 x2.k) (.int .i64 x2.n) (.string x2.t) (.slice ax2 x2.ss.length cx2)
          have hbf : Below w8.heap.size w8 (((((y7.setCell ⟨y3.heap.size, 0, none⟩ (.int .i64 x2.k)).setCell ⟨y3.heap.size, 1, none⟩ (.int .i64 x2.n)).setCell ⟨y3.heap.size, 2, none⟩ (.string x2.t)).setCell ⟨y3.heap.size, 3, none⟩ (.slice ax2 x2.ss.length cx2))) := hHeld.1
          have rzg : RS 1 Sv (((((y7.setCell ⟨y3.heap.size, 0, none⟩ (.int .i64 x2.k)).setCell ⟨y3.heap.size, 1, none⟩ (.int .i64 x2.n)).setCell ⟨y3.heap.size, 2, none⟩ (.string x2.t)).setCell ⟨y3.heap.size, 3, none⟩ (.slice ax2 x2.ss.length cx2))) ax2 x2.ss.length cx2 x2.ss := (rzf.rz (by have := HXL2.out; omega)).rs
          obtain ⟨wf, hwf⟩ : ∃ wf, wf = (((((y7.setCell ⟨y3.heap.size, 0, none⟩ (.int .i64 x2.k)).setCell ⟨y3.heap.size, 1, none⟩ (.int .i64 x2.n)).setCell ⟨y3.heap.size, 2, none⟩ (.string x2.t)).setCell ⟨y3.heap.size, 3, none⟩ (.slice ax2 x2.ss.length cx2))) := ⟨_, rfl⟩
          rw [← hwf] at xf hbf rzg
          rw [← hwf]
          clear hwf hHeld
          have HBF := Lib.hid (HB8.out.trans (hbf.mono (by have := HB8.out.size; omega)))
          have RZG := Lib.hid rzg
          have RZX := Lib.hid ((HZX8.out).rs.below hbf)
          obtain ⟨c0, c1, c2, c3, -⟩ := box4 ((hbf.block w4.heap.size (by omega)).trans X8.out)
          obtain ⟨d0, d1, d2, d3, -⟩ := box4 xf
          clear hbf xf rzf rzg
          have huq := WU.uniq (HEQ.out ▸ HWU2.out) HWU.out
          obtain ⟨hx, he⟩ := huq
          subst hx he
          have hee : (er2 == er2) = true := by simp
          go_wp2_with fail
          with_reducible refine (sameV_any wf x2 ax x2.ss.length cx RZX.out ax2 cx2 RZG.out).mono ?_
          rintro e wg ⟨rfl, hbg⟩
          have HBG := Lib.hid (HBF.out.trans (hbg.mono HBF.out.size))
          clear hbg
          go_wp2_with fail
          with_reducible refine (HKN.out wg HBG.out).mono ?_
          rintro e wh ⟨rfl, hbh⟩
          go_wp2_with fail
          go_ret
          exact ⟨rfl, HBG.out.trans (hbh.mono HBG.out.size)⟩
      · go_simp
        have hbz : Below y2.heap.size y2 (y2.alloc boxZ) := bel1 _ _
        have hal : w8.heap.size ≤ y2.heap.size := hHeld.1.size
        have gz := heap_alloc_new y2 (.cells #[.int .i64 0, .int .i64 0, .string ByteArray.empty, .slice none 0 0] 25)
        refine hK.out _ _ ⟨hHeld.1.trans ((hbz).mono hHeld.1.size), keepb hbz hHeld.2.1, keepb hbz hHeld.2.2.1, keepb hbz hHeld.2.2.2.1, keepb hbz hHeld.2.2.2.2.1, keepb hbz hHeld.2.2.2.2.2⟩ (fun hHeld => ?_)
        clear hK K
        (try simp only [Act.put, List.setIfInBounds_toArray, List.set_cons_zero, List.set_cons_succ, List.getElem_toArray, List.getElem_cons_succ, List.getElem_cons_zero])
        obtain ⟨y8, hy8⟩ : ∃ y8, y8 = y2.alloc boxZ := ⟨_, rfl⟩
        rw [← hy8] at hHeld hbz
        rw [show y2.alloc (.cells #[.int .i64 0, .int .i64 0, .string ByteArray.empty, .slice none 0 0] 25) = y8 from hy8.symm] at gz
        rw [← hy8]
        have GZ := Lib.hid gz
        have HA' := Lib.hid (own_below HA.out hbz)
        clear HA
        have HA := Lib.hid HA'.out
        clear HA'
        clear hbz gz hy8
        refine wpAnyH_ready (rs := [18]) (by kernel_rfl) (by simp) ?_
        refine AllReadyH.cons (o := _) rfl (fun K hK => ?_) AllReadyH.nil
        go_simp
        have hzl : y2.heap.size < y8.heap.size := (Array.getElem?_eq_some_iff.1 GZ.out).1
        refine (plainA_any y8 po (HPO.out.below hHeld.1) (by have := HOO.out.n; omega) HOB.out).mono ?_
        rintro e y9 ⟨⟨p2, rfl, hp2, hv2⟩, hb⟩
        have HV2 := Lib.hid hv2
        have HE2 := Lib.hid (show EnvW y9 a6 (q + 1 + ml) c6 (ns.take (q + 1) ++ ms) p2 from ⟨(RS.of_owns HA.out (by decide) Nd_len2 (by omega)).below hb, fun nd hm => (HNM.out nd hm).below ((HB8.out.trans (hHeld.1.mono (by have := HB8.out.size; omega))).trans (hb.mono (by have := (HB8.out.trans (hHeld.1.mono (by have := HB8.out.size; omega))).size; omega))), hp2.ok⟩)
        have hbk := hb
        have GZ' := Lib.hid ((hb.block _ hzl).trans GZ.out)
        clear GZ
        have GZ := Lib.hid GZ'.out
        clear GZ'
        refine hK.out _ _ ⟨hHeld.1.trans ((hb).mono hHeld.1.size), keepb hb hHeld.2.1, keepb hb hHeld.2.2.1, keepb hb hHeld.2.2.2.1, keepb hb hHeld.2.2.2.2.1, keepb hb hHeld.2.2.2.2.2⟩ (fun hHeld => ?_)
        clear hK K HA
        (try simp only [Act.put, List.setIfInBounds_toArray, List.set_cons_zero, List.set_cons_succ, List.getElem_toArray, List.getElem_cons_succ, List.getElem_cons_zero])
        clear hb hbk hp2 hv2
        refine wpAnyH_ready (rs := [19]) (by kernel_rfl) (by simp) ?_
        refine AllReadyH.cons (o := _) rfl (fun K hK => ?_) AllReadyH.nil
        go_simp
        have hzl : y2.heap.size < y9.heap.size := (Array.getElem?_eq_some_iff.1 GZ.out).1
        refine (worthV_any y9 a6 (q + 1 + ml) c6 (ns.take (q + 1) ++ ms) p2 HE2.out (by rw [HV2.out]; exact HVO2.out) HKI2.out (HT.out.below (HB8.out.trans (hHeld.1.mono (by have := HB8.out.size; omega))) H1.out H1.out) (by have := H1.out; have := (HB8.out.trans (hHeld.1.mono (by have := HB8.out.size; omega))).size; omega) (q : Int) ⟨by omega, by omega⟩ HSM2.out (fun x hx => by rw [HV2.out] at hx; exact worth_size HVO2.out HKI2.out (fun i nd hi h => HSM2.out i nd (by omega) h) hx)).mono ?_
        rintro e y10 ⟨⟨x2, er2, ax2, cx2, rfl, hwu2, hzx2, hxl2⟩, hb⟩
        rw [HV2.out] at hwu2
        have HWU2 := Lib.hid hwu2
        have HZ2 := Lib.hid hzx2
        have HXL2 := Lib.hid hxl2
        have GZ' := Lib.hid ((hb.block _ hzl).trans GZ.out)
        clear GZ
        have GZ := Lib.hid GZ'.out
        clear GZ'
        refine hK.out _ _ ⟨hHeld.1.trans ((hb).mono hHeld.1.size), keepb hb hHeld.2.1, keepb hb hHeld.2.2.1, keepb hb hHeld.2.2.2.1, keepb hb hHeld.2.2.2.2.1, keepb hb hHeld.2.2.2.2.2⟩ (fun hHeld => ?_)
        clear hK K HE2
        (try simp only [Act.put, List.setIfInBounds_toArray, List.set_cons_zero, List.set_cons_succ, List.getElem_toArray, List.getElem_cons_succ, List.getElem_cons_zero])
        clear hb hwu2 hzx2 hxl2
        refine wpAnyH_take (i := 20) (oi := _) (v := ?_) rfl (by kernel_rfl) (by kernel_rfl) (by kernel_rfl) (fun _ _ _ h => h) (Or.inl ⟨by rfl, ?_⟩) (by assumption) ?_
        rotate_left
        · intro w hSw
          (try dsimp only at hSw)
          go_simp
          all_goals (first | done | with_reducible rfl)
        (try simp only [Act.put, List.setIfInBounds_toArray, List.set_cons_zero, List.set_cons_succ, List.getElem_toArray, List.getElem_cons_succ, List.getElem_cons_zero])
        refine wpAnyH_take (i := 21) (oi := _) (v := ?_) rfl (by kernel_rfl) (by kernel_rfl) (by kernel_rfl) (fun _ _ _ h => h) (Or.inl ⟨by rfl, ?_⟩) (by assumption) ?_
        rotate_left
        · intro w hSw
          (try dsimp only at hSw)
          go_simp
          all_goals (first | done | with_reducible rfl)
        (try simp only [Act.put, List.setIfInBounds_toArray, List.set_cons_zero, List.set_cons_succ, List.getElem_toArray, List.getElem_cons_succ, List.getElem_cons_zero])
        refine wpAnyH_take (i := 22) (oi := _) (v := ?_) rfl (by kernel_rfl) (by kernel_rfl) (by kernel_rfl) (fun _ _ _ h => h) (Or.inl ⟨by rfl, ?_⟩) (by assumption) ?_
        rotate_left
        · intro w hSw
          (try dsimp only at hSw)
          go_simp
          all_goals (first | done | with_reducible rfl)
        (try simp only [Act.put, List.setIfInBounds_toArray, List.set_cons_zero, List.set_cons_succ, List.getElem_toArray, List.getElem_cons_succ, List.getElem_cons_zero])
        obtain ⟨c0, c1, c2, c3, f0, f1, f2, f3⟩ := box4 GZ.out
        have hne : w7.heap.size ≠ y2.heap.size := by omega
        refine wpAnyH_ready (rs := [24]) (by kernel_rfl) (by simp) ?_
        refine AllReadyH.cons (o := _) rfl (fun K hK => ?_) AllReadyH.nil
        go_simp
        refine hK.out _ _ ⟨below_box hal hHeld.1 _ _ _ _, keepo hHeld.2.1 hne, keepo hHeld.2.2.1 hne, keepo hHeld.2.2.2.1 hne, keepo hHeld.2.2.2.2.1 hne, keepo hHeld.2.2.2.2.2 hne⟩ (fun hHeld => ?_)
        clear hK K c0 c1 c2 c3 f0 f1 f2 f3
        (try simp only [Act.put, List.setIfInBounds_toArray, List.set_cons_zero, List.set_cons_succ, List.getElem_toArray, List.getElem_cons_succ, List.getElem_cons_zero])
        refine wpAnyH_take (i := 25) (oi := _) (v := ?_) rfl (by kernel_rfl) (by kernel_rfl) (by kernel_rfl) (fun _ _ _ h => h) (Or.inl ⟨by rfl, ?_⟩) (by assumption) ?_
        rotate_left
        · intro w hSw
          (try dsimp only at hSw)
          go_simp
          all_goals (first | done | with_reducible rfl)
        (try simp only [Act.put, List.setIfInBounds_toArray, List.set_cons_zero, List.set_cons_succ, List.getElem_toArray, List.getElem_cons_succ, List.getElem_cons_zero])
        refine wpAnyH_done (by kernel_rfl) ?_ _
        go_upto_region 11 with (fail)
        have xf := heap_box GZ.out (.int .i64 x2.k) (.int .i64 x2.n) (.string x2.t) (.slice ax2 x2.ss.length cx2)
        have rzf := SV.setbox (HZ2.out) GZ.out (by decide) (.int .i64 x2.k) (.int .i64 x2.n) (.string x2.t) (.slice ax2 x2.ss.length cx2)
        have hbf : Below w8.heap.size w8 (((((y10.setCell ⟨y2.heap.size, 0, none⟩ (.int .i64 x2.k)).setCell ⟨y2.heap.size, 1, none⟩ (.int .i64 x2.n)).setCell ⟨y2.heap.size, 2, none⟩ (.string x2.t)).setCell ⟨y2.heap.size, 3, none⟩ (.slice ax2 x2.ss.length cx2))) := hHeld.1
        have rzg : RS 1 Sv (((((y10.setCell ⟨y2.heap.size, 0, none⟩ (.int .i64 x2.k)).setCell ⟨y2.heap.size, 1, none⟩ (.int .i64 x2.n)).setCell ⟨y2.heap.size, 2, none⟩ (.string x2.t)).setCell ⟨y2.heap.size, 3, none⟩ (.slice ax2 x2.ss.length cx2))) ax2 x2.ss.length cx2 x2.ss := (rzf.rz (by have := HXL2.out; omega)).rs
        obtain ⟨wf, hwf⟩ : ∃ wf, wf = (((((y10.setCell ⟨y2.heap.size, 0, none⟩ (.int .i64 x2.k)).setCell ⟨y2.heap.size, 1, none⟩ (.int .i64 x2.n)).setCell ⟨y2.heap.size, 2, none⟩ (.string x2.t)).setCell ⟨y2.heap.size, 3, none⟩ (.slice ax2 x2.ss.length cx2))) := ⟨_, rfl⟩
        rw [← hwf] at xf hbf rzg
        rw [← hwf]
        clear hwf hHeld
        have HBF := Lib.hid (HB8.out.trans (hbf.mono (by have := HB8.out.size; omega)))
        have RZG := Lib.hid rzg
        have RZX := Lib.hid ((HZX8.out).rs.below hbf)
        obtain ⟨c0, c1, c2, c3, -⟩ := box4 ((hbf.block w4.heap.size (by omega)).trans X8.out)
        obtain ⟨d0, d1, d2, d3, -⟩ := box4 xf
        clear hbf xf rzf rzg
        have huq := WU.uniq (HEQ.out ▸ HWU2.out) HWU.out
        obtain ⟨hx, he⟩ := huq
        subst hx he
        have hee : (er2 == er2) = true := by simp
        go_wp2_with fail
        with_reducible refine (sameV_any wf x2 ax x2.ss.length cx RZX.out ax2 cx2 RZG.out).mono ?_
        rintro e wg ⟨rfl, hbg⟩
        have HBG := Lib.hid (HBF.out.trans (hbg.mono HBF.out.size))
        clear hbg
        go_wp2_with fail
        with_reducible refine (HKN.out wg HBG.out).mono ?_
        rintro e wh ⟨rfl, hbh⟩
        go_wp2_with fail
        go_ret
        exact ⟨rfl, HBG.out.trans (hbh.mono HBG.out.size)⟩
    · go_simp
      have hbz : Below y1.heap.size y1 (y1.alloc boxZ) := bel1 _ _
      have hal : w8.heap.size ≤ y1.heap.size := hHeld.1.size
      have gz := heap_alloc_new y1 (.cells #[.int .i64 0, .int .i64 0, .string ByteArray.empty, .slice none 0 0] 25)
      refine hK.out _ _ ⟨hHeld.1.trans ((hbz).mono hHeld.1.size), keepb hbz hHeld.2.1, keepb hbz hHeld.2.2.1, keepb hbz hHeld.2.2.2.1, keepb hbz hHeld.2.2.2.2.1, keepb hbz hHeld.2.2.2.2.2⟩ (fun hHeld => ?_)
      clear hK K
      (try simp only [Act.put, List.setIfInBounds_toArray, List.set_cons_zero, List.set_cons_succ, List.getElem_toArray, List.getElem_cons_succ, List.getElem_cons_zero])
      obtain ⟨y11, hy11⟩ : ∃ y11, y11 = y1.alloc boxZ := ⟨_, rfl⟩
      rw [← hy11] at hHeld hbz
      rw [show y1.alloc (.cells #[.int .i64 0, .int .i64 0, .string ByteArray.empty, .slice none 0 0] 25) = y11 from hy11.symm] at gz
      rw [← hy11]
      have GZ := Lib.hid gz
      have HA' := Lib.hid (own_below HA.out hbz)
      clear HA
      have HA := Lib.hid HA'.out
      clear HA'
      clear hbz gz hy11
      refine wpAnyH_ready (rs := [6]) (by kernel_rfl) (by simp) ?_
      refine AllReadyH.cons (o := _) rfl (fun K hK => ?_) AllReadyH.nil
      have hzl : y1.heap.size < y11.heap.size := (Array.getElem?_eq_some_iff.1 GZ.out).1
      refine W_appendE _ _ 48 (by rfl) sl48' w8.heap.size a4 (q + 1) c4 _ (by rfl) HA.out ma ml mc (ms.flatMap Nd.cs) (by rfl) (by
        rcases HSRC.out with h | ⟨ad, h, hc⟩
        · exact .inl h
        · exact .inr ⟨ad, h, fun j u hu => (hHeld.1.cell (block_lt_of_cell' (hc j u hu))).trans (hc j u hu)⟩) (by rw [flat_len Nd.cs 7 Nd_len2, hml.out]) one_nds (by omega) (by simp [maxLen]; omega) (by have := hHeld.1.size; omega) (fun a6 c6 y12 ho6 hg6 => ?_)
      have hb0 : Below w8.heap.size y11 y12 := (Below.refl _ _).grown hg6 (hHeld.1.size) (fun k hk => (HA.out.lt k hk).1)
      have HA6 := Lib.hid (show y12.ownsRow w8.heap.size 61 7 (.slice a6 (q + 1 + ml) c6) (q + 1 + ml) ((ns.take (q + 1) ++ ms).flatMap Nd.cs) by rw [List.flatMap_append]; exact ho6)
      have GZ' := Lib.hid ((hg6.block _ hzl (own_ne HA.out GZ.out (by decide)).symm).trans GZ.out)
      clear GZ
      have GZ := Lib.hid GZ'.out
      clear GZ'
      refine hK.out _ _ ⟨hHeld.1.trans hb0, (hb0.cell (p := ⟨w7.heap.size, 0, none⟩) z8).trans hHeld.2.1, (hb0.cell (p := ⟨w7.heap.size, 1, none⟩) z8).trans hHeld.2.2.1, (hb0.cell (p := ⟨w7.heap.size, 2, none⟩) z8).trans hHeld.2.2.2.1, (hb0.cell (p := ⟨w7.heap.size, 3, none⟩) z8).trans hHeld.2.2.2.2.1, (hb0.cell (p := ⟨w7.heap.size, 4, none⟩) z8).trans hHeld.2.2.2.2.2⟩ (fun hHeld => ?_)
      clear hK K
      (try simp only [Act.put, List.setIfInBounds_toArray, List.set_cons_zero, List.set_cons_succ, List.getElem_toArray, List.getElem_cons_succ, List.getElem_cons_zero])
      clear HA
      have HA := Lib.hid HA6.out
      clear HA6 hb0 ho6 hg6
      refine wpAnyH_ready (rs := [18]) (by kernel_rfl) (by simp) ?_
      refine AllReadyH.cons (o := _) rfl (fun K hK => ?_) AllReadyH.nil
      go_simp
      have hzl : y1.heap.size < y12.heap.size := (Array.getElem?_eq_some_iff.1 GZ.out).1
      refine (plainA_any y12 po (HPO.out.below hHeld.1) (by have := HOO.out.n; omega) HOB.out).mono ?_
      rintro e y13 ⟨⟨p2, rfl, hp2, hv2⟩, hb⟩
      have HV2 := Lib.hid hv2
      have HE2 := Lib.hid (show EnvW y13 a6 (q + 1 + ml) c6 (ns.take (q + 1) ++ ms) p2 from ⟨(RS.of_owns HA.out (by decide) Nd_len2 (by omega)).below hb, fun nd hm => (HNM.out nd hm).below ((HB8.out.trans (hHeld.1.mono (by have := HB8.out.size; omega))).trans (hb.mono (by have := (HB8.out.trans (hHeld.1.mono (by have := HB8.out.size; omega))).size; omega))), hp2.ok⟩)
      have hbk := hb
      have GZ' := Lib.hid ((hb.block _ hzl).trans GZ.out)
      clear GZ
      have GZ := Lib.hid GZ'.out
      clear GZ'
      refine hK.out _ _ ⟨hHeld.1.trans ((hb).mono hHeld.1.size), keepb hb hHeld.2.1, keepb hb hHeld.2.2.1, keepb hb hHeld.2.2.2.1, keepb hb hHeld.2.2.2.2.1, keepb hb hHeld.2.2.2.2.2⟩ (fun hHeld => ?_)
      clear hK K HA
      (try simp only [Act.put, List.setIfInBounds_toArray, List.set_cons_zero, List.set_cons_succ, List.getElem_toArray, List.getElem_cons_succ, List.getElem_cons_zero])
      clear hb hbk hp2 hv2
      refine wpAnyH_ready (rs := [19]) (by kernel_rfl) (by simp) ?_
      refine AllReadyH.cons (o := _) rfl (fun K hK => ?_) AllReadyH.nil
      go_simp
      have hzl : y1.heap.size < y13.heap.size := (Array.getElem?_eq_some_iff.1 GZ.out).1
      refine (worthV_any y13 a6 (q + 1 + ml) c6 (ns.take (q + 1) ++ ms) p2 HE2.out (by rw [HV2.out]; exact HVO2.out) HKI2.out (HT.out.below (HB8.out.trans (hHeld.1.mono (by have := HB8.out.size; omega))) H1.out H1.out) (by have := H1.out; have := (HB8.out.trans (hHeld.1.mono (by have := HB8.out.size; omega))).size; omega) (q : Int) ⟨by omega, by omega⟩ HSM2.out (fun x hx => by rw [HV2.out] at hx; exact worth_size HVO2.out HKI2.out (fun i nd hi h => HSM2.out i nd (by omega) h) hx)).mono ?_
      rintro e y14 ⟨⟨x2, er2, ax2, cx2, rfl, hwu2, hzx2, hxl2⟩, hb⟩
      rw [HV2.out] at hwu2
      have HWU2 := Lib.hid hwu2
      have HZ2 := Lib.hid hzx2
      have HXL2 := Lib.hid hxl2
      have GZ' := Lib.hid ((hb.block _ hzl).trans GZ.out)
      clear GZ
      have GZ := Lib.hid GZ'.out
      clear GZ'
      refine hK.out _ _ ⟨hHeld.1.trans ((hb).mono hHeld.1.size), keepb hb hHeld.2.1, keepb hb hHeld.2.2.1, keepb hb hHeld.2.2.2.1, keepb hb hHeld.2.2.2.2.1, keepb hb hHeld.2.2.2.2.2⟩ (fun hHeld => ?_)
      clear hK K HE2
      (try simp only [Act.put, List.setIfInBounds_toArray, List.set_cons_zero, List.set_cons_succ, List.getElem_toArray, List.getElem_cons_succ, List.getElem_cons_zero])
      clear hb hwu2 hzx2 hxl2
      refine wpAnyH_take (i := 20) (oi := _) (v := ?_) rfl (by kernel_rfl) (by kernel_rfl) (by kernel_rfl) (fun _ _ _ h => h) (Or.inl ⟨by rfl, ?_⟩) (by assumption) ?_
      rotate_left
      · intro w hSw
        (try dsimp only at hSw)
        go_simp
        all_goals (first | done | with_reducible rfl)
      (try simp only [Act.put, List.setIfInBounds_toArray, List.set_cons_zero, List.set_cons_succ, List.getElem_toArray, List.getElem_cons_succ, List.getElem_cons_zero])
      refine wpAnyH_take (i := 21) (oi := _) (v := ?_) rfl (by kernel_rfl) (by kernel_rfl) (by kernel_rfl) (fun _ _ _ h => h) (Or.inl ⟨by rfl, ?_⟩) (by assumption) ?_
      rotate_left
      · intro w hSw
        (try dsimp only at hSw)
        go_simp
        all_goals (first | done | with_reducible rfl)
      (try simp only [Act.put, List.setIfInBounds_toArray, List.set_cons_zero, List.set_cons_succ, List.getElem_toArray, List.getElem_cons_succ, List.getElem_cons_zero])
      refine wpAnyH_take (i := 22) (oi := _) (v := ?_) rfl (by kernel_rfl) (by kernel_rfl) (by kernel_rfl) (fun _ _ _ h => h) (Or.inl ⟨by rfl, ?_⟩) (by assumption) ?_
      rotate_left
      · intro w hSw
        (try dsimp only at hSw)
        go_simp
        all_goals (first | done | with_reducible rfl)
      (try simp only [Act.put, List.setIfInBounds_toArray, List.set_cons_zero, List.set_cons_succ, List.getElem_toArray, List.getElem_cons_succ, List.getElem_cons_zero])
      obtain ⟨c0, c1, c2, c3, f0, f1, f2, f3⟩ := box4 GZ.out
      have hne : w7.heap.size ≠ y1.heap.size := by omega
      refine wpAnyH_ready (rs := [24]) (by kernel_rfl) (by simp) ?_
      refine AllReadyH.cons (o := _) rfl (fun K hK => ?_) AllReadyH.nil
      go_simp
      refine hK.out _ _ ⟨below_box hal hHeld.1 _ _ _ _, keepo hHeld.2.1 hne, keepo hHeld.2.2.1 hne, keepo hHeld.2.2.2.1 hne, keepo hHeld.2.2.2.2.1 hne, keepo hHeld.2.2.2.2.2 hne⟩ (fun hHeld => ?_)
      clear hK K c0 c1 c2 c3 f0 f1 f2 f3
      (try simp only [Act.put, List.setIfInBounds_toArray, List.set_cons_zero, List.set_cons_succ, List.getElem_toArray, List.getElem_cons_succ, List.getElem_cons_zero])
      refine wpAnyH_take (i := 25) (oi := _) (v := ?_) rfl (by kernel_rfl) (by kernel_rfl) (by kernel_rfl) (fun _ _ _ h => h) (Or.inl ⟨by rfl, ?_⟩) (by assumption) ?_
      rotate_left
      · intro w hSw
        (try dsimp only at hSw)
        go_simp
        all_goals (first | done | with_reducible rfl)
      (try simp only [Act.put, List.setIfInBounds_toArray, List.set_cons_zero, List.set_cons_succ, List.getElem_toArray, List.getElem_cons_succ, List.getElem_cons_zero])
      refine wpAnyH_done (by kernel_rfl) ?_ _
      go_upto_region 11 with (fail)
      have xf := heap_box GZ.out (.int .i64 x2.k) (.int .i64 x2.n) (.string x2.t) (.slice ax2 x2.ss.length cx2)
      have rzf := SV.setbox (HZ2.out) GZ.out (by decide) (.int .i64 x2.k) (.int .i64 x2.n) (.string x2.t) (.slice ax2 x2.ss.length cx2)
      have hbf : Below w8.heap.size w8 (((((y14.setCell ⟨y1.heap.size, 0, none⟩ (.int .i64 x2.k)).setCell ⟨y1.heap.size, 1, none⟩ (.int .i64 x2.n)).setCell ⟨y1.heap.size, 2, none⟩ (.string x2.t)).setCell ⟨y1.heap.size, 3, none⟩ (.slice ax2 x2.ss.length cx2))) := hHeld.1
      have rzg : RS 1 Sv (((((y14.setCell ⟨y1.heap.size, 0, none⟩ (.int .i64 x2.k)).setCell ⟨y1.heap.size, 1, none⟩ (.int .i64 x2.n)).setCell ⟨y1.heap.size, 2, none⟩ (.string x2.t)).setCell ⟨y1.heap.size, 3, none⟩ (.slice ax2 x2.ss.length cx2))) ax2 x2.ss.length cx2 x2.ss := (rzf.rz (by have := HXL2.out; omega)).rs
      obtain ⟨wf, hwf⟩ : ∃ wf, wf = (((((y14.setCell ⟨y1.heap.size, 0, none⟩ (.int .i64 x2.k)).setCell ⟨y1.heap.size, 1, none⟩ (.int .i64 x2.n)).setCell ⟨y1.heap.size, 2, none⟩ (.string x2.t)).setCell ⟨y1.heap.size, 3, none⟩ (.slice ax2 x2.ss.length cx2))) := ⟨_, rfl⟩
      rw [← hwf] at xf hbf rzg
      rw [← hwf]
      clear hwf hHeld
      have HBF := Lib.hid (HB8.out.trans (hbf.mono (by have := HB8.out.size; omega)))
      have RZG := Lib.hid rzg
      have RZX := Lib.hid ((HZX8.out).rs.below hbf)
      obtain ⟨c0, c1, c2, c3, -⟩ := box4 ((hbf.block w4.heap.size (by omega)).trans X8.out)
      obtain ⟨d0, d1, d2, d3, -⟩ := box4 xf
      clear hbf xf rzf rzg
      have huq := WU.uniq (HEQ.out ▸ HWU2.out) HWU.out
      obtain ⟨hx, he⟩ := huq
      subst hx he
      have hee : (er2 == er2) = true := by simp
      go_wp2_with fail
      with_reducible refine (sameV_any wf x2 ax x2.ss.length cx RZX.out ax2 cx2 RZG.out).mono ?_
      rintro e wg ⟨rfl, hbg⟩
      have HBG := Lib.hid (HBF.out.trans (hbg.mono HBF.out.size))
      clear hbg
      go_wp2_with fail
      with_reducible refine (HKN.out wg HBG.out).mono ?_
      rintro e wh ⟨rfl, hbh⟩
      go_wp2_with fail
      go_ret
      exact ⟨rfl, HBG.out.trans (hbh.mono HBG.out.size)⟩
  · go_simp
    have hbz : Below w8d.heap.size w8d (w8d.alloc boxZ) := bel1 _ _
    have hal : w8.heap.size ≤ w8d.heap.size := hHeld.1.size
    have gz := heap_alloc_new w8d (.cells #[.int .i64 0, .int .i64 0, .string ByteArray.empty, .slice none 0 0] 25)
    refine hK.out _ _ ⟨hHeld.1.trans ((hbz).mono hHeld.1.size), keepb hbz hHeld.2.1, keepb hbz hHeld.2.2.1, keepb hbz hHeld.2.2.2.1, keepb hbz hHeld.2.2.2.2.1, keepb hbz hHeld.2.2.2.2.2⟩ (fun hHeld => ?_)
    clear hK K
    (try simp only [Act.put, List.setIfInBounds_toArray, List.set_cons_zero, List.set_cons_succ, List.getElem_toArray, List.getElem_cons_succ, List.getElem_cons_zero])
    obtain ⟨y15, hy15⟩ : ∃ y15, y15 = w8d.alloc boxZ := ⟨_, rfl⟩
    rw [← hy15] at hHeld hbz
    rw [show w8d.alloc (.cells #[.int .i64 0, .int .i64 0, .string ByteArray.empty, .slice none 0 0] 25) = y15 from hy15.symm] at gz
    rw [← hy15]
    have GZ := Lib.hid gz
    clear hbz gz hy15
    refine wpAnyH_ready (rs := [4]) (by kernel_rfl) (by simp) ?_
    refine AllReadyH.cons (o := _) rfl (fun K hK => ?_) AllReadyH.nil
    have hzl : w8d.heap.size < y15.heap.size := (Array.getElem?_eq_some_iff.1 GZ.out).1
    refine W_appendE _ _ 48 (by rfl) sl48' w8.heap.size none 0 0 [] (by rfl) (World.ownsRow_nil _ _ _ _) (some ⟨nb, no, none⟩) (q + 1) nc ((ns.take (q + 1)).flatMap Nd.cs) (by rfl) (.inr ⟨_, rfl, fun j u hu => ((HR8.out.below hHeld.1).take (q + 1) (by omega)).cells Nd_len2 (by decide) rfl j u hu⟩) (by rw [flat_len Nd.cs 7 Nd_len2, HTK.out]) one_nds (by omega) (by simp [maxLen]; omega) (by have := hHeld.1.size; omega) (fun a4 c4 y16 ho4 hg4 => ?_)
    have hb : Below y15.heap.size y15 y16 := (Below.refl _ _).grown hg4 (Nat.le_refl _) (fun k hk => by cases hk)
    have HA := Lib.hid (show y16.ownsRow w8.heap.size 61 7 (.slice a4 (q + 1) c4) (q + 1) ((ns.take (q + 1)).flatMap Nd.cs) by simpa using ho4)
    have GZ' := Lib.hid ((hb.block _ hzl).trans GZ.out)
    clear GZ
    have GZ := Lib.hid GZ'.out
    clear GZ'
    refine hK.out _ _ ⟨hHeld.1.trans ((hb).mono hHeld.1.size), keepb hb hHeld.2.1, keepb hb hHeld.2.2.1, keepb hb hHeld.2.2.2.1, keepb hb hHeld.2.2.2.2.1, keepb hb hHeld.2.2.2.2.2⟩ (fun hHeld => ?_)
    clear hK K
    (try simp only [Act.put, List.setIfInBounds_toArray, List.set_cons_zero, List.set_cons_succ, List.getElem_toArray, List.getElem_cons_succ, List.getElem_cons_zero])
    (try simp only [Nat.zero_add])
    clear hb ho4 hg4
    refine wpAnyH_ready (rs := [6]) (by kernel_rfl) (by simp) ?_
    refine AllReadyH.cons (o := _) rfl (fun K hK => ?_) AllReadyH.nil
    have hzl : w8d.heap.size < y16.heap.size := (Array.getElem?_eq_some_iff.1 GZ.out).1
    refine W_appendE _ _ 48 (by rfl) sl48' w8.heap.size a4 (q + 1) c4 _ (by rfl) HA.out ma ml mc (ms.flatMap Nd.cs) (by rfl) (by
      rcases HSRC.out with h | ⟨ad, h, hc⟩
      · exact .inl h
      · exact .inr ⟨ad, h, fun j u hu => (hHeld.1.cell (block_lt_of_cell' (hc j u hu))).trans (hc j u hu)⟩) (by rw [flat_len Nd.cs 7 Nd_len2, hml.out]) one_nds (by omega) (by simp [maxLen]; omega) (by have := hHeld.1.size; omega) (fun a6 c6 y17 ho6 hg6 => ?_)
    have hb0 : Below w8.heap.size y16 y17 := (Below.refl _ _).grown hg6 (hHeld.1.size) (fun k hk => (HA.out.lt k hk).1)
    have HA6 := Lib.hid (show y17.ownsRow w8.heap.size 61 7 (.slice a6 (q + 1 + ml) c6) (q + 1 + ml) ((ns.take (q + 1) ++ ms).flatMap Nd.cs) by rw [List.flatMap_append]; exact ho6)
    have GZ' := Lib.hid ((hg6.block _ hzl (own_ne HA.out GZ.out (by decide)).symm).trans GZ.out)
    clear GZ
    have GZ := Lib.hid GZ'.out
    clear GZ'
    refine hK.out _ _ ⟨hHeld.1.trans hb0, (hb0.cell (p := ⟨w7.heap.size, 0, none⟩) z8).trans hHeld.2.1, (hb0.cell (p := ⟨w7.heap.size, 1, none⟩) z8).trans hHeld.2.2.1, (hb0.cell (p := ⟨w7.heap.size, 2, none⟩) z8).trans hHeld.2.2.2.1, (hb0.cell (p := ⟨w7.heap.size, 3, none⟩) z8).trans hHeld.2.2.2.2.1, (hb0.cell (p := ⟨w7.heap.size, 4, none⟩) z8).trans hHeld.2.2.2.2.2⟩ (fun hHeld => ?_)
    clear hK K
    (try simp only [Act.put, List.setIfInBounds_toArray, List.set_cons_zero, List.set_cons_succ, List.getElem_toArray, List.getElem_cons_succ, List.getElem_cons_zero])
    clear HA
    have HA := Lib.hid HA6.out
    clear HA6 hb0 ho6 hg6
    refine wpAnyH_ready (rs := [18]) (by kernel_rfl) (by simp) ?_
    refine AllReadyH.cons (o := _) rfl (fun K hK => ?_) AllReadyH.nil
    go_simp
    have hzl : w8d.heap.size < y17.heap.size := (Array.getElem?_eq_some_iff.1 GZ.out).1
    refine (plainA_any y17 po (HPO.out.below hHeld.1) (by have := HOO.out.n; omega) HOB.out).mono ?_
    rintro e y18 ⟨⟨p2, rfl, hp2, hv2⟩, hb⟩
    have HV2 := Lib.hid hv2
    have HE2 := Lib.hid (show EnvW y18 a6 (q + 1 + ml) c6 (ns.take (q + 1) ++ ms) p2 from ⟨(RS.of_owns HA.out (by decide) Nd_len2 (by omega)).below hb, fun nd hm => (HNM.out nd hm).below ((HB8.out.trans (hHeld.1.mono (by have := HB8.out.size; omega))).trans (hb.mono (by have := (HB8.out.trans (hHeld.1.mono (by have := HB8.out.size; omega))).size; omega))), hp2.ok⟩)
    have hbk := hb
    have GZ' := Lib.hid ((hb.block _ hzl).trans GZ.out)
    clear GZ
    have GZ := Lib.hid GZ'.out
    clear GZ'
    refine hK.out _ _ ⟨hHeld.1.trans ((hb).mono hHeld.1.size), keepb hb hHeld.2.1, keepb hb hHeld.2.2.1, keepb hb hHeld.2.2.2.1, keepb hb hHeld.2.2.2.2.1, keepb hb hHeld.2.2.2.2.2⟩ (fun hHeld => ?_)
    clear hK K HA
    (try simp only [Act.put, List.setIfInBounds_toArray, List.set_cons_zero, List.set_cons_succ, List.getElem_toArray, List.getElem_cons_succ, List.getElem_cons_zero])
    clear hb hbk hp2 hv2
    refine wpAnyH_ready (rs := [19]) (by kernel_rfl) (by simp) ?_
    refine AllReadyH.cons (o := _) rfl (fun K hK => ?_) AllReadyH.nil
    go_simp
    have hzl : w8d.heap.size < y18.heap.size := (Array.getElem?_eq_some_iff.1 GZ.out).1
    refine (worthV_any y18 a6 (q + 1 + ml) c6 (ns.take (q + 1) ++ ms) p2 HE2.out (by rw [HV2.out]; exact HVO2.out) HKI2.out (HT.out.below (HB8.out.trans (hHeld.1.mono (by have := HB8.out.size; omega))) H1.out H1.out) (by have := H1.out; have := (HB8.out.trans (hHeld.1.mono (by have := HB8.out.size; omega))).size; omega) (q : Int) ⟨by omega, by omega⟩ HSM2.out (fun x hx => by rw [HV2.out] at hx; exact worth_size HVO2.out HKI2.out (fun i nd hi h => HSM2.out i nd (by omega) h) hx)).mono ?_
    rintro e y19 ⟨⟨x2, er2, ax2, cx2, rfl, hwu2, hzx2, hxl2⟩, hb⟩
    rw [HV2.out] at hwu2
    have HWU2 := Lib.hid hwu2
    have HZ2 := Lib.hid hzx2
    have HXL2 := Lib.hid hxl2
    have GZ' := Lib.hid ((hb.block _ hzl).trans GZ.out)
    clear GZ
    have GZ := Lib.hid GZ'.out
    clear GZ'
    refine hK.out _ _ ⟨hHeld.1.trans ((hb).mono hHeld.1.size), keepb hb hHeld.2.1, keepb hb hHeld.2.2.1, keepb hb hHeld.2.2.2.1, keepb hb hHeld.2.2.2.2.1, keepb hb hHeld.2.2.2.2.2⟩ (fun hHeld => ?_)
    clear hK K HE2
    (try simp only [Act.put, List.setIfInBounds_toArray, List.set_cons_zero, List.set_cons_succ, List.getElem_toArray, List.getElem_cons_succ, List.getElem_cons_zero])
    clear hb hwu2 hzx2 hxl2
    refine wpAnyH_take (i := 20) (oi := _) (v := ?_) rfl (by kernel_rfl) (by kernel_rfl) (by kernel_rfl) (fun _ _ _ h => h) (Or.inl ⟨by rfl, ?_⟩) (by assumption) ?_
    rotate_left
    · intro w hSw
      (try dsimp only at hSw)
      go_simp
      all_goals (first | done | with_reducible rfl)
    (try simp only [Act.put, List.setIfInBounds_toArray, List.set_cons_zero, List.set_cons_succ, List.getElem_toArray, List.getElem_cons_succ, List.getElem_cons_zero])
    refine wpAnyH_take (i := 21) (oi := _) (v := ?_) rfl (by kernel_rfl) (by kernel_rfl) (by kernel_rfl) (fun _ _ _ h => h) (Or.inl ⟨by rfl, ?_⟩) (by assumption) ?_
    rotate_left
    · intro w hSw
      (try dsimp only at hSw)
      go_simp
      all_goals (first | done | with_reducible rfl)
    (try simp only [Act.put, List.setIfInBounds_toArray, List.set_cons_zero, List.set_cons_succ, List.getElem_toArray, List.getElem_cons_succ, List.getElem_cons_zero])
    refine wpAnyH_take (i := 22) (oi := _) (v := ?_) rfl (by kernel_rfl) (by kernel_rfl) (by kernel_rfl) (fun _ _ _ h => h) (Or.inl ⟨by rfl, ?_⟩) (by assumption) ?_
    rotate_left
    · intro w hSw
      (try dsimp only at hSw)
      go_simp
      all_goals (first | done | with_reducible rfl)
    (try simp only [Act.put, List.setIfInBounds_toArray, List.set_cons_zero, List.set_cons_succ, List.getElem_toArray, List.getElem_cons_succ, List.getElem_cons_zero])
    obtain ⟨c0, c1, c2, c3, f0, f1, f2, f3⟩ := box4 GZ.out
    have hne : w7.heap.size ≠ w8d.heap.size := by omega
    refine wpAnyH_ready (rs := [24]) (by kernel_rfl) (by simp) ?_
    refine AllReadyH.cons (o := _) rfl (fun K hK => ?_) AllReadyH.nil
    go_simp
    refine hK.out _ _ ⟨below_box hal hHeld.1 _ _ _ _, keepo hHeld.2.1 hne, keepo hHeld.2.2.1 hne, keepo hHeld.2.2.2.1 hne, keepo hHeld.2.2.2.2.1 hne, keepo hHeld.2.2.2.2.2 hne⟩ (fun hHeld => ?_)
    clear hK K c0 c1 c2 c3 f0 f1 f2 f3
    (try simp only [Act.put, List.setIfInBounds_toArray, List.set_cons_zero, List.set_cons_succ, List.getElem_toArray, List.getElem_cons_succ, List.getElem_cons_zero])
    refine wpAnyH_take (i := 25) (oi := _) (v := ?_) rfl (by kernel_rfl) (by kernel_rfl) (by kernel_rfl) (fun _ _ _ h => h) (Or.inl ⟨by rfl, ?_⟩) (by assumption) ?_
    rotate_left
    · intro w hSw
      (try dsimp only at hSw)
      go_simp
      all_goals (first | done | with_reducible rfl)
    (try simp only [Act.put, List.setIfInBounds_toArray, List.set_cons_zero, List.set_cons_succ, List.getElem_toArray, List.getElem_cons_succ, List.getElem_cons_zero])
    refine wpAnyH_done (by kernel_rfl) ?_ _
    go_upto_region 11 with (fail)
    have xf := heap_box GZ.out (.int .i64 x2.k) (.int .i64 x2.n) (.string x2.t) (.slice ax2 x2.ss.length cx2)
    have rzf := SV.setbox (HZ2.out) GZ.out (by decide) (.int .i64 x2.k) (.int .i64 x2.n) (.string x2.t) (.slice ax2 x2.ss.length cx2)
    have hbf : Below w8.heap.size w8 (((((y19.setCell ⟨w8d.heap.size, 0, none⟩ (.int .i64 x2.k)).setCell ⟨w8d.heap.size, 1, none⟩ (.int .i64 x2.n)).setCell ⟨w8d.heap.size, 2, none⟩ (.string x2.t)).setCell ⟨w8d.heap.size, 3, none⟩ (.slice ax2 x2.ss.length cx2))) := hHeld.1
    have rzg : RS 1 Sv (((((y19.setCell ⟨w8d.heap.size, 0, none⟩ (.int .i64 x2.k)).setCell ⟨w8d.heap.size, 1, none⟩ (.int .i64 x2.n)).setCell ⟨w8d.heap.size, 2, none⟩ (.string x2.t)).setCell ⟨w8d.heap.size, 3, none⟩ (.slice ax2 x2.ss.length cx2))) ax2 x2.ss.length cx2 x2.ss := (rzf.rz (by have := HXL2.out; omega)).rs
    obtain ⟨wf, hwf⟩ : ∃ wf, wf = (((((y19.setCell ⟨w8d.heap.size, 0, none⟩ (.int .i64 x2.k)).setCell ⟨w8d.heap.size, 1, none⟩ (.int .i64 x2.n)).setCell ⟨w8d.heap.size, 2, none⟩ (.string x2.t)).setCell ⟨w8d.heap.size, 3, none⟩ (.slice ax2 x2.ss.length cx2))) := ⟨_, rfl⟩
    rw [← hwf] at xf hbf rzg
    rw [← hwf]
    clear hwf hHeld
    have HBF := Lib.hid (HB8.out.trans (hbf.mono (by have := HB8.out.size; omega)))
    have RZG := Lib.hid rzg
    have RZX := Lib.hid ((HZX8.out).rs.below hbf)
    obtain ⟨c0, c1, c2, c3, -⟩ := box4 ((hbf.block w4.heap.size (by omega)).trans X8.out)
    obtain ⟨d0, d1, d2, d3, -⟩ := box4 xf
    clear hbf xf rzf rzg
    have huq := WU.uniq (HEQ.out ▸ HWU2.out) HWU.out
    obtain ⟨hx, he⟩ := huq
    subst hx he
    have hee : (er2 == er2) = true := by simp
    go_wp2_with fail
    with_reducible refine (sameV_any wf x2 ax x2.ss.length cx RZX.out ax2 cx2 RZG.out).mono ?_
    rintro e wg ⟨rfl, hbg⟩
    have HBG := Lib.hid (HBF.out.trans (hbg.mono HBF.out.size))
    clear hbg
    go_wp2_with fail
    with_reducible refine (HKN.out wg HBG.out).mono ?_
    rintro e wh ⟨rfl, hbh⟩
    go_wp2_with fail
    go_ret
    exact ⟨rfl, HBG.out.trans (hbh.mono HBG.out.size)⟩
end Go.Proofs.YtcnckjlmldnblaaDoor
