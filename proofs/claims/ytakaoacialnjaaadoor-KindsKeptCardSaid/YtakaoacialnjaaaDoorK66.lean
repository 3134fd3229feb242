import Derived.Test.YtakaoacialnjaaaDoorK64
import Derived.Test.YtakaoacialnjaaaDoorK41
import Derived.Laws.AppendOwnNone
namespace Go.Proofs.YtakaoacialnjaaaDoor
open Go Go.RowKit
set_option linter.unusedVariables false
set_option linter.unusedSimpArgs false
/-- The nodes moved so far. -/
structure MovK (ns : List Nd) (keep : List Bool) (p k : Nat) (us : List Nd) : Prop where
  len : us.length = nk keep k
  has : ∀ (i : Nat) (nd : Nd), i < k → ns[i]? = some nd → kp keep i = true → ∃ u, us[nk keep i]? = some u ∧ u.op = nd.op ∧ u.nm = nd.nm ∧ u.vk = nd.vk ∧ u.vn = nd.vn ∧ u.vt = nd.vt ∧ u.sl = nd.sl ∧ u.kl = nd.kl ∧ u.ks = nd.ks.map fun k => ((plc p keep k.toNat : Nat) : Int)
theorem MovK.mov {ns : List Nd} {keep : List Bool} {p k : Nat} {us : List Nd} (h : MovK ns keep p k us) (hk : ns.length = k) : Mov ns keep p us := by
  subst hk
  exact ⟨h.len, fun i nd hi hk => h.has i nd (List.getElem?_eq_some_iff.1 hi).1 hi hk⟩
theorem MovK.skip {ns : List Nd} {keep : List Bool} {p k : Nat} {us : List Nd} (h : MovK ns keep p k us) (hk : kp keep k = false) : MovK ns keep p (k + 1) us := by
  refine ⟨by rw [nk_succ, if_neg (by rw [hk]; decide)]; exact h.len, fun i nd hi hn hki => ?_⟩
  by_cases e : i = k
  · subst e; rw [hk] at hki; cases hki
  · exact h.has i nd (by omega) hn hki
theorem MovK.push {ns : List Nd} {keep : List Bool} {p k : Nat} {us : List Nd} (h : MovK ns keep p k us) (hk : kp keep k = true) {nd : Nd} (hn : ns[k]? = some nd) (sa : Option Addr) (sc : Nat) (xa : Option Addr) (xc : Nat) :
    MovK ns keep p (k + 1) (us ++ [⟨nd.op, nd.nm, nd.vk, nd.vn, nd.vt, sa, nd.sl, sc, xa, nd.kl, xc, nd.ks.map fun k => ((plc p keep k.toNat : Nat) : Int)⟩]) := by
  refine ⟨by rw [nk_succ, if_pos hk, List.length_append, h.len]; rfl, fun i nd' hi hn' hki => ?_⟩
  by_cases e : i = k
  · subst e
    rw [hn] at hn'
    obtain rfl := Option.some.inj hn'
    exact ⟨⟨nd.op, nd.nm, nd.vk, nd.vn, nd.vt, sa, nd.sl, sc, xa, nd.kl, xc, nd.ks.map fun k => ((plc p keep k.toNat : Nat) : Int)⟩, by rw [List.getElem?_append_right (by rw [h.len]; exact Nat.le_refl _), h.len, Nat.sub_self]; rfl, rfl, rfl, rfl, rfl, rfl, rfl, rfl, rfl⟩
  · obtain ⟨u, hu, r⟩ := h.has i nd' (by omega) hn' hki
    exact ⟨u, by rw [List.getElem?_append_left (by rw [h.len]; exact nk_lt keep (by omega) hki)]; exact hu, r⟩
/-- The places told so far. -/
def plcs (p : Nat) (keep : List Bool) (n k : Nat) : List Int := (List.range n).map fun i => if i < k then ((plc p keep i : Nat) : Int) else 0
theorem plcs_len (p : Nat) (keep : List Bool) (n k : Nat) : (plcs p keep n k).length = n := by simp [plcs]
theorem plcs_zero (p : Nat) (keep : List Bool) (n : Nat) : plcs p keep n 0 = List.replicate n 0 := by
  apply List.ext_getElem?
  intro i
  simp only [plcs, List.getElem?_map, List.getElem?_replicate]
  by_cases h : i < n
  · simp [h]
  · simp [h]
theorem plcs_at (p : Nat) (keep : List Bool) (n k : Nat) {i : Nat} (hi : i < n) (hk : i < k) : (plcs p keep n k)[i]? = some ((plc p keep i : Nat) : Int) := by
  simp [plcs, hi, hk]
theorem plcs_skip (p : Nat) (keep : List Bool) (n k : Nat) (h : kp keep k = false) : plcs p keep n (k + 1) = plcs p keep n k := by
  unfold plcs
  refine List.map_congr_left fun i _ => ?_
  by_cases e : i = k
  · subst e; simp [plc, h]
  · by_cases hl : i < k
    · rw [if_pos (by omega), if_pos hl]
    · rw [if_neg (by omega), if_neg hl]
theorem plcs_set (p : Nat) (keep : List Bool) (n k : Nat) (hk : k < n) : (plcs p keep n k).set k ((plc p keep k : Nat) : Int) = plcs p keep n (k + 1) := by
  apply List.ext_getElem?
  intro i
  rw [List.getElem?_set, plcs_len]
  by_cases e : k = i
  · subst e
    rw [if_pos rfl, if_pos hk, plcs_at p keep n (k + 1) hk (by omega)]
  · rw [if_neg e]
    simp only [plcs, List.getElem?_map]
    by_cases h : i < n
    · simp only [List.getElem?_range h, Option.map_some]
      by_cases hl : i < k
      · rw [if_pos hl, if_pos (by omega)]
      · rw [if_neg hl, if_neg (by omega)]
    · rw [List.getElem?_eq_none (by simpa using h)]; rfl
theorem plcs_end (p : Nat) (keep : List Bool) (n : Nat) : plcs p keep n n = (List.range n).map fun i => ((plc p keep i : Nat) : Int) := by
  unfold plcs
  refine List.map_congr_left fun i hi => ?_
  rw [if_pos (List.mem_range.1 hi)]
/-- A moved node's own row of kids. -/
def Uo (w : World) (B : Nat) (u : Nd) : Prop := w.ownsRow B 3 1 (.slice u.ka u.kl u.kc) u.kl (u.ks.flatMap Iv) ∧ u.kl ≤ 20000 ∧ u.nm.size ≤ maxLen ∧ (-9223372036854775808 ≤ u.vn ∧ u.vn ≤ 9223372036854775807)
theorem Uo.below {w w' : World} {B : Nat} {u : Nd} (h : Uo w B u) (hb : Below w.heap.size w w') : Uo w' B u := ⟨own_below h.1 hb, h.2⟩
theorem Uo.set {w : World} {B : Nat} {u : Nd} (h : Uo w B u) {g o : Nat} (hg : g < B) (v : Value) : Uo (w.setCell ⟨g, o, none⟩ v) B u :=
  ⟨h.1.kept (grown_set' w g o v) (by
    cases hb : (Value.slice u.ka u.kl u.kc).ownBlock with
    | none => exact .inl rfl
    | some q => right; have := (h.1.lt q hb).1; intro e; have := Option.some.inj e; omega), h.2⟩
theorem Uo.grown {w w' : World} {B : Nat} {u : Nd} (h : Uo w B u) {B' s' n' : Nat} {v' : Value} {xs' : List Value} (hv : w.ownsRow B' 49 s' v' n' xs') (hg : w.grownBy w' v'.ownBlock) : Uo w' B u := ⟨own_grown h.1 hv (by decide) hg, h.2⟩
theorem Uo.ok {w : World} {B : Nat} {u : Nd} (h : Uo w B u) : u.ok w := ⟨RS.of_owns h.1 (by decide) Iv_len (by have := h.2.1; omega), h.2.2⟩
theorem one_nd {x : Nd} : ∀ u ∈ Nd.cs x, u.oneCell' = true := by
  intro u hu
  simp [Nd.cs] at hu
  rcases hu with rfl | rfl | rfl | rfl | rfl | rfl | rfl <;> rfl
section
variable {P : Program} {w : World} {ops : Array Oper} {rest : List Oper} {o : Oper} {a : Act} {Q : Exit → Act → World → Prop}
/-- append([]T(nil), src...), src nil or not. -/
theorem L_append0 (hgd : o.guard = none) (s x : Operand) (t : TypeId) (ho : o.op = .call { callee := .builtin .append, args := #[s, x], argTypes := #[t, t] })
    {e : TypeId} {z : Value} {size bytes : Nat} (T : Sl P t e z size bytes) (hs : a.eval s = .slice none 0 0) (aa : Option Addr) (m c : Nat) (l : List Value) (hx : a.eval x = .slice aa m c)
    (hsrc : (aa = none ∧ m = 0 ∧ c = 0 ∧ l = []) ∨ ∃ ad, aa = some ad ∧ ∀ j u, l[j]? = some u → w.cell? (ad.add j) = some u) (hl : l.length = m * size) (h1 : ∀ u ∈ l, u.oneCell' = true) (hb : m * bytes ≤ 140737488355328) (hm : m ≤ maxLen)
    (h : ∀ a' c' w', w'.ownsRow w.heap.size e size (.slice a' m c') m l → w.grownBy w' none → wpList P ops Q rest (a.put o.dst (.slice a' m c')) w') : wpList P ops Q (o :: rest) a w := by
  rcases hsrc with ⟨rfl, rfl, rfl, rfl⟩ | ⟨ad, rfl, hc⟩
  · obtain ⟨i, hi, hz0, hz1, hz2⟩ := info_parts T.inf
    exact wpList_append_own_none hgd s x t ho w.heap.size e i size T.und hi (.slice none 0 0) 0 [] hs (World.ownsRow_nil _ _ _ _) hx (h none 0 w (World.ownsRow_nil _ _ _ _) ⟨rfl, rfl, rfl, Nat.le_refl _, fun _ _ _ => rfl⟩)
  · refine L_appendN hgd s x t ho T w.heap.size (.slice none 0 0) 0 [] hs (World.ownsRow_nil _ _ _ _) ad m c l hx hl hc h1 (by simpa using hb) (by simpa using hm) (Nat.le_refl _) fun a' c' w' h2 h3 _ => ?_
    rw [Nat.zero_add] at h2 ⊢
    rw [List.nil_append] at h2
    exact h a' c' w' h2 h3
end
def MovedOut (e : Ending) (w' : World) (ns : List Nd) (keep : List Bool) (n m : Nat) (ahead : List Nd) : Prop :=
  ∃ la L lc pa pc us, e = .returned (.tuple #[.slice la L lc, .slice pa n pc]) ∧ L = m + us.length ∧ RS 7 Nd.cs w' la L lc (ahead ++ us) ∧ (∀ u ∈ us, u.ok w') ∧
    RS 1 Iv w' pa n pc ((List.range n).map fun i => ((plc m keep i : Nat) : Int)) ∧ Mov ns keep m us
theorem one_iv {x : Int} : ∀ u ∈ Iv x, u.oneCell' = true := by
  intro u hu
  simp [Iv] at hu
  subst hu; rfl
theorem take_map {ks : List Int} {f : Int → Int} {j : Nat} {x : Int} (h : ks[j]? = some x) : ((ks.take (j + 1)).map f).flatMap Iv = ((ks.take j).map f).flatMap Iv ++ Iv (f x) := by
  rw [List.take_add_one, h, List.map_append, List.flatMap_append]
  rfl
set_option maxRecDepth 100000 in
set_option maxHeartbeats 4000000 in
theorem moved_gen (w : World) (a : Option Addr) (n c : Nat) (ns : List Nd) (hr : RS 7 Nd.cs w a n c ns) (hok : ∀ nd ∈ ns, nd.ok w) (ka : Option Addr) (kc : Nat) (keep : List Bool) (hkeep : RS 1 Bv w ka n kc keep)
    (aa : Option Addr) (m mc : Nat) (ahead : List Nd) (hah : RS 7 Nd.cs w aa m mc ahead) (hsrc : (aa = none ∧ mc = 0) ∨ ∃ ad, aa = some ad) (hn : n ≤ 5000) (hm : m ≤ 5000) (hkl : ∀ nd ∈ ns, nd.kl ≤ 20000)
    (hks : ∀ (i : Nat) (nd : Nd), ns[i]? = some nd → kp keep i = true → ∀ k ∈ nd.ks, 0 ≤ k ∧ k < (i : Int)) :
    Calls Tryd.prog 18 #[.slice a n c, .slice ka n kc, .slice aa m mc] w fun e w' => MovedOut e w' ns keep n m ahead ∧ Below w.heap.size w w' := by
  have hlen := hr.1
  have hkln := hkeep.1
  have haln := hah.1
  have HR := Lib.hid hr
  have HOK := Lib.hid hok
  have HKP := Lib.hid hkeep
  have HKL := Lib.hid hkl
  have HKS := Lib.hid hks
  have HAC := Lib.hid (show (aa = none ∧ m = 0 ∧ mc = 0 ∧ ahead.flatMap Nd.cs = []) ∨ ∃ ad, aa = some ad ∧ ∀ j u, (ahead.flatMap Nd.cs)[j]? = some u → w.cell? (ad.add j) = some u by
    rcases hsrc with ⟨rfl, rfl⟩ | ⟨ad, rfl⟩
    · left
      have hm0 : m = 0 := by have := hah.2.1; omega
      subst hm0
      rw [List.eq_nil_of_length_eq_zero haln]
      exact ⟨rfl, rfl, rfl, rfl⟩
    · exact .inr ⟨ad, rfl, hah.cells Nd_len2 (by decide) rfl⟩)
  have one : ∀ u ∈ ahead.flatMap Nd.cs, u.oneCell' = true := by
    intro u hu
    obtain ⟨y, _, hy⟩ := List.mem_flatMap.1 hu
    simp [Nd.cs] at hy
    rcases hy with rfl | rfl | rfl | rfl | rfl | rfl | rfl <;> rfl
  have ONE := Lib.hid one
  clear hr hok hkeep hkl hks hah hsrc one
  go_enter Tryd.func18, Tryd.ntmps18
  go_wp2_with (first
    | (at_builtin; (refine L_append0 rfl _ _ _ rfl sl24 rfl aa m mc (ahead.flatMap Nd.cs) rfl HAC.out (by rw [flat_len Nd.cs 7 Nd_len2, haln]) ONE.out (by omega) (by simp [maxLen]; omega) (fun a1 c1 w1 ho1 hg1 => ?_)
                    have hb1 : Below w.heap.size w w1 := (Below.refl _ _).grown hg1 (Nat.le_refl _) (by intro q hq; cases hq)
                    have HO1 := Lib.hid ho1
                    have HB1 := Lib.hid hb1
                    have z1 := hb1.size
                    clear ho1 hg1 hb1))
    | (at_make; refine L_make rfl _ _ _ rfl sl42 w1.heap.size .i64 .i64 _ n rfl rfl (by omega) (by omega) (by simp [maxLen]; omega) (Nat.le_refl _) (fun w2 ho2 hg2 => ?_)))
  obtain ⟨gp, hgp⟩ : ∃ gp, gp = w1.heap.size := ⟨_, rfl⟩
  have hb2 : Below w1.heap.size w1 w2 := (Below.refl _ _).grown hg2 (Nat.le_refl _) (by intro k hk; cases hk)
  have ho3 : w2.ownsRow gp 3 1 (.slice (some ⟨gp, 0, none⟩) n n) n ((plcs m keep n 0).flatMap Iv) := by
    have e1 : (madeCells (Value.cells (.int .i64 0)) (n * 1)).toList = (List.replicate n (0 : Int)).flatMap Iv := madeFlat Iv 1 (by decide) Iv_len (0 : Int) n
    rw [e1] at ho2
    rw [plcs_zero, hgp]
    exact ho2
  have HP2 := Lib.hid ho3
  have HB2 := Lib.hid (HB1.out.trans (hb2.mono z1))
  have HO2 := Lib.hid (own_below HO1.out hb2)
  have HGP := Lib.hid (show w.heap.size ≤ gp by omega)
  rw [← hgp]
  clear ho2 hg2 hb2 ho3 z1 HO1 HB1 hgp
  go_loopw [8, 10] (fun l i wr => ∃ (k L : Nat) (us : List Nd) (la : Option Addr) (lc : Nat), k ≤ n ∧ i = .int .i64 (k : Int) ∧ l = .slice la L lc ∧ L = m + us.length ∧ Below w.heap.size w wr ∧ wr.ownsRow w.heap.size 49 7 (.slice la L lc) L ((ahead ++ us).flatMap Nd.cs) ∧
    wr.ownsRow gp 3 1 (.slice (some ⟨gp, 0, none⟩) n n) n ((plcs m keep n k).flatMap Iv) ∧ MovK ns keep m k us ∧ ∀ u ∈ us, Uo wr (gp + 1) u) (fun _ i _ => n - (intOf i).toNat)
  case atStart => exact ⟨0, m, [], _, _, Nat.zero_le _, rfl, rfl, rfl, HB2.out, by simpa using HO2.out, HP2.out, ⟨rfl, fun i nd hi => by omega⟩, fun u hu => by cases hu⟩
  case round =>
    obtain ⟨k, L, us, la, lc, hk, rfl, rfl, hL, hb, hl, hp, hmv, huo⟩ := hrel
    obtain ⟨wk, rfl⟩ : ∃ wk : World, wk = wr := ⟨_, rfl⟩
    have HL := Lib.hid hL
    have HB := Lib.hid hb
    have HO := Lib.hid hl
    have HP := Lib.hid hp
    have HM := Lib.hid hmv
    have HU := Lib.hid huo
    have zk := hb.size
    have hnk : nk keep k ≤ k := by
      have h1 : nk keep k ≤ (List.range k).length := List.countP_le_length
      simpa using h1
    have hLb : L ≤ 10000 := by have := hmv.len; omega
    clear hb hl hp hmv huo hL HB2 HO2 HP2
    by_cases hlt : k < n
    · have hltI : (k : Int) < (n : Int) := by omega
      obtain ⟨kb, ko, q, rfl, hq, hcq⟩ := HKP.out.at hlt
      have q0 := (HB.out.cell (p := ⟨kb, ko + k * 1 + 0, none⟩) (block_lt_of_cell (hcq 0 _ rfl))).trans (hcq 0 _ rfl)
      simp only [Nat.mul_one, Nat.add_zero] at q0
      have HKQ := Lib.hid (show kp keep k = q by unfold kp; rw [List.getD_eq_getElem?_getD, hq]; rfl)
      clear hcq hq
      cases q
      · go_wp2_with fail
        go_roundw
        case rel => exact ⟨k + 1, L, us, la, lc, by omega, by go_num, rfl, HL.out, HB.out, HO.out, by rw [plcs_skip _ _ _ _ HKQ.out]; exact HP.out, HM.out.skip HKQ.out, HU.out⟩
        case measure => simp [intOf] <;> omega
      · obtain ⟨lb, lo, nd, rfl, hnd, hcl⟩ := HR.out.at hlt
        have HCL := Lib.hid hcl
        have HND := Lib.hid hnd
        have hko := HOK.out nd (List.mem_of_getElem? hnd)
        have HKO := Lib.hid hko.1
        have HNB := Lib.hid hko.2
        have hkl := HKL.out nd (List.mem_of_getElem? hnd)
        have hkll := hko.1.1
        have HKX := Lib.hid (HKS.out k nd hnd HKQ.out)
        have cp := own_at Iv_len HP.out (k := k) (x := 0) (by simp [plcs, hlt]) 0 _ rfl
        have fp := HP.out.frozenAt k
        simp only [Nat.mul_one, Nat.add_zero] at cp
        clear hcl hnd hko
        go_upto_region 8 with (fail)
        have hpl : plc m keep k = L := by rw [plc_eq HKQ.out, HL.out, HM.out.len]
        obtain ⟨w3, hw3⟩ : ∃ w3, w3 = wk.setCell ⟨gp, k, none⟩ (.int .i64 (L : Int)) := ⟨_, rfl⟩
        have hp3 : w3.ownsRow gp 3 1 (.slice (some ⟨gp, 0, none⟩) n n) n ((plcs m keep n (k + 1)).flatMap Iv) := by
          have := (own_chain (Iv (L : Int)) _ wk (k * 1) HP.out).1
          rw [setList_flat Iv 1 Iv_len _ k (L : Int) (by rw [plcs_len]; exact hlt), ← hpl, plcs_set m keep n k hlt] at this
          rw [hw3, ← hpl]
          simpa [setChain, Iv] using this
        have hb3 : Below w.heap.size w w3 := by rw [hw3]; exact HB.out.setCell (p := ⟨gp, k, none⟩) HGP.out _
        have ho3 : w3.ownsRow w.heap.size 49 7 (.slice la L lc) L ((ahead ++ us).flatMap Nd.cs) := by
          rw [hw3]; exact own_grown HO.out HP.out (by decide) (grown_set' wk gp k _)
        have hu3 : ∀ u ∈ us, Uo w3 (gp + 1) u := by
          rw [hw3]; exact fun u hu => (HU.out u hu).set (Nat.lt_succ_self gp) _
        have hgs : gp < w3.heap.size := ((hp3.lt gp (by simp [Value.ownBlock])).2)
        have x0 := (hb3.cell (p := ⟨lb, lo + k * 7 + 0, none⟩) (block_lt_of_cell (HCL.out 0 _ rfl))).trans (HCL.out 0 _ rfl)
        have x1 := (hb3.cell (p := ⟨lb, lo + k * 7 + 1, none⟩) (block_lt_of_cell (HCL.out 1 _ rfl))).trans (HCL.out 1 _ rfl)
        have x2 := (hb3.cell (p := ⟨lb, lo + k * 7 + 2, none⟩) (block_lt_of_cell (HCL.out 2 _ rfl))).trans (HCL.out 2 _ rfl)
        have x3 := (hb3.cell (p := ⟨lb, lo + k * 7 + 3, none⟩) (block_lt_of_cell (HCL.out 3 _ rfl))).trans (HCL.out 3 _ rfl)
        have x4 := (hb3.cell (p := ⟨lb, lo + k * 7 + 4, none⟩) (block_lt_of_cell (HCL.out 4 _ rfl))).trans (HCL.out 4 _ rfl)
        have x5 := (hb3.cell (p := ⟨lb, lo + k * 7 + 5, none⟩) (block_lt_of_cell (HCL.out 5 _ rfl))).trans (HCL.out 5 _ rfl)
        have x6 := (hb3.cell (p := ⟨lb, lo + k * 7 + 6, none⟩) (block_lt_of_cell (HCL.out 6 _ rfl))).trans (HCL.out 6 _ rfl)
        simp only [Nat.add_zero] at x0
        rw [← hw3]
        obtain ⟨w4, hw4⟩ : ∃ w4, w4 = w3.alloc (.cells #[.int .i64 nd.op, .string nd.nm, .int .i64 nd.vk, .int .i64 nd.vn, .string nd.vt, .slice nd.sa nd.sl nd.sc, .slice nd.ka nd.kl nd.kc] 49) := ⟨_, rfl⟩
        have g4 : w4.heap[w3.heap.size]? = some (.cells #[.int .i64 nd.op, .string nd.nm, .int .i64 nd.vk, .int .i64 nd.vn, .string nd.vt, .slice nd.sa nd.sl nd.sc, .slice nd.ka nd.kl nd.kc] 49 (0, 0)) := by rw [hw4]; exact heap_alloc_new _ _
        have hb34 : Below w3.heap.size w3 w4 := by rw [hw4]; exact (Below.refl _ _).alloc (Nat.le_refl _) _
        have z34 : w3.heap.size < w4.heap.size := by rw [hw4]; simp
        have HW4 := Lib.hid hw4.symm
        have HG4 := Lib.hid g4
        have HB4 := Lib.hid (hb3.trans (hb34.mono hb3.size))
        have HP4 := Lib.hid (own_below hp3 hb34)
        have HO4 := Lib.hid (own_below ho3 hb34)
        have HU4 := Lib.hid (fun u hu => (hu3 u hu).below hb34)
        have zz3 := hb3.size
        have HLT := Lib.hid (fun q hq => (ho3.lt q hq).2)
        clear hw3 hp3 hb3 ho3 hu3 hw4 g4 hb34 cp fp q0 HB HO HP HU
        go_wp2_with fail
        rw [HW4.out]
        go_loopw [12, 13] (fun v i wr => ∃ (j : Nat) (xa : Option Addr) (xc : Nat), j ≤ nd.kl ∧ i = .int .i64 (j : Int) ∧ v = .slice xa j xc ∧ Below w4.heap.size w4 wr ∧ wr.ownsRow w4.heap.size 3 1 (.slice xa j xc) j (((nd.ks.take j).map fun k => ((plc m keep k.toNat : Nat) : Int)).flatMap Iv)) (fun _ i _ => nd.kl - (intOf i).toNat)
        case atStart => exact ⟨0, none, 0, Nat.zero_le _, rfl, rfl, Below.refl _ _, World.ownsRow_nil _ _ _ _⟩
        case round =>
          obtain ⟨j, xa, xc, hj, rfl, rfl, hb, ho⟩ := hrel
          have HB5 := Lib.hid hb
          have HX5 := Lib.hid ho
          have HBW5 := Lib.hid (HB4.out.trans (hb.mono (by have := HB4.out.size; omega)))
          have z5 := hb.size
          have g5 := (hb.block _ z34).trans HG4.out
          have n6 := cell_of_row wr _ 6 _ _ _ g5
          simp only [List.getElem?_toArray, List.getElem?_cons_zero, List.getElem?_cons_succ] at n6
          have HG5 := Lib.hid g5
          clear hb ho g5 x0 x1 x2 x3 x4 x5 x6
          by_cases hjl : j < nd.kl
          · have hjI : (j : Int) < (nd.kl : Int) := by omega
            obtain ⟨yb, yo, x, hka, hx, hcx⟩ := HKO.out.at hjl
            have y0 := (HBW5.out.cell (p := ⟨yb, yo + j * 1 + 0, none⟩) (block_lt_of_cell (hcx 0 _ rfl))).trans (hcx 0 _ rfl)
            simp only [Nat.mul_one, Nat.add_zero] at y0
            rw [hka] at n6
            clear hka
            obtain ⟨hx0, hxp⟩ := HKX.out x (List.mem_of_getElem? hx)
            obtain ⟨y, rfl⟩ : ∃ y : Nat, x = (y : Int) := ⟨x.toNat, by omega⟩
            have hyn : y < n := by omega
            have hynI : (y : Int) < (n : Int) := by omega
            have cy := own_at Iv_len (own_below HP4.out HB5.out) (k := y) (plcs_at m keep n (k + 1) hyn (by omega)) 0 _ rfl
            simp only [Nat.mul_one, Nat.add_zero] at cy
            have HX := Lib.hid hx
            clear hx hcx hxp
            go_wp2_with (at_builtin; (refine L_appendN rfl _ _ _ rfl sl42 w4.heap.size (.slice xa j xc) j _ rfl (own_below HX5.out ((Below.refl _ _).alloc (Nat.le_refl _) (.cells #[.int .i64 ((plc m keep y : Nat) : Int)] 3))) _ 1 1 (Iv ((plc m keep y : Nat) : Int)) rfl rfl (new_iv wr ((plc m keep y : Nat) : Int)) one_iv (by omega) (by simp [maxLen]; omega) (by simp; omega) (fun a8 c8 w8 ho8 hg8 hat8 => ?_)))
            have HB8 := Lib.hid ((HB5.out.alloc (by omega) (.cells #[.int .i64 ((plc m keep y : Nat) : Int)] 3)).grown hg8 (by simp; omega) (fun q hq => by have := (HX5.out.lt q hq).1; omega))
            have HX8 := Lib.hid ho8
            clear ho8 hg8 hat8
            go_roundw
            case rel => exact ⟨j + 1, _, _, by omega, by go_num, rfl, HB8.out, by rw [take_map HX.out]; exact HX8.out⟩
            case measure => simp [intOf] <;> omega
          · have hjI : ¬ (j : Int) < (nd.kl : Int) := by omega
            obtain rfl : j = nd.kl := by omega
            have hall : nd.ks.take nd.kl = nd.ks := List.take_of_length_le (by omega)
            rw [hall] at HX5
            have f6 := frozen_of_row wr _ 6 _ _ HG5.out
            obtain ⟨w6, hw6⟩ : ∃ w6, w6 = wr.setCell ⟨w3.heap.size, 6, none⟩ (.slice xa nd.kl xc) := ⟨_, rfl⟩
            have g6 : w6.heap[w3.heap.size]? = some (.cells #[.int .i64 nd.op, .string nd.nm, .int .i64 nd.vk, .int .i64 nd.vn, .string nd.vt, .slice nd.sa nd.sl nd.sc, .slice xa nd.kl xc] 49 (0, 0)) := by
              rw [hw6]; exact heap_setCell_same wr w3.heap.size 6 _ _ _ HG5.out
            have hb36 : Below w3.heap.size w4 w6 := by rw [hw6]; exact (HB5.out.mono (Nat.le_of_lt z34)).setCell (p := ⟨w3.heap.size, 6, none⟩) (Nat.le_refl _) _
            have hx6 : w6.ownsRow w4.heap.size 3 1 (.slice xa nd.kl xc) nd.kl ((nd.ks.map fun k => ((plc m keep k.toNat : Nat) : Int)).flatMap Iv) := by
              rw [hw6]; exact HX5.out.kept (grown_set' wr w3.heap.size 6 _) (.inr (own_ne HX5.out HG5.out (by decide)))
            have hbx : Below w.heap.size w w6 := by rw [hw6]; exact HBW5.out.setCell (p := ⟨w3.heap.size, 6, none⟩) zz3 _
            have hp6 : w6.ownsRow gp 3 1 (.slice (some ⟨gp, 0, none⟩) n n) n ((plcs m keep n (k + 1)).flatMap Iv) := by
              have h5 := own_below HP4.out HB5.out
              rw [hw6]; exact h5.kept (grown_set' wr w3.heap.size 6 _) (.inr (own_ne h5 HG5.out (by decide)))
            have ho6 : w6.ownsRow w.heap.size 49 7 (.slice la L lc) L ((ahead ++ us).flatMap Nd.cs) := by
              have h5 := own_below HO4.out HB5.out
              rw [hw6]
              refine h5.kept (grown_set' wr w3.heap.size 6 _) ?_
              cases hq : (Value.slice la L lc).ownBlock with
              | none => exact .inl rfl
              | some q => right; have := HLT.out q hq; intro e; have := Option.some.inj e; omega
            have hu6 : ∀ u ∈ us, Uo w6 (gp + 1) u := fun u hu => by
              have h5 := (HU4.out u hu).below HB5.out
              rw [hw6]; exact ⟨h5.1.kept (grown_set' wr w3.heap.size 6 _) (.inr (own_ne h5.1 HG5.out (by decide))), h5.2⟩
            go_upto_region 15 with (fail)
            rw [← hw6]
            have b0 := cell_of_row w6 _ 0 _ _ _ g6
            have b1 := cell_of_row w6 _ 1 _ _ _ g6
            have b2 := cell_of_row w6 _ 2 _ _ _ g6
            have b3 := cell_of_row w6 _ 3 _ _ _ g6
            have b4 := cell_of_row w6 _ 4 _ _ _ g6
            have b5 := cell_of_row w6 _ 5 _ _ _ g6
            have b6 := cell_of_row w6 _ 6 _ _ _ g6
            simp only [List.getElem?_toArray, List.getElem?_cons_zero, List.getElem?_cons_succ] at b0 b1 b2 b3 b4 b5 b6
            obtain ⟨u, hu⟩ : ∃ u : Nd, u = ⟨nd.op, nd.nm, nd.vk, nd.vn, nd.vt, nd.sa, nd.sl, nd.sc, xa, nd.kl, xc, nd.ks.map fun k => ((plc m keep k.toNat : Nat) : Int)⟩ := ⟨_, rfl⟩
            have HUE := Lib.hid hu
            have hal := (Below.refl w6.heap.size w6).alloc (Nat.le_refl _) (.cells u.v 49)
            have HO6 := Lib.hid (own_below ho6 hal)
            have HP6 := Lib.hid (own_below hp6 hal)
            have HU6 := Lib.hid (fun u' hu' => (hu6 u' hu').below hal)
            have hnew : Uo (w6.alloc (.cells u.v 49)) (gp + 1) u := by
              refine ⟨?_, ?_, ?_⟩
              · have := own_below (owns_mono hx6 (show gp + 1 ≤ w4.heap.size by omega)) hal
                rw [hu]; rw [hu] at this; exact this
              · rw [hu]; exact hkl
              · rw [hu]; exact HNB.out
            have HNEW := Lib.hid hnew
            have HBX := Lib.hid hbx
            have zx := hbx.size
            clear hw6 g6 hb36 hx6 hbx hp6 ho6 hu6 f6 n6 hal hnew hu
            go_wp2_with (at_builtin; (refine L_appendN rfl _ _ _ rfl sl24 w.heap.size (.slice la L lc) L _ rfl (by rw [HUE.out] at HO6; exact HO6.out) _ 1 1 (Nd.cs ⟨nd.op, nd.nm, nd.vk, nd.vn, nd.vt, nd.sa, nd.sl, nd.sc, xa, nd.kl, xc, nd.ks.map fun k => ((plc m keep k.toNat : Nat) : Int)⟩) rfl rfl (new_nd w6 ⟨nd.op, nd.nm, nd.vk, nd.vn, nd.vt, nd.sa, nd.sl, nd.sc, xa, nd.kl, xc, nd.ks.map fun k => ((plc m keep k.toNat : Nat) : Int)⟩) one_nd (by omega) (by simp [maxLen]; omega) (by simp; omega) (fun a9 c9 w9 ho9 hg9 hat9 => ?_)))
            rw [HUE.out] at HO6 HP6 HU6 HNEW
            have hb9 : Below w.heap.size w w9 := (HBX.out.alloc (by omega) _).grown hg9 (by simp; omega) (fun q hq => (HO6.out.lt q hq).1)
            have HB9 := Lib.hid hb9
            have HO9 := Lib.hid ho9
            have HP9 := Lib.hid (own_grown HP6.out HO6.out (by decide) hg9)
            have HU9 := Lib.hid (fun u' (hu' : u' ∈ us) => (HU6.out u' hu').grown HO6.out hg9)
            have HN9 := Lib.hid (HNEW.out.grown HO6.out hg9)
            clear hb9 ho9 hg9 hat9 b0 b1 b2 b3 b4 b5 b6
            go_roundw
            case rel =>
              refine ⟨k + 1, L + 1, us ++ [⟨nd.op, nd.nm, nd.vk, nd.vn, nd.vt, nd.sa, nd.sl, nd.sc, xa, nd.kl, xc, nd.ks.map fun k => ((plc m keep k.toNat : Nat) : Int)⟩], _, _, by omega, by go_num, rfl, by rw [List.length_append, HL.out]; rfl, HB9.out, ?_, HP9.out, HM.out.push HKQ.out HND.out _ _ _ _, ?_⟩
              · rw [← List.append_assoc, List.flatMap_append]; simpa using HO9.out
              · intro u' hu'
                rcases List.mem_append.1 hu' with h | h
                · exact HU9.out u' h
                · rw [List.mem_singleton.1 h]; exact HN9.out
            case measure => simp [intOf] <;> omega
    · have hltI : ¬ (k : Int) < (n : Int) := by omega
      obtain rfl : k = n := by omega
      go_wp2_with fail
      go_ret2
      exact ⟨⟨la, L, lc, _, _, us, rfl, HL.out, RS.of_owns HO.out (by decide) Nd_len2 (by omega), fun u hu => (HU.out u hu).ok, by have := RS.of_owns HP.out (by decide) Iv_len (by omega); rwa [plcs_end] at this, HM.out.mov hlen⟩, HB.out⟩
theorem moved_any (w : World) (a : Option Addr) (n c : Nat) (ns : List Nd) (hr : RS 7 Nd.cs w a n c ns) (hok : ∀ nd ∈ ns, nd.ok w) (ka : Option Addr) (kc : Nat) (keep : List Bool) (hkeep : RS 1 Bv w ka n kc keep)
    (ab ao m mc : Nat) (ahead : List Nd) (hah : RS 7 Nd.cs w (some ⟨ab, ao, none⟩) m mc ahead) (hn : n ≤ 5000) (hm : m ≤ 5000) (hkl : ∀ nd ∈ ns, nd.kl ≤ 20000)
    (hks : ∀ (i : Nat) (nd : Nd), ns[i]? = some nd → kp keep i = true → ∀ k ∈ nd.ks, 0 ≤ k ∧ k < (i : Int)) :
    Calls Tryd.prog 18 #[.slice a n c, .slice ka n kc, .slice (some ⟨ab, ao, none⟩) m mc] w fun e w' => MovedOut e w' ns keep n m ahead ∧ Below w.heap.size w w' :=
  moved_gen w a n c ns hr hok ka kc keep hkeep _ m mc ahead hah (.inr ⟨_, rfl⟩) hn hm hkl hks
end Go.Proofs.YtakaoacialnjaaaDoor
