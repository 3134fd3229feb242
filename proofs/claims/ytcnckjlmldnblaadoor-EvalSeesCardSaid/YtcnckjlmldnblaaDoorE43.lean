import Derived.Test.YtcnckjlmldnblaaDoorE33
import Derived.Lib.SlBytesRow
namespace Go.Proofs.YtcnckjlmldnblaaDoor
open Go Go.RowKit
set_option linter.unusedVariables false
set_option linter.unusedSimpArgs false
theorem sl48 : Sl Tryd.prog 48 61 (.agg #[.int .i64 0, .string ByteArray.empty, .int .i64 0, .int .i64 0, .string ByteArray.empty, .slice none 0 0, .slice none 0 0]) 7 104 := ⟨by kernel_rfl, by kernel_rfl, rfl, by decide⟩
theorem sl59 : Sl Tryd.prog 59 3 (.int .i64 0) 1 8 := ⟨by kernel_rfl, by kernel_rfl, rfl, by decide⟩
theorem new_nd (w : World) (k : Nd) {m : Nat} (hm : w.heap.size = m) (j : Nat) (u : Value) (h : (Nd.cs k)[j]? = some u) : (w.alloc (.cells k.v 61)).cell? ((⟨m, 0, none⟩ : Addr).add j) = some u := by
  subst hm
  rw [Addr.add_lit, cell_of_row _ _ _ _ _ _ (heap_alloc_new w _), Nat.zero_add]
  simpa [Nd.v, Nd.cs] using h
theorem new_bc (w : World) (k : Bc) (j : Nat) (u : Value) (h : (Bc.cs k)[j]? = some u) : (w.alloc (.cells #[.string k.nm, .int .i64 k.v.x.k, .int .i64 k.v.x.n, .string k.v.x.t, .slice k.v.a k.v.l k.v.c] 43)).cell? ((⟨w.heap.size, 0, none⟩ : Addr).add j) = some u := by
  rw [Addr.add_lit, cell_of_row _ _ _ _ _ _ (heap_alloc_new w _), Nat.zero_add]
  simpa [Bc.cs] using h
theorem new_iv (w : World) (x : Int) (j : Nat) (u : Value) (h : (Iv x)[j]? = some u) : (w.alloc (.cells #[.int .i64 x] 3)).cell? ((⟨w.heap.size, 0, none⟩ : Addr).add j) = some u := by
  rw [Addr.add_lit, cell_of_row _ _ _ _ _ _ (heap_alloc_new w _), Nat.zero_add]
  simpa [Iv] using h
/-- The name of the i-th part. -/
def nmK (i : Nat) : ByteArray := ⟨#[UInt8.ofNat (97 + i)]⟩
def nameNd (i : Nat) : Nd := ⟨5, nmK i, 0, 0, ByteArray.empty, none, 0, 0, none, 0, 0, []⟩
def opNd (op : Int) (ka : Option Addr) (n kc : Nat) : Nd := ⟨op, ByteArray.empty, 0, 0, ByteArray.empty, none, 0, 0, ka, n, kc, (List.range n).map fun i : Nat => (i : Int)⟩
/-- Names, and an operator over them. -/
def opNs (op : Int) (ka : Option Addr) (n kc : Nat) : List Nd := (List.range n).map nameNd ++ [opNd op ka n kc]
def bcsK (vs : List Vc) (k : Nat) : List Bc := (List.range k).map fun i => ⟨nmK i, vs.getD i zVc⟩
theorem bcsK_len (vs : List Vc) (k : Nat) : (bcsK vs k).length = k := by simp [bcsK]
theorem bcsK_succ {vs : List Vc} {k : Nat} {v : Vc} (h : vs[k]? = some v) : bcsK vs (k + 1) = bcsK vs k ++ [⟨nmK k, v⟩] := by
  simp [bcsK, List.range_succ, List.getD_eq_getElem?_getD, h]
theorem names_succ (k : Nat) : (List.range (k + 1)).map nameNd = (List.range k).map nameNd ++ [nameNd k] := by simp [List.range_succ]
theorem ints_succ (k : Nat) : (List.range (k + 1)).flatMap (fun i : Nat => Iv (i : Int)) = (List.range k).flatMap (fun i : Nat => Iv (i : Int)) ++ Iv (k : Int) := by simp [List.range_succ]
theorem conv_part (w : World) (k : Nat) (hk : k < 20) : Sem.run Tryd.prog (convert 94 9 (.slice (some ⟨w.heap.size, 0, none⟩) 1 1)) (w.alloc (.cells #[.int .u8 (97 + (k : Int))] 5)) = .ok (.string (nmK k)) (w.alloc (.cells #[.int .u8 (97 + (k : Int))] 5)) := by
  have hb : Go.Lib.Bytes (w.alloc (.cells #[.int .u8 (97 + (k : Int))] 5)) w.heap.size 0 (nmK k) := by
    intro i hi
    have h0 : i = 0 := by have : (nmK k).size = 1 := rfl; omega
    subst h0
    rw [cell_of_row _ _ _ _ _ _ (heap_alloc_new w _)]
    have : k = 0 ∨ k = 1 ∨ k = 2 ∨ k = 3 ∨ k = 4 ∨ k = 5 ∨ k = 6 ∨ k = 7 ∨ k = 8 ∨ k = 9 ∨ k = 10 ∨ k = 11 ∨ k = 12 ∨ k = 13 ∨ k = 14 ∨ k = 15 ∨ k = 16 ∨ k = 17 ∨ k = 18 ∨ k = 19 := by omega
    rcases this with rfl | rfl | rfl | rfl | rfl | rfl | rfl | rfl | rfl | rfl | rfl | rfl | rfl | rfl | rfl | rfl | rfl | rfl | rfl | rfl <;> rfl
  exact Go.Lib.run_convert_whole (P := Tryd.prog) _ 94 5 9 (by kernel_rfl) (by kernel_rfl) (by kernel_rfl) _ 0 (nmK k) hb 1
theorem own_nilc {w : World} {B e s n c : Nat} {a : Option Addr} {xs : List Value} (h : w.ownsRow B e s (.slice a n c) n xs) : a = none → c = 0 := fun ha => by
  subst ha
  rcases h.2 with ⟨hv, _⟩ | ⟨g, cap, cur, hv, _⟩
  · cases hv; rfl
  · cases hv
theorem mapIv (n : Nat) : (List.range n).flatMap (fun i : Nat => Iv (i : Int)) = ((List.range n).map fun i : Nat => (i : Int)).flatMap Iv := by
  rw [List.flatMap_map]
theorem bcsK_mem {vs : List Vc} {k : Nat} (hk : k ≤ vs.length) {b : Bc} (h : b ∈ bcsK vs k) : ∃ v, v ∈ vs ∧ b.v = v := by
  obtain ⟨i, hi, rfl⟩ := List.mem_map.1 h
  have hi' : i < vs.length := by have := List.mem_range.1 hi; omega
  exact ⟨vs[i], List.getElem_mem hi', by simp [List.getD_eq_getElem?_getD, List.getElem?_eq_getElem hi']⟩
theorem op_nodes {w : World} {op : Int} {xa : Option Addr} {k xc : Nat} (hx : RS 1 Iv w xa k xc ((List.range k).map fun i : Nat => (i : Int))) (hk : k ≤ 1000000) : ∀ nd ∈ opNs op xa k xc, NdW w nd := by
  intro nd hnd
  have hz : ∃ ss, RZ w none 0 0 ss := ⟨[], rs_nil1 w, fun _ => rfl⟩
  rcases List.mem_append.1 hnd with h | h
  · obtain ⟨i, -, rfl⟩ := List.mem_map.1 h
    exact ⟨⟨(show RS 1 Iv w none 0 0 [] from ⟨rfl, Nat.le_refl _, by omega, fun i x h => by simp at h⟩), (show (nmK i).size ≤ maxLen by show 1 ≤ maxLen; unfold maxLen; decide), by simp [nameNd]⟩, hz⟩
  · simp only [List.mem_singleton] at h
    subst h
    exact ⟨⟨hx, (show ByteArray.empty.size ≤ maxLen by unfold maxLen; decide), by simp [opNd]⟩, hz⟩
theorem opNs_small (op : Int) (xa : Option Addr) (k xc : Nat) (hk : k ≤ 1000000) (root : Int) : ∀ (i : Nat) (nd : Nd), (i : Int) ≤ root → (opNs op xa k xc)[i]? = some nd → nd.kl ≤ 1000000 := fun i nd _ h => by
  rcases List.mem_append.1 (List.mem_of_getElem? h) with h | h
  · obtain ⟨i, -, rfl⟩ := List.mem_map.1 h
    simp [nameNd]
  · simp only [List.mem_singleton] at h
    subst h
    exact hk
theorem opNs_kids (op : Int) (xa : Option Addr) (k xc : Nat) : ∀ x ∈ opNs op xa k xc, x.ks.length = x.kl ∧ I64 x.vn := by
  intro nd hnd
  rcases List.mem_append.1 hnd with h | h
  · obtain ⟨i, -, rfl⟩ := List.mem_map.1 h
    exact ⟨rfl, by unfold I64; simp [nameNd]⟩
  · simp only [List.mem_singleton] at h
    subst h
    exact ⟨by simp [opNd], by unfold I64; simp [opNd]⟩
theorem res30 (tmps : Array Value) (w : World) (g : Nat) (x0 x1 x2 x3 u : Value) (hg : w.heap[g]? = some (.cells #[x0, x1, x2, x3] 25 (0, 0))) (h6 : tmps[4]? = some (.pointer (some ⟨g, 0, none⟩))) (h7 : tmps[5]? = some u) :
    (results Tryd.f30 tmps).run Tryd.prog w = .ok (.tuple #[.agg #[x0, x1, x2, x3], u]) w := by
  obtain ⟨c0, c1, c2, c3, -⟩ := box4 hg
  simp [results, Tryd.results30, go_sem, h6, h7, c0, c1, c2, c3]
set_option maxRecDepth 100000 in
set_option maxHeartbeats 4000000 in
theorem worthop_any (w : World) (op : Int) (a : Option Addr) (n c : Nat) (vs : List Vc) (hr : RS 4 Vc.cs w a n c vs) (hn : n ≤ 20) (hvz : ∀ v ∈ vs, RZ w v.a v.l v.c v.x.ss ∧ I64 v.x.n ∧ v.l ≤ 1000000) (ht : ResTab w 1) (h1 : 1 < w.heap.size) :
    Calls Tryd.prog 30 #[.int .i64 op, .slice a n c] w fun e w' => (∃ ka kc, WRet e w' w.heap.size (worthR (opNs op ka n kc) n ⟨(bcsK vs n).map fun b => (b.nm, b.v.x), [], [], 0, 0⟩)) ∧ Below w.heap.size w w' := by
  obtain ⟨w1, hw1⟩ : ∃ w1, w1 = w.alloc boxZ := ⟨_, rfl⟩
  have g0 : w1.heap[w.heap.size]? = some boxZ := by rw [hw1]; exact heap_alloc_new w _
  have hb1 : Below w.heap.size w w1 := by rw [hw1]; exact bel1 _ _
  have z1 : w.heap.size < w1.heap.size := by rw [hw1]; simp
  have HLN := Lib.hid hr.1
  have HR := Lib.hid hr
  have HVZ := Lib.hid hvz
  have HT := Lib.hid ht
  have H1 := Lib.hid h1
  have G0 := Lib.hid g0
  have HB1 := Lib.hid hb1
  clear hr hvz ht h1 g0 hb1
  go_enter Tryd.func30, Tryd.ntmps30
  go_upto_region 1 with (fail)
  rw [← hw1]
  clear hw1
  go_wp2_with fail
  go_loopw [6, 7, 8, 9] (fun u v x i wr => ∃ k : Nat, k ≤ n ∧ i = .int .i64 k ∧ (∃ ua uc, u = .slice ua k uc) ∧ (∃ va vc, v = .slice va k vc) ∧ (∃ xa xc, x = .slice xa k xc) ∧
    wr.ownsRow w1.heap.size 61 7 u k (((List.range k).map nameNd).flatMap Nd.cs) ∧ wr.ownsRow w1.heap.size 43 5 v k ((bcsK vs k).flatMap Bc.cs) ∧ wr.ownsRow w1.heap.size 3 1 x k ((List.range k).flatMap (fun i : Nat => Iv (i : Int))) ∧ Below w1.heap.size w1 wr) (fun _ _ _ i _ => n - (intOf i).toNat)
  case atStart => exact ⟨0, by omega, rfl, ⟨none, 0, rfl⟩, ⟨none, 0, rfl⟩, ⟨none, 0, rfl⟩, World.ownsRow_nil _ _ _ _, World.ownsRow_nil _ _ _ _, World.ownsRow_nil _ _ _ _, Below.refl _ _⟩
  case round =>
    obtain ⟨k, hk, rfl, ⟨ua, uc, rfl⟩, ⟨va, vc, rfl⟩, ⟨xa, xc, rfl⟩, hu, hv, hx, hb⟩ := hrel
    have HU := Lib.hid hu
    have HV := Lib.hid hv
    have HX := Lib.hid hx
    have HB := Lib.hid hb
    have HZ := Lib.hid hb.size
    clear hu hv hx hb
    by_cases hlt : k < n
    · obtain ⟨lb, lo, y, rfl, hyk, hcl0⟩ := HR.out.at hlt
      have hBw := HB1.out.trans (HB.out.mono (by omega))
      have HC0 := Lib.hid (hcl0 0 (.int .i64 y.x.k) rfl)
      have HC1 := Lib.hid (hcl0 1 (.int .i64 y.x.n) rfl)
      have HC2 := Lib.hid (hcl0 2 (.string y.x.t) rfl)
      have HC3 := Lib.hid (hcl0 3 (.slice y.a y.l y.c) rfl)
      have HBW := Lib.hid hBw
      have hltI : (k : Int) < (n : Int) := by omega
      have hk20 : (k : Int) < 20 := by omega
      clear hcl0 hBw
      have hcv := conv_part wr k (by omega)
      have HYK := Lib.hid hyk
      have bw5 : Below wr.heap.size wr (wr.alloc (.cells #[.int .u8 (97 + (k : Int))] 5)) := bel1 _ _
      have HU5 := Lib.hid (own_below HU.out bw5)
      have HV5 := Lib.hid (own_below HV.out bw5)
      have HX5 := Lib.hid (own_below HX.out bw5)
      have HB5 := Lib.hid (HB.out.alloc HZ.out (.cells #[.int .u8 (97 + (k : Int))] 5))
      clear hyk bw5
      go_wp2_with (at_builtin; first
         | (refine L_appendN rfl _ _ _ rfl sl48 w1.heap.size (.slice ua k uc) k _ rfl (own_below HU5.out (bel1 _ (.cells (nameNd k).v 61))) _ 1 1 (Nd.cs (nameNd k)) rfl rfl (new_nd (wr.alloc (.cells #[.int .u8 (97 + (k : Int))] 5)) (nameNd k) (World.size_alloc _ _)) (by simp [Nd.cs, Bc.cs, Iv, Value.oneCell']) (by omega) (by simp [maxLen]; omega) (by have := HZ.out; simp; omega) (fun a6 c6 w6 ho6 hg6 hat6 => ?_);
               have HV6 := Lib.hid (own_grown (own_below HV5.out (bel1 _ _)) (own_below HU5.out (bel1 _ _)) (by decide) hg6);
               have HX6 := Lib.hid (own_grown (own_below HX5.out (bel1 _ _)) (own_below HU5.out (bel1 _ _)) (by decide) hg6);
               have HB6 := Lib.hid ((HB5.out.alloc (by have := HZ.out; simp; omega) _).grown hg6 (by have := HZ.out; simp; omega) (fun q hq => by have := (HU5.out.lt q hq).1; omega));
               have HZ6 := Lib.hid HB6.out.size;
               have HU6 := Lib.hid ho6;
               clear ho6 hg6 hat6;
               have y0 := ((HB1.out.trans (HB6.out.mono (by omega))).cell (p := ⟨lb, lo + k * 4 + 0, none⟩) (block_lt_of_cell HC0.out)).trans HC0.out;
               have y1 := ((HB1.out.trans (HB6.out.mono (by omega))).cell (p := ⟨lb, lo + k * 4 + 1, none⟩) (block_lt_of_cell HC1.out)).trans HC1.out;
               have y2 := ((HB1.out.trans (HB6.out.mono (by omega))).cell (p := ⟨lb, lo + k * 4 + 2, none⟩) (block_lt_of_cell HC2.out)).trans HC2.out;
               have y3 := ((HB1.out.trans (HB6.out.mono (by omega))).cell (p := ⟨lb, lo + k * 4 + 3, none⟩) (block_lt_of_cell HC3.out)).trans HC3.out;
               simp only [Nat.add_zero] at y0;
               clear hcv)
         | (refine L_appendN rfl _ _ _ rfl sl33 w1.heap.size (.slice va k vc) k _ rfl (own_below HV6.out (bel1 _ (.cells #[.string (nmK k), .int .i64 y.x.k, .int .i64 y.x.n, .string y.x.t, .slice y.a y.l y.c] 43))) _ 1 1 (Bc.cs ⟨nmK k, y⟩) rfl rfl (new_bc w6 ⟨nmK k, y⟩) (by simp [Nd.cs, Bc.cs, Iv, Value.oneCell']) (by omega) (by simp [maxLen]; omega) (by have := HZ6.out; simp; omega) (fun a7 c7 w7 ho7 hg7 hat7 => ?_);
               have HU7 := Lib.hid (own_grown (own_below HU6.out (bel1 _ _)) (own_below HV6.out (bel1 _ _)) (by decide) hg7);
               have HX7 := Lib.hid (own_grown (own_below HX6.out (bel1 _ _)) (own_below HV6.out (bel1 _ _)) (by decide) hg7);
               have HB7 := Lib.hid ((HB6.out.alloc (by have := HZ6.out; simp; omega) _).grown hg7 (by have := HZ6.out; simp; omega) (fun q hq => by have := (HV6.out.lt q hq).1; omega));
               have HZ7 := Lib.hid HB7.out.size;
               have HV7 := Lib.hid ho7;
               clear ho7 hg7 hat7)
         | (refine L_appendN rfl _ _ _ rfl sl59 w1.heap.size (.slice xa k xc) k _ rfl (own_below HX7.out (bel1 _ (.cells #[.int .i64 (k : Int)] 3))) _ 1 1 (Iv (k : Int)) rfl rfl (new_iv w7 (k : Int)) (by simp [Nd.cs, Bc.cs, Iv, Value.oneCell']) (by omega) (by simp [maxLen]; omega) (by have := HZ7.out; simp; omega) (fun a8 c8 w8 ho8 hg8 hat8 => ?_);
               have HU8 := Lib.hid (own_grown (own_below HU7.out (bel1 _ _)) (own_below HX7.out (bel1 _ _)) (by decide) hg8);
               have HV8 := Lib.hid (own_grown (own_below HV7.out (bel1 _ _)) (own_below HX7.out (bel1 _ _)) (by decide) hg8);
               have HB8 := Lib.hid ((HB7.out.alloc (by have := HZ7.out; simp; omega) _).grown hg8 (by have := HZ7.out; simp; omega) (fun q hq => by have := (HX7.out.lt q hq).1; omega));
               have HZ8 := Lib.hid HB8.out.size;
               have HX8 := Lib.hid ho8;
               clear ho8 hg8 hat8))
      go_roundw
      case rel => exact ⟨k + 1, by omega, by go_num, ⟨_, _, rfl⟩, ⟨_, _, rfl⟩, ⟨_, _, rfl⟩, by rw [names_succ, List.flatMap_append]; simpa using HU8.out, by rw [bcsK_succ HYK.out, List.flatMap_append]; simpa using HV8.out, by rw [ints_succ]; exact HX8.out, HB8.out⟩
      case measure => simp [intOf]; omega
    · have hltI : ¬ (k : Int) < (n : Int) := by omega
      obtain rfl : k = n := by omega
      go_wp2_with (at_builtin; (refine L_appendN rfl _ _ _ rfl sl48 w1.heap.size (.slice ua k uc) k _ rfl (own_below HU.out (bel1 _ (.cells (opNd op xa k xc).v 61))) _ 1 1 (Nd.cs (opNd op xa k xc)) rfl rfl (new_nd wr (opNd op xa k xc) rfl) (by simp [Nd.cs, Value.oneCell']) (by omega) (by simp [maxLen]; omega) (by have := HZ.out; simp; omega) (fun a6 c6 w6 ho6 hg6 hat6 => ?_)))
      have hv6 := own_grown (own_below HV.out (bel1 _ _)) (own_below HU.out (bel1 _ _)) (by decide) hg6
      have hx6 := own_grown (own_below HX.out (bel1 _ _)) (own_below HU.out (bel1 _ _)) (by decide) hg6
      have hb6 := (HB.out.alloc (by have := HZ.out; simp; omega) _).grown hg6 (by have := HZ.out; simp; omega) (fun q hq => by have := (HU.out.lt q hq).1; omega)
      have HB6 := Lib.hid hb6
      have HBW6 := Lib.hid (HB1.out.trans (hb6.mono (by omega)))
      have HVR := Lib.hid (RS.of_owns hv6 (by decide) Bc_len (by omega))
      have HVZ6 := Lib.hid (own_nilc hv6)
      have hxr : RS 1 Iv w6 xa k xc ((List.range k).map fun i : Nat => (i : Int)) := RS.of_owns (by rw [← mapIv]; exact hx6) (by decide) Iv_len (by omega)
      have HNS := Lib.hid (op_nodes (op := op) hxr (by omega))
      have hur : RS 7 Nd.cs w6 a6 (k + 1) c6 (opNs op xa k xc) := RS.of_owns (by unfold opNs; rw [List.flatMap_append]; simpa using ho6) (by decide) Nd_len2 (by omega)
      have HUR := Lib.hid hur
      have HNZ := Lib.hid (show RZ w6 none 0 0 [] from ⟨rs_nil1 w6, fun _ => rfl⟩)
      have HBS := Lib.hid (show ∀ b ∈ bcsK vs k, RZ w6 b.v.a b.v.l b.v.c b.v.x.ss ∧ I64 b.v.x.n ∧ b.v.l ≤ 1000000 from fun b hb => by
        obtain ⟨_, hv, rfl⟩ := bcsK_mem (by rw [HLN.out]; exact Nat.le_refl _) hb
        exact ⟨(HVZ.out _ hv).1.below HBW6.out, (HVZ.out _ hv).2⟩)
      have z6 : w.heap.size ≤ w6.heap.size := HBW6.out.size
      clear hv6 hx6 hb6 ho6 hg6 hat6 hxr hur
      with_reducible refine (plain_any w6 va k vc (bcsK vs k) HVR.out HVZ6.out HBS.out none 0 0 [] HNZ.out none 0 0 [] HNZ.out (by omega) (by omega) (by omega) 0 0).mono ?_
      rintro e w7 ⟨⟨p, rfl, hp, hvw⟩, hb7⟩
      have hE : EnvW w7 a6 (k + 1) c6 (opNs op xa k xc) p := ⟨HUR.out.below hb7, fun nd hm => (HNS.out nd hm).below hb7, hp.ok⟩
      have HE := Lib.hid hE
      have HVW := Lib.hid hvw
      have HVO := Lib.hid (show VwOk p.vw by
        rw [hvw]
        refine ⟨fun q hq => ?_, (show I64 0 from ⟨by decide, by decide⟩), (show I64 0 from ⟨by decide, by decide⟩)⟩
        obtain ⟨b, hb, rfl⟩ := List.mem_map.1 hq
        exact (HBS.out b hb).2.1)
      have HB7 := Lib.hid (HBW6.out.trans (hb7.mono z6))
      have HT7 := Lib.hid (HT.out.below HB7.out H1.out H1.out)
      have z7 : 1 < w7.heap.size := by have := H1.out; have := HB7.out.size; omega
      have z07 : w.heap.size < w7.heap.size := by have := HB6.out.size; have := hb7.size; omega
      have HG7 := Lib.hid ((hb7.block _ (by have := HB6.out.size; omega)).trans ((HB6.out.block _ z1).trans G0.out))
      clear hp hvw hb7 hE
      go_wp2_with fail
      with_reducible refine (worthf_any w7 a6 (k + 1) c6 (opNs op xa k xc) p HE.out HVO.out (opNs_kids op xa k xc) HT7.out z7 (k : Int) ⟨by omega, by omega⟩ (opNs_small op xa k xc (by omega) (k : Int))).mono ?_
      rintro e w8 ⟨hm, hb8⟩
      rw [HVW.out] at hm
      have HB8 := Lib.hid (HB7.out.trans (hb8.mono (by omega)))
      have HG8 := Lib.hid ((hb8.block _ z07).trans HG7.out)
      have z8 : w.heap.size < w8.heap.size := by have := hb8.size; omega
      obtain ⟨c0, c1, c2, c3, f0, f1, f2, f3⟩ := box4 HG8.out
      clear hb8
      rcases hm.cases with ⟨r, ra, rl, rc, hr, rfl, hs⟩ | ⟨er, hr, rfl⟩
      · have HRR := Lib.hid hr
        have HSS := Lib.hid hs
        clear hm hr hs
        go_wp2_with fail
        refine bodyPost_ret (res30 _ _ w.heap.size _ _ _ _ _ (heap_box HG8.out _ _ _ _) rfl rfl) rfl ?_
        exact ⟨⟨xa, xc, .ok (x := r) HRR.out ((HSS.out.box z07 _ _ _ _).mono (by omega))⟩, below_box (by omega) HB8.out _ _ _ _⟩
      · have HRR := Lib.hid hr
        clear hm hr
        go_wp2_with fail
        refine bodyPost_ret (res30 _ _ w.heap.size _ _ _ _ _ (heap_box HG8.out _ _ _ _) rfl rfl) rfl ?_
        exact ⟨⟨xa, xc, .err HRR.out⟩, below_box (by omega) HB8.out _ _ _ _⟩
end Go.Proofs.YtcnckjlmldnblaaDoor
