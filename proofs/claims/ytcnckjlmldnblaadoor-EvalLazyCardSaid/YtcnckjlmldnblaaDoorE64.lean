import Derived.Test.YtcnckjlmldnblaaDoorE63
import Derived.Test.YtcnckjlmldnblaaDoorE43
import Derived.Test.YtcnckjlmldnblaaDoorE57
import Derived.BigGuardPart
import Derived.IntWalk
import Derived.Deep.RegionLaw
namespace Go.Proofs.YtcnckjlmldnblaaDoor
open Go Go.RowKit
set_option linter.unusedVariables false
set_option linter.unusedSimpArgs false
/-- What the law's behind does to a kid. -/
def shiftG (q : Nat) (k : Int) : Int := IntKind.i64.wrap (IntKind.i64.wrap (k + (q : Int)) + 1)
theorem shiftG_in {q M : Nat} (hq : q ≤ 5000) (hM : M ≤ 5000) (k : Int) (h0 : 0 ≤ k) (h1 : k < M) : shiftG q k = k + ((q + 1 : Nat) : Int) := by
  unfold shiftG
  rw [IntWalk.i64_in (k + (q : Int)) (by omega), IntWalk.i64_in _ (by omega)]
  omega
theorem one_nds2 {ns : List Nd} : ∀ u ∈ ns.flatMap Nd.cs, u.oneCell' = true := fun u hu => by
  obtain ⟨b, -, h⟩ := List.mem_flatMap.1 hu
  simp only [Nd.cs, List.mem_cons, List.not_mem_nil, or_false] at h
  rcases h with rfl | rfl | rfl | rfl | rfl | rfl | rfl <;> rfl
/-- The nodes that the law's behind has laid so far: each one's kids in a row of their own. -/
structure BhW (W : World) (B q i : Nat) (ns ms : List Nd) (la : Option Addr) (lc : Nat) (ms' : List Nd) : Prop where
  l : W.ownsRow B 61 7 (.slice la (q + 1 + i) lc) (q + 1 + i) ((ns.take (q + 1) ++ ms').flatMap Nd.cs)
  k : ∀ nd ∈ ms', W.ownsRow B 3 1 (.slice nd.ka nd.kl nd.kc) nd.kl (nd.ks.flatMap Iv)
  m : ms'.map Nd.bare = (ms.take i).map fun nd => (nd.shift (shiftG q)).bare
theorem BhW.below {W W' : World} {B q i : Nat} {ns ms ms' : List Nd} {la : Option Addr} {lc : Nat} (h : BhW W B q i ns ms la lc ms') (hb : Below W.heap.size W W') : BhW W' B q i ns ms la lc ms' :=
  ⟨own_below h.l hb, fun nd hm => own_below (h.k nd hm) hb, h.m⟩
/-- One more node. -/
theorem BhW.add {W W' : World} {B q i : Nat} {ns ms ms' : List Nd} {la : Option Addr} {lc : Nat} (h : BhW W B q i ns ms la lc ms') {nd : Nd} (hnd : ms[i]? = some nd) {xa : Option Addr} {xc : Nat} (hx : W.ownsRow B 3 1 (.slice xa nd.kl xc) nd.kl ((nd.ks.map (shiftG q)).flatMap Iv))
    {la' : Option Addr} {lc' : Nat} (ho : W'.ownsRow B 61 7 (.slice la' (q + 1 + i + 1) lc') (q + 1 + i + 1) ((ns.take (q + 1) ++ ms').flatMap Nd.cs ++ Nd.cs { nd.shift (shiftG q) with ka := xa, kc := xc })) (hg : W.grownBy W' (Value.slice la (q + 1 + i) lc).ownBlock) :
    BhW W' B q (i + 1) ns ms la' lc' (ms' ++ [{ nd.shift (shiftG q) with ka := xa, kc := xc }]) := by
  refine ⟨?_, fun x hx' => ?_, ?_⟩
  · rw [← List.append_assoc, List.flatMap_append, ← Nat.add_assoc]
    simpa using ho
  · rcases List.mem_append.1 hx' with h' | h'
    · exact own_grown (h.k x h') h.l (by decide) hg
    · simp only [List.mem_singleton] at h'
      subst h'
      exact own_grown hx h.l (by decide) hg
  · rw [List.map_append, h.m, List.take_add_one, hnd]
    simp [Nd.bare, Nd.shift]
theorem bare_ndw {W : World} {nd nd0 : Nd} {g : Int → Int} (h : nd.bare = (nd0.shift g).bare) (hk : RS 1 Iv W nd.ka nd.kl nd.kc nd.ks) (h0 : NdW W nd0) : NdW W nd := by
  have e1 : nd.nm = nd0.nm := (congrArg Nd.nm h : nd.bare.nm = (nd0.shift g).bare.nm)
  have e2 : nd.vn = nd0.vn := (congrArg Nd.vn h : nd.bare.vn = (nd0.shift g).bare.vn)
  have e3 : nd.sa = nd0.sa := (congrArg Nd.sa h : nd.bare.sa = (nd0.shift g).bare.sa)
  have e4 : nd.sl = nd0.sl := (congrArg Nd.sl h : nd.bare.sl = (nd0.shift g).bare.sl)
  have e5 : nd.sc = nd0.sc := (congrArg Nd.sc h : nd.bare.sc = (nd0.shift g).bare.sc)
  refine ⟨⟨hk, by rw [e1]; exact h0.ok.2.1, by rw [e2]; exact h0.ok.2.2⟩, ?_⟩
  rw [e3, e4, e5]
  exact h0.t
/-- What the law's behind answers. -/
def BhOut (e : Ending) (w' : World) (q M : Nat) (ns ms : List Nd) : Prop :=
  ∃ la lc ms', e = .returned (.tuple #[.slice la (q + 1 + M) lc, .int .i64 ((q + M : Nat) : Int)]) ∧ RS 7 Nd.cs w' la (q + 1 + M) lc (ns.take (q + 1) ++ ms') ∧ ms'.map Nd.bare = ms.map (fun nd => (nd.shift (shiftG q)).bare) ∧ ∀ nd ∈ ms', NdW w' nd
abbrev boxN (nd : Nd) (xa : Option Addr) (xl xc : Nat) : Obj := .cells #[.int .i64 nd.op, .string nd.nm, .int .i64 nd.vk, .int .i64 nd.vn, .string nd.vt, .slice nd.sa nd.sl nd.sc, .slice xa xl xc] 61
set_option maxRecDepth 100000 in
set_option maxHeartbeats 4000000 in
theorem behind_any (w : World) (na : Option Addr) (nl nc : Nat) (ns : List Nd) (hr : RS 7 Nd.cs w na nl nc ns) (hn5 : nl ≤ 5000) (q : Nat) (hq : q < nl) (ma : Option Addr) (ml mc : Nat) (ms : List Nd) (hm : RS 7 Nd.cs w ma ml mc ms) (hok : ∀ nd ∈ ms, NdW w nd) (hm5 : ml ≤ 5000) (hkl : ∀ nd ∈ ms, nd.kl ≤ 20000) :
    Calls Tryd.prog 26 #[.slice na nl nc, .int .i64 q, .slice ma ml mc] w fun e w' => BhOut e w' q ml ns ms ∧ Below w.heap.size w w' := by
  obtain ⟨B, hB⟩ : ∃ B, B = w.heap.size := ⟨_, rfl⟩
  have HBB := Lib.hid hB
  have HLN := Lib.hid hr.1
  have HLM := Lib.hid hm.1
  have hnc : nl ≤ nc := hr.2.1
  have HR := Lib.hid hr
  have HM := Lib.hid hm
  have HOK := Lib.hid hok
  have HKL := Lib.hid hkl
  have hwq : IntKind.i64.wrap ((q : Int) + 1) = (q : Int) + 1 := IntWalk.i64_in _ (by omega)
  have htq : ((q : Int) + 1).toNat = q + 1 := by omega
  have hq0 : (0 : Int) ≤ (q : Int) + 1 := by omega
  have hqn : (q : Int) + 1 ≤ (nl : Int) := by omega
  have hqc : (q : Int) + 1 ≤ (nc : Int) := by omega
  obtain ⟨nb, no, nd0, hna, -, -⟩ := hr.at (show 0 < nl by omega)
  subst hna
  have HTK := Lib.hid (show (ns.take (q + 1)).length = q + 1 by simp; have := HLN.out; omega)
  have HSRC := Lib.hid (fun j u hu => (hr.take (q + 1) (by omega)).cells Nd_len2 (by decide) rfl j u hu : ∀ j u, ((ns.take (q + 1)).flatMap Nd.cs)[j]? = some u → w.cell? ((⟨nb, no, none⟩ : Addr).add j) = some u)
  clear hr hm hok hkl hB
  go_enter Tryd.func26, Tryd.ntmps26
  go_wp2_with (at_builtin; (refine L_appendN rfl _ _ _ rfl sl48 B (.slice none 0 0) 0 [] rfl (World.ownsRow_nil _ _ _ _) ⟨nb, no, none⟩ (q + 1) nc ((ns.take (q + 1)).flatMap Nd.cs) rfl (by rw [flat_len Nd.cs 7 Nd_len2, HTK.out]) HSRC.out one_nds2 (by omega) (by simp [maxLen]; omega) (by have := HBB.out; omega) (fun a6 c6 w6 ho6 hg6 hat6 => ?_)
                            have hb6 : Below w.heap.size w w6 := (Below.refl _ _).grown hg6 (Nat.le_refl _) (fun k hk => by cases hk)
                            have HB6 := Lib.hid hb6
                            have HO6 := Lib.hid (show w6.ownsRow B 61 7 (.slice a6 (q + 1) c6) (q + 1) ((ns.take (q + 1)).flatMap Nd.cs) by simpa using ho6)
                            clear hb6 ho6 hg6 hat6 hwq htq hq0 hqn hqc
                            simp only [Nat.zero_add]))
  go_loopw [8, 9] (fun l i wr => ∃ k : Nat, k ≤ ml ∧ i = .int .i64 k ∧ ∃ la lc ms', l = .slice la (q + 1 + k) lc ∧ BhW wr B q k ns ms la lc ms' ∧ Below w.heap.size w wr) (fun _ i _ => ml - (intOf i).toNat)
  case atStart => exact ⟨0, by omega, rfl, a6, c6, [], rfl, ⟨by simpa using HO6.out, fun nd h => (by cases h), rfl⟩, HB6.out⟩
  case round =>
    obtain ⟨k, hk, rfl, la, lc, ms', rfl, hbh, hb⟩ := hrel
    have HBH := Lib.hid hbh
    have HBW := Lib.hid hb
    clear hbh hb
    by_cases hlt : k < ml
    · have hltI : (k : Int) < (ml : Int) := by omega
      obtain ⟨mb, mo, nd, he, hnd, hcl0⟩ := HM.out.at hlt
      subst he
      have hcl := fun j v hv => (HBW.out.cell (p := ⟨mb, mo + k * 7 + j, none⟩) (block_lt_of_cell (hcl0 j v hv))).trans (hcl0 j v hv)
      have n0 := hcl 0 _ rfl
      have n1 := hcl 1 _ rfl
      have n2 := hcl 2 _ rfl
      have n3 := hcl 3 _ rfl
      have n4 := hcl 4 _ rfl
      have n5 := hcl 5 _ rfl
      have n6 := hcl 6 _ rfl
      simp only [Nat.add_zero] at n0
      have HND := Lib.hid hnd
      have HN6 := Lib.hid (hcl0 6 _ rfl)
      clear hcl hcl0 hnd
      go_upto_region 7 with (fail)
      obtain ⟨w1, hw1⟩ : ∃ w1, w1 = wr.alloc (boxN nd none 0 0) := ⟨_, rfl⟩
      have g1 : w1.heap[wr.heap.size]? = some (boxN nd none 0 0) := by rw [hw1]; exact heap_alloc_new wr _
      have hb1 : Below wr.heap.size wr w1 := by rw [hw1]; exact bel1 _ _
      rw [← hw1]
      clear hw1
      have G1 := Lib.hid g1
      have HB1 := Lib.hid hb1
      have HKR := Lib.hid (HOK.out nd (List.mem_of_getElem? HND.out)).ok.1
      have hkl20 := HKL.out nd (List.mem_of_getElem? HND.out)
      obtain ⟨ka, hka⟩ : ∃ ka, ka = nd.ka := ⟨_, rfl⟩
      have HKA := Lib.hid hka
      rw [← hka] at HN6
      clear g1 hb1 n0 n1 n2 n3 n4 n5 n6 hka
      obtain ⟨wo, rfl⟩ : ∃ wo : World, wo = wr := ⟨_, rfl⟩
      go_wp2_with fail
      go_loopw [11] (fun j wx => ∃ m : Nat, m ≤ nd.kl ∧ j = .int .i64 m ∧ ∃ xa xc, wx.heap[wo.heap.size]? = some (boxN nd xa m xc) ∧ wx.ownsRow wo.heap.size 3 1 (.slice xa m xc) m (((nd.ks.take m).map (shiftG q)).flatMap Iv) ∧ Below wo.heap.size wo wx) (fun j _ => nd.kl - (intOf j).toNat)
      case atStart => exact ⟨0, by omega, rfl, none, 0, G1.out, World.ownsRow_nil _ _ _ _, HB1.out⟩
      case round =>
        obtain ⟨m, hm, rfl, xa, xc, hg, ho, hb⟩ := hrel
        have HG := Lib.hid hg
        have HO := Lib.hid ho
        have HBX := Lib.hid hb
        have x6 := cell_of_row wr _ 6 _ _ _ hg
        simp only [List.getElem?_toArray, List.getElem?_cons_zero, List.getElem?_cons_succ] at x6
        have n60 := (HBW.out.cell (p := ⟨mb, mo + k * 7 + 6, none⟩) (block_lt_of_cell HN6.out)).trans HN6.out
        have n6 := (hb.cell (p := ⟨mb, mo + k * 7 + 6, none⟩) (block_lt_of_cell n60)).trans n60
        have HGR := Lib.hid (show wo.heap.size < wr.heap.size from (Array.getElem?_eq_some_iff.1 hg).1)
        clear hg ho hb n60
        by_cases hmt : m < nd.kl
        · obtain ⟨kb, ko, x, hke, hx, hxc⟩ := HKR.out.at hmt
          have hka := HKA.out
          rw [hke] at hka
          subst hka
          have xc0 := hxc 0 _ rfl
          have xc1 := (HBW.out.cell (p := ⟨kb, ko + m * 1 + 0, none⟩) (block_lt_of_cell xc0)).trans xc0
          have xc2 := (HBX.out.cell (p := ⟨kb, ko + m * 1 + 0, none⟩) (block_lt_of_cell xc1)).trans xc1
          simp only [Nat.add_zero, Nat.mul_one] at xc2
          have hmI : (m : Int) < (nd.kl : Int) := by omega
          have HX := Lib.hid hx
          obtain ⟨s1, hs1⟩ : ∃ s1, s1 = IntKind.i64.wrap (x + (q : Int)) := ⟨_, rfl⟩
          obtain ⟨s2, hs2⟩ : ∃ s2, s2 = IntKind.i64.wrap (s1 + 1) := ⟨_, rfl⟩
          have HS2 := Lib.hid (show s2 = shiftG q x by rw [hs2, hs1]; rfl)
          have hv1 := hs1.symm
          have hv2 := hs2.symm
          clear hxc xc0 xc1 hx hke hs1 hs2
          have HSN := Lib.hid (show ((nd.ks.take (m + 1)).map (shiftG q)).flatMap Iv = ((nd.ks.take m).map (shiftG q)).flatMap Iv ++ Iv s2 by rw [List.take_add_one, HX.out, HS2.out]; simp)
          have HM1 := Lib.hid (show (m + 1) * 8 ≤ 140737488355328 by omega)
          have HM2 := Lib.hid (show m + 1 ≤ maxLen by simp [maxLen]; omega)
          have HNE := Lib.hid (own_ne HO.out HG.out (by decide)).symm
          have hgr : wo.heap.size < wr.heap.size := HGR.out
          have hmb : mb < wr.heap.size := block_lt_of_cell n6
          have hkb : kb < wr.heap.size := block_lt_of_cell xc2
          go_wp2_with fail
          go_region_law (first
            | (refine S_appendN rfl (.tmp 39) (.tmp 51) 59 (by rfl) sl59 wo.heap.size (.slice xa m xc) m _ (by rfl) (own_below HO.out (((Below.refl _ _).drew).alloc (Nat.le_refl _) _)) ⟨wr.heap.size, 0, none⟩ 1 1 (Iv s2) (by rfl) rfl (new_iv wr.drew s2) (by simp [Iv, Value.oneCell']) HM1.out HM2.out (by have := HGR.out; simp; omega) (fun a6 c6 w6 ho6 hg6 hat6 => ?_)
               have hh6 : w6.heap[wo.heap.size]? = some (boxN nd xa m xc) := (hg6.block _ (by have := HGR.out; simp; omega) HNE.out).trans ((Below.heap_alloc wr.drew _ _ (by simpa using HGR.out)).trans HG.out)
               have c66 := cell_of_row w6 _ 6 _ _ _ hh6
               have f66 := frozen_of_row w6 _ 6 _ _ hh6))
          all_goals
            have H1 := Lib.hid (show (w6.setCell ⟨wo.heap.size, 6, none⟩ (.slice a6 (m + 1) c6)).heap[wo.heap.size]? = some (boxN nd a6 (m + 1) c6) from heap_setCell_same w6 _ 6 _ _ _ hh6)
            have H2 := Lib.hid (ownsRow_setCell_other (a := ⟨wo.heap.size, 6, none⟩) ho6 (own_ne ho6 hh6 (by decide)) (.slice a6 (m + 1) c6))
            have H3 := Lib.hid ((((HBX.out).drew.alloc (by have := HGR.out; simp; omega) (.cells #[.int .i64 s2] 3)).grown hg6 (by have := HGR.out; simp; omega) (fun g hg => (HO.out.lt g hg).1)).setCell (p := ⟨wo.heap.size, 6, none⟩) (Nat.le_refl _) (.slice a6 (m + 1) c6))
            clear ho6 hg6 hat6 hh6 c66 f66
            go_wp2
            go_roundw
            case rel => exact ⟨m + 1, by omega, by go_num, a6, c6, H1.out, by rw [HSN.out]; exact H2.out, H3.out⟩
            case measure => simp [intOf]; omega
        · have hmI : ¬ (m : Int) < (nd.kl : Int) := by omega
          obtain rfl : m = nd.kl := by omega
          have HOX := Lib.hid (show wr.ownsRow B 3 1 (.slice xa nd.kl xc) nd.kl ((nd.ks.map (shiftG q)).flatMap Iv) by
            have h := HO.out
            rw [List.take_of_length_le (by have := HKR.out.1; omega)] at h
            exact owns_mono h (by have := HBB.out; have := HBW.out.size; omega))
          have HBH2 := Lib.hid (HBH.out.below HBX.out)
          have HBW2 := Lib.hid (HBW.out.trans (HBX.out.mono HBW.out.size))
          have x0 := cell_of_row wr _ 0 _ _ _ HG.out
          have x1 := cell_of_row wr _ 1 _ _ _ HG.out
          have x2 := cell_of_row wr _ 2 _ _ _ HG.out
          have x3 := cell_of_row wr _ 3 _ _ _ HG.out
          have x4 := cell_of_row wr _ 4 _ _ _ HG.out
          have x5 := cell_of_row wr _ 5 _ _ _ HG.out
          simp only [List.getElem?_toArray, List.getElem?_cons_zero, List.getElem?_cons_succ] at x0 x1 x2 x3 x4 x5
          have HZ := Lib.hid HBW2.out.size
          go_wp2_with (at_builtin; (refine L_appendN rfl _ _ _ rfl sl48 B (.slice la (q + 1 + k) lc) (q + 1 + k) _ rfl (own_below HBH2.out.l (bel1 _ (.cells (Nd.v (⟨nd.op, nd.nm, nd.vk, nd.vn, nd.vt, nd.sa, nd.sl, nd.sc, xa, nd.kl, xc, nd.ks.map (shiftG q)⟩ : Nd)) 61))) _ 1 1 (Nd.cs (⟨nd.op, nd.nm, nd.vk, nd.vn, nd.vt, nd.sa, nd.sl, nd.sc, xa, nd.kl, xc, nd.ks.map (shiftG q)⟩ : Nd)) rfl rfl (new_nd wr (⟨nd.op, nd.nm, nd.vk, nd.vn, nd.vt, nd.sa, nd.sl, nd.sc, xa, nd.kl, xc, nd.ks.map (shiftG q)⟩ : Nd) rfl) (by simp [Nd.cs, Value.oneCell']) (by omega) (by simp [maxLen]; omega) (by have := HBB.out; have := HZ.out; simp; omega) (fun a7 c7 w7 ho7 hg7 hat7 => ?_)
                                    have hbh7 := BhW.add (HBH2.out.below (bel1 _ _)) HND.out (own_below HOX.out (bel1 _ _)) ho7 hg7
                                    have hb7 := (HBW2.out.alloc HZ.out _).grown hg7 (by have := HZ.out; simp; omega) (fun g hg => by have := (HBH2.out.l.lt g hg).1; have := HBB.out; omega)
                                    have HBH7 := Lib.hid hbh7
                                    have HB7 := Lib.hid hb7
                                    clear ho7 hg7 hat7 hbh7 hb7))
          go_roundw
          case rel => exact ⟨k + 1, by omega, by go_num, a7, c7, _, rfl, HBH7.out, HB7.out⟩
          case measure => simp [intOf]; omega
    · have hltI : ¬ (k : Int) < (ml : Int) := by omega
      obtain rfl : k = ml := by omega
      have HRS := Lib.hid (RS.of_owns HBH.out.l (by decide) Nd_len2 (by omega))
      have HMM := Lib.hid (show ms'.map Nd.bare = ms.map (fun nd => (nd.shift (shiftG q)).bare) by
        have h := HBH.out.m
        rwa [List.take_of_length_le (by have := HLM.out; omega)] at h)
      have HNW := Lib.hid (fun nd hm => by
        have hb : nd.bare ∈ ms'.map Nd.bare := List.mem_map.2 ⟨nd, hm, rfl⟩
        rw [HMM.out] at hb
        obtain ⟨nd0, h0, he⟩ := List.mem_map.1 hb
        have hle : nd.kl = nd0.kl := (congrArg Nd.kl he.symm : nd.bare.kl = (nd0.shift (shiftG q)).bare.kl)
        exact bare_ndw he.symm (RS.of_owns (HBH.out.k nd hm) (by decide) Iv_len (by have := HKL.out nd0 h0; omega)) ((HOK.out nd0 h0).below HBW.out) : ∀ nd ∈ ms', NdW wr nd)
      go_wp2_with fail
      go_ret2
      refine ⟨⟨la, lc, ms', ?_, HRS.out, HMM.out, HNW.out⟩, HBW.out⟩
      have e : ((q + k : Nat) : Int) = (q : Int) + (k : Int) := by omega
      rw [e]
      go_num
end Go.Proofs.YtcnckjlmldnblaaDoor
