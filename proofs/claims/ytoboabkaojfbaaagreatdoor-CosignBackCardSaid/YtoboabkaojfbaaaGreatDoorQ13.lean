import Derived.Test.YtoboabkaojfbaaaGreatDoorQ12
import Derived.Laws.CopyOwn
import Derived.Deep.RegionHeld3
import Derived.IntWalk
import Derived.Deep.MidRow
import Derived.BigGuardPart
import Derived.BigQuiet
import Derived.Deep.QuietTactic
import Derived.OrdersHeld
namespace Go.Proofs.YtoboabkaojfbaaaGreatDoor
open Go Go.RowKit
set_option maxRecDepth 100000
set_option maxHeartbeats 1000000
set_option linter.unusedVariables false
set_option linter.unusedSimpArgs false

set_option maxHeartbeats 4000000
theorem left_any (w : World) (gr : Nat) (a : Option Addr) (n c : Nat) (l : List UInt8) (p : Nat) (h : RdX w gr a n c l p) (hp : p ≤ l.length) :
    Calls Tryz.prog 175 #[.pointer (some ⟨gr, 0, none⟩)] w fun e w' => e = .returned (.int .i64 ((l.length : Int) - (p : Int))) ∧ ∃ k, w' = w.drewN k := by
  obtain ⟨hh, hr, hap, hn⟩ := h
  have hnl := hr.1
  have k0 : w.cell? ⟨gr, 0, none⟩ = some (.slice a n c) := by rw [cell_of_row _ _ _ _ _ _ hh]; rfl
  have k1 : w.cell? ⟨gr, 1, none⟩ = some (.int .i64 (p : Int)) := by rw [cell_of_row _ _ _ _ _ _ hh]; rfl
  have hw1 : IntKind.i64.wrap ((n : Int) - (p : Int)) = (n : Int) - (p : Int) := IntWalk.i64_in _ (by omega)
  have HNL := Lib.hid hnl
  clear hr hap hh hnl hn hp
  go_enter Tryz.func175, Tryz.ntmps175
  go_wp2_with fail
  go_quiet (fail)
  go_wp2_with fail
  go_ret
  exact ⟨by rw [HNL.out]; rfl, _, rfl⟩
theorem done_any (w : World) (gr : Nat) (a : Option Addr) (n c : Nat) (l : List UInt8) (h : RdX w gr a n c l l.length) :
    Calls Tryz.prog 107 #[.pointer (some ⟨gr, 0, none⟩)] w fun e w' => e = .returned (.int .i64 0) ∧ ∃ k, w' = w.drewN k := by
  have HL := Lib.hid (left_any w gr a n c l l.length h (Nat.le_refl _))
  obtain ⟨hh, hr, hap, hn⟩ := h
  have k2 : w.cell? ⟨gr, 2, none⟩ = some (.int .i64 0) := by rw [cell_of_row _ _ _ _ _ _ hh]; rfl
  clear hr hap hh hn
  go_enter Tryz.func107, Tryz.ntmps107
  go_wp2_with (go_at_call 175; ((with_reducible refine HL.out.mono ?_); rintro e w' ⟨rfl, nn, rfl⟩))
  go_ret
  exact ⟨rfl, _, rfl⟩
def dgOf (x : List UInt8) : Dg := ⟨(x ++ List.replicate 32 0).take 32, by simp⟩
theorem dgOf_eq (x : List UInt8) (h : x.length = 32) : (dgOf x).1 = x := by
  show (x ++ _).take 32 = x
  rw [List.take_append_of_le_length (by omega), List.take_of_length_le (by omega)]
def dsOf (l : List UInt8) (p n : Nat) : List Dg := (List.range n).map fun i => dgOf ((l.drop (p + 32 * i)).take 32)
theorem dsOf_len (l : List UInt8) (p n : Nat) : (dsOf l p n).length = n := by simp [dsOf]
theorem dsOf_take (l : List UInt8) (p n k : Nat) (h : k < n) : (dsOf l p n).take (k + 1) = (dsOf l p n).take k ++ [dgOf ((l.drop (p + 32 * k)).take 32)] := by
  rw [List.take_add_one]
  congr 1
  unfold dsOf
  rw [List.getElem?_map, List.getElem?_range h]; rfl
theorem sl23 : Sl Tryz.prog 29 23 (.agg #[.int .u8 0, .int .u8 0, .int .u8 0, .int .u8 0, .int .u8 0, .int .u8 0, .int .u8 0, .int .u8 0, .int .u8 0, .int .u8 0, .int .u8 0, .int .u8 0, .int .u8 0, .int .u8 0, .int .u8 0, .int .u8 0, .int .u8 0, .int .u8 0, .int .u8 0, .int .u8 0, .int .u8 0, .int .u8 0, .int .u8 0, .int .u8 0, .int .u8 0, .int .u8 0, .int .u8 0, .int .u8 0, .int .u8 0, .int .u8 0, .int .u8 0, .int .u8 0]) 32 32 := ⟨Tryz.underlying29, by kernel_rfl, rfl, by decide⟩
theorem flatE_len : ∀ ds : List Dg, (ds.flatMap dgE).length = ds.length * 32 := fun ds => flat_len dgE 32 dgE_len ds
set_option maxHeartbeats 8000000
theorem digests_any (w : World) (gr : Nat) (a : Option Addr) (n c : Nat) (l : List UInt8) (p : Nat) (h : RdX w gr a n c l p) (hp : p + 8192 ≤ l.length) :
    Calls Tryz.prog 105 #[.pointer (some ⟨gr, 0, none⟩), .int .i64 256] w fun e w' => ∃ gl, e = .returned (.slice (some ⟨gl, 0, none⟩) 256 256) ∧ w.heap.size ≤ gl ∧ DS w' (some ⟨gl, 0, none⟩) 256 256 (dsOf l p 256) ∧ RdX w' gr a n c l (p + 8192) ∧ w.grownBy w' (some gr) := by
  have HH := Lib.hid h
  have hgl := h.lt
  obtain ⟨hh, hr, hap, hn⟩ := h
  have hnl := hr.1
  have k0 : w.cell? ⟨gr, 0, none⟩ = some (.slice a n c) := by rw [cell_of_row _ _ _ _ _ _ hh]; rfl
  have k1 : w.cell? ⟨gr, 1, none⟩ = some (.int .i64 (p : Int)) := by rw [cell_of_row _ _ _ _ _ _ hh]; rfl
  have k2 : w.cell? ⟨gr, 2, none⟩ = some (.int .i64 0) := by rw [cell_of_row _ _ _ _ _ _ hh]; rfl
  have HP := Lib.hid (show p + 8192 ≤ l.length ∧ l.length = n ∧ n ≤ 1000000000000 from ⟨hp, hnl.symm ▸ rfl, hn⟩)
  clear hr hap hh hnl hn hp
  go_enter Tryz.func105, Tryz.ntmps105
  go_upto_region 4 with (fail)
  obtain ⟨o1, ho1⟩ : ∃ o1 : Obj, o1 = .cells #[.int .u8 0, .int .u8 0, .int .u8 0, .int .u8 0, .int .u8 0, .int .u8 0, .int .u8 0, .int .u8 0, .int .u8 0, .int .u8 0, .int .u8 0, .int .u8 0, .int .u8 0, .int .u8 0, .int .u8 0, .int .u8 0, .int .u8 0, .int .u8 0, .int .u8 0, .int .u8 0, .int .u8 0, .int .u8 0, .int .u8 0, .int .u8 0, .int .u8 0, .int .u8 0, .int .u8 0, .int .u8 0, .int .u8 0, .int .u8 0, .int .u8 0, .int .u8 0] 23 := ⟨_, rfl⟩
  rw [← ho1]
  have hb1 : Below w.heap.size w (w.alloc o1) := (Below.refl _ _).alloc (Nat.le_refl _) _
  have l0 := keepR hb1 k0
  have l1 := keepR hb1 k1
  generalize w.alloc o1 = w1 at *
  have hw1 : IntKind.i64.wrap ((n : Int) - (p : Int)) = (n : Int) - (p : Int) := IntWalk.i64_in _ (by have := HP.out; omega)
  obtain ⟨t, ht⟩ : ∃ t : Nat, t = (n - p) / 32 := ⟨_, rfl⟩
  have htd : ((n : Int) - (p : Int)).tdiv 32 = (t : Int) := by
    have := HP.out
    rw [show (n : Int) - (p : Int) = ((n - p : Nat) : Int) by omega, ht]
    rfl
  have htd2 : ((n : Int) - (p : Int)) / 32 = (t : Int) := by have := HP.out; omega
  have hgt : decide ((t : Int) < 256) = false := by have := HP.out; simp; omega
  have htb : t ≤ 1000000000000 := by have := HP.out; omega
  have hwt : IntKind.i64.wrap (t : Int) = (t : Int) := IntWalk.i64_in _ (by omega)
  have HB1 := Lib.hid hb1
  clear ht k0 k1 k2 hb1 ho1
  go_quiet (fail)
  have HB2 := Lib.hid (below_drewN HB1.out nq)
  clear l0 l1 hw1 htd htd2 hgt hwt htb
  generalize w1.drewN nq = w2 at *
  go_upto_region 8 with (refine L_make rfl (.tmp 32) (.tmp 32) 29 (by rfl) sl23 w2.heap.size .i64 .i64 256 256 (by rfl) (by rfl) rfl (by omega) (by unfold maxLen; omega) (Nat.le_refl _) (fun w3 ho3 hg3 => ?_))
  obtain ⟨gl, hgle⟩ : ∃ gl, gl = w2.heap.size := ⟨_, rfl⟩
  rw [← hgle] at ho3 ⊢
  obtain ⟨-, hx⟩ := ho3
  have hcur : ∃ rst : List Value, rst.length = 32 * (256 - 0) ∧ w3.heap[gl]? = some (.cells (((dsOf l p 256).take 0).flatMap dgE ++ rst).toArray 23 (0, 0)) := by
    rcases hx with ⟨hv, -⟩ | ⟨g, cap, cur, hv, -, hc, -, -, hs, -⟩
    · cases hv
    · have := Value.slice.inj hv
      have e1 := this.1
      have e3 := this.2.2
      cases e1
      subst e3
      exact ⟨cur.toList, by simpa using hs, by simpa using hc⟩
  have hb3 : Below w.heap.size w w3 := HB2.out.grown hg3 HB2.out.size (by intro k hk; cases hk)
  have hgw : w.heap.size ≤ gl := by rw [hgle]; exact HB2.out.size
  have HRX := Lib.hid (HH.out.below hb3)
  have HG3 := Lib.hid (show w.grownBy w3 (some gr) from ⟨hb3.os, hb3.tape, hb3.output, hb3.size, fun k hk _ => hb3.block k hk⟩)
  have HCUR := Lib.hid hcur
  have HGW := Lib.hid hgw
  clear hx hcur hb3 hgle hgw hg3
  go_wp2_with fail
  go_loopw [36, 7] (fun v _ wr => ∃ k : Nat, k ≤ 256 ∧ v = .int .i64 k ∧ (∃ rst : List Value, rst.length = 32 * (256 - k) ∧ wr.heap[gl]? = some (.cells (((dsOf l p 256).take k).flatMap dgE ++ rst).toArray 23 (0, 0))) ∧ RdX wr gr a n c l (p + 32 * k) ∧ w.grownBy wr (some gr)) (fun v _ _ => 256 - (intOf v).toNat)
  case atStart => exact ⟨0, by omega, rfl, HCUR.out, HRX.out, HG3.out⟩
  case round =>
    obtain ⟨k, hk, rfl, hcur, hrx, hg⟩ := hrel
    have HG := Lib.hid hg
    have HC := Lib.hid hcur
    have HRD := Lib.hid hrx
    by_cases hlt : k < 256
    · have HDA := Lib.hid (digest_any wr gr a n c l (p + 32 * k) hrx (by have := HP.out; omega))
      have HLT := Lib.hid hlt
      have h9 : decide ((k : Int) < 256) = true := by simp; omega
      clear hk hcur hrx hg hlt
      have hk7 : k ≤ 255 := by have := HLT.out; omega
      go_upto_region 11 with (fail)
      clear h9
      go_wp2_with fail
      with_reducible refine HDA.out.mono ?_
      rintro e w4 ⟨rfl, hrx4, hg4⟩
      obtain ⟨rst, hrl, hcc⟩ := HC.out
      have hgl4 : w4.heap[gl]? = some (.cells (((dsOf l p 256).take k).flatMap dgE ++ rst).toArray 23 (0, 0)) := (hg4.block gl ((Array.getElem?_eq_some_iff.1 hcc).1) (fun e => by have := Option.some.inj e; have := HGW.out; omega)).trans hcc
      obtain ⟨E, hE⟩ : ∃ E, E = dgA ((l.drop (p + 32 * k)).take 32) := ⟨_, rfl⟩
      have hdl : ((l.drop (p + 32 * k)).take 32).length = 32 := by rw [List.length_take, List.length_drop]; have := HP.out; have := HLT.out; omega
      have HES := Lib.hid (show E.size = 32 by rw [hE, dgA_size, hdl])
      have HE1 := Lib.hid (show E.all (·.oneCell') = true by rw [hE]; exact dgA_all _)
      have hpl : (((dsOf l p 256).take k).flatMap dgE).length = k * 32 := by rw [flatE_len, List.length_take, dsOf_len, Nat.min_eq_left (by have := HLT.out; omega)]
      have hsw := setCells_whole gl E.toList _ _ w4 23 hgl4 (by rw [Array.length_toList, HES.out, hrl]; have := HLT.out; omega)
      rw [hpl] at hsw
      have HTH := Lib.hid (show w4.there gl (k * 32) E.size from fun j hj => by
        have h0 := there_block hgl4
        have := h0 (k * 32 + j) (by rw [List.size_toArray, List.length_append, hpl, hrl]; have := HLT.out; have := HES.out; omega)
        rwa [Nat.zero_add] at this)
      have HSW := Lib.hid hsw
      have hgs := setCells_grown gl E.toList (k * 32) w4
      have HGS := Lib.hid hgs
      have HE := Lib.hid hE
      have HRX4 := Lib.hid hrx4; have HG4 := Lib.hid hg4; have HRL := Lib.hid hrl; have HDL := Lib.hid hdl
      have HGL4 := Lib.hid (Array.getElem?_eq_some_iff.1 hgl4).1
      rw [← hE]
      clear hrx4 hg4 hcc hgl4 hE hpl hsw hgs hrl hdl
      go_wp2_with (refine wpList_store_mid rfl 23 (.tmp 43) (.tmp 42) (by rfl) gl (k * 32) E (by rfl) (by rfl) HTH.out (by rw [HES.out]; exact info38) HE1.out ?_)
      have hG4 := grown_trans HG.out HG4.out
      have hgle := HGW.out
      have hgk : w.grownBy (w4.setCells gl (k * 32) E.toList) (some gr) := ⟨HGS.out.os.trans hG4.os, HGS.out.tape.trans hG4.tape, HGS.out.output.trans hG4.output, Nat.le_trans hG4.size HGS.out.size, fun i hi hne => (HGS.out.block i (Nat.lt_of_lt_of_le hi hG4.size) (fun e => by have := Option.some.inj e; omega)).trans (hG4.block i hi hne)⟩
      have hrx5 : RdX (w4.setCells gl (k * 32) E.toList) gr a n c l (p + 32 * (k + 1)) := HH.out.grown hgk ((HGS.out.block gr (Nat.lt_of_lt_of_le hgl hG4.size) (fun e => by have := Option.some.inj e; omega)).trans (by rw [show p + 32 * (k + 1) = p + 32 * k + 32 by omega]; exact HRX4.out.1))
      have hcc5 : ∃ rst' : List Value, rst'.length = 32 * (256 - (k + 1)) ∧ (w4.setCells gl (k * 32) E.toList).heap[gl]? = some (.cells (((dsOf l p 256).take (k + 1)).flatMap dgE ++ rst').toArray 23 (0, 0)) := by
        refine ⟨rst.drop 32, by rw [List.length_drop, HRL.out]; have := HLT.out; omega, ?_⟩
        rw [HSW.out, dsOf_take l p 256 k HLT.out, List.flatMap_append, Array.length_toList, HES.out]
        have : E.toList = [dgOf ((l.drop (p + 32 * k)).take 32)].flatMap dgE := by
          rw [HE.out]
          simp [dgA, dgE, dgOf_eq _ HDL.out]
        rw [this]
      have HA := Lib.hid hgk; have HB := Lib.hid hrx5; have HC5 := Lib.hid hcc5
      clear hG4 hgle hgk hrx5 hcc5
      go_roundw
      case rel => exact ⟨k + 1, by have := HLT.out; omega, by go_num, HC5.out, HB.out, HA.out⟩
      case measure => have := HLT.out; simp [intOf]; omega
    · obtain rfl : k = 256 := by omega
      have h9 : decide (((256 : Nat) : Int) < 256) = false := by decide
      obtain ⟨rst, hrl, hcc⟩ := hcur
      have hnil : rst = [] := List.eq_nil_of_length_eq_zero (by rw [hrl])
      rw [hnil, List.append_nil, List.take_of_length_le (by rw [dsOf_len]; exact Nat.le_refl _)] at hcc
      have HDS := Lib.hid (show DS wr (some ⟨gl, 0, none⟩) 256 256 (dsOf l p 256) from ⟨dsOf_len _ _ _, Nat.le_refl _, by omega, fun i x hx => ⟨gl, 0, rfl, fun j v hv => by
        rw [cell_of_row _ _ _ _ _ _ hcc, Nat.zero_add, List.getElem?_toArray]
        exact flat_get dgE 32 dgE_len _ i x hx j v hv⟩⟩)
      clear hlt hk hcc hrl hnil hrx hg HC
      go_wp2_with fail
      go_ret
      exact ⟨gl, rfl, HGW.out, HDS.out, HRD.out, HG.out⟩
end Go.Proofs.YtoboabkaojfbaaaGreatDoor
namespace Go.Proofs.YtoboabkaojfbaaaGreatDoor
open Go Go.RowKit
set_option maxRecDepth 100000
set_option maxHeartbeats 1000000
set_option linter.unusedVariables false
set_option linter.unusedSimpArgs false
/-! Heads, notes and proofs of two faces as data; how they are written and read. -/
structure Hd where
  log : Dg
  size : Int
  root : Dg
  index : Dg
  clock : Int
deriving DecidableEq
structure Sg where
  key : Dg
  tag : Dg
deriving DecidableEq
structure Nt where
  head : Hd
  signs : List Sg
deriving DecidableEq
structure Fc where
  a : Nt
  b : Nt
  form : Int
  number : Int
  leafA : Dg
  leafB : Dg
  wayA : List Dg
  wayB : List Dg
deriving DecidableEq
def rightH (h : Hd) : Bool := decide (0 ≤ h.size) && decide (h.size ≤ 1099511627776) && decide (0 ≤ h.clock) && decide (h.clock ≤ 4611686018427387904)
def laidP (h : Hd) : List UInt8 := be 1 32 ++ (h.log.1 ++ (be 8 h.size.toNat ++ (h.root.1 ++ (h.index.1 ++ be 8 h.clock.toNat))))
theorem laidP_len (h : Hd) : (laidP h).length = 113 := by simp [laidP, be_len, h.log.2, h.root.2, h.index.2]
/-- bytes.Compare. -/
def cmpB : List UInt8 → List UInt8 → Int
  | [], [] => 0
  | [], _ :: _ => -1
  | _ :: _, [] => 1
  | a :: x, b :: y => if a < b then -1 else if b < a then 1 else cmpB x y
def cmpS (a b : Sg) : Int := cmpB a.key.1 b.key.1
def riseP : List Sg → Bool
  | [] => true
  | [_] => true
  | a :: b :: r => decide (cmpS a b < 0) && riseP (b :: r)
/-- A reader's state: what is still to be read, and why no more. -/
abbrev Rs := List UInt8 × Nat
def rTake (k : Nat) (s : Rs) : Nat × Rs := if s.2 ≠ 0 then (0, s) else if s.1.length < k then (0, (s.1, 8)) else (valN (s.1.take k), (s.1.drop k, 0))
def rRaw (n : Nat) (s : Rs) : List UInt8 × Rs := if s.2 ≠ 0 then ([], s) else if s.1.length < n then ([], (s.1, 8)) else (s.1.take n, (s.1.drop n, 0))
def rDg (s : Rs) : Dg × Rs := (dgOf (rRaw 32 s).1, (rRaw 32 s).2)
def rDgN : Nat → Rs → List Dg × Rs
  | 0, s => ([], s)
  | n + 1, s => ((rDg s).1 :: (rDgN n (rDg s).2).1, (rDgN n (rDg s).2).2)
def rDgs (n : Nat) (s : Rs) : List Dg × Rs := if s.2 ≠ 0 then ([], s) else if s.1.length / 32 < n then ([], (s.1, 8)) else rDgN n s
def rBytes (most : Nat) (s : Rs) : List UInt8 × Rs :=
  if s.2 ≠ 0 then ([], s) else if s.1.length < 4 then ([], (s.1, 8)) else if most < valN (s.1.take 4) then ([], (s.1, 6)) else if (s.1.drop 4).length < valN (s.1.take 4) then ([], (s.1, 8)) else rRaw (valN (s.1.take 4)) (s.1.drop 4, 0)
def rDone (s : Rs) : Nat := if s.2 = 0 ∧ 0 < s.1.length then 8 else s.2
theorem rTake_be (k n : Nat) (r : List UInt8) (h : n < 256 ^ k) : rTake k (be k n ++ r, 0) = (n, (r, 0)) := by
  unfold rTake
  have hl := be_len k n
  rw [if_neg (by simp), if_neg (by simp [hl])]
  show (valN ((be k n ++ r).take k), ((be k n ++ r).drop k, 0)) = _
  rw [List.take_append_of_le_length (by omega), List.take_of_length_le (by omega), List.drop_append_of_le_length (by omega), List.drop_of_length_le (by omega), valN_be k n h]; rfl
theorem rRaw_app (x r : List UInt8) : rRaw x.length (x ++ r, 0) = (x, (r, 0)) := by
  unfold rRaw
  rw [if_neg (by simp), if_neg (by simp)]
  show ((x ++ r).take x.length, ((x ++ r).drop x.length, 0)) = _
  rw [List.take_left', List.drop_left'] <;> rfl
theorem rDg_app (d : Dg) (r : List UInt8) : rDg (d.1 ++ r, 0) = (d, (r, 0)) := by
  have h := rRaw_app d.1 r
  rw [d.2] at h
  unfold rDg
  rw [h]
  exact Prod.ext (Subtype.ext (dgOf_eq d.1 d.2)) rfl
theorem rDgN_app : ∀ (ds : List Dg) (r : List UInt8), rDgN ds.length ((ds.map (·.1)).flatten ++ r, 0) = (ds, (r, 0))
  | [], r => rfl
  | d :: ds, r => by
    have e : (((d :: ds).map (·.1)).flatten ++ r) = d.1 ++ ((ds.map (·.1)).flatten ++ r) := by simp
    rw [e]
    show ((rDg _).1 :: (rDgN ds.length (rDg _).2).1, (rDgN ds.length (rDg _).2).2) = _
    rw [rDg_app, rDgN_app ds r]
theorem rDgs_app (ds : List Dg) (r : List UInt8) (n : Nat) (hn : n = ds.length) : rDgs n ((ds.map (·.1)).flatten ++ r, 0) = (ds, (r, 0)) := by
  subst hn
  unfold rDgs
  rw [if_neg (by simp), if_neg (by rw [List.length_append, flatD_len]; omega), rDgN_app]
theorem rBytes_app (most : Nat) (x r : List UInt8) (h : x.length ≤ most) (h2 : most < 4294967296) : rBytes most (be 4 x.length ++ (x ++ r), 0) = (x, (r, 0)) := by
  have hl := be_len 4 x.length
  have e1 : ((be 4 x.length ++ (x ++ r)).take 4) = be 4 x.length := by rw [List.take_append_of_le_length (by omega), List.take_of_length_le (by omega)]
  have e2 : ((be 4 x.length ++ (x ++ r)).drop 4) = x ++ r := by rw [List.drop_append_of_le_length (by omega), List.drop_of_length_le (by omega)]; rfl
  have e3 : valN (be 4 x.length) = x.length := valN_be 4 _ (by show x.length < 4294967296; omega)
  unfold rBytes
  rw [if_neg (by simp), if_neg (by simp [hl])]
  show (if most < valN ((be 4 x.length ++ (x ++ r)).take 4) then _ else if ((be 4 x.length ++ (x ++ r)).drop 4).length < valN ((be 4 x.length ++ (x ++ r)).take 4) then _ else rRaw (valN ((be 4 x.length ++ (x ++ r)).take 4)) ((be 4 x.length ++ (x ++ r)).drop 4, 0)) = _
  rw [e1, e2, e3, if_neg (by omega), if_neg (by simp), rRaw_app]
/-- head.take. -/
def rHead (s : Rs) : Option Hd × Rs :=
  let k := rTake 1 s
  let l := rDg k.2
  let z := rTake 8 l.2
  let r := rDg z.2
  let x := rDg r.2
  let c := rTake 8 x.2
  (if c.2.2 ≠ 0 ∨ k.1 ≠ 32 ∨ 1099511627776 < z.1 ∨ 4611686018427387904 < c.1 then none else some ⟨l.1, z.1, r.1, x.1, c.1⟩, c.2)
theorem rHead_app (h : Hd) (hr : rightH h = true) (r : List UInt8) : rHead (laidP h ++ r, 0) = (some h, (r, 0)) := by
  simp only [rightH, Bool.and_eq_true, decide_eq_true_eq] at hr
  have e : laidP h ++ r = be 1 32 ++ (h.log.1 ++ (be 8 h.size.toNat ++ (h.root.1 ++ (h.index.1 ++ (be 8 h.clock.toNat ++ r))))) := by unfold laidP; simp only [List.append_assoc]
  have p8 : (256 : Nat) ^ 8 = 18446744073709551616 := by decide +kernel
  unfold rHead
  rw [e]
  simp only [rTake_be 1 32 _ (by decide), rDg_app, rTake_be 8 h.size.toNat _ (by rw [p8]; omega), rTake_be 8 h.clock.toNat _ (by rw [p8]; omega)]
  rw [if_neg (by omega)]
  congr 2
  rcases h with ⟨a, b, c, d, f⟩
  simp only [Hd.mk.injEq, true_and]
  simp only at hr
  omega
def rSigns : Nat → Rs → List Sg × Rs
  | 0, s => ([], s)
  | n + 1, s =>
    let k := rDg s
    let t := rDg k.2
    (⟨k.1, t.1⟩ :: (rSigns n t.2).1, (rSigns n t.2).2)
def signB (l : List Sg) : List UInt8 := l.flatMap fun s => s.key.1 ++ s.tag.1
theorem rSigns_app : ∀ (l : List Sg) (r : List UInt8), rSigns l.length (signB l ++ r, 0) = (l, (r, 0))
  | [], r => rfl
  | s :: l, r => by
    have e : signB (s :: l) ++ r = s.key.1 ++ (s.tag.1 ++ (signB l ++ r)) := by simp [signB]
    rw [e]
    show (⟨(rDg _).1, (rDg (rDg _).2).1⟩ :: (rSigns l.length (rDg (rDg _).2).2).1, (rSigns l.length (rDg (rDg _).2).2).2) = _
    rw [rDg_app]
    show (⟨_, (rDg _).1⟩ :: (rSigns l.length (rDg _).2).1, (rSigns l.length (rDg _).2).2) = _
    rw [rDg_app, rSigns_app l r]
/-- head.DecodeNote. -/
def decN (raw : List UInt8) : Option Nt :=
  let k := rTake 1 (raw, 0)
  let h := rHead k.2
  let c := rTake 1 h.2
  match h.1 with
  | none => none
  | some hd => if k.1 ≠ 33 ∨ c.1 = 0 ∨ 16 < c.1 then none else
    let s := rSigns c.1 c.2
    if rDone s.2 = 0 ∧ riseP s.1 = true then some ⟨hd, s.1⟩ else none
def noteB (h : Hd) (l : List Sg) : List UInt8 := be 1 33 ++ (laidP h ++ (be 1 l.length ++ signB l))
theorem signB_len (l : List Sg) : (signB l).length = 64 * l.length := by
  induction l with
  | nil => rfl
  | cons s l ih => simp only [signB, List.flatMap_cons, List.length_append, s.key.2, s.tag.2, List.length_cons] at ih ⊢; omega
theorem noteB_len (h : Hd) (l : List Sg) : (noteB h l).length = 115 + 64 * l.length := by
  simp only [noteB, List.length_append, be_len, laidP_len, signB_len]; omega
theorem decN_of (h : Hd) (l : List Sg) (hr : rightH h = true) (h1 : 1 ≤ l.length) (h2 : l.length ≤ 16) (h3 : riseP l = true) : decN (noteB h l) = some ⟨h, l⟩ := by
  unfold decN noteB
  simp only [rTake_be 1 33 _ (by decide), rHead_app h hr, rTake_be 1 l.length _ (by show l.length < 256; omega)]
  rw [if_neg (by omega)]
  have := rSigns_app l []
  rw [List.append_nil] at this
  rw [this, if_pos ⟨rfl, h3⟩]
end Go.Proofs.YtoboabkaojfbaaaGreatDoor
namespace Go.Proofs.YtoboabkaojfbaaaGreatDoor
open Go
set_option maxRecDepth 100000
set_option linter.unusedVariables false
section
variable {P : Program} {ops : Array Oper} {Q : Exit → Act → World → Prop} {md : Region.Mode} {S : World → Prop}
/-- An operation that leaves a value and does nothing else is taken first. -/
theorem wpT (i : Nat) {oi : Oper} {v : Value} {fuel : Nat} {listed l' : Array Bool} {a a' : Act} {w : World} (hi : ops[i]? = some oi := by rfl)
    (hs : Region.noSelect ops = true := by kernel_rfl) (hf : Region.free md ops listed i = true := by kernel_rfl) (hr : (Region.ready md ops listed).contains i = true := by kernel_rfl)
    (hQ : ∀ c a w, Q (.panic c) (a.put oi.dst v) w → Q (.panic c) a w := by exact fun _ _ _ h => h) (hw : Region.wanted oi (yielded ops a.tmps) = true := by rfl) (hv : ∀ w, S w → (execOp a.eval oi).run P w = .ok (.value v) w := by (intro w hSw; (try dsimp only at hSw); go_simp; all_goals (first | done | with_reducible rfl))) (hS : S w := by assumption)
    (hl : listed.setIfInBounds i true = l' := by ((try simp only [List.setIfInBounds_toArray, List.set_cons_zero, List.set_cons_succ]); all_goals (first | done | rfl))) (ha : a.put oi.dst v = a' := by (simp only [Act.put, List.setIfInBounds_toArray, List.set_cons_zero, List.set_cons_succ, List.getElem_toArray, List.getElem_cons_succ, List.getElem_cons_zero]; all_goals (first | done | rfl)))
    (h : wpAnyH P md ops Q S fuel l' a' w) : wpAnyH P md ops Q S (fuel + 1) listed a w := by
  subst hl ha
  exact wpAnyH_take hi hs hf hr hQ (Or.inl ⟨hw, hv⟩) hS h
/-- The same, the value named. -/
theorem wpL (i : Nat) (v : Value) {oi : Oper} {fuel : Nat} {listed l' : Array Bool} {a a' : Act} {w : World} (hv : ∀ w, S w → (execOp a.eval oi).run P w = .ok (.value v) w) (hi : ops[i]? = some oi := by rfl)
    (hs : Region.noSelect ops = true := by kernel_rfl) (hf : Region.free md ops listed i = true := by kernel_rfl) (hr : (Region.ready md ops listed).contains i = true := by kernel_rfl)
    (hQ : ∀ c a w, Q (.panic c) (a.put oi.dst v) w → Q (.panic c) a w := by exact fun _ _ _ h => h) (hw : Region.wanted oi (yielded ops a.tmps) = true := by rfl) (hS : S w := by assumption)
    (hl : listed.setIfInBounds i true = l' := by ((try simp only [List.setIfInBounds_toArray, List.set_cons_zero, List.set_cons_succ]); all_goals (first | done | rfl))) (ha : a.put oi.dst v = a' := by (simp only [Act.put, List.setIfInBounds_toArray, List.set_cons_zero, List.set_cons_succ, List.getElem_toArray, List.getElem_cons_succ, List.getElem_cons_zero]; all_goals (first | done | rfl)))
    (h : wpAnyH P md ops Q S fuel l' a' w) : wpAnyH P md ops Q S (fuel + 1) listed a w := by
  subst hl ha
  exact wpAnyH_take hi hs hf hr hQ (Or.inl ⟨hw, hv⟩) hS h
/-- One operation alone is ready. -/
theorem wpR (i : Nat) {o : Oper} {fuel : Nat} {listed : Array Bool} {a : Act} {w : World} (hr : Region.ready md ops listed = [i] := by kernel_rfl) (ho : ops[i]? = some o := by rfl)
    (h : ∀ K' : Act → World → Prop, Shut (∀ a w, S w → (S w → wpAnyH P md ops Q S fuel (listed.setIfInBounds i true) a w) → K' a w) → if Region.wanted o (yielded ops a.tmps) = true then Oper.wp P o a w K' Q else K' (a.put o.dst undef) w) : wpAnyH P md ops Q S (fuel + 1) listed a w :=
  wpAnyH_ready hr (by simp) (AllReadyH.cons ho h AllReadyH.nil)
/-- Back into the region. -/
theorem bk {K' : Act → World → Prop} {fuel : Nat} {listed l' : Array Bool} {a a' : Act} {w : World} (hK : Shut (∀ a w, S w → (S w → wpAnyH P md ops Q S fuel listed a w) → K' a w)) (hS : S w)
    (hl : listed = l' := by ((try simp only [List.setIfInBounds_toArray, List.set_cons_zero, List.set_cons_succ]); all_goals (first | done | rfl))) (ha : a = a' := by ((try simp only [Act.put, List.setIfInBounds_toArray, List.set_cons_zero, List.set_cons_succ, List.getElem_toArray, List.getElem_cons_succ, List.getElem_cons_zero]); all_goals (first | done | rfl)))
    (h : S w → wpAnyH P md ops Q S fuel l' a' w) : K' a w := by
  subst hl ha
  exact hK.out _ _ hS h
/-- The same where a panic's post asks for the defers alone. -/
theorem put_defers (a : Act) (d : Option Tmp) (v : Value) : (a.put d v).defers = a.defers := by cases d <;> rfl
theorem wpTR {R : Exit → Act → World → Prop} (hR : ∀ c a a' w, R (.panic c) a w → a.defers = a'.defers → R (.panic c) a' w) (i : Nat) {oi : Oper} {v : Value} {fuel : Nat} {listed l' : Array Bool} {a a' : Act} {w : World} (hi : ops[i]? = some oi := by rfl) (hs : Region.noSelect ops = true := by kernel_rfl) (hf : Region.free md ops listed i = true := by kernel_rfl) (hr : (Region.ready md ops listed).contains i = true := by kernel_rfl) (hw : Region.wanted oi (yielded ops a.tmps) = true := by rfl) (hQ : ∀ c a w, Q (.panic c) a w = R (.panic c) a w := by exact fun _ _ _ => rfl) (hv : ∀ w, S w → (execOp a.eval oi).run P w = .ok (.value v) w := by (intro w hSw; (try dsimp only at hSw); go_simp; all_goals (first | done | with_reducible rfl))) (hS : S w := by assumption)
    (hl : listed.setIfInBounds i true = l' := by ((try simp only [List.setIfInBounds_toArray, List.set_cons_zero, List.set_cons_succ]); all_goals (first | done | rfl))) (ha : a.put oi.dst v = a' := by (simp only [Act.put, List.setIfInBounds_toArray, List.set_cons_zero, List.set_cons_succ, List.getElem_toArray, List.getElem_cons_succ, List.getElem_cons_zero]; all_goals (first | done | rfl)))
    (h : wpAnyH P md ops Q S fuel l' a' w) : wpAnyH P md ops Q S (fuel + 1) listed a w := by
  subst hl ha
  exact wpAnyH_take hi hs hf hr (fun c a w h => by rw [hQ] at h ⊢; exact hR c _ _ w h (put_defers _ _ _)) (Or.inl ⟨hw, hv⟩) hS h
end
end Go.Proofs.YtoboabkaojfbaaaGreatDoor
