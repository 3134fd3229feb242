import Derived.Test.YteoggphafhcchaaGreatN5
import Derived.Test.YteoggphafhcchaaGreatM12
import Derived.Test.YteoggphafhcchaaGreatM12b
import Derived.Test.YteoggphafhcchaaGreatM14
import Derived.Test.YteoggphafhcchaaGreatM17
import Derived.Test.YteoggphafhcchaaGreatM19
import Derived.Test.YteoggphafhcchaaGreatM21
namespace Go.Proofs.YteoggphafhcchaaGreat
open Go Go.RowKit
set_option maxRecDepth 100000
set_option maxHeartbeats 1000000
set_option linter.unusedVariables false
set_option linter.unusedSimpArgs false
open Go.Maps Go.WideMaps
theorem acts_any (w : World) (L : Lay) (gd : Nat) (d : Dm) (h : DAt w L gd d) : Calls Tryz.prog 14 #[.pointer (some ⟨gd, 0, none⟩)] w fun e w' => e = .returned (.int .i64 d.acts) ∧ w' = w := by
  have c := h.cells.1
  have HH := Lib.hid h
  clear h
  go_enter Tryz.func14, Tryz.ntmps14
  go_wp2_with fail
  go_ret
  exact ⟨rfl, rfl⟩
theorem power_any (w : World) (L : Lay) (gd : Nat) (d : Dm) (h : DAt w L gd d) : Calls Tryz.prog 18 #[.pointer (some ⟨gd, 0, none⟩)] w fun e w' => e = .returned (.bool d.power) ∧ w' = w := by
  have c := h.cells.2.2.2.2.2.1
  have HH := Lib.hid h
  clear h
  go_enter Tryz.func18, Tryz.ntmps18
  go_wp2_with fail
  go_ret
  exact ⟨rfl, rfl⟩
theorem epoch_any (w : World) (L : Lay) (gd : Nat) (d : Dm) (h : DAt w L gd d) : Calls Tryz.prog 11 #[.pointer (some ⟨gd, 0, none⟩)] w fun e w' => e = .returned (.int .i64 d.epoch) ∧ w' = w := by
  have c := h.cells.2.2.2.2.1
  have HH := Lib.hid h
  clear h
  go_enter Tryz.func11, Tryz.ntmps11
  go_wp2_with fail
  go_ret
  exact ⟨rfl, rfl⟩
theorem used_any (w : World) (L : Lay) (gd : Nat) (d : Dm) (h : DAt w L gd d) : Calls Tryz.prog 24 #[.pointer (some ⟨gd, 0, none⟩)] w fun e w' => e = .returned (.int .i64 d.used) ∧ w' = w := by
  have c := h.cells.2.2.1
  have HH := Lib.hid h
  clear h
  go_enter Tryz.func24, Tryz.ntmps24
  go_wp2_with fail
  go_ret
  exact ⟨rfl, rfl⟩

theorem newdisk_any (w : World) (space : Int) (h0 : 0 ≤ space) (h1 : space ≤ 1099511627776) : Calls Tryz.prog 21 #[.int .i64 space] w fun e w' => Below w.heap.size w w' ∧ ∃ L gd, e = .returned (.tuple #[.pointer (some ⟨gd, 0, none⟩), .nilIface]) ∧ DAt w' L gd (Dm.new space) ∧ ∀ k, k < w.heap.size → L.ρ k = 0 := by
  have hmm := @run_makeMap Tryz.prog
  go_enter Tryz.func21, Tryz.ntmps21
  go_wp2_with fail
  go_ret2
  obtain ⟨w1, hw1⟩ : ∃ w1, w1 = w.alloc (.map #[] 0) := ⟨_, rfl⟩
  obtain ⟨w2, hw2⟩ : ∃ w2, w2 = w1.alloc (.map #[] 0) := ⟨_, rfl⟩
  obtain ⟨w3, hw3⟩ : ∃ w3, w3 = w2.alloc (.map #[] 0) := ⟨_, rfl⟩
  have z1 : w1.heap.size = w.heap.size + 1 := by rw [hw1]; simp
  have z2 : w2.heap.size = w.heap.size + 2 := by rw [hw2]; simp [z1]
  have z3 : w3.heap.size = w.heap.size + 3 := by rw [hw3]; simp [z2]
  have m1 : w1.ownsMap Tryz.prog 9 ptrR w.heap.size 0 (.map []) := by rw [hw1]; exact World.ownsMap_made w Tryz.prog 9 ptrR
  have m2 : w2.ownsMap Tryz.prog 9 ptrR w1.heap.size 0 (.map []) := by rw [hw2]; exact World.ownsMap_made w1 Tryz.prog 9 ptrR
  have m3 : w3.ownsMap Tryz.prog 9 (plainElem Tryz.prog 3) w2.heap.size 0 (.map [] : DataW Unit) := by rw [hw3]; exact World.ownsMap_made w2 Tryz.prog 9 _
  rw [z1] at m2
  rw [z2] at m3
  let L : Lay := ⟨put1 (put1 (put1 (put1 (fun _ => 0) (w.heap.size + 3) 1) w.heap.size 2) (w.heap.size + 1) 3) (w.heap.size + 2) 4, fun _ => 0, w.heap.size, w.heap.size + 1, w.heap.size + 2, .slice none 0 0, .slice none 0 0⟩
  have hρ : ∀ k, L.ρ k = if k = w.heap.size + 2 then 4 else if k = w.heap.size + 1 then 3 else if k = w.heap.size then 2 else if k = w.heap.size + 3 then 1 else 0 := fun k => rfl
  have hw4 : (((w.alloc (.map #[] 0)).alloc (.map #[] 0)).alloc (.map #[] 0)) = w3 := by rw [hw3, hw2, hw1]
  rw [hw4]
  have hbb : ∀ {B : Nat} {x : World} (o : Obj), Below B w x → B ≤ x.heap.size → Below B w (x.alloc o) := fun o hx hB => hx.alloc hB o
  have b3 : Below w.heap.size w w3 := by
    rw [hw3]; refine hbb _ ?_ (by omega)
    rw [hw2]; refine hbb _ ?_ (by omega)
    rw [hw1]; exact bel1 _ _
  obtain ⟨w4, hw4⟩ : ∃ w4, w4 = w3.alloc (boxDisk L (Dm.new space)) := ⟨_, rfl⟩
  have g4 : w4.heap[w.heap.size + 3]? = some (boxDisk L (Dm.new space)) := by rw [hw4, ← z3]; exact heap_alloc_new w3 _
  have b34 : Below w3.heap.size w3 w4 := by rw [hw4]; exact bel1 _ _
  have z4 : w4.heap.size = w.heap.size + 4 := by rw [hw4]; simp [z3]
  have hb23 : Below w2.heap.size w2 w3 := by rw [hw3]; exact bel1 _ _
  have hb12 : Below w1.heap.size w1 w2 := by rw [hw2]; exact bel1 _ _
  have b24 := hb23.trans (b34.mono hb23.size)
  have b14 := hb12.trans (b24.mono hb12.size)
  have e4 : w3.alloc (.cells #[.int .i64 0, .int .i64 space, .int .i64 0, .int .i64 0, .int .i64 0, .bool true, .map (some w.heap.size), .map (some (w.heap.size + 1)), .slice none 0 0, .slice none 0 0, .map (some (w.heap.size + 1 + 1))] 48) = w4 := hw4.symm
  rw [e4]
  refine ⟨b3.trans (b34.mono b3.size), L, w.heap.size + 3, rfl, ?_, fun k hk => by rw [hρ]; repeat rw [if_neg (by omega)]⟩
  refine ⟨g4, ?_, fun k hk => ?_, ⟨.map [], m1.kept (gwk b14) (by simp), ?_, rfl, fun s => ⟨rfl, rfl⟩⟩, ⟨.map [], m2.kept (gwk b24) (by simp), ?_, rfl, fun s => ⟨rfl, rfl⟩⟩, ⟨.map [], m3.kept (gwk b34) (by simp), ?_, fun s => ⟨rfl, rfl⟩⟩, OwnL.nil _ _ _ _ _, PlAt.nil _ _, fun i f hf => by simp [Dm.new] at hf⟩
  · rw [hρ, if_neg (by omega), if_neg (by omega), if_neg (by omega), if_pos rfl]
  · rw [hρ] at hk
    rw [z4]
    by_cases e1 : k = w.heap.size + 2
    · omega
    · rw [if_neg e1] at hk
      by_cases e2 : k = w.heap.size + 1
      · omega
      · rw [if_neg e2] at hk
        by_cases e3 : k = w.heap.size
        · omega
        · rw [if_neg e3] at hk
          by_cases e4 : k = w.heap.size + 3
          · omega
          · rw [if_neg e4] at hk; exact absurd rfl hk
  · show L.ρ w.heap.size = 2
    rw [hρ, if_neg (by omega), if_neg (by omega), if_pos rfl]
  · show L.ρ (w.heap.size + 1) = 3
    rw [hρ, if_neg (by omega), if_pos rfl]
  · show L.ρ (w.heap.size + 2) = 4
    rw [hρ, if_pos rfl]
end Go.Proofs.YteoggphafhcchaaGreat
namespace Go.Proofs.YteoggphafhcchaaGreat
open Go Go.RowKit
set_option maxRecDepth 100000
set_option maxHeartbeats 1000000
set_option linter.unusedVariables false
set_option linter.unusedSimpArgs false
open Go.Maps Go.WideMaps
theorem sl45 : Sl Tryz.prog 45 56 (.agg #[.int .i64 0, .int .i64 0, .int .i64 0]) 3 24 := ⟨Tryz.underlying45, by kernel_rfl, rfl, by decide⟩
theorem flt_one (l : List Flt) : ∀ u ∈ l.flatMap fltV, u.oneCell' = true := by
  intro u hu
  obtain ⟨f, -, h⟩ := List.mem_flatMap.1 hu
  simp [fltV] at h
  rcases h with rfl | rfl | rfl <;> rfl
theorem pl_of {w : World} {ρ : Nat → Nat} {B n : Nat} {v : Value} {l : List Flt} (hl : l.length = n) (hn : n ≤ 281474976710656) (h : w.ownsRow B 56 3 v n (l.flatMap fltV)) (hρ : ∀ k, v.ownBlock = some k → ρ k = 6) : PlAt w ρ v l := by
  obtain ⟨a, c, rfl, hg⟩ := owns_shape h
  refine ⟨a, c, by rw [hl], ⟨rfl, by rw [hl]; exact own_cap h, by rw [hl]; exact hn, fun i x hx => ?_⟩, fun b off e h0 => hρ b (by rw [e]; rfl)⟩
  have hi := (List.getElem?_eq_some_iff.1 hx).1
  obtain ⟨g, rfl, -, -⟩ := hg (by omega)
  exact ⟨g, 0, rfl, fun j u hu => by rw [Nat.zero_add]; exact own_at (enc := fltV) (s := 3) (fun _ => rfl) h hx j u hu⟩
theorem DAt.planTo {w w' : World} {L : Lay} {gd : Nat} {d : Dm} {l : List Flt} (h : DAt w L gd d) (hb : Below w.heap.size w w') {v : Value} (hl : l.length ≤ 281474976710656) (ho : w'.ownsRow w.heap.size 56 3 v l.length (l.flatMap fltV)) :
    ∃ ρ', DAt (w'.setCell ⟨gd, 9, none⟩ v) { L with ρ := ρ', pl := v } gd { d with plan := l } ∧ Upd L.ρ ρ' w (w'.setCell ⟨gd, 9, none⟩ v) := by
  have hlg := h.lg
  have hgl := h.lt
  obtain ⟨ρ', he, hd, hlb⟩ := put_new h.dom ho hb.size 6
  have g6 : (w'.setCell ⟨gd, 9, none⟩ v).heap[gd]? = some (boxDisk { L with ρ := ρ', pl := v } { d with plan := l }) := heap_setCell_same w' gd 9 _ _ _ ((hb.block gd hgl).trans h.g)
  have ho1 : Only L.ρ (· = 1) w (w'.setCell ⟨gd, 9, none⟩ v) := (Only.of_below hb).trans (Only.setCell w' gd 9 _ hlg)
  have hk : ∀ k, L.ρ k ≠ 0 → L.ρ k ≠ 1 → (w'.setCell ⟨gd, 9, none⟩ v).heap[k]? = w.heap[k]? := fun k h0 h1 => ho1.block k (h.dom k h0) h1
  have hs : ∀ r, r ≠ 0 → ∀ k, L.ρ k = r → ρ' k = r := fun r hr k e => (he.same k (by omega)).trans e
  have ho2 : (w'.setCell ⟨gd, 9, none⟩ v).ownsRow w.heap.size 56 3 v l.length (l.flatMap fltV) := own_same ho (fun k e => heap_setCell_other w' ⟨gd, 9, none⟩ k _ (fun e2 => by have h1 := (ho.lt k e).1; simp at e2; omega))
  refine ⟨ρ', ⟨g6, hs 1 (by omega) gd hlg, fun k e => by have h1 := hd k e; simpa using h1, h.nm.keep (fun k e => hk k (by omega) (by omega)) (hs 2 (by omega)) (fun _ _ _ => rfl), h.sf.keep (fun k e => hk k (by omega) (by omega)) (hs 3 (by omega)) (fun _ _ _ => rfl), h.cl.keep (fun k e => hk k (by omega) (by omega)) (hs 4 (by omega)),
    h.ch.keep (fun k e => hk k (by omega) (by omega)) (hs 5 (by omega)), pl_of rfl hl ho2 hlb, fun i f hf => ?_⟩, Upd.of_only ho1 (by omega) he⟩
  obtain ⟨vn, vs, vl, hx⟩ := h.fs i f hf
  exact ⟨vn, vs, vl, hx.keep (fun k e => hk k (by omega) (by omega)) (fun k e => he.same k e)⟩
theorem plan_any (w : World) (L : Lay) (gd : Nat) (d : Dm) (h : DAt w L gd d) (b off n c : Nat) (l : List Flt) (hl : l.length = n) (hn : n ≤ 1000000) (hc : ∀ j u, (l.flatMap fltV)[j]? = some u → w.cell? ⟨b, off + j, none⟩ = some u) :
    Calls Tryz.prog 16 #[.pointer (some ⟨gd, 0, none⟩), .slice (some ⟨b, off, none⟩) n c] w fun e w' => e = .returned (.tuple #[]) ∧ ∃ L', DAt w' L' gd { d with plan := l } ∧ Upd L.ρ L'.ρ w w' := by
  obtain ⟨i0, hi, hz0, hz1, hz2⟩ := info_parts sl45.inf
  have hsz : ∀ w : World, (sizeOf 56).run Tryz.prog w = .ok 3 w := fun w => by simp [sizeOf, typeInfo, hi, hz1]
  have HCL := Lib.hid (AnyE.slices_Clone Tryz.sclone39 i0 (.agg #[.int .i64 0, .int .i64 0, .int .i64 0]) 3 24 hi hz0 hz1 hz2 rfl (by decide) hsz b off n c (l.flatMap fltV) w (by rw [flat_len fltV 3 (fun _ => rfl), hl]) (by unfold maxLen; omega) (by omega) hc (flt_one l))
  have HD := Lib.hid h
  have HLN := Lib.hid hl
  have hgl := h.lt
  clear h hl hc hi hz0 hz1 hz2 hsz
  go_enter Tryz.func16, Tryz.ntmps16
  go_wp2_with (go_at_call 39; refine HCL.out.mono ?_; rintro e w4 ⟨v4, rfl, hv4, -, hb4⟩
               obtain ⟨a4, c4, hv, -⟩ := owns_shape hv4
               have HPL := Lib.hid (HD.out.planTo (l := l) hb4 (by rw [HLN.out]; omega) (by rw [HLN.out]; exact hv4))
               subst hv
               have hx := (hb4.block gd hgl).trans HD.out.g
               have s9 := cell_of_row _ _ 9 _ _ _ hx
               have f9 := frozen_of_row w4 gd 9 _ _ hx
               simp only [List.getElem?_toArray, List.getElem?_cons_zero, List.getElem?_cons_succ] at s9
               clear hv4 hb4 hx)
  go_end0
  obtain ⟨ρ', h1, h2⟩ := HPL.out
  exact ⟨rfl, _, h1, h2⟩
end Go.Proofs.YteoggphafhcchaaGreat
namespace Go.Proofs.YteoggphafhcchaaGreat
open Go Go.RowKit
set_option maxRecDepth 100000
set_option maxHeartbeats 1000000
set_option linter.unusedVariables false
set_option linter.unusedSimpArgs false
open Go.Maps Go.WideMaps
/-- Numbers that can be read. -/
def RI (w : World) (a : Option Addr) (n : Nat) (l : List Nat) : Prop := l.length = n ∧ n ≤ 1099511631873 ∧ ∀ j x, l[j]? = some x → ∃ b off, a = some ⟨b, off, none⟩ ∧ w.cell? ⟨b, off + j, none⟩ = some (nV x)
theorem RI.of_owns {w : World} {B n c : Nat} {a : Option Addr} {l : List Nat} (h : w.ownsRow B 3 1 (.slice a n c) n (l.map nV)) (hn : n ≤ 1099511631873) : RI w a n l := by
  have hl : l.length = n := by have := h.1; simpa using this
  refine ⟨hl, hn, fun j x hx => ?_⟩
  obtain ⟨a0, c0, hv, hg⟩ := owns_shape h
  injection hv with h1 _ h3
  subst h1 h3
  have hj := (List.getElem?_eq_some_iff.1 hx).1
  obtain ⟨g, rfl, -, -⟩ := hg (by omega)
  have he : l.map nV = l.flatMap fun x => [nV x] := List.map_eq_flatMap
  rw [he] at h
  have := own_at (enc := fun x => [nV x]) (s := 1) (fun _ => rfl) h hx 0 _ rfl
  exact ⟨g, 0, rfl, by simpa using this⟩
theorem same_ints (w : World) (a b : Option Addr) (n m c c' : Nat) (l k : List Nat) (hl : RI w a n l) (hk : RI w b m k) (hlb : ∀ x ∈ l, x ≤ 9223372036854775806) (hkb : ∀ x ∈ k, x ≤ 9223372036854775806) :
    Calls Tryz.prog 20 #[.slice a n c, .slice b m c'] w fun e w' => e = .returned (.bool (decide (l = k))) ∧ Below w.heap.size w w' := by
  by_cases hnm : n = m
  · subst hnm
    have HL := Lib.hid hl
    have HK := Lib.hid hk
    have hn := hl.2.1
    clear hl hk
    go_enter Tryz.func20, Tryz.ntmps20
    go_wp2_with fail
    go_loopw [5] (fun iv wr => ∃ i : Nat, i ≤ n ∧ iv = .int .i64 i ∧ l.take i = k.take i ∧ Below w.heap.size w wr) (fun iv _ => n - (intOf iv).toNat)
    case atStart => exact ⟨0, Nat.zero_le _, rfl, rfl, Below.refl _ _⟩
    case round =>
      obtain ⟨i, hi, rfl, ht, hb⟩ := hrel
      have HT := Lib.hid ht
      have HB := Lib.hid hb
      clear ht hb
      by_cases hin : i < n
      · obtain ⟨x, hx⟩ : ∃ x, l[i]? = some x := ⟨_, List.getElem?_eq_getElem (by rw [HL.out.1]; exact hin)⟩
        obtain ⟨y, hy⟩ : ∃ y, k[i]? = some y := ⟨_, List.getElem?_eq_getElem (by rw [HK.out.1]; exact hin)⟩
        obtain ⟨g, o, rfl, hc⟩ := HL.out.2.2 i x hx
        obtain ⟨g', o', rfl, hc'⟩ := HK.out.2.2 i y hy
        have hcr : wr.cell? ⟨g, o + i, none⟩ = some (.int .i64 (x : Int)) := (HB.out.cell (p := ⟨g, o + i, none⟩) (World.block_lt_of_cell? w _ hc)).trans hc
        have hcr' : wr.cell? ⟨g', o' + i, none⟩ = some (.int .i64 (y : Int)) := (HB.out.cell (p := ⟨g', o' + i, none⟩) (World.block_lt_of_cell? w _ hc')).trans hc'
        have HX := Lib.hid hx
        have HY := Lib.hid hy
        clear hx hy hc hc'
        go_wp2_with fail
        go_region
        have hbd : Below w.heap.size w wr.drew := HB.out.drew
        have HBD := Lib.hid hbd
        clear hbd
        by_cases hxy : x = y
        · subst hxy
          have he : ((x : Int) != (x : Int)) = false := by simp
          have HS := Lib.hid (show l.take (i + 1) = k.take (i + 1) by rw [List.take_add_one, List.take_add_one, HT.out, HX.out, HY.out])
          go_wp2_with fail
          go_roundw
          case rel => exact ⟨i + 1, by omega, by push_cast; rfl, HS.out, HBD.out⟩
          case measure => simp [intOf]; omega
        · have he : ((x : Int) != (y : Int)) = true := by simp; omega
          have HE := Lib.hid (show decide (l = k) = false from decide_eq_false (fun e => hxy (by have h1 := HX.out; rw [e, HY.out] at h1; injection h1 with h1; exact h1.symm)))
          go_wp2_with fail
          go_ret
          exact ⟨by rw [HE.out]; rfl, HBD.out⟩
      · obtain rfl : i = n := by omega
        have he : l = k := by have := HT.out; rwa [List.take_of_length_le (by rw [HL.out.1]; exact Nat.le_refl _), List.take_of_length_le (by rw [HK.out.1]; exact Nat.le_refl _)] at this
        have HE := Lib.hid (decide_eq_true he)
        clear he
        go_wp2_with fail
        go_ret
        exact ⟨by rw [HE.out]; rfl, HB.out⟩
  · have hne : l ≠ k := fun e => hnm (by rw [← hl.1, ← hk.1, e])
    have HE := Lib.hid (decide_eq_false hne)
    have hn := hl.2.1
    have hm := hk.2.1
    have hnm' : ¬ (n : Int) = (m : Int) := by omega
    clear hl hk hne
    go_enter Tryz.func20, Tryz.ntmps20
    go_wp2_with fail
    go_ret
    exact ⟨by rw [HE.out]; rfl, Below.refl _ _⟩
end Go.Proofs.YteoggphafhcchaaGreat
namespace Go.Proofs.YteoggphafhcchaaGreat
open Go Go.RowKit
set_option maxRecDepth 100000
set_option maxHeartbeats 1000000
set_option linter.unusedVariables false
set_option linter.unusedSimpArgs false
open Go.Maps Go.WideMaps
/-- A step of a script. -/
structure Op3 where
  kind : Int
  at_ : Int
  a : Nm
  b : Nm
  n : Int
  m : Int
  p : List UInt8
  pa : Option Addr
  pc : Nat
  fa : Option Addr
  fn : Nat
  fc : Nat
  ca : Option Addr
  cn : Nat
  cc : Nat
  nm : Int
def Op3.cells (o : Op3) : Array Value := #[.int .i64 o.kind, .int .i64 o.at_, .string (bs o.a), .string (bs o.b), .int .i64 o.n, .int .i64 o.m, .slice o.pa o.p.length o.pc, .slice o.fa o.fn o.fc, .slice o.ca o.cn o.cc, .int .i64 o.nm]
def Op3.val (o : Op3) : Value := .agg #[.int .i64 o.kind, .int .i64 o.at_, .string (bs o.a), .string (bs o.b), .int .i64 o.n, .int .i64 o.m, .slice o.pa o.p.length o.pc, .slice o.fa o.fn o.fc, .slice o.ca o.cn o.cc, .int .i64 o.nm]
theorem isact_any (w : World) (o : Op3) : Calls Tryz.prog 15 #[o.val] w fun e w' => e = .returned (.bool (decide (1 ≤ o.kind ∧ o.kind ≤ 7))) ∧ Below w.heap.size w w' := by
  obtain ⟨k, hk⟩ : ∃ k, k = o.kind := ⟨_, rfl⟩
  unfold Op3.val
  rw [← hk]
  obtain ⟨r, hr⟩ : ∃ r, r = decide (1 ≤ k ∧ k ≤ 7) := ⟨_, rfl⟩
  rw [← hr]
  obtain ⟨w1, hw1⟩ : ∃ w1, w1 = w.alloc (.cells #[.int .i64 k, .int .i64 o.at_, .string (bs o.a), .string (bs o.b), .int .i64 o.n, .int .i64 o.m, .slice o.pa o.p.length o.pc, .slice o.fa o.fn o.fc, .slice o.ca o.cn o.cc, .int .i64 o.nm] 52) := ⟨_, rfl⟩
  have g1 : w1.heap[w.heap.size]? = some (.cells #[.int .i64 k, .int .i64 o.at_, .string (bs o.a), .string (bs o.b), .int .i64 o.n, .int .i64 o.m, .slice o.pa o.p.length o.pc, .slice o.fa o.fn o.fc, .slice o.ca o.cn o.cc, .int .i64 o.nm] 52) := by rw [hw1]; exact heap_alloc_new w _
  have hb1 : Below w.heap.size w w1 := by rw [hw1]; exact bel1 _ _
  have c0 : w1.cell? ⟨w.heap.size, 0, none⟩ = some (.int .i64 k) := by rw [cell_of_row _ _ _ _ _ _ g1]; rfl
  have HB := Lib.hid hb1
  clear g1 hb1 hk
  go_enter Tryz.func15, Tryz.ntmps15
  go_upto_region 1 with (fail)
  rw [← hw1]
  clear hw1
  by_cases h1 : 1 ≤ k
  · by_cases h2 : k ≤ 7
    · obtain rfl : r = true := by rw [hr]; exact decide_eq_true ⟨h1, h2⟩
      clear hr
      go_wp2_with fail
      go_ret
      exact ⟨by simp [h1, h2], HB.out⟩
    · obtain rfl : r = false := by rw [hr]; exact decide_eq_false (fun h => h2 h.2)
      clear hr
      go_wp2_with fail
      go_ret
      exact ⟨by simp [h1, h2], HB.out⟩
  · obtain rfl : r = false := by rw [hr]; exact decide_eq_false (fun h => h1 h.1)
    clear hr
    go_wp2_with fail
    go_ret
    exact ⟨by simp [h1], HB.out⟩
end Go.Proofs.YteoggphafhcchaaGreat
namespace Go.Proofs.YteoggphafhcchaaGreat
open Go Go.RowKit
set_option maxRecDepth 100000
set_option maxHeartbeats 1000000
set_option linter.unusedVariables false
set_option linter.unusedSimpArgs false
open Go.Maps Go.WideMaps
/-- A refusal of any call, or none. -/
def ToldE (v : Value) (w' : World) (ρ : Nat → Nat) (y : Int) : Prop := ∃ c n, ToldV v w' ρ c n y
/-- An act of a script. -/
def Dm.does (d : Dm) (o : Op3) : Dm × Int :=
  if o.kind = 1 then d.create o.a else if o.kind = 2 then d.append o.a o.p else if o.kind = 3 then d.cut o.a o.n else if o.kind = 4 then d.sync o.a
  else if o.kind = 5 then d.rename o.a o.b else if o.kind = 6 then d.remove o.a else if o.kind = 7 then d.syncNames else (d, 0)
/-- What a step asks of the memory. -/
structure OpOk (w : World) (ρ : Nat → Nat) (o : Op3) : Prop where
  la : o.a.length ≤ maxLen
  lb : o.b.length ≤ maxLen
  n0 : -9223372036854775808 ≤ o.n
  n1 : o.n ≤ 9223372036854775807
  lp : o.p.length ≤ 140737488355328
  rd : RdO w ρ o.pa o.p.length o.pc o.p
theorem does_any (w : World) (L : Lay) (gd : Nat) (d : Dm) (h : DAt w L gd d) (hp : Pre d) (o : Op3) (ho : OpOk w L.ρ o) (hk0 : 1 ≤ o.kind ∧ o.kind ≤ 7) :
    Calls Tryz.prog 17 #[.pointer (some ⟨gd, 0, none⟩), o.val] w fun e w' => ∃ L', DAt w' L' gd (d.does o).1 ∧ Upd L.ρ L'.ρ w w' ∧ ∃ v, e = .returned v ∧ ToldE v w' L'.ρ (d.does o).2 := by
  obtain ⟨w1, hw1⟩ : ∃ w1, w1 = w.alloc (.cells o.cells 52) := ⟨_, rfl⟩
  have g1 : w1.heap[w.heap.size]? = some (.cells o.cells 52) := by rw [hw1]; exact heap_alloc_new w _
  have hb1 : Below w.heap.size w w1 := by rw [hw1]; exact bel1 _ _
  have c0 : w1.cell? ⟨w.heap.size, 0, none⟩ = some (.int .i64 o.kind) := by rw [cell_of_row _ _ _ _ _ _ g1]; rfl
  have c2 : w1.cell? ⟨w.heap.size, 2, none⟩ = some (.string (bs o.a)) := by rw [cell_of_row _ _ _ _ _ _ g1]; rfl
  have c3 : w1.cell? ⟨w.heap.size, 3, none⟩ = some (.string (bs o.b)) := by rw [cell_of_row _ _ _ _ _ _ g1]; rfl
  have c4 : w1.cell? ⟨w.heap.size, 4, none⟩ = some (.int .i64 o.n) := by rw [cell_of_row _ _ _ _ _ _ g1]; rfl
  have c6 : w1.cell? ⟨w.heap.size, 6, none⟩ = some (.slice o.pa o.p.length o.pc) := by rw [cell_of_row _ _ _ _ _ _ g1]; rfl
  have HD1 := Lib.hid (h.below hb1)
  have HU1 := Lib.hid (Upd.of_below (ρ := L.ρ) hb1)
  have HRD := Lib.hid (show RdO w1 L.ρ o.pa o.p.length o.pc o.p from ⟨ho.rd.1.below hb1, ho.rd.2⟩)
  have HP := Lib.hid hp
  have HO := Lib.hid ho
  have HK := Lib.hid hk0
  clear h hp ho hk0 hb1 g1
  unfold Op3.val
  go_enter Tryz.func17, Tryz.ntmps17
  go_upto_region 1 with (fail)
  rw [show (w.alloc (.cells #[.int .i64 o.kind, .int .i64 o.at_, .string (bs o.a), .string (bs o.b), .int .i64 o.n, .int .i64 o.m, .slice o.pa o.p.length o.pc, .slice o.fa o.fn o.fc, .slice o.ca o.cn o.cc, .int .i64 o.nm] 52)) = w1 from hw1.symm]
  clear hw1
  by_cases hk1 : o.kind = 1
  · have HE := Lib.hid (show d.does o = d.create o.a by unfold Dm.does; rw [if_pos hk1])
    rw [hk1] at c0
    clear HK hk1
    go_wp2_with (go_at_call 22; refine (create_any w1 L gd d HD1.out HP.out o.a HO.out.la).mono ?_; rintro e w2 ⟨L2, hd2, hu2, v, rfl, hv⟩
                 have HD2 := Lib.hid hd2
                 have HU2 := Lib.hid hu2
                 have HV := Lib.hid hv
                 clear hd2 hu2 hv)
    go_ret
    exact ⟨L2, by rw [HE.out]; exact HD2.out, HU1.out.trans HU2.out, v, rfl, _, _, by rw [HE.out]; exact HV.out⟩
  by_cases hk2 : o.kind = 2
  · have HE := Lib.hid (show d.does o = d.append o.a o.p by unfold Dm.does; rw [if_neg hk1]; rw [if_pos hk2])
    rw [hk2] at c0
    clear HK hk1 hk2
    go_wp2_with (go_at_call 40; refine (append_any w1 L gd d HD1.out HP.out o.a HO.out.la o.pa o.p.length o.pc o.p HRD.out HO.out.lp).mono ?_; rintro e w2 ⟨L2, hd2, hu2, v, rfl, hv⟩
                 have HD2 := Lib.hid hd2
                 have HU2 := Lib.hid hu2
                 have HV := Lib.hid hv
                 clear hd2 hu2 hv)
    go_ret
    exact ⟨L2, by rw [HE.out]; exact HD2.out, HU1.out.trans HU2.out, v, rfl, _, _, by rw [HE.out]; exact HV.out⟩
  by_cases hk3 : o.kind = 3
  · have HE := Lib.hid (show d.does o = d.cut o.a o.n by unfold Dm.does; rw [if_neg hk1]; rw [if_neg hk2]; rw [if_pos hk3])
    rw [hk3] at c0
    clear HK hk1 hk2 hk3
    go_wp2_with (go_at_call 41; refine (cut_any w1 L gd d HD1.out HP.out o.a HO.out.la o.n HO.out.n0 HO.out.n1).mono ?_; rintro e w2 ⟨L2, hd2, hu2, v, rfl, hv⟩
                 have HD2 := Lib.hid hd2
                 have HU2 := Lib.hid hu2
                 have HV := Lib.hid hv
                 clear hd2 hu2 hv)
    go_ret
    exact ⟨L2, by rw [HE.out]; exact HD2.out, HU1.out.trans HU2.out, v, rfl, _, _, by rw [HE.out]; exact HV.out⟩
  by_cases hk4 : o.kind = 4
  · have HE := Lib.hid (show d.does o = d.sync o.a by unfold Dm.does; rw [if_neg hk1]; rw [if_neg hk2]; rw [if_neg hk3]; rw [if_pos hk4])
    rw [hk4] at c0
    clear HK hk1 hk2 hk3 hk4
    go_wp2_with (go_at_call 42; refine (sync_any w1 L gd d HD1.out HP.out o.a HO.out.la).mono ?_; rintro e w2 ⟨L2, hd2, hu2, v, rfl, hv⟩
                 have HD2 := Lib.hid hd2
                 have HU2 := Lib.hid hu2
                 have HV := Lib.hid hv
                 clear hd2 hu2 hv)
    go_ret
    exact ⟨L2, by rw [HE.out]; exact HD2.out, HU1.out.trans HU2.out, v, rfl, _, _, by rw [HE.out]; exact HV.out⟩
  by_cases hk5 : o.kind = 5
  · have HE := Lib.hid (show d.does o = d.rename o.a o.b by unfold Dm.does; rw [if_neg hk1]; rw [if_neg hk2]; rw [if_neg hk3]; rw [if_neg hk4]; rw [if_pos hk5])
    rw [hk5] at c0
    clear HK hk1 hk2 hk3 hk4 hk5
    go_wp2_with (go_at_call 43; refine (rename_any w1 L gd d HD1.out HP.out o.a o.b HO.out.la HO.out.lb).mono ?_; rintro e w2 ⟨L2, hd2, hu2, v, rfl, hv⟩
                 have HD2 := Lib.hid hd2
                 have HU2 := Lib.hid hu2
                 have HV := Lib.hid hv
                 clear hd2 hu2 hv)
    go_ret
    exact ⟨L2, by rw [HE.out]; exact HD2.out, HU1.out.trans HU2.out, v, rfl, _, _, by rw [HE.out]; exact HV.out⟩
  by_cases hk6 : o.kind = 6
  · have HE := Lib.hid (show d.does o = d.remove o.a by unfold Dm.does; rw [if_neg hk1]; rw [if_neg hk2]; rw [if_neg hk3]; rw [if_neg hk4]; rw [if_neg hk5]; rw [if_pos hk6])
    rw [hk6] at c0
    clear HK hk1 hk2 hk3 hk4 hk5 hk6
    go_wp2_with (go_at_call 44; refine (remove_any w1 L gd d HD1.out HP.out o.a HO.out.la).mono ?_; rintro e w2 ⟨L2, hd2, hu2, v, rfl, hv⟩
                 have HD2 := Lib.hid hd2
                 have HU2 := Lib.hid hu2
                 have HV := Lib.hid hv
                 clear hd2 hu2 hv)
    go_ret
    exact ⟨L2, by rw [HE.out]; exact HD2.out, HU1.out.trans HU2.out, v, rfl, _, _, by rw [HE.out]; exact HV.out⟩
  by_cases hk7 : o.kind = 7
  · have HE := Lib.hid (show d.does o = d.syncNames by unfold Dm.does; rw [if_neg hk1]; rw [if_neg hk2]; rw [if_neg hk3]; rw [if_neg hk4]; rw [if_neg hk5]; rw [if_neg hk6]; rw [if_pos hk7])
    rw [hk7] at c0
    clear HK hk1 hk2 hk3 hk4 hk5 hk6 hk7
    go_wp2_with (go_at_call 23; refine (syncNames_any w1 L gd d HD1.out HP.out).mono ?_; rintro e w2 ⟨L2, hd2, hu2, v, rfl, hv⟩
                 have HD2 := Lib.hid hd2
                 have HU2 := Lib.hid hu2
                 have HV := Lib.hid hv
                 clear hd2 hu2 hv)
    go_ret
    exact ⟨L2, by rw [HE.out]; exact HD2.out, HU1.out.trans HU2.out, v, rfl, _, _, by rw [HE.out]; exact HV.out⟩
  exact absurd HK.out (by omega)
end Go.Proofs.YteoggphafhcchaaGreat
