import Derived.Test.YtoboabkaojfbaaaGreatDoorQ20
import Derived.Test.YtoboabkaojfbaaaGreatDoorQ19
import Derived.Shelf.SlSortCmp.NoneTotal
import Derived.Ground.SlsfProg
import Derived.Test.YtoboabkaojfbaaaGreatDoorProg
import Derived.Shelf.SlicesQ.Reverse
import Derived.Ground.SlgnProg
namespace Go.Proofs.YtoboabkaojfbaaaGreatDoor
open Go Go.RowKit
set_option maxRecDepth 100000
set_option maxHeartbeats 8000000
set_option linter.unusedVariables false
set_option linter.unusedSimpArgs false
/-! head.byKey, head.rise. -/
def sgE (s : Sg) : List Value := dgE s.key ++ dgE s.tag
def sgA (s : Sg) : Array Value := (sgE s).toArray
theorem sgE_len (s : Sg) : (sgE s).length = 64 := by simp [sgE, dgE_len]
theorem sgA_size (s : Sg) : (sgA s).size = 64 := by unfold sgA; rw [List.size_toArray, sgE_len]
theorem sgE_one (s : Sg) : ∀ v ∈ sgE s, v.oneCell' = true := by
  intro v hv
  rcases List.mem_append.1 hv with h | h
  · exact b8_one _ v h
  · exact b8_one _ v h
theorem info63 : (Tryz.prog.info? 63).map (·.size) = some 64 := by kernel_rfl
theorem r8_key {w : World} {g : Nat} {s : Sg} (h : w.heap[g]? = some (.cells (sgA s) 63 (0, 0))) : R8 w (some ⟨g, 0, none⟩) 32 32 s.key.1 :=
  ⟨s.key.2, Nat.le_refl _, by decide, fun i hi => ⟨g, 0, rfl, by
    rw [Nat.zero_add, cell_of_row _ _ _ _ _ _ h]
    unfold sgA sgE dgE
    rw [List.getElem?_toArray, List.getElem?_append_left (by rw [List.length_map]; exact hi), List.getElem?_map, List.getElem?_eq_getElem hi]
    rfl⟩⟩
theorem byKey_any (w : World) (a b : Sg) : Calls Tryz.prog 181 #[.agg (sgA a), .agg (sgA b)] w fun e w' => e = .returned (.int .i64 (cmpS a b)) ∧ ∃ q os, w' = Go.Sort.grow (w.drewN q) os := by
  obtain ⟨A, hA⟩ : ∃ A, A = sgA a := ⟨_, rfl⟩
  obtain ⟨B, hB⟩ : ∃ B, B = sgA b := ⟨_, rfl⟩
  have h1 : ((w.alloc (.cells A 63)).alloc (.cells B 63)).heap[w.heap.size]? = some (.cells A 63 (0, 0)) := heap_alloc2_old w _ _
  have h2 : ((w.alloc (.cells A 63)).alloc (.cells B 63)).heap[w.heap.size + 1]? = some (.cells B 63 (0, 0)) := heap_alloc2_new w _ _
  have HR1 := Lib.hid (show R8 ((w.alloc (.cells A 63)).alloc (.cells B 63)) (some ⟨w.heap.size, 0, none⟩) 32 32 a.key.1 from r8_key (by rw [← hA]; exact h1))
  have HR2 := Lib.hid (show R8 ((w.alloc (.cells A 63)).alloc (.cells B 63)) (some ⟨w.heap.size + 1, 0, none⟩) 32 32 b.key.1 from r8_key (by rw [← hB]; exact h2))
  have HW := Lib.hid (show ∀ k, ((w.alloc (.cells A 63)).alloc (.cells B 63)).drewN k = Go.Sort.grow (w.drewN k) #[.cells A 63, .cells B 63] from fun k => by rw [Go.Sort.alloc_eq_grow, Go.Sort.alloc_eq_grow, Go.Sort.grow_grow]; rfl)
  rw [← hA, ← hB]
  clear hA hB h1 h2
  go_enter Tryz.func181, Tryz.ntmps181
  go_upto_region 1 with (fail)
  obtain ⟨w1, hw1⟩ : ∃ w1, w1 = (w.alloc (.cells A 63)).alloc (.cells B 63) := ⟨_, rfl⟩
  rw [← hw1] at HR1 HR2 HW ⊢
  obtain ⟨g1, hg1⟩ : ∃ g, g = w.heap.size := ⟨_, rfl⟩
  obtain ⟨g2, hg2⟩ : ∃ g, g = w.heap.size + 1 := ⟨_, rfl⟩
  rw [← hg1] at HR1
  rw [← hg2] at HR2
  rw [← hg2, ← hg1]
  clear hw1 hg1 hg2
  have HC := Lib.hid (fun k => compare_any (w1.drewN k) (some ⟨g1, 0, none⟩) (some ⟨g2, 0, none⟩) 32 32 32 32 a.key.1 b.key.1 (R8.below HR1.out (below_drewN (Below.refl _ _) k)) (R8.below HR2.out (below_drewN (Below.refl _ _) k)))
  refine wp_region_held_drew (S := fun _ => True) (by kernel_rfl) trivial (fun hHeld => ?_)
  apply wpT 0
  apply wpT 1
  apply wpT 2
  apply wpT 3
  apply wpR 4
  intro K hK
  go_simp
  refine (HC.out 1).mono ?_
  rintro e w4 ⟨rfl, rfl⟩
  apply bk hK
  · exact trivial
  intro hHeld
  clear hK K
  apply wpT 5
  refine wpAnyH_done (by kernel_rfl) ?_ _
  go_wp2_with fail
  go_ret
  exact ⟨rfl, 1, _, HW.out 1⟩
end Go.Proofs.YtoboabkaojfbaaaGreatDoor
namespace Go.Proofs
open Go.Shelf
def Tryz.sort180_ren : Go.Shelf.Ren := ⟨fun | 6 => 180 | 15 => 218 | 14 => 217 | 28 => 244 | 29 => 245 | 20 => 236 | 21 => 237 | 22 => 238 | 23 => 239 | 24 => 240 | 25 => 241 | 26 => 242 | 27 => 243 | 46 => 254 | 47 => 255 | 48 => 256 | 49 => 257 | 50 => 258 | 57 => 265 | n => n, fun | 22 => 26 | 24 => 63 | 25 => 259 | 3 => 3 | 39 => 57 | 0 => 0 | 53 => 216 | 55 => 140 | 4 => 4 | 46 => 344 | 45 => 343 | 50 => 231 | 5 => 5 | 9 => 9 | 66 => 368 | 70 => 372 | 76 => 377 | 77 => 378 | n => n, fun | n => n⟩
theorem Tryz.sort180 : Go.Proofs.SlLaysF0.n6 Tryz.prog Tryz.sort180_ren := {
  mixed := by kernel_rfl
  f6 := ⟨Tryz.f180.name, by decide, Tryz.func180.trans (congrArg some (by kernel_rfl))⟩
  f14 := ⟨Tryz.f217.name, by decide, Tryz.func217.trans (congrArg some (by kernel_rfl))⟩
  f15 := Tryz.func218.trans (congrArg some (by kernel_rfl))
  f20 := ⟨Tryz.f236.name, by decide, Tryz.func236.trans (congrArg some (by kernel_rfl))⟩
  f21 := ⟨Tryz.f237.name, by decide, Tryz.func237.trans (congrArg some (by kernel_rfl))⟩
  f22 := ⟨Tryz.f238.name, by decide, Tryz.func238.trans (congrArg some (by kernel_rfl))⟩
  f23 := ⟨Tryz.f239.name, by decide, Tryz.func239.trans (congrArg some (by kernel_rfl))⟩
  f24 := ⟨Tryz.f240.name, by decide, Tryz.func240.trans (congrArg some (by kernel_rfl))⟩
  f25 := ⟨Tryz.f241.name, by decide, Tryz.func241.trans (congrArg some (by kernel_rfl))⟩
  f26 := ⟨Tryz.f242.name, by decide, Tryz.func242.trans (congrArg some (by kernel_rfl))⟩
  f27 := ⟨Tryz.f243.name, by decide, Tryz.func243.trans (congrArg some (by kernel_rfl))⟩
  f28 := Tryz.func244.trans (congrArg some (by kernel_rfl))
  f29 := Tryz.func245.trans (congrArg some (by kernel_rfl))
  f46 := ⟨Tryz.f254.name, by decide, Tryz.func254.trans (congrArg some (by kernel_rfl))⟩
  f47 := Tryz.func255.trans (congrArg some (by kernel_rfl))
  f48 := Tryz.func256.trans (congrArg some (by kernel_rfl))
  f49 := ⟨Tryz.f257.name, by decide, Tryz.func257.trans (congrArg some (by kernel_rfl))⟩
  f50 := ⟨Tryz.f258.name, by decide, Tryz.func258.trans (congrArg some (by kernel_rfl))⟩
  f57 := ⟨Tryz.f265.name, by decide, Tryz.func265.trans (congrArg some (by kernel_rfl))⟩
  t0 := Tryz.underlying0
  a0 := Tryz.isAgg0
  z0 := Tryz.sizeOf0
  v0 := Tryz.zeroValue0
  t3 := Tryz.underlying3
  a3 := Tryz.isAgg3
  z3 := Tryz.sizeOf3
  v3 := Tryz.zeroValue3
  t4 := Tryz.underlying4
  a4 := Tryz.isAgg4
  z4 := Tryz.sizeOf4
  v4 := Tryz.zeroValue4
  t5 := Tryz.underlying5
  a5 := Tryz.isAgg5
  z5 := Tryz.sizeOf5
  v5 := Tryz.zeroValue5
  t9 := Tryz.underlying9
  a9 := Tryz.isAgg9
  z9 := Tryz.sizeOf9
  v9 := Tryz.zeroValue9
  t22 := Tryz.underlying26
  a22 := Tryz.isAgg26
  z22 := Tryz.sizeOf26
  v22 := Tryz.zeroValue26
  t25 := Tryz.underlying259
  a25 := Tryz.isAgg259
  z25 := Tryz.sizeOf259
  v25 := Tryz.zeroValue259
  t39 := Tryz.underlying57
  a39 := Tryz.isAgg57
  z39 := Tryz.sizeOf57
  v39 := Tryz.zeroValue57
  t45 := Tryz.underlying343
  a45 := Tryz.isAgg343
  z45 := Tryz.sizeOf343
  v45 := Tryz.zeroValue343
  t46 := Tryz.underlying344
  a46 := Tryz.isAgg344
  z46 := Tryz.sizeOf344
  v46 := Tryz.zeroValue344
  t50 := Tryz.underlying231
  a50 := Tryz.isAgg231
  z50 := Tryz.sizeOf231
  v50 := Tryz.zeroValue231
  t53 := Tryz.underlying216
  a53 := Tryz.isAgg216
  z53 := Tryz.sizeOf216
  v53 := Tryz.zeroValue216
  t55 := Tryz.underlying140
  a55 := Tryz.isAgg140
  z55 := Tryz.sizeOf140
  v55 := Tryz.zeroValue140
  t66 := Tryz.underlying368
  a66 := Tryz.isAgg368
  z66 := Tryz.sizeOf368
  v66 := Tryz.zeroValue368
  t70 := Tryz.underlying372
  a70 := Tryz.isAgg372
  z70 := Tryz.sizeOf372
  v70 := Tryz.zeroValue372
  t76 := Tryz.underlying377
  a76 := Tryz.isAgg377
  z76 := Tryz.sizeOf377
  v76 := Tryz.zeroValue377
  t77 := Tryz.underlying378
  a77 := Tryz.isAgg378
  z77 := Tryz.sizeOf378
  v77 := Tryz.zeroValue378 }
end Go.Proofs
namespace Go.Proofs.YtoboabkaojfbaaaGreatDoor
open Go Go.RowKit Go.Sort Go.Shelf
set_option maxRecDepth 100000
set_option maxHeartbeats 8000000
set_option linter.unusedVariables false
set_option linter.unusedSimpArgs false
/-! Signs sorted. -/
instance : Inhabited Sg := ⟨⟨zDg, zDg⟩⟩
theorem holdsSg {w : World} {g n cap : Nat} {cur : Array Value} {l : List Sg} (h : RS 64 sgE w (some ⟨g, 0, none⟩) n cap l) (hb : w.heap[g]? = some (.cells cur 63 (0, 0))) : HoldsK sgE 64 w g 0 l.toArray := by
  intro j hj
  rw [size_flatK, List.size_toArray] at hj
  have hi : j / 64 < l.length := by omega
  have hx : l[j / 64]? = some l[j / 64] := List.getElem?_eq_getElem hi
  obtain ⟨b, off, e, hc⟩ := h.2.2.2 (j / 64) _ hx
  obtain ⟨rfl, rfl⟩ : g = b ∧ 0 = off := by have := Option.some.inj e; simp only [Addr.mk.injEq] at this; exact ⟨this.1, this.2.1⟩
  have hl : j % 64 < (sgE l[j / 64]).length := by rw [sgE_len]; omega
  have := hc (j % 64) _ (List.getElem?_eq_getElem hl)
  refine ⟨?_, by simp [World.frozen?, hb]⟩
  rw [show 0 + j = 0 + j / 64 * 64 + j % 64 by omega, this, get_flatK _ _ _ _ (by rw [List.size_toArray]; exact hj)]
  show _ = some (sgE (l.toArray[j / 64]!))[j % 64]!
  rw [show l.toArray[j / 64]! = l[j / 64] by simp [hi]]
  rw [getElem!_pos (sgE l[j / 64]) (j % 64) hl]
theorem grownBy_srtK {α : Type} [Inhabited α] (enc : α → List Value) (k : Nat) {w : World} {g n : Nat} {os : Array Obj} (d : Array α) : w.grownBy (sortWorldK enc k w g 0 n d os) (some g) := by
  refine ⟨rfl, rfl, rfl, by simp [sortWorldK, putRowK, putRow, mapBlock, Sort.ahead, grow], fun j hj hne => ?_⟩
  have hjg : g ≠ j := fun e => hne (by rw [e])
  unfold sortWorldK
  rw [heap_grow_old _ _ (by simpa [putRowK, putRow, mapBlock, Sort.ahead] using hj)]
  simp [putRowK, putRow, mapBlock, Sort.ahead, Array.getElem?_modify, hjg]
/-- slices.SortFunc of signs by byKey. -/
theorem sort_any (w : World) (g cap : Nat) (cur : Array Value) (l : List Sg) (h : RS 64 sgE w (some ⟨g, 0, none⟩) l.length cap l) (hb : w.heap[g]? = some (.cells cur 63 (0, 0))) (hl : l.length ≤ 1000000) :
    Calls Tryz.prog 180 #[.slice (some ⟨g, 0, none⟩) l.length cap, .func (.func 181) #[] #[]] w fun e w' => e = .returned (.tuple #[]) ∧ ∃ l' : List Sg, l'.Perm l ∧ (l'.Pairwise fun s t => ¬ cmpS t s < 0) ∧ RS 64 sgE w' (some ⟨g, 0, none⟩) l.length cap l' ∧ w.grownBy w' (some g) := by
  have hlt : g < w.heap.size := (Array.getElem?_eq_some_iff.1 hb).1
  have eg : ∀ args w, (callFunc 181 args).run Tryz.prog w = .ok (.enter 181 args) w := enters_of Tryz.func181 (by kernel_rfl) rfl
  have hH := holdsSg h hb
  have hcon := AnyQ.slices_SortFunc Tryz.sort180 64 Tryz.isAgg63 Tryz.sizeOf63 sgE sgE_len (fun x => sgE_one x) cmpS swo_cmpS 181 #[] g 0 cap l.toArray w eg (fun m os dk hs x y => byKey_any _ x y) hH hlt (by rw [List.size_toArray]; omega)
  rw [List.size_toArray] at hcon
  change Calls Tryz.prog 180 _ _ _ at hcon
  refine hcon.mono ?_
  rintro e w' ⟨rfl, d', n, os, hp, hs, rfl⟩
  have hsz : d'.size = l.length := by rw [hp.1, List.size_toArray]
  have hperm : d'.toList.Perm l := by
    have h3 := hp.2.2
    rw [Array.toList_extract, Array.toList_extract] at h3
    have e1 : d'.toList.extract 0 l.length = d'.toList := by rw [List.extract_eq_take_drop, List.drop_zero, Nat.sub_zero]; exact List.take_of_length_le (by rw [Array.length_toList]; omega)
    have e2 : (l.toArray).toList.extract 0 l.length = l := by rw [List.extract_eq_take_drop, List.drop_zero, Nat.sub_zero]; exact List.take_of_length_le (Nat.le_refl _)
    rwa [e1, e2] at h3
  refine ⟨rfl, d'.toList, hperm, ?_, ?_, grownBy_srtK sgE 64 d'⟩
  · rw [List.pairwise_iff_getElem]
    intro i j hi hj hij
    rw [Array.length_toList] at hi hj
    have := hs i j (Nat.zero_le _) hij (by omega)
    unfold ltOf at this
    rw [decide_eq_false_iff_not, getElem!_pos d' i hi, getElem!_pos d' j hj] at this
    simpa using this
  · have hK := holdsK_sortWorldK_c (enc := sgE) (k := 64) (w := w) (blk := g) (off := 0) l.toArray d' n os hH hlt (by rw [hsz, List.size_toArray])
    refine ⟨by rw [Array.length_toList, hsz], h.2.1, h.2.2.1, fun i x hx => ⟨g, 0, rfl, fun j v hv => ?_⟩⟩
    obtain ⟨hi, rfl⟩ := List.getElem?_eq_some_iff.1 hx
    rw [Array.length_toList] at hi
    have hj : j < 64 := by have := (List.getElem?_eq_some_iff.1 hv).1; rwa [sgE_len] at this
    have := (hK.cell (i := i) (c := j) hi hj).1
    rw [this, getElem!_pos d' i hi]
    have hjl : j < (sgE d'[i]).length := by rw [sgE_len]; exact hj
    rw [getElem!_pos (sgE d'[i]) j hjl]
    rw [Array.getElem_toList, List.getElem?_eq_getElem hjl] at hv
    exact hv
end Go.Proofs.YtoboabkaojfbaaaGreatDoor
namespace Go.Proofs.YtoboabkaojfbaaaGreatDoor
open Go Go.RowKit
set_option maxRecDepth 100000
set_option maxHeartbeats 1000000
set_option linter.unusedVariables false
set_option linter.unusedSimpArgs false

open Go.Maps Go.WideMaps Go.ChangeMaps
theorem inside_any (w : World) (size i : Nat) (h : i < size) (hs : size ≤ 1099511627776) : Calls Tryz.prog 208 #[.int .i64 (size : Int), .int .i64 (i : Int)] w fun e w' => e = .returned (.bool true) ∧ w' = w := by
  have d1 : decide ((1 : Int) ≤ (size : Int)) = true := by simp; omega
  have d2 : decide ((0 : Int) ≤ (i : Int)) = true := by simp
  have d3 : decide ((size : Int) ≤ 1099511627776) = true := by simp; omega
  have d4 : decide ((i : Int) < (size : Int)) = true := by simp; omega
  have d5 : decide (i < size) = true := by simp; omega
  clear h hs
  go_enter Tryz.func208, Tryz.ntmps208
  go_wp2_with fail
  go_ret
  exact ⟨rfl, rfl⟩
theorem sl227 : Sl Tryz.prog 299 302 (.agg #[.int .i64 0, .int .i64 0]) 2 16 := ⟨Tryz.underlying299, by kernel_rfl, rfl, by decide⟩
theorem info300 : (Tryz.prog.info? 302).map (·.size) = some 2 := by kernel_rfl
/-- A row of parts, owned from a block on. -/
def PO (w : World) (B : Nat) (v : Value) (l : List (Nat × Nat)) : Prop := w.ownsRow B 302 2 v l.length (l.flatMap spE)
end Go.Proofs.YtoboabkaojfbaaaGreatDoor
namespace Go.Proofs.YtoboabkaojfbaaaGreatDoor
open Go Go.RowKit
set_option maxRecDepth 100000
set_option maxHeartbeats 1000000
set_option linter.unusedVariables false
set_option linter.unusedSimpArgs false

open Go.Maps Go.WideMaps Go.ChangeMaps
theorem wrapI {x : Int} (h0 : -9223372036854775808 ≤ x) (h1 : x < 9223372036854775808) : IntKind.i64.wrap x = x := by
  simp [IntKind.wrap, IntKind.bits, IntKind.signed]; omega
theorem keepS {w : World} {b3 a b : Nat} (h : w.heap[b3]? = some (.cells #[.int .i64 (a : Int), .int .i64 (b : Int)] 302 (0, 0))) : w.cell? ⟨b3, 0, none⟩ = some (.int .i64 (a : Int)) ∧ w.cell? ⟨b3, 1, none⟩ = some (.int .i64 (b : Int)) :=
  ⟨by rw [cell_of_row _ _ _ _ _ _ h]; rfl, by rw [cell_of_row _ _ _ _ _ _ h]; rfl⟩
set_option maxHeartbeats 8000000
end Go.Proofs.YtoboabkaojfbaaaGreatDoor
/-
  DERIVED: THE SHELF's CONTRACTS AT THIS DUMP, IN PLAIN WORDS (tools/lay-plain.mjs out of 'YtoboabkaojfbaaaGreatDoorLayRVS.lean', which tools/lay-shelf.mjs wrote): THE SAME DECLARATIONS UNDER THE SAME NAMES: 'import', 'namespace', 'open', 'def', 'theorem' AND NOTHING ELSE: no command of the shelf's: FOR A HAND-IN. Each laying: the table of numbers ('.._ren') and one theorem, a field a fact of the dump's own or the kernel's comparison; each contract: ONE APPLICATION.
-/
namespace Go.Proofs
open Go.Shelf
def Tryz.reverse206_ren : Go.Shelf.Ren := ⟨fun | 35 => 230 | n => n, fun | 22 => 299 | 23 => 302 | 3 => 3 | 4 => 4 | 0 => 0 | n => n, fun | n => n⟩
theorem Tryz.reverse206 : Go.Proofs.SlLaysE0.n35 Tryz.prog Tryz.reverse206_ren := {
  mixed := by kernel_rfl
  f35 := ⟨Tryz.f230.name, by decide, Tryz.func230.trans (congrArg some (by kernel_rfl))⟩
  t0 := Tryz.underlying0
  a0 := Tryz.isAgg0
  z0 := Tryz.sizeOf0
  v0 := Tryz.zeroValue0
  t3 := Tryz.underlying3
  a3 := Tryz.isAgg3
  z3 := Tryz.sizeOf3
  v3 := Tryz.zeroValue3
  t4 := Tryz.underlying4
  a4 := Tryz.isAgg4
  z4 := Tryz.sizeOf4
  v4 := Tryz.zeroValue4
  t22 := Tryz.underlying299
  a22 := Tryz.isAgg299
  z22 := Tryz.sizeOf299
  v22 := Tryz.zeroValue299 }
end Go.Proofs
namespace Go.Proofs.YtoboabkaojfbaaaGreatDoor
open Go Go.RowKit
set_option maxRecDepth 100000
set_option maxHeartbeats 1000000
set_option linter.unusedVariables false
set_option linter.unusedSimpArgs false

open Go.Maps Go.WideMaps Go.ChangeMaps Go.Sort
theorem flatK_sp (l : List (Nat × Nat)) : (flatK spE 2 l.toArray).toList = l.flatMap spE := by
  apply List.ext_getElem?
  intro t
  have hL : (l.flatMap spE).length = l.length * 2 := flat_len spE 2 (fun _ => rfl) l
  rcases Nat.lt_or_ge t (l.length * 2) with h | h
  · have hi : t / 2 < l.length := by omega
    have hx : l[t / 2]? = some (l[t / 2]'hi) := List.getElem?_eq_getElem hi
    have hv : (spE (l[t / 2]'hi))[t % 2]? = some ((spE (l[t / 2]'hi))[t % 2]!) := by
      have : t % 2 = 0 ∨ t % 2 = 1 := by omega
      rcases this with e | e <;> rw [e] <;> rfl
    have h1 := flat_get spE 2 (fun _ => rfl) l (t / 2) _ hx (t % 2) _ hv
    rw [show t / 2 * 2 + t % 2 = t by omega] at h1
    rw [h1]
    unfold flatK
    simp [h, hi]
  · rw [List.getElem?_eq_none (by rw [Array.length_toList, size_flatK]; simpa using h), List.getElem?_eq_none (by omega)]
theorem reverse_any (w : World) (B : Nat) (v : Value) (l : List (Nat × Nat)) (h : PO w B v l) (hl : l.length ≤ 1000000) :
    Calls Tryz.prog 230 #[v] w fun e w' => e = .returned (.tuple #[]) ∧ PO w' B v l.reverse ∧ w.grownBy w' v.ownBlock := by
  have hL : (l.flatMap spE).length = l.length * 2 := flat_len spE 2 (fun _ => rfl) l
  rcases h.2 with ⟨rfl, h0⟩ | ⟨g, cap, cur, rfl, hB, hg, hcap, hmax, hsz, htk⟩
  · obtain rfl : l = [] := List.length_eq_zero_iff.1 h0
    refine (AnyQ.slices_Reverse_empty Tryz.reverse206 none 0 w).mono ?_
    rintro e w' ⟨rfl, rfl⟩
    exact ⟨rfl, World.ownsRow_nil _ _ _ _, ⟨rfl, rfl, rfl, Nat.le_refl _, fun _ _ _ => rfl⟩⟩
  · have hcell : ∀ j, j < l.length * 2 → cur[j]? = (l.flatMap spE)[j]? := fun j hj => by
      rw [← htk, List.getElem?_take, if_pos hj, Array.getElem?_toList]
    have hH : HoldsK spE 2 w g 0 l.toArray := fun j hj => by
      have hj2 : j < l.length * 2 := by simpa using hj
      refine ⟨?_, by rw [Nat.zero_add]; exact frozen_of_row _ _ _ _ _ hg⟩
      rw [Nat.zero_add, cell_of_row _ _ _ _ _ _ hg, hcell j hj2, ← flatK_sp, Array.getElem?_toList, getElem!_pos _ j hj]
      exact Array.getElem?_eq_getElem hj
    have hr := AnyQ.slices_Reverse Tryz.reverse206 2 Tryz.isAgg302 Tryz.sizeOf302 spE (fun _ => rfl) (fun x u hu => by simp only [spE, List.mem_cons, List.not_mem_nil, or_false] at hu; rcases hu with rfl | rfl <;> rfl) g 0 cap l.toArray w hH (by simp; omega)
    rw [show l.toArray.size = l.length from rfl] at hr
    refine hr.mono ?_
    rintro e w' ⟨rfl, n, rfl⟩
    obtain ⟨F, hF⟩ : ∃ F, F = flatK spE 2 l.toArray.reverse := ⟨_, rfl⟩
    have hFl : F.toList = l.reverse.flatMap spE := by rw [hF, ← flatK_sp]; simp
    have hFs : F.size = l.length * 2 := by rw [hF]; simp
    unfold putRowK putRow
    rw [← hF]
    have hk : ∀ k, k ≠ g → (Sort.mapBlock (Sort.ahead w n) g (Sort.putCells id 0 F)).heap[k]? = w.heap[k]? := fun k hk => by
      show (w.heap.modify g _)[k]? = _
      rw [Array.getElem?_modify, if_neg (fun e => hk e.symm)]
    have hgg : (Sort.mapBlock (Sort.ahead w n) g (Sort.putCells id 0 F)).heap[g]? = some (.cells (Sort.putCells id 0 F cur) 302 (0, 0)) := by
      show (w.heap.modify g _)[g]? = _
      rw [Array.getElem?_modify, if_pos rfl, hg]
      rfl
    refine ⟨rfl, ⟨?_, .inr ⟨g, cap, _, by rw [List.length_reverse], hB, hgg, ?_, hmax, ?_, ?_⟩⟩, ⟨rfl, rfl, rfl, ?_, fun k hk1 hk2 => hk k (fun e => hk2 (by rw [e]; rfl))⟩⟩
    · rw [flat_len spE 2 (fun _ => rfl)]
    · rw [List.length_reverse]; exact hcap
    · unfold putCells; rw [Array.size_mapIdx]; exact hsz
    · rw [List.length_reverse, ← hFl]
      apply List.ext_getElem?
      intro t
      rw [List.getElem?_take, Array.getElem?_toList, Array.getElem?_toList]
      rcases Nat.lt_or_ge t (l.length * 2) with q | q
      · have hc : t < cur.size := by
          have : l.length * 2 ≤ cap * 2 := Nat.mul_le_mul_right 2 hcap
          omega
        unfold putCells
        rw [if_pos q, Array.getElem?_mapIdx, Array.getElem?_eq_getElem hc, Option.map_some, if_pos ⟨Nat.zero_le _, by omega⟩, Nat.sub_zero, getElem!_pos F t (by omega), Array.getElem?_eq_getElem (by omega)]
        rfl
      · rw [if_neg (by omega), Array.getElem?_eq_none (by omega)]
    · show w.heap.size ≤ (w.heap.modify g _).size
      rw [Array.size_modify]; exact Nat.le_refl _
end Go.Proofs.YtoboabkaojfbaaaGreatDoor
