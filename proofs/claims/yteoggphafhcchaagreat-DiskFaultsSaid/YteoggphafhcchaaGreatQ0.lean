import Derived.Test.YteoggphafhcchaaGreatP1
import Derived.Deep.AppendSrc
import Derived.OwnWalkIn
import Derived.Test.YteoggphafhcchaaGreatLay
import Derived.Ground.GgzProg
import Derived.Ground.SlgmProg
import Derived.RangeFuncBox
import Derived.RangeFuncLeaves
import Derived.RangeFuncWrites
import Derived.Shelf.Abstract
import Derived.WalkKit
import Derived.TacticsInMore
import Derived.LoopNIn
import Derived.LoopIn
import Derived.RangeFuncCalls
import Derived.Lib.SlBytesRow
import Derived.Deep.RegionWith
import Derived.WideKeyEntry
namespace Go.Proofs.YteoggphafhcchaaGreat
open Go Go.RowKit
set_option maxRecDepth 100000
set_option maxHeartbeats 1000000
set_option linter.unusedVariables false
set_option linter.unusedSimpArgs false
open Go.Maps Go.WideMaps
section
variable {P : Program} (w : World)
/-- append onto an owned row, from whatever source. -/
theorem run_append_own_src (base : Nat) (t tx ty e : TypeId) (i : TypeInfo) (z : Value) (size bytes : Nat) (ht : P.underlying t = some (.slice e)) (hi : P.info? e = some i) (hz : i.zero = some z)
    (hsize : i.size = size) (hby : i.bytes = bytes) (hzs : z.cells.size = size) (hsz : 0 < size)
    (v : Value) (n : Nat) (xs : List Value) (hown : w.ownsRow base e size v n xs)
    (x : Value) (m : Nat) (news : List Value) (hs : Src P size tx x m news w) (hm : 0 < m)
    (h63 : n + m ≤ maxLen) (hbytes : (n + m) * bytes ≤ 140737488355328) (hbase : base ≤ w.heap.size) :
    ∃ v' w', (Builtin.append_ #[t, tx] ty #[v, x]).run P w = .ok v' w' ∧ w'.ownsRow base e size v' (n + m) (xs ++ news) ∧ w.grownBy w' v.ownBlock ∧
      (v'.ownBlock = v.ownBlock ∨ v'.ownBlock = some w.heap.size) := by
  subst hsize
  subst hby
  have hl := hs.newsLen
  have hsmall : n + m ≤ 9223372036854775807 := by simp only [maxLen] at h63; omega
  have hlen : (xs ++ news).length = (n + m) * i.size := by rw [List.length_append, hown.1, hl, Nat.add_mul]
  have grown : ∀ (old : Nat), old < n + m → ∀ (row : Option Nat),
      (w.drew.alloc (.cells ((xs ++ news).toArray ++ Builtin.zeroCells z.cells (grownCap w (n + m) old e - (n + m))) e)).ownsRow base e i.size
        (.slice (some ⟨w.heap.size, 0, none⟩) (n + m) (grownCap w (n + m) old e)) (n + m) (xs ++ news) ∧
      w.grownBy (w.drew.alloc (.cells ((xs ++ news).toArray ++ Builtin.zeroCells z.cells (grownCap w (n + m) old e - (n + m))) e)) row := by
    intro old ho row
    have hge := grownCap_ge w (n + m) old e
    have hcm : grownCap w (n + m) old e ≤ maxLen := grownCap_le_maxLen w (n + m) old e h63
    refine ⟨⟨hlen, .inr ⟨w.heap.size, _, _, rfl, hbase, heap_alloc_new w.drew _, hge, hcm, ?_, ?_⟩⟩, ⟨rfl, rfl, rfl, by simp, fun k hk _ => heap_alloc_old w.drew _ hk⟩⟩
    · simp only [Array.size_append, List.size_toArray, size_zeroCells, hzs, hlen, ← Nat.add_mul]
      congr 1
      omega
    · simp only [Array.toList_append]
      rw [← hlen]
      exact List.take_left
  rcases hown.2 with ⟨rfl, rfl⟩ | ⟨g, cap, cur, rfl, hbg, hg, hnc, hcm, hcs, htake⟩
  · have hx : xs = [] := List.eq_nil_of_length_eq_zero (by simpa using hown.1)
    subst hx
    have hr := run_append_grow_src (P := P) w t tx ty e i z ht hi hz none 0 0 [] (run_firstCells_none w.drew i.size 0 0 0) x m news hs (by omega) (by omega) (by rw [Nat.zero_add, nextslicecap_zero hm]; simp only [Nat.zero_add] at hbytes; omega)
    have hgr := grown 0 (by omega) (Value.ownBlock (.slice none 0 0))
    exact ⟨_, _, hr, hgr.1, hgr.2, Or.inr rfl⟩
  · by_cases hroom : n + m ≤ cap
    · have hfit : n * i.size + news.length ≤ cur.size := by rw [hl, hcs, ← Nat.add_mul]; exact Nat.mul_le_mul_right _ hroom
      have hr : (Builtin.append_ #[t, tx] ty #[.slice (some ⟨g, 0, none⟩) n cap, x]).run P w = .ok (.slice (some ⟨g, 0, none⟩) (n + m) cap) (w.setRow g (cur.toList.take (n * i.size) ++ news ++ cur.toList.drop (n * i.size + news.length)).toArray) := by
        have hst := run_storeCells_at P g (n * i.size) e news 0 cur w hg (by simpa using hfit) hs.one
        simp only [Nat.add_zero] at hst
        rcases hs.kind with ⟨e', hk⟩ | hk <;> simp [Builtin.append_, run_underlying ht, run_underlying hk, sizeOf, typeInfo, hi, hs.len, hroom, hs.cells, Addr.add_lit, hst]
      refine ⟨_, _, hr, ⟨hlen, .inr ⟨g, cap, _, rfl, hbg, setRow_heap w g cur _ e _ hg, hroom, hcm, ?_, ?_⟩⟩, ⟨rfl, rfl, rfl, by simp, fun k _ hk => setRow_other w g k _ (fun e => hk (by simp [Value.ownBlock, e]))⟩, Or.inl rfl⟩
      · simp only [List.size_toArray, List.length_append, List.length_take, List.length_drop, Array.length_toList]
        omega
      · rw [htake, ← hlen]
        exact List.take_left
    · have holds : ∀ j u, xs[j]? = some u → w.cell? ((⟨g, 0, none⟩ : Addr).add j) = some u := hown.cells (g := g) rfl
      have hr := run_append_grow_src (P := P) w t tx ty e i z ht hi hz (some ⟨g, 0, none⟩) n cap xs (run_firstCells_some w.drew i.size n ⟨g, 0, none⟩ n cap xs hown.1 (by simpa using holds)) x m news hs (by omega) (by omega) (growslice_fits (by omega) hbytes)
      have hgr := grown cap (by omega) (Value.ownBlock (.slice (some ⟨g, 0, none⟩) n cap))
      exact ⟨_, _, hr, hgr.1, hgr.2, Or.inr rfl⟩
end
theorem byteCells_bs (l : List UInt8) : byteCells (bs l) = l.map b8 := rfl
section
variable {P : Program} {w : World} {ops : Array Oper} {rest : List Oper} {o : Oper} {a : Act} {Q : Exit → Act → World → Prop}
/-- append(v, s...), v owned bytes, s a string. -/
theorem L_appendStr (hgd : o.guard = none) (s x : Operand) (t tx : TypeId) (ho : o.op = .call { callee := .builtin .append, args := #[s, x], argTypes := #[t, tx] })
    {e : TypeId} {z : Value} {bytes : Nat} (T : Sl P t e z 1 bytes) (htx : P.underlying tx = some .string) (base : Nat) (v : Value) (n : Nat) (xs : List Value) (hs : a.eval s = v) (hown : w.ownsRow base e 1 v n xs)
    (l : List UInt8) (m : Nat) (hlm : l.length = m) (hm0 : 0 < m) (hx : a.eval x = .string (bs l)) (hb : (n + m) * bytes ≤ 140737488355328) (hm : n + m ≤ maxLen) (hbase : base ≤ w.heap.size)
    (h : ∀ a' c' w', w'.ownsRow base e 1 (.slice a' (n + m) c') (n + m) (xs ++ l.map b8) → w.grownBy w' v.ownBlock → ((Value.slice a' (n + m) c').ownBlock = v.ownBlock ∨ (Value.slice a' (n + m) c').ownBlock = some w.heap.size) → wpList P ops Q rest (a.put o.dst (.slice a' (n + m) c')) w') : wpList P ops Q (o :: rest) a w := by
  subst hlm
  obtain ⟨i, hi, hz0, hz1, hz2⟩ := info_parts T.inf
  have hsrc : Src P 1 tx (.string (bs l)) l.length (l.map b8) w := by
    have := Src.ofString (P := P) w htx (bs l)
    rw [byteCells_bs] at this
    exact this
  refine wpList_plain hgd fun K hK => ?_
  obtain ⟨v', w', hr2, h2, h3, h5⟩ := run_append_own_src (P := P) w base t tx o.type e i z 1 bytes T.und hi hz0 hz1 hz2 T.zs T.pos v n xs hown (.string (bs l)) l.length (l.map b8) hsrc hm0 hm hb hbase
  unfold Oper.wp execOp
  simp only [ho, resolve, invoke, builtin, Sem.run_bind, Sem.run_pure, Result.andThen_ok, List.map_toArray, List.map_cons, List.map_nil, hs, hx, hr2]
  obtain ⟨a', c', rfl, _⟩ := owns_shape h2
  exact hK _ _ (h a' c' w' h2 h3 h5)
end
section
variable {F : Fence} {nn : Nat} {P : Program} {w : World} {ops : Array Oper} {rest : List Oper} {o : Oper} {a : Act} {Q : Exit → Act → World → Prop}
/-- The same inside a fence. -/
theorem LI_appendStr (hgd : o.guard = none) (s x : Operand) (t tx : TypeId) (ho : o.op = .call { callee := .builtin .append, args := #[s, x], argTypes := #[t, tx] })
    {e : TypeId} {z : Value} {bytes : Nat} (T : Sl P t e z 1 bytes) (htx : P.underlying tx = some .string) (base : Nat) (v : Value) (n : Nat) (xs : List Value) (hs : a.eval s = v) (hown : w.ownsRow base e 1 v n xs)
    (l : List UInt8) (m : Nat) (hlm : l.length = m) (hm0 : 0 < m) (hx : a.eval x = .string (bs l)) (hb : (n + m) * bytes ≤ 140737488355328) (hm : n + m ≤ maxLen) (hbase : base ≤ w.heap.size)
    (h : ∀ a' c' w', w'.ownsRow base e 1 (.slice a' (n + m) c') (n + m) (xs ++ l.map b8) → w.grownBy w' v.ownBlock → ((Value.slice a' (n + m) c').ownBlock = v.ownBlock ∨ (Value.slice a' (n + m) c').ownBlock = some w.heap.size) → wpListIn F nn P ops Q rest (a.put o.dst (.slice a' (n + m) c')) w') : wpListIn F nn P ops Q (o :: rest) a w := by
  subst hlm
  obtain ⟨i, hi, hz0, hz1, hz2⟩ := info_parts T.inf
  have hsrc : Src P 1 tx (.string (bs l)) l.length (l.map b8) w := by
    have := Src.ofString (P := P) w htx (bs l)
    rw [byteCells_bs] at this
    exact this
  refine wpListIn_plain hgd fun K hK => ?_
  obtain ⟨v', w', hr2, h2, h3, h5⟩ := run_append_own_src (P := P) w base t tx o.type e i z 1 bytes T.und hi hz0 hz1 hz2 T.zs T.pos v n xs hown (.string (bs l)) l.length (l.map b8) hsrc hm0 hm hb hbase
  unfold Oper.wpIn
  refine ⟨?_, ?_⟩
  · simp [Oper.about, ho, resolve, Target.leads, Sem.run_pure]
  · rw [Oper.semAt_plain F _ _ (by rw [ho]; intro c hc'; cases hc')]
    simp only [execOp, ho, resolve, invoke, builtin, Sem.run_bind, Sem.run_pure, Result.andThen_ok, List.map_toArray, List.map_cons, List.map_nil, hs, hx, hr2]
    obtain ⟨a', c', rfl, _⟩ := owns_shape h2
    exact hK _ _ (h a' c' w' h2 h3 h5)
theorem LI_append8 (hgd : o.guard = none) (s x : Operand) (t : TypeId) (ho : o.op = .call { callee := .builtin .append, args := #[s, x], argTypes := #[t, t] })
    {e : TypeId} {z : Value} {bytes : Nat} (T : Sl P t e z 1 bytes) (base : Nat) (v : Value) (n : Nat) (xs : List Value) (hs : a.eval s = v) (hown : w.ownsRow base e 1 v n xs)
    (sa : Option Addr) (m c : Nat) (l : List UInt8) (hx : a.eval x = .slice sa m c) (hr : R8 w sa m c l) (hb : (n + m) * bytes ≤ 140737488355328) (hm : n + m ≤ maxLen) (hbase : base ≤ w.heap.size)
    (h : ∀ a' c' w', w'.ownsRow base e 1 (.slice a' (n + m) c') (n + m) (xs ++ l.map b8) → w.grownBy w' v.ownBlock → ((Value.slice a' (n + m) c').ownBlock = v.ownBlock ∨ (Value.slice a' (n + m) c').ownBlock = some w.heap.size) → wpListIn F nn P ops Q rest (a.put o.dst (.slice a' (n + m) c')) w') : wpListIn F nn P ops Q (o :: rest) a w := by
  obtain ⟨i, hi, hz0, hz1, hz2⟩ := info_parts T.inf
  refine wpListIn_plain hgd fun K hK => ?_
  unfold Oper.wpIn
  refine ⟨?_, ?_⟩
  · simp [Oper.about, ho, resolve, Target.leads, Sem.run_pure]
  rw [Oper.semAt_plain F _ _ (by rw [ho]; intro c hc'; cases hc')]
  cases sa with
  | some ad =>
    obtain ⟨v', w', hr2, h2, h3, _, h5⟩ := run_append_own_at (P := P) w base t o.type e i z 1 bytes T.und hi hz0 hz1 hz2 T.zs T.pos v n xs hown ad m c (l.map b8) (by simp [hr.1]) (hr.cells rfl) (b8_one l) hm hb hbase
    simp only [execOp, ho, resolve, invoke, builtin, Sem.run_bind, Sem.run_pure, Result.andThen_ok, List.map_toArray, List.map_cons, List.map_nil, hs, hx, hr2]
    obtain ⟨a', c', rfl, _⟩ := owns_shape h2
    exact hK _ _ (h a' c' w' h2 h3 h5)
  | none =>
    have hl : l = [] := by
      apply List.eq_nil_of_length_eq_zero
      rcases Nat.eq_zero_or_pos l.length with h0 | h0
      · exact h0
      · obtain ⟨b, off, e, _⟩ := hr.2.2.2 0 h0
        cases e
    subst hl
    have hm0 : m = 0 := hr.1.symm
    subst hm0
    subst hs
    obtain ⟨a', c', hv', _⟩ := owns_shape hown
    have hh := h a' c' w (by simpa [hv'] using hown) ⟨rfl, rfl, rfl, Nat.le_refl _, fun _ _ _ => rfl⟩ (.inl (by simp [hv']))
    simp only [Nat.add_zero, ← hv'] at hh
    rcases hown.2 with ⟨hv, rfl⟩ | ⟨g, cap, cur, hv, _, _, hnc, _⟩
    · rw [hv] at hh
      simp [execOp, ho, resolve, invoke, builtin, hv, hx, Builtin.append_, run_underlying T.und, sizeOf, typeInfo, hi, Builtin.lenOf, Builtin.firstCells, Result.andThen]
      exact hK _ _ hh
    · rw [hv] at hh
      simp [execOp, ho, resolve, invoke, builtin, hv, hx, Builtin.append_, run_underlying T.und, sizeOf, typeInfo, hi, Builtin.lenOf, Builtin.firstCells, Result.andThen, hnc, storeCells]
      exact hK _ _ hh
end
end Go.Proofs.YteoggphafhcchaaGreat
namespace Go.Proofs
open Go.RowKit Go.Maps Go.Sort Go.Shelf
/-- slices.Sort's two contracts at this dump, at the fence that asks nothing. -/
theorem Tryz.sorts36 (m : Nat) : AnyZ.SortsIn Tryz.prog Tryz.sorted36_ren Fence.wide m :=
  ⟨fun blk off cap ss W hH hblk hsz => callsIn_wide.2 (AnyM.slices_Sort_string Tryz.sort64 blk off cap ss W hH hblk hsz),
   fun p cap W => callsIn_wide.2 (AnyM.slices_Sort_string_none Tryz.sort64 p cap W)⟩

/-- **maps.Keys[map[string][]byte,string,[]byte], at whatever map, the nil one too:** a function value over ONE NEW BLOCK, which holds the map. -/
theorem Tryz.maps_Keys_37 (mb : Option Nat) (W : World) : CallsIn Fence.wide 5 Tryz.prog 37 #[.map mb] W fun e w' => e = .returned (.func (.func 65) #[] #[.pointer (some ⟨W.heap.size, 0, none⟩)]) ∧ w' = W.alloc (.cells #[.map mb] 35) :=
  AnyZ.keys_in Tryz.keys37 Fence.wide 5 trivial rfl mb W

set_option maxHeartbeats 1000000 in
/-- **slices.Sorted[string] AT WHAT maps.Keys[map[string][]byte,string,[]byte] HANDED BACK FOR A MAP THAT IS NOT nil** ('w': the world AHEAD of maps.Keys' call): A NEW SLICE THAT HOLDS THE MAP's KEYS, SORTED; nil just where it has none; nothing that lay before has turned. -/
theorem Tryz.slices_Sorted_keys_36_37 {H : Type} (b nn : Nat) (D0 : DataW H) (R : Value → Option (DataW H × List MemPlace)) (w : World) (hown : w.ownsMap Tryz.prog 9 R b nn D0) (hmax : Maps.size D0 ≤ maxLen) (hbytes : Maps.size D0 * 16 ≤ 140737488355328) :
    CallsIn Fence.wide 5 Tryz.prog 36 #[.func (.func 65) #[] #[.pointer (some ⟨w.heap.size, 0, none⟩)]] (w.alloc (.cells #[.map (some b)] 35)) fun e w' => ∃ (v : Value) (ss : List (List UInt8)), e = .returned v ∧ ss.Perm (strKeys D0) ∧
      w'.ownsRow (w.alloc (.cells #[.map (some b)] 35)).heap.size 9 1 v ss.length ((ss.mergeSort (fun x y => decide (x ≤ y))).map encStr) ∧ (v = .slice none 0 0 ↔ ss = []) ∧ Below (w.alloc (.cells #[.map (some b)] 35)).heap.size (w.alloc (.cells #[.map (some b)] 35)) w' := by
  have hbl := hown.lt
  have hseq : SeqGives Fence.wide 2 Tryz.prog 65 #[.pointer (some ⟨w.heap.size, 0, none⟩)] encStr (fun ss => ss.Perm (strKeys D0)) (Maps.size D0) (w.alloc (.cells #[.map (some b)] 35)) :=
    AnyZ.keys_gives (ρ := Tryz.keys37_ren) { Tryz.keys37 with } Fence.wide _ trivial rfl (by omega) w.heap.size b nn D0 _ (by simp) (by simp) (by
      obtain ⟨es, clock, hb, Ft, hs, hD⟩ := hown
      exact ⟨es, clock, (Below.heap_alloc _ _ b hbl).trans hb, Ft, hs, hD⟩)
  exact AnyZ.sorted_in Tryz.sorted36 Fence.wide 5 trivial trivial trivial trivial rfl (by omega) (Tryz.sorts36 _) (enters_of Tryz.func64 (by kernel_rfl) rfl) 65 #[.pointer (some ⟨w.heap.size, 0, none⟩)] trivial (enters_of Tryz.func65 (by kernel_rfl) rfl) _ _ hmax hbytes _ hseq

set_option maxHeartbeats 1000000 in
/-- **.. AND FOR THE nil MAP: nil.** -/
theorem Tryz.slices_Sorted_keys_nil_36_37 (w : World) :
    CallsIn Fence.wide 5 Tryz.prog 36 #[.func (.func 65) #[] #[.pointer (some ⟨w.heap.size, 0, none⟩)]] (w.alloc (.cells #[.map none] 35)) fun e w' => ∃ (v : Value) (ss : List (List UInt8)), e = .returned v ∧ ss = [] ∧
      w'.ownsRow (w.alloc (.cells #[.map none] 35)).heap.size 9 1 v ss.length ((ss.mergeSort (fun x y => decide (x ≤ y))).map encStr) ∧ (v = .slice none 0 0 ↔ ss = []) ∧ Below (w.alloc (.cells #[.map none] 35)).heap.size (w.alloc (.cells #[.map none] 35)) w' := by
  have hseq : SeqGives Fence.wide 2 Tryz.prog 65 #[.pointer (some ⟨w.heap.size, 0, none⟩)] encStr (fun ss : List (List UInt8) => ss = []) 0 (w.alloc (.cells #[.map none] 35)) :=
    AnyZ.keys_gives_nil (ρ := Tryz.keys37_ren) { Tryz.keys37 with } Fence.wide _ trivial rfl w.heap.size _ (by simp) (by simp)
  exact AnyZ.sorted_in Tryz.sorted36 Fence.wide 5 trivial trivial trivial trivial rfl (by omega) (Tryz.sorts36 _) (enters_of Tryz.func64 (by kernel_rfl) rfl) 65 #[.pointer (some ⟨w.heap.size, 0, none⟩)] trivial (enters_of Tryz.func65 (by kernel_rfl) rfl) _ 0 (Nat.zero_le _) (by omega) _ hseq



/-- **maps.Keys[map[string]*docket/disk.file,string,*docket/disk.file], at whatever map, the nil one too:** a function value over ONE NEW BLOCK, which holds the map. -/
theorem Tryz.maps_Keys_55 (mb : Option Nat) (W : World) : CallsIn Fence.wide 5 Tryz.prog 55 #[.map mb] W fun e w' => e = .returned (.func (.func 73) #[] #[.pointer (some ⟨W.heap.size, 0, none⟩)]) ∧ w' = W.alloc (.cells #[.map mb] 43) :=
  AnyZ.keys_in Tryz.keys55 Fence.wide 5 trivial rfl mb W

set_option maxHeartbeats 1000000 in
/-- **slices.Sorted[string] AT WHAT maps.Keys[map[string]*docket/disk.file,string,*docket/disk.file] HANDED BACK FOR A MAP THAT IS NOT nil** ('w': the world AHEAD of maps.Keys' call): A NEW SLICE THAT HOLDS THE MAP's KEYS, SORTED; nil just where it has none; nothing that lay before has turned. -/
theorem Tryz.slices_Sorted_keys_36_55 {H : Type} (b nn : Nat) (D0 : DataW H) (R : Value → Option (DataW H × List MemPlace)) (w : World) (hown : w.ownsMap Tryz.prog 9 R b nn D0) (hmax : Maps.size D0 ≤ maxLen) (hbytes : Maps.size D0 * 16 ≤ 140737488355328) :
    CallsIn Fence.wide 5 Tryz.prog 36 #[.func (.func 73) #[] #[.pointer (some ⟨w.heap.size, 0, none⟩)]] (w.alloc (.cells #[.map (some b)] 43)) fun e w' => ∃ (v : Value) (ss : List (List UInt8)), e = .returned v ∧ ss.Perm (strKeys D0) ∧
      w'.ownsRow (w.alloc (.cells #[.map (some b)] 43)).heap.size 9 1 v ss.length ((ss.mergeSort (fun x y => decide (x ≤ y))).map encStr) ∧ (v = .slice none 0 0 ↔ ss = []) ∧ Below (w.alloc (.cells #[.map (some b)] 43)).heap.size (w.alloc (.cells #[.map (some b)] 43)) w' := by
  have hbl := hown.lt
  have hseq : SeqGives Fence.wide 2 Tryz.prog 73 #[.pointer (some ⟨w.heap.size, 0, none⟩)] encStr (fun ss => ss.Perm (strKeys D0)) (Maps.size D0) (w.alloc (.cells #[.map (some b)] 43)) :=
    AnyZ.keys_gives (ρ := Tryz.keys55_ren) { Tryz.keys55 with } Fence.wide _ trivial rfl (by omega) w.heap.size b nn D0 _ (by simp) (by simp) (by
      obtain ⟨es, clock, hb, Ft, hs, hD⟩ := hown
      exact ⟨es, clock, (Below.heap_alloc _ _ b hbl).trans hb, Ft, hs, hD⟩)
  exact AnyZ.sorted_in Tryz.sorted36 Fence.wide 5 trivial trivial trivial trivial rfl (by omega) (Tryz.sorts36 _) (enters_of Tryz.func64 (by kernel_rfl) rfl) 73 #[.pointer (some ⟨w.heap.size, 0, none⟩)] trivial (enters_of Tryz.func73 (by kernel_rfl) rfl) _ _ hmax hbytes _ hseq

set_option maxHeartbeats 1000000 in
/-- **.. AND FOR THE nil MAP: nil.** -/
theorem Tryz.slices_Sorted_keys_nil_36_55 (w : World) :
    CallsIn Fence.wide 5 Tryz.prog 36 #[.func (.func 73) #[] #[.pointer (some ⟨w.heap.size, 0, none⟩)]] (w.alloc (.cells #[.map none] 43)) fun e w' => ∃ (v : Value) (ss : List (List UInt8)), e = .returned v ∧ ss = [] ∧
      w'.ownsRow (w.alloc (.cells #[.map none] 43)).heap.size 9 1 v ss.length ((ss.mergeSort (fun x y => decide (x ≤ y))).map encStr) ∧ (v = .slice none 0 0 ↔ ss = []) ∧ Below (w.alloc (.cells #[.map none] 43)).heap.size (w.alloc (.cells #[.map none] 43)) w' := by
  have hseq : SeqGives Fence.wide 2 Tryz.prog 73 #[.pointer (some ⟨w.heap.size, 0, none⟩)] encStr (fun ss : List (List UInt8) => ss = []) 0 (w.alloc (.cells #[.map none] 43)) :=
    AnyZ.keys_gives_nil (ρ := Tryz.keys55_ren) { Tryz.keys55 with } Fence.wide _ trivial rfl w.heap.size _ (by simp) (by simp)
  exact AnyZ.sorted_in Tryz.sorted36 Fence.wide 5 trivial trivial trivial trivial rfl (by omega) (Tryz.sorts36 _) (enters_of Tryz.func64 (by kernel_rfl) rfl) 73 #[.pointer (some ⟨w.heap.size, 0, none⟩)] trivial (enters_of Tryz.func73 (by kernel_rfl) rfl) _ 0 (Nat.zero_le _) (by omega) _ hseq



end Go.Proofs
namespace Go.Proofs.YteoggphafhcchaaGreat
open Go Go.RowKit Go.Shelf
set_option maxRecDepth 100000
set_option maxHeartbeats 1000000
set_option linter.unusedVariables false
set_option linter.unusedSimpArgs false
open Go.Maps Go.WideMaps Go.ChangeMaps
attribute [local go_sem] Oper.semAt_some
/-- Walk hands back the closure over one new box, which holds the disk. -/
theorem walk_any (w : World) (gd : Nat) : Calls Tryz.prog 25 #[.pointer (some ⟨gd, 0, none⟩)] w fun e w' => e = .returned (.func (.func 54) #[] #[.pointer (some ⟨w.heap.size, 0, none⟩)]) ∧ w' = w.alloc (boxD gd) := by
  go_enter Tryz.func25, Tryz.ntmps25
  go_wp2_with fail
  go_returns
  exact ⟨rfl, rfl⟩
/-- What a round keeps for the iterator: every block of cells but the one box, and but bytes. -/
def Kpc (cb : Nat) (W W' : World) : Prop := ∀ (k : Nat) (cs : Array Value) (t : TypeId) (fz : Nat × Nat), k ≠ cb → t ≠ 5 → W.heap[k]? = some (.cells cs t fz) → W'.heap[k]? = some (.cells cs t fz)
theorem Kpc.trans {cb : Nat} {A B C : World} (h : Kpc cb A B) (k : Kpc cb B C) : Kpc cb A C := fun i cs t fz hi ht hb => k i cs t fz hi ht (h i cs t fz hi ht hb)
theorem Kpc.turn {cb : Nat} (W : World) (l : Nat) (o o' : Obj) (h : W.heap[l]? = some o) (hc : o.isCells = false) : Kpc cb W (W.putObj l o') := fun k cs t fz _ _ hk => by
  have hne : k ≠ l := by rintro rfl; rw [h] at hk; cases hk; cases hc
  exact (World.putObj_heap_other hne).trans hk
theorem info3 : (Tryz.prog.info? 3).map (fun i => (i.zero, i.size, i.bytes)) = some (some (.int .i64 0), 1, 8) := by kernel_rfl
/-- A name of a disk. -/
abbrev El (d : Dm) : Type := { s : Nm // s ∈ keysOf d.names }
abbrev encE (d : Dm) (x : El d) : Array Value := #[.string (bs x.1), .int .i64 (d.lenOf x.1)]
theorem lenOf_eq (d : Dm) (s : Nm) : d.lenOf s = ((d.bytesOf s).length : Int) := by
  unfold Dm.lenOf Dm.bytesOf
  cases lk d.names s <;> rfl
theorem iter_off (n : Nat) (l bd gd : Nat) (L : Lay) (d : Dm) (W : World) (hbd : W.heap[bd]? = some (boxD gd)) (hD : DAt W L gd d) (hpw : d.power = false) :
    CallsIn Fence.wide n Tryz.prog 54 #[.func (.yield l) #[] #[], .pointer (some ⟨bd, 0, none⟩)] W fun e W' => (∃ v, e = .returned v) ∧ W' = W := by
  have c0 := cell0 hbd
  have c5 := hD.cells.2.2.2.2.2.1
  rw [hpw] at c5
  clear hbd hD
  refine callsIn_of_wp Tryz.func54 rfl trivial ?_ rfl
  simp only [Tryz.ntmps54, List.size_toArray, List.length_cons, List.length_nil, Nat.reduceAdd, Nat.reduceSub, Array.replicate_succ, Array.replicate_zero, List.push_toArray, List.append_toArray, List.nil_append, List.cons_append]
  gi_wp2
  refine bodyPost_ret (results_none rfl _ _ _) rfl ?_
  exact ⟨⟨_, rfl⟩, rfl⟩
theorem iter_in (n : Nat) (hn : 1 ≤ n) (l bd gd cb : Nat) (L : Lay) (d : Dm) (J Jx : List (El d) → World → Prop) (W : World) (hJ : AbidesFrom W.heap.size J)
    (hY : ∀ pre x W1, J pre W1 → pre.length < d.names.length → YieldAt Fence.wide (n - 1) Tryz.prog l (encE d x) W1 fun e W' =>
      (e = .returned (.bool true) ∧ J (pre ++ [x]) W' ∧ Kpc cb W1 W') ∨ (e = .returned (.bool false) ∧ Jx (pre ++ [x]) W'))
    (hbd : W.heap[bd]? = some (boxD gd)) (hD : DAt W L gd d) (hp : Pre d) (hpw : d.power = true) (hcb : cb < W.heap.size) (hJ0 : J [] W) :
    CallsIn Fence.wide n Tryz.prog 54 #[.func (.yield l) #[] #[], .pointer (some ⟨bd, 0, none⟩)] W fun e W' => (∃ v, e = .returned v) ∧ ((∃ ys : List (El d), ys.map (·.1) = d.sorted ∧ J ys W') ∨ ∃ pre, Jx pre W') := by
  have c0 := cell0 hbd
  have c5 := hD.cells.2.2.2.2.2.1
  have c6 := hD.cells.2.2.2.2.2.2.1
  rw [hpw] at c5
  obtain ⟨D, hm, -, hz, hl⟩ := hD.nm
  have hzN : d.names.length ≤ 4096 := hp.few
  have HM := Lib.hid hm
  have HZ := Lib.hid hz
  have HLK := Lib.hid hl
  have HBD := Lib.hid hbd
  have HD := Lib.hid hD
  have HP := Lib.hid hp
  have hf55 : Fence.wide.fn 55 := trivial
  have hf36 : Fence.wide.fn 36 := trivial
  clear hbd hD hm hz hl hp
  refine callsIn_of_wp Tryz.func54 rfl trivial ?_ rfl
  simp only [Tryz.ntmps54, List.size_toArray, List.length_cons, List.length_nil, Nat.reduceAdd, Nat.reduceSub, Array.replicate_succ, Array.replicate_zero, List.push_toArray, List.append_toArray, List.nil_append, List.cons_append]
  gi_wp2_with (first
    | (gi_at_call 55; refine (callsIn_wide.2 ((callsIn_wide (n := 5)).1 (Tryz.maps_Keys_55 _ _))).mono ?_; rintro e w3 ⟨rfl, rfl⟩)
    | (gi_at_call 36; refine (callsIn_wide.2 ((callsIn_wide (n := 5)).1 (Tryz.slices_Sorted_keys_36_55 L.nb d.names.length D ptrR W HM.out (by rw [HZ.out]; unfold maxLen; omega) (by rw [HZ.out]; omega)))).mono ?_; rintro e w4 ⟨v, ss, rfl, hS, hrow, hnl, hb4⟩
       obtain ⟨hN, hnd, hmem, hle⟩ := str_facts HM.out
       obtain ⟨K, hK⟩ : ∃ K, K = ss.mergeSort (fun x y => decide (x ≤ y)) := ⟨_, rfl⟩
       have hperm : ss.Perm (keysOf d.names) := hS.trans ((List.perm_ext_iff_of_nodup hnd HP.out.nn).2 fun x => by rw [hmem, (HLK.out x).2, lk_some])
       have hKs : K = d.sorted := by rw [hK]; exact mergeSort_of_perm hperm
       rw [← hK] at hrow
       have hss : ss.length = d.names.length := by rw [hperm.length_eq]; simp [keysOf]
       obtain ⟨ra, rc, rfl, -⟩ := owns_shape hrow
       obtain ⟨ii, hii, hiz, his, hib⟩ := info_parts info3
       have hbl4 : Below W.heap.size W w4 := ((Below.refl _ W).alloc (Nat.le_refl _) _).trans (hb4.mono (by simp))
       obtain ⟨w5, hmk, hrow5, hg5⟩ := run_make_full (P := Tryz.prog) w4 W.heap.size 30 3 ii _ 1 Tryz.underlying30 hii hiz his .i64 .i64 d.names.length (by rw [hib]; omega) (by unfold maxLen; omega) hbl4.size
       rw [hss] at hrow ⊢))
  have hbl5 : Below W.heap.size W w5 := hbl4.trans ⟨hg5.os, hg5.tape, hg5.output, hg5.size, fun k hk => hg5.block k (by have := hbl4.size; omega) (by simp)⟩
  obtain ⟨N, hN0⟩ : ∃ N, N = d.names.length := ⟨_, rfl⟩
  obtain ⟨sb, hsb⟩ : ∃ sb, sb = w4.heap.size := ⟨_, rfl⟩
  rw [← hsb, ← hN0] at hrow5
  rw [← hN0] at hrow
  rw [← hsb, ← hN0]
  have hz5 : ∃ c5, w5.heap[sb]? = some (.cells c5 3 (0, 0)) ∧ c5.size = N := by
    rcases hrow5.2 with ⟨e, -⟩ | ⟨g, cap', cur, e, hb, hg, h1, h2, h3, h4⟩
    · cases e
    · simp only [Value.slice.injEq, Option.some.injEq, Addr.mk.injEq] at e
      obtain ⟨⟨rfl, -⟩, -, rfl⟩ := e
      exact ⟨cur, hg, by simpa using h3⟩
  obtain ⟨c5', hz5, hc5⟩ := hz5
  have hKl : K.length = N := by have := hrow.1; simpa using this
  have hKm : ∀ s ∈ K, s ∈ keysOf d.names := fun s hs => by rw [hKs] at hs; exact (List.mergeSort_perm _ _).mem_iff.1 hs
  have hbd5 := (hbl5.block bd (Array.getElem?_eq_some_iff.1 HBD.out).1).trans HBD.out
  have hsw : W.heap.size ≤ sb := by rw [hsb]; exact hbl4.size
  have hsbc : sb ≠ cb := by omega
  have HROW := Lib.hid hrow
  have HB45 := Lib.hid (show ∀ k, k < sb → w5.heap[k]? = w4.heap[k]? from fun k hk => hg5.block k (by omega) (by simp))
  have HS4 := Lib.hid hsb
  have HBL := Lib.hid hbl5
  have HZ5 := Lib.hid (And.intro hz5 hc5)
  have HKM := Lib.hid hKm
  have HKS := Lib.hid hKs
  have HKL := Lib.hid hKl
  have HN := Lib.hid hN0
  have HHY := Lib.hid hY
  have hNN : N ≤ 4096 := by omega
  have e0 := cell0 hbd5
  have HBDF := Lib.hid hbd5
  have e6 := (HD.out.below hbl5).cells.2.2.2.2.2.2.1
  clear hmk hrow5 hg5 hS hrow hnl hb4 hN hnd hmem hle hK hperm hss hz5 hc5 hY c0 c5 c6 hbd5 hii hiz his hib hsb hbl4 hbl5 hKm hKs hN0 hzN
  gi_loopw [25] (fun i wr => ∃ (k : Nat) (cs : Array Value), k ≤ N ∧ i = .int .i64 k ∧ w5.grownBy wr (some sb) ∧ wr.heap[sb]? = some (.cells cs 3 (0, 0)) ∧ cs.size = N ∧ Hid (∀ (j : Nat) (s : Nm), j < k → K[j]? = some s → cs[j]? = some (.int .i64 (d.lenOf s)))) (fun i _ => N - (intOf i).toNat)
  case atStart => exact ⟨0, c5', Nat.zero_le _, rfl, World.grownBy.refl _ _, HZ5.out.1, HZ5.out.2, Lib.hid (fun j s h => absurd h (Nat.not_lt_zero _))⟩
  case round =>
    obtain ⟨k, cs, hk, rfl, hg, hx, hcs, hH⟩ := hrel
    have hbw : Below W.heap.size W wr := HBL.out.trans ⟨hg.os, hg.tape, hg.output, hg.size, fun j hj => hg.block j (by have := HBL.out.size; omega) (by simp; omega)⟩
    have HG := Lib.hid hg
    have HX := Lib.hid hx
    have HCS := Lib.hid hcs
    have HBW := Lib.hid hbw
    clear hg hx hcs hbw
    by_cases hkl : k < N
    · obtain ⟨s, hs⟩ : ∃ s, K[k]? = some s := ⟨K[k]'(by omega), List.getElem?_eq_getElem _⟩
      have hsm := HKM.out s (List.mem_of_getElem? hs)
      have hsl : s.length ≤ maxLen := by have := (legal_len (HP.out.leg s hsm)).1; unfold maxLen; omega
      obtain ⟨i, hi⟩ := lk_isSome hsm
      have hDr := HD.out.below HBW.out
      have hlk : (Instr.lookup 43 (.map (some L.nb)) (.string (bs s)) false).run Tryz.prog wr = .ok (.pointer (some ⟨L.fa i, 0, none⟩)) wr := by
        have h9 := hDr.nm.look hsl
        rw [hi] at h9
        exact h9
      obtain ⟨vn, vs, vl, hf⟩ := hDr.at (HP.out.refs.nm s i hi)
      obtain ⟨va, vc, hvn, -⟩ := owns_shape hf.now.1
      have n1 := hf.cells.2.1
      obtain ⟨fl, hfl⟩ : ∃ fl, fl = (d.file i).now.length := ⟨_, rfl⟩
      rw [hvn, ← hfl] at n1
      have hle : d.lenOf s = (fl : Int) := by unfold Dm.lenOf; rw [hi, hfl]
      obtain ⟨rb, cap, rs, hv, hrb, hrs, -, hat⟩ := row_block HROW.out (by omega)
      obtain ⟨hv1, -, hv3⟩ := Value.slice.inj hv
      subst hv1 hv3
      have hrl : rb < sb := by rw [HS4.out]; exact (Array.getElem?_eq_some_iff.1 hrs).1
      have hrs' : wr.heap[rb]? = some (.cells rs 9 (0, 0)) := (HG.out.block rb (by have := HB45.out; have := (Array.getElem?_eq_some_iff.1 HZ5.out.1).1; omega) (by simp; omega)).trans ((HB45.out rb hrl).trans hrs)
      have hcell : wr.cell? ⟨rb, k, none⟩ = some (.string (bs s)) := by rw [cell_of_row _ _ _ _ _ _ hrs']; exact hat k s hs
      have hs0 : ∃ u, wr.cell? ⟨sb, k, none⟩ = some u := ⟨_, by rw [cell_of_row _ _ _ _ _ _ HX.out]; exact Array.getElem?_eq_getElem (by rw [HCS.out]; exact hkl)⟩
      obtain ⟨u0, hs0⟩ := hs0
      have hsf : wr.frozen? ⟨sb, k, none⟩ = false := frozen_of_row wr sb k _ _ HX.out
      have hd0 : wr.cell? ⟨bd, 0, none⟩ = some (.pointer (some ⟨gd, 0, none⟩)) := cell0 ((HBW.out.block bd (Array.getElem?_eq_some_iff.1 HBD.out).1).trans HBD.out)
      have hd6 := hDr.cells.2.2.2.2.2.2.1
      obtain ⟨gf, hgf⟩ : ∃ gf, gf = L.fa i := ⟨_, rfl⟩
      rw [← hgf] at hlk n1
      have HSS := Lib.hid hs
      have HLE := Lib.hid hle
      clear hs hsm hi hDr hf hvn hfl hle hrs hrs' hat hrb hgf hsl hrl e0 e6
      gi_wp2
      refine ⟨⟨k + 1, cs.setIfInBounds k (.int .i64 fl), by omega, by push_cast; rfl, ?_, heap_setCell_same _ sb k _ _ _ HX.out, by rw [Array.size_setIfInBounds]; exact HCS.out, ?_⟩, by simp [intOf]; omega⟩
      · exact HG.out.trans ⟨rfl, rfl, rfl, by simp, fun q _ hne => heap_setCell_other wr ⟨sb, k, none⟩ q _ (fun e => hne (by rw [e]))⟩
      · refine Lib.hid (fun j s' hj hs' => ?_)
        rw [Array.getElem?_setIfInBounds]
        by_cases e : k = j
        · subst e
          rw [if_pos rfl, if_pos (by rw [HCS.out]; exact hkl)]
          rw [HSS.out] at hs'
          cases hs'
          rw [HLE.out]
        · rw [if_neg e]; exact hH.out j s' (by omega) hs'
    · obtain rfl : k = N := by omega
      have hJ5 : J [] wr := hJ _ _ _ none hJ0 (gwk HBW.out) (fun r e => by cases e)
      have HJ5 := Lib.hid hJ5
      have HHH := hH
      have hz6 : Kpc cb wr wr := fun _ _ _ _ _ _ h => h
      clear hJ0 e0 e6 hH hJ5
      gi_wp2
      gi_loopw [46] (fun i wx => ∃ (j : Nat) (ys : List (El d)), j ≤ k ∧ i = .int .i64 j ∧ Hid (ys.map (·.1) = K.take j ∧ ys.length = j) ∧ J ys wx ∧ Kpc cb wr wx) (fun i _ => k - (intOf i).toNat)
      case atStart => exact ⟨0, [], Nat.zero_le _, rfl, Lib.hid ⟨rfl, rfl⟩, HJ5.out, fun _ _ _ _ _ _ h => h⟩
      case round =>
        rename World => wx
        obtain ⟨j, ys, hj, rfl, hys, hJs, hkp⟩ := hrel
        by_cases hjl : j < k
        · obtain ⟨s, hs⟩ : ∃ s, K[j]? = some s := ⟨K[j]'(by rw [HKL.out]; exact hjl), List.getElem?_eq_getElem _⟩
          have hsm := HKM.out s (List.mem_of_getElem? hs)
          obtain ⟨rb, cap, rs, hv, hrb, hrs, -, hat⟩ := row_block HROW.out (by omega)
          obtain ⟨hv1, -, hv3⟩ := Value.slice.inj hv
          subst hv1 hv3
          have hrl : rb < sb := by rw [HS4.out]; exact (Array.getElem?_eq_some_iff.1 hrs).1
          have hrs' : wr.heap[rb]? = some (.cells rs 9 (0, 0)) := (HG.out.block rb (by have := (Array.getElem?_eq_some_iff.1 HZ5.out.1).1; omega) (by simp; omega)).trans ((HB45.out rb hrl).trans hrs)
          have hrc : rb ≠ cb := by rw [World.size_alloc] at hrb; omega
          have hrow := hkp rb _ _ _ hrc (by decide) hrs'
          have hsz := hkp sb _ _ _ hsbc (by decide) HX.out
          have hcell : wx.cell? ⟨rb, j, none⟩ = some (.string (bs s)) := by rw [cell_of_row _ _ _ _ _ _ hrow]; exact hat j s hs
          have hs0 : wx.cell? ⟨sb, j, none⟩ = some (.int .i64 (d.lenOf s)) := by rw [cell_of_row _ _ _ _ _ _ hsz]; exact HHH.out j s hjl hs
          obtain ⟨fn, tmps, assign, body, hy, hR⟩ := HHY.out ys (⟨s, hsm⟩ : El d) wx hJs (by rw [hys.out.2, ← HN.out]; exact hjl)
          have HK := Lib.hid hkp
          have HNX := Lib.hid (show (ys ++ [(⟨s, hsm⟩ : El d)]).map (·.1) = K.take (j + 1) by rw [List.map_append, hys.out.1, List.take_add_one, hs]; rfl)
          clear hrow hsz hkp hrs hrs' hat hrb hrl
          gi_wp2
          refine hR.mono ?_
          rintro e W3 (⟨rfl, hJ3, hk3⟩ | ⟨rfl, hJx3⟩)
          · gi_wp2
            go_roundw
            case rel => exact ⟨j + 1, ys ++ [(⟨s, hsm⟩ : El d)], by omega, by push_cast; rfl, Lib.hid ⟨HNX.out, by rw [List.length_append, hys.out.2]; rfl⟩, hJ3, HK.out.trans hk3⟩
            case measure => simp [intOf]; omega
          · gi_wp2
            refine bodyPost_ret (results_none rfl _ _ _) rfl ?_
            exact ⟨⟨_, rfl⟩, .inr ⟨_, hJx3⟩⟩
        · obtain rfl : j = k := by omega
          gi_wp2
          go_end0
          refine ⟨⟨_, rfl⟩, .inl ⟨ys, ?_, hJs⟩⟩
          rw [hys.out.1, List.take_of_length_le (by rw [HKL.out]; exact Nat.le_refl _)]; exact HKS.out
def Dm.listed (d : Dm) : List Nm := if d.power = true then d.sorted else []
/-- Walk's iterator. -/
theorem walk_stops (bd gd cb : Nat) (L : Lay) (d : Dm) (w : World) (hbd : w.heap[bd]? = some (boxD gd)) (hD : DAt w L gd d) (hp : Pre d) (hcb : cb < w.heap.size) :
    SeqStopsK Fence.wide 4 Tryz.prog 54 #[.pointer (some ⟨bd, 0, none⟩)] (encE d) (Kpc cb) (fun ys => ys.map (·.1) = d.listed) (fun _ => True) (if d.power = true then d.names.length else 0) w := fun l J Jx W hW hJ _ hY hJ0 => by
  have hbd' := (hW.block bd (Array.getElem?_eq_some_iff.1 hbd).1).trans hbd
  have hD' := hD.below hW
  cases e : d.power with
  | true =>
    rw [e] at hY
    refine (iter_in 4 (by omega) l bd gd cb L d J Jx W hJ hY hbd' hD' hp e (Nat.lt_of_lt_of_le hcb hW.size) hJ0).mono ?_
    rintro e1 W' ⟨h1, ⟨ys, h2, h3⟩ | ⟨pre, h2⟩⟩
    · exact ⟨h1, .inl ⟨ys, by unfold Dm.listed; rw [e]; exact h2, h3⟩⟩
    · exact ⟨h1, .inr ⟨pre, trivial, h2⟩⟩
  | false =>
    refine (iter_off 4 l bd gd L d W hbd' hD' e).mono ?_
    rintro e1 W' ⟨h1, rfl⟩
    exact ⟨h1, .inl ⟨[], by unfold Dm.listed; rw [e]; rfl, hJ0⟩⟩
end Go.Proofs.YteoggphafhcchaaGreat
namespace Go.Proofs.YteoggphafhcchaaGreat
open Go Go.RowKit
set_option maxRecDepth 100000
set_option maxHeartbeats 1000000
set_option linter.unusedVariables false
set_option linter.unusedSimpArgs false
open Go.Maps Go.WideMaps
theorem told_zero {v : Value} {w : World} {ρ : Nat → Nat} {c n : ByteArray} (h : ToldV v w ρ c n 0) : v = .nilIface := by
  rcases h with ⟨-, h⟩ | ⟨h, -⟩
  · exact h
  · exact absurd rfl h
/-- A step that lies below B. -/
structure OpLow (w : World) (B : Nat) (o : Op3) : Prop where
  k0 : -9223372036854775808 ≤ o.kind ∧ o.kind ≤ 9223372036854775807
  la : o.a.length ≤ maxLen
  lb : o.b.length ≤ maxLen
  n0 : -9223372036854775808 ≤ o.n
  n1 : o.n ≤ 9223372036854775807
  lp : o.p.length ≤ 140737488355328
  rd : R8 w o.pa o.p.length o.pc o.p
  lo : ∀ b off, o.pa = some ⟨b, off, none⟩ → 0 < o.p.length → b < B
theorem OpLow.below {w w' : World} {B : Nat} {o : Op3} (h : OpLow w B o) (hb : Below B w w') : OpLow w' B o :=
  ⟨h.k0, h.la, h.lb, h.n0, h.n1, h.lp, h.rd.same (fun b off e h0 => hb.block b (h.lo b off e h0)), h.lo⟩
theorem OpLow.ok {w : World} {B : Nat} {o : Op3} (h : OpLow w B o) {ρ : Nat → Nat} (hρ : ∀ k, k < B → ρ k = 0) : OpOk w ρ o :=
  ⟨h.la, h.lb, h.n0, h.n1, h.lp, h.rd, fun b off e h0 => hρ b (h.lo b off e h0)⟩
/-- A script that lies below B. -/
structure ScAt (w : World) (B : Nat) (a : Option Addr) (n : Nat) (ops : List Op3) : Prop where
  len : ops.length = n
  few : n ≤ 977343669134
  at_ : ∀ (j : Nat) (o : Op3), ops[j]? = some o → OpLow w B o ∧ ∃ b off, a = some ⟨b, off, none⟩ ∧ b < B ∧ ∀ (i : Nat) (u : Value), o.cells[i]? = some u → w.cell? ⟨b, off + j * 10 + i, none⟩ = some u
theorem ScAt.below {w w' : World} {B : Nat} {a : Option Addr} {n : Nat} {ops : List Op3} (h : ScAt w B a n ops) (hb : Below B w w') : ScAt w' B a n ops :=
  ⟨h.len, h.few, fun j o ho => by
    obtain ⟨h1, b, off, h2, h3, h4⟩ := h.at_ j o ho
    exact ⟨h1.below hb, b, off, h2, h3, fun i u hu => (World.cell?_of_block (a := ⟨b, off + j * 10 + i, none⟩) (hb.block b h3)).trans (h4 i u hu)⟩⟩
theorem made_any (w : World) (S : Nat) (hS : S ≤ 10000000) (B : Nat) (hB : B ≤ w.heap.size) (a : Option Addr) (n c : Nat) (ops : List Op3) (hsc : ScAt w B a n ops) :
    Calls Tryz.prog 6 #[.int .i64 S, .slice a n c] w fun e w' => Below w.heap.size w w' ∧ ∃ L gd, e = .returned (.pointer (some ⟨gd, 0, none⟩)) ∧ DAt w' L gd (madeD S ops) ∧ ∀ k, k < w.heap.size → L.ρ k = 0 := by
  have HSC := Lib.hid hsc
  have hfew := hsc.few
  have hn := hsc.len
  have HI0 := Lib.hid ((Inv.new S).pre hS (by omega) (by omega) (show (0 : Nat) ≤ 1000000000000 by omega))
  have HI1 := Lib.hid ((Inv.made1 S hS).pre hS (by omega) (by omega) (show (1 : Nat) ≤ 1000000000000 by omega))
  have HIK := Lib.hid (fun k (hk : k ≤ ops.length) => (Inv.made0 S hS).runs hS ops k hk)
  have HNL := Lib.hid hn
  clear hsc hn
  go_enter Tryz.func6, Tryz.ntmps6
  go_wp2_with (first
    | (go_at_call 21; refine (newdisk_any w S (by omega) (by omega)).mono ?_; rintro e w1 ⟨hb1, L1, gd, rfl, hd1, hl1⟩
       have HD1 := Lib.hid hd1
       have HL1 := Lib.hid hl1
       have HB1 := Lib.hid hb1
       clear hd1 hl1 hb1)
    | (go_at_call 22; refine (create_any w1 L1 gd (Dm.new S) HD1.out HI0.out [122, 101, 114, 111] (by unfold maxLen; decide)).mono ?_; rintro e w2 ⟨L2, hd2, hu2, v2, rfl, ht2⟩
       obtain rfl := told_zero ht2
       have HD2 := Lib.hid hd2
       have HB2 := Lib.hid (HB1.out.trans (hu2.below HB1.out.size HL1.out))
       have HL2 := Lib.hid (hu2.low HB1.out.size HL1.out)
       clear hd2 hu2 ht2)
    | (go_at_call 23; refine (syncNames_any w2 L2 gd _ HD2.out HI1.out).mono ?_; rintro e w3 ⟨L3, hd3, hu3, v3, rfl, ht3⟩
       obtain rfl := told_zero ht3
       have HD3 := Lib.hid hd3
       have HB3 := Lib.hid (HB2.out.trans (hu3.below HB2.out.size HL2.out))
       have HL3 := Lib.hid (hu3.low HB2.out.size HL2.out)
       clear hd3 hu3 ht3))
  go_loopw [7] (fun iv wr => ∃ (k : Nat) (L : Lay), k ≤ n ∧ iv = .int .i64 k ∧ Hid (DAt wr L gd ((((Dm.new S).create zeroNm).1.syncNames.1).runs (ops.take k))) ∧ Hid (∀ j, j < w.heap.size → L.ρ j = 0) ∧ Hid (Below w.heap.size w wr)) (fun iv _ => n - (intOf iv).toNat)
  case atStart => exact ⟨0, L3, Nat.zero_le _, rfl, HD3, HL3, HB3⟩
  case round =>
    obtain ⟨k, L, hk, rfl, HD, HL, HB⟩ := hrel
    by_cases hkn : k < n
    · obtain ⟨o, ho⟩ : ∃ o, ops[k]? = some o := ⟨_, List.getElem?_eq_getElem (by rw [HNL.out]; exact hkn)⟩
      obtain ⟨hlo, b, off, rfl, hbB, hc⟩ := (HSC.out.below (HB.out.mono hB)).at_ k o ho
      have hkind := hlo.k0
      have s0 := hc 0 _ rfl
      have s1 := hc 1 _ rfl
      have s2 := hc 2 _ rfl
      have s3 := hc 3 _ rfl
      have s4 := hc 4 _ rfl
      have s5 := hc 5 _ rfl
      have s6 := hc 6 _ rfl
      have s7 := hc 7 _ rfl
      have s8 := hc 8 _ rfl
      have s9 := hc 9 _ rfl
      simp only [Nat.add_zero] at s0
      have HLO := Lib.hid hlo
      have HO := Lib.hid ho
      obtain ⟨is, his⟩ : ∃ is : Bool, is = decide (1 ≤ o.kind ∧ o.kind ≤ 7) := ⟨_, rfl⟩
      have HIS := Lib.hid his
      have ha := isact_any wr o
      unfold Op3.val at ha
      rw [← his] at ha
      have HA := Lib.hid ha
      have HPK := Lib.hid (show Pre ((((Dm.new S).create zeroNm).1.syncNames.1).runs (ops.take k)) from by
        obtain ⟨h1, h2⟩ := HIK.out k (by rw [HNL.out]; exact hk)
        exact h1.pre hS (by omega) (by omega) (by have h3 : ((Dm.new S).create zeroNm).1.syncNames.1.acts = 2 := rfl; omega))
      clear hlo hc ho his ha hkind
      obtain ⟨oa, hoa⟩ : ∃ oa : Option Addr, oa = some (⟨b, off, none⟩ : Addr) := ⟨_, rfl⟩
      have hE : ops.take (k + 1) = ops.take k ++ [o] := by rw [List.take_add_one, HO.out]; rfl
      have HE := Lib.hid hE
      clear hoa hE
      cases is with
      | false =>
        have HNO := Lib.hid (of_decide_eq_false HIS.out.symm)
        go_wp2_with (go_at_call 15; refine HA.out.mono ?_; rintro e w2 ⟨rfl, hb2⟩
                     have HB2 := Lib.hid hb2
                     clear hb2)
        go_roundw
        case rel => exact ⟨k + 1, L, by omega, by push_cast; rfl, Lib.hid (by rw [HE.out, runs_snoc, if_neg HNO.out]; exact HD.out.below HB2.out), HL, Lib.hid (HB.out.trans (HB2.out.mono HB.out.size))⟩
        case measure => simp [intOf]; omega
      | true =>
        have HYES := Lib.hid (of_decide_eq_true HIS.out.symm)
        go_wp2_with (first
          | (go_at_call 15; refine HA.out.mono ?_; rintro e w2 ⟨rfl, hb2⟩
             have s0 := keepc hb2 s0
             have s1 := keepc hb2 s1
             have s2 := keepc hb2 s2
             have s3 := keepc hb2 s3
             have s4 := keepc hb2 s4
             have s5 := keepc hb2 s5
             have s6 := keepc hb2 s6
             have s7 := keepc hb2 s7
             have s8 := keepc hb2 s8
             have s9 := keepc hb2 s9
             have HD2 := Lib.hid (HD.out.below hb2)
             have HB2 := Lib.hid (HB.out.trans (hb2.mono HB.out.size))
             have hdo := does_any w2 L gd _ HD2.out HPK.out o ((HLO.out.below (hb2.mono (by have := HB.out.size; omega))).ok (fun j hj => HL.out j (by omega))) HYES.out
             unfold Op3.val at hdo
             have HDO := Lib.hid hdo
             clear hb2 hdo)
          | (go_at_call 17; refine HDO.out.mono ?_; rintro e w4 ⟨L4, hd4, hu4, v4, rfl, -⟩
             have HD4 := Lib.hid hd4
             have HB4 := Lib.hid (HB2.out.trans (hu4.below HB2.out.size HL.out))
             have HL4 := Lib.hid (hu4.low HB2.out.size HL.out)
             clear hd4 hu4))
        go_roundw
        case rel => exact ⟨k + 1, L4, by omega, by push_cast; rfl, Lib.hid (by rw [HE.out, runs_snoc, if_pos HYES.out]; exact HD4.out), HL4, HB4⟩
        case measure => simp [intOf]; omega
    · obtain rfl : k = n := by omega
      go_wp2_with fail
      go_ret
      refine ⟨HB.out, L, gd, rfl, ?_, HL.out⟩
      have h9 := HD.out
      rw [List.take_of_length_le (by rw [HNL.out]; exact Nat.le_refl _)] at h9
      exact h9
end Go.Proofs.YteoggphafhcchaaGreat
namespace Go.Proofs.YteoggphafhcchaaGreat
open Go Go.RowKit Go.Shelf
set_option maxRecDepth 100000
set_option maxHeartbeats 1000000
set_option linter.unusedVariables false
set_option linter.unusedSimpArgs false
open Go.Maps Go.WideMaps Go.ChangeMaps
attribute [local go_sem] Oper.semAt_some
/-- Every block stands but the box cb and blocks of bytes. -/
structure Kq (cb : Nat) (W W' : World) : Prop where
  size : W.heap.size ≤ W'.heap.size
  same : ∀ (k : Nat) (o : Obj), k ≠ cb → W.heap[k]? = some o → (∀ cs fz, o ≠ .cells cs 5 fz) → W'.heap[k]? = some o
theorem Kq.refl (cb : Nat) (W : World) : Kq cb W W := ⟨Nat.le_refl _, fun _ _ _ h _ => h⟩
theorem Kq.trans {cb : Nat} {A B C : World} (h : Kq cb A B) (k : Kq cb B C) : Kq cb A C := ⟨Nat.le_trans h.size k.size, fun i o hi ho hn => k.same i o hi (h.same i o hi ho hn) hn⟩
theorem Kq.below {cb : Nat} {W W' : World} (h : Below W.heap.size W W') : Kq cb W W' := ⟨h.size, fun k o _ ho _ => (h.block k (Array.getElem?_eq_some_iff.1 ho).1).trans ho⟩
theorem Kq.setCell (cb : Nat) (W : World) (o : Nat) (v : Value) : Kq cb W (W.setCell ⟨cb, o, none⟩ v) := ⟨by simp, fun k x hk hx _ => (heap_setCell_other W ⟨cb, o, none⟩ k v hk).trans hx⟩
theorem Kq.grown {cb : Nat} {W W' : World} {B n : Nat} {v : Value} {xs : List Value} (ho : W.ownsRow B 5 1 v n xs) (hg : W.grownBy W' v.ownBlock) : Kq cb W W' := ⟨hg.size, fun k x _ hx hn => by
  refine (hg.block k (Array.getElem?_eq_some_iff.1 hx).1 (fun e => ?_)).trans hx
  rcases ho.2 with ⟨h1, -⟩ | ⟨g, cap, cur, h1, -, h2, -⟩
  · rw [h1] at e; cases e
  · rw [h1] at e
    obtain rfl : k = g := Option.some.inj e
    rw [h2] at hx
    cases hx
    exact hn _ _ rfl⟩
theorem Kq.others {cb : Nat} {W W' : World} (h : Kq cb W W') (hcb : ∃ cs t fz, W.heap[cb]? = some (.cells cs t fz)) : KeepsOthers W W' := ⟨h.size, fun k o ho hc => by
  obtain ⟨cs, t, fz, hb⟩ := hcb
  refine h.same k o (fun e => ?_) ho (fun cs' fz' e => ?_)
  · subst e; rw [hb] at ho; cases ho; cases hc
  · subst e; cases hc⟩
theorem Kq.kpc {cb : Nat} {W W' : World} (h : Kq cb W W') : Kpc cb W W' := fun k cs t fz hk ht hb => h.same k _ hk hb (fun cs' fz' e => by cases e; exact ht rfl)
theorem below_grown {B : Nat} {w W W' : World} (hb : Below B w W) {n : Nat} {v : Value} {xs : List Value} (ho : W.ownsRow B 5 1 v n xs) (hg : W.grownBy W' v.ownBlock) (hB : B ≤ w.heap.size) : Below B w W' :=
  hb.trans ⟨hg.os, hg.tape, hg.output, hg.size, fun k hk => hg.block k (by have := hb.size; omega) (fun e => by have := (ho.lt k e.symm).1; omega)⟩
/-- What the picture holds behind so many names. -/
structure PI (w : World) (gd b1 b2 b3 b4 : Nat) (bytes : List UInt8) (W : World) : Prop where
  row : ∃ va n vc, W.heap[b4]? = some (.cells #[.slice va n vc] 50) ∧ n = bytes.length ∧ W.ownsRow w.heap.size 5 1 (.slice va n vc) n (bytes.map b8)
  d : W.heap[b1]? = some (boxD gd)
  s : W.heap[b2]? = some (boxN (bs []))
  p : W.heap[b3]? = some (.cells #[.bool false] 4)
  b : Below w.heap.size w W
theorem PI.keep {w : World} {gd b1 b2 b3 b4 : Nat} {bytes : List UInt8} {W W' : World} (h : PI w gd b1 b2 b3 b4 bytes W) {row : Option Nat} (hg : W.grownBy W' row) (hr : ∀ r, row = some r → w.heap.size ≤ r ∧ ∃ o : Obj, W.heap[r]? = some o ∧ o.isCells = false) : PI w gd b1 b2 b3 b4 bytes W' := by
  have hk : ∀ (k : Nat) (cs : Array Value) (t : TypeId) (fz : Nat × Nat), W.heap[k]? = some (.cells cs t fz) → W'.heap[k]? = some (.cells cs t fz) := fun k cs t fz hb => by
    refine (hg.block k (Array.getElem?_eq_some_iff.1 hb).1 (fun e => ?_)).trans hb
    obtain ⟨-, o, ho, hc⟩ := hr k e.symm
    rw [hb] at ho; cases ho; cases hc
  obtain ⟨va, n, vc, h1, h2, h3⟩ := h.row
  refine ⟨⟨va, n, vc, hk _ _ _ _ h1, h2, h3.1, ?_⟩, hk _ _ _ _ h.d, hk _ _ _ _ h.s, hk _ _ _ _ h.p, h.b.trans ⟨hg.os, hg.tape, hg.output, hg.size, fun k hkk => hg.block k (by have := h.b.size; omega) (fun e => by have := (hr k e.symm).1; omega)⟩⟩
  rcases h3.2 with h4 | ⟨g, cap, cur, hv, hb, hg2, hrest⟩
  · exact .inl h4
  · exact .inr ⟨g, cap, cur, hv, hb, hk _ _ _ _ hg2, hrest⟩
theorem read_whole {d : Dm} {s : Nm} (hpw : d.power = true) (hl : legalB (bs s) = true) {i : Nat} (hi : lk d.names s = some i) (hle : (d.file i).now.length ≤ 2147483647) : d.read s 0 (d.file i).now.length = ((d.file i).now, 0) ∧ d.length s = (((d.file i).now.length : Int), 0) := by
  have ha : d.ask s = (some i, 0) := by
    unfold Dm.ask
    rw [if_neg (by rw [hpw]; decide), if_neg (by rw [hl]; decide), hi]
  unfold Dm.read Dm.length
  rw [ha]
  dsimp only
  rw [Int.sub_zero, wrap64_small (by omega) (by omega), if_neg (by omega)]
  simp
theorem u8_low (n : Nat) : (UInt8.ofNat n).toNat = n % 256 := by simp
def Dm.flat (d : Dm) (pre : List (El d)) : List UInt8 := pre.flatMap fun x => d.entry x.1
theorem flat_snoc (d : Dm) (pre : List (El d)) (x : El d) : d.flat (pre ++ [x]) = d.flat pre ++ d.entry x.1 := by unfold Dm.flat; rw [List.flatMap_append]; simp
theorem entry_len (d : Dm) (s : Nm) : (d.entry s).length = s.length + 5 + (d.bytesOf s).length := by unfold Dm.entry le4; simp; omega
theorem el_at {d : Dm} (hp : Pre d) (x : El d) : ∃ i, lk d.names x.1 = some i ∧ legalB (bs x.1) = true ∧ x.1.length ≤ 32 ∧ 0 < x.1.length ∧ d.bytesOf x.1 = (d.file i).now ∧ (d.file i).now.length ≤ 2147483647 ∧ d.lenOf x.1 = ((d.file i).now.length : Int) := by
  obtain ⟨s, hs⟩ := x
  obtain ⟨i, hi⟩ := lk_isSome hs
  have hl := hp.leg s hs
  have hln := legal_len hl
  refine ⟨i, hi, hl, hln.1, List.length_pos_iff.2 hln.2, ?_, (hp.file i).1, ?_⟩
  · show d.bytesOf s = _; unfold Dm.bytesOf; rw [hi]
  · show d.lenOf s = _; unfold Dm.lenOf; rw [hi]
theorem flatD_len {d : Dm} (hp : Pre d) (pre : List (El d)) : (d.flat pre).length ≤ pre.length * 2147483700 := by
  induction pre with
  | nil => exact Nat.zero_le _
  | cons x r ih =>
    have h1 : d.flat (x :: r) = d.entry x.1 ++ d.flat r := by unfold Dm.flat; rw [List.flatMap_cons]
    obtain ⟨i, -, -, h2, -, h3, h4, -⟩ := el_at hp x
    rw [h1, List.length_append, entry_len, h3, List.length_cons, Nat.add_mul]
    omega
theorem sl50' : Sl Tryz.prog 50 5 (.int .u8 0) 1 1 := sl50
/-- One append into the box, from the outside. -/
theorem store_step {B : Nat} {W2 W3 : World} {b4 n n3 : Nat} {v v0 : Value} {a3 : Option Addr} {c3 : Nat} {xs ys : List Value} (ho2 : W2.ownsRow B 5 1 v n xs) (hg : W2.grownBy W3 v.ownBlock) (hx3 : W3.heap[b4]? = some (.cells #[v0] 50)) (ho3 : W3.ownsRow B 5 1 (.slice a3 n3 c3) n3 ys) (hb4 : B ≤ b4) :
    (W3.setCell ⟨b4, 0, none⟩ (.slice a3 n3 c3)).heap[b4]? = some (.cells #[.slice a3 n3 c3] 50) ∧ (W3.setCell ⟨b4, 0, none⟩ (.slice a3 n3 c3)).ownsRow B 5 1 (.slice a3 n3 c3) n3 ys ∧ Kq b4 W2 (W3.setCell ⟨b4, 0, none⟩ (.slice a3 n3 c3)) ∧ ∀ w : World, w.heap.size = B → Below B w W2 → Below B w (W3.setCell ⟨b4, 0, none⟩ (.slice a3 n3 c3)) := by
  refine ⟨heap_setCell_same W3 b4 0 _ _ _ hx3, own_same ho3 (fun k e => heap_setCell_other W3 ⟨b4, 0, none⟩ k _ (fun e2 => ?_)), (Kq.grown ho2 hg).trans (Kq.setCell _ _ _ _), fun w hw hb => ?_⟩
  · have e3 : k = b4 := e2
    subst e3
    rcases ho3.2 with ⟨h1, -⟩ | ⟨g, cap, cur, h1, -, h2, -⟩
    · rw [h1] at e; cases e
    · rw [h1] at e
      obtain rfl : g = k := Option.some.inj e
      rw [h2] at hx3; cases hx3
  · subst hw
    exact (below_grown hb ho2 hg (Nat.le_refl _)).setCell (p := ⟨b4, 0, none⟩) hb4 _
theorem le4_cells (m : Nat) (hm : m ≤ 2147483647) : (#[.int .u8 0, .int .u8 ((m : Int) % 256), .int .u8 ((m : Int) / 256 % 256), .int .u8 ((m : Int) / 65536 % 256), .int .u8 ((m : Int) / 16777216)] : Array Value) = ((0 :: le4 m).map b8).toArray := by
  simp [le4, b8]; omega
theorem u8_0 (m : Nat) : IntKind.u8.wrap (m : Int) = ((UInt8.ofNat m).toNat : Int) := by simp [IntKind.wrap, IntKind.bits, IntKind.signed]
theorem u8_1 (m : Nat) : IntKind.u8.wrap ((m : Int) / 256) = ((UInt8.ofNat (m / 256)).toNat : Int) := by simp [IntKind.wrap, IntKind.bits, IntKind.signed]
theorem u8_2 (m : Nat) : IntKind.u8.wrap ((m : Int) / 65536) = ((UInt8.ofNat (m / 65536)).toNat : Int) := by simp [IntKind.wrap, IntKind.bits, IntKind.signed]
theorem u8_3 (m : Nat) : IntKind.u8.wrap ((m : Int) / 16777216) = ((UInt8.ofNat (m / 16777216)).toNat : Int) := by simp [IntKind.wrap, IntKind.bits, IntKind.signed]
theorem conv_nil (w : World) : (convert 50 9 (.slice none 0 0)).run Tryz.prog w = .ok (.string (bs [])) w := by kernel_rfl
theorem conv_row {w : World} {B n c : Nat} {a : Option Addr} {l : List UInt8} (h : w.ownsRow B 5 1 (.slice a n c) n (l.map b8)) : (convert 50 9 (.slice a n c)).run Tryz.prog w = .ok (.string (bs l)) w := by
  have hl : n = l.length := by have := h.1; simpa using this.symm
  rcases h.2 with ⟨h1, h2⟩ | ⟨g, cap, cur, h1, -, h2, -⟩
  · injection h1 with h3 h4 h5
    subst h3 h4 h5
    obtain rfl : l = [] := List.eq_nil_of_length_eq_zero hl.symm
    exact conv_nil _
  · injection h1 with h3 _ h5
    subst h3 h5
    have hc : ∀ j u, (l.map b8)[j]? = some u → w.cell? ((⟨g, 0, none⟩ : Addr).add j) = some u := h.cells (g := g) rfl
    have := Go.Lib.run_convert_whole (P := Tryz.prog) w 50 5 9 (by kernel_rfl) (by kernel_rfl) (by kernel_rfl) g 0 (bs l) (by
      intro i hi
      have hi2 : i < l.length := hi
      have h9 := hc i (b8 l[i]) (by simp [hi2])
      rw [Addr.add_lit, Nat.zero_add] at h9
      rw [Nat.zero_add]
      exact h9) c
    rw [show (bs l).size = n from hl.symm] at this
    exact this
/-- The return behind one range over a function. -/
theorem leave1 {n : Nat} {P : Program} {fn : Func} {R : Ending → World → Prop} {W : World} {tmps : Array Value} {D : Nat} (hK : W.heap[D]? = some (Obj.deferred (some []))) (h : bodyPost P fn R .ret { tmps := tmps, defers := [] } (W.putObj D (.deferred none))) :
    bodyPostM Fence.wide n P fn R .ret { tmps := tmps, defers := [{ target := .collected D, args := #[] }] } W :=
  ⟨by simp, .inl ⟨_, _, rfl, run_takeDeferred hK, h.2⟩⟩
theorem own_box {w : World} {B n b o : Nat} {v u : Value} {xs : List Value} {cs : Array Value} {t : TypeId} {fz : Nat × Nat} (h : w.ownsRow B 5 1 v n xs) (hb : w.heap[b]? = some (.cells cs t fz)) (ht : t ≠ 5) : (w.setCell ⟨b, o, none⟩ u).ownsRow B 5 1 v n xs :=
  own_same h (fun k e => heap_setCell_other w ⟨b, o, none⟩ k _ (fun e2 => by
    have e3 : k = b := e2
    subst e3
    rcases h.2 with ⟨h1, -⟩ | ⟨g, cap, cur, h1, -, h2, -⟩
    · rw [h1] at e; cases e
    · rw [h1] at e
      obtain rfl : g = k := Option.some.inj e
      rw [h2] at hb; cases hb; exact ht rfl))
theorem hbcc {a b c : World} (h : Below a.heap.size a b) (k : Below b.heap.size b c) : Below a.heap.size a c := h.trans (k.mono h.size)
theorem eqf67 (c : Array Value) (w : World) : (binOp .eql 67 (.func (.func 54) #[] c) .nilFunc).run Tryz.prog w = .ok (.bool false) w := by kernel_rfl
theorem picture_any (w : World) (L : Lay) (gd : Nat) (d : Dm) (h : DAt w L gd d) (hp : Pre d) :
    Calls Tryz.prog 8 #[.pointer (some ⟨gd, 0, none⟩)] w fun e w' => e = .returned (.tuple #[.string (bs d.pict), .bool d.power]) ∧ Below w.heap.size w w' := by
  refine (callsIn_wide (n := 5)).1 (callsIn_of_wp_marks Tryz.func8 rfl trivial (wpIn_wide.2 ?_) rfl)
  simp only [Tryz.ntmps8, List.size_toArray, List.length_cons, List.length_nil, Nat.reduceAdd, Nat.reduceSub, Array.replicate_succ, Array.replicate_zero, List.push_toArray, List.append_toArray, List.nil_append, List.cons_append]
  obtain ⟨b1, hb1⟩ : ∃ b1, b1 = w.heap.size := ⟨_, rfl⟩
  obtain ⟨b2, hb2⟩ : ∃ b2, b2 = b1 + 1 := ⟨_, rfl⟩
  obtain ⟨b3, hb3⟩ : ∃ b3, b3 = b2 + 1 := ⟨_, rfl⟩
  obtain ⟨b4, hb4⟩ : ∃ b4, b4 = b3 + 1 := ⟨_, rfl⟩
  obtain ⟨wa, hwa⟩ : ∃ wa, wa = (((w.alloc (boxD gd)).alloc (boxN (bs []))).alloc (.cells #[.bool false] 4)).alloc (.cells #[.slice none 0 0] 50) := ⟨_, rfl⟩
  have hba : Below w.heap.size w wa := by rw [hwa]; exact ((((Below.refl _ _).alloc (Nat.le_refl _) _).alloc (by simp) _).alloc (by simp; omega) _).alloc (by simp; omega) _
  have hza : wa.heap.size = b4 + 1 := by rw [hwa, hb4, hb3, hb2, hb1]; simp
  have g1 : wa.heap[b1]? = some (boxD gd) := by
    rw [hwa, hb1]
    exact (Below.heap_alloc _ _ _ (by simp; omega)).trans ((Below.heap_alloc _ _ _ (by simp; omega)).trans ((Below.heap_alloc _ _ _ (by simp)).trans (heap_alloc_new w _)))
  have g2 : wa.heap[b2]? = some (boxN (bs [])) := by
    rw [hwa, hb2, hb1]
    refine (Below.heap_alloc _ _ _ (by simp)).trans ((Below.heap_alloc _ _ _ (by simp)).trans ?_)
    have := heap_alloc_new (w.alloc (boxD gd)) (boxN (bs []))
    simpa using this
  have g3 : wa.heap[b3]? = some (.cells #[.bool false] 4) := by
    rw [hwa, hb3, hb2, hb1]
    refine (Below.heap_alloc _ _ _ (by simp)).trans ?_
    have := heap_alloc_new ((w.alloc (boxD gd)).alloc (boxN (bs []))) (.cells #[.bool false] 4)
    simpa using this
  have g4 : wa.heap[b4]? = some (.cells #[.slice none 0 0] 50) := by
    rw [hwa, hb4, hb3, hb2, hb1]
    have := heap_alloc_new (((w.alloc (boxD gd)).alloc (boxN (bs []))).alloc (.cells #[.bool false] 4)) (.cells #[.slice none 0 0] 50)
    simpa using this
  have HD := Lib.hid h
  have HP := Lib.hid hp
  have HBA := Lib.hid hba
  have HG := Lib.hid (And.intro g1 (And.intro g2 (And.intro g3 g4)))
  have c1 := cell0 g1
  clear h hp hba g1 g2 g3 g4
  go_upto_region 2 with (fail)
  rw [show ((((w.alloc (.cells #[.pointer (some ⟨gd, 0, none⟩)] 24)).alloc (.cells #[.string ⟨#[]⟩] 9)).alloc (.cells #[.bool false] 4)).alloc (.cells #[.slice none 0 0] 50)) = wa from hwa.symm]
  rw [← hb1, ← hb2, ← hb3, ← hb4]
  have HBS := Lib.hid (And.intro hb1 (And.intro hb2 (And.intro hb3 (And.intro hb4 hza))))
  clear hwa hb1 hb2 hb3 hb4 hza
  have heqf := eqf67
  go_wp2_with (first
    | (go_at_call 25; have _g := c1; refine (walk_any wa gd).mono ?_; rintro e wb ⟨rfl, ewb⟩
       have hbb : Below wa.heap.size wa wb := by rw [ewb]; exact bel1 _ _
       have hzb : wb.heap.size = wa.heap.size + 1 := by rw [ewb]; simp
       have d1 := keepc hbb c1
       have HBB := Lib.hid hbb
       have HZB := Lib.hid hzb
       clear ewb hbb hzb c1 _g)
    | (go_at_call 25; have _g := d1; refine (walk_any wb gd).mono ?_; rintro e wc ⟨rfl, ewc⟩
       have hbc : Below wb.heap.size wb wc := by rw [ewc]; exact bel1 _ _
       have hbw : wc.heap[wb.heap.size]? = some (boxD gd) := by rw [ewc]; exact heap_alloc_new wb _
       have hzc : wc.heap.size = wb.heap.size + 1 := by rw [ewc]; simp
       have HBC := Lib.hid hbc
       have HBW := Lib.hid hbw
       have HZC := Lib.hid hzc
       clear ewc hbc hbw hzc d1 _g heqf))
  have HDC := Lib.hid ((HD.out.below HBA.out).below (hbcc HBB.out HBC.out))
  have HP0 := Lib.hid (show PI w gd b1 b2 b3 b4 (d.flat []) wc from by
    have hb := hbcc HBB.out HBC.out
    obtain ⟨g1, g2, g3, g4⟩ := HG.out
    have hk : ∀ {k : Nat} {o : Obj}, wa.heap[k]? = some o → wc.heap[k]? = some o := fun {k o} h9 => (hb.block k (Array.getElem?_eq_some_iff.1 h9).1).trans h9
    exact ⟨⟨none, 0, 0, hk g4, rfl, by simp [Dm.flat], .inl ⟨rfl, rfl⟩⟩, hk g1, hk g2, hk g3, HBA.out.trans (hb.mono HBA.out.size)⟩)
  obtain ⟨bw, hbw⟩ : ∃ bw, bw = wb.heap.size := ⟨_, rfl⟩
  have hcb : b4 < wc.heap.size := by have := HBS.out; have := HZB.out; have := HZC.out; omega
  have hww : w.heap.size ≤ wc.heap.size := HP0.out.b.size
  have hbwc : wc.heap[bw]? = some (boxD gd) := by rw [hbw]; exact HBW.out
  rw [← hbw]
  clear hbw
  refine (wpIn_wide (n := 5)).1 ?_
  refine wpIn_rangeFunc_ownF (n := 5) (F := Fence.wide) rfl (by omega) (gf := 54) (lb := #[.pointer (some ⟨bw, 0, none⟩)]) rfl trivial (enters_of Tryz.func54 (by kernel_rfl) rfl)
    (walk_stops bw gd b4 L d wc hbwc HDC.out HP.out hcb) Kpc.trans (fun W l o o' _ h hc _ => Kpc.turn W l o o' h hc) (Below.refl _ _) (fun _ => rfl)
    (fun pre W => PI w gd b1 b2 b3 b4 (d.flat pre) W) (fun _ _ _ => False)
    (fun pre A B row h hg hr => h.keep hg (fun r e => ⟨by have := (hr r e).1; omega, (hr r e).2⟩))
    (fun _ _ _ _ _ h _ _ => h) HP0.out ?a1 ?assign ?body ?done ?stop
  case assign =>
    intro ll x W K hK
    gi_wp2
    exact hK
  case body =>
    intro ll pre x W hPI hlN
    have hpw : d.power = true := by
      cases e : d.power with
      | true => rfl
      | false => rw [e] at hlN; exact absurd hlN (Nat.not_lt_zero _)
    rw [if_pos hpw] at hlN
    obtain ⟨i, hi, hleg, hs32, hs0, hbo, hml, hlo⟩ := el_at HP.out x
    obtain ⟨va, n, vc, hx4, hn, hrow⟩ := hPI.row
    have hfl := flatD_len HP.out pre
    have hfew := HP.out.few
    have hnb : n ≤ 8796093030400 := by rw [hn]; have : pre.length * 2147483700 ≤ 4096 * 2147483700 := Nat.mul_le_mul_right _ (by omega); omega
    obtain ⟨s, hs⟩ : ∃ s : Nm, s = x.1 := ⟨_, rfl⟩
    obtain ⟨m, hm⟩ : ∃ m, m = (d.file i).now.length := ⟨_, rfl⟩
    have hent : d.entry x.1 = s ++ (0 :: le4 m) ++ (d.file i).now := by unfold Dm.entry; rw [hbo, ← hs, ← hm]
    have henc : encE d x = #[.string (bs s), .int .i64 (m : Int)] := by unfold encE; rw [hlo, ← hs, ← hm]
    obtain ⟨hr1, hr2⟩ := read_whole hpw hleg hi hml
    rw [← hs, ← hm] at hr1 hr2
    rw [← hs] at hs32 hs0
    rw [← hm] at hml
    have hDW := HD.out.below hPI.b
    have hrd := read_any W L gd d hDW HP.out s (by unfold maxLen; omega) 0 m (by omega) (by omega) (by omega) (by omega)
    rw [hr1] at hrd
    have c4 := cell0 hx4
    have c1 := cell0 hPI.d
    have f4 := frozen_of_row W b4 0 _ _ hx4
    have HPI := Lib.hid hPI
    have HRD := Lib.hid hrd
    have HLEN := Lib.hid hr2
    have HROW := Lib.hid hrow
    have HN := Lib.hid hn
    have HENT := Lib.hid hent
    have HX4 := Lib.hid hx4
    have HSX := Lib.hid hs
    have HM := Lib.hid hm
    rw [hlo, ← hm, ← hs]
    clear hPI hrd hr1 hr2 hrow hn hent hx4 hDW hi hleg hbo hlo hfl hs hm hpw henc
    have hne : ((m : Int) != (m : Int)) = false := by simp
    gi_wp2
    refine ⟨trivial, (CallsIn.inRound ll (callsIn_wide.2 HRD.out)).mono ?_⟩
    rintro e W1 ⟨hb1, ra, rm, rc, rv, rfl, hro, hrm, hrt⟩
    obtain rfl := told_zero hrt
    have hrm : rm = m := by rw [hrm, HM.out]
    subst hrm
    have HRO := Lib.hid hro
    have hDW1 := HD.out.below (HPI.out.b.trans (hb1.mono HPI.out.b.size))
    have hle := length_any W1 L gd d hDW1 HP.out s (by unfold maxLen; omega)
    rw [HLEN.out] at hle
    have HLE := Lib.hid hle
    have k1 := keepc hb1 c1
    have k4 := keepc hb1 c4
    have HB1 := Lib.hid hb1
    clear hrm hrt hro hDW1 hle hb1 c1 c4
    gi_wp2
    refine ⟨trivial, (CallsIn.inRound ll (callsIn_wide.2 HLE.out)).mono ?_⟩
    rintro e W2 ⟨hb2, lv, rfl, hlt⟩
    obtain rfl := told_zero hlt
    have hbb := hbcc HB1.out hb2
    have l4 := keepc hb2 k4
    have HB2 := Lib.hid hbb
    have HRO2 := Lib.hid (own_below HRO.out hb2)
    have HROW2 := Lib.hid (own_below HROW.out hbb)
    clear hlt hb2 hbb k1 k4
    have hBW : w.heap.size ≤ W2.heap.size := by have := HPI.out.b.size; have := HB2.out.size; omega
    have hx2 : W2.heap[b4]? = some (.cells #[.slice va n vc] 50) := (HB2.out.block b4 (Array.getElem?_eq_some_iff.1 HX4.out).1).trans HX4.out
    have HX2 := Lib.hid hx2
    clear hx2
    gi_upto_region 12 with (first
      | (gi_at_builtin; have _g := l4; refine LI_appendStr rfl (.tmp 48) (.tmp 49) 50 9 (by rfl) sl50 Tryz.underlying9 w.heap.size (.slice va n vc) n _ (by rfl) HROW2.out s s.length rfl hs0 (by rfl) (by omega) (by unfold maxLen; omega) hBW (fun a3 c3 W3 ho3 hg3 hat3 => ?_); clear _g
         have hx3 := (Kq.grown (cb := b4 + 1) HROW2.out hg3).same b4 _ (by omega) HX2.out (fun cs fz e => by cases e)
         have x3 := cell0 hx3
         have f3 := frozen_of_row W3 b4 0 _ _ hx3
         have HX3 := Lib.hid hx3
         have HO3 := Lib.hid ho3
         have HG3 := Lib.hid hg3
         have HAT3 := Lib.hid hat3
         clear hx3 ho3 hg3 hat3 l4))
    have hb4w : w.heap.size ≤ b4 := by have := HBS.out; omega
    have hst := store_step HROW2.out HG3.out HX3.out HO3.out hb4w
    obtain ⟨W4, hW4⟩ : ∃ W4, W4 = W3.setCell ⟨b4, 0, none⟩ (.slice a3 (n + s.length) c3) := ⟨_, rfl⟩
    rw [← hW4] at hst ⊢
    obtain ⟨n3, hn3⟩ : ∃ n3, n3 = n + s.length := ⟨_, rfl⟩
    rw [← hn3] at hst ⊢
    obtain ⟨hx4, ho4, hq4, hbl4⟩ := hst
    have hbl4 := hbl4 w rfl (HPI.out.b.trans (HB2.out.mono HPI.out.b.size))
    have m4 := cell0 hx4
    have HX4' := Lib.hid hx4
    have HO4 := Lib.hid ho4
    have HQ4 := Lib.hid ((Kq.below HB2.out).trans hq4)
    have HBL4 := Lib.hid hbl4
    have HN3 := Lib.hid hn3
    have hn3b : n3 ≤ 8796093030432 := by omega
    have HRO4 := Lib.hid (show W4.ownsRow W.heap.size 5 1 (.slice ra rm rc) rm ((d.file i).now.map b8) from by
      refine own_same HRO2.out (fun k e => ?_)
      have hk := HRO2.out.lt k e
      rw [hW4]
      exact (heap_setCell_other W3 ⟨b4, 0, none⟩ k _ (by show k ≠ b4; have := (Array.getElem?_eq_some_iff.1 HX4.out).1; omega)).trans (HG3.out.block k hk.2 (fun e2 => by have := (HROW.out.lt k e2.symm).2; omega)))
    have HSEP := Lib.hid (show ∀ k, (Value.slice a3 n3 c3).ownBlock = some k → k < W.heap.size ∨ W2.heap.size ≤ k from fun k e => by
      rw [hn3] at e
      rcases HAT3.out with h9 | h9
      · rw [h9] at e; exact .inl (HROW.out.lt k e).2
      · rw [h9] at e; cases e; exact .inr (Nat.le_refl _))
    have hW24 : W2.heap.size ≤ W4.heap.size := hq4.size
    have HRL := Lib.hid (show ∀ k, (Value.slice ra rm rc).ownBlock = some k → W.heap.size ≤ k ∧ k < W2.heap.size from fun k e => HRO2.out.lt k e)
    clear hx4 ho4 hq4 hbl4 hn3 hW4 HX3 HO3 HG3 f3 x3 HX2 HROW2 HAT3 HRO2
    obtain ⟨We, hWe⟩ : ∃ We, We = W4.alloc (.cells #[.int .u8 0, .int .u8 ((rm : Int) % 256), .int .u8 ((rm : Int) / 256 % 256), .int .u8 ((rm : Int) / 65536 % 256), .int .u8 ((rm : Int) / 16777216)] 5) := ⟨_, rfl⟩
    have hbe : Below W4.heap.size W4 We := by rw [hWe]; exact bel1 _ _
    have hre : R8 We (some ⟨W4.heap.size, 0, none⟩) 5 5 (0 :: le4 rm) := by rw [hWe]; exact R8.lit W4 5 (0, 0) (0 :: le4 rm) 5 rfl (by omega) _ (le4_cells rm hml)
    have HOE := Lib.hid (own_below HO4.out hbe)
    have HBE := Lib.hid hbe
    have HRE := Lib.hid hre
    have hBe : w.heap.size ≤ We.heap.size := by have := hbe.size; omega
    have HXE := Lib.hid ((hbe.block b4 (Array.getElem?_eq_some_iff.1 HX4'.out).1).trans HX4'.out)
    clear hbe hre
    gi_upto_region 13 with (first
      | (gi_at_builtin; have _g := m4; rw [← hWe]; go_loud (refine LI_append8 rfl (.tmp 51) (.tmp 63) 50 (by rfl) sl50 w.heap.size (.slice a3 n3 c3) n3 _ (by rfl) HOE.out (some ⟨W4.heap.size, 0, none⟩) 5 5 (0 :: le4 rm) (by rfl) HRE.out (by omega) (by unfold maxLen; omega) hBe (fun a5 c5 W5 ho5 hg5 hat5 => ?_)); clear _g hWe
         have hx5 := (Kq.grown (cb := b4 + 1) HOE.out hg5).same b4 _ (by omega) HXE.out (fun cs fz e => by cases e)
         have x5 := cell0 hx5
         have f5 := frozen_of_row W5 b4 0 _ _ hx5
         have HX5 := Lib.hid hx5
         have HO5 := Lib.hid ho5
         have HG5 := Lib.hid hg5
         have HAT5 := Lib.hid hat5
         clear hx5 ho5 hg5 hat5 m4))
    have hst := store_step HOE.out HG5.out HX5.out HO5.out hb4w
    obtain ⟨W6, hW6⟩ : ∃ W6, W6 = W5.setCell ⟨b4, 0, none⟩ (.slice a5 (n3 + 5) c5) := ⟨_, rfl⟩
    rw [← hW6] at hst ⊢
    obtain ⟨n5, hn5⟩ : ∃ n5, n5 = n3 + 5 := ⟨_, rfl⟩
    rw [← hn5] at hst ⊢
    obtain ⟨hx6, ho6, hq6, hbl6⟩ := hst
    have hbl6 := hbl6 w rfl (HBL4.out.trans (HBE.out.mono (by omega)))
    have m6 := cell0 hx6
    have HX6 := Lib.hid hx6
    have HO6 := Lib.hid ho6
    have HQ6 := Lib.hid ((HQ4.out.trans (Kq.below HBE.out)).trans hq6)
    have HBL6 := Lib.hid hbl6
    have HN5 := Lib.hid hn5
    have hn5b : n5 ≤ 8796093030440 := by omega
    have HRO6 := Lib.hid (show R8 W6 ra rm rc (d.file i).now from by
      refine R8.of_owns (base := W.heap.size) (e := 5) (own_same HRO4.out (fun k e => ?_)) (by omega)
      have hk := HRL.out k e
      rw [hW6]
      refine (heap_setCell_other W5 ⟨b4, 0, none⟩ k _ (by show k ≠ b4; have := (Array.getElem?_eq_some_iff.1 HX4.out).1; omega)).trans ?_
      exact (HG5.out.block k (by have := HBE.out.size; omega) (fun e2 => by rcases HSEP.out k e2.symm with h9 | h9 <;> omega)).trans (HBE.out.block k (by omega)))
    clear hx6 ho6 hq6 hbl6 hn5 hW6 HX5 HO5 HG5 f5 x5 HAT5 HOE HXE HRE
    have hB6 : w.heap.size ≤ W6.heap.size := HBL6.out.size
    gi_wp2_with (first
      | (gi_at_builtin; have _g := m6; refine LI_append8 rfl (.tmp 65) (.tmp 66) 50 (by rfl) sl50 w.heap.size (.slice a5 n5 c5) n5 _ (by rfl) HO6.out ra rm rc (d.file i).now (by rfl) HRO6.out (by omega) (by unfold maxLen; omega) hB6 (fun a7 c7 W7 ho7 hg7 hat7 => ?_); clear _g
         have hx7 := (Kq.grown (cb := b4 + 1) HO6.out hg7).same b4 _ (by omega) HX6.out (fun cs fz e => by cases e)
         have x7 := cell0 hx7
         have f7 := frozen_of_row W7 b4 0 _ _ hx7
         have HX7 := Lib.hid hx7
         have HO7 := Lib.hid ho7
         have HG7 := Lib.hid hg7
         clear hx7 ho7 hg7 hat7 m6))
    have hst := store_step HO6.out HG7.out HX7.out HO7.out hb4w
    obtain ⟨hx8, ho8, hq8, hbl8⟩ := hst
    have hq := HQ6.out.trans hq8
    have hbs := HBS.out
    refine ⟨hq.others ⟨_, _, _, HX4.out⟩, hq.kpc, ⟨⟨a7, n5 + rm, c7, hx8, ?_, ?_⟩, hq.same b1 _ (by omega) HPI.out.d (fun cs fz e => by cases e), hq.same b2 _ (by omega) HPI.out.s (fun cs fz e => by cases e), hq.same b3 _ (by omega) HPI.out.p (fun cs fz e => by cases e), hbl8 w rfl HBL6.out⟩⟩
    · have h1 := HN.out
      have h2 := HN3.out
      have h3 := HN5.out
      rw [flat_snoc, HENT.out, List.length_append, List.length_append, List.length_append, ← h1, ← HM.out]
      unfold le4
      simp only [List.length_cons, List.length_nil]
      omega
    · rw [flat_snoc, HENT.out]
      have h9 := ho8
      rw [List.append_assoc, List.append_assoc, ← List.map_append, ← List.map_append, ← List.map_append] at h9
      rw [List.append_assoc]
      exact h9
  case done =>
    intro D xs W2 hD hxs hPI hK
    have hflat : d.flat xs = d.pict := by
      unfold Dm.flat Dm.pict
      rw [show (xs.flatMap fun x => d.entry x.1) = (xs.map (·.1)).flatMap d.entry by rw [List.flatMap_map], hxs]
      unfold Dm.listed
      split
      · rfl
      · rfl
    rw [hflat] at hPI
    obtain ⟨va, n, vc, hx4, hn, hrow⟩ := hPI.row
    have hcv : (convert 50 9 (.slice va n vc)).run Tryz.prog W2.drew = .ok (.string (bs d.pict)) W2.drew := conv_row (w := W2.drew) (B := w.heap.size) hrow
    have c4 := cell0 hx4
    have c1 := cell0 hPI.d
    have f2 := frozen_of_row W2 b2 0 _ _ hPI.s
    have f3 := frozen_of_row W2 b3 0 _ _ hPI.p
    have c2 := cell0 hPI.s
    have c3 := cell0 hPI.p
    have HPI := Lib.hid hPI
    have HK := Lib.hid hK
    have HHD := Lib.hid hD
    have HRW := Lib.hid hrow
    clear hPI hK hflat hx4 hn hrow hxs hD
    have hdw := (HD.out.below HPI.out.b).below ((Below.refl _ W2).drew)
    have HDW := Lib.hid hdw
    have hpwr := power_any W2.drew L gd d hdw
    have HPW := Lib.hid hpwr
    have hb12 : b1 ≠ b2 := by have := HBS.out; omega
    have hb23 : b2 ≠ b3 := by have := HBS.out; omega
    have hb42 : b4 ≠ b2 := by have := HBS.out; omega
    have hb43 : b4 ≠ b3 := by have := HBS.out; omega
    have hb13 : b1 ≠ b3 := by have := HBS.out; omega
    clear hdw hpwr
    go_wp2_with fail
    have hcw : (convert 50 9 (.slice va n vc)).run Tryz.prog W2 = .ok (.string (bs d.pict)) W2 := conv_row HRW.out
    have ow2 := own_box (u := .string (bs d.pict)) (o := 0) HRW.out HPI.out.s (by decide)
    have hcv2 := conv_row ow2
    have ow3 := own_box (u := .bool d.power) (o := 0) ow2 ((heap_setCell_other W2 ⟨b2, 0, none⟩ b3 _ hb23.symm).trans HPI.out.p) (by decide)
    have hcv3 := conv_row ow3
    have hcv2d := conv_row (w := (W2.setCell ⟨b2, 0, none⟩ (.string (bs d.pict))).drew) (B := w.heap.size) ow2
    have hcv3d := conv_row (w := ((W2.setCell ⟨b2, 0, none⟩ (.string (bs d.pict))).setCell ⟨b3, 0, none⟩ (.bool d.power)).drew) (B := w.heap.size) ow3
    clear ow2 ow3
    go_region_held3 (fun w' => w'.cell? ⟨b4, 0, none⟩ = some (.slice va n vc) ∧ w'.cell? ⟨b1, 0, none⟩ = some (.pointer (some ⟨gd, 0, none⟩)) ∧ (convert 50 9 (.slice va n vc)).run Tryz.prog w' = .ok (.string (bs d.pict)) w')
      (first | exact ⟨c4, c1, hcv⟩ | exact ⟨c4, c1, hcw⟩ | exact ⟨keeps c4 hb42, keeps c1 hb12, hcv2⟩ | exact ⟨keeps c4 hb42, keeps c1 hb12, hcv2d⟩ | exact ⟨keeps (keeps c4 hb42) hb43, keeps (keeps c1 hb12) hb13, hcv3d⟩ | exact ⟨keeps (keeps c4 hb42) hb43, keeps (keeps c1 hb12) hb13, hcv3⟩)
      (first | (go_at_call 18; refine HPW.out.mono ?_; rintro e w4 ⟨rfl, rfl⟩))
    all_goals
      go_wp2_with fail
      refine leave1 ?_ ?_
      · have hbs := HBS.out
        have hz := HZC.out
        have hz2 := HZB.out
        have hhd := HHD.out
        refine (heap_setCell_other _ ⟨b3, 0, none⟩ D _ (by show D ≠ b3; omega)).trans ((heap_setCell_other W2 ⟨b2, 0, none⟩ D _ (by show D ≠ b2; omega)).trans HK.out)
      · obtain ⟨W9, hW9⟩ : ∃ W9, W9 = ((W2.setCell ⟨b2, 0, none⟩ (.string (bs d.pict))).setCell ⟨b3, 0, none⟩ (.bool d.power)).drew.putObj D (.deferred none) := ⟨_, rfl⟩
        have hbs := HBS.out
        have hz := HZC.out
        have hz2 := HZB.out
        have hhd := HHD.out
        have hW3 : (W2.setCell ⟨b2, 0, none⟩ (.string (bs d.pict))).heap[b3]? = some (.cells #[.bool false] 4) := (heap_setCell_other W2 ⟨b2, 0, none⟩ b3 _ hb23.symm).trans HPI.out.p
        have r2 : W9.cell? ⟨b2, 0, none⟩ = some (.string (bs d.pict)) := by
          refine cell0 (t := 9) ?_
          rw [hW9]
          exact (World.putObj_heap_other (show b2 ≠ D by omega)).trans ((heap_setCell_other _ ⟨b3, 0, none⟩ b2 _ hb23).trans (heap_setCell_same W2 b2 0 _ _ _ HPI.out.s))
        have r3 : W9.cell? ⟨b3, 0, none⟩ = some (.bool d.power) := by
          refine cell0 (t := 4) ?_
          rw [hW9]
          exact (World.putObj_heap_other (show b3 ≠ D by omega)).trans (heap_setCell_same _ b3 0 _ _ _ hW3)
        have hb9 : Below w.heap.size w W9 := by
          have h1 := ((HPI.out.b.setCell (p := ⟨b2, 0, none⟩) (by show w.heap.size ≤ b2; omega) (.string (bs d.pict))).setCell (p := ⟨b3, 0, none⟩) (by show w.heap.size ≤ b3; omega) (.bool d.power)).drew
          rw [hW9]
          exact h1.trans ((Below.refl _ _).grown (grownBy_putObj' _ D _) h1.size (fun k e => by cases e; omega))
        rw [← hW9]
        clear hW9 hW3 hbs hz hz2 hhd
        refine bodyPost_ret (v := .tuple #[.string (bs d.pict), .bool d.power]) (by simp [results, Tryz.results8, go_sem, r2, r3]) rfl ⟨rfl, hb9⟩
  case stop =>
    rintro D cc pre W2 hD hSp h hK
    exact h.elim
end Go.Proofs.YteoggphafhcchaaGreat
namespace Go.Proofs.YteoggphafhcchaaGreat
open Go Go.RowKit
set_option maxRecDepth 100000
set_option maxHeartbeats 1000000
set_option linter.unusedVariables false
set_option linter.unusedSimpArgs false
open Go.Maps Go.WideMaps
theorem cut2 {w1 : World} {g : Nat} {z0 z1 : Value} {t : TypeId} (h : w1.heap[g]? = some (.cells #[z0, z1] t (0, 0))) (x0 x1 : Value) :
    ((w1.setCell ⟨g, 0, none⟩ x0).setCell ⟨g, 1, none⟩ x1).heap[g]? = some (.cells #[x0, x1] t (0, 0)) := heap_setCell_same _ g 1 _ _ x1 (heap_setCell_same w1 g 0 _ _ x0 h)
theorem same_any (w : World) (La Lb : Lay) (ga gb : Nat) (a b : Dm) (ha : DAt w La ga a) (hb : DAt w Lb gb b) (ca : Calm a) (cb : Calm b) (hv : View a b) :
    Calls Tryz.prog 7 #[.pointer (some ⟨ga, 0, none⟩), .pointer (some ⟨gb, 0, none⟩)] w fun e w' => e = .returned (.bool true) ∧ Below w.heap.size w w' := by
  have hpict := hv.pict
  have hloose := hv.loose
  have hpow := hv.power
  have hused := hv.used
  obtain ⟨S, hS⟩ : ∃ S, S = bs a.pict := ⟨_, rfl⟩
  obtain ⟨pw, hpw⟩ : ∃ pw, pw = a.power := ⟨_, rfl⟩
  obtain ⟨us, hus⟩ : ∃ us, us = a.used := ⟨_, rfl⟩
  obtain ⟨rn, hrn⟩ : ∃ rn, rn = a.reach.length := ⟨_, rfl⟩
  obtain ⟨cn, hcn⟩ : ∃ cn, cn = a.changes.length := ⟨_, rfl⟩
  have hrb : b.reach.length = rn := by
    have h9 := congrArg (fun x => x.2.length) hloose
    simp only [Dm.loose, List.length_map] at h9
    rw [hrn]; exact h9.symm
  have hcb : b.changes.length = cn := by
    have h9 := congrArg (fun x => x.1) hloose
    simp only [Dm.loose] at h9
    rw [hcn]; exact h9.symm
  have hll : a.loose.2 = b.loose.2 := by rw [hloose]
  have hr0 : rn < 1099511631873 := by rw [hrn]; exact reach_len ca.pre
  have HPA := Lib.hid (picture_any w La ga a ha ca.pre)
  rw [← hS, ← hpw] at HPA
  have HA := Lib.hid ha
  have HB := Lib.hid hb
  have CA := Lib.hid ca
  have CB := Lib.hid cb
  have HPB := Lib.hid (And.intro (show bs b.pict = S by rw [hS, hpict]) (And.intro (show b.power = pw by rw [hpw, hpow]) (And.intro (show b.used = us by rw [hus, hused]) (And.intro hus hll))))
  have HRN := Lib.hid (And.intro hrn (And.intro hcn (And.intro hrb hcb)))
  clear ha hb ca cb hv hpict hloose hpow hused hS hpw hus hrn hcn hrb hcb hll
  go_enter Tryz.func7, Tryz.ntmps7
  go_upto_region 3 with (first
    | (go_at_call 8; have _g := HPA; refine HPA.out.mono ?_; rintro e w1 ⟨rfl, hb1⟩
       have hpb := picture_any w1 Lb gb b (HB.out.below hb1) CB.out.pre
       rw [HPB.out.1, HPB.out.2.1] at hpb
       have HQB := Lib.hid hpb
       have HB1 := Lib.hid hb1
       clear hpb hb1 HPA _g)
    | (go_at_call 8; have _g := HQB; refine HQB.out.mono ?_; rintro e w2 ⟨rfl, hb2⟩
       have HB2 := Lib.hid (hbcc HB1.out hb2)
       clear hb2 HQB _g))
  have hla := loose_any w2 La ga a (HA.out.below HB2.out) CA.out.pre CA.out.units
  rw [← HRN.out.1, ← HRN.out.2.1] at hla
  have HLA := Lib.hid hla
  clear hla
  go_upto_region 4 with (first
    | (go_at_call 10; refine HLA.out.mono ?_; rintro e w3 ⟨hb3, a3, c3, rfl, ho3⟩
       have HB3 := Lib.hid (hbcc HB2.out hb3)
       have HO3 := Lib.hid ho3
       clear hb3 ho3))
  obtain ⟨w4, hw4⟩ : ∃ w4, w4 = w3.alloc (boxCut a3 rn c3 cn) := ⟨_, rfl⟩
  obtain ⟨g3, hg3⟩ : ∃ g3, g3 = w3.heap.size := ⟨_, rfl⟩
  have hb34 : Below w3.heap.size w3 w4 := by rw [hw4]; exact bel1 _ _
  have hx4 : w4.heap[g3]? = some (boxCut a3 rn c3 cn) := by rw [hw4, hg3]; exact heap_alloc_new w3 _
  rw [show (w3.alloc (.cells #[.slice a3 rn c3, .int .i64 cn] 32)) = w4 from hw4.symm]
  rw [← hg3]
  have HX4 := Lib.hid hx4
  have HO4 := Lib.hid (own_below HO3.out hb34)
  have HB4 := Lib.hid (hbcc HB3.out hb34)
  have hlb := loose_any w4 Lb gb b (HB.out.below HB4.out) CB.out.pre CB.out.units
  rw [HRN.out.2.2.1, HRN.out.2.2.2] at hlb
  have HLB := Lib.hid hlb
  clear hlb hw4 hg3 hb34 hx4 HO3 HLA
  go_upto_region 5 with (first
    | (go_at_call 10; refine HLB.out.mono ?_; rintro e w5 ⟨hb5, a5, c5, rfl, ho5⟩
       have HB5 := Lib.hid hb5
       have HO5 := Lib.hid ho5
       clear hb5 ho5))
  obtain ⟨w6, hw6⟩ : ∃ w6, w6 = w5.alloc (boxCut a5 rn c5 cn) := ⟨_, rfl⟩
  obtain ⟨g5, hg5⟩ : ∃ g5, g5 = w5.heap.size := ⟨_, rfl⟩
  have hb56 : Below w5.heap.size w5 w6 := by rw [hw6]; exact bel1 _ _
  have hx6 : w6.heap[g5]? = some (boxCut a5 rn c5 cn) := by rw [hw6, hg5]; exact heap_alloc_new w5 _
  rw [show (w5.alloc (.cells #[.slice a5 rn c5, .int .i64 cn] 32)) = w6 from hw6.symm]
  rw [← hg5]
  have hb46 : Below w4.heap.size w4 w6 := hbcc HB5.out hb56
  have hx3 := (hb46.block g3 (Array.getElem?_eq_some_iff.1 HX4.out).1).trans HX4.out
  have x0 := cell_of_row _ _ 0 _ _ _ hx3
  have x1 := cell_of_row _ _ 1 _ _ _ hx3
  have y0 := cell_of_row _ _ 0 _ _ _ hx6
  have y1 := cell_of_row _ _ 1 _ _ _ hx6
  simp only [List.getElem?_toArray, List.getElem?_cons_zero, List.getElem?_cons_succ] at x0 x1 y0 y1
  have HSI := Lib.hid (same_ints w6 a3 a5 rn rn c3 c5 a.loose.2 b.loose.2 (RI.of_owns (own_below HO4.out hb46) (by omega)) (RI.of_owns (own_below HO5.out hb56) (by omega)) (fun x hx => by
      unfold Dm.loose at hx
      obtain ⟨i, hi, rfl⟩ := List.mem_map.1 hx
      exact CA.out.units i (reach_lt CA.out.pre i hi)) (fun x hx => by
      unfold Dm.loose at hx
      obtain ⟨i, hi, rfl⟩ := List.mem_map.1 hx
      exact CB.out.units i (reach_lt CB.out.pre i hi)))
  rw [decide_eq_true HPB.out.2.2.2.2] at HSI
  have HB6 := Lib.hid (hbcc HB4.out hb46)
  clear hw6 hg5 hb56 hx6 hb46 hx3 HO4 HO5 HLB
  go_wp2_with (first
    | (go_at_call 20; refine HSI.out.mono ?_; rintro e w7 ⟨rfl, hb7⟩
       have HB7 := Lib.hid (hbcc HB6.out hb7)
       have hua := used_any w7 La ga a (HA.out.below HB7.out)
       rw [← HPB.out.2.2.2.1] at hua
       have hub := used_any w7 Lb gb b (HB.out.below HB7.out)
       rw [HPB.out.2.2.1] at hub
       have HUA := Lib.hid hua
       have HUB := Lib.hid hub
       clear hua hub hb7)
    | (go_at_call 24; have _g := HUA; refine HUA.out.mono ?_; rintro e w8 ⟨rfl, e8⟩; rw [e8]; clear e8 HUA _g w8)
    | (go_at_call 24; have _g := HUB; refine HUB.out.mono ?_; rintro e w8 ⟨rfl, e8⟩; rw [e8]; clear e8 HUB _g w8))
  go_ret
  exact ⟨rfl, HB7.out⟩
end Go.Proofs.YteoggphafhcchaaGreat
namespace Go.Proofs.YteoggphafhcchaaGreat
open Go Go.RowKit Go.Shelf Go.Lib Go.Sort
set_option maxRecDepth 100000
set_option maxHeartbeats 1000000
set_option linter.unusedVariables false
set_option linter.unusedSimpArgs false
open Go.Maps Go.WideMaps Go.ChangeMaps
theorem sized_block (w : World) (b : Nat) (o : Obj) : (setBlock w b o).heap.size = w.heap.size := by simp [setBlock]
/-- m[k] = v in two steps: the entry first, then the store into it. -/
theorem entry_own {w : World} {b n : Nat} {D : DataW Unit} (h : w.ownsMap Tryz.prog 9 ptrR b n D) (hn : n < maxLen) {s : ByteArray} (hs : s.size ≤ maxLen) :
    ∃ (v0 : Value) (st : Value) (w1 : World), (Instr.mapEntry 43 (.map (some b)) (.string s)).run Tryz.prog w = .ok (.tuple #[v0, st]) w1 ∧ w.grownBy w1 (some b) ∧
      ∀ (g : Nat) (w2 : World), w2.heap[b]? = w1.heap[b]? → ∃ w3, (Instr.entryStore 43 (.map (some b)) st (.pointer (some ⟨g, 0, none⟩))).run Tryz.prog w2 = .ok () w3 ∧ w3.ownsMap Tryz.prog 9 ptrR b (n + 1) (D.put (kL s) (.lit (.int .i64 g))) ∧ w2.grownBy w3 (some b) := by
  have hup := fun g : Nat => h.update law9 Tryz.underlying43 hn (key9 hs) (show ptrR (.pointer (some ⟨g, 0, none⟩)) = some (.lit (.int .i64 g), []) from rfl)
  obtain ⟨es, clock, hb, F, hz, hD⟩ := h
  obtain ⟨v0, st, es1, clock1, hrun, -, hst⟩ := WideElems.entry_then_store (string_law Tryz.underlying9) Tryz.underlying43 zero57 hb F (key9 hs)
  have hlt : b < w.heap.size := (Array.getElem?_eq_some_iff.1 hb).1
  refine ⟨v0, _, _, hrun, ⟨rfl, rfl, rfl, by simp [setBlock], fun i _ hi => heap_setBlock_other hb _ (fun e => hi (by rw [e]))⟩, fun g w2 hw2 => ?_⟩
  rw [heap_setBlock_same hb] at hw2
  obtain ⟨es', clock', hr2, hr3⟩ := hst w2 (.pointer (some ⟨g, 0, none⟩)) hw2
  refine ⟨_, hr2, ?_, ⟨rfl, rfl, rfl, by simp [setBlock], fun i _ hi => heap_setBlock_other hw2 _ (fun e => hi (by rw [e]))⟩⟩
  obtain ⟨w', hr4, ⟨es4, ck4, hm4, hrest⟩, -⟩ := hup g
  rw [hr3] at hr4
  cases hr4
  rw [heap_setBlock_same hb] at hm4
  exact ⟨es4, ck4, (heap_setBlock_same hw2 _).trans hm4, hrest⟩
/-- A file's safe bytes laid anew. -/
theorem DAt.fsafeTo {w w4 : World} {L : Lay} {gd i : Nat} {d : Dm} (h : DAt w L gd d) (hi : i < d.fs.length) (hb : Below w.heap.size w w4) {v' : Value} {x : List UInt8} (ho : w4.ownsRow w.heap.size 5 1 v' x.length (x.map b8)) :
    ∃ ρ', DAt (w4.setCell ⟨L.fa i, 2, none⟩ v') { L with ρ := ρ' } gd (d.setF i ⟨(d.file i).now, x, (d.file i).loose⟩) ∧ Upd L.ρ ρ' w (w4.setCell ⟨L.fa i, 2, none⟩ v') := by
  obtain ⟨vn, vs, vl, hf⟩ := h.at hi
  have hgl := hf.lt
  have hgr : 7 + 4 * i ≤ L.ρ (L.fa i) ∧ L.ρ (L.fa i) ≤ 10 + 4 * i := by rw [hf.lg]; omega
  have ho4 : Only L.ρ (fun r => 7 + 4 * i ≤ r ∧ r ≤ 10 + 4 * i) w (w4.setCell ⟨L.fa i, 2, none⟩ v') := (Only.of_below hb).trans (Only.setCell w4 (L.fa i) 2 _ hgr)
  have hO : (w4.setCell ⟨L.fa i, 2, none⟩ v').ownsRow w.heap.size 5 1 v' x.length (x.map b8) := own_same ho (fun k hk => heap_setCell_other w4 ⟨L.fa i, 2, none⟩ k _ (by show k ≠ L.fa i; have := (ho.lt k hk).1; omega))
  obtain ⟨ρ', he, hd, hl⟩ := put_new h.dom hO ho4.size (9 + 4 * i)
  have hx : w4.heap[L.fa i]? = some (boxFile i vn vs vl) := (hb.block _ hgl).trans hf.box
  have hkk : ∀ k, L.ρ k ≠ 0 → L.ρ k ≠ 7 + 4 * i → (w4.setCell ⟨L.fa i, 2, none⟩ v').heap[k]? = w.heap[k]? := fun k h0 h1 => (heap_setCell_other w4 ⟨L.fa i, 2, none⟩ k _ (fun e => h1 (by have e2 : k = L.fa i := e; rw [e2]; exact hf.lg))).trans (hb.block k (h.dom k h0))
  refine ⟨ρ', h.file1 hi ho4 he hd (f := ⟨(d.file i).now, x, (d.file i).loose⟩) (vn := vn) (vs := v') (vl := vl) ⟨heap_setCell_same w4 (L.fa i) 2 _ _ _ hx, (he.same _ (by rw [hf.lg]; omega)).trans hf.lg, hf.now.keep (fun k e => hkk k (by omega) (by omega)) (fun k e => (he.same k (by omega)).trans e), ⟨own_base hO, hl⟩, hf.loose.keep (fun k e => hkk k (by omega) (by omega)) (fun k e => he.same k (by omega))⟩, Upd.of_only ho4 (by omega) he⟩
/-- A file's bytes laid anew. -/
theorem DAt.fnowTo {w w4 : World} {L : Lay} {gd i : Nat} {d : Dm} (h : DAt w L gd d) (hi : i < d.fs.length) (hb : Below w.heap.size w w4) {v' : Value} {x : List UInt8} (ho : w4.ownsRow w.heap.size 5 1 v' x.length (x.map b8)) :
    ∃ ρ', DAt (w4.setCell ⟨L.fa i, 1, none⟩ v') { L with ρ := ρ' } gd (d.setF i ⟨x, (d.file i).safe, (d.file i).loose⟩) ∧ Upd L.ρ ρ' w (w4.setCell ⟨L.fa i, 1, none⟩ v') := by
  obtain ⟨vn, vs, vl, hf⟩ := h.at hi
  have hgl := hf.lt
  have hgr : 7 + 4 * i ≤ L.ρ (L.fa i) ∧ L.ρ (L.fa i) ≤ 10 + 4 * i := by rw [hf.lg]; omega
  have ho4 : Only L.ρ (fun r => 7 + 4 * i ≤ r ∧ r ≤ 10 + 4 * i) w (w4.setCell ⟨L.fa i, 1, none⟩ v') := (Only.of_below hb).trans (Only.setCell w4 (L.fa i) 1 _ hgr)
  have hO : (w4.setCell ⟨L.fa i, 1, none⟩ v').ownsRow w.heap.size 5 1 v' x.length (x.map b8) := own_same ho (fun k hk => heap_setCell_other w4 ⟨L.fa i, 1, none⟩ k _ (by show k ≠ L.fa i; have := (ho.lt k hk).1; omega))
  obtain ⟨ρ', he, hd, hl⟩ := put_new h.dom hO ho4.size (8 + 4 * i)
  have hx : w4.heap[L.fa i]? = some (boxFile i vn vs vl) := (hb.block _ hgl).trans hf.box
  have hkk : ∀ k, L.ρ k ≠ 0 → L.ρ k ≠ 7 + 4 * i → (w4.setCell ⟨L.fa i, 1, none⟩ v').heap[k]? = w.heap[k]? := fun k h0 h1 => (heap_setCell_other w4 ⟨L.fa i, 1, none⟩ k _ (fun e => h1 (by have e2 : k = L.fa i := e; rw [e2]; exact hf.lg))).trans (hb.block k (h.dom k h0))
  refine ⟨ρ', h.file1 hi ho4 he hd (f := ⟨x, (d.file i).safe, (d.file i).loose⟩) (vn := v') (vs := vs) (vl := vl) ⟨heap_setCell_same w4 (L.fa i) 1 _ _ _ hx, (he.same _ (by rw [hf.lg]; omega)).trans hf.lg, ⟨own_base hO, hl⟩, hf.safe.keep (fun k e => hkk k (by omega) (by omega)) (fun k e => (he.same k (by omega)).trans e), hf.loose.keep (fun k e => hkk k (by omega) (by omega)) (fun k e => he.same k (by omega))⟩, Upd.of_only ho4 (by omega) he⟩
theorem Upd.of_grown {ρ : Nat → Nat} {w w' : World} {b : Nat} (hg : w.grownBy w' (some b)) (hb : ρ b ≠ 0) : Upd ρ ρ w w' :=
  ⟨hg.os, hg.tape, hg.output, hg.size, fun k hk h0 => hg.block k hk (fun e => hb (by rw [← Option.some.inj e]; exact h0)), Ext.refl _ _⟩
theorem grown_trans {a b c : World} {k : Nat} (h : a.grownBy b (some k)) (h2 : b.grownBy c (some k)) : a.grownBy c (some k) :=
  ⟨h2.os.trans h.os, h2.tape.trans h.tape, h2.output.trans h.output, Nat.le_trans h.size h2.size, fun i hi hn => (h2.block i (Nat.lt_of_lt_of_le hi h.size) hn).trans (h.block i hi hn)⟩
/-- One name laid in both maps. -/
theorem DAt.lay {w : World} {L : Lay} {gd : Nat} {d : Dm} (h : DAt w L gd d) (hn : d.names.length < maxLen) (hn2 : d.safe.length < maxLen) {s : Nm} (hs : s.length ≤ maxLen) (i : Nat) :
    ∃ (v0 st v1 st1 : Value) (w1 w2 w3 w4 : World), (Instr.mapEntry 43 (.map (some L.nb)) (.string (bs s))).run Tryz.prog w = .ok (.tuple #[v0, st]) w1 ∧
      (Instr.entryStore 43 (.map (some L.nb)) st (.pointer (some ⟨L.fa i, 0, none⟩))).run Tryz.prog w1 = .ok () w2 ∧
      (Instr.mapEntry 43 (.map (some L.sb)) (.string (bs s))).run Tryz.prog w2 = .ok (.tuple #[v1, st1]) w3 ∧
      (Instr.entryStore 43 (.map (some L.sb)) st1 (.pointer (some ⟨L.fa i, 0, none⟩))).run Tryz.prog w3 = .ok () w4 ∧
      DAt w4 L gd { d with names := ins d.names s i, safe := ins d.safe s i } ∧ Upd L.ρ L.ρ w w4 := by
  obtain ⟨D, hm, hρ, hz, hl⟩ := h.nm
  have hs' : (bs s).size ≤ maxLen := hs
  obtain ⟨v0, st, w1, r1, g1, k1⟩ := entry_own hm hn hs'
  obtain ⟨w2, r2, m2, g2⟩ := k1 (L.fa i) w1 rfl
  have g12 := grown_trans g1 g2
  have hN2 : NAt w2 L.ρ 2 L.fa L.nb (ins d.names s i) := NAt.put (hm.tidy law9) hρ hz hl m2
  obtain ⟨hd2, hu2⟩ := h.names1 g12 hN2
  obtain ⟨D2, hm2, hρ2, hz2, hl2⟩ := hd2.sf
  obtain ⟨v1, st1, w3, r3, g3, k3⟩ := entry_own hm2 hn2 hs'
  obtain ⟨w4, r4, m4, g4⟩ := k3 (L.fa i) w3 rfl
  have g34 := grown_trans g3 g4
  have hN4 : NAt w4 L.ρ 3 L.fa L.sb (ins d.safe s i) := NAt.put (hm2.tidy law9) hρ2 hz2 hl2 m4
  have hd4 := hd2.safeTo g34 hN4
  exact ⟨v0, st, v1, st1, w1, w2, w3, w4, r1, r2, r3, r4, hd4, hu2.trans (Upd.of_grown g34 (by rw [hρ2]; omega))⟩
/-- What fits answers of names and bytes that fit. -/
theorem fits_any (w : World) (B b : Nat) (l : List (Nm × List UInt8)) (hK : KAt w B b l) (hleg : ∀ s x, lk l s = some x → legalB (bs s) = true ∧ x.length ≤ 10000000) (hlen : l.length ≤ 4096) :
    Calls Tryz.prog 35 #[.map (some b), .int .i64 1099511627776] w fun e w' => e = .returned (.int .i64 0) ∧ Below w.heap.size w w' := by
  obtain ⟨hB, D, hm, hz, hl⟩ := hK
  obtain ⟨N, hN⟩ : ∃ N, N = l.length := ⟨_, rfl⟩
  rw [← hN] at hm hz hlen
  have hsz := hm.size_le
  have HL := Lib.hid hl
  have HLG := Lib.hid hleg
  have HM := Lib.hid hm
  have hln : ∀ (w' : World) ty, w'.ownsMap Tryz.prog 9 sliceR b N D → (Builtin.len_ #[35] ty #[.map (some b)]).run Tryz.prog w' = .ok (.int .i64 (Maps.size D)) w' := fun w' ty hm => hm.len Tryz.underlying35 ty
  have HLN := Lib.hid hln
  have HZ := Lib.hid hz
  clear hl hleg hN hln
  go_enter Tryz.func35, Tryz.ntmps35
  go_wp2_with (first
    | (at_range; refine wpList_range_own _ rfl _ 35 rfl 9 50 law9 Tryz.underlying35 _ b N D rfl hm ?_; intro w0 hrg0 hg0 hs0)
    | go_in)
  go_frame
  have hb0 : Below w.heap.size w w0 := ⟨hg0.os, hg0.tape, hg0.output, hg0.size, fun k hk => hg0.block k hk (by simp)⟩
  clear hm hg0 hs0
  go_loopw [5, 6] (fun u bg wr => ∃ (left : Lit → Bool) (cnt : Nat) (x : Nat), u = .int .i64 x ∧ bg = .bool false ∧ wr.ranges Tryz.prog 9 sliceR b w.heap.size N D left cnt ∧ x + cnt * 10000000 ≤ 4096 * 10000000 ∧
      Hid (∀ kl, left kl = true → has D kl = true) ∧ Hid (Below w.heap.size w wr))
    (fun _ _ wr => wr.rangeLeft b w.heap.size)
  case atStart =>
    exact ⟨_, _, 0, rfl, rfl, hrg0, by rw [HZ.out]; omega, Lib.hid (fun _ h => h), Lib.hid hb0⟩
  case round =>
    obtain ⟨left, cnt, x, rfl, rfl, hrg, hx0, HLF, HBL⟩ := hrel
    go_wp2_with (first
      | (at_next; refine wpList_next_ranges _ rfl _ rfl 9 law9 sliceR encStr encS (fun key kl hk => by obtain ⟨x, hx, _⟩ := Maps.keyOf_str Tryz.underlying9 hk; exact ⟨x, hx⟩) (fun v y hv => sliceR_inv hv) b w.heap.size N D left cnt rfl hrg ?_ ?_)
      | go_in)
    · intro hc0 hl0
      have hm := hrg.owns
      have hln := HLN.out wr 3 hm
      rw [HZ.out] at hln
      have hx1 : x ≤ 40960000000 := by omega
      clear hrg hl0 hx0 hm hz
      go_wp2_with fail
      go_ret
      exact ⟨rfl, HBL.out⟩
    · intro s cp kl yd yp w1 cnt1 hkey hlk hv hat hrg1 hlt hg1 hs1 hen
      obtain ⟨s', ex, rfl, hsl⟩ := Maps.keyOf_str Tryz.underlying9 hkey
      obtain rfl : s = s' := encStr_inj ex
      have hbl1 : Below w.heap.size w w1 := HBL.out.trans ⟨hg1.os, hg1.tape, hg1.output, hg1.size, fun k hk => hg1.block k (Nat.lt_of_lt_of_le hk HBL.out.size) (fun e => by have := Option.some.inj e; omega)⟩
      have hhas : has D (.string s) = true := HLF.out _ hlk
      obtain ⟨hh, c, hc1, hc2, hc3⟩ := HL.out s
      obtain ⟨xs, hxs⟩ := Option.isSome_iff_exists.1 (hh.symm.trans hhas)
      have hcc : cp = c := by
        have h1 : scD cp = scD c := by
          rw [sliceR_enc] at hv
          have h2 := hat .nil
          rw [hc1] at h2
          cases hv
          exact h2.symm
        exact scD_inj h1
      have hown := hc3 xs hxs
      rw [← hcc] at hown
      obtain ⟨va, vc, hve, -⟩ := owns_shape hown
      obtain ⟨hlg, hxb⟩ := HLG.out s xs hxs
      obtain ⟨xl, hxl⟩ : ∃ xl, xl = xs.length := ⟨_, rfl⟩
      rw [← hxl] at hve hxb
      rw [hve] at hen ⊢
      have HM0 := Lib.hid (show wr.rangeLeft b w.heap.size = cnt from hrg.left_eq)
      have HM1 := Lib.hid (show w1.rangeLeft b w.heap.size = cnt1 from hrg1.left_eq)
      have HR1 := Lib.hid hrg1
      have HB1 := Lib.hid hbl1
      have HLA := Lib.hid (legal_any w1 (bs s) hsl)
      rw [hlg] at HLA
      have hnb : ¬ (2147483647 : Int) < (xl : Int) := by omega
      clear hrg hrg1 hkey hv hat hlk hhas hg1 hs1 hh hc1 hc2 hc3 hxs hcc hown hve hlg hxl hbl1 ex hsl
      go_wp2_with (go_at_call 62; refine HLA.out.mono ?_; rintro e w' ⟨rfl, rfl⟩)
      go_roundw
      case rel =>
        refine ⟨_, cnt1, x + xl, by push_cast; rfl, by rw [decide_eq_false (by omega)], HR1.out, by omega, Lib.hid (fun kl hkl => ?_), HB1⟩
        simp only [Bool.and_eq_true] at hkl
        exact HLF.out kl hkl.1
      case measure => rw [HM0.out, HM1.out]; exact hlt
end Go.Proofs.YteoggphafhcchaaGreat
namespace Go.Proofs.YteoggphafhcchaaGreat
open Go Go.RowKit Go.Shelf Go.Lib Go.Sort
set_option maxRecDepth 100000
set_option maxHeartbeats 1000000
set_option linter.unusedVariables false
set_option linter.unusedSimpArgs false
open Go.Maps Go.WideMaps Go.ChangeMaps
theorem KAt.keep {w w' : World} {B b : Nat} {l : List (Nm × List UInt8)} (h : KAt w B b l) (hk : ∀ k, B ≤ k → k < w.heap.size → w'.heap[k]? = w.heap[k]?) : KAt w' B b l := by
  obtain ⟨h0, D, ⟨es, ck, hb, hr⟩, h2, h3⟩ := h
  refine ⟨h0, D, ⟨es, ck, (hk b h0 (Array.getElem?_eq_some_iff.1 hb).1).trans hb, hr⟩, h2, fun s => ⟨(h3 s).1, ?_⟩⟩
  obtain ⟨c, h4, h5, h6⟩ := (h3 s).2
  exact ⟨c, h4, h5, fun x hx => own_same (h6 x hx) (fun k e => hk k ((h6 x hx).lt k e).1 ((h6 x hx).lt k e).2)⟩
/-- What a look-up in a map of bytes finds. -/
theorem KAt.look {w : World} {B b : Nat} {l : List (Nm × List UInt8)} (h : KAt w B b l) {s : Nm} {x : List UInt8} (hs : s.length ≤ maxLen) (hx : lk l s = some x) :
    ∃ a c, (Instr.lookup 35 (.map (some b)) (.string (bs s)) false).run Tryz.prog w = .ok (.slice a x.length c) w ∧ w.ownsRow B 5 1 (.slice a x.length c) x.length (x.map b8) := by
  obtain ⟨-, D, hm, -, h3⟩ := h
  obtain ⟨c, h4, -, h6⟩ := (h3 s).2
  obtain ⟨v, ps, hrun, hv⟩ := hm.lookup law9 Tryz.underlying35 (show (zeroValue 50).run Tryz.prog w = .ok (.slice Option.none 0 0) w from zero50 w) (zd := .nil) (zp := []) rfl (key9 (s := bs s) hs)
  have hown := h6 x hx
  have he : v = encS c := by
    obtain ⟨c', hc'⟩ := sliceR_inv hv
    rw [hc', sliceR_enc] at hv
    have h7 : D.atKey (.string s) .nil = scD c' := by
      have := congrArg (fun o => o.map (·.1)) hv
      simpa using this.symm
    rw [h4] at h7
    rw [hc', scD_inj h7]
  obtain ⟨a, cc, hve, -⟩ := owns_shape hown
  refine ⟨a, cc, ?_, by rw [← hve]; exact hown⟩
  rw [← hve, ← he]
  exact hrun
theorem set_snoc (fs : List Fl) (a b : Fl) : (fs ++ [a]).set fs.length b = fs ++ [b] := by
  rw [List.set_append_right _ _ (Nat.le_refl _), Nat.sub_self]; rfl
theorem setF_last (d : Dm) (e f : Fl) : ({ d with fs := d.fs ++ [e] } : Dm).setF d.fs.length f = { d with fs := d.fs ++ [f] } := by
  unfold Dm.setF
  dsimp only
  rw [set_snoc]
theorem file_last (d : Dm) (e : Fl) : ({ d with fs := d.fs ++ [e] } : Dm).file d.fs.length = e := by
  unfold Dm.file
  dsimp only
  rw [List.getElem?_append_right (Nat.le_refl _), Nat.sub_self]; rfl
theorem imgD_refs (sp : Int) (l : List (Nm × List UInt8)) {ks : List Nm} (hn : ks.Nodup) : Refs (imgD sp l ks) := by
  have h := imaged sp l ks.length ks rfl hn
  exact ⟨fun s i e => (h.at_ s i e).1, fun s i e => by rw [h.sf] at e; exact (h.at_ s i e).1, fun c hc => by rw [h.ch] at hc; cases hc⟩
theorem imgD_used (sp : Int) (l : List (Nm × List UInt8)) (hl : ∀ s x, lk l s = some x → x.length ≤ 10000000) : ∀ (n : Nat) (ks : List Nm), ks.length = n → ∃ u : Nat, (imgD sp l ks).used = (u : Int) ∧ u ≤ n * 10000000 ∨ 4096 < n := by
  intro n
  induction n with
  | zero =>
    intro ks hk
    obtain rfl : ks = [] := List.eq_nil_of_length_eq_zero hk
    exact ⟨0, .inl ⟨rfl, Nat.zero_le _⟩⟩
  | succ n ih =>
    intro ks hk
    rcases List.eq_nil_or_concat ks with e | ⟨k0, s, e⟩
    · rw [e] at hk; cases hk
    · rw [List.concat_eq_append] at e
      subst e
      rw [List.length_append] at hk
      obtain ⟨u, hu | hu⟩ := ih k0 (by simpa using hk)
      · by_cases hb : 4096 < n + 1
        · exact ⟨0, .inr hb⟩
        · have hx : ((lk l s).getD []).length ≤ 10000000 := by
            cases e : lk l s with
            | none => simp
            | some x => exact hl s x e
          refine ⟨u + ((lk l s).getD []).length, .inl ⟨?_, by omega⟩⟩
          rw [imgD_snoc]
          show wrap64 ((imgD sp l k0).used + _) = _
          rw [hu.1, wrap64_small (by omega) (by omega)]; push_cast; rfl
      · exact ⟨0, .inr (by omega)⟩
theorem image_any (w : World) (B b : Nat) (l : List (Nm × List UInt8)) (hK : KAt w B b l) (hleg : ∀ s x, lk l s = some x → legalB (bs s) = true ∧ x.length ≤ 10000000) (hlen : l.length ≤ 4096) (hnd : (keysOf l).Nodup) (ks : List Nm) (hks : ks = (keysOf l).mergeSort fun x y => decide (x ≤ y)) :
    Calls Tryz.prog 13 #[.map (some b), .int .i64 1099511627776] w fun e w' => Below w.heap.size w w' ∧ ∃ L gd, e = .returned (.tuple #[.pointer (some ⟨gd, 0, none⟩), .nilIface]) ∧ DAt w' L gd (imgD 1099511627776 l ks) ∧ ∀ k, k < w.heap.size → L.ρ k = 0 := by
  have HK := Lib.hid hK
  have HLG := Lib.hid hleg
  have hlt := hK.lt
  obtain ⟨-, D0, hm0, hz0, hl0⟩ := hK
  obtain ⟨N, hN⟩ : ∃ N, N = l.length := ⟨_, rfl⟩
  rw [← hN] at hm0 hz0 hlen
  have HM := Lib.hid hm0
  have HZ := Lib.hid (And.intro hz0 hl0)
  have HND := Lib.hid hnd
  have HKS := Lib.hid hks
  have HN := Lib.hid hN
  clear hleg hm0 hz0 hl0 hnd hks hN
  go_enter Tryz.func13, Tryz.ntmps13
  go_upto_region 8 with (first
    | (go_at_call 21; refine (newdisk_any w 1099511627776 (by omega) (by omega)).mono ?_; rintro e w1 ⟨hb1, L1, gd, rfl, hd1, hl1⟩
       have HD1 := Lib.hid hd1
       have HL1 := Lib.hid hl1
       have HB1 := Lib.hid hb1
       clear hd1 hl1 hb1)
    | (go_at_call 35; refine (fits_any w1 B b l (HK.out.below HB1.out) HLG.out (by rw [← HN.out]; exact hlen)).mono ?_; rintro e w2 ⟨rfl, hb2⟩
       have HB2 := Lib.hid hb2
       clear hb2)
    | (go_at_call 37; refine ((callsIn_wide (n := 5)).1 (Tryz.maps_Keys_37 _ _)).mono ?_; rintro e w3 ⟨rfl, rfl⟩)
    | (go_at_call 36; refine ((callsIn_wide (n := 5)).1 (Tryz.slices_Sorted_keys_36_37 b N D0 sliceR w2 (HM.out.kept (gwk (HB1.out.trans (HB2.out.mono HB1.out.size))) (by simp)) (by rw [HZ.out.1]; unfold maxLen; omega) (by rw [HZ.out.1]; omega))).mono ?_; rintro e w4 ⟨v, ss, rfl, hS, hrow, hnil, hb4⟩
       obtain ⟨hN, hnd, hmem, hle⟩ := str_facts HM.out
       have hperm : ss.Perm (keysOf l) := hS.trans ((List.perm_ext_iff_of_nodup hnd HND.out).2 fun x => by rw [hmem, (HZ.out.2 x).1, lk_some])
       have hks : ss.mergeSort (fun x y => decide (x ≤ y)) = ks := by rw [HKS.out]; exact mergeSort_of_perm hperm
       rw [hks] at hrow
       have hss : ss.length = N := by rw [hperm.length_eq, HN.out]; simp [keysOf]
       rw [hss] at hrow
       obtain ⟨ra, rc, rfl, -⟩ := owns_shape hrow
       have HROW := Lib.hid hrow
       have HB4 := Lib.hid (show Below w1.heap.size w1 w4 from (HB2.out.alloc (by have := HB2.out.size; omega) _).trans (hb4.mono (by have := HB2.out.size; simp; omega)))
       have HRB := Lib.hid (show w1.heap.size ≤ (w2.alloc (.cells #[.map (some b)] 35)).heap.size from by have := HB2.out.size; simp; omega)
       clear hN hnd hmem hle hS hrow hnil hb4 hperm hks hss))
  have HD4 := Lib.hid (HD1.out.below HB4.out)
  have hw1 : w.heap.size ≤ w1.heap.size := HB1.out.size
  have hw4 : w1.heap.size ≤ w4.heap.size := HB4.out.size
  go_loopw [33] (fun i wr => ∃ (k : Nat) (L : Lay), k ≤ N ∧ i = .int .i64 k ∧ Hid (DAt wr L gd (imgD 1099511627776 l (ks.take k))) ∧ Hid (Upd L1.ρ L.ρ w4 wr)) (fun i _ => N - (intOf i).toNat)
  case atStart => exact ⟨0, L1, Nat.zero_le _, rfl, Lib.hid HD4.out, Lib.hid (Upd.refl _ _)⟩
  case round =>
    obtain ⟨k, L, hk, rfl, HD, HU⟩ := hrel
    have hksn : ks.Nodup := by rw [HKS.out]; exact (List.mergeSort_perm _ _).nodup_iff.2 HND.out
    have hksl : ks.length = N := by rw [HKS.out, List.length_mergeSort, HN.out]; simp [keysOf]
    by_cases hkl : k < N
    · obtain ⟨s, hs⟩ : ∃ s, ks[k]? = some s := ⟨ks[k]'(by omega), List.getElem?_eq_getElem _⟩
      have hsm : s ∈ keysOf l := (List.mergeSort_perm _ _).mem_iff.1 (by rw [← HKS.out]; exact List.mem_of_getElem? hs)
      obtain ⟨x, hx⟩ := lk_isSome hsm
      obtain ⟨hlg, hxl⟩ := HLG.out s x hx
      have hsl : s.length ≤ maxLen := by have := (legal_len hlg).1; unfold maxLen; omega
      have him := imaged 1099511627776 l k (ks.take k) (by rw [List.length_take]; omega) (hksn.sublist (List.take_sublist _ _))
      have hfl : (imgD 1099511627776 l (ks.take k)).fs.length = k := by rw [him.len, List.length_take]; omega
      have hrefs := imgD_refs 1099511627776 l (hksn.sublist (List.take_sublist k _))
      obtain ⟨u, hu | hu⟩ := imgD_used 1099511627776 l (fun s x h => (HLG.out s x h).2) k (ks.take k) (by rw [List.length_take]; omega)
      rotate_left
      · exact absurd hu (by omega)
      obtain ⟨rb, cap, rs, hv, hrb, hrs, -, hat⟩ := row_block HROW.out (by omega)
      obtain ⟨hv1, -, hv3⟩ := Value.slice.inj hv
      subst hv1 hv3
      have hrl := (Array.getElem?_eq_some_iff.1 hrs).1
      have hr0 : L1.ρ rb = 0 := HD1.out.new rb (by have := HRB.out; omega)
      have hrs' : wr.heap[rb]? = some (.cells rs 9 (0, 0)) := (HU.out.block rb hrl hr0).trans hrs
      have hcell : wr.cell? ⟨rb, k, none⟩ = some (.string (bs s)) := by rw [cell_of_row _ _ _ _ _ _ hrs']; exact hat k s hs
      have HS := Lib.hid hs
      have HX := Lib.hid hx
      have HIM := Lib.hid him
      have HFL := Lib.hid hfl
      have HRF := Lib.hid hrefs
      have HUS := Lib.hid hu
      have hkp : ∀ (ρ : Nat → Nat) (w' : World), Upd L1.ρ ρ w4 w' → KAt w' B b l := fun ρ w' hu' => HK.out.keep (fun j hj1 hj2 => (hu'.block j (by omega) (HL1.out j hj2)).trans ((HB4.out.block j (by omega)).trans (HB1.out.block j hj2)))
      have HKP := Lib.hid hkp
      clear hs hsm hx hlg him hfl hrefs hu hrs hrs' hat hrb hkp
      have hub : u ≤ 40960000000 := by have := HUS.out.2; omega
      go_upto_region 11 with (first
        | (go_at_call 38; refine (file_any wr L gd _ HD.out HRF.out (by rw [HFL.out]; omega)).mono ?_; rintro e w5 ⟨L5, rfl, hd5, hu5⟩
           have HD5 := Lib.hid hd5
           have HU5 := Lib.hid (HU.out.trans hu5)
           clear hd5 hu5 hcell))
      obtain ⟨d0, hd0⟩ : ∃ d0, d0 = imgD 1099511627776 l (ks.take k) := ⟨_, rfl⟩
      rw [← hd0] at HD5 HFL HUS HIM HRF HD ⊢
      have hfl : d0.fs.length = k := HFL.out
      have hD5 := HD5.out
      have hkk : k < d0.fs.length + 1 := by omega
      obtain ⟨g, hg⟩ : ∃ g, g = L5.fa d0.fs.length := ⟨_, rfl⟩
      rw [← hg]
      have hi5 : d0.fs.length < ({ d0 with fs := d0.fs ++ [⟨[], [], []⟩] } : Dm).fs.length := by show _ < (d0.fs ++ [_]).length; rw [List.length_append]; simp
      obtain ⟨vn, vs, vl, hf5⟩ := hD5.at hi5
      obtain ⟨xa, xc, hlk, hxo⟩ := (HKP.out _ w5 HU5.out).look hsl HX.out
      obtain ⟨xl, hxl2⟩ : ∃ xl, xl = x.length := ⟨_, rfl⟩
      rw [← hxl2] at hlk hxo hxl
      have HCL := Lib.hid (bclone_any w5 xa xl xc x (R8.of_owns hxo (by omega)) (by omega))
      have hbox5 := hf5.box
      rw [← hg] at hbox5
      have HBX := Lib.hid hbox5
      have HG := Lib.hid hg
      have HXL := Lib.hid hxl2
      have HF5 := Lib.hid hf5
      have HFI := Lib.hid (file_last d0 ⟨[], [], []⟩)
      have HI5 := Lib.hid hi5
      have HD0 := Lib.hid hd0
      clear hD5 hf5 hbox5 hg hxl2 hxo hfl hi5 hd0
      go_upto_region 12 with (first
        | (go_at_call 33; refine HCL.out.mono ?_; rintro e w6 ⟨⟨a6, c6, rfl, ho6⟩, hb6⟩
           have hx6 := (hb6.block g (Array.getElem?_eq_some_iff.1 HBX.out).1).trans HBX.out
           have s2 := cell_of_row _ _ 2 _ _ _ hx6
           have f2 := frozen_of_row w6 g 2 _ _ hx6
           simp only [List.getElem?_toArray, List.getElem?_cons_zero, List.getElem?_cons_succ] at s2
           have HO6 := Lib.hid ho6
           have HB6 := Lib.hid hb6
           have HX6 := Lib.hid hx6
           clear ho6 hb6 hx6 hlk))
      obtain ⟨W7, hW7⟩ : ∃ W7, W7 = w6.setCell ⟨g, 2, none⟩ (.slice a6 xl c6) := ⟨_, rfl⟩
      rw [← hW7]
      obtain ⟨ρ7, hd7, hu7⟩ := HD5.out.fsafeTo HI5.out HB6.out (v' := .slice a6 xl c6) (x := x) (by rw [← HXL.out]; exact HO6.out)
      rw [← HG.out, ← hW7] at hd7 hu7
      rw [HFI.out, setF_last] at hd7
      have hx7 : W7.heap[g]? = some (boxFile d0.fs.length vn (.slice a6 xl c6) vl) := by rw [hW7]; exact heap_setCell_same w6 g 2 _ _ _ HX6.out
      have ho7 : W7.ownsRow w5.heap.size 5 1 (.slice a6 xl c6) xl (x.map b8) := by
        rw [hW7]
        exact own_same HO6.out (fun j hj => heap_setCell_other w6 ⟨g, 2, none⟩ j _ (by show j ≠ g; have := (HO6.out.lt j hj).1; have := (Array.getElem?_eq_some_iff.1 HBX.out).1; omega))
      have t2 := cell_of_row _ _ 2 _ _ _ hx7
      simp only [List.getElem?_toArray, List.getElem?_cons_zero, List.getElem?_cons_succ] at t2
      have HCL7 := Lib.hid (bclone_any W7 a6 xl c6 x (R8.of_owns ho7 (by omega)) (by omega))
      have HD7 := Lib.hid hd7
      have HU7 := Lib.hid (HU5.out.trans hu7)
      have HX7 := Lib.hid hx7
      clear hd7 hu7 hx7 ho7 hW7 HX6 s2 f2 HCL
      go_upto_region 13 with (first
        | (go_at_call 33; refine HCL7.out.mono ?_; rintro e w8 ⟨⟨a8, c8, rfl, ho8⟩, hb8⟩
           have hx8 := (hb8.block g (Array.getElem?_eq_some_iff.1 HX7.out).1).trans HX7.out
           have s1 := cell_of_row _ _ 1 _ _ _ hx8
           have f1 := frozen_of_row w8 g 1 _ _ hx8
           simp only [List.getElem?_toArray, List.getElem?_cons_zero, List.getElem?_cons_succ] at s1
           have HO8 := Lib.hid ho8
           have HB8 := Lib.hid hb8
           have HX8 := Lib.hid hx8
           clear ho8 hb8 hx8 t2))
      obtain ⟨W9, hW9⟩ : ∃ W9, W9 = w8.setCell ⟨g, 1, none⟩ (.slice a8 xl c8) := ⟨_, rfl⟩
      rw [← hW9]
      have hi7 : d0.fs.length < ({ d0 with fs := d0.fs ++ [⟨[], x, []⟩] } : Dm).fs.length := by show _ < (d0.fs ++ [_]).length; rw [List.length_append]; simp
      obtain ⟨ρ9, hd9, hu9⟩ := HD7.out.fnowTo hi7 HB8.out (v' := .slice a8 xl c8) (x := x) (by rw [← HXL.out]; exact HO8.out)
      rw [show ({ L5 with ρ := ρ7 } : Lay).fa d0.fs.length = g from HG.out.symm, ← hW9] at hd9 hu9
      rw [file_last, setF_last] at hd9
      have hx9 : W9.heap[g]? = some (boxFile d0.fs.length (.slice a8 xl c8) (.slice a6 xl c6) vl) := by rw [hW9]; exact heap_setCell_same w8 g 1 _ _ _ HX8.out
      have HD9 := Lib.hid hd9
      have HU9 := Lib.hid (HU7.out.trans hu9)
      have HX9 := Lib.hid hx9
      clear hd9 hu9 hx9 hW9 HX8 s1 f1 HCL7 hi7 HX7 HB8 HO8 HB6 HO6
      have c6' := HD9.out.cells.2.2.2.2.2.2.1
      have c7' := HD9.out.cells.2.2.2.2.2.2.2.1
      have hnl : d0.names.length = k := by
        have h1 := congrArg List.length HIM.out.keys
        rw [List.length_take] at h1
        have h2 : (keysOf d0.names).length = d0.names.length := by simp [keysOf]
        omega
      obtain ⟨v0, st, v1, st1, q1, q2, q3, q4, r1, r2, r3, r4, hd10, hu10⟩ := (HD9.out.below ((Below.refl W9.heap.size W9).drew)).lay (by show d0.names.length < maxLen; rw [hnl]; unfold maxLen; omega) (by show d0.safe.length < maxLen; rw [HIM.out.sf, hnl]; unfold maxLen; omega) hsl d0.fs.length
      rw [show ({ L5 with ρ := ρ9 } : Lay).fa d0.fs.length = g from HG.out.symm] at r2 r4
      have HD10 := Lib.hid hd10
      have HU10 := Lib.hid (HU9.out.trans ((Upd.of_below ((Below.refl W9.heap.size W9).drew)).trans hu10))
      clear hd10 hu10 hnl
      dsimp only at r1 r2 r3 r4 c6' c7'
      go_region
      clear r1 r2 r3 r4 c6' c7'
      obtain ⟨vn', vs', vl', hf10⟩ := HD10.out.at (i := d0.fs.length) (by show _ < (d0.fs ++ [_]).length; rw [List.length_append]; simp)
      have hfx : ({ d0 with fs := d0.fs ++ [⟨x, x, []⟩], names := ins d0.names s d0.fs.length, safe := ins d0.safe s d0.fs.length } : Dm).file d0.fs.length = ⟨x, x, []⟩ := by
        unfold Dm.file
        dsimp only
        rw [List.getElem?_append_right (Nat.le_refl _), Nat.sub_self]; rfl
      rw [hfx] at hf10
      obtain ⟨na, nc, hvn', -⟩ := owns_shape hf10.now.1
      have n1 := hf10.cells.2.1
      rw [show ({ L5 with ρ := ρ9 } : Lay).fa d0.fs.length = g from HG.out.symm, hvn', show (⟨x, x, []⟩ : Fl).now.length = xl from HXL.out.symm] at n1
      have z2 := HD10.out.cells.2.2.1
      have z2 : q4.cell? ⟨gd, 2, none⟩ = some (.int .i64 (u : Int)) := by rw [z2]; exact congrArg (fun v => some (Value.int .i64 v)) HUS.out.1
      have zf : q4.frozen? ⟨gd, 2, none⟩ = false := frozen_of_row q4 gd 2 _ _ HD10.out.g
      have cd2 : q4.drew.cell? ⟨gd, 2, none⟩ = some (.int .i64 (u : Int)) := z2
      have fd2 : q4.drew.frozen? ⟨gd, 2, none⟩ = false := zf
      have cd1 : q4.drew.cell? ⟨g, 1, none⟩ = some (.slice na xl nc) := n1
      clear hf10 hvn' hfx
      go_wp2_with fail
      go_region
      clear z2 zf cd2 fd2 cd1 n1
      have hd11 := (HD10.out.below ((Below.refl q4.heap.size q4).drew)).usedTo ((u : Int) + (xl : Int))
      have hu11 : Upd ρ9 ρ9 q4 (q4.drew.setCell ⟨gd, 2, none⟩ (.int .i64 ((u : Int) + (xl : Int)))) := (Upd.of_below ((Below.refl q4.heap.size q4).drew)).trans (Upd.of_only (S := (· = 1)) (Only.setCell _ gd 2 _ HD10.out.lg) (by omega) (Ext.refl _ _))
      have HD11 := Lib.hid hd11
      have HU11 := Lib.hid (HU10.out.trans hu11)
      clear hd11 hu11
      go_wp2_with fail
      go_roundw
      case rel =>
        refine ⟨k + 1, { L5 with ρ := ρ9 }, by omega, by push_cast; rfl, Lib.hid ?_, HU11⟩
        have h9 := HD11.out
        rw [List.take_add_one, HS.out]
        show DAt _ _ gd (imgD 1099511627776 l (ks.take k ++ [s]))
        rw [imgD_snoc, ← HD0.out]
        unfold imgStep
        rw [HX.out]
        show DAt _ _ gd { d0 with fs := d0.fs ++ [⟨x, x, []⟩], names := ins d0.names s d0.fs.length, safe := ins d0.safe s d0.fs.length, used := wrap64 (d0.used + ((x.length : Nat) : Int)) }
        rw [HUS.out.1, ← HXL.out, wrap64_small (by omega) (by omega)]
        exact h9
      case measure => simp [intOf]; omega
    · obtain rfl : k = N := by omega
      go_wp2_with fail
      go_returns
      have hb := HU.out.below (B := w.heap.size) (by omega) HL1.out
      refine ⟨HB1.out.trans ((HB4.out.mono hw1).trans hb), L, gd, rfl, ?_, HU.out.low (by omega) HL1.out⟩
      have h9 := HD.out
      rw [List.take_of_length_le (by omega)] at h9
      exact h9
end Go.Proofs.YteoggphafhcchaaGreat
