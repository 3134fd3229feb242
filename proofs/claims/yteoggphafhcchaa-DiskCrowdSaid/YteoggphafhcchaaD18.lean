import Derived.Test.YteoggphafhcchaaD17
namespace Go.Proofs.Yteoggphafhcchaa
open Go Go.RowKit
set_option maxRecDepth 100000
set_option maxHeartbeats 1000000
set_option linter.unusedVariables false
set_option linter.unusedSimpArgs false
open Go.Maps Go.WideMaps Go.ChangeMaps
abbrev bs (l : List UInt8) : ByteArray := ⟨l.toArray⟩
theorem kL_bs (l : List UInt8) : kL (bs l) = .string l := rfl
/-- The names laid when k of them have come. -/
def Nms (L : List (List UInt8)) (k : Nat) (D : DataW Unit) : Prop := Maps.size D = k ∧ (∀ s : ByteArray, at? D s = .nil ↔ s.data.toList ∉ L.take k) ∧ ∀ s : ByteArray, has D (kL s) = true ↔ s.data.toList ∈ L.take k
theorem setCell_self {w : World} {b o : Nat} {cs : Array Value} {t : TypeId} (h : w.heap[b]? = some (.cells cs t (0, 0))) {v : Value} (hv : cs[o]? = some v) : w.setCell ⟨b, o, none⟩ v = w := by
  have e : (w.setCell ⟨b, o, none⟩ v).heap = w.heap := by
    apply Array.ext_getElem?
    intro i
    by_cases hi : i = b
    · subst hi
      rw [heap_setCell_same w i o cs t v h, h]
      congr 2
      apply Array.ext_getElem?
      intro j
      rw [Array.getElem?_setIfInBounds]
      split
      · rename_i e1
        subst e1
        split
        · exact hv.symm
        · rename_i h2
          rw [Array.getElem?_eq_none (by omega)] at hv; cases hv
      · rfl
    · exact heap_setCell_other w ⟨b, o, none⟩ i v hi
  exact (show w.setCell ⟨b, o, none⟩ v = { w with heap := (w.setCell ⟨b, o, none⟩ v).heap } from rfl).trans (by rw [e])
theorem row_block {w : World} {B N : Nat} {v : Value} {L : List (List UInt8)} (h : w.ownsRow B 9 1 v N (L.map encStr)) (h0 : 0 < N) : ∃ rb cap cs, v = .slice (some ⟨rb, 0, none⟩) N cap ∧ B ≤ rb ∧ w.heap[rb]? = some (.cells cs 9 (0, 0)) ∧ L.length = N ∧ ∀ (k : Nat) (l : List UInt8), L[k]? = some l → cs[k]? = some (.string (bs l)) := by
  have hlen := h.1
  rcases h.2 with ⟨-, e⟩ | ⟨rb, cap, cs, rfl, hb, hg, h1, h2, h3, h4⟩
  · omega
  · refine ⟨rb, cap, cs, rfl, hb, hg, by simpa using hlen, fun k l hk => ?_⟩
    have e1 : (cs.toList.take (N * 1))[k]? = some (.string (bs l)) := by
      rw [h4, List.getElem?_map, hk]; rfl
    rw [List.getElem?_take] at e1
    split at e1
    · simpa using e1
    · cases e1
theorem str_facts {w : World} {b n : Nat} {D : DataW Unit} {R : Value → Option (DataW Unit × List MemPlace)} (h : w.ownsMap Try.prog 9 R b n D) :
    (strKeys D).length = Maps.size D ∧ (strKeys D).Nodup ∧ (∀ x, x ∈ strKeys D ↔ has D (.string x) = true) ∧ ∀ x ∈ strKeys D, x.length ≤ maxLen := by
  have hle := strKeys_le h Try.underlying9
  obtain ⟨es, he, hp, -⟩ := h.entries law9
  obtain ⟨es', he', hk⟩ := h.keysOf
  rw [he] at he'
  obtain rfl : es = es' := by injection he'
  have hs : ∀ p ∈ es, ∃ x, p.1 = .string x := fun p hp => by
    obtain ⟨v, hv⟩ := hk p hp
    obtain ⟨x, -, e, -⟩ := Maps.keyOf_str Try.underlying9 hv
    exact ⟨x, e⟩
  subst he
  refine ⟨by simp [strKeys, Maps.size], ?_, fun x => ?_, hle⟩
  · show (es.map fun p => strOf p.1).Nodup
    rw [List.nodup_iff_pairwise_ne, List.pairwise_map]
    refine hp.imp_of_mem fun {p q} h1 h2 hne e => hne ?_
    obtain ⟨x, hx⟩ := hs p h1
    obtain ⟨y, hy⟩ := hs q h2
    rw [hx, hy] at e ⊢
    have : x = y := e
    rw [this]
  · constructor
    · intro hx
      obtain ⟨p, hp1, rfl⟩ := List.mem_map.1 hx
      obtain ⟨y, hy⟩ := hs p hp1
      refine List.any_eq_true.2 ⟨p, hp1, ?_⟩
      rw [hy]
      exact WideAt.sameKey_self trivial
    · intro hx
      obtain ⟨p, hp1, hk1⟩ := List.any_eq_true.1 hx
      have e := WideAt.sameKey_eq hk1
      exact List.mem_map.2 ⟨p, hp1, by rw [e]; rfl⟩
theorem Nms.zero (L : List (List UInt8)) : Nms L 0 (.map []) := ⟨rfl, fun s => ⟨fun _ => by simp, fun _ => rfl⟩, fun s => ⟨fun h => (by cases h), fun h => (by simp at h)⟩⟩
theorem Nms.step {L : List (List UInt8)} {k : Nat} {D : DataW Unit} (h : Nms L k D) (ht : Tidy D) (hm : IsMap D) (hd : L.Nodup) {l : List UInt8} (hk : L[k]? = some l) (g : Nat) : Nms L (k + 1) (D.put (kL (bs l)) (.lit (.int .i64 g))) := by
  have hlt := (List.getElem?_eq_some_iff.1 hk).1
  have htk : L.take (k + 1) = L.take k ++ [l] := by rw [List.take_add_one, hk]; rfl
  have hnot : l ∉ L.take k := by
    intro hl
    have h2 : (L.take (k + 1)).Nodup := hd.sublist (List.take_sublist _ _)
    rw [htk] at h2
    exact (List.nodup_append.1 h2).2.2 l hl l (by simp) rfl
  have hno : has D (kL (bs l)) = false := by
    cases hh : has D (kL (bs l))
    · rfl
    · exact absurd ((h.2.2 (bs l)).1 hh) (by simpa [bs] using hnot)
  refine ⟨?_, fun s => ?_, fun s => ?_⟩
  · rw [size_put ht, hno, h.1]; rfl
  · rw [at_put hm, htk]
    split
    · rename_i e
      subst e
      simp [bs]
    · rename_i e
      rw [h.2.1 s]
      simp only [List.mem_append, List.mem_singleton, not_or]
      refine ⟨fun h1 => ⟨h1, fun e1 => e ?_⟩, fun h1 => h1.1⟩
      apply ByteArray.ext; apply Array.toList_inj.1; rw [e1]
  · rw [htk]
    by_cases e : s = bs l
    · subst e
      rw [has_put_same hm (keylit _)]
      simp [bs]
    · rw [has_put_other (fun e1 => e (kL_inj e1)), h.2.2 s]
      simp only [List.mem_append, List.mem_singleton]
      refine ⟨.inl, fun h1 => h1.resolve_right fun e1 => e ?_⟩
      apply ByteArray.ext; apply Array.toList_inj.1; rw [e1]
end Go.Proofs.Yteoggphafhcchaa
