import Derived.Test.YtakaoacialnjaaaDoorK14
import Derived.Test.YtakaoacialnjaaaDoorK4
import Derived.Laws.CopyOwn
namespace Go.Proofs.YtakaoacialnjaaaDoor
open Go Go.RowKit
set_option linter.unusedVariables false
/-- A slice type with one-cell elements in the program's table. -/
structure Sl (P : Program) (t e : TypeId) (z : Value) (size bytes : Nat) : Prop where
  und : P.underlying t = some (.slice e)
  inf : (P.info? e).map (fun i => (i.zero, i.size, i.bytes)) = some (some z, size, bytes)
  zs : z.cells.size = size
  pos : 0 < size

section
variable {P : Program} {w : World} {ops : Array Oper} {rest : List Oper} {o : Oper} {a : Act} {Q : Exit → Act → World → Prop}
/-- make([]T, n). -/
theorem L_make (hgd : o.guard = none) (l c : Operand) (t : TypeId) (ho : o.op = Op.makeSlice t l c) {e : TypeId} {z : Value} {size bytes : Nat} (T : Sl P t e z size bytes)
    (base : Nat) (kl kc : IntKind) (L : Int) (n : Nat) (hl : a.eval l = .int kl L) (hc : a.eval c = .int kc L) (hL : L = (n : Int)) (hb : bytes * n ≤ 281474976710656) (hn : n ≤ maxLen) (hbase : base ≤ w.heap.size)
    (h : ∀ w', w'.ownsRow base e size (.slice (some ⟨w.heap.size, 0, none⟩) n n) n (madeCells z.cells (n * size)).toList → w.grownBy w' none → wpList P ops Q rest (a.put o.dst (.slice (some ⟨w.heap.size, 0, none⟩) n n)) w') :
    wpList P ops Q (o :: rest) a w := by
  obtain ⟨i, hi, hz0, hz1, hz2⟩ := info_parts T.inf
  exact wpList_make_full w hgd l c t ho base e i z size T.und hi hz0 hz1 kl kc L L n hl hc hL hL (by rw [hz2]; exact hb) hn hbase h

end
/-- A node, as it lies in memory. -/
structure Nd where
  op : Int
  nm : ByteArray
  vk : Int
  vn : Int
  vt : ByteArray
  sa : Option Addr
  sl : Nat
  sc : Nat
  ka : Option Addr
  kl : Nat
  kc : Nat
  ks : List Int
abbrev Nd.v (n : Nd) : Array Value := nodeV n.op n.nm n.vk n.vn n.vt n.sa n.sl n.sc n.ka n.kl n.kc
def Nd.cs (n : Nd) : List Value := [.int .i64 n.op, .string n.nm, .int .i64 n.vk, .int .i64 n.vn, .string n.vt, .slice n.sa n.sl n.sc, .slice n.ka n.kl n.kc]
def Nd.right (n : Nd) : Bool := rightB n.op n.nm.data.toList n.vk n.vn n.vt.data.toList n.sl n.kl
def Nd.ok (w : World) (n : Nd) : Prop := RS 1 Iv w n.ka n.kl n.kc n.ks ∧ n.nm.size ≤ maxLen ∧ (-9223372036854775808 ≤ n.vn ∧ n.vn ≤ 9223372036854775807)
theorem Nd.ok.below {w w' : World} {n : Nd} (h : n.ok w) (hb : Below w.heap.size w w') : n.ok w' := ⟨h.1.below hb, h.2⟩
theorem RS.nat {w : World} {a : Option Addr} {len cap : Nat} {ks : List Int} (h : RS 1 Iv w a len cap ks) (hk : ∀ k ∈ ks, 0 ≤ k) : RS 1 IvN w a len cap (ks.map Int.toNat) := by
  obtain ⟨h1, h2, h3, h4⟩ := h
  refine ⟨by simpa using h1, h2, h3, fun i x hx => ?_⟩
  simp only [List.getElem?_map, Option.map_eq_some_iff] at hx
  obtain ⟨y, hy, rfl⟩ := hx
  obtain ⟨b, off, e, hc⟩ := h4 i y hy
  refine ⟨b, off, e, fun j v hv => hc j v ?_⟩
  have := hk y (List.mem_of_getElem? hy)
  rw [← hv]
  simp only [Iv, IvN, Int.toNat_of_nonneg this]
theorem getD_mem_lt {l : List Nat} {i m : Nat} (h : i < l.length) (hk : ∀ k ∈ l, k < m) : l.getD i 0 < m := by
  rw [List.getD_eq_getElem?_getD, List.getElem?_eq_getElem h]; exact hk _ (List.getElem_mem h)
theorem right_kids {n : Nd} (h : n.right = true) : kidsN n.op ≠ -2 ∧ (kidsN n.op = -1 ∨ (n.kl : Int) = kidsN n.op) := by
  simp only [Nd.right, rightB, Bool.and_eq_true, Bool.or_eq_true, Bool.not_eq_true', decide_eq_false_iff_not, decide_eq_true_eq] at h
  exact ⟨h.1.1.1.1, h.1.1.1.2⟩
theorem len1 {l : List Nat} (h : l.length = 1) : l = [l.getD 0 0] := by
  match l, h with
  | [x], _ => rfl
theorem len2 {l : List Nat} (h : l.length = 2) : l = [l.getD 0 0, l.getD 1 0] := by
  match l, h with
  | [x, y], _ => rfl
theorem len3 {l : List Nat} (h : l.length = 3) : l = [l.getD 0 0, l.getD 1 0, l.getD 2 0] := by
  match l, h with
  | [x, y, z], _ => rfl
theorem look_any (w : World) (g : Nat) (sc : List Nm) (ks : List (Int × Bool)) (K : LK w g sc ks) (ht : NoTab w) (h0 : 0 < w.heap.size) (n : Nd) (hn : n.ok w) (hr : n.right = true) (hk : ∀ k ∈ n.ks, 0 ≤ k ∧ k < ks.length) :
    Calls Tryd.prog 34 #[.pointer (some ⟨g, 0, none⟩), .agg n.v] w fun e w' => LookOut e (lookK sc ks n.op n.nm.toList (n.ks.map Int.toNat)) ∧ Below w.heap.size w w' := by
  have hrs := hn.1.nat (fun k h => (hk k h).1)
  have hkn : ∀ k ∈ n.ks.map Int.toNat, k < ks.length := by
    intro k h
    obtain ⟨y, hy, rfl⟩ := List.mem_map.1 h
    have := hk y hy
    omega
  have hlen := hrs.1
  obtain ⟨hr1, hr2⟩ := right_kids hr
  generalize n.ks.map Int.toNat = kn at *
  obtain ⟨op, nm, vk, vn, vt, sa, sl, sc', ka, kl, kc, ks'⟩ := n
  simp only [Nd.v] at *
  clear hr hn hk
  unfold lookK
  by_cases h1 : op = 1 ∨ op = 30
  · rw [if_pos h1]; exact look_const w g op _ (.inl ⟨h1, rfl⟩) nm vk vn vt sa sl sc' ka kl kc ht h0
  rw [if_neg h1]
  by_cases h2 : op = 2 ∨ op = 25 ∨ op = 26
  · rw [if_pos h2]; exact look_const w g op _ (.inr (.inl ⟨h2, rfl⟩)) nm vk vn vt sa sl sc' ka kl kc ht h0
  rw [if_neg h2]
  by_cases h3 : op = 3
  · rw [if_pos h3]; exact look_const w g op _ (.inr (.inr (.inl ⟨h3, rfl⟩))) nm vk vn vt sa sl sc' ka kl kc ht h0
  rw [if_neg h3]
  by_cases h29 : op = 29
  · rw [if_pos h29]; exact look_const w g op _ (.inr (.inr (.inr (.inl ⟨h29, rfl⟩)))) nm vk vn vt sa sl sc' ka kl kc ht h0
  rw [if_neg h29]
  by_cases h4 : op = 4
  · rw [if_pos h4]; exact look_const w g op _ (.inr (.inr (.inr (.inr ⟨h4, rfl⟩)))) nm vk vn vt sa sl sc' ka kl kc ht h0
  rw [if_neg h4]
  by_cases h5 : op = 5
  · rw [if_pos h5]; subst h5
    have := look_name w g sc ks K 5 (.inl rfl) nm vk vn vt sa sl sc' ka kl kc
    simpa using this
  rw [if_neg h5]
  by_cases h24 : op = 24
  · rw [if_pos h24]; subst h24
    have := look_name w g sc ks K 24 (.inr rfl) nm vk vn vt sa sl sc' ka kl kc
    simpa using this
  rw [if_neg h24]
  by_cases h6 : op = 6
  · rw [if_pos h6]; subst h6
    exact look_set w g sc ks K nm vk vn vt sa sl sc' ka kl kc kn hrs hkn
  rw [if_neg h6]
  by_cases h7 : op = 7 ∨ op = 8 ∨ op = 27
  · rw [if_pos h7]
    have hkl : kl = 1 := by
      have e : kidsN op = 1 := by rcases h7 with rfl | rfl | rfl <;> rfl
      rw [e] at hr2; omega
    subst hkl
    have hx := getD_mem_lt (show 0 < kn.length by omega) hkn
    have e := len1 hlen
    have hrs' : RS 1 IvN w ka 1 kc [kn.getD 0 0] := by rw [← e]; exact hrs
    rcases h7 with rfl | rfl | rfl
    · exact look_one7 w g sc ks K nm vk vn vt sa sl sc' ka kc _ hrs' hx
    · exact look_one8 w g sc ks K nm vk vn vt sa sl sc' ka kc _ hrs' hx
    · exact look_one27 w g sc ks K nm vk vn vt sa sl sc' ka kc _ hrs' hx
  rw [if_neg h7]
  by_cases h23 : op = 23
  · rw [if_pos h23]; subst h23
    have hkl : kl = 3 := by
      have e : kidsN 23 = 3 := rfl
      rw [e] at hr2; omega
    subst hkl
    have e := len3 hlen
    have hrs' : RS 1 IvN w ka 3 kc [kn.getD 0 0, kn.getD 1 0, kn.getD 2 0] := by rw [← e]; exact hrs
    exact look_if w g sc ks K ht h0 nm vk vn vt sa sl sc' ka kc _ _ _ hrs' (getD_mem_lt (by omega) hkn) (getD_mem_lt (by omega) hkn) (getD_mem_lt (by omega) hkn)
  rw [if_neg h23]
  have hkl : kl = 2 := by
    simp only [kidsN] at hr1 hr2
    rw [if_neg h23, if_neg h6, if_neg h7] at hr1 hr2
    by_cases ho : op < 1 ∨ 34 ≤ op
    · rw [if_pos ho] at hr1; exact absurd rfl hr1
    · rw [if_neg ho, if_neg (by omega)] at hr2; omega
  subst hkl
  have e := len2 hlen
  have hrs' : RS 1 IvN w ka 2 kc [kn.getD 0 0, kn.getD 1 0] := by rw [← e]; exact hrs
  exact look_two w g sc ks K ht h0 op (fun k hk e => by omega) nm vk vn vt sa sl sc' ka kc _ _ hrs' (getD_mem_lt (by omega) hkn) (getD_mem_lt (by omega) hkn)
end Go.Proofs.YtakaoacialnjaaaDoor
