import Derived.Test.YtakaoacialnjaaaDoorK42
namespace Go.Proofs.YtakaoacialnjaaaDoor
open Go Go.RowKit
set_option linter.unusedVariables false
def nmNd (k : Nat) : Nd := ⟨5, partName k, 0, 0, ByteArray.empty, none, 0, 0, none, 0, 0, []⟩
def noNd : Nd := ⟨4, ByteArray.empty, 0, 0, ByteArray.empty, none, 0, 0, none, 0, 0, []⟩
/-- The operator's own node. -/
def opNd (op : Int) (xa : Option Addr) (n xc : Nat) : Nd := ⟨op, ByteArray.empty, 0, 0, ByteArray.empty, none, 0, 0, xa, n, xc, (List.range n).map fun i : Nat => (i : Int)⟩
theorem own_apart {w : World} {B e s n : Nat} {v : Value} {xs : List Value} {B' e' s' n' : Nat} {v' : Value} {xs' : List Value} (h : w.ownsRow B e s v n xs) (h' : w.ownsRow B' e' s' v' n' xs') (hne : e ≠ e') : v.ownBlock = none ∨ v.ownBlock ≠ v'.ownBlock := by
  rcases h.2 with ⟨rfl, _⟩ | ⟨g, cap, cur, rfl, _, hh, _⟩
  · exact .inl rfl
  · right
    have := own_ne h' hh hne
    simpa [Value.ownBlock] using this.symm
theorem own_grown {w w' : World} {B e s n : Nat} {v : Value} {xs : List Value} {B' e' s' n' : Nat} {v' : Value} {xs' : List Value} (h : w.ownsRow B e s v n xs) (h' : w.ownsRow B' e' s' v' n' xs') (hne : e ≠ e') (hg : w.grownBy w' v'.ownBlock) : w'.ownsRow B e s v n xs :=
  h.kept hg (own_apart h h' hne)
theorem partsNd_succ0 {l : List (Int × Bool)} {k : Nat} {b : Int} {o : Bool} (h : l[k]? = some (b, o)) (hb : b = 0) : (partsNd l (k + 1)).flatMap Nd.cs = (partsNd l k).flatMap Nd.cs ++ Nd.cs noNd := by
  simp [partsNd, List.range_succ, h, partNd, hb, noNd]
theorem partsNd_succ1 {l : List (Int × Bool)} {k : Nat} {b : Int} {o : Bool} (h : l[k]? = some (b, o)) (hb : b ≠ 0) : (partsNd l (k + 1)).flatMap Nd.cs = (partsNd l k).flatMap Nd.cs ++ Nd.cs (nmNd k) := by
  simp [partsNd, List.range_succ, h, partNd, hb, nmNd]
theorem partsNm_succ0 {l : List (Int × Bool)} {k : Nat} {b : Int} {o : Bool} (h : l[k]? = some (b, o)) (hb : b = 0) : partsNm l (k + 1) = partsNm l k := by
  simp [partsNm, List.range_succ, h, partNm, hb]
theorem partsNm_succ1 {l : List (Int × Bool)} {k : Nat} {b : Int} {o : Bool} (h : l[k]? = some (b, o)) (hb : b ≠ 0) : partsNm l (k + 1) = partsNm l k ++ [⟨partName k, b, o⟩] := by
  simp [partsNm, List.range_succ, h, partNm, hb]
theorem ints_succ (k : Nat) : (List.range (k + 1)).flatMap (fun i : Nat => Iv (i : Int)) = (List.range k).flatMap (fun i : Nat => Iv (i : Int)) ++ Iv (k : Int) := by
  simp [List.range_succ]
theorem partsNm_le (l : List (Int × Bool)) (k : Nat) : (partsNm l k).length ≤ k := by
  induction k with
  | zero => simp [partsNm]
  | succ k ih =>
    have : (partsNm l (k + 1)).length = (partsNm l k).length + (partNm k (l.getD k (0, false))).length := by simp [partsNm, List.range_succ]
    have h2 : (partNm k (l.getD k (0, false))).length ≤ 1 := by unfold partNm; split <;> simp
    omega
def OverOut (e : Ending) (w w' : World) (op : Int) (l : List (Int × Bool)) : Prop :=
  ∃ na nc xa xc va vc, e = .returned (.tuple #[.slice na (l.length + 1) nc, .slice va (partsNm l l.length).length vc]) ∧
    RS 7 Nd.cs w' na (l.length + 1) nc (partsNd l l.length ++ [opNd op xa l.length xc]) ∧ RS 3 Nm.cs w' va (partsNm l l.length).length vc (partsNm l l.length) ∧
    RS 1 Iv w' xa l.length xc ((List.range l.length).map fun i : Nat => (i : Int))
theorem mapIv (n : Nat) : (List.range n).flatMap (fun i : Nat => Iv (i : Int)) = ((List.range n).map fun i : Nat => (i : Int)).flatMap Iv := by
  rw [List.flatMap_map]
theorem cell0 {w w' : World} (hb : Below w.heap.size w w') {b o : Nat} {v : Value} (h : w.cell? ⟨b, o + 0, none⟩ = some v) : w'.cell? ⟨b, o, none⟩ = some v := (hb.cell (p := ⟨b, o, none⟩) (block_lt_of_cell h)).trans h
theorem new_nd' (w : World) (k : Nd) {m : Nat} (hm : w.heap.size = m) (j : Nat) (u : Value) (h : (Nd.cs k)[j]? = some u) : (w.alloc (.cells k.v 49)).cell? ((⟨m, 0, none⟩ : Addr).add j) = some u := by
  subst hm; exact new_nd w k j u h
theorem Nm_len' (x : Nm) : x.cs.length = 3 := rfl
theorem Nd_len' (x : Nd) : x.cs.length = 7 := rfl
theorem over_end {w w' : World} {op : Int} {l : List (Int × Bool)} {k : Nat} {ua va xa : Option Addr} {uc vc xc : Nat} (hlen : l.length = k) (hvl : (partsNm l k).length ≤ k) (hk : k ≤ 3)
    (hu : w'.ownsRow w.heap.size 49 7 (.slice ua (k + 1) uc) (k + 1) ((partsNd l k).flatMap Nd.cs ++ Nd.cs (opNd op xa k xc))) (hv : w'.ownsRow w.heap.size 34 3 (.slice va (partsNm l k).length vc) (partsNm l k).length ((partsNm l k).flatMap Nm.cs))
    (hx : w'.ownsRow w.heap.size 3 1 (.slice xa k xc) k ((List.range k).flatMap (fun i : Nat => Iv (i : Int)))) :
    OverOut (.returned (.tuple #[.slice ua (k + 1) uc, .slice va (partsNm l k).length vc])) w w' op l := by
  subst hlen
  refine ⟨ua, uc, xa, xc, va, vc, rfl, ?_, ?_, ?_⟩
  · refine RS.of_owns (enc := Nd.cs) (by rw [List.flatMap_append]; simpa using hu) (by decide) Nd_len' (by omega)
  · exact RS.of_owns hv (by decide) Nm_len' (by omega)
  · rw [mapIv] at hx
    exact RS.of_owns hx (by decide) (fun _ => rfl) (by omega)
end Go.Proofs.YtakaoacialnjaaaDoor
