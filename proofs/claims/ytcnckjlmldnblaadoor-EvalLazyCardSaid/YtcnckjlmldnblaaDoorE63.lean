import Derived.Test.YtcnckjlmldnblaaDoorE62
namespace Go.Proofs.YtcnckjlmldnblaaDoor
open Go Go.RowKit
set_option linter.unusedVariables false
set_option linter.unusedSimpArgs false
/-- A node without where its kids lie. -/
def Nd.bare (nd : Nd) : Nd := { nd with ka := none, kc := 0 }
theorem nodeW_bare (f : Int → Wr) (nd : Nd) (v : Vw) : nodeW f nd.bare v = nodeW f nd v := rfl
theorem wK_bare (ns : List Nd) (v : Vw) : ∀ (d : Nat) (r : Int), wK (ns.map Nd.bare) v d r = wK ns v d r
  | 0, r => rfl
  | d + 1, r => by
    rw [wK, wK, List.getElem?_map]
    have e : wK (ns.map Nd.bare) v d = wK ns v d := funext (wK_bare ns v d)
    cases ns[r.toNat]? with
    | none => rfl
    | some nd =>
      simp only [Option.map_some]
      rw [nodeW_bare, e]
theorem treeG_bare (ns : List Nd) : ∀ (k : Nat) (s : List Bool), treeG (ns.map Nd.bare) k s = treeG ns k s
  | 0, _ => rfl
  | k + 1, s => by
    simp only [treeG, List.getElem?_map]
    rw [treeG_bare ns k s]
    cases ns[k]? with
    | none => rfl
    | some nd =>
      simp only [Option.map_some]
      rw [show nd.bare.right = nd.right from rfl, show nd.bare.ks = nd.ks from rfl]
      cases kidsF k s nd.ks with
      | none => rfl
      | some s' => simp only [treeG_bare ns k s']
theorem worthR_bare (ns : List Nd) (r : Int) (v : Vw) : worthR (ns.map Nd.bare) r v = worthR ns r v := by
  unfold worthR treeR
  rw [List.length_map, treeG_bare, wK_bare]
/-- Where the kids lie is nothing to a worth. -/
theorem worthR_alike {ns ms : List Nd} (h : ns.map Nd.bare = ms.map Nd.bare) (r : Int) (v : Vw) : worthR ns r v = worthR ms r v := by
  rw [← worthR_bare ns, h, worthR_bare]
/-- A refusal's number is not 0. -/
def NzzW (r : Wr) : Prop := ∀ e, r = .error e → e ≠ 0
theorem NzzW.ok (x : Vl) : NzzW (.ok x) := fun e h => by cases h
theorem NzzW.er {e : Int} (h : e ≠ 0) : NzzW (.error e) := fun e' he => by cases he; exact h
theorem nzw_num (n : Int) : NzzW (numW n) := by
  unfold numW
  split <;> first | exact .ok _ | exact .er (by decide)
theorem nzw_ordered (op : Int) (a b c d : Bool) : NzzW (orderedW op a b c d) := by
  unfold orderedW
  repeat' split
  all_goals first | exact .ok _ | exact .er (by decide)
theorem nzw_numbers (op a b : Int) : NzzW (numbersW op a b) := by
  unfold numbersW quotW orderedI
  repeat' split
  all_goals first | exact nzw_num _ | exact .ok _ | exact .er (by decide) | exact nzw_ordered _ _ _ _ _
theorem nzw_members (l : List ByteArray) : NzzW (membersW l) := by
  unfold membersW
  split <;> first | exact .ok _ | exact .er (by decide)
theorem nzw_sets (op : Int) (a b : List ByteArray) : NzzW (setsW op a b) := by
  unfold setsW
  repeat' split
  all_goals first | exact nzw_members _ | exact .er (by decide)
theorem nzw_time {r : Wr} (h : NzzW r) : NzzW (asTime r) := by
  cases r with
  | error e => exact h
  | ok x => exact .ok _
theorem nzw_short (s : ByteArray) : NzzW (shortW s) := by
  unfold shortW
  split <;> first | exact .ok _ | exact .er (by decide)
theorem nzw_moved (a b : Int) : NzzW (movedW a b) := by
  unfold movedW
  split <;> first | exact .ok _ | exact .er (by decide)
theorem nzw_double (op : Int) (a b : Vl) : NzzW (doubleW op a b) := by
  unfold doubleW orderedS
  repeat' split
  all_goals first | exact nzw_numbers _ _ _ | exact nzw_moved _ _ | exact nzw_time (nzw_numbers _ _ _) | exact nzw_short _ | exact nzw_ordered _ _ _ _ _ | exact nzw_sets _ _ _ | exact .ok _ | exact .er (by decide)
theorem nzw_single (op : Int) (a : Vl) : NzzW (singleW op a) := by
  unfold singleW
  repeat' split
  all_goals first | exact nzw_num _ | exact .ok _ | exact .er (by decide)
theorem nzw_gathered (l : List Vl) : NzzW (gatheredW l) := by
  unfold gatheredW
  split <;> first | exact nzw_members _ | exact .er (by decide)
theorem nzw_op (op : Int) (l : List Vl) : NzzW (opW op l) := by
  unfold opW
  repeat' split
  all_goals first | exact nzw_gathered _ | exact nzw_single _ _ | exact nzw_double _ _ _ | exact .er (by decide)
theorem nzw_told (v : Vl) : NzzW (toldW v) := by
  unfold toldW
  split <;> first | exact .ok _ | exact .er (by decide)
theorem nzw_equal (op : Int) (a b : Vl) : NzzW (equalW op a b) := by
  unfold equalW
  split <;> first | exact .ok _ | exact .er (by decide)
theorem nzw_sure {r : Wr} (h : NzzW r) {e : Int} (k : sureW r = .error e) : e ≠ 0 := by
  cases r with
  | error e' => simp only [sureW] at k; cases k; exact h _ rfl
  | ok v =>
    simp only [sureW] at k
    repeat' split at k
    all_goals cases k
    all_goals decide
theorem nzw_seq : ∀ (l : List Wr), (∀ r ∈ l, NzzW r) → ∀ e, seqW l = .error e → e ≠ 0
  | [], _, e, h => by cases h
  | .error e' :: t, hl, e, h => by
    simp only [seqW] at h
    cases h
    exact hl _ List.mem_cons_self _ rfl
  | .ok v :: t, hl, e, h => by
    simp only [seqW] at h
    cases ht : seqW t with
    | error e' =>
      rw [ht] at h
      cases h
      exact nzw_seq t (fun r hr => hl r (List.mem_cons_of_mem _ hr)) _ ht
    | ok l => rw [ht] at h; cases h
theorem nzw_leaf {nd : Nd} {v : Vw} {r : Wr} (h : leafW nd v = some r) : NzzW r := by
  unfold leafW at h
  repeat' split at h
  all_goals (try cases h)
  all_goals first | exact .ok _ | exact nzw_short _ | exact nzw_told _ | skip
  rename_i e he
  exact .er (nzw_told _ _ he)
theorem nzw_nodeW {f : Int → Wr} {nd : Nd} {v : Vw} (hf : ∀ k, NzzW (f k)) : NzzW (nodeW f nd v) := by
  have hk : ∀ i, NzzW (wkid f nd i) := fun i => hf _
  unfold nodeW
  repeat' split
  all_goals first
    | exact nzw_leaf (by assumption)
    | exact .ok _
    | exact hk _
    | exact nzw_equal _ _ _
    | exact nzw_op _ _
    | exact .er (nzw_sure (hk _) (by assumption))
    | exact .er (hk _ _ (by assumption))
    | exact .er (nzw_seq _ (fun r hr => by obtain ⟨k, -, rfl⟩ := List.mem_map.1 hr; exact hf k) _ (by assumption))
theorem nzw_wK (ns : List Nd) (v : Vw) : ∀ (d : Nat) (r : Int), NzzW (wK ns v d r)
  | 0, r => .er (by decide)
  | d + 1, r => by
    rw [wK]
    split
    · exact .er (by decide)
    · exact nzw_nodeW fun k => nzw_wK ns v d k
theorem nzw_worth (ns : List Nd) (r : Int) (v : Vw) : NzzW (worthR ns r v) := by
  unfold worthR
  repeat' split
  all_goals first | exact nzw_wK _ _ _ _ | exact .er (by decide)
/-- A worth of kind 2 is a truth. -/
theorem truth_of {x : Vl} (h : Fit x) (h2 : x.k = 2) (b : Bool) (hn : x.n = if b then 1 else 0) : x = truthV b := by
  obtain ⟨h1, -, -, -, -⟩ := right_parts h.r
  obtain ⟨k, n, t, ss⟩ := x
  simp only at h2 hn
  subst h2 hn
  simp only [formedV, Bool.and_eq_true, Bool.or_eq_true] at h1
  have ht : t.toList = [] := by
    rcases h1.1.1 with e | e
    · exact absurd e (by decide)
    · simpa using e
  have hs : ss = [] := by
    rcases h1.1.2 with e | e
    · exact absurd e (by decide)
    · simpa using e
  have ht' : t = ByteArray.empty := toList_inj' (by rw [ht]; simp [ByteArray.toList_eq])
  subst hs ht'
  rfl
end Go.Proofs.YtcnckjlmldnblaaDoor
