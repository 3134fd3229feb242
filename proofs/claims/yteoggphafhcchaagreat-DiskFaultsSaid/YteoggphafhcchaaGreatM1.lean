import Derived.Test.YteoggphafhcchaaGreatD4
namespace Go.Proofs.YteoggphafhcchaaGreat
open Go Go.RowKit
set_option maxRecDepth 100000
set_option maxHeartbeats 1000000
set_option linter.unusedVariables false
set_option linter.unusedSimpArgs false
/-! The disk as plain data. -/
abbrev bs (l : List UInt8) : ByteArray := ⟨l.toArray⟩
abbrev Nm := List UInt8
/-- What a name finds. -/
def lk {β : Type} : List (Nm × β) → Nm → Option β
  | [], _ => none
  | (k, i) :: r, s => if s = k then some i else lk r s
/-- A name laid: over what it found, or behind the others. -/
def ins {β : Type} : List (Nm × β) → Nm → β → List (Nm × β)
  | [], s, i => [(s, i)]
  | (k, j) :: r, s, i => if s = k then (k, i) :: r else (k, j) :: ins r s i
/-- A name struck. -/
def era {β : Type} : List (Nm × β) → Nm → List (Nm × β)
  | [], _ => []
  | (k, j) :: r, s => if s = k then r else (k, j) :: era r s
def keysOf {β : Type} (l : List (Nm × β)) : List Nm := l.map (·.1)
section
variable {β : Type}
theorem lk_none {l : List (Nm × β)} {s : Nm} : lk l s = none ↔ s ∉ keysOf l := by
  induction l with
  | nil => simp [lk, keysOf]
  | cons p r ih =>
    obtain ⟨k, i⟩ := p
    simp only [lk, keysOf, List.map_cons, List.mem_cons]
    by_cases h : s = k
    · simp [h]
    · simp [h]; simpa [keysOf] using ih
theorem lk_some {l : List (Nm × β)} {s : Nm} : (lk l s).isSome = true ↔ s ∈ keysOf l := by
  cases h : lk l s with
  | none => simp [lk_none.1 h]
  | some i =>
    simp only [Option.isSome_some, true_iff]
    by_cases hm : s ∈ keysOf l
    · exact hm
    · rw [lk_none.2 hm] at h; cases h
theorem lk_mem {l : List (Nm × β)} {s : Nm} {i : β} (h : lk l s = some i) : (s, i) ∈ l := by
  induction l with
  | nil => cases h
  | cons p r ih =>
    obtain ⟨k, j⟩ := p
    simp only [lk] at h
    split at h
    · rename_i e; cases h; simp [e]
    · exact List.mem_cons_of_mem _ (ih h)
theorem lk_of_mem {l : List (Nm × β)} (hn : (keysOf l).Nodup) {s : Nm} {i : β} (h : (s, i) ∈ l) : lk l s = some i := by
  induction l with
  | nil => cases h
  | cons p r ih =>
    obtain ⟨k, j⟩ := p
    simp only [keysOf, List.map_cons, List.nodup_cons] at hn
    simp only [lk]
    rcases List.mem_cons.1 h with e | e
    · cases e; simp
    · have hs : s ∈ keysOf r := List.mem_map.2 ⟨_, e, rfl⟩
      rw [if_neg (by rintro rfl; exact hn.1 hs)]
      exact ih hn.2 e
theorem lk_ins (l : List (Nm × β)) (s : Nm) (i : β) (t : Nm) : lk (ins l s i) t = if t = s then some i else lk l t := by
  induction l with
  | nil => simp [ins, lk]
  | cons p r ih =>
    obtain ⟨k, j⟩ := p
    simp only [ins]
    by_cases h : s = k
    · subst h; simp only [if_true, lk]
      by_cases e : t = s <;> simp [e, lk]
    · rw [if_neg h]; simp only [lk]
      by_cases e : t = k
      · subst e; rw [if_pos rfl, if_pos rfl, if_neg (fun e => h e.symm)]
      · rw [if_neg e, if_neg e, ih]
theorem keys_cons (p : Nm × β) (r : List (Nm × β)) : keysOf (p :: r) = p.1 :: keysOf r := rfl
theorem keys_ins (l : List (Nm × β)) (s : Nm) (i : β) : keysOf (ins l s i) = if s ∈ keysOf l then keysOf l else keysOf l ++ [s] := by
  induction l with
  | nil => simp [ins, keysOf]
  | cons p r ih =>
    obtain ⟨k, j⟩ := p
    simp only [ins]
    by_cases h : s = k
    · subst h; simp [keysOf]
    · rw [if_neg h, keys_cons, keys_cons, ih]
      by_cases hm : s ∈ keysOf r
      · rw [if_pos hm, if_pos (List.mem_cons_of_mem _ hm)]
      · rw [if_neg hm, if_neg (by simp [h, hm])]; rfl
theorem nodup_ins {l : List (Nm × β)} (hn : (keysOf l).Nodup) (s : Nm) (i : β) : (keysOf (ins l s i)).Nodup := by
  rw [keys_ins]
  split
  · exact hn
  · rename_i h
    rw [List.nodup_append]
    exact ⟨hn, by simp, fun a ha b hb => by simp at hb; subst hb; rintro rfl; exact h ha⟩
theorem keys_era {l : List (Nm × β)} (hn : (keysOf l).Nodup) (s t : Nm) : t ∈ keysOf (era l s) ↔ t ∈ keysOf l ∧ t ≠ s := by
  induction l with
  | nil => simp [era, keysOf]
  | cons p r ih =>
    obtain ⟨k, j⟩ := p
    simp only [keysOf, List.map_cons, List.nodup_cons] at hn
    simp only [era]
    by_cases h : s = k
    · subst h; rw [if_pos rfl]
      simp only [keysOf, List.map_cons, List.mem_cons]
      constructor
      · intro h; exact ⟨.inr h, by rintro rfl; exact hn.1 h⟩
      · rintro ⟨h | h, e⟩
        · exact absurd h e
        · exact h
    · rw [if_neg h]
      have ih := ih hn.2
      simp only [keysOf, List.map_cons, List.mem_cons] at ih ⊢
      rw [ih]
      constructor
      · rintro (rfl | ⟨h1, h2⟩)
        · exact ⟨.inl rfl, fun e => h e.symm⟩
        · exact ⟨.inr h1, h2⟩
      · rintro ⟨rfl | h1, h2⟩
        · exact .inl rfl
        · exact .inr ⟨h1, h2⟩
theorem era_sub (l : List (Nm × β)) (s : Nm) : (keysOf (era l s)).Sublist (keysOf l) := by
  induction l with
  | nil => exact List.Sublist.slnil
  | cons p r ih =>
    obtain ⟨k, j⟩ := p
    simp only [era]
    split
    · exact List.Sublist.cons _ (List.Sublist.refl _)
    · exact List.Sublist.cons_cons _ ih
theorem nodup_era {l : List (Nm × β)} (hn : (keysOf l).Nodup) (s : Nm) : (keysOf (era l s)).Nodup := (era_sub l s).nodup hn
theorem lk_era {l : List (Nm × β)} (hn : (keysOf l).Nodup) (s t : Nm) : lk (era l s) t = if t = s then none else lk l t := by
  induction l with
  | nil => simp [era, lk]
  | cons p r ih =>
    obtain ⟨k, j⟩ := p
    simp only [keysOf, List.map_cons, List.nodup_cons] at hn
    simp only [era]
    by_cases h : s = k
    · subst h; rw [if_pos rfl]; simp only [lk]
      by_cases e : t = s
      · subst e; rw [if_pos rfl]; exact lk_none.2 hn.1
      · rw [if_neg e, if_neg e]
    · rw [if_neg h]; simp only [lk]
      by_cases e : t = k
      · subst e; rw [if_pos rfl, if_pos rfl, if_neg (fun e => h e.symm)]
      · rw [if_neg e, if_neg e]; exact ih hn.2
theorem len_ins (l : List (Nm × β)) (s : Nm) (i : β) : (ins l s i).length = if s ∈ keysOf l then l.length else l.length + 1 := by
  have h := congrArg List.length (keys_ins l s i)
  have h1 : (keysOf (ins l s i)).length = (ins l s i).length := by simp [keysOf]
  have h2 : (keysOf l).length = l.length := by simp [keysOf]
  rw [← h1, h]
  by_cases hm : s ∈ keysOf l
  · rw [if_pos hm, if_pos hm, h2]
  · rw [if_neg hm, if_neg hm, List.length_append, h2]; rfl
theorem len_ins_le (l : List (Nm × β)) (s : Nm) (i : β) : (ins l s i).length ≤ l.length + 1 := by
  rw [len_ins]; split <;> omega
theorem len_era_le (l : List (Nm × β)) (s : Nm) : (era l s).length ≤ l.length := by
  have h := (era_sub l s).length_le
  simpa [keysOf] using h
theorem len_era {l : List (Nm × β)} {s : Nm} (h : s ∈ keysOf l) : (era l s).length + 1 = l.length := by
  induction l with
  | nil => simp [keysOf] at h
  | cons p r ih =>
    obtain ⟨k, j⟩ := p
    simp only [era]
    by_cases e : s = k
    · rw [if_pos e]; rfl
    · rw [if_neg e]
      simp only [keysOf, List.map_cons, List.mem_cons] at h
      have := ih (h.resolve_left e)
      simp only [List.length_cons]; omega
theorem mem_ins {l : List (Nm × β)} {s : Nm} {i : β} {p : Nm × β} (h : p ∈ ins l s i) : p ∈ l ∨ p = (s, i) := by
  induction l with
  | nil => simp [ins] at h; exact .inr h
  | cons q r ih =>
    obtain ⟨k, j⟩ := q
    simp only [ins] at h
    split at h
    · rename_i e
      rcases List.mem_cons.1 h with h | h
      · exact .inr (by rw [h, e])
      · exact .inl (List.mem_cons_of_mem _ h)
    · rcases List.mem_cons.1 h with h | h
      · exact .inl (by rw [h]; exact List.mem_cons_self)
      · exact (ih h).imp (List.mem_cons_of_mem _) id
theorem mem_era {l : List (Nm × β)} {s : Nm} {p : Nm × β} (h : p ∈ era l s) : p ∈ l := by
  induction l with
  | nil => exact h
  | cons q r ih =>
    obtain ⟨k, j⟩ := q
    simp only [era] at h
    split at h
    · exact List.mem_cons_of_mem _ h
    · rcases List.mem_cons.1 h with h | h
      · rw [h]; exact List.mem_cons_self
      · exact List.mem_cons_of_mem _ (ih h)
end
/-- What one act did to a file's bytes. -/
structure Run where
  laid : List UInt8
  cut : Nat
structure Fl where
  now : List UInt8
  safe : List UInt8
  loose : List Run
/-- A change of names: made is a file's number, counted from 0. -/
structure Chg where
  src : Nm
  dst : Nm
  made : Option Nat
structure Flt where
  step : Int
  kind : Int
  part : Int
structure Dm where
  acts : Nat
  space : Int
  used : Int
  epoch : Nat
  power : Bool
  fs : List Fl
  names : List (Nm × Nat)
  safe : List (Nm × Nat)
  changes : List Chg
  plan : List Flt
  claims : List (Nm × Int)
def Dm.new (space : Int) : Dm := ⟨0, space, 0, 0, true, [], [], [], [], [], []⟩
def Run.units (u : Run) : Nat := max u.laid.length 1
/-- One run done, or a beginning of it. -/
def Run.play (u : Run) (n : Nat) (b : List UInt8) : List UInt8 := (if u.laid = [] then b.take u.cut else b) ++ u.laid.take n
/-- The first n units of a file's runs. -/
def playN : List Run → Int → List UInt8 → List UInt8
  | [], _, b => b
  | u :: r, n, b => if n ≤ 0 then b else playN r (n - u.units) (u.play n.toNat b)
/-- All runs. -/
def playAll : List Run → List UInt8 → List UInt8
  | [], b => b
  | u :: r, b => playAll r (u.play u.laid.length b)
def Fl.keep (f : Fl) (n : Int) : Fl := ⟨playN f.loose n f.safe, playN f.loose n f.safe, []⟩
def Fl.units (f : Fl) : Nat := (f.loose.map Run.units).sum
/-- One change of names. -/
def Chg.act (c : Chg) (m : List (Nm × Nat)) : List (Nm × Nat) :=
  match c.made with
  | some i => if c.dst = [] then m else ins m c.dst i
  | none => match lk m c.src with
    | some i => if c.dst = [] then era m c.src else ins (era m c.src) c.dst i
    | none => m
def chs (cs : List Chg) (m : List (Nm × Nat)) : List (Nm × Nat) := cs.foldl (fun m c => c.act m) m
def Dm.file (d : Dm) (i : Nat) : Fl := d.fs[i]?.getD ⟨[], [], []⟩
def Dm.lenOf (d : Dm) (s : Nm) : Int := match lk d.names s with | some i => ((d.file i).now.length : Int) | none => 0
/-- What a change of names leaves of the bytes in use. -/
def Dm.usedFor (d : Dm) (c : Chg) : Int :=
  if c.made = none ∧ c.dst ≠ c.src then
    let u1 := match lk d.names c.dst with | some i => wrap64 (d.used - ((d.file i).now.length : Int)) | none => d.used
    if c.dst = [] then wrap64 (u1 - d.lenOf c.src) else u1
  else d.used
/-- Disk.change. -/
def Dm.change (d : Dm) (c : Chg) : Dm :=
  { d with used := d.usedFor c, names := c.act d.names, changes := d.changes ++ [c] }
/-- The fault for an act. -/
def Dm.planned (d : Dm) (step : Int) : Flt := (d.plan.find? fun f => decide (f.step = step ∧ 1 ≤ f.kind ∧ f.kind ≤ 6)).getD ⟨0, 0, 0⟩
/-- Disk.begin. -/
def Dm.begin (d : Dm) (whole : Dm → Dm) (part : Int → Dm → Dm) : Dm × Int :=
  let f := d.planned d.acts
  let e : Dm := { d with acts := d.acts + 1 }
  if f.kind = 1 then (e, 30)
  else if f.kind = 2 then (whole e, 30)
  else if f.kind = 3 then (part f.part e, 30)
  else if f.kind = 4 then (part f.part e, 31)
  else if f.kind = 5 then ({ part f.part e with power := false }, 2)
  else if f.kind = 6 then ({ whole e with power := false }, 2)
  else (whole e, 0)
/-- Disk.ask of one name: what it finds, and the number. -/
def Dm.ask (d : Dm) (s : Nm) : Option Nat × Int :=
  if d.power = false then (none, 2)
  else if legalB (bs s) = false then (none, 34)
  else match lk d.names s with
    | none => (none, 32)
    | some i => (some i, 0)
def Dm.setF (d : Dm) (i : Nat) (f : Fl) : Dm := { d with fs := d.fs.set i f }
def Dm.create (d : Dm) (s : Nm) : Dm × Int :=
  let a := d.ask s
  if a.2 = 0 then (d, 33)
  else if a.2 = 32 then
    if 4096 ≤ d.names.length then (d, 31)
    else d.begin (fun e => ({ e with fs := e.fs ++ [⟨[], [], []⟩] } : Dm).change ⟨[], s, some e.fs.length⟩) (fun _ e => e)
  else (d, a.2)
/-- Append's own part. -/
def partOf (i : Nat) (fit : List UInt8) (n : Int) (e : Dm) : Dm :=
  let q := fit.take n.toNat
  if q = [] then e
  else { (e.setF i ⟨(e.file i).now ++ q, (e.file i).safe, (e.file i).loose ++ [⟨q, 0⟩]⟩) with used := wrap64 (e.used + q.length) }
def Dm.append (d : Dm) (s : Nm) (p : List UInt8) : Dm × Int :=
  match d.ask s with
  | (some i, _) =>
    if 2147483647 - ((d.file i).now.length : Int) < p.length then (d, 31)
    else
      let fit := p.take (max (wrap64 (d.space - d.used)) 0).toNat
      let r := d.begin (partOf i fit fit.length) (partOf i fit)
      if (d.planned d.acts).kind = 0 ∧ fit.length < p.length then (r.1, 31) else r
  | (none, e) => (d, e)
def Dm.cut (d : Dm) (s : Nm) (n : Int) : Dm × Int :=
  match d.ask s with
  | (some i, _) =>
    if n < 0 ∨ ((d.file i).now.length : Int) < n then (d, 1)
    else d.begin (fun e => { (e.setF i ⟨(e.file i).now.take n.toNat, (e.file i).safe, (e.file i).loose ++ [⟨[], n.toNat⟩]⟩) with used := wrap64 (e.used - wrap64 (((e.file i).now.length : Int) - n)) }) (fun _ e => e)
  | (none, e) => (d, e)
def Dm.sync (d : Dm) (s : Nm) : Dm × Int :=
  match d.ask s with
  | (some i, _) => d.begin (fun e => e.setF i ⟨(e.file i).now, (e.file i).now, []⟩) (fun _ e => e)
  | (none, e) => (d, e)
def Dm.rename (d : Dm) (s t : Nm) : Dm × Int :=
  if d.power = false then (d, 2)
  else if legalB (bs s) = false then (d, 34)
  else if legalB (bs t) = false then (d, 34)
  else match lk d.names s with
    | none => (d, 32)
    | some _ => d.begin (fun e => e.change ⟨s, t, none⟩) (fun _ e => e)
def Dm.remove (d : Dm) (s : Nm) : Dm × Int :=
  match d.ask s with
  | (some _, _) => d.begin (fun e => e.change ⟨s, [], none⟩) (fun _ e => e)
  | (none, e) => (d, e)
def Dm.syncNames (d : Dm) : Dm × Int :=
  if d.power = false then (d, 2)
  else d.begin (fun e => { e with safe := e.names, changes := [] }) (fun _ e => e)
def Dm.read (d : Dm) (s : Nm) (at_ n : Int) : List UInt8 × Int :=
  match d.ask s with
  | (some i, _) =>
    if at_ < 0 ∨ n < 0 ∨ ((d.file i).now.length : Int) < at_ ∨ wrap64 (((d.file i).now.length : Int) - at_) < n then ([], 1)
    else (((d.file i).now.drop at_.toNat).take n.toNat, 0)
  | (none, e) => ([], e)
def Dm.length (d : Dm) (s : Nm) : Int × Int :=
  match d.ask s with
  | (some i, _) => ((d.file i).now.length, 0)
  | (none, e) => (0, e)
/-- What Walk goes through. -/
def Dm.walk (d : Dm) : List (Nm × Int) :=
  if d.power = false then [] else ((keysOf d.names).mergeSort fun x y => decide (x ≤ y)).map fun s => (s, d.lenOf s)
/-- The files within reach, in the order of their numbers. -/
def Dm.reach (d : Dm) : List Nat := (d.safe.map (·.2) ++ d.changes.filterMap (·.made)).mergeSort fun x y => decide (x ≤ y)
def Dm.loose (d : Dm) : Nat × List Nat := (d.changes.length, d.reach.map fun i => (d.file i).units)
/-- Restart's files: each within reach keeps so many units. -/
def keepAll : List Nat → List Int → List Fl → List Fl
  | [], _, fs => fs
  | i :: r, ns, fs => keepAll r ns.tail (fs.set i ((fs[i]?.getD ⟨[], [], []⟩).keep (ns.head?.getD 0)))
def Dm.restart (d : Dm) (names : Int) (ns : List Int) : Dm :=
  let fs := keepAll d.reach ns d.fs
  let m := chs (d.changes.take (max names 0).toNat) d.safe
  { d with fs := fs, safe := m, names := m, used := m.foldl (fun u p => wrap64 (u + ((fs[p.2]?.getD ⟨[], [], []⟩).now.length : Int))) 0, changes := [], plan := [], power := true, epoch := d.epoch + 1 }
def Dm.kept (d : Dm) : List (Nm × List UInt8) := d.safe.map fun p => (p.1, (d.file p.2).safe)
end Go.Proofs.YteoggphafhcchaaGreat
