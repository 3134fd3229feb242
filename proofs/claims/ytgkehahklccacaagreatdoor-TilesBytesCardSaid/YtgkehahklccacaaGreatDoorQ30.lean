import Derived.Test.YtgkehahklccacaaGreatDoorQ28
import Derived.Test.YtgkehahklccacaaGreatDoorQ29
import Derived.Lib.SlBytesRow
namespace Go.Proofs.YtgkehahklccacaaGreatDoor
open Go Go.RowKit
set_option maxRecDepth 100000
set_option maxHeartbeats 1000000
set_option linter.unusedVariables false
set_option linter.unusedSimpArgs false

open Go.Maps Go.WideMaps Go.ChangeMaps
/-! Flush as the walk shows it, and as the plain law tells it. -/
def TT.fs (T : TT) : Fs := ⟨T.held, T.l0, T.l1⟩
def TT.put (T : TT) (s : Fs) : TT := { T with held := s.held, l0 := s.l0, l1 := s.l1 }
def TT.tls (T : TT) : List (List UInt8) := (List.range (T.L.length / 256)).map fun j => tileP T.wd.toNat j (chunk T.L j)
def toD (T : TT) (r : Fs × Dm × Int) : Dm × TT × Int := (r.2.1, T.put r.1, r.2.2)
theorem tls_len (T : TT) : T.tls.length = T.L.length / 256 := by simp [TT.tls]
theorem tls_each (T : TT) : ∀ x ∈ T.tls, x.length = 8207 := by
  intro x hx
  obtain ⟨j, hj, rfl⟩ := List.mem_map.1 hx
  have hj := List.mem_range.1 hj
  rw [tileP_len]
  have : (chunk T.L j).length = 256 := by unfold chunk; rw [List.length_take, List.length_drop]; omega
  omega
theorem tls_flat (T : TT) : T.tls.flatten.length = T.L.length / 256 * 8207 := by rw [flatten_len _ 8207 (tls_each T), tls_len]
theorem tls_drop (T : TT) (m : Nat) (hm : m ≤ T.L.length / 256) : (T.tls.drop m).flatten = tilesB T m (T.L.length / 256 - m) := by
  unfold TT.tls tilesB
  congr 1
  apply List.ext_getElem?
  intro i
  rw [List.getElem?_drop, List.getElem?_map, List.getElem?_map]
  by_cases h : i < T.L.length / 256 - m
  · rw [List.getElem?_range h, List.getElem?_range (by omega)]; rfl
  · rw [List.getElem?_eq_none (by simp; omega), List.getElem?_eq_none (by simp; omega)]; rfl
theorem put_fs (T : TT) : T.put T.fs = T := rfl
theorem sync2_eq (d : Dm) (T : TT) : syncD2 d T = toD T (syncP2 T.fs d) := by
  unfold syncD2 syncP2 toD
  by_cases h : T.l1 = true
  · have h' : T.fs.l1 = true := h
    rw [if_pos h, if_pos h']
    by_cases h2 : d.syncNames.2 = 0
    · rw [if_neg (by rw [h2]; decide), if_pos h2]; rfl
    · rw [if_pos h2, if_neg h2]; rfl
  · have h' : ¬ T.fs.l1 = true := h
    rw [if_neg h, if_neg h']
    have : ({ T with l1 := false } : TT) = T := by cases T; simp_all
    rw [if_neg (fun q => q rfl), this]; rfl
theorem sync_eq (d : Dm) (T : TT) : syncD d T = toD T (syncP T.fs d) := by
  rw [syncD_eq]
  unfold syncP
  by_cases h : T.l0 = true
  · have h' : T.fs.l0 = true := h
    rw [if_pos h, if_pos h']
    by_cases h2 : (d.sync tlN).2 = 0
    · rw [if_neg (fun q => q h2), if_pos h2, sync2_eq]; rfl
    · rw [if_pos h2, if_neg h2]; rfl
  · have h' : ¬ T.fs.l0 = true := h
    rw [if_neg h, if_neg h']
    have : ({ T with l0 := false } : TT) = T := by cases T; simp_all
    rw [this, sync2_eq]
theorem lay_eq (d : Dm) (T : TT) (hh : T.held ≤ T.L.length / 256) : fl4 d T = toD T (layP T.tls T.fs d) := by
  unfold fl4 appD layP
  rw [tls_len]
  by_cases h : T.held = T.L.length / 256
  · have h' : T.fs.held = T.L.length / 256 := h
    rw [if_pos h, if_pos h', if_neg (fun q => q rfl), sync_eq]
  · have h' : ¬ T.fs.held = T.L.length / 256 := h
    rw [if_neg h, if_neg h']
    have hd : (T.tls.drop T.fs.held).flatten = tilesB T T.held (T.L.length / 256 - T.held) := tls_drop T T.held hh
    dsimp only
    rw [hd]
    by_cases h2 : (d.append tlN (tilesB T T.held (T.L.length / 256 - T.held))).2 = 0
    · rw [if_pos h2, if_neg (c := (d.append tlN (tilesB T T.held (T.L.length / 256 - T.held))).2 ≠ 0) (fun q => q h2)]
      rw [if_neg (fun q => q rfl), sync_eq]; rfl
    · rw [if_neg h2, if_pos (c := (d.append tlN (tilesB T T.held (T.L.length / 256 - T.held))).2 ≠ 0) h2]
      rw [if_pos h2]; rfl
theorem cut_eq (N : Int) (d : Dm) (T : TT) (hh : T.held ≤ T.L.length / 256) : fl3 N d T = toD T (cutP T.tls N T.fs d) := by
  unfold fl3 cutP
  by_cases h : N > ((T.held * 8207 : Nat) : Int)
  · have h' : ((T.fs.held * 8207 : Nat) : Int) < N := h
    rw [if_pos h, if_pos h']
    dsimp only
    by_cases h2 : (d.cut tlN ((T.held * 8207 : Nat) : Int)).2 = 0
    · have h2' : (d.cut tlN ((T.fs.held * 8207 : Nat) : Int)).2 = 0 := h2
      rw [if_neg (fun q => q h2), if_pos h2', lay_eq _ { T with l0 := true } hh]; rfl
    · have h2' : ¬ (d.cut tlN ((T.fs.held * 8207 : Nat) : Int)).2 = 0 := h2
      rw [if_pos h2, if_neg h2']; rfl
  · have h' : ¬ ((T.fs.held * 8207 : Nat) : Int) < N := h
    rw [if_neg h, if_neg h', lay_eq _ _ hh]
theorem flush_eq (d : Dm) (T : TT) (hh : T.held ≤ T.L.length / 256) (hl : T.live d tlN = 0) : flushD d T = toD T (flushP T.tls T.fs d) := by
  unfold flushD flushP
  rw [if_neg (fun q => q hl)]
  have he : T.tls = [] ↔ T.L.length / 256 = 0 := by rw [← tls_len]; exact List.length_eq_zero_iff.symm
  by_cases h1 : (d.length tlN).2 = 32
  · by_cases h2 : T.L.length / 256 = 0
    · rw [if_pos h1, if_pos h2, if_pos ⟨h1, he.2 h2⟩]; rfl
    · rw [if_neg (c := (d.length tlN).2 = 32 ∧ T.tls = []) (fun q => h2 (he.1 q.2)), if_neg (c := (d.length tlN).2 ≠ 0 ∧ (d.length tlN).2 ≠ 32) (fun q => q.2 h1)]
      rw [if_pos h1, if_pos h1, if_neg h2]
      unfold fl2
      rw [if_pos rfl]
      dsimp only
      by_cases h3 : (d.create tlN).2 = 0
      · rw [if_neg (fun q => q h3), if_pos h3, cut_eq _ _ { T with l0 := true, l1 := true } hh]; rfl
      · rw [if_pos h3, if_neg h3]; rfl
  · by_cases h2 : (d.length tlN).2 = 0
    · rw [if_neg (c := (d.length tlN).2 = 32 ∧ T.tls = []) (fun q => h1 q.1), if_neg (c := (d.length tlN).2 ≠ 0 ∧ (d.length tlN).2 ≠ 32) (fun q => q.1 h2)]
      rw [if_neg h1, if_neg h1, if_neg (fun q => q h2)]
      unfold fl2
      rw [if_neg (by decide), cut_eq _ _ _ hh]
    · rw [if_neg (c := (d.length tlN).2 = 32 ∧ T.tls = []) (fun q => h1 q.1), if_pos (c := (d.length tlN).2 ≠ 0 ∧ (d.length tlN).2 ≠ 32) ⟨h2, h1⟩]
      rw [if_neg h1, if_pos h2]; rfl
end Go.Proofs.YtgkehahklccacaaGreatDoor
namespace Go.Proofs.YtgkehahklccacaaGreatDoor
open Go Go.RowKit
set_option maxRecDepth 100000
set_option maxHeartbeats 1000000
set_option linter.unusedVariables false
set_option linter.unusedSimpArgs false

open Go.Maps Go.WideMaps Go.ChangeMaps
/-! What a Flush leaves alone; what it wants; what Open finds behind it. -/
def EC (d x : Dm) : Prop := x.epoch = d.epoch ∧ x.claims = d.claims
theorem EC.refl (d : Dm) : EC d d := ⟨rfl, rfl⟩
theorem EC.trans {a b c : Dm} (h : EC a b) (k : EC b c) : EC a c := ⟨k.1.trans h.1, k.2.trans h.2⟩
theorem create_ec (d : Dm) (s : Nm) : EC d (d.create s).1 := by
  unfold Dm.create
  dsimp only
  split
  · exact EC.refl d
  · split
    · split
      · exact EC.refl d
      · exact begin_kept (P := EC d) ⟨rfl, rfl⟩ (fun _ => ⟨rfl, rfl⟩) ⟨rfl, rfl⟩ (fun x h => h)
    · exact EC.refl d
theorem partOf_ec (i : Nat) (fit : List UInt8) (n : Int) (e : Dm) : EC e (partOf i fit n e) := by
  unfold partOf
  dsimp only
  split
  · exact EC.refl e
  · exact ⟨rfl, rfl⟩
theorem append_ec (d : Dm) (s : Nm) (p : List UInt8) : EC d (d.append s p).1 := by
  unfold Dm.append
  split
  · split
    · exact EC.refl d
    · dsimp only
      split <;> exact begin_kept (P := EC d) (partOf_ec _ _ _ _) (fun _ => partOf_ec _ _ _ _) ⟨rfl, rfl⟩ (fun x h => h)
  · exact EC.refl d
theorem cut_ec (d : Dm) (s : Nm) (n : Int) : EC d (d.cut s n).1 := by
  unfold Dm.cut
  split
  · split
    · exact EC.refl d
    · exact begin_kept (P := EC d) ⟨rfl, rfl⟩ (fun _ => ⟨rfl, rfl⟩) ⟨rfl, rfl⟩ (fun x h => h)
  · exact EC.refl d
theorem sync_ec (d : Dm) (s : Nm) : EC d (d.sync s).1 := by
  unfold Dm.sync
  split
  · exact begin_kept (P := EC d) ⟨rfl, rfl⟩ (fun _ => ⟨rfl, rfl⟩) ⟨rfl, rfl⟩ (fun x h => h)
  · exact EC.refl d
theorem syncNames_ec (d : Dm) : EC d d.syncNames.1 := by
  unfold Dm.syncNames
  split
  · exact EC.refl d
  · exact begin_kept (P := EC d) ⟨rfl, rfl⟩ (fun _ => ⟨rfl, rfl⟩) ⟨rfl, rfl⟩ (fun x h => h)
theorem syncP2_ec (s : Fs) (d : Dm) : EC d (syncP2 s d).2.1 := by
  unfold syncP2
  split
  · split <;> exact syncNames_ec d
  · exact EC.refl d
theorem syncP_ec (s : Fs) (d : Dm) : EC d (syncP s d).2.1 := by
  unfold syncP
  split
  · split
    · exact (sync_ec d tlN).trans (syncP2_ec _ _)
    · exact sync_ec d tlN
  · exact syncP2_ec _ _
theorem layP_ec (T : List (List UInt8)) (s : Fs) (d : Dm) : EC d (layP T s d).2.1 := by
  unfold layP
  split
  · exact syncP_ec _ _
  · dsimp only
    split
    · exact (append_ec d tlN _).trans (syncP_ec _ _)
    · exact append_ec d tlN _
theorem cutP_ec (T : List (List UInt8)) (n : Int) (s : Fs) (d : Dm) : EC d (cutP T n s d).2.1 := by
  unfold cutP
  split
  · split
    · exact (cut_ec d tlN _).trans (layP_ec _ _ _)
    · exact cut_ec d tlN _
  · exact layP_ec _ _ _
theorem flushP_ec (T : List (List UInt8)) (s : Fs) (d : Dm) : EC d (flushP T s d).2.1 := by
  unfold flushP
  split
  · exact EC.refl d
  · split
    · exact EC.refl d
    · split
      · split
        · exact (create_ec d tlN).trans (cutP_ec _ _ _ _)
        · exact create_ec d tlN
      · exact cutP_ec _ _ _ _
section
variable {N : Nat} {d : Dm} {T : TT}
theorem TD.pre' (h : TD T.tls.flatten N d) (hF : T.L.length ≤ 20000) (hN : N ≤ 1000000) : Pre d := h.pre (by rw [tls_flat]; omega) hN
theorem p4_of (h : TD T.tls.flatten N d) (hF : T.L.length ≤ 20000) (hN : N ≤ 100000) (hpw : d.power = true) {i : Nat} (hi : lk d.names tlN = some i) (hn : (d.file i).now.length = T.held * 8207) (hh : T.held ≤ T.L.length / 256) : P4 d T := by
  have hT : T.tls.flatten.length ≤ 1000000 := by rw [tls_flat]; omega
  have hnow : (d.file i).now ++ (T.tls.drop T.held).flatten = T.tls.flatten := by
    obtain ⟨t, ht⟩ := (h.file_at i).nowP
    have hs : T.tls.flatten = (T.tls.take T.held).flatten ++ (T.tls.drop T.held).flatten := by rw [← List.flatten_append, List.take_append_drop]
    have hl : ((T.tls.take T.held).flatten).length = T.held * 8207 := by
      rw [flatten_len _ 8207 fun x hx => tls_each T x (List.mem_of_mem_take hx), List.length_take, tls_len, Nat.min_eq_left hh]
    rw [hs] at ht
    rw [hs, (List.append_inj ht (by rw [hn, hl])).1]
  have key : TD T.tls.flatten (N + 1) (appD d T).1 ∧ (T.held = T.L.length / 256 ∨ lk (appD d T).1.names tlN = some i) := by
    unfold appD
    split
    · rename_i e
      exact ⟨h.mono (List.prefix_refl _) (Nat.le_succ _), .inl e⟩
    · rename_i e
      have h0 : (T.tls.drop T.held).flatten ≠ [] := by
        intro e0
        have := flatten_len (T.tls.drop T.held) 8207 fun x hx => tls_each T x (List.mem_of_mem_drop hx)
        rw [e0, List.length_drop, tls_len] at this
        simp only [List.length_nil] at this; omega
      obtain ⟨h1, ⟨h2, -⟩, -, -⟩ := h.append hT hpw hi (T.tls.drop T.held).flatten (by rw [hnow]; exact List.prefix_refl _) h0
      rw [tls_drop T T.held hh] at h1 h2
      dsimp only
      split <;> exact ⟨h1, .inr (by rw [h2]; exact hi)⟩
  refine ⟨h.pre hT (by omega), key.1.pre hT (by omega), ?_⟩
  have hk : lk (appD d T).1.names tlN = some i := by
    rcases key.2 with e | e
    · unfold appD; rw [if_pos e]; exact hi
    · exact e
  by_cases hp2 : (appD d T).1.power = true
  · exact (key.1.sync hT hp2 hk).1.pre hT (by omega)
  · have : ((appD d T).1.sync tlN).1 = (appD d T).1 := by
      unfold Dm.sync Dm.ask
      rw [if_pos (by simpa using hp2)]
    rw [this]; exact key.1.pre hT (by omega)
theorem p3_of (h : FsI T.tls N T.fs d) (hF : T.L.length ≤ 20000) (hN : N ≤ 90000) (hpw : d.power = true) {i : Nat} (hi : lk d.names tlN = some i) : P3 ((d.file i).now.length : Nat) d T := by
  have hT : T.tls.flatten.length ≤ 1000000 := by rw [tls_flat]; omega
  have hle : T.held * 8207 ≤ (d.file i).now.length := h.named i hi
  have hh : T.held ≤ T.L.length / 256 := by have := h.le; rwa [tls_len] at this
  refine ⟨h.td.pre hT (by omega), fun q => p4_of h.td hF (by omega) hpw hi (by omega) hh, fun q e => ?_⟩
  obtain ⟨h1, ⟨h2, -⟩, -, h4, -⟩ := h.td.cut hT hpw hi (T.held * 8207) hle
  obtain ⟨a, b, -⟩ := h4 e
  exact p4_of (T := { T with l0 := true }) h1 hF (by omega) b (by rw [h2]; exact hi) (by rw [a, List.length_take, Nat.min_eq_left hle]) hh
/-- What a Flush wants of its disk. -/
theorem p2_of (h : FsI T.tls N T.fs d) (hF : T.L.length ≤ 20000) (hN : N ≤ 80000) (hpw : d.power = true) : P2 d T := by
  have hT : T.tls.flatten.length ≤ 1000000 := by rw [tls_flat]; omega
  refine ⟨h.td.pre hT (by omega), fun q => ?_, fun q e => ?_⟩
  · rw [length_t hpw] at q ⊢
    cases hn : lk d.names tlN with
    | none => rw [hn] at q; cases q
    | some i =>
      exact p3_of h hF (by omega) hpw hn
  · rw [length_t hpw] at q ⊢
    cases hn : lk d.names tlN with
    | some i => rw [hn] at q; cases q
    | none =>
      obtain ⟨h1, h2, -⟩ := h.td.create hpw hn
      have e2 := h2 e
      obtain ⟨hm, hmn⟩ := h.td.made hn
      have hf : ((Dm.madeT { d with acts := d.acts + 1 }).file d.fs.length) = ⟨[], [], []⟩ := by
        show (d.fs ++ [(⟨[], [], []⟩ : Fl)])[d.fs.length]?.getD _ = _
        rw [List.getElem?_append_right (Nat.le_refl _), Nat.sub_self]; rfl
      have hpw' : (d.create tlN).1.power = true := by rw [e2]; exact hpw
      have hmn' : lk (d.create tlN).1.names tlN = some d.fs.length := by rw [e2]; exact hmn
      have hh : T.held = 0 := h.not_ hn
      have hk : FsI ({ T with l0 := true, l1 := true } : TT).tls (N + 1) ({ T with l0 := true, l1 := true } : TT).fs (d.create tlN).1 :=
        ⟨h1, h.le, fun i hi => by show T.held * 8207 ≤ _; rw [hh]; omega, fun _ => hh, (fun j hj hs => (by cases hs)), fun hx => by cases hx⟩
      have := p3_of hk hF (by omega) hpw' hmn'
      rw [e2, hf] at this
      rw [e2]
      exact this
end
end Go.Proofs.YtgkehahklccacaaGreatDoor
namespace Go.Proofs.YtgkehahklccacaaGreatDoor
open Go Go.RowKit
set_option maxRecDepth 100000
set_option maxHeartbeats 1000000
set_option linter.unusedVariables false
set_option linter.unusedSimpArgs false

open Go.Maps Go.WideMaps Go.ChangeMaps
/-! What Open finds on a disk on which all is safe. -/
def tqF (wd : Int) (ls : List Dg) : List UInt8 := tilesQ wd.toNat (chunk ls) (ls.length / 256)
theorem tls_tqF (T : TT) : T.tls.flatten = tqF T.wd T.L := rfl
theorem chunk_len {ls : List Dg} {j : Nat} (h : j < ls.length / 256) : (chunk ls j).length = 256 := by unfold chunk; rw [List.length_take, List.length_drop]; omega
theorem tqF_len (wd : Int) (ls : List Dg) : (tqF wd ls).length = 8207 * (ls.length / 256) := tilesQ_len _ _ _ fun j hj => chunk_len hj
/-- A beginning of tiles: whole ones, and a part. -/
theorem pre_tiles {wd : Int} {ls : List Dg} {B : List UInt8} (h : B <+: tqF wd ls) : B.length / 8207 ≤ ls.length / 256 ∧ B = tilesQ wd.toNat (chunk ls) (B.length / 8207) ++ B.drop (8207 * (B.length / 8207)) ∧ (B.drop (8207 * (B.length / 8207))).length < 8207 := by
  have hl := h.length_le
  rw [tqF_len] at hl
  have hk : B.length / 8207 ≤ ls.length / 256 := Nat.div_le_of_le_mul hl
  refine ⟨hk, ?_, by rw [List.length_drop]; have := Nat.mod_lt B.length (show 0 < 8207 by decide); have := Nat.div_add_mod B.length 8207; omega⟩
  have hs : ∃ r, tqF wd ls = tilesQ wd.toNat (chunk ls) (B.length / 8207) ++ r := by
    rcases Nat.lt_or_ge (B.length / 8207) (ls.length / 256) with e | e
    · obtain ⟨r, hr⟩ := tilesQ_split wd.toNat (chunk ls) e
      exact ⟨_, by unfold tqF; rw [hr, List.append_assoc]⟩
    · have : B.length / 8207 = ls.length / 256 := by omega
      exact ⟨[], by rw [this, List.append_nil]; rfl⟩
  obtain ⟨r, hr⟩ := hs
  have hq : (tilesQ wd.toNat (chunk ls) (B.length / 8207)).length = 8207 * (B.length / 8207) := tilesQ_len _ _ _ fun j hj => chunk_len (by omega)
  have h1 : B.take (8207 * (B.length / 8207)) = tilesQ wd.toNat (chunk ls) (B.length / 8207) := by
    obtain ⟨t, ht⟩ := h
    have h2 : (B ++ t).take (8207 * (B.length / 8207)) = tilesQ wd.toNat (chunk ls) (B.length / 8207) := by rw [ht, hr, List.take_left' hq]
    rw [List.take_append_of_le_length (Nat.mul_div_le _ _)] at h2
    exact h2
  rw [← h1]
  exact (List.take_append_drop _ _).symm
structure CalmT (TB : List UInt8) (N : Nat) (d : Dm) : Prop where
  td : TD TB N d
  pw : d.power = true
  ch : d.changes = []
  sf : d.safe = d.names
  lo : ∀ i, lk d.names tlN = some i → (d.file i).loose = [] ∧ (d.file i).safe = (d.file i).now
theorem CalmT.new (TB : List UInt8) : CalmT TB 0 (Dm.new 1099511627776) := ⟨TD.new TB, rfl, rfl, rfl, fun i h => by cases h⟩
section
variable {TB : List UInt8} {N : Nat} {d : Dm}
theorem CalmT.restart (h : TD TB N d) (hT : TB.length ≤ 1000000) (nm : Int) (ns : List Int) : CalmT TB (N + 1) (d.restart nm ns) := by
  obtain ⟨h1, h2, h3, h4, h5, h6⟩ := h.restart hT nm ns
  exact ⟨h1, h2, h4, h5, h6⟩
theorem CalmT.loose (h : CalmT TB N d) : looseB d = false := by
  unfold looseB Dm.loose Dm.reach
  rw [h.ch, h.sf]
  dsimp only
  rcases h.td.at_ with ⟨-, e⟩ | ⟨i, -, hi, e⟩
  · rw [e]; simp
  · rw [e]
    have hu : (d.file i).units = 0 := by unfold Fl.units; rw [(h.lo i hi).1]; rfl
    simp [hu]
theorem CalmT.whole (h : CalmT TB N d) (hT : TB.length ≤ 1000000) : wholeD d = (d.bytesOf tlN, 0) := by
  unfold wholeD
  rw [length_t h.pw]
  cases hn : lk d.names tlN with
  | none =>
    dsimp only
    rw [if_pos rfl, bytesOf_none hn]
  | some i =>
    have hl := (h.td.file_at i).nowP.length_le
    dsimp only
    rw [if_neg (by decide), if_neg (fun q => q rfl), bytesOf_some hn]
    unfold Dm.read
    rw [ask_t h.pw, hn]
    dsimp only
    rw [if_neg]
    · rw [show (0 : Int).toNat = 0 from rfl, List.drop_zero, Int.toNat_natCast, List.take_length]
    · rintro (q | q | q | q)
      · omega
      · omega
      · omega
      · rw [Int.sub_zero, wrap64_small (by omega) (by omega)] at q; omega
theorem CalmT.units (h : CalmT TB N d) (hT : TB.length ≤ 1000000) (hN : N ≤ 1000000) : ∀ i, i < d.fs.length → (d.file i).units ≤ 9223372036854775806 := fun i _ => (h.td.file_at i).units hT hN
theorem bytes_pre (h : TD TB N d) : d.bytesOf tlN <+: TB := by
  cases hn : lk d.names tlN with
  | none => rw [bytesOf_none hn]; exact List.nil_prefix
  | some i => rw [bytesOf_some hn]; exact (h.file_at i).nowP
theorem FsI.claimed {T : List (List UInt8)} {s : Fs} (h : FsI T N s d) (x : Nm) : FsI T N s (d.claim x) := ⟨⟨h.td.sp, h.td.st, h.td.fsl, h.td.files, h.td.used, h.td.acts, h.td.ep⟩, h.le, h.named, h.not_, h.safe, h.nm⟩
theorem live_ec {T T' : TT} {d' : Dm} (h : T.live d tlN = 0) (he : EC d d') (hp : d'.power = true) (h1 : T'.ep = T.ep) (h2 : T'.cl = T.cl) : T'.live d' tlN = 0 := by
  have hc : d'.claimOf tlN = d.claimOf tlN := by unfold Dm.claimOf; rw [he.2]
  unfold TT.live at h ⊢
  rw [if_neg (by rw [hp]; decide), h1, h2, he.1, hc]
  by_cases hd : d.power = false
  · rw [if_pos hd] at h; cases h
  · rw [if_neg hd] at h; exact h
end
/-- A disk and its tiles, ready to go on. -/
structure XI (w : World) (L : Lay) (τ : Nat → Nat) (gt gd : Nat) (d : Dm) (T : TT) (Y : TY) (wd : Int) (ls : List Dg) (N : Nat) : Prop where
  bt : BT w L τ gt gd d T Y
  fi : FsI T.tls N T.fs d
  pw : d.power = true
  lv : T.live d tlN = 0
  tl : T.L = ls
  tw : T.wd = wd
  cn : d.claims.length ≤ N
  co : 0 ≤ d.claimOf tlN ∧ d.claimOf tlN ≤ N
section
variable {w : World} {L : Lay} {τ : Nat → Nat} {gt gd : Nat} {d : Dm} {T : TT} {Y : TY} {wd : Int} {ls : List Dg} {N : Nat}
theorem XI.below {w' : World} (h : XI w L τ gt gd d T Y wd ls N) (hb : Below w.heap.size w w') : XI w' L τ gt gd d T Y wd ls N := ⟨h.bt.below hb, h.fi, h.pw, h.lv, h.tl, h.tw, h.cn, h.co⟩
theorem XI.mono {M : Nat} (h : XI w L τ gt gd d T Y wd ls N) (hn : N ≤ M) : XI w L τ gt gd d T Y wd ls M := ⟨h.bt, h.fi.mono hn, h.pw, h.lv, h.tl, h.tw, Nat.le_trans h.cn hn, by have := h.co; omega⟩
theorem XI.held (h : XI w L τ gt gd d T Y wd ls N) : T.held ≤ T.L.length / 256 := by have := h.fi.le; rwa [tls_len] at this
/-- Flush. -/
theorem XI.flush (h : XI w L τ gt gd d T Y wd ls N) (hN : N ≤ 80000) (hl : ls.length ≤ 20000) (ht : HalfTab w) (hl2 : L.ρ 2 = 0) :
    Calls Tryz.prog 12 #[.pointer (some ⟨gt, 0, none⟩)] w fun e w' => ∃ v L', e = .returned v ∧ TV v w' (flushP T.tls T.fs d).2.2 ∧ BT w' L' τ gt gd (flushP T.tls T.fs d).2.1 (T.put (flushP T.tls T.fs d).1) Y ∧ UB L τ L' τ w w' := by
  refine (flush_any w L τ gt gd d T Y h.bt h.held ht hl2 (p2_of h.fi (by rw [h.tl]; exact hl) hN h.pw)).mono ?_
  rintro e w' ⟨v, rfl, h1, L', h2, h3⟩
  rw [flush_eq d T h.held h.lv] at h1 h2
  exact ⟨v, L', rfl, h1, h2, h3⟩
theorem XI.flat (h : XI w L τ gt gd d T Y wd ls N) (hl : ls.length ≤ 20000) : T.tls.flatten.length ≤ 1000000 := by rw [tls_flat, h.tl]; omega
/-- Behind a Flush. -/
theorem XI.flushed {w' : World} {L' : Lay} (h : XI w L τ gt gd d T Y wd ls N) (hl : ls.length ≤ 20000) (hb : BT w' L' τ gt gd (flushP T.tls T.fs d).2.1 (T.put (flushP T.tls T.fs d).1) Y) (hp : (flushP T.tls T.fs d).2.1.power = true) :
    XI w' L' τ gt gd (flushP T.tls T.fs d).2.1 (T.put (flushP T.tls T.fs d).1) Y wd ls (N + 5) := by
  have he := flushP_ec T.tls T.fs d
  have hc : (flushP T.tls T.fs d).2.1.claimOf tlN = d.claimOf tlN := by unfold Dm.claimOf; rw [he.2]
  exact ⟨hb, (h.fi.at_flush (tls_each T) (h.flat hl) h.pw).1, hp, live_ec h.lv he hp rfl rfl, h.tl, h.tw, by rw [he.2]; have := h.cn; omega, by rw [hc]; have := h.co; omega⟩
/-- Add. -/
theorem XI.add (h : XI w L τ gt gd d T Y wd ls N) (hl : ls.length < 20000) (x : Dg) (ht : RoundTab w) :
    Calls Tryz.prog 14 #[.pointer (some ⟨gt, 0, none⟩), .agg (dgA x.1)] w fun e w' => e = .returned .nilIface ∧ ∃ τ' T' Y', XI w' L τ' gt gd d T' Y' wd (ls ++ [x]) N ∧ UB L τ L τ' w w' := by
  refine (add_any w L τ gt gd d T Y h.bt (by rw [h.tl]; omega) x ht).mono ?_
  rintro e w' ⟨v, rfl, hv⟩
  obtain ⟨-, rfl, τ', Y', h1, h2⟩ := hv.resolve_right (fun q => q.1 h.lv)
  refine ⟨rfl, τ', { T with L := T.L ++ [x] }, Y', ⟨h1, ?_, h.pw, h.lv, by show T.L ++ [x] = _; rw [h.tl], h.tw, h.cn, h.co⟩, h2⟩
  refine FsI.more (T := T.tls) (show FsI T.tls N T.fs d from h.fi) ?_
  unfold TT.tls
  have hk : (T.L ++ [x]).length / 256 = T.L.length / 256 + ((T.L ++ [x]).length / 256 - T.L.length / 256) := by rw [List.length_append]; simp only [List.length_singleton]; omega
  show _ <+: (List.range ((T.L ++ [x]).length / 256)).map fun j => tileP T.wd.toNat j (chunk (T.L ++ [x]) j)
  rw [hk, List.range_add, List.map_append]
  refine List.IsPrefix.trans ?_ (List.prefix_append _ _)
  have : (List.range (T.L.length / 256)).map (fun j => tileP T.wd.toNat j (chunk T.L j)) = (List.range (T.L.length / 256)).map (fun j => tileP T.wd.toNat j (chunk (T.L ++ [x]) j)) := List.map_congr_left fun j hj => by rw [chunk_old (List.mem_range.1 hj)]
  rw [this]
  exact List.prefix_refl _
/-- Tiles opened on a disk on which all is safe, over a whole row. -/
theorem over_x (h : DAt w L gd d) (hc : CalmT (tqF wd ls) N d) (hN : N ≤ 80000) (hcn : d.claims.length ≤ N) (hco : 0 ≤ d.claimOf tlN ∧ d.claimOf tlN ≤ N) (hwd : 1 ≤ wd ∧ wd ≤ 32) (hl : ls.length ≤ 20000) {a : Option Addr} {n c : Nat} (hds : DS w a n c ls) (hh : HalfTab w) (ht : RoundTab w) (h4 : 4 ≤ w.heap.size) (hl3 : L.ρ 3 = 0)
    (hla : ∀ b off, a = some ⟨b, off, none⟩ → 0 < n → L.ρ b = 0) :
    Calls Tryz.prog 11 #[.pointer (some ⟨gd, 0, none⟩), .int .i64 wd, .slice a n c, .int .i64 (n : Int)] w fun e w' => ∃ gt τ T Y, e = .returned (.pointer (some ⟨gt, 0, none⟩)) ∧ XI w' L τ gt gd (d.claim tlN) T Y wd ls (N + 1) ∧ Upd L.ρ L.ρ w w' ∧ ∀ k, τ k ≠ 0 → w.heap.size ≤ k := by
  have hT : (tqF wd ls).length ≤ 1000000 := by rw [tqF_len]; omega
  have hln : ls.length = n := hds.1
  have hw := hc.whole hT
  obtain ⟨q1, q2, q3⟩ := pre_tiles (bytes_pre hc.td)
  have hbl := (bytes_pre hc.td).length_le
  have hlen : -9223372036854775808 ≤ (d.length tlN).1 ∧ (d.length tlN).1 ≤ 9223372036854775807 := by
    rw [length_t hc.pw]
    cases hn : lk d.names tlN with
    | none => exact ⟨by dsimp only; decide, by dsimp only; decide⟩
    | some i =>
      have := (hc.td.file_at i).nowP.length_le
      exact ⟨by dsimp only; omega, by dsimp only; omega⟩
  have htk : ls.take n = ls := List.take_of_length_le (by omega)
  refine (over_any w L gd d h (hc.td.pre hT (by omega)) hc.pw (hc.units hT (by omega)) (by omega) ⟨by omega, by omega⟩ wd hwd ls a n c n hds (by omega) (Nat.le_refl _) ((d.bytesOf tlN).length / 8207) (by omega) ((d.bytesOf tlN).drop (8207 * ((d.bytesOf tlN).length / 8207)))
    (by rw [hw, htk]; exact q2) (by rw [hw]) hlen.1 hlen.2 (by rw [hw]; show (d.bytesOf tlN).length ≤ _; omega) (fun _ r => by omega) hh ht h4 hl3 hla).mono ?_
  rintro e w' ⟨gt, τ, Y, rfl, hbt, hu, hnw⟩
  rw [hc.loose] at hbt
  refine ⟨gt, τ, _, Y, rfl, ⟨hbt, ?_, hc.pw, live_fresh d hc.pw wd _ false false ls, rfl, rfl, ?_, ?_⟩, hu, hnw⟩
  · have := FsI.opened (T := TT.tls ⟨d.epoch, d.claimOf tlN + 1, wd, (d.bytesOf tlN).length / 8207, false, false, ls⟩) (N := N) (d := d) (by rw [tls_tqF]; exact hc.td) (tls_each _) hc.ch hc.sf (fun i hi => (hc.lo i hi).2)
    exact (this.mono (Nat.le_succ N)).claimed tlN
  · show (_ :: d.claims).length ≤ _
    rw [List.length_cons]; omega
  · rw [claimOf_claim]; omega
end
end Go.Proofs.YtgkehahklccacaaGreatDoor
namespace Go.Proofs.YtgkehahklccacaaGreatDoor
open Go Go.RowKit
set_option maxRecDepth 100000
set_option maxHeartbeats 1000000
set_option linter.unusedVariables false
set_option linter.unusedSimpArgs false

open Go.Maps Go.WideMaps Go.ChangeMaps
theorem conv_nil (w : World) : (convert 53 9 (.slice none 0 0)).run Tryz.prog w = .ok (.string (bs [])) w := by kernel_rfl
theorem conv_row {w : World} {B n c : Nat} {a : Option Addr} {l : List UInt8} (h : w.ownsRow B 5 1 (.slice a n c) n (l.map b8)) : (convert 53 9 (.slice a n c)).run Tryz.prog w = .ok (.string (bs l)) w := by
  have hl : n = l.length := by have := h.1; simpa using this.symm
  rcases h.2 with ⟨h1, h2⟩ | ⟨g, cap, cur, h1, -, h2, -⟩
  · injection h1 with h3 h4 h5
    subst h3 h4 h5
    obtain rfl : l = [] := List.eq_nil_of_length_eq_zero hl.symm
    exact conv_nil _
  · injection h1 with h3 _ h5
    subst h3 h5
    have hc : ∀ j u, (l.map b8)[j]? = some u → w.cell? ((⟨g, 0, none⟩ : Addr).add j) = some u := h.cells (g := g) rfl
    have := Go.Lib.run_convert_whole (P := Tryz.prog) w 53 5 9 (by kernel_rfl) (by kernel_rfl) (by kernel_rfl) g 0 (bs l) (by
      intro i hi
      have hi2 : i < l.length := hi
      have h9 := hc i (b8 l[i]) (by simp [hi2])
      rw [Addr.add_lit, Nat.zero_add] at h9
      rw [Nat.zero_add]
      exact h9) c
    rw [show (bs l).size = n from hl.symm] at this
    exact this
/-- A name's bytes, and whether there are any. -/
theorem KAt.look_ok {w : World} {B b : Nat} {l : List (Nm × List UInt8)} (h : KAt w B b l) {s : Nm} (hs : s.length ≤ maxLen) :
    ∃ a c, (Instr.lookup 55 (.map (some b)) (.string (bs s)) true).run Tryz.prog w = .ok (.tuple #[.slice a ((lk l s).getD []).length c, .bool (lk l s).isSome]) w ∧ w.ownsRow B 5 1 (.slice a ((lk l s).getD []).length c) ((lk l s).getD []).length (((lk l s).getD []).map b8) := by
  obtain ⟨-, D, hm, -, h3⟩ := h
  obtain ⟨h2, c, h4, h5, h6⟩ := h3 s
  obtain ⟨v, ps, hrun, hv⟩ := hm.look_ok law9 Tryz.underlying55 (show (zeroValue 53).run Tryz.prog w = .ok (.slice Option.none 0 0) w from zero50 w) (zd := .nil) (zp := []) rfl (key9 (s := bs s) hs)
  have he : v = encS c := by
    obtain ⟨c', hc'⟩ := sliceR_inv hv
    rw [hc', sliceR_enc] at hv
    have h7 : D.atKey (.string s) .nil = scD c' := by
      have := congrArg (fun o => o.map (·.1)) hv
      simpa using this.symm
    rw [h4] at h7
    rw [hc', scD_inj h7]
  have hk : kL (bs s) = .string s := kL_bs s
  rw [hk, h2, he] at hrun
  cases hx : lk l s with
  | none =>
    rw [hx] at hrun
    rw [h5 hx] at hrun
    exact ⟨Option.none, 0, hrun, World.ownsRow_nil _ _ _ _⟩
  | some x =>
    rw [hx] at hrun
    have hown := h6 x hx
    obtain ⟨a, cc, hve, -⟩ := owns_shape hown
    refine ⟨a, cc, ?_, ?_⟩
    · show _ = Result.ok (Value.tuple #[.slice a x.length cc, .bool true]) w
      rw [← hve]; exact hrun
    · show w.ownsRow B 5 1 (.slice a x.length cc) x.length (x.map b8)
      rw [← hve]; exact hown
theorem clone47_nil (w : World) : Calls Tryz.prog 47 #[.slice none 0 0] w fun e w' => e = .returned (.slice none 0 0) ∧ w' = w := by
  have hq := run_eql_nil_slice (P := Tryz.prog) w 49 35 none 0 0 0 0 Tryz.underlying49
  go_enter Tryz.func47, Tryz.ntmps47
  go_wp2_with fail
  go_ret
  exact ⟨rfl, rfl⟩
theorem plan_nil (w : World) (L : Lay) (gd : Nat) (d : Dm) (h : DAt w L gd d) :
    Calls Tryz.prog 13 #[.pointer (some ⟨gd, 0, none⟩), .slice none 0 0] w fun e w' => e = .returned (.tuple #[]) ∧ ∃ L', DAt w' L' gd { d with plan := [] } ∧ Upd L.ρ L'.ρ w w' := by
  obtain ⟨ρ', h1, h2⟩ := h.planTo (l := []) (Below.refl _ w) (v := .slice none 0 0) (by decide) (World.ownsRow_nil _ _ _ _)
  have c9 := h.cells.2.2.2.2.2.2.2.2.2.1
  have f9 := h.cells.2.2.2.2.2.2.2.2.2.2.2 9
  have H1 := Lib.hid h1; have H2 := Lib.hid h2
  clear h h1 h2
  go_enter Tryz.func13, Tryz.ntmps13
  go_wp2_with (go_at_call 47; refine (clone47_nil w).mono ?_; rintro e wx ⟨rfl, hw⟩; have hw := hw.symm; subst hw)
  go_end0
  exact ⟨rfl, _, H1.out, H2.out⟩
end Go.Proofs.YtgkehahklccacaaGreatDoor
namespace Go.Proofs.YtgkehahklccacaaGreatDoor
open Go Go.RowKit
set_option maxRecDepth 100000
set_option maxHeartbeats 1000000
set_option linter.unusedVariables false
set_option linter.unusedSimpArgs false

open Go.Maps Go.WideMaps Go.ChangeMaps
/-- A disk and its tiles, all laid down. -/
structure TE (w : World) (L : Lay) (τ : Nat → Nat) (gt gd : Nat) (d : Dm) (T : TT) (Y : TY) (wd : Int) (ls : List Dg) : Prop where
  bt : BT w L τ gt gd d T Y
  pre : Pre d
  held : T.held = ls.length / 256
  tl : T.L = ls
  kp : (lk d.kept tlN).getD [] = tqF wd ls
  ks : 256 ≤ ls.length → (lk d.kept tlN).isSome = true
/-- Two of them share no block. -/
def Far (L0 : Lay) (τ0 : Nat → Nat) (L1 : Lay) (τ1 : Nat → Nat) : Prop := ∀ k, (L0.ρ k ≠ 0 ∨ τ0 k ≠ 0) → L1.ρ k = 0 ∧ τ1 k = 0
theorem BT.other {w w' : World} {L0 L1 L1' : Lay} {τ0 τ1 τ1' : Nat → Nat} {gt gd : Nat} {d : Dm} {T : TT} {Y : TY} (h : BT w L0 τ0 gt gd d T Y) (hu : UB L1 τ1 L1' τ1' w w') (hf : Far L0 τ0 L1 τ1) : BT w' L0 τ0 gt gd d T Y ∧ Far L0 τ0 L1' τ1' := by
  refine ⟨⟨h.d.stays hu.size (fun k hk => hu.block k (h.d.dom k hk) (hf k (.inl hk)).1 (hf k (.inl hk)).2), h.t.stays hu.size (fun k hk => hu.block k (h.t.dom k hk) (hf k (.inr hk)).1 (hf k (.inr hk)).2), h.far⟩, fun k hk => ?_⟩
  have hlt : k < w.heap.size := by
    rcases hk with e | e
    · exact h.d.dom k e
    · exact h.t.dom k e
  exact ⟨hu.extL.old k hlt (hf k hk).1, hu.extT.old k hlt (hf k hk).2⟩
theorem TE.other {w w' : World} {L0 L1 L1' : Lay} {τ0 τ1 τ1' : Nat → Nat} {gt gd : Nat} {d : Dm} {T : TT} {Y : TY} {wd : Int} {ls : List Dg} (h : TE w L0 τ0 gt gd d T Y wd ls) (hu : UB L1 τ1 L1' τ1' w w') (hf : Far L0 τ0 L1 τ1) : TE w' L0 τ0 gt gd d T Y wd ls ∧ Far L0 τ0 L1' τ1' :=
  ⟨⟨(h.bt.other hu hf).1, h.pre, h.held, h.tl, h.kp, h.ks⟩, (h.bt.other hu hf).2⟩
theorem TE.below {w w' : World} {L0 : Lay} {τ0 : Nat → Nat} {gt gd : Nat} {d : Dm} {T : TT} {Y : TY} {wd : Int} {ls : List Dg} (h : TE w L0 τ0 gt gd d T Y wd ls) (hb : Below w.heap.size w w') : TE w' L0 τ0 gt gd d T Y wd ls := ⟨h.bt.below hb, h.pre, h.held, h.tl, h.kp, h.ks⟩
/-- Below all of theirs. -/
def Lows (W : World) (L1 : Lay) (τ1 : Nat → Nat) : Prop := ∀ k, k < W.heap.size → L1.ρ k = 0 ∧ τ1 k = 0
theorem Lows.ub {W w w' : World} {L1 L1' : Lay} {τ1 τ1' : Nat → Nat} (h : Lows W L1 τ1) (hb : Below W.heap.size W w) (hu : UB L1 τ1 L1' τ1' w w') : Lows W L1' τ1' ∧ Below W.heap.size W w' :=
  ⟨fun k hk => ⟨hu.extL.old k (Nat.lt_of_lt_of_le hk hb.size) (h k hk).1, hu.extT.old k (Nat.lt_of_lt_of_le hk hb.size) (h k hk).2⟩,
    ⟨hu.os.trans hb.os, hu.tape.trans hb.tape, hu.output.trans hb.output, Nat.le_trans hb.size hu.size, fun k hk => (hu.block k (Nat.lt_of_lt_of_le hk hb.size) (h k hk).1 (h k hk).2).trans (hb.block k hk)⟩⟩
theorem XI.planned {w w' : World} {L L' : Lay} {τ : Nat → Nat} {gt gd : Nat} {d : Dm} {T : TT} {Y : TY} {wd : Int} {ls : List Dg} {N : Nat} {l : List Flt} (h : XI w L τ gt gd d T Y wd ls N) (hd : DAt w' L' gd { d with plan := l }) (hu : Upd L.ρ L'.ρ w w') : XI w' L' τ gt gd { d with plan := l } T Y wd ls N :=
  ⟨h.bt.disk hd hu, ⟨⟨h.fi.td.sp, h.fi.td.st, h.fi.td.fsl, h.fi.td.files, h.fi.td.used, h.fi.td.acts, h.fi.td.ep⟩, h.fi.le, h.fi.named, h.fi.not_, h.fi.safe, h.fi.nm⟩, h.pw, h.lv, h.tl, h.tw, h.cn, h.co⟩
theorem XI.pre {w : World} {L : Lay} {τ : Nat → Nat} {gt gd : Nat} {d : Dm} {T : TT} {Y : TY} {wd : Int} {ls : List Dg} {N : Nat} (h : XI w L τ gt gd d T Y wd ls N) (hl : ls.length ≤ 20000) (hN : N ≤ 1000000) : Pre d := h.fi.td.pre (h.flat hl) hN
noncomputable def tb0 : Code := Tryz.f3.body.getD .skip
/-- True, and what was there stands. -/
def LawRet (W : World) (e : Ending) (w' : World) : Prop := e = .returned (.bool true) ∧ Below W.heap.size W w'
set_option maxHeartbeats 8000000
theorem tb_end (W w : World) (L0 L1 : Lay) (τ0 τ1 : Nat → Nat) (gt0 gd gt gx : Nat) (d0 d : Dm) (T0 T : TT) (Y0 Y : TY) (wd : Int) (ls : List Dg) (N n : Nat) (hte : TE w L0 τ0 gt0 gd d0 T0 Y0 wd ls) (hxi : XI w L1 τ1 gt gx d T Y wd ls N) (hf : Far L0 τ0 L1 τ1) (hb : Below W.heap.size W w) (hlo : Lows W L1 τ1)
    (hn : ls.length = n) (hn2 : n ≤ 2000) (hN : N ≤ 70000) (ht : HalfTab W) (h4 : 4 ≤ W.heap.size) (u0 u2 u3 u4 u5 u6 u7 u8 u9 u10 u11 u12 u13 u14 u15 u16 u18 u20 u23 u24 u25 u26 u27 u28 u29 u30 u31 u32 u33 u34 u35 u36 u37 u38 u39 u40 u41 u42 u43 u44 u45 u46 u47 u48 u49 u50 u51 u52 u53 u54 u55 u56 u57 u58 u59 u60 u61 u62 u63 u64 u65 u66 u67 u68 u69 u70 u71 u72 u73 u74 u75 u76 u77 u78 u79 u80 u81 u82 u83 u84 u85 u86 u87 u88 u89 u90 u91 u92 u93 u94 u95 u96 u97 u98 u99 u100 u101 u102 u103 u104 u105 u106 u107 u108 u109 u110 u111 u112 u113 u114 u115 u116 u117 u118 u119 u120 u121 u122 u123 u124 u125 u126 u127 u128 u129 u130 u131 u132 u133 u134 u135 u136 u137 u138 u139 u140 u141 u142 u143 u144 u145 u146 u147 u148 u149 u150 u151 u152 u153 u154 u155 u156 u157 u158 u159 u160 u161 u162 u163 u164 u165 u166 u167 u168 u169 u170 u171 u172 u173 u174 u175 u176 u177 u178 u179 u180 u181 u182 u183 u184 u185 u186 u187 u188 u189 u190 u191 u192 u193 u194 u195 : Value) :
    Code.wp Tryz.prog (dropSeq 14 tb0) (bodyPost Tryz.prog Tryz.f3 (LawRet W)) ⟨#[u0, .int .i64 (n : Int), u2, u3, u4, u5, u6, u7, u8, u9, u10, u11, u12, u13, u14, u15, u16, .pointer (some ⟨gd, 0, none⟩), u18, .pointer (some ⟨gx, 0, none⟩), u20, .pointer (some ⟨gt0, 0, none⟩), .pointer (some ⟨gt, 0, none⟩), u23, u24, u25, u26, u27, u28, u29, u30, u31, u32, u33, u34, u35, u36, u37, u38, u39, u40, u41, u42, u43, u44, u45, u46, u47, u48, u49, u50, u51, u52, u53, u54, u55, u56, u57, u58, u59, u60, u61, u62, u63, u64, u65, u66, u67, u68, u69, u70, u71, u72, u73, u74, u75, u76, u77, u78, u79, u80, u81, u82, u83, u84, u85, u86, u87, u88, u89, u90, u91, u92, u93, u94, u95, u96, u97, u98, u99, u100, u101, u102, u103, u104, u105, u106, u107, u108, u109, u110, u111, u112, u113, u114, u115, u116, u117, u118, u119, u120, u121, u122, u123, u124, u125, u126, u127, u128, u129, u130, u131, u132, u133, u134, u135, u136, u137, u138, u139, u140, u141, u142, u143, u144, u145, u146, u147, u148, u149, u150, u151, u152, u153, u154, u155, u156, u157, u158, u159, u160, u161, u162, u163, u164, u165, u166, u167, u168, u169, u170, u171, u172, u173, u174, u175, u176, u177, u178, u179, u180, u181, u182, u183, u184, u185, u186, u187, u188, u189, u190, u191, u192, u193, u194, u195], []⟩ w := by
  have HX := Lib.hid (And.intro hn (And.intro hn2 (And.intro hN (And.intro ht h4))))
  have HPL := Lib.hid (plan_nil w L1 gx d hxi.bt.d)
  have HTE := Lib.hid hte; have HXI := Lib.hid hxi; have HF := Lib.hid hf; have HB := Lib.hid hb; have HLO := Lib.hid hlo
  clear hte hxi hf hb hlo hn hn2 hN ht h4
  refine wp_two_k (c := dropSeq 14 tb0) ⟨_, _, rfl⟩ fun K hK => ?_
  have HK := Lib.hid hK
  clear hK
  conv => arg 2; whnf
  go_wp2_with (go_at_call 13; refine HPL.out.mono ?_; rintro e w1 ⟨rfl, L2, hd2, hu2⟩; have HXI1 := Lib.hid (HXI.out.planned hd2 hu2); have hub := UB.of_disk (τ := τ1) hu2; obtain ⟨q1, q2⟩ := HTE.out.other hub HF.out; obtain ⟨q3, q4⟩ := HLO.out.ub HB.out hub; have HTE1 := Lib.hid q1; have HF1 := Lib.hid q2; have HLO1 := Lib.hid q3; have HB1 := Lib.hid q4; clear hd2 hu2 hub q1 q2 q3 q4)
  refine HK.out _ _ ?_
  clear HK K
  rw [dropSeq_succ]
  clear HXI HTE HF HLO HB HPL
  refine wp_two_k (c := dropSeq 15 tb0) ⟨_, _, rfl⟩ fun K hK => ?_
  have HK := Lib.hid hK
  clear hK
  conv => arg 2; whnf
  go_wp2_with fail
  refine HK.out _ _ ?_
  clear HK K
  rw [dropSeq_succ]
  have hl2 : ls.length ≤ 20000 := by have := HX.out; omega
  have HEN := Lib.hid (HXI1.out.fi.ended (tls_each T) (HXI1.out.flat hl2) HXI1.out.pw rfl)
  have HFL := Lib.hid (HXI1.out.flush (by have := HX.out; omega) hl2 (HX.out.2.2.2.1.below HB1.out (by have := HX.out; omega)) (HLO1.out 2 (by have := HX.out; omega)).1)
  obtain ⟨r, hr⟩ : ∃ r, r = flushP T.tls T.fs { d with plan := [] } := ⟨_, rfl⟩
  have hxf : ∀ (w' : World) (L' : Lay), BT w' L' τ1 gt gx r.2.1 (T.put r.1) Y → XI w' L' τ1 gt gx r.2.1 (T.put r.1) Y wd ls (N + 5) := fun w' L' hb => by
    subst hr
    exact HXI1.out.flushed hl2 hb HEN.out.2.2.2.1
  have HXF := Lib.hid hxf
  have hen := HEN.out
  rw [← hr] at HFL hen
  have hr2 : flushP (T.put r.1).tls (T.put r.1).fs r.2.1 = (r.1, r.2.1, 0) := hen.2.2.1
  have HR2 := Lib.hid hr2
  have HEN := Lib.hid (And.intro hen.1 (And.intro hen.2.1 (And.intro hen.2.2.2.1 (And.intro hen.2.2.2.2.1 hen.2.2.2.2.2))))
  have HL2 := Lib.hid hl2
  clear hxf hen hr2 hr hl2
  refine wp_two_k (c := dropSeq 16 tb0) ⟨_, _, rfl⟩ fun K hK => ?_
  have HK := Lib.hid hK
  clear hK
  conv => arg 2; whnf
  go_wp2_with (go_at_call 12; refine HFL.out.mono ?_; rintro e w2 ⟨v, L3, rfl, hv, hbt, hub⟩; rw [HEN.out.1] at hv; obtain rfl : v = .nilIface := (hv.resolve_right fun q => q.1 rfl).2; have HXI2 := Lib.hid (HXF.out _ _ hbt); obtain ⟨q1, q2⟩ := HTE1.out.other hub HF1.out; obtain ⟨q3, q4⟩ := HLO1.out.ub HB1.out hub; have HTE2 := Lib.hid q1; have HF2 := Lib.hid q2; have HLO2 := Lib.hid q3; have HB2 := Lib.hid q4; clear hv hbt hub q1 q2 q3 q4)
  refine HK.out _ _ ?_
  clear HK K
  rw [dropSeq_succ]
  obtain ⟨ac, hac⟩ : ∃ ac : Nat, ac = r.2.1.acts := ⟨_, rfl⟩
  have HA2 := Lib.hid (acts_any w2 L3 gx r.2.1 HXI2.out.bt.d)
  rw [← hac] at HA2
  have HAC := Lib.hid hac
  clear hac
  refine wp_two_k (c := dropSeq 17 tb0) ⟨_, _, rfl⟩ fun K hK => ?_
  have HK := Lib.hid hK
  clear hK
  conv => arg 2; whnf
  go_wp2_with (go_at_call 17; refine HA2.out.mono ?_; rintro e wx ⟨rfl, hw⟩; have hw := hw.symm; subst hw)
  refine HK.out _ _ ?_
  clear HK K
  rw [dropSeq_succ]
  have HFL2 := Lib.hid (HXI2.out.flush (by have := HX.out; omega) HL2.out (HX.out.2.2.2.1.below HB2.out (by have := HX.out; omega)) (HLO2.out 2 (by have := HX.out; omega)).1)
  rw [HR2.out] at HFL2
  refine wp_two_k (c := dropSeq 18 tb0) ⟨_, _, rfl⟩ fun K hK => ?_
  have HK := Lib.hid hK
  clear hK
  conv => arg 2; whnf
  go_wp2_with (first | (go_at_call 12; refine HFL2.out.mono ?_; rintro e w3 ⟨v, L4, rfl, hv, hbt, hub⟩; obtain rfl : v = .nilIface := (hv.resolve_right fun q => q.1 rfl).2; have HBT3 := Lib.hid hbt; have HA3 := Lib.hid (show Calls Tryz.prog 17 #[.pointer (some ⟨gx, 0, none⟩)] w3 (fun e w4 => e = .returned (.int .i64 (ac : Int)) ∧ w4 = w3) from HAC.out ▸ acts_any w3 L4 gx r.2.1 hbt.d); obtain ⟨q1, q2⟩ := HTE2.out.other hub HF2.out; obtain ⟨q3, q4⟩ := HLO2.out.ub HB2.out hub; have HTE3 := Lib.hid q1; have HF3 := Lib.hid q2; have HLO3 := Lib.hid q3; have HB3 := Lib.hid q4; clear hv hbt hub q1 q2 q3 q4) | (go_at_call 17; refine HA3.out.mono ?_; rintro e wx ⟨rfl, hw⟩; have hw := hw.symm; subst hw))
  refine HK.out _ _ ?_
  clear HK K
  rw [dropSeq_succ]
  clear HFL HFL2 HA2 HA3 HTE1 HTE2 HF1 HF2 HLO1 HLO2 HB1 HB2
  obtain ⟨pl, hpl⟩ : ∃ pl, pl = (tqF wd ls).length := ⟨_, rfl⟩
  obtain ⟨b1, hb1⟩ : ∃ b1, b1 = (lk d0.kept tlN).isSome := ⟨_, rfl⟩
  obtain ⟨b2, hb2⟩ : ∃ b2, b2 = (lk r.2.1.kept tlN).isSome := ⟨_, rfl⟩
  have hkx : (lk r.2.1.kept tlN).getD [] = tqF wd ls := by rw [HEN.out.2.2.2.1, tls_tqF, HXI1.out.tw, HXI1.out.tl]
  have HKX := Lib.hid hkx
  have HPL := Lib.hid hpl; have HB1 := Lib.hid hb1; have HB2 := Lib.hid hb2
  have HK1 := Lib.hid (kept_any w3 L0 gd d0 HTE3.out.bt.d HTE3.out.pre)
  clear hkx hpl hb1 hb2
  refine wp_two_k (c := dropSeq 19 tb0) ⟨_, _, rfl⟩ fun K hK => ?_
  have HK := Lib.hid hK
  clear hK
  conv => arg 2; whnf
  go_wp2_with (go_at_call 18; refine HK1.out.mono ?_; rintro e w4 ⟨hb4, m4, rfl, hk4⟩; obtain ⟨a1, c1, hrun1, ho1⟩ := hk4.look_ok (s := tlN) (by decide); rw [HTE3.out.kp, ← HPL.out, ← HB1.out] at hrun1; rw [HTE3.out.kp, ← HPL.out] at ho1; have hrun1 : (Instr.lookup 55 (.map (some m4)) (.string ⟨#[116, 105, 108, 101, 115]⟩) true).run Tryz.prog w4 = .ok (.tuple #[.slice a1 pl c1, .bool b1]) w4 := hrun1; have HB4 := Lib.hid hb4; have HO1 := Lib.hid ho1; clear hb4 hk4 ho1)
  refine HK.out _ _ ?_
  clear HK K
  rw [dropSeq_succ]
  clear hrun1
  have HK2 := Lib.hid (kept_any w4 L4 gx r.2.1 (HBT3.out.below HB4.out).d (HXI2.out.pre HL2.out (by have := HX.out; omega)))
  refine wp_two_k (c := dropSeq 20 tb0) ⟨_, _, rfl⟩ fun K hK => ?_
  have HK := Lib.hid hK
  clear hK
  conv => arg 2; whnf
  go_wp2_with (go_at_call 18; refine HK2.out.mono ?_; rintro e w5 ⟨hb5, m5, rfl, hk5⟩; obtain ⟨a2, c2, hrun2, ho2⟩ := hk5.look_ok (s := tlN) (by decide); rw [HKX.out, ← HPL.out, ← HB2.out] at hrun2; rw [HKX.out, ← HPL.out] at ho2; have hrun2 : (Instr.lookup 55 (.map (some m5)) (.string ⟨#[116, 105, 108, 101, 115]⟩) true).run Tryz.prog w5 = .ok (.tuple #[.slice a2 pl c2, .bool b2]) w5 := hrun2; have HB5 := Lib.hid hb5; have HO2 := Lib.hid ho2; clear hb5 hk5 ho2)
  refine HK.out _ _ ?_
  clear HK K
  rw [dropSeq_succ]
  clear hrun2
  have hn2 := HX.out.2.1
  have HBB := Lib.hid (HB3.out.trans ((HB4.out.trans (HB5.out.mono HB4.out.size)).mono HB3.out.size))
  have hcase : (decide (256 ≤ (n : Int)) = false) ∨ (decide (256 ≤ (n : Int)) = true ∧ b1 = true ∧ b2 = true) := by
    by_cases h : 256 ≤ n
    · have h2 : 256 ≤ ls.length := by rw [HX.out.1]; exact h
      refine .inr ⟨by simp; omega, by rw [HB1.out]; exact HTE3.out.ks h2, by rw [HB2.out]; refine HEN.out.2.2.2.2 (fun e => ?_); have := tls_len T; rw [e, HXI1.out.tl] at this; simp at this; omega⟩
    · exact .inl (by simp; omega)
  obtain ⟨F, hF⟩ : ∃ F, F = n / 256 := ⟨_, rfl⟩
  have hq1 : (n : Int) / 256 = (F : Int) := by omega
  have hq2 : (n : Int) / 65536 = 0 := by omega
  have hF7 : F ≤ 7 := by omega
  have hq3 : 8207 * (F : Int) = (pl : Int) := by have := HPL.out; rw [tqF_len, HX.out.1, ← hF] at this; omega
  have hh0 : T0.held = F := by rw [HTE3.out.held, HX.out.1, hF]
  have hh1 : r.1.held = F := by rw [HEN.out.2.1, tls_len, HXI1.out.tl, HX.out.1, hF]
  have hT0 : T0.held ≤ T0.L.length / 256 := by rw [HTE3.out.held, HTE3.out.tl]; exact Nat.le_refl _
  have hT1 : r.1.held ≤ T.L.length / 256 := by rw [HEN.out.2.1, tls_len]; exact Nat.le_refl _
  have HFD := Lib.hid (flushed_any w5 τ0 gt0 gd T0 Y0 ((HTE3.out.below HB4.out).below HB5.out).bt.t hT0)
  rw [hh0] at HFD
  have HFU := Lib.hid (fun (w6 : World) (hb6 : Below w5.heap.size w5 w6) => flushed_any w6 τ1 gt gx ((T.put r.1).put r.1) Y (((HBT3.out.below HB4.out).below HB5.out).below hb6).t hT1)
  have HFU := Lib.hid (fun (w6 : World) (hb6 : Below w5.heap.size w5 w6) => show Calls Tryz.prog 19 #[.pointer (some ⟨gt, 0, none⟩)] w6 (fun e w' => e = .returned (.int .i64 ((256 * F : Nat) : Int)) ∧ Below w6.heap.size w6 w') from hh1 ▸ HFU.out w6 hb6)
  have hcv1 := conv_row (own_below HO1.out HB5.out)
  have hcv2 := conv_row HO2.out
  obtain ⟨fl, hfl⟩ : ∃ fl : Int, fl = ((256 * F : Nat) : Int) := ⟨_, rfl⟩
  rw [← hfl] at HFD HFU
  clear hF hh0 hh1 hT0 hT1 hfl
  generalize bs (tqF wd ls) = sB at hcv1 hcv2
  rcases hcase with hc | ⟨hc, hb1, hb2⟩
  · clear HB1 HB2
    refine wp_two_k (c := dropSeq 21 tb0) ⟨_, _, rfl⟩ fun K hK => ?_
    have HK := Lib.hid hK
    clear hK
    conv => arg 2; whnf
    go_wp2_with fail
    refine HK.out _ _ ?_
    clear HK K
    rw [dropSeq_succ]
    clear hc
    refine wp_two_k (c := dropSeq 22 tb0) ⟨_, _, rfl⟩ fun K hK => ?_
    have HK := Lib.hid hK
    clear hK
    conv => arg 2; whnf
    go_wp2_with fail
    refine HK.out _ _ ?_
    clear HK K
    rw [dropSeq_succ]
    clear hq1 hq2
    conv => arg 2; whnf
    go_wp2_with (first | (go_at_call 19; (with_reducible refine HFD.out.mono ?_); rintro e w6 ⟨rfl, hb6⟩; have HB6 := Lib.hid hb6; clear hb6) | (go_at_call 19; (with_reducible refine (HFU.out _ HB6.out).mono ?_); rintro e w7 ⟨rfl, hb7⟩; have HB7 := Lib.hid hb7; clear hb7))
    go_ret
    exact ⟨rfl, HBB.out.trans ((HB6.out.trans (HB7.out.mono HB6.out.size)).mono HBB.out.size)⟩
  · subst hb1 hb2
    clear HB1 HB2
    refine wp_two_k (c := dropSeq 21 tb0) ⟨_, _, rfl⟩ fun K hK => ?_
    have HK := Lib.hid hK
    clear hK
    conv => arg 2; whnf
    go_wp2_with fail
    refine HK.out _ _ ?_
    clear HK K
    rw [dropSeq_succ]
    clear hc
    refine wp_two_k (c := dropSeq 22 tb0) ⟨_, _, rfl⟩ fun K hK => ?_
    have HK := Lib.hid hK
    clear hK
    conv => arg 2; whnf
    go_wp2_with fail
    refine HK.out _ _ ?_
    clear HK K
    rw [dropSeq_succ]
    clear hq1 hq2
    conv => arg 2; whnf
    go_wp2_with (first | (go_at_call 19; (with_reducible refine HFD.out.mono ?_); rintro e w6 ⟨rfl, hb6⟩; have HB6 := Lib.hid hb6; clear hb6) | (go_at_call 19; (with_reducible refine (HFU.out _ HB6.out).mono ?_); rintro e w7 ⟨rfl, hb7⟩; have HB7 := Lib.hid hb7; clear hb7))
    go_ret
    exact ⟨rfl, HBB.out.trans ((HB6.out.trans (HB7.out.mono HB6.out.size)).mono HBB.out.size)⟩
end Go.Proofs.YtgkehahklccacaaGreatDoor
