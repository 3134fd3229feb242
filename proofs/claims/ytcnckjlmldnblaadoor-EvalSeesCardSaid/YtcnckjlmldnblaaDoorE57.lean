import Derived.Test.YtcnckjlmldnblaaDoorE56
import Derived.BigGuardPart
namespace Go.Proofs.YtcnckjlmldnblaaDoor
open Go Go.RowKit
set_option linter.unusedVariables false
set_option linter.unusedSimpArgs false
/-- Two values that lie in no block of one another. -/
def Dis (u v : Value) : Prop := u.ownBlock = none ∨ u.ownBlock ≠ v.ownBlock
/-- Three rows of texts, and a row of marks, all apart. -/
structure R3 (W : World) (B n : Nat) (s : List Bool) (l1 l2 l3 : List ByteArray) (v1 v2 v3 : Value) : Prop where
  m : W.ownsRow B 4 1 (.slice (some ⟨B, 0, none⟩) n n) n (s.map Value.bool)
  a : W.ownsRow B 9 1 v1 l1.length (l1.flatMap Sv)
  b : W.ownsRow B 9 1 v2 l2.length (l2.flatMap Sv)
  c : W.ownsRow B 9 1 v3 l3.length (l3.flatMap Sv)
  d12 : Dis v1 v2
  d21 : Dis v2 v1
  d13 : Dis v1 v3
  d31 : Dis v3 v1
  d23 : Dis v2 v3
  d32 : Dis v3 v2
variable {W W' : World} {B n : Nat} {s : List Bool} {l1 l2 l3 : List ByteArray} {v1 v2 v3 : Value}
theorem R3.below (h : R3 W B n s l1 l2 l3 v1 v2 v3) (hb : Below W.heap.size W W') : R3 W' B n s l1 l2 l3 v1 v2 v3 :=
  ⟨own_below h.m hb, own_below h.a hb, own_below h.b hb, own_below h.c hb, h.d12, h.d21, h.d13, h.d31, h.d23, h.d32⟩
theorem R3.swap2 (h : R3 W B n s l1 l2 l3 v1 v2 v3) : R3 W B n s l2 l1 l3 v2 v1 v3 := ⟨h.m, h.b, h.a, h.c, h.d21, h.d12, h.d23, h.d32, h.d13, h.d31⟩
theorem R3.swap3 (h : R3 W B n s l1 l2 l3 v1 v2 v3) : R3 W B n s l3 l2 l1 v3 v2 v1 := ⟨h.m, h.c, h.b, h.a, h.d32, h.d23, h.d31, h.d13, h.d21, h.d12⟩
theorem R3.store (h : R3 W B n s l1 l2 l3 v1 v2 v3) (x : Nat) : R3 (W.setCell ⟨B, x, none⟩ (.bool true)) B n (s.set x true) l1 l2 l3 v1 v2 v3 := by
  have hm := (h.m.stored x (.bool true)).1
  rw [← List.map_set] at hm
  have ne : ∀ {l : List ByteArray} {v : Value}, W.ownsRow B 9 1 v l.length (l.flatMap Sv) → v.ownBlock ≠ some B := fun {l v} ho e => by
    rcases own_apart ho h.m (by decide) with k | k
    · rw [k] at e; cases e
    · exact k e
  exact ⟨hm, ownsRow_setCell_other h.a (ne h.a) _, ownsRow_setCell_other h.b (ne h.b) _, ownsRow_setCell_other h.c (ne h.c) _, h.d12, h.d21, h.d13, h.d31, h.d23, h.d32⟩
theorem R3.add (h : R3 W B n s l1 l2 l3 v1 v2 v3) {x : ByteArray} {o : Obj} {v1' : Value} (ho : W'.ownsRow B 9 1 v1' (l1.length + 1) (l1.flatMap Sv ++ Sv x)) (hg : (W.alloc o).grownBy W' v1.ownBlock) (hat : v1'.ownBlock = v1.ownBlock ∨ v1'.ownBlock = some (W.alloc o).heap.size) :
    R3 W' B n s (l1 ++ [x]) l2 l3 v1' v2 v3 := by
  have hb := bel1 W o
  have fresh : ∀ {l : List ByteArray} {v : Value}, W.ownsRow B 9 1 v l.length (l.flatMap Sv) → Dis v v1 → Dis v v1' ∧ Dis v1' v := fun {l v} ho' hd => by
    have hlt : ∀ g, v.ownBlock = some g → g < W.heap.size := fun g e => (ho'.lt g e).2
    unfold Dis at *
    rcases hat with e | e
    · rw [e]
      refine ⟨hd, ?_⟩
      rcases hd with k | k
      · cases hv : v1.ownBlock with
        | none => exact .inl rfl
        | some g => right; rw [k]; simp
      · exact .inr (Ne.symm k)
    · rw [e]
      refine ⟨?_, .inr ?_⟩
      · cases hv : v.ownBlock with
        | none => exact .inl rfl
        | some g => right; have := hlt g hv; simp; omega
      · intro k
        have := hlt _ k.symm
        simp at this
        omega
  obtain ⟨a1, a2⟩ := fresh h.b h.d21
  obtain ⟨b1, b2⟩ := fresh h.c h.d31
  refine ⟨own_grown (own_below h.m hb) (own_below h.a hb) (by decide) hg, ?_, (own_below h.b hb).kept hg h.d21, (own_below h.c hb).kept hg h.d31, a2, a1, b2, b1, h.d23, h.d32⟩
  rw [List.length_append, List.flatMap_append]
  simpa using ho
theorem markK_snoc (s : List Bool) (l : List Int) {k : Nat} {x : Int} (h : l[k]? = some x) : markK s (l.take (k + 1)) = (markK s (l.take k)).set x.toNat true := by
  unfold markK
  rw [List.take_add_one, h, List.foldl_append]
  rfl
theorem own_nil0 {w : World} {B e s n c : Nat} {a : Option Addr} {xs : List Value} (h : w.ownsRow B e s (.slice a n c) n xs) : a = none → c = 0 := fun ha => by
  subst ha
  rcases h.2 with ⟨hv, _⟩ | ⟨g, cap, cur, hv, _⟩
  · cases hv; rfl
  · cases hv
theorem own_rz {v : Value} {l : List ByteArray} (h : W.ownsRow B 9 1 v l.length (l.flatMap Sv)) (hl : l.length ≤ 1000000) : ∃ a c, v = .slice a l.length c ∧ RZ W a l.length c l := by
  obtain ⟨a, c, rfl, -⟩ := owns_shape h
  exact ⟨a, c, rfl, RS.of_owns h (by decide) Sv_len (by omega), own_nil0 h⟩
/-- What the law's names answers. -/
def NamesOut (e : Ending) (w' : World) (t : Nms) : Prop := ∃ a1 c1 a2 c2 a3 c3, e = .returned (.tuple #[.slice a1 t.1.length c1, .slice a2 t.2.1.length c2, .slice a3 t.2.2.length c3]) ∧ RZ w' a1 t.1.length c1 t.1 ∧ RZ w' a2 t.2.1.length c2 t.2.1 ∧ RZ w' a3 t.2.2.length c3 t.2.2
set_option maxRecDepth 100000 in
set_option maxHeartbeats 4000000 in
theorem names_any (w : World) (a : Option Addr) (n c : Nat) (ns : List Nd) (hr : RS 7 Nd.cs w a n c ns) (hok : ∀ nd ∈ ns, nd.ok w) (hn5 : n ≤ 5000) (q : Nat) (hq : q < n) (ht : treeR ns q = true) :
    Calls Tryd.prog 24 #[.slice a n c, .int .i64 q] w fun e w' => NamesOut e w' (namesR ns q) ∧ Below w.heap.size w w' := by
  have hlen := hr.1
  have HLN := Lib.hid hlen
  have hqI : (q : Int) < (n : Int) := by omega
  have hq0 : (0 : Int) ≤ (q : Int) := by omega
  have HR0 := Lib.hid hr
  have HOK := Lib.hid hok
  have HTR := Lib.hid (treeG_ext ns (q + 1) _ ((List.replicate ns.length false).set q true) (fun j hj => by
    simp only [List.getD_eq_getElem?_getD, List.getElem?_set, List.length_replicate, List.getElem?_replicate]
    by_cases e : q = j
    · rw [if_pos e, if_pos e, if_pos (by omega), if_pos (by omega)]
    · rw [if_neg e, if_neg e, if_pos (by omega), if_pos (by omega)]) (by simp) (by simp; omega) ht)
  clear hr hok ht hlen
  obtain ⟨B, hB⟩ : ∃ B, B = w.heap.size := ⟨_, rfl⟩
  have HBB := Lib.hid hB
  go_enter Tryd.func24, Tryd.ntmps24
  go_wp2_with (at_make; refine L_make rfl _ _ _ rfl sl93 w.heap.size .i64 .i64 _ n rfl rfl (by omega) (by omega) (by simp [maxLen]; omega) (Nat.le_refl _) (fun w1 ho1 hg1 => ?_)
               rw [madeB, ← hB] at ho1
               have hb1 : Below B w w1 := by have := (Below.refl w.heap.size w).grown hg1 (Nat.le_refl _) (by intro k hk; cases hk); rwa [← hB] at this
               rw [← hB]
               have hc := ho1.cellAt q (by simp; omega)
               have hfz := ho1.frozenAt q
               rw [List.getElem?_map, List.getElem?_replicate, if_pos (by omega)] at hc
               simp only [Option.map_some] at hc
               have ho5 := (ho1.stored q (.bool true)).1
               rw [← List.map_set] at ho5
               have HO1 := Lib.hid ho5
               have HB1 := Lib.hid (hb1.setCell (p := ⟨B, q, none⟩) (by show B ≤ B; omega) (.bool true))
               clear hg1 hB hb1 ho5 ho1)
  go_loopw [7, 8, 9, 11] (fun u7 u8 u9 i wr => ∃ k : Nat, k ≤ q + 1 ∧ DownI k i ∧ ∃ (s : List Bool) (t : Nms), R3 wr B n s t.1 t.2.1 t.2.2 u7 u8 u9 ∧ Below B w wr ∧ namesR ns q = namesG ns k s t ∧ treeG ns k s = true ∧ t.1.length + t.2.1.length + t.2.2.length + k ≤ q + 1) (fun _ _ _ i _ => (intOf i + 1).toNat)
  case atStart => exact ⟨q + 1, Nat.le_refl _, .inr ⟨q, rfl, rfl⟩, _, ([], [], []), ⟨by rw [HLN.out]; exact HO1.out, World.ownsRow_nil _ _ _ _, World.ownsRow_nil _ _ _ _, World.ownsRow_nil _ _ _ _, .inl rfl, .inl rfl, .inl rfl, .inl rfl, .inl rfl, .inl rfl⟩, HB1.out, rfl, HTR.out, by simp⟩
  case round =>
    obtain ⟨k, hk, hi, s, t, hr, hb, hnm, htg, hct⟩ := hrel
    have HR := Lib.hid hr
    have HB := Lib.hid hb
    have HNM0 := Lib.hid hnm
    have HTG0 := Lib.hid htg
    have HCT := Lib.hid hct
    have hsl : s.length = n := by have := hr.m.1; simpa using this
    have HSL := Lib.hid hsl
    clear hr hb hnm htg hct hsl
    rcases hi with ⟨rfl, rfl⟩ | ⟨j, rfl, rfl⟩
    · have HE := Lib.hid (show namesR ns q = t by rw [HNM0.out]; rfl)
      have hlen := HCT.out
      obtain ⟨a1, c1, rfl, z1⟩ := own_rz HR.out.a (by omega)
      obtain ⟨a2, c2, rfl, z2⟩ := own_rz HR.out.b (by omega)
      obtain ⟨a3, c3, rfl, z3⟩ := own_rz HR.out.c (by omega)
      have Z1 := Lib.hid z1
      have Z2 := Lib.hid z2
      have Z3 := Lib.hid z3
      clear z1 z2 z3
      go_wp2
      go_ret3
      exact ⟨by rw [HE.out]; exact ⟨a1, c1, a2, c2, a3, c3, rfl, Z1.out, Z2.out, Z3.out⟩, by have := HB.out; rwa [HBB.out] at this⟩
    · have hj0 : (0 : Int) ≤ (j : Int) := by omega
      have hjn : j < n := by omega
      have hjI : (j : Int) < (n : Int) := by omega
      have hc := HR.out.m.cellAt j (by simp; have := HSL.out; omega)
      obtain ⟨bv, hbv⟩ : ∃ bv, s[j]? = some bv := ⟨_, List.getElem?_eq_getElem (by have := HSL.out; omega)⟩
      rw [List.getElem?_map, hbv] at hc
      simp only [Option.map_some] at hc
      have hgd : s.getD j false = bv := by rw [List.getD_eq_getElem?_getD, hbv]; rfl
      have HGD := Lib.hid hgd
      clear hgd hbv
      cases bv
      · have HN := Lib.hid (show namesR ns q = namesG ns j s t by rw [HNM0.out]; simp only [namesG, HGD.out]; rfl)
        have HT := Lib.hid (show treeG ns j s = true by have h := HTG0.out; simp only [treeG, HGD.out] at h; exact h)
        go_wp2_with fail
        go_roundw
        case rel => exact ⟨j, by omega, DownI.pred j, s, t, HR.out, HB.out, HN.out, HT.out, by have := HCT.out; omega⟩
        case measure => simp [intOf]
      · obtain ⟨nb, no, nd, he, hnd, hcl0⟩ := HR0.out.at hjn
        have HHE := Lib.hid he
        have hcl := fun j' v hv => (HB.out.cell (p := ⟨nb, no + j * 7 + j', none⟩) (by have := block_lt_of_cell (hcl0 j' v hv); rw [HBB.out]; exact this)).trans (hcl0 j' v hv)
        subst he
        have n0 := hcl 0 _ rfl
        have n1 := hcl 1 _ rfl
        simp only [Nat.add_zero] at n0
        have HN6 := Lib.hid (hcl0 6 _ rfl)
        have hkr := (HOK.out nd (List.mem_of_getElem? hnd)).1
        have hkl48 := hkr.2.2.1
        have HKR := Lib.hid hkr
        obtain ⟨s', hkf⟩ : ∃ s', kidsF j s nd.ks = some s' ∧ treeG ns j s' = true := by
          have h := HTG0.out
          simp only [treeG, HGD.out, hnd, if_true] at h
          split at h
          · split at h
            · cases h
            · rename_i s' hs'; exact ⟨s', hs', h⟩
          · cases h
        have hsm := kidsF_mark j nd.ks s s' hkf.1
        have HKX := Lib.hid (fun x hx => by have := (kidsF_marks nd.ks s s' (by have := HSL.out; omega) hkf.1).2 x hx; exact ⟨this.1, this.2.1⟩ : ∀ x ∈ nd.ks, 0 ≤ x ∧ x < (j : Int))
        have HTG := Lib.hid (show treeG ns j (markK s nd.ks) = true by rw [← hsm]; exact hkf.2)
        have HNM := Lib.hid (show namesR ns q = namesG ns j (markK s nd.ks) (addN nd t) by rw [HNM0.out]; simp only [namesG, HGD.out, hnd, if_true])
        obtain ⟨ka, hka⟩ : ∃ ka, ka = nd.ka := ⟨_, rfl⟩
        have HKA := Lib.hid hka
        rw [← hka] at HN6
        clear hcl hcl0 hnd hkr hkf hsm hka
        cases o25 : (nd.op == 25)
        · cases o26 : (nd.op == 26)
          · have HOP := Lib.hid (show addN nd t = (t.1 ++ [nd.nm], t.2.1, t.2.2) by simp at o25 o26; simp [addN, o25, o26])
            have hlen := HCT.out
            obtain ⟨av, cv, hv, -⟩ := owns_shape (HR.out).a
            have HVV := Lib.hid hv
            clear hv
            go_wp2_with (at_builtin; (refine L_appendN rfl _ _ _ rfl sl45 B u7 t.1.length _ rfl (own_below (HR.out).a (bel1 _ (.cells #[.string nd.nm] 9))) _ 1 1 (Sv nd.nm) rfl rfl (new_str wr nd.nm) (by simp [Sv, Value.oneCell']) (by omega) (by simp [maxLen]; omega) (by have := HB.out.size; have := HBB.out; simp; omega) (fun a6 c6 w6 ho6 hg6 hat6 => ?_)
                                      have hr6 := (HR.out).add ho6 hg6 hat6
                                      have hb6 := (HB.out.alloc (by have := HB.out.size; have := HBB.out; omega) (.cells #[.string nd.nm] 9)).grown hg6 (by have := HB.out.size; have := HBB.out; simp; omega) (fun g hg => by have := ((HR.out).a.lt g hg).1; omega)
                                      have HR6 := Lib.hid (hr6)
                                      have HB6 := Lib.hid hb6
                                      clear ho6 hg6 hat6 hr6 hb6 n0 n1))
            go_loopw [12] (fun v wx => ∃ m : Nat, m ≤ nd.kl ∧ v = .int .i64 m ∧ R3 wx B n (markK s (nd.ks.take m)) (t.1 ++ [nd.nm]) t.2.1 t.2.2 (.slice a6 (t.1.length + 1) c6) u8 u9 ∧ Below B w wx) (fun v _ => nd.kl - (intOf v).toNat)
            case atStart => exact ⟨0, by omega, rfl, HR6.out, HB6.out⟩
            case round =>
              obtain ⟨m, hm, rfl, hr, hb⟩ := hrel
              have HRM := Lib.hid hr
              have HBM := Lib.hid hb
              have n6 := (hb.cell (p := ⟨nb, no + j * 7 + 6, none⟩) (by have := block_lt_of_cell HN6.out; rw [HBB.out]; exact this)).trans HN6.out
              clear hr hb
              by_cases hmt : m < nd.kl
              · obtain ⟨kb, ko, x, hke, hx, hxc⟩ := HKR.out.at hmt
                have hka := HKA.out
                rw [hke] at hka
                subst hka
                have xc0 := hxc 0 _ rfl
                have xc := (HBM.out.cell (p := ⟨kb, ko + m * 1 + 0, none⟩) (by have := block_lt_of_cell xc0; rw [HBB.out]; exact this)).trans xc0
                simp only [Nat.add_zero, Nat.mul_one] at xc
                have hmI : (m : Int) < (nd.kl : Int) := by omega
                obtain ⟨x0, x1⟩ := HKX.out x (List.mem_of_getElem? hx)
                have HMS := Lib.hid (markK_snoc s nd.ks hx)
                clear hx hxc xc0 hke
                obtain ⟨xn, rfl⟩ : ∃ xn : Nat, x = (xn : Int) := ⟨x.toNat, by omega⟩
                have hxn : xn < n := by omega
                have hxI : (xn : Int) < (n : Int) := by omega
                have hc := HRM.out.m.frozenAt xn
                obtain ⟨bv, hbv⟩ : ∃ bv, (markK s (nd.ks.take m))[xn]? = some bv := ⟨_, List.getElem?_eq_getElem (by have := HRM.out.m.1; simp at this; omega)⟩
                have hcv := HRM.out.m.cellAt xn (by have := HRM.out.m.1; simp at this ⊢; omega)
                rw [List.getElem?_map, hbv] at hcv
                simp only [Option.map_some] at hcv
                clear hbv
                go_wp2_with fail
                go_roundw
                case rel => exact ⟨m + 1, by omega, by go_num, by rw [HMS.out, Int.toNat_natCast]; exact HRM.out.store xn, HBM.out.setCell (p := ⟨B, xn, none⟩) (by show B ≤ B; omega) (.bool true)⟩
                case measure => simp [intOf]; omega
              · have hmI : ¬ (m : Int) < (nd.kl : Int) := by omega
                have HMK := Lib.hid (show markK s (nd.ks.take m) = markK s nd.ks by rw [List.take_of_length_le (by have := HKR.out.1; omega)])
                go_wp2_with fail
                go_roundw
                case rel => exact ⟨j, by omega, DownI.pred j, markK s nd.ks, addN nd t, by rw [← HMK.out, HOP.out]; exact HRM.out, HBM.out, by rw [HNM.out], HTG.out, by have := HCT.out; rw [HOP.out]; simp; omega⟩
                case measure => simp [intOf]
          · have HOP := Lib.hid (show addN nd t = (t.1, t.2.1, t.2.2 ++ [nd.nm]) by simp at o25 o26; simp [addN, o26])
            have hlen := HCT.out
            obtain ⟨av, cv, hv, -⟩ := owns_shape (HR.out.swap3).a
            have HVV := Lib.hid hv
            clear hv
            go_wp2_with (at_builtin; (refine L_appendN rfl _ _ _ rfl sl45 B u9 t.2.2.length _ rfl (own_below (HR.out.swap3).a (bel1 _ (.cells #[.string nd.nm] 9))) _ 1 1 (Sv nd.nm) rfl rfl (new_str wr nd.nm) (by simp [Sv, Value.oneCell']) (by omega) (by simp [maxLen]; omega) (by have := HB.out.size; have := HBB.out; simp; omega) (fun a6 c6 w6 ho6 hg6 hat6 => ?_)
                                      have hr6 := (HR.out.swap3).add ho6 hg6 hat6
                                      have hb6 := (HB.out.alloc (by have := HB.out.size; have := HBB.out; omega) (.cells #[.string nd.nm] 9)).grown hg6 (by have := HB.out.size; have := HBB.out; simp; omega) (fun g hg => by have := ((HR.out.swap3).a.lt g hg).1; omega)
                                      have HR6 := Lib.hid (hr6.swap3)
                                      have HB6 := Lib.hid hb6
                                      clear ho6 hg6 hat6 hr6 hb6 n0 n1))
            go_loopw [12] (fun v wx => ∃ m : Nat, m ≤ nd.kl ∧ v = .int .i64 m ∧ R3 wx B n (markK s (nd.ks.take m)) t.1 t.2.1 (t.2.2 ++ [nd.nm]) u7 u8 (.slice a6 (t.2.2.length + 1) c6) ∧ Below B w wx) (fun v _ => nd.kl - (intOf v).toNat)
            case atStart => exact ⟨0, by omega, rfl, HR6.out, HB6.out⟩
            case round =>
              obtain ⟨m, hm, rfl, hr, hb⟩ := hrel
              have HRM := Lib.hid hr
              have HBM := Lib.hid hb
              have n6 := (hb.cell (p := ⟨nb, no + j * 7 + 6, none⟩) (by have := block_lt_of_cell HN6.out; rw [HBB.out]; exact this)).trans HN6.out
              clear hr hb
              by_cases hmt : m < nd.kl
              · obtain ⟨kb, ko, x, hke, hx, hxc⟩ := HKR.out.at hmt
                have hka := HKA.out
                rw [hke] at hka
                subst hka
                have xc0 := hxc 0 _ rfl
                have xc := (HBM.out.cell (p := ⟨kb, ko + m * 1 + 0, none⟩) (by have := block_lt_of_cell xc0; rw [HBB.out]; exact this)).trans xc0
                simp only [Nat.add_zero, Nat.mul_one] at xc
                have hmI : (m : Int) < (nd.kl : Int) := by omega
                obtain ⟨x0, x1⟩ := HKX.out x (List.mem_of_getElem? hx)
                have HMS := Lib.hid (markK_snoc s nd.ks hx)
                clear hx hxc xc0 hke
                obtain ⟨xn, rfl⟩ : ∃ xn : Nat, x = (xn : Int) := ⟨x.toNat, by omega⟩
                have hxn : xn < n := by omega
                have hxI : (xn : Int) < (n : Int) := by omega
                have hc := HRM.out.m.frozenAt xn
                obtain ⟨bv, hbv⟩ : ∃ bv, (markK s (nd.ks.take m))[xn]? = some bv := ⟨_, List.getElem?_eq_getElem (by have := HRM.out.m.1; simp at this; omega)⟩
                have hcv := HRM.out.m.cellAt xn (by have := HRM.out.m.1; simp at this ⊢; omega)
                rw [List.getElem?_map, hbv] at hcv
                simp only [Option.map_some] at hcv
                clear hbv
                go_wp2_with fail
                go_roundw
                case rel => exact ⟨m + 1, by omega, by go_num, by rw [HMS.out, Int.toNat_natCast]; exact HRM.out.store xn, HBM.out.setCell (p := ⟨B, xn, none⟩) (by show B ≤ B; omega) (.bool true)⟩
                case measure => simp [intOf]; omega
              · have hmI : ¬ (m : Int) < (nd.kl : Int) := by omega
                have HMK := Lib.hid (show markK s (nd.ks.take m) = markK s nd.ks by rw [List.take_of_length_le (by have := HKR.out.1; omega)])
                go_wp2_with fail
                go_roundw
                case rel => exact ⟨j, by omega, DownI.pred j, markK s nd.ks, addN nd t, by rw [← HMK.out, HOP.out]; exact HRM.out, HBM.out, by rw [HNM.out], HTG.out, by have := HCT.out; rw [HOP.out]; simp; omega⟩
                case measure => simp [intOf]
        · have HOP := Lib.hid (show addN nd t = (t.1, t.2.1 ++ [nd.nm], t.2.2) by simp at o25; simp [addN, o25])
          have hlen := HCT.out
          obtain ⟨av, cv, hv, -⟩ := owns_shape (HR.out.swap2).a
          have HVV := Lib.hid hv
          clear hv
          go_wp2_with (at_builtin; (refine L_appendN rfl _ _ _ rfl sl45 B u8 t.2.1.length _ rfl (own_below (HR.out.swap2).a (bel1 _ (.cells #[.string nd.nm] 9))) _ 1 1 (Sv nd.nm) rfl rfl (new_str wr nd.nm) (by simp [Sv, Value.oneCell']) (by omega) (by simp [maxLen]; omega) (by have := HB.out.size; have := HBB.out; simp; omega) (fun a6 c6 w6 ho6 hg6 hat6 => ?_)
                                    have hr6 := (HR.out.swap2).add ho6 hg6 hat6
                                    have hb6 := (HB.out.alloc (by have := HB.out.size; have := HBB.out; omega) (.cells #[.string nd.nm] 9)).grown hg6 (by have := HB.out.size; have := HBB.out; simp; omega) (fun g hg => by have := ((HR.out.swap2).a.lt g hg).1; omega)
                                    have HR6 := Lib.hid (hr6.swap2)
                                    have HB6 := Lib.hid hb6
                                    clear ho6 hg6 hat6 hr6 hb6 n0 n1))
          go_loopw [12] (fun v wx => ∃ m : Nat, m ≤ nd.kl ∧ v = .int .i64 m ∧ R3 wx B n (markK s (nd.ks.take m)) t.1 (t.2.1 ++ [nd.nm]) t.2.2 u7 (.slice a6 (t.2.1.length + 1) c6) u9 ∧ Below B w wx) (fun v _ => nd.kl - (intOf v).toNat)
          case atStart => exact ⟨0, by omega, rfl, HR6.out, HB6.out⟩
          case round =>
            obtain ⟨m, hm, rfl, hr, hb⟩ := hrel
            have HRM := Lib.hid hr
            have HBM := Lib.hid hb
            have n6 := (hb.cell (p := ⟨nb, no + j * 7 + 6, none⟩) (by have := block_lt_of_cell HN6.out; rw [HBB.out]; exact this)).trans HN6.out
            clear hr hb
            by_cases hmt : m < nd.kl
            · obtain ⟨kb, ko, x, hke, hx, hxc⟩ := HKR.out.at hmt
              have hka := HKA.out
              rw [hke] at hka
              subst hka
              have xc0 := hxc 0 _ rfl
              have xc := (HBM.out.cell (p := ⟨kb, ko + m * 1 + 0, none⟩) (by have := block_lt_of_cell xc0; rw [HBB.out]; exact this)).trans xc0
              simp only [Nat.add_zero, Nat.mul_one] at xc
              have hmI : (m : Int) < (nd.kl : Int) := by omega
              obtain ⟨x0, x1⟩ := HKX.out x (List.mem_of_getElem? hx)
              have HMS := Lib.hid (markK_snoc s nd.ks hx)
              clear hx hxc xc0 hke
              obtain ⟨xn, rfl⟩ : ∃ xn : Nat, x = (xn : Int) := ⟨x.toNat, by omega⟩
              have hxn : xn < n := by omega
              have hxI : (xn : Int) < (n : Int) := by omega
              have hc := HRM.out.m.frozenAt xn
              obtain ⟨bv, hbv⟩ : ∃ bv, (markK s (nd.ks.take m))[xn]? = some bv := ⟨_, List.getElem?_eq_getElem (by have := HRM.out.m.1; simp at this; omega)⟩
              have hcv := HRM.out.m.cellAt xn (by have := HRM.out.m.1; simp at this ⊢; omega)
              rw [List.getElem?_map, hbv] at hcv
              simp only [Option.map_some] at hcv
              clear hbv
              go_wp2_with fail
              go_roundw
              case rel => exact ⟨m + 1, by omega, by go_num, by rw [HMS.out, Int.toNat_natCast]; exact HRM.out.store xn, HBM.out.setCell (p := ⟨B, xn, none⟩) (by show B ≤ B; omega) (.bool true)⟩
              case measure => simp [intOf]; omega
            · have hmI : ¬ (m : Int) < (nd.kl : Int) := by omega
              have HMK := Lib.hid (show markK s (nd.ks.take m) = markK s nd.ks by rw [List.take_of_length_le (by have := HKR.out.1; omega)])
              go_wp2_with fail
              go_roundw
              case rel => exact ⟨j, by omega, DownI.pred j, markK s nd.ks, addN nd t, by rw [← HMK.out, HOP.out]; exact HRM.out, HBM.out, by rw [HNM.out], HTG.out, by have := HCT.out; rw [HOP.out]; simp; omega⟩
              case measure => simp [intOf]
end Go.Proofs.YtcnckjlmldnblaaDoor
