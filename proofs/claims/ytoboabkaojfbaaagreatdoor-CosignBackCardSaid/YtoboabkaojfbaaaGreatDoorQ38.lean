import Derived.Test.YtoboabkaojfbaaaGreatDoorQ35
import Derived.Test.YtoboabkaojfbaaaGreatDoorQ37
namespace Go.Proofs.YtoboabkaojfbaaaGreatDoor
open Go Go.RowKit
set_option maxRecDepth 100000
set_option maxHeartbeats 8000000
set_option linter.unusedVariables false
set_option linter.unusedSimpArgs false
/-! cosign.EncodeFaces. -/
def EfRet (w : World) (f : Fc) (e : Ending) (w' : World) : Prop := ∃ a n c, e = .returned (.tuple #[.slice a n c, .int .i64 (if formedP f then 0 else 170)]) ∧ w'.ownsRow w.heap.size 5 1 (.slice a n c) n ((if formedP f then encF f else []).map b8) ∧ Below w.heap.size w w'
def partF (f : Fc) : Nat → List UInt8
  | 0 => []
  | 1 => be 4 (noteP f.a).length ++ noteP f.a
  | _ => (be 4 (noteP f.a).length ++ noteP f.a) ++ (be 4 (noteP f.b).length ++ noteP f.b)
theorem partF_step {f : Fc} {k : Nat} {x : Nt} (h : (k = 0 ∧ x = f.a) ∨ (k = 1 ∧ x = f.b)) : partF f (k + 1) = partF f k ++ (be 4 (noteP x).length ++ noteP x) := by
  rcases h with ⟨rfl, rfl⟩ | ⟨rfl, rfl⟩
  · rfl
  · rfl
theorem encF_part (f : Fc) : encF f = ((be 1 52 ++ be 1 f.form.toNat) ++ partF f 2) ++ tailP f := by
  unfold encF
  show _ = ((be 1 52 ++ be 1 f.form.toNat) ++ ((be 4 (noteP f.a).length ++ noteP f.a) ++ (be 4 (noteP f.b).length ++ noteP f.b))) ++ tailP f
  simp only [List.append_assoc]
/-- What a proof that is right by its form has. -/
theorem formed_facts {f : Fc} (h : formedP f = true) : okN f.a = true ∧ okN f.b = true ∧ 1 ≤ f.form ∧ f.form ≤ 3 ∧ (f.form = 3 → 0 ≤ f.number ∧ f.number ≤ 1099511627776 ∧ f.wayA.length ≤ 40 ∧ f.wayB.length ≤ 40) := by
  rw [formedP] at h
  simp only [Bool.and_eq_true, decide_eq_true_eq] at h
  obtain ⟨ha, hb, hk, hl, hn, haf, hf, ht⟩ := h
  have hfo := formOf_le f.a.head f.b.head
  refine ⟨ha, hb, by omega, by omega, fun h3 => ?_⟩
  rw [if_pos h3] at ht
  simp only [Bool.and_eq_true, decide_eq_true_eq] at ht
  have hr := (okN_one ha).1
  simp only [rightH, Bool.and_eq_true, decide_eq_true_eq] at hr
  have s1 := stepsP_le f.a.head.size f.number
  have s2 := stepsP_le f.b.head.size f.number
  omega
theorem perm_one {l' : List Sg} {s : Sg} (h : l'.Perm [s]) : l' = [s] := List.perm_singleton.1 h
theorem noteP_one {x : Nt} {s : Sg} (h : x.signs = [s]) : noteB x.head [s] = noteP x := by unfold noteP; rw [h]
theorem noteP_179 {x : Nt} (h : okN x = true) : (noteP x).length = 179 := (noteP_dec x h).2
/-- EncodeNote of a note with one sign. -/
theorem enc_one (w : World) (x : Nt) (a : Option Addr) (n c : Nat) (hs : RS 64 sgE w a n c x.signs) (ho : okN x = true) (D : Array Value) (hD : D = ntA x.head (.slice a n c)) :
    Calls Tryz.prog 56 #[.agg D] w fun e w' => ∃ a' n' c' , e = .returned (.tuple #[.slice a' n' c', .int .i64 0]) ∧ R8 w' a' n' c' (noteP x) ∧ n' = 179 ∧ (∀ y, a' = some y → 0 < n' → w.heap.size ≤ y.block) ∧ Below w.heap.size w w' := by
  subst hD
  refine (encN_any w x.head a n c x.signs hs).mono ?_
  rintro e w' ⟨a', n', c', rfl, h2, h3⟩
  obtain ⟨hr, s, hsg⟩ := okN_one ho
  have e0 : noteE ⟨x.head, x.signs⟩ = 0 := by rw [hsg]; exact noteE_one x.head s hr
  obtain ⟨l', hp, -, hrow⟩ := h2 e0
  rw [hsg] at hp
  rw [perm_one hp, noteP_one hsg] at hrow
  have hl := noteP_179 ho
  have hn : n' = 179 := by have := hrow.1; simp at this; omega
  refine ⟨a', n', c', by rw [e0]; rfl, R8.of_own8 hrow (by rw [hl]; decide), hn, fun y hy h0 => ?_, h3⟩
  obtain ⟨q, r, hv, hq⟩ := owns_shape hrow
  obtain ⟨rfl, -, -⟩ := Value.slice.inj hv
  obtain ⟨g, e1, e2, -⟩ := hq h0
  rw [hy] at e1
  cases e1
  exact e2
theorem encF_any (w : World) (f : Fc) (sA sB wA wB : S3) (hF : FcAt w f sA sB wA wB) (ht : Tabs w) :
    Calls Tryz.prog 22 #[.agg (fcA f sA sB wA wB)] w (EfRet w f) := by
  obtain ⟨A, hA⟩ : ∃ A, A = fcA f sA sB wA wB := ⟨_, rfl⟩
  have HA := Lib.hid (show A = fcA f sA sB wA wB ∧ A.size = 266 from ⟨hA, by rw [hA]; exact fcA_size _ _ _ _ _⟩)
  rw [← hA]
  have HF := Lib.hid hF; have HT := Lib.hid ht
  obtain ⟨D1, hD1⟩ : ∃ D, D = ntA f.a.head sA.v := ⟨_, rfl⟩
  obtain ⟨D2, hD2⟩ : ∃ D, D = ntA f.b.head sB.v := ⟨_, rfl⟩
  have HD := Lib.hid (show D1.size = 99 ∧ D2.size = 99 by rw [hD1, hD2]; exact ⟨ntA_size _ _, ntA_size _ _⟩)
  have HDD := Lib.hid (And.intro hD1 hD2)
  have HC61 := Lib.hid (fun (x : World) (hx : Below w.heap.size w x) => show Calls Tryz.prog 61 #[.agg A] x (fun e w' => e = .returned (.bool (formedP f)) ∧ Below x.heap.size x w') by rw [hA]; exact formed_any x f sA sB wA wB (HF.out.below hx) (HT.out.below hx))
  clear hA hF ht hD1 hD2
  go_enter Tryz.func22, Tryz.ntmps22
  go_upto_region 1 with (fail)
  obtain ⟨g1, hg1⟩ : ∃ g, g = w.heap.size := ⟨_, rfl⟩
  rw [← hg1]
  have HQ1 := Lib.hid (show (w.alloc (.cells A 35)).heap[g1]? = some (.cells A 35 (0, 0)) by rw [hg1]; exact heap_alloc_new w _)
  have HB1 := Lib.hid ((Below.refl w.heap.size w).alloc (Nat.le_refl _) (.cells A 35))
  clear hg1
  generalize w.alloc (.cells A 35) = w1 at *
  have HC := Lib.hid (HC61.out w1 HB1.out)
  clear HC61
  cases hfp : formedP f with
  | false =>
    have HV := Lib.hid hfp
    rw [hfp] at HC
    clear hfp
    go_wp2_with (first
      | (refine wpList_load_row rfl 35 (.tmp 1) (by rfl) g1 (by rfl) 35 A (0, 0) _ HQ1.out Tryz.underlying35 rfl (by rw [HA.out.2]; exact info35) ?_)
      | (go_at_call 61; (with_reducible refine HC.out.mono ?_); rintro e w2 ⟨rfl, hb⟩; have HX2 := Lib.hid hb; clear hb))
    go_ret2
    exact ⟨none, 0, 0, by rw [HV.out]; rfl, by rw [HV.out]; exact World.ownsRow_nil _ _ _ _, HB1.out.trans (HX2.out.mono HB1.out.size)⟩
  | true =>
    have HV := Lib.hid hfp
    have HFF := Lib.hid (formed_facts hfp)
    rw [hfp] at HC
    clear hfp
    go_upto_region 3 with (first
      | (refine wpList_load_row rfl 35 (.tmp 1) (by rfl) g1 (by rfl) 35 A (0, 0) _ HQ1.out Tryz.underlying35 rfl (by rw [HA.out.2]; exact info35) ?_)
      | (go_at_call 61; (with_reducible refine HC.out.mono ?_); rintro e w2 ⟨rfl, hb⟩; have HX2 := Lib.hid hb; clear hb))
    have HB2 := Lib.hid (HB1.out.trans (HX2.out.mono HB1.out.size))
    have HQ2 := Lib.hid (show w2.heap[g1]? = some (.cells (fcA f sA sB wA wB) 35 (0, 0)) by have := blk_up HQ1.out HX2.out; rwa [HA.out.1] at this)
    have HL2 := Lib.hid ((Array.getElem?_eq_some_iff.1 HQ2.out).1)
    have HNW := Lib.hid (new_any w2)
    go_upto_region 4 with (go_at_call 75; (with_reducible refine HNW.out.mono ?_); rintro e w3 ⟨gw, rfl, hwr, hb⟩; have HWR := Lib.hid hwr; have HX3 := Lib.hid hb; clear hwr hb)
    obtain ⟨hgw, v3, hh, ho⟩ := HWR.out
    obtain ⟨B, hB⟩ : ∃ B, B = w2.heap.size := ⟨_, rfl⟩
    have HV3 := Lib.hid (show WrV w3 B gw v3 [] from by rw [hB]; exact ⟨hgw, hh, ho⟩)
    have HBB := Lib.hid (show B = w2.heap.size ∧ B ≤ w3.heap.size ∧ g1 < B ∧ w.heap.size ≤ B from ⟨hB, by rw [hB]; exact HX3.out.size, by rw [hB]; exact HL2.out, by rw [hB]; exact HB2.out.size⟩)
    have HB3 := Lib.hid (show Below B w2 w3 from by rw [hB]; exact HX3.out)
    clear hgw hh ho hB
    have HP3 := Lib.hid (show Calls Tryz.prog 76 #[.pointer (some ⟨gw, 0, none⟩), .int .u8 52] w3 (fun e w' => e = .returned (.tuple #[]) ∧ WO w3 w' B gw v3 ([] ++ be 1 52)) from put8_f w3 B gw [] 52 v3 HV3.out (by decide) HBB.out.2.1)
    go_upto_region 5 with (go_at_call 76; (with_reducible refine HP3.out.mono ?_); rintro e w4 ⟨rfl, ho⟩; have HO4 := Lib.hid ho; clear ho)
    have HB4 := Lib.hid (HB3.out.trans (HO4.out.low HV3.out (B0 := B) (Nat.le_refl _) HBB.out.2.1))
    obtain ⟨v4, hv4, -, -⟩ := HO4.out
    have HV4 := Lib.hid hv4
    obtain ⟨fm, hfm⟩ : ∃ x, x = f.form := ⟨_, rfl⟩
    have hf13 : 1 ≤ fm ∧ fm ≤ 3 := by rw [hfm]; exact ⟨HFF.out.2.2.1, HFF.out.2.2.2.1⟩
    have k198 : w4.cell? ⟨g1, 198, none⟩ = some (.int .i64 fm) := by
      rw [hfm]; exact FB.c_fm ((HB4.out.block g1 HBB.out.2.2.1).trans HQ2.out)
    have hwu : IntKind.u8.wrap fm = fm := by simp [IntKind.wrap, IntKind.bits, IntKind.signed]; omega
    have HFM := Lib.hid (And.intro hfm hf13)
    have HP4 := Lib.hid (show Calls Tryz.prog 76 #[.pointer (some ⟨gw, 0, none⟩), .int .u8 fm] w4 (fun e w' => e = .returned (.tuple #[]) ∧ WO w4 w' B gw v4 (be 1 52 ++ be 1 fm.toNat)) by
      obtain ⟨q, hq⟩ : ∃ q : Nat, fm = (q : Int) := ⟨fm.toNat, by omega⟩
      have h1 : (UInt8.ofNat q).toNat = q := UInt8.toNat_ofNat_of_lt' (by show q < 256; omega)
      have := put8_f w4 B gw ([] ++ be 1 52) (UInt8.ofNat q) v4 HV4.out (by simp [be_len]) (Nat.le_trans HBB.out.2.1 (by have := HO4.out; obtain ⟨_, _, hf, _⟩ := this; exact hf.b.size))
      rw [h1] at this
      rw [hq, Int.toNat_natCast]
      exact this)
    clear hv4 hfm hf13
    go_upto_region 6 with (go_at_call 76; (with_reducible refine HP4.out.mono ?_); rintro e w5 ⟨rfl, ho⟩; have HO5 := Lib.hid ho; clear ho)
    clear k198 hwu
    have HS4 := Lib.hid (show B ≤ w4.heap.size by have := HB4.out.size; have := HBB.out; omega)
    have HB5 := Lib.hid (HB4.out.trans (HO5.out.low HV4.out (B0 := B) (Nat.le_refl _) HS4.out))
    obtain ⟨v5, hv5, -, -⟩ := HO5.out
    have HV5 := Lib.hid hv5
    clear hv5
    have HQ5 := Lib.hid ((HB5.out.block g1 HBB.out.2.2.1).trans HQ2.out)
    have HR1 := Lib.hid (show w5.rangeAt g1 0 D1.toList by rw [HDD.out.1]; exact FB.r_noteA HQ5.out)
    have HR2 := Lib.hid (show w5.rangeAt g1 99 D2.toList by rw [HDD.out.2]; exact FB.r_noteB HQ5.out)
    go_upto_region 7 with (first
      | (refine L_load_arr rfl 28 (.tmp 20) (by rfl) g1 0 (by rfl) D1 _ HR1.out Tryz.underlying28 rfl (by rw [HD.out.1]; exact info28) ?_)
      | (refine L_load_arr rfl 28 (.tmp 22) (by rfl) g1 99 (by rfl) D2 _ HR2.out Tryz.underlying28 rfl (by rw [HD.out.2]; exact info28) ?_)
      | (refine L_build2n rfl (.tmp 21) (.tmp 23) (by rfl) D1 D2 (by rfl) (by rfl) HD.out.1 HD.out.2 ?_))
    obtain ⟨gN, hgN⟩ : ∃ g, g = w5.heap.size := ⟨_, rfl⟩
    rw [← hgN]
    have HQN := Lib.hid (show (w5.alloc (.cells (D1.toList ++ D2.toList).toArray 28)).heap[gN]? = some (.cells (D1.toList ++ D2.toList).toArray 28 (0, 0)) by rw [hgN]; exact heap_alloc_new w5 _)
    have HX6 := Lib.hid ((Below.refl w5.heap.size w5).alloc (Nat.le_refl _) (.cells (D1.toList ++ D2.toList).toArray 28))
    have HGN := Lib.hid (show gN = w5.heap.size ∧ gw < gN ∧ B ≤ gN ∧ v5.ownBlock ≠ some gN from ⟨hgN, by rw [hgN]; exact HV5.out.gl, by have := HB5.out.size; have := HBB.out; omega, fun e => by have := HV5.out.own e; omega⟩)
    clear hgN
    generalize w5.alloc (.cells (D1.toList ++ D2.toList).toArray 28) = w6 at *
    have HB6 := Lib.hid (show Below B w2 w6 from HB5.out.trans (HX6.out.mono (by have := HGN.out; omega)))
    have HV6 := Lib.hid (HV5.out.below HX6.out)
    obtain ⟨LL, hLL⟩ : ∃ LL, LL = be 1 52 ++ be 1 fm.toNat := ⟨_, rfl⟩
    have HLL := Lib.hid (show LL = be 1 52 ++ be 1 fm.toNat ∧ LL.length = 2 by rw [hLL]; exact ⟨rfl, by simp [be_len]⟩)
    rw [← hLL] at HV6
    clear hLL HR1 HR2 HV3 HV4 HO4 HO5 HP3 HP4 HWR HNW HX3
    go_wp2_with fail
    go_loopw [26, 6] (fun v _ wr => ∃ (k : Nat) (vi : Value), k ≤ 2 ∧ v = .int .i64 (k : Int) ∧ WrV wr B gw vi (LL ++ partF f k) ∧ vi.ownBlock ≠ some gN ∧ wr.heap[gN]? = some (.cells (D1.toList ++ D2.toList).toArray 28 (0, 0)) ∧ Below B w2 wr) (fun v _ _ => 2 - (intOf v).toNat)
    case atStart => exact ⟨0, v5, by omega, rfl, by simpa [partF] using HV6.out, HGN.out.2.2.2, HQN.out, HB6.out⟩
    case round =>
      obtain ⟨k, vi, hk, rfl, hv, hne, hq, hb⟩ := hrel
      have HVI := Lib.hid hv; have HNE := Lib.hid hne; have HQR := Lib.hid hq; have HBR := Lib.hid hb
      clear hv hne hq hb
      have HWR := Lib.hid (show Below w.heap.size w wr from HB2.out.trans (HBR.out.mono HBB.out.2.2.2))
      have HSR := Lib.hid (show B ≤ wr.heap.size by have := HBR.out.size; have := HBB.out; omega)
      by_cases hlt : k < 2
      · obtain ⟨x, sx, hkx, hr, hrs, hox⟩ : ∃ (x : Nt) (sx : S3), ((k = 0 ∧ x = f.a) ∨ (k = 1 ∧ x = f.b)) ∧ wr.rangeAt gN (k * 99) (ntA x.head sx.v).toList ∧ RS 64 sgE w sx.a sx.n sx.c x.signs ∧ okN x = true := by
          rcases (show k = 0 ∨ k = 1 by omega) with rfl | rfl
          · exact ⟨f.a, sA, .inl ⟨rfl, rfl⟩, by rw [← HDD.out.1]; exact mid_range HQR.out 0 (A := []) (B := D2.toList) (by simp) rfl, HF.out.a, HFF.out.1⟩
          · exact ⟨f.b, sB, .inr ⟨rfl, rfl⟩, by rw [← HDD.out.2]; exact mid_range HQR.out 99 (A := D1.toList) (B := []) (by simp) (by rw [Array.length_toList, HD.out.1]), HF.out.b, HFF.out.2.1⟩
        obtain ⟨ax, nx, cx⟩ := sx
        obtain ⟨D, hD⟩ : ∃ D, D = ntA x.head (S3.v ⟨ax, nx, cx⟩) := ⟨_, rfl⟩
        have HDX := Lib.hid (show D = ntA x.head (.slice ax nx cx) ∧ D.size = 99 ∧ D.all (·.oneCell') = true by rw [hD]; exact ⟨rfl, ntA_size _ _, ntA_one _ _ rfl⟩)
        have HRX := Lib.hid (show wr.rangeAt gN (k * 99) D.toList by rw [hD]; exact hr)
        have HRS := Lib.hid (hrs.below HWR.out)
        have HKX := Lib.hid hkx; have HLT := Lib.hid hlt; have HOX := Lib.hid hox
        have h9 : decide ((k : Int) < 2) = true := by rw [decide_eq_true_eq]; omega
        have hk2 : k ≤ 1 := by omega
        have HTH := Lib.hid (show (wr.alloc o28).there wr.heap.size 0 99 by
          have := there_block (show (wr.alloc o28).heap[wr.heap.size]? = some (.cells (ntA zHd nilS) 28 (0, 0)) from heap_alloc_new wr _); rwa [ntA_size] at this)
        clear hr hrs hkx hlt hk hD hox
        go_upto_region 9 with (first
          | (refine L_load_arr rfl 28 (.tmp 28) (by rfl) gN (k * 99) (by first | rfl | (simp only [Nat.zero_add]; rfl)) D _ HRX.out Tryz.underlying28 rfl (by rw [HDX.out.2.1]; exact info28) ?_)
          | (refine wpList_store_mid rfl 28 (.tmp 6) (.tmp 29) (by rfl) wr.heap.size 0 D (by rfl) (by rfl) (by rw [HDX.out.2.1]; exact HTH.out) (by rw [HDX.out.2.1]; exact info28) HDX.out.2.2 ?_))
        change Code.wp Tryz.prog _ _ _ ((wr.alloc o28).setCells wr.heap.size 0 D.toList)
        obtain ⟨g6, hg6⟩ : ∃ g, g = wr.heap.size := ⟨_, rfl⟩
        rw [← hg6]
        have HQ7 := Lib.hid (show ((wr.alloc o28).setCells g6 0 D.toList).heap[g6]? = some (.cells D 28 (0, 0)) by
          have := setCells_all (show (wr.alloc o28).heap[g6]? = some (.cells (ntA zHd nilS) 28 (0, 0)) by rw [hg6]; exact heap_alloc_new wr _) D.toList (by rw [Array.length_toList, HDX.out.2.1, ntA_size])
          simpa using this)
        have HX7 := Lib.hid (show Below wr.heap.size wr ((wr.alloc o28).setCells g6 0 D.toList) from ((Below.refl _ _).alloc (Nat.le_refl _) _).grown (setCells_grown _ _ _ _) (by rw [World.size_alloc]; omega) (fun k hk => by rw [← Option.some.inj hk, hg6]; exact Nat.le_refl _))
        clear hg6
        generalize (wr.alloc o28).setCells g6 0 D.toList = w7 at *
        have HEN := Lib.hid (enc_one w7 x ax nx cx (HRS.out.below HX7.out) HOX.out D HDX.out.1)
        go_upto_region 10 with (first
          | (refine wpList_load_row rfl 28 (.tmp 6) (by rfl) g6 (by rfl) 28 D (0, 0) _ HQ7.out Tryz.underlying28 rfl (by rw [HDX.out.2.1]; exact info28) ?_)
          | (go_at_call 56; (with_reducible refine HEN.out.mono ?_); rintro e w8 ⟨pa, pn, pc, rfl, hr8, hn8, hnew, hb⟩; have HX8 := Lib.hid hb; have HR8 := Lib.hid hr8; have HN8 := Lib.hid hn8; have HNW8 := Lib.hid hnew; clear hb hr8 hn8 hnew))
        have HX78 := Lib.hid (HX7.out.trans (HX8.out.mono HX7.out.size))
        have HV8 := Lib.hid (HVI.out.below HX78.out)
        have HGW := Lib.hid (show gw < w7.heap.size ∧ gN < w7.heap.size ∧ w7.heap.size ≤ w8.heap.size ∧ B ≤ w8.heap.size from ⟨by have := HVI.out.gl; have := HX7.out.size; omega, by have := (Array.getElem?_eq_some_iff.1 HQR.out).1; have := HX7.out.size; omega, HX8.out.size, by have := HX78.out.size; have := HSR.out; omega⟩)
        have HPL := Lib.hid (show (LL ++ partF f k).length ≤ 1000 by
          have h1 := noteP_179 HFF.out.1
          rw [List.length_append, HLL.out.2]
          rcases HKX.out with ⟨rfl, -⟩ | ⟨rfl, -⟩
          · simp [partF]
          · simp [partF, be_len, h1])
        have HWB := Lib.hid (wbytes_f w8 B gw (LL ++ partF f k) vi HV8.out (by have := HPL.out; omega) HGW.out.2.2.2 pa pn pc (noteP x) HR8.out (by have := HN8.out; omega) (fun y hy h0 => by
          have h1 := HNW8.out y hy h0
          refine ⟨by have := HGW.out; omega, fun e => ?_⟩
          have := HVI.out.own e.symm
          have := HX7.out.size
          omega))
        go_upto_region 11 with (go_at_call 77; (with_reducible refine HWB.out.mono ?_); rintro e w9 ⟨rfl, ho⟩; have HO9 := Lib.hid ho; clear ho)
        obtain ⟨v9, hv9, -, how⟩ := HO9.out
        have HV9 := Lib.hid (show WrV w9 B gw v9 (LL ++ partF f (k + 1)) by
          rw [partF_step HKX.out, noteP_179 HOX.out, ← HN8.out, ← List.append_assoc]
          exact hv9)
        have HQ9 := Lib.hid (HO9.out.keep (blk_up HQR.out HX78.out) (show gN ≠ gw by have := HGN.out; omega) (fun e => HNE.out e.symm))
        have HN9 := Lib.hid (show v9.ownBlock ≠ some gN from fun e => by
          rcases how with q | ⟨j, q, hj⟩
          · exact HNE.out (q.symm.trans e)
          · rw [e] at q; have := Option.some.inj q; have := HGW.out; omega)
        have HB9 := Lib.hid (show Below B w2 w9 from (HBR.out.trans (HX78.out.mono HSR.out)).trans (HO9.out.low HV8.out (B0 := B) (Nat.le_refl _) HGW.out.2.2.2))
        clear hv9 how
        go_wp2_with fail
        go_roundw
        case rel => exact ⟨k + 1, v9, by have := HLT.out; omega, by push_cast; rfl, HV9.out, HN9.out, HQ9.out, HB9.out⟩
        case measure => have := HLT.out; simp [intOf]; omega
      · obtain rfl : k = 2 := by omega
        have h9 : decide (((2 : Nat) : Int) < 2) = false := by decide
        clear hlt hk
        have HQ1R := Lib.hid ((HBR.out.block g1 HBB.out.2.2.1).trans HQ2.out)
        have k198 : wr.cell? ⟨g1, 198, none⟩ = some (.int .i64 fm) := by rw [HFM.out.1]; exact FB.c_fm HQ1R.out
        obtain ⟨L2, hL2⟩ : ∃ L, L = LL ++ partF f 2 := ⟨_, rfl⟩
        have HL2' := Lib.hid (show L2 = (be 1 52 ++ be 1 fm.toNat) ++ partF f 2 ∧ L2.length = 368 by
          rw [hL2]
          have h1 := noteP_179 HFF.out.1
          have h2 := noteP_179 HFF.out.2.1
          refine ⟨by rw [HLL.out.1], ?_⟩
          rw [List.length_append, HLL.out.2]
          simp [partF, be_len, h1, h2])
        rw [← hL2] at HVI
        clear hL2
        by_cases c3 : fm = 3
        · subst c3
          obtain ⟨aa, na, ca⟩ := wA
          obtain ⟨ab, nb, cb⟩ := wB
          have HN3 := Lib.hid (HFF.out.2.2.2.2 HFM.out.1.symm)
          have HNA := Lib.hid (show f.wayA.length = na ∧ f.wayB.length = nb from ⟨HF.out.wa.1, HF.out.wb.1⟩)
          obtain ⟨nu, hnu⟩ : ∃ x, x = f.number := ⟨_, rfl⟩
          have k199 : wr.cell? ⟨g1, 199, none⟩ = some (.int .i64 nu) := by rw [hnu]; exact FB.c_nu HQ1R.out
          have hnn : 0 ≤ nu ∧ nu ≤ 1099511627776 := by rw [hnu]; exact ⟨HN3.out.1, HN3.out.2.1⟩
          have hwu : IntKind.u64.wrap nu = nu := by simp [IntKind.wrap, IntKind.bits, IntKind.signed]; omega
          have HNU := Lib.hid hnu
          have HP10 := Lib.hid (show Calls Tryz.prog 78 #[.pointer (some ⟨gw, 0, none⟩), .int .u64 nu] wr (fun e w' => e = .returned (.tuple #[]) ∧ WO wr w' B gw vi (L2 ++ be 8 nu.toNat)) by
            obtain ⟨q, hq⟩ : ∃ q : Nat, nu = (q : Int) := ⟨nu.toNat, by omega⟩
            have h1 : (UInt64.ofNat q).toNat = q := UInt64.toNat_ofNat_of_lt' (by show q < 18446744073709551616; omega)
            have := put64_f wr B gw L2 (UInt64.ofNat q) vi HVI.out (by rw [HL2'.out.2]; decide) HSR.out
            rw [h1] at this
            rw [hq, Int.toNat_natCast]
            exact this)
          clear hnu hnn
          go_upto_region 14 with (go_at_call 78; (with_reducible refine HP10.out.mono ?_); rintro e w10 ⟨rfl, ho⟩; have HO10 := Lib.hid ho; clear ho)
          clear hwu k199 k198
          have HB10 := Lib.hid (show Below B w2 w10 from HBR.out.trans (HO10.out.low HVI.out (B0 := B) (Nat.le_refl _) HSR.out))
          have HS10 := Lib.hid (show B ≤ w10.heap.size by have := HB10.out.size; have := HBB.out; omega)
          obtain ⟨v10, hv10, -, -⟩ := HO10.out
          obtain ⟨L3, hL3⟩ : ∃ L, L = L2 ++ be 8 nu.toNat := ⟨_, rfl⟩
          rw [← hL3] at hv10
          have HL3 := Lib.hid (show L3 = L2 ++ be 8 nu.toNat ∧ L3.length = 376 by rw [hL3]; exact ⟨rfl, by rw [List.length_append, HL2'.out.2, be_len]⟩)
          have HV10 := Lib.hid hv10
          clear hv10 hL3
          have HQ10 := Lib.hid ((HB10.out.block g1 HBB.out.2.2.1).trans HQ2.out)
          obtain ⟨E4, hE4⟩ : ∃ E, E = dgA f.leafA.1 := ⟨_, rfl⟩
          obtain ⟨E5, hE5⟩ : ∃ E, E = dgA f.leafB.1 := ⟨_, rfl⟩
          have HE4 := Lib.hid (show DgN E4 f.leafA by rw [hE4]; exact dgN _)
          have HE5 := Lib.hid (show DgN E5 f.leafB by rw [hE5]; exact dgN _)
          have HR4 := Lib.hid (show w10.rangeAt g1 200 E4.toList by rw [HE4.out.2.1]; exact FB.r_la HQ10.out)
          have HR5 := Lib.hid (show w10.rangeAt g1 232 E5.toList by rw [HE5.out.2.1]; exact FB.r_lb HQ10.out)
          clear hE4 hE5
          have HBA := Lib.hid ((Below.refl w10.heap.size w10).alloc (Nat.le_refl _) (.cells (E4.toList ++ E5.toList).toArray 23))
          have HC10 := Lib.hid (show Calls Tryz.prog 79 #[.pointer (some ⟨gw, 0, none⟩), .slice (some ⟨w10.heap.size, 0, none⟩) 2 2] (w10.alloc (.cells (E4.toList ++ E5.toList).toArray 23)) (fun e w' => e = .returned (.tuple #[]) ∧ WO (w10.alloc (.cells (E4.toList ++ E5.toList).toArray 23)) w' B gw v10 (L3 ++ ([f.leafA, f.leafB].map (·.1)).flatten)) from
            digs_f (w10.alloc (.cells (E4.toList ++ E5.toList).toArray 23)) B gw L3 v10 (HV10.out.below HBA.out) (by have := HL3.out.2; omega) (by have := HS10.out; have := HBA.out.size; omega) (some ⟨w10.heap.size, 0, none⟩) 2 2 [f.leafA, f.leafB] (ds_block (ds := [f.leafA, f.leafB]) (heap_alloc_new w10 _) (by simp [HE4.out.2.1, HE5.out.2.1]) (by simp only [List.length_cons, List.length_nil]; omega)) (by decide) (fun y hy _ => by cases hy; exact ⟨by show w10.heap.size < _; rw [World.size_alloc]; omega, by have := HV10.out.gl; show w10.heap.size ≠ gw; omega, fun e => by have : w10.heap.size < w10.heap.size := HV10.out.own e.symm; omega⟩))
          go_upto_region 15 with (first
            | (refine L_load_arr rfl 23 (.tmp 50) (by rfl) g1 200 (by rfl) E4 _ HR4.out Tryz.underlying23 rfl (by rw [HE4.out.2.2.1]; exact info38) ?_)
            | (refine L_load_arr rfl 23 (.tmp 52) (by rfl) g1 232 (by rfl) E5 _ HR5.out Tryz.underlying23 rfl (by rw [HE5.out.2.2.1]; exact info38) ?_)
            | (refine L_build2 rfl (.tmp 51) (.tmp 53) (by rfl) E4 E5 (by rfl) (by rfl) HE4.out.2.2.1 HE5.out.2.2.1 ?_)
            | (go_at_call 79; (with_reducible refine HC10.out.mono ?_); rintro e w11 ⟨rfl, ho⟩; have HO11 := Lib.hid ho; clear ho))
          have HB11 := Lib.hid (show Below B w2 w11 from HB10.out.trans ((HBA.out.mono HS10.out).trans (HO11.out.low (HV10.out.below HBA.out) (B0 := B) (Nat.le_refl _) (by have := HS10.out; have := HBA.out.size; omega))))
          have HS11 := Lib.hid (show B ≤ w11.heap.size by have := HB11.out.size; have := HBB.out; omega)
          obtain ⟨v11, hv11, -, -⟩ := HO11.out
          obtain ⟨L4, hL4⟩ : ∃ L, L = L3 ++ ([f.leafA, f.leafB].map (·.1)).flatten := ⟨_, rfl⟩
          rw [← hL4] at hv11
          have HL4 := Lib.hid (show L4 = L3 ++ (f.leafA.1 ++ f.leafB.1) ∧ L4.length = 440 by rw [hL4]; exact ⟨by simp, by rw [List.length_append, HL3.out.2]; simp [f.leafA.2, f.leafB.2]⟩)
          have HV11 := Lib.hid hv11
          clear hv11 hL4 HR4 HR5 HC10 HP10
          have k264 : w11.cell? ⟨g1, 264, none⟩ = some (.slice aa na ca) := FB.c_wA ((HB11.out.block g1 HBB.out.2.2.1).trans HQ2.out)
          have HFX := Lib.hid (fun (x : World) (hx : Below B w2 x) => show FcAt x f sA sB ⟨aa, na, ca⟩ ⟨ab, nb, cb⟩ from HF.out.below (HB2.out.trans (hx.mono HBB.out.2.2.2)))
          have HAPG := Lib.hid (fun (x : World) (v : Value) (l : List UInt8) (hv : WrV x B gw v l) (hx : Below B w2 x) (a : Option Addr) (n c : Nat) (ds : List Dg) (hd : DS w a n c ds) => show ∀ y, a = some y → 0 < n → y.block < x.heap.size ∧ y.block ≠ gw ∧ some y.block ≠ v.ownBlock from fun y hy h0 => by
            obtain ⟨d, hdd⟩ : ∃ d, ds[0]? = some d := ⟨_, List.getElem?_eq_getElem (by have := hd.1; omega)⟩
            obtain ⟨b, off, e, hbl, -⟩ := hd.at hdd
            rw [hy] at e
            obtain rfl := Option.some.inj e
            have h1 := hv.1
            have h2 := HBB.out
            have h3 := hv.gl
            refine ⟨by show b < _; omega, by show b ≠ gw; omega, fun e => ?_⟩
            have h4 := (hv.2.2.lt b e.symm).1
            omega)
          have HC11 := Lib.hid (digs_f w11 B gw L4 v11 HV11.out (by have := HL4.out.2; omega) HS11.out aa na ca f.wayA (HFX.out w11 HB11.out).wa (by have := HN3.out; have := HNA.out; omega) (HAPG.out w11 v11 L4 HV11.out HB11.out aa na ca f.wayA HF.out.wa))
          go_upto_region 16 with (go_at_call 79; (with_reducible refine HC11.out.mono ?_); rintro e w12 ⟨rfl, ho⟩; have HO12 := Lib.hid ho; clear ho)
          clear k264
          have HB12 := Lib.hid (show Below B w2 w12 from HB11.out.trans (HO12.out.low HV11.out (B0 := B) (Nat.le_refl _) HS11.out))
          have HS12 := Lib.hid (show B ≤ w12.heap.size by have := HB12.out.size; have := HBB.out; omega)
          obtain ⟨v12, hv12, -, -⟩ := HO12.out
          obtain ⟨L5, hL5⟩ : ∃ L, L = L4 ++ (f.wayA.map (·.1)).flatten := ⟨_, rfl⟩
          rw [← hL5] at hv12
          have HL5 := Lib.hid (show L5 = L4 ++ flatD f.wayA ∧ L5.length ≤ 1720 by rw [hL5]; exact ⟨rfl, by rw [List.length_append, HL4.out.2, flatD_len]; have := HN3.out; omega⟩)
          have HV12 := Lib.hid hv12
          clear hv12 hL5 HC11
          have k265 : w12.cell? ⟨g1, 265, none⟩ = some (.slice ab nb cb) := FB.c_wB ((HB12.out.block g1 HBB.out.2.2.1).trans HQ2.out)
          have HC12 := Lib.hid (digs_f w12 B gw L5 v12 HV12.out (by have := HL5.out.2; omega) HS12.out ab nb cb f.wayB (HFX.out w12 HB12.out).wb (by have := HN3.out; have := HNA.out; omega) (HAPG.out w12 v12 L5 HV12.out HB12.out ab nb cb f.wayB HF.out.wb))
          go_upto_region 17 with (go_at_call 79; (with_reducible refine HC12.out.mono ?_); rintro e w13 ⟨rfl, ho⟩; have HO13 := Lib.hid ho; clear ho)
          clear k265
          have HB13 := Lib.hid (show Below B w2 w13 from HB12.out.trans (HO13.out.low HV12.out (B0 := B) (Nat.le_refl _) HS12.out))
          obtain ⟨v13, hv13, -, -⟩ := HO13.out
          have HTL := Lib.hid (show encF f = L5 ++ (f.wayB.map (·.1)).flatten by
            rw [encF_part, HL5.out.1, HL4.out.1, HL3.out.1, HL2'.out.1, HNU.out]
            unfold tailP
            rw [if_pos HFM.out.1.symm, ← HFM.out.1]
            unfold flatD
            simp only [List.append_assoc])
          have HV13 := Lib.hid (show WrV w13 B gw v13 (encF f) by rw [HTL.out]; exact hv13)
          clear hv13
          have HALL := Lib.hid (all_any w13 B gw (encF f) ⟨HV13.out.1, v13, HV13.out.2⟩ (by have := encF_len f HV.out; omega))
          have HW13 := Lib.hid (show Below w.heap.size w w13 from HB2.out.trans (HB13.out.mono HBB.out.2.2.2))
          go_wp2_with (go_at_call 80; (with_reducible refine HALL.out.mono ?_); rintro e w14 ⟨a9, n9, c9, rfl, ho, hb⟩; have HO14 := Lib.hid ho; have HB14 := Lib.hid hb; clear ho hb)
          go_ret2
          exact ⟨a9, n9, c9, by rw [HV.out]; rfl, by rw [HV.out]; exact own_base HO14.out HW13.out.size, HW13.out.trans (HB14.out.mono HW13.out.size)⟩
        · have HTL := Lib.hid (show encF f = L2 by rw [encF_part, HL2'.out.1, HFM.out.1]; unfold tailP; rw [if_neg (by rw [← HFM.out.1]; exact c3), List.append_nil])
          have d3 : (fm == 3) = false := by rw [beq_eq_false_iff_ne]; exact c3
          have HALL := Lib.hid (all_any wr B gw L2 ⟨HVI.out.1, vi, HVI.out.2⟩ (by rw [HL2'.out.2]; decide))
          go_wp2_with (go_at_call 80; (with_reducible refine HALL.out.mono ?_); rintro e w9 ⟨a9, n9, c9, rfl, ho, hb⟩; have HO9 := Lib.hid ho; have HB9 := Lib.hid hb; clear ho hb)
          go_ret2
          exact ⟨a9, n9, c9, by rw [HV.out]; rfl, by rw [HV.out]; show w9.ownsRow _ _ _ _ _ ((encF f).map b8); rw [HTL.out]; exact own_base HO9.out HWR.out.size, HWR.out.trans (HB9.out.mono HWR.out.size)⟩
end Go.Proofs.YtoboabkaojfbaaaGreatDoor
