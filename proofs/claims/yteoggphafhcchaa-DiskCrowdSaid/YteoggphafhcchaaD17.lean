import Derived.Test.YteoggphafhcchaaD16
namespace Go.Proofs.Yteoggphafhcchaa
open Go Go.RowKit
set_option maxRecDepth 100000
set_option maxHeartbeats 1000000
set_option linter.unusedVariables false
set_option linter.unusedSimpArgs false
open Go.Maps Go.WideMaps Go.ChangeMaps
abbrev imB : ByteArray := ⟨#[73, 109, 97, 103, 101]⟩
theorem image_bad (w : World) (b n : Nat) (D : DataW Unit) (hm : w.ownsMap Try.prog 9 lenR b n D) (hn : n ≤ 5000) (r : Int) (hr : ∀ r', FitsOut D r' → r' = r) (hr0 : r ≠ 0) :
    Calls Try.prog 6 #[.map (some b), .int .i64 0] w fun e w' => (∃ v, e = .returned (.tuple #[.pointer none, v]) ∧ IsFault w' v imB ByteArray.empty r) ∧ Below w.heap.size w w' := by
  have HM := Lib.hid hm
  have HR := Lib.hid hr
  have hq : (r != 0) = true := by simpa using hr0
  clear hm hr
  go_enter Try.func6, Try.ntmps6
  go_wp2_with (go_at_call 13; refine (new_any _).mono ?_; rintro e w1 ⟨⟨gd, d, rfl, hnew, -⟩, hb1⟩)
  have HB1 := Lib.hid hb1
  have HM1 := Lib.hid (show w1.ownsMap Try.prog 9 lenR b n D from HM.out.kept (gwk hb1) (by simp))
  clear hb1 hnew
  go_wp2_with (go_at_call 15; refine (fits_any _ b n D HM1.out hn).mono ?_; rintro e w2 ⟨⟨r', rfl, hf⟩, hb2⟩; have e0 := HR.out r' hf; subst e0)
  have HB2 := Lib.hid (HB1.out.trans (hb2.mono HB1.out.size))
  clear hf hb2
  go_wp2_with (first
    | (go_at_call 14; refine (newfault_any _ _ _ _).mono ?_; rintro e w3 ⟨⟨g, rfl, hg, hh⟩, hb3⟩)
    | (go_at_call 17; exfalso; first | omega | contradiction | simp_all))
  have HB3 := Lib.hid (HB2.out.trans (hb3.mono HB2.out.size))
  go_wp2_with fail
  go_returns
  exact ⟨⟨_, rfl, g, rfl, hh⟩, HB3.out⟩
end Go.Proofs.Yteoggphafhcchaa
