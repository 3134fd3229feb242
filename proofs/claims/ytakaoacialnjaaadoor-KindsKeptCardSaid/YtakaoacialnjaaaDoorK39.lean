import Derived.Test.YtakaoacialnjaaaDoorK38
import Derived.Test.YtakaoacialnjaaaDoorK37
import Derived.Test.YtakaoacialnjaaaDoorK36
namespace Go.Proofs.YtakaoacialnjaaaDoor
open Go Go.RowKit
set_option linter.unusedVariables false
theorem ofF_len (sc : List Nm) (ns : List Nd) : ∀ (k : Nat) (ks : List (Int × Bool)), (ofF sc k ks ns).1.length ≤ ks.length + ns.length := by
  induction ns with
  | nil => intro k ks; simp [ofF]
  | cons n t ih =>
    intro k ks
    simp only [ofF]
    split
    · have := ih (k + 1) (ks ++ [(lookK sc ks n.op n.nm.toList (n.ks.map Int.toNat)).1])
      simp only [List.length_append, List.length_cons, List.length_nil] at this ⊢
      omega
    · simp
theorem ofK_len (ns : List Nd) (sc : List Nm) : (ofK ns sc).1.length ≤ ns.length := by
  unfold ofK
  split
  · have := ofF_len sc ns 0 []; simpa using this
  · simp
set_option maxRecDepth 100000 in
set_option maxHeartbeats 4000000 in
/-- What the program's Of answers is what the document's answers. -/
theorem lean_any (w : World) (a : Option Addr) (n c : Nat) (ns : List Nd) (hr : RS 7 Nd.cs w a n c ns) (hok : ∀ nd ∈ ns, nd.ok w) (sa : Option Addr) (sn sc' : Nat) (sc : List Nm) (hsc : RS 3 Nm.cs w sa sn sc' sc) (ht : NoTab w) (hrt : ResTab w 2) (hrt1 : ResTab w 1) (h2 : 2 < w.heap.size)
    (hnb : n ≤ 1000000) (hsb : sn ≤ 1000000) (hkb : ∀ nd ∈ ns, nd.kl ≤ 1000000) :
    Calls Tryd.prog 11 #[.slice a n c, .slice sa sn sc'] w fun e w' => e = .returned (.bool true) ∧ Below w.heap.size w w' := by
  have hlen := hr.1
  have hscl := hsc.1
  have HR := Lib.hid hr
  have HOK := Lib.hid hok
  have HSC := Lib.hid hsc
  have HKB := Lib.hid hkb
  have HRT1 := Lib.hid hrt1
  have H2 := Lib.hid h2
  go_enter Tryd.func11, Tryd.ntmps11
  go_wp2_with fail
  with_reducible refine (of_any w a n c ns hr hok sa sn sc' sc hsc ht hrt h2 (by omega)).mono ?_
  rintro e w1 ⟨⟨xa, xc, rfl, hx⟩, hb1⟩
  have HX := Lib.hid hx
  have HB1 := Lib.hid hb1
  have z1 := hb1.size
  clear hr hok hsc ht hrt hrt1 h2 hkb hx hb1
  go_wp2_with fail
  with_reducible refine (plain_any w1 sa sn sc' sc (HSC.out.below HB1.out) hsb).mono ?_
  rintro e w2 ⟨⟨pa, pc, rfl, hp⟩, hb2⟩
  have HB2 := Lib.hid hb2
  have HP := Lib.hid (show RS 3 Nm.cs w2 pa sn pc sc by have := RS.of_owns hp (by decide) Nm_len (by omega); rwa [hscl] at this)
  have z2 := hb2.size
  have HW2 := Lib.hid (HB1.out.trans (hb2.mono z1))
  clear hp hb2
  go_wp2_with fail
  with_reducible refine (refof_any w2 a n c ns (HR.out.below HW2.out) (fun nd hnd => (HOK.out nd hnd).below HW2.out) pa sn pc sc HP.out (HRT1.out.below HW2.out (by have := H2.out; omega) (by have := H2.out; omega)) (by have := H2.out; omega) hnb HKB.out).mono ?_
  rintro e w3 ⟨⟨ya, yc, rfl, hy⟩, hb3⟩
  have HW3 := Lib.hid (HW2.out.trans (hb3.mono (by omega)))
  have hl := ofK_len ns sc
  have HY := Lib.hid (RS.of_owns hy (by decide) Kd_len (by omega))
  have HX1 := Lib.hid (RS.of_owns (own_below (own_below HX.out HB2.out) hb3) (by decide) Kd_len (by omega))
  clear hy hb3
  generalize ofK ns sc = R at *
  obtain ⟨ks, at', er⟩ := R
  go_wp2_with fail
  with_reducible refine (alike_any w3 xa ks.length xc ks HX1.out ya ks.length yc ks HY.out).mono ?_
  rintro e w4 ⟨rfl, hb4⟩
  have HW4 := Lib.hid (HW3.out.trans (hb4.mono HW3.out.size))
  clear hb4
  go_wp2
  go_ret
  exact ⟨by simp, HW4.out⟩
end Go.Proofs.YtakaoacialnjaaaDoor
