/-
  NARROWER THAN 'FOR EVERY INPUT', by the rows' own cells (each row's printed sentence says how): CosignFaces: laid · CosignEncodes: laid · CosignDecodes: laid · CosignAccuses: laid · CosignTells: laid · CosignShows: laid · CosignBack: laid · CosignHonest: laid · CosignKept: laid.
  DERIVED. THE GIVEN ROWS OF THIS SEAT. 9 by the template 'for every input the law returns true; each argument reads behind the call as it read before'; 0 by the template 'total and deterministic' (their statements: YtoboabkaojfbaaaGreatDoorTotals.lean).
  GIVEN WITH THE SEED: the statements are not yours to turn. If you find one false, say at which input.
  Laid BY PROGRAM, IN A SANDBOX (cutbox-rows.mjs): the forced cells as the released guide's own fill.sh prints them over the translation 3437b11381b2a72c… (all of the seat's roots in one cut). By AI agents, Wed Nov 11 2026. No macro, syntax, notation, axiom, sorry.
-/
import Derived.Test.YtoboabkaojfbaaaGreatDoorChecked
import GoSem.Claim
import GoSem.ClaimJoined
import GoSem.ClaimMapViews
import Derived.JoinedTies
import Derived.KernelRfl
namespace Go.Proofs.YtoboabkaojfbaaaGreatDoor
/- THE CELL 'sum', in the pinned program and in every row, IS THE sha256 OF THE DUMP (.gsa) THAT YtoboabkaojfbaaaGreatDoorProg.lean LOADS. Nothing in Lean hashes anything: it is a label: what it is worth is what the hold of that sum in a sandbox is worth. -/
noncomputable def Tryz.pinned : Pinned := { name := "ytoboabkaojfbaaagreatdoor", sum := "3437b11381b2a72c318394bee16dc31c942fe7a89e1f52e3eb8f9715e5287f40", checked := Tryz.checked }
namespace Rows
def none {H : Type} : Left H := { results := [], args := [] }

/- WHAT THE LISTED PACKAGE-LEVEL VARIABLES READ AS WHEN THE CALL BEGINS. Each datum BY PROGRAM (the guide's laid-datum.mjs) off the statement by which the dump's own 'gosem.cut.vars' lays the variable. In a bare row this is a premise. The card (YtoboabkaojfbaaaGreatDoorCards.lean) ties it to the program's text. -/
def laid_math_bits_deBruijn32tab {H : Type} : DataW H := .agg [.lit (.int .u8 0), .lit (.int .u8 1), .lit (.int .u8 28), .lit (.int .u8 2), .lit (.int .u8 29), .lit (.int .u8 14), .lit (.int .u8 24), .lit (.int .u8 3), .lit (.int .u8 30), .lit (.int .u8 22), .lit (.int .u8 20), .lit (.int .u8 15), .lit (.int .u8 25), .lit (.int .u8 17), .lit (.int .u8 4), .lit (.int .u8 8), .lit (.int .u8 31), .lit (.int .u8 27), .lit (.int .u8 13), .lit (.int .u8 23), .lit (.int .u8 21), .lit (.int .u8 19), .lit (.int .u8 16), .lit (.int .u8 7), .lit (.int .u8 26), .lit (.int .u8 12), .lit (.int .u8 18), .lit (.int .u8 6), .lit (.int .u8 11), .lit (.int .u8 5), .lit (.int .u8 10), .lit (.int .u8 9)]
def laid_math_bits_deBruijn64tab {H : Type} : DataW H := .agg [.lit (.int .u8 0), .lit (.int .u8 1), .lit (.int .u8 56), .lit (.int .u8 2), .lit (.int .u8 57), .lit (.int .u8 49), .lit (.int .u8 28), .lit (.int .u8 3), .lit (.int .u8 61), .lit (.int .u8 58), .lit (.int .u8 42), .lit (.int .u8 50), .lit (.int .u8 38), .lit (.int .u8 29), .lit (.int .u8 17), .lit (.int .u8 4), .lit (.int .u8 62), .lit (.int .u8 47), .lit (.int .u8 59), .lit (.int .u8 36), .lit (.int .u8 45), .lit (.int .u8 43), .lit (.int .u8 51), .lit (.int .u8 22), .lit (.int .u8 53), .lit (.int .u8 39), .lit (.int .u8 33), .lit (.int .u8 30), .lit (.int .u8 24), .lit (.int .u8 18), .lit (.int .u8 12), .lit (.int .u8 5), .lit (.int .u8 63), .lit (.int .u8 55), .lit (.int .u8 48), .lit (.int .u8 27), .lit (.int .u8 60), .lit (.int .u8 41), .lit (.int .u8 37), .lit (.int .u8 16), .lit (.int .u8 46), .lit (.int .u8 35), .lit (.int .u8 44), .lit (.int .u8 21), .lit (.int .u8 52), .lit (.int .u8 32), .lit (.int .u8 23), .lit (.int .u8 11), .lit (.int .u8 54), .lit (.int .u8 26), .lit (.int .u8 40), .lit (.int .u8 15), .lit (.int .u8 34), .lit (.int .u8 20), .lit (.int .u8 31), .lit (.int .u8 10), .lit (.int .u8 25), .lit (.int .u8 14), .lit (.int .u8 19), .lit (.int .u8 9), .lit (.int .u8 13), .lit (.int .u8 8), .lit (.int .u8 7), .lit (.int .u8 6)]
def laid_docket_digest_round {H : Type} : DataW H := .agg [.lit (.int .u32 1116352408), .lit (.int .u32 1899447441), .lit (.int .u32 3049323471), .lit (.int .u32 3921009573), .lit (.int .u32 961987163), .lit (.int .u32 1508970993), .lit (.int .u32 2453635748), .lit (.int .u32 2870763221), .lit (.int .u32 3624381080), .lit (.int .u32 310598401), .lit (.int .u32 607225278), .lit (.int .u32 1426881987), .lit (.int .u32 1925078388), .lit (.int .u32 2162078206), .lit (.int .u32 2614888103), .lit (.int .u32 3248222580), .lit (.int .u32 3835390401), .lit (.int .u32 4022224774), .lit (.int .u32 264347078), .lit (.int .u32 604807628), .lit (.int .u32 770255983), .lit (.int .u32 1249150122), .lit (.int .u32 1555081692), .lit (.int .u32 1996064986), .lit (.int .u32 2554220882), .lit (.int .u32 2821834349), .lit (.int .u32 2952996808), .lit (.int .u32 3210313671), .lit (.int .u32 3336571891), .lit (.int .u32 3584528711), .lit (.int .u32 113926993), .lit (.int .u32 338241895), .lit (.int .u32 666307205), .lit (.int .u32 773529912), .lit (.int .u32 1294757372), .lit (.int .u32 1396182291), .lit (.int .u32 1695183700), .lit (.int .u32 1986661051), .lit (.int .u32 2177026350), .lit (.int .u32 2456956037), .lit (.int .u32 2730485921), .lit (.int .u32 2820302411), .lit (.int .u32 3259730800), .lit (.int .u32 3345764771), .lit (.int .u32 3516065817), .lit (.int .u32 3600352804), .lit (.int .u32 4094571909), .lit (.int .u32 275423344), .lit (.int .u32 430227734), .lit (.int .u32 506948616), .lit (.int .u32 659060556), .lit (.int .u32 883997877), .lit (.int .u32 958139571), .lit (.int .u32 1322822218), .lit (.int .u32 1537002063), .lit (.int .u32 1747873779), .lit (.int .u32 1955562222), .lit (.int .u32 2024104815), .lit (.int .u32 2227730452), .lit (.int .u32 2361852424), .lit (.int .u32 2428436474), .lit (.int .u32 2756734187), .lit (.int .u32 3204031479), .lit (.int .u32 3329325298)]

/-- 'docketlaw21.CosignFaces': WHATEVER THE INPUT: true; the input reads as it did. -/
def cosignFacesSpec : ChangeSpec := { name := "cosignFaces", fn := fun _ => fun
  | [d1, d2, d3, d4, d5] => { results := [.lit (.bool true)], args := [d1, d2, d3, d4, d5] }
  | _ => none }
def cosignFacesRow : OpenClaim := { program := "ytoboabkaojfbaaagreatdoor", sum := "3437b11381b2a72c318394bee16dc31c942fe7a89e1f52e3eb8f9715e5287f40", func := "docket/docketlaw21.CosignFaces", spec := "cosignFaces", inPlace := ["internal/bytealg.Compare", "internal/reflectlite.TypeOf", "maps.clone"], unfollowed := true, recurses := true, named := ["math/bits.deBruijn32tab", "math/bits.deBruijn64tab", "docket/digest.round"], plainKeys := false, apart := false, laid := [("math/bits.deBruijn32tab", laid_math_bits_deBruijn32tab), ("math/bits.deBruijn64tab", laid_math_bits_deBruijn64tab), ("docket/digest.round", laid_docket_digest_round)] }
def CosignFacesSaid : Prop := cosignFacesRow.holds Tryz.pinned (OpenSpec.ofChange cosignFacesSpec)

/-- ITS FALSE NEIGHBOUR: 'it returns false'. Refute it at one input. -/
def cosignFacesWrong : ChangeSpec := { name := "cosignFaces", fn := fun _ => fun
  | [d1, d2, d3, d4, d5] => { results := [.lit (.bool false)], args := [d1, d2, d3, d4, d5] }
  | _ => none }
def CosignFacesWrongFalsely : Prop := cosignFacesRow.holds Tryz.pinned (OpenSpec.ofChange cosignFacesWrong)

/-- 'docketlaw21.CosignEncodes': WHATEVER THE INPUT: true; the input reads as it did. -/
def cosignEncodesSpec : ChangeSpec := { name := "cosignEncodes", fn := fun _ => fun
  | [d] => { results := [.lit (.bool true)], args := [d] }
  | _ => none }
def cosignEncodesRow : OpenClaim := { program := "ytoboabkaojfbaaagreatdoor", sum := "3437b11381b2a72c318394bee16dc31c942fe7a89e1f52e3eb8f9715e5287f40", func := "docket/docketlaw21.CosignEncodes", spec := "cosignEncodes", inPlace := ["internal/bytealg.Compare", "internal/reflectlite.TypeOf", "maps.clone"], unfollowed := true, recurses := true, named := ["math/bits.deBruijn32tab", "math/bits.deBruijn64tab", "docket/digest.round"], plainKeys := false, apart := false, laid := [("math/bits.deBruijn32tab", laid_math_bits_deBruijn32tab), ("math/bits.deBruijn64tab", laid_math_bits_deBruijn64tab), ("docket/digest.round", laid_docket_digest_round)] }
def CosignEncodesSaid : Prop := cosignEncodesRow.holds Tryz.pinned (OpenSpec.ofChange cosignEncodesSpec)

/-- ITS FALSE NEIGHBOUR: 'it returns false'. Refute it at one input. -/
def cosignEncodesWrong : ChangeSpec := { name := "cosignEncodes", fn := fun _ => fun
  | [d] => { results := [.lit (.bool false)], args := [d] }
  | _ => none }
def CosignEncodesWrongFalsely : Prop := cosignEncodesRow.holds Tryz.pinned (OpenSpec.ofChange cosignEncodesWrong)

/-- 'docketlaw21.CosignDecodes': WHATEVER THE INPUT: true; the input reads as it did. -/
def cosignDecodesSpec : ChangeSpec := { name := "cosignDecodes", fn := fun _ => fun
  | [d1, d2] => { results := [.lit (.bool true)], args := [d1, d2] }
  | _ => none }
def cosignDecodesRow : OpenClaim := { program := "ytoboabkaojfbaaagreatdoor", sum := "3437b11381b2a72c318394bee16dc31c942fe7a89e1f52e3eb8f9715e5287f40", func := "docket/docketlaw21.CosignDecodes", spec := "cosignDecodes", inPlace := ["internal/bytealg.Compare", "internal/reflectlite.TypeOf", "maps.clone"], unfollowed := true, recurses := true, named := ["docket/digest.round", "math/bits.deBruijn32tab", "math/bits.deBruijn64tab"], plainKeys := false, apart := false, laid := [("math/bits.deBruijn32tab", laid_math_bits_deBruijn32tab), ("math/bits.deBruijn64tab", laid_math_bits_deBruijn64tab), ("docket/digest.round", laid_docket_digest_round)] }
def CosignDecodesSaid : Prop := cosignDecodesRow.holds Tryz.pinned (OpenSpec.ofChange cosignDecodesSpec)

/-- ITS FALSE NEIGHBOUR: 'it returns false'. Refute it at one input. -/
def cosignDecodesWrong : ChangeSpec := { name := "cosignDecodes", fn := fun _ => fun
  | [d1, d2] => { results := [.lit (.bool false)], args := [d1, d2] }
  | _ => none }
def CosignDecodesWrongFalsely : Prop := cosignDecodesRow.holds Tryz.pinned (OpenSpec.ofChange cosignDecodesWrong)

/-- 'docketlaw21.CosignAccuses': WHATEVER THE INPUT: true; the input reads as it did. -/
def cosignAccusesSpec : ChangeSpec := { name := "cosignAccuses", fn := fun _ => fun
  | [d1, d2, d3] => { results := [.lit (.bool true)], args := [d1, d2, d3] }
  | _ => none }
def cosignAccusesRow : OpenClaim := { program := "ytoboabkaojfbaaagreatdoor", sum := "3437b11381b2a72c318394bee16dc31c942fe7a89e1f52e3eb8f9715e5287f40", func := "docket/docketlaw21.CosignAccuses", spec := "cosignAccuses", inPlace := ["internal/bytealg.Compare", "internal/reflectlite.TypeOf", "maps.clone"], unfollowed := true, recurses := true, named := ["math/bits.deBruijn32tab", "math/bits.deBruijn64tab", "docket/digest.round"], plainKeys := false, apart := false, laid := [("math/bits.deBruijn32tab", laid_math_bits_deBruijn32tab), ("math/bits.deBruijn64tab", laid_math_bits_deBruijn64tab), ("docket/digest.round", laid_docket_digest_round)] }
def CosignAccusesSaid : Prop := cosignAccusesRow.holds Tryz.pinned (OpenSpec.ofChange cosignAccusesSpec)

/-- ITS FALSE NEIGHBOUR: 'it returns false'. Refute it at one input. -/
def cosignAccusesWrong : ChangeSpec := { name := "cosignAccuses", fn := fun _ => fun
  | [d1, d2, d3] => { results := [.lit (.bool false)], args := [d1, d2, d3] }
  | _ => none }
def CosignAccusesWrongFalsely : Prop := cosignAccusesRow.holds Tryz.pinned (OpenSpec.ofChange cosignAccusesWrong)

/-- 'docketlaw21.CosignTells': WHATEVER THE INPUT: true; the input reads as it did. -/
def cosignTellsSpec : ChangeSpec := { name := "cosignTells", fn := fun _ => fun
  | [d1, d2, d3, d4] => { results := [.lit (.bool true)], args := [d1, d2, d3, d4] }
  | _ => none }
def cosignTellsRow : OpenClaim := { program := "ytoboabkaojfbaaagreatdoor", sum := "3437b11381b2a72c318394bee16dc31c942fe7a89e1f52e3eb8f9715e5287f40", func := "docket/docketlaw21.CosignTells", spec := "cosignTells", inPlace := ["internal/bytealg.Compare", "internal/reflectlite.TypeOf", "maps.clone"], unfollowed := true, recurses := true, named := ["math/bits.deBruijn32tab", "math/bits.deBruijn64tab", "docket/digest.round"], plainKeys := false, apart := false, laid := [("math/bits.deBruijn32tab", laid_math_bits_deBruijn32tab), ("math/bits.deBruijn64tab", laid_math_bits_deBruijn64tab), ("docket/digest.round", laid_docket_digest_round)] }
def CosignTellsSaid : Prop := cosignTellsRow.holds Tryz.pinned (OpenSpec.ofChange cosignTellsSpec)

/-- ITS FALSE NEIGHBOUR: 'it returns false'. Refute it at one input. -/
def cosignTellsWrong : ChangeSpec := { name := "cosignTells", fn := fun _ => fun
  | [d1, d2, d3, d4] => { results := [.lit (.bool false)], args := [d1, d2, d3, d4] }
  | _ => none }
def CosignTellsWrongFalsely : Prop := cosignTellsRow.holds Tryz.pinned (OpenSpec.ofChange cosignTellsWrong)

/-- 'docketlaw21.CosignShows': WHATEVER THE INPUT: true; the input reads as it did. -/
def cosignShowsSpec : ChangeSpec := { name := "cosignShows", fn := fun _ => fun
  | [d1, d2, d3, d4] => { results := [.lit (.bool true)], args := [d1, d2, d3, d4] }
  | _ => none }
def cosignShowsRow : OpenClaim := { program := "ytoboabkaojfbaaagreatdoor", sum := "3437b11381b2a72c318394bee16dc31c942fe7a89e1f52e3eb8f9715e5287f40", func := "docket/docketlaw21.CosignShows", spec := "cosignShows", inPlace := ["internal/bytealg.Compare", "internal/reflectlite.TypeOf", "maps.clone"], unfollowed := true, recurses := true, named := ["docket/digest.round", "math/bits.deBruijn32tab", "math/bits.deBruijn64tab"], plainKeys := false, apart := false, laid := [("math/bits.deBruijn32tab", laid_math_bits_deBruijn32tab), ("math/bits.deBruijn64tab", laid_math_bits_deBruijn64tab), ("docket/digest.round", laid_docket_digest_round)] }
def CosignShowsSaid : Prop := cosignShowsRow.holds Tryz.pinned (OpenSpec.ofChange cosignShowsSpec)

/-- ITS FALSE NEIGHBOUR: 'it returns false'. Refute it at one input. -/
def cosignShowsWrong : ChangeSpec := { name := "cosignShows", fn := fun _ => fun
  | [d1, d2, d3, d4] => { results := [.lit (.bool false)], args := [d1, d2, d3, d4] }
  | _ => none }
def CosignShowsWrongFalsely : Prop := cosignShowsRow.holds Tryz.pinned (OpenSpec.ofChange cosignShowsWrong)

/-- 'docketlaw21.CosignBack': WHATEVER THE INPUT: true; the input reads as it did. -/
def cosignBackSpec : ChangeSpec := { name := "cosignBack", fn := fun _ => fun
  | [d1, d2] => { results := [.lit (.bool true)], args := [d1, d2] }
  | _ => none }
def cosignBackRow : OpenClaim := { program := "ytoboabkaojfbaaagreatdoor", sum := "3437b11381b2a72c318394bee16dc31c942fe7a89e1f52e3eb8f9715e5287f40", func := "docket/docketlaw21.CosignBack", spec := "cosignBack", inPlace := ["internal/bytealg.Compare", "internal/reflectlite.TypeOf", "maps.clone"], unfollowed := true, recurses := true, named := ["math/bits.deBruijn32tab", "math/bits.deBruijn64tab", "docket/digest.round"], plainKeys := false, apart := false, laid := [("math/bits.deBruijn32tab", laid_math_bits_deBruijn32tab), ("math/bits.deBruijn64tab", laid_math_bits_deBruijn64tab), ("docket/digest.round", laid_docket_digest_round)] }
def CosignBackSaid : Prop := cosignBackRow.holds Tryz.pinned (OpenSpec.ofChange cosignBackSpec)

/-- ITS FALSE NEIGHBOUR: 'it returns false'. Refute it at one input. -/
def cosignBackWrong : ChangeSpec := { name := "cosignBack", fn := fun _ => fun
  | [d1, d2] => { results := [.lit (.bool false)], args := [d1, d2] }
  | _ => none }
def CosignBackWrongFalsely : Prop := cosignBackRow.holds Tryz.pinned (OpenSpec.ofChange cosignBackWrong)

/-- 'docketlaw21.CosignHonest': WHATEVER THE INPUT: true; the input reads as it did. -/
def cosignHonestSpec : ChangeSpec := { name := "cosignHonest", fn := fun _ => fun
  | [d1, d2, d3, d4, d5, d6, d7, d8] => { results := [.lit (.bool true)], args := [d1, d2, d3, d4, d5, d6, d7, d8] }
  | _ => none }
def cosignHonestRow : OpenClaim := { program := "ytoboabkaojfbaaagreatdoor", sum := "3437b11381b2a72c318394bee16dc31c942fe7a89e1f52e3eb8f9715e5287f40", func := "docket/docketlaw21.CosignHonest", spec := "cosignHonest", inPlace := ["internal/bytealg.Compare", "internal/reflectlite.TypeOf", "maps.clone"], unfollowed := true, recurses := true, named := ["docket/digest.round", "math/bits.deBruijn32tab", "math/bits.deBruijn64tab"], plainKeys := false, apart := false, laid := [("math/bits.deBruijn32tab", laid_math_bits_deBruijn32tab), ("math/bits.deBruijn64tab", laid_math_bits_deBruijn64tab), ("docket/digest.round", laid_docket_digest_round)] }
def CosignHonestSaid : Prop := cosignHonestRow.holds Tryz.pinned (OpenSpec.ofChange cosignHonestSpec)

/-- ITS FALSE NEIGHBOUR: 'it returns false'. Refute it at one input. -/
def cosignHonestWrong : ChangeSpec := { name := "cosignHonest", fn := fun _ => fun
  | [d1, d2, d3, d4, d5, d6, d7, d8] => { results := [.lit (.bool false)], args := [d1, d2, d3, d4, d5, d6, d7, d8] }
  | _ => none }
def CosignHonestWrongFalsely : Prop := cosignHonestRow.holds Tryz.pinned (OpenSpec.ofChange cosignHonestWrong)

/-- 'docketlaw21.CosignKept': WHATEVER THE INPUT: true; the input reads as it did. -/
def cosignKeptSpec : ChangeSpec := { name := "cosignKept", fn := fun _ => fun
  | [d] => { results := [.lit (.bool true)], args := [d] }
  | _ => none }
def cosignKeptRow : OpenClaim := { program := "ytoboabkaojfbaaagreatdoor", sum := "3437b11381b2a72c318394bee16dc31c942fe7a89e1f52e3eb8f9715e5287f40", func := "docket/docketlaw21.CosignKept", spec := "cosignKept", inPlace := ["internal/bytealg.Compare", "internal/reflectlite.TypeOf", "maps.clone"], unfollowed := true, recurses := true, named := ["math/bits.deBruijn32tab", "math/bits.deBruijn64tab", "docket/digest.round"], plainKeys := false, apart := false, laid := [("math/bits.deBruijn32tab", laid_math_bits_deBruijn32tab), ("math/bits.deBruijn64tab", laid_math_bits_deBruijn64tab), ("docket/digest.round", laid_docket_digest_round)] }
def CosignKeptSaid : Prop := cosignKeptRow.holds Tryz.pinned (OpenSpec.ofChange cosignKeptSpec)

/-- ITS FALSE NEIGHBOUR: 'it returns false'. Refute it at one input. -/
def cosignKeptWrong : ChangeSpec := { name := "cosignKept", fn := fun _ => fun
  | [d] => { results := [.lit (.bool false)], args := [d] }
  | _ => none }
def CosignKeptWrongFalsely : Prop := cosignKeptRow.holds Tryz.pinned (OpenSpec.ofChange cosignKeptWrong)

/- THE SECOND FORM. 'bulk': how many values and letters a reading holds, each counted each time it is reached (what is shared counts as often as it is met; a slice's spare places count too). A statement '..UptoSaid' is the law's where the arguments, and the package variables that the reading takes, are together of bulk at most 1048576: NARROWER than '..Said'. Prove '..Said' where nothing that the law and all that it calls make is longer than what came in: it says more and counts as full. Else prove '..UptoSaid'. A law counts once. -/
mutual
def uptoBulk {H : Type} : DataW H → Nat
  | .lit (.string bytes) => bytes.length + 1
  | .lit _ => 1
  | .nil => 1
  | .ptr d => uptoBulk d + 1
  | .slice elems spare => uptoBulkAll elems + uptoBulkAll spare + 1
  | .agg parts => uptoBulkAll parts + 1
  | .iface _ d => uptoBulk d + 1
  | .map entries => uptoBulkEntries entries + 1
  | .held _ => 1
def uptoBulkAll {H : Type} : List (DataW H) → Nat
  | [] => 0
  | d :: r => uptoBulk d + uptoBulkAll r
def uptoBulkEntries {H : Type} : List (Lit × DataW H) → Nat
  | [] => 0
  | x :: r => uptoBulkEntry x + uptoBulkEntries r
def uptoBulkEntry {H : Type} : Lit × DataW H → Nat
  | (.string bytes, d) => bytes.length + uptoBulk d + 1
  | (_, d) => uptoBulk d + 1
 end
def uptoSmall : (H : Type) → List (DataW H) → Bool := fun _ ds => decide (uptoBulkAll ds ≤ 1048576)
def OpenSpec.upto (s : _root_.Go.ChangeSpec) : _root_.Go.OpenSpec := { _root_.Go.OpenSpec.ofChange s with cond := some uptoSmall }

/-- 'docketlaw21.CosignFaces', WHERE WHAT IT READS IS OF BULK AT MOST 1048576: true; the input reads as it did. -/
def cosignFacesUptoRow : OpenClaim := { program := "ytoboabkaojfbaaagreatdoor", sum := "3437b11381b2a72c318394bee16dc31c942fe7a89e1f52e3eb8f9715e5287f40", func := "docket/docketlaw21.CosignFaces", spec := "cosignFaces", inPlace := ["internal/bytealg.Compare", "internal/reflectlite.TypeOf", "maps.clone"], unfollowed := true, recurses := true, named := ["math/bits.deBruijn32tab", "math/bits.deBruijn64tab", "docket/digest.round"], plainKeys := false, apart := false, laid := [("math/bits.deBruijn32tab", laid_math_bits_deBruijn32tab), ("math/bits.deBruijn64tab", laid_math_bits_deBruijn64tab), ("docket/digest.round", laid_docket_digest_round)], narrowed := true }
def CosignFacesUptoSaid : Prop := cosignFacesUptoRow.holds Tryz.pinned (OpenSpec.upto cosignFacesSpec)

/-- 'docketlaw21.CosignEncodes', WHERE WHAT IT READS IS OF BULK AT MOST 1048576: true; the input reads as it did. -/
def cosignEncodesUptoRow : OpenClaim := { program := "ytoboabkaojfbaaagreatdoor", sum := "3437b11381b2a72c318394bee16dc31c942fe7a89e1f52e3eb8f9715e5287f40", func := "docket/docketlaw21.CosignEncodes", spec := "cosignEncodes", inPlace := ["internal/bytealg.Compare", "internal/reflectlite.TypeOf", "maps.clone"], unfollowed := true, recurses := true, named := ["math/bits.deBruijn32tab", "math/bits.deBruijn64tab", "docket/digest.round"], plainKeys := false, apart := false, laid := [("math/bits.deBruijn32tab", laid_math_bits_deBruijn32tab), ("math/bits.deBruijn64tab", laid_math_bits_deBruijn64tab), ("docket/digest.round", laid_docket_digest_round)], narrowed := true }
def CosignEncodesUptoSaid : Prop := cosignEncodesUptoRow.holds Tryz.pinned (OpenSpec.upto cosignEncodesSpec)

/-- 'docketlaw21.CosignDecodes', WHERE WHAT IT READS IS OF BULK AT MOST 1048576: true; the input reads as it did. -/
def cosignDecodesUptoRow : OpenClaim := { program := "ytoboabkaojfbaaagreatdoor", sum := "3437b11381b2a72c318394bee16dc31c942fe7a89e1f52e3eb8f9715e5287f40", func := "docket/docketlaw21.CosignDecodes", spec := "cosignDecodes", inPlace := ["internal/bytealg.Compare", "internal/reflectlite.TypeOf", "maps.clone"], unfollowed := true, recurses := true, named := ["docket/digest.round", "math/bits.deBruijn32tab", "math/bits.deBruijn64tab"], plainKeys := false, apart := false, laid := [("math/bits.deBruijn32tab", laid_math_bits_deBruijn32tab), ("math/bits.deBruijn64tab", laid_math_bits_deBruijn64tab), ("docket/digest.round", laid_docket_digest_round)], narrowed := true }
def CosignDecodesUptoSaid : Prop := cosignDecodesUptoRow.holds Tryz.pinned (OpenSpec.upto cosignDecodesSpec)

/-- 'docketlaw21.CosignAccuses', WHERE WHAT IT READS IS OF BULK AT MOST 1048576: true; the input reads as it did. -/
def cosignAccusesUptoRow : OpenClaim := { program := "ytoboabkaojfbaaagreatdoor", sum := "3437b11381b2a72c318394bee16dc31c942fe7a89e1f52e3eb8f9715e5287f40", func := "docket/docketlaw21.CosignAccuses", spec := "cosignAccuses", inPlace := ["internal/bytealg.Compare", "internal/reflectlite.TypeOf", "maps.clone"], unfollowed := true, recurses := true, named := ["math/bits.deBruijn32tab", "math/bits.deBruijn64tab", "docket/digest.round"], plainKeys := false, apart := false, laid := [("math/bits.deBruijn32tab", laid_math_bits_deBruijn32tab), ("math/bits.deBruijn64tab", laid_math_bits_deBruijn64tab), ("docket/digest.round", laid_docket_digest_round)], narrowed := true }
def CosignAccusesUptoSaid : Prop := cosignAccusesUptoRow.holds Tryz.pinned (OpenSpec.upto cosignAccusesSpec)

/-- 'docketlaw21.CosignTells', WHERE WHAT IT READS IS OF BULK AT MOST 1048576: true; the input reads as it did. -/
def cosignTellsUptoRow : OpenClaim := { program := "ytoboabkaojfbaaagreatdoor", sum := "3437b11381b2a72c318394bee16dc31c942fe7a89e1f52e3eb8f9715e5287f40", func := "docket/docketlaw21.CosignTells", spec := "cosignTells", inPlace := ["internal/bytealg.Compare", "internal/reflectlite.TypeOf", "maps.clone"], unfollowed := true, recurses := true, named := ["math/bits.deBruijn32tab", "math/bits.deBruijn64tab", "docket/digest.round"], plainKeys := false, apart := false, laid := [("math/bits.deBruijn32tab", laid_math_bits_deBruijn32tab), ("math/bits.deBruijn64tab", laid_math_bits_deBruijn64tab), ("docket/digest.round", laid_docket_digest_round)], narrowed := true }
def CosignTellsUptoSaid : Prop := cosignTellsUptoRow.holds Tryz.pinned (OpenSpec.upto cosignTellsSpec)

/-- 'docketlaw21.CosignShows', WHERE WHAT IT READS IS OF BULK AT MOST 1048576: true; the input reads as it did. -/
def cosignShowsUptoRow : OpenClaim := { program := "ytoboabkaojfbaaagreatdoor", sum := "3437b11381b2a72c318394bee16dc31c942fe7a89e1f52e3eb8f9715e5287f40", func := "docket/docketlaw21.CosignShows", spec := "cosignShows", inPlace := ["internal/bytealg.Compare", "internal/reflectlite.TypeOf", "maps.clone"], unfollowed := true, recurses := true, named := ["docket/digest.round", "math/bits.deBruijn32tab", "math/bits.deBruijn64tab"], plainKeys := false, apart := false, laid := [("math/bits.deBruijn32tab", laid_math_bits_deBruijn32tab), ("math/bits.deBruijn64tab", laid_math_bits_deBruijn64tab), ("docket/digest.round", laid_docket_digest_round)], narrowed := true }
def CosignShowsUptoSaid : Prop := cosignShowsUptoRow.holds Tryz.pinned (OpenSpec.upto cosignShowsSpec)

/-- 'docketlaw21.CosignBack', WHERE WHAT IT READS IS OF BULK AT MOST 1048576: true; the input reads as it did. -/
def cosignBackUptoRow : OpenClaim := { program := "ytoboabkaojfbaaagreatdoor", sum := "3437b11381b2a72c318394bee16dc31c942fe7a89e1f52e3eb8f9715e5287f40", func := "docket/docketlaw21.CosignBack", spec := "cosignBack", inPlace := ["internal/bytealg.Compare", "internal/reflectlite.TypeOf", "maps.clone"], unfollowed := true, recurses := true, named := ["math/bits.deBruijn32tab", "math/bits.deBruijn64tab", "docket/digest.round"], plainKeys := false, apart := false, laid := [("math/bits.deBruijn32tab", laid_math_bits_deBruijn32tab), ("math/bits.deBruijn64tab", laid_math_bits_deBruijn64tab), ("docket/digest.round", laid_docket_digest_round)], narrowed := true }
def CosignBackUptoSaid : Prop := cosignBackUptoRow.holds Tryz.pinned (OpenSpec.upto cosignBackSpec)

/-- 'docketlaw21.CosignHonest', WHERE WHAT IT READS IS OF BULK AT MOST 1048576: true; the input reads as it did. -/
def cosignHonestUptoRow : OpenClaim := { program := "ytoboabkaojfbaaagreatdoor", sum := "3437b11381b2a72c318394bee16dc31c942fe7a89e1f52e3eb8f9715e5287f40", func := "docket/docketlaw21.CosignHonest", spec := "cosignHonest", inPlace := ["internal/bytealg.Compare", "internal/reflectlite.TypeOf", "maps.clone"], unfollowed := true, recurses := true, named := ["docket/digest.round", "math/bits.deBruijn32tab", "math/bits.deBruijn64tab"], plainKeys := false, apart := false, laid := [("math/bits.deBruijn32tab", laid_math_bits_deBruijn32tab), ("math/bits.deBruijn64tab", laid_math_bits_deBruijn64tab), ("docket/digest.round", laid_docket_digest_round)], narrowed := true }
def CosignHonestUptoSaid : Prop := cosignHonestUptoRow.holds Tryz.pinned (OpenSpec.upto cosignHonestSpec)

/-- 'docketlaw21.CosignKept', WHERE WHAT IT READS IS OF BULK AT MOST 1048576: true; the input reads as it did. -/
def cosignKeptUptoRow : OpenClaim := { program := "ytoboabkaojfbaaagreatdoor", sum := "3437b11381b2a72c318394bee16dc31c942fe7a89e1f52e3eb8f9715e5287f40", func := "docket/docketlaw21.CosignKept", spec := "cosignKept", inPlace := ["internal/bytealg.Compare", "internal/reflectlite.TypeOf", "maps.clone"], unfollowed := true, recurses := true, named := ["math/bits.deBruijn32tab", "math/bits.deBruijn64tab", "docket/digest.round"], plainKeys := false, apart := false, laid := [("math/bits.deBruijn32tab", laid_math_bits_deBruijn32tab), ("math/bits.deBruijn64tab", laid_math_bits_deBruijn64tab), ("docket/digest.round", laid_docket_digest_round)], narrowed := true }
def CosignKeptUptoSaid : Prop := cosignKeptUptoRow.holds Tryz.pinned (OpenSpec.upto cosignKeptSpec)

end Rows
end Go.Proofs.YtoboabkaojfbaaaGreatDoor
