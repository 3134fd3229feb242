/-
  NARROWER THAN 'FOR EVERY INPUT', by the rows' own cells (each row's printed sentence says how): TilesBytes: laid · TilesNames: laid · TilesPlays: laid · TilesCache: laid · TilesRoom: laid.
  DERIVED. THE GIVEN ROWS OF THIS SEAT. 5 by the template 'for every input the law returns true; each argument reads behind the call as it read before'; 0 by the template 'total and deterministic' (their statements: YtgkehahklccacaaGreatDoorTotals.lean).
  GIVEN WITH THE SEED: the statements are not yours to turn. If you find one false, say at which input.
  Laid BY PROGRAM, IN A SANDBOX (cutbox-rows.mjs): the forced cells as the released guide's own fill.sh prints them over the translation 1865937b572a8bdf… (all of the seat's roots in one cut). By AI agents, Wed Nov 11 2026. No macro, syntax, notation, axiom, sorry.
-/
import Derived.Test.YtgkehahklccacaaGreatDoorChecked
import GoSem.Claim
import GoSem.ClaimJoined
import GoSem.ClaimMapViews
import Derived.JoinedTies
import Derived.KernelRfl
namespace Go.Proofs.YtgkehahklccacaaGreatDoor
/- THE CELL 'sum', in the pinned program and in every row, IS THE sha256 OF THE DUMP (.gsa) THAT YtgkehahklccacaaGreatDoorProg.lean LOADS. Nothing in Lean hashes anything: it is a label: what it is worth is what the hold of that sum in a sandbox is worth. -/
noncomputable def Tryz.pinned : Pinned := { name := "ytgkehahklccacaagreatdoor", sum := "1865937b572a8bdf919aff9ce3232f83f0996af6eec06c3e7689bd3fd0cc0115", checked := Tryz.checked }
namespace Rows
def none {H : Type} : Left H := { results := [], args := [] }

/- WHAT THE LISTED PACKAGE-LEVEL VARIABLES READ AS WHEN THE CALL BEGINS. Each datum BY PROGRAM (the guide's laid-datum.mjs) off the statement by which the dump's own 'gosem.cut.vars' lays the variable. In a bare row this is a premise. The card (YtgkehahklccacaaGreatDoorCards.lean) ties it to the program's text. -/
def laid_docket_digest_round {H : Type} : DataW H := .agg [.lit (.int .u32 1116352408), .lit (.int .u32 1899447441), .lit (.int .u32 3049323471), .lit (.int .u32 3921009573), .lit (.int .u32 961987163), .lit (.int .u32 1508970993), .lit (.int .u32 2453635748), .lit (.int .u32 2870763221), .lit (.int .u32 3624381080), .lit (.int .u32 310598401), .lit (.int .u32 607225278), .lit (.int .u32 1426881987), .lit (.int .u32 1925078388), .lit (.int .u32 2162078206), .lit (.int .u32 2614888103), .lit (.int .u32 3248222580), .lit (.int .u32 3835390401), .lit (.int .u32 4022224774), .lit (.int .u32 264347078), .lit (.int .u32 604807628), .lit (.int .u32 770255983), .lit (.int .u32 1249150122), .lit (.int .u32 1555081692), .lit (.int .u32 1996064986), .lit (.int .u32 2554220882), .lit (.int .u32 2821834349), .lit (.int .u32 2952996808), .lit (.int .u32 3210313671), .lit (.int .u32 3336571891), .lit (.int .u32 3584528711), .lit (.int .u32 113926993), .lit (.int .u32 338241895), .lit (.int .u32 666307205), .lit (.int .u32 773529912), .lit (.int .u32 1294757372), .lit (.int .u32 1396182291), .lit (.int .u32 1695183700), .lit (.int .u32 1986661051), .lit (.int .u32 2177026350), .lit (.int .u32 2456956037), .lit (.int .u32 2730485921), .lit (.int .u32 2820302411), .lit (.int .u32 3259730800), .lit (.int .u32 3345764771), .lit (.int .u32 3516065817), .lit (.int .u32 3600352804), .lit (.int .u32 4094571909), .lit (.int .u32 275423344), .lit (.int .u32 430227734), .lit (.int .u32 506948616), .lit (.int .u32 659060556), .lit (.int .u32 883997877), .lit (.int .u32 958139571), .lit (.int .u32 1322822218), .lit (.int .u32 1537002063), .lit (.int .u32 1747873779), .lit (.int .u32 1955562222), .lit (.int .u32 2024104815), .lit (.int .u32 2227730452), .lit (.int .u32 2361852424), .lit (.int .u32 2428436474), .lit (.int .u32 2756734187), .lit (.int .u32 3204031479), .lit (.int .u32 3329325298)]
def laid_docket_frame_half {H : Type} : DataW H := .agg [.lit (.int .u32 0), .lit (.int .u32 498536548), .lit (.int .u32 997073096), .lit (.int .u32 651767980), .lit (.int .u32 1994146192), .lit (.int .u32 1802195444), .lit (.int .u32 1303535960), .lit (.int .u32 1342533948), .lit (.int .u32 3988292384), .lit (.int .u32 4027552580), .lit (.int .u32 3604390888), .lit (.int .u32 3412177804), .lit (.int .u32 2607071920), .lit (.int .u32 2262029012), .lit (.int .u32 2685067896), .lit (.int .u32 3183342108)]
def laid_math_bits_deBruijn32tab {H : Type} : DataW H := .agg [.lit (.int .u8 0), .lit (.int .u8 1), .lit (.int .u8 28), .lit (.int .u8 2), .lit (.int .u8 29), .lit (.int .u8 14), .lit (.int .u8 24), .lit (.int .u8 3), .lit (.int .u8 30), .lit (.int .u8 22), .lit (.int .u8 20), .lit (.int .u8 15), .lit (.int .u8 25), .lit (.int .u8 17), .lit (.int .u8 4), .lit (.int .u8 8), .lit (.int .u8 31), .lit (.int .u8 27), .lit (.int .u8 13), .lit (.int .u8 23), .lit (.int .u8 21), .lit (.int .u8 19), .lit (.int .u8 16), .lit (.int .u8 7), .lit (.int .u8 26), .lit (.int .u8 12), .lit (.int .u8 18), .lit (.int .u8 6), .lit (.int .u8 11), .lit (.int .u8 5), .lit (.int .u8 10), .lit (.int .u8 9)]
def laid_math_bits_deBruijn64tab {H : Type} : DataW H := .agg [.lit (.int .u8 0), .lit (.int .u8 1), .lit (.int .u8 56), .lit (.int .u8 2), .lit (.int .u8 57), .lit (.int .u8 49), .lit (.int .u8 28), .lit (.int .u8 3), .lit (.int .u8 61), .lit (.int .u8 58), .lit (.int .u8 42), .lit (.int .u8 50), .lit (.int .u8 38), .lit (.int .u8 29), .lit (.int .u8 17), .lit (.int .u8 4), .lit (.int .u8 62), .lit (.int .u8 47), .lit (.int .u8 59), .lit (.int .u8 36), .lit (.int .u8 45), .lit (.int .u8 43), .lit (.int .u8 51), .lit (.int .u8 22), .lit (.int .u8 53), .lit (.int .u8 39), .lit (.int .u8 33), .lit (.int .u8 30), .lit (.int .u8 24), .lit (.int .u8 18), .lit (.int .u8 12), .lit (.int .u8 5), .lit (.int .u8 63), .lit (.int .u8 55), .lit (.int .u8 48), .lit (.int .u8 27), .lit (.int .u8 60), .lit (.int .u8 41), .lit (.int .u8 37), .lit (.int .u8 16), .lit (.int .u8 46), .lit (.int .u8 35), .lit (.int .u8 44), .lit (.int .u8 21), .lit (.int .u8 52), .lit (.int .u8 32), .lit (.int .u8 23), .lit (.int .u8 11), .lit (.int .u8 54), .lit (.int .u8 26), .lit (.int .u8 40), .lit (.int .u8 15), .lit (.int .u8 34), .lit (.int .u8 20), .lit (.int .u8 31), .lit (.int .u8 10), .lit (.int .u8 25), .lit (.int .u8 14), .lit (.int .u8 19), .lit (.int .u8 9), .lit (.int .u8 13), .lit (.int .u8 8), .lit (.int .u8 7), .lit (.int .u8 6)]

/-- 'docketlaw7.TilesBytes': WHATEVER THE INPUT: true; the input reads as it did. -/
def tilesBytesSpec : ChangeSpec := { name := "tilesBytes", fn := fun _ => fun
  | [d1, d2, d3, d4, d5, d6, d7] => { results := [.lit (.bool true)], args := [d1, d2, d3, d4, d5, d6, d7] }
  | _ => none }
def tilesBytesRow : OpenClaim := { program := "ytgkehahklccacaagreatdoor", sum := "1865937b572a8bdf919aff9ce3232f83f0996af6eec06c3e7689bd3fd0cc0115", func := "docket/docketlaw7.TilesBytes", spec := "tilesBytes", inPlace := ["internal/reflectlite.TypeOf", "maps.clone"], unfollowed := true, recurses := true, named := ["docket/frame.half", "docket/digest.round"], plainKeys := false, apart := false, laid := [("docket/digest.round", laid_docket_digest_round), ("docket/frame.half", laid_docket_frame_half)] }
def TilesBytesSaid : Prop := tilesBytesRow.holds Tryz.pinned (OpenSpec.ofChange tilesBytesSpec)

/-- ITS FALSE NEIGHBOUR: 'it returns false'. Refute it at one input. -/
def tilesBytesWrong : ChangeSpec := { name := "tilesBytes", fn := fun _ => fun
  | [d1, d2, d3, d4, d5, d6, d7] => { results := [.lit (.bool false)], args := [d1, d2, d3, d4, d5, d6, d7] }
  | _ => none }
def TilesBytesWrongFalsely : Prop := tilesBytesRow.holds Tryz.pinned (OpenSpec.ofChange tilesBytesWrong)

/-- 'docketlaw7.TilesNames': WHATEVER THE INPUT: true; the input reads as it did. -/
def tilesNamesSpec : ChangeSpec := { name := "tilesNames", fn := fun _ => fun
  | [] => { results := [.lit (.bool true)], args := [] }
  | _ => none }
def tilesNamesRow : OpenClaim := { program := "ytgkehahklccacaagreatdoor", sum := "1865937b572a8bdf919aff9ce3232f83f0996af6eec06c3e7689bd3fd0cc0115", func := "docket/docketlaw7.TilesNames", spec := "tilesNames", inPlace := ["internal/reflectlite.TypeOf", "maps.clone"], unfollowed := true, recurses := true, named := ["docket/frame.half", "docket/digest.round", "math/bits.deBruijn32tab", "math/bits.deBruijn64tab"], plainKeys := false, apart := false, laid := [("math/bits.deBruijn32tab", laid_math_bits_deBruijn32tab), ("math/bits.deBruijn64tab", laid_math_bits_deBruijn64tab), ("docket/digest.round", laid_docket_digest_round), ("docket/frame.half", laid_docket_frame_half)] }
def TilesNamesSaid : Prop := tilesNamesRow.holds Tryz.pinned (OpenSpec.ofChange tilesNamesSpec)

/-- ITS FALSE NEIGHBOUR: 'it returns false'. Refute it at one input. -/
def tilesNamesWrong : ChangeSpec := { name := "tilesNames", fn := fun _ => fun
  | [] => { results := [.lit (.bool false)], args := [] }
  | _ => none }
def TilesNamesWrongFalsely : Prop := tilesNamesRow.holds Tryz.pinned (OpenSpec.ofChange tilesNamesWrong)

/-- 'docketlaw7.TilesPlays': WHATEVER THE INPUT: true; the input reads as it did. -/
def tilesPlaysSpec : ChangeSpec := { name := "tilesPlays", fn := fun _ => fun
  | [d1, d2, d3] => { results := [.lit (.bool true)], args := [d1, d2, d3] }
  | _ => none }
def tilesPlaysRow : OpenClaim := { program := "ytgkehahklccacaagreatdoor", sum := "1865937b572a8bdf919aff9ce3232f83f0996af6eec06c3e7689bd3fd0cc0115", func := "docket/docketlaw7.TilesPlays", spec := "tilesPlays", inPlace := ["internal/reflectlite.TypeOf", "maps.clone"], unfollowed := true, recurses := true, named := ["docket/frame.half", "docket/digest.round", "math/bits.deBruijn32tab", "math/bits.deBruijn64tab"], plainKeys := false, apart := false, laid := [("math/bits.deBruijn32tab", laid_math_bits_deBruijn32tab), ("math/bits.deBruijn64tab", laid_math_bits_deBruijn64tab), ("docket/digest.round", laid_docket_digest_round), ("docket/frame.half", laid_docket_frame_half)] }
def TilesPlaysSaid : Prop := tilesPlaysRow.holds Tryz.pinned (OpenSpec.ofChange tilesPlaysSpec)

/-- ITS FALSE NEIGHBOUR: 'it returns false'. Refute it at one input. -/
def tilesPlaysWrong : ChangeSpec := { name := "tilesPlays", fn := fun _ => fun
  | [d1, d2, d3] => { results := [.lit (.bool false)], args := [d1, d2, d3] }
  | _ => none }
def TilesPlaysWrongFalsely : Prop := tilesPlaysRow.holds Tryz.pinned (OpenSpec.ofChange tilesPlaysWrong)

/-- 'docketlaw7.TilesCache': WHATEVER THE INPUT: true; the input reads as it did. -/
def tilesCacheSpec : ChangeSpec := { name := "tilesCache", fn := fun _ => fun
  | [d1, d2, d3, d4, d5, d6, d7, d8, d9, d10] => { results := [.lit (.bool true)], args := [d1, d2, d3, d4, d5, d6, d7, d8, d9, d10] }
  | _ => none }
def tilesCacheRow : OpenClaim := { program := "ytgkehahklccacaagreatdoor", sum := "1865937b572a8bdf919aff9ce3232f83f0996af6eec06c3e7689bd3fd0cc0115", func := "docket/docketlaw7.TilesCache", spec := "tilesCache", inPlace := ["internal/reflectlite.TypeOf", "maps.clone"], unfollowed := true, recurses := true, named := ["docket/frame.half", "docket/digest.round", "math/bits.deBruijn32tab", "math/bits.deBruijn64tab"], plainKeys := false, apart := false, laid := [("math/bits.deBruijn32tab", laid_math_bits_deBruijn32tab), ("math/bits.deBruijn64tab", laid_math_bits_deBruijn64tab), ("docket/digest.round", laid_docket_digest_round), ("docket/frame.half", laid_docket_frame_half)] }
def TilesCacheSaid : Prop := tilesCacheRow.holds Tryz.pinned (OpenSpec.ofChange tilesCacheSpec)

/-- ITS FALSE NEIGHBOUR: 'it returns false'. Refute it at one input. -/
def tilesCacheWrong : ChangeSpec := { name := "tilesCache", fn := fun _ => fun
  | [d1, d2, d3, d4, d5, d6, d7, d8, d9, d10] => { results := [.lit (.bool false)], args := [d1, d2, d3, d4, d5, d6, d7, d8, d9, d10] }
  | _ => none }
def TilesCacheWrongFalsely : Prop := tilesCacheRow.holds Tryz.pinned (OpenSpec.ofChange tilesCacheWrong)

/-- 'docketlaw7.TilesRoom': WHATEVER THE INPUT: true; the input reads as it did. -/
def tilesRoomSpec : ChangeSpec := { name := "tilesRoom", fn := fun _ => fun
  | [d1, d2, d3, d4, d5, d6, d7] => { results := [.lit (.bool true)], args := [d1, d2, d3, d4, d5, d6, d7] }
  | _ => none }
def tilesRoomRow : OpenClaim := { program := "ytgkehahklccacaagreatdoor", sum := "1865937b572a8bdf919aff9ce3232f83f0996af6eec06c3e7689bd3fd0cc0115", func := "docket/docketlaw7.TilesRoom", spec := "tilesRoom", inPlace := ["internal/reflectlite.TypeOf", "maps.clone"], unfollowed := true, recurses := true, named := ["docket/frame.half", "docket/digest.round", "math/bits.deBruijn32tab", "math/bits.deBruijn64tab"], plainKeys := false, apart := false, laid := [("math/bits.deBruijn32tab", laid_math_bits_deBruijn32tab), ("math/bits.deBruijn64tab", laid_math_bits_deBruijn64tab), ("docket/digest.round", laid_docket_digest_round), ("docket/frame.half", laid_docket_frame_half)] }
def TilesRoomSaid : Prop := tilesRoomRow.holds Tryz.pinned (OpenSpec.ofChange tilesRoomSpec)

/-- ITS FALSE NEIGHBOUR: 'it returns false'. Refute it at one input. -/
def tilesRoomWrong : ChangeSpec := { name := "tilesRoom", fn := fun _ => fun
  | [d1, d2, d3, d4, d5, d6, d7] => { results := [.lit (.bool false)], args := [d1, d2, d3, d4, d5, d6, d7] }
  | _ => none }
def TilesRoomWrongFalsely : Prop := tilesRoomRow.holds Tryz.pinned (OpenSpec.ofChange tilesRoomWrong)

/- THE SECOND FORM. 'bulk': how many values and letters a reading holds, each counted each time it is reached (what is shared counts as often as it is met; a slice's spare places count too). A statement '..UptoSaid' is the law's where the arguments, and the package variables that the reading takes, are together of bulk at most 1048576: NARROWER than '..Said'. Prove '..Said' where nothing that the law and all that it calls make is longer than what came in: it says more and counts as full. Else prove '..UptoSaid'. A law counts once. -/
mutual
def uptoBulk {H : Type} : DataW H → Nat
  | .lit (.string bytes) => bytes.length + 1
  | .lit _ => 1
  | .nil => 1
  | .ptr d => uptoBulk d + 1
  | .slice elems spare => uptoBulkAll elems + uptoBulkAll spare + 1
  | .agg parts => uptoBulkAll parts + 1
  | .iface _ d => uptoBulk d + 1
  | .map entries => uptoBulkEntries entries + 1
  | .held _ => 1
def uptoBulkAll {H : Type} : List (DataW H) → Nat
  | [] => 0
  | d :: r => uptoBulk d + uptoBulkAll r
def uptoBulkEntries {H : Type} : List (Lit × DataW H) → Nat
  | [] => 0
  | x :: r => uptoBulkEntry x + uptoBulkEntries r
def uptoBulkEntry {H : Type} : Lit × DataW H → Nat
  | (.string bytes, d) => bytes.length + uptoBulk d + 1
  | (_, d) => uptoBulk d + 1
 end
def uptoSmall : (H : Type) → List (DataW H) → Bool := fun _ ds => decide (uptoBulkAll ds ≤ 1048576)
def OpenSpec.upto (s : _root_.Go.ChangeSpec) : _root_.Go.OpenSpec := { _root_.Go.OpenSpec.ofChange s with cond := some uptoSmall }

/-- 'docketlaw7.TilesBytes', WHERE WHAT IT READS IS OF BULK AT MOST 1048576: true; the input reads as it did. -/
def tilesBytesUptoRow : OpenClaim := { program := "ytgkehahklccacaagreatdoor", sum := "1865937b572a8bdf919aff9ce3232f83f0996af6eec06c3e7689bd3fd0cc0115", func := "docket/docketlaw7.TilesBytes", spec := "tilesBytes", inPlace := ["internal/reflectlite.TypeOf", "maps.clone"], unfollowed := true, recurses := true, named := ["docket/frame.half", "docket/digest.round"], plainKeys := false, apart := false, laid := [("docket/digest.round", laid_docket_digest_round), ("docket/frame.half", laid_docket_frame_half)], narrowed := true }
def TilesBytesUptoSaid : Prop := tilesBytesUptoRow.holds Tryz.pinned (OpenSpec.upto tilesBytesSpec)

/-- 'docketlaw7.TilesNames', WHERE WHAT IT READS IS OF BULK AT MOST 1048576: true; the input reads as it did. -/
def tilesNamesUptoRow : OpenClaim := { program := "ytgkehahklccacaagreatdoor", sum := "1865937b572a8bdf919aff9ce3232f83f0996af6eec06c3e7689bd3fd0cc0115", func := "docket/docketlaw7.TilesNames", spec := "tilesNames", inPlace := ["internal/reflectlite.TypeOf", "maps.clone"], unfollowed := true, recurses := true, named := ["docket/frame.half", "docket/digest.round", "math/bits.deBruijn32tab", "math/bits.deBruijn64tab"], plainKeys := false, apart := false, laid := [("math/bits.deBruijn32tab", laid_math_bits_deBruijn32tab), ("math/bits.deBruijn64tab", laid_math_bits_deBruijn64tab), ("docket/digest.round", laid_docket_digest_round), ("docket/frame.half", laid_docket_frame_half)], narrowed := true }
def TilesNamesUptoSaid : Prop := tilesNamesUptoRow.holds Tryz.pinned (OpenSpec.upto tilesNamesSpec)

/-- 'docketlaw7.TilesPlays', WHERE WHAT IT READS IS OF BULK AT MOST 1048576: true; the input reads as it did. -/
def tilesPlaysUptoRow : OpenClaim := { program := "ytgkehahklccacaagreatdoor", sum := "1865937b572a8bdf919aff9ce3232f83f0996af6eec06c3e7689bd3fd0cc0115", func := "docket/docketlaw7.TilesPlays", spec := "tilesPlays", inPlace := ["internal/reflectlite.TypeOf", "maps.clone"], unfollowed := true, recurses := true, named := ["docket/frame.half", "docket/digest.round", "math/bits.deBruijn32tab", "math/bits.deBruijn64tab"], plainKeys := false, apart := false, laid := [("math/bits.deBruijn32tab", laid_math_bits_deBruijn32tab), ("math/bits.deBruijn64tab", laid_math_bits_deBruijn64tab), ("docket/digest.round", laid_docket_digest_round), ("docket/frame.half", laid_docket_frame_half)], narrowed := true }
def TilesPlaysUptoSaid : Prop := tilesPlaysUptoRow.holds Tryz.pinned (OpenSpec.upto tilesPlaysSpec)

/-- 'docketlaw7.TilesCache', WHERE WHAT IT READS IS OF BULK AT MOST 1048576: true; the input reads as it did. -/
def tilesCacheUptoRow : OpenClaim := { program := "ytgkehahklccacaagreatdoor", sum := "1865937b572a8bdf919aff9ce3232f83f0996af6eec06c3e7689bd3fd0cc0115", func := "docket/docketlaw7.TilesCache", spec := "tilesCache", inPlace := ["internal/reflectlite.TypeOf", "maps.clone"], unfollowed := true, recurses := true, named := ["docket/frame.half", "docket/digest.round", "math/bits.deBruijn32tab", "math/bits.deBruijn64tab"], plainKeys := false, apart := false, laid := [("math/bits.deBruijn32tab", laid_math_bits_deBruijn32tab), ("math/bits.deBruijn64tab", laid_math_bits_deBruijn64tab), ("docket/digest.round", laid_docket_digest_round), ("docket/frame.half", laid_docket_frame_half)], narrowed := true }
def TilesCacheUptoSaid : Prop := tilesCacheUptoRow.holds Tryz.pinned (OpenSpec.upto tilesCacheSpec)

/-- 'docketlaw7.TilesRoom', WHERE WHAT IT READS IS OF BULK AT MOST 1048576: true; the input reads as it did. -/
def tilesRoomUptoRow : OpenClaim := { program := "ytgkehahklccacaagreatdoor", sum := "1865937b572a8bdf919aff9ce3232f83f0996af6eec06c3e7689bd3fd0cc0115", func := "docket/docketlaw7.TilesRoom", spec := "tilesRoom", inPlace := ["internal/reflectlite.TypeOf", "maps.clone"], unfollowed := true, recurses := true, named := ["docket/frame.half", "docket/digest.round", "math/bits.deBruijn32tab", "math/bits.deBruijn64tab"], plainKeys := false, apart := false, laid := [("math/bits.deBruijn32tab", laid_math_bits_deBruijn32tab), ("math/bits.deBruijn64tab", laid_math_bits_deBruijn64tab), ("docket/digest.round", laid_docket_digest_round), ("docket/frame.half", laid_docket_frame_half)], narrowed := true }
def TilesRoomUptoSaid : Prop := tilesRoomUptoRow.holds Tryz.pinned (OpenSpec.upto tilesRoomSpec)

end Rows
end Go.Proofs.YtgkehahklccacaaGreatDoor
