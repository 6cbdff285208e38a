/-
  NARROWER THAN 'FOR EVERY INPUT', by the rows' own cells (each row's printed sentence says how): PoolWaits: laid · ConnBeats: laid · ConnNotes: laid · ConnShakes: laid · ConnOrphans: laid · ConnNone: laid · ConnOwed: laid · PoolLeast: laid · PoolReadies: laid · PoolStops: laid · PoolNone: laid.
  DERIVED. THE GIVEN ROWS OF THIS SEAT. 11 by the template 'for every input the law returns true; each argument reads behind the call as it read before'; 0 by the template 'total and deterministic' (their statements: YtigdcbmcepajmaaGreatDoorTotals.lean).
  GIVEN WITH THE SEED: the statements are not yours to turn. If you find one false, say at which input.
  Laid BY PROGRAM, IN A SANDBOX (cutbox-rows.mjs): the forced cells as the released guide's own fill.sh prints them over the translation 10500e7c3c4fc490… (all of the seat's roots in one cut). By AI agents, Wed Nov 11 2026. No macro, syntax, notation, axiom, sorry.
-/
import Derived.Test.YtigdcbmcepajmaaGreatDoorChecked
import GoSem.PinnedTables
import GoSem.Claim
import GoSem.ClaimJoined
import GoSem.ClaimMapViews
import Derived.JoinedTies
import Derived.KernelRfl
namespace Go.Proofs.YtigdcbmcepajmaaGreatDoor
/- THE CELL 'sum', in the pinned program and in every row, IS THE sha256 OF THE DUMP (.gsa) THAT YtigdcbmcepajmaaGreatDoorProg.lean LOADS. Nothing in Lean hashes anything: it is a label: what it is worth is what the hold of that sum in a sandbox is worth. -/
noncomputable def Tryz.pinned : Pinned := { name := "ytigdcbmcepajmaagreatdoor", sum := "10500e7c3c4fc4907f0b6cf0142341019b0a6e27faf8c5cb338bd02fc0b0ebb8", checked := Tryz.checked }
namespace Rows
def none {H : Type} : Left H := { results := [], args := [] }

/- WHAT THE LISTED PACKAGE-LEVEL VARIABLES READ AS WHEN THE CALL BEGINS. Each datum BY PROGRAM (the guide's laid-datum.mjs) off the statement by which the dump's own 'gosem.cut.vars' lays the variable. In a bare row this is a premise. The card (YtigdcbmcepajmaaGreatDoorCards.lean) ties it to the program's text. -/
def laid_math_bits_deBruijn64tab {H : Type} : DataW H := .agg [.lit (.int .u8 0), .lit (.int .u8 1), .lit (.int .u8 56), .lit (.int .u8 2), .lit (.int .u8 57), .lit (.int .u8 49), .lit (.int .u8 28), .lit (.int .u8 3), .lit (.int .u8 61), .lit (.int .u8 58), .lit (.int .u8 42), .lit (.int .u8 50), .lit (.int .u8 38), .lit (.int .u8 29), .lit (.int .u8 17), .lit (.int .u8 4), .lit (.int .u8 62), .lit (.int .u8 47), .lit (.int .u8 59), .lit (.int .u8 36), .lit (.int .u8 45), .lit (.int .u8 43), .lit (.int .u8 51), .lit (.int .u8 22), .lit (.int .u8 53), .lit (.int .u8 39), .lit (.int .u8 33), .lit (.int .u8 30), .lit (.int .u8 24), .lit (.int .u8 18), .lit (.int .u8 12), .lit (.int .u8 5), .lit (.int .u8 63), .lit (.int .u8 55), .lit (.int .u8 48), .lit (.int .u8 27), .lit (.int .u8 60), .lit (.int .u8 41), .lit (.int .u8 37), .lit (.int .u8 16), .lit (.int .u8 46), .lit (.int .u8 35), .lit (.int .u8 44), .lit (.int .u8 21), .lit (.int .u8 52), .lit (.int .u8 32), .lit (.int .u8 23), .lit (.int .u8 11), .lit (.int .u8 54), .lit (.int .u8 26), .lit (.int .u8 40), .lit (.int .u8 15), .lit (.int .u8 34), .lit (.int .u8 20), .lit (.int .u8 31), .lit (.int .u8 10), .lit (.int .u8 25), .lit (.int .u8 14), .lit (.int .u8 19), .lit (.int .u8 9), .lit (.int .u8 13), .lit (.int .u8 8), .lit (.int .u8 7), .lit (.int .u8 6)]
def laid_unicode_utf8_acceptRanges {H : Type} : DataW H := .agg [.agg [.lit (.int .u8 128), .lit (.int .u8 191)], .agg [.lit (.int .u8 160), .lit (.int .u8 191)], .agg [.lit (.int .u8 128), .lit (.int .u8 159)], .agg [.lit (.int .u8 144), .lit (.int .u8 191)], .agg [.lit (.int .u8 128), .lit (.int .u8 143)], .agg [.lit (.int .u8 0), .lit (.int .u8 0)], .agg [.lit (.int .u8 0), .lit (.int .u8 0)], .agg [.lit (.int .u8 0), .lit (.int .u8 0)], .agg [.lit (.int .u8 0), .lit (.int .u8 0)], .agg [.lit (.int .u8 0), .lit (.int .u8 0)], .agg [.lit (.int .u8 0), .lit (.int .u8 0)], .agg [.lit (.int .u8 0), .lit (.int .u8 0)], .agg [.lit (.int .u8 0), .lit (.int .u8 0)], .agg [.lit (.int .u8 0), .lit (.int .u8 0)], .agg [.lit (.int .u8 0), .lit (.int .u8 0)], .agg [.lit (.int .u8 0), .lit (.int .u8 0)]]
/-- One of Go's own tables, pinned by name: the form's constant. -/
def laid_unicode_utf8_first : DataW Unit := Go.Pinned.utf8First

/-- 'signalboxlaw22.PoolWaits': WHATEVER THE INPUT: true; the input reads as it did. -/
def poolWaitsSpec : ChangeSpec := { name := "poolWaits", fn := fun _ => fun
  | [d1, d2, d3, d4] => { results := [.lit (.bool true)], args := [d1, d2, d3, d4] }
  | _ => none }
def poolWaitsRow : OpenClaim := { program := "ytigdcbmcepajmaagreatdoor", sum := "10500e7c3c4fc4907f0b6cf0142341019b0a6e27faf8c5cb338bd02fc0b0ebb8", func := "signalbox/signalboxlaw22.PoolWaits", spec := "poolWaits", inPlace := ["internal/bytealg.CountString", "internal/bytealg.IndexByteString", "internal/bytealg.IndexString", "internal/abi.NoEscape", "internal/bytealg.MakeNoZero", "math/bits.Add64"], unfollowed := true, recurses := true, named := ["internal/bytealg.MaxLen", "unicode/utf8.first", "unicode/utf8.acceptRanges", "math/bits.deBruijn64tab", "math/bits.divideError", "math/bits.overflowError"], plainKeys := false, apart := false, laid := [("math/bits.deBruijn64tab", laid_math_bits_deBruijn64tab), ("unicode/utf8.acceptRanges", laid_unicode_utf8_acceptRanges), ("unicode/utf8.first", laid_unicode_utf8_first)] }
def PoolWaitsSaid : Prop := poolWaitsRow.holds Tryz.pinned (OpenSpec.ofChange poolWaitsSpec)

/-- ITS FALSE NEIGHBOUR: 'it returns false'. Refute it at one input. -/
def poolWaitsWrong : ChangeSpec := { name := "poolWaits", fn := fun _ => fun
  | [d1, d2, d3, d4] => { results := [.lit (.bool false)], args := [d1, d2, d3, d4] }
  | _ => none }
def PoolWaitsWrongFalsely : Prop := poolWaitsRow.holds Tryz.pinned (OpenSpec.ofChange poolWaitsWrong)

/-- 'signalboxlaw21.ConnBeats': WHATEVER THE INPUT: true; the input reads as it did. -/
def connBeatsSpec : ChangeSpec := { name := "connBeats", fn := fun _ => fun
  | [d1, d2, d3, d4] => { results := [.lit (.bool true)], args := [d1, d2, d3, d4] }
  | _ => none }
def connBeatsRow : OpenClaim := { program := "ytigdcbmcepajmaagreatdoor", sum := "10500e7c3c4fc4907f0b6cf0142341019b0a6e27faf8c5cb338bd02fc0b0ebb8", func := "signalbox/signalboxlaw21.ConnBeats", spec := "connBeats", inPlace := ["internal/bytealg.CountString", "internal/bytealg.IndexByteString", "internal/bytealg.IndexString", "internal/abi.NoEscape", "internal/bytealg.MakeNoZero"], unfollowed := true, recurses := true, named := ["internal/bytealg.MaxLen", "unicode/utf8.first", "unicode/utf8.acceptRanges", "math/bits.deBruijn64tab"], plainKeys := false, apart := false, laid := [("math/bits.deBruijn64tab", laid_math_bits_deBruijn64tab), ("unicode/utf8.acceptRanges", laid_unicode_utf8_acceptRanges), ("unicode/utf8.first", laid_unicode_utf8_first)] }
def ConnBeatsSaid : Prop := connBeatsRow.holds Tryz.pinned (OpenSpec.ofChange connBeatsSpec)

/-- ITS FALSE NEIGHBOUR: 'it returns false'. Refute it at one input. -/
def connBeatsWrong : ChangeSpec := { name := "connBeats", fn := fun _ => fun
  | [d1, d2, d3, d4] => { results := [.lit (.bool false)], args := [d1, d2, d3, d4] }
  | _ => none }
def ConnBeatsWrongFalsely : Prop := connBeatsRow.holds Tryz.pinned (OpenSpec.ofChange connBeatsWrong)

/-- 'signalboxlaw21.ConnNotes': WHATEVER THE INPUT: true; the input reads as it did. -/
def connNotesSpec : ChangeSpec := { name := "connNotes", fn := fun _ => fun
  | [d1, d2, d3] => { results := [.lit (.bool true)], args := [d1, d2, d3] }
  | _ => none }
def connNotesRow : OpenClaim := { program := "ytigdcbmcepajmaagreatdoor", sum := "10500e7c3c4fc4907f0b6cf0142341019b0a6e27faf8c5cb338bd02fc0b0ebb8", func := "signalbox/signalboxlaw21.ConnNotes", spec := "connNotes", inPlace := ["internal/bytealg.CountString", "internal/bytealg.IndexByteString", "internal/bytealg.IndexString", "internal/abi.NoEscape", "internal/bytealg.MakeNoZero"], unfollowed := true, recurses := true, named := ["internal/bytealg.MaxLen", "unicode/utf8.first", "unicode/utf8.acceptRanges", "math/bits.deBruijn64tab"], plainKeys := false, apart := false, laid := [("math/bits.deBruijn64tab", laid_math_bits_deBruijn64tab), ("unicode/utf8.acceptRanges", laid_unicode_utf8_acceptRanges), ("unicode/utf8.first", laid_unicode_utf8_first)] }
def ConnNotesSaid : Prop := connNotesRow.holds Tryz.pinned (OpenSpec.ofChange connNotesSpec)

/-- ITS FALSE NEIGHBOUR: 'it returns false'. Refute it at one input. -/
def connNotesWrong : ChangeSpec := { name := "connNotes", fn := fun _ => fun
  | [d1, d2, d3] => { results := [.lit (.bool false)], args := [d1, d2, d3] }
  | _ => none }
def ConnNotesWrongFalsely : Prop := connNotesRow.holds Tryz.pinned (OpenSpec.ofChange connNotesWrong)

/-- 'signalboxlaw21.ConnShakes': WHATEVER THE INPUT: true; the input reads as it did. -/
def connShakesSpec : ChangeSpec := { name := "connShakes", fn := fun _ => fun
  | [d1, d2, d3, d4] => { results := [.lit (.bool true)], args := [d1, d2, d3, d4] }
  | _ => none }
def connShakesRow : OpenClaim := { program := "ytigdcbmcepajmaagreatdoor", sum := "10500e7c3c4fc4907f0b6cf0142341019b0a6e27faf8c5cb338bd02fc0b0ebb8", func := "signalbox/signalboxlaw21.ConnShakes", spec := "connShakes", inPlace := ["internal/bytealg.CountString", "internal/bytealg.IndexByteString", "internal/bytealg.IndexString", "internal/abi.NoEscape", "internal/bytealg.MakeNoZero"], unfollowed := true, recurses := true, named := ["internal/bytealg.MaxLen", "unicode/utf8.first", "unicode/utf8.acceptRanges", "math/bits.deBruijn64tab"], plainKeys := false, apart := false, laid := [("math/bits.deBruijn64tab", laid_math_bits_deBruijn64tab), ("unicode/utf8.acceptRanges", laid_unicode_utf8_acceptRanges), ("unicode/utf8.first", laid_unicode_utf8_first)] }
def ConnShakesSaid : Prop := connShakesRow.holds Tryz.pinned (OpenSpec.ofChange connShakesSpec)

/-- ITS FALSE NEIGHBOUR: 'it returns false'. Refute it at one input. -/
def connShakesWrong : ChangeSpec := { name := "connShakes", fn := fun _ => fun
  | [d1, d2, d3, d4] => { results := [.lit (.bool false)], args := [d1, d2, d3, d4] }
  | _ => none }
def ConnShakesWrongFalsely : Prop := connShakesRow.holds Tryz.pinned (OpenSpec.ofChange connShakesWrong)

/-- 'signalboxlaw21.ConnOrphans': WHATEVER THE INPUT: true; the input reads as it did. -/
def connOrphansSpec : ChangeSpec := { name := "connOrphans", fn := fun _ => fun
  | [d1, d2, d3] => { results := [.lit (.bool true)], args := [d1, d2, d3] }
  | _ => none }
def connOrphansRow : OpenClaim := { program := "ytigdcbmcepajmaagreatdoor", sum := "10500e7c3c4fc4907f0b6cf0142341019b0a6e27faf8c5cb338bd02fc0b0ebb8", func := "signalbox/signalboxlaw21.ConnOrphans", spec := "connOrphans", inPlace := ["internal/bytealg.CountString", "internal/bytealg.IndexByteString", "internal/bytealg.IndexString", "internal/abi.NoEscape", "internal/bytealg.MakeNoZero"], unfollowed := true, recurses := true, named := ["internal/bytealg.MaxLen", "unicode/utf8.first", "unicode/utf8.acceptRanges", "math/bits.deBruijn64tab"], plainKeys := false, apart := false, laid := [("math/bits.deBruijn64tab", laid_math_bits_deBruijn64tab), ("unicode/utf8.acceptRanges", laid_unicode_utf8_acceptRanges), ("unicode/utf8.first", laid_unicode_utf8_first)] }
def ConnOrphansSaid : Prop := connOrphansRow.holds Tryz.pinned (OpenSpec.ofChange connOrphansSpec)

/-- ITS FALSE NEIGHBOUR: 'it returns false'. Refute it at one input. -/
def connOrphansWrong : ChangeSpec := { name := "connOrphans", fn := fun _ => fun
  | [d1, d2, d3] => { results := [.lit (.bool false)], args := [d1, d2, d3] }
  | _ => none }
def ConnOrphansWrongFalsely : Prop := connOrphansRow.holds Tryz.pinned (OpenSpec.ofChange connOrphansWrong)

/-- 'signalboxlaw21.ConnNone': WHATEVER THE INPUT: true; the input reads as it did. -/
def connNoneSpec : ChangeSpec := { name := "connNone", fn := fun _ => fun
  | [d1, d2] => { results := [.lit (.bool true)], args := [d1, d2] }
  | _ => none }
def connNoneRow : OpenClaim := { program := "ytigdcbmcepajmaagreatdoor", sum := "10500e7c3c4fc4907f0b6cf0142341019b0a6e27faf8c5cb338bd02fc0b0ebb8", func := "signalbox/signalboxlaw21.ConnNone", spec := "connNone", inPlace := ["internal/bytealg.CountString", "internal/bytealg.IndexByteString", "internal/bytealg.IndexString", "internal/abi.NoEscape", "internal/bytealg.MakeNoZero"], unfollowed := true, recurses := true, named := ["internal/bytealg.MaxLen", "unicode/utf8.first", "unicode/utf8.acceptRanges", "math/bits.deBruijn64tab"], plainKeys := false, apart := false, laid := [("math/bits.deBruijn64tab", laid_math_bits_deBruijn64tab), ("unicode/utf8.acceptRanges", laid_unicode_utf8_acceptRanges), ("unicode/utf8.first", laid_unicode_utf8_first)] }
def ConnNoneSaid : Prop := connNoneRow.holds Tryz.pinned (OpenSpec.ofChange connNoneSpec)

/-- ITS FALSE NEIGHBOUR: 'it returns false'. Refute it at one input. -/
def connNoneWrong : ChangeSpec := { name := "connNone", fn := fun _ => fun
  | [d1, d2] => { results := [.lit (.bool false)], args := [d1, d2] }
  | _ => none }
def ConnNoneWrongFalsely : Prop := connNoneRow.holds Tryz.pinned (OpenSpec.ofChange connNoneWrong)

/-- 'signalboxlaw21.ConnOwed': WHATEVER THE INPUT: true; the input reads as it did. -/
def connOwedSpec : ChangeSpec := { name := "connOwed", fn := fun _ => fun
  | [d1, d2] => { results := [.lit (.bool true)], args := [d1, d2] }
  | _ => none }
def connOwedRow : OpenClaim := { program := "ytigdcbmcepajmaagreatdoor", sum := "10500e7c3c4fc4907f0b6cf0142341019b0a6e27faf8c5cb338bd02fc0b0ebb8", func := "signalbox/signalboxlaw21.ConnOwed", spec := "connOwed", inPlace := ["internal/bytealg.CountString", "internal/bytealg.IndexByteString", "internal/bytealg.IndexString", "internal/abi.NoEscape", "internal/bytealg.MakeNoZero"], unfollowed := true, recurses := true, named := ["internal/bytealg.MaxLen", "unicode/utf8.first", "unicode/utf8.acceptRanges", "math/bits.deBruijn64tab"], plainKeys := false, apart := false, laid := [("math/bits.deBruijn64tab", laid_math_bits_deBruijn64tab), ("unicode/utf8.acceptRanges", laid_unicode_utf8_acceptRanges), ("unicode/utf8.first", laid_unicode_utf8_first)] }
def ConnOwedSaid : Prop := connOwedRow.holds Tryz.pinned (OpenSpec.ofChange connOwedSpec)

/-- ITS FALSE NEIGHBOUR: 'it returns false'. Refute it at one input. -/
def connOwedWrong : ChangeSpec := { name := "connOwed", fn := fun _ => fun
  | [d1, d2] => { results := [.lit (.bool false)], args := [d1, d2] }
  | _ => none }
def ConnOwedWrongFalsely : Prop := connOwedRow.holds Tryz.pinned (OpenSpec.ofChange connOwedWrong)

/-- 'signalboxlaw22.PoolLeast': WHATEVER THE INPUT: true; the input reads as it did. -/
def poolLeastSpec : ChangeSpec := { name := "poolLeast", fn := fun _ => fun
  | [d1, d2, d3] => { results := [.lit (.bool true)], args := [d1, d2, d3] }
  | _ => none }
def poolLeastRow : OpenClaim := { program := "ytigdcbmcepajmaagreatdoor", sum := "10500e7c3c4fc4907f0b6cf0142341019b0a6e27faf8c5cb338bd02fc0b0ebb8", func := "signalbox/signalboxlaw22.PoolLeast", spec := "poolLeast", inPlace := ["internal/bytealg.CountString", "internal/bytealg.IndexByteString", "internal/bytealg.IndexString", "internal/abi.NoEscape", "internal/bytealg.MakeNoZero", "math/bits.Add64"], unfollowed := true, recurses := true, named := ["internal/bytealg.MaxLen", "unicode/utf8.first", "unicode/utf8.acceptRanges", "math/bits.deBruijn64tab", "math/bits.divideError", "math/bits.overflowError"], plainKeys := false, apart := false, laid := [("math/bits.deBruijn64tab", laid_math_bits_deBruijn64tab), ("unicode/utf8.acceptRanges", laid_unicode_utf8_acceptRanges), ("unicode/utf8.first", laid_unicode_utf8_first)] }
def PoolLeastSaid : Prop := poolLeastRow.holds Tryz.pinned (OpenSpec.ofChange poolLeastSpec)

/-- ITS FALSE NEIGHBOUR: 'it returns false'. Refute it at one input. -/
def poolLeastWrong : ChangeSpec := { name := "poolLeast", fn := fun _ => fun
  | [d1, d2, d3] => { results := [.lit (.bool false)], args := [d1, d2, d3] }
  | _ => none }
def PoolLeastWrongFalsely : Prop := poolLeastRow.holds Tryz.pinned (OpenSpec.ofChange poolLeastWrong)

/-- 'signalboxlaw22.PoolReadies': WHATEVER THE INPUT: true; the input reads as it did. -/
def poolReadiesSpec : ChangeSpec := { name := "poolReadies", fn := fun _ => fun
  | [d1, d2, d3] => { results := [.lit (.bool true)], args := [d1, d2, d3] }
  | _ => none }
def poolReadiesRow : OpenClaim := { program := "ytigdcbmcepajmaagreatdoor", sum := "10500e7c3c4fc4907f0b6cf0142341019b0a6e27faf8c5cb338bd02fc0b0ebb8", func := "signalbox/signalboxlaw22.PoolReadies", spec := "poolReadies", inPlace := ["internal/bytealg.CountString", "internal/bytealg.IndexByteString", "internal/bytealg.IndexString", "internal/abi.NoEscape", "internal/bytealg.MakeNoZero", "math/bits.Add64"], unfollowed := true, recurses := true, named := ["internal/bytealg.MaxLen", "unicode/utf8.first", "unicode/utf8.acceptRanges", "math/bits.deBruijn64tab", "math/bits.divideError", "math/bits.overflowError"], plainKeys := false, apart := false, laid := [("math/bits.deBruijn64tab", laid_math_bits_deBruijn64tab), ("unicode/utf8.acceptRanges", laid_unicode_utf8_acceptRanges), ("unicode/utf8.first", laid_unicode_utf8_first)] }
def PoolReadiesSaid : Prop := poolReadiesRow.holds Tryz.pinned (OpenSpec.ofChange poolReadiesSpec)

/-- ITS FALSE NEIGHBOUR: 'it returns false'. Refute it at one input. -/
def poolReadiesWrong : ChangeSpec := { name := "poolReadies", fn := fun _ => fun
  | [d1, d2, d3] => { results := [.lit (.bool false)], args := [d1, d2, d3] }
  | _ => none }
def PoolReadiesWrongFalsely : Prop := poolReadiesRow.holds Tryz.pinned (OpenSpec.ofChange poolReadiesWrong)

/-- 'signalboxlaw22.PoolStops': WHATEVER THE INPUT: true; the input reads as it did. -/
def poolStopsSpec : ChangeSpec := { name := "poolStops", fn := fun _ => fun
  | [d1, d2, d3] => { results := [.lit (.bool true)], args := [d1, d2, d3] }
  | _ => none }
def poolStopsRow : OpenClaim := { program := "ytigdcbmcepajmaagreatdoor", sum := "10500e7c3c4fc4907f0b6cf0142341019b0a6e27faf8c5cb338bd02fc0b0ebb8", func := "signalbox/signalboxlaw22.PoolStops", spec := "poolStops", inPlace := ["internal/bytealg.CountString", "internal/bytealg.IndexByteString", "internal/bytealg.IndexString", "internal/abi.NoEscape", "internal/bytealg.MakeNoZero", "math/bits.Add64"], unfollowed := true, recurses := true, named := ["internal/bytealg.MaxLen", "unicode/utf8.first", "unicode/utf8.acceptRanges", "math/bits.deBruijn64tab", "math/bits.divideError", "math/bits.overflowError"], plainKeys := false, apart := false, laid := [("math/bits.deBruijn64tab", laid_math_bits_deBruijn64tab), ("unicode/utf8.acceptRanges", laid_unicode_utf8_acceptRanges), ("unicode/utf8.first", laid_unicode_utf8_first)] }
def PoolStopsSaid : Prop := poolStopsRow.holds Tryz.pinned (OpenSpec.ofChange poolStopsSpec)

/-- ITS FALSE NEIGHBOUR: 'it returns false'. Refute it at one input. -/
def poolStopsWrong : ChangeSpec := { name := "poolStops", fn := fun _ => fun
  | [d1, d2, d3] => { results := [.lit (.bool false)], args := [d1, d2, d3] }
  | _ => none }
def PoolStopsWrongFalsely : Prop := poolStopsRow.holds Tryz.pinned (OpenSpec.ofChange poolStopsWrong)

/-- 'signalboxlaw22.PoolNone': WHATEVER THE INPUT: true; the input reads as it did. -/
def poolNoneSpec : ChangeSpec := { name := "poolNone", fn := fun _ => fun
  | [d1, d2] => { results := [.lit (.bool true)], args := [d1, d2] }
  | _ => none }
def poolNoneRow : OpenClaim := { program := "ytigdcbmcepajmaagreatdoor", sum := "10500e7c3c4fc4907f0b6cf0142341019b0a6e27faf8c5cb338bd02fc0b0ebb8", func := "signalbox/signalboxlaw22.PoolNone", spec := "poolNone", inPlace := ["internal/bytealg.CountString", "internal/bytealg.IndexByteString", "internal/bytealg.IndexString", "internal/abi.NoEscape", "internal/bytealg.MakeNoZero", "math/bits.Add64"], unfollowed := true, recurses := true, named := ["internal/bytealg.MaxLen", "unicode/utf8.first", "unicode/utf8.acceptRanges", "math/bits.deBruijn64tab", "math/bits.divideError", "math/bits.overflowError"], plainKeys := false, apart := false, laid := [("math/bits.deBruijn64tab", laid_math_bits_deBruijn64tab), ("unicode/utf8.acceptRanges", laid_unicode_utf8_acceptRanges), ("unicode/utf8.first", laid_unicode_utf8_first)] }
def PoolNoneSaid : Prop := poolNoneRow.holds Tryz.pinned (OpenSpec.ofChange poolNoneSpec)

/-- ITS FALSE NEIGHBOUR: 'it returns false'. Refute it at one input. -/
def poolNoneWrong : ChangeSpec := { name := "poolNone", fn := fun _ => fun
  | [d1, d2] => { results := [.lit (.bool false)], args := [d1, d2] }
  | _ => none }
def PoolNoneWrongFalsely : Prop := poolNoneRow.holds Tryz.pinned (OpenSpec.ofChange poolNoneWrong)

/- THE SECOND FORM. 'bulk': how many values and letters a reading holds, each counted each time it is reached (what is shared counts as often as it is met; a slice's spare places count too). A statement '..UptoSaid' is the law's where the arguments, and the package variables that the reading takes, are together of bulk at most 1048576: NARROWER than '..Said'. Prove '..Said' where nothing that the law and all that it calls make is longer than what came in: it says more and counts as full. Else prove '..UptoSaid'. A law counts once. -/
mutual
def uptoBulk {H : Type} : DataW H → Nat
  | .lit (.string bytes) => bytes.length + 1
  | .lit _ => 1
  | .nil => 1
  | .ptr d => uptoBulk d + 1
  | .slice elems spare => uptoBulkAll elems + uptoBulkAll spare + 1
  | .agg parts => uptoBulkAll parts + 1
  | .iface _ d => uptoBulk d + 1
  | .map entries => uptoBulkEntries entries + 1
  | .held _ => 1
def uptoBulkAll {H : Type} : List (DataW H) → Nat
  | [] => 0
  | d :: r => uptoBulk d + uptoBulkAll r
def uptoBulkEntries {H : Type} : List (Lit × DataW H) → Nat
  | [] => 0
  | x :: r => uptoBulkEntry x + uptoBulkEntries r
def uptoBulkEntry {H : Type} : Lit × DataW H → Nat
  | (.string bytes, d) => bytes.length + uptoBulk d + 1
  | (_, d) => uptoBulk d + 1
 end
def uptoSmall : (H : Type) → List (DataW H) → Bool := fun _ ds => decide (uptoBulkAll ds ≤ 1048576)
def OpenSpec.upto (s : _root_.Go.ChangeSpec) : _root_.Go.OpenSpec := { _root_.Go.OpenSpec.ofChange s with cond := some uptoSmall }

/-- 'signalboxlaw22.PoolWaits', WHERE WHAT IT READS IS OF BULK AT MOST 1048576: true; the input reads as it did. -/
def poolWaitsUptoRow : OpenClaim := { program := "ytigdcbmcepajmaagreatdoor", sum := "10500e7c3c4fc4907f0b6cf0142341019b0a6e27faf8c5cb338bd02fc0b0ebb8", func := "signalbox/signalboxlaw22.PoolWaits", spec := "poolWaits", inPlace := ["internal/bytealg.CountString", "internal/bytealg.IndexByteString", "internal/bytealg.IndexString", "internal/abi.NoEscape", "internal/bytealg.MakeNoZero", "math/bits.Add64"], unfollowed := true, recurses := true, named := ["internal/bytealg.MaxLen", "unicode/utf8.first", "unicode/utf8.acceptRanges", "math/bits.deBruijn64tab", "math/bits.divideError", "math/bits.overflowError"], plainKeys := false, apart := false, laid := [("math/bits.deBruijn64tab", laid_math_bits_deBruijn64tab), ("unicode/utf8.acceptRanges", laid_unicode_utf8_acceptRanges), ("unicode/utf8.first", laid_unicode_utf8_first)], narrowed := true }
def PoolWaitsUptoSaid : Prop := poolWaitsUptoRow.holds Tryz.pinned (OpenSpec.upto poolWaitsSpec)

/-- 'signalboxlaw21.ConnBeats', WHERE WHAT IT READS IS OF BULK AT MOST 1048576: true; the input reads as it did. -/
def connBeatsUptoRow : OpenClaim := { program := "ytigdcbmcepajmaagreatdoor", sum := "10500e7c3c4fc4907f0b6cf0142341019b0a6e27faf8c5cb338bd02fc0b0ebb8", func := "signalbox/signalboxlaw21.ConnBeats", spec := "connBeats", inPlace := ["internal/bytealg.CountString", "internal/bytealg.IndexByteString", "internal/bytealg.IndexString", "internal/abi.NoEscape", "internal/bytealg.MakeNoZero"], unfollowed := true, recurses := true, named := ["internal/bytealg.MaxLen", "unicode/utf8.first", "unicode/utf8.acceptRanges", "math/bits.deBruijn64tab"], plainKeys := false, apart := false, laid := [("math/bits.deBruijn64tab", laid_math_bits_deBruijn64tab), ("unicode/utf8.acceptRanges", laid_unicode_utf8_acceptRanges), ("unicode/utf8.first", laid_unicode_utf8_first)], narrowed := true }
def ConnBeatsUptoSaid : Prop := connBeatsUptoRow.holds Tryz.pinned (OpenSpec.upto connBeatsSpec)

/-- 'signalboxlaw21.ConnNotes', WHERE WHAT IT READS IS OF BULK AT MOST 1048576: true; the input reads as it did. -/
def connNotesUptoRow : OpenClaim := { program := "ytigdcbmcepajmaagreatdoor", sum := "10500e7c3c4fc4907f0b6cf0142341019b0a6e27faf8c5cb338bd02fc0b0ebb8", func := "signalbox/signalboxlaw21.ConnNotes", spec := "connNotes", inPlace := ["internal/bytealg.CountString", "internal/bytealg.IndexByteString", "internal/bytealg.IndexString", "internal/abi.NoEscape", "internal/bytealg.MakeNoZero"], unfollowed := true, recurses := true, named := ["internal/bytealg.MaxLen", "unicode/utf8.first", "unicode/utf8.acceptRanges", "math/bits.deBruijn64tab"], plainKeys := false, apart := false, laid := [("math/bits.deBruijn64tab", laid_math_bits_deBruijn64tab), ("unicode/utf8.acceptRanges", laid_unicode_utf8_acceptRanges), ("unicode/utf8.first", laid_unicode_utf8_first)], narrowed := true }
def ConnNotesUptoSaid : Prop := connNotesUptoRow.holds Tryz.pinned (OpenSpec.upto connNotesSpec)

/-- 'signalboxlaw21.ConnShakes', WHERE WHAT IT READS IS OF BULK AT MOST 1048576: true; the input reads as it did. -/
def connShakesUptoRow : OpenClaim := { program := "ytigdcbmcepajmaagreatdoor", sum := "10500e7c3c4fc4907f0b6cf0142341019b0a6e27faf8c5cb338bd02fc0b0ebb8", func := "signalbox/signalboxlaw21.ConnShakes", spec := "connShakes", inPlace := ["internal/bytealg.CountString", "internal/bytealg.IndexByteString", "internal/bytealg.IndexString", "internal/abi.NoEscape", "internal/bytealg.MakeNoZero"], unfollowed := true, recurses := true, named := ["internal/bytealg.MaxLen", "unicode/utf8.first", "unicode/utf8.acceptRanges", "math/bits.deBruijn64tab"], plainKeys := false, apart := false, laid := [("math/bits.deBruijn64tab", laid_math_bits_deBruijn64tab), ("unicode/utf8.acceptRanges", laid_unicode_utf8_acceptRanges), ("unicode/utf8.first", laid_unicode_utf8_first)], narrowed := true }
def ConnShakesUptoSaid : Prop := connShakesUptoRow.holds Tryz.pinned (OpenSpec.upto connShakesSpec)

/-- 'signalboxlaw21.ConnOrphans', WHERE WHAT IT READS IS OF BULK AT MOST 1048576: true; the input reads as it did. -/
def connOrphansUptoRow : OpenClaim := { program := "ytigdcbmcepajmaagreatdoor", sum := "10500e7c3c4fc4907f0b6cf0142341019b0a6e27faf8c5cb338bd02fc0b0ebb8", func := "signalbox/signalboxlaw21.ConnOrphans", spec := "connOrphans", inPlace := ["internal/bytealg.CountString", "internal/bytealg.IndexByteString", "internal/bytealg.IndexString", "internal/abi.NoEscape", "internal/bytealg.MakeNoZero"], unfollowed := true, recurses := true, named := ["internal/bytealg.MaxLen", "unicode/utf8.first", "unicode/utf8.acceptRanges", "math/bits.deBruijn64tab"], plainKeys := false, apart := false, laid := [("math/bits.deBruijn64tab", laid_math_bits_deBruijn64tab), ("unicode/utf8.acceptRanges", laid_unicode_utf8_acceptRanges), ("unicode/utf8.first", laid_unicode_utf8_first)], narrowed := true }
def ConnOrphansUptoSaid : Prop := connOrphansUptoRow.holds Tryz.pinned (OpenSpec.upto connOrphansSpec)

/-- 'signalboxlaw21.ConnNone', WHERE WHAT IT READS IS OF BULK AT MOST 1048576: true; the input reads as it did. -/
def connNoneUptoRow : OpenClaim := { program := "ytigdcbmcepajmaagreatdoor", sum := "10500e7c3c4fc4907f0b6cf0142341019b0a6e27faf8c5cb338bd02fc0b0ebb8", func := "signalbox/signalboxlaw21.ConnNone", spec := "connNone", inPlace := ["internal/bytealg.CountString", "internal/bytealg.IndexByteString", "internal/bytealg.IndexString", "internal/abi.NoEscape", "internal/bytealg.MakeNoZero"], unfollowed := true, recurses := true, named := ["internal/bytealg.MaxLen", "unicode/utf8.first", "unicode/utf8.acceptRanges", "math/bits.deBruijn64tab"], plainKeys := false, apart := false, laid := [("math/bits.deBruijn64tab", laid_math_bits_deBruijn64tab), ("unicode/utf8.acceptRanges", laid_unicode_utf8_acceptRanges), ("unicode/utf8.first", laid_unicode_utf8_first)], narrowed := true }
def ConnNoneUptoSaid : Prop := connNoneUptoRow.holds Tryz.pinned (OpenSpec.upto connNoneSpec)

/-- 'signalboxlaw21.ConnOwed', WHERE WHAT IT READS IS OF BULK AT MOST 1048576: true; the input reads as it did. -/
def connOwedUptoRow : OpenClaim := { program := "ytigdcbmcepajmaagreatdoor", sum := "10500e7c3c4fc4907f0b6cf0142341019b0a6e27faf8c5cb338bd02fc0b0ebb8", func := "signalbox/signalboxlaw21.ConnOwed", spec := "connOwed", inPlace := ["internal/bytealg.CountString", "internal/bytealg.IndexByteString", "internal/bytealg.IndexString", "internal/abi.NoEscape", "internal/bytealg.MakeNoZero"], unfollowed := true, recurses := true, named := ["internal/bytealg.MaxLen", "unicode/utf8.first", "unicode/utf8.acceptRanges", "math/bits.deBruijn64tab"], plainKeys := false, apart := false, laid := [("math/bits.deBruijn64tab", laid_math_bits_deBruijn64tab), ("unicode/utf8.acceptRanges", laid_unicode_utf8_acceptRanges), ("unicode/utf8.first", laid_unicode_utf8_first)], narrowed := true }
def ConnOwedUptoSaid : Prop := connOwedUptoRow.holds Tryz.pinned (OpenSpec.upto connOwedSpec)

/-- 'signalboxlaw22.PoolLeast', WHERE WHAT IT READS IS OF BULK AT MOST 1048576: true; the input reads as it did. -/
def poolLeastUptoRow : OpenClaim := { program := "ytigdcbmcepajmaagreatdoor", sum := "10500e7c3c4fc4907f0b6cf0142341019b0a6e27faf8c5cb338bd02fc0b0ebb8", func := "signalbox/signalboxlaw22.PoolLeast", spec := "poolLeast", inPlace := ["internal/bytealg.CountString", "internal/bytealg.IndexByteString", "internal/bytealg.IndexString", "internal/abi.NoEscape", "internal/bytealg.MakeNoZero", "math/bits.Add64"], unfollowed := true, recurses := true, named := ["internal/bytealg.MaxLen", "unicode/utf8.first", "unicode/utf8.acceptRanges", "math/bits.deBruijn64tab", "math/bits.divideError", "math/bits.overflowError"], plainKeys := false, apart := false, laid := [("math/bits.deBruijn64tab", laid_math_bits_deBruijn64tab), ("unicode/utf8.acceptRanges", laid_unicode_utf8_acceptRanges), ("unicode/utf8.first", laid_unicode_utf8_first)], narrowed := true }
def PoolLeastUptoSaid : Prop := poolLeastUptoRow.holds Tryz.pinned (OpenSpec.upto poolLeastSpec)

/-- 'signalboxlaw22.PoolReadies', WHERE WHAT IT READS IS OF BULK AT MOST 1048576: true; the input reads as it did. -/
def poolReadiesUptoRow : OpenClaim := { program := "ytigdcbmcepajmaagreatdoor", sum := "10500e7c3c4fc4907f0b6cf0142341019b0a6e27faf8c5cb338bd02fc0b0ebb8", func := "signalbox/signalboxlaw22.PoolReadies", spec := "poolReadies", inPlace := ["internal/bytealg.CountString", "internal/bytealg.IndexByteString", "internal/bytealg.IndexString", "internal/abi.NoEscape", "internal/bytealg.MakeNoZero", "math/bits.Add64"], unfollowed := true, recurses := true, named := ["internal/bytealg.MaxLen", "unicode/utf8.first", "unicode/utf8.acceptRanges", "math/bits.deBruijn64tab", "math/bits.divideError", "math/bits.overflowError"], plainKeys := false, apart := false, laid := [("math/bits.deBruijn64tab", laid_math_bits_deBruijn64tab), ("unicode/utf8.acceptRanges", laid_unicode_utf8_acceptRanges), ("unicode/utf8.first", laid_unicode_utf8_first)], narrowed := true }
def PoolReadiesUptoSaid : Prop := poolReadiesUptoRow.holds Tryz.pinned (OpenSpec.upto poolReadiesSpec)

/-- 'signalboxlaw22.PoolStops', WHERE WHAT IT READS IS OF BULK AT MOST 1048576: true; the input reads as it did. -/
def poolStopsUptoRow : OpenClaim := { program := "ytigdcbmcepajmaagreatdoor", sum := "10500e7c3c4fc4907f0b6cf0142341019b0a6e27faf8c5cb338bd02fc0b0ebb8", func := "signalbox/signalboxlaw22.PoolStops", spec := "poolStops", inPlace := ["internal/bytealg.CountString", "internal/bytealg.IndexByteString", "internal/bytealg.IndexString", "internal/abi.NoEscape", "internal/bytealg.MakeNoZero", "math/bits.Add64"], unfollowed := true, recurses := true, named := ["internal/bytealg.MaxLen", "unicode/utf8.first", "unicode/utf8.acceptRanges", "math/bits.deBruijn64tab", "math/bits.divideError", "math/bits.overflowError"], plainKeys := false, apart := false, laid := [("math/bits.deBruijn64tab", laid_math_bits_deBruijn64tab), ("unicode/utf8.acceptRanges", laid_unicode_utf8_acceptRanges), ("unicode/utf8.first", laid_unicode_utf8_first)], narrowed := true }
def PoolStopsUptoSaid : Prop := poolStopsUptoRow.holds Tryz.pinned (OpenSpec.upto poolStopsSpec)

/-- 'signalboxlaw22.PoolNone', WHERE WHAT IT READS IS OF BULK AT MOST 1048576: true; the input reads as it did. -/
def poolNoneUptoRow : OpenClaim := { program := "ytigdcbmcepajmaagreatdoor", sum := "10500e7c3c4fc4907f0b6cf0142341019b0a6e27faf8c5cb338bd02fc0b0ebb8", func := "signalbox/signalboxlaw22.PoolNone", spec := "poolNone", inPlace := ["internal/bytealg.CountString", "internal/bytealg.IndexByteString", "internal/bytealg.IndexString", "internal/abi.NoEscape", "internal/bytealg.MakeNoZero", "math/bits.Add64"], unfollowed := true, recurses := true, named := ["internal/bytealg.MaxLen", "unicode/utf8.first", "unicode/utf8.acceptRanges", "math/bits.deBruijn64tab", "math/bits.divideError", "math/bits.overflowError"], plainKeys := false, apart := false, laid := [("math/bits.deBruijn64tab", laid_math_bits_deBruijn64tab), ("unicode/utf8.acceptRanges", laid_unicode_utf8_acceptRanges), ("unicode/utf8.first", laid_unicode_utf8_first)], narrowed := true }
def PoolNoneUptoSaid : Prop := poolNoneUptoRow.holds Tryz.pinned (OpenSpec.upto poolNoneSpec)

end Rows
end Go.Proofs.YtigdcbmcepajmaaGreatDoor
