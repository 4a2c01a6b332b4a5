/-
  NARROWER THAN 'FOR EVERY INPUT', by the rows' own cells (each row's printed sentence says how): BackAll: laid · BackPlaces: laid · BackLarge: laid · BackBorders: laid · BackMemory: laid · PikePlays: laid · LoadSames: laid · PikeRuns: laid · PikeNil: laid · PikeBacks: laid.
  DERIVED. THE GIVEN ROWS OF THIS SEAT. 10 by the template 'for every input the law returns true; each argument reads behind the call as it read before'; 0 by the template 'total and deterministic' (their statements: YtkebkfipjodnnaaDoorTotals.lean).
  GIVEN WITH THE SEED: the statements are not yours to turn. If you find one false, say at which input.
  Laid BY PROGRAM, IN A SANDBOX (cutbox-rows.mjs): the forced cells as the released guide's own fill.sh prints them over the translation f30bd40c4b1db6c3… (all of the seat's roots in one cut). By AI agents, Wed Nov 11 2026. No macro, syntax, notation, axiom, sorry.
-/
import Derived.Test.YtkebkfipjodnnaaDoorChecked
import GoSem.PinnedTables
import GoSem.Claim
import GoSem.ClaimJoined
import GoSem.ClaimMapViews
import Derived.JoinedTies
import Derived.KernelRfl
namespace Go.Proofs.YtkebkfipjodnnaaDoor
/- THE CELL 'sum', in the pinned program and in every row, IS THE sha256 OF THE DUMP (.gsa) THAT YtkebkfipjodnnaaDoorProg.lean LOADS. Nothing in Lean hashes anything: it is a label: what it is worth is what the hold of that sum in a sandbox is worth. -/
noncomputable def Tryd.pinned : Pinned := { name := "ytkebkfipjodnnaadoor", sum := "f30bd40c4b1db6c35bbd5d726a45867a5fd1d7823c7d92559849bfb1f9932605", checked := Tryd.checked }
namespace Rows
def none {H : Type} : Left H := { results := [], args := [] }

/- WHAT THE LISTED PACKAGE-LEVEL VARIABLES READ AS WHEN THE CALL BEGINS. Each datum BY PROGRAM (the guide's laid-datum.mjs) off the statement by which the dump's own 'gosem.cut.vars' lays the variable. In a bare row this is a premise. The card (YtkebkfipjodnnaaDoorCards.lean) ties it to the program's text. -/
def laid_unicode_utf8_acceptRanges {H : Type} : DataW H := .agg [.agg [.lit (.int .u8 128), .lit (.int .u8 191)], .agg [.lit (.int .u8 160), .lit (.int .u8 191)], .agg [.lit (.int .u8 128), .lit (.int .u8 159)], .agg [.lit (.int .u8 144), .lit (.int .u8 191)], .agg [.lit (.int .u8 128), .lit (.int .u8 143)], .agg [.lit (.int .u8 0), .lit (.int .u8 0)], .agg [.lit (.int .u8 0), .lit (.int .u8 0)], .agg [.lit (.int .u8 0), .lit (.int .u8 0)], .agg [.lit (.int .u8 0), .lit (.int .u8 0)], .agg [.lit (.int .u8 0), .lit (.int .u8 0)], .agg [.lit (.int .u8 0), .lit (.int .u8 0)], .agg [.lit (.int .u8 0), .lit (.int .u8 0)], .agg [.lit (.int .u8 0), .lit (.int .u8 0)], .agg [.lit (.int .u8 0), .lit (.int .u8 0)], .agg [.lit (.int .u8 0), .lit (.int .u8 0)], .agg [.lit (.int .u8 0), .lit (.int .u8 0)]]
def laid_thistle_sets_bands {H : Type} : DataW H := .agg [.agg [.lit (.int .i32 0), .lit (.int .i32 55295)], .agg [.lit (.int .i32 57344), .lit (.int .i32 1114111)], .agg [.lit (.int .i32 1114240), .lit (.int .i32 1114367)]]
/-- One of Go's own tables, pinned by name: the form's constant. -/
def laid_unicode_utf8_first : DataW Unit := Go.Pinned.utf8First
def laid_math_bits_deBruijn32tab {H : Type} : DataW H := .agg [.lit (.int .u8 0), .lit (.int .u8 1), .lit (.int .u8 28), .lit (.int .u8 2), .lit (.int .u8 29), .lit (.int .u8 14), .lit (.int .u8 24), .lit (.int .u8 3), .lit (.int .u8 30), .lit (.int .u8 22), .lit (.int .u8 20), .lit (.int .u8 15), .lit (.int .u8 25), .lit (.int .u8 17), .lit (.int .u8 4), .lit (.int .u8 8), .lit (.int .u8 31), .lit (.int .u8 27), .lit (.int .u8 13), .lit (.int .u8 23), .lit (.int .u8 21), .lit (.int .u8 19), .lit (.int .u8 16), .lit (.int .u8 7), .lit (.int .u8 26), .lit (.int .u8 12), .lit (.int .u8 18), .lit (.int .u8 6), .lit (.int .u8 11), .lit (.int .u8 5), .lit (.int .u8 10), .lit (.int .u8 9)]
def laid_math_bits_deBruijn64tab {H : Type} : DataW H := .agg [.lit (.int .u8 0), .lit (.int .u8 1), .lit (.int .u8 56), .lit (.int .u8 2), .lit (.int .u8 57), .lit (.int .u8 49), .lit (.int .u8 28), .lit (.int .u8 3), .lit (.int .u8 61), .lit (.int .u8 58), .lit (.int .u8 42), .lit (.int .u8 50), .lit (.int .u8 38), .lit (.int .u8 29), .lit (.int .u8 17), .lit (.int .u8 4), .lit (.int .u8 62), .lit (.int .u8 47), .lit (.int .u8 59), .lit (.int .u8 36), .lit (.int .u8 45), .lit (.int .u8 43), .lit (.int .u8 51), .lit (.int .u8 22), .lit (.int .u8 53), .lit (.int .u8 39), .lit (.int .u8 33), .lit (.int .u8 30), .lit (.int .u8 24), .lit (.int .u8 18), .lit (.int .u8 12), .lit (.int .u8 5), .lit (.int .u8 63), .lit (.int .u8 55), .lit (.int .u8 48), .lit (.int .u8 27), .lit (.int .u8 60), .lit (.int .u8 41), .lit (.int .u8 37), .lit (.int .u8 16), .lit (.int .u8 46), .lit (.int .u8 35), .lit (.int .u8 44), .lit (.int .u8 21), .lit (.int .u8 52), .lit (.int .u8 32), .lit (.int .u8 23), .lit (.int .u8 11), .lit (.int .u8 54), .lit (.int .u8 26), .lit (.int .u8 40), .lit (.int .u8 15), .lit (.int .u8 34), .lit (.int .u8 20), .lit (.int .u8 31), .lit (.int .u8 10), .lit (.int .u8 25), .lit (.int .u8 14), .lit (.int .u8 19), .lit (.int .u8 9), .lit (.int .u8 13), .lit (.int .u8 8), .lit (.int .u8 7), .lit (.int .u8 6)]
def laid_internal_strconv_uint64pow10 {H : Type} : DataW H := .agg [.lit (.int .u64 1), .lit (.int .u64 10), .lit (.int .u64 100), .lit (.int .u64 1000), .lit (.int .u64 10000), .lit (.int .u64 100000), .lit (.int .u64 1000000), .lit (.int .u64 10000000), .lit (.int .u64 100000000), .lit (.int .u64 1000000000), .lit (.int .u64 10000000000), .lit (.int .u64 100000000000), .lit (.int .u64 1000000000000), .lit (.int .u64 10000000000000), .lit (.int .u64 100000000000000), .lit (.int .u64 1000000000000000), .lit (.int .u64 10000000000000000), .lit (.int .u64 100000000000000000), .lit (.int .u64 1000000000000000000), .lit (.int .u64 10000000000000000000)]

/-- 'thistlelaw14.BackAll': WHATEVER THE INPUT: true; the input reads as it did. -/
def backAllSpec : ChangeSpec := { name := "backAll", fn := fun _ => fun
  | [d] => { results := [.lit (.bool true)], args := [d] }
  | _ => none }
def backAllRow : OpenClaim := { program := "ytkebkfipjodnnaadoor", sum := "f30bd40c4b1db6c35bbd5d726a45867a5fd1d7823c7d92559849bfb1f9932605", func := "thistle/thistlelaw14.BackAll", spec := "backAll", unfollowed := true, recurses := true, named := ["thistle/sets.bands", "unicode/utf8.first", "unicode/utf8.acceptRanges"], apart := false, laid := [("unicode/utf8.acceptRanges", laid_unicode_utf8_acceptRanges), ("thistle/sets.bands", laid_thistle_sets_bands), ("unicode/utf8.first", laid_unicode_utf8_first)] }
def BackAllSaid : Prop := backAllRow.holds Tryd.pinned (OpenSpec.ofChange backAllSpec)

/-- ITS FALSE NEIGHBOUR: 'it returns false'. Refute it at one input. -/
def backAllWrong : ChangeSpec := { name := "backAll", fn := fun _ => fun
  | [d] => { results := [.lit (.bool false)], args := [d] }
  | _ => none }
def BackAllWrongFalsely : Prop := backAllRow.holds Tryd.pinned (OpenSpec.ofChange backAllWrong)

/-- 'thistlelaw14.BackPlaces': WHATEVER THE INPUT: true; the input reads as it did. -/
def backPlacesSpec : ChangeSpec := { name := "backPlaces", fn := fun _ => fun
  | [d1, d2, d3] => { results := [.lit (.bool true)], args := [d1, d2, d3] }
  | _ => none }
def backPlacesRow : OpenClaim := { program := "ytkebkfipjodnnaadoor", sum := "f30bd40c4b1db6c35bbd5d726a45867a5fd1d7823c7d92559849bfb1f9932605", func := "thistle/thistlelaw14.BackPlaces", spec := "backPlaces", unfollowed := true, recurses := true, named := ["thistle/sets.bands", "unicode/utf8.first", "unicode/utf8.acceptRanges"], apart := false, laid := [("unicode/utf8.acceptRanges", laid_unicode_utf8_acceptRanges), ("thistle/sets.bands", laid_thistle_sets_bands), ("unicode/utf8.first", laid_unicode_utf8_first)] }
def BackPlacesSaid : Prop := backPlacesRow.holds Tryd.pinned (OpenSpec.ofChange backPlacesSpec)

/-- ITS FALSE NEIGHBOUR: 'it returns false'. Refute it at one input. -/
def backPlacesWrong : ChangeSpec := { name := "backPlaces", fn := fun _ => fun
  | [d1, d2, d3] => { results := [.lit (.bool false)], args := [d1, d2, d3] }
  | _ => none }
def BackPlacesWrongFalsely : Prop := backPlacesRow.holds Tryd.pinned (OpenSpec.ofChange backPlacesWrong)

/-- 'thistlelaw14.BackLarge': WHATEVER THE INPUT: true; the input reads as it did. -/
def backLargeSpec : ChangeSpec := { name := "backLarge", fn := fun _ => fun
  | [d] => { results := [.lit (.bool true)], args := [d] }
  | _ => none }
def backLargeRow : OpenClaim := { program := "ytkebkfipjodnnaadoor", sum := "f30bd40c4b1db6c35bbd5d726a45867a5fd1d7823c7d92559849bfb1f9932605", func := "thistle/thistlelaw14.BackLarge", spec := "backLarge", unfollowed := true, recurses := true, named := ["thistle/sets.bands", "unicode/utf8.first", "unicode/utf8.acceptRanges"], apart := false, laid := [("unicode/utf8.acceptRanges", laid_unicode_utf8_acceptRanges), ("thistle/sets.bands", laid_thistle_sets_bands), ("unicode/utf8.first", laid_unicode_utf8_first)] }
def BackLargeSaid : Prop := backLargeRow.holds Tryd.pinned (OpenSpec.ofChange backLargeSpec)

/-- ITS FALSE NEIGHBOUR: 'it returns false'. Refute it at one input. -/
def backLargeWrong : ChangeSpec := { name := "backLarge", fn := fun _ => fun
  | [d] => { results := [.lit (.bool false)], args := [d] }
  | _ => none }
def BackLargeWrongFalsely : Prop := backLargeRow.holds Tryd.pinned (OpenSpec.ofChange backLargeWrong)

/-- 'thistlelaw14.BackBorders': WHATEVER THE INPUT: true; the input reads as it did. -/
def backBordersSpec : ChangeSpec := { name := "backBorders", fn := fun _ => fun
  | [d1, d2, d3] => { results := [.lit (.bool true)], args := [d1, d2, d3] }
  | _ => none }
def backBordersRow : OpenClaim := { program := "ytkebkfipjodnnaadoor", sum := "f30bd40c4b1db6c35bbd5d726a45867a5fd1d7823c7d92559849bfb1f9932605", func := "thistle/thistlelaw14.BackBorders", spec := "backBorders", unfollowed := true, recurses := true, named := ["thistle/sets.bands", "unicode/utf8.first", "unicode/utf8.acceptRanges"], apart := false, laid := [("unicode/utf8.acceptRanges", laid_unicode_utf8_acceptRanges), ("thistle/sets.bands", laid_thistle_sets_bands), ("unicode/utf8.first", laid_unicode_utf8_first)] }
def BackBordersSaid : Prop := backBordersRow.holds Tryd.pinned (OpenSpec.ofChange backBordersSpec)

/-- ITS FALSE NEIGHBOUR: 'it returns false'. Refute it at one input. -/
def backBordersWrong : ChangeSpec := { name := "backBorders", fn := fun _ => fun
  | [d1, d2, d3] => { results := [.lit (.bool false)], args := [d1, d2, d3] }
  | _ => none }
def BackBordersWrongFalsely : Prop := backBordersRow.holds Tryd.pinned (OpenSpec.ofChange backBordersWrong)

/-- 'thistlelaw14.BackMemory': WHATEVER THE INPUT: true; the input reads as it did. -/
def backMemorySpec : ChangeSpec := { name := "backMemory", fn := fun _ => fun
  | [d1, d2, d3] => { results := [.lit (.bool true)], args := [d1, d2, d3] }
  | _ => none }
def backMemoryRow : OpenClaim := { program := "ytkebkfipjodnnaadoor", sum := "f30bd40c4b1db6c35bbd5d726a45867a5fd1d7823c7d92559849bfb1f9932605", func := "thistle/thistlelaw14.BackMemory", spec := "backMemory", unfollowed := true, recurses := true, named := ["thistle/sets.bands", "unicode/utf8.first", "unicode/utf8.acceptRanges"], apart := false, laid := [("unicode/utf8.acceptRanges", laid_unicode_utf8_acceptRanges), ("thistle/sets.bands", laid_thistle_sets_bands), ("unicode/utf8.first", laid_unicode_utf8_first)] }
def BackMemorySaid : Prop := backMemoryRow.holds Tryd.pinned (OpenSpec.ofChange backMemorySpec)

/-- ITS FALSE NEIGHBOUR: 'it returns false'. Refute it at one input. -/
def backMemoryWrong : ChangeSpec := { name := "backMemory", fn := fun _ => fun
  | [d1, d2, d3] => { results := [.lit (.bool false)], args := [d1, d2, d3] }
  | _ => none }
def BackMemoryWrongFalsely : Prop := backMemoryRow.holds Tryd.pinned (OpenSpec.ofChange backMemoryWrong)

/-- 'thistlelaw15.PikePlays': WHATEVER THE INPUT: true; the input reads as it did. -/
def pikePlaysSpec : ChangeSpec := { name := "pikePlays", fn := fun _ => fun
  | [d1, d2, d3] => { results := [.lit (.bool true)], args := [d1, d2, d3] }
  | _ => none }
def pikePlaysRow : OpenClaim := { program := "ytkebkfipjodnnaadoor", sum := "f30bd40c4b1db6c35bbd5d726a45867a5fd1d7823c7d92559849bfb1f9932605", func := "thistle/thistlelaw15.PikePlays", spec := "pikePlays", unfollowed := true, recurses := true, named := ["thistle/sets.bands", "unicode/utf8.first", "unicode/utf8.acceptRanges"], apart := false, laid := [("unicode/utf8.acceptRanges", laid_unicode_utf8_acceptRanges), ("thistle/sets.bands", laid_thistle_sets_bands), ("unicode/utf8.first", laid_unicode_utf8_first)] }
def PikePlaysSaid : Prop := pikePlaysRow.holds Tryd.pinned (OpenSpec.ofChange pikePlaysSpec)

/-- ITS FALSE NEIGHBOUR: 'it returns false'. Refute it at one input. -/
def pikePlaysWrong : ChangeSpec := { name := "pikePlays", fn := fun _ => fun
  | [d1, d2, d3] => { results := [.lit (.bool false)], args := [d1, d2, d3] }
  | _ => none }
def PikePlaysWrongFalsely : Prop := pikePlaysRow.holds Tryd.pinned (OpenSpec.ofChange pikePlaysWrong)

/-- 'thistlelaw13.LoadSames': WHATEVER THE INPUT: true; the input reads as it did. -/
def loadSamesSpec : ChangeSpec := { name := "loadSames", fn := fun _ => fun
  | [d1, d2] => { results := [.lit (.bool true)], args := [d1, d2] }
  | _ => none }
def loadSamesRow : OpenClaim := { program := "ytkebkfipjodnnaadoor", sum := "f30bd40c4b1db6c35bbd5d726a45867a5fd1d7823c7d92559849bfb1f9932605", func := "thistle/thistlelaw13.LoadSames", spec := "loadSames", inPlace := ["internal/abi.NoEscape", "internal/bytealg.MakeNoZero"], unfollowed := true, recurses := true, named := ["thistle/sets.bands", "internal/strconv.uint64pow10", "math/bits.deBruijn32tab", "math/bits.deBruijn64tab"], apart := false, laid := [("math/bits.deBruijn32tab", laid_math_bits_deBruijn32tab), ("math/bits.deBruijn64tab", laid_math_bits_deBruijn64tab), ("internal/strconv.uint64pow10", laid_internal_strconv_uint64pow10), ("thistle/sets.bands", laid_thistle_sets_bands)] }
def LoadSamesSaid : Prop := loadSamesRow.holds Tryd.pinned (OpenSpec.ofChange loadSamesSpec)

/-- ITS FALSE NEIGHBOUR: 'it returns false'. Refute it at one input. -/
def loadSamesWrong : ChangeSpec := { name := "loadSames", fn := fun _ => fun
  | [d1, d2] => { results := [.lit (.bool false)], args := [d1, d2] }
  | _ => none }
def LoadSamesWrongFalsely : Prop := loadSamesRow.holds Tryd.pinned (OpenSpec.ofChange loadSamesWrong)

/-- 'thistlelaw15.PikeRuns': WHATEVER THE INPUT: true; the input reads as it did. -/
def pikeRunsSpec : ChangeSpec := { name := "pikeRuns", fn := fun _ => fun
  | [d1, d2, d3] => { results := [.lit (.bool true)], args := [d1, d2, d3] }
  | _ => none }
def pikeRunsRow : OpenClaim := { program := "ytkebkfipjodnnaadoor", sum := "f30bd40c4b1db6c35bbd5d726a45867a5fd1d7823c7d92559849bfb1f9932605", func := "thistle/thistlelaw15.PikeRuns", spec := "pikeRuns", inPlace := ["internal/abi.NoEscape"], unfollowed := true, recurses := true, named := ["thistle/sets.bands", "unicode/utf8.first", "unicode/utf8.acceptRanges"], apart := false, laid := [("unicode/utf8.acceptRanges", laid_unicode_utf8_acceptRanges), ("thistle/sets.bands", laid_thistle_sets_bands), ("unicode/utf8.first", laid_unicode_utf8_first)] }
def PikeRunsSaid : Prop := pikeRunsRow.holds Tryd.pinned (OpenSpec.ofChange pikeRunsSpec)

/-- ITS FALSE NEIGHBOUR: 'it returns false'. Refute it at one input. -/
def pikeRunsWrong : ChangeSpec := { name := "pikeRuns", fn := fun _ => fun
  | [d1, d2, d3] => { results := [.lit (.bool false)], args := [d1, d2, d3] }
  | _ => none }
def PikeRunsWrongFalsely : Prop := pikeRunsRow.holds Tryd.pinned (OpenSpec.ofChange pikeRunsWrong)

/-- 'thistlelaw15.PikeNil': WHATEVER THE INPUT: true; the input reads as it did. -/
def pikeNilSpec : ChangeSpec := { name := "pikeNil", fn := fun _ => fun
  | [] => { results := [.lit (.bool true)], args := [] }
  | _ => none }
def pikeNilRow : OpenClaim := { program := "ytkebkfipjodnnaadoor", sum := "f30bd40c4b1db6c35bbd5d726a45867a5fd1d7823c7d92559849bfb1f9932605", func := "thistle/thistlelaw15.PikeNil", spec := "pikeNil", inPlace := ["internal/abi.NoEscape"], unfollowed := true, recurses := true, named := ["thistle/sets.bands", "unicode/utf8.first", "unicode/utf8.acceptRanges"], apart := false, laid := [("unicode/utf8.acceptRanges", laid_unicode_utf8_acceptRanges), ("thistle/sets.bands", laid_thistle_sets_bands), ("unicode/utf8.first", laid_unicode_utf8_first)] }
def PikeNilSaid : Prop := pikeNilRow.holds Tryd.pinned (OpenSpec.ofChange pikeNilSpec)

/-- ITS FALSE NEIGHBOUR: 'it returns false'. Refute it at one input. -/
def pikeNilWrong : ChangeSpec := { name := "pikeNil", fn := fun _ => fun
  | [] => { results := [.lit (.bool false)], args := [] }
  | _ => none }
def PikeNilWrongFalsely : Prop := pikeNilRow.holds Tryd.pinned (OpenSpec.ofChange pikeNilWrong)

/-- 'thistlelaw15.PikeBacks': WHATEVER THE INPUT: true; the input reads as it did. -/
def pikeBacksSpec : ChangeSpec := { name := "pikeBacks", fn := fun _ => fun
  | [d1, d2, d3] => { results := [.lit (.bool true)], args := [d1, d2, d3] }
  | _ => none }
def pikeBacksRow : OpenClaim := { program := "ytkebkfipjodnnaadoor", sum := "f30bd40c4b1db6c35bbd5d726a45867a5fd1d7823c7d92559849bfb1f9932605", func := "thistle/thistlelaw15.PikeBacks", spec := "pikeBacks", unfollowed := true, recurses := true, named := ["thistle/sets.bands", "unicode/utf8.first", "unicode/utf8.acceptRanges"], apart := false, laid := [("unicode/utf8.acceptRanges", laid_unicode_utf8_acceptRanges), ("thistle/sets.bands", laid_thistle_sets_bands), ("unicode/utf8.first", laid_unicode_utf8_first)] }
def PikeBacksSaid : Prop := pikeBacksRow.holds Tryd.pinned (OpenSpec.ofChange pikeBacksSpec)

/-- ITS FALSE NEIGHBOUR: 'it returns false'. Refute it at one input. -/
def pikeBacksWrong : ChangeSpec := { name := "pikeBacks", fn := fun _ => fun
  | [d1, d2, d3] => { results := [.lit (.bool false)], args := [d1, d2, d3] }
  | _ => none }
def PikeBacksWrongFalsely : Prop := pikeBacksRow.holds Tryd.pinned (OpenSpec.ofChange pikeBacksWrong)

/- THE SECOND FORM. 'bulk': how many values and letters a reading holds, each counted each time it is reached (what is shared counts as often as it is met; a slice's spare places count too). A statement '..UptoSaid' is the law's where the arguments, and the package variables that the reading takes, are together of bulk at most 1048576: NARROWER than '..Said'. Prove '..Said' where nothing that the law and all that it calls make is longer than what came in: it says more and counts as full. Else prove '..UptoSaid'. A law counts once. -/
mutual
def uptoBulk {H : Type} : DataW H → Nat
  | .lit (.string bytes) => bytes.length + 1
  | .lit _ => 1
  | .nil => 1
  | .ptr d => uptoBulk d + 1
  | .slice elems spare => uptoBulkAll elems + uptoBulkAll spare + 1
  | .agg parts => uptoBulkAll parts + 1
  | .iface _ d => uptoBulk d + 1
  | .map entries => uptoBulkEntries entries + 1
  | .held _ => 1
def uptoBulkAll {H : Type} : List (DataW H) → Nat
  | [] => 0
  | d :: r => uptoBulk d + uptoBulkAll r
def uptoBulkEntries {H : Type} : List (Lit × DataW H) → Nat
  | [] => 0
  | x :: r => uptoBulkEntry x + uptoBulkEntries r
def uptoBulkEntry {H : Type} : Lit × DataW H → Nat
  | (.string bytes, d) => bytes.length + uptoBulk d + 1
  | (_, d) => uptoBulk d + 1
 end
def uptoSmall : (H : Type) → List (DataW H) → Bool := fun _ ds => decide (uptoBulkAll ds ≤ 1048576)
def OpenSpec.upto (s : _root_.Go.ChangeSpec) : _root_.Go.OpenSpec := { _root_.Go.OpenSpec.ofChange s with cond := some uptoSmall }

/-- 'thistlelaw14.BackAll', WHERE WHAT IT READS IS OF BULK AT MOST 1048576: true; the input reads as it did. -/
def backAllUptoRow : OpenClaim := { program := "ytkebkfipjodnnaadoor", sum := "f30bd40c4b1db6c35bbd5d726a45867a5fd1d7823c7d92559849bfb1f9932605", func := "thistle/thistlelaw14.BackAll", spec := "backAll", unfollowed := true, recurses := true, named := ["thistle/sets.bands", "unicode/utf8.first", "unicode/utf8.acceptRanges"], apart := false, laid := [("unicode/utf8.acceptRanges", laid_unicode_utf8_acceptRanges), ("thistle/sets.bands", laid_thistle_sets_bands), ("unicode/utf8.first", laid_unicode_utf8_first)], narrowed := true }
def BackAllUptoSaid : Prop := backAllUptoRow.holds Tryd.pinned (OpenSpec.upto backAllSpec)

/-- 'thistlelaw14.BackPlaces', WHERE WHAT IT READS IS OF BULK AT MOST 1048576: true; the input reads as it did. -/
def backPlacesUptoRow : OpenClaim := { program := "ytkebkfipjodnnaadoor", sum := "f30bd40c4b1db6c35bbd5d726a45867a5fd1d7823c7d92559849bfb1f9932605", func := "thistle/thistlelaw14.BackPlaces", spec := "backPlaces", unfollowed := true, recurses := true, named := ["thistle/sets.bands", "unicode/utf8.first", "unicode/utf8.acceptRanges"], apart := false, laid := [("unicode/utf8.acceptRanges", laid_unicode_utf8_acceptRanges), ("thistle/sets.bands", laid_thistle_sets_bands), ("unicode/utf8.first", laid_unicode_utf8_first)], narrowed := true }
def BackPlacesUptoSaid : Prop := backPlacesUptoRow.holds Tryd.pinned (OpenSpec.upto backPlacesSpec)

/-- 'thistlelaw14.BackLarge', WHERE WHAT IT READS IS OF BULK AT MOST 1048576: true; the input reads as it did. -/
def backLargeUptoRow : OpenClaim := { program := "ytkebkfipjodnnaadoor", sum := "f30bd40c4b1db6c35bbd5d726a45867a5fd1d7823c7d92559849bfb1f9932605", func := "thistle/thistlelaw14.BackLarge", spec := "backLarge", unfollowed := true, recurses := true, named := ["thistle/sets.bands", "unicode/utf8.first", "unicode/utf8.acceptRanges"], apart := false, laid := [("unicode/utf8.acceptRanges", laid_unicode_utf8_acceptRanges), ("thistle/sets.bands", laid_thistle_sets_bands), ("unicode/utf8.first", laid_unicode_utf8_first)], narrowed := true }
def BackLargeUptoSaid : Prop := backLargeUptoRow.holds Tryd.pinned (OpenSpec.upto backLargeSpec)

/-- 'thistlelaw14.BackBorders', WHERE WHAT IT READS IS OF BULK AT MOST 1048576: true; the input reads as it did. -/
def backBordersUptoRow : OpenClaim := { program := "ytkebkfipjodnnaadoor", sum := "f30bd40c4b1db6c35bbd5d726a45867a5fd1d7823c7d92559849bfb1f9932605", func := "thistle/thistlelaw14.BackBorders", spec := "backBorders", unfollowed := true, recurses := true, named := ["thistle/sets.bands", "unicode/utf8.first", "unicode/utf8.acceptRanges"], apart := false, laid := [("unicode/utf8.acceptRanges", laid_unicode_utf8_acceptRanges), ("thistle/sets.bands", laid_thistle_sets_bands), ("unicode/utf8.first", laid_unicode_utf8_first)], narrowed := true }
def BackBordersUptoSaid : Prop := backBordersUptoRow.holds Tryd.pinned (OpenSpec.upto backBordersSpec)

/-- 'thistlelaw14.BackMemory', WHERE WHAT IT READS IS OF BULK AT MOST 1048576: true; the input reads as it did. -/
def backMemoryUptoRow : OpenClaim := { program := "ytkebkfipjodnnaadoor", sum := "f30bd40c4b1db6c35bbd5d726a45867a5fd1d7823c7d92559849bfb1f9932605", func := "thistle/thistlelaw14.BackMemory", spec := "backMemory", unfollowed := true, recurses := true, named := ["thistle/sets.bands", "unicode/utf8.first", "unicode/utf8.acceptRanges"], apart := false, laid := [("unicode/utf8.acceptRanges", laid_unicode_utf8_acceptRanges), ("thistle/sets.bands", laid_thistle_sets_bands), ("unicode/utf8.first", laid_unicode_utf8_first)], narrowed := true }
def BackMemoryUptoSaid : Prop := backMemoryUptoRow.holds Tryd.pinned (OpenSpec.upto backMemorySpec)

/-- 'thistlelaw15.PikePlays', WHERE WHAT IT READS IS OF BULK AT MOST 1048576: true; the input reads as it did. -/
def pikePlaysUptoRow : OpenClaim := { program := "ytkebkfipjodnnaadoor", sum := "f30bd40c4b1db6c35bbd5d726a45867a5fd1d7823c7d92559849bfb1f9932605", func := "thistle/thistlelaw15.PikePlays", spec := "pikePlays", unfollowed := true, recurses := true, named := ["thistle/sets.bands", "unicode/utf8.first", "unicode/utf8.acceptRanges"], apart := false, laid := [("unicode/utf8.acceptRanges", laid_unicode_utf8_acceptRanges), ("thistle/sets.bands", laid_thistle_sets_bands), ("unicode/utf8.first", laid_unicode_utf8_first)], narrowed := true }
def PikePlaysUptoSaid : Prop := pikePlaysUptoRow.holds Tryd.pinned (OpenSpec.upto pikePlaysSpec)

/-- 'thistlelaw13.LoadSames', WHERE WHAT IT READS IS OF BULK AT MOST 1048576: true; the input reads as it did. -/
def loadSamesUptoRow : OpenClaim := { program := "ytkebkfipjodnnaadoor", sum := "f30bd40c4b1db6c35bbd5d726a45867a5fd1d7823c7d92559849bfb1f9932605", func := "thistle/thistlelaw13.LoadSames", spec := "loadSames", inPlace := ["internal/abi.NoEscape", "internal/bytealg.MakeNoZero"], unfollowed := true, recurses := true, named := ["thistle/sets.bands", "internal/strconv.uint64pow10", "math/bits.deBruijn32tab", "math/bits.deBruijn64tab"], apart := false, laid := [("math/bits.deBruijn32tab", laid_math_bits_deBruijn32tab), ("math/bits.deBruijn64tab", laid_math_bits_deBruijn64tab), ("internal/strconv.uint64pow10", laid_internal_strconv_uint64pow10), ("thistle/sets.bands", laid_thistle_sets_bands)], narrowed := true }
def LoadSamesUptoSaid : Prop := loadSamesUptoRow.holds Tryd.pinned (OpenSpec.upto loadSamesSpec)

/-- 'thistlelaw15.PikeRuns', WHERE WHAT IT READS IS OF BULK AT MOST 1048576: true; the input reads as it did. -/
def pikeRunsUptoRow : OpenClaim := { program := "ytkebkfipjodnnaadoor", sum := "f30bd40c4b1db6c35bbd5d726a45867a5fd1d7823c7d92559849bfb1f9932605", func := "thistle/thistlelaw15.PikeRuns", spec := "pikeRuns", inPlace := ["internal/abi.NoEscape"], unfollowed := true, recurses := true, named := ["thistle/sets.bands", "unicode/utf8.first", "unicode/utf8.acceptRanges"], apart := false, laid := [("unicode/utf8.acceptRanges", laid_unicode_utf8_acceptRanges), ("thistle/sets.bands", laid_thistle_sets_bands), ("unicode/utf8.first", laid_unicode_utf8_first)], narrowed := true }
def PikeRunsUptoSaid : Prop := pikeRunsUptoRow.holds Tryd.pinned (OpenSpec.upto pikeRunsSpec)

/-- 'thistlelaw15.PikeNil', WHERE WHAT IT READS IS OF BULK AT MOST 1048576: true; the input reads as it did. -/
def pikeNilUptoRow : OpenClaim := { program := "ytkebkfipjodnnaadoor", sum := "f30bd40c4b1db6c35bbd5d726a45867a5fd1d7823c7d92559849bfb1f9932605", func := "thistle/thistlelaw15.PikeNil", spec := "pikeNil", inPlace := ["internal/abi.NoEscape"], unfollowed := true, recurses := true, named := ["thistle/sets.bands", "unicode/utf8.first", "unicode/utf8.acceptRanges"], apart := false, laid := [("unicode/utf8.acceptRanges", laid_unicode_utf8_acceptRanges), ("thistle/sets.bands", laid_thistle_sets_bands), ("unicode/utf8.first", laid_unicode_utf8_first)], narrowed := true }
def PikeNilUptoSaid : Prop := pikeNilUptoRow.holds Tryd.pinned (OpenSpec.upto pikeNilSpec)

/-- 'thistlelaw15.PikeBacks', WHERE WHAT IT READS IS OF BULK AT MOST 1048576: true; the input reads as it did. -/
def pikeBacksUptoRow : OpenClaim := { program := "ytkebkfipjodnnaadoor", sum := "f30bd40c4b1db6c35bbd5d726a45867a5fd1d7823c7d92559849bfb1f9932605", func := "thistle/thistlelaw15.PikeBacks", spec := "pikeBacks", unfollowed := true, recurses := true, named := ["thistle/sets.bands", "unicode/utf8.first", "unicode/utf8.acceptRanges"], apart := false, laid := [("unicode/utf8.acceptRanges", laid_unicode_utf8_acceptRanges), ("thistle/sets.bands", laid_thistle_sets_bands), ("unicode/utf8.first", laid_unicode_utf8_first)], narrowed := true }
def PikeBacksUptoSaid : Prop := pikeBacksUptoRow.holds Tryd.pinned (OpenSpec.upto pikeBacksSpec)

end Rows
end Go.Proofs.YtkebkfipjodnnaaDoor
