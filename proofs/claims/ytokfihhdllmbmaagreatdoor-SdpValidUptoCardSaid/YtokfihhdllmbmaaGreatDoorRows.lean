/-
  NARROWER THAN 'FOR EVERY INPUT', by the rows' own cells (each row's printed sentence says how): SdpValid: laid · SdpSpoilt: laid · SdpSlacks: laid · SdpSelects: laid · SdpPoints: laid · SdpValues: laid · SdpDuality: laid · SdpIndependent: laid · SdpEliminates: laid · SdpRestores: laid.
  DERIVED. THE GIVEN ROWS OF THIS SEAT. 10 by the template 'for every input the law returns true; each argument reads behind the call as it read before'; 0 by the template 'total and deterministic' (their statements: YtokfihhdllmbmaaGreatDoorTotals.lean).
  GIVEN WITH THE SEED: the statements are not yours to turn. If you find one false, say at which input.
  Laid BY PROGRAM, IN A SANDBOX (cutbox-rows.mjs): the forced cells as the released guide's own fill.sh prints them over the translation e201c57edea97815… (all of the seat's roots in one cut). By AI agents, Wed Nov 11 2026. No macro, syntax, notation, axiom, sorry.
-/
import Derived.Test.YtokfihhdllmbmaaGreatDoorChecked
import GoSem.Claim
import GoSem.ClaimJoined
import GoSem.ClaimMapViews
import Derived.JoinedTies
import Derived.KernelRfl
namespace Go.Proofs.YtokfihhdllmbmaaGreatDoor
/- THE CELL 'sum', in the pinned program and in every row, IS THE sha256 OF THE DUMP (.gsa) THAT YtokfihhdllmbmaaGreatDoorProg.lean LOADS. Nothing in Lean hashes anything: it is a label: what it is worth is what the hold of that sum in a sandbox is worth. -/
noncomputable def Tryz.pinned : Pinned := { name := "ytokfihhdllmbmaagreatdoor", sum := "e201c57edea97815a7b745eecf8aa8946bdce5b17930eacd189eecb4afa925c4", checked := Tryz.checked }
namespace Rows
def none {H : Type} : Left H := { results := [], args := [] }

/- WHAT THE LISTED PACKAGE-LEVEL VARIABLES READ AS WHEN THE CALL BEGINS. Each datum BY PROGRAM (the guide's laid-datum.mjs) off the statement by which the dump's own 'gosem.cut.vars' lays the variable. In a bare row this is a premise. The card (YtokfihhdllmbmaaGreatDoorCards.lean) ties it to the program's text. -/
def laid_math_bits_deBruijn32tab {H : Type} : DataW H := .agg [.lit (.int .u8 0), .lit (.int .u8 1), .lit (.int .u8 28), .lit (.int .u8 2), .lit (.int .u8 29), .lit (.int .u8 14), .lit (.int .u8 24), .lit (.int .u8 3), .lit (.int .u8 30), .lit (.int .u8 22), .lit (.int .u8 20), .lit (.int .u8 15), .lit (.int .u8 25), .lit (.int .u8 17), .lit (.int .u8 4), .lit (.int .u8 8), .lit (.int .u8 31), .lit (.int .u8 27), .lit (.int .u8 13), .lit (.int .u8 23), .lit (.int .u8 21), .lit (.int .u8 19), .lit (.int .u8 16), .lit (.int .u8 7), .lit (.int .u8 26), .lit (.int .u8 12), .lit (.int .u8 18), .lit (.int .u8 6), .lit (.int .u8 11), .lit (.int .u8 5), .lit (.int .u8 10), .lit (.int .u8 9)]
def laid_math_bits_deBruijn64tab {H : Type} : DataW H := .agg [.lit (.int .u8 0), .lit (.int .u8 1), .lit (.int .u8 56), .lit (.int .u8 2), .lit (.int .u8 57), .lit (.int .u8 49), .lit (.int .u8 28), .lit (.int .u8 3), .lit (.int .u8 61), .lit (.int .u8 58), .lit (.int .u8 42), .lit (.int .u8 50), .lit (.int .u8 38), .lit (.int .u8 29), .lit (.int .u8 17), .lit (.int .u8 4), .lit (.int .u8 62), .lit (.int .u8 47), .lit (.int .u8 59), .lit (.int .u8 36), .lit (.int .u8 45), .lit (.int .u8 43), .lit (.int .u8 51), .lit (.int .u8 22), .lit (.int .u8 53), .lit (.int .u8 39), .lit (.int .u8 33), .lit (.int .u8 30), .lit (.int .u8 24), .lit (.int .u8 18), .lit (.int .u8 12), .lit (.int .u8 5), .lit (.int .u8 63), .lit (.int .u8 55), .lit (.int .u8 48), .lit (.int .u8 27), .lit (.int .u8 60), .lit (.int .u8 41), .lit (.int .u8 37), .lit (.int .u8 16), .lit (.int .u8 46), .lit (.int .u8 35), .lit (.int .u8 44), .lit (.int .u8 21), .lit (.int .u8 52), .lit (.int .u8 32), .lit (.int .u8 23), .lit (.int .u8 11), .lit (.int .u8 54), .lit (.int .u8 26), .lit (.int .u8 40), .lit (.int .u8 15), .lit (.int .u8 34), .lit (.int .u8 20), .lit (.int .u8 31), .lit (.int .u8 10), .lit (.int .u8 25), .lit (.int .u8 14), .lit (.int .u8 19), .lit (.int .u8 9), .lit (.int .u8 13), .lit (.int .u8 8), .lit (.int .u8 7), .lit (.int .u8 6)]
def laid_internal_strconv_uint64pow10 {H : Type} : DataW H := .agg [.lit (.int .u64 1), .lit (.int .u64 10), .lit (.int .u64 100), .lit (.int .u64 1000), .lit (.int .u64 10000), .lit (.int .u64 100000), .lit (.int .u64 1000000), .lit (.int .u64 10000000), .lit (.int .u64 100000000), .lit (.int .u64 1000000000), .lit (.int .u64 10000000000), .lit (.int .u64 100000000000), .lit (.int .u64 1000000000000), .lit (.int .u64 10000000000000), .lit (.int .u64 100000000000000), .lit (.int .u64 1000000000000000), .lit (.int .u64 10000000000000000), .lit (.int .u64 100000000000000000), .lit (.int .u64 1000000000000000000), .lit (.int .u64 10000000000000000000)]

/-- 'sosoptlaw25.SdpValid': WHATEVER THE INPUT: true; the input reads as it did. -/
def sdpValidSpec : ChangeSpec := { name := "sdpValid", fn := fun _ => fun
  | [d] => { results := [.lit (.bool true)], args := [d] }
  | _ => none }
def sdpValidRow : OpenClaim := { program := "ytokfihhdllmbmaagreatdoor", sum := "e201c57edea97815a7b745eecf8aa8946bdce5b17930eacd189eecb4afa925c4", func := "sosopt/sosoptlaw25.SdpValid", spec := "sdpValid", inPlace := ["math/bits.Add64", "math/bits.Sub64"], unfollowed := true, recurses := true, named := ["math/bits.divideError", "math/bits.overflowError", "math/bits.deBruijn64tab", "internal/strconv.uint64pow10", "math/bits.deBruijn32tab"], apart := false, laid := [("math/bits.deBruijn32tab", laid_math_bits_deBruijn32tab), ("math/bits.deBruijn64tab", laid_math_bits_deBruijn64tab), ("internal/strconv.uint64pow10", laid_internal_strconv_uint64pow10)] }
def SdpValidSaid : Prop := sdpValidRow.holds Tryz.pinned (OpenSpec.ofChange sdpValidSpec)

/-- ITS FALSE NEIGHBOUR: 'it returns false'. Refute it at one input. -/
def sdpValidWrong : ChangeSpec := { name := "sdpValid", fn := fun _ => fun
  | [d] => { results := [.lit (.bool false)], args := [d] }
  | _ => none }
def SdpValidWrongFalsely : Prop := sdpValidRow.holds Tryz.pinned (OpenSpec.ofChange sdpValidWrong)

/-- 'sosoptlaw25.SdpSpoilt': WHATEVER THE INPUT: true; the input reads as it did. -/
def sdpSpoiltSpec : ChangeSpec := { name := "sdpSpoilt", fn := fun _ => fun
  | [d1, d2, d3, d4] => { results := [.lit (.bool true)], args := [d1, d2, d3, d4] }
  | _ => none }
def sdpSpoiltRow : OpenClaim := { program := "ytokfihhdllmbmaagreatdoor", sum := "e201c57edea97815a7b745eecf8aa8946bdce5b17930eacd189eecb4afa925c4", func := "sosopt/sosoptlaw25.SdpSpoilt", spec := "sdpSpoilt", inPlace := ["math/bits.Add64", "math/bits.Sub64"], unfollowed := true, recurses := true, named := ["math/bits.divideError", "math/bits.overflowError", "math/bits.deBruijn64tab", "internal/strconv.uint64pow10", "math/bits.deBruijn32tab"], apart := false, laid := [("math/bits.deBruijn32tab", laid_math_bits_deBruijn32tab), ("math/bits.deBruijn64tab", laid_math_bits_deBruijn64tab), ("internal/strconv.uint64pow10", laid_internal_strconv_uint64pow10)] }
def SdpSpoiltSaid : Prop := sdpSpoiltRow.holds Tryz.pinned (OpenSpec.ofChange sdpSpoiltSpec)

/-- ITS FALSE NEIGHBOUR: 'it returns false'. Refute it at one input. -/
def sdpSpoiltWrong : ChangeSpec := { name := "sdpSpoilt", fn := fun _ => fun
  | [d1, d2, d3, d4] => { results := [.lit (.bool false)], args := [d1, d2, d3, d4] }
  | _ => none }
def SdpSpoiltWrongFalsely : Prop := sdpSpoiltRow.holds Tryz.pinned (OpenSpec.ofChange sdpSpoiltWrong)

/-- 'sosoptlaw25.SdpSlacks': WHATEVER THE INPUT: true; the input reads as it did. -/
def sdpSlacksSpec : ChangeSpec := { name := "sdpSlacks", fn := fun _ => fun
  | [d1, d2] => { results := [.lit (.bool true)], args := [d1, d2] }
  | _ => none }
def sdpSlacksRow : OpenClaim := { program := "ytokfihhdllmbmaagreatdoor", sum := "e201c57edea97815a7b745eecf8aa8946bdce5b17930eacd189eecb4afa925c4", func := "sosopt/sosoptlaw25.SdpSlacks", spec := "sdpSlacks", inPlace := ["math/bits.Add64", "math/bits.Sub64"], unfollowed := true, recurses := true, named := ["math/bits.divideError", "math/bits.overflowError", "math/bits.deBruijn64tab", "internal/strconv.uint64pow10", "math/bits.deBruijn32tab"], apart := false, laid := [("math/bits.deBruijn32tab", laid_math_bits_deBruijn32tab), ("math/bits.deBruijn64tab", laid_math_bits_deBruijn64tab), ("internal/strconv.uint64pow10", laid_internal_strconv_uint64pow10)] }
def SdpSlacksSaid : Prop := sdpSlacksRow.holds Tryz.pinned (OpenSpec.ofChange sdpSlacksSpec)

/-- ITS FALSE NEIGHBOUR: 'it returns false'. Refute it at one input. -/
def sdpSlacksWrong : ChangeSpec := { name := "sdpSlacks", fn := fun _ => fun
  | [d1, d2] => { results := [.lit (.bool false)], args := [d1, d2] }
  | _ => none }
def SdpSlacksWrongFalsely : Prop := sdpSlacksRow.holds Tryz.pinned (OpenSpec.ofChange sdpSlacksWrong)

/-- 'sosoptlaw25.SdpSelects': WHATEVER THE INPUT: true; the input reads as it did. -/
def sdpSelectsSpec : ChangeSpec := { name := "sdpSelects", fn := fun _ => fun
  | [d1, d2] => { results := [.lit (.bool true)], args := [d1, d2] }
  | _ => none }
def sdpSelectsRow : OpenClaim := { program := "ytokfihhdllmbmaagreatdoor", sum := "e201c57edea97815a7b745eecf8aa8946bdce5b17930eacd189eecb4afa925c4", func := "sosopt/sosoptlaw25.SdpSelects", spec := "sdpSelects", inPlace := ["math/bits.Add64", "math/bits.Sub64"], unfollowed := true, recurses := true, named := ["math/bits.divideError", "math/bits.overflowError", "math/bits.deBruijn64tab", "internal/strconv.uint64pow10", "math/bits.deBruijn32tab"], apart := false, laid := [("math/bits.deBruijn32tab", laid_math_bits_deBruijn32tab), ("math/bits.deBruijn64tab", laid_math_bits_deBruijn64tab), ("internal/strconv.uint64pow10", laid_internal_strconv_uint64pow10)] }
def SdpSelectsSaid : Prop := sdpSelectsRow.holds Tryz.pinned (OpenSpec.ofChange sdpSelectsSpec)

/-- ITS FALSE NEIGHBOUR: 'it returns false'. Refute it at one input. -/
def sdpSelectsWrong : ChangeSpec := { name := "sdpSelects", fn := fun _ => fun
  | [d1, d2] => { results := [.lit (.bool false)], args := [d1, d2] }
  | _ => none }
def SdpSelectsWrongFalsely : Prop := sdpSelectsRow.holds Tryz.pinned (OpenSpec.ofChange sdpSelectsWrong)

/-- 'sosoptlaw25.SdpPoints': WHATEVER THE INPUT: true; the input reads as it did. -/
def sdpPointsSpec : ChangeSpec := { name := "sdpPoints", fn := fun _ => fun
  | [d1, d2] => { results := [.lit (.bool true)], args := [d1, d2] }
  | _ => none }
def sdpPointsRow : OpenClaim := { program := "ytokfihhdllmbmaagreatdoor", sum := "e201c57edea97815a7b745eecf8aa8946bdce5b17930eacd189eecb4afa925c4", func := "sosopt/sosoptlaw25.SdpPoints", spec := "sdpPoints", inPlace := ["math/bits.Add64", "math/bits.Sub64"], unfollowed := true, recurses := true, named := ["math/bits.divideError", "math/bits.overflowError", "math/bits.deBruijn64tab", "internal/strconv.uint64pow10", "math/bits.deBruijn32tab"], apart := false, laid := [("math/bits.deBruijn32tab", laid_math_bits_deBruijn32tab), ("math/bits.deBruijn64tab", laid_math_bits_deBruijn64tab), ("internal/strconv.uint64pow10", laid_internal_strconv_uint64pow10)] }
def SdpPointsSaid : Prop := sdpPointsRow.holds Tryz.pinned (OpenSpec.ofChange sdpPointsSpec)

/-- ITS FALSE NEIGHBOUR: 'it returns false'. Refute it at one input. -/
def sdpPointsWrong : ChangeSpec := { name := "sdpPoints", fn := fun _ => fun
  | [d1, d2] => { results := [.lit (.bool false)], args := [d1, d2] }
  | _ => none }
def SdpPointsWrongFalsely : Prop := sdpPointsRow.holds Tryz.pinned (OpenSpec.ofChange sdpPointsWrong)

/-- 'sosoptlaw25.SdpValues': WHATEVER THE INPUT: true; the input reads as it did. -/
def sdpValuesSpec : ChangeSpec := { name := "sdpValues", fn := fun _ => fun
  | [d] => { results := [.lit (.bool true)], args := [d] }
  | _ => none }
def sdpValuesRow : OpenClaim := { program := "ytokfihhdllmbmaagreatdoor", sum := "e201c57edea97815a7b745eecf8aa8946bdce5b17930eacd189eecb4afa925c4", func := "sosopt/sosoptlaw25.SdpValues", spec := "sdpValues", inPlace := ["math/bits.Add64", "math/bits.Sub64"], unfollowed := true, recurses := true, named := ["math/bits.divideError", "math/bits.overflowError", "math/bits.deBruijn64tab", "internal/strconv.uint64pow10", "math/bits.deBruijn32tab"], apart := false, laid := [("math/bits.deBruijn32tab", laid_math_bits_deBruijn32tab), ("math/bits.deBruijn64tab", laid_math_bits_deBruijn64tab), ("internal/strconv.uint64pow10", laid_internal_strconv_uint64pow10)] }
def SdpValuesSaid : Prop := sdpValuesRow.holds Tryz.pinned (OpenSpec.ofChange sdpValuesSpec)

/-- ITS FALSE NEIGHBOUR: 'it returns false'. Refute it at one input. -/
def sdpValuesWrong : ChangeSpec := { name := "sdpValues", fn := fun _ => fun
  | [d] => { results := [.lit (.bool false)], args := [d] }
  | _ => none }
def SdpValuesWrongFalsely : Prop := sdpValuesRow.holds Tryz.pinned (OpenSpec.ofChange sdpValuesWrong)

/-- 'sosoptlaw25.SdpDuality': WHATEVER THE INPUT: true; the input reads as it did. -/
def sdpDualitySpec : ChangeSpec := { name := "sdpDuality", fn := fun _ => fun
  | [d] => { results := [.lit (.bool true)], args := [d] }
  | _ => none }
def sdpDualityRow : OpenClaim := { program := "ytokfihhdllmbmaagreatdoor", sum := "e201c57edea97815a7b745eecf8aa8946bdce5b17930eacd189eecb4afa925c4", func := "sosopt/sosoptlaw25.SdpDuality", spec := "sdpDuality", inPlace := ["math/bits.Add64", "math/bits.Sub64"], unfollowed := true, recurses := true, named := ["math/bits.divideError", "math/bits.overflowError", "math/bits.deBruijn64tab", "internal/strconv.uint64pow10", "math/bits.deBruijn32tab"], apart := false, laid := [("math/bits.deBruijn32tab", laid_math_bits_deBruijn32tab), ("math/bits.deBruijn64tab", laid_math_bits_deBruijn64tab), ("internal/strconv.uint64pow10", laid_internal_strconv_uint64pow10)] }
def SdpDualitySaid : Prop := sdpDualityRow.holds Tryz.pinned (OpenSpec.ofChange sdpDualitySpec)

/-- ITS FALSE NEIGHBOUR: 'it returns false'. Refute it at one input. -/
def sdpDualityWrong : ChangeSpec := { name := "sdpDuality", fn := fun _ => fun
  | [d] => { results := [.lit (.bool false)], args := [d] }
  | _ => none }
def SdpDualityWrongFalsely : Prop := sdpDualityRow.holds Tryz.pinned (OpenSpec.ofChange sdpDualityWrong)

/-- 'sosoptlaw25.SdpIndependent': WHATEVER THE INPUT: true; the input reads as it did. -/
def sdpIndependentSpec : ChangeSpec := { name := "sdpIndependent", fn := fun _ => fun
  | [d1, d2, d3] => { results := [.lit (.bool true)], args := [d1, d2, d3] }
  | _ => none }
def sdpIndependentRow : OpenClaim := { program := "ytokfihhdllmbmaagreatdoor", sum := "e201c57edea97815a7b745eecf8aa8946bdce5b17930eacd189eecb4afa925c4", func := "sosopt/sosoptlaw25.SdpIndependent", spec := "sdpIndependent", inPlace := ["math/bits.Add64", "math/bits.Sub64"], unfollowed := true, recurses := true, named := ["math/bits.divideError", "math/bits.overflowError", "math/bits.deBruijn64tab", "internal/strconv.uint64pow10", "math/bits.deBruijn32tab"], apart := false, laid := [("math/bits.deBruijn32tab", laid_math_bits_deBruijn32tab), ("math/bits.deBruijn64tab", laid_math_bits_deBruijn64tab), ("internal/strconv.uint64pow10", laid_internal_strconv_uint64pow10)] }
def SdpIndependentSaid : Prop := sdpIndependentRow.holds Tryz.pinned (OpenSpec.ofChange sdpIndependentSpec)

/-- ITS FALSE NEIGHBOUR: 'it returns false'. Refute it at one input. -/
def sdpIndependentWrong : ChangeSpec := { name := "sdpIndependent", fn := fun _ => fun
  | [d1, d2, d3] => { results := [.lit (.bool false)], args := [d1, d2, d3] }
  | _ => none }
def SdpIndependentWrongFalsely : Prop := sdpIndependentRow.holds Tryz.pinned (OpenSpec.ofChange sdpIndependentWrong)

/-- 'sosoptlaw25.SdpEliminates': WHATEVER THE INPUT: true; the input reads as it did. -/
def sdpEliminatesSpec : ChangeSpec := { name := "sdpEliminates", fn := fun _ => fun
  | [d] => { results := [.lit (.bool true)], args := [d] }
  | _ => none }
def sdpEliminatesRow : OpenClaim := { program := "ytokfihhdllmbmaagreatdoor", sum := "e201c57edea97815a7b745eecf8aa8946bdce5b17930eacd189eecb4afa925c4", func := "sosopt/sosoptlaw25.SdpEliminates", spec := "sdpEliminates", inPlace := ["math/bits.Add64", "math/bits.Sub64"], unfollowed := true, recurses := true, named := ["math/bits.divideError", "math/bits.overflowError", "math/bits.deBruijn64tab", "internal/strconv.uint64pow10", "math/bits.deBruijn32tab"], apart := false, laid := [("math/bits.deBruijn32tab", laid_math_bits_deBruijn32tab), ("math/bits.deBruijn64tab", laid_math_bits_deBruijn64tab), ("internal/strconv.uint64pow10", laid_internal_strconv_uint64pow10)] }
def SdpEliminatesSaid : Prop := sdpEliminatesRow.holds Tryz.pinned (OpenSpec.ofChange sdpEliminatesSpec)

/-- ITS FALSE NEIGHBOUR: 'it returns false'. Refute it at one input. -/
def sdpEliminatesWrong : ChangeSpec := { name := "sdpEliminates", fn := fun _ => fun
  | [d] => { results := [.lit (.bool false)], args := [d] }
  | _ => none }
def SdpEliminatesWrongFalsely : Prop := sdpEliminatesRow.holds Tryz.pinned (OpenSpec.ofChange sdpEliminatesWrong)

/-- 'sosoptlaw25.SdpRestores': WHATEVER THE INPUT: true; the input reads as it did. -/
def sdpRestoresSpec : ChangeSpec := { name := "sdpRestores", fn := fun _ => fun
  | [d] => { results := [.lit (.bool true)], args := [d] }
  | _ => none }
def sdpRestoresRow : OpenClaim := { program := "ytokfihhdllmbmaagreatdoor", sum := "e201c57edea97815a7b745eecf8aa8946bdce5b17930eacd189eecb4afa925c4", func := "sosopt/sosoptlaw25.SdpRestores", spec := "sdpRestores", inPlace := ["math/bits.Add64", "math/bits.Sub64"], unfollowed := true, recurses := true, named := ["math/bits.divideError", "math/bits.overflowError", "math/bits.deBruijn64tab", "internal/strconv.uint64pow10", "math/bits.deBruijn32tab"], apart := false, laid := [("math/bits.deBruijn32tab", laid_math_bits_deBruijn32tab), ("math/bits.deBruijn64tab", laid_math_bits_deBruijn64tab), ("internal/strconv.uint64pow10", laid_internal_strconv_uint64pow10)] }
def SdpRestoresSaid : Prop := sdpRestoresRow.holds Tryz.pinned (OpenSpec.ofChange sdpRestoresSpec)

/-- ITS FALSE NEIGHBOUR: 'it returns false'. Refute it at one input. -/
def sdpRestoresWrong : ChangeSpec := { name := "sdpRestores", fn := fun _ => fun
  | [d] => { results := [.lit (.bool false)], args := [d] }
  | _ => none }
def SdpRestoresWrongFalsely : Prop := sdpRestoresRow.holds Tryz.pinned (OpenSpec.ofChange sdpRestoresWrong)

/- THE SECOND FORM. 'bulk': how many values and letters a reading holds, each counted each time it is reached (what is shared counts as often as it is met; a slice's spare places count too). A statement '..UptoSaid' is the law's where the arguments, and the package variables that the reading takes, are together of bulk at most 1048576: NARROWER than '..Said'. Prove '..Said' where nothing that the law and all that it calls make is longer than what came in: it says more and counts as full. Else prove '..UptoSaid'. A law counts once. -/
mutual
def uptoBulk {H : Type} : DataW H → Nat
  | .lit (.string bytes) => bytes.length + 1
  | .lit _ => 1
  | .nil => 1
  | .ptr d => uptoBulk d + 1
  | .slice elems spare => uptoBulkAll elems + uptoBulkAll spare + 1
  | .agg parts => uptoBulkAll parts + 1
  | .iface _ d => uptoBulk d + 1
  | .map entries => uptoBulkEntries entries + 1
  | .held _ => 1
def uptoBulkAll {H : Type} : List (DataW H) → Nat
  | [] => 0
  | d :: r => uptoBulk d + uptoBulkAll r
def uptoBulkEntries {H : Type} : List (Lit × DataW H) → Nat
  | [] => 0
  | x :: r => uptoBulkEntry x + uptoBulkEntries r
def uptoBulkEntry {H : Type} : Lit × DataW H → Nat
  | (.string bytes, d) => bytes.length + uptoBulk d + 1
  | (_, d) => uptoBulk d + 1
 end
def uptoSmall : (H : Type) → List (DataW H) → Bool := fun _ ds => decide (uptoBulkAll ds ≤ 1048576)
def OpenSpec.upto (s : _root_.Go.ChangeSpec) : _root_.Go.OpenSpec := { _root_.Go.OpenSpec.ofChange s with cond := some uptoSmall }

/-- 'sosoptlaw25.SdpValid', WHERE WHAT IT READS IS OF BULK AT MOST 1048576: true; the input reads as it did. -/
def sdpValidUptoRow : OpenClaim := { program := "ytokfihhdllmbmaagreatdoor", sum := "e201c57edea97815a7b745eecf8aa8946bdce5b17930eacd189eecb4afa925c4", func := "sosopt/sosoptlaw25.SdpValid", spec := "sdpValid", inPlace := ["math/bits.Add64", "math/bits.Sub64"], unfollowed := true, recurses := true, named := ["math/bits.divideError", "math/bits.overflowError", "math/bits.deBruijn64tab", "internal/strconv.uint64pow10", "math/bits.deBruijn32tab"], apart := false, laid := [("math/bits.deBruijn32tab", laid_math_bits_deBruijn32tab), ("math/bits.deBruijn64tab", laid_math_bits_deBruijn64tab), ("internal/strconv.uint64pow10", laid_internal_strconv_uint64pow10)], narrowed := true }
def SdpValidUptoSaid : Prop := sdpValidUptoRow.holds Tryz.pinned (OpenSpec.upto sdpValidSpec)

/-- 'sosoptlaw25.SdpSpoilt', WHERE WHAT IT READS IS OF BULK AT MOST 1048576: true; the input reads as it did. -/
def sdpSpoiltUptoRow : OpenClaim := { program := "ytokfihhdllmbmaagreatdoor", sum := "e201c57edea97815a7b745eecf8aa8946bdce5b17930eacd189eecb4afa925c4", func := "sosopt/sosoptlaw25.SdpSpoilt", spec := "sdpSpoilt", inPlace := ["math/bits.Add64", "math/bits.Sub64"], unfollowed := true, recurses := true, named := ["math/bits.divideError", "math/bits.overflowError", "math/bits.deBruijn64tab", "internal/strconv.uint64pow10", "math/bits.deBruijn32tab"], apart := false, laid := [("math/bits.deBruijn32tab", laid_math_bits_deBruijn32tab), ("math/bits.deBruijn64tab", laid_math_bits_deBruijn64tab), ("internal/strconv.uint64pow10", laid_internal_strconv_uint64pow10)], narrowed := true }
def SdpSpoiltUptoSaid : Prop := sdpSpoiltUptoRow.holds Tryz.pinned (OpenSpec.upto sdpSpoiltSpec)

/-- 'sosoptlaw25.SdpSlacks', WHERE WHAT IT READS IS OF BULK AT MOST 1048576: true; the input reads as it did. -/
def sdpSlacksUptoRow : OpenClaim := { program := "ytokfihhdllmbmaagreatdoor", sum := "e201c57edea97815a7b745eecf8aa8946bdce5b17930eacd189eecb4afa925c4", func := "sosopt/sosoptlaw25.SdpSlacks", spec := "sdpSlacks", inPlace := ["math/bits.Add64", "math/bits.Sub64"], unfollowed := true, recurses := true, named := ["math/bits.divideError", "math/bits.overflowError", "math/bits.deBruijn64tab", "internal/strconv.uint64pow10", "math/bits.deBruijn32tab"], apart := false, laid := [("math/bits.deBruijn32tab", laid_math_bits_deBruijn32tab), ("math/bits.deBruijn64tab", laid_math_bits_deBruijn64tab), ("internal/strconv.uint64pow10", laid_internal_strconv_uint64pow10)], narrowed := true }
def SdpSlacksUptoSaid : Prop := sdpSlacksUptoRow.holds Tryz.pinned (OpenSpec.upto sdpSlacksSpec)

/-- 'sosoptlaw25.SdpSelects', WHERE WHAT IT READS IS OF BULK AT MOST 1048576: true; the input reads as it did. -/
def sdpSelectsUptoRow : OpenClaim := { program := "ytokfihhdllmbmaagreatdoor", sum := "e201c57edea97815a7b745eecf8aa8946bdce5b17930eacd189eecb4afa925c4", func := "sosopt/sosoptlaw25.SdpSelects", spec := "sdpSelects", inPlace := ["math/bits.Add64", "math/bits.Sub64"], unfollowed := true, recurses := true, named := ["math/bits.divideError", "math/bits.overflowError", "math/bits.deBruijn64tab", "internal/strconv.uint64pow10", "math/bits.deBruijn32tab"], apart := false, laid := [("math/bits.deBruijn32tab", laid_math_bits_deBruijn32tab), ("math/bits.deBruijn64tab", laid_math_bits_deBruijn64tab), ("internal/strconv.uint64pow10", laid_internal_strconv_uint64pow10)], narrowed := true }
def SdpSelectsUptoSaid : Prop := sdpSelectsUptoRow.holds Tryz.pinned (OpenSpec.upto sdpSelectsSpec)

/-- 'sosoptlaw25.SdpPoints', WHERE WHAT IT READS IS OF BULK AT MOST 1048576: true; the input reads as it did. -/
def sdpPointsUptoRow : OpenClaim := { program := "ytokfihhdllmbmaagreatdoor", sum := "e201c57edea97815a7b745eecf8aa8946bdce5b17930eacd189eecb4afa925c4", func := "sosopt/sosoptlaw25.SdpPoints", spec := "sdpPoints", inPlace := ["math/bits.Add64", "math/bits.Sub64"], unfollowed := true, recurses := true, named := ["math/bits.divideError", "math/bits.overflowError", "math/bits.deBruijn64tab", "internal/strconv.uint64pow10", "math/bits.deBruijn32tab"], apart := false, laid := [("math/bits.deBruijn32tab", laid_math_bits_deBruijn32tab), ("math/bits.deBruijn64tab", laid_math_bits_deBruijn64tab), ("internal/strconv.uint64pow10", laid_internal_strconv_uint64pow10)], narrowed := true }
def SdpPointsUptoSaid : Prop := sdpPointsUptoRow.holds Tryz.pinned (OpenSpec.upto sdpPointsSpec)

/-- 'sosoptlaw25.SdpValues', WHERE WHAT IT READS IS OF BULK AT MOST 1048576: true; the input reads as it did. -/
def sdpValuesUptoRow : OpenClaim := { program := "ytokfihhdllmbmaagreatdoor", sum := "e201c57edea97815a7b745eecf8aa8946bdce5b17930eacd189eecb4afa925c4", func := "sosopt/sosoptlaw25.SdpValues", spec := "sdpValues", inPlace := ["math/bits.Add64", "math/bits.Sub64"], unfollowed := true, recurses := true, named := ["math/bits.divideError", "math/bits.overflowError", "math/bits.deBruijn64tab", "internal/strconv.uint64pow10", "math/bits.deBruijn32tab"], apart := false, laid := [("math/bits.deBruijn32tab", laid_math_bits_deBruijn32tab), ("math/bits.deBruijn64tab", laid_math_bits_deBruijn64tab), ("internal/strconv.uint64pow10", laid_internal_strconv_uint64pow10)], narrowed := true }
def SdpValuesUptoSaid : Prop := sdpValuesUptoRow.holds Tryz.pinned (OpenSpec.upto sdpValuesSpec)

/-- 'sosoptlaw25.SdpDuality', WHERE WHAT IT READS IS OF BULK AT MOST 1048576: true; the input reads as it did. -/
def sdpDualityUptoRow : OpenClaim := { program := "ytokfihhdllmbmaagreatdoor", sum := "e201c57edea97815a7b745eecf8aa8946bdce5b17930eacd189eecb4afa925c4", func := "sosopt/sosoptlaw25.SdpDuality", spec := "sdpDuality", inPlace := ["math/bits.Add64", "math/bits.Sub64"], unfollowed := true, recurses := true, named := ["math/bits.divideError", "math/bits.overflowError", "math/bits.deBruijn64tab", "internal/strconv.uint64pow10", "math/bits.deBruijn32tab"], apart := false, laid := [("math/bits.deBruijn32tab", laid_math_bits_deBruijn32tab), ("math/bits.deBruijn64tab", laid_math_bits_deBruijn64tab), ("internal/strconv.uint64pow10", laid_internal_strconv_uint64pow10)], narrowed := true }
def SdpDualityUptoSaid : Prop := sdpDualityUptoRow.holds Tryz.pinned (OpenSpec.upto sdpDualitySpec)

/-- 'sosoptlaw25.SdpIndependent', WHERE WHAT IT READS IS OF BULK AT MOST 1048576: true; the input reads as it did. -/
def sdpIndependentUptoRow : OpenClaim := { program := "ytokfihhdllmbmaagreatdoor", sum := "e201c57edea97815a7b745eecf8aa8946bdce5b17930eacd189eecb4afa925c4", func := "sosopt/sosoptlaw25.SdpIndependent", spec := "sdpIndependent", inPlace := ["math/bits.Add64", "math/bits.Sub64"], unfollowed := true, recurses := true, named := ["math/bits.divideError", "math/bits.overflowError", "math/bits.deBruijn64tab", "internal/strconv.uint64pow10", "math/bits.deBruijn32tab"], apart := false, laid := [("math/bits.deBruijn32tab", laid_math_bits_deBruijn32tab), ("math/bits.deBruijn64tab", laid_math_bits_deBruijn64tab), ("internal/strconv.uint64pow10", laid_internal_strconv_uint64pow10)], narrowed := true }
def SdpIndependentUptoSaid : Prop := sdpIndependentUptoRow.holds Tryz.pinned (OpenSpec.upto sdpIndependentSpec)

/-- 'sosoptlaw25.SdpEliminates', WHERE WHAT IT READS IS OF BULK AT MOST 1048576: true; the input reads as it did. -/
def sdpEliminatesUptoRow : OpenClaim := { program := "ytokfihhdllmbmaagreatdoor", sum := "e201c57edea97815a7b745eecf8aa8946bdce5b17930eacd189eecb4afa925c4", func := "sosopt/sosoptlaw25.SdpEliminates", spec := "sdpEliminates", inPlace := ["math/bits.Add64", "math/bits.Sub64"], unfollowed := true, recurses := true, named := ["math/bits.divideError", "math/bits.overflowError", "math/bits.deBruijn64tab", "internal/strconv.uint64pow10", "math/bits.deBruijn32tab"], apart := false, laid := [("math/bits.deBruijn32tab", laid_math_bits_deBruijn32tab), ("math/bits.deBruijn64tab", laid_math_bits_deBruijn64tab), ("internal/strconv.uint64pow10", laid_internal_strconv_uint64pow10)], narrowed := true }
def SdpEliminatesUptoSaid : Prop := sdpEliminatesUptoRow.holds Tryz.pinned (OpenSpec.upto sdpEliminatesSpec)

/-- 'sosoptlaw25.SdpRestores', WHERE WHAT IT READS IS OF BULK AT MOST 1048576: true; the input reads as it did. -/
def sdpRestoresUptoRow : OpenClaim := { program := "ytokfihhdllmbmaagreatdoor", sum := "e201c57edea97815a7b745eecf8aa8946bdce5b17930eacd189eecb4afa925c4", func := "sosopt/sosoptlaw25.SdpRestores", spec := "sdpRestores", inPlace := ["math/bits.Add64", "math/bits.Sub64"], unfollowed := true, recurses := true, named := ["math/bits.divideError", "math/bits.overflowError", "math/bits.deBruijn64tab", "internal/strconv.uint64pow10", "math/bits.deBruijn32tab"], apart := false, laid := [("math/bits.deBruijn32tab", laid_math_bits_deBruijn32tab), ("math/bits.deBruijn64tab", laid_math_bits_deBruijn64tab), ("internal/strconv.uint64pow10", laid_internal_strconv_uint64pow10)], narrowed := true }
def SdpRestoresUptoSaid : Prop := sdpRestoresUptoRow.holds Tryz.pinned (OpenSpec.upto sdpRestoresSpec)

end Rows
end Go.Proofs.YtokfihhdllmbmaaGreatDoor
