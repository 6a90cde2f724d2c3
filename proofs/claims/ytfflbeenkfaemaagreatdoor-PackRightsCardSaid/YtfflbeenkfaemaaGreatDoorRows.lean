/-
  NARROWER THAN 'FOR EVERY INPUT', by the rows' own cells (each row's printed sentence says how): TopPacked: laid · PackFirst: laid · PackFits: laid · PackLists: laid · PackWhole: laid · PackRights: laid · PackSpoils: laid.
  DERIVED. THE GIVEN ROWS OF THIS SEAT. 7 by the template 'for every input the law returns true; each argument reads behind the call as it read before'; 0 by the template 'total and deterministic' (their statements: YtfflbeenkfaemaaGreatDoorTotals.lean).
  GIVEN WITH THE SEED: the statements are not yours to turn. If you find one false, say at which input.
  Laid BY PROGRAM, IN A SANDBOX (cutbox-rows.mjs): the forced cells as the released guide's own fill.sh prints them over the translation ed241811c80f31ed… (all of the seat's roots in one cut). By AI agents, Wed Nov 11 2026. No macro, syntax, notation, axiom, sorry.
-/
import Derived.Test.YtfflbeenkfaemaaGreatDoorChecked
import GoSem.Claim
import GoSem.ClaimJoined
import GoSem.ClaimMapViews
import Derived.JoinedTies
import Derived.KernelRfl
namespace Go.Proofs.YtfflbeenkfaemaaGreatDoor
/- THE CELL 'sum', in the pinned program and in every row, IS THE sha256 OF THE DUMP (.gsa) THAT YtfflbeenkfaemaaGreatDoorProg.lean LOADS. Nothing in Lean hashes anything: it is a label: what it is worth is what the hold of that sum in a sandbox is worth. -/
noncomputable def Tryz.pinned : Pinned := { name := "ytfflbeenkfaemaagreatdoor", sum := "ed241811c80f31edaf1a5c0554a740da642dfd72cd18f201e937cc735b88f4a1", checked := Tryz.checked }
namespace Rows
def none {H : Type} : Left H := { results := [], args := [] }

/- WHAT THE LISTED PACKAGE-LEVEL VARIABLES READ AS WHEN THE CALL BEGINS. Each datum BY PROGRAM (the guide's laid-datum.mjs) off the statement by which the dump's own 'gosem.cut.vars' lays the variable. In a bare row this is a premise. The card (YtfflbeenkfaemaaGreatDoorCards.lean) ties it to the program's text. -/
def laid_math_bits_deBruijn32tab {H : Type} : DataW H := .agg [.lit (.int .u8 0), .lit (.int .u8 1), .lit (.int .u8 28), .lit (.int .u8 2), .lit (.int .u8 29), .lit (.int .u8 14), .lit (.int .u8 24), .lit (.int .u8 3), .lit (.int .u8 30), .lit (.int .u8 22), .lit (.int .u8 20), .lit (.int .u8 15), .lit (.int .u8 25), .lit (.int .u8 17), .lit (.int .u8 4), .lit (.int .u8 8), .lit (.int .u8 31), .lit (.int .u8 27), .lit (.int .u8 13), .lit (.int .u8 23), .lit (.int .u8 21), .lit (.int .u8 19), .lit (.int .u8 16), .lit (.int .u8 7), .lit (.int .u8 26), .lit (.int .u8 12), .lit (.int .u8 18), .lit (.int .u8 6), .lit (.int .u8 11), .lit (.int .u8 5), .lit (.int .u8 10), .lit (.int .u8 9)]
def laid_math_bits_deBruijn64tab {H : Type} : DataW H := .agg [.lit (.int .u8 0), .lit (.int .u8 1), .lit (.int .u8 56), .lit (.int .u8 2), .lit (.int .u8 57), .lit (.int .u8 49), .lit (.int .u8 28), .lit (.int .u8 3), .lit (.int .u8 61), .lit (.int .u8 58), .lit (.int .u8 42), .lit (.int .u8 50), .lit (.int .u8 38), .lit (.int .u8 29), .lit (.int .u8 17), .lit (.int .u8 4), .lit (.int .u8 62), .lit (.int .u8 47), .lit (.int .u8 59), .lit (.int .u8 36), .lit (.int .u8 45), .lit (.int .u8 43), .lit (.int .u8 51), .lit (.int .u8 22), .lit (.int .u8 53), .lit (.int .u8 39), .lit (.int .u8 33), .lit (.int .u8 30), .lit (.int .u8 24), .lit (.int .u8 18), .lit (.int .u8 12), .lit (.int .u8 5), .lit (.int .u8 63), .lit (.int .u8 55), .lit (.int .u8 48), .lit (.int .u8 27), .lit (.int .u8 60), .lit (.int .u8 41), .lit (.int .u8 37), .lit (.int .u8 16), .lit (.int .u8 46), .lit (.int .u8 35), .lit (.int .u8 44), .lit (.int .u8 21), .lit (.int .u8 52), .lit (.int .u8 32), .lit (.int .u8 23), .lit (.int .u8 11), .lit (.int .u8 54), .lit (.int .u8 26), .lit (.int .u8 40), .lit (.int .u8 15), .lit (.int .u8 34), .lit (.int .u8 20), .lit (.int .u8 31), .lit (.int .u8 10), .lit (.int .u8 25), .lit (.int .u8 14), .lit (.int .u8 19), .lit (.int .u8 9), .lit (.int .u8 13), .lit (.int .u8 8), .lit (.int .u8 7), .lit (.int .u8 6)]
def laid_internal_strconv_uint64pow10 {H : Type} : DataW H := .agg [.lit (.int .u64 1), .lit (.int .u64 10), .lit (.int .u64 100), .lit (.int .u64 1000), .lit (.int .u64 10000), .lit (.int .u64 100000), .lit (.int .u64 1000000), .lit (.int .u64 10000000), .lit (.int .u64 100000000), .lit (.int .u64 1000000000), .lit (.int .u64 10000000000), .lit (.int .u64 100000000000), .lit (.int .u64 1000000000000), .lit (.int .u64 10000000000000), .lit (.int .u64 100000000000000), .lit (.int .u64 1000000000000000), .lit (.int .u64 10000000000000000), .lit (.int .u64 100000000000000000), .lit (.int .u64 1000000000000000000), .lit (.int .u64 10000000000000000000)]
def laid_supercargo_goods_apart {H : Type} : DataW H := .agg [.nil, .slice [.lit (.int .i64 2), .lit (.int .i64 3), .lit (.int .i64 4), .lit (.int .i64 5), .lit (.int .i64 6), .lit (.int .i64 7), .lit (.int .i64 8), .lit (.int .i64 9)] [], .slice [.lit (.int .i64 3), .lit (.int .i64 5)] [], .slice [.lit (.int .i64 5), .lit (.int .i64 8)] [], .slice [.lit (.int .i64 5), .lit (.int .i64 8)] [], .slice [.lit (.int .i64 6), .lit (.int .i64 8)] [], .nil, .slice [.lit (.int .i64 9)] [], .nil, .nil]

/-- 'supercargotop.TopPacked': WHATEVER THE INPUT: true; the input reads as it did. -/
def topPackedSpec : ChangeSpec := { name := "topPacked", fn := fun _ => fun
  | [d1, d2, d3] => { results := [.lit (.bool true)], args := [d1, d2, d3] }
  | _ => none }
def topPackedRow : OpenClaim := { program := "ytfflbeenkfaemaagreatdoor", sum := "ed241811c80f31edaf1a5c0554a740da642dfd72cd18f201e937cc735b88f4a1", func := "supercargo/supercargotop.TopPacked", spec := "topPacked", inPlace := ["internal/abi.NoEscape", "internal/bytealg.MakeNoZero"], unfollowed := true, recurses := true, named := ["math/bits.divideError", "math/bits.overflowError", "internal/strconv.uint64pow10", "math/bits.deBruijn32tab", "math/bits.deBruijn64tab", "supercargo/goods.apart"], apart := false, laid := [("math/bits.deBruijn32tab", laid_math_bits_deBruijn32tab), ("math/bits.deBruijn64tab", laid_math_bits_deBruijn64tab), ("internal/strconv.uint64pow10", laid_internal_strconv_uint64pow10), ("supercargo/goods.apart", laid_supercargo_goods_apart)] }
def TopPackedSaid : Prop := topPackedRow.holds Tryz.pinned (OpenSpec.ofChange topPackedSpec)

/-- ITS FALSE NEIGHBOUR: 'it returns false'. Refute it at one input. -/
def topPackedWrong : ChangeSpec := { name := "topPacked", fn := fun _ => fun
  | [d1, d2, d3] => { results := [.lit (.bool false)], args := [d1, d2, d3] }
  | _ => none }
def TopPackedWrongFalsely : Prop := topPackedRow.holds Tryz.pinned (OpenSpec.ofChange topPackedWrong)

/-- 'supercargolaw12.PackFirst': WHATEVER THE INPUT: true; the input reads as it did. -/
def packFirstSpec : ChangeSpec := { name := "packFirst", fn := fun _ => fun
  | [d1, d2, d3, d4] => { results := [.lit (.bool true)], args := [d1, d2, d3, d4] }
  | _ => none }
def packFirstRow : OpenClaim := { program := "ytfflbeenkfaemaagreatdoor", sum := "ed241811c80f31edaf1a5c0554a740da642dfd72cd18f201e937cc735b88f4a1", func := "supercargo/supercargolaw12.PackFirst", spec := "packFirst", inPlace := ["internal/abi.NoEscape", "internal/bytealg.MakeNoZero"], unfollowed := true, recurses := true, named := ["internal/strconv.uint64pow10", "math/bits.deBruijn32tab", "math/bits.deBruijn64tab", "supercargo/goods.apart"], apart := false, laid := [("math/bits.deBruijn32tab", laid_math_bits_deBruijn32tab), ("math/bits.deBruijn64tab", laid_math_bits_deBruijn64tab), ("internal/strconv.uint64pow10", laid_internal_strconv_uint64pow10), ("supercargo/goods.apart", laid_supercargo_goods_apart)] }
def PackFirstSaid : Prop := packFirstRow.holds Tryz.pinned (OpenSpec.ofChange packFirstSpec)

/-- ITS FALSE NEIGHBOUR: 'it returns false'. Refute it at one input. -/
def packFirstWrong : ChangeSpec := { name := "packFirst", fn := fun _ => fun
  | [d1, d2, d3, d4] => { results := [.lit (.bool false)], args := [d1, d2, d3, d4] }
  | _ => none }
def PackFirstWrongFalsely : Prop := packFirstRow.holds Tryz.pinned (OpenSpec.ofChange packFirstWrong)

/-- 'supercargolaw12.PackFits': WHATEVER THE INPUT: true; the input reads as it did. -/
def packFitsSpec : ChangeSpec := { name := "packFits", fn := fun _ => fun
  | [d1, d2, d3] => { results := [.lit (.bool true)], args := [d1, d2, d3] }
  | _ => none }
def packFitsRow : OpenClaim := { program := "ytfflbeenkfaemaagreatdoor", sum := "ed241811c80f31edaf1a5c0554a740da642dfd72cd18f201e937cc735b88f4a1", func := "supercargo/supercargolaw12.PackFits", spec := "packFits", inPlace := ["internal/abi.NoEscape", "internal/bytealg.MakeNoZero"], unfollowed := true, recurses := true, named := ["internal/strconv.uint64pow10", "math/bits.deBruijn32tab", "math/bits.deBruijn64tab", "supercargo/goods.apart"], apart := false, laid := [("math/bits.deBruijn32tab", laid_math_bits_deBruijn32tab), ("math/bits.deBruijn64tab", laid_math_bits_deBruijn64tab), ("internal/strconv.uint64pow10", laid_internal_strconv_uint64pow10), ("supercargo/goods.apart", laid_supercargo_goods_apart)] }
def PackFitsSaid : Prop := packFitsRow.holds Tryz.pinned (OpenSpec.ofChange packFitsSpec)

/-- ITS FALSE NEIGHBOUR: 'it returns false'. Refute it at one input. -/
def packFitsWrong : ChangeSpec := { name := "packFits", fn := fun _ => fun
  | [d1, d2, d3] => { results := [.lit (.bool false)], args := [d1, d2, d3] }
  | _ => none }
def PackFitsWrongFalsely : Prop := packFitsRow.holds Tryz.pinned (OpenSpec.ofChange packFitsWrong)

/-- 'supercargolaw12.PackLists': WHATEVER THE INPUT: true; the input reads as it did. -/
def packListsSpec : ChangeSpec := { name := "packLists", fn := fun _ => fun
  | [d] => { results := [.lit (.bool true)], args := [d] }
  | _ => none }
def packListsRow : OpenClaim := { program := "ytfflbeenkfaemaagreatdoor", sum := "ed241811c80f31edaf1a5c0554a740da642dfd72cd18f201e937cc735b88f4a1", func := "supercargo/supercargolaw12.PackLists", spec := "packLists", inPlace := ["internal/abi.NoEscape", "internal/bytealg.MakeNoZero"], unfollowed := true, recurses := true, named := ["internal/strconv.uint64pow10", "math/bits.deBruijn32tab", "math/bits.deBruijn64tab", "supercargo/goods.apart"], apart := false, laid := [("math/bits.deBruijn32tab", laid_math_bits_deBruijn32tab), ("math/bits.deBruijn64tab", laid_math_bits_deBruijn64tab), ("internal/strconv.uint64pow10", laid_internal_strconv_uint64pow10), ("supercargo/goods.apart", laid_supercargo_goods_apart)] }
def PackListsSaid : Prop := packListsRow.holds Tryz.pinned (OpenSpec.ofChange packListsSpec)

/-- ITS FALSE NEIGHBOUR: 'it returns false'. Refute it at one input. -/
def packListsWrong : ChangeSpec := { name := "packLists", fn := fun _ => fun
  | [d] => { results := [.lit (.bool false)], args := [d] }
  | _ => none }
def PackListsWrongFalsely : Prop := packListsRow.holds Tryz.pinned (OpenSpec.ofChange packListsWrong)

/-- 'supercargolaw12.PackWhole': WHATEVER THE INPUT: true; the input reads as it did. -/
def packWholeSpec : ChangeSpec := { name := "packWhole", fn := fun _ => fun
  | [d1, d2, d3, d4] => { results := [.lit (.bool true)], args := [d1, d2, d3, d4] }
  | _ => none }
def packWholeRow : OpenClaim := { program := "ytfflbeenkfaemaagreatdoor", sum := "ed241811c80f31edaf1a5c0554a740da642dfd72cd18f201e937cc735b88f4a1", func := "supercargo/supercargolaw12.PackWhole", spec := "packWhole", inPlace := ["internal/abi.NoEscape", "internal/bytealg.MakeNoZero"], unfollowed := true, recurses := true, named := ["internal/strconv.uint64pow10", "math/bits.deBruijn32tab", "math/bits.deBruijn64tab", "supercargo/goods.apart"], apart := false, laid := [("math/bits.deBruijn32tab", laid_math_bits_deBruijn32tab), ("math/bits.deBruijn64tab", laid_math_bits_deBruijn64tab), ("internal/strconv.uint64pow10", laid_internal_strconv_uint64pow10), ("supercargo/goods.apart", laid_supercargo_goods_apart)] }
def PackWholeSaid : Prop := packWholeRow.holds Tryz.pinned (OpenSpec.ofChange packWholeSpec)

/-- ITS FALSE NEIGHBOUR: 'it returns false'. Refute it at one input. -/
def packWholeWrong : ChangeSpec := { name := "packWhole", fn := fun _ => fun
  | [d1, d2, d3, d4] => { results := [.lit (.bool false)], args := [d1, d2, d3, d4] }
  | _ => none }
def PackWholeWrongFalsely : Prop := packWholeRow.holds Tryz.pinned (OpenSpec.ofChange packWholeWrong)

/-- 'supercargolaw12.PackRights': WHATEVER THE INPUT: true; the input reads as it did. -/
def packRightsSpec : ChangeSpec := { name := "packRights", fn := fun _ => fun
  | [d1, d2, d3] => { results := [.lit (.bool true)], args := [d1, d2, d3] }
  | _ => none }
def packRightsRow : OpenClaim := { program := "ytfflbeenkfaemaagreatdoor", sum := "ed241811c80f31edaf1a5c0554a740da642dfd72cd18f201e937cc735b88f4a1", func := "supercargo/supercargolaw12.PackRights", spec := "packRights", inPlace := ["internal/abi.NoEscape", "internal/bytealg.MakeNoZero"], unfollowed := true, recurses := true, named := ["internal/strconv.uint64pow10", "math/bits.deBruijn32tab", "math/bits.deBruijn64tab", "supercargo/goods.apart"], apart := false, laid := [("math/bits.deBruijn32tab", laid_math_bits_deBruijn32tab), ("math/bits.deBruijn64tab", laid_math_bits_deBruijn64tab), ("internal/strconv.uint64pow10", laid_internal_strconv_uint64pow10), ("supercargo/goods.apart", laid_supercargo_goods_apart)] }
def PackRightsSaid : Prop := packRightsRow.holds Tryz.pinned (OpenSpec.ofChange packRightsSpec)

/-- ITS FALSE NEIGHBOUR: 'it returns false'. Refute it at one input. -/
def packRightsWrong : ChangeSpec := { name := "packRights", fn := fun _ => fun
  | [d1, d2, d3] => { results := [.lit (.bool false)], args := [d1, d2, d3] }
  | _ => none }
def PackRightsWrongFalsely : Prop := packRightsRow.holds Tryz.pinned (OpenSpec.ofChange packRightsWrong)

/-- 'supercargolaw12.PackSpoils': WHATEVER THE INPUT: true; the input reads as it did. -/
def packSpoilsSpec : ChangeSpec := { name := "packSpoils", fn := fun _ => fun
  | [d1, d2, d3, d4, d5] => { results := [.lit (.bool true)], args := [d1, d2, d3, d4, d5] }
  | _ => none }
def packSpoilsRow : OpenClaim := { program := "ytfflbeenkfaemaagreatdoor", sum := "ed241811c80f31edaf1a5c0554a740da642dfd72cd18f201e937cc735b88f4a1", func := "supercargo/supercargolaw12.PackSpoils", spec := "packSpoils", inPlace := ["internal/abi.NoEscape", "internal/bytealg.MakeNoZero"], unfollowed := true, recurses := true, named := ["internal/strconv.uint64pow10", "math/bits.deBruijn32tab", "math/bits.deBruijn64tab", "supercargo/goods.apart"], apart := false, laid := [("math/bits.deBruijn32tab", laid_math_bits_deBruijn32tab), ("math/bits.deBruijn64tab", laid_math_bits_deBruijn64tab), ("internal/strconv.uint64pow10", laid_internal_strconv_uint64pow10), ("supercargo/goods.apart", laid_supercargo_goods_apart)] }
def PackSpoilsSaid : Prop := packSpoilsRow.holds Tryz.pinned (OpenSpec.ofChange packSpoilsSpec)

/-- ITS FALSE NEIGHBOUR: 'it returns false'. Refute it at one input. -/
def packSpoilsWrong : ChangeSpec := { name := "packSpoils", fn := fun _ => fun
  | [d1, d2, d3, d4, d5] => { results := [.lit (.bool false)], args := [d1, d2, d3, d4, d5] }
  | _ => none }
def PackSpoilsWrongFalsely : Prop := packSpoilsRow.holds Tryz.pinned (OpenSpec.ofChange packSpoilsWrong)

/- THE SECOND FORM. 'bulk': how many values and letters a reading holds, each counted each time it is reached (what is shared counts as often as it is met; a slice's spare places count too). A statement '..UptoSaid' is the law's where the arguments, and the package variables that the reading takes, are together of bulk at most 1048576: NARROWER than '..Said'. Prove '..Said' where nothing that the law and all that it calls make is longer than what came in: it says more and counts as full. Else prove '..UptoSaid'. A law counts once. -/
mutual
def uptoBulk {H : Type} : DataW H → Nat
  | .lit (.string bytes) => bytes.length + 1
  | .lit _ => 1
  | .nil => 1
  | .ptr d => uptoBulk d + 1
  | .slice elems spare => uptoBulkAll elems + uptoBulkAll spare + 1
  | .agg parts => uptoBulkAll parts + 1
  | .iface _ d => uptoBulk d + 1
  | .map entries => uptoBulkEntries entries + 1
  | .held _ => 1
def uptoBulkAll {H : Type} : List (DataW H) → Nat
  | [] => 0
  | d :: r => uptoBulk d + uptoBulkAll r
def uptoBulkEntries {H : Type} : List (Lit × DataW H) → Nat
  | [] => 0
  | x :: r => uptoBulkEntry x + uptoBulkEntries r
def uptoBulkEntry {H : Type} : Lit × DataW H → Nat
  | (.string bytes, d) => bytes.length + uptoBulk d + 1
  | (_, d) => uptoBulk d + 1
 end
def uptoSmall : (H : Type) → List (DataW H) → Bool := fun _ ds => decide (uptoBulkAll ds ≤ 1048576)
def OpenSpec.upto (s : _root_.Go.ChangeSpec) : _root_.Go.OpenSpec := { _root_.Go.OpenSpec.ofChange s with cond := some uptoSmall }

/-- 'supercargotop.TopPacked', WHERE WHAT IT READS IS OF BULK AT MOST 1048576: true; the input reads as it did. -/
def topPackedUptoRow : OpenClaim := { program := "ytfflbeenkfaemaagreatdoor", sum := "ed241811c80f31edaf1a5c0554a740da642dfd72cd18f201e937cc735b88f4a1", func := "supercargo/supercargotop.TopPacked", spec := "topPacked", inPlace := ["internal/abi.NoEscape", "internal/bytealg.MakeNoZero"], unfollowed := true, recurses := true, named := ["math/bits.divideError", "math/bits.overflowError", "internal/strconv.uint64pow10", "math/bits.deBruijn32tab", "math/bits.deBruijn64tab", "supercargo/goods.apart"], apart := false, laid := [("math/bits.deBruijn32tab", laid_math_bits_deBruijn32tab), ("math/bits.deBruijn64tab", laid_math_bits_deBruijn64tab), ("internal/strconv.uint64pow10", laid_internal_strconv_uint64pow10), ("supercargo/goods.apart", laid_supercargo_goods_apart)], narrowed := true }
def TopPackedUptoSaid : Prop := topPackedUptoRow.holds Tryz.pinned (OpenSpec.upto topPackedSpec)

/-- 'supercargolaw12.PackFirst', WHERE WHAT IT READS IS OF BULK AT MOST 1048576: true; the input reads as it did. -/
def packFirstUptoRow : OpenClaim := { program := "ytfflbeenkfaemaagreatdoor", sum := "ed241811c80f31edaf1a5c0554a740da642dfd72cd18f201e937cc735b88f4a1", func := "supercargo/supercargolaw12.PackFirst", spec := "packFirst", inPlace := ["internal/abi.NoEscape", "internal/bytealg.MakeNoZero"], unfollowed := true, recurses := true, named := ["internal/strconv.uint64pow10", "math/bits.deBruijn32tab", "math/bits.deBruijn64tab", "supercargo/goods.apart"], apart := false, laid := [("math/bits.deBruijn32tab", laid_math_bits_deBruijn32tab), ("math/bits.deBruijn64tab", laid_math_bits_deBruijn64tab), ("internal/strconv.uint64pow10", laid_internal_strconv_uint64pow10), ("supercargo/goods.apart", laid_supercargo_goods_apart)], narrowed := true }
def PackFirstUptoSaid : Prop := packFirstUptoRow.holds Tryz.pinned (OpenSpec.upto packFirstSpec)

/-- 'supercargolaw12.PackFits', WHERE WHAT IT READS IS OF BULK AT MOST 1048576: true; the input reads as it did. -/
def packFitsUptoRow : OpenClaim := { program := "ytfflbeenkfaemaagreatdoor", sum := "ed241811c80f31edaf1a5c0554a740da642dfd72cd18f201e937cc735b88f4a1", func := "supercargo/supercargolaw12.PackFits", spec := "packFits", inPlace := ["internal/abi.NoEscape", "internal/bytealg.MakeNoZero"], unfollowed := true, recurses := true, named := ["internal/strconv.uint64pow10", "math/bits.deBruijn32tab", "math/bits.deBruijn64tab", "supercargo/goods.apart"], apart := false, laid := [("math/bits.deBruijn32tab", laid_math_bits_deBruijn32tab), ("math/bits.deBruijn64tab", laid_math_bits_deBruijn64tab), ("internal/strconv.uint64pow10", laid_internal_strconv_uint64pow10), ("supercargo/goods.apart", laid_supercargo_goods_apart)], narrowed := true }
def PackFitsUptoSaid : Prop := packFitsUptoRow.holds Tryz.pinned (OpenSpec.upto packFitsSpec)

/-- 'supercargolaw12.PackLists', WHERE WHAT IT READS IS OF BULK AT MOST 1048576: true; the input reads as it did. -/
def packListsUptoRow : OpenClaim := { program := "ytfflbeenkfaemaagreatdoor", sum := "ed241811c80f31edaf1a5c0554a740da642dfd72cd18f201e937cc735b88f4a1", func := "supercargo/supercargolaw12.PackLists", spec := "packLists", inPlace := ["internal/abi.NoEscape", "internal/bytealg.MakeNoZero"], unfollowed := true, recurses := true, named := ["internal/strconv.uint64pow10", "math/bits.deBruijn32tab", "math/bits.deBruijn64tab", "supercargo/goods.apart"], apart := false, laid := [("math/bits.deBruijn32tab", laid_math_bits_deBruijn32tab), ("math/bits.deBruijn64tab", laid_math_bits_deBruijn64tab), ("internal/strconv.uint64pow10", laid_internal_strconv_uint64pow10), ("supercargo/goods.apart", laid_supercargo_goods_apart)], narrowed := true }
def PackListsUptoSaid : Prop := packListsUptoRow.holds Tryz.pinned (OpenSpec.upto packListsSpec)

/-- 'supercargolaw12.PackWhole', WHERE WHAT IT READS IS OF BULK AT MOST 1048576: true; the input reads as it did. -/
def packWholeUptoRow : OpenClaim := { program := "ytfflbeenkfaemaagreatdoor", sum := "ed241811c80f31edaf1a5c0554a740da642dfd72cd18f201e937cc735b88f4a1", func := "supercargo/supercargolaw12.PackWhole", spec := "packWhole", inPlace := ["internal/abi.NoEscape", "internal/bytealg.MakeNoZero"], unfollowed := true, recurses := true, named := ["internal/strconv.uint64pow10", "math/bits.deBruijn32tab", "math/bits.deBruijn64tab", "supercargo/goods.apart"], apart := false, laid := [("math/bits.deBruijn32tab", laid_math_bits_deBruijn32tab), ("math/bits.deBruijn64tab", laid_math_bits_deBruijn64tab), ("internal/strconv.uint64pow10", laid_internal_strconv_uint64pow10), ("supercargo/goods.apart", laid_supercargo_goods_apart)], narrowed := true }
def PackWholeUptoSaid : Prop := packWholeUptoRow.holds Tryz.pinned (OpenSpec.upto packWholeSpec)

/-- 'supercargolaw12.PackRights', WHERE WHAT IT READS IS OF BULK AT MOST 1048576: true; the input reads as it did. -/
def packRightsUptoRow : OpenClaim := { program := "ytfflbeenkfaemaagreatdoor", sum := "ed241811c80f31edaf1a5c0554a740da642dfd72cd18f201e937cc735b88f4a1", func := "supercargo/supercargolaw12.PackRights", spec := "packRights", inPlace := ["internal/abi.NoEscape", "internal/bytealg.MakeNoZero"], unfollowed := true, recurses := true, named := ["internal/strconv.uint64pow10", "math/bits.deBruijn32tab", "math/bits.deBruijn64tab", "supercargo/goods.apart"], apart := false, laid := [("math/bits.deBruijn32tab", laid_math_bits_deBruijn32tab), ("math/bits.deBruijn64tab", laid_math_bits_deBruijn64tab), ("internal/strconv.uint64pow10", laid_internal_strconv_uint64pow10), ("supercargo/goods.apart", laid_supercargo_goods_apart)], narrowed := true }
def PackRightsUptoSaid : Prop := packRightsUptoRow.holds Tryz.pinned (OpenSpec.upto packRightsSpec)

/-- 'supercargolaw12.PackSpoils', WHERE WHAT IT READS IS OF BULK AT MOST 1048576: true; the input reads as it did. -/
def packSpoilsUptoRow : OpenClaim := { program := "ytfflbeenkfaemaagreatdoor", sum := "ed241811c80f31edaf1a5c0554a740da642dfd72cd18f201e937cc735b88f4a1", func := "supercargo/supercargolaw12.PackSpoils", spec := "packSpoils", inPlace := ["internal/abi.NoEscape", "internal/bytealg.MakeNoZero"], unfollowed := true, recurses := true, named := ["internal/strconv.uint64pow10", "math/bits.deBruijn32tab", "math/bits.deBruijn64tab", "supercargo/goods.apart"], apart := false, laid := [("math/bits.deBruijn32tab", laid_math_bits_deBruijn32tab), ("math/bits.deBruijn64tab", laid_math_bits_deBruijn64tab), ("internal/strconv.uint64pow10", laid_internal_strconv_uint64pow10), ("supercargo/goods.apart", laid_supercargo_goods_apart)], narrowed := true }
def PackSpoilsUptoSaid : Prop := packSpoilsUptoRow.holds Tryz.pinned (OpenSpec.upto packSpoilsSpec)

end Rows
end Go.Proofs.YtfflbeenkfaemaaGreatDoor
