/-
  NARROWER THAN 'FOR EVERY INPUT', by the rows' own cells (each row's printed sentence says how): ThreeEncodes: laid · ThreeBack: laid · ThreeKeys: laid · OneEncodes: laid · OneBack: laid · OneKeys: laid · OneTables: laid · TwoBack: laid · TwoKeys: laid · TwoGaps: laid.
  DERIVED. THE GIVEN ROWS OF THIS SEAT. 10 by the template 'for every input the law returns true; each argument reads behind the call as it read before'; 0 by the template 'total and deterministic' (their statements: YtkbmkhhcppfcnaaDoorTotals.lean).
  GIVEN WITH THE SEED: the statements are not yours to turn. If you find one false, say at which input.
  Laid BY PROGRAM, IN A SANDBOX (cutbox-rows.mjs): the forced cells as the released guide's own fill.sh prints them over the translation 9d847268196c7bb8… (all of the seat's roots in one cut). By AI agents, Wed Nov 11 2026. No macro, syntax, notation, axiom, sorry.
-/
import Derived.Test.YtkbmkhhcppfcnaaDoorChecked
import GoSem.Claim
import GoSem.ClaimJoined
import GoSem.ClaimMapViews
import Derived.JoinedTies
import Derived.KernelRfl
namespace Go.Proofs.YtkbmkhhcppfcnaaDoor
/- THE CELL 'sum', in the pinned program and in every row, IS THE sha256 OF THE DUMP (.gsa) THAT YtkbmkhhcppfcnaaDoorProg.lean LOADS. Nothing in Lean hashes anything: it is a label: what it is worth is what the hold of that sum in a sandbox is worth. -/
noncomputable def Tryd.pinned : Pinned := { name := "ytkbmkhhcppfcnaadoor", sum := "9d847268196c7bb8e0f26cc0fe428195861c803cba86f9294318e7dbdb78f75e", checked := Tryd.checked }
namespace Rows
def none {H : Type} : Left H := { results := [], args := [] }

/- WHAT THE LISTED PACKAGE-LEVEL VARIABLES READ AS WHEN THE CALL BEGINS. Each datum BY PROGRAM (the guide's laid-datum.mjs) off the statement by which the dump's own 'gosem.cut.vars' lays the variable. In a bare row this is a premise. The card (YtkbmkhhcppfcnaaDoorCards.lean) ties it to the program's text. -/
def laid_math_bits_deBruijn32tab {H : Type} : DataW H := .agg [.lit (.int .u8 0), .lit (.int .u8 1), .lit (.int .u8 28), .lit (.int .u8 2), .lit (.int .u8 29), .lit (.int .u8 14), .lit (.int .u8 24), .lit (.int .u8 3), .lit (.int .u8 30), .lit (.int .u8 22), .lit (.int .u8 20), .lit (.int .u8 15), .lit (.int .u8 25), .lit (.int .u8 17), .lit (.int .u8 4), .lit (.int .u8 8), .lit (.int .u8 31), .lit (.int .u8 27), .lit (.int .u8 13), .lit (.int .u8 23), .lit (.int .u8 21), .lit (.int .u8 19), .lit (.int .u8 16), .lit (.int .u8 7), .lit (.int .u8 26), .lit (.int .u8 12), .lit (.int .u8 18), .lit (.int .u8 6), .lit (.int .u8 11), .lit (.int .u8 5), .lit (.int .u8 10), .lit (.int .u8 9)]
def laid_math_bits_deBruijn64tab {H : Type} : DataW H := .agg [.lit (.int .u8 0), .lit (.int .u8 1), .lit (.int .u8 56), .lit (.int .u8 2), .lit (.int .u8 57), .lit (.int .u8 49), .lit (.int .u8 28), .lit (.int .u8 3), .lit (.int .u8 61), .lit (.int .u8 58), .lit (.int .u8 42), .lit (.int .u8 50), .lit (.int .u8 38), .lit (.int .u8 29), .lit (.int .u8 17), .lit (.int .u8 4), .lit (.int .u8 62), .lit (.int .u8 47), .lit (.int .u8 59), .lit (.int .u8 36), .lit (.int .u8 45), .lit (.int .u8 43), .lit (.int .u8 51), .lit (.int .u8 22), .lit (.int .u8 53), .lit (.int .u8 39), .lit (.int .u8 33), .lit (.int .u8 30), .lit (.int .u8 24), .lit (.int .u8 18), .lit (.int .u8 12), .lit (.int .u8 5), .lit (.int .u8 63), .lit (.int .u8 55), .lit (.int .u8 48), .lit (.int .u8 27), .lit (.int .u8 60), .lit (.int .u8 41), .lit (.int .u8 37), .lit (.int .u8 16), .lit (.int .u8 46), .lit (.int .u8 35), .lit (.int .u8 44), .lit (.int .u8 21), .lit (.int .u8 52), .lit (.int .u8 32), .lit (.int .u8 23), .lit (.int .u8 11), .lit (.int .u8 54), .lit (.int .u8 26), .lit (.int .u8 40), .lit (.int .u8 15), .lit (.int .u8 34), .lit (.int .u8 20), .lit (.int .u8 31), .lit (.int .u8 10), .lit (.int .u8 25), .lit (.int .u8 14), .lit (.int .u8 19), .lit (.int .u8 9), .lit (.int .u8 13), .lit (.int .u8 8), .lit (.int .u8 7), .lit (.int .u8 6)]
def laid_internal_strconv_uint64pow10 {H : Type} : DataW H := .agg [.lit (.int .u64 1), .lit (.int .u64 10), .lit (.int .u64 100), .lit (.int .u64 1000), .lit (.int .u64 10000), .lit (.int .u64 100000), .lit (.int .u64 1000000), .lit (.int .u64 10000000), .lit (.int .u64 100000000), .lit (.int .u64 1000000000), .lit (.int .u64 10000000000), .lit (.int .u64 100000000000), .lit (.int .u64 1000000000000), .lit (.int .u64 10000000000000), .lit (.int .u64 100000000000000), .lit (.int .u64 1000000000000000), .lit (.int .u64 10000000000000000), .lit (.int .u64 100000000000000000), .lit (.int .u64 1000000000000000000), .lit (.int .u64 10000000000000000000)]
def laid_strconv_ErrRange {H : Type} : DataW H := .iface "*errors.errorString" (.ptr (.agg [.lit (.string [118, 97, 108, 117, 101, 32, 111, 117, 116, 32, 111, 102, 32, 114, 97, 110, 103, 101])]))
def laid_strconv_ErrSyntax {H : Type} : DataW H := .iface "*errors.errorString" (.ptr (.agg [.lit (.string [105, 110, 118, 97, 108, 105, 100, 32, 115, 121, 110, 116, 97, 120])]))

/-- 'roadsteadlaw14.ThreeEncodes': WHATEVER THE INPUT: true; the input reads as it did. -/
def threeEncodesSpec : ChangeSpec := { name := "threeEncodes", fn := fun _ => fun
  | [d1, d2, d3, d4] => { results := [.lit (.bool true)], args := [d1, d2, d3, d4] }
  | _ => none }
def threeEncodesRow : OpenClaim := { program := "ytkbmkhhcppfcnaadoor", sum := "9d847268196c7bb8e0f26cc0fe428195861c803cba86f9294318e7dbdb78f75e", func := "roadstead/roadsteadlaw14.ThreeEncodes", spec := "threeEncodes", inPlace := ["internal/abi.NoEscape", "internal/bytealg.MakeNoZero"], unfollowed := true, recurses := true, named := ["internal/strconv.uint64pow10", "math/bits.deBruijn32tab", "math/bits.deBruijn64tab", "strconv.ErrSyntax", "strconv.ErrRange"], apart := false, laid := [("math/bits.deBruijn32tab", laid_math_bits_deBruijn32tab), ("math/bits.deBruijn64tab", laid_math_bits_deBruijn64tab), ("internal/strconv.uint64pow10", laid_internal_strconv_uint64pow10), ("strconv.ErrRange", laid_strconv_ErrRange), ("strconv.ErrSyntax", laid_strconv_ErrSyntax)] }
def ThreeEncodesSaid : Prop := threeEncodesRow.holds Tryd.pinned (OpenSpec.ofChange threeEncodesSpec)

/-- ITS FALSE NEIGHBOUR: 'it returns false'. Refute it at one input. -/
def threeEncodesWrong : ChangeSpec := { name := "threeEncodes", fn := fun _ => fun
  | [d1, d2, d3, d4] => { results := [.lit (.bool false)], args := [d1, d2, d3, d4] }
  | _ => none }
def ThreeEncodesWrongFalsely : Prop := threeEncodesRow.holds Tryd.pinned (OpenSpec.ofChange threeEncodesWrong)

/-- 'roadsteadlaw14.ThreeBack': WHATEVER THE INPUT: true; the input reads as it did. -/
def threeBackSpec : ChangeSpec := { name := "threeBack", fn := fun _ => fun
  | [d1, d2, d3, d4, d5] => { results := [.lit (.bool true)], args := [d1, d2, d3, d4, d5] }
  | _ => none }
def threeBackRow : OpenClaim := { program := "ytkbmkhhcppfcnaadoor", sum := "9d847268196c7bb8e0f26cc0fe428195861c803cba86f9294318e7dbdb78f75e", func := "roadstead/roadsteadlaw14.ThreeBack", spec := "threeBack", inPlace := ["internal/abi.NoEscape", "internal/bytealg.MakeNoZero"], unfollowed := true, recurses := true, named := ["internal/strconv.uint64pow10", "math/bits.deBruijn32tab", "math/bits.deBruijn64tab", "strconv.ErrSyntax", "strconv.ErrRange"], apart := false, laid := [("math/bits.deBruijn32tab", laid_math_bits_deBruijn32tab), ("math/bits.deBruijn64tab", laid_math_bits_deBruijn64tab), ("internal/strconv.uint64pow10", laid_internal_strconv_uint64pow10), ("strconv.ErrRange", laid_strconv_ErrRange), ("strconv.ErrSyntax", laid_strconv_ErrSyntax)] }
def ThreeBackSaid : Prop := threeBackRow.holds Tryd.pinned (OpenSpec.ofChange threeBackSpec)

/-- ITS FALSE NEIGHBOUR: 'it returns false'. Refute it at one input. -/
def threeBackWrong : ChangeSpec := { name := "threeBack", fn := fun _ => fun
  | [d1, d2, d3, d4, d5] => { results := [.lit (.bool false)], args := [d1, d2, d3, d4, d5] }
  | _ => none }
def ThreeBackWrongFalsely : Prop := threeBackRow.holds Tryd.pinned (OpenSpec.ofChange threeBackWrong)

/-- 'roadsteadlaw14.ThreeKeys': WHATEVER THE INPUT: true; the input reads as it did. -/
def threeKeysSpec : ChangeSpec := { name := "threeKeys", fn := fun _ => fun
  | [d1, d2] => { results := [.lit (.bool true)], args := [d1, d2] }
  | _ => none }
def threeKeysRow : OpenClaim := { program := "ytkbmkhhcppfcnaadoor", sum := "9d847268196c7bb8e0f26cc0fe428195861c803cba86f9294318e7dbdb78f75e", func := "roadstead/roadsteadlaw14.ThreeKeys", spec := "threeKeys", inPlace := ["internal/abi.NoEscape", "internal/bytealg.MakeNoZero"], unfollowed := true, recurses := true, named := ["internal/strconv.uint64pow10", "math/bits.deBruijn32tab", "math/bits.deBruijn64tab", "strconv.ErrSyntax", "strconv.ErrRange"], apart := false, laid := [("math/bits.deBruijn32tab", laid_math_bits_deBruijn32tab), ("math/bits.deBruijn64tab", laid_math_bits_deBruijn64tab), ("internal/strconv.uint64pow10", laid_internal_strconv_uint64pow10), ("strconv.ErrRange", laid_strconv_ErrRange), ("strconv.ErrSyntax", laid_strconv_ErrSyntax)] }
def ThreeKeysSaid : Prop := threeKeysRow.holds Tryd.pinned (OpenSpec.ofChange threeKeysSpec)

/-- ITS FALSE NEIGHBOUR: 'it returns false'. Refute it at one input. -/
def threeKeysWrong : ChangeSpec := { name := "threeKeys", fn := fun _ => fun
  | [d1, d2] => { results := [.lit (.bool false)], args := [d1, d2] }
  | _ => none }
def ThreeKeysWrongFalsely : Prop := threeKeysRow.holds Tryd.pinned (OpenSpec.ofChange threeKeysWrong)

/-- 'roadsteadlaw12.OneEncodes': WHATEVER THE INPUT: true; the input reads as it did. -/
def oneEncodesSpec : ChangeSpec := { name := "oneEncodes", fn := fun _ => fun
  | [d1, d2, d3, d4] => { results := [.lit (.bool true)], args := [d1, d2, d3, d4] }
  | _ => none }
def oneEncodesRow : OpenClaim := { program := "ytkbmkhhcppfcnaadoor", sum := "9d847268196c7bb8e0f26cc0fe428195861c803cba86f9294318e7dbdb78f75e", func := "roadstead/roadsteadlaw12.OneEncodes", spec := "oneEncodes", inPlace := ["internal/abi.NoEscape", "internal/bytealg.MakeNoZero"], unfollowed := true, recurses := true, named := ["internal/strconv.uint64pow10", "math/bits.deBruijn32tab", "math/bits.deBruijn64tab", "strconv.ErrSyntax", "strconv.ErrRange"], apart := false, laid := [("math/bits.deBruijn32tab", laid_math_bits_deBruijn32tab), ("math/bits.deBruijn64tab", laid_math_bits_deBruijn64tab), ("internal/strconv.uint64pow10", laid_internal_strconv_uint64pow10), ("strconv.ErrRange", laid_strconv_ErrRange), ("strconv.ErrSyntax", laid_strconv_ErrSyntax)] }
def OneEncodesSaid : Prop := oneEncodesRow.holds Tryd.pinned (OpenSpec.ofChange oneEncodesSpec)

/-- ITS FALSE NEIGHBOUR: 'it returns false'. Refute it at one input. -/
def oneEncodesWrong : ChangeSpec := { name := "oneEncodes", fn := fun _ => fun
  | [d1, d2, d3, d4] => { results := [.lit (.bool false)], args := [d1, d2, d3, d4] }
  | _ => none }
def OneEncodesWrongFalsely : Prop := oneEncodesRow.holds Tryd.pinned (OpenSpec.ofChange oneEncodesWrong)

/-- 'roadsteadlaw12.OneBack': WHATEVER THE INPUT: true; the input reads as it did. -/
def oneBackSpec : ChangeSpec := { name := "oneBack", fn := fun _ => fun
  | [d1, d2, d3, d4, d5] => { results := [.lit (.bool true)], args := [d1, d2, d3, d4, d5] }
  | _ => none }
def oneBackRow : OpenClaim := { program := "ytkbmkhhcppfcnaadoor", sum := "9d847268196c7bb8e0f26cc0fe428195861c803cba86f9294318e7dbdb78f75e", func := "roadstead/roadsteadlaw12.OneBack", spec := "oneBack", inPlace := ["internal/abi.NoEscape", "internal/bytealg.MakeNoZero"], unfollowed := true, recurses := true, named := ["internal/strconv.uint64pow10", "math/bits.deBruijn32tab", "math/bits.deBruijn64tab", "strconv.ErrSyntax", "strconv.ErrRange"], apart := false, laid := [("math/bits.deBruijn32tab", laid_math_bits_deBruijn32tab), ("math/bits.deBruijn64tab", laid_math_bits_deBruijn64tab), ("internal/strconv.uint64pow10", laid_internal_strconv_uint64pow10), ("strconv.ErrRange", laid_strconv_ErrRange), ("strconv.ErrSyntax", laid_strconv_ErrSyntax)] }
def OneBackSaid : Prop := oneBackRow.holds Tryd.pinned (OpenSpec.ofChange oneBackSpec)

/-- ITS FALSE NEIGHBOUR: 'it returns false'. Refute it at one input. -/
def oneBackWrong : ChangeSpec := { name := "oneBack", fn := fun _ => fun
  | [d1, d2, d3, d4, d5] => { results := [.lit (.bool false)], args := [d1, d2, d3, d4, d5] }
  | _ => none }
def OneBackWrongFalsely : Prop := oneBackRow.holds Tryd.pinned (OpenSpec.ofChange oneBackWrong)

/-- 'roadsteadlaw12.OneKeys': WHATEVER THE INPUT: true; the input reads as it did. -/
def oneKeysSpec : ChangeSpec := { name := "oneKeys", fn := fun _ => fun
  | [d1, d2] => { results := [.lit (.bool true)], args := [d1, d2] }
  | _ => none }
def oneKeysRow : OpenClaim := { program := "ytkbmkhhcppfcnaadoor", sum := "9d847268196c7bb8e0f26cc0fe428195861c803cba86f9294318e7dbdb78f75e", func := "roadstead/roadsteadlaw12.OneKeys", spec := "oneKeys", inPlace := ["internal/abi.NoEscape", "internal/bytealg.MakeNoZero"], unfollowed := true, recurses := true, named := ["internal/strconv.uint64pow10", "math/bits.deBruijn32tab", "math/bits.deBruijn64tab", "strconv.ErrSyntax", "strconv.ErrRange"], apart := false, laid := [("math/bits.deBruijn32tab", laid_math_bits_deBruijn32tab), ("math/bits.deBruijn64tab", laid_math_bits_deBruijn64tab), ("internal/strconv.uint64pow10", laid_internal_strconv_uint64pow10), ("strconv.ErrRange", laid_strconv_ErrRange), ("strconv.ErrSyntax", laid_strconv_ErrSyntax)] }
def OneKeysSaid : Prop := oneKeysRow.holds Tryd.pinned (OpenSpec.ofChange oneKeysSpec)

/-- ITS FALSE NEIGHBOUR: 'it returns false'. Refute it at one input. -/
def oneKeysWrong : ChangeSpec := { name := "oneKeys", fn := fun _ => fun
  | [d1, d2] => { results := [.lit (.bool false)], args := [d1, d2] }
  | _ => none }
def OneKeysWrongFalsely : Prop := oneKeysRow.holds Tryd.pinned (OpenSpec.ofChange oneKeysWrong)

/-- 'roadsteadlaw12.OneTables': WHATEVER THE INPUT: true; the input reads as it did. -/
def oneTablesSpec : ChangeSpec := { name := "oneTables", fn := fun _ => fun
  | [d1, d2, d3, d4] => { results := [.lit (.bool true)], args := [d1, d2, d3, d4] }
  | _ => none }
def oneTablesRow : OpenClaim := { program := "ytkbmkhhcppfcnaadoor", sum := "9d847268196c7bb8e0f26cc0fe428195861c803cba86f9294318e7dbdb78f75e", func := "roadstead/roadsteadlaw12.OneTables", spec := "oneTables", inPlace := ["internal/abi.NoEscape", "internal/bytealg.MakeNoZero"], unfollowed := true, recurses := true, named := ["internal/strconv.uint64pow10", "math/bits.deBruijn32tab", "math/bits.deBruijn64tab", "strconv.ErrSyntax", "strconv.ErrRange"], apart := false, laid := [("math/bits.deBruijn32tab", laid_math_bits_deBruijn32tab), ("math/bits.deBruijn64tab", laid_math_bits_deBruijn64tab), ("internal/strconv.uint64pow10", laid_internal_strconv_uint64pow10), ("strconv.ErrRange", laid_strconv_ErrRange), ("strconv.ErrSyntax", laid_strconv_ErrSyntax)] }
def OneTablesSaid : Prop := oneTablesRow.holds Tryd.pinned (OpenSpec.ofChange oneTablesSpec)

/-- ITS FALSE NEIGHBOUR: 'it returns false'. Refute it at one input. -/
def oneTablesWrong : ChangeSpec := { name := "oneTables", fn := fun _ => fun
  | [d1, d2, d3, d4] => { results := [.lit (.bool false)], args := [d1, d2, d3, d4] }
  | _ => none }
def OneTablesWrongFalsely : Prop := oneTablesRow.holds Tryd.pinned (OpenSpec.ofChange oneTablesWrong)

/-- 'roadsteadlaw13.TwoBack': WHATEVER THE INPUT: true; the input reads as it did. -/
def twoBackSpec : ChangeSpec := { name := "twoBack", fn := fun _ => fun
  | [d1, d2, d3, d4, d5] => { results := [.lit (.bool true)], args := [d1, d2, d3, d4, d5] }
  | _ => none }
def twoBackRow : OpenClaim := { program := "ytkbmkhhcppfcnaadoor", sum := "9d847268196c7bb8e0f26cc0fe428195861c803cba86f9294318e7dbdb78f75e", func := "roadstead/roadsteadlaw13.TwoBack", spec := "twoBack", inPlace := ["internal/abi.NoEscape", "internal/bytealg.MakeNoZero"], unfollowed := true, recurses := true, named := ["internal/strconv.uint64pow10", "math/bits.deBruijn32tab", "math/bits.deBruijn64tab", "strconv.ErrSyntax", "strconv.ErrRange"], apart := false, laid := [("math/bits.deBruijn32tab", laid_math_bits_deBruijn32tab), ("math/bits.deBruijn64tab", laid_math_bits_deBruijn64tab), ("internal/strconv.uint64pow10", laid_internal_strconv_uint64pow10), ("strconv.ErrRange", laid_strconv_ErrRange), ("strconv.ErrSyntax", laid_strconv_ErrSyntax)] }
def TwoBackSaid : Prop := twoBackRow.holds Tryd.pinned (OpenSpec.ofChange twoBackSpec)

/-- ITS FALSE NEIGHBOUR: 'it returns false'. Refute it at one input. -/
def twoBackWrong : ChangeSpec := { name := "twoBack", fn := fun _ => fun
  | [d1, d2, d3, d4, d5] => { results := [.lit (.bool false)], args := [d1, d2, d3, d4, d5] }
  | _ => none }
def TwoBackWrongFalsely : Prop := twoBackRow.holds Tryd.pinned (OpenSpec.ofChange twoBackWrong)

/-- 'roadsteadlaw13.TwoKeys': WHATEVER THE INPUT: true; the input reads as it did. -/
def twoKeysSpec : ChangeSpec := { name := "twoKeys", fn := fun _ => fun
  | [d1, d2] => { results := [.lit (.bool true)], args := [d1, d2] }
  | _ => none }
def twoKeysRow : OpenClaim := { program := "ytkbmkhhcppfcnaadoor", sum := "9d847268196c7bb8e0f26cc0fe428195861c803cba86f9294318e7dbdb78f75e", func := "roadstead/roadsteadlaw13.TwoKeys", spec := "twoKeys", inPlace := ["internal/abi.NoEscape", "internal/bytealg.MakeNoZero"], unfollowed := true, recurses := true, named := ["internal/strconv.uint64pow10", "math/bits.deBruijn32tab", "math/bits.deBruijn64tab", "strconv.ErrSyntax", "strconv.ErrRange"], apart := false, laid := [("math/bits.deBruijn32tab", laid_math_bits_deBruijn32tab), ("math/bits.deBruijn64tab", laid_math_bits_deBruijn64tab), ("internal/strconv.uint64pow10", laid_internal_strconv_uint64pow10), ("strconv.ErrRange", laid_strconv_ErrRange), ("strconv.ErrSyntax", laid_strconv_ErrSyntax)] }
def TwoKeysSaid : Prop := twoKeysRow.holds Tryd.pinned (OpenSpec.ofChange twoKeysSpec)

/-- ITS FALSE NEIGHBOUR: 'it returns false'. Refute it at one input. -/
def twoKeysWrong : ChangeSpec := { name := "twoKeys", fn := fun _ => fun
  | [d1, d2] => { results := [.lit (.bool false)], args := [d1, d2] }
  | _ => none }
def TwoKeysWrongFalsely : Prop := twoKeysRow.holds Tryd.pinned (OpenSpec.ofChange twoKeysWrong)

/-- 'roadsteadlaw13.TwoGaps': WHATEVER THE INPUT: true; the input reads as it did. -/
def twoGapsSpec : ChangeSpec := { name := "twoGaps", fn := fun _ => fun
  | [d1, d2] => { results := [.lit (.bool true)], args := [d1, d2] }
  | _ => none }
def twoGapsRow : OpenClaim := { program := "ytkbmkhhcppfcnaadoor", sum := "9d847268196c7bb8e0f26cc0fe428195861c803cba86f9294318e7dbdb78f75e", func := "roadstead/roadsteadlaw13.TwoGaps", spec := "twoGaps", inPlace := ["internal/abi.NoEscape", "internal/bytealg.MakeNoZero"], unfollowed := true, recurses := true, named := ["internal/strconv.uint64pow10", "math/bits.deBruijn32tab", "math/bits.deBruijn64tab", "strconv.ErrSyntax", "strconv.ErrRange"], apart := false, laid := [("math/bits.deBruijn32tab", laid_math_bits_deBruijn32tab), ("math/bits.deBruijn64tab", laid_math_bits_deBruijn64tab), ("internal/strconv.uint64pow10", laid_internal_strconv_uint64pow10), ("strconv.ErrRange", laid_strconv_ErrRange), ("strconv.ErrSyntax", laid_strconv_ErrSyntax)] }
def TwoGapsSaid : Prop := twoGapsRow.holds Tryd.pinned (OpenSpec.ofChange twoGapsSpec)

/-- ITS FALSE NEIGHBOUR: 'it returns false'. Refute it at one input. -/
def twoGapsWrong : ChangeSpec := { name := "twoGaps", fn := fun _ => fun
  | [d1, d2] => { results := [.lit (.bool false)], args := [d1, d2] }
  | _ => none }
def TwoGapsWrongFalsely : Prop := twoGapsRow.holds Tryd.pinned (OpenSpec.ofChange twoGapsWrong)

/- THE SECOND FORM. 'bulk': how many values and letters a reading holds, each counted each time it is reached (what is shared counts as often as it is met; a slice's spare places count too). A statement '..UptoSaid' is the law's where the arguments, and the package variables that the reading takes, are together of bulk at most 1048576: NARROWER than '..Said'. Prove '..Said' where nothing that the law and all that it calls make is longer than what came in: it says more and counts as full. Else prove '..UptoSaid'. A law counts once. -/
mutual
def uptoBulk {H : Type} : DataW H → Nat
  | .lit (.string bytes) => bytes.length + 1
  | .lit _ => 1
  | .nil => 1
  | .ptr d => uptoBulk d + 1
  | .slice elems spare => uptoBulkAll elems + uptoBulkAll spare + 1
  | .agg parts => uptoBulkAll parts + 1
  | .iface _ d => uptoBulk d + 1
  | .map entries => uptoBulkEntries entries + 1
  | .held _ => 1
def uptoBulkAll {H : Type} : List (DataW H) → Nat
  | [] => 0
  | d :: r => uptoBulk d + uptoBulkAll r
def uptoBulkEntries {H : Type} : List (Lit × DataW H) → Nat
  | [] => 0
  | x :: r => uptoBulkEntry x + uptoBulkEntries r
def uptoBulkEntry {H : Type} : Lit × DataW H → Nat
  | (.string bytes, d) => bytes.length + uptoBulk d + 1
  | (_, d) => uptoBulk d + 1
 end
def uptoSmall : (H : Type) → List (DataW H) → Bool := fun _ ds => decide (uptoBulkAll ds ≤ 1048576)
def OpenSpec.upto (s : _root_.Go.ChangeSpec) : _root_.Go.OpenSpec := { _root_.Go.OpenSpec.ofChange s with cond := some uptoSmall }

/-- 'roadsteadlaw14.ThreeEncodes', WHERE WHAT IT READS IS OF BULK AT MOST 1048576: true; the input reads as it did. -/
def threeEncodesUptoRow : OpenClaim := { program := "ytkbmkhhcppfcnaadoor", sum := "9d847268196c7bb8e0f26cc0fe428195861c803cba86f9294318e7dbdb78f75e", func := "roadstead/roadsteadlaw14.ThreeEncodes", spec := "threeEncodes", inPlace := ["internal/abi.NoEscape", "internal/bytealg.MakeNoZero"], unfollowed := true, recurses := true, named := ["internal/strconv.uint64pow10", "math/bits.deBruijn32tab", "math/bits.deBruijn64tab", "strconv.ErrSyntax", "strconv.ErrRange"], apart := false, laid := [("math/bits.deBruijn32tab", laid_math_bits_deBruijn32tab), ("math/bits.deBruijn64tab", laid_math_bits_deBruijn64tab), ("internal/strconv.uint64pow10", laid_internal_strconv_uint64pow10), ("strconv.ErrRange", laid_strconv_ErrRange), ("strconv.ErrSyntax", laid_strconv_ErrSyntax)], narrowed := true }
def ThreeEncodesUptoSaid : Prop := threeEncodesUptoRow.holds Tryd.pinned (OpenSpec.upto threeEncodesSpec)

/-- 'roadsteadlaw14.ThreeBack', WHERE WHAT IT READS IS OF BULK AT MOST 1048576: true; the input reads as it did. -/
def threeBackUptoRow : OpenClaim := { program := "ytkbmkhhcppfcnaadoor", sum := "9d847268196c7bb8e0f26cc0fe428195861c803cba86f9294318e7dbdb78f75e", func := "roadstead/roadsteadlaw14.ThreeBack", spec := "threeBack", inPlace := ["internal/abi.NoEscape", "internal/bytealg.MakeNoZero"], unfollowed := true, recurses := true, named := ["internal/strconv.uint64pow10", "math/bits.deBruijn32tab", "math/bits.deBruijn64tab", "strconv.ErrSyntax", "strconv.ErrRange"], apart := false, laid := [("math/bits.deBruijn32tab", laid_math_bits_deBruijn32tab), ("math/bits.deBruijn64tab", laid_math_bits_deBruijn64tab), ("internal/strconv.uint64pow10", laid_internal_strconv_uint64pow10), ("strconv.ErrRange", laid_strconv_ErrRange), ("strconv.ErrSyntax", laid_strconv_ErrSyntax)], narrowed := true }
def ThreeBackUptoSaid : Prop := threeBackUptoRow.holds Tryd.pinned (OpenSpec.upto threeBackSpec)

/-- 'roadsteadlaw14.ThreeKeys', WHERE WHAT IT READS IS OF BULK AT MOST 1048576: true; the input reads as it did. -/
def threeKeysUptoRow : OpenClaim := { program := "ytkbmkhhcppfcnaadoor", sum := "9d847268196c7bb8e0f26cc0fe428195861c803cba86f9294318e7dbdb78f75e", func := "roadstead/roadsteadlaw14.ThreeKeys", spec := "threeKeys", inPlace := ["internal/abi.NoEscape", "internal/bytealg.MakeNoZero"], unfollowed := true, recurses := true, named := ["internal/strconv.uint64pow10", "math/bits.deBruijn32tab", "math/bits.deBruijn64tab", "strconv.ErrSyntax", "strconv.ErrRange"], apart := false, laid := [("math/bits.deBruijn32tab", laid_math_bits_deBruijn32tab), ("math/bits.deBruijn64tab", laid_math_bits_deBruijn64tab), ("internal/strconv.uint64pow10", laid_internal_strconv_uint64pow10), ("strconv.ErrRange", laid_strconv_ErrRange), ("strconv.ErrSyntax", laid_strconv_ErrSyntax)], narrowed := true }
def ThreeKeysUptoSaid : Prop := threeKeysUptoRow.holds Tryd.pinned (OpenSpec.upto threeKeysSpec)

/-- 'roadsteadlaw12.OneEncodes', WHERE WHAT IT READS IS OF BULK AT MOST 1048576: true; the input reads as it did. -/
def oneEncodesUptoRow : OpenClaim := { program := "ytkbmkhhcppfcnaadoor", sum := "9d847268196c7bb8e0f26cc0fe428195861c803cba86f9294318e7dbdb78f75e", func := "roadstead/roadsteadlaw12.OneEncodes", spec := "oneEncodes", inPlace := ["internal/abi.NoEscape", "internal/bytealg.MakeNoZero"], unfollowed := true, recurses := true, named := ["internal/strconv.uint64pow10", "math/bits.deBruijn32tab", "math/bits.deBruijn64tab", "strconv.ErrSyntax", "strconv.ErrRange"], apart := false, laid := [("math/bits.deBruijn32tab", laid_math_bits_deBruijn32tab), ("math/bits.deBruijn64tab", laid_math_bits_deBruijn64tab), ("internal/strconv.uint64pow10", laid_internal_strconv_uint64pow10), ("strconv.ErrRange", laid_strconv_ErrRange), ("strconv.ErrSyntax", laid_strconv_ErrSyntax)], narrowed := true }
def OneEncodesUptoSaid : Prop := oneEncodesUptoRow.holds Tryd.pinned (OpenSpec.upto oneEncodesSpec)

/-- 'roadsteadlaw12.OneBack', WHERE WHAT IT READS IS OF BULK AT MOST 1048576: true; the input reads as it did. -/
def oneBackUptoRow : OpenClaim := { program := "ytkbmkhhcppfcnaadoor", sum := "9d847268196c7bb8e0f26cc0fe428195861c803cba86f9294318e7dbdb78f75e", func := "roadstead/roadsteadlaw12.OneBack", spec := "oneBack", inPlace := ["internal/abi.NoEscape", "internal/bytealg.MakeNoZero"], unfollowed := true, recurses := true, named := ["internal/strconv.uint64pow10", "math/bits.deBruijn32tab", "math/bits.deBruijn64tab", "strconv.ErrSyntax", "strconv.ErrRange"], apart := false, laid := [("math/bits.deBruijn32tab", laid_math_bits_deBruijn32tab), ("math/bits.deBruijn64tab", laid_math_bits_deBruijn64tab), ("internal/strconv.uint64pow10", laid_internal_strconv_uint64pow10), ("strconv.ErrRange", laid_strconv_ErrRange), ("strconv.ErrSyntax", laid_strconv_ErrSyntax)], narrowed := true }
def OneBackUptoSaid : Prop := oneBackUptoRow.holds Tryd.pinned (OpenSpec.upto oneBackSpec)

/-- 'roadsteadlaw12.OneKeys', WHERE WHAT IT READS IS OF BULK AT MOST 1048576: true; the input reads as it did. -/
def oneKeysUptoRow : OpenClaim := { program := "ytkbmkhhcppfcnaadoor", sum := "9d847268196c7bb8e0f26cc0fe428195861c803cba86f9294318e7dbdb78f75e", func := "roadstead/roadsteadlaw12.OneKeys", spec := "oneKeys", inPlace := ["internal/abi.NoEscape", "internal/bytealg.MakeNoZero"], unfollowed := true, recurses := true, named := ["internal/strconv.uint64pow10", "math/bits.deBruijn32tab", "math/bits.deBruijn64tab", "strconv.ErrSyntax", "strconv.ErrRange"], apart := false, laid := [("math/bits.deBruijn32tab", laid_math_bits_deBruijn32tab), ("math/bits.deBruijn64tab", laid_math_bits_deBruijn64tab), ("internal/strconv.uint64pow10", laid_internal_strconv_uint64pow10), ("strconv.ErrRange", laid_strconv_ErrRange), ("strconv.ErrSyntax", laid_strconv_ErrSyntax)], narrowed := true }
def OneKeysUptoSaid : Prop := oneKeysUptoRow.holds Tryd.pinned (OpenSpec.upto oneKeysSpec)

/-- 'roadsteadlaw12.OneTables', WHERE WHAT IT READS IS OF BULK AT MOST 1048576: true; the input reads as it did. -/
def oneTablesUptoRow : OpenClaim := { program := "ytkbmkhhcppfcnaadoor", sum := "9d847268196c7bb8e0f26cc0fe428195861c803cba86f9294318e7dbdb78f75e", func := "roadstead/roadsteadlaw12.OneTables", spec := "oneTables", inPlace := ["internal/abi.NoEscape", "internal/bytealg.MakeNoZero"], unfollowed := true, recurses := true, named := ["internal/strconv.uint64pow10", "math/bits.deBruijn32tab", "math/bits.deBruijn64tab", "strconv.ErrSyntax", "strconv.ErrRange"], apart := false, laid := [("math/bits.deBruijn32tab", laid_math_bits_deBruijn32tab), ("math/bits.deBruijn64tab", laid_math_bits_deBruijn64tab), ("internal/strconv.uint64pow10", laid_internal_strconv_uint64pow10), ("strconv.ErrRange", laid_strconv_ErrRange), ("strconv.ErrSyntax", laid_strconv_ErrSyntax)], narrowed := true }
def OneTablesUptoSaid : Prop := oneTablesUptoRow.holds Tryd.pinned (OpenSpec.upto oneTablesSpec)

/-- 'roadsteadlaw13.TwoBack', WHERE WHAT IT READS IS OF BULK AT MOST 1048576: true; the input reads as it did. -/
def twoBackUptoRow : OpenClaim := { program := "ytkbmkhhcppfcnaadoor", sum := "9d847268196c7bb8e0f26cc0fe428195861c803cba86f9294318e7dbdb78f75e", func := "roadstead/roadsteadlaw13.TwoBack", spec := "twoBack", inPlace := ["internal/abi.NoEscape", "internal/bytealg.MakeNoZero"], unfollowed := true, recurses := true, named := ["internal/strconv.uint64pow10", "math/bits.deBruijn32tab", "math/bits.deBruijn64tab", "strconv.ErrSyntax", "strconv.ErrRange"], apart := false, laid := [("math/bits.deBruijn32tab", laid_math_bits_deBruijn32tab), ("math/bits.deBruijn64tab", laid_math_bits_deBruijn64tab), ("internal/strconv.uint64pow10", laid_internal_strconv_uint64pow10), ("strconv.ErrRange", laid_strconv_ErrRange), ("strconv.ErrSyntax", laid_strconv_ErrSyntax)], narrowed := true }
def TwoBackUptoSaid : Prop := twoBackUptoRow.holds Tryd.pinned (OpenSpec.upto twoBackSpec)

/-- 'roadsteadlaw13.TwoKeys', WHERE WHAT IT READS IS OF BULK AT MOST 1048576: true; the input reads as it did. -/
def twoKeysUptoRow : OpenClaim := { program := "ytkbmkhhcppfcnaadoor", sum := "9d847268196c7bb8e0f26cc0fe428195861c803cba86f9294318e7dbdb78f75e", func := "roadstead/roadsteadlaw13.TwoKeys", spec := "twoKeys", inPlace := ["internal/abi.NoEscape", "internal/bytealg.MakeNoZero"], unfollowed := true, recurses := true, named := ["internal/strconv.uint64pow10", "math/bits.deBruijn32tab", "math/bits.deBruijn64tab", "strconv.ErrSyntax", "strconv.ErrRange"], apart := false, laid := [("math/bits.deBruijn32tab", laid_math_bits_deBruijn32tab), ("math/bits.deBruijn64tab", laid_math_bits_deBruijn64tab), ("internal/strconv.uint64pow10", laid_internal_strconv_uint64pow10), ("strconv.ErrRange", laid_strconv_ErrRange), ("strconv.ErrSyntax", laid_strconv_ErrSyntax)], narrowed := true }
def TwoKeysUptoSaid : Prop := twoKeysUptoRow.holds Tryd.pinned (OpenSpec.upto twoKeysSpec)

/-- 'roadsteadlaw13.TwoGaps', WHERE WHAT IT READS IS OF BULK AT MOST 1048576: true; the input reads as it did. -/
def twoGapsUptoRow : OpenClaim := { program := "ytkbmkhhcppfcnaadoor", sum := "9d847268196c7bb8e0f26cc0fe428195861c803cba86f9294318e7dbdb78f75e", func := "roadstead/roadsteadlaw13.TwoGaps", spec := "twoGaps", inPlace := ["internal/abi.NoEscape", "internal/bytealg.MakeNoZero"], unfollowed := true, recurses := true, named := ["internal/strconv.uint64pow10", "math/bits.deBruijn32tab", "math/bits.deBruijn64tab", "strconv.ErrSyntax", "strconv.ErrRange"], apart := false, laid := [("math/bits.deBruijn32tab", laid_math_bits_deBruijn32tab), ("math/bits.deBruijn64tab", laid_math_bits_deBruijn64tab), ("internal/strconv.uint64pow10", laid_internal_strconv_uint64pow10), ("strconv.ErrRange", laid_strconv_ErrRange), ("strconv.ErrSyntax", laid_strconv_ErrSyntax)], narrowed := true }
def TwoGapsUptoSaid : Prop := twoGapsUptoRow.holds Tryd.pinned (OpenSpec.upto twoGapsSpec)

end Rows
end Go.Proofs.YtkbmkhhcppfcnaaDoor
