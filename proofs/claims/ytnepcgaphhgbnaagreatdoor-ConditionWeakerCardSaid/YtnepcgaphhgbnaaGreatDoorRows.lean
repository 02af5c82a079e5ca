/-
  NARROWER THAN 'FOR EVERY INPUT', by the rows' own cells (each row's printed sentence says how): ConditionWeaker: laid · ConditionNormal: laid · ConditionCounts: laid · ConditionAgain: laid · ConditionFilters: laid · ConditionOrder: laid · ConditionOpposites: laid · ConditionExact: laid.
  DERIVED. THE GIVEN ROWS OF THIS SEAT. 8 by the template 'for every input the law returns true; each argument reads behind the call as it read before'; 0 by the template 'total and deterministic' (their statements: YtnepcgaphhgbnaaGreatDoorTotals.lean).
  GIVEN WITH THE SEED: the statements are not yours to turn. If you find one false, say at which input.
  Laid BY PROGRAM, IN A SANDBOX (cutbox-rows.mjs): the forced cells as the released guide's own fill.sh prints them over the translation 16c1ee5843b89a2c… (all of the seat's roots in one cut). By AI agents, Wed Nov 11 2026. No macro, syntax, notation, axiom, sorry.
-/
import Derived.Test.YtnepcgaphhgbnaaGreatDoorChecked
import GoSem.Claim
import GoSem.ClaimJoined
import GoSem.ClaimMapViews
import Derived.JoinedTies
import Derived.KernelRfl
namespace Go.Proofs.YtnepcgaphhgbnaaGreatDoor
/- THE CELL 'sum', in the pinned program and in every row, IS THE sha256 OF THE DUMP (.gsa) THAT YtnepcgaphhgbnaaGreatDoorProg.lean LOADS. Nothing in Lean hashes anything: it is a label: what it is worth is what the hold of that sum in a sandbox is worth. -/
noncomputable def Tryz.pinned : Pinned := { name := "ytnepcgaphhgbnaagreatdoor", sum := "16c1ee5843b89a2c3fc04a3fac095390b2ff240fb4c2074059be7b409c97a0c9", checked := Tryz.checked }
namespace Rows
def none {H : Type} : Left H := { results := [], args := [] }

/- WHAT THE LISTED PACKAGE-LEVEL VARIABLES READ AS WHEN THE CALL BEGINS. Each datum BY PROGRAM (the guide's laid-datum.mjs) off the statement by which the dump's own 'gosem.cut.vars' lays the variable. In a bare row this is a premise. The card (YtnepcgaphhgbnaaGreatDoorCards.lean) ties it to the program's text. -/
def laid_math_bits_deBruijn32tab {H : Type} : DataW H := .agg [.lit (.int .u8 0), .lit (.int .u8 1), .lit (.int .u8 28), .lit (.int .u8 2), .lit (.int .u8 29), .lit (.int .u8 14), .lit (.int .u8 24), .lit (.int .u8 3), .lit (.int .u8 30), .lit (.int .u8 22), .lit (.int .u8 20), .lit (.int .u8 15), .lit (.int .u8 25), .lit (.int .u8 17), .lit (.int .u8 4), .lit (.int .u8 8), .lit (.int .u8 31), .lit (.int .u8 27), .lit (.int .u8 13), .lit (.int .u8 23), .lit (.int .u8 21), .lit (.int .u8 19), .lit (.int .u8 16), .lit (.int .u8 7), .lit (.int .u8 26), .lit (.int .u8 12), .lit (.int .u8 18), .lit (.int .u8 6), .lit (.int .u8 11), .lit (.int .u8 5), .lit (.int .u8 10), .lit (.int .u8 9)]
def laid_math_bits_deBruijn64tab {H : Type} : DataW H := .agg [.lit (.int .u8 0), .lit (.int .u8 1), .lit (.int .u8 56), .lit (.int .u8 2), .lit (.int .u8 57), .lit (.int .u8 49), .lit (.int .u8 28), .lit (.int .u8 3), .lit (.int .u8 61), .lit (.int .u8 58), .lit (.int .u8 42), .lit (.int .u8 50), .lit (.int .u8 38), .lit (.int .u8 29), .lit (.int .u8 17), .lit (.int .u8 4), .lit (.int .u8 62), .lit (.int .u8 47), .lit (.int .u8 59), .lit (.int .u8 36), .lit (.int .u8 45), .lit (.int .u8 43), .lit (.int .u8 51), .lit (.int .u8 22), .lit (.int .u8 53), .lit (.int .u8 39), .lit (.int .u8 33), .lit (.int .u8 30), .lit (.int .u8 24), .lit (.int .u8 18), .lit (.int .u8 12), .lit (.int .u8 5), .lit (.int .u8 63), .lit (.int .u8 55), .lit (.int .u8 48), .lit (.int .u8 27), .lit (.int .u8 60), .lit (.int .u8 41), .lit (.int .u8 37), .lit (.int .u8 16), .lit (.int .u8 46), .lit (.int .u8 35), .lit (.int .u8 44), .lit (.int .u8 21), .lit (.int .u8 52), .lit (.int .u8 32), .lit (.int .u8 23), .lit (.int .u8 11), .lit (.int .u8 54), .lit (.int .u8 26), .lit (.int .u8 40), .lit (.int .u8 15), .lit (.int .u8 34), .lit (.int .u8 20), .lit (.int .u8 31), .lit (.int .u8 10), .lit (.int .u8 25), .lit (.int .u8 14), .lit (.int .u8 19), .lit (.int .u8 9), .lit (.int .u8 13), .lit (.int .u8 8), .lit (.int .u8 7), .lit (.int .u8 6)]
def laid_internal_strconv_uint64pow10 {H : Type} : DataW H := .agg [.lit (.int .u64 1), .lit (.int .u64 10), .lit (.int .u64 100), .lit (.int .u64 1000), .lit (.int .u64 10000), .lit (.int .u64 100000), .lit (.int .u64 1000000), .lit (.int .u64 10000000), .lit (.int .u64 100000000), .lit (.int .u64 1000000000), .lit (.int .u64 10000000000), .lit (.int .u64 100000000000), .lit (.int .u64 1000000000000), .lit (.int .u64 10000000000000), .lit (.int .u64 100000000000000), .lit (.int .u64 1000000000000000), .lit (.int .u64 10000000000000000), .lit (.int .u64 100000000000000000), .lit (.int .u64 1000000000000000000), .lit (.int .u64 10000000000000000000)]
def laid_strconv_ErrRange {H : Type} : DataW H := .iface "*errors.errorString" (.ptr (.agg [.lit (.string [118, 97, 108, 117, 101, 32, 111, 117, 116, 32, 111, 102, 32, 114, 97, 110, 103, 101])]))
def laid_strconv_ErrSyntax {H : Type} : DataW H := .iface "*errors.errorString" (.ptr (.agg [.lit (.string [105, 110, 118, 97, 108, 105, 100, 32, 115, 121, 110, 116, 97, 120])]))

/-- 'joinlearnlaw22.ConditionWeaker': WHATEVER THE INPUT: true; the input reads as it did. -/
def conditionWeakerSpec : ChangeSpec := { name := "conditionWeaker", fn := fun _ => fun
  | [d] => { results := [.lit (.bool true)], args := [d] }
  | _ => none }
def conditionWeakerRow : OpenClaim := { program := "ytnepcgaphhgbnaagreatdoor", sum := "16c1ee5843b89a2c3fc04a3fac095390b2ff240fb4c2074059be7b409c97a0c9", func := "joinlearn/joinlearnlaw22.ConditionWeaker", spec := "conditionWeaker", inPlace := ["internal/bytealg.IndexByteString", "internal/bytealg.IndexString"], unfollowed := true, recurses := true, named := ["strconv.ErrSyntax", "strconv.ErrRange", "internal/strconv.uint64pow10", "math/bits.deBruijn32tab", "math/bits.deBruijn64tab", "internal/bytealg.MaxLen"], apart := false, laid := [("math/bits.deBruijn32tab", laid_math_bits_deBruijn32tab), ("math/bits.deBruijn64tab", laid_math_bits_deBruijn64tab), ("internal/strconv.uint64pow10", laid_internal_strconv_uint64pow10), ("strconv.ErrRange", laid_strconv_ErrRange), ("strconv.ErrSyntax", laid_strconv_ErrSyntax)] }
def ConditionWeakerSaid : Prop := conditionWeakerRow.holds Tryz.pinned (OpenSpec.ofChange conditionWeakerSpec)

/-- ITS FALSE NEIGHBOUR: 'it returns false'. Refute it at one input. -/
def conditionWeakerWrong : ChangeSpec := { name := "conditionWeaker", fn := fun _ => fun
  | [d] => { results := [.lit (.bool false)], args := [d] }
  | _ => none }
def ConditionWeakerWrongFalsely : Prop := conditionWeakerRow.holds Tryz.pinned (OpenSpec.ofChange conditionWeakerWrong)

/-- 'joinlearnlaw22.ConditionNormal': WHATEVER THE INPUT: true; the input reads as it did. -/
def conditionNormalSpec : ChangeSpec := { name := "conditionNormal", fn := fun _ => fun
  | [d] => { results := [.lit (.bool true)], args := [d] }
  | _ => none }
def conditionNormalRow : OpenClaim := { program := "ytnepcgaphhgbnaagreatdoor", sum := "16c1ee5843b89a2c3fc04a3fac095390b2ff240fb4c2074059be7b409c97a0c9", func := "joinlearn/joinlearnlaw22.ConditionNormal", spec := "conditionNormal", inPlace := ["internal/bytealg.IndexByteString", "internal/bytealg.IndexString"], unfollowed := true, recurses := true, named := ["strconv.ErrSyntax", "strconv.ErrRange", "internal/strconv.uint64pow10", "math/bits.deBruijn32tab", "math/bits.deBruijn64tab", "internal/bytealg.MaxLen"], apart := false, laid := [("math/bits.deBruijn32tab", laid_math_bits_deBruijn32tab), ("math/bits.deBruijn64tab", laid_math_bits_deBruijn64tab), ("internal/strconv.uint64pow10", laid_internal_strconv_uint64pow10), ("strconv.ErrRange", laid_strconv_ErrRange), ("strconv.ErrSyntax", laid_strconv_ErrSyntax)] }
def ConditionNormalSaid : Prop := conditionNormalRow.holds Tryz.pinned (OpenSpec.ofChange conditionNormalSpec)

/-- ITS FALSE NEIGHBOUR: 'it returns false'. Refute it at one input. -/
def conditionNormalWrong : ChangeSpec := { name := "conditionNormal", fn := fun _ => fun
  | [d] => { results := [.lit (.bool false)], args := [d] }
  | _ => none }
def ConditionNormalWrongFalsely : Prop := conditionNormalRow.holds Tryz.pinned (OpenSpec.ofChange conditionNormalWrong)

/-- 'joinlearnlaw22.ConditionCounts': WHATEVER THE INPUT: true; the input reads as it did. -/
def conditionCountsSpec : ChangeSpec := { name := "conditionCounts", fn := fun _ => fun
  | [d] => { results := [.lit (.bool true)], args := [d] }
  | _ => none }
def conditionCountsRow : OpenClaim := { program := "ytnepcgaphhgbnaagreatdoor", sum := "16c1ee5843b89a2c3fc04a3fac095390b2ff240fb4c2074059be7b409c97a0c9", func := "joinlearn/joinlearnlaw22.ConditionCounts", spec := "conditionCounts", inPlace := ["internal/bytealg.IndexByteString", "internal/bytealg.IndexString"], unfollowed := true, recurses := true, named := ["strconv.ErrSyntax", "strconv.ErrRange", "internal/strconv.uint64pow10", "math/bits.deBruijn32tab", "math/bits.deBruijn64tab", "internal/bytealg.MaxLen"], apart := false, laid := [("math/bits.deBruijn32tab", laid_math_bits_deBruijn32tab), ("math/bits.deBruijn64tab", laid_math_bits_deBruijn64tab), ("internal/strconv.uint64pow10", laid_internal_strconv_uint64pow10), ("strconv.ErrRange", laid_strconv_ErrRange), ("strconv.ErrSyntax", laid_strconv_ErrSyntax)] }
def ConditionCountsSaid : Prop := conditionCountsRow.holds Tryz.pinned (OpenSpec.ofChange conditionCountsSpec)

/-- ITS FALSE NEIGHBOUR: 'it returns false'. Refute it at one input. -/
def conditionCountsWrong : ChangeSpec := { name := "conditionCounts", fn := fun _ => fun
  | [d] => { results := [.lit (.bool false)], args := [d] }
  | _ => none }
def ConditionCountsWrongFalsely : Prop := conditionCountsRow.holds Tryz.pinned (OpenSpec.ofChange conditionCountsWrong)

/-- 'joinlearnlaw22.ConditionAgain': WHATEVER THE INPUT: true; the input reads as it did. -/
def conditionAgainSpec : ChangeSpec := { name := "conditionAgain", fn := fun _ => fun
  | [d] => { results := [.lit (.bool true)], args := [d] }
  | _ => none }
def conditionAgainRow : OpenClaim := { program := "ytnepcgaphhgbnaagreatdoor", sum := "16c1ee5843b89a2c3fc04a3fac095390b2ff240fb4c2074059be7b409c97a0c9", func := "joinlearn/joinlearnlaw22.ConditionAgain", spec := "conditionAgain", inPlace := ["internal/bytealg.IndexByteString", "internal/bytealg.IndexString"], unfollowed := true, recurses := true, named := ["strconv.ErrSyntax", "strconv.ErrRange", "internal/strconv.uint64pow10", "math/bits.deBruijn32tab", "math/bits.deBruijn64tab", "internal/bytealg.MaxLen"], apart := false, laid := [("math/bits.deBruijn32tab", laid_math_bits_deBruijn32tab), ("math/bits.deBruijn64tab", laid_math_bits_deBruijn64tab), ("internal/strconv.uint64pow10", laid_internal_strconv_uint64pow10), ("strconv.ErrRange", laid_strconv_ErrRange), ("strconv.ErrSyntax", laid_strconv_ErrSyntax)] }
def ConditionAgainSaid : Prop := conditionAgainRow.holds Tryz.pinned (OpenSpec.ofChange conditionAgainSpec)

/-- ITS FALSE NEIGHBOUR: 'it returns false'. Refute it at one input. -/
def conditionAgainWrong : ChangeSpec := { name := "conditionAgain", fn := fun _ => fun
  | [d] => { results := [.lit (.bool false)], args := [d] }
  | _ => none }
def ConditionAgainWrongFalsely : Prop := conditionAgainRow.holds Tryz.pinned (OpenSpec.ofChange conditionAgainWrong)

/-- 'joinlearnlaw22.ConditionFilters': WHATEVER THE INPUT: true; the input reads as it did. -/
def conditionFiltersSpec : ChangeSpec := { name := "conditionFilters", fn := fun _ => fun
  | [d] => { results := [.lit (.bool true)], args := [d] }
  | _ => none }
def conditionFiltersRow : OpenClaim := { program := "ytnepcgaphhgbnaagreatdoor", sum := "16c1ee5843b89a2c3fc04a3fac095390b2ff240fb4c2074059be7b409c97a0c9", func := "joinlearn/joinlearnlaw22.ConditionFilters", spec := "conditionFilters", inPlace := ["internal/bytealg.IndexByteString", "internal/bytealg.IndexString"], unfollowed := true, recurses := true, named := ["strconv.ErrSyntax", "strconv.ErrRange", "internal/strconv.uint64pow10", "math/bits.deBruijn32tab", "math/bits.deBruijn64tab", "internal/bytealg.MaxLen"], apart := false, laid := [("math/bits.deBruijn32tab", laid_math_bits_deBruijn32tab), ("math/bits.deBruijn64tab", laid_math_bits_deBruijn64tab), ("internal/strconv.uint64pow10", laid_internal_strconv_uint64pow10), ("strconv.ErrRange", laid_strconv_ErrRange), ("strconv.ErrSyntax", laid_strconv_ErrSyntax)] }
def ConditionFiltersSaid : Prop := conditionFiltersRow.holds Tryz.pinned (OpenSpec.ofChange conditionFiltersSpec)

/-- ITS FALSE NEIGHBOUR: 'it returns false'. Refute it at one input. -/
def conditionFiltersWrong : ChangeSpec := { name := "conditionFilters", fn := fun _ => fun
  | [d] => { results := [.lit (.bool false)], args := [d] }
  | _ => none }
def ConditionFiltersWrongFalsely : Prop := conditionFiltersRow.holds Tryz.pinned (OpenSpec.ofChange conditionFiltersWrong)

/-- 'joinlearnlaw22.ConditionOrder': WHATEVER THE INPUT: true; the input reads as it did. -/
def conditionOrderSpec : ChangeSpec := { name := "conditionOrder", fn := fun _ => fun
  | [d] => { results := [.lit (.bool true)], args := [d] }
  | _ => none }
def conditionOrderRow : OpenClaim := { program := "ytnepcgaphhgbnaagreatdoor", sum := "16c1ee5843b89a2c3fc04a3fac095390b2ff240fb4c2074059be7b409c97a0c9", func := "joinlearn/joinlearnlaw22.ConditionOrder", spec := "conditionOrder", inPlace := ["internal/bytealg.IndexByteString", "internal/bytealg.IndexString"], unfollowed := true, recurses := true, named := ["strconv.ErrSyntax", "strconv.ErrRange", "internal/strconv.uint64pow10", "math/bits.deBruijn32tab", "math/bits.deBruijn64tab", "internal/bytealg.MaxLen"], apart := false, laid := [("math/bits.deBruijn32tab", laid_math_bits_deBruijn32tab), ("math/bits.deBruijn64tab", laid_math_bits_deBruijn64tab), ("internal/strconv.uint64pow10", laid_internal_strconv_uint64pow10), ("strconv.ErrRange", laid_strconv_ErrRange), ("strconv.ErrSyntax", laid_strconv_ErrSyntax)] }
def ConditionOrderSaid : Prop := conditionOrderRow.holds Tryz.pinned (OpenSpec.ofChange conditionOrderSpec)

/-- ITS FALSE NEIGHBOUR: 'it returns false'. Refute it at one input. -/
def conditionOrderWrong : ChangeSpec := { name := "conditionOrder", fn := fun _ => fun
  | [d] => { results := [.lit (.bool false)], args := [d] }
  | _ => none }
def ConditionOrderWrongFalsely : Prop := conditionOrderRow.holds Tryz.pinned (OpenSpec.ofChange conditionOrderWrong)

/-- 'joinlearnlaw22.ConditionOpposites': WHATEVER THE INPUT: true; the input reads as it did. -/
def conditionOppositesSpec : ChangeSpec := { name := "conditionOpposites", fn := fun _ => fun
  | [d] => { results := [.lit (.bool true)], args := [d] }
  | _ => none }
def conditionOppositesRow : OpenClaim := { program := "ytnepcgaphhgbnaagreatdoor", sum := "16c1ee5843b89a2c3fc04a3fac095390b2ff240fb4c2074059be7b409c97a0c9", func := "joinlearn/joinlearnlaw22.ConditionOpposites", spec := "conditionOpposites", inPlace := ["internal/bytealg.IndexByteString", "internal/bytealg.IndexString"], unfollowed := true, recurses := true, named := ["strconv.ErrSyntax", "strconv.ErrRange", "internal/strconv.uint64pow10", "math/bits.deBruijn32tab", "math/bits.deBruijn64tab", "internal/bytealg.MaxLen"], apart := false, laid := [("math/bits.deBruijn32tab", laid_math_bits_deBruijn32tab), ("math/bits.deBruijn64tab", laid_math_bits_deBruijn64tab), ("internal/strconv.uint64pow10", laid_internal_strconv_uint64pow10), ("strconv.ErrRange", laid_strconv_ErrRange), ("strconv.ErrSyntax", laid_strconv_ErrSyntax)] }
def ConditionOppositesSaid : Prop := conditionOppositesRow.holds Tryz.pinned (OpenSpec.ofChange conditionOppositesSpec)

/-- ITS FALSE NEIGHBOUR: 'it returns false'. Refute it at one input. -/
def conditionOppositesWrong : ChangeSpec := { name := "conditionOpposites", fn := fun _ => fun
  | [d] => { results := [.lit (.bool false)], args := [d] }
  | _ => none }
def ConditionOppositesWrongFalsely : Prop := conditionOppositesRow.holds Tryz.pinned (OpenSpec.ofChange conditionOppositesWrong)

/-- 'joinlearnlaw22.ConditionExact': WHATEVER THE INPUT: true; the input reads as it did. -/
def conditionExactSpec : ChangeSpec := { name := "conditionExact", fn := fun _ => fun
  | [d1, d2, d3, d4, d5, d6] => { results := [.lit (.bool true)], args := [d1, d2, d3, d4, d5, d6] }
  | _ => none }
def conditionExactRow : OpenClaim := { program := "ytnepcgaphhgbnaagreatdoor", sum := "16c1ee5843b89a2c3fc04a3fac095390b2ff240fb4c2074059be7b409c97a0c9", func := "joinlearn/joinlearnlaw22.ConditionExact", spec := "conditionExact", inPlace := ["internal/bytealg.IndexByteString", "internal/bytealg.IndexString"], unfollowed := true, recurses := true, named := ["strconv.ErrSyntax", "strconv.ErrRange", "internal/strconv.uint64pow10", "math/bits.deBruijn32tab", "math/bits.deBruijn64tab", "internal/bytealg.MaxLen"], apart := false, laid := [("math/bits.deBruijn32tab", laid_math_bits_deBruijn32tab), ("math/bits.deBruijn64tab", laid_math_bits_deBruijn64tab), ("internal/strconv.uint64pow10", laid_internal_strconv_uint64pow10), ("strconv.ErrRange", laid_strconv_ErrRange), ("strconv.ErrSyntax", laid_strconv_ErrSyntax)] }
def ConditionExactSaid : Prop := conditionExactRow.holds Tryz.pinned (OpenSpec.ofChange conditionExactSpec)

/-- ITS FALSE NEIGHBOUR: 'it returns false'. Refute it at one input. -/
def conditionExactWrong : ChangeSpec := { name := "conditionExact", fn := fun _ => fun
  | [d1, d2, d3, d4, d5, d6] => { results := [.lit (.bool false)], args := [d1, d2, d3, d4, d5, d6] }
  | _ => none }
def ConditionExactWrongFalsely : Prop := conditionExactRow.holds Tryz.pinned (OpenSpec.ofChange conditionExactWrong)

/- THE SECOND FORM. 'bulk': how many values and letters a reading holds, each counted each time it is reached (what is shared counts as often as it is met; a slice's spare places count too). A statement '..UptoSaid' is the law's where the arguments, and the package variables that the reading takes, are together of bulk at most 1048576: NARROWER than '..Said'. Prove '..Said' where nothing that the law and all that it calls make is longer than what came in: it says more and counts as full. Else prove '..UptoSaid'. A law counts once. -/
mutual
def uptoBulk {H : Type} : DataW H → Nat
  | .lit (.string bytes) => bytes.length + 1
  | .lit _ => 1
  | .nil => 1
  | .ptr d => uptoBulk d + 1
  | .slice elems spare => uptoBulkAll elems + uptoBulkAll spare + 1
  | .agg parts => uptoBulkAll parts + 1
  | .iface _ d => uptoBulk d + 1
  | .map entries => uptoBulkEntries entries + 1
  | .held _ => 1
def uptoBulkAll {H : Type} : List (DataW H) → Nat
  | [] => 0
  | d :: r => uptoBulk d + uptoBulkAll r
def uptoBulkEntries {H : Type} : List (Lit × DataW H) → Nat
  | [] => 0
  | x :: r => uptoBulkEntry x + uptoBulkEntries r
def uptoBulkEntry {H : Type} : Lit × DataW H → Nat
  | (.string bytes, d) => bytes.length + uptoBulk d + 1
  | (_, d) => uptoBulk d + 1
 end
def uptoSmall : (H : Type) → List (DataW H) → Bool := fun _ ds => decide (uptoBulkAll ds ≤ 1048576)
def OpenSpec.upto (s : _root_.Go.ChangeSpec) : _root_.Go.OpenSpec := { _root_.Go.OpenSpec.ofChange s with cond := some uptoSmall }

/-- 'joinlearnlaw22.ConditionWeaker', WHERE WHAT IT READS IS OF BULK AT MOST 1048576: true; the input reads as it did. -/
def conditionWeakerUptoRow : OpenClaim := { program := "ytnepcgaphhgbnaagreatdoor", sum := "16c1ee5843b89a2c3fc04a3fac095390b2ff240fb4c2074059be7b409c97a0c9", func := "joinlearn/joinlearnlaw22.ConditionWeaker", spec := "conditionWeaker", inPlace := ["internal/bytealg.IndexByteString", "internal/bytealg.IndexString"], unfollowed := true, recurses := true, named := ["strconv.ErrSyntax", "strconv.ErrRange", "internal/strconv.uint64pow10", "math/bits.deBruijn32tab", "math/bits.deBruijn64tab", "internal/bytealg.MaxLen"], apart := false, laid := [("math/bits.deBruijn32tab", laid_math_bits_deBruijn32tab), ("math/bits.deBruijn64tab", laid_math_bits_deBruijn64tab), ("internal/strconv.uint64pow10", laid_internal_strconv_uint64pow10), ("strconv.ErrRange", laid_strconv_ErrRange), ("strconv.ErrSyntax", laid_strconv_ErrSyntax)], narrowed := true }
def ConditionWeakerUptoSaid : Prop := conditionWeakerUptoRow.holds Tryz.pinned (OpenSpec.upto conditionWeakerSpec)

/-- 'joinlearnlaw22.ConditionNormal', WHERE WHAT IT READS IS OF BULK AT MOST 1048576: true; the input reads as it did. -/
def conditionNormalUptoRow : OpenClaim := { program := "ytnepcgaphhgbnaagreatdoor", sum := "16c1ee5843b89a2c3fc04a3fac095390b2ff240fb4c2074059be7b409c97a0c9", func := "joinlearn/joinlearnlaw22.ConditionNormal", spec := "conditionNormal", inPlace := ["internal/bytealg.IndexByteString", "internal/bytealg.IndexString"], unfollowed := true, recurses := true, named := ["strconv.ErrSyntax", "strconv.ErrRange", "internal/strconv.uint64pow10", "math/bits.deBruijn32tab", "math/bits.deBruijn64tab", "internal/bytealg.MaxLen"], apart := false, laid := [("math/bits.deBruijn32tab", laid_math_bits_deBruijn32tab), ("math/bits.deBruijn64tab", laid_math_bits_deBruijn64tab), ("internal/strconv.uint64pow10", laid_internal_strconv_uint64pow10), ("strconv.ErrRange", laid_strconv_ErrRange), ("strconv.ErrSyntax", laid_strconv_ErrSyntax)], narrowed := true }
def ConditionNormalUptoSaid : Prop := conditionNormalUptoRow.holds Tryz.pinned (OpenSpec.upto conditionNormalSpec)

/-- 'joinlearnlaw22.ConditionCounts', WHERE WHAT IT READS IS OF BULK AT MOST 1048576: true; the input reads as it did. -/
def conditionCountsUptoRow : OpenClaim := { program := "ytnepcgaphhgbnaagreatdoor", sum := "16c1ee5843b89a2c3fc04a3fac095390b2ff240fb4c2074059be7b409c97a0c9", func := "joinlearn/joinlearnlaw22.ConditionCounts", spec := "conditionCounts", inPlace := ["internal/bytealg.IndexByteString", "internal/bytealg.IndexString"], unfollowed := true, recurses := true, named := ["strconv.ErrSyntax", "strconv.ErrRange", "internal/strconv.uint64pow10", "math/bits.deBruijn32tab", "math/bits.deBruijn64tab", "internal/bytealg.MaxLen"], apart := false, laid := [("math/bits.deBruijn32tab", laid_math_bits_deBruijn32tab), ("math/bits.deBruijn64tab", laid_math_bits_deBruijn64tab), ("internal/strconv.uint64pow10", laid_internal_strconv_uint64pow10), ("strconv.ErrRange", laid_strconv_ErrRange), ("strconv.ErrSyntax", laid_strconv_ErrSyntax)], narrowed := true }
def ConditionCountsUptoSaid : Prop := conditionCountsUptoRow.holds Tryz.pinned (OpenSpec.upto conditionCountsSpec)

/-- 'joinlearnlaw22.ConditionAgain', WHERE WHAT IT READS IS OF BULK AT MOST 1048576: true; the input reads as it did. -/
def conditionAgainUptoRow : OpenClaim := { program := "ytnepcgaphhgbnaagreatdoor", sum := "16c1ee5843b89a2c3fc04a3fac095390b2ff240fb4c2074059be7b409c97a0c9", func := "joinlearn/joinlearnlaw22.ConditionAgain", spec := "conditionAgain", inPlace := ["internal/bytealg.IndexByteString", "internal/bytealg.IndexString"], unfollowed := true, recurses := true, named := ["strconv.ErrSyntax", "strconv.ErrRange", "internal/strconv.uint64pow10", "math/bits.deBruijn32tab", "math/bits.deBruijn64tab", "internal/bytealg.MaxLen"], apart := false, laid := [("math/bits.deBruijn32tab", laid_math_bits_deBruijn32tab), ("math/bits.deBruijn64tab", laid_math_bits_deBruijn64tab), ("internal/strconv.uint64pow10", laid_internal_strconv_uint64pow10), ("strconv.ErrRange", laid_strconv_ErrRange), ("strconv.ErrSyntax", laid_strconv_ErrSyntax)], narrowed := true }
def ConditionAgainUptoSaid : Prop := conditionAgainUptoRow.holds Tryz.pinned (OpenSpec.upto conditionAgainSpec)

/-- 'joinlearnlaw22.ConditionFilters', WHERE WHAT IT READS IS OF BULK AT MOST 1048576: true; the input reads as it did. -/
def conditionFiltersUptoRow : OpenClaim := { program := "ytnepcgaphhgbnaagreatdoor", sum := "16c1ee5843b89a2c3fc04a3fac095390b2ff240fb4c2074059be7b409c97a0c9", func := "joinlearn/joinlearnlaw22.ConditionFilters", spec := "conditionFilters", inPlace := ["internal/bytealg.IndexByteString", "internal/bytealg.IndexString"], unfollowed := true, recurses := true, named := ["strconv.ErrSyntax", "strconv.ErrRange", "internal/strconv.uint64pow10", "math/bits.deBruijn32tab", "math/bits.deBruijn64tab", "internal/bytealg.MaxLen"], apart := false, laid := [("math/bits.deBruijn32tab", laid_math_bits_deBruijn32tab), ("math/bits.deBruijn64tab", laid_math_bits_deBruijn64tab), ("internal/strconv.uint64pow10", laid_internal_strconv_uint64pow10), ("strconv.ErrRange", laid_strconv_ErrRange), ("strconv.ErrSyntax", laid_strconv_ErrSyntax)], narrowed := true }
def ConditionFiltersUptoSaid : Prop := conditionFiltersUptoRow.holds Tryz.pinned (OpenSpec.upto conditionFiltersSpec)

/-- 'joinlearnlaw22.ConditionOrder', WHERE WHAT IT READS IS OF BULK AT MOST 1048576: true; the input reads as it did. -/
def conditionOrderUptoRow : OpenClaim := { program := "ytnepcgaphhgbnaagreatdoor", sum := "16c1ee5843b89a2c3fc04a3fac095390b2ff240fb4c2074059be7b409c97a0c9", func := "joinlearn/joinlearnlaw22.ConditionOrder", spec := "conditionOrder", inPlace := ["internal/bytealg.IndexByteString", "internal/bytealg.IndexString"], unfollowed := true, recurses := true, named := ["strconv.ErrSyntax", "strconv.ErrRange", "internal/strconv.uint64pow10", "math/bits.deBruijn32tab", "math/bits.deBruijn64tab", "internal/bytealg.MaxLen"], apart := false, laid := [("math/bits.deBruijn32tab", laid_math_bits_deBruijn32tab), ("math/bits.deBruijn64tab", laid_math_bits_deBruijn64tab), ("internal/strconv.uint64pow10", laid_internal_strconv_uint64pow10), ("strconv.ErrRange", laid_strconv_ErrRange), ("strconv.ErrSyntax", laid_strconv_ErrSyntax)], narrowed := true }
def ConditionOrderUptoSaid : Prop := conditionOrderUptoRow.holds Tryz.pinned (OpenSpec.upto conditionOrderSpec)

/-- 'joinlearnlaw22.ConditionOpposites', WHERE WHAT IT READS IS OF BULK AT MOST 1048576: true; the input reads as it did. -/
def conditionOppositesUptoRow : OpenClaim := { program := "ytnepcgaphhgbnaagreatdoor", sum := "16c1ee5843b89a2c3fc04a3fac095390b2ff240fb4c2074059be7b409c97a0c9", func := "joinlearn/joinlearnlaw22.ConditionOpposites", spec := "conditionOpposites", inPlace := ["internal/bytealg.IndexByteString", "internal/bytealg.IndexString"], unfollowed := true, recurses := true, named := ["strconv.ErrSyntax", "strconv.ErrRange", "internal/strconv.uint64pow10", "math/bits.deBruijn32tab", "math/bits.deBruijn64tab", "internal/bytealg.MaxLen"], apart := false, laid := [("math/bits.deBruijn32tab", laid_math_bits_deBruijn32tab), ("math/bits.deBruijn64tab", laid_math_bits_deBruijn64tab), ("internal/strconv.uint64pow10", laid_internal_strconv_uint64pow10), ("strconv.ErrRange", laid_strconv_ErrRange), ("strconv.ErrSyntax", laid_strconv_ErrSyntax)], narrowed := true }
def ConditionOppositesUptoSaid : Prop := conditionOppositesUptoRow.holds Tryz.pinned (OpenSpec.upto conditionOppositesSpec)

/-- 'joinlearnlaw22.ConditionExact', WHERE WHAT IT READS IS OF BULK AT MOST 1048576: true; the input reads as it did. -/
def conditionExactUptoRow : OpenClaim := { program := "ytnepcgaphhgbnaagreatdoor", sum := "16c1ee5843b89a2c3fc04a3fac095390b2ff240fb4c2074059be7b409c97a0c9", func := "joinlearn/joinlearnlaw22.ConditionExact", spec := "conditionExact", inPlace := ["internal/bytealg.IndexByteString", "internal/bytealg.IndexString"], unfollowed := true, recurses := true, named := ["strconv.ErrSyntax", "strconv.ErrRange", "internal/strconv.uint64pow10", "math/bits.deBruijn32tab", "math/bits.deBruijn64tab", "internal/bytealg.MaxLen"], apart := false, laid := [("math/bits.deBruijn32tab", laid_math_bits_deBruijn32tab), ("math/bits.deBruijn64tab", laid_math_bits_deBruijn64tab), ("internal/strconv.uint64pow10", laid_internal_strconv_uint64pow10), ("strconv.ErrRange", laid_strconv_ErrRange), ("strconv.ErrSyntax", laid_strconv_ErrSyntax)], narrowed := true }
def ConditionExactUptoSaid : Prop := conditionExactUptoRow.holds Tryz.pinned (OpenSpec.upto conditionExactSpec)

end Rows
end Go.Proofs.YtnepcgaphhgbnaaGreatDoor
