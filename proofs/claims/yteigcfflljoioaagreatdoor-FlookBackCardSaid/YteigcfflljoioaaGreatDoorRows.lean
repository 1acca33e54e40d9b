/-
  NARROWER THAN 'FOR EVERY INPUT', by the rows' own cells (each row's printed sentence says how): FlookSorted: laid · FlookBack: laid · OperOrder: laid · OperFaults: laid · OperPlaces: laid · OperTwo: laid · OperOne: laid · OperBack: laid.
  DERIVED. THE GIVEN ROWS OF THIS SEAT. 8 by the template 'for every input the law returns true; each argument reads behind the call as it read before'; 0 by the template 'total and deterministic' (their statements: YteigcfflljoioaaGreatDoorTotals.lean).
  GIVEN WITH THE SEED: the statements are not yours to turn. If you find one false, say at which input.
  Laid BY PROGRAM, IN A SANDBOX (cutbox-rows.mjs): the forced cells as the released guide's own fill.sh prints them over the translation e7de05991347f91c… (all of the seat's roots in one cut). By AI agents, Wed Nov 11 2026. No macro, syntax, notation, axiom, sorry.
-/
import Derived.Test.YteigcfflljoioaaGreatDoorChecked
import GoSem.Claim
import GoSem.ClaimJoined
import GoSem.ClaimMapViews
import Derived.JoinedTies
import Derived.KernelRfl
namespace Go.Proofs.YteigcfflljoioaaGreatDoor
/- THE CELL 'sum', in the pinned program and in every row, IS THE sha256 OF THE DUMP (.gsa) THAT YteigcfflljoioaaGreatDoorProg.lean LOADS. Nothing in Lean hashes anything: it is a label: what it is worth is what the hold of that sum in a sandbox is worth. -/
noncomputable def Tryz.pinned : Pinned := { name := "yteigcfflljoioaagreatdoor", sum := "e7de05991347f91ce0e25b99a591e874cc291ada4c81c7ea08577e2cf2b7e9fb", checked := Tryz.checked }
namespace Rows
def none {H : Type} : Left H := { results := [], args := [] }

/- WHAT THE LISTED PACKAGE-LEVEL VARIABLES READ AS WHEN THE CALL BEGINS. Each datum BY PROGRAM (the guide's laid-datum.mjs) off the statement by which the dump's own 'gosem.cut.vars' lays the variable. In a bare row this is a premise. The card (YteigcfflljoioaaGreatDoorCards.lean) ties it to the program's text. -/
def laid_math_bits_deBruijn32tab {H : Type} : DataW H := .agg [.lit (.int .u8 0), .lit (.int .u8 1), .lit (.int .u8 28), .lit (.int .u8 2), .lit (.int .u8 29), .lit (.int .u8 14), .lit (.int .u8 24), .lit (.int .u8 3), .lit (.int .u8 30), .lit (.int .u8 22), .lit (.int .u8 20), .lit (.int .u8 15), .lit (.int .u8 25), .lit (.int .u8 17), .lit (.int .u8 4), .lit (.int .u8 8), .lit (.int .u8 31), .lit (.int .u8 27), .lit (.int .u8 13), .lit (.int .u8 23), .lit (.int .u8 21), .lit (.int .u8 19), .lit (.int .u8 16), .lit (.int .u8 7), .lit (.int .u8 26), .lit (.int .u8 12), .lit (.int .u8 18), .lit (.int .u8 6), .lit (.int .u8 11), .lit (.int .u8 5), .lit (.int .u8 10), .lit (.int .u8 9)]
def laid_math_bits_deBruijn64tab {H : Type} : DataW H := .agg [.lit (.int .u8 0), .lit (.int .u8 1), .lit (.int .u8 56), .lit (.int .u8 2), .lit (.int .u8 57), .lit (.int .u8 49), .lit (.int .u8 28), .lit (.int .u8 3), .lit (.int .u8 61), .lit (.int .u8 58), .lit (.int .u8 42), .lit (.int .u8 50), .lit (.int .u8 38), .lit (.int .u8 29), .lit (.int .u8 17), .lit (.int .u8 4), .lit (.int .u8 62), .lit (.int .u8 47), .lit (.int .u8 59), .lit (.int .u8 36), .lit (.int .u8 45), .lit (.int .u8 43), .lit (.int .u8 51), .lit (.int .u8 22), .lit (.int .u8 53), .lit (.int .u8 39), .lit (.int .u8 33), .lit (.int .u8 30), .lit (.int .u8 24), .lit (.int .u8 18), .lit (.int .u8 12), .lit (.int .u8 5), .lit (.int .u8 63), .lit (.int .u8 55), .lit (.int .u8 48), .lit (.int .u8 27), .lit (.int .u8 60), .lit (.int .u8 41), .lit (.int .u8 37), .lit (.int .u8 16), .lit (.int .u8 46), .lit (.int .u8 35), .lit (.int .u8 44), .lit (.int .u8 21), .lit (.int .u8 52), .lit (.int .u8 32), .lit (.int .u8 23), .lit (.int .u8 11), .lit (.int .u8 54), .lit (.int .u8 26), .lit (.int .u8 40), .lit (.int .u8 15), .lit (.int .u8 34), .lit (.int .u8 20), .lit (.int .u8 31), .lit (.int .u8 10), .lit (.int .u8 25), .lit (.int .u8 14), .lit (.int .u8 19), .lit (.int .u8 9), .lit (.int .u8 13), .lit (.int .u8 8), .lit (.int .u8 7), .lit (.int .u8 6)]
def laid_internal_strconv_uint64pow10 {H : Type} : DataW H := .agg [.lit (.int .u64 1), .lit (.int .u64 10), .lit (.int .u64 100), .lit (.int .u64 1000), .lit (.int .u64 10000), .lit (.int .u64 100000), .lit (.int .u64 1000000), .lit (.int .u64 10000000), .lit (.int .u64 100000000), .lit (.int .u64 1000000000), .lit (.int .u64 10000000000), .lit (.int .u64 100000000000), .lit (.int .u64 1000000000000), .lit (.int .u64 10000000000000), .lit (.int .u64 100000000000000), .lit (.int .u64 1000000000000000), .lit (.int .u64 10000000000000000), .lit (.int .u64 100000000000000000), .lit (.int .u64 1000000000000000000), .lit (.int .u64 10000000000000000000)]

/-- 'counterpanelaw14.FlookSorted': WHATEVER THE INPUT: true; the input reads as it did. -/
def flookSortedSpec : ChangeSpec := { name := "flookSorted", fn := fun _ => fun
  | [d1, d2] => { results := [.lit (.bool true)], args := [d1, d2] }
  | _ => none }
def flookSortedRow : OpenClaim := { program := "yteigcfflljoioaagreatdoor", sum := "e7de05991347f91ce0e25b99a591e874cc291ada4c81c7ea08577e2cf2b7e9fb", func := "counterpane/counterpanelaw14.FlookSorted", spec := "flookSorted", inPlace := ["internal/bytealg.abigen_runtime_cmpstring"], unfollowed := true, recurses := true, named := ["internal/strconv.uint64pow10", "math/bits.deBruijn32tab", "math/bits.deBruijn64tab"], apart := false, laid := [("math/bits.deBruijn32tab", laid_math_bits_deBruijn32tab), ("math/bits.deBruijn64tab", laid_math_bits_deBruijn64tab), ("internal/strconv.uint64pow10", laid_internal_strconv_uint64pow10)] }
def FlookSortedSaid : Prop := flookSortedRow.holds Tryz.pinned (OpenSpec.ofChange flookSortedSpec)

/-- ITS FALSE NEIGHBOUR: 'it returns false'. Refute it at one input. -/
def flookSortedWrong : ChangeSpec := { name := "flookSorted", fn := fun _ => fun
  | [d1, d2] => { results := [.lit (.bool false)], args := [d1, d2] }
  | _ => none }
def FlookSortedWrongFalsely : Prop := flookSortedRow.holds Tryz.pinned (OpenSpec.ofChange flookSortedWrong)

/-- 'counterpanelaw14.FlookBack': WHATEVER THE INPUT: true; the input reads as it did. -/
def flookBackSpec : ChangeSpec := { name := "flookBack", fn := fun _ => fun
  | [d1, d2] => { results := [.lit (.bool true)], args := [d1, d2] }
  | _ => none }
def flookBackRow : OpenClaim := { program := "yteigcfflljoioaagreatdoor", sum := "e7de05991347f91ce0e25b99a591e874cc291ada4c81c7ea08577e2cf2b7e9fb", func := "counterpane/counterpanelaw14.FlookBack", spec := "flookBack", inPlace := ["internal/bytealg.abigen_runtime_cmpstring"], unfollowed := true, recurses := true, named := ["internal/strconv.uint64pow10", "math/bits.deBruijn32tab", "math/bits.deBruijn64tab"], apart := false, laid := [("math/bits.deBruijn32tab", laid_math_bits_deBruijn32tab), ("math/bits.deBruijn64tab", laid_math_bits_deBruijn64tab), ("internal/strconv.uint64pow10", laid_internal_strconv_uint64pow10)] }
def FlookBackSaid : Prop := flookBackRow.holds Tryz.pinned (OpenSpec.ofChange flookBackSpec)

/-- ITS FALSE NEIGHBOUR: 'it returns false'. Refute it at one input. -/
def flookBackWrong : ChangeSpec := { name := "flookBack", fn := fun _ => fun
  | [d1, d2] => { results := [.lit (.bool false)], args := [d1, d2] }
  | _ => none }
def FlookBackWrongFalsely : Prop := flookBackRow.holds Tryz.pinned (OpenSpec.ofChange flookBackWrong)

/-- 'counterpanelaw10.OperOrder': WHATEVER THE INPUT: true; the input reads as it did. -/
def operOrderSpec : ChangeSpec := { name := "operOrder", fn := fun _ => fun
  | [d1, d2] => { results := [.lit (.bool true)], args := [d1, d2] }
  | _ => none }
def operOrderRow : OpenClaim := { program := "yteigcfflljoioaagreatdoor", sum := "e7de05991347f91ce0e25b99a591e874cc291ada4c81c7ea08577e2cf2b7e9fb", func := "counterpane/counterpanelaw10.OperOrder", spec := "operOrder", inPlace := ["internal/abi.NoEscape", "internal/bytealg.MakeNoZero", "internal/bytealg.abigen_runtime_cmpstring"], unfollowed := true, recurses := true, named := ["internal/strconv.uint64pow10", "math/bits.deBruijn32tab", "math/bits.deBruijn64tab", "math/bits.divideError", "math/bits.overflowError"], apart := false, laid := [("math/bits.deBruijn32tab", laid_math_bits_deBruijn32tab), ("math/bits.deBruijn64tab", laid_math_bits_deBruijn64tab), ("internal/strconv.uint64pow10", laid_internal_strconv_uint64pow10)] }
def OperOrderSaid : Prop := operOrderRow.holds Tryz.pinned (OpenSpec.ofChange operOrderSpec)

/-- ITS FALSE NEIGHBOUR: 'it returns false'. Refute it at one input. -/
def operOrderWrong : ChangeSpec := { name := "operOrder", fn := fun _ => fun
  | [d1, d2] => { results := [.lit (.bool false)], args := [d1, d2] }
  | _ => none }
def OperOrderWrongFalsely : Prop := operOrderRow.holds Tryz.pinned (OpenSpec.ofChange operOrderWrong)

/-- 'counterpanelaw10.OperFaults': WHATEVER THE INPUT: true; the input reads as it did. -/
def operFaultsSpec : ChangeSpec := { name := "operFaults", fn := fun _ => fun
  | [d1, d2, d3] => { results := [.lit (.bool true)], args := [d1, d2, d3] }
  | _ => none }
def operFaultsRow : OpenClaim := { program := "yteigcfflljoioaagreatdoor", sum := "e7de05991347f91ce0e25b99a591e874cc291ada4c81c7ea08577e2cf2b7e9fb", func := "counterpane/counterpanelaw10.OperFaults", spec := "operFaults", inPlace := ["internal/abi.NoEscape", "internal/bytealg.MakeNoZero", "internal/bytealg.abigen_runtime_cmpstring"], unfollowed := true, recurses := true, named := ["internal/strconv.uint64pow10", "math/bits.deBruijn32tab", "math/bits.deBruijn64tab", "math/bits.divideError", "math/bits.overflowError"], apart := false, laid := [("math/bits.deBruijn32tab", laid_math_bits_deBruijn32tab), ("math/bits.deBruijn64tab", laid_math_bits_deBruijn64tab), ("internal/strconv.uint64pow10", laid_internal_strconv_uint64pow10)] }
def OperFaultsSaid : Prop := operFaultsRow.holds Tryz.pinned (OpenSpec.ofChange operFaultsSpec)

/-- ITS FALSE NEIGHBOUR: 'it returns false'. Refute it at one input. -/
def operFaultsWrong : ChangeSpec := { name := "operFaults", fn := fun _ => fun
  | [d1, d2, d3] => { results := [.lit (.bool false)], args := [d1, d2, d3] }
  | _ => none }
def OperFaultsWrongFalsely : Prop := operFaultsRow.holds Tryz.pinned (OpenSpec.ofChange operFaultsWrong)

/-- 'counterpanelaw10.OperPlaces': WHATEVER THE INPUT: true; the input reads as it did. -/
def operPlacesSpec : ChangeSpec := { name := "operPlaces", fn := fun _ => fun
  | [d1, d2, d3, d4, d5] => { results := [.lit (.bool true)], args := [d1, d2, d3, d4, d5] }
  | _ => none }
def operPlacesRow : OpenClaim := { program := "yteigcfflljoioaagreatdoor", sum := "e7de05991347f91ce0e25b99a591e874cc291ada4c81c7ea08577e2cf2b7e9fb", func := "counterpane/counterpanelaw10.OperPlaces", spec := "operPlaces", inPlace := ["internal/abi.NoEscape", "internal/bytealg.MakeNoZero", "internal/bytealg.abigen_runtime_cmpstring"], unfollowed := true, recurses := true, named := ["internal/strconv.uint64pow10", "math/bits.deBruijn32tab", "math/bits.deBruijn64tab", "math/bits.divideError", "math/bits.overflowError"], apart := false, laid := [("math/bits.deBruijn32tab", laid_math_bits_deBruijn32tab), ("math/bits.deBruijn64tab", laid_math_bits_deBruijn64tab), ("internal/strconv.uint64pow10", laid_internal_strconv_uint64pow10)] }
def OperPlacesSaid : Prop := operPlacesRow.holds Tryz.pinned (OpenSpec.ofChange operPlacesSpec)

/-- ITS FALSE NEIGHBOUR: 'it returns false'. Refute it at one input. -/
def operPlacesWrong : ChangeSpec := { name := "operPlaces", fn := fun _ => fun
  | [d1, d2, d3, d4, d5] => { results := [.lit (.bool false)], args := [d1, d2, d3, d4, d5] }
  | _ => none }
def OperPlacesWrongFalsely : Prop := operPlacesRow.holds Tryz.pinned (OpenSpec.ofChange operPlacesWrong)

/-- 'counterpanelaw10.OperTwo': WHATEVER THE INPUT: true; the input reads as it did. -/
def operTwoSpec : ChangeSpec := { name := "operTwo", fn := fun _ => fun
  | [d1, d2, d3] => { results := [.lit (.bool true)], args := [d1, d2, d3] }
  | _ => none }
def operTwoRow : OpenClaim := { program := "yteigcfflljoioaagreatdoor", sum := "e7de05991347f91ce0e25b99a591e874cc291ada4c81c7ea08577e2cf2b7e9fb", func := "counterpane/counterpanelaw10.OperTwo", spec := "operTwo", inPlace := ["internal/abi.NoEscape", "internal/bytealg.MakeNoZero", "internal/bytealg.abigen_runtime_cmpstring"], unfollowed := true, recurses := true, named := ["internal/strconv.uint64pow10", "math/bits.deBruijn32tab", "math/bits.deBruijn64tab", "math/bits.divideError", "math/bits.overflowError"], apart := false, laid := [("math/bits.deBruijn32tab", laid_math_bits_deBruijn32tab), ("math/bits.deBruijn64tab", laid_math_bits_deBruijn64tab), ("internal/strconv.uint64pow10", laid_internal_strconv_uint64pow10)] }
def OperTwoSaid : Prop := operTwoRow.holds Tryz.pinned (OpenSpec.ofChange operTwoSpec)

/-- ITS FALSE NEIGHBOUR: 'it returns false'. Refute it at one input. -/
def operTwoWrong : ChangeSpec := { name := "operTwo", fn := fun _ => fun
  | [d1, d2, d3] => { results := [.lit (.bool false)], args := [d1, d2, d3] }
  | _ => none }
def OperTwoWrongFalsely : Prop := operTwoRow.holds Tryz.pinned (OpenSpec.ofChange operTwoWrong)

/-- 'counterpanelaw10.OperOne': WHATEVER THE INPUT: true; the input reads as it did. -/
def operOneSpec : ChangeSpec := { name := "operOne", fn := fun _ => fun
  | [d1, d2] => { results := [.lit (.bool true)], args := [d1, d2] }
  | _ => none }
def operOneRow : OpenClaim := { program := "yteigcfflljoioaagreatdoor", sum := "e7de05991347f91ce0e25b99a591e874cc291ada4c81c7ea08577e2cf2b7e9fb", func := "counterpane/counterpanelaw10.OperOne", spec := "operOne", inPlace := ["internal/abi.NoEscape", "internal/bytealg.MakeNoZero", "internal/bytealg.abigen_runtime_cmpstring"], unfollowed := true, recurses := true, named := ["internal/strconv.uint64pow10", "math/bits.deBruijn32tab", "math/bits.deBruijn64tab", "math/bits.divideError", "math/bits.overflowError"], apart := false, laid := [("math/bits.deBruijn32tab", laid_math_bits_deBruijn32tab), ("math/bits.deBruijn64tab", laid_math_bits_deBruijn64tab), ("internal/strconv.uint64pow10", laid_internal_strconv_uint64pow10)] }
def OperOneSaid : Prop := operOneRow.holds Tryz.pinned (OpenSpec.ofChange operOneSpec)

/-- ITS FALSE NEIGHBOUR: 'it returns false'. Refute it at one input. -/
def operOneWrong : ChangeSpec := { name := "operOne", fn := fun _ => fun
  | [d1, d2] => { results := [.lit (.bool false)], args := [d1, d2] }
  | _ => none }
def OperOneWrongFalsely : Prop := operOneRow.holds Tryz.pinned (OpenSpec.ofChange operOneWrong)

/-- 'counterpanelaw10.OperBack': WHATEVER THE INPUT: true; the input reads as it did. -/
def operBackSpec : ChangeSpec := { name := "operBack", fn := fun _ => fun
  | [d1, d2] => { results := [.lit (.bool true)], args := [d1, d2] }
  | _ => none }
def operBackRow : OpenClaim := { program := "yteigcfflljoioaagreatdoor", sum := "e7de05991347f91ce0e25b99a591e874cc291ada4c81c7ea08577e2cf2b7e9fb", func := "counterpane/counterpanelaw10.OperBack", spec := "operBack", inPlace := ["internal/abi.NoEscape", "internal/bytealg.MakeNoZero", "internal/bytealg.abigen_runtime_cmpstring"], unfollowed := true, recurses := true, named := ["internal/strconv.uint64pow10", "math/bits.deBruijn32tab", "math/bits.deBruijn64tab", "math/bits.divideError", "math/bits.overflowError"], apart := false, laid := [("math/bits.deBruijn32tab", laid_math_bits_deBruijn32tab), ("math/bits.deBruijn64tab", laid_math_bits_deBruijn64tab), ("internal/strconv.uint64pow10", laid_internal_strconv_uint64pow10)] }
def OperBackSaid : Prop := operBackRow.holds Tryz.pinned (OpenSpec.ofChange operBackSpec)

/-- ITS FALSE NEIGHBOUR: 'it returns false'. Refute it at one input. -/
def operBackWrong : ChangeSpec := { name := "operBack", fn := fun _ => fun
  | [d1, d2] => { results := [.lit (.bool false)], args := [d1, d2] }
  | _ => none }
def OperBackWrongFalsely : Prop := operBackRow.holds Tryz.pinned (OpenSpec.ofChange operBackWrong)

/- THE SECOND FORM. 'bulk': how many values and letters a reading holds, each counted each time it is reached (what is shared counts as often as it is met; a slice's spare places count too). A statement '..UptoSaid' is the law's where the arguments, and the package variables that the reading takes, are together of bulk at most 1048576: NARROWER than '..Said'. Prove '..Said' where nothing that the law and all that it calls make is longer than what came in: it says more and counts as full. Else prove '..UptoSaid'. A law counts once. -/
mutual
def uptoBulk {H : Type} : DataW H → Nat
  | .lit (.string bytes) => bytes.length + 1
  | .lit _ => 1
  | .nil => 1
  | .ptr d => uptoBulk d + 1
  | .slice elems spare => uptoBulkAll elems + uptoBulkAll spare + 1
  | .agg parts => uptoBulkAll parts + 1
  | .iface _ d => uptoBulk d + 1
  | .map entries => uptoBulkEntries entries + 1
  | .held _ => 1
def uptoBulkAll {H : Type} : List (DataW H) → Nat
  | [] => 0
  | d :: r => uptoBulk d + uptoBulkAll r
def uptoBulkEntries {H : Type} : List (Lit × DataW H) → Nat
  | [] => 0
  | x :: r => uptoBulkEntry x + uptoBulkEntries r
def uptoBulkEntry {H : Type} : Lit × DataW H → Nat
  | (.string bytes, d) => bytes.length + uptoBulk d + 1
  | (_, d) => uptoBulk d + 1
 end
def uptoSmall : (H : Type) → List (DataW H) → Bool := fun _ ds => decide (uptoBulkAll ds ≤ 1048576)
def OpenSpec.upto (s : _root_.Go.ChangeSpec) : _root_.Go.OpenSpec := { _root_.Go.OpenSpec.ofChange s with cond := some uptoSmall }

/-- 'counterpanelaw14.FlookSorted', WHERE WHAT IT READS IS OF BULK AT MOST 1048576: true; the input reads as it did. -/
def flookSortedUptoRow : OpenClaim := { program := "yteigcfflljoioaagreatdoor", sum := "e7de05991347f91ce0e25b99a591e874cc291ada4c81c7ea08577e2cf2b7e9fb", func := "counterpane/counterpanelaw14.FlookSorted", spec := "flookSorted", inPlace := ["internal/bytealg.abigen_runtime_cmpstring"], unfollowed := true, recurses := true, named := ["internal/strconv.uint64pow10", "math/bits.deBruijn32tab", "math/bits.deBruijn64tab"], apart := false, laid := [("math/bits.deBruijn32tab", laid_math_bits_deBruijn32tab), ("math/bits.deBruijn64tab", laid_math_bits_deBruijn64tab), ("internal/strconv.uint64pow10", laid_internal_strconv_uint64pow10)], narrowed := true }
def FlookSortedUptoSaid : Prop := flookSortedUptoRow.holds Tryz.pinned (OpenSpec.upto flookSortedSpec)

/-- 'counterpanelaw14.FlookBack', WHERE WHAT IT READS IS OF BULK AT MOST 1048576: true; the input reads as it did. -/
def flookBackUptoRow : OpenClaim := { program := "yteigcfflljoioaagreatdoor", sum := "e7de05991347f91ce0e25b99a591e874cc291ada4c81c7ea08577e2cf2b7e9fb", func := "counterpane/counterpanelaw14.FlookBack", spec := "flookBack", inPlace := ["internal/bytealg.abigen_runtime_cmpstring"], unfollowed := true, recurses := true, named := ["internal/strconv.uint64pow10", "math/bits.deBruijn32tab", "math/bits.deBruijn64tab"], apart := false, laid := [("math/bits.deBruijn32tab", laid_math_bits_deBruijn32tab), ("math/bits.deBruijn64tab", laid_math_bits_deBruijn64tab), ("internal/strconv.uint64pow10", laid_internal_strconv_uint64pow10)], narrowed := true }
def FlookBackUptoSaid : Prop := flookBackUptoRow.holds Tryz.pinned (OpenSpec.upto flookBackSpec)

/-- 'counterpanelaw10.OperOrder', WHERE WHAT IT READS IS OF BULK AT MOST 1048576: true; the input reads as it did. -/
def operOrderUptoRow : OpenClaim := { program := "yteigcfflljoioaagreatdoor", sum := "e7de05991347f91ce0e25b99a591e874cc291ada4c81c7ea08577e2cf2b7e9fb", func := "counterpane/counterpanelaw10.OperOrder", spec := "operOrder", inPlace := ["internal/abi.NoEscape", "internal/bytealg.MakeNoZero", "internal/bytealg.abigen_runtime_cmpstring"], unfollowed := true, recurses := true, named := ["internal/strconv.uint64pow10", "math/bits.deBruijn32tab", "math/bits.deBruijn64tab", "math/bits.divideError", "math/bits.overflowError"], apart := false, laid := [("math/bits.deBruijn32tab", laid_math_bits_deBruijn32tab), ("math/bits.deBruijn64tab", laid_math_bits_deBruijn64tab), ("internal/strconv.uint64pow10", laid_internal_strconv_uint64pow10)], narrowed := true }
def OperOrderUptoSaid : Prop := operOrderUptoRow.holds Tryz.pinned (OpenSpec.upto operOrderSpec)

/-- 'counterpanelaw10.OperFaults', WHERE WHAT IT READS IS OF BULK AT MOST 1048576: true; the input reads as it did. -/
def operFaultsUptoRow : OpenClaim := { program := "yteigcfflljoioaagreatdoor", sum := "e7de05991347f91ce0e25b99a591e874cc291ada4c81c7ea08577e2cf2b7e9fb", func := "counterpane/counterpanelaw10.OperFaults", spec := "operFaults", inPlace := ["internal/abi.NoEscape", "internal/bytealg.MakeNoZero", "internal/bytealg.abigen_runtime_cmpstring"], unfollowed := true, recurses := true, named := ["internal/strconv.uint64pow10", "math/bits.deBruijn32tab", "math/bits.deBruijn64tab", "math/bits.divideError", "math/bits.overflowError"], apart := false, laid := [("math/bits.deBruijn32tab", laid_math_bits_deBruijn32tab), ("math/bits.deBruijn64tab", laid_math_bits_deBruijn64tab), ("internal/strconv.uint64pow10", laid_internal_strconv_uint64pow10)], narrowed := true }
def OperFaultsUptoSaid : Prop := operFaultsUptoRow.holds Tryz.pinned (OpenSpec.upto operFaultsSpec)

/-- 'counterpanelaw10.OperPlaces', WHERE WHAT IT READS IS OF BULK AT MOST 1048576: true; the input reads as it did. -/
def operPlacesUptoRow : OpenClaim := { program := "yteigcfflljoioaagreatdoor", sum := "e7de05991347f91ce0e25b99a591e874cc291ada4c81c7ea08577e2cf2b7e9fb", func := "counterpane/counterpanelaw10.OperPlaces", spec := "operPlaces", inPlace := ["internal/abi.NoEscape", "internal/bytealg.MakeNoZero", "internal/bytealg.abigen_runtime_cmpstring"], unfollowed := true, recurses := true, named := ["internal/strconv.uint64pow10", "math/bits.deBruijn32tab", "math/bits.deBruijn64tab", "math/bits.divideError", "math/bits.overflowError"], apart := false, laid := [("math/bits.deBruijn32tab", laid_math_bits_deBruijn32tab), ("math/bits.deBruijn64tab", laid_math_bits_deBruijn64tab), ("internal/strconv.uint64pow10", laid_internal_strconv_uint64pow10)], narrowed := true }
def OperPlacesUptoSaid : Prop := operPlacesUptoRow.holds Tryz.pinned (OpenSpec.upto operPlacesSpec)

/-- 'counterpanelaw10.OperTwo', WHERE WHAT IT READS IS OF BULK AT MOST 1048576: true; the input reads as it did. -/
def operTwoUptoRow : OpenClaim := { program := "yteigcfflljoioaagreatdoor", sum := "e7de05991347f91ce0e25b99a591e874cc291ada4c81c7ea08577e2cf2b7e9fb", func := "counterpane/counterpanelaw10.OperTwo", spec := "operTwo", inPlace := ["internal/abi.NoEscape", "internal/bytealg.MakeNoZero", "internal/bytealg.abigen_runtime_cmpstring"], unfollowed := true, recurses := true, named := ["internal/strconv.uint64pow10", "math/bits.deBruijn32tab", "math/bits.deBruijn64tab", "math/bits.divideError", "math/bits.overflowError"], apart := false, laid := [("math/bits.deBruijn32tab", laid_math_bits_deBruijn32tab), ("math/bits.deBruijn64tab", laid_math_bits_deBruijn64tab), ("internal/strconv.uint64pow10", laid_internal_strconv_uint64pow10)], narrowed := true }
def OperTwoUptoSaid : Prop := operTwoUptoRow.holds Tryz.pinned (OpenSpec.upto operTwoSpec)

/-- 'counterpanelaw10.OperOne', WHERE WHAT IT READS IS OF BULK AT MOST 1048576: true; the input reads as it did. -/
def operOneUptoRow : OpenClaim := { program := "yteigcfflljoioaagreatdoor", sum := "e7de05991347f91ce0e25b99a591e874cc291ada4c81c7ea08577e2cf2b7e9fb", func := "counterpane/counterpanelaw10.OperOne", spec := "operOne", inPlace := ["internal/abi.NoEscape", "internal/bytealg.MakeNoZero", "internal/bytealg.abigen_runtime_cmpstring"], unfollowed := true, recurses := true, named := ["internal/strconv.uint64pow10", "math/bits.deBruijn32tab", "math/bits.deBruijn64tab", "math/bits.divideError", "math/bits.overflowError"], apart := false, laid := [("math/bits.deBruijn32tab", laid_math_bits_deBruijn32tab), ("math/bits.deBruijn64tab", laid_math_bits_deBruijn64tab), ("internal/strconv.uint64pow10", laid_internal_strconv_uint64pow10)], narrowed := true }
def OperOneUptoSaid : Prop := operOneUptoRow.holds Tryz.pinned (OpenSpec.upto operOneSpec)

/-- 'counterpanelaw10.OperBack', WHERE WHAT IT READS IS OF BULK AT MOST 1048576: true; the input reads as it did. -/
def operBackUptoRow : OpenClaim := { program := "yteigcfflljoioaagreatdoor", sum := "e7de05991347f91ce0e25b99a591e874cc291ada4c81c7ea08577e2cf2b7e9fb", func := "counterpane/counterpanelaw10.OperBack", spec := "operBack", inPlace := ["internal/abi.NoEscape", "internal/bytealg.MakeNoZero", "internal/bytealg.abigen_runtime_cmpstring"], unfollowed := true, recurses := true, named := ["internal/strconv.uint64pow10", "math/bits.deBruijn32tab", "math/bits.deBruijn64tab", "math/bits.divideError", "math/bits.overflowError"], apart := false, laid := [("math/bits.deBruijn32tab", laid_math_bits_deBruijn32tab), ("math/bits.deBruijn64tab", laid_math_bits_deBruijn64tab), ("internal/strconv.uint64pow10", laid_internal_strconv_uint64pow10)], narrowed := true }
def OperBackUptoSaid : Prop := operBackUptoRow.holds Tryz.pinned (OpenSpec.upto operBackSpec)

end Rows
end Go.Proofs.YteigcfflljoioaaGreatDoor
