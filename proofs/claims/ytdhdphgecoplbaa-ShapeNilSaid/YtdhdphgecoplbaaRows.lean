/-
  No cell of these rows narrows 'for every input' (looked for: loops, veiled, ifaces, maps, wideKeys, modest, calm, conditions, laid).
  DERIVED. THE GIVEN ROWS OF THIS SEAT. 9 by the template 'for every input the law returns true; each argument reads behind the call as it read before'; 0 by the template 'total and deterministic' (their statements: YtdhdphgecoplbaaTotals.lean).
  GIVEN WITH THE SEED: the statements are not yours to turn. If you find one false, say at which input.
  Laid BY PROGRAM, IN A SANDBOX (cutbox-rows.mjs): the forced cells as the released guide's own fill.sh prints them over the translation c7ab1137fd51ecb1… (all of the seat's roots in one cut). By AI agents, Wed Nov 11 2026. No macro, syntax, notation, axiom, sorry.
-/
import Derived.Test.YtdhdphgecoplbaaChecked
import GoSem.Claim
import GoSem.ClaimJoined
import GoSem.ClaimMapViews
import Derived.JoinedTies
import Derived.KernelRfl
namespace Go.Proofs.Ytdhdphgecoplbaa
/- THE CELL 'sum', in the pinned program and in every row, IS THE sha256 OF THE DUMP (.gsa) THAT YtdhdphgecoplbaaProg.lean LOADS. Nothing in Lean hashes anything: it is a label: what it is worth is what the hold of that sum in a sandbox is worth. -/
noncomputable def Try.pinned : Pinned := { name := "ytdhdphgecoplbaa", sum := "c7ab1137fd51ecb1bc94181972aadc523434699ebf9e9399b3368ee1701949fd", checked := Try.checked }
namespace Rows
def none {H : Type} : Left H := { results := [], args := [] }

/-- 'counterpanelaw09.ShapeMakes': WHATEVER THE INPUT: true; the input reads as it did. -/
def shapeMakesSpec : ChangeSpec := { name := "shapeMakes", fn := fun _ => fun
  | [d1, d2, d3] => { results := [.lit (.bool true)], args := [d1, d2, d3] }
  | _ => none }
def shapeMakesRow : OpenClaim := { program := "ytdhdphgecoplbaa", sum := "c7ab1137fd51ecb1bc94181972aadc523434699ebf9e9399b3368ee1701949fd", func := "counterpane/counterpanelaw09.ShapeMakes", spec := "shapeMakes", unfollowed := true, recurses := true, apart := false }
def ShapeMakesSaid : Prop := shapeMakesRow.holds Try.pinned (OpenSpec.ofChange shapeMakesSpec)

/-- ITS FALSE NEIGHBOUR: 'it returns false'. Refute it at one input. -/
def shapeMakesWrong : ChangeSpec := { name := "shapeMakes", fn := fun _ => fun
  | [d1, d2, d3] => { results := [.lit (.bool false)], args := [d1, d2, d3] }
  | _ => none }
def ShapeMakesWrongFalsely : Prop := shapeMakesRow.holds Try.pinned (OpenSpec.ofChange shapeMakesWrong)

/-- 'counterpanelaw09.ShapeEach': WHATEVER THE INPUT: true; the input reads as it did. -/
def shapeEachSpec : ChangeSpec := { name := "shapeEach", fn := fun _ => fun
  | [d1, d2] => { results := [.lit (.bool true)], args := [d1, d2] }
  | _ => none }
def shapeEachRow : OpenClaim := { program := "ytdhdphgecoplbaa", sum := "c7ab1137fd51ecb1bc94181972aadc523434699ebf9e9399b3368ee1701949fd", func := "counterpane/counterpanelaw09.ShapeEach", spec := "shapeEach", unfollowed := true, recurses := true, apart := false }
def ShapeEachSaid : Prop := shapeEachRow.holds Try.pinned (OpenSpec.ofChange shapeEachSpec)

/-- ITS FALSE NEIGHBOUR: 'it returns false'. Refute it at one input. -/
def shapeEachWrong : ChangeSpec := { name := "shapeEach", fn := fun _ => fun
  | [d1, d2] => { results := [.lit (.bool false)], args := [d1, d2] }
  | _ => none }
def ShapeEachWrongFalsely : Prop := shapeEachRow.holds Try.pinned (OpenSpec.ofChange shapeEachWrong)

/-- 'counterpanelaw09.ShapePlaces': WHATEVER THE INPUT: true; the input reads as it did. -/
def shapePlacesSpec : ChangeSpec := { name := "shapePlaces", fn := fun _ => fun
  | [d1, d2, d3] => { results := [.lit (.bool true)], args := [d1, d2, d3] }
  | _ => none }
def shapePlacesRow : OpenClaim := { program := "ytdhdphgecoplbaa", sum := "c7ab1137fd51ecb1bc94181972aadc523434699ebf9e9399b3368ee1701949fd", func := "counterpane/counterpanelaw09.ShapePlaces", spec := "shapePlaces", unfollowed := true, recurses := true, apart := false }
def ShapePlacesSaid : Prop := shapePlacesRow.holds Try.pinned (OpenSpec.ofChange shapePlacesSpec)

/-- ITS FALSE NEIGHBOUR: 'it returns false'. Refute it at one input. -/
def shapePlacesWrong : ChangeSpec := { name := "shapePlaces", fn := fun _ => fun
  | [d1, d2, d3] => { results := [.lit (.bool false)], args := [d1, d2, d3] }
  | _ => none }
def ShapePlacesWrongFalsely : Prop := shapePlacesRow.holds Try.pinned (OpenSpec.ofChange shapePlacesWrong)

/-- 'counterpanelaw09.ShapeThree': WHATEVER THE INPUT: true; the input reads as it did. -/
def shapeThreeSpec : ChangeSpec := { name := "shapeThree", fn := fun _ => fun
  | [d1, d2, d3] => { results := [.lit (.bool true)], args := [d1, d2, d3] }
  | _ => none }
def shapeThreeRow : OpenClaim := { program := "ytdhdphgecoplbaa", sum := "c7ab1137fd51ecb1bc94181972aadc523434699ebf9e9399b3368ee1701949fd", func := "counterpane/counterpanelaw09.ShapeThree", spec := "shapeThree", unfollowed := true, recurses := true, apart := false }
def ShapeThreeSaid : Prop := shapeThreeRow.holds Try.pinned (OpenSpec.ofChange shapeThreeSpec)

/-- ITS FALSE NEIGHBOUR: 'it returns false'. Refute it at one input. -/
def shapeThreeWrong : ChangeSpec := { name := "shapeThree", fn := fun _ => fun
  | [d1, d2, d3] => { results := [.lit (.bool false)], args := [d1, d2, d3] }
  | _ => none }
def ShapeThreeWrongFalsely : Prop := shapeThreeRow.holds Try.pinned (OpenSpec.ofChange shapeThreeWrong)

/-- 'counterpanelaw09.ShapeParts': WHATEVER THE INPUT: true; the input reads as it did. -/
def shapePartsSpec : ChangeSpec := { name := "shapeParts", fn := fun _ => fun
  | [d1, d2] => { results := [.lit (.bool true)], args := [d1, d2] }
  | _ => none }
def shapePartsRow : OpenClaim := { program := "ytdhdphgecoplbaa", sum := "c7ab1137fd51ecb1bc94181972aadc523434699ebf9e9399b3368ee1701949fd", func := "counterpane/counterpanelaw09.ShapeParts", spec := "shapeParts", unfollowed := true, recurses := true, apart := false }
def ShapePartsSaid : Prop := shapePartsRow.holds Try.pinned (OpenSpec.ofChange shapePartsSpec)

/-- ITS FALSE NEIGHBOUR: 'it returns false'. Refute it at one input. -/
def shapePartsWrong : ChangeSpec := { name := "shapeParts", fn := fun _ => fun
  | [d1, d2] => { results := [.lit (.bool false)], args := [d1, d2] }
  | _ => none }
def ShapePartsWrongFalsely : Prop := shapePartsRow.holds Try.pinned (OpenSpec.ofChange shapePartsWrong)

/-- 'counterpanelaw09.ShapeJoins': WHATEVER THE INPUT: true; the input reads as it did. -/
def shapeJoinsSpec : ChangeSpec := { name := "shapeJoins", fn := fun _ => fun
  | [d1, d2] => { results := [.lit (.bool true)], args := [d1, d2] }
  | _ => none }
def shapeJoinsRow : OpenClaim := { program := "ytdhdphgecoplbaa", sum := "c7ab1137fd51ecb1bc94181972aadc523434699ebf9e9399b3368ee1701949fd", func := "counterpane/counterpanelaw09.ShapeJoins", spec := "shapeJoins", unfollowed := true, recurses := true, apart := false }
def ShapeJoinsSaid : Prop := shapeJoinsRow.holds Try.pinned (OpenSpec.ofChange shapeJoinsSpec)

/-- ITS FALSE NEIGHBOUR: 'it returns false'. Refute it at one input. -/
def shapeJoinsWrong : ChangeSpec := { name := "shapeJoins", fn := fun _ => fun
  | [d1, d2] => { results := [.lit (.bool false)], args := [d1, d2] }
  | _ => none }
def ShapeJoinsWrongFalsely : Prop := shapeJoinsRow.holds Try.pinned (OpenSpec.ofChange shapeJoinsWrong)

/-- 'counterpanelaw09.ShapeBoth': WHATEVER THE INPUT: true; the input reads as it did. -/
def shapeBothSpec : ChangeSpec := { name := "shapeBoth", fn := fun _ => fun
  | [d1, d2, d3] => { results := [.lit (.bool true)], args := [d1, d2, d3] }
  | _ => none }
def shapeBothRow : OpenClaim := { program := "ytdhdphgecoplbaa", sum := "c7ab1137fd51ecb1bc94181972aadc523434699ebf9e9399b3368ee1701949fd", func := "counterpane/counterpanelaw09.ShapeBoth", spec := "shapeBoth", unfollowed := true, recurses := true, apart := false }
def ShapeBothSaid : Prop := shapeBothRow.holds Try.pinned (OpenSpec.ofChange shapeBothSpec)

/-- ITS FALSE NEIGHBOUR: 'it returns false'. Refute it at one input. -/
def shapeBothWrong : ChangeSpec := { name := "shapeBoth", fn := fun _ => fun
  | [d1, d2, d3] => { results := [.lit (.bool false)], args := [d1, d2, d3] }
  | _ => none }
def ShapeBothWrongFalsely : Prop := shapeBothRow.holds Try.pinned (OpenSpec.ofChange shapeBothWrong)

/-- 'counterpanelaw09.ShapeSwaps': WHATEVER THE INPUT: true; the input reads as it did. -/
def shapeSwapsSpec : ChangeSpec := { name := "shapeSwaps", fn := fun _ => fun
  | [d1, d2, d3] => { results := [.lit (.bool true)], args := [d1, d2, d3] }
  | _ => none }
def shapeSwapsRow : OpenClaim := { program := "ytdhdphgecoplbaa", sum := "c7ab1137fd51ecb1bc94181972aadc523434699ebf9e9399b3368ee1701949fd", func := "counterpane/counterpanelaw09.ShapeSwaps", spec := "shapeSwaps", unfollowed := true, recurses := true, apart := false }
def ShapeSwapsSaid : Prop := shapeSwapsRow.holds Try.pinned (OpenSpec.ofChange shapeSwapsSpec)

/-- ITS FALSE NEIGHBOUR: 'it returns false'. Refute it at one input. -/
def shapeSwapsWrong : ChangeSpec := { name := "shapeSwaps", fn := fun _ => fun
  | [d1, d2, d3] => { results := [.lit (.bool false)], args := [d1, d2, d3] }
  | _ => none }
def ShapeSwapsWrongFalsely : Prop := shapeSwapsRow.holds Try.pinned (OpenSpec.ofChange shapeSwapsWrong)

/-- 'counterpanelaw09.ShapeNil': WHATEVER THE INPUT: true; the input reads as it did. -/
def shapeNilSpec : ChangeSpec := { name := "shapeNil", fn := fun _ => fun
  | [d1, d2] => { results := [.lit (.bool true)], args := [d1, d2] }
  | _ => none }
def shapeNilRow : OpenClaim := { program := "ytdhdphgecoplbaa", sum := "c7ab1137fd51ecb1bc94181972aadc523434699ebf9e9399b3368ee1701949fd", func := "counterpane/counterpanelaw09.ShapeNil", spec := "shapeNil", unfollowed := true, recurses := true, apart := false }
def ShapeNilSaid : Prop := shapeNilRow.holds Try.pinned (OpenSpec.ofChange shapeNilSpec)

/-- ITS FALSE NEIGHBOUR: 'it returns false'. Refute it at one input. -/
def shapeNilWrong : ChangeSpec := { name := "shapeNil", fn := fun _ => fun
  | [d1, d2] => { results := [.lit (.bool false)], args := [d1, d2] }
  | _ => none }
def ShapeNilWrongFalsely : Prop := shapeNilRow.holds Try.pinned (OpenSpec.ofChange shapeNilWrong)

/- THE SECOND FORM. 'bulk': how many values and letters a reading holds, each counted each time it is reached (what is shared counts as often as it is met; a slice's spare places count too). A statement '..UptoSaid' is the law's where the arguments, and the package variables that the reading takes, are together of bulk at most 1048576: NARROWER than '..Said'. Prove '..Said' where nothing that the law and all that it calls make is longer than what came in: it says more and counts as full. Else prove '..UptoSaid'. A law counts once. -/
mutual
def uptoBulk {H : Type} : DataW H → Nat
  | .lit (.string bytes) => bytes.length + 1
  | .lit _ => 1
  | .nil => 1
  | .ptr d => uptoBulk d + 1
  | .slice elems spare => uptoBulkAll elems + uptoBulkAll spare + 1
  | .agg parts => uptoBulkAll parts + 1
  | .iface _ d => uptoBulk d + 1
  | .map entries => uptoBulkEntries entries + 1
  | .held _ => 1
def uptoBulkAll {H : Type} : List (DataW H) → Nat
  | [] => 0
  | d :: r => uptoBulk d + uptoBulkAll r
def uptoBulkEntries {H : Type} : List (Lit × DataW H) → Nat
  | [] => 0
  | x :: r => uptoBulkEntry x + uptoBulkEntries r
def uptoBulkEntry {H : Type} : Lit × DataW H → Nat
  | (.string bytes, d) => bytes.length + uptoBulk d + 1
  | (_, d) => uptoBulk d + 1
 end
def uptoSmall : (H : Type) → List (DataW H) → Bool := fun _ ds => decide (uptoBulkAll ds ≤ 1048576)
def OpenSpec.upto (s : _root_.Go.ChangeSpec) : _root_.Go.OpenSpec := { _root_.Go.OpenSpec.ofChange s with cond := some uptoSmall }

/-- 'counterpanelaw09.ShapeMakes', WHERE WHAT IT READS IS OF BULK AT MOST 1048576: true; the input reads as it did. -/
def shapeMakesUptoRow : OpenClaim := { program := "ytdhdphgecoplbaa", sum := "c7ab1137fd51ecb1bc94181972aadc523434699ebf9e9399b3368ee1701949fd", func := "counterpane/counterpanelaw09.ShapeMakes", spec := "shapeMakes", unfollowed := true, recurses := true, apart := false, narrowed := true }
def ShapeMakesUptoSaid : Prop := shapeMakesUptoRow.holds Try.pinned (OpenSpec.upto shapeMakesSpec)

/-- 'counterpanelaw09.ShapeEach', WHERE WHAT IT READS IS OF BULK AT MOST 1048576: true; the input reads as it did. -/
def shapeEachUptoRow : OpenClaim := { program := "ytdhdphgecoplbaa", sum := "c7ab1137fd51ecb1bc94181972aadc523434699ebf9e9399b3368ee1701949fd", func := "counterpane/counterpanelaw09.ShapeEach", spec := "shapeEach", unfollowed := true, recurses := true, apart := false, narrowed := true }
def ShapeEachUptoSaid : Prop := shapeEachUptoRow.holds Try.pinned (OpenSpec.upto shapeEachSpec)

/-- 'counterpanelaw09.ShapePlaces', WHERE WHAT IT READS IS OF BULK AT MOST 1048576: true; the input reads as it did. -/
def shapePlacesUptoRow : OpenClaim := { program := "ytdhdphgecoplbaa", sum := "c7ab1137fd51ecb1bc94181972aadc523434699ebf9e9399b3368ee1701949fd", func := "counterpane/counterpanelaw09.ShapePlaces", spec := "shapePlaces", unfollowed := true, recurses := true, apart := false, narrowed := true }
def ShapePlacesUptoSaid : Prop := shapePlacesUptoRow.holds Try.pinned (OpenSpec.upto shapePlacesSpec)

/-- 'counterpanelaw09.ShapeThree', WHERE WHAT IT READS IS OF BULK AT MOST 1048576: true; the input reads as it did. -/
def shapeThreeUptoRow : OpenClaim := { program := "ytdhdphgecoplbaa", sum := "c7ab1137fd51ecb1bc94181972aadc523434699ebf9e9399b3368ee1701949fd", func := "counterpane/counterpanelaw09.ShapeThree", spec := "shapeThree", unfollowed := true, recurses := true, apart := false, narrowed := true }
def ShapeThreeUptoSaid : Prop := shapeThreeUptoRow.holds Try.pinned (OpenSpec.upto shapeThreeSpec)

/-- 'counterpanelaw09.ShapeParts', WHERE WHAT IT READS IS OF BULK AT MOST 1048576: true; the input reads as it did. -/
def shapePartsUptoRow : OpenClaim := { program := "ytdhdphgecoplbaa", sum := "c7ab1137fd51ecb1bc94181972aadc523434699ebf9e9399b3368ee1701949fd", func := "counterpane/counterpanelaw09.ShapeParts", spec := "shapeParts", unfollowed := true, recurses := true, apart := false, narrowed := true }
def ShapePartsUptoSaid : Prop := shapePartsUptoRow.holds Try.pinned (OpenSpec.upto shapePartsSpec)

/-- 'counterpanelaw09.ShapeJoins', WHERE WHAT IT READS IS OF BULK AT MOST 1048576: true; the input reads as it did. -/
def shapeJoinsUptoRow : OpenClaim := { program := "ytdhdphgecoplbaa", sum := "c7ab1137fd51ecb1bc94181972aadc523434699ebf9e9399b3368ee1701949fd", func := "counterpane/counterpanelaw09.ShapeJoins", spec := "shapeJoins", unfollowed := true, recurses := true, apart := false, narrowed := true }
def ShapeJoinsUptoSaid : Prop := shapeJoinsUptoRow.holds Try.pinned (OpenSpec.upto shapeJoinsSpec)

/-- 'counterpanelaw09.ShapeBoth', WHERE WHAT IT READS IS OF BULK AT MOST 1048576: true; the input reads as it did. -/
def shapeBothUptoRow : OpenClaim := { program := "ytdhdphgecoplbaa", sum := "c7ab1137fd51ecb1bc94181972aadc523434699ebf9e9399b3368ee1701949fd", func := "counterpane/counterpanelaw09.ShapeBoth", spec := "shapeBoth", unfollowed := true, recurses := true, apart := false, narrowed := true }
def ShapeBothUptoSaid : Prop := shapeBothUptoRow.holds Try.pinned (OpenSpec.upto shapeBothSpec)

/-- 'counterpanelaw09.ShapeSwaps', WHERE WHAT IT READS IS OF BULK AT MOST 1048576: true; the input reads as it did. -/
def shapeSwapsUptoRow : OpenClaim := { program := "ytdhdphgecoplbaa", sum := "c7ab1137fd51ecb1bc94181972aadc523434699ebf9e9399b3368ee1701949fd", func := "counterpane/counterpanelaw09.ShapeSwaps", spec := "shapeSwaps", unfollowed := true, recurses := true, apart := false, narrowed := true }
def ShapeSwapsUptoSaid : Prop := shapeSwapsUptoRow.holds Try.pinned (OpenSpec.upto shapeSwapsSpec)

/-- 'counterpanelaw09.ShapeNil', WHERE WHAT IT READS IS OF BULK AT MOST 1048576: true; the input reads as it did. -/
def shapeNilUptoRow : OpenClaim := { program := "ytdhdphgecoplbaa", sum := "c7ab1137fd51ecb1bc94181972aadc523434699ebf9e9399b3368ee1701949fd", func := "counterpane/counterpanelaw09.ShapeNil", spec := "shapeNil", unfollowed := true, recurses := true, apart := false, narrowed := true }
def ShapeNilUptoSaid : Prop := shapeNilUptoRow.holds Try.pinned (OpenSpec.upto shapeNilSpec)

end Rows
end Go.Proofs.Ytdhdphgecoplbaa
