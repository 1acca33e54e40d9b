/- What the rows' proofs lean on: the contracts of the functions that they reach, and plain facts (part O2). -/
import Derived.WalkKit
import Derived.WalkLawsBesides
import Derived.WalkSpells
import Derived.Outline
import Derived.Below
import Derived.Deep.RegionHeld3
import Derived.Deep.DeepCutAuto
import Derived.Deep.AppendLies
import Derived.Maps.AppendAt
import Derived.Lib.Hide
import Derived.OrdersHeld
import Derived.Test.YtmjmijjbijlhfaaGreatDoorProg
import Derived.Shelf.Small.Bits
import Derived.Shelf.Small.Strs
import Derived.Shelf.Strconv.Itoa0
import Derived.Shelf.Strconv.Itoa1
import Derived.Shelf.LaysM
import Derived.Shelf.Strconv.Itoa2
import Derived.Shelf.Bits.Mul64
import Derived.Ground.SlgmProg
import Derived.Shelf.SortM.Plain
import Derived.Shelf.SortM.SortNone
import Derived.Lib.ItoaMem
import Derived.Lib.OthersKept
import Derived.Deep.CutBlock
import Derived.Laws.Bits64b
import Derived.Lib.AppendZeros
import Derived.Lib.Bytealg
import Derived.Laws.RangeAny
import Derived.Maps.OwnSet
import Derived.Maps.Own
import Derived.Laws.EntriesVeiled
import Derived.Lib.ConvBytes
import Derived.Lib.SlBytesRow
import Derived.Lib.SmallJoins
import Derived.RegionTactic
import Derived.Sort.OwnSortedInts
import Derived.Shelf.SlIter.Nil
import Derived.Ground.GgzProg
import Derived.Test.YtmjmijjbijlhfaaGreatDoorRows
import Derived.Test.YtmjmijjbijlhfaaGreatDoorCards
import Derived.Test.YtmjmijjbijlhfaaGreatDoorTie
import Derived.ProofKit
import Derived.LaidMore
import Derived.OpenShut
import Derived.ShutString
import Derived.ChangeOld
import Derived.Stop.Joined
import Derived.Deep.Slices
import Derived.SevenTiedAt
import Derived.Laws.MakeOwn
import Derived.Test.YtmjmijjbijlhfaaGreatDoorO1
set_option linter.unusedSimpArgs false
set_option linter.unusedVariables false
set_option maxRecDepth 100000
namespace Go.Proofs.YtmjmijjbijlhfaaGreatDoor
open Go.ChangeShapes Go.WideShapes Go.ChangeAt Go.RowKit Go.Deep
set_option maxRecDepth 100000
section
variable {H : Type} {enc : TypeId × Value → H} {w : World} {base : Nat} {spare : Nat → Bool} {held : Bool}
theorem open_bool {r : Reach} {b0 : Nat} {v : Value} {d : DataW H} {p : List MemPlace} (hv : Value.okWide Tryz.prog w r b0 4 v) (_h : DataW.Trod enc Tryz.prog w base spare held 4 v d p) : ∃ b : Bool, v = .bool b := by
  obtain ⟨b, rfl⟩ := okWide_bool Tryz.underlying4 hv
  exact ⟨b, rfl⟩
end
end Go.Proofs.YtmjmijjbijlhfaaGreatDoor
