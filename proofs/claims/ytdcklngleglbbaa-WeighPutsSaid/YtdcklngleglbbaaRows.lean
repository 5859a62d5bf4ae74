/-
  NARROWER THAN 'FOR EVERY INPUT', by the rows' own cells (each row's printed sentence says how): PlaceDoes: loops · PlaceWithin: loops · PlacePut: loops · TermCopy: loops · TermCompares: loops · TermOrder: loops · TermParts: loops · WeighParts: loops · PlaceAll: loops · WeighPuts: loops.
  DERIVED. THE GIVEN ROWS OF THIS SEAT. 12 by the template 'for every input the law returns true; each argument reads behind the call as it read before'; 0 by the template 'total and deterministic' (their statements: YtdcklngleglbbaaTotals.lean).
  GIVEN WITH THE SEED: the statements are not yours to turn. If you find one false, say at which input.
  Laid BY PROGRAM, IN A SANDBOX (cutbox-rows.mjs): the forced cells as the released guide's own fill.sh prints them over the translation ec17174c2440b2b1… (all of the seat's roots in one cut). By AI agents, Wed Nov 11 2026. No macro, syntax, notation, axiom, sorry.
-/
import Derived.Test.YtdcklngleglbbaaChecked
import GoSem.Claim
import GoSem.ClaimJoined
import GoSem.ClaimMapViews
import Derived.JoinedTies
import Derived.KernelRfl
namespace Go.Proofs.Ytdcklngleglbbaa
/- THE CELL 'sum', in the pinned program and in every row, IS THE sha256 OF THE DUMP (.gsa) THAT YtdcklngleglbbaaProg.lean LOADS. Nothing in Lean hashes anything: it is a label: what it is worth is what the hold of that sum in a sandbox is worth. -/
noncomputable def Try.pinned : Pinned := { name := "ytdcklngleglbbaa", sum := "ec17174c2440b2b19569c8810489653f180ecab89c1673027dca29bd0707de6b", checked := Try.checked }
namespace Rows
def none {H : Type} : Left H := { results := [], args := [] }

/-- 'elenchuslaw02.PlaceDoes': WHATEVER THE INPUT: true; the input reads as it did. -/
def placeDoesSpec : ChangeSpec := { name := "placeDoes", fn := fun _ => fun
  | [d1, d2, d3] => { results := [.lit (.bool true)], args := [d1, d2, d3] }
  | _ => none }
def placeDoesRow : OpenClaim := { program := "ytdcklngleglbbaa", sum := "ec17174c2440b2b19569c8810489653f180ecab89c1673027dca29bd0707de6b", func := "elenchus/elenchuslaw02.PlaceDoes", spec := "placeDoes", unfollowed := true, recurses := true, loops := true, apart := false }
def PlaceDoesSaid : Prop := placeDoesRow.holds Try.pinned (OpenSpec.ofChange placeDoesSpec)

/-- ITS FALSE NEIGHBOUR: 'it returns false'. Refute it at one input. -/
def placeDoesWrong : ChangeSpec := { name := "placeDoes", fn := fun _ => fun
  | [d1, d2, d3] => { results := [.lit (.bool false)], args := [d1, d2, d3] }
  | _ => none }
def PlaceDoesWrongFalsely : Prop := placeDoesRow.holds Try.pinned (OpenSpec.ofChange placeDoesWrong)

/-- 'elenchuslaw02.PlaceWithin': WHATEVER THE INPUT: true; the input reads as it did. -/
def placeWithinSpec : ChangeSpec := { name := "placeWithin", fn := fun _ => fun
  | [d1, d2, d3, d4] => { results := [.lit (.bool true)], args := [d1, d2, d3, d4] }
  | _ => none }
def placeWithinRow : OpenClaim := { program := "ytdcklngleglbbaa", sum := "ec17174c2440b2b19569c8810489653f180ecab89c1673027dca29bd0707de6b", func := "elenchus/elenchuslaw02.PlaceWithin", spec := "placeWithin", unfollowed := true, recurses := true, loops := true, apart := false }
def PlaceWithinSaid : Prop := placeWithinRow.holds Try.pinned (OpenSpec.ofChange placeWithinSpec)

/-- ITS FALSE NEIGHBOUR: 'it returns false'. Refute it at one input. -/
def placeWithinWrong : ChangeSpec := { name := "placeWithin", fn := fun _ => fun
  | [d1, d2, d3, d4] => { results := [.lit (.bool false)], args := [d1, d2, d3, d4] }
  | _ => none }
def PlaceWithinWrongFalsely : Prop := placeWithinRow.holds Try.pinned (OpenSpec.ofChange placeWithinWrong)

/-- 'elenchuslaw02.PlaceUnder': WHATEVER THE INPUT: true; the input reads as it did. -/
def placeUnderSpec : ChangeSpec := { name := "placeUnder", fn := fun _ => fun
  | [d1, d2, d3] => { results := [.lit (.bool true)], args := [d1, d2, d3] }
  | _ => none }
def placeUnderRow : OpenClaim := { program := "ytdcklngleglbbaa", sum := "ec17174c2440b2b19569c8810489653f180ecab89c1673027dca29bd0707de6b", func := "elenchus/elenchuslaw02.PlaceUnder", spec := "placeUnder", unfollowed := true, recurses := true, apart := false }
def PlaceUnderSaid : Prop := placeUnderRow.holds Try.pinned (OpenSpec.ofChange placeUnderSpec)

/-- ITS FALSE NEIGHBOUR: 'it returns false'. Refute it at one input. -/
def placeUnderWrong : ChangeSpec := { name := "placeUnder", fn := fun _ => fun
  | [d1, d2, d3] => { results := [.lit (.bool false)], args := [d1, d2, d3] }
  | _ => none }
def PlaceUnderWrongFalsely : Prop := placeUnderRow.holds Try.pinned (OpenSpec.ofChange placeUnderWrong)

/-- 'elenchuslaw02.PlacePut': WHATEVER THE INPUT: true; the input reads as it did. -/
def placePutSpec : ChangeSpec := { name := "placePut", fn := fun _ => fun
  | [d1, d2, d3, d4] => { results := [.lit (.bool true)], args := [d1, d2, d3, d4] }
  | _ => none }
def placePutRow : OpenClaim := { program := "ytdcklngleglbbaa", sum := "ec17174c2440b2b19569c8810489653f180ecab89c1673027dca29bd0707de6b", func := "elenchus/elenchuslaw02.PlacePut", spec := "placePut", unfollowed := true, recurses := true, loops := true, apart := false }
def PlacePutSaid : Prop := placePutRow.holds Try.pinned (OpenSpec.ofChange placePutSpec)

/-- ITS FALSE NEIGHBOUR: 'it returns false'. Refute it at one input. -/
def placePutWrong : ChangeSpec := { name := "placePut", fn := fun _ => fun
  | [d1, d2, d3, d4] => { results := [.lit (.bool false)], args := [d1, d2, d3, d4] }
  | _ => none }
def PlacePutWrongFalsely : Prop := placePutRow.holds Try.pinned (OpenSpec.ofChange placePutWrong)

/-- 'elenchuslaw01.TermCopy': WHATEVER THE INPUT: true; the input reads as it did. -/
def termCopySpec : ChangeSpec := { name := "termCopy", fn := fun _ => fun
  | [d] => { results := [.lit (.bool true)], args := [d] }
  | _ => none }
def termCopyRow : OpenClaim := { program := "ytdcklngleglbbaa", sum := "ec17174c2440b2b19569c8810489653f180ecab89c1673027dca29bd0707de6b", func := "elenchus/elenchuslaw01.TermCopy", spec := "termCopy", unfollowed := true, recurses := true, loops := true, apart := false }
def TermCopySaid : Prop := termCopyRow.holds Try.pinned (OpenSpec.ofChange termCopySpec)

/-- ITS FALSE NEIGHBOUR: 'it returns false'. Refute it at one input. -/
def termCopyWrong : ChangeSpec := { name := "termCopy", fn := fun _ => fun
  | [d] => { results := [.lit (.bool false)], args := [d] }
  | _ => none }
def TermCopyWrongFalsely : Prop := termCopyRow.holds Try.pinned (OpenSpec.ofChange termCopyWrong)

/-- 'elenchuslaw07.WeighNames': WHATEVER THE INPUT: true; the input reads as it did. -/
def weighNamesSpec : ChangeSpec := { name := "weighNames", fn := fun _ => fun
  | [d1, d2] => { results := [.lit (.bool true)], args := [d1, d2] }
  | _ => none }
def weighNamesRow : OpenClaim := { program := "ytdcklngleglbbaa", sum := "ec17174c2440b2b19569c8810489653f180ecab89c1673027dca29bd0707de6b", func := "elenchus/elenchuslaw07.WeighNames", spec := "weighNames", unfollowed := true, recurses := true, apart := false }
def WeighNamesSaid : Prop := weighNamesRow.holds Try.pinned (OpenSpec.ofChange weighNamesSpec)

/-- ITS FALSE NEIGHBOUR: 'it returns false'. Refute it at one input. -/
def weighNamesWrong : ChangeSpec := { name := "weighNames", fn := fun _ => fun
  | [d1, d2] => { results := [.lit (.bool false)], args := [d1, d2] }
  | _ => none }
def WeighNamesWrongFalsely : Prop := weighNamesRow.holds Try.pinned (OpenSpec.ofChange weighNamesWrong)

/-- 'elenchuslaw01.TermCompares': WHATEVER THE INPUT: true; the input reads as it did. -/
def termComparesSpec : ChangeSpec := { name := "termCompares", fn := fun _ => fun
  | [d1, d2] => { results := [.lit (.bool true)], args := [d1, d2] }
  | _ => none }
def termComparesRow : OpenClaim := { program := "ytdcklngleglbbaa", sum := "ec17174c2440b2b19569c8810489653f180ecab89c1673027dca29bd0707de6b", func := "elenchus/elenchuslaw01.TermCompares", spec := "termCompares", unfollowed := true, recurses := true, loops := true, apart := false }
def TermComparesSaid : Prop := termComparesRow.holds Try.pinned (OpenSpec.ofChange termComparesSpec)

/-- ITS FALSE NEIGHBOUR: 'it returns false'. Refute it at one input. -/
def termComparesWrong : ChangeSpec := { name := "termCompares", fn := fun _ => fun
  | [d1, d2] => { results := [.lit (.bool false)], args := [d1, d2] }
  | _ => none }
def TermComparesWrongFalsely : Prop := termComparesRow.holds Try.pinned (OpenSpec.ofChange termComparesWrong)

/-- 'elenchuslaw01.TermOrder': WHATEVER THE INPUT: true; the input reads as it did. -/
def termOrderSpec : ChangeSpec := { name := "termOrder", fn := fun _ => fun
  | [d1, d2, d3] => { results := [.lit (.bool true)], args := [d1, d2, d3] }
  | _ => none }
def termOrderRow : OpenClaim := { program := "ytdcklngleglbbaa", sum := "ec17174c2440b2b19569c8810489653f180ecab89c1673027dca29bd0707de6b", func := "elenchus/elenchuslaw01.TermOrder", spec := "termOrder", unfollowed := true, recurses := true, loops := true, apart := false }
def TermOrderSaid : Prop := termOrderRow.holds Try.pinned (OpenSpec.ofChange termOrderSpec)

/-- ITS FALSE NEIGHBOUR: 'it returns false'. Refute it at one input. -/
def termOrderWrong : ChangeSpec := { name := "termOrder", fn := fun _ => fun
  | [d1, d2, d3] => { results := [.lit (.bool false)], args := [d1, d2, d3] }
  | _ => none }
def TermOrderWrongFalsely : Prop := termOrderRow.holds Try.pinned (OpenSpec.ofChange termOrderWrong)

/-- 'elenchuslaw01.TermParts': WHATEVER THE INPUT: true; the input reads as it did. -/
def termPartsSpec : ChangeSpec := { name := "termParts", fn := fun _ => fun
  | [d1, d2] => { results := [.lit (.bool true)], args := [d1, d2] }
  | _ => none }
def termPartsRow : OpenClaim := { program := "ytdcklngleglbbaa", sum := "ec17174c2440b2b19569c8810489653f180ecab89c1673027dca29bd0707de6b", func := "elenchus/elenchuslaw01.TermParts", spec := "termParts", unfollowed := true, recurses := true, loops := true, apart := false }
def TermPartsSaid : Prop := termPartsRow.holds Try.pinned (OpenSpec.ofChange termPartsSpec)

/-- ITS FALSE NEIGHBOUR: 'it returns false'. Refute it at one input. -/
def termPartsWrong : ChangeSpec := { name := "termParts", fn := fun _ => fun
  | [d1, d2] => { results := [.lit (.bool false)], args := [d1, d2] }
  | _ => none }
def TermPartsWrongFalsely : Prop := termPartsRow.holds Try.pinned (OpenSpec.ofChange termPartsWrong)

/-- 'elenchuslaw07.WeighParts': WHATEVER THE INPUT: true; the input reads as it did. -/
def weighPartsSpec : ChangeSpec := { name := "weighParts", fn := fun _ => fun
  | [d1, d2, d3] => { results := [.lit (.bool true)], args := [d1, d2, d3] }
  | _ => none }
def weighPartsRow : OpenClaim := { program := "ytdcklngleglbbaa", sum := "ec17174c2440b2b19569c8810489653f180ecab89c1673027dca29bd0707de6b", func := "elenchus/elenchuslaw07.WeighParts", spec := "weighParts", unfollowed := true, recurses := true, loops := true, apart := false }
def WeighPartsSaid : Prop := weighPartsRow.holds Try.pinned (OpenSpec.ofChange weighPartsSpec)

/-- ITS FALSE NEIGHBOUR: 'it returns false'. Refute it at one input. -/
def weighPartsWrong : ChangeSpec := { name := "weighParts", fn := fun _ => fun
  | [d1, d2, d3] => { results := [.lit (.bool false)], args := [d1, d2, d3] }
  | _ => none }
def WeighPartsWrongFalsely : Prop := weighPartsRow.holds Try.pinned (OpenSpec.ofChange weighPartsWrong)

/-- 'elenchuslaw02.PlaceAll': WHATEVER THE INPUT: true; the input reads as it did. -/
def placeAllSpec : ChangeSpec := { name := "placeAll", fn := fun _ => fun
  | [d] => { results := [.lit (.bool true)], args := [d] }
  | _ => none }
def placeAllRow : OpenClaim := { program := "ytdcklngleglbbaa", sum := "ec17174c2440b2b19569c8810489653f180ecab89c1673027dca29bd0707de6b", func := "elenchus/elenchuslaw02.PlaceAll", spec := "placeAll", unfollowed := true, recurses := true, loops := true, apart := false }
def PlaceAllSaid : Prop := placeAllRow.holds Try.pinned (OpenSpec.ofChange placeAllSpec)

/-- ITS FALSE NEIGHBOUR: 'it returns false'. Refute it at one input. -/
def placeAllWrong : ChangeSpec := { name := "placeAll", fn := fun _ => fun
  | [d] => { results := [.lit (.bool false)], args := [d] }
  | _ => none }
def PlaceAllWrongFalsely : Prop := placeAllRow.holds Try.pinned (OpenSpec.ofChange placeAllWrong)

/-- 'elenchuslaw07.WeighPuts': WHATEVER THE INPUT: true; the input reads as it did. -/
def weighPutsSpec : ChangeSpec := { name := "weighPuts", fn := fun _ => fun
  | [d1, d2, d3] => { results := [.lit (.bool true)], args := [d1, d2, d3] }
  | _ => none }
def weighPutsRow : OpenClaim := { program := "ytdcklngleglbbaa", sum := "ec17174c2440b2b19569c8810489653f180ecab89c1673027dca29bd0707de6b", func := "elenchus/elenchuslaw07.WeighPuts", spec := "weighPuts", unfollowed := true, recurses := true, loops := true, apart := false }
def WeighPutsSaid : Prop := weighPutsRow.holds Try.pinned (OpenSpec.ofChange weighPutsSpec)

/-- ITS FALSE NEIGHBOUR: 'it returns false'. Refute it at one input. -/
def weighPutsWrong : ChangeSpec := { name := "weighPuts", fn := fun _ => fun
  | [d1, d2, d3] => { results := [.lit (.bool false)], args := [d1, d2, d3] }
  | _ => none }
def WeighPutsWrongFalsely : Prop := weighPutsRow.holds Try.pinned (OpenSpec.ofChange weighPutsWrong)

/- THE SECOND FORM. 'bulk': how many values and letters a reading holds, each counted each time it is reached (what is shared counts as often as it is met; a slice's spare places count too). A statement '..UptoSaid' is the law's where the arguments, and the package variables that the reading takes, are together of bulk at most 1048576: NARROWER than '..Said'. Prove '..Said' where nothing that the law and all that it calls make is longer than what came in: it says more and counts as full. Else prove '..UptoSaid'. A law counts once. -/
mutual
def uptoBulk {H : Type} : DataW H → Nat
  | .lit (.string bytes) => bytes.length + 1
  | .lit _ => 1
  | .nil => 1
  | .ptr d => uptoBulk d + 1
  | .slice elems spare => uptoBulkAll elems + uptoBulkAll spare + 1
  | .agg parts => uptoBulkAll parts + 1
  | .iface _ d => uptoBulk d + 1
  | .map entries => uptoBulkEntries entries + 1
  | .held _ => 1
def uptoBulkAll {H : Type} : List (DataW H) → Nat
  | [] => 0
  | d :: r => uptoBulk d + uptoBulkAll r
def uptoBulkEntries {H : Type} : List (Lit × DataW H) → Nat
  | [] => 0
  | x :: r => uptoBulkEntry x + uptoBulkEntries r
def uptoBulkEntry {H : Type} : Lit × DataW H → Nat
  | (.string bytes, d) => bytes.length + uptoBulk d + 1
  | (_, d) => uptoBulk d + 1
 end
def uptoSmall : (H : Type) → List (DataW H) → Bool := fun _ ds => decide (uptoBulkAll ds ≤ 1048576)
def OpenSpec.upto (s : _root_.Go.ChangeSpec) : _root_.Go.OpenSpec := { _root_.Go.OpenSpec.ofChange s with cond := some uptoSmall }

/-- 'elenchuslaw02.PlaceDoes', WHERE WHAT IT READS IS OF BULK AT MOST 1048576: true; the input reads as it did. -/
def placeDoesUptoRow : OpenClaim := { program := "ytdcklngleglbbaa", sum := "ec17174c2440b2b19569c8810489653f180ecab89c1673027dca29bd0707de6b", func := "elenchus/elenchuslaw02.PlaceDoes", spec := "placeDoes", unfollowed := true, recurses := true, loops := true, apart := false, narrowed := true }
def PlaceDoesUptoSaid : Prop := placeDoesUptoRow.holds Try.pinned (OpenSpec.upto placeDoesSpec)

/-- 'elenchuslaw02.PlaceWithin', WHERE WHAT IT READS IS OF BULK AT MOST 1048576: true; the input reads as it did. -/
def placeWithinUptoRow : OpenClaim := { program := "ytdcklngleglbbaa", sum := "ec17174c2440b2b19569c8810489653f180ecab89c1673027dca29bd0707de6b", func := "elenchus/elenchuslaw02.PlaceWithin", spec := "placeWithin", unfollowed := true, recurses := true, loops := true, apart := false, narrowed := true }
def PlaceWithinUptoSaid : Prop := placeWithinUptoRow.holds Try.pinned (OpenSpec.upto placeWithinSpec)

/-- 'elenchuslaw02.PlaceUnder', WHERE WHAT IT READS IS OF BULK AT MOST 1048576: true; the input reads as it did. -/
def placeUnderUptoRow : OpenClaim := { program := "ytdcklngleglbbaa", sum := "ec17174c2440b2b19569c8810489653f180ecab89c1673027dca29bd0707de6b", func := "elenchus/elenchuslaw02.PlaceUnder", spec := "placeUnder", unfollowed := true, recurses := true, apart := false, narrowed := true }
def PlaceUnderUptoSaid : Prop := placeUnderUptoRow.holds Try.pinned (OpenSpec.upto placeUnderSpec)

/-- 'elenchuslaw02.PlacePut', WHERE WHAT IT READS IS OF BULK AT MOST 1048576: true; the input reads as it did. -/
def placePutUptoRow : OpenClaim := { program := "ytdcklngleglbbaa", sum := "ec17174c2440b2b19569c8810489653f180ecab89c1673027dca29bd0707de6b", func := "elenchus/elenchuslaw02.PlacePut", spec := "placePut", unfollowed := true, recurses := true, loops := true, apart := false, narrowed := true }
def PlacePutUptoSaid : Prop := placePutUptoRow.holds Try.pinned (OpenSpec.upto placePutSpec)

/-- 'elenchuslaw01.TermCopy', WHERE WHAT IT READS IS OF BULK AT MOST 1048576: true; the input reads as it did. -/
def termCopyUptoRow : OpenClaim := { program := "ytdcklngleglbbaa", sum := "ec17174c2440b2b19569c8810489653f180ecab89c1673027dca29bd0707de6b", func := "elenchus/elenchuslaw01.TermCopy", spec := "termCopy", unfollowed := true, recurses := true, loops := true, apart := false, narrowed := true }
def TermCopyUptoSaid : Prop := termCopyUptoRow.holds Try.pinned (OpenSpec.upto termCopySpec)

/-- 'elenchuslaw07.WeighNames', WHERE WHAT IT READS IS OF BULK AT MOST 1048576: true; the input reads as it did. -/
def weighNamesUptoRow : OpenClaim := { program := "ytdcklngleglbbaa", sum := "ec17174c2440b2b19569c8810489653f180ecab89c1673027dca29bd0707de6b", func := "elenchus/elenchuslaw07.WeighNames", spec := "weighNames", unfollowed := true, recurses := true, apart := false, narrowed := true }
def WeighNamesUptoSaid : Prop := weighNamesUptoRow.holds Try.pinned (OpenSpec.upto weighNamesSpec)

/-- 'elenchuslaw01.TermCompares', WHERE WHAT IT READS IS OF BULK AT MOST 1048576: true; the input reads as it did. -/
def termComparesUptoRow : OpenClaim := { program := "ytdcklngleglbbaa", sum := "ec17174c2440b2b19569c8810489653f180ecab89c1673027dca29bd0707de6b", func := "elenchus/elenchuslaw01.TermCompares", spec := "termCompares", unfollowed := true, recurses := true, loops := true, apart := false, narrowed := true }
def TermComparesUptoSaid : Prop := termComparesUptoRow.holds Try.pinned (OpenSpec.upto termComparesSpec)

/-- 'elenchuslaw01.TermOrder', WHERE WHAT IT READS IS OF BULK AT MOST 1048576: true; the input reads as it did. -/
def termOrderUptoRow : OpenClaim := { program := "ytdcklngleglbbaa", sum := "ec17174c2440b2b19569c8810489653f180ecab89c1673027dca29bd0707de6b", func := "elenchus/elenchuslaw01.TermOrder", spec := "termOrder", unfollowed := true, recurses := true, loops := true, apart := false, narrowed := true }
def TermOrderUptoSaid : Prop := termOrderUptoRow.holds Try.pinned (OpenSpec.upto termOrderSpec)

/-- 'elenchuslaw01.TermParts', WHERE WHAT IT READS IS OF BULK AT MOST 1048576: true; the input reads as it did. -/
def termPartsUptoRow : OpenClaim := { program := "ytdcklngleglbbaa", sum := "ec17174c2440b2b19569c8810489653f180ecab89c1673027dca29bd0707de6b", func := "elenchus/elenchuslaw01.TermParts", spec := "termParts", unfollowed := true, recurses := true, loops := true, apart := false, narrowed := true }
def TermPartsUptoSaid : Prop := termPartsUptoRow.holds Try.pinned (OpenSpec.upto termPartsSpec)

/-- 'elenchuslaw07.WeighParts', WHERE WHAT IT READS IS OF BULK AT MOST 1048576: true; the input reads as it did. -/
def weighPartsUptoRow : OpenClaim := { program := "ytdcklngleglbbaa", sum := "ec17174c2440b2b19569c8810489653f180ecab89c1673027dca29bd0707de6b", func := "elenchus/elenchuslaw07.WeighParts", spec := "weighParts", unfollowed := true, recurses := true, loops := true, apart := false, narrowed := true }
def WeighPartsUptoSaid : Prop := weighPartsUptoRow.holds Try.pinned (OpenSpec.upto weighPartsSpec)

/-- 'elenchuslaw02.PlaceAll', WHERE WHAT IT READS IS OF BULK AT MOST 1048576: true; the input reads as it did. -/
def placeAllUptoRow : OpenClaim := { program := "ytdcklngleglbbaa", sum := "ec17174c2440b2b19569c8810489653f180ecab89c1673027dca29bd0707de6b", func := "elenchus/elenchuslaw02.PlaceAll", spec := "placeAll", unfollowed := true, recurses := true, loops := true, apart := false, narrowed := true }
def PlaceAllUptoSaid : Prop := placeAllUptoRow.holds Try.pinned (OpenSpec.upto placeAllSpec)

/-- 'elenchuslaw07.WeighPuts', WHERE WHAT IT READS IS OF BULK AT MOST 1048576: true; the input reads as it did. -/
def weighPutsUptoRow : OpenClaim := { program := "ytdcklngleglbbaa", sum := "ec17174c2440b2b19569c8810489653f180ecab89c1673027dca29bd0707de6b", func := "elenchus/elenchuslaw07.WeighPuts", spec := "weighPuts", unfollowed := true, recurses := true, loops := true, apart := false, narrowed := true }
def WeighPutsUptoSaid : Prop := weighPutsUptoRow.holds Try.pinned (OpenSpec.upto weighPutsSpec)

end Rows
end Go.Proofs.Ytdcklngleglbbaa
