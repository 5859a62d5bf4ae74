/-
  NARROWER THAN 'FOR EVERY INPUT', by the rows' own cells (each row's printed sentence says how): StoreOnce: loops · StoreNil: loops.
  DERIVED. THE GIVEN ROWS OF THIS SEAT. 7 by the template 'for every input the law returns true; each argument reads behind the call as it read before'; 0 by the template 'total and deterministic' (their statements: YthbcdffldcdfoaaTotals.lean).
  GIVEN WITH THE SEED: the statements are not yours to turn. If you find one false, say at which input.
  Laid BY PROGRAM, IN A SANDBOX (cutbox-rows.mjs): the forced cells as the released guide's own fill.sh prints them over the translation 3cc51fa06ac8e58f… (all of the seat's roots in one cut). By AI agents, Wed Nov 11 2026. No macro, syntax, notation, axiom, sorry.
-/
import Derived.Test.YthbcdffldcdfoaaChecked
import GoSem.Claim
import GoSem.ClaimJoined
import GoSem.ClaimMapViews
import Derived.JoinedTies
import Derived.KernelRfl
namespace Go.Proofs.Ythbcdffldcdfoaa
/- THE CELL 'sum', in the pinned program and in every row, IS THE sha256 OF THE DUMP (.gsa) THAT YthbcdffldcdfoaaProg.lean LOADS. Nothing in Lean hashes anything: it is a label: what it is worth is what the hold of that sum in a sandbox is worth. -/
noncomputable def Try.pinned : Pinned := { name := "ythbcdffldcdfoaa", sum := "3cc51fa06ac8e58ffbcec67a09ec0e98eec9c0cc416638ada22eb36ce256ae86", checked := Try.checked }
namespace Rows
def none {H : Type} : Left H := { results := [], args := [] }

/-- 'elenchuslaw19.StoreOnce': WHATEVER THE INPUT: true; the input reads as it did. -/
def storeOnceSpec : ChangeSpec := { name := "storeOnce", fn := fun _ => fun
  | [d] => { results := [.lit (.bool true)], args := [d] }
  | _ => none }
def storeOnceRow : OpenClaim := { program := "ythbcdffldcdfoaa", sum := "3cc51fa06ac8e58ffbcec67a09ec0e98eec9c0cc416638ada22eb36ce256ae86", func := "elenchus/elenchuslaw19.StoreOnce", spec := "storeOnce", unfollowed := true, recurses := true, loops := true, apart := false }
def StoreOnceSaid : Prop := storeOnceRow.holds Try.pinned (OpenSpec.ofChange storeOnceSpec)

/-- ITS FALSE NEIGHBOUR: 'it returns false'. Refute it at one input. -/
def storeOnceWrong : ChangeSpec := { name := "storeOnce", fn := fun _ => fun
  | [d] => { results := [.lit (.bool false)], args := [d] }
  | _ => none }
def StoreOnceWrongFalsely : Prop := storeOnceRow.holds Try.pinned (OpenSpec.ofChange storeOnceWrong)

/-- 'elenchuslaw19.StoreNil': WHATEVER THE INPUT: true; the input reads as it did. -/
def storeNilSpec : ChangeSpec := { name := "storeNil", fn := fun _ => fun
  | [d1, d2, d3] => { results := [.lit (.bool true)], args := [d1, d2, d3] }
  | _ => none }
def storeNilRow : OpenClaim := { program := "ythbcdffldcdfoaa", sum := "3cc51fa06ac8e58ffbcec67a09ec0e98eec9c0cc416638ada22eb36ce256ae86", func := "elenchus/elenchuslaw19.StoreNil", spec := "storeNil", unfollowed := true, recurses := true, loops := true, apart := false }
def StoreNilSaid : Prop := storeNilRow.holds Try.pinned (OpenSpec.ofChange storeNilSpec)

/-- ITS FALSE NEIGHBOUR: 'it returns false'. Refute it at one input. -/
def storeNilWrong : ChangeSpec := { name := "storeNil", fn := fun _ => fun
  | [d1, d2, d3] => { results := [.lit (.bool false)], args := [d1, d2, d3] }
  | _ => none }
def StoreNilWrongFalsely : Prop := storeNilRow.holds Try.pinned (OpenSpec.ofChange storeNilWrong)

/-- 'elenchuslaw18.HeapDoes': WHATEVER THE INPUT: true; the input reads as it did. -/
def heapDoesSpec : ChangeSpec := { name := "heapDoes", fn := fun _ => fun
  | [d] => { results := [.lit (.bool true)], args := [d] }
  | _ => none }
def heapDoesRow : OpenClaim := { program := "ythbcdffldcdfoaa", sum := "3cc51fa06ac8e58ffbcec67a09ec0e98eec9c0cc416638ada22eb36ce256ae86", func := "elenchus/elenchuslaw18.HeapDoes", spec := "heapDoes", apart := false }
def HeapDoesSaid : Prop := heapDoesRow.holds Try.pinned (OpenSpec.ofChange heapDoesSpec)

/-- ITS FALSE NEIGHBOUR: 'it returns false'. Refute it at one input. -/
def heapDoesWrong : ChangeSpec := { name := "heapDoes", fn := fun _ => fun
  | [d] => { results := [.lit (.bool false)], args := [d] }
  | _ => none }
def HeapDoesWrongFalsely : Prop := heapDoesRow.holds Try.pinned (OpenSpec.ofChange heapDoesWrong)

/-- 'elenchuslaw18.HeapQueues': WHATEVER THE INPUT: true; the input reads as it did. -/
def heapQueuesSpec : ChangeSpec := { name := "heapQueues", fn := fun _ => fun
  | [d1, d2, d3] => { results := [.lit (.bool true)], args := [d1, d2, d3] }
  | _ => none }
def heapQueuesRow : OpenClaim := { program := "ythbcdffldcdfoaa", sum := "3cc51fa06ac8e58ffbcec67a09ec0e98eec9c0cc416638ada22eb36ce256ae86", func := "elenchus/elenchuslaw18.HeapQueues", spec := "heapQueues", apart := false }
def HeapQueuesSaid : Prop := heapQueuesRow.holds Try.pinned (OpenSpec.ofChange heapQueuesSpec)

/-- ITS FALSE NEIGHBOUR: 'it returns false'. Refute it at one input. -/
def heapQueuesWrong : ChangeSpec := { name := "heapQueues", fn := fun _ => fun
  | [d1, d2, d3] => { results := [.lit (.bool false)], args := [d1, d2, d3] }
  | _ => none }
def HeapQueuesWrongFalsely : Prop := heapQueuesRow.holds Try.pinned (OpenSpec.ofChange heapQueuesWrong)

/-- 'elenchuslaw18.HeapRises': WHATEVER THE INPUT: true; the input reads as it did. -/
def heapRisesSpec : ChangeSpec := { name := "heapRises", fn := fun _ => fun
  | [d] => { results := [.lit (.bool true)], args := [d] }
  | _ => none }
def heapRisesRow : OpenClaim := { program := "ythbcdffldcdfoaa", sum := "3cc51fa06ac8e58ffbcec67a09ec0e98eec9c0cc416638ada22eb36ce256ae86", func := "elenchus/elenchuslaw18.HeapRises", spec := "heapRises", apart := false }
def HeapRisesSaid : Prop := heapRisesRow.holds Try.pinned (OpenSpec.ofChange heapRisesSpec)

/-- ITS FALSE NEIGHBOUR: 'it returns false'. Refute it at one input. -/
def heapRisesWrong : ChangeSpec := { name := "heapRises", fn := fun _ => fun
  | [d] => { results := [.lit (.bool false)], args := [d] }
  | _ => none }
def HeapRisesWrongFalsely : Prop := heapRisesRow.holds Try.pinned (OpenSpec.ofChange heapRisesWrong)

/-- 'elenchuslaw18.HeapAges': WHATEVER THE INPUT: true; the input reads as it did. -/
def heapAgesSpec : ChangeSpec := { name := "heapAges", fn := fun _ => fun
  | [d1, d2, d3] => { results := [.lit (.bool true)], args := [d1, d2, d3] }
  | _ => none }
def heapAgesRow : OpenClaim := { program := "ythbcdffldcdfoaa", sum := "3cc51fa06ac8e58ffbcec67a09ec0e98eec9c0cc416638ada22eb36ce256ae86", func := "elenchus/elenchuslaw18.HeapAges", spec := "heapAges", apart := false }
def HeapAgesSaid : Prop := heapAgesRow.holds Try.pinned (OpenSpec.ofChange heapAgesSpec)

/-- ITS FALSE NEIGHBOUR: 'it returns false'. Refute it at one input. -/
def heapAgesWrong : ChangeSpec := { name := "heapAges", fn := fun _ => fun
  | [d1, d2, d3] => { results := [.lit (.bool false)], args := [d1, d2, d3] }
  | _ => none }
def HeapAgesWrongFalsely : Prop := heapAgesRow.holds Try.pinned (OpenSpec.ofChange heapAgesWrong)

/-- 'elenchuslaw18.HeapNil': WHATEVER THE INPUT: true; the input reads as it did. -/
def heapNilSpec : ChangeSpec := { name := "heapNil", fn := fun _ => fun
  | [d] => { results := [.lit (.bool true)], args := [d] }
  | _ => none }
def heapNilRow : OpenClaim := { program := "ythbcdffldcdfoaa", sum := "3cc51fa06ac8e58ffbcec67a09ec0e98eec9c0cc416638ada22eb36ce256ae86", func := "elenchus/elenchuslaw18.HeapNil", spec := "heapNil", apart := false }
def HeapNilSaid : Prop := heapNilRow.holds Try.pinned (OpenSpec.ofChange heapNilSpec)

/-- ITS FALSE NEIGHBOUR: 'it returns false'. Refute it at one input. -/
def heapNilWrong : ChangeSpec := { name := "heapNil", fn := fun _ => fun
  | [d] => { results := [.lit (.bool false)], args := [d] }
  | _ => none }
def HeapNilWrongFalsely : Prop := heapNilRow.holds Try.pinned (OpenSpec.ofChange heapNilWrong)

/- THE SECOND FORM. 'bulk': how many values and letters a reading holds, each counted each time it is reached (what is shared counts as often as it is met; a slice's spare places count too). A statement '..UptoSaid' is the law's where the arguments, and the package variables that the reading takes, are together of bulk at most 1048576: NARROWER than '..Said'. Prove '..Said' where nothing that the law and all that it calls make is longer than what came in: it says more and counts as full. Else prove '..UptoSaid'. A law counts once. -/
mutual
def uptoBulk {H : Type} : DataW H → Nat
  | .lit (.string bytes) => bytes.length + 1
  | .lit _ => 1
  | .nil => 1
  | .ptr d => uptoBulk d + 1
  | .slice elems spare => uptoBulkAll elems + uptoBulkAll spare + 1
  | .agg parts => uptoBulkAll parts + 1
  | .iface _ d => uptoBulk d + 1
  | .map entries => uptoBulkEntries entries + 1
  | .held _ => 1
def uptoBulkAll {H : Type} : List (DataW H) → Nat
  | [] => 0
  | d :: r => uptoBulk d + uptoBulkAll r
def uptoBulkEntries {H : Type} : List (Lit × DataW H) → Nat
  | [] => 0
  | x :: r => uptoBulkEntry x + uptoBulkEntries r
def uptoBulkEntry {H : Type} : Lit × DataW H → Nat
  | (.string bytes, d) => bytes.length + uptoBulk d + 1
  | (_, d) => uptoBulk d + 1
 end
def uptoSmall : (H : Type) → List (DataW H) → Bool := fun _ ds => decide (uptoBulkAll ds ≤ 1048576)
def OpenSpec.upto (s : _root_.Go.ChangeSpec) : _root_.Go.OpenSpec := { _root_.Go.OpenSpec.ofChange s with cond := some uptoSmall }

/-- 'elenchuslaw19.StoreOnce', WHERE WHAT IT READS IS OF BULK AT MOST 1048576: true; the input reads as it did. -/
def storeOnceUptoRow : OpenClaim := { program := "ythbcdffldcdfoaa", sum := "3cc51fa06ac8e58ffbcec67a09ec0e98eec9c0cc416638ada22eb36ce256ae86", func := "elenchus/elenchuslaw19.StoreOnce", spec := "storeOnce", unfollowed := true, recurses := true, loops := true, apart := false, narrowed := true }
def StoreOnceUptoSaid : Prop := storeOnceUptoRow.holds Try.pinned (OpenSpec.upto storeOnceSpec)

/-- 'elenchuslaw19.StoreNil', WHERE WHAT IT READS IS OF BULK AT MOST 1048576: true; the input reads as it did. -/
def storeNilUptoRow : OpenClaim := { program := "ythbcdffldcdfoaa", sum := "3cc51fa06ac8e58ffbcec67a09ec0e98eec9c0cc416638ada22eb36ce256ae86", func := "elenchus/elenchuslaw19.StoreNil", spec := "storeNil", unfollowed := true, recurses := true, loops := true, apart := false, narrowed := true }
def StoreNilUptoSaid : Prop := storeNilUptoRow.holds Try.pinned (OpenSpec.upto storeNilSpec)

/-- 'elenchuslaw18.HeapDoes', WHERE WHAT IT READS IS OF BULK AT MOST 1048576: true; the input reads as it did. -/
def heapDoesUptoRow : OpenClaim := { program := "ythbcdffldcdfoaa", sum := "3cc51fa06ac8e58ffbcec67a09ec0e98eec9c0cc416638ada22eb36ce256ae86", func := "elenchus/elenchuslaw18.HeapDoes", spec := "heapDoes", apart := false, narrowed := true }
def HeapDoesUptoSaid : Prop := heapDoesUptoRow.holds Try.pinned (OpenSpec.upto heapDoesSpec)

/-- 'elenchuslaw18.HeapQueues', WHERE WHAT IT READS IS OF BULK AT MOST 1048576: true; the input reads as it did. -/
def heapQueuesUptoRow : OpenClaim := { program := "ythbcdffldcdfoaa", sum := "3cc51fa06ac8e58ffbcec67a09ec0e98eec9c0cc416638ada22eb36ce256ae86", func := "elenchus/elenchuslaw18.HeapQueues", spec := "heapQueues", apart := false, narrowed := true }
def HeapQueuesUptoSaid : Prop := heapQueuesUptoRow.holds Try.pinned (OpenSpec.upto heapQueuesSpec)

/-- 'elenchuslaw18.HeapRises', WHERE WHAT IT READS IS OF BULK AT MOST 1048576: true; the input reads as it did. -/
def heapRisesUptoRow : OpenClaim := { program := "ythbcdffldcdfoaa", sum := "3cc51fa06ac8e58ffbcec67a09ec0e98eec9c0cc416638ada22eb36ce256ae86", func := "elenchus/elenchuslaw18.HeapRises", spec := "heapRises", apart := false, narrowed := true }
def HeapRisesUptoSaid : Prop := heapRisesUptoRow.holds Try.pinned (OpenSpec.upto heapRisesSpec)

/-- 'elenchuslaw18.HeapAges', WHERE WHAT IT READS IS OF BULK AT MOST 1048576: true; the input reads as it did. -/
def heapAgesUptoRow : OpenClaim := { program := "ythbcdffldcdfoaa", sum := "3cc51fa06ac8e58ffbcec67a09ec0e98eec9c0cc416638ada22eb36ce256ae86", func := "elenchus/elenchuslaw18.HeapAges", spec := "heapAges", apart := false, narrowed := true }
def HeapAgesUptoSaid : Prop := heapAgesUptoRow.holds Try.pinned (OpenSpec.upto heapAgesSpec)

/-- 'elenchuslaw18.HeapNil', WHERE WHAT IT READS IS OF BULK AT MOST 1048576: true; the input reads as it did. -/
def heapNilUptoRow : OpenClaim := { program := "ythbcdffldcdfoaa", sum := "3cc51fa06ac8e58ffbcec67a09ec0e98eec9c0cc416638ada22eb36ce256ae86", func := "elenchus/elenchuslaw18.HeapNil", spec := "heapNil", apart := false, narrowed := true }
def HeapNilUptoSaid : Prop := heapNilUptoRow.holds Try.pinned (OpenSpec.upto heapNilSpec)

end Rows
end Go.Proofs.Ythbcdffldcdfoaa
