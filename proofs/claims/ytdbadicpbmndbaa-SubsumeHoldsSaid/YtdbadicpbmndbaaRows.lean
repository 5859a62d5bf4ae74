/-
  NARROWER THAN 'FOR EVERY INPUT', by the rows' own cells (each row's printed sentence says how): SubsumeHolds: loops · SubsumeOn: loops · SubsumeTells: loops · ClauseTidy: loops · SubsumePuts: loops · ClauseGround: loops · MaximSome: loops · MaximPuts: loops · MaximSelects: loops · ClauseOrder: loops.
  DERIVED. THE GIVEN ROWS OF THIS SEAT. 10 by the template 'for every input the law returns true; each argument reads behind the call as it read before'; 0 by the template 'total and deterministic' (their statements: YtdbadicpbmndbaaTotals.lean).
  GIVEN WITH THE SEED: the statements are not yours to turn. If you find one false, say at which input.
  Laid BY PROGRAM, IN A SANDBOX (cutbox-rows.mjs): the forced cells as the released guide's own fill.sh prints them over the translation 58fd7f571113a5c0… (all of the seat's roots in one cut). By AI agents, Wed Nov 11 2026. No macro, syntax, notation, axiom, sorry.
-/
import Derived.Test.YtdbadicpbmndbaaChecked
import GoSem.Claim
import GoSem.ClaimJoined
import GoSem.ClaimMapViews
import Derived.JoinedTies
import Derived.KernelRfl
namespace Go.Proofs.Ytdbadicpbmndbaa
/- THE CELL 'sum', in the pinned program and in every row, IS THE sha256 OF THE DUMP (.gsa) THAT YtdbadicpbmndbaaProg.lean LOADS. Nothing in Lean hashes anything: it is a label: what it is worth is what the hold of that sum in a sandbox is worth. -/
noncomputable def Try.pinned : Pinned := { name := "ytdbadicpbmndbaa", sum := "58fd7f571113a5c02b368792cdd873e953b4fb40f12bd53f0a2adce508540916", checked := Try.checked }
namespace Rows
def none {H : Type} : Left H := { results := [], args := [] }

/-- 'elenchuslaw15.SubsumeHolds': WHATEVER THE INPUT: true; the input reads as it did. -/
def subsumeHoldsSpec : ChangeSpec := { name := "subsumeHolds", fn := fun _ => fun
  | [d1, d2, d3, d4] => { results := [.lit (.bool true)], args := [d1, d2, d3, d4] }
  | _ => none }
def subsumeHoldsRow : OpenClaim := { program := "ytdbadicpbmndbaa", sum := "58fd7f571113a5c02b368792cdd873e953b4fb40f12bd53f0a2adce508540916", func := "elenchus/elenchuslaw15.SubsumeHolds", spec := "subsumeHolds", inPlace := ["maps.clone"], unfollowed := true, recurses := true, loops := true, apart := false }
def SubsumeHoldsSaid : Prop := subsumeHoldsRow.holds Try.pinned (OpenSpec.ofChange subsumeHoldsSpec)

/-- ITS FALSE NEIGHBOUR: 'it returns false'. Refute it at one input. -/
def subsumeHoldsWrong : ChangeSpec := { name := "subsumeHolds", fn := fun _ => fun
  | [d1, d2, d3, d4] => { results := [.lit (.bool false)], args := [d1, d2, d3, d4] }
  | _ => none }
def SubsumeHoldsWrongFalsely : Prop := subsumeHoldsRow.holds Try.pinned (OpenSpec.ofChange subsumeHoldsWrong)

/-- 'elenchuslaw15.SubsumeOn': WHATEVER THE INPUT: true; the input reads as it did. -/
def subsumeOnSpec : ChangeSpec := { name := "subsumeOn", fn := fun _ => fun
  | [d1, d2, d3] => { results := [.lit (.bool true)], args := [d1, d2, d3] }
  | _ => none }
def subsumeOnRow : OpenClaim := { program := "ytdbadicpbmndbaa", sum := "58fd7f571113a5c02b368792cdd873e953b4fb40f12bd53f0a2adce508540916", func := "elenchus/elenchuslaw15.SubsumeOn", spec := "subsumeOn", inPlace := ["maps.clone"], unfollowed := true, recurses := true, loops := true, apart := false }
def SubsumeOnSaid : Prop := subsumeOnRow.holds Try.pinned (OpenSpec.ofChange subsumeOnSpec)

/-- ITS FALSE NEIGHBOUR: 'it returns false'. Refute it at one input. -/
def subsumeOnWrong : ChangeSpec := { name := "subsumeOn", fn := fun _ => fun
  | [d1, d2, d3] => { results := [.lit (.bool false)], args := [d1, d2, d3] }
  | _ => none }
def SubsumeOnWrongFalsely : Prop := subsumeOnRow.holds Try.pinned (OpenSpec.ofChange subsumeOnWrong)

/-- 'elenchuslaw15.SubsumeTells': WHATEVER THE INPUT: true; the input reads as it did. -/
def subsumeTellsSpec : ChangeSpec := { name := "subsumeTells", fn := fun _ => fun
  | [d1, d2] => { results := [.lit (.bool true)], args := [d1, d2] }
  | _ => none }
def subsumeTellsRow : OpenClaim := { program := "ytdbadicpbmndbaa", sum := "58fd7f571113a5c02b368792cdd873e953b4fb40f12bd53f0a2adce508540916", func := "elenchus/elenchuslaw15.SubsumeTells", spec := "subsumeTells", inPlace := ["maps.clone"], unfollowed := true, recurses := true, loops := true, apart := false }
def SubsumeTellsSaid : Prop := subsumeTellsRow.holds Try.pinned (OpenSpec.ofChange subsumeTellsSpec)

/-- ITS FALSE NEIGHBOUR: 'it returns false'. Refute it at one input. -/
def subsumeTellsWrong : ChangeSpec := { name := "subsumeTells", fn := fun _ => fun
  | [d1, d2] => { results := [.lit (.bool false)], args := [d1, d2] }
  | _ => none }
def SubsumeTellsWrongFalsely : Prop := subsumeTellsRow.holds Try.pinned (OpenSpec.ofChange subsumeTellsWrong)

/-- 'elenchuslaw10.ClauseTidy': WHATEVER THE INPUT: true; the input reads as it did. -/
def clauseTidySpec : ChangeSpec := { name := "clauseTidy", fn := fun _ => fun
  | [d] => { results := [.lit (.bool true)], args := [d] }
  | _ => none }
def clauseTidyRow : OpenClaim := { program := "ytdbadicpbmndbaa", sum := "58fd7f571113a5c02b368792cdd873e953b4fb40f12bd53f0a2adce508540916", func := "elenchus/elenchuslaw10.ClauseTidy", spec := "clauseTidy", unfollowed := true, recurses := true, loops := true, apart := false }
def ClauseTidySaid : Prop := clauseTidyRow.holds Try.pinned (OpenSpec.ofChange clauseTidySpec)

/-- ITS FALSE NEIGHBOUR: 'it returns false'. Refute it at one input. -/
def clauseTidyWrong : ChangeSpec := { name := "clauseTidy", fn := fun _ => fun
  | [d] => { results := [.lit (.bool false)], args := [d] }
  | _ => none }
def ClauseTidyWrongFalsely : Prop := clauseTidyRow.holds Try.pinned (OpenSpec.ofChange clauseTidyWrong)

/-- 'elenchuslaw15.SubsumePuts': WHATEVER THE INPUT: true; the input reads as it did. -/
def subsumePutsSpec : ChangeSpec := { name := "subsumePuts", fn := fun _ => fun
  | [d1, d2, d3] => { results := [.lit (.bool true)], args := [d1, d2, d3] }
  | _ => none }
def subsumePutsRow : OpenClaim := { program := "ytdbadicpbmndbaa", sum := "58fd7f571113a5c02b368792cdd873e953b4fb40f12bd53f0a2adce508540916", func := "elenchus/elenchuslaw15.SubsumePuts", spec := "subsumePuts", inPlace := ["maps.clone"], unfollowed := true, recurses := true, loops := true, apart := false }
def SubsumePutsSaid : Prop := subsumePutsRow.holds Try.pinned (OpenSpec.ofChange subsumePutsSpec)

/-- ITS FALSE NEIGHBOUR: 'it returns false'. Refute it at one input. -/
def subsumePutsWrong : ChangeSpec := { name := "subsumePuts", fn := fun _ => fun
  | [d1, d2, d3] => { results := [.lit (.bool false)], args := [d1, d2, d3] }
  | _ => none }
def SubsumePutsWrongFalsely : Prop := subsumePutsRow.holds Try.pinned (OpenSpec.ofChange subsumePutsWrong)

/-- 'elenchuslaw10.ClauseGround': WHATEVER THE INPUT: true; the input reads as it did. -/
def clauseGroundSpec : ChangeSpec := { name := "clauseGround", fn := fun _ => fun
  | [d1, d2, d3] => { results := [.lit (.bool true)], args := [d1, d2, d3] }
  | _ => none }
def clauseGroundRow : OpenClaim := { program := "ytdbadicpbmndbaa", sum := "58fd7f571113a5c02b368792cdd873e953b4fb40f12bd53f0a2adce508540916", func := "elenchus/elenchuslaw10.ClauseGround", spec := "clauseGround", unfollowed := true, recurses := true, loops := true, apart := false }
def ClauseGroundSaid : Prop := clauseGroundRow.holds Try.pinned (OpenSpec.ofChange clauseGroundSpec)

/-- ITS FALSE NEIGHBOUR: 'it returns false'. Refute it at one input. -/
def clauseGroundWrong : ChangeSpec := { name := "clauseGround", fn := fun _ => fun
  | [d1, d2, d3] => { results := [.lit (.bool false)], args := [d1, d2, d3] }
  | _ => none }
def ClauseGroundWrongFalsely : Prop := clauseGroundRow.holds Try.pinned (OpenSpec.ofChange clauseGroundWrong)

/-- 'elenchuslaw11.MaximSome': WHATEVER THE INPUT: true; the input reads as it did. -/
def maximSomeSpec : ChangeSpec := { name := "maximSome", fn := fun _ => fun
  | [d1, d2] => { results := [.lit (.bool true)], args := [d1, d2] }
  | _ => none }
def maximSomeRow : OpenClaim := { program := "ytdbadicpbmndbaa", sum := "58fd7f571113a5c02b368792cdd873e953b4fb40f12bd53f0a2adce508540916", func := "elenchus/elenchuslaw11.MaximSome", spec := "maximSome", unfollowed := true, recurses := true, loops := true, apart := false }
def MaximSomeSaid : Prop := maximSomeRow.holds Try.pinned (OpenSpec.ofChange maximSomeSpec)

/-- ITS FALSE NEIGHBOUR: 'it returns false'. Refute it at one input. -/
def maximSomeWrong : ChangeSpec := { name := "maximSome", fn := fun _ => fun
  | [d1, d2] => { results := [.lit (.bool false)], args := [d1, d2] }
  | _ => none }
def MaximSomeWrongFalsely : Prop := maximSomeRow.holds Try.pinned (OpenSpec.ofChange maximSomeWrong)

/-- 'elenchuslaw11.MaximPuts': WHATEVER THE INPUT: true; the input reads as it did. -/
def maximPutsSpec : ChangeSpec := { name := "maximPuts", fn := fun _ => fun
  | [d1, d2, d3, d4] => { results := [.lit (.bool true)], args := [d1, d2, d3, d4] }
  | _ => none }
def maximPutsRow : OpenClaim := { program := "ytdbadicpbmndbaa", sum := "58fd7f571113a5c02b368792cdd873e953b4fb40f12bd53f0a2adce508540916", func := "elenchus/elenchuslaw11.MaximPuts", spec := "maximPuts", unfollowed := true, recurses := true, loops := true, apart := false }
def MaximPutsSaid : Prop := maximPutsRow.holds Try.pinned (OpenSpec.ofChange maximPutsSpec)

/-- ITS FALSE NEIGHBOUR: 'it returns false'. Refute it at one input. -/
def maximPutsWrong : ChangeSpec := { name := "maximPuts", fn := fun _ => fun
  | [d1, d2, d3, d4] => { results := [.lit (.bool false)], args := [d1, d2, d3, d4] }
  | _ => none }
def MaximPutsWrongFalsely : Prop := maximPutsRow.holds Try.pinned (OpenSpec.ofChange maximPutsWrong)

/-- 'elenchuslaw11.MaximSelects': WHATEVER THE INPUT: true; the input reads as it did. -/
def maximSelectsSpec : ChangeSpec := { name := "maximSelects", fn := fun _ => fun
  | [d1, d2, d3, d4] => { results := [.lit (.bool true)], args := [d1, d2, d3, d4] }
  | _ => none }
def maximSelectsRow : OpenClaim := { program := "ytdbadicpbmndbaa", sum := "58fd7f571113a5c02b368792cdd873e953b4fb40f12bd53f0a2adce508540916", func := "elenchus/elenchuslaw11.MaximSelects", spec := "maximSelects", unfollowed := true, recurses := true, loops := true, apart := false }
def MaximSelectsSaid : Prop := maximSelectsRow.holds Try.pinned (OpenSpec.ofChange maximSelectsSpec)

/-- ITS FALSE NEIGHBOUR: 'it returns false'. Refute it at one input. -/
def maximSelectsWrong : ChangeSpec := { name := "maximSelects", fn := fun _ => fun
  | [d1, d2, d3, d4] => { results := [.lit (.bool false)], args := [d1, d2, d3, d4] }
  | _ => none }
def MaximSelectsWrongFalsely : Prop := maximSelectsRow.holds Try.pinned (OpenSpec.ofChange maximSelectsWrong)

/-- 'elenchuslaw10.ClauseOrder': WHATEVER THE INPUT: true; the input reads as it did. -/
def clauseOrderSpec : ChangeSpec := { name := "clauseOrder", fn := fun _ => fun
  | [d1, d2, d3, d4, d5] => { results := [.lit (.bool true)], args := [d1, d2, d3, d4, d5] }
  | _ => none }
def clauseOrderRow : OpenClaim := { program := "ytdbadicpbmndbaa", sum := "58fd7f571113a5c02b368792cdd873e953b4fb40f12bd53f0a2adce508540916", func := "elenchus/elenchuslaw10.ClauseOrder", spec := "clauseOrder", unfollowed := true, recurses := true, loops := true, apart := false }
def ClauseOrderSaid : Prop := clauseOrderRow.holds Try.pinned (OpenSpec.ofChange clauseOrderSpec)

/-- ITS FALSE NEIGHBOUR: 'it returns false'. Refute it at one input. -/
def clauseOrderWrong : ChangeSpec := { name := "clauseOrder", fn := fun _ => fun
  | [d1, d2, d3, d4, d5] => { results := [.lit (.bool false)], args := [d1, d2, d3, d4, d5] }
  | _ => none }
def ClauseOrderWrongFalsely : Prop := clauseOrderRow.holds Try.pinned (OpenSpec.ofChange clauseOrderWrong)

/- THE SECOND FORM. 'bulk': how many values and letters a reading holds, each counted each time it is reached (what is shared counts as often as it is met; a slice's spare places count too). A statement '..UptoSaid' is the law's where the arguments, and the package variables that the reading takes, are together of bulk at most 1048576: NARROWER than '..Said'. Prove '..Said' where nothing that the law and all that it calls make is longer than what came in: it says more and counts as full. Else prove '..UptoSaid'. A law counts once. -/
mutual
def uptoBulk {H : Type} : DataW H → Nat
  | .lit (.string bytes) => bytes.length + 1
  | .lit _ => 1
  | .nil => 1
  | .ptr d => uptoBulk d + 1
  | .slice elems spare => uptoBulkAll elems + uptoBulkAll spare + 1
  | .agg parts => uptoBulkAll parts + 1
  | .iface _ d => uptoBulk d + 1
  | .map entries => uptoBulkEntries entries + 1
  | .held _ => 1
def uptoBulkAll {H : Type} : List (DataW H) → Nat
  | [] => 0
  | d :: r => uptoBulk d + uptoBulkAll r
def uptoBulkEntries {H : Type} : List (Lit × DataW H) → Nat
  | [] => 0
  | x :: r => uptoBulkEntry x + uptoBulkEntries r
def uptoBulkEntry {H : Type} : Lit × DataW H → Nat
  | (.string bytes, d) => bytes.length + uptoBulk d + 1
  | (_, d) => uptoBulk d + 1
 end
def uptoSmall : (H : Type) → List (DataW H) → Bool := fun _ ds => decide (uptoBulkAll ds ≤ 1048576)
def OpenSpec.upto (s : _root_.Go.ChangeSpec) : _root_.Go.OpenSpec := { _root_.Go.OpenSpec.ofChange s with cond := some uptoSmall }

/-- 'elenchuslaw15.SubsumeHolds', WHERE WHAT IT READS IS OF BULK AT MOST 1048576: true; the input reads as it did. -/
def subsumeHoldsUptoRow : OpenClaim := { program := "ytdbadicpbmndbaa", sum := "58fd7f571113a5c02b368792cdd873e953b4fb40f12bd53f0a2adce508540916", func := "elenchus/elenchuslaw15.SubsumeHolds", spec := "subsumeHolds", inPlace := ["maps.clone"], unfollowed := true, recurses := true, loops := true, apart := false, narrowed := true }
def SubsumeHoldsUptoSaid : Prop := subsumeHoldsUptoRow.holds Try.pinned (OpenSpec.upto subsumeHoldsSpec)

/-- 'elenchuslaw15.SubsumeOn', WHERE WHAT IT READS IS OF BULK AT MOST 1048576: true; the input reads as it did. -/
def subsumeOnUptoRow : OpenClaim := { program := "ytdbadicpbmndbaa", sum := "58fd7f571113a5c02b368792cdd873e953b4fb40f12bd53f0a2adce508540916", func := "elenchus/elenchuslaw15.SubsumeOn", spec := "subsumeOn", inPlace := ["maps.clone"], unfollowed := true, recurses := true, loops := true, apart := false, narrowed := true }
def SubsumeOnUptoSaid : Prop := subsumeOnUptoRow.holds Try.pinned (OpenSpec.upto subsumeOnSpec)

/-- 'elenchuslaw15.SubsumeTells', WHERE WHAT IT READS IS OF BULK AT MOST 1048576: true; the input reads as it did. -/
def subsumeTellsUptoRow : OpenClaim := { program := "ytdbadicpbmndbaa", sum := "58fd7f571113a5c02b368792cdd873e953b4fb40f12bd53f0a2adce508540916", func := "elenchus/elenchuslaw15.SubsumeTells", spec := "subsumeTells", inPlace := ["maps.clone"], unfollowed := true, recurses := true, loops := true, apart := false, narrowed := true }
def SubsumeTellsUptoSaid : Prop := subsumeTellsUptoRow.holds Try.pinned (OpenSpec.upto subsumeTellsSpec)

/-- 'elenchuslaw10.ClauseTidy', WHERE WHAT IT READS IS OF BULK AT MOST 1048576: true; the input reads as it did. -/
def clauseTidyUptoRow : OpenClaim := { program := "ytdbadicpbmndbaa", sum := "58fd7f571113a5c02b368792cdd873e953b4fb40f12bd53f0a2adce508540916", func := "elenchus/elenchuslaw10.ClauseTidy", spec := "clauseTidy", unfollowed := true, recurses := true, loops := true, apart := false, narrowed := true }
def ClauseTidyUptoSaid : Prop := clauseTidyUptoRow.holds Try.pinned (OpenSpec.upto clauseTidySpec)

/-- 'elenchuslaw15.SubsumePuts', WHERE WHAT IT READS IS OF BULK AT MOST 1048576: true; the input reads as it did. -/
def subsumePutsUptoRow : OpenClaim := { program := "ytdbadicpbmndbaa", sum := "58fd7f571113a5c02b368792cdd873e953b4fb40f12bd53f0a2adce508540916", func := "elenchus/elenchuslaw15.SubsumePuts", spec := "subsumePuts", inPlace := ["maps.clone"], unfollowed := true, recurses := true, loops := true, apart := false, narrowed := true }
def SubsumePutsUptoSaid : Prop := subsumePutsUptoRow.holds Try.pinned (OpenSpec.upto subsumePutsSpec)

/-- 'elenchuslaw10.ClauseGround', WHERE WHAT IT READS IS OF BULK AT MOST 1048576: true; the input reads as it did. -/
def clauseGroundUptoRow : OpenClaim := { program := "ytdbadicpbmndbaa", sum := "58fd7f571113a5c02b368792cdd873e953b4fb40f12bd53f0a2adce508540916", func := "elenchus/elenchuslaw10.ClauseGround", spec := "clauseGround", unfollowed := true, recurses := true, loops := true, apart := false, narrowed := true }
def ClauseGroundUptoSaid : Prop := clauseGroundUptoRow.holds Try.pinned (OpenSpec.upto clauseGroundSpec)

/-- 'elenchuslaw11.MaximSome', WHERE WHAT IT READS IS OF BULK AT MOST 1048576: true; the input reads as it did. -/
def maximSomeUptoRow : OpenClaim := { program := "ytdbadicpbmndbaa", sum := "58fd7f571113a5c02b368792cdd873e953b4fb40f12bd53f0a2adce508540916", func := "elenchus/elenchuslaw11.MaximSome", spec := "maximSome", unfollowed := true, recurses := true, loops := true, apart := false, narrowed := true }
def MaximSomeUptoSaid : Prop := maximSomeUptoRow.holds Try.pinned (OpenSpec.upto maximSomeSpec)

/-- 'elenchuslaw11.MaximPuts', WHERE WHAT IT READS IS OF BULK AT MOST 1048576: true; the input reads as it did. -/
def maximPutsUptoRow : OpenClaim := { program := "ytdbadicpbmndbaa", sum := "58fd7f571113a5c02b368792cdd873e953b4fb40f12bd53f0a2adce508540916", func := "elenchus/elenchuslaw11.MaximPuts", spec := "maximPuts", unfollowed := true, recurses := true, loops := true, apart := false, narrowed := true }
def MaximPutsUptoSaid : Prop := maximPutsUptoRow.holds Try.pinned (OpenSpec.upto maximPutsSpec)

/-- 'elenchuslaw11.MaximSelects', WHERE WHAT IT READS IS OF BULK AT MOST 1048576: true; the input reads as it did. -/
def maximSelectsUptoRow : OpenClaim := { program := "ytdbadicpbmndbaa", sum := "58fd7f571113a5c02b368792cdd873e953b4fb40f12bd53f0a2adce508540916", func := "elenchus/elenchuslaw11.MaximSelects", spec := "maximSelects", unfollowed := true, recurses := true, loops := true, apart := false, narrowed := true }
def MaximSelectsUptoSaid : Prop := maximSelectsUptoRow.holds Try.pinned (OpenSpec.upto maximSelectsSpec)

/-- 'elenchuslaw10.ClauseOrder', WHERE WHAT IT READS IS OF BULK AT MOST 1048576: true; the input reads as it did. -/
def clauseOrderUptoRow : OpenClaim := { program := "ytdbadicpbmndbaa", sum := "58fd7f571113a5c02b368792cdd873e953b4fb40f12bd53f0a2adce508540916", func := "elenchus/elenchuslaw10.ClauseOrder", spec := "clauseOrder", unfollowed := true, recurses := true, loops := true, apart := false, narrowed := true }
def ClauseOrderUptoSaid : Prop := clauseOrderUptoRow.holds Try.pinned (OpenSpec.upto clauseOrderSpec)

end Rows
end Go.Proofs.Ytdbadicpbmndbaa
