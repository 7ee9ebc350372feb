/-
  No cell of these rows narrows 'for every input' (looked for: loops, veiled, ifaces, maps, wideKeys, modest, calm, conditions, laid).
  DERIVED. THE GIVEN ROWS OF THIS SEAT. 16 by the template 'for every input the law returns true; each argument reads behind the call as it read before'; 0 by the template 'total and deterministic' (their statements: YtokgokbgidgfeaaGreatTotals.lean).
  GIVEN WITH THE SEED: the statements are not yours to turn. If you find one false, say at which input.
  Laid BY PROGRAM, IN A SANDBOX (cutbox-rows.mjs): the forced cells as the released guide's own fill.sh prints them over the translation 1e0df13798622e6c… (all of the seat's roots in one cut). By AI agents, Wed Nov 11 2026. No macro, syntax, notation, axiom, sorry.
-/
import Derived.Test.YtokgokbgidgfeaaGreatChecked
import GoSem.Claim
import GoSem.ClaimJoined
import GoSem.ClaimMapViews
import Derived.JoinedTies
import Derived.KernelRfl
namespace Go.Proofs.YtokgokbgidgfeaaGreat
/- THE CELL 'sum', in the pinned program and in every row, IS THE sha256 OF THE DUMP (.gsa) THAT YtokgokbgidgfeaaGreatProg.lean LOADS. Nothing in Lean hashes anything: it is a label: what it is worth is what the hold of that sum in a sandbox is worth. -/
noncomputable def Tryz.pinned : Pinned := { name := "ytokgokbgidgfeaagreat", sum := "1e0df13798622e6c32cbd61c78f68db68b275e4550761ddea0f579005a7f2a6c", checked := Tryz.checked }
namespace Rows
def none {H : Type} : Left H := { results := [], args := [] }

/-- 'joistlaw18.StateTells': WHATEVER THE INPUT: true; the input reads as it did. -/
def stateTellsSpec : ChangeSpec := { name := "stateTells", fn := fun _ => fun
  | [d1, d2] => { results := [.lit (.bool true)], args := [d1, d2] }
  | _ => none }
def stateTellsRow : OpenClaim := { program := "ytokgokbgidgfeaagreat", sum := "1e0df13798622e6c32cbd61c78f68db68b275e4550761ddea0f579005a7f2a6c", func := "joist/joistlaw18.StateTells", spec := "stateTells", unfollowed := true, recurses := true, apart := false }
def StateTellsSaid : Prop := stateTellsRow.holds Tryz.pinned (OpenSpec.ofChange stateTellsSpec)

/-- ITS FALSE NEIGHBOUR: 'it returns false'. Refute it at one input. -/
def stateTellsWrong : ChangeSpec := { name := "stateTells", fn := fun _ => fun
  | [d1, d2] => { results := [.lit (.bool false)], args := [d1, d2] }
  | _ => none }
def StateTellsWrongFalsely : Prop := stateTellsRow.holds Tryz.pinned (OpenSpec.ofChange stateTellsWrong)

/-- 'joistlaw21.PlaceFinds': WHATEVER THE INPUT: true; the input reads as it did. -/
def placeFindsSpec : ChangeSpec := { name := "placeFinds", fn := fun _ => fun
  | [d1, d2, d3] => { results := [.lit (.bool true)], args := [d1, d2, d3] }
  | _ => none }
def placeFindsRow : OpenClaim := { program := "ytokgokbgidgfeaagreat", sum := "1e0df13798622e6c32cbd61c78f68db68b275e4550761ddea0f579005a7f2a6c", func := "joist/joistlaw21.PlaceFinds", spec := "placeFinds", unfollowed := true, recurses := true, apart := false }
def PlaceFindsSaid : Prop := placeFindsRow.holds Tryz.pinned (OpenSpec.ofChange placeFindsSpec)

/-- ITS FALSE NEIGHBOUR: 'it returns false'. Refute it at one input. -/
def placeFindsWrong : ChangeSpec := { name := "placeFinds", fn := fun _ => fun
  | [d1, d2, d3] => { results := [.lit (.bool false)], args := [d1, d2, d3] }
  | _ => none }
def PlaceFindsWrongFalsely : Prop := placeFindsRow.holds Tryz.pinned (OpenSpec.ofChange placeFindsWrong)

/-- 'joistlaw21.PlaceTurns': WHATEVER THE INPUT: true; the input reads as it did. -/
def placeTurnsSpec : ChangeSpec := { name := "placeTurns", fn := fun _ => fun
  | [d1, d2, d3, d4, d5] => { results := [.lit (.bool true)], args := [d1, d2, d3, d4, d5] }
  | _ => none }
def placeTurnsRow : OpenClaim := { program := "ytokgokbgidgfeaagreat", sum := "1e0df13798622e6c32cbd61c78f68db68b275e4550761ddea0f579005a7f2a6c", func := "joist/joistlaw21.PlaceTurns", spec := "placeTurns", unfollowed := true, recurses := true, apart := false }
def PlaceTurnsSaid : Prop := placeTurnsRow.holds Tryz.pinned (OpenSpec.ofChange placeTurnsSpec)

/-- ITS FALSE NEIGHBOUR: 'it returns false'. Refute it at one input. -/
def placeTurnsWrong : ChangeSpec := { name := "placeTurns", fn := fun _ => fun
  | [d1, d2, d3, d4, d5] => { results := [.lit (.bool false)], args := [d1, d2, d3, d4, d5] }
  | _ => none }
def PlaceTurnsWrongFalsely : Prop := placeTurnsRow.holds Tryz.pinned (OpenSpec.ofChange placeTurnsWrong)

/-- 'joistlaw23.MoveEnds': WHATEVER THE INPUT: true; the input reads as it did. -/
def moveEndsSpec : ChangeSpec := { name := "moveEnds", fn := fun _ => fun
  | [d] => { results := [.lit (.bool true)], args := [d] }
  | _ => none }
def moveEndsRow : OpenClaim := { program := "ytokgokbgidgfeaagreat", sum := "1e0df13798622e6c32cbd61c78f68db68b275e4550761ddea0f579005a7f2a6c", func := "joist/joistlaw23.MoveEnds", spec := "moveEnds", unfollowed := true, recurses := true, apart := false }
def MoveEndsSaid : Prop := moveEndsRow.holds Tryz.pinned (OpenSpec.ofChange moveEndsSpec)

/-- ITS FALSE NEIGHBOUR: 'it returns false'. Refute it at one input. -/
def moveEndsWrong : ChangeSpec := { name := "moveEnds", fn := fun _ => fun
  | [d] => { results := [.lit (.bool false)], args := [d] }
  | _ => none }
def MoveEndsWrongFalsely : Prop := moveEndsRow.holds Tryz.pinned (OpenSpec.ofChange moveEndsWrong)

/-- 'joistlaw23.MoveEmpty': WHATEVER THE INPUT: true; the input reads as it did. -/
def moveEmptySpec : ChangeSpec := { name := "moveEmpty", fn := fun _ => fun
  | [d1, d2] => { results := [.lit (.bool true)], args := [d1, d2] }
  | _ => none }
def moveEmptyRow : OpenClaim := { program := "ytokgokbgidgfeaagreat", sum := "1e0df13798622e6c32cbd61c78f68db68b275e4550761ddea0f579005a7f2a6c", func := "joist/joistlaw23.MoveEmpty", spec := "moveEmpty", unfollowed := true, recurses := true, apart := false }
def MoveEmptySaid : Prop := moveEmptyRow.holds Tryz.pinned (OpenSpec.ofChange moveEmptySpec)

/-- ITS FALSE NEIGHBOUR: 'it returns false'. Refute it at one input. -/
def moveEmptyWrong : ChangeSpec := { name := "moveEmpty", fn := fun _ => fun
  | [d1, d2] => { results := [.lit (.bool false)], args := [d1, d2] }
  | _ => none }
def MoveEmptyWrongFalsely : Prop := moveEmptyRow.holds Tryz.pinned (OpenSpec.ofChange moveEmptyWrong)

/-- 'joistlaw23.MoveSteps': WHATEVER THE INPUT: true; the input reads as it did. -/
def moveStepsSpec : ChangeSpec := { name := "moveSteps", fn := fun _ => fun
  | [d1, d2] => { results := [.lit (.bool true)], args := [d1, d2] }
  | _ => none }
def moveStepsRow : OpenClaim := { program := "ytokgokbgidgfeaagreat", sum := "1e0df13798622e6c32cbd61c78f68db68b275e4550761ddea0f579005a7f2a6c", func := "joist/joistlaw23.MoveSteps", spec := "moveSteps", unfollowed := true, recurses := true, apart := false }
def MoveStepsSaid : Prop := moveStepsRow.holds Tryz.pinned (OpenSpec.ofChange moveStepsSpec)

/-- ITS FALSE NEIGHBOUR: 'it returns false'. Refute it at one input. -/
def moveStepsWrong : ChangeSpec := { name := "moveSteps", fn := fun _ => fun
  | [d1, d2] => { results := [.lit (.bool false)], args := [d1, d2] }
  | _ => none }
def MoveStepsWrongFalsely : Prop := moveStepsRow.holds Tryz.pinned (OpenSpec.ofChange moveStepsWrong)

/-- 'joistlaw23.MoveBack': WHATEVER THE INPUT: true; the input reads as it did. -/
def moveBackSpec : ChangeSpec := { name := "moveBack", fn := fun _ => fun
  | [d1, d2] => { results := [.lit (.bool true)], args := [d1, d2] }
  | _ => none }
def moveBackRow : OpenClaim := { program := "ytokgokbgidgfeaagreat", sum := "1e0df13798622e6c32cbd61c78f68db68b275e4550761ddea0f579005a7f2a6c", func := "joist/joistlaw23.MoveBack", spec := "moveBack", unfollowed := true, recurses := true, apart := false }
def MoveBackSaid : Prop := moveBackRow.holds Tryz.pinned (OpenSpec.ofChange moveBackSpec)

/-- ITS FALSE NEIGHBOUR: 'it returns false'. Refute it at one input. -/
def moveBackWrong : ChangeSpec := { name := "moveBack", fn := fun _ => fun
  | [d1, d2] => { results := [.lit (.bool false)], args := [d1, d2] }
  | _ => none }
def MoveBackWrongFalsely : Prop := moveBackRow.holds Tryz.pinned (OpenSpec.ofChange moveBackWrong)

/-- 'joistlaw23.MoveKeeps': WHATEVER THE INPUT: true; the input reads as it did. -/
def moveKeepsSpec : ChangeSpec := { name := "moveKeeps", fn := fun _ => fun
  | [d1, d2] => { results := [.lit (.bool true)], args := [d1, d2] }
  | _ => none }
def moveKeepsRow : OpenClaim := { program := "ytokgokbgidgfeaagreat", sum := "1e0df13798622e6c32cbd61c78f68db68b275e4550761ddea0f579005a7f2a6c", func := "joist/joistlaw23.MoveKeeps", spec := "moveKeeps", unfollowed := true, recurses := true, apart := false }
def MoveKeepsSaid : Prop := moveKeepsRow.holds Tryz.pinned (OpenSpec.ofChange moveKeepsSpec)

/-- ITS FALSE NEIGHBOUR: 'it returns false'. Refute it at one input. -/
def moveKeepsWrong : ChangeSpec := { name := "moveKeeps", fn := fun _ => fun
  | [d1, d2] => { results := [.lit (.bool false)], args := [d1, d2] }
  | _ => none }
def MoveKeepsWrongFalsely : Prop := moveKeepsRow.holds Tryz.pinned (OpenSpec.ofChange moveKeepsWrong)

/-- 'joistlaw23.MoveDone': WHATEVER THE INPUT: true; the input reads as it did. -/
def moveDoneSpec : ChangeSpec := { name := "moveDone", fn := fun _ => fun
  | [d1, d2] => { results := [.lit (.bool true)], args := [d1, d2] }
  | _ => none }
def moveDoneRow : OpenClaim := { program := "ytokgokbgidgfeaagreat", sum := "1e0df13798622e6c32cbd61c78f68db68b275e4550761ddea0f579005a7f2a6c", func := "joist/joistlaw23.MoveDone", spec := "moveDone", unfollowed := true, recurses := true, apart := false }
def MoveDoneSaid : Prop := moveDoneRow.holds Tryz.pinned (OpenSpec.ofChange moveDoneSpec)

/-- ITS FALSE NEIGHBOUR: 'it returns false'. Refute it at one input. -/
def moveDoneWrong : ChangeSpec := { name := "moveDone", fn := fun _ => fun
  | [d1, d2] => { results := [.lit (.bool false)], args := [d1, d2] }
  | _ => none }
def MoveDoneWrongFalsely : Prop := moveDoneRow.holds Tryz.pinned (OpenSpec.ofChange moveDoneWrong)

/-- 'joistlaw23.MoveRounds': WHATEVER THE INPUT: true; the input reads as it did. -/
def moveRoundsSpec : ChangeSpec := { name := "moveRounds", fn := fun _ => fun
  | [d] => { results := [.lit (.bool true)], args := [d] }
  | _ => none }
def moveRoundsRow : OpenClaim := { program := "ytokgokbgidgfeaagreat", sum := "1e0df13798622e6c32cbd61c78f68db68b275e4550761ddea0f579005a7f2a6c", func := "joist/joistlaw23.MoveRounds", spec := "moveRounds", unfollowed := true, recurses := true, apart := false }
def MoveRoundsSaid : Prop := moveRoundsRow.holds Tryz.pinned (OpenSpec.ofChange moveRoundsSpec)

/-- ITS FALSE NEIGHBOUR: 'it returns false'. Refute it at one input. -/
def moveRoundsWrong : ChangeSpec := { name := "moveRounds", fn := fun _ => fun
  | [d] => { results := [.lit (.bool false)], args := [d] }
  | _ => none }
def MoveRoundsWrongFalsely : Prop := moveRoundsRow.holds Tryz.pinned (OpenSpec.ofChange moveRoundsWrong)

/-- 'joistlaw22.OpsDoes': WHATEVER THE INPUT: true; the input reads as it did. -/
def opsDoesSpec : ChangeSpec := { name := "opsDoes", fn := fun _ => fun
  | [d1, d2] => { results := [.lit (.bool true)], args := [d1, d2] }
  | _ => none }
def opsDoesRow : OpenClaim := { program := "ytokgokbgidgfeaagreat", sum := "1e0df13798622e6c32cbd61c78f68db68b275e4550761ddea0f579005a7f2a6c", func := "joist/joistlaw22.OpsDoes", spec := "opsDoes", unfollowed := true, recurses := true, apart := false }
def OpsDoesSaid : Prop := opsDoesRow.holds Tryz.pinned (OpenSpec.ofChange opsDoesSpec)

/-- ITS FALSE NEIGHBOUR: 'it returns false'. Refute it at one input. -/
def opsDoesWrong : ChangeSpec := { name := "opsDoes", fn := fun _ => fun
  | [d1, d2] => { results := [.lit (.bool false)], args := [d1, d2] }
  | _ => none }
def OpsDoesWrongFalsely : Prop := opsDoesRow.holds Tryz.pinned (OpenSpec.ofChange opsDoesWrong)

/-- 'joistlaw22.OpsTxs': WHATEVER THE INPUT: true; the input reads as it did. -/
def opsTxsSpec : ChangeSpec := { name := "opsTxs", fn := fun _ => fun
  | [d1, d2] => { results := [.lit (.bool true)], args := [d1, d2] }
  | _ => none }
def opsTxsRow : OpenClaim := { program := "ytokgokbgidgfeaagreat", sum := "1e0df13798622e6c32cbd61c78f68db68b275e4550761ddea0f579005a7f2a6c", func := "joist/joistlaw22.OpsTxs", spec := "opsTxs", unfollowed := true, recurses := true, apart := false }
def OpsTxsSaid : Prop := opsTxsRow.holds Tryz.pinned (OpenSpec.ofChange opsTxsSpec)

/-- ITS FALSE NEIGHBOUR: 'it returns false'. Refute it at one input. -/
def opsTxsWrong : ChangeSpec := { name := "opsTxs", fn := fun _ => fun
  | [d1, d2] => { results := [.lit (.bool false)], args := [d1, d2] }
  | _ => none }
def OpsTxsWrongFalsely : Prop := opsTxsRow.holds Tryz.pinned (OpenSpec.ofChange opsTxsWrong)

/-- 'joistlaw22.OpsEmpties': WHATEVER THE INPUT: true; the input reads as it did. -/
def opsEmptiesSpec : ChangeSpec := { name := "opsEmpties", fn := fun _ => fun
  | [d] => { results := [.lit (.bool true)], args := [d] }
  | _ => none }
def opsEmptiesRow : OpenClaim := { program := "ytokgokbgidgfeaagreat", sum := "1e0df13798622e6c32cbd61c78f68db68b275e4550761ddea0f579005a7f2a6c", func := "joist/joistlaw22.OpsEmpties", spec := "opsEmpties", unfollowed := true, recurses := true, apart := false }
def OpsEmptiesSaid : Prop := opsEmptiesRow.holds Tryz.pinned (OpenSpec.ofChange opsEmptiesSpec)

/-- ITS FALSE NEIGHBOUR: 'it returns false'. Refute it at one input. -/
def opsEmptiesWrong : ChangeSpec := { name := "opsEmpties", fn := fun _ => fun
  | [d] => { results := [.lit (.bool false)], args := [d] }
  | _ => none }
def OpsEmptiesWrongFalsely : Prop := opsEmptiesRow.holds Tryz.pinned (OpenSpec.ofChange opsEmptiesWrong)

/-- 'joistlaw22.OpsMeans': WHATEVER THE INPUT: true; the input reads as it did. -/
def opsMeansSpec : ChangeSpec := { name := "opsMeans", fn := fun _ => fun
  | [d1, d2] => { results := [.lit (.bool true)], args := [d1, d2] }
  | _ => none }
def opsMeansRow : OpenClaim := { program := "ytokgokbgidgfeaagreat", sum := "1e0df13798622e6c32cbd61c78f68db68b275e4550761ddea0f579005a7f2a6c", func := "joist/joistlaw22.OpsMeans", spec := "opsMeans", unfollowed := true, recurses := true, apart := false }
def OpsMeansSaid : Prop := opsMeansRow.holds Tryz.pinned (OpenSpec.ofChange opsMeansSpec)

/-- ITS FALSE NEIGHBOUR: 'it returns false'. Refute it at one input. -/
def opsMeansWrong : ChangeSpec := { name := "opsMeans", fn := fun _ => fun
  | [d1, d2] => { results := [.lit (.bool false)], args := [d1, d2] }
  | _ => none }
def OpsMeansWrongFalsely : Prop := opsMeansRow.holds Tryz.pinned (OpenSpec.ofChange opsMeansWrong)

/-- 'joistlaw22.OpsWhole': WHATEVER THE INPUT: true; the input reads as it did. -/
def opsWholeSpec : ChangeSpec := { name := "opsWhole", fn := fun _ => fun
  | [d1, d2] => { results := [.lit (.bool true)], args := [d1, d2] }
  | _ => none }
def opsWholeRow : OpenClaim := { program := "ytokgokbgidgfeaagreat", sum := "1e0df13798622e6c32cbd61c78f68db68b275e4550761ddea0f579005a7f2a6c", func := "joist/joistlaw22.OpsWhole", spec := "opsWhole", unfollowed := true, recurses := true, apart := false }
def OpsWholeSaid : Prop := opsWholeRow.holds Tryz.pinned (OpenSpec.ofChange opsWholeSpec)

/-- ITS FALSE NEIGHBOUR: 'it returns false'. Refute it at one input. -/
def opsWholeWrong : ChangeSpec := { name := "opsWhole", fn := fun _ => fun
  | [d1, d2] => { results := [.lit (.bool false)], args := [d1, d2] }
  | _ => none }
def OpsWholeWrongFalsely : Prop := opsWholeRow.holds Tryz.pinned (OpenSpec.ofChange opsWholeWrong)

/-- 'joistlaw22.OpsReads': WHATEVER THE INPUT: true; the input reads as it did. -/
def opsReadsSpec : ChangeSpec := { name := "opsReads", fn := fun _ => fun
  | [d1, d2] => { results := [.lit (.bool true)], args := [d1, d2] }
  | _ => none }
def opsReadsRow : OpenClaim := { program := "ytokgokbgidgfeaagreat", sum := "1e0df13798622e6c32cbd61c78f68db68b275e4550761ddea0f579005a7f2a6c", func := "joist/joistlaw22.OpsReads", spec := "opsReads", unfollowed := true, recurses := true, apart := false }
def OpsReadsSaid : Prop := opsReadsRow.holds Tryz.pinned (OpenSpec.ofChange opsReadsSpec)

/-- ITS FALSE NEIGHBOUR: 'it returns false'. Refute it at one input. -/
def opsReadsWrong : ChangeSpec := { name := "opsReads", fn := fun _ => fun
  | [d1, d2] => { results := [.lit (.bool false)], args := [d1, d2] }
  | _ => none }
def OpsReadsWrongFalsely : Prop := opsReadsRow.holds Tryz.pinned (OpenSpec.ofChange opsReadsWrong)

/- THE SECOND FORM. 'bulk': how many values and letters a reading holds, each counted each time it is reached (what is shared counts as often as it is met; a slice's spare places count too). A statement '..UptoSaid' is the law's where the arguments, and the package variables that the reading takes, are together of bulk at most 1048576: NARROWER than '..Said'. Prove '..Said' where nothing that the law and all that it calls make is longer than what came in: it says more and counts as full. Else prove '..UptoSaid'. A law counts once. -/
mutual
def uptoBulk {H : Type} : DataW H → Nat
  | .lit (.string bytes) => bytes.length + 1
  | .lit _ => 1
  | .nil => 1
  | .ptr d => uptoBulk d + 1
  | .slice elems spare => uptoBulkAll elems + uptoBulkAll spare + 1
  | .agg parts => uptoBulkAll parts + 1
  | .iface _ d => uptoBulk d + 1
  | .map entries => uptoBulkEntries entries + 1
  | .held _ => 1
def uptoBulkAll {H : Type} : List (DataW H) → Nat
  | [] => 0
  | d :: r => uptoBulk d + uptoBulkAll r
def uptoBulkEntries {H : Type} : List (Lit × DataW H) → Nat
  | [] => 0
  | x :: r => uptoBulkEntry x + uptoBulkEntries r
def uptoBulkEntry {H : Type} : Lit × DataW H → Nat
  | (.string bytes, d) => bytes.length + uptoBulk d + 1
  | (_, d) => uptoBulk d + 1
 end
def uptoSmall : (H : Type) → List (DataW H) → Bool := fun _ ds => decide (uptoBulkAll ds ≤ 1048576)
def OpenSpec.upto (s : _root_.Go.ChangeSpec) : _root_.Go.OpenSpec := { _root_.Go.OpenSpec.ofChange s with cond := some uptoSmall }

/-- 'joistlaw18.StateTells', WHERE WHAT IT READS IS OF BULK AT MOST 1048576: true; the input reads as it did. -/
def stateTellsUptoRow : OpenClaim := { program := "ytokgokbgidgfeaagreat", sum := "1e0df13798622e6c32cbd61c78f68db68b275e4550761ddea0f579005a7f2a6c", func := "joist/joistlaw18.StateTells", spec := "stateTells", unfollowed := true, recurses := true, apart := false, narrowed := true }
def StateTellsUptoSaid : Prop := stateTellsUptoRow.holds Tryz.pinned (OpenSpec.upto stateTellsSpec)

/-- 'joistlaw21.PlaceFinds', WHERE WHAT IT READS IS OF BULK AT MOST 1048576: true; the input reads as it did. -/
def placeFindsUptoRow : OpenClaim := { program := "ytokgokbgidgfeaagreat", sum := "1e0df13798622e6c32cbd61c78f68db68b275e4550761ddea0f579005a7f2a6c", func := "joist/joistlaw21.PlaceFinds", spec := "placeFinds", unfollowed := true, recurses := true, apart := false, narrowed := true }
def PlaceFindsUptoSaid : Prop := placeFindsUptoRow.holds Tryz.pinned (OpenSpec.upto placeFindsSpec)

/-- 'joistlaw21.PlaceTurns', WHERE WHAT IT READS IS OF BULK AT MOST 1048576: true; the input reads as it did. -/
def placeTurnsUptoRow : OpenClaim := { program := "ytokgokbgidgfeaagreat", sum := "1e0df13798622e6c32cbd61c78f68db68b275e4550761ddea0f579005a7f2a6c", func := "joist/joistlaw21.PlaceTurns", spec := "placeTurns", unfollowed := true, recurses := true, apart := false, narrowed := true }
def PlaceTurnsUptoSaid : Prop := placeTurnsUptoRow.holds Tryz.pinned (OpenSpec.upto placeTurnsSpec)

/-- 'joistlaw23.MoveEnds', WHERE WHAT IT READS IS OF BULK AT MOST 1048576: true; the input reads as it did. -/
def moveEndsUptoRow : OpenClaim := { program := "ytokgokbgidgfeaagreat", sum := "1e0df13798622e6c32cbd61c78f68db68b275e4550761ddea0f579005a7f2a6c", func := "joist/joistlaw23.MoveEnds", spec := "moveEnds", unfollowed := true, recurses := true, apart := false, narrowed := true }
def MoveEndsUptoSaid : Prop := moveEndsUptoRow.holds Tryz.pinned (OpenSpec.upto moveEndsSpec)

/-- 'joistlaw23.MoveEmpty', WHERE WHAT IT READS IS OF BULK AT MOST 1048576: true; the input reads as it did. -/
def moveEmptyUptoRow : OpenClaim := { program := "ytokgokbgidgfeaagreat", sum := "1e0df13798622e6c32cbd61c78f68db68b275e4550761ddea0f579005a7f2a6c", func := "joist/joistlaw23.MoveEmpty", spec := "moveEmpty", unfollowed := true, recurses := true, apart := false, narrowed := true }
def MoveEmptyUptoSaid : Prop := moveEmptyUptoRow.holds Tryz.pinned (OpenSpec.upto moveEmptySpec)

/-- 'joistlaw23.MoveSteps', WHERE WHAT IT READS IS OF BULK AT MOST 1048576: true; the input reads as it did. -/
def moveStepsUptoRow : OpenClaim := { program := "ytokgokbgidgfeaagreat", sum := "1e0df13798622e6c32cbd61c78f68db68b275e4550761ddea0f579005a7f2a6c", func := "joist/joistlaw23.MoveSteps", spec := "moveSteps", unfollowed := true, recurses := true, apart := false, narrowed := true }
def MoveStepsUptoSaid : Prop := moveStepsUptoRow.holds Tryz.pinned (OpenSpec.upto moveStepsSpec)

/-- 'joistlaw23.MoveBack', WHERE WHAT IT READS IS OF BULK AT MOST 1048576: true; the input reads as it did. -/
def moveBackUptoRow : OpenClaim := { program := "ytokgokbgidgfeaagreat", sum := "1e0df13798622e6c32cbd61c78f68db68b275e4550761ddea0f579005a7f2a6c", func := "joist/joistlaw23.MoveBack", spec := "moveBack", unfollowed := true, recurses := true, apart := false, narrowed := true }
def MoveBackUptoSaid : Prop := moveBackUptoRow.holds Tryz.pinned (OpenSpec.upto moveBackSpec)

/-- 'joistlaw23.MoveKeeps', WHERE WHAT IT READS IS OF BULK AT MOST 1048576: true; the input reads as it did. -/
def moveKeepsUptoRow : OpenClaim := { program := "ytokgokbgidgfeaagreat", sum := "1e0df13798622e6c32cbd61c78f68db68b275e4550761ddea0f579005a7f2a6c", func := "joist/joistlaw23.MoveKeeps", spec := "moveKeeps", unfollowed := true, recurses := true, apart := false, narrowed := true }
def MoveKeepsUptoSaid : Prop := moveKeepsUptoRow.holds Tryz.pinned (OpenSpec.upto moveKeepsSpec)

/-- 'joistlaw23.MoveDone', WHERE WHAT IT READS IS OF BULK AT MOST 1048576: true; the input reads as it did. -/
def moveDoneUptoRow : OpenClaim := { program := "ytokgokbgidgfeaagreat", sum := "1e0df13798622e6c32cbd61c78f68db68b275e4550761ddea0f579005a7f2a6c", func := "joist/joistlaw23.MoveDone", spec := "moveDone", unfollowed := true, recurses := true, apart := false, narrowed := true }
def MoveDoneUptoSaid : Prop := moveDoneUptoRow.holds Tryz.pinned (OpenSpec.upto moveDoneSpec)

/-- 'joistlaw23.MoveRounds', WHERE WHAT IT READS IS OF BULK AT MOST 1048576: true; the input reads as it did. -/
def moveRoundsUptoRow : OpenClaim := { program := "ytokgokbgidgfeaagreat", sum := "1e0df13798622e6c32cbd61c78f68db68b275e4550761ddea0f579005a7f2a6c", func := "joist/joistlaw23.MoveRounds", spec := "moveRounds", unfollowed := true, recurses := true, apart := false, narrowed := true }
def MoveRoundsUptoSaid : Prop := moveRoundsUptoRow.holds Tryz.pinned (OpenSpec.upto moveRoundsSpec)

/-- 'joistlaw22.OpsDoes', WHERE WHAT IT READS IS OF BULK AT MOST 1048576: true; the input reads as it did. -/
def opsDoesUptoRow : OpenClaim := { program := "ytokgokbgidgfeaagreat", sum := "1e0df13798622e6c32cbd61c78f68db68b275e4550761ddea0f579005a7f2a6c", func := "joist/joistlaw22.OpsDoes", spec := "opsDoes", unfollowed := true, recurses := true, apart := false, narrowed := true }
def OpsDoesUptoSaid : Prop := opsDoesUptoRow.holds Tryz.pinned (OpenSpec.upto opsDoesSpec)

/-- 'joistlaw22.OpsTxs', WHERE WHAT IT READS IS OF BULK AT MOST 1048576: true; the input reads as it did. -/
def opsTxsUptoRow : OpenClaim := { program := "ytokgokbgidgfeaagreat", sum := "1e0df13798622e6c32cbd61c78f68db68b275e4550761ddea0f579005a7f2a6c", func := "joist/joistlaw22.OpsTxs", spec := "opsTxs", unfollowed := true, recurses := true, apart := false, narrowed := true }
def OpsTxsUptoSaid : Prop := opsTxsUptoRow.holds Tryz.pinned (OpenSpec.upto opsTxsSpec)

/-- 'joistlaw22.OpsEmpties', WHERE WHAT IT READS IS OF BULK AT MOST 1048576: true; the input reads as it did. -/
def opsEmptiesUptoRow : OpenClaim := { program := "ytokgokbgidgfeaagreat", sum := "1e0df13798622e6c32cbd61c78f68db68b275e4550761ddea0f579005a7f2a6c", func := "joist/joistlaw22.OpsEmpties", spec := "opsEmpties", unfollowed := true, recurses := true, apart := false, narrowed := true }
def OpsEmptiesUptoSaid : Prop := opsEmptiesUptoRow.holds Tryz.pinned (OpenSpec.upto opsEmptiesSpec)

/-- 'joistlaw22.OpsMeans', WHERE WHAT IT READS IS OF BULK AT MOST 1048576: true; the input reads as it did. -/
def opsMeansUptoRow : OpenClaim := { program := "ytokgokbgidgfeaagreat", sum := "1e0df13798622e6c32cbd61c78f68db68b275e4550761ddea0f579005a7f2a6c", func := "joist/joistlaw22.OpsMeans", spec := "opsMeans", unfollowed := true, recurses := true, apart := false, narrowed := true }
def OpsMeansUptoSaid : Prop := opsMeansUptoRow.holds Tryz.pinned (OpenSpec.upto opsMeansSpec)

/-- 'joistlaw22.OpsWhole', WHERE WHAT IT READS IS OF BULK AT MOST 1048576: true; the input reads as it did. -/
def opsWholeUptoRow : OpenClaim := { program := "ytokgokbgidgfeaagreat", sum := "1e0df13798622e6c32cbd61c78f68db68b275e4550761ddea0f579005a7f2a6c", func := "joist/joistlaw22.OpsWhole", spec := "opsWhole", unfollowed := true, recurses := true, apart := false, narrowed := true }
def OpsWholeUptoSaid : Prop := opsWholeUptoRow.holds Tryz.pinned (OpenSpec.upto opsWholeSpec)

/-- 'joistlaw22.OpsReads', WHERE WHAT IT READS IS OF BULK AT MOST 1048576: true; the input reads as it did. -/
def opsReadsUptoRow : OpenClaim := { program := "ytokgokbgidgfeaagreat", sum := "1e0df13798622e6c32cbd61c78f68db68b275e4550761ddea0f579005a7f2a6c", func := "joist/joistlaw22.OpsReads", spec := "opsReads", unfollowed := true, recurses := true, apart := false, narrowed := true }
def OpsReadsUptoSaid : Prop := opsReadsUptoRow.holds Tryz.pinned (OpenSpec.upto opsReadsSpec)

end Rows
end Go.Proofs.YtokgokbgidgfeaaGreat
