/-
  No cell of these rows narrows 'for every input' (looked for: loops, veiled, ifaces, maps, wideKeys, modest, calm, conditions, laid).
  DERIVED. THE GIVEN ROWS OF THIS SEAT. 6 by the template 'for every input the law returns true; each argument reads behind the call as it read before'; 0 by the template 'total and deterministic' (their statements: YtokgokbgidgfeaaTotals.lean).
  GIVEN WITH THE SEED: the statements are not yours to turn. If you find one false, say at which input.
  Laid BY PROGRAM, IN A SANDBOX (cutbox-rows.mjs): the forced cells as the released guide's own fill.sh prints them over the translation 7904da7f36bed189… (all of the seat's roots in one cut). By AI agents, Wed Nov 11 2026. No macro, syntax, notation, axiom, sorry.
-/
import Derived.Test.YtokgokbgidgfeaaChecked
import GoSem.Claim
import GoSem.ClaimJoined
import GoSem.ClaimMapViews
import Derived.JoinedTies
import Derived.KernelRfl
namespace Go.Proofs.Ytokgokbgidgfeaa
/- THE CELL 'sum', in the pinned program and in every row, IS THE sha256 OF THE DUMP (.gsa) THAT YtokgokbgidgfeaaProg.lean LOADS. Nothing in Lean hashes anything: it is a label: what it is worth is what the hold of that sum in a sandbox is worth. -/
noncomputable def Try.pinned : Pinned := { name := "ytokgokbgidgfeaa", sum := "7904da7f36bed18955c4627ec8a465e4865f0854b48629fe00f2194ae46f6b94", checked := Try.checked }
namespace Rows
def none {H : Type} : Left H := { results := [], args := [] }

/-- 'joistlaw20.ModelDoes': WHATEVER THE INPUT: true; the input reads as it did. -/
def modelDoesSpec : ChangeSpec := { name := "modelDoes", fn := fun _ => fun
  | [d1, d2] => { results := [.lit (.bool true)], args := [d1, d2] }
  | _ => none }
def modelDoesRow : OpenClaim := { program := "ytokgokbgidgfeaa", sum := "7904da7f36bed18955c4627ec8a465e4865f0854b48629fe00f2194ae46f6b94", func := "joist/joistlaw20.ModelDoes", spec := "modelDoes", unfollowed := true, recurses := true, apart := false }
def ModelDoesSaid : Prop := modelDoesRow.holds Try.pinned (OpenSpec.ofChange modelDoesSpec)

/-- ITS FALSE NEIGHBOUR: 'it returns false'. Refute it at one input. -/
def modelDoesWrong : ChangeSpec := { name := "modelDoes", fn := fun _ => fun
  | [d1, d2] => { results := [.lit (.bool false)], args := [d1, d2] }
  | _ => none }
def ModelDoesWrongFalsely : Prop := modelDoesRow.holds Try.pinned (OpenSpec.ofChange modelDoesWrong)

/-- 'joistlaw20.ModelTells': WHATEVER THE INPUT: true; the input reads as it did. -/
def modelTellsSpec : ChangeSpec := { name := "modelTells", fn := fun _ => fun
  | [d1, d2, d3] => { results := [.lit (.bool true)], args := [d1, d2, d3] }
  | _ => none }
def modelTellsRow : OpenClaim := { program := "ytokgokbgidgfeaa", sum := "7904da7f36bed18955c4627ec8a465e4865f0854b48629fe00f2194ae46f6b94", func := "joist/joistlaw20.ModelTells", spec := "modelTells", unfollowed := true, recurses := true, apart := false }
def ModelTellsSaid : Prop := modelTellsRow.holds Try.pinned (OpenSpec.ofChange modelTellsSpec)

/-- ITS FALSE NEIGHBOUR: 'it returns false'. Refute it at one input. -/
def modelTellsWrong : ChangeSpec := { name := "modelTells", fn := fun _ => fun
  | [d1, d2, d3] => { results := [.lit (.bool false)], args := [d1, d2, d3] }
  | _ => none }
def ModelTellsWrongFalsely : Prop := modelTellsRow.holds Try.pinned (OpenSpec.ofChange modelTellsWrong)

/-- 'joistlaw21.PlaceFull': WHATEVER THE INPUT: true; the input reads as it did. -/
def placeFullSpec : ChangeSpec := { name := "placeFull", fn := fun _ => fun
  | [d1, d2, d3, d4] => { results := [.lit (.bool true)], args := [d1, d2, d3, d4] }
  | _ => none }
def placeFullRow : OpenClaim := { program := "ytokgokbgidgfeaa", sum := "7904da7f36bed18955c4627ec8a465e4865f0854b48629fe00f2194ae46f6b94", func := "joist/joistlaw21.PlaceFull", spec := "placeFull", unfollowed := true, recurses := true, apart := false }
def PlaceFullSaid : Prop := placeFullRow.holds Try.pinned (OpenSpec.ofChange placeFullSpec)

/-- ITS FALSE NEIGHBOUR: 'it returns false'. Refute it at one input. -/
def placeFullWrong : ChangeSpec := { name := "placeFull", fn := fun _ => fun
  | [d1, d2, d3, d4] => { results := [.lit (.bool false)], args := [d1, d2, d3, d4] }
  | _ => none }
def PlaceFullWrongFalsely : Prop := placeFullRow.holds Try.pinned (OpenSpec.ofChange placeFullWrong)

/-- 'joistlaw21.PlaceStays': WHATEVER THE INPUT: true; the input reads as it did. -/
def placeStaysSpec : ChangeSpec := { name := "placeStays", fn := fun _ => fun
  | [d1, d2, d3, d4] => { results := [.lit (.bool true)], args := [d1, d2, d3, d4] }
  | _ => none }
def placeStaysRow : OpenClaim := { program := "ytokgokbgidgfeaa", sum := "7904da7f36bed18955c4627ec8a465e4865f0854b48629fe00f2194ae46f6b94", func := "joist/joistlaw21.PlaceStays", spec := "placeStays", unfollowed := true, recurses := true, apart := false }
def PlaceStaysSaid : Prop := placeStaysRow.holds Try.pinned (OpenSpec.ofChange placeStaysSpec)

/-- ITS FALSE NEIGHBOUR: 'it returns false'. Refute it at one input. -/
def placeStaysWrong : ChangeSpec := { name := "placeStays", fn := fun _ => fun
  | [d1, d2, d3, d4] => { results := [.lit (.bool false)], args := [d1, d2, d3, d4] }
  | _ => none }
def PlaceStaysWrongFalsely : Prop := placeStaysRow.holds Try.pinned (OpenSpec.ofChange placeStaysWrong)

/-- 'joistlaw21.PlaceKeeps': WHATEVER THE INPUT: true; the input reads as it did. -/
def placeKeepsSpec : ChangeSpec := { name := "placeKeeps", fn := fun _ => fun
  | [d1, d2, d3, d4, d5] => { results := [.lit (.bool true)], args := [d1, d2, d3, d4, d5] }
  | _ => none }
def placeKeepsRow : OpenClaim := { program := "ytokgokbgidgfeaa", sum := "7904da7f36bed18955c4627ec8a465e4865f0854b48629fe00f2194ae46f6b94", func := "joist/joistlaw21.PlaceKeeps", spec := "placeKeeps", unfollowed := true, recurses := true, apart := false }
def PlaceKeepsSaid : Prop := placeKeepsRow.holds Try.pinned (OpenSpec.ofChange placeKeepsSpec)

/-- ITS FALSE NEIGHBOUR: 'it returns false'. Refute it at one input. -/
def placeKeepsWrong : ChangeSpec := { name := "placeKeeps", fn := fun _ => fun
  | [d1, d2, d3, d4, d5] => { results := [.lit (.bool false)], args := [d1, d2, d3, d4, d5] }
  | _ => none }
def PlaceKeepsWrongFalsely : Prop := placeKeepsRow.holds Try.pinned (OpenSpec.ofChange placeKeepsWrong)

/-- 'joistlaw21.PlaceMoves': WHATEVER THE INPUT: true; the input reads as it did. -/
def placeMovesSpec : ChangeSpec := { name := "placeMoves", fn := fun _ => fun
  | [d1, d2, d3, d4, d5] => { results := [.lit (.bool true)], args := [d1, d2, d3, d4, d5] }
  | _ => none }
def placeMovesRow : OpenClaim := { program := "ytokgokbgidgfeaa", sum := "7904da7f36bed18955c4627ec8a465e4865f0854b48629fe00f2194ae46f6b94", func := "joist/joistlaw21.PlaceMoves", spec := "placeMoves", unfollowed := true, recurses := true, apart := false }
def PlaceMovesSaid : Prop := placeMovesRow.holds Try.pinned (OpenSpec.ofChange placeMovesSpec)

/-- ITS FALSE NEIGHBOUR: 'it returns false'. Refute it at one input. -/
def placeMovesWrong : ChangeSpec := { name := "placeMoves", fn := fun _ => fun
  | [d1, d2, d3, d4, d5] => { results := [.lit (.bool false)], args := [d1, d2, d3, d4, d5] }
  | _ => none }
def PlaceMovesWrongFalsely : Prop := placeMovesRow.holds Try.pinned (OpenSpec.ofChange placeMovesWrong)

/- THE SECOND FORM. 'bulk': how many values and letters a reading holds, each counted each time it is reached (what is shared counts as often as it is met; a slice's spare places count too). A statement '..UptoSaid' is the law's where the arguments, and the package variables that the reading takes, are together of bulk at most 1048576: NARROWER than '..Said'. Prove '..Said' where nothing that the law and all that it calls make is longer than what came in: it says more and counts as full. Else prove '..UptoSaid'. A law counts once. -/
mutual
def uptoBulk {H : Type} : DataW H → Nat
  | .lit (.string bytes) => bytes.length + 1
  | .lit _ => 1
  | .nil => 1
  | .ptr d => uptoBulk d + 1
  | .slice elems spare => uptoBulkAll elems + uptoBulkAll spare + 1
  | .agg parts => uptoBulkAll parts + 1
  | .iface _ d => uptoBulk d + 1
  | .map entries => uptoBulkEntries entries + 1
  | .held _ => 1
def uptoBulkAll {H : Type} : List (DataW H) → Nat
  | [] => 0
  | d :: r => uptoBulk d + uptoBulkAll r
def uptoBulkEntries {H : Type} : List (Lit × DataW H) → Nat
  | [] => 0
  | x :: r => uptoBulkEntry x + uptoBulkEntries r
def uptoBulkEntry {H : Type} : Lit × DataW H → Nat
  | (.string bytes, d) => bytes.length + uptoBulk d + 1
  | (_, d) => uptoBulk d + 1
 end
def uptoSmall : (H : Type) → List (DataW H) → Bool := fun _ ds => decide (uptoBulkAll ds ≤ 1048576)
def OpenSpec.upto (s : _root_.Go.ChangeSpec) : _root_.Go.OpenSpec := { _root_.Go.OpenSpec.ofChange s with cond := some uptoSmall }

/-- 'joistlaw20.ModelDoes', WHERE WHAT IT READS IS OF BULK AT MOST 1048576: true; the input reads as it did. -/
def modelDoesUptoRow : OpenClaim := { program := "ytokgokbgidgfeaa", sum := "7904da7f36bed18955c4627ec8a465e4865f0854b48629fe00f2194ae46f6b94", func := "joist/joistlaw20.ModelDoes", spec := "modelDoes", unfollowed := true, recurses := true, apart := false, narrowed := true }
def ModelDoesUptoSaid : Prop := modelDoesUptoRow.holds Try.pinned (OpenSpec.upto modelDoesSpec)

/-- 'joistlaw20.ModelTells', WHERE WHAT IT READS IS OF BULK AT MOST 1048576: true; the input reads as it did. -/
def modelTellsUptoRow : OpenClaim := { program := "ytokgokbgidgfeaa", sum := "7904da7f36bed18955c4627ec8a465e4865f0854b48629fe00f2194ae46f6b94", func := "joist/joistlaw20.ModelTells", spec := "modelTells", unfollowed := true, recurses := true, apart := false, narrowed := true }
def ModelTellsUptoSaid : Prop := modelTellsUptoRow.holds Try.pinned (OpenSpec.upto modelTellsSpec)

/-- 'joistlaw21.PlaceFull', WHERE WHAT IT READS IS OF BULK AT MOST 1048576: true; the input reads as it did. -/
def placeFullUptoRow : OpenClaim := { program := "ytokgokbgidgfeaa", sum := "7904da7f36bed18955c4627ec8a465e4865f0854b48629fe00f2194ae46f6b94", func := "joist/joistlaw21.PlaceFull", spec := "placeFull", unfollowed := true, recurses := true, apart := false, narrowed := true }
def PlaceFullUptoSaid : Prop := placeFullUptoRow.holds Try.pinned (OpenSpec.upto placeFullSpec)

/-- 'joistlaw21.PlaceStays', WHERE WHAT IT READS IS OF BULK AT MOST 1048576: true; the input reads as it did. -/
def placeStaysUptoRow : OpenClaim := { program := "ytokgokbgidgfeaa", sum := "7904da7f36bed18955c4627ec8a465e4865f0854b48629fe00f2194ae46f6b94", func := "joist/joistlaw21.PlaceStays", spec := "placeStays", unfollowed := true, recurses := true, apart := false, narrowed := true }
def PlaceStaysUptoSaid : Prop := placeStaysUptoRow.holds Try.pinned (OpenSpec.upto placeStaysSpec)

/-- 'joistlaw21.PlaceKeeps', WHERE WHAT IT READS IS OF BULK AT MOST 1048576: true; the input reads as it did. -/
def placeKeepsUptoRow : OpenClaim := { program := "ytokgokbgidgfeaa", sum := "7904da7f36bed18955c4627ec8a465e4865f0854b48629fe00f2194ae46f6b94", func := "joist/joistlaw21.PlaceKeeps", spec := "placeKeeps", unfollowed := true, recurses := true, apart := false, narrowed := true }
def PlaceKeepsUptoSaid : Prop := placeKeepsUptoRow.holds Try.pinned (OpenSpec.upto placeKeepsSpec)

/-- 'joistlaw21.PlaceMoves', WHERE WHAT IT READS IS OF BULK AT MOST 1048576: true; the input reads as it did. -/
def placeMovesUptoRow : OpenClaim := { program := "ytokgokbgidgfeaa", sum := "7904da7f36bed18955c4627ec8a465e4865f0854b48629fe00f2194ae46f6b94", func := "joist/joistlaw21.PlaceMoves", spec := "placeMoves", unfollowed := true, recurses := true, apart := false, narrowed := true }
def PlaceMovesUptoSaid : Prop := placeMovesUptoRow.holds Try.pinned (OpenSpec.upto placeMovesSpec)

end Rows
end Go.Proofs.Ytokgokbgidgfeaa
