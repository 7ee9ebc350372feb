/-
  No cell of these rows narrows 'for every input' (looked for: loops, veiled, ifaces, maps, wideKeys, modest, calm, conditions, laid).
  DERIVED. THE GIVEN ROWS OF THIS SEAT. 9 by the template 'for every input the law returns true; each argument reads behind the call as it read before'; 0 by the template 'total and deterministic' (their statements: YtaeglabjhpfepaaTotals.lean).
  GIVEN WITH THE SEED: the statements are not yours to turn. If you find one false, say at which input.
  Laid BY PROGRAM, IN A SANDBOX (cutbox-rows.mjs): the forced cells as the released guide's own fill.sh prints them over the translation bc6a56799fc0ff10… (all of the seat's roots in one cut). By AI agents, Wed Nov 11 2026. No macro, syntax, notation, axiom, sorry.
-/
import Derived.Test.YtaeglabjhpfepaaChecked
import GoSem.Claim
import GoSem.ClaimJoined
import GoSem.ClaimMapViews
import Derived.JoinedTies
import Derived.KernelRfl
namespace Go.Proofs.Ytaeglabjhpfepaa
/- THE CELL 'sum', in the pinned program and in every row, IS THE sha256 OF THE DUMP (.gsa) THAT YtaeglabjhpfepaaProg.lean LOADS. Nothing in Lean hashes anything: it is a label: what it is worth is what the hold of that sum in a sandbox is worth. -/
noncomputable def Try.pinned : Pinned := { name := "ytaeglabjhpfepaa", sum := "bc6a56799fc0ff104cc1d0c192ea306eb7c29049050fdda0b5a307ca22b6cdfa", checked := Try.checked }
namespace Rows
def none {H : Type} : Left H := { results := [], args := [] }

/-- 'joistlaw20.ModelKeeps': WHATEVER THE INPUT: true; the input reads as it did. -/
def modelKeepsSpec : ChangeSpec := { name := "modelKeeps", fn := fun _ => fun
  | [d1, d2] => { results := [.lit (.bool true)], args := [d1, d2] }
  | _ => none }
def modelKeepsRow : OpenClaim := { program := "ytaeglabjhpfepaa", sum := "bc6a56799fc0ff104cc1d0c192ea306eb7c29049050fdda0b5a307ca22b6cdfa", func := "joist/joistlaw20.ModelKeeps", spec := "modelKeeps", unfollowed := true, recurses := true, apart := false }
def ModelKeepsSaid : Prop := modelKeepsRow.holds Try.pinned (OpenSpec.ofChange modelKeepsSpec)

/-- ITS FALSE NEIGHBOUR: 'it returns false'. Refute it at one input. -/
def modelKeepsWrong : ChangeSpec := { name := "modelKeeps", fn := fun _ => fun
  | [d1, d2] => { results := [.lit (.bool false)], args := [d1, d2] }
  | _ => none }
def ModelKeepsWrongFalsely : Prop := modelKeepsRow.holds Try.pinned (OpenSpec.ofChange modelKeepsWrong)

/-- 'joistlaw20.ModelReads': WHATEVER THE INPUT: true; the input reads as it did. -/
def modelReadsSpec : ChangeSpec := { name := "modelReads", fn := fun _ => fun
  | [d1, d2, d3, d4, d5] => { results := [.lit (.bool true)], args := [d1, d2, d3, d4, d5] }
  | _ => none }
def modelReadsRow : OpenClaim := { program := "ytaeglabjhpfepaa", sum := "bc6a56799fc0ff104cc1d0c192ea306eb7c29049050fdda0b5a307ca22b6cdfa", func := "joist/joistlaw20.ModelReads", spec := "modelReads", unfollowed := true, recurses := true, apart := false }
def ModelReadsSaid : Prop := modelReadsRow.holds Try.pinned (OpenSpec.ofChange modelReadsSpec)

/-- ITS FALSE NEIGHBOUR: 'it returns false'. Refute it at one input. -/
def modelReadsWrong : ChangeSpec := { name := "modelReads", fn := fun _ => fun
  | [d1, d2, d3, d4, d5] => { results := [.lit (.bool false)], args := [d1, d2, d3, d4, d5] }
  | _ => none }
def ModelReadsWrongFalsely : Prop := modelReadsRow.holds Try.pinned (OpenSpec.ofChange modelReadsWrong)

/-- 'joistlaw20.ModelFills': WHATEVER THE INPUT: true; the input reads as it did. -/
def modelFillsSpec : ChangeSpec := { name := "modelFills", fn := fun _ => fun
  | [d1, d2] => { results := [.lit (.bool true)], args := [d1, d2] }
  | _ => none }
def modelFillsRow : OpenClaim := { program := "ytaeglabjhpfepaa", sum := "bc6a56799fc0ff104cc1d0c192ea306eb7c29049050fdda0b5a307ca22b6cdfa", func := "joist/joistlaw20.ModelFills", spec := "modelFills", unfollowed := true, recurses := true, apart := false }
def ModelFillsSaid : Prop := modelFillsRow.holds Try.pinned (OpenSpec.ofChange modelFillsSpec)

/-- ITS FALSE NEIGHBOUR: 'it returns false'. Refute it at one input. -/
def modelFillsWrong : ChangeSpec := { name := "modelFills", fn := fun _ => fun
  | [d1, d2] => { results := [.lit (.bool false)], args := [d1, d2] }
  | _ => none }
def ModelFillsWrongFalsely : Prop := modelFillsRow.holds Try.pinned (OpenSpec.ofChange modelFillsWrong)

/-- 'joistlaw20.ModelDoes': WHATEVER THE INPUT: true; the input reads as it did. -/
def modelDoesSpec : ChangeSpec := { name := "modelDoes", fn := fun _ => fun
  | [d1, d2] => { results := [.lit (.bool true)], args := [d1, d2] }
  | _ => none }
def modelDoesRow : OpenClaim := { program := "ytaeglabjhpfepaa", sum := "bc6a56799fc0ff104cc1d0c192ea306eb7c29049050fdda0b5a307ca22b6cdfa", func := "joist/joistlaw20.ModelDoes", spec := "modelDoes", unfollowed := true, recurses := true, apart := false }
def ModelDoesSaid : Prop := modelDoesRow.holds Try.pinned (OpenSpec.ofChange modelDoesSpec)

/-- ITS FALSE NEIGHBOUR: 'it returns false'. Refute it at one input. -/
def modelDoesWrong : ChangeSpec := { name := "modelDoes", fn := fun _ => fun
  | [d1, d2] => { results := [.lit (.bool false)], args := [d1, d2] }
  | _ => none }
def ModelDoesWrongFalsely : Prop := modelDoesRow.holds Try.pinned (OpenSpec.ofChange modelDoesWrong)

/-- 'joistlaw20.ModelResizes': WHATEVER THE INPUT: true; the input reads as it did. -/
def modelResizesSpec : ChangeSpec := { name := "modelResizes", fn := fun _ => fun
  | [d1, d2, d3, d4] => { results := [.lit (.bool true)], args := [d1, d2, d3, d4] }
  | _ => none }
def modelResizesRow : OpenClaim := { program := "ytaeglabjhpfepaa", sum := "bc6a56799fc0ff104cc1d0c192ea306eb7c29049050fdda0b5a307ca22b6cdfa", func := "joist/joistlaw20.ModelResizes", spec := "modelResizes", unfollowed := true, recurses := true, apart := false }
def ModelResizesSaid : Prop := modelResizesRow.holds Try.pinned (OpenSpec.ofChange modelResizesSpec)

/-- ITS FALSE NEIGHBOUR: 'it returns false'. Refute it at one input. -/
def modelResizesWrong : ChangeSpec := { name := "modelResizes", fn := fun _ => fun
  | [d1, d2, d3, d4] => { results := [.lit (.bool false)], args := [d1, d2, d3, d4] }
  | _ => none }
def ModelResizesWrongFalsely : Prop := modelResizesRow.holds Try.pinned (OpenSpec.ofChange modelResizesWrong)

/-- 'joistlaw18.StateApart': WHATEVER THE INPUT: true; the input reads as it did. -/
def stateApartSpec : ChangeSpec := { name := "stateApart", fn := fun _ => fun
  | [d] => { results := [.lit (.bool true)], args := [d] }
  | _ => none }
def stateApartRow : OpenClaim := { program := "ytaeglabjhpfepaa", sum := "bc6a56799fc0ff104cc1d0c192ea306eb7c29049050fdda0b5a307ca22b6cdfa", func := "joist/joistlaw18.StateApart", spec := "stateApart", unfollowed := true, recurses := true, apart := false }
def StateApartSaid : Prop := stateApartRow.holds Try.pinned (OpenSpec.ofChange stateApartSpec)

/-- ITS FALSE NEIGHBOUR: 'it returns false'. Refute it at one input. -/
def stateApartWrong : ChangeSpec := { name := "stateApart", fn := fun _ => fun
  | [d] => { results := [.lit (.bool false)], args := [d] }
  | _ => none }
def StateApartWrongFalsely : Prop := stateApartRow.holds Try.pinned (OpenSpec.ofChange stateApartWrong)

/-- 'joistlaw18.StateCounts': WHATEVER THE INPUT: true; the input reads as it did. -/
def stateCountsSpec : ChangeSpec := { name := "stateCounts", fn := fun _ => fun
  | [d] => { results := [.lit (.bool true)], args := [d] }
  | _ => none }
def stateCountsRow : OpenClaim := { program := "ytaeglabjhpfepaa", sum := "bc6a56799fc0ff104cc1d0c192ea306eb7c29049050fdda0b5a307ca22b6cdfa", func := "joist/joistlaw18.StateCounts", spec := "stateCounts", unfollowed := true, recurses := true, apart := false }
def StateCountsSaid : Prop := stateCountsRow.holds Try.pinned (OpenSpec.ofChange stateCountsSpec)

/-- ITS FALSE NEIGHBOUR: 'it returns false'. Refute it at one input. -/
def stateCountsWrong : ChangeSpec := { name := "stateCounts", fn := fun _ => fun
  | [d] => { results := [.lit (.bool false)], args := [d] }
  | _ => none }
def StateCountsWrongFalsely : Prop := stateCountsRow.holds Try.pinned (OpenSpec.ofChange stateCountsWrong)

/-- 'joistlaw18.StateNews': WHATEVER THE INPUT: true; the input reads as it did. -/
def stateNewsSpec : ChangeSpec := { name := "stateNews", fn := fun _ => fun
  | [d1, d2] => { results := [.lit (.bool true)], args := [d1, d2] }
  | _ => none }
def stateNewsRow : OpenClaim := { program := "ytaeglabjhpfepaa", sum := "bc6a56799fc0ff104cc1d0c192ea306eb7c29049050fdda0b5a307ca22b6cdfa", func := "joist/joistlaw18.StateNews", spec := "stateNews", unfollowed := true, recurses := true, apart := false }
def StateNewsSaid : Prop := stateNewsRow.holds Try.pinned (OpenSpec.ofChange stateNewsSpec)

/-- ITS FALSE NEIGHBOUR: 'it returns false'. Refute it at one input. -/
def stateNewsWrong : ChangeSpec := { name := "stateNews", fn := fun _ => fun
  | [d1, d2] => { results := [.lit (.bool false)], args := [d1, d2] }
  | _ => none }
def StateNewsWrongFalsely : Prop := stateNewsRow.holds Try.pinned (OpenSpec.ofChange stateNewsWrong)

/-- 'joistlaw20.ModelTells': WHATEVER THE INPUT: true; the input reads as it did. -/
def modelTellsSpec : ChangeSpec := { name := "modelTells", fn := fun _ => fun
  | [d1, d2, d3] => { results := [.lit (.bool true)], args := [d1, d2, d3] }
  | _ => none }
def modelTellsRow : OpenClaim := { program := "ytaeglabjhpfepaa", sum := "bc6a56799fc0ff104cc1d0c192ea306eb7c29049050fdda0b5a307ca22b6cdfa", func := "joist/joistlaw20.ModelTells", spec := "modelTells", unfollowed := true, recurses := true, apart := false }
def ModelTellsSaid : Prop := modelTellsRow.holds Try.pinned (OpenSpec.ofChange modelTellsSpec)

/-- ITS FALSE NEIGHBOUR: 'it returns false'. Refute it at one input. -/
def modelTellsWrong : ChangeSpec := { name := "modelTells", fn := fun _ => fun
  | [d1, d2, d3] => { results := [.lit (.bool false)], args := [d1, d2, d3] }
  | _ => none }
def ModelTellsWrongFalsely : Prop := modelTellsRow.holds Try.pinned (OpenSpec.ofChange modelTellsWrong)

/- THE SECOND FORM. 'bulk': how many values and letters a reading holds, each counted each time it is reached (what is shared counts as often as it is met; a slice's spare places count too). A statement '..UptoSaid' is the law's where the arguments, and the package variables that the reading takes, are together of bulk at most 1048576: NARROWER than '..Said'. Prove '..Said' where nothing that the law and all that it calls make is longer than what came in: it says more and counts as full. Else prove '..UptoSaid'. A law counts once. -/
mutual
def uptoBulk {H : Type} : DataW H → Nat
  | .lit (.string bytes) => bytes.length + 1
  | .lit _ => 1
  | .nil => 1
  | .ptr d => uptoBulk d + 1
  | .slice elems spare => uptoBulkAll elems + uptoBulkAll spare + 1
  | .agg parts => uptoBulkAll parts + 1
  | .iface _ d => uptoBulk d + 1
  | .map entries => uptoBulkEntries entries + 1
  | .held _ => 1
def uptoBulkAll {H : Type} : List (DataW H) → Nat
  | [] => 0
  | d :: r => uptoBulk d + uptoBulkAll r
def uptoBulkEntries {H : Type} : List (Lit × DataW H) → Nat
  | [] => 0
  | x :: r => uptoBulkEntry x + uptoBulkEntries r
def uptoBulkEntry {H : Type} : Lit × DataW H → Nat
  | (.string bytes, d) => bytes.length + uptoBulk d + 1
  | (_, d) => uptoBulk d + 1
 end
def uptoSmall : (H : Type) → List (DataW H) → Bool := fun _ ds => decide (uptoBulkAll ds ≤ 1048576)
def OpenSpec.upto (s : _root_.Go.ChangeSpec) : _root_.Go.OpenSpec := { _root_.Go.OpenSpec.ofChange s with cond := some uptoSmall }

/-- 'joistlaw20.ModelKeeps', WHERE WHAT IT READS IS OF BULK AT MOST 1048576: true; the input reads as it did. -/
def modelKeepsUptoRow : OpenClaim := { program := "ytaeglabjhpfepaa", sum := "bc6a56799fc0ff104cc1d0c192ea306eb7c29049050fdda0b5a307ca22b6cdfa", func := "joist/joistlaw20.ModelKeeps", spec := "modelKeeps", unfollowed := true, recurses := true, apart := false, narrowed := true }
def ModelKeepsUptoSaid : Prop := modelKeepsUptoRow.holds Try.pinned (OpenSpec.upto modelKeepsSpec)

/-- 'joistlaw20.ModelReads', WHERE WHAT IT READS IS OF BULK AT MOST 1048576: true; the input reads as it did. -/
def modelReadsUptoRow : OpenClaim := { program := "ytaeglabjhpfepaa", sum := "bc6a56799fc0ff104cc1d0c192ea306eb7c29049050fdda0b5a307ca22b6cdfa", func := "joist/joistlaw20.ModelReads", spec := "modelReads", unfollowed := true, recurses := true, apart := false, narrowed := true }
def ModelReadsUptoSaid : Prop := modelReadsUptoRow.holds Try.pinned (OpenSpec.upto modelReadsSpec)

/-- 'joistlaw20.ModelFills', WHERE WHAT IT READS IS OF BULK AT MOST 1048576: true; the input reads as it did. -/
def modelFillsUptoRow : OpenClaim := { program := "ytaeglabjhpfepaa", sum := "bc6a56799fc0ff104cc1d0c192ea306eb7c29049050fdda0b5a307ca22b6cdfa", func := "joist/joistlaw20.ModelFills", spec := "modelFills", unfollowed := true, recurses := true, apart := false, narrowed := true }
def ModelFillsUptoSaid : Prop := modelFillsUptoRow.holds Try.pinned (OpenSpec.upto modelFillsSpec)

/-- 'joistlaw20.ModelDoes', WHERE WHAT IT READS IS OF BULK AT MOST 1048576: true; the input reads as it did. -/
def modelDoesUptoRow : OpenClaim := { program := "ytaeglabjhpfepaa", sum := "bc6a56799fc0ff104cc1d0c192ea306eb7c29049050fdda0b5a307ca22b6cdfa", func := "joist/joistlaw20.ModelDoes", spec := "modelDoes", unfollowed := true, recurses := true, apart := false, narrowed := true }
def ModelDoesUptoSaid : Prop := modelDoesUptoRow.holds Try.pinned (OpenSpec.upto modelDoesSpec)

/-- 'joistlaw20.ModelResizes', WHERE WHAT IT READS IS OF BULK AT MOST 1048576: true; the input reads as it did. -/
def modelResizesUptoRow : OpenClaim := { program := "ytaeglabjhpfepaa", sum := "bc6a56799fc0ff104cc1d0c192ea306eb7c29049050fdda0b5a307ca22b6cdfa", func := "joist/joistlaw20.ModelResizes", spec := "modelResizes", unfollowed := true, recurses := true, apart := false, narrowed := true }
def ModelResizesUptoSaid : Prop := modelResizesUptoRow.holds Try.pinned (OpenSpec.upto modelResizesSpec)

/-- 'joistlaw18.StateApart', WHERE WHAT IT READS IS OF BULK AT MOST 1048576: true; the input reads as it did. -/
def stateApartUptoRow : OpenClaim := { program := "ytaeglabjhpfepaa", sum := "bc6a56799fc0ff104cc1d0c192ea306eb7c29049050fdda0b5a307ca22b6cdfa", func := "joist/joistlaw18.StateApart", spec := "stateApart", unfollowed := true, recurses := true, apart := false, narrowed := true }
def StateApartUptoSaid : Prop := stateApartUptoRow.holds Try.pinned (OpenSpec.upto stateApartSpec)

/-- 'joistlaw18.StateCounts', WHERE WHAT IT READS IS OF BULK AT MOST 1048576: true; the input reads as it did. -/
def stateCountsUptoRow : OpenClaim := { program := "ytaeglabjhpfepaa", sum := "bc6a56799fc0ff104cc1d0c192ea306eb7c29049050fdda0b5a307ca22b6cdfa", func := "joist/joistlaw18.StateCounts", spec := "stateCounts", unfollowed := true, recurses := true, apart := false, narrowed := true }
def StateCountsUptoSaid : Prop := stateCountsUptoRow.holds Try.pinned (OpenSpec.upto stateCountsSpec)

/-- 'joistlaw18.StateNews', WHERE WHAT IT READS IS OF BULK AT MOST 1048576: true; the input reads as it did. -/
def stateNewsUptoRow : OpenClaim := { program := "ytaeglabjhpfepaa", sum := "bc6a56799fc0ff104cc1d0c192ea306eb7c29049050fdda0b5a307ca22b6cdfa", func := "joist/joistlaw18.StateNews", spec := "stateNews", unfollowed := true, recurses := true, apart := false, narrowed := true }
def StateNewsUptoSaid : Prop := stateNewsUptoRow.holds Try.pinned (OpenSpec.upto stateNewsSpec)

/-- 'joistlaw20.ModelTells', WHERE WHAT IT READS IS OF BULK AT MOST 1048576: true; the input reads as it did. -/
def modelTellsUptoRow : OpenClaim := { program := "ytaeglabjhpfepaa", sum := "bc6a56799fc0ff104cc1d0c192ea306eb7c29049050fdda0b5a307ca22b6cdfa", func := "joist/joistlaw20.ModelTells", spec := "modelTells", unfollowed := true, recurses := true, apart := false, narrowed := true }
def ModelTellsUptoSaid : Prop := modelTellsUptoRow.holds Try.pinned (OpenSpec.upto modelTellsSpec)

end Rows
end Go.Proofs.Ytaeglabjhpfepaa
