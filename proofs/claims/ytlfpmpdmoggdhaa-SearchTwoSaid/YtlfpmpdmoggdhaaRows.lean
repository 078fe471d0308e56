/-
  No cell of these rows narrows 'for every input' (looked for: loops, veiled, ifaces, maps, wideKeys, modest, calm, conditions, laid).
  DERIVED. THE GIVEN ROWS OF THIS SEAT. 4 by the template 'for every input the law returns true; each argument reads behind the call as it read before'; 0 by the template 'total and deterministic' (their statements: YtlfpmpdmoggdhaaTotals.lean).
  GIVEN WITH THE SEED: the statements are not yours to turn. If you find one false, say at which input.
  Laid BY PROGRAM, IN A SANDBOX (cutbox-rows.mjs): the forced cells as the released guide's own fill.sh prints them over the translation 239c4aec650586ba… (all of the seat's roots in one cut). By AI agents, Wed Nov 11 2026. No macro, syntax, notation, axiom, sorry.
-/
import Derived.Test.YtlfpmpdmoggdhaaChecked
import GoSem.Claim
import GoSem.ClaimJoined
import GoSem.ClaimMapViews
import Derived.JoinedTies
import Derived.KernelRfl
namespace Go.Proofs.Ytlfpmpdmoggdhaa
/- THE CELL 'sum', in the pinned program and in every row, IS THE sha256 OF THE DUMP (.gsa) THAT YtlfpmpdmoggdhaaProg.lean LOADS. Nothing in Lean hashes anything: it is a label: what it is worth is what the hold of that sum in a sandbox is worth. -/
noncomputable def Try.pinned : Pinned := { name := "ytlfpmpdmoggdhaa", sum := "239c4aec650586ba760b7a4e291304d282299cfe945069ae0d9892a41a5039ec", checked := Try.checked }
namespace Rows
def none {H : Type} : Left H := { results := [], args := [] }

/-- 'copselaw22.SearchRuns': WHATEVER THE INPUT: true; the input reads as it did. -/
def searchRunsSpec : ChangeSpec := { name := "searchRuns", fn := fun _ => fun
  | [] => { results := [.lit (.bool true)], args := [] }
  | _ => none }
def searchRunsRow : OpenClaim := { program := "ytlfpmpdmoggdhaa", sum := "239c4aec650586ba760b7a4e291304d282299cfe945069ae0d9892a41a5039ec", func := "copse/copselaw22.SearchRuns", spec := "searchRuns", unfollowed := true, recurses := true, apart := false }
def SearchRunsSaid : Prop := searchRunsRow.holds Try.pinned (OpenSpec.ofChange searchRunsSpec)

/-- ITS FALSE NEIGHBOUR: 'it returns false'. Refute it at one input. -/
def searchRunsWrong : ChangeSpec := { name := "searchRuns", fn := fun _ => fun
  | [] => { results := [.lit (.bool false)], args := [] }
  | _ => none }
def SearchRunsWrongFalsely : Prop := searchRunsRow.holds Try.pinned (OpenSpec.ofChange searchRunsWrong)

/-- 'copselaw22.SearchPoint': WHATEVER THE INPUT: true; the input reads as it did. -/
def searchPointSpec : ChangeSpec := { name := "searchPoint", fn := fun _ => fun
  | [d1, d2, d3] => { results := [.lit (.bool true)], args := [d1, d2, d3] }
  | _ => none }
def searchPointRow : OpenClaim := { program := "ytlfpmpdmoggdhaa", sum := "239c4aec650586ba760b7a4e291304d282299cfe945069ae0d9892a41a5039ec", func := "copse/copselaw22.SearchPoint", spec := "searchPoint", unfollowed := true, recurses := true, apart := false }
def SearchPointSaid : Prop := searchPointRow.holds Try.pinned (OpenSpec.ofChange searchPointSpec)

/-- ITS FALSE NEIGHBOUR: 'it returns false'. Refute it at one input. -/
def searchPointWrong : ChangeSpec := { name := "searchPoint", fn := fun _ => fun
  | [d1, d2, d3] => { results := [.lit (.bool false)], args := [d1, d2, d3] }
  | _ => none }
def SearchPointWrongFalsely : Prop := searchPointRow.holds Try.pinned (OpenSpec.ofChange searchPointWrong)

/-- 'copselaw22.SearchTwo': WHATEVER THE INPUT: true; the input reads as it did. -/
def searchTwoSpec : ChangeSpec := { name := "searchTwo", fn := fun _ => fun
  | [d1, d2, d3, d4, d5] => { results := [.lit (.bool true)], args := [d1, d2, d3, d4, d5] }
  | _ => none }
def searchTwoRow : OpenClaim := { program := "ytlfpmpdmoggdhaa", sum := "239c4aec650586ba760b7a4e291304d282299cfe945069ae0d9892a41a5039ec", func := "copse/copselaw22.SearchTwo", spec := "searchTwo", unfollowed := true, recurses := true, apart := false }
def SearchTwoSaid : Prop := searchTwoRow.holds Try.pinned (OpenSpec.ofChange searchTwoSpec)

/-- ITS FALSE NEIGHBOUR: 'it returns false'. Refute it at one input. -/
def searchTwoWrong : ChangeSpec := { name := "searchTwo", fn := fun _ => fun
  | [d1, d2, d3, d4, d5] => { results := [.lit (.bool false)], args := [d1, d2, d3, d4, d5] }
  | _ => none }
def SearchTwoWrongFalsely : Prop := searchTwoRow.holds Try.pinned (OpenSpec.ofChange searchTwoWrong)

/-- 'copselaw22.SearchLeft': WHATEVER THE INPUT: true; the input reads as it did. -/
def searchLeftSpec : ChangeSpec := { name := "searchLeft", fn := fun _ => fun
  | [d1, d2, d3] => { results := [.lit (.bool true)], args := [d1, d2, d3] }
  | _ => none }
def searchLeftRow : OpenClaim := { program := "ytlfpmpdmoggdhaa", sum := "239c4aec650586ba760b7a4e291304d282299cfe945069ae0d9892a41a5039ec", func := "copse/copselaw22.SearchLeft", spec := "searchLeft", unfollowed := true, recurses := true, apart := false }
def SearchLeftSaid : Prop := searchLeftRow.holds Try.pinned (OpenSpec.ofChange searchLeftSpec)

/-- ITS FALSE NEIGHBOUR: 'it returns false'. Refute it at one input. -/
def searchLeftWrong : ChangeSpec := { name := "searchLeft", fn := fun _ => fun
  | [d1, d2, d3] => { results := [.lit (.bool false)], args := [d1, d2, d3] }
  | _ => none }
def SearchLeftWrongFalsely : Prop := searchLeftRow.holds Try.pinned (OpenSpec.ofChange searchLeftWrong)

/- THE SECOND FORM. 'bulk': how many values and letters a reading holds, each counted each time it is reached (what is shared counts as often as it is met; a slice's spare places count too). A statement '..UptoSaid' is the law's where the arguments, and the package variables that the reading takes, are together of bulk at most 1048576: NARROWER than '..Said'. Prove '..Said' where nothing that the law and all that it calls make is longer than what came in: it says more and counts as full. Else prove '..UptoSaid'. A law counts once. -/
mutual
def uptoBulk {H : Type} : DataW H → Nat
  | .lit (.string bytes) => bytes.length + 1
  | .lit _ => 1
  | .nil => 1
  | .ptr d => uptoBulk d + 1
  | .slice elems spare => uptoBulkAll elems + uptoBulkAll spare + 1
  | .agg parts => uptoBulkAll parts + 1
  | .iface _ d => uptoBulk d + 1
  | .map entries => uptoBulkEntries entries + 1
  | .held _ => 1
def uptoBulkAll {H : Type} : List (DataW H) → Nat
  | [] => 0
  | d :: r => uptoBulk d + uptoBulkAll r
def uptoBulkEntries {H : Type} : List (Lit × DataW H) → Nat
  | [] => 0
  | x :: r => uptoBulkEntry x + uptoBulkEntries r
def uptoBulkEntry {H : Type} : Lit × DataW H → Nat
  | (.string bytes, d) => bytes.length + uptoBulk d + 1
  | (_, d) => uptoBulk d + 1
 end
def uptoSmall : (H : Type) → List (DataW H) → Bool := fun _ ds => decide (uptoBulkAll ds ≤ 1048576)
def OpenSpec.upto (s : _root_.Go.ChangeSpec) : _root_.Go.OpenSpec := { _root_.Go.OpenSpec.ofChange s with cond := some uptoSmall }

/-- 'copselaw22.SearchRuns', WHERE WHAT IT READS IS OF BULK AT MOST 1048576: true; the input reads as it did. -/
def searchRunsUptoRow : OpenClaim := { program := "ytlfpmpdmoggdhaa", sum := "239c4aec650586ba760b7a4e291304d282299cfe945069ae0d9892a41a5039ec", func := "copse/copselaw22.SearchRuns", spec := "searchRuns", unfollowed := true, recurses := true, apart := false, narrowed := true }
def SearchRunsUptoSaid : Prop := searchRunsUptoRow.holds Try.pinned (OpenSpec.upto searchRunsSpec)

/-- 'copselaw22.SearchPoint', WHERE WHAT IT READS IS OF BULK AT MOST 1048576: true; the input reads as it did. -/
def searchPointUptoRow : OpenClaim := { program := "ytlfpmpdmoggdhaa", sum := "239c4aec650586ba760b7a4e291304d282299cfe945069ae0d9892a41a5039ec", func := "copse/copselaw22.SearchPoint", spec := "searchPoint", unfollowed := true, recurses := true, apart := false, narrowed := true }
def SearchPointUptoSaid : Prop := searchPointUptoRow.holds Try.pinned (OpenSpec.upto searchPointSpec)

/-- 'copselaw22.SearchTwo', WHERE WHAT IT READS IS OF BULK AT MOST 1048576: true; the input reads as it did. -/
def searchTwoUptoRow : OpenClaim := { program := "ytlfpmpdmoggdhaa", sum := "239c4aec650586ba760b7a4e291304d282299cfe945069ae0d9892a41a5039ec", func := "copse/copselaw22.SearchTwo", spec := "searchTwo", unfollowed := true, recurses := true, apart := false, narrowed := true }
def SearchTwoUptoSaid : Prop := searchTwoUptoRow.holds Try.pinned (OpenSpec.upto searchTwoSpec)

/-- 'copselaw22.SearchLeft', WHERE WHAT IT READS IS OF BULK AT MOST 1048576: true; the input reads as it did. -/
def searchLeftUptoRow : OpenClaim := { program := "ytlfpmpdmoggdhaa", sum := "239c4aec650586ba760b7a4e291304d282299cfe945069ae0d9892a41a5039ec", func := "copse/copselaw22.SearchLeft", spec := "searchLeft", unfollowed := true, recurses := true, apart := false, narrowed := true }
def SearchLeftUptoSaid : Prop := searchLeftUptoRow.holds Try.pinned (OpenSpec.upto searchLeftSpec)

end Rows
end Go.Proofs.Ytlfpmpdmoggdhaa
