/-
  No cell of these rows narrows 'for every input' (looked for: loops, veiled, ifaces, maps, wideKeys, modest, calm, conditions, laid).
  DERIVED. THE GIVEN ROWS OF THIS SEAT. 7 by the template 'for every input the law returns true; each argument reads behind the call as it read before'; 0 by the template 'total and deterministic' (their statements: YtmgdjaiaekhkgaaGreatTotals.lean).
  GIVEN WITH THE SEED: the statements are not yours to turn. If you find one false, say at which input.
  Laid BY PROGRAM, IN A SANDBOX (cutbox-rows.mjs): the forced cells as the released guide's own fill.sh prints them over the translation 18f5b0f23d67f1f0… (all of the seat's roots in one cut). By AI agents, Wed Nov 11 2026. No macro, syntax, notation, axiom, sorry.
-/
import Derived.Test.YtmgdjaiaekhkgaaGreatChecked
import GoSem.Claim
import GoSem.ClaimJoined
import GoSem.ClaimMapViews
import Derived.JoinedTies
import Derived.KernelRfl
namespace Go.Proofs.YtmgdjaiaekhkgaaGreat
/- THE CELL 'sum', in the pinned program and in every row, IS THE sha256 OF THE DUMP (.gsa) THAT YtmgdjaiaekhkgaaGreatProg.lean LOADS. Nothing in Lean hashes anything: it is a label: what it is worth is what the hold of that sum in a sandbox is worth. -/
noncomputable def Tryz.pinned : Pinned := { name := "ytmgdjaiaekhkgaagreat", sum := "18f5b0f23d67f1f0f961583bcf4c7eb8e9feeb52a61d78ce558d460b4537e67c", checked := Tryz.checked }
namespace Rows
def none {H : Type} : Left H := { results := [], args := [] }

/-- 'laws.FnExactValidGadgets': WHATEVER THE INPUT: true; the input reads as it did. -/
def fnExactValidGadgetsSpec : ChangeSpec := { name := "fnExactValidGadgets", fn := fun _ => fun
  | [d1, d2, d3] => { results := [.lit (.bool true)], args := [d1, d2, d3] }
  | _ => none }
def fnExactValidGadgetsRow : OpenClaim := { program := "ytmgdjaiaekhkgaagreat", sum := "18f5b0f23d67f1f0f961583bcf4c7eb8e9feeb52a61d78ce558d460b4537e67c", func := "loop.example/g01085/laws.FnExactValidGadgets", spec := "fnExactValidGadgets", unfollowed := true, recurses := true, apart := false }
def FnExactValidGadgetsSaid : Prop := fnExactValidGadgetsRow.holds Tryz.pinned (OpenSpec.ofChange fnExactValidGadgetsSpec)

/-- ITS FALSE NEIGHBOUR: 'it returns false'. Refute it at one input. -/
def fnExactValidGadgetsWrong : ChangeSpec := { name := "fnExactValidGadgets", fn := fun _ => fun
  | [d1, d2, d3] => { results := [.lit (.bool false)], args := [d1, d2, d3] }
  | _ => none }
def FnExactValidGadgetsWrongFalsely : Prop := fnExactValidGadgetsRow.holds Tryz.pinned (OpenSpec.ofChange fnExactValidGadgetsWrong)

/-- 'laws.FnExactFirstWrong': WHATEVER THE INPUT: true; the input reads as it did. -/
def fnExactFirstWrongSpec : ChangeSpec := { name := "fnExactFirstWrong", fn := fun _ => fun
  | [d1, d2, d3] => { results := [.lit (.bool true)], args := [d1, d2, d3] }
  | _ => none }
def fnExactFirstWrongRow : OpenClaim := { program := "ytmgdjaiaekhkgaagreat", sum := "18f5b0f23d67f1f0f961583bcf4c7eb8e9feeb52a61d78ce558d460b4537e67c", func := "loop.example/g01085/laws.FnExactFirstWrong", spec := "fnExactFirstWrong", unfollowed := true, recurses := true, apart := false }
def FnExactFirstWrongSaid : Prop := fnExactFirstWrongRow.holds Tryz.pinned (OpenSpec.ofChange fnExactFirstWrongSpec)

/-- ITS FALSE NEIGHBOUR: 'it returns false'. Refute it at one input. -/
def fnExactFirstWrongWrong : ChangeSpec := { name := "fnExactFirstWrong", fn := fun _ => fun
  | [d1, d2, d3] => { results := [.lit (.bool false)], args := [d1, d2, d3] }
  | _ => none }
def FnExactFirstWrongWrongFalsely : Prop := fnExactFirstWrongRow.holds Tryz.pinned (OpenSpec.ofChange fnExactFirstWrongWrong)

/-- 'laws.FnExactComposeGadgets': WHATEVER THE INPUT: true; the input reads as it did. -/
def fnExactComposeGadgetsSpec : ChangeSpec := { name := "fnExactComposeGadgets", fn := fun _ => fun
  | [d1, d2, d3, d4, d5] => { results := [.lit (.bool true)], args := [d1, d2, d3, d4, d5] }
  | _ => none }
def fnExactComposeGadgetsRow : OpenClaim := { program := "ytmgdjaiaekhkgaagreat", sum := "18f5b0f23d67f1f0f961583bcf4c7eb8e9feeb52a61d78ce558d460b4537e67c", func := "loop.example/g01085/laws.FnExactComposeGadgets", spec := "fnExactComposeGadgets", unfollowed := true, recurses := true, apart := false }
def FnExactComposeGadgetsSaid : Prop := fnExactComposeGadgetsRow.holds Tryz.pinned (OpenSpec.ofChange fnExactComposeGadgetsSpec)

/-- ITS FALSE NEIGHBOUR: 'it returns false'. Refute it at one input. -/
def fnExactComposeGadgetsWrong : ChangeSpec := { name := "fnExactComposeGadgets", fn := fun _ => fun
  | [d1, d2, d3, d4, d5] => { results := [.lit (.bool false)], args := [d1, d2, d3, d4, d5] }
  | _ => none }
def FnExactComposeGadgetsWrongFalsely : Prop := fnExactComposeGadgetsRow.holds Tryz.pinned (OpenSpec.ofChange fnExactComposeGadgetsWrong)

/-- 'laws.FnExactApplyGadgets': WHATEVER THE INPUT: true; the input reads as it did. -/
def fnExactApplyGadgetsSpec : ChangeSpec := { name := "fnExactApplyGadgets", fn := fun _ => fun
  | [d1, d2, d3, d4] => { results := [.lit (.bool true)], args := [d1, d2, d3, d4] }
  | _ => none }
def fnExactApplyGadgetsRow : OpenClaim := { program := "ytmgdjaiaekhkgaagreat", sum := "18f5b0f23d67f1f0f961583bcf4c7eb8e9feeb52a61d78ce558d460b4537e67c", func := "loop.example/g01085/laws.FnExactApplyGadgets", spec := "fnExactApplyGadgets", unfollowed := true, recurses := true, apart := false }
def FnExactApplyGadgetsSaid : Prop := fnExactApplyGadgetsRow.holds Tryz.pinned (OpenSpec.ofChange fnExactApplyGadgetsSpec)

/-- ITS FALSE NEIGHBOUR: 'it returns false'. Refute it at one input. -/
def fnExactApplyGadgetsWrong : ChangeSpec := { name := "fnExactApplyGadgets", fn := fun _ => fun
  | [d1, d2, d3, d4] => { results := [.lit (.bool false)], args := [d1, d2, d3, d4] }
  | _ => none }
def FnExactApplyGadgetsWrongFalsely : Prop := fnExactApplyGadgetsRow.holds Tryz.pinned (OpenSpec.ofChange fnExactApplyGadgetsWrong)

/-- 'laws.FnExactCarryBack': WHATEVER THE INPUT: true; the input reads as it did. -/
def fnExactCarryBackSpec : ChangeSpec := { name := "fnExactCarryBack", fn := fun _ => fun
  | [d1, d2, d3, d4, d5] => { results := [.lit (.bool true)], args := [d1, d2, d3, d4, d5] }
  | _ => none }
def fnExactCarryBackRow : OpenClaim := { program := "ytmgdjaiaekhkgaagreat", sum := "18f5b0f23d67f1f0f961583bcf4c7eb8e9feeb52a61d78ce558d460b4537e67c", func := "loop.example/g01085/laws.FnExactCarryBack", spec := "fnExactCarryBack", unfollowed := true, recurses := true, apart := false }
def FnExactCarryBackSaid : Prop := fnExactCarryBackRow.holds Tryz.pinned (OpenSpec.ofChange fnExactCarryBackSpec)

/-- ITS FALSE NEIGHBOUR: 'it returns false'. Refute it at one input. -/
def fnExactCarryBackWrong : ChangeSpec := { name := "fnExactCarryBack", fn := fun _ => fun
  | [d1, d2, d3, d4, d5] => { results := [.lit (.bool false)], args := [d1, d2, d3, d4, d5] }
  | _ => none }
def FnExactCarryBackWrongFalsely : Prop := fnExactCarryBackRow.holds Tryz.pinned (OpenSpec.ofChange fnExactCarryBackWrong)

/-- 'laws.FnExactSolveByClass': WHATEVER THE INPUT: true; the input reads as it did. -/
def fnExactSolveByClassSpec : ChangeSpec := { name := "fnExactSolveByClass", fn := fun _ => fun
  | [d1, d2, d3] => { results := [.lit (.bool true)], args := [d1, d2, d3] }
  | _ => none }
def fnExactSolveByClassRow : OpenClaim := { program := "ytmgdjaiaekhkgaagreat", sum := "18f5b0f23d67f1f0f961583bcf4c7eb8e9feeb52a61d78ce558d460b4537e67c", func := "loop.example/g01085/laws.FnExactSolveByClass", spec := "fnExactSolveByClass", unfollowed := true, recurses := true, apart := false }
def FnExactSolveByClassSaid : Prop := fnExactSolveByClassRow.holds Tryz.pinned (OpenSpec.ofChange fnExactSolveByClassSpec)

/-- ITS FALSE NEIGHBOUR: 'it returns false'. Refute it at one input. -/
def fnExactSolveByClassWrong : ChangeSpec := { name := "fnExactSolveByClass", fn := fun _ => fun
  | [d1, d2, d3] => { results := [.lit (.bool false)], args := [d1, d2, d3] }
  | _ => none }
def FnExactSolveByClassWrongFalsely : Prop := fnExactSolveByClassRow.holds Tryz.pinned (OpenSpec.ofChange fnExactSolveByClassWrong)

/-- 'laws.FnExactCarryForth': WHATEVER THE INPUT: true; the input reads as it did. -/
def fnExactCarryForthSpec : ChangeSpec := { name := "fnExactCarryForth", fn := fun _ => fun
  | [d1, d2, d3, d4, d5] => { results := [.lit (.bool true)], args := [d1, d2, d3, d4, d5] }
  | _ => none }
def fnExactCarryForthRow : OpenClaim := { program := "ytmgdjaiaekhkgaagreat", sum := "18f5b0f23d67f1f0f961583bcf4c7eb8e9feeb52a61d78ce558d460b4537e67c", func := "loop.example/g01085/laws.FnExactCarryForth", spec := "fnExactCarryForth", unfollowed := true, recurses := true, apart := false }
def FnExactCarryForthSaid : Prop := fnExactCarryForthRow.holds Tryz.pinned (OpenSpec.ofChange fnExactCarryForthSpec)

/-- ITS FALSE NEIGHBOUR: 'it returns false'. Refute it at one input. -/
def fnExactCarryForthWrong : ChangeSpec := { name := "fnExactCarryForth", fn := fun _ => fun
  | [d1, d2, d3, d4, d5] => { results := [.lit (.bool false)], args := [d1, d2, d3, d4, d5] }
  | _ => none }
def FnExactCarryForthWrongFalsely : Prop := fnExactCarryForthRow.holds Tryz.pinned (OpenSpec.ofChange fnExactCarryForthWrong)

/- THE SECOND FORM. 'bulk': how many values and letters a reading holds, each counted each time it is reached (what is shared counts as often as it is met; a slice's spare places count too). A statement '..UptoSaid' is the law's where the arguments, and the package variables that the reading takes, are together of bulk at most 1048576: NARROWER than '..Said'. Prove '..Said' where nothing that the law and all that it calls make is longer than what came in: it says more and counts as full. Else prove '..UptoSaid'. A law counts once. -/
mutual
def uptoBulk {H : Type} : DataW H → Nat
  | .lit (.string bytes) => bytes.length + 1
  | .lit _ => 1
  | .nil => 1
  | .ptr d => uptoBulk d + 1
  | .slice elems spare => uptoBulkAll elems + uptoBulkAll spare + 1
  | .agg parts => uptoBulkAll parts + 1
  | .iface _ d => uptoBulk d + 1
  | .map entries => uptoBulkEntries entries + 1
  | .held _ => 1
def uptoBulkAll {H : Type} : List (DataW H) → Nat
  | [] => 0
  | d :: r => uptoBulk d + uptoBulkAll r
def uptoBulkEntries {H : Type} : List (Lit × DataW H) → Nat
  | [] => 0
  | x :: r => uptoBulkEntry x + uptoBulkEntries r
def uptoBulkEntry {H : Type} : Lit × DataW H → Nat
  | (.string bytes, d) => bytes.length + uptoBulk d + 1
  | (_, d) => uptoBulk d + 1
 end
def uptoSmall : (H : Type) → List (DataW H) → Bool := fun _ ds => decide (uptoBulkAll ds ≤ 1048576)
def OpenSpec.upto (s : _root_.Go.ChangeSpec) : _root_.Go.OpenSpec := { _root_.Go.OpenSpec.ofChange s with cond := some uptoSmall }

/-- 'laws.FnExactValidGadgets', WHERE WHAT IT READS IS OF BULK AT MOST 1048576: true; the input reads as it did. -/
def fnExactValidGadgetsUptoRow : OpenClaim := { program := "ytmgdjaiaekhkgaagreat", sum := "18f5b0f23d67f1f0f961583bcf4c7eb8e9feeb52a61d78ce558d460b4537e67c", func := "loop.example/g01085/laws.FnExactValidGadgets", spec := "fnExactValidGadgets", unfollowed := true, recurses := true, apart := false, narrowed := true }
def FnExactValidGadgetsUptoSaid : Prop := fnExactValidGadgetsUptoRow.holds Tryz.pinned (OpenSpec.upto fnExactValidGadgetsSpec)

/-- 'laws.FnExactFirstWrong', WHERE WHAT IT READS IS OF BULK AT MOST 1048576: true; the input reads as it did. -/
def fnExactFirstWrongUptoRow : OpenClaim := { program := "ytmgdjaiaekhkgaagreat", sum := "18f5b0f23d67f1f0f961583bcf4c7eb8e9feeb52a61d78ce558d460b4537e67c", func := "loop.example/g01085/laws.FnExactFirstWrong", spec := "fnExactFirstWrong", unfollowed := true, recurses := true, apart := false, narrowed := true }
def FnExactFirstWrongUptoSaid : Prop := fnExactFirstWrongUptoRow.holds Tryz.pinned (OpenSpec.upto fnExactFirstWrongSpec)

/-- 'laws.FnExactComposeGadgets', WHERE WHAT IT READS IS OF BULK AT MOST 1048576: true; the input reads as it did. -/
def fnExactComposeGadgetsUptoRow : OpenClaim := { program := "ytmgdjaiaekhkgaagreat", sum := "18f5b0f23d67f1f0f961583bcf4c7eb8e9feeb52a61d78ce558d460b4537e67c", func := "loop.example/g01085/laws.FnExactComposeGadgets", spec := "fnExactComposeGadgets", unfollowed := true, recurses := true, apart := false, narrowed := true }
def FnExactComposeGadgetsUptoSaid : Prop := fnExactComposeGadgetsUptoRow.holds Tryz.pinned (OpenSpec.upto fnExactComposeGadgetsSpec)

/-- 'laws.FnExactApplyGadgets', WHERE WHAT IT READS IS OF BULK AT MOST 1048576: true; the input reads as it did. -/
def fnExactApplyGadgetsUptoRow : OpenClaim := { program := "ytmgdjaiaekhkgaagreat", sum := "18f5b0f23d67f1f0f961583bcf4c7eb8e9feeb52a61d78ce558d460b4537e67c", func := "loop.example/g01085/laws.FnExactApplyGadgets", spec := "fnExactApplyGadgets", unfollowed := true, recurses := true, apart := false, narrowed := true }
def FnExactApplyGadgetsUptoSaid : Prop := fnExactApplyGadgetsUptoRow.holds Tryz.pinned (OpenSpec.upto fnExactApplyGadgetsSpec)

/-- 'laws.FnExactCarryBack', WHERE WHAT IT READS IS OF BULK AT MOST 1048576: true; the input reads as it did. -/
def fnExactCarryBackUptoRow : OpenClaim := { program := "ytmgdjaiaekhkgaagreat", sum := "18f5b0f23d67f1f0f961583bcf4c7eb8e9feeb52a61d78ce558d460b4537e67c", func := "loop.example/g01085/laws.FnExactCarryBack", spec := "fnExactCarryBack", unfollowed := true, recurses := true, apart := false, narrowed := true }
def FnExactCarryBackUptoSaid : Prop := fnExactCarryBackUptoRow.holds Tryz.pinned (OpenSpec.upto fnExactCarryBackSpec)

/-- 'laws.FnExactSolveByClass', WHERE WHAT IT READS IS OF BULK AT MOST 1048576: true; the input reads as it did. -/
def fnExactSolveByClassUptoRow : OpenClaim := { program := "ytmgdjaiaekhkgaagreat", sum := "18f5b0f23d67f1f0f961583bcf4c7eb8e9feeb52a61d78ce558d460b4537e67c", func := "loop.example/g01085/laws.FnExactSolveByClass", spec := "fnExactSolveByClass", unfollowed := true, recurses := true, apart := false, narrowed := true }
def FnExactSolveByClassUptoSaid : Prop := fnExactSolveByClassUptoRow.holds Tryz.pinned (OpenSpec.upto fnExactSolveByClassSpec)

/-- 'laws.FnExactCarryForth', WHERE WHAT IT READS IS OF BULK AT MOST 1048576: true; the input reads as it did. -/
def fnExactCarryForthUptoRow : OpenClaim := { program := "ytmgdjaiaekhkgaagreat", sum := "18f5b0f23d67f1f0f961583bcf4c7eb8e9feeb52a61d78ce558d460b4537e67c", func := "loop.example/g01085/laws.FnExactCarryForth", spec := "fnExactCarryForth", unfollowed := true, recurses := true, apart := false, narrowed := true }
def FnExactCarryForthUptoSaid : Prop := fnExactCarryForthUptoRow.holds Tryz.pinned (OpenSpec.upto fnExactCarryForthSpec)

end Rows
end Go.Proofs.YtmgdjaiaekhkgaaGreat
