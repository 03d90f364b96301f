/-
  No cell of these rows narrows 'for every input' (looked for: loops, veiled, ifaces, maps, wideKeys, modest, calm, conditions, laid).
  DERIVED. THE GIVEN ROWS OF THIS SEAT. 9 by the template 'for every input the law returns true; each argument reads behind the call as it read before'; 0 by the template 'total and deterministic' (their statements: YtmfichdcomaaeaaTotals.lean).
  GIVEN WITH THE SEED: the statements are not yours to turn. If you find one false, say at which input.
  Laid BY PROGRAM, IN A SANDBOX (cutbox-rows.mjs): the forced cells as the released guide's own fill.sh prints them over the translation 4ea0b157afcdc422… (all of the seat's roots in one cut). By AI agents, Wed Nov 11 2026. No macro, syntax, notation, axiom, sorry.
-/
import Derived.Test.YtmfichdcomaaeaaChecked
import GoSem.Claim
import GoSem.ClaimJoined
import GoSem.ClaimMapViews
import Derived.JoinedTies
import Derived.KernelRfl
namespace Go.Proofs.Ytmfichdcomaaeaa
/- THE CELL 'sum', in the pinned program and in every row, IS THE sha256 OF THE DUMP (.gsa) THAT YtmfichdcomaaeaaProg.lean LOADS. Nothing in Lean hashes anything: it is a label: what it is worth is what the hold of that sum in a sandbox is worth. -/
noncomputable def Try.pinned : Pinned := { name := "ytmfichdcomaaeaa", sum := "4ea0b157afcdc4220e7862e9a50246212912b4d7a7395407b8820a92ccb842ca", checked := Try.checked }
namespace Rows
def none {H : Type} : Left H := { results := [], args := [] }

/-- 'laws.FnExactValidDeed': WHATEVER THE INPUT: true; the input reads as it did. -/
def fnExactValidDeedSpec : ChangeSpec := { name := "fnExactValidDeed", fn := fun _ => fun
  | [d] => { results := [.lit (.bool true)], args := [d] }
  | _ => none }
def fnExactValidDeedRow : OpenClaim := { program := "ytmfichdcomaaeaa", sum := "4ea0b157afcdc4220e7862e9a50246212912b4d7a7395407b8820a92ccb842ca", func := "loop.example/g01085/laws.FnExactValidDeed", spec := "fnExactValidDeed", unfollowed := true, recurses := true, apart := false }
def FnExactValidDeedSaid : Prop := fnExactValidDeedRow.holds Try.pinned (OpenSpec.ofChange fnExactValidDeedSpec)

/-- ITS FALSE NEIGHBOUR: 'it returns false'. Refute it at one input. -/
def fnExactValidDeedWrong : ChangeSpec := { name := "fnExactValidDeed", fn := fun _ => fun
  | [d] => { results := [.lit (.bool false)], args := [d] }
  | _ => none }
def FnExactValidDeedWrongFalsely : Prop := fnExactValidDeedRow.holds Try.pinned (OpenSpec.ofChange fnExactValidDeedWrong)

/-- 'laws.FnExactValidLine': WHATEVER THE INPUT: true; the input reads as it did. -/
def fnExactValidLineSpec : ChangeSpec := { name := "fnExactValidLine", fn := fun _ => fun
  | [d] => { results := [.lit (.bool true)], args := [d] }
  | _ => none }
def fnExactValidLineRow : OpenClaim := { program := "ytmfichdcomaaeaa", sum := "4ea0b157afcdc4220e7862e9a50246212912b4d7a7395407b8820a92ccb842ca", func := "loop.example/g01085/laws.FnExactValidLine", spec := "fnExactValidLine", unfollowed := true, recurses := true, apart := false }
def FnExactValidLineSaid : Prop := fnExactValidLineRow.holds Try.pinned (OpenSpec.ofChange fnExactValidLineSpec)

/-- ITS FALSE NEIGHBOUR: 'it returns false'. Refute it at one input. -/
def fnExactValidLineWrong : ChangeSpec := { name := "fnExactValidLine", fn := fun _ => fun
  | [d] => { results := [.lit (.bool false)], args := [d] }
  | _ => none }
def FnExactValidLineWrongFalsely : Prop := fnExactValidLineRow.holds Try.pinned (OpenSpec.ofChange fnExactValidLineWrong)

/-- 'laws.FnExactClassOp': WHATEVER THE INPUT: true; the input reads as it did. -/
def fnExactClassOpSpec : ChangeSpec := { name := "fnExactClassOp", fn := fun _ => fun
  | [d] => { results := [.lit (.bool true)], args := [d] }
  | _ => none }
def fnExactClassOpRow : OpenClaim := { program := "ytmfichdcomaaeaa", sum := "4ea0b157afcdc4220e7862e9a50246212912b4d7a7395407b8820a92ccb842ca", func := "loop.example/g01085/laws.FnExactClassOp", spec := "fnExactClassOp", apart := false }
def FnExactClassOpSaid : Prop := fnExactClassOpRow.holds Try.pinned (OpenSpec.ofChange fnExactClassOpSpec)

/-- ITS FALSE NEIGHBOUR: 'it returns false'. Refute it at one input. -/
def fnExactClassOpWrong : ChangeSpec := { name := "fnExactClassOp", fn := fun _ => fun
  | [d] => { results := [.lit (.bool false)], args := [d] }
  | _ => none }
def FnExactClassOpWrongFalsely : Prop := fnExactClassOpRow.holds Try.pinned (OpenSpec.ofChange fnExactClassOpWrong)

/-- 'laws.FnExactSameGadgets': WHATEVER THE INPUT: true; the input reads as it did. -/
def fnExactSameGadgetsSpec : ChangeSpec := { name := "fnExactSameGadgets", fn := fun _ => fun
  | [d1, d2] => { results := [.lit (.bool true)], args := [d1, d2] }
  | _ => none }
def fnExactSameGadgetsRow : OpenClaim := { program := "ytmfichdcomaaeaa", sum := "4ea0b157afcdc4220e7862e9a50246212912b4d7a7395407b8820a92ccb842ca", func := "loop.example/g01085/laws.FnExactSameGadgets", spec := "fnExactSameGadgets", unfollowed := true, recurses := true, apart := false }
def FnExactSameGadgetsSaid : Prop := fnExactSameGadgetsRow.holds Try.pinned (OpenSpec.ofChange fnExactSameGadgetsSpec)

/-- ITS FALSE NEIGHBOUR: 'it returns false'. Refute it at one input. -/
def fnExactSameGadgetsWrong : ChangeSpec := { name := "fnExactSameGadgets", fn := fun _ => fun
  | [d1, d2] => { results := [.lit (.bool false)], args := [d1, d2] }
  | _ => none }
def FnExactSameGadgetsWrongFalsely : Prop := fnExactSameGadgetsRow.holds Try.pinned (OpenSpec.ofChange fnExactSameGadgetsWrong)

/-- 'laws.FnExactEquationsOver': WHATEVER THE INPUT: true; the input reads as it did. -/
def fnExactEquationsOverSpec : ChangeSpec := { name := "fnExactEquationsOver", fn := fun _ => fun
  | [d] => { results := [.lit (.bool true)], args := [d] }
  | _ => none }
def fnExactEquationsOverRow : OpenClaim := { program := "ytmfichdcomaaeaa", sum := "4ea0b157afcdc4220e7862e9a50246212912b4d7a7395407b8820a92ccb842ca", func := "loop.example/g01085/laws.FnExactEquationsOver", spec := "fnExactEquationsOver", unfollowed := true, recurses := true, apart := false }
def FnExactEquationsOverSaid : Prop := fnExactEquationsOverRow.holds Try.pinned (OpenSpec.ofChange fnExactEquationsOverSpec)

/-- ITS FALSE NEIGHBOUR: 'it returns false'. Refute it at one input. -/
def fnExactEquationsOverWrong : ChangeSpec := { name := "fnExactEquationsOver", fn := fun _ => fun
  | [d] => { results := [.lit (.bool false)], args := [d] }
  | _ => none }
def FnExactEquationsOverWrongFalsely : Prop := fnExactEquationsOverRow.holds Try.pinned (OpenSpec.ofChange fnExactEquationsOverWrong)

/-- 'laws.FnExactSpoiltVerdict': WHATEVER THE INPUT: true; the input reads as it did. -/
def fnExactSpoiltVerdictSpec : ChangeSpec := { name := "fnExactSpoiltVerdict", fn := fun _ => fun
  | [d] => { results := [.lit (.bool true)], args := [d] }
  | _ => none }
def fnExactSpoiltVerdictRow : OpenClaim := { program := "ytmfichdcomaaeaa", sum := "4ea0b157afcdc4220e7862e9a50246212912b4d7a7395407b8820a92ccb842ca", func := "loop.example/g01085/laws.FnExactSpoiltVerdict", spec := "fnExactSpoiltVerdict", apart := false }
def FnExactSpoiltVerdictSaid : Prop := fnExactSpoiltVerdictRow.holds Try.pinned (OpenSpec.ofChange fnExactSpoiltVerdictSpec)

/-- ITS FALSE NEIGHBOUR: 'it returns false'. Refute it at one input. -/
def fnExactSpoiltVerdictWrong : ChangeSpec := { name := "fnExactSpoiltVerdict", fn := fun _ => fun
  | [d] => { results := [.lit (.bool false)], args := [d] }
  | _ => none }
def FnExactSpoiltVerdictWrongFalsely : Prop := fnExactSpoiltVerdictRow.holds Try.pinned (OpenSpec.ofChange fnExactSpoiltVerdictWrong)

/-- 'laws.FnExactOwnGadgets': WHATEVER THE INPUT: true; the input reads as it did. -/
def fnExactOwnGadgetsSpec : ChangeSpec := { name := "fnExactOwnGadgets", fn := fun _ => fun
  | [d] => { results := [.lit (.bool true)], args := [d] }
  | _ => none }
def fnExactOwnGadgetsRow : OpenClaim := { program := "ytmfichdcomaaeaa", sum := "4ea0b157afcdc4220e7862e9a50246212912b4d7a7395407b8820a92ccb842ca", func := "loop.example/g01085/laws.FnExactOwnGadgets", spec := "fnExactOwnGadgets", unfollowed := true, recurses := true, apart := false }
def FnExactOwnGadgetsSaid : Prop := fnExactOwnGadgetsRow.holds Try.pinned (OpenSpec.ofChange fnExactOwnGadgetsSpec)

/-- ITS FALSE NEIGHBOUR: 'it returns false'. Refute it at one input. -/
def fnExactOwnGadgetsWrong : ChangeSpec := { name := "fnExactOwnGadgets", fn := fun _ => fun
  | [d] => { results := [.lit (.bool false)], args := [d] }
  | _ => none }
def FnExactOwnGadgetsWrongFalsely : Prop := fnExactOwnGadgetsRow.holds Try.pinned (OpenSpec.ofChange fnExactOwnGadgetsWrong)

/-- 'laws.FnExactIsOfClass': WHATEVER THE INPUT: true; the input reads as it did. -/
def fnExactIsOfClassSpec : ChangeSpec := { name := "fnExactIsOfClass", fn := fun _ => fun
  | [d1, d2] => { results := [.lit (.bool true)], args := [d1, d2] }
  | _ => none }
def fnExactIsOfClassRow : OpenClaim := { program := "ytmfichdcomaaeaa", sum := "4ea0b157afcdc4220e7862e9a50246212912b4d7a7395407b8820a92ccb842ca", func := "loop.example/g01085/laws.FnExactIsOfClass", spec := "fnExactIsOfClass", unfollowed := true, recurses := true, apart := false }
def FnExactIsOfClassSaid : Prop := fnExactIsOfClassRow.holds Try.pinned (OpenSpec.ofChange fnExactIsOfClassSpec)

/-- ITS FALSE NEIGHBOUR: 'it returns false'. Refute it at one input. -/
def fnExactIsOfClassWrong : ChangeSpec := { name := "fnExactIsOfClass", fn := fun _ => fun
  | [d1, d2] => { results := [.lit (.bool false)], args := [d1, d2] }
  | _ => none }
def FnExactIsOfClassWrongFalsely : Prop := fnExactIsOfClassRow.holds Try.pinned (OpenSpec.ofChange fnExactIsOfClassWrong)

/-- 'laws.FnExactClassesOf': WHATEVER THE INPUT: true; the input reads as it did. -/
def fnExactClassesOfSpec : ChangeSpec := { name := "fnExactClassesOf", fn := fun _ => fun
  | [d] => { results := [.lit (.bool true)], args := [d] }
  | _ => none }
def fnExactClassesOfRow : OpenClaim := { program := "ytmfichdcomaaeaa", sum := "4ea0b157afcdc4220e7862e9a50246212912b4d7a7395407b8820a92ccb842ca", func := "loop.example/g01085/laws.FnExactClassesOf", spec := "fnExactClassesOf", unfollowed := true, recurses := true, apart := false }
def FnExactClassesOfSaid : Prop := fnExactClassesOfRow.holds Try.pinned (OpenSpec.ofChange fnExactClassesOfSpec)

/-- ITS FALSE NEIGHBOUR: 'it returns false'. Refute it at one input. -/
def fnExactClassesOfWrong : ChangeSpec := { name := "fnExactClassesOf", fn := fun _ => fun
  | [d] => { results := [.lit (.bool false)], args := [d] }
  | _ => none }
def FnExactClassesOfWrongFalsely : Prop := fnExactClassesOfRow.holds Try.pinned (OpenSpec.ofChange fnExactClassesOfWrong)

/- THE SECOND FORM. 'bulk': how many values and letters a reading holds, each counted each time it is reached (what is shared counts as often as it is met; a slice's spare places count too). A statement '..UptoSaid' is the law's where the arguments, and the package variables that the reading takes, are together of bulk at most 1048576: NARROWER than '..Said'. Prove '..Said' where nothing that the law and all that it calls make is longer than what came in: it says more and counts as full. Else prove '..UptoSaid'. A law counts once. -/
mutual
def uptoBulk {H : Type} : DataW H → Nat
  | .lit (.string bytes) => bytes.length + 1
  | .lit _ => 1
  | .nil => 1
  | .ptr d => uptoBulk d + 1
  | .slice elems spare => uptoBulkAll elems + uptoBulkAll spare + 1
  | .agg parts => uptoBulkAll parts + 1
  | .iface _ d => uptoBulk d + 1
  | .map entries => uptoBulkEntries entries + 1
  | .held _ => 1
def uptoBulkAll {H : Type} : List (DataW H) → Nat
  | [] => 0
  | d :: r => uptoBulk d + uptoBulkAll r
def uptoBulkEntries {H : Type} : List (Lit × DataW H) → Nat
  | [] => 0
  | x :: r => uptoBulkEntry x + uptoBulkEntries r
def uptoBulkEntry {H : Type} : Lit × DataW H → Nat
  | (.string bytes, d) => bytes.length + uptoBulk d + 1
  | (_, d) => uptoBulk d + 1
 end
def uptoSmall : (H : Type) → List (DataW H) → Bool := fun _ ds => decide (uptoBulkAll ds ≤ 1048576)
def OpenSpec.upto (s : _root_.Go.ChangeSpec) : _root_.Go.OpenSpec := { _root_.Go.OpenSpec.ofChange s with cond := some uptoSmall }

/-- 'laws.FnExactValidDeed', WHERE WHAT IT READS IS OF BULK AT MOST 1048576: true; the input reads as it did. -/
def fnExactValidDeedUptoRow : OpenClaim := { program := "ytmfichdcomaaeaa", sum := "4ea0b157afcdc4220e7862e9a50246212912b4d7a7395407b8820a92ccb842ca", func := "loop.example/g01085/laws.FnExactValidDeed", spec := "fnExactValidDeed", unfollowed := true, recurses := true, apart := false, narrowed := true }
def FnExactValidDeedUptoSaid : Prop := fnExactValidDeedUptoRow.holds Try.pinned (OpenSpec.upto fnExactValidDeedSpec)

/-- 'laws.FnExactValidLine', WHERE WHAT IT READS IS OF BULK AT MOST 1048576: true; the input reads as it did. -/
def fnExactValidLineUptoRow : OpenClaim := { program := "ytmfichdcomaaeaa", sum := "4ea0b157afcdc4220e7862e9a50246212912b4d7a7395407b8820a92ccb842ca", func := "loop.example/g01085/laws.FnExactValidLine", spec := "fnExactValidLine", unfollowed := true, recurses := true, apart := false, narrowed := true }
def FnExactValidLineUptoSaid : Prop := fnExactValidLineUptoRow.holds Try.pinned (OpenSpec.upto fnExactValidLineSpec)

/-- 'laws.FnExactClassOp', WHERE WHAT IT READS IS OF BULK AT MOST 1048576: true; the input reads as it did. -/
def fnExactClassOpUptoRow : OpenClaim := { program := "ytmfichdcomaaeaa", sum := "4ea0b157afcdc4220e7862e9a50246212912b4d7a7395407b8820a92ccb842ca", func := "loop.example/g01085/laws.FnExactClassOp", spec := "fnExactClassOp", apart := false, narrowed := true }
def FnExactClassOpUptoSaid : Prop := fnExactClassOpUptoRow.holds Try.pinned (OpenSpec.upto fnExactClassOpSpec)

/-- 'laws.FnExactSameGadgets', WHERE WHAT IT READS IS OF BULK AT MOST 1048576: true; the input reads as it did. -/
def fnExactSameGadgetsUptoRow : OpenClaim := { program := "ytmfichdcomaaeaa", sum := "4ea0b157afcdc4220e7862e9a50246212912b4d7a7395407b8820a92ccb842ca", func := "loop.example/g01085/laws.FnExactSameGadgets", spec := "fnExactSameGadgets", unfollowed := true, recurses := true, apart := false, narrowed := true }
def FnExactSameGadgetsUptoSaid : Prop := fnExactSameGadgetsUptoRow.holds Try.pinned (OpenSpec.upto fnExactSameGadgetsSpec)

/-- 'laws.FnExactEquationsOver', WHERE WHAT IT READS IS OF BULK AT MOST 1048576: true; the input reads as it did. -/
def fnExactEquationsOverUptoRow : OpenClaim := { program := "ytmfichdcomaaeaa", sum := "4ea0b157afcdc4220e7862e9a50246212912b4d7a7395407b8820a92ccb842ca", func := "loop.example/g01085/laws.FnExactEquationsOver", spec := "fnExactEquationsOver", unfollowed := true, recurses := true, apart := false, narrowed := true }
def FnExactEquationsOverUptoSaid : Prop := fnExactEquationsOverUptoRow.holds Try.pinned (OpenSpec.upto fnExactEquationsOverSpec)

/-- 'laws.FnExactSpoiltVerdict', WHERE WHAT IT READS IS OF BULK AT MOST 1048576: true; the input reads as it did. -/
def fnExactSpoiltVerdictUptoRow : OpenClaim := { program := "ytmfichdcomaaeaa", sum := "4ea0b157afcdc4220e7862e9a50246212912b4d7a7395407b8820a92ccb842ca", func := "loop.example/g01085/laws.FnExactSpoiltVerdict", spec := "fnExactSpoiltVerdict", apart := false, narrowed := true }
def FnExactSpoiltVerdictUptoSaid : Prop := fnExactSpoiltVerdictUptoRow.holds Try.pinned (OpenSpec.upto fnExactSpoiltVerdictSpec)

/-- 'laws.FnExactOwnGadgets', WHERE WHAT IT READS IS OF BULK AT MOST 1048576: true; the input reads as it did. -/
def fnExactOwnGadgetsUptoRow : OpenClaim := { program := "ytmfichdcomaaeaa", sum := "4ea0b157afcdc4220e7862e9a50246212912b4d7a7395407b8820a92ccb842ca", func := "loop.example/g01085/laws.FnExactOwnGadgets", spec := "fnExactOwnGadgets", unfollowed := true, recurses := true, apart := false, narrowed := true }
def FnExactOwnGadgetsUptoSaid : Prop := fnExactOwnGadgetsUptoRow.holds Try.pinned (OpenSpec.upto fnExactOwnGadgetsSpec)

/-- 'laws.FnExactIsOfClass', WHERE WHAT IT READS IS OF BULK AT MOST 1048576: true; the input reads as it did. -/
def fnExactIsOfClassUptoRow : OpenClaim := { program := "ytmfichdcomaaeaa", sum := "4ea0b157afcdc4220e7862e9a50246212912b4d7a7395407b8820a92ccb842ca", func := "loop.example/g01085/laws.FnExactIsOfClass", spec := "fnExactIsOfClass", unfollowed := true, recurses := true, apart := false, narrowed := true }
def FnExactIsOfClassUptoSaid : Prop := fnExactIsOfClassUptoRow.holds Try.pinned (OpenSpec.upto fnExactIsOfClassSpec)

/-- 'laws.FnExactClassesOf', WHERE WHAT IT READS IS OF BULK AT MOST 1048576: true; the input reads as it did. -/
def fnExactClassesOfUptoRow : OpenClaim := { program := "ytmfichdcomaaeaa", sum := "4ea0b157afcdc4220e7862e9a50246212912b4d7a7395407b8820a92ccb842ca", func := "loop.example/g01085/laws.FnExactClassesOf", spec := "fnExactClassesOf", unfollowed := true, recurses := true, apart := false, narrowed := true }
def FnExactClassesOfUptoSaid : Prop := fnExactClassesOfUptoRow.holds Try.pinned (OpenSpec.upto fnExactClassesOfSpec)

end Rows
end Go.Proofs.Ytmfichdcomaaeaa
