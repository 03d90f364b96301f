/-
  No cell of these rows narrows 'for every input' (looked for: loops, veiled, ifaces, maps, wideKeys, modest, calm, conditions, laid).
  DERIVED. THE GIVEN ROWS OF THIS SEAT. 11 by the template 'for every input the law returns true; each argument reads behind the call as it read before'; 0 by the template 'total and deterministic' (their statements: YtfepllddlmhjiaaGreatTotals.lean).
  GIVEN WITH THE SEED: the statements are not yours to turn. If you find one false, say at which input.
  Laid BY PROGRAM, IN A SANDBOX (cutbox-rows.mjs): the forced cells as the released guide's own fill.sh prints them over the translation 56dd352dfa40cfbd… (all of the seat's roots in one cut). By AI agents, Wed Nov 11 2026. No macro, syntax, notation, axiom, sorry.
-/
import Derived.Test.YtfepllddlmhjiaaGreatChecked
import GoSem.Claim
import GoSem.ClaimJoined
import GoSem.ClaimMapViews
import Derived.JoinedTies
import Derived.KernelRfl
namespace Go.Proofs.YtfepllddlmhjiaaGreat
/- THE CELL 'sum', in the pinned program and in every row, IS THE sha256 OF THE DUMP (.gsa) THAT YtfepllddlmhjiaaGreatProg.lean LOADS. Nothing in Lean hashes anything: it is a label: what it is worth is what the hold of that sum in a sandbox is worth. -/
noncomputable def Tryz.pinned : Pinned := { name := "ytfepllddlmhjiaagreat", sum := "56dd352dfa40cfbd691e60fe6a5f069bae8105249d5990dc0b10fa5e9119aaa3", checked := Tryz.checked }
namespace Rows
def none {H : Type} : Left H := { results := [], args := [] }

/-- 'laws.FnExactValidGadgets': WHATEVER THE INPUT: true; the input reads as it did. -/
def fnExactValidGadgetsSpec : ChangeSpec := { name := "fnExactValidGadgets", fn := fun _ => fun
  | [d1, d2, d3] => { results := [.lit (.bool true)], args := [d1, d2, d3] }
  | _ => none }
def fnExactValidGadgetsRow : OpenClaim := { program := "ytfepllddlmhjiaagreat", sum := "56dd352dfa40cfbd691e60fe6a5f069bae8105249d5990dc0b10fa5e9119aaa3", func := "loop.example/g01085/laws.FnExactValidGadgets", spec := "fnExactValidGadgets", unfollowed := true, recurses := true, apart := false }
def FnExactValidGadgetsSaid : Prop := fnExactValidGadgetsRow.holds Tryz.pinned (OpenSpec.ofChange fnExactValidGadgetsSpec)

/-- ITS FALSE NEIGHBOUR: 'it returns false'. Refute it at one input. -/
def fnExactValidGadgetsWrong : ChangeSpec := { name := "fnExactValidGadgets", fn := fun _ => fun
  | [d1, d2, d3] => { results := [.lit (.bool false)], args := [d1, d2, d3] }
  | _ => none }
def FnExactValidGadgetsWrongFalsely : Prop := fnExactValidGadgetsRow.holds Tryz.pinned (OpenSpec.ofChange fnExactValidGadgetsWrong)

/-- 'laws.FnExactSearchFor': WHATEVER THE INPUT: true; the input reads as it did. -/
def fnExactSearchForSpec : ChangeSpec := { name := "fnExactSearchFor", fn := fun _ => fun
  | [d1, d2, d3] => { results := [.lit (.bool true)], args := [d1, d2, d3] }
  | _ => none }
def fnExactSearchForRow : OpenClaim := { program := "ytfepllddlmhjiaagreat", sum := "56dd352dfa40cfbd691e60fe6a5f069bae8105249d5990dc0b10fa5e9119aaa3", func := "loop.example/g01085/laws.FnExactSearchFor", spec := "fnExactSearchFor", unfollowed := true, recurses := true, apart := false }
def FnExactSearchForSaid : Prop := fnExactSearchForRow.holds Tryz.pinned (OpenSpec.ofChange fnExactSearchForSpec)

/-- ITS FALSE NEIGHBOUR: 'it returns false'. Refute it at one input. -/
def fnExactSearchForWrong : ChangeSpec := { name := "fnExactSearchFor", fn := fun _ => fun
  | [d1, d2, d3] => { results := [.lit (.bool false)], args := [d1, d2, d3] }
  | _ => none }
def FnExactSearchForWrongFalsely : Prop := fnExactSearchForRow.holds Tryz.pinned (OpenSpec.ofChange fnExactSearchForWrong)

/-- 'laws.FnExactIsNoGood': WHATEVER THE INPUT: true; the input reads as it did. -/
def fnExactIsNoGoodSpec : ChangeSpec := { name := "fnExactIsNoGood", fn := fun _ => fun
  | [d1, d2, d3, d4] => { results := [.lit (.bool true)], args := [d1, d2, d3, d4] }
  | _ => none }
def fnExactIsNoGoodRow : OpenClaim := { program := "ytfepllddlmhjiaagreat", sum := "56dd352dfa40cfbd691e60fe6a5f069bae8105249d5990dc0b10fa5e9119aaa3", func := "loop.example/g01085/laws.FnExactIsNoGood", spec := "fnExactIsNoGood", unfollowed := true, recurses := true, apart := false }
def FnExactIsNoGoodSaid : Prop := fnExactIsNoGoodRow.holds Tryz.pinned (OpenSpec.ofChange fnExactIsNoGoodSpec)

/-- ITS FALSE NEIGHBOUR: 'it returns false'. Refute it at one input. -/
def fnExactIsNoGoodWrong : ChangeSpec := { name := "fnExactIsNoGood", fn := fun _ => fun
  | [d1, d2, d3, d4] => { results := [.lit (.bool false)], args := [d1, d2, d3, d4] }
  | _ => none }
def FnExactIsNoGoodWrongFalsely : Prop := fnExactIsNoGoodRow.holds Tryz.pinned (OpenSpec.ofChange fnExactIsNoGoodWrong)

/-- 'laws.FnExactFirstWrong': WHATEVER THE INPUT: true; the input reads as it did. -/
def fnExactFirstWrongSpec : ChangeSpec := { name := "fnExactFirstWrong", fn := fun _ => fun
  | [d1, d2, d3] => { results := [.lit (.bool true)], args := [d1, d2, d3] }
  | _ => none }
def fnExactFirstWrongRow : OpenClaim := { program := "ytfepllddlmhjiaagreat", sum := "56dd352dfa40cfbd691e60fe6a5f069bae8105249d5990dc0b10fa5e9119aaa3", func := "loop.example/g01085/laws.FnExactFirstWrong", spec := "fnExactFirstWrong", unfollowed := true, recurses := true, apart := false }
def FnExactFirstWrongSaid : Prop := fnExactFirstWrongRow.holds Tryz.pinned (OpenSpec.ofChange fnExactFirstWrongSpec)

/-- ITS FALSE NEIGHBOUR: 'it returns false'. Refute it at one input. -/
def fnExactFirstWrongWrong : ChangeSpec := { name := "fnExactFirstWrong", fn := fun _ => fun
  | [d1, d2, d3] => { results := [.lit (.bool false)], args := [d1, d2, d3] }
  | _ => none }
def FnExactFirstWrongWrongFalsely : Prop := fnExactFirstWrongRow.holds Tryz.pinned (OpenSpec.ofChange fnExactFirstWrongWrong)

/-- 'laws.FnExactDomainsAfter': WHATEVER THE INPUT: true; the input reads as it did. -/
def fnExactDomainsAfterSpec : ChangeSpec := { name := "fnExactDomainsAfter", fn := fun _ => fun
  | [d1, d2, d3] => { results := [.lit (.bool true)], args := [d1, d2, d3] }
  | _ => none }
def fnExactDomainsAfterRow : OpenClaim := { program := "ytfepllddlmhjiaagreat", sum := "56dd352dfa40cfbd691e60fe6a5f069bae8105249d5990dc0b10fa5e9119aaa3", func := "loop.example/g01085/laws.FnExactDomainsAfter", spec := "fnExactDomainsAfter", unfollowed := true, recurses := true, apart := false }
def FnExactDomainsAfterSaid : Prop := fnExactDomainsAfterRow.holds Tryz.pinned (OpenSpec.ofChange fnExactDomainsAfterSpec)

/-- ITS FALSE NEIGHBOUR: 'it returns false'. Refute it at one input. -/
def fnExactDomainsAfterWrong : ChangeSpec := { name := "fnExactDomainsAfter", fn := fun _ => fun
  | [d1, d2, d3] => { results := [.lit (.bool false)], args := [d1, d2, d3] }
  | _ => none }
def FnExactDomainsAfterWrongFalsely : Prop := fnExactDomainsAfterRow.holds Tryz.pinned (OpenSpec.ofChange fnExactDomainsAfterWrong)

/-- 'laws.FnExactSmallestReason': WHATEVER THE INPUT: true; the input reads as it did. -/
def fnExactSmallestReasonSpec : ChangeSpec := { name := "fnExactSmallestReason", fn := fun _ => fun
  | [d1, d2, d3] => { results := [.lit (.bool true)], args := [d1, d2, d3] }
  | _ => none }
def fnExactSmallestReasonRow : OpenClaim := { program := "ytfepllddlmhjiaagreat", sum := "56dd352dfa40cfbd691e60fe6a5f069bae8105249d5990dc0b10fa5e9119aaa3", func := "loop.example/g01085/laws.FnExactSmallestReason", spec := "fnExactSmallestReason", unfollowed := true, recurses := true, apart := false }
def FnExactSmallestReasonSaid : Prop := fnExactSmallestReasonRow.holds Tryz.pinned (OpenSpec.ofChange fnExactSmallestReasonSpec)

/-- ITS FALSE NEIGHBOUR: 'it returns false'. Refute it at one input. -/
def fnExactSmallestReasonWrong : ChangeSpec := { name := "fnExactSmallestReason", fn := fun _ => fun
  | [d1, d2, d3] => { results := [.lit (.bool false)], args := [d1, d2, d3] }
  | _ => none }
def FnExactSmallestReasonWrongFalsely : Prop := fnExactSmallestReasonRow.holds Tryz.pinned (OpenSpec.ofChange fnExactSmallestReasonWrong)

/-- 'laws.FnExactRefuteInstance': WHATEVER THE INPUT: true; the input reads as it did. -/
def fnExactRefuteInstanceSpec : ChangeSpec := { name := "fnExactRefuteInstance", fn := fun _ => fun
  | [d1, d2, d3] => { results := [.lit (.bool true)], args := [d1, d2, d3] }
  | _ => none }
def fnExactRefuteInstanceRow : OpenClaim := { program := "ytfepllddlmhjiaagreat", sum := "56dd352dfa40cfbd691e60fe6a5f069bae8105249d5990dc0b10fa5e9119aaa3", func := "loop.example/g01085/laws.FnExactRefuteInstance", spec := "fnExactRefuteInstance", unfollowed := true, recurses := true, apart := false }
def FnExactRefuteInstanceSaid : Prop := fnExactRefuteInstanceRow.holds Tryz.pinned (OpenSpec.ofChange fnExactRefuteInstanceSpec)

/-- ITS FALSE NEIGHBOUR: 'it returns false'. Refute it at one input. -/
def fnExactRefuteInstanceWrong : ChangeSpec := { name := "fnExactRefuteInstance", fn := fun _ => fun
  | [d1, d2, d3] => { results := [.lit (.bool false)], args := [d1, d2, d3] }
  | _ => none }
def FnExactRefuteInstanceWrongFalsely : Prop := fnExactRefuteInstanceRow.holds Tryz.pinned (OpenSpec.ofChange fnExactRefuteInstanceWrong)

/-- 'laws.FnExactLearnNoGoods': WHATEVER THE INPUT: true; the input reads as it did. -/
def fnExactLearnNoGoodsSpec : ChangeSpec := { name := "fnExactLearnNoGoods", fn := fun _ => fun
  | [d1, d2, d3] => { results := [.lit (.bool true)], args := [d1, d2, d3] }
  | _ => none }
def fnExactLearnNoGoodsRow : OpenClaim := { program := "ytfepllddlmhjiaagreat", sum := "56dd352dfa40cfbd691e60fe6a5f069bae8105249d5990dc0b10fa5e9119aaa3", func := "loop.example/g01085/laws.FnExactLearnNoGoods", spec := "fnExactLearnNoGoods", unfollowed := true, recurses := true, apart := false }
def FnExactLearnNoGoodsSaid : Prop := fnExactLearnNoGoodsRow.holds Tryz.pinned (OpenSpec.ofChange fnExactLearnNoGoodsSpec)

/-- ITS FALSE NEIGHBOUR: 'it returns false'. Refute it at one input. -/
def fnExactLearnNoGoodsWrong : ChangeSpec := { name := "fnExactLearnNoGoods", fn := fun _ => fun
  | [d1, d2, d3] => { results := [.lit (.bool false)], args := [d1, d2, d3] }
  | _ => none }
def FnExactLearnNoGoodsWrongFalsely : Prop := fnExactLearnNoGoodsRow.holds Tryz.pinned (OpenSpec.ofChange fnExactLearnNoGoodsWrong)

/-- 'laws.FnExactShrinkNoGood': WHATEVER THE INPUT: true; the input reads as it did. -/
def fnExactShrinkNoGoodSpec : ChangeSpec := { name := "fnExactShrinkNoGood", fn := fun _ => fun
  | [d1, d2, d3, d4] => { results := [.lit (.bool true)], args := [d1, d2, d3, d4] }
  | _ => none }
def fnExactShrinkNoGoodRow : OpenClaim := { program := "ytfepllddlmhjiaagreat", sum := "56dd352dfa40cfbd691e60fe6a5f069bae8105249d5990dc0b10fa5e9119aaa3", func := "loop.example/g01085/laws.FnExactShrinkNoGood", spec := "fnExactShrinkNoGood", unfollowed := true, recurses := true, apart := false }
def FnExactShrinkNoGoodSaid : Prop := fnExactShrinkNoGoodRow.holds Tryz.pinned (OpenSpec.ofChange fnExactShrinkNoGoodSpec)

/-- ITS FALSE NEIGHBOUR: 'it returns false'. Refute it at one input. -/
def fnExactShrinkNoGoodWrong : ChangeSpec := { name := "fnExactShrinkNoGood", fn := fun _ => fun
  | [d1, d2, d3, d4] => { results := [.lit (.bool false)], args := [d1, d2, d3, d4] }
  | _ => none }
def FnExactShrinkNoGoodWrongFalsely : Prop := fnExactShrinkNoGoodRow.holds Tryz.pinned (OpenSpec.ofChange fnExactShrinkNoGoodWrong)

/-- 'laws.FnExactComposeGadgets': WHATEVER THE INPUT: true; the input reads as it did. -/
def fnExactComposeGadgetsSpec : ChangeSpec := { name := "fnExactComposeGadgets", fn := fun _ => fun
  | [d1, d2, d3, d4, d5] => { results := [.lit (.bool true)], args := [d1, d2, d3, d4, d5] }
  | _ => none }
def fnExactComposeGadgetsRow : OpenClaim := { program := "ytfepllddlmhjiaagreat", sum := "56dd352dfa40cfbd691e60fe6a5f069bae8105249d5990dc0b10fa5e9119aaa3", func := "loop.example/g01085/laws.FnExactComposeGadgets", spec := "fnExactComposeGadgets", unfollowed := true, recurses := true, apart := false }
def FnExactComposeGadgetsSaid : Prop := fnExactComposeGadgetsRow.holds Tryz.pinned (OpenSpec.ofChange fnExactComposeGadgetsSpec)

/-- ITS FALSE NEIGHBOUR: 'it returns false'. Refute it at one input. -/
def fnExactComposeGadgetsWrong : ChangeSpec := { name := "fnExactComposeGadgets", fn := fun _ => fun
  | [d1, d2, d3, d4, d5] => { results := [.lit (.bool false)], args := [d1, d2, d3, d4, d5] }
  | _ => none }
def FnExactComposeGadgetsWrongFalsely : Prop := fnExactComposeGadgetsRow.holds Tryz.pinned (OpenSpec.ofChange fnExactComposeGadgetsWrong)

/-- 'laws.FnExactAddNoGoods': WHATEVER THE INPUT: true; the input reads as it did. -/
def fnExactAddNoGoodsSpec : ChangeSpec := { name := "fnExactAddNoGoods", fn := fun _ => fun
  | [d1, d2, d3] => { results := [.lit (.bool true)], args := [d1, d2, d3] }
  | _ => none }
def fnExactAddNoGoodsRow : OpenClaim := { program := "ytfepllddlmhjiaagreat", sum := "56dd352dfa40cfbd691e60fe6a5f069bae8105249d5990dc0b10fa5e9119aaa3", func := "loop.example/g01085/laws.FnExactAddNoGoods", spec := "fnExactAddNoGoods", unfollowed := true, recurses := true, apart := false }
def FnExactAddNoGoodsSaid : Prop := fnExactAddNoGoodsRow.holds Tryz.pinned (OpenSpec.ofChange fnExactAddNoGoodsSpec)

/-- ITS FALSE NEIGHBOUR: 'it returns false'. Refute it at one input. -/
def fnExactAddNoGoodsWrong : ChangeSpec := { name := "fnExactAddNoGoods", fn := fun _ => fun
  | [d1, d2, d3] => { results := [.lit (.bool false)], args := [d1, d2, d3] }
  | _ => none }
def FnExactAddNoGoodsWrongFalsely : Prop := fnExactAddNoGoodsRow.holds Tryz.pinned (OpenSpec.ofChange fnExactAddNoGoodsWrong)

/- THE SECOND FORM. 'bulk': how many values and letters a reading holds, each counted each time it is reached (what is shared counts as often as it is met; a slice's spare places count too). A statement '..UptoSaid' is the law's where the arguments, and the package variables that the reading takes, are together of bulk at most 1048576: NARROWER than '..Said'. Prove '..Said' where nothing that the law and all that it calls make is longer than what came in: it says more and counts as full. Else prove '..UptoSaid'. A law counts once. -/
mutual
def uptoBulk {H : Type} : DataW H → Nat
  | .lit (.string bytes) => bytes.length + 1
  | .lit _ => 1
  | .nil => 1
  | .ptr d => uptoBulk d + 1
  | .slice elems spare => uptoBulkAll elems + uptoBulkAll spare + 1
  | .agg parts => uptoBulkAll parts + 1
  | .iface _ d => uptoBulk d + 1
  | .map entries => uptoBulkEntries entries + 1
  | .held _ => 1
def uptoBulkAll {H : Type} : List (DataW H) → Nat
  | [] => 0
  | d :: r => uptoBulk d + uptoBulkAll r
def uptoBulkEntries {H : Type} : List (Lit × DataW H) → Nat
  | [] => 0
  | x :: r => uptoBulkEntry x + uptoBulkEntries r
def uptoBulkEntry {H : Type} : Lit × DataW H → Nat
  | (.string bytes, d) => bytes.length + uptoBulk d + 1
  | (_, d) => uptoBulk d + 1
 end
def uptoSmall : (H : Type) → List (DataW H) → Bool := fun _ ds => decide (uptoBulkAll ds ≤ 1048576)
def OpenSpec.upto (s : _root_.Go.ChangeSpec) : _root_.Go.OpenSpec := { _root_.Go.OpenSpec.ofChange s with cond := some uptoSmall }

/-- 'laws.FnExactValidGadgets', WHERE WHAT IT READS IS OF BULK AT MOST 1048576: true; the input reads as it did. -/
def fnExactValidGadgetsUptoRow : OpenClaim := { program := "ytfepllddlmhjiaagreat", sum := "56dd352dfa40cfbd691e60fe6a5f069bae8105249d5990dc0b10fa5e9119aaa3", func := "loop.example/g01085/laws.FnExactValidGadgets", spec := "fnExactValidGadgets", unfollowed := true, recurses := true, apart := false, narrowed := true }
def FnExactValidGadgetsUptoSaid : Prop := fnExactValidGadgetsUptoRow.holds Tryz.pinned (OpenSpec.upto fnExactValidGadgetsSpec)

/-- 'laws.FnExactSearchFor', WHERE WHAT IT READS IS OF BULK AT MOST 1048576: true; the input reads as it did. -/
def fnExactSearchForUptoRow : OpenClaim := { program := "ytfepllddlmhjiaagreat", sum := "56dd352dfa40cfbd691e60fe6a5f069bae8105249d5990dc0b10fa5e9119aaa3", func := "loop.example/g01085/laws.FnExactSearchFor", spec := "fnExactSearchFor", unfollowed := true, recurses := true, apart := false, narrowed := true }
def FnExactSearchForUptoSaid : Prop := fnExactSearchForUptoRow.holds Tryz.pinned (OpenSpec.upto fnExactSearchForSpec)

/-- 'laws.FnExactIsNoGood', WHERE WHAT IT READS IS OF BULK AT MOST 1048576: true; the input reads as it did. -/
def fnExactIsNoGoodUptoRow : OpenClaim := { program := "ytfepllddlmhjiaagreat", sum := "56dd352dfa40cfbd691e60fe6a5f069bae8105249d5990dc0b10fa5e9119aaa3", func := "loop.example/g01085/laws.FnExactIsNoGood", spec := "fnExactIsNoGood", unfollowed := true, recurses := true, apart := false, narrowed := true }
def FnExactIsNoGoodUptoSaid : Prop := fnExactIsNoGoodUptoRow.holds Tryz.pinned (OpenSpec.upto fnExactIsNoGoodSpec)

/-- 'laws.FnExactFirstWrong', WHERE WHAT IT READS IS OF BULK AT MOST 1048576: true; the input reads as it did. -/
def fnExactFirstWrongUptoRow : OpenClaim := { program := "ytfepllddlmhjiaagreat", sum := "56dd352dfa40cfbd691e60fe6a5f069bae8105249d5990dc0b10fa5e9119aaa3", func := "loop.example/g01085/laws.FnExactFirstWrong", spec := "fnExactFirstWrong", unfollowed := true, recurses := true, apart := false, narrowed := true }
def FnExactFirstWrongUptoSaid : Prop := fnExactFirstWrongUptoRow.holds Tryz.pinned (OpenSpec.upto fnExactFirstWrongSpec)

/-- 'laws.FnExactDomainsAfter', WHERE WHAT IT READS IS OF BULK AT MOST 1048576: true; the input reads as it did. -/
def fnExactDomainsAfterUptoRow : OpenClaim := { program := "ytfepllddlmhjiaagreat", sum := "56dd352dfa40cfbd691e60fe6a5f069bae8105249d5990dc0b10fa5e9119aaa3", func := "loop.example/g01085/laws.FnExactDomainsAfter", spec := "fnExactDomainsAfter", unfollowed := true, recurses := true, apart := false, narrowed := true }
def FnExactDomainsAfterUptoSaid : Prop := fnExactDomainsAfterUptoRow.holds Tryz.pinned (OpenSpec.upto fnExactDomainsAfterSpec)

/-- 'laws.FnExactSmallestReason', WHERE WHAT IT READS IS OF BULK AT MOST 1048576: true; the input reads as it did. -/
def fnExactSmallestReasonUptoRow : OpenClaim := { program := "ytfepllddlmhjiaagreat", sum := "56dd352dfa40cfbd691e60fe6a5f069bae8105249d5990dc0b10fa5e9119aaa3", func := "loop.example/g01085/laws.FnExactSmallestReason", spec := "fnExactSmallestReason", unfollowed := true, recurses := true, apart := false, narrowed := true }
def FnExactSmallestReasonUptoSaid : Prop := fnExactSmallestReasonUptoRow.holds Tryz.pinned (OpenSpec.upto fnExactSmallestReasonSpec)

/-- 'laws.FnExactRefuteInstance', WHERE WHAT IT READS IS OF BULK AT MOST 1048576: true; the input reads as it did. -/
def fnExactRefuteInstanceUptoRow : OpenClaim := { program := "ytfepllddlmhjiaagreat", sum := "56dd352dfa40cfbd691e60fe6a5f069bae8105249d5990dc0b10fa5e9119aaa3", func := "loop.example/g01085/laws.FnExactRefuteInstance", spec := "fnExactRefuteInstance", unfollowed := true, recurses := true, apart := false, narrowed := true }
def FnExactRefuteInstanceUptoSaid : Prop := fnExactRefuteInstanceUptoRow.holds Tryz.pinned (OpenSpec.upto fnExactRefuteInstanceSpec)

/-- 'laws.FnExactLearnNoGoods', WHERE WHAT IT READS IS OF BULK AT MOST 1048576: true; the input reads as it did. -/
def fnExactLearnNoGoodsUptoRow : OpenClaim := { program := "ytfepllddlmhjiaagreat", sum := "56dd352dfa40cfbd691e60fe6a5f069bae8105249d5990dc0b10fa5e9119aaa3", func := "loop.example/g01085/laws.FnExactLearnNoGoods", spec := "fnExactLearnNoGoods", unfollowed := true, recurses := true, apart := false, narrowed := true }
def FnExactLearnNoGoodsUptoSaid : Prop := fnExactLearnNoGoodsUptoRow.holds Tryz.pinned (OpenSpec.upto fnExactLearnNoGoodsSpec)

/-- 'laws.FnExactShrinkNoGood', WHERE WHAT IT READS IS OF BULK AT MOST 1048576: true; the input reads as it did. -/
def fnExactShrinkNoGoodUptoRow : OpenClaim := { program := "ytfepllddlmhjiaagreat", sum := "56dd352dfa40cfbd691e60fe6a5f069bae8105249d5990dc0b10fa5e9119aaa3", func := "loop.example/g01085/laws.FnExactShrinkNoGood", spec := "fnExactShrinkNoGood", unfollowed := true, recurses := true, apart := false, narrowed := true }
def FnExactShrinkNoGoodUptoSaid : Prop := fnExactShrinkNoGoodUptoRow.holds Tryz.pinned (OpenSpec.upto fnExactShrinkNoGoodSpec)

/-- 'laws.FnExactComposeGadgets', WHERE WHAT IT READS IS OF BULK AT MOST 1048576: true; the input reads as it did. -/
def fnExactComposeGadgetsUptoRow : OpenClaim := { program := "ytfepllddlmhjiaagreat", sum := "56dd352dfa40cfbd691e60fe6a5f069bae8105249d5990dc0b10fa5e9119aaa3", func := "loop.example/g01085/laws.FnExactComposeGadgets", spec := "fnExactComposeGadgets", unfollowed := true, recurses := true, apart := false, narrowed := true }
def FnExactComposeGadgetsUptoSaid : Prop := fnExactComposeGadgetsUptoRow.holds Tryz.pinned (OpenSpec.upto fnExactComposeGadgetsSpec)

/-- 'laws.FnExactAddNoGoods', WHERE WHAT IT READS IS OF BULK AT MOST 1048576: true; the input reads as it did. -/
def fnExactAddNoGoodsUptoRow : OpenClaim := { program := "ytfepllddlmhjiaagreat", sum := "56dd352dfa40cfbd691e60fe6a5f069bae8105249d5990dc0b10fa5e9119aaa3", func := "loop.example/g01085/laws.FnExactAddNoGoods", spec := "fnExactAddNoGoods", unfollowed := true, recurses := true, apart := false, narrowed := true }
def FnExactAddNoGoodsUptoSaid : Prop := fnExactAddNoGoodsUptoRow.holds Tryz.pinned (OpenSpec.upto fnExactAddNoGoodsSpec)

end Rows
end Go.Proofs.YtfepllddlmhjiaaGreat
