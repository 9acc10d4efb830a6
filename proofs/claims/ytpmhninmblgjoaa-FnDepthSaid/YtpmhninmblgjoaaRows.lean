/-
  No cell of these rows narrows 'for every input' (looked for: loops, veiled, ifaces, maps, wideKeys, modest, calm, conditions, laid).
  DERIVED. THE GIVEN ROWS OF THIS SEAT. 12 by the template 'for every input the law returns true; each argument reads behind the call as it read before'; 0 by the template 'total and deterministic' (their statements: YtpmhninmblgjoaaTotals.lean).
  GIVEN WITH THE SEED: the statements are not yours to turn. If you find one false, say at which input.
  Laid BY PROGRAM, IN A SANDBOX (cutbox-rows.mjs): the forced cells as the released guide's own fill.sh prints them over the translation 794e512a090eed53… (all of the seat's roots in one cut). By AI agents, Wed Nov 11 2026. No macro, syntax, notation, axiom, sorry.
-/
import Derived.Test.YtpmhninmblgjoaaChecked
import GoSem.Claim
import GoSem.ClaimJoined
import GoSem.ClaimMapViews
import Derived.JoinedTies
import Derived.KernelRfl
namespace Go.Proofs.Ytpmhninmblgjoaa
/- THE CELL 'sum', in the pinned program and in every row, IS THE sha256 OF THE DUMP (.gsa) THAT YtpmhninmblgjoaaProg.lean LOADS. Nothing in Lean hashes anything: it is a label: what it is worth is what the hold of that sum in a sandbox is worth. -/
noncomputable def Try.pinned : Pinned := { name := "ytpmhninmblgjoaa", sum := "794e512a090eed53c849574d638dd68f0810c6cc3a2792f0442a56d3bb8eae13", checked := Try.checked }
namespace Rows
def none {H : Type} : Left H := { results := [], args := [] }

/-- 'laws.FnExactTripleMake': WHATEVER THE INPUT: true; the input reads as it did. -/
def fnExactTripleMakeSpec : ChangeSpec := { name := "fnExactTripleMake", fn := fun _ => fun
  | [d1, d2] => { results := [.lit (.bool true)], args := [d1, d2] }
  | _ => none }
def fnExactTripleMakeRow : OpenClaim := { program := "ytpmhninmblgjoaa", sum := "794e512a090eed53c849574d638dd68f0810c6cc3a2792f0442a56d3bb8eae13", func := "loop.example/localglobal/laws.FnExactTripleMake", spec := "fnExactTripleMake", apart := false }
def FnExactTripleMakeSaid : Prop := fnExactTripleMakeRow.holds Try.pinned (OpenSpec.ofChange fnExactTripleMakeSpec)

/-- ITS FALSE NEIGHBOUR: 'it returns false'. Refute it at one input. -/
def fnExactTripleMakeWrong : ChangeSpec := { name := "fnExactTripleMake", fn := fun _ => fun
  | [d1, d2] => { results := [.lit (.bool false)], args := [d1, d2] }
  | _ => none }
def FnExactTripleMakeWrongFalsely : Prop := fnExactTripleMakeRow.holds Try.pinned (OpenSpec.ofChange fnExactTripleMakeWrong)

/-- 'laws.FnExactQuatConj': WHATEVER THE INPUT: true; the input reads as it did. -/
def fnExactQuatConjSpec : ChangeSpec := { name := "fnExactQuatConj", fn := fun _ => fun
  | [d] => { results := [.lit (.bool true)], args := [d] }
  | _ => none }
def fnExactQuatConjRow : OpenClaim := { program := "ytpmhninmblgjoaa", sum := "794e512a090eed53c849574d638dd68f0810c6cc3a2792f0442a56d3bb8eae13", func := "loop.example/localglobal/laws.FnExactQuatConj", spec := "fnExactQuatConj", apart := false }
def FnExactQuatConjSaid : Prop := fnExactQuatConjRow.holds Try.pinned (OpenSpec.ofChange fnExactQuatConjSpec)

/-- ITS FALSE NEIGHBOUR: 'it returns false'. Refute it at one input. -/
def fnExactQuatConjWrong : ChangeSpec := { name := "fnExactQuatConj", fn := fun _ => fun
  | [d] => { results := [.lit (.bool false)], args := [d] }
  | _ => none }
def FnExactQuatConjWrongFalsely : Prop := fnExactQuatConjRow.holds Try.pinned (OpenSpec.ofChange fnExactQuatConjWrong)

/-- 'laws.FnConj': WHATEVER THE INPUT: true; the input reads as it did. -/
def fnConjSpec : ChangeSpec := { name := "fnConj", fn := fun _ => fun
  | [d] => { results := [.lit (.bool true)], args := [d] }
  | _ => none }
def fnConjRow : OpenClaim := { program := "ytpmhninmblgjoaa", sum := "794e512a090eed53c849574d638dd68f0810c6cc3a2792f0442a56d3bb8eae13", func := "loop.example/localglobal/laws.FnConj", spec := "fnConj", apart := false }
def FnConjSaid : Prop := fnConjRow.holds Try.pinned (OpenSpec.ofChange fnConjSpec)

/-- ITS FALSE NEIGHBOUR: 'it returns false'. Refute it at one input. -/
def fnConjWrong : ChangeSpec := { name := "fnConj", fn := fun _ => fun
  | [d] => { results := [.lit (.bool false)], args := [d] }
  | _ => none }
def FnConjWrongFalsely : Prop := fnConjRow.holds Try.pinned (OpenSpec.ofChange fnConjWrong)

/-- 'laws.FnExactTripleBack': WHATEVER THE INPUT: true; the input reads as it did. -/
def fnExactTripleBackSpec : ChangeSpec := { name := "fnExactTripleBack", fn := fun _ => fun
  | [d1, d2, d3] => { results := [.lit (.bool true)], args := [d1, d2, d3] }
  | _ => none }
def fnExactTripleBackRow : OpenClaim := { program := "ytpmhninmblgjoaa", sum := "794e512a090eed53c849574d638dd68f0810c6cc3a2792f0442a56d3bb8eae13", func := "loop.example/localglobal/laws.FnExactTripleBack", spec := "fnExactTripleBack", apart := false }
def FnExactTripleBackSaid : Prop := fnExactTripleBackRow.holds Try.pinned (OpenSpec.ofChange fnExactTripleBackSpec)

/-- ITS FALSE NEIGHBOUR: 'it returns false'. Refute it at one input. -/
def fnExactTripleBackWrong : ChangeSpec := { name := "fnExactTripleBack", fn := fun _ => fun
  | [d1, d2, d3] => { results := [.lit (.bool false)], args := [d1, d2, d3] }
  | _ => none }
def FnExactTripleBackWrongFalsely : Prop := fnExactTripleBackRow.holds Try.pinned (OpenSpec.ofChange fnExactTripleBackWrong)

/-- 'laws.FnMake': WHATEVER THE INPUT: true; the input reads as it did. -/
def fnMakeSpec : ChangeSpec := { name := "fnMake", fn := fun _ => fun
  | [d] => { results := [.lit (.bool true)], args := [d] }
  | _ => none }
def fnMakeRow : OpenClaim := { program := "ytpmhninmblgjoaa", sum := "794e512a090eed53c849574d638dd68f0810c6cc3a2792f0442a56d3bb8eae13", func := "loop.example/localglobal/laws.FnMake", spec := "fnMake", apart := false }
def FnMakeSaid : Prop := fnMakeRow.holds Try.pinned (OpenSpec.ofChange fnMakeSpec)

/-- ITS FALSE NEIGHBOUR: 'it returns false'. Refute it at one input. -/
def fnMakeWrong : ChangeSpec := { name := "fnMake", fn := fun _ => fun
  | [d] => { results := [.lit (.bool false)], args := [d] }
  | _ => none }
def FnMakeWrongFalsely : Prop := fnMakeRow.holds Try.pinned (OpenSpec.ofChange fnMakeWrong)

/-- 'laws.FnExactTripleChild': WHATEVER THE INPUT: true; the input reads as it did. -/
def fnExactTripleChildSpec : ChangeSpec := { name := "fnExactTripleChild", fn := fun _ => fun
  | [d1, d2, d3, d4] => { results := [.lit (.bool true)], args := [d1, d2, d3, d4] }
  | _ => none }
def fnExactTripleChildRow : OpenClaim := { program := "ytpmhninmblgjoaa", sum := "794e512a090eed53c849574d638dd68f0810c6cc3a2792f0442a56d3bb8eae13", func := "loop.example/localglobal/laws.FnExactTripleChild", spec := "fnExactTripleChild", apart := false }
def FnExactTripleChildSaid : Prop := fnExactTripleChildRow.holds Try.pinned (OpenSpec.ofChange fnExactTripleChildSpec)

/-- ITS FALSE NEIGHBOUR: 'it returns false'. Refute it at one input. -/
def fnExactTripleChildWrong : ChangeSpec := { name := "fnExactTripleChild", fn := fun _ => fun
  | [d1, d2, d3, d4] => { results := [.lit (.bool false)], args := [d1, d2, d3, d4] }
  | _ => none }
def FnExactTripleChildWrongFalsely : Prop := fnExactTripleChildRow.holds Try.pinned (OpenSpec.ofChange fnExactTripleChildWrong)

/-- 'laws.FnExactTripleParent': WHATEVER THE INPUT: true; the input reads as it did. -/
def fnExactTripleParentSpec : ChangeSpec := { name := "fnExactTripleParent", fn := fun _ => fun
  | [d1, d2, d3] => { results := [.lit (.bool true)], args := [d1, d2, d3] }
  | _ => none }
def fnExactTripleParentRow : OpenClaim := { program := "ytpmhninmblgjoaa", sum := "794e512a090eed53c849574d638dd68f0810c6cc3a2792f0442a56d3bb8eae13", func := "loop.example/localglobal/laws.FnExactTripleParent", spec := "fnExactTripleParent", apart := false }
def FnExactTripleParentSaid : Prop := fnExactTripleParentRow.holds Try.pinned (OpenSpec.ofChange fnExactTripleParentSpec)

/-- ITS FALSE NEIGHBOUR: 'it returns false'. Refute it at one input. -/
def fnExactTripleParentWrong : ChangeSpec := { name := "fnExactTripleParent", fn := fun _ => fun
  | [d1, d2, d3] => { results := [.lit (.bool false)], args := [d1, d2, d3] }
  | _ => none }
def FnExactTripleParentWrongFalsely : Prop := fnExactTripleParentRow.holds Try.pinned (OpenSpec.ofChange fnExactTripleParentWrong)

/-- 'laws.FnExactTripleDepth': WHATEVER THE INPUT: true; the input reads as it did. -/
def fnExactTripleDepthSpec : ChangeSpec := { name := "fnExactTripleDepth", fn := fun _ => fun
  | [d1, d2, d3] => { results := [.lit (.bool true)], args := [d1, d2, d3] }
  | _ => none }
def fnExactTripleDepthRow : OpenClaim := { program := "ytpmhninmblgjoaa", sum := "794e512a090eed53c849574d638dd68f0810c6cc3a2792f0442a56d3bb8eae13", func := "loop.example/localglobal/laws.FnExactTripleDepth", spec := "fnExactTripleDepth", apart := false }
def FnExactTripleDepthSaid : Prop := fnExactTripleDepthRow.holds Try.pinned (OpenSpec.ofChange fnExactTripleDepthSpec)

/-- ITS FALSE NEIGHBOUR: 'it returns false'. Refute it at one input. -/
def fnExactTripleDepthWrong : ChangeSpec := { name := "fnExactTripleDepth", fn := fun _ => fun
  | [d1, d2, d3] => { results := [.lit (.bool false)], args := [d1, d2, d3] }
  | _ => none }
def FnExactTripleDepthWrongFalsely : Prop := fnExactTripleDepthRow.holds Try.pinned (OpenSpec.ofChange fnExactTripleDepthWrong)

/-- 'laws.FnTriple': WHATEVER THE INPUT: true; the input reads as it did. -/
def fnTripleSpec : ChangeSpec := { name := "fnTriple", fn := fun _ => fun
  | [d] => { results := [.lit (.bool true)], args := [d] }
  | _ => none }
def fnTripleRow : OpenClaim := { program := "ytpmhninmblgjoaa", sum := "794e512a090eed53c849574d638dd68f0810c6cc3a2792f0442a56d3bb8eae13", func := "loop.example/localglobal/laws.FnTriple", spec := "fnTriple", apart := false }
def FnTripleSaid : Prop := fnTripleRow.holds Try.pinned (OpenSpec.ofChange fnTripleSpec)

/-- ITS FALSE NEIGHBOUR: 'it returns false'. Refute it at one input. -/
def fnTripleWrong : ChangeSpec := { name := "fnTriple", fn := fun _ => fun
  | [d] => { results := [.lit (.bool false)], args := [d] }
  | _ => none }
def FnTripleWrongFalsely : Prop := fnTripleRow.holds Try.pinned (OpenSpec.ofChange fnTripleWrong)

/-- 'laws.FnParent': WHATEVER THE INPUT: true; the input reads as it did. -/
def fnParentSpec : ChangeSpec := { name := "fnParent", fn := fun _ => fun
  | [d] => { results := [.lit (.bool true)], args := [d] }
  | _ => none }
def fnParentRow : OpenClaim := { program := "ytpmhninmblgjoaa", sum := "794e512a090eed53c849574d638dd68f0810c6cc3a2792f0442a56d3bb8eae13", func := "loop.example/localglobal/laws.FnParent", spec := "fnParent", apart := false }
def FnParentSaid : Prop := fnParentRow.holds Try.pinned (OpenSpec.ofChange fnParentSpec)

/-- ITS FALSE NEIGHBOUR: 'it returns false'. Refute it at one input. -/
def fnParentWrong : ChangeSpec := { name := "fnParent", fn := fun _ => fun
  | [d] => { results := [.lit (.bool false)], args := [d] }
  | _ => none }
def FnParentWrongFalsely : Prop := fnParentRow.holds Try.pinned (OpenSpec.ofChange fnParentWrong)

/-- 'laws.FnChild': WHATEVER THE INPUT: true; the input reads as it did. -/
def fnChildSpec : ChangeSpec := { name := "fnChild", fn := fun _ => fun
  | [d] => { results := [.lit (.bool true)], args := [d] }
  | _ => none }
def fnChildRow : OpenClaim := { program := "ytpmhninmblgjoaa", sum := "794e512a090eed53c849574d638dd68f0810c6cc3a2792f0442a56d3bb8eae13", func := "loop.example/localglobal/laws.FnChild", spec := "fnChild", apart := false }
def FnChildSaid : Prop := fnChildRow.holds Try.pinned (OpenSpec.ofChange fnChildSpec)

/-- ITS FALSE NEIGHBOUR: 'it returns false'. Refute it at one input. -/
def fnChildWrong : ChangeSpec := { name := "fnChild", fn := fun _ => fun
  | [d] => { results := [.lit (.bool false)], args := [d] }
  | _ => none }
def FnChildWrongFalsely : Prop := fnChildRow.holds Try.pinned (OpenSpec.ofChange fnChildWrong)

/-- 'laws.FnDepth': WHATEVER THE INPUT: true; the input reads as it did. -/
def fnDepthSpec : ChangeSpec := { name := "fnDepth", fn := fun _ => fun
  | [d] => { results := [.lit (.bool true)], args := [d] }
  | _ => none }
def fnDepthRow : OpenClaim := { program := "ytpmhninmblgjoaa", sum := "794e512a090eed53c849574d638dd68f0810c6cc3a2792f0442a56d3bb8eae13", func := "loop.example/localglobal/laws.FnDepth", spec := "fnDepth", apart := false }
def FnDepthSaid : Prop := fnDepthRow.holds Try.pinned (OpenSpec.ofChange fnDepthSpec)

/-- ITS FALSE NEIGHBOUR: 'it returns false'. Refute it at one input. -/
def fnDepthWrong : ChangeSpec := { name := "fnDepth", fn := fun _ => fun
  | [d] => { results := [.lit (.bool false)], args := [d] }
  | _ => none }
def FnDepthWrongFalsely : Prop := fnDepthRow.holds Try.pinned (OpenSpec.ofChange fnDepthWrong)

/- THE SECOND FORM. 'bulk': how many values and letters a reading holds, each counted each time it is reached (what is shared counts as often as it is met; a slice's spare places count too). A statement '..UptoSaid' is the law's where the arguments, and the package variables that the reading takes, are together of bulk at most 1048576: NARROWER than '..Said'. Prove '..Said' where nothing that the law and all that it calls make is longer than what came in: it says more and counts as full. Else prove '..UptoSaid'. A law counts once. -/
mutual
def uptoBulk {H : Type} : DataW H → Nat
  | .lit (.string bytes) => bytes.length + 1
  | .lit _ => 1
  | .nil => 1
  | .ptr d => uptoBulk d + 1
  | .slice elems spare => uptoBulkAll elems + uptoBulkAll spare + 1
  | .agg parts => uptoBulkAll parts + 1
  | .iface _ d => uptoBulk d + 1
  | .map entries => uptoBulkEntries entries + 1
  | .held _ => 1
def uptoBulkAll {H : Type} : List (DataW H) → Nat
  | [] => 0
  | d :: r => uptoBulk d + uptoBulkAll r
def uptoBulkEntries {H : Type} : List (Lit × DataW H) → Nat
  | [] => 0
  | x :: r => uptoBulkEntry x + uptoBulkEntries r
def uptoBulkEntry {H : Type} : Lit × DataW H → Nat
  | (.string bytes, d) => bytes.length + uptoBulk d + 1
  | (_, d) => uptoBulk d + 1
 end
def uptoSmall : (H : Type) → List (DataW H) → Bool := fun _ ds => decide (uptoBulkAll ds ≤ 1048576)
def OpenSpec.upto (s : _root_.Go.ChangeSpec) : _root_.Go.OpenSpec := { _root_.Go.OpenSpec.ofChange s with cond := some uptoSmall }

/-- 'laws.FnExactTripleMake', WHERE WHAT IT READS IS OF BULK AT MOST 1048576: true; the input reads as it did. -/
def fnExactTripleMakeUptoRow : OpenClaim := { program := "ytpmhninmblgjoaa", sum := "794e512a090eed53c849574d638dd68f0810c6cc3a2792f0442a56d3bb8eae13", func := "loop.example/localglobal/laws.FnExactTripleMake", spec := "fnExactTripleMake", apart := false, narrowed := true }
def FnExactTripleMakeUptoSaid : Prop := fnExactTripleMakeUptoRow.holds Try.pinned (OpenSpec.upto fnExactTripleMakeSpec)

/-- 'laws.FnExactQuatConj', WHERE WHAT IT READS IS OF BULK AT MOST 1048576: true; the input reads as it did. -/
def fnExactQuatConjUptoRow : OpenClaim := { program := "ytpmhninmblgjoaa", sum := "794e512a090eed53c849574d638dd68f0810c6cc3a2792f0442a56d3bb8eae13", func := "loop.example/localglobal/laws.FnExactQuatConj", spec := "fnExactQuatConj", apart := false, narrowed := true }
def FnExactQuatConjUptoSaid : Prop := fnExactQuatConjUptoRow.holds Try.pinned (OpenSpec.upto fnExactQuatConjSpec)

/-- 'laws.FnConj', WHERE WHAT IT READS IS OF BULK AT MOST 1048576: true; the input reads as it did. -/
def fnConjUptoRow : OpenClaim := { program := "ytpmhninmblgjoaa", sum := "794e512a090eed53c849574d638dd68f0810c6cc3a2792f0442a56d3bb8eae13", func := "loop.example/localglobal/laws.FnConj", spec := "fnConj", apart := false, narrowed := true }
def FnConjUptoSaid : Prop := fnConjUptoRow.holds Try.pinned (OpenSpec.upto fnConjSpec)

/-- 'laws.FnExactTripleBack', WHERE WHAT IT READS IS OF BULK AT MOST 1048576: true; the input reads as it did. -/
def fnExactTripleBackUptoRow : OpenClaim := { program := "ytpmhninmblgjoaa", sum := "794e512a090eed53c849574d638dd68f0810c6cc3a2792f0442a56d3bb8eae13", func := "loop.example/localglobal/laws.FnExactTripleBack", spec := "fnExactTripleBack", apart := false, narrowed := true }
def FnExactTripleBackUptoSaid : Prop := fnExactTripleBackUptoRow.holds Try.pinned (OpenSpec.upto fnExactTripleBackSpec)

/-- 'laws.FnMake', WHERE WHAT IT READS IS OF BULK AT MOST 1048576: true; the input reads as it did. -/
def fnMakeUptoRow : OpenClaim := { program := "ytpmhninmblgjoaa", sum := "794e512a090eed53c849574d638dd68f0810c6cc3a2792f0442a56d3bb8eae13", func := "loop.example/localglobal/laws.FnMake", spec := "fnMake", apart := false, narrowed := true }
def FnMakeUptoSaid : Prop := fnMakeUptoRow.holds Try.pinned (OpenSpec.upto fnMakeSpec)

/-- 'laws.FnExactTripleChild', WHERE WHAT IT READS IS OF BULK AT MOST 1048576: true; the input reads as it did. -/
def fnExactTripleChildUptoRow : OpenClaim := { program := "ytpmhninmblgjoaa", sum := "794e512a090eed53c849574d638dd68f0810c6cc3a2792f0442a56d3bb8eae13", func := "loop.example/localglobal/laws.FnExactTripleChild", spec := "fnExactTripleChild", apart := false, narrowed := true }
def FnExactTripleChildUptoSaid : Prop := fnExactTripleChildUptoRow.holds Try.pinned (OpenSpec.upto fnExactTripleChildSpec)

/-- 'laws.FnExactTripleParent', WHERE WHAT IT READS IS OF BULK AT MOST 1048576: true; the input reads as it did. -/
def fnExactTripleParentUptoRow : OpenClaim := { program := "ytpmhninmblgjoaa", sum := "794e512a090eed53c849574d638dd68f0810c6cc3a2792f0442a56d3bb8eae13", func := "loop.example/localglobal/laws.FnExactTripleParent", spec := "fnExactTripleParent", apart := false, narrowed := true }
def FnExactTripleParentUptoSaid : Prop := fnExactTripleParentUptoRow.holds Try.pinned (OpenSpec.upto fnExactTripleParentSpec)

/-- 'laws.FnExactTripleDepth', WHERE WHAT IT READS IS OF BULK AT MOST 1048576: true; the input reads as it did. -/
def fnExactTripleDepthUptoRow : OpenClaim := { program := "ytpmhninmblgjoaa", sum := "794e512a090eed53c849574d638dd68f0810c6cc3a2792f0442a56d3bb8eae13", func := "loop.example/localglobal/laws.FnExactTripleDepth", spec := "fnExactTripleDepth", apart := false, narrowed := true }
def FnExactTripleDepthUptoSaid : Prop := fnExactTripleDepthUptoRow.holds Try.pinned (OpenSpec.upto fnExactTripleDepthSpec)

/-- 'laws.FnTriple', WHERE WHAT IT READS IS OF BULK AT MOST 1048576: true; the input reads as it did. -/
def fnTripleUptoRow : OpenClaim := { program := "ytpmhninmblgjoaa", sum := "794e512a090eed53c849574d638dd68f0810c6cc3a2792f0442a56d3bb8eae13", func := "loop.example/localglobal/laws.FnTriple", spec := "fnTriple", apart := false, narrowed := true }
def FnTripleUptoSaid : Prop := fnTripleUptoRow.holds Try.pinned (OpenSpec.upto fnTripleSpec)

/-- 'laws.FnParent', WHERE WHAT IT READS IS OF BULK AT MOST 1048576: true; the input reads as it did. -/
def fnParentUptoRow : OpenClaim := { program := "ytpmhninmblgjoaa", sum := "794e512a090eed53c849574d638dd68f0810c6cc3a2792f0442a56d3bb8eae13", func := "loop.example/localglobal/laws.FnParent", spec := "fnParent", apart := false, narrowed := true }
def FnParentUptoSaid : Prop := fnParentUptoRow.holds Try.pinned (OpenSpec.upto fnParentSpec)

/-- 'laws.FnChild', WHERE WHAT IT READS IS OF BULK AT MOST 1048576: true; the input reads as it did. -/
def fnChildUptoRow : OpenClaim := { program := "ytpmhninmblgjoaa", sum := "794e512a090eed53c849574d638dd68f0810c6cc3a2792f0442a56d3bb8eae13", func := "loop.example/localglobal/laws.FnChild", spec := "fnChild", apart := false, narrowed := true }
def FnChildUptoSaid : Prop := fnChildUptoRow.holds Try.pinned (OpenSpec.upto fnChildSpec)

/-- 'laws.FnDepth', WHERE WHAT IT READS IS OF BULK AT MOST 1048576: true; the input reads as it did. -/
def fnDepthUptoRow : OpenClaim := { program := "ytpmhninmblgjoaa", sum := "794e512a090eed53c849574d638dd68f0810c6cc3a2792f0442a56d3bb8eae13", func := "loop.example/localglobal/laws.FnDepth", spec := "fnDepth", apart := false, narrowed := true }
def FnDepthUptoSaid : Prop := fnDepthUptoRow.holds Try.pinned (OpenSpec.upto fnDepthSpec)

end Rows
end Go.Proofs.Ytpmhninmblgjoaa
