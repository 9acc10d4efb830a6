/-
  No cell of these rows narrows 'for every input' (looked for: loops, veiled, ifaces, maps, wideKeys, modest, calm, conditions, laid).
  DERIVED. THE GIVEN ROWS OF THIS SEAT. 6 by the template 'for every input the law returns true; each argument reads behind the call as it read before'; 0 by the template 'total and deterministic' (their statements: YtggfffkplfmfdaaTotals.lean).
  GIVEN WITH THE SEED: the statements are not yours to turn. If you find one false, say at which input.
  Laid BY PROGRAM, IN A SANDBOX (cutbox-rows.mjs): the forced cells as the released guide's own fill.sh prints them over the translation 75087f2c87138174… (all of the seat's roots in one cut). By AI agents, Wed Nov 11 2026. No macro, syntax, notation, axiom, sorry.
-/
import Derived.Test.YtggfffkplfmfdaaChecked
import GoSem.Claim
import GoSem.ClaimJoined
import GoSem.ClaimMapViews
import Derived.JoinedTies
import Derived.KernelRfl
namespace Go.Proofs.Ytggfffkplfmfdaa
/- THE CELL 'sum', in the pinned program and in every row, IS THE sha256 OF THE DUMP (.gsa) THAT YtggfffkplfmfdaaProg.lean LOADS. Nothing in Lean hashes anything: it is a label: what it is worth is what the hold of that sum in a sandbox is worth. -/
noncomputable def Try.pinned : Pinned := { name := "ytggfffkplfmfdaa", sum := "75087f2c871381747ea08c9473eeb1487a40226b26ec63b9048ba809ad92ca83", checked := Try.checked }
namespace Rows
def none {H : Type} : Left H := { results := [], args := [] }

/-- 'laws.FnExactThreeIs': WHATEVER THE INPUT: true; the input reads as it did. -/
def fnExactThreeIsSpec : ChangeSpec := { name := "fnExactThreeIs", fn := fun _ => fun
  | [d] => { results := [.lit (.bool true)], args := [d] }
  | _ => none }
def fnExactThreeIsRow : OpenClaim := { program := "ytggfffkplfmfdaa", sum := "75087f2c871381747ea08c9473eeb1487a40226b26ec63b9048ba809ad92ca83", func := "loop.example/localglobal/laws.FnExactThreeIs", spec := "fnExactThreeIs", apart := false }
def FnExactThreeIsSaid : Prop := fnExactThreeIsRow.holds Try.pinned (OpenSpec.ofChange fnExactThreeIsSpec)

/-- ITS FALSE NEIGHBOUR: 'it returns false'. Refute it at one input. -/
def fnExactThreeIsWrong : ChangeSpec := { name := "fnExactThreeIs", fn := fun _ => fun
  | [d] => { results := [.lit (.bool false)], args := [d] }
  | _ => none }
def FnExactThreeIsWrongFalsely : Prop := fnExactThreeIsRow.holds Try.pinned (OpenSpec.ofChange fnExactThreeIsWrong)

/-- 'laws.FnExactFourMany': WHATEVER THE INPUT: true; the input reads as it did. -/
def fnExactFourManySpec : ChangeSpec := { name := "fnExactFourMany", fn := fun _ => fun
  | [d] => { results := [.lit (.bool true)], args := [d] }
  | _ => none }
def fnExactFourManyRow : OpenClaim := { program := "ytggfffkplfmfdaa", sum := "75087f2c871381747ea08c9473eeb1487a40226b26ec63b9048ba809ad92ca83", func := "loop.example/localglobal/laws.FnExactFourMany", spec := "fnExactFourMany", apart := false }
def FnExactFourManySaid : Prop := fnExactFourManyRow.holds Try.pinned (OpenSpec.ofChange fnExactFourManySpec)

/-- ITS FALSE NEIGHBOUR: 'it returns false'. Refute it at one input. -/
def fnExactFourManyWrong : ChangeSpec := { name := "fnExactFourMany", fn := fun _ => fun
  | [d] => { results := [.lit (.bool false)], args := [d] }
  | _ => none }
def FnExactFourManyWrongFalsely : Prop := fnExactFourManyRow.holds Try.pinned (OpenSpec.ofChange fnExactFourManyWrong)

/-- 'laws.FnExactQuatValid': WHATEVER THE INPUT: true; the input reads as it did. -/
def fnExactQuatValidSpec : ChangeSpec := { name := "fnExactQuatValid", fn := fun _ => fun
  | [d] => { results := [.lit (.bool true)], args := [d] }
  | _ => none }
def fnExactQuatValidRow : OpenClaim := { program := "ytggfffkplfmfdaa", sum := "75087f2c871381747ea08c9473eeb1487a40226b26ec63b9048ba809ad92ca83", func := "loop.example/localglobal/laws.FnExactQuatValid", spec := "fnExactQuatValid", apart := false }
def FnExactQuatValidSaid : Prop := fnExactQuatValidRow.holds Try.pinned (OpenSpec.ofChange fnExactQuatValidSpec)

/-- ITS FALSE NEIGHBOUR: 'it returns false'. Refute it at one input. -/
def fnExactQuatValidWrong : ChangeSpec := { name := "fnExactQuatValid", fn := fun _ => fun
  | [d] => { results := [.lit (.bool false)], args := [d] }
  | _ => none }
def FnExactQuatValidWrongFalsely : Prop := fnExactQuatValidRow.holds Try.pinned (OpenSpec.ofChange fnExactQuatValidWrong)

/-- 'laws.FnExactTwoMany': WHATEVER THE INPUT: true; the input reads as it did. -/
def fnExactTwoManySpec : ChangeSpec := { name := "fnExactTwoMany", fn := fun _ => fun
  | [d] => { results := [.lit (.bool true)], args := [d] }
  | _ => none }
def fnExactTwoManyRow : OpenClaim := { program := "ytggfffkplfmfdaa", sum := "75087f2c871381747ea08c9473eeb1487a40226b26ec63b9048ba809ad92ca83", func := "loop.example/localglobal/laws.FnExactTwoMany", spec := "fnExactTwoMany", apart := false }
def FnExactTwoManySaid : Prop := fnExactTwoManyRow.holds Try.pinned (OpenSpec.ofChange fnExactTwoManySpec)

/-- ITS FALSE NEIGHBOUR: 'it returns false'. Refute it at one input. -/
def fnExactTwoManyWrong : ChangeSpec := { name := "fnExactTwoMany", fn := fun _ => fun
  | [d] => { results := [.lit (.bool false)], args := [d] }
  | _ => none }
def FnExactTwoManyWrongFalsely : Prop := fnExactTwoManyRow.holds Try.pinned (OpenSpec.ofChange fnExactTwoManyWrong)

/-- 'laws.FnExactTripleIs': WHATEVER THE INPUT: true; the input reads as it did. -/
def fnExactTripleIsSpec : ChangeSpec := { name := "fnExactTripleIs", fn := fun _ => fun
  | [d1, d2, d3] => { results := [.lit (.bool true)], args := [d1, d2, d3] }
  | _ => none }
def fnExactTripleIsRow : OpenClaim := { program := "ytggfffkplfmfdaa", sum := "75087f2c871381747ea08c9473eeb1487a40226b26ec63b9048ba809ad92ca83", func := "loop.example/localglobal/laws.FnExactTripleIs", spec := "fnExactTripleIs", apart := false }
def FnExactTripleIsSaid : Prop := fnExactTripleIsRow.holds Try.pinned (OpenSpec.ofChange fnExactTripleIsSpec)

/-- ITS FALSE NEIGHBOUR: 'it returns false'. Refute it at one input. -/
def fnExactTripleIsWrong : ChangeSpec := { name := "fnExactTripleIs", fn := fun _ => fun
  | [d1, d2, d3] => { results := [.lit (.bool false)], args := [d1, d2, d3] }
  | _ => none }
def FnExactTripleIsWrongFalsely : Prop := fnExactTripleIsRow.holds Try.pinned (OpenSpec.ofChange fnExactTripleIsWrong)

/-- 'laws.FnExactQuatNorm': WHATEVER THE INPUT: true; the input reads as it did. -/
def fnExactQuatNormSpec : ChangeSpec := { name := "fnExactQuatNorm", fn := fun _ => fun
  | [d] => { results := [.lit (.bool true)], args := [d] }
  | _ => none }
def fnExactQuatNormRow : OpenClaim := { program := "ytggfffkplfmfdaa", sum := "75087f2c871381747ea08c9473eeb1487a40226b26ec63b9048ba809ad92ca83", func := "loop.example/localglobal/laws.FnExactQuatNorm", spec := "fnExactQuatNorm", apart := false }
def FnExactQuatNormSaid : Prop := fnExactQuatNormRow.holds Try.pinned (OpenSpec.ofChange fnExactQuatNormSpec)

/-- ITS FALSE NEIGHBOUR: 'it returns false'. Refute it at one input. -/
def fnExactQuatNormWrong : ChangeSpec := { name := "fnExactQuatNorm", fn := fun _ => fun
  | [d] => { results := [.lit (.bool false)], args := [d] }
  | _ => none }
def FnExactQuatNormWrongFalsely : Prop := fnExactQuatNormRow.holds Try.pinned (OpenSpec.ofChange fnExactQuatNormWrong)

/- THE SECOND FORM. 'bulk': how many values and letters a reading holds, each counted each time it is reached (what is shared counts as often as it is met; a slice's spare places count too). A statement '..UptoSaid' is the law's where the arguments, and the package variables that the reading takes, are together of bulk at most 1048576: NARROWER than '..Said'. Prove '..Said' where nothing that the law and all that it calls make is longer than what came in: it says more and counts as full. Else prove '..UptoSaid'. A law counts once. -/
mutual
def uptoBulk {H : Type} : DataW H → Nat
  | .lit (.string bytes) => bytes.length + 1
  | .lit _ => 1
  | .nil => 1
  | .ptr d => uptoBulk d + 1
  | .slice elems spare => uptoBulkAll elems + uptoBulkAll spare + 1
  | .agg parts => uptoBulkAll parts + 1
  | .iface _ d => uptoBulk d + 1
  | .map entries => uptoBulkEntries entries + 1
  | .held _ => 1
def uptoBulkAll {H : Type} : List (DataW H) → Nat
  | [] => 0
  | d :: r => uptoBulk d + uptoBulkAll r
def uptoBulkEntries {H : Type} : List (Lit × DataW H) → Nat
  | [] => 0
  | x :: r => uptoBulkEntry x + uptoBulkEntries r
def uptoBulkEntry {H : Type} : Lit × DataW H → Nat
  | (.string bytes, d) => bytes.length + uptoBulk d + 1
  | (_, d) => uptoBulk d + 1
 end
def uptoSmall : (H : Type) → List (DataW H) → Bool := fun _ ds => decide (uptoBulkAll ds ≤ 1048576)
def OpenSpec.upto (s : _root_.Go.ChangeSpec) : _root_.Go.OpenSpec := { _root_.Go.OpenSpec.ofChange s with cond := some uptoSmall }

/-- 'laws.FnExactThreeIs', WHERE WHAT IT READS IS OF BULK AT MOST 1048576: true; the input reads as it did. -/
def fnExactThreeIsUptoRow : OpenClaim := { program := "ytggfffkplfmfdaa", sum := "75087f2c871381747ea08c9473eeb1487a40226b26ec63b9048ba809ad92ca83", func := "loop.example/localglobal/laws.FnExactThreeIs", spec := "fnExactThreeIs", apart := false, narrowed := true }
def FnExactThreeIsUptoSaid : Prop := fnExactThreeIsUptoRow.holds Try.pinned (OpenSpec.upto fnExactThreeIsSpec)

/-- 'laws.FnExactFourMany', WHERE WHAT IT READS IS OF BULK AT MOST 1048576: true; the input reads as it did. -/
def fnExactFourManyUptoRow : OpenClaim := { program := "ytggfffkplfmfdaa", sum := "75087f2c871381747ea08c9473eeb1487a40226b26ec63b9048ba809ad92ca83", func := "loop.example/localglobal/laws.FnExactFourMany", spec := "fnExactFourMany", apart := false, narrowed := true }
def FnExactFourManyUptoSaid : Prop := fnExactFourManyUptoRow.holds Try.pinned (OpenSpec.upto fnExactFourManySpec)

/-- 'laws.FnExactQuatValid', WHERE WHAT IT READS IS OF BULK AT MOST 1048576: true; the input reads as it did. -/
def fnExactQuatValidUptoRow : OpenClaim := { program := "ytggfffkplfmfdaa", sum := "75087f2c871381747ea08c9473eeb1487a40226b26ec63b9048ba809ad92ca83", func := "loop.example/localglobal/laws.FnExactQuatValid", spec := "fnExactQuatValid", apart := false, narrowed := true }
def FnExactQuatValidUptoSaid : Prop := fnExactQuatValidUptoRow.holds Try.pinned (OpenSpec.upto fnExactQuatValidSpec)

/-- 'laws.FnExactTwoMany', WHERE WHAT IT READS IS OF BULK AT MOST 1048576: true; the input reads as it did. -/
def fnExactTwoManyUptoRow : OpenClaim := { program := "ytggfffkplfmfdaa", sum := "75087f2c871381747ea08c9473eeb1487a40226b26ec63b9048ba809ad92ca83", func := "loop.example/localglobal/laws.FnExactTwoMany", spec := "fnExactTwoMany", apart := false, narrowed := true }
def FnExactTwoManyUptoSaid : Prop := fnExactTwoManyUptoRow.holds Try.pinned (OpenSpec.upto fnExactTwoManySpec)

/-- 'laws.FnExactTripleIs', WHERE WHAT IT READS IS OF BULK AT MOST 1048576: true; the input reads as it did. -/
def fnExactTripleIsUptoRow : OpenClaim := { program := "ytggfffkplfmfdaa", sum := "75087f2c871381747ea08c9473eeb1487a40226b26ec63b9048ba809ad92ca83", func := "loop.example/localglobal/laws.FnExactTripleIs", spec := "fnExactTripleIs", apart := false, narrowed := true }
def FnExactTripleIsUptoSaid : Prop := fnExactTripleIsUptoRow.holds Try.pinned (OpenSpec.upto fnExactTripleIsSpec)

/-- 'laws.FnExactQuatNorm', WHERE WHAT IT READS IS OF BULK AT MOST 1048576: true; the input reads as it did. -/
def fnExactQuatNormUptoRow : OpenClaim := { program := "ytggfffkplfmfdaa", sum := "75087f2c871381747ea08c9473eeb1487a40226b26ec63b9048ba809ad92ca83", func := "loop.example/localglobal/laws.FnExactQuatNorm", spec := "fnExactQuatNorm", apart := false, narrowed := true }
def FnExactQuatNormUptoSaid : Prop := fnExactQuatNormUptoRow.holds Try.pinned (OpenSpec.upto fnExactQuatNormSpec)

end Rows
end Go.Proofs.Ytggfffkplfmfdaa
