/-
  No cell of these rows narrows 'for every input' (looked for: loops, veiled, ifaces, maps, wideKeys, modest, calm, conditions, laid).
  DERIVED. THE GIVEN ROWS OF THIS SEAT. 10 by the template 'for every input the law returns true; each argument reads behind the call as it read before'; 0 by the template 'total and deterministic' (their statements: YtnbeeogmaamgdaaTotals.lean).
  GIVEN WITH THE SEED: the statements are not yours to turn. If you find one false, say at which input.
  Laid BY PROGRAM, IN A SANDBOX (cutbox-rows.mjs): the forced cells as the released guide's own fill.sh prints them over the translation a7f2cb218e2a36ee… (all of the seat's roots in one cut). By AI agents, Wed Nov 11 2026. No macro, syntax, notation, axiom, sorry.
-/
import Derived.Test.YtnbeeogmaamgdaaChecked
import GoSem.Claim
import GoSem.ClaimJoined
import GoSem.ClaimMapViews
import Derived.JoinedTies
import Derived.KernelRfl
namespace Go.Proofs.Ytnbeeogmaamgdaa
/- THE CELL 'sum', in the pinned program and in every row, IS THE sha256 OF THE DUMP (.gsa) THAT YtnbeeogmaamgdaaProg.lean LOADS. Nothing in Lean hashes anything: it is a label: what it is worth is what the hold of that sum in a sandbox is worth. -/
noncomputable def Try.pinned : Pinned := { name := "ytnbeeogmaamgdaa", sum := "a7f2cb218e2a36eeca856a63d405fc72f3cbae2d4e2e497543ad8922c6569d23", checked := Try.checked }
namespace Rows
def none {H : Type} : Left H := { results := [], args := [] }

/-- 'laws.FnStay': WHATEVER THE INPUT: true; the input reads as it did. -/
def fnStaySpec : ChangeSpec := { name := "fnStay", fn := fun _ => fun
  | [d1, d2] => { results := [.lit (.bool true)], args := [d1, d2] }
  | _ => none }
def fnStayRow : OpenClaim := { program := "ytnbeeogmaamgdaa", sum := "a7f2cb218e2a36eeca856a63d405fc72f3cbae2d4e2e497543ad8922c6569d23", func := "loop.example/localglobal/laws.FnStay", spec := "fnStay", apart := false }
def FnStaySaid : Prop := fnStayRow.holds Try.pinned (OpenSpec.ofChange fnStaySpec)

/-- ITS FALSE NEIGHBOUR: 'it returns false'. Refute it at one input. -/
def fnStayWrong : ChangeSpec := { name := "fnStay", fn := fun _ => fun
  | [d1, d2] => { results := [.lit (.bool false)], args := [d1, d2] }
  | _ => none }
def FnStayWrongFalsely : Prop := fnStayRow.holds Try.pinned (OpenSpec.ofChange fnStayWrong)

/-- 'laws.FnOn': WHATEVER THE INPUT: true; the input reads as it did. -/
def fnOnSpec : ChangeSpec := { name := "fnOn", fn := fun _ => fun
  | [d] => { results := [.lit (.bool true)], args := [d] }
  | _ => none }
def fnOnRow : OpenClaim := { program := "ytnbeeogmaamgdaa", sum := "a7f2cb218e2a36eeca856a63d405fc72f3cbae2d4e2e497543ad8922c6569d23", func := "loop.example/localglobal/laws.FnOn", spec := "fnOn", apart := false }
def FnOnSaid : Prop := fnOnRow.holds Try.pinned (OpenSpec.ofChange fnOnSpec)

/-- ITS FALSE NEIGHBOUR: 'it returns false'. Refute it at one input. -/
def fnOnWrong : ChangeSpec := { name := "fnOn", fn := fun _ => fun
  | [d] => { results := [.lit (.bool false)], args := [d] }
  | _ => none }
def FnOnWrongFalsely : Prop := fnOnRow.holds Try.pinned (OpenSpec.ofChange fnOnWrong)

/-- 'laws.FnCarry': WHATEVER THE INPUT: true; the input reads as it did. -/
def fnCarrySpec : ChangeSpec := { name := "fnCarry", fn := fun _ => fun
  | [d] => { results := [.lit (.bool true)], args := [d] }
  | _ => none }
def fnCarryRow : OpenClaim := { program := "ytnbeeogmaamgdaa", sum := "a7f2cb218e2a36eeca856a63d405fc72f3cbae2d4e2e497543ad8922c6569d23", func := "loop.example/localglobal/laws.FnCarry", spec := "fnCarry", apart := false }
def FnCarrySaid : Prop := fnCarryRow.holds Try.pinned (OpenSpec.ofChange fnCarrySpec)

/-- ITS FALSE NEIGHBOUR: 'it returns false'. Refute it at one input. -/
def fnCarryWrong : ChangeSpec := { name := "fnCarry", fn := fun _ => fun
  | [d] => { results := [.lit (.bool false)], args := [d] }
  | _ => none }
def FnCarryWrongFalsely : Prop := fnCarryRow.holds Try.pinned (OpenSpec.ofChange fnCarryWrong)

/-- 'laws.FnMirror': WHATEVER THE INPUT: true; the input reads as it did. -/
def fnMirrorSpec : ChangeSpec := { name := "fnMirror", fn := fun _ => fun
  | [d] => { results := [.lit (.bool true)], args := [d] }
  | _ => none }
def fnMirrorRow : OpenClaim := { program := "ytnbeeogmaamgdaa", sum := "a7f2cb218e2a36eeca856a63d405fc72f3cbae2d4e2e497543ad8922c6569d23", func := "loop.example/localglobal/laws.FnMirror", spec := "fnMirror", apart := false }
def FnMirrorSaid : Prop := fnMirrorRow.holds Try.pinned (OpenSpec.ofChange fnMirrorSpec)

/-- ITS FALSE NEIGHBOUR: 'it returns false'. Refute it at one input. -/
def fnMirrorWrong : ChangeSpec := { name := "fnMirror", fn := fun _ => fun
  | [d] => { results := [.lit (.bool false)], args := [d] }
  | _ => none }
def FnMirrorWrongFalsely : Prop := fnMirrorRow.holds Try.pinned (OpenSpec.ofChange fnMirrorWrong)

/-- 'laws.FnMoveMul': WHATEVER THE INPUT: true; the input reads as it did. -/
def fnMoveMulSpec : ChangeSpec := { name := "fnMoveMul", fn := fun _ => fun
  | [d1, d2] => { results := [.lit (.bool true)], args := [d1, d2] }
  | _ => none }
def fnMoveMulRow : OpenClaim := { program := "ytnbeeogmaamgdaa", sum := "a7f2cb218e2a36eeca856a63d405fc72f3cbae2d4e2e497543ad8922c6569d23", func := "loop.example/localglobal/laws.FnMoveMul", spec := "fnMoveMul", apart := false }
def FnMoveMulSaid : Prop := fnMoveMulRow.holds Try.pinned (OpenSpec.ofChange fnMoveMulSpec)

/-- ITS FALSE NEIGHBOUR: 'it returns false'. Refute it at one input. -/
def fnMoveMulWrong : ChangeSpec := { name := "fnMoveMul", fn := fun _ => fun
  | [d1, d2] => { results := [.lit (.bool false)], args := [d1, d2] }
  | _ => none }
def FnMoveMulWrongFalsely : Prop := fnMoveMulRow.holds Try.pinned (OpenSpec.ofChange fnMoveMulWrong)

/-- 'laws.FnMoveBack': WHATEVER THE INPUT: true; the input reads as it did. -/
def fnMoveBackSpec : ChangeSpec := { name := "fnMoveBack", fn := fun _ => fun
  | [d] => { results := [.lit (.bool true)], args := [d] }
  | _ => none }
def fnMoveBackRow : OpenClaim := { program := "ytnbeeogmaamgdaa", sum := "a7f2cb218e2a36eeca856a63d405fc72f3cbae2d4e2e497543ad8922c6569d23", func := "loop.example/localglobal/laws.FnMoveBack", spec := "fnMoveBack", apart := false }
def FnMoveBackSaid : Prop := fnMoveBackRow.holds Try.pinned (OpenSpec.ofChange fnMoveBackSpec)

/-- ITS FALSE NEIGHBOUR: 'it returns false'. Refute it at one input. -/
def fnMoveBackWrong : ChangeSpec := { name := "fnMoveBack", fn := fun _ => fun
  | [d] => { results := [.lit (.bool false)], args := [d] }
  | _ => none }
def FnMoveBackWrongFalsely : Prop := fnMoveBackRow.holds Try.pinned (OpenSpec.ofChange fnMoveBackWrong)

/-- 'laws.FnMove': WHATEVER THE INPUT: true; the input reads as it did. -/
def fnMoveSpec : ChangeSpec := { name := "fnMove", fn := fun _ => fun
  | [d] => { results := [.lit (.bool true)], args := [d] }
  | _ => none }
def fnMoveRow : OpenClaim := { program := "ytnbeeogmaamgdaa", sum := "a7f2cb218e2a36eeca856a63d405fc72f3cbae2d4e2e497543ad8922c6569d23", func := "loop.example/localglobal/laws.FnMove", spec := "fnMove", apart := false }
def FnMoveSaid : Prop := fnMoveRow.holds Try.pinned (OpenSpec.ofChange fnMoveSpec)

/-- ITS FALSE NEIGHBOUR: 'it returns false'. Refute it at one input. -/
def fnMoveWrong : ChangeSpec := { name := "fnMove", fn := fun _ => fun
  | [d] => { results := [.lit (.bool false)], args := [d] }
  | _ => none }
def FnMoveWrongFalsely : Prop := fnMoveRow.holds Try.pinned (OpenSpec.ofChange fnMoveWrong)

/-- 'laws.FnOf': WHATEVER THE INPUT: true; the input reads as it did. -/
def fnOfSpec : ChangeSpec := { name := "fnOf", fn := fun _ => fun
  | [d] => { results := [.lit (.bool true)], args := [d] }
  | _ => none }
def fnOfRow : OpenClaim := { program := "ytnbeeogmaamgdaa", sum := "a7f2cb218e2a36eeca856a63d405fc72f3cbae2d4e2e497543ad8922c6569d23", func := "loop.example/localglobal/laws.FnOf", spec := "fnOf", apart := false }
def FnOfSaid : Prop := fnOfRow.holds Try.pinned (OpenSpec.ofChange fnOfSpec)

/-- ITS FALSE NEIGHBOUR: 'it returns false'. Refute it at one input. -/
def fnOfWrong : ChangeSpec := { name := "fnOf", fn := fun _ => fun
  | [d] => { results := [.lit (.bool false)], args := [d] }
  | _ => none }
def FnOfWrongFalsely : Prop := fnOfRow.holds Try.pinned (OpenSpec.ofChange fnOfWrong)

/-- 'laws.FnSign': WHATEVER THE INPUT: true; the input reads as it did. -/
def fnSignSpec : ChangeSpec := { name := "fnSign", fn := fun _ => fun
  | [d1, d2] => { results := [.lit (.bool true)], args := [d1, d2] }
  | _ => none }
def fnSignRow : OpenClaim := { program := "ytnbeeogmaamgdaa", sum := "a7f2cb218e2a36eeca856a63d405fc72f3cbae2d4e2e497543ad8922c6569d23", func := "loop.example/localglobal/laws.FnSign", spec := "fnSign", unfollowed := true, recurses := true, apart := false }
def FnSignSaid : Prop := fnSignRow.holds Try.pinned (OpenSpec.ofChange fnSignSpec)

/-- ITS FALSE NEIGHBOUR: 'it returns false'. Refute it at one input. -/
def fnSignWrong : ChangeSpec := { name := "fnSign", fn := fun _ => fun
  | [d1, d2] => { results := [.lit (.bool false)], args := [d1, d2] }
  | _ => none }
def FnSignWrongFalsely : Prop := fnSignRow.holds Try.pinned (OpenSpec.ofChange fnSignWrong)

/-- 'laws.FnSplitMove': WHATEVER THE INPUT: true; the input reads as it did. -/
def fnSplitMoveSpec : ChangeSpec := { name := "fnSplitMove", fn := fun _ => fun
  | [d] => { results := [.lit (.bool true)], args := [d] }
  | _ => none }
def fnSplitMoveRow : OpenClaim := { program := "ytnbeeogmaamgdaa", sum := "a7f2cb218e2a36eeca856a63d405fc72f3cbae2d4e2e497543ad8922c6569d23", func := "loop.example/localglobal/laws.FnSplitMove", spec := "fnSplitMove", unfollowed := true, recurses := true, apart := false }
def FnSplitMoveSaid : Prop := fnSplitMoveRow.holds Try.pinned (OpenSpec.ofChange fnSplitMoveSpec)

/-- ITS FALSE NEIGHBOUR: 'it returns false'. Refute it at one input. -/
def fnSplitMoveWrong : ChangeSpec := { name := "fnSplitMove", fn := fun _ => fun
  | [d] => { results := [.lit (.bool false)], args := [d] }
  | _ => none }
def FnSplitMoveWrongFalsely : Prop := fnSplitMoveRow.holds Try.pinned (OpenSpec.ofChange fnSplitMoveWrong)

/- THE SECOND FORM. 'bulk': how many values and letters a reading holds, each counted each time it is reached (what is shared counts as often as it is met; a slice's spare places count too). A statement '..UptoSaid' is the law's where the arguments, and the package variables that the reading takes, are together of bulk at most 1048576: NARROWER than '..Said'. Prove '..Said' where nothing that the law and all that it calls make is longer than what came in: it says more and counts as full. Else prove '..UptoSaid'. A law counts once. -/
mutual
def uptoBulk {H : Type} : DataW H → Nat
  | .lit (.string bytes) => bytes.length + 1
  | .lit _ => 1
  | .nil => 1
  | .ptr d => uptoBulk d + 1
  | .slice elems spare => uptoBulkAll elems + uptoBulkAll spare + 1
  | .agg parts => uptoBulkAll parts + 1
  | .iface _ d => uptoBulk d + 1
  | .map entries => uptoBulkEntries entries + 1
  | .held _ => 1
def uptoBulkAll {H : Type} : List (DataW H) → Nat
  | [] => 0
  | d :: r => uptoBulk d + uptoBulkAll r
def uptoBulkEntries {H : Type} : List (Lit × DataW H) → Nat
  | [] => 0
  | x :: r => uptoBulkEntry x + uptoBulkEntries r
def uptoBulkEntry {H : Type} : Lit × DataW H → Nat
  | (.string bytes, d) => bytes.length + uptoBulk d + 1
  | (_, d) => uptoBulk d + 1
 end
def uptoSmall : (H : Type) → List (DataW H) → Bool := fun _ ds => decide (uptoBulkAll ds ≤ 1048576)
def OpenSpec.upto (s : _root_.Go.ChangeSpec) : _root_.Go.OpenSpec := { _root_.Go.OpenSpec.ofChange s with cond := some uptoSmall }

/-- 'laws.FnStay', WHERE WHAT IT READS IS OF BULK AT MOST 1048576: true; the input reads as it did. -/
def fnStayUptoRow : OpenClaim := { program := "ytnbeeogmaamgdaa", sum := "a7f2cb218e2a36eeca856a63d405fc72f3cbae2d4e2e497543ad8922c6569d23", func := "loop.example/localglobal/laws.FnStay", spec := "fnStay", apart := false, narrowed := true }
def FnStayUptoSaid : Prop := fnStayUptoRow.holds Try.pinned (OpenSpec.upto fnStaySpec)

/-- 'laws.FnOn', WHERE WHAT IT READS IS OF BULK AT MOST 1048576: true; the input reads as it did. -/
def fnOnUptoRow : OpenClaim := { program := "ytnbeeogmaamgdaa", sum := "a7f2cb218e2a36eeca856a63d405fc72f3cbae2d4e2e497543ad8922c6569d23", func := "loop.example/localglobal/laws.FnOn", spec := "fnOn", apart := false, narrowed := true }
def FnOnUptoSaid : Prop := fnOnUptoRow.holds Try.pinned (OpenSpec.upto fnOnSpec)

/-- 'laws.FnCarry', WHERE WHAT IT READS IS OF BULK AT MOST 1048576: true; the input reads as it did. -/
def fnCarryUptoRow : OpenClaim := { program := "ytnbeeogmaamgdaa", sum := "a7f2cb218e2a36eeca856a63d405fc72f3cbae2d4e2e497543ad8922c6569d23", func := "loop.example/localglobal/laws.FnCarry", spec := "fnCarry", apart := false, narrowed := true }
def FnCarryUptoSaid : Prop := fnCarryUptoRow.holds Try.pinned (OpenSpec.upto fnCarrySpec)

/-- 'laws.FnMirror', WHERE WHAT IT READS IS OF BULK AT MOST 1048576: true; the input reads as it did. -/
def fnMirrorUptoRow : OpenClaim := { program := "ytnbeeogmaamgdaa", sum := "a7f2cb218e2a36eeca856a63d405fc72f3cbae2d4e2e497543ad8922c6569d23", func := "loop.example/localglobal/laws.FnMirror", spec := "fnMirror", apart := false, narrowed := true }
def FnMirrorUptoSaid : Prop := fnMirrorUptoRow.holds Try.pinned (OpenSpec.upto fnMirrorSpec)

/-- 'laws.FnMoveMul', WHERE WHAT IT READS IS OF BULK AT MOST 1048576: true; the input reads as it did. -/
def fnMoveMulUptoRow : OpenClaim := { program := "ytnbeeogmaamgdaa", sum := "a7f2cb218e2a36eeca856a63d405fc72f3cbae2d4e2e497543ad8922c6569d23", func := "loop.example/localglobal/laws.FnMoveMul", spec := "fnMoveMul", apart := false, narrowed := true }
def FnMoveMulUptoSaid : Prop := fnMoveMulUptoRow.holds Try.pinned (OpenSpec.upto fnMoveMulSpec)

/-- 'laws.FnMoveBack', WHERE WHAT IT READS IS OF BULK AT MOST 1048576: true; the input reads as it did. -/
def fnMoveBackUptoRow : OpenClaim := { program := "ytnbeeogmaamgdaa", sum := "a7f2cb218e2a36eeca856a63d405fc72f3cbae2d4e2e497543ad8922c6569d23", func := "loop.example/localglobal/laws.FnMoveBack", spec := "fnMoveBack", apart := false, narrowed := true }
def FnMoveBackUptoSaid : Prop := fnMoveBackUptoRow.holds Try.pinned (OpenSpec.upto fnMoveBackSpec)

/-- 'laws.FnMove', WHERE WHAT IT READS IS OF BULK AT MOST 1048576: true; the input reads as it did. -/
def fnMoveUptoRow : OpenClaim := { program := "ytnbeeogmaamgdaa", sum := "a7f2cb218e2a36eeca856a63d405fc72f3cbae2d4e2e497543ad8922c6569d23", func := "loop.example/localglobal/laws.FnMove", spec := "fnMove", apart := false, narrowed := true }
def FnMoveUptoSaid : Prop := fnMoveUptoRow.holds Try.pinned (OpenSpec.upto fnMoveSpec)

/-- 'laws.FnOf', WHERE WHAT IT READS IS OF BULK AT MOST 1048576: true; the input reads as it did. -/
def fnOfUptoRow : OpenClaim := { program := "ytnbeeogmaamgdaa", sum := "a7f2cb218e2a36eeca856a63d405fc72f3cbae2d4e2e497543ad8922c6569d23", func := "loop.example/localglobal/laws.FnOf", spec := "fnOf", apart := false, narrowed := true }
def FnOfUptoSaid : Prop := fnOfUptoRow.holds Try.pinned (OpenSpec.upto fnOfSpec)

/-- 'laws.FnSign', WHERE WHAT IT READS IS OF BULK AT MOST 1048576: true; the input reads as it did. -/
def fnSignUptoRow : OpenClaim := { program := "ytnbeeogmaamgdaa", sum := "a7f2cb218e2a36eeca856a63d405fc72f3cbae2d4e2e497543ad8922c6569d23", func := "loop.example/localglobal/laws.FnSign", spec := "fnSign", unfollowed := true, recurses := true, apart := false, narrowed := true }
def FnSignUptoSaid : Prop := fnSignUptoRow.holds Try.pinned (OpenSpec.upto fnSignSpec)

/-- 'laws.FnSplitMove', WHERE WHAT IT READS IS OF BULK AT MOST 1048576: true; the input reads as it did. -/
def fnSplitMoveUptoRow : OpenClaim := { program := "ytnbeeogmaamgdaa", sum := "a7f2cb218e2a36eeca856a63d405fc72f3cbae2d4e2e497543ad8922c6569d23", func := "loop.example/localglobal/laws.FnSplitMove", spec := "fnSplitMove", unfollowed := true, recurses := true, apart := false, narrowed := true }
def FnSplitMoveUptoSaid : Prop := fnSplitMoveUptoRow.holds Try.pinned (OpenSpec.upto fnSplitMoveSpec)

end Rows
end Go.Proofs.Ytnbeeogmaamgdaa
