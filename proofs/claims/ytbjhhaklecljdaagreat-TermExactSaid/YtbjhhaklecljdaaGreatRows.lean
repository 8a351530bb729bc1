/-
  No cell of these rows narrows 'for every input' (looked for: loops, veiled, ifaces, maps, wideKeys, modest, calm, conditions, laid).
  DERIVED. THE GIVEN ROWS OF THIS SEAT. 6 by the template 'for every input the law returns true; each argument reads behind the call as it read before'; 0 by the template 'total and deterministic' (their statements: YtbjhhaklecljdaaGreatTotals.lean).
  GIVEN WITH THE SEED: the statements are not yours to turn. If you find one false, say at which input.
  Laid BY PROGRAM, IN A SANDBOX (cutbox-rows.mjs): the forced cells as the released guide's own fill.sh prints them over the translation 8418356a68ed470a… (all of the seat's roots in one cut). By AI agents, Wed Nov 11 2026. No macro, syntax, notation, axiom, sorry.
-/
import Derived.Test.YtbjhhaklecljdaaGreatChecked
import GoSem.Claim
import GoSem.ClaimJoined
import GoSem.ClaimMapViews
import Derived.JoinedTies
import Derived.KernelRfl
namespace Go.Proofs.YtbjhhaklecljdaaGreat
/- THE CELL 'sum', in the pinned program and in every row, IS THE sha256 OF THE DUMP (.gsa) THAT YtbjhhaklecljdaaGreatProg.lean LOADS. Nothing in Lean hashes anything: it is a label: what it is worth is what the hold of that sum in a sandbox is worth. -/
noncomputable def Tryz.pinned : Pinned := { name := "ytbjhhaklecljdaagreat", sum := "8418356a68ed470ae86f13e8d309f4c491ddb629943ac974f29897bde9e46706", checked := Tryz.checked }
namespace Rows
def none {H : Type} : Left H := { results := [], args := [] }

/-- 'modcertlaw35.TermRequirements': WHATEVER THE INPUT: true; the input reads as it did. -/
def termRequirementsSpec : ChangeSpec := { name := "termRequirements", fn := fun _ => fun
  | [d1, d2, d3, d4] => { results := [.lit (.bool true)], args := [d1, d2, d3, d4] }
  | _ => none }
def termRequirementsRow : OpenClaim := { program := "ytbjhhaklecljdaagreat", sum := "8418356a68ed470ae86f13e8d309f4c491ddb629943ac974f29897bde9e46706", func := "modcert/modcertlaw35.TermRequirements", spec := "termRequirements", inPlace := ["internal/bytealg.abigen_runtime_cmpstring"], unfollowed := true, recurses := true, apart := false }
def TermRequirementsSaid : Prop := termRequirementsRow.holds Tryz.pinned (OpenSpec.ofChange termRequirementsSpec)

/-- ITS FALSE NEIGHBOUR: 'it returns false'. Refute it at one input. -/
def termRequirementsWrong : ChangeSpec := { name := "termRequirements", fn := fun _ => fun
  | [d1, d2, d3, d4] => { results := [.lit (.bool false)], args := [d1, d2, d3, d4] }
  | _ => none }
def TermRequirementsWrongFalsely : Prop := termRequirementsRow.holds Tryz.pinned (OpenSpec.ofChange termRequirementsWrong)

/-- 'modcertlaw35.TermResolves': WHATEVER THE INPUT: true; the input reads as it did. -/
def termResolvesSpec : ChangeSpec := { name := "termResolves", fn := fun _ => fun
  | [d1, d2, d3] => { results := [.lit (.bool true)], args := [d1, d2, d3] }
  | _ => none }
def termResolvesRow : OpenClaim := { program := "ytbjhhaklecljdaagreat", sum := "8418356a68ed470ae86f13e8d309f4c491ddb629943ac974f29897bde9e46706", func := "modcert/modcertlaw35.TermResolves", spec := "termResolves", inPlace := ["internal/bytealg.abigen_runtime_cmpstring"], unfollowed := true, recurses := true, apart := false }
def TermResolvesSaid : Prop := termResolvesRow.holds Tryz.pinned (OpenSpec.ofChange termResolvesSpec)

/-- ITS FALSE NEIGHBOUR: 'it returns false'. Refute it at one input. -/
def termResolvesWrong : ChangeSpec := { name := "termResolves", fn := fun _ => fun
  | [d1, d2, d3] => { results := [.lit (.bool false)], args := [d1, d2, d3] }
  | _ => none }
def TermResolvesWrongFalsely : Prop := termResolvesRow.holds Tryz.pinned (OpenSpec.ofChange termResolvesWrong)

/-- 'modcertlaw35.TermImplied': WHATEVER THE INPUT: true; the input reads as it did. -/
def termImpliedSpec : ChangeSpec := { name := "termImplied", fn := fun _ => fun
  | [d1, d2, d3, d4] => { results := [.lit (.bool true)], args := [d1, d2, d3, d4] }
  | _ => none }
def termImpliedRow : OpenClaim := { program := "ytbjhhaklecljdaagreat", sum := "8418356a68ed470ae86f13e8d309f4c491ddb629943ac974f29897bde9e46706", func := "modcert/modcertlaw35.TermImplied", spec := "termImplied", inPlace := ["internal/bytealg.abigen_runtime_cmpstring"], unfollowed := true, recurses := true, apart := false }
def TermImpliedSaid : Prop := termImpliedRow.holds Tryz.pinned (OpenSpec.ofChange termImpliedSpec)

/-- ITS FALSE NEIGHBOUR: 'it returns false'. Refute it at one input. -/
def termImpliedWrong : ChangeSpec := { name := "termImplied", fn := fun _ => fun
  | [d1, d2, d3, d4] => { results := [.lit (.bool false)], args := [d1, d2, d3, d4] }
  | _ => none }
def TermImpliedWrongFalsely : Prop := termImpliedRow.holds Tryz.pinned (OpenSpec.ofChange termImpliedWrong)

/-- 'modcertlaw35.TermExact': WHATEVER THE INPUT: true; the input reads as it did. -/
def termExactSpec : ChangeSpec := { name := "termExact", fn := fun _ => fun
  | [d1, d2, d3, d4, d5] => { results := [.lit (.bool true)], args := [d1, d2, d3, d4, d5] }
  | _ => none }
def termExactRow : OpenClaim := { program := "ytbjhhaklecljdaagreat", sum := "8418356a68ed470ae86f13e8d309f4c491ddb629943ac974f29897bde9e46706", func := "modcert/modcertlaw35.TermExact", spec := "termExact", inPlace := ["internal/bytealg.abigen_runtime_cmpstring"], unfollowed := true, recurses := true, apart := false }
def TermExactSaid : Prop := termExactRow.holds Tryz.pinned (OpenSpec.ofChange termExactSpec)

/-- ITS FALSE NEIGHBOUR: 'it returns false'. Refute it at one input. -/
def termExactWrong : ChangeSpec := { name := "termExact", fn := fun _ => fun
  | [d1, d2, d3, d4, d5] => { results := [.lit (.bool false)], args := [d1, d2, d3, d4, d5] }
  | _ => none }
def TermExactWrongFalsely : Prop := termExactRow.holds Tryz.pinned (OpenSpec.ofChange termExactWrong)

/-- 'modcertlaw35.TermSubsumed': WHATEVER THE INPUT: true; the input reads as it did. -/
def termSubsumedSpec : ChangeSpec := { name := "termSubsumed", fn := fun _ => fun
  | [d1, d2, d3] => { results := [.lit (.bool true)], args := [d1, d2, d3] }
  | _ => none }
def termSubsumedRow : OpenClaim := { program := "ytbjhhaklecljdaagreat", sum := "8418356a68ed470ae86f13e8d309f4c491ddb629943ac974f29897bde9e46706", func := "modcert/modcertlaw35.TermSubsumed", spec := "termSubsumed", inPlace := ["internal/bytealg.abigen_runtime_cmpstring"], unfollowed := true, recurses := true, apart := false }
def TermSubsumedSaid : Prop := termSubsumedRow.holds Tryz.pinned (OpenSpec.ofChange termSubsumedSpec)

/-- ITS FALSE NEIGHBOUR: 'it returns false'. Refute it at one input. -/
def termSubsumedWrong : ChangeSpec := { name := "termSubsumed", fn := fun _ => fun
  | [d1, d2, d3] => { results := [.lit (.bool false)], args := [d1, d2, d3] }
  | _ => none }
def TermSubsumedWrongFalsely : Prop := termSubsumedRow.holds Tryz.pinned (OpenSpec.ofChange termSubsumedWrong)

/-- 'modcertlaw35.TermOrder': WHATEVER THE INPUT: true; the input reads as it did. -/
def termOrderSpec : ChangeSpec := { name := "termOrder", fn := fun _ => fun
  | [d1, d2, d3] => { results := [.lit (.bool true)], args := [d1, d2, d3] }
  | _ => none }
def termOrderRow : OpenClaim := { program := "ytbjhhaklecljdaagreat", sum := "8418356a68ed470ae86f13e8d309f4c491ddb629943ac974f29897bde9e46706", func := "modcert/modcertlaw35.TermOrder", spec := "termOrder", inPlace := ["internal/bytealg.abigen_runtime_cmpstring"], unfollowed := true, recurses := true, apart := false }
def TermOrderSaid : Prop := termOrderRow.holds Tryz.pinned (OpenSpec.ofChange termOrderSpec)

/-- ITS FALSE NEIGHBOUR: 'it returns false'. Refute it at one input. -/
def termOrderWrong : ChangeSpec := { name := "termOrder", fn := fun _ => fun
  | [d1, d2, d3] => { results := [.lit (.bool false)], args := [d1, d2, d3] }
  | _ => none }
def TermOrderWrongFalsely : Prop := termOrderRow.holds Tryz.pinned (OpenSpec.ofChange termOrderWrong)

/- THE SECOND FORM. 'bulk': how many values and letters a reading holds, each counted each time it is reached (what is shared counts as often as it is met; a slice's spare places count too). A statement '..UptoSaid' is the law's where the arguments, and the package variables that the reading takes, are together of bulk at most 1048576: NARROWER than '..Said'. Prove '..Said' where nothing that the law and all that it calls make is longer than what came in: it says more and counts as full. Else prove '..UptoSaid'. A law counts once. -/
mutual
def uptoBulk {H : Type} : DataW H → Nat
  | .lit (.string bytes) => bytes.length + 1
  | .lit _ => 1
  | .nil => 1
  | .ptr d => uptoBulk d + 1
  | .slice elems spare => uptoBulkAll elems + uptoBulkAll spare + 1
  | .agg parts => uptoBulkAll parts + 1
  | .iface _ d => uptoBulk d + 1
  | .map entries => uptoBulkEntries entries + 1
  | .held _ => 1
def uptoBulkAll {H : Type} : List (DataW H) → Nat
  | [] => 0
  | d :: r => uptoBulk d + uptoBulkAll r
def uptoBulkEntries {H : Type} : List (Lit × DataW H) → Nat
  | [] => 0
  | x :: r => uptoBulkEntry x + uptoBulkEntries r
def uptoBulkEntry {H : Type} : Lit × DataW H → Nat
  | (.string bytes, d) => bytes.length + uptoBulk d + 1
  | (_, d) => uptoBulk d + 1
 end
def uptoSmall : (H : Type) → List (DataW H) → Bool := fun _ ds => decide (uptoBulkAll ds ≤ 1048576)
def OpenSpec.upto (s : _root_.Go.ChangeSpec) : _root_.Go.OpenSpec := { _root_.Go.OpenSpec.ofChange s with cond := some uptoSmall }

/-- 'modcertlaw35.TermRequirements', WHERE WHAT IT READS IS OF BULK AT MOST 1048576: true; the input reads as it did. -/
def termRequirementsUptoRow : OpenClaim := { program := "ytbjhhaklecljdaagreat", sum := "8418356a68ed470ae86f13e8d309f4c491ddb629943ac974f29897bde9e46706", func := "modcert/modcertlaw35.TermRequirements", spec := "termRequirements", inPlace := ["internal/bytealg.abigen_runtime_cmpstring"], unfollowed := true, recurses := true, apart := false, narrowed := true }
def TermRequirementsUptoSaid : Prop := termRequirementsUptoRow.holds Tryz.pinned (OpenSpec.upto termRequirementsSpec)

/-- 'modcertlaw35.TermResolves', WHERE WHAT IT READS IS OF BULK AT MOST 1048576: true; the input reads as it did. -/
def termResolvesUptoRow : OpenClaim := { program := "ytbjhhaklecljdaagreat", sum := "8418356a68ed470ae86f13e8d309f4c491ddb629943ac974f29897bde9e46706", func := "modcert/modcertlaw35.TermResolves", spec := "termResolves", inPlace := ["internal/bytealg.abigen_runtime_cmpstring"], unfollowed := true, recurses := true, apart := false, narrowed := true }
def TermResolvesUptoSaid : Prop := termResolvesUptoRow.holds Tryz.pinned (OpenSpec.upto termResolvesSpec)

/-- 'modcertlaw35.TermImplied', WHERE WHAT IT READS IS OF BULK AT MOST 1048576: true; the input reads as it did. -/
def termImpliedUptoRow : OpenClaim := { program := "ytbjhhaklecljdaagreat", sum := "8418356a68ed470ae86f13e8d309f4c491ddb629943ac974f29897bde9e46706", func := "modcert/modcertlaw35.TermImplied", spec := "termImplied", inPlace := ["internal/bytealg.abigen_runtime_cmpstring"], unfollowed := true, recurses := true, apart := false, narrowed := true }
def TermImpliedUptoSaid : Prop := termImpliedUptoRow.holds Tryz.pinned (OpenSpec.upto termImpliedSpec)

/-- 'modcertlaw35.TermExact', WHERE WHAT IT READS IS OF BULK AT MOST 1048576: true; the input reads as it did. -/
def termExactUptoRow : OpenClaim := { program := "ytbjhhaklecljdaagreat", sum := "8418356a68ed470ae86f13e8d309f4c491ddb629943ac974f29897bde9e46706", func := "modcert/modcertlaw35.TermExact", spec := "termExact", inPlace := ["internal/bytealg.abigen_runtime_cmpstring"], unfollowed := true, recurses := true, apart := false, narrowed := true }
def TermExactUptoSaid : Prop := termExactUptoRow.holds Tryz.pinned (OpenSpec.upto termExactSpec)

/-- 'modcertlaw35.TermSubsumed', WHERE WHAT IT READS IS OF BULK AT MOST 1048576: true; the input reads as it did. -/
def termSubsumedUptoRow : OpenClaim := { program := "ytbjhhaklecljdaagreat", sum := "8418356a68ed470ae86f13e8d309f4c491ddb629943ac974f29897bde9e46706", func := "modcert/modcertlaw35.TermSubsumed", spec := "termSubsumed", inPlace := ["internal/bytealg.abigen_runtime_cmpstring"], unfollowed := true, recurses := true, apart := false, narrowed := true }
def TermSubsumedUptoSaid : Prop := termSubsumedUptoRow.holds Tryz.pinned (OpenSpec.upto termSubsumedSpec)

/-- 'modcertlaw35.TermOrder', WHERE WHAT IT READS IS OF BULK AT MOST 1048576: true; the input reads as it did. -/
def termOrderUptoRow : OpenClaim := { program := "ytbjhhaklecljdaagreat", sum := "8418356a68ed470ae86f13e8d309f4c491ddb629943ac974f29897bde9e46706", func := "modcert/modcertlaw35.TermOrder", spec := "termOrder", inPlace := ["internal/bytealg.abigen_runtime_cmpstring"], unfollowed := true, recurses := true, apart := false, narrowed := true }
def TermOrderUptoSaid : Prop := termOrderUptoRow.holds Tryz.pinned (OpenSpec.upto termOrderSpec)

end Rows
end Go.Proofs.YtbjhhaklecljdaaGreat
