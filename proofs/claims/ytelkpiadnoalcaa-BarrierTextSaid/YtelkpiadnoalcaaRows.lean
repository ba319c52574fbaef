/-
  No cell of these rows narrows 'for every input' (looked for: loops, veiled, ifaces, maps, wideKeys, modest, calm, conditions, laid).
  DERIVED. THE GIVEN ROWS OF THIS SEAT. 3 by the template 'for every input the law returns true; each argument reads behind the call as it read before'; 0 by the template 'total and deterministic' (their statements: YtelkpiadnoalcaaTotals.lean).
  GIVEN WITH THE SEED: the statements are not yours to turn. If you find one false, say at which input.
  Laid BY PROGRAM, IN A SANDBOX (cutbox-rows.mjs): the forced cells as the released guide's own fill.sh prints them over the translation 55bef7479e4a9ba1… (all of the seat's roots in one cut). By AI agents, Wed Nov 11 2026. No macro, syntax, notation, axiom, sorry.
-/
import Derived.Test.YtelkpiadnoalcaaChecked
import GoSem.Claim
import GoSem.ClaimJoined
import GoSem.ClaimMapViews
import Derived.JoinedTies
import Derived.KernelRfl
namespace Go.Proofs.Ytelkpiadnoalcaa
/- THE CELL 'sum', in the pinned program and in every row, IS THE sha256 OF THE DUMP (.gsa) THAT YtelkpiadnoalcaaProg.lean LOADS. Nothing in Lean hashes anything: it is a label: what it is worth is what the hold of that sum in a sandbox is worth. -/
noncomputable def Try.pinned : Pinned := { name := "ytelkpiadnoalcaa", sum := "55bef7479e4a9ba145e078f9e843f60ae33d5b8e07aedefe60f4d4d537b19626", checked := Try.checked }
namespace Rows
def none {H : Type} : Left H := { results := [], args := [] }

/-- 'distafflaw19.SemaText': WHATEVER THE INPUT: true; the input reads as it did. -/
def semaTextSpec : ChangeSpec := { name := "semaText", fn := fun _ => fun
  | [] => { results := [.lit (.bool true)], args := [] }
  | _ => none }
def semaTextRow : OpenClaim := { program := "ytelkpiadnoalcaa", sum := "55bef7479e4a9ba145e078f9e843f60ae33d5b8e07aedefe60f4d4d537b19626", func := "distaff/distafflaw19.SemaText", spec := "semaText", apart := false }
def SemaTextSaid : Prop := semaTextRow.holds Try.pinned (OpenSpec.ofChange semaTextSpec)

/-- ITS FALSE NEIGHBOUR: 'it returns false'. Refute it at one input. -/
def semaTextWrong : ChangeSpec := { name := "semaText", fn := fun _ => fun
  | [] => { results := [.lit (.bool false)], args := [] }
  | _ => none }
def SemaTextWrongFalsely : Prop := semaTextRow.holds Try.pinned (OpenSpec.ofChange semaTextWrong)

/-- 'distafflaw20.OnceText': WHATEVER THE INPUT: true; the input reads as it did. -/
def onceTextSpec : ChangeSpec := { name := "onceText", fn := fun _ => fun
  | [] => { results := [.lit (.bool true)], args := [] }
  | _ => none }
def onceTextRow : OpenClaim := { program := "ytelkpiadnoalcaa", sum := "55bef7479e4a9ba145e078f9e843f60ae33d5b8e07aedefe60f4d4d537b19626", func := "distaff/distafflaw20.OnceText", spec := "onceText", apart := false }
def OnceTextSaid : Prop := onceTextRow.holds Try.pinned (OpenSpec.ofChange onceTextSpec)

/-- ITS FALSE NEIGHBOUR: 'it returns false'. Refute it at one input. -/
def onceTextWrong : ChangeSpec := { name := "onceText", fn := fun _ => fun
  | [] => { results := [.lit (.bool false)], args := [] }
  | _ => none }
def OnceTextWrongFalsely : Prop := onceTextRow.holds Try.pinned (OpenSpec.ofChange onceTextWrong)

/-- 'distafflaw21.BarrierText': WHATEVER THE INPUT: true; the input reads as it did. -/
def barrierTextSpec : ChangeSpec := { name := "barrierText", fn := fun _ => fun
  | [] => { results := [.lit (.bool true)], args := [] }
  | _ => none }
def barrierTextRow : OpenClaim := { program := "ytelkpiadnoalcaa", sum := "55bef7479e4a9ba145e078f9e843f60ae33d5b8e07aedefe60f4d4d537b19626", func := "distaff/distafflaw21.BarrierText", spec := "barrierText", apart := false }
def BarrierTextSaid : Prop := barrierTextRow.holds Try.pinned (OpenSpec.ofChange barrierTextSpec)

/-- ITS FALSE NEIGHBOUR: 'it returns false'. Refute it at one input. -/
def barrierTextWrong : ChangeSpec := { name := "barrierText", fn := fun _ => fun
  | [] => { results := [.lit (.bool false)], args := [] }
  | _ => none }
def BarrierTextWrongFalsely : Prop := barrierTextRow.holds Try.pinned (OpenSpec.ofChange barrierTextWrong)

/- THE SECOND FORM. 'bulk': how many values and letters a reading holds, each counted each time it is reached (what is shared counts as often as it is met; a slice's spare places count too). A statement '..UptoSaid' is the law's where the arguments, and the package variables that the reading takes, are together of bulk at most 1048576: NARROWER than '..Said'. Prove '..Said' where nothing that the law and all that it calls make is longer than what came in: it says more and counts as full. Else prove '..UptoSaid'. A law counts once. -/
mutual
def uptoBulk {H : Type} : DataW H → Nat
  | .lit (.string bytes) => bytes.length + 1
  | .lit _ => 1
  | .nil => 1
  | .ptr d => uptoBulk d + 1
  | .slice elems spare => uptoBulkAll elems + uptoBulkAll spare + 1
  | .agg parts => uptoBulkAll parts + 1
  | .iface _ d => uptoBulk d + 1
  | .map entries => uptoBulkEntries entries + 1
  | .held _ => 1
def uptoBulkAll {H : Type} : List (DataW H) → Nat
  | [] => 0
  | d :: r => uptoBulk d + uptoBulkAll r
def uptoBulkEntries {H : Type} : List (Lit × DataW H) → Nat
  | [] => 0
  | x :: r => uptoBulkEntry x + uptoBulkEntries r
def uptoBulkEntry {H : Type} : Lit × DataW H → Nat
  | (.string bytes, d) => bytes.length + uptoBulk d + 1
  | (_, d) => uptoBulk d + 1
 end
def uptoSmall : (H : Type) → List (DataW H) → Bool := fun _ ds => decide (uptoBulkAll ds ≤ 1048576)
def OpenSpec.upto (s : _root_.Go.ChangeSpec) : _root_.Go.OpenSpec := { _root_.Go.OpenSpec.ofChange s with cond := some uptoSmall }

/-- 'distafflaw19.SemaText', WHERE WHAT IT READS IS OF BULK AT MOST 1048576: true; the input reads as it did. -/
def semaTextUptoRow : OpenClaim := { program := "ytelkpiadnoalcaa", sum := "55bef7479e4a9ba145e078f9e843f60ae33d5b8e07aedefe60f4d4d537b19626", func := "distaff/distafflaw19.SemaText", spec := "semaText", apart := false, narrowed := true }
def SemaTextUptoSaid : Prop := semaTextUptoRow.holds Try.pinned (OpenSpec.upto semaTextSpec)

/-- 'distafflaw20.OnceText', WHERE WHAT IT READS IS OF BULK AT MOST 1048576: true; the input reads as it did. -/
def onceTextUptoRow : OpenClaim := { program := "ytelkpiadnoalcaa", sum := "55bef7479e4a9ba145e078f9e843f60ae33d5b8e07aedefe60f4d4d537b19626", func := "distaff/distafflaw20.OnceText", spec := "onceText", apart := false, narrowed := true }
def OnceTextUptoSaid : Prop := onceTextUptoRow.holds Try.pinned (OpenSpec.upto onceTextSpec)

/-- 'distafflaw21.BarrierText', WHERE WHAT IT READS IS OF BULK AT MOST 1048576: true; the input reads as it did. -/
def barrierTextUptoRow : OpenClaim := { program := "ytelkpiadnoalcaa", sum := "55bef7479e4a9ba145e078f9e843f60ae33d5b8e07aedefe60f4d4d537b19626", func := "distaff/distafflaw21.BarrierText", spec := "barrierText", apart := false, narrowed := true }
def BarrierTextUptoSaid : Prop := barrierTextUptoRow.holds Try.pinned (OpenSpec.upto barrierTextSpec)

end Rows
end Go.Proofs.Ytelkpiadnoalcaa
