/-
  No cell of these rows narrows 'for every input' (looked for: loops, veiled, ifaces, maps, wideKeys, modest, calm, conditions, laid).
  DERIVED. THE GIVEN ROWS OF THIS SEAT. 6 by the template 'for every input the law returns true; each argument reads behind the call as it read before'; 0 by the template 'total and deterministic' (their statements: YtckdhahceelckaaGreatTotals.lean).
  GIVEN WITH THE SEED: the statements are not yours to turn. If you find one false, say at which input.
  Laid BY PROGRAM, IN A SANDBOX (cutbox-rows.mjs): the forced cells as the released guide's own fill.sh prints them over the translation d37c44b6e150fb20… (all of the seat's roots in one cut). By AI agents, Wed Nov 11 2026. No macro, syntax, notation, axiom, sorry.
-/
import Derived.Test.YtckdhahceelckaaGreatChecked
import GoSem.Claim
import GoSem.ClaimJoined
import GoSem.ClaimMapViews
import Derived.JoinedTies
import Derived.KernelRfl
namespace Go.Proofs.YtckdhahceelckaaGreat
/- THE CELL 'sum', in the pinned program and in every row, IS THE sha256 OF THE DUMP (.gsa) THAT YtckdhahceelckaaGreatProg.lean LOADS. Nothing in Lean hashes anything: it is a label: what it is worth is what the hold of that sum in a sandbox is worth. -/
noncomputable def Tryz.pinned : Pinned := { name := "ytckdhahceelckaagreat", sum := "d37c44b6e150fb20be6f6fef9a99a52293f862b831d4f3960b6a04d1fc28af32", checked := Tryz.checked }
namespace Rows
def none {H : Type} : Left H := { results := [], args := [] }

/-- 'tumblerlaw11.SweepRight': WHATEVER THE INPUT: true; the input reads as it did. -/
def sweepRightSpec : ChangeSpec := { name := "sweepRight", fn := fun _ => fun
  | [d1, d2] => { results := [.lit (.bool true)], args := [d1, d2] }
  | _ => none }
def sweepRightRow : OpenClaim := { program := "ytckdhahceelckaagreat", sum := "d37c44b6e150fb20be6f6fef9a99a52293f862b831d4f3960b6a04d1fc28af32", func := "tumbler/tumblerlaw11.SweepRight", spec := "sweepRight", unfollowed := true, recurses := true, apart := false }
def SweepRightSaid : Prop := sweepRightRow.holds Tryz.pinned (OpenSpec.ofChange sweepRightSpec)

/-- ITS FALSE NEIGHBOUR: 'it returns false'. Refute it at one input. -/
def sweepRightWrong : ChangeSpec := { name := "sweepRight", fn := fun _ => fun
  | [d1, d2] => { results := [.lit (.bool false)], args := [d1, d2] }
  | _ => none }
def SweepRightWrongFalsely : Prop := sweepRightRow.holds Tryz.pinned (OpenSpec.ofChange sweepRightWrong)

/-- 'tumblerlaw18.CcdRight': WHATEVER THE INPUT: true; the input reads as it did. -/
def ccdRightSpec : ChangeSpec := { name := "ccdRight", fn := fun _ => fun
  | [d] => { results := [.lit (.bool true)], args := [d] }
  | _ => none }
def ccdRightRow : OpenClaim := { program := "ytckdhahceelckaagreat", sum := "d37c44b6e150fb20be6f6fef9a99a52293f862b831d4f3960b6a04d1fc28af32", func := "tumbler/tumblerlaw18.CcdRight", spec := "ccdRight", inPlace := ["math/bits.Sub64"], unfollowed := true, recurses := true, named := ["math/bits.divideError", "math/bits.overflowError"], apart := false }
def CcdRightSaid : Prop := ccdRightRow.holds Tryz.pinned (OpenSpec.ofChange ccdRightSpec)

/-- ITS FALSE NEIGHBOUR: 'it returns false'. Refute it at one input. -/
def ccdRightWrong : ChangeSpec := { name := "ccdRight", fn := fun _ => fun
  | [d] => { results := [.lit (.bool false)], args := [d] }
  | _ => none }
def CcdRightWrongFalsely : Prop := ccdRightRow.holds Tryz.pinned (OpenSpec.ofChange ccdRightWrong)

/-- 'tumblerlaw18.CcdHolds': WHATEVER THE INPUT: true; the input reads as it did. -/
def ccdHoldsSpec : ChangeSpec := { name := "ccdHolds", fn := fun _ => fun
  | [d] => { results := [.lit (.bool true)], args := [d] }
  | _ => none }
def ccdHoldsRow : OpenClaim := { program := "ytckdhahceelckaagreat", sum := "d37c44b6e150fb20be6f6fef9a99a52293f862b831d4f3960b6a04d1fc28af32", func := "tumbler/tumblerlaw18.CcdHolds", spec := "ccdHolds", inPlace := ["math/bits.Sub64"], unfollowed := true, recurses := true, named := ["math/bits.divideError", "math/bits.overflowError"], apart := false }
def CcdHoldsSaid : Prop := ccdHoldsRow.holds Tryz.pinned (OpenSpec.ofChange ccdHoldsSpec)

/-- ITS FALSE NEIGHBOUR: 'it returns false'. Refute it at one input. -/
def ccdHoldsWrong : ChangeSpec := { name := "ccdHolds", fn := fun _ => fun
  | [d] => { results := [.lit (.bool false)], args := [d] }
  | _ => none }
def CcdHoldsWrongFalsely : Prop := ccdHoldsRow.holds Tryz.pinned (OpenSpec.ofChange ccdHoldsWrong)

/-- 'tumblerlaw18.CcdAlone': WHATEVER THE INPUT: true; the input reads as it did. -/
def ccdAloneSpec : ChangeSpec := { name := "ccdAlone", fn := fun _ => fun
  | [d1, d2] => { results := [.lit (.bool true)], args := [d1, d2] }
  | _ => none }
def ccdAloneRow : OpenClaim := { program := "ytckdhahceelckaagreat", sum := "d37c44b6e150fb20be6f6fef9a99a52293f862b831d4f3960b6a04d1fc28af32", func := "tumbler/tumblerlaw18.CcdAlone", spec := "ccdAlone", inPlace := ["math/bits.Sub64"], unfollowed := true, recurses := true, named := ["math/bits.divideError", "math/bits.overflowError"], apart := false }
def CcdAloneSaid : Prop := ccdAloneRow.holds Tryz.pinned (OpenSpec.ofChange ccdAloneSpec)

/-- ITS FALSE NEIGHBOUR: 'it returns false'. Refute it at one input. -/
def ccdAloneWrong : ChangeSpec := { name := "ccdAlone", fn := fun _ => fun
  | [d1, d2] => { results := [.lit (.bool false)], args := [d1, d2] }
  | _ => none }
def CcdAloneWrongFalsely : Prop := ccdAloneRow.holds Tryz.pinned (OpenSpec.ofChange ccdAloneWrong)

/-- 'tumblerlaw18.CcdMoved': WHATEVER THE INPUT: true; the input reads as it did. -/
def ccdMovedSpec : ChangeSpec := { name := "ccdMoved", fn := fun _ => fun
  | [d1, d2] => { results := [.lit (.bool true)], args := [d1, d2] }
  | _ => none }
def ccdMovedRow : OpenClaim := { program := "ytckdhahceelckaagreat", sum := "d37c44b6e150fb20be6f6fef9a99a52293f862b831d4f3960b6a04d1fc28af32", func := "tumbler/tumblerlaw18.CcdMoved", spec := "ccdMoved", inPlace := ["math/bits.Sub64"], unfollowed := true, recurses := true, named := ["math/bits.divideError", "math/bits.overflowError"], apart := false }
def CcdMovedSaid : Prop := ccdMovedRow.holds Tryz.pinned (OpenSpec.ofChange ccdMovedSpec)

/-- ITS FALSE NEIGHBOUR: 'it returns false'. Refute it at one input. -/
def ccdMovedWrong : ChangeSpec := { name := "ccdMoved", fn := fun _ => fun
  | [d1, d2] => { results := [.lit (.bool false)], args := [d1, d2] }
  | _ => none }
def CcdMovedWrongFalsely : Prop := ccdMovedRow.holds Tryz.pinned (OpenSpec.ofChange ccdMovedWrong)

/-- 'tumblerlaw18.CcdMore': WHATEVER THE INPUT: true; the input reads as it did. -/
def ccdMoreSpec : ChangeSpec := { name := "ccdMore", fn := fun _ => fun
  | [d] => { results := [.lit (.bool true)], args := [d] }
  | _ => none }
def ccdMoreRow : OpenClaim := { program := "ytckdhahceelckaagreat", sum := "d37c44b6e150fb20be6f6fef9a99a52293f862b831d4f3960b6a04d1fc28af32", func := "tumbler/tumblerlaw18.CcdMore", spec := "ccdMore", inPlace := ["math/bits.Sub64"], unfollowed := true, recurses := true, named := ["math/bits.divideError", "math/bits.overflowError"], apart := false }
def CcdMoreSaid : Prop := ccdMoreRow.holds Tryz.pinned (OpenSpec.ofChange ccdMoreSpec)

/-- ITS FALSE NEIGHBOUR: 'it returns false'. Refute it at one input. -/
def ccdMoreWrong : ChangeSpec := { name := "ccdMore", fn := fun _ => fun
  | [d] => { results := [.lit (.bool false)], args := [d] }
  | _ => none }
def CcdMoreWrongFalsely : Prop := ccdMoreRow.holds Tryz.pinned (OpenSpec.ofChange ccdMoreWrong)

/- THE SECOND FORM. 'bulk': how many values and letters a reading holds, each counted each time it is reached (what is shared counts as often as it is met; a slice's spare places count too). A statement '..UptoSaid' is the law's where the arguments, and the package variables that the reading takes, are together of bulk at most 1048576: NARROWER than '..Said'. Prove '..Said' where nothing that the law and all that it calls make is longer than what came in: it says more and counts as full. Else prove '..UptoSaid'. A law counts once. -/
mutual
def uptoBulk {H : Type} : DataW H → Nat
  | .lit (.string bytes) => bytes.length + 1
  | .lit _ => 1
  | .nil => 1
  | .ptr d => uptoBulk d + 1
  | .slice elems spare => uptoBulkAll elems + uptoBulkAll spare + 1
  | .agg parts => uptoBulkAll parts + 1
  | .iface _ d => uptoBulk d + 1
  | .map entries => uptoBulkEntries entries + 1
  | .held _ => 1
def uptoBulkAll {H : Type} : List (DataW H) → Nat
  | [] => 0
  | d :: r => uptoBulk d + uptoBulkAll r
def uptoBulkEntries {H : Type} : List (Lit × DataW H) → Nat
  | [] => 0
  | x :: r => uptoBulkEntry x + uptoBulkEntries r
def uptoBulkEntry {H : Type} : Lit × DataW H → Nat
  | (.string bytes, d) => bytes.length + uptoBulk d + 1
  | (_, d) => uptoBulk d + 1
 end
def uptoSmall : (H : Type) → List (DataW H) → Bool := fun _ ds => decide (uptoBulkAll ds ≤ 1048576)
def OpenSpec.upto (s : _root_.Go.ChangeSpec) : _root_.Go.OpenSpec := { _root_.Go.OpenSpec.ofChange s with cond := some uptoSmall }

/-- 'tumblerlaw11.SweepRight', WHERE WHAT IT READS IS OF BULK AT MOST 1048576: true; the input reads as it did. -/
def sweepRightUptoRow : OpenClaim := { program := "ytckdhahceelckaagreat", sum := "d37c44b6e150fb20be6f6fef9a99a52293f862b831d4f3960b6a04d1fc28af32", func := "tumbler/tumblerlaw11.SweepRight", spec := "sweepRight", unfollowed := true, recurses := true, apart := false, narrowed := true }
def SweepRightUptoSaid : Prop := sweepRightUptoRow.holds Tryz.pinned (OpenSpec.upto sweepRightSpec)

/-- 'tumblerlaw18.CcdRight', WHERE WHAT IT READS IS OF BULK AT MOST 1048576: true; the input reads as it did. -/
def ccdRightUptoRow : OpenClaim := { program := "ytckdhahceelckaagreat", sum := "d37c44b6e150fb20be6f6fef9a99a52293f862b831d4f3960b6a04d1fc28af32", func := "tumbler/tumblerlaw18.CcdRight", spec := "ccdRight", inPlace := ["math/bits.Sub64"], unfollowed := true, recurses := true, named := ["math/bits.divideError", "math/bits.overflowError"], apart := false, narrowed := true }
def CcdRightUptoSaid : Prop := ccdRightUptoRow.holds Tryz.pinned (OpenSpec.upto ccdRightSpec)

/-- 'tumblerlaw18.CcdHolds', WHERE WHAT IT READS IS OF BULK AT MOST 1048576: true; the input reads as it did. -/
def ccdHoldsUptoRow : OpenClaim := { program := "ytckdhahceelckaagreat", sum := "d37c44b6e150fb20be6f6fef9a99a52293f862b831d4f3960b6a04d1fc28af32", func := "tumbler/tumblerlaw18.CcdHolds", spec := "ccdHolds", inPlace := ["math/bits.Sub64"], unfollowed := true, recurses := true, named := ["math/bits.divideError", "math/bits.overflowError"], apart := false, narrowed := true }
def CcdHoldsUptoSaid : Prop := ccdHoldsUptoRow.holds Tryz.pinned (OpenSpec.upto ccdHoldsSpec)

/-- 'tumblerlaw18.CcdAlone', WHERE WHAT IT READS IS OF BULK AT MOST 1048576: true; the input reads as it did. -/
def ccdAloneUptoRow : OpenClaim := { program := "ytckdhahceelckaagreat", sum := "d37c44b6e150fb20be6f6fef9a99a52293f862b831d4f3960b6a04d1fc28af32", func := "tumbler/tumblerlaw18.CcdAlone", spec := "ccdAlone", inPlace := ["math/bits.Sub64"], unfollowed := true, recurses := true, named := ["math/bits.divideError", "math/bits.overflowError"], apart := false, narrowed := true }
def CcdAloneUptoSaid : Prop := ccdAloneUptoRow.holds Tryz.pinned (OpenSpec.upto ccdAloneSpec)

/-- 'tumblerlaw18.CcdMoved', WHERE WHAT IT READS IS OF BULK AT MOST 1048576: true; the input reads as it did. -/
def ccdMovedUptoRow : OpenClaim := { program := "ytckdhahceelckaagreat", sum := "d37c44b6e150fb20be6f6fef9a99a52293f862b831d4f3960b6a04d1fc28af32", func := "tumbler/tumblerlaw18.CcdMoved", spec := "ccdMoved", inPlace := ["math/bits.Sub64"], unfollowed := true, recurses := true, named := ["math/bits.divideError", "math/bits.overflowError"], apart := false, narrowed := true }
def CcdMovedUptoSaid : Prop := ccdMovedUptoRow.holds Tryz.pinned (OpenSpec.upto ccdMovedSpec)

/-- 'tumblerlaw18.CcdMore', WHERE WHAT IT READS IS OF BULK AT MOST 1048576: true; the input reads as it did. -/
def ccdMoreUptoRow : OpenClaim := { program := "ytckdhahceelckaagreat", sum := "d37c44b6e150fb20be6f6fef9a99a52293f862b831d4f3960b6a04d1fc28af32", func := "tumbler/tumblerlaw18.CcdMore", spec := "ccdMore", inPlace := ["math/bits.Sub64"], unfollowed := true, recurses := true, named := ["math/bits.divideError", "math/bits.overflowError"], apart := false, narrowed := true }
def CcdMoreUptoSaid : Prop := ccdMoreUptoRow.holds Tryz.pinned (OpenSpec.upto ccdMoreSpec)

end Rows
end Go.Proofs.YtckdhahceelckaaGreat
