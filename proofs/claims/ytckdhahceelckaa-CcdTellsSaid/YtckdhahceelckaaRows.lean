/-
  No cell of these rows narrows 'for every input' (looked for: loops, veiled, ifaces, maps, wideKeys, modest, calm, conditions, laid).
  DERIVED. THE GIVEN ROWS OF THIS SEAT. 15 by the template 'for every input the law returns true; each argument reads behind the call as it read before'; 0 by the template 'total and deterministic' (their statements: YtckdhahceelckaaTotals.lean).
  GIVEN WITH THE SEED: the statements are not yours to turn. If you find one false, say at which input.
  Laid BY PROGRAM, IN A SANDBOX (cutbox-rows.mjs): the forced cells as the released guide's own fill.sh prints them over the translation 7fb393eac9a3cdc9… (all of the seat's roots in one cut). By AI agents, Wed Nov 11 2026. No macro, syntax, notation, axiom, sorry.
-/
import Derived.Test.YtckdhahceelckaaChecked
import GoSem.Claim
import GoSem.ClaimJoined
import GoSem.ClaimMapViews
import Derived.JoinedTies
import Derived.KernelRfl
namespace Go.Proofs.Ytckdhahceelckaa
/- THE CELL 'sum', in the pinned program and in every row, IS THE sha256 OF THE DUMP (.gsa) THAT YtckdhahceelckaaProg.lean LOADS. Nothing in Lean hashes anything: it is a label: what it is worth is what the hold of that sum in a sandbox is worth. -/
noncomputable def Try.pinned : Pinned := { name := "ytckdhahceelckaa", sum := "7fb393eac9a3cdc99d15917c84316db6e472835dbb06233f70ff8cdb3ba77894", checked := Try.checked }
namespace Rows
def none {H : Type} : Left H := { results := [], args := [] }

/-- 'tumblerlaw09.NarrowSound': WHATEVER THE INPUT: true; the input reads as it did. -/
def narrowSoundSpec : ChangeSpec := { name := "narrowSound", fn := fun _ => fun
  | [d] => { results := [.lit (.bool true)], args := [d] }
  | _ => none }
def narrowSoundRow : OpenClaim := { program := "ytckdhahceelckaa", sum := "7fb393eac9a3cdc99d15917c84316db6e472835dbb06233f70ff8cdb3ba77894", func := "tumbler/tumblerlaw09.NarrowSound", spec := "narrowSound", unfollowed := true, recurses := true, apart := false }
def NarrowSoundSaid : Prop := narrowSoundRow.holds Try.pinned (OpenSpec.ofChange narrowSoundSpec)

/-- ITS FALSE NEIGHBOUR: 'it returns false'. Refute it at one input. -/
def narrowSoundWrong : ChangeSpec := { name := "narrowSound", fn := fun _ => fun
  | [d] => { results := [.lit (.bool false)], args := [d] }
  | _ => none }
def NarrowSoundWrongFalsely : Prop := narrowSoundRow.holds Try.pinned (OpenSpec.ofChange narrowSoundWrong)

/-- 'tumblerlaw09.NarrowBalls': WHATEVER THE INPUT: true; the input reads as it did. -/
def narrowBallsSpec : ChangeSpec := { name := "narrowBalls", fn := fun _ => fun
  | [d1, d2, d3, d4] => { results := [.lit (.bool true)], args := [d1, d2, d3, d4] }
  | _ => none }
def narrowBallsRow : OpenClaim := { program := "ytckdhahceelckaa", sum := "7fb393eac9a3cdc99d15917c84316db6e472835dbb06233f70ff8cdb3ba77894", func := "tumbler/tumblerlaw09.NarrowBalls", spec := "narrowBalls", unfollowed := true, recurses := true, apart := false }
def NarrowBallsSaid : Prop := narrowBallsRow.holds Try.pinned (OpenSpec.ofChange narrowBallsSpec)

/-- ITS FALSE NEIGHBOUR: 'it returns false'. Refute it at one input. -/
def narrowBallsWrong : ChangeSpec := { name := "narrowBalls", fn := fun _ => fun
  | [d1, d2, d3, d4] => { results := [.lit (.bool false)], args := [d1, d2, d3, d4] }
  | _ => none }
def NarrowBallsWrongFalsely : Prop := narrowBallsRow.holds Try.pinned (OpenSpec.ofChange narrowBallsWrong)

/-- 'tumblerlaw09.NarrowThick': WHATEVER THE INPUT: true; the input reads as it did. -/
def narrowThickSpec : ChangeSpec := { name := "narrowThick", fn := fun _ => fun
  | [d1, d2] => { results := [.lit (.bool true)], args := [d1, d2] }
  | _ => none }
def narrowThickRow : OpenClaim := { program := "ytckdhahceelckaa", sum := "7fb393eac9a3cdc99d15917c84316db6e472835dbb06233f70ff8cdb3ba77894", func := "tumbler/tumblerlaw09.NarrowThick", spec := "narrowThick", unfollowed := true, recurses := true, apart := false }
def NarrowThickSaid : Prop := narrowThickRow.holds Try.pinned (OpenSpec.ofChange narrowThickSpec)

/-- ITS FALSE NEIGHBOUR: 'it returns false'. Refute it at one input. -/
def narrowThickWrong : ChangeSpec := { name := "narrowThick", fn := fun _ => fun
  | [d1, d2] => { results := [.lit (.bool false)], args := [d1, d2] }
  | _ => none }
def NarrowThickWrongFalsely : Prop := narrowThickRow.holds Try.pinned (OpenSpec.ofChange narrowThickWrong)

/-- 'tumblerlaw09.NarrowSelf': WHATEVER THE INPUT: true; the input reads as it did. -/
def narrowSelfSpec : ChangeSpec := { name := "narrowSelf", fn := fun _ => fun
  | [d] => { results := [.lit (.bool true)], args := [d] }
  | _ => none }
def narrowSelfRow : OpenClaim := { program := "ytckdhahceelckaa", sum := "7fb393eac9a3cdc99d15917c84316db6e472835dbb06233f70ff8cdb3ba77894", func := "tumbler/tumblerlaw09.NarrowSelf", spec := "narrowSelf", unfollowed := true, recurses := true, apart := false }
def NarrowSelfSaid : Prop := narrowSelfRow.holds Try.pinned (OpenSpec.ofChange narrowSelfSpec)

/-- ITS FALSE NEIGHBOUR: 'it returns false'. Refute it at one input. -/
def narrowSelfWrong : ChangeSpec := { name := "narrowSelf", fn := fun _ => fun
  | [d] => { results := [.lit (.bool false)], args := [d] }
  | _ => none }
def NarrowSelfWrongFalsely : Prop := narrowSelfRow.holds Try.pinned (OpenSpec.ofChange narrowSelfWrong)

/-- 'tumblerlaw09.NarrowTells': WHATEVER THE INPUT: true; the input reads as it did. -/
def narrowTellsSpec : ChangeSpec := { name := "narrowTells", fn := fun _ => fun
  | [d1, d2, d3] => { results := [.lit (.bool true)], args := [d1, d2, d3] }
  | _ => none }
def narrowTellsRow : OpenClaim := { program := "ytckdhahceelckaa", sum := "7fb393eac9a3cdc99d15917c84316db6e472835dbb06233f70ff8cdb3ba77894", func := "tumbler/tumblerlaw09.NarrowTells", spec := "narrowTells", unfollowed := true, recurses := true, apart := false }
def NarrowTellsSaid : Prop := narrowTellsRow.holds Try.pinned (OpenSpec.ofChange narrowTellsSpec)

/-- ITS FALSE NEIGHBOUR: 'it returns false'. Refute it at one input. -/
def narrowTellsWrong : ChangeSpec := { name := "narrowTells", fn := fun _ => fun
  | [d1, d2, d3] => { results := [.lit (.bool false)], args := [d1, d2, d3] }
  | _ => none }
def NarrowTellsWrongFalsely : Prop := narrowTellsRow.holds Try.pinned (OpenSpec.ofChange narrowTellsWrong)

/-- 'tumblerlaw09.NarrowRight': WHATEVER THE INPUT: true; the input reads as it did. -/
def narrowRightSpec : ChangeSpec := { name := "narrowRight", fn := fun _ => fun
  | [d] => { results := [.lit (.bool true)], args := [d] }
  | _ => none }
def narrowRightRow : OpenClaim := { program := "ytckdhahceelckaa", sum := "7fb393eac9a3cdc99d15917c84316db6e472835dbb06233f70ff8cdb3ba77894", func := "tumbler/tumblerlaw09.NarrowRight", spec := "narrowRight", unfollowed := true, recurses := true, apart := false }
def NarrowRightSaid : Prop := narrowRightRow.holds Try.pinned (OpenSpec.ofChange narrowRightSpec)

/-- ITS FALSE NEIGHBOUR: 'it returns false'. Refute it at one input. -/
def narrowRightWrong : ChangeSpec := { name := "narrowRight", fn := fun _ => fun
  | [d] => { results := [.lit (.bool false)], args := [d] }
  | _ => none }
def NarrowRightWrongFalsely : Prop := narrowRightRow.holds Try.pinned (OpenSpec.ofChange narrowRightWrong)

/-- 'tumblertop.Names': WHATEVER THE INPUT: true; the input reads as it did. -/
def namesSpec : ChangeSpec := { name := "names", fn := fun _ => fun
  | [] => { results := [.lit (.bool true)], args := [] }
  | _ => none }
def namesRow : OpenClaim := { program := "ytckdhahceelckaa", sum := "7fb393eac9a3cdc99d15917c84316db6e472835dbb06233f70ff8cdb3ba77894", func := "tumbler/tumblertop.Names", spec := "names", apart := false }
def NamesSaid : Prop := namesRow.holds Try.pinned (OpenSpec.ofChange namesSpec)

/-- ITS FALSE NEIGHBOUR: 'it returns false'. Refute it at one input. -/
def namesWrong : ChangeSpec := { name := "names", fn := fun _ => fun
  | [] => { results := [.lit (.bool false)], args := [] }
  | _ => none }
def NamesWrongFalsely : Prop := namesRow.holds Try.pinned (OpenSpec.ofChange namesWrong)

/-- 'tumblerlaw09.NarrowMirror': WHATEVER THE INPUT: true; the input reads as it did. -/
def narrowMirrorSpec : ChangeSpec := { name := "narrowMirror", fn := fun _ => fun
  | [d1, d2] => { results := [.lit (.bool true)], args := [d1, d2] }
  | _ => none }
def narrowMirrorRow : OpenClaim := { program := "ytckdhahceelckaa", sum := "7fb393eac9a3cdc99d15917c84316db6e472835dbb06233f70ff8cdb3ba77894", func := "tumbler/tumblerlaw09.NarrowMirror", spec := "narrowMirror", unfollowed := true, recurses := true, apart := false }
def NarrowMirrorSaid : Prop := narrowMirrorRow.holds Try.pinned (OpenSpec.ofChange narrowMirrorSpec)

/-- ITS FALSE NEIGHBOUR: 'it returns false'. Refute it at one input. -/
def narrowMirrorWrong : ChangeSpec := { name := "narrowMirror", fn := fun _ => fun
  | [d1, d2] => { results := [.lit (.bool false)], args := [d1, d2] }
  | _ => none }
def NarrowMirrorWrongFalsely : Prop := narrowMirrorRow.holds Try.pinned (OpenSpec.ofChange narrowMirrorWrong)

/-- 'tumblerlaw11.SweepRays': WHATEVER THE INPUT: true; the input reads as it did. -/
def sweepRaysSpec : ChangeSpec := { name := "sweepRays", fn := fun _ => fun
  | [d1, d2, d3] => { results := [.lit (.bool true)], args := [d1, d2, d3] }
  | _ => none }
def sweepRaysRow : OpenClaim := { program := "ytckdhahceelckaa", sum := "7fb393eac9a3cdc99d15917c84316db6e472835dbb06233f70ff8cdb3ba77894", func := "tumbler/tumblerlaw11.SweepRays", spec := "sweepRays", unfollowed := true, recurses := true, apart := false }
def SweepRaysSaid : Prop := sweepRaysRow.holds Try.pinned (OpenSpec.ofChange sweepRaysSpec)

/-- ITS FALSE NEIGHBOUR: 'it returns false'. Refute it at one input. -/
def sweepRaysWrong : ChangeSpec := { name := "sweepRays", fn := fun _ => fun
  | [d1, d2, d3] => { results := [.lit (.bool false)], args := [d1, d2, d3] }
  | _ => none }
def SweepRaysWrongFalsely : Prop := sweepRaysRow.holds Try.pinned (OpenSpec.ofChange sweepRaysWrong)

/-- 'tumblerlaw11.SweepFree': WHATEVER THE INPUT: true; the input reads as it did. -/
def sweepFreeSpec : ChangeSpec := { name := "sweepFree", fn := fun _ => fun
  | [d1, d2, d3] => { results := [.lit (.bool true)], args := [d1, d2, d3] }
  | _ => none }
def sweepFreeRow : OpenClaim := { program := "ytckdhahceelckaa", sum := "7fb393eac9a3cdc99d15917c84316db6e472835dbb06233f70ff8cdb3ba77894", func := "tumbler/tumblerlaw11.SweepFree", spec := "sweepFree", unfollowed := true, recurses := true, apart := false }
def SweepFreeSaid : Prop := sweepFreeRow.holds Try.pinned (OpenSpec.ofChange sweepFreeSpec)

/-- ITS FALSE NEIGHBOUR: 'it returns false'. Refute it at one input. -/
def sweepFreeWrong : ChangeSpec := { name := "sweepFree", fn := fun _ => fun
  | [d1, d2, d3] => { results := [.lit (.bool false)], args := [d1, d2, d3] }
  | _ => none }
def SweepFreeWrongFalsely : Prop := sweepFreeRow.holds Try.pinned (OpenSpec.ofChange sweepFreeWrong)

/-- 'tumblerlaw11.SweepTells': WHATEVER THE INPUT: true; the input reads as it did. -/
def sweepTellsSpec : ChangeSpec := { name := "sweepTells", fn := fun _ => fun
  | [d1, d2, d3, d4] => { results := [.lit (.bool true)], args := [d1, d2, d3, d4] }
  | _ => none }
def sweepTellsRow : OpenClaim := { program := "ytckdhahceelckaa", sum := "7fb393eac9a3cdc99d15917c84316db6e472835dbb06233f70ff8cdb3ba77894", func := "tumbler/tumblerlaw11.SweepTells", spec := "sweepTells", unfollowed := true, recurses := true, apart := false }
def SweepTellsSaid : Prop := sweepTellsRow.holds Try.pinned (OpenSpec.ofChange sweepTellsSpec)

/-- ITS FALSE NEIGHBOUR: 'it returns false'. Refute it at one input. -/
def sweepTellsWrong : ChangeSpec := { name := "sweepTells", fn := fun _ => fun
  | [d1, d2, d3, d4] => { results := [.lit (.bool false)], args := [d1, d2, d3, d4] }
  | _ => none }
def SweepTellsWrongFalsely : Prop := sweepTellsRow.holds Try.pinned (OpenSpec.ofChange sweepTellsWrong)

/-- 'tumblerlaw11.SweepNearest': WHATEVER THE INPUT: true; the input reads as it did. -/
def sweepNearestSpec : ChangeSpec := { name := "sweepNearest", fn := fun _ => fun
  | [d1, d2, d3] => { results := [.lit (.bool true)], args := [d1, d2, d3] }
  | _ => none }
def sweepNearestRow : OpenClaim := { program := "ytckdhahceelckaa", sum := "7fb393eac9a3cdc99d15917c84316db6e472835dbb06233f70ff8cdb3ba77894", func := "tumbler/tumblerlaw11.SweepNearest", spec := "sweepNearest", unfollowed := true, recurses := true, apart := false }
def SweepNearestSaid : Prop := sweepNearestRow.holds Try.pinned (OpenSpec.ofChange sweepNearestSpec)

/-- ITS FALSE NEIGHBOUR: 'it returns false'. Refute it at one input. -/
def sweepNearestWrong : ChangeSpec := { name := "sweepNearest", fn := fun _ => fun
  | [d1, d2, d3] => { results := [.lit (.bool false)], args := [d1, d2, d3] }
  | _ => none }
def SweepNearestWrongFalsely : Prop := sweepNearestRow.holds Try.pinned (OpenSpec.ofChange sweepNearestWrong)

/-- 'tumblerlaw11.SweepMore': WHATEVER THE INPUT: true; the input reads as it did. -/
def sweepMoreSpec : ChangeSpec := { name := "sweepMore", fn := fun _ => fun
  | [d1, d2, d3, d4] => { results := [.lit (.bool true)], args := [d1, d2, d3, d4] }
  | _ => none }
def sweepMoreRow : OpenClaim := { program := "ytckdhahceelckaa", sum := "7fb393eac9a3cdc99d15917c84316db6e472835dbb06233f70ff8cdb3ba77894", func := "tumbler/tumblerlaw11.SweepMore", spec := "sweepMore", unfollowed := true, recurses := true, apart := false }
def SweepMoreSaid : Prop := sweepMoreRow.holds Try.pinned (OpenSpec.ofChange sweepMoreSpec)

/-- ITS FALSE NEIGHBOUR: 'it returns false'. Refute it at one input. -/
def sweepMoreWrong : ChangeSpec := { name := "sweepMore", fn := fun _ => fun
  | [d1, d2, d3, d4] => { results := [.lit (.bool false)], args := [d1, d2, d3, d4] }
  | _ => none }
def SweepMoreWrongFalsely : Prop := sweepMoreRow.holds Try.pinned (OpenSpec.ofChange sweepMoreWrong)

/-- 'tumblerlaw09.NarrowBricks': WHATEVER THE INPUT: true; the input reads as it did. -/
def narrowBricksSpec : ChangeSpec := { name := "narrowBricks", fn := fun _ => fun
  | [d1, d2, d3] => { results := [.lit (.bool true)], args := [d1, d2, d3] }
  | _ => none }
def narrowBricksRow : OpenClaim := { program := "ytckdhahceelckaa", sum := "7fb393eac9a3cdc99d15917c84316db6e472835dbb06233f70ff8cdb3ba77894", func := "tumbler/tumblerlaw09.NarrowBricks", spec := "narrowBricks", unfollowed := true, recurses := true, apart := false }
def NarrowBricksSaid : Prop := narrowBricksRow.holds Try.pinned (OpenSpec.ofChange narrowBricksSpec)

/-- ITS FALSE NEIGHBOUR: 'it returns false'. Refute it at one input. -/
def narrowBricksWrong : ChangeSpec := { name := "narrowBricks", fn := fun _ => fun
  | [d1, d2, d3] => { results := [.lit (.bool false)], args := [d1, d2, d3] }
  | _ => none }
def NarrowBricksWrongFalsely : Prop := narrowBricksRow.holds Try.pinned (OpenSpec.ofChange narrowBricksWrong)

/-- 'tumblerlaw18.CcdTells': WHATEVER THE INPUT: true; the input reads as it did. -/
def ccdTellsSpec : ChangeSpec := { name := "ccdTells", fn := fun _ => fun
  | [d1, d2, d3, d4] => { results := [.lit (.bool true)], args := [d1, d2, d3, d4] }
  | _ => none }
def ccdTellsRow : OpenClaim := { program := "ytckdhahceelckaa", sum := "7fb393eac9a3cdc99d15917c84316db6e472835dbb06233f70ff8cdb3ba77894", func := "tumbler/tumblerlaw18.CcdTells", spec := "ccdTells", inPlace := ["math/bits.Sub64"], unfollowed := true, recurses := true, named := ["math/bits.divideError", "math/bits.overflowError"], apart := false }
def CcdTellsSaid : Prop := ccdTellsRow.holds Try.pinned (OpenSpec.ofChange ccdTellsSpec)

/-- ITS FALSE NEIGHBOUR: 'it returns false'. Refute it at one input. -/
def ccdTellsWrong : ChangeSpec := { name := "ccdTells", fn := fun _ => fun
  | [d1, d2, d3, d4] => { results := [.lit (.bool false)], args := [d1, d2, d3, d4] }
  | _ => none }
def CcdTellsWrongFalsely : Prop := ccdTellsRow.holds Try.pinned (OpenSpec.ofChange ccdTellsWrong)

/- THE SECOND FORM. 'bulk': how many values and letters a reading holds, each counted each time it is reached (what is shared counts as often as it is met; a slice's spare places count too). A statement '..UptoSaid' is the law's where the arguments, and the package variables that the reading takes, are together of bulk at most 1048576: NARROWER than '..Said'. Prove '..Said' where nothing that the law and all that it calls make is longer than what came in: it says more and counts as full. Else prove '..UptoSaid'. A law counts once. -/
mutual
def uptoBulk {H : Type} : DataW H → Nat
  | .lit (.string bytes) => bytes.length + 1
  | .lit _ => 1
  | .nil => 1
  | .ptr d => uptoBulk d + 1
  | .slice elems spare => uptoBulkAll elems + uptoBulkAll spare + 1
  | .agg parts => uptoBulkAll parts + 1
  | .iface _ d => uptoBulk d + 1
  | .map entries => uptoBulkEntries entries + 1
  | .held _ => 1
def uptoBulkAll {H : Type} : List (DataW H) → Nat
  | [] => 0
  | d :: r => uptoBulk d + uptoBulkAll r
def uptoBulkEntries {H : Type} : List (Lit × DataW H) → Nat
  | [] => 0
  | x :: r => uptoBulkEntry x + uptoBulkEntries r
def uptoBulkEntry {H : Type} : Lit × DataW H → Nat
  | (.string bytes, d) => bytes.length + uptoBulk d + 1
  | (_, d) => uptoBulk d + 1
 end
def uptoSmall : (H : Type) → List (DataW H) → Bool := fun _ ds => decide (uptoBulkAll ds ≤ 1048576)
def OpenSpec.upto (s : _root_.Go.ChangeSpec) : _root_.Go.OpenSpec := { _root_.Go.OpenSpec.ofChange s with cond := some uptoSmall }

/-- 'tumblerlaw09.NarrowSound', WHERE WHAT IT READS IS OF BULK AT MOST 1048576: true; the input reads as it did. -/
def narrowSoundUptoRow : OpenClaim := { program := "ytckdhahceelckaa", sum := "7fb393eac9a3cdc99d15917c84316db6e472835dbb06233f70ff8cdb3ba77894", func := "tumbler/tumblerlaw09.NarrowSound", spec := "narrowSound", unfollowed := true, recurses := true, apart := false, narrowed := true }
def NarrowSoundUptoSaid : Prop := narrowSoundUptoRow.holds Try.pinned (OpenSpec.upto narrowSoundSpec)

/-- 'tumblerlaw09.NarrowBalls', WHERE WHAT IT READS IS OF BULK AT MOST 1048576: true; the input reads as it did. -/
def narrowBallsUptoRow : OpenClaim := { program := "ytckdhahceelckaa", sum := "7fb393eac9a3cdc99d15917c84316db6e472835dbb06233f70ff8cdb3ba77894", func := "tumbler/tumblerlaw09.NarrowBalls", spec := "narrowBalls", unfollowed := true, recurses := true, apart := false, narrowed := true }
def NarrowBallsUptoSaid : Prop := narrowBallsUptoRow.holds Try.pinned (OpenSpec.upto narrowBallsSpec)

/-- 'tumblerlaw09.NarrowThick', WHERE WHAT IT READS IS OF BULK AT MOST 1048576: true; the input reads as it did. -/
def narrowThickUptoRow : OpenClaim := { program := "ytckdhahceelckaa", sum := "7fb393eac9a3cdc99d15917c84316db6e472835dbb06233f70ff8cdb3ba77894", func := "tumbler/tumblerlaw09.NarrowThick", spec := "narrowThick", unfollowed := true, recurses := true, apart := false, narrowed := true }
def NarrowThickUptoSaid : Prop := narrowThickUptoRow.holds Try.pinned (OpenSpec.upto narrowThickSpec)

/-- 'tumblerlaw09.NarrowSelf', WHERE WHAT IT READS IS OF BULK AT MOST 1048576: true; the input reads as it did. -/
def narrowSelfUptoRow : OpenClaim := { program := "ytckdhahceelckaa", sum := "7fb393eac9a3cdc99d15917c84316db6e472835dbb06233f70ff8cdb3ba77894", func := "tumbler/tumblerlaw09.NarrowSelf", spec := "narrowSelf", unfollowed := true, recurses := true, apart := false, narrowed := true }
def NarrowSelfUptoSaid : Prop := narrowSelfUptoRow.holds Try.pinned (OpenSpec.upto narrowSelfSpec)

/-- 'tumblerlaw09.NarrowTells', WHERE WHAT IT READS IS OF BULK AT MOST 1048576: true; the input reads as it did. -/
def narrowTellsUptoRow : OpenClaim := { program := "ytckdhahceelckaa", sum := "7fb393eac9a3cdc99d15917c84316db6e472835dbb06233f70ff8cdb3ba77894", func := "tumbler/tumblerlaw09.NarrowTells", spec := "narrowTells", unfollowed := true, recurses := true, apart := false, narrowed := true }
def NarrowTellsUptoSaid : Prop := narrowTellsUptoRow.holds Try.pinned (OpenSpec.upto narrowTellsSpec)

/-- 'tumblerlaw09.NarrowRight', WHERE WHAT IT READS IS OF BULK AT MOST 1048576: true; the input reads as it did. -/
def narrowRightUptoRow : OpenClaim := { program := "ytckdhahceelckaa", sum := "7fb393eac9a3cdc99d15917c84316db6e472835dbb06233f70ff8cdb3ba77894", func := "tumbler/tumblerlaw09.NarrowRight", spec := "narrowRight", unfollowed := true, recurses := true, apart := false, narrowed := true }
def NarrowRightUptoSaid : Prop := narrowRightUptoRow.holds Try.pinned (OpenSpec.upto narrowRightSpec)

/-- 'tumblertop.Names', WHERE WHAT IT READS IS OF BULK AT MOST 1048576: true; the input reads as it did. -/
def namesUptoRow : OpenClaim := { program := "ytckdhahceelckaa", sum := "7fb393eac9a3cdc99d15917c84316db6e472835dbb06233f70ff8cdb3ba77894", func := "tumbler/tumblertop.Names", spec := "names", apart := false, narrowed := true }
def NamesUptoSaid : Prop := namesUptoRow.holds Try.pinned (OpenSpec.upto namesSpec)

/-- 'tumblerlaw09.NarrowMirror', WHERE WHAT IT READS IS OF BULK AT MOST 1048576: true; the input reads as it did. -/
def narrowMirrorUptoRow : OpenClaim := { program := "ytckdhahceelckaa", sum := "7fb393eac9a3cdc99d15917c84316db6e472835dbb06233f70ff8cdb3ba77894", func := "tumbler/tumblerlaw09.NarrowMirror", spec := "narrowMirror", unfollowed := true, recurses := true, apart := false, narrowed := true }
def NarrowMirrorUptoSaid : Prop := narrowMirrorUptoRow.holds Try.pinned (OpenSpec.upto narrowMirrorSpec)

/-- 'tumblerlaw11.SweepRays', WHERE WHAT IT READS IS OF BULK AT MOST 1048576: true; the input reads as it did. -/
def sweepRaysUptoRow : OpenClaim := { program := "ytckdhahceelckaa", sum := "7fb393eac9a3cdc99d15917c84316db6e472835dbb06233f70ff8cdb3ba77894", func := "tumbler/tumblerlaw11.SweepRays", spec := "sweepRays", unfollowed := true, recurses := true, apart := false, narrowed := true }
def SweepRaysUptoSaid : Prop := sweepRaysUptoRow.holds Try.pinned (OpenSpec.upto sweepRaysSpec)

/-- 'tumblerlaw11.SweepFree', WHERE WHAT IT READS IS OF BULK AT MOST 1048576: true; the input reads as it did. -/
def sweepFreeUptoRow : OpenClaim := { program := "ytckdhahceelckaa", sum := "7fb393eac9a3cdc99d15917c84316db6e472835dbb06233f70ff8cdb3ba77894", func := "tumbler/tumblerlaw11.SweepFree", spec := "sweepFree", unfollowed := true, recurses := true, apart := false, narrowed := true }
def SweepFreeUptoSaid : Prop := sweepFreeUptoRow.holds Try.pinned (OpenSpec.upto sweepFreeSpec)

/-- 'tumblerlaw11.SweepTells', WHERE WHAT IT READS IS OF BULK AT MOST 1048576: true; the input reads as it did. -/
def sweepTellsUptoRow : OpenClaim := { program := "ytckdhahceelckaa", sum := "7fb393eac9a3cdc99d15917c84316db6e472835dbb06233f70ff8cdb3ba77894", func := "tumbler/tumblerlaw11.SweepTells", spec := "sweepTells", unfollowed := true, recurses := true, apart := false, narrowed := true }
def SweepTellsUptoSaid : Prop := sweepTellsUptoRow.holds Try.pinned (OpenSpec.upto sweepTellsSpec)

/-- 'tumblerlaw11.SweepNearest', WHERE WHAT IT READS IS OF BULK AT MOST 1048576: true; the input reads as it did. -/
def sweepNearestUptoRow : OpenClaim := { program := "ytckdhahceelckaa", sum := "7fb393eac9a3cdc99d15917c84316db6e472835dbb06233f70ff8cdb3ba77894", func := "tumbler/tumblerlaw11.SweepNearest", spec := "sweepNearest", unfollowed := true, recurses := true, apart := false, narrowed := true }
def SweepNearestUptoSaid : Prop := sweepNearestUptoRow.holds Try.pinned (OpenSpec.upto sweepNearestSpec)

/-- 'tumblerlaw11.SweepMore', WHERE WHAT IT READS IS OF BULK AT MOST 1048576: true; the input reads as it did. -/
def sweepMoreUptoRow : OpenClaim := { program := "ytckdhahceelckaa", sum := "7fb393eac9a3cdc99d15917c84316db6e472835dbb06233f70ff8cdb3ba77894", func := "tumbler/tumblerlaw11.SweepMore", spec := "sweepMore", unfollowed := true, recurses := true, apart := false, narrowed := true }
def SweepMoreUptoSaid : Prop := sweepMoreUptoRow.holds Try.pinned (OpenSpec.upto sweepMoreSpec)

/-- 'tumblerlaw09.NarrowBricks', WHERE WHAT IT READS IS OF BULK AT MOST 1048576: true; the input reads as it did. -/
def narrowBricksUptoRow : OpenClaim := { program := "ytckdhahceelckaa", sum := "7fb393eac9a3cdc99d15917c84316db6e472835dbb06233f70ff8cdb3ba77894", func := "tumbler/tumblerlaw09.NarrowBricks", spec := "narrowBricks", unfollowed := true, recurses := true, apart := false, narrowed := true }
def NarrowBricksUptoSaid : Prop := narrowBricksUptoRow.holds Try.pinned (OpenSpec.upto narrowBricksSpec)

/-- 'tumblerlaw18.CcdTells', WHERE WHAT IT READS IS OF BULK AT MOST 1048576: true; the input reads as it did. -/
def ccdTellsUptoRow : OpenClaim := { program := "ytckdhahceelckaa", sum := "7fb393eac9a3cdc99d15917c84316db6e472835dbb06233f70ff8cdb3ba77894", func := "tumbler/tumblerlaw18.CcdTells", spec := "ccdTells", inPlace := ["math/bits.Sub64"], unfollowed := true, recurses := true, named := ["math/bits.divideError", "math/bits.overflowError"], apart := false, narrowed := true }
def CcdTellsUptoSaid : Prop := ccdTellsUptoRow.holds Try.pinned (OpenSpec.upto ccdTellsSpec)

end Rows
end Go.Proofs.Ytckdhahceelckaa
