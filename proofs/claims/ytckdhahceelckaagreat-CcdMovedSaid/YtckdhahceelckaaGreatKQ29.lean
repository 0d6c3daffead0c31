/- What the laws of this claim lean on: contracts of functions and plain lemmas; no condition of its own (part 29: XR10). -/
import Derived.Test.YtckdhahceelckaaGreatKQ13
set_option maxHeartbeats 16000000
set_option maxRecDepth 100000
set_option linter.unusedVariables false
set_option linter.unusedSimpArgs false
namespace Go.Proofs.YtckdhahceelckaaGreat.G
open Go.RowKit Go.Proofs.YtckdhahceelckaaGreatW.PrintWords Go.Proofs.YtckdhahceelckaaGreatW.PrintLast Go.Proofs.YtckdhahceelckaaGreatW.PrintMore
theorem mapM_snoc {α β:Type}(f:α→β)(l:List α)(k:Nat)(h:k<l.length):(l.take (k+1)).map f=(l.take k).map f++[f l[k]]:=by
 rw[List.take_succ_eq_append_getElem h,List.map_append];rfl
end Go.Proofs.YtckdhahceelckaaGreat.G
