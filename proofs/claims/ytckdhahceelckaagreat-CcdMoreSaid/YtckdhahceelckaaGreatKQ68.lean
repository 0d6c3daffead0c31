/- What the laws of this claim lean on: contracts of functions and plain lemmas; no condition of its own (part 68: XC1). -/
import Derived.Test.YtckdhahceelckaaGreatKQ30
import Derived.Test.YtckdhahceelckaaGreatKQ51
set_option maxHeartbeats 16000000
set_option maxRecDepth 100000
set_option linter.unusedVariables false
set_option linter.unusedSimpArgs false
namespace Go.Proofs.YtckdhahceelckaaGreat.G
open Go.RowKit Go.Proofs.YtckdhahceelckaaGreatW.PrintWords Go.Proofs.YtckdhahceelckaaGreatW.PrintLast Go.Proofs.YtckdhahceelckaaGreatW.PrintMore
/-- CcdMore -/
theorem hold_one (a b:P3)(r:Int)(d:Cr):holdK a b r [d]≤16:=by
 unfold holdK;split
 ·exact leastH_le _ _ _ _
 ·exact Nat.le_refl _
theorem hold_more (a b:P3)(r:Int)(l:List Cr)(i:Nat)(h:i<l.length):holdK a b r (l.take (i+1))=min (holdK a b r (l.take i)) (holdK a b r [l[i]]):=by
 unfold holdK;split
 ·rw[leastH_take _ _ _ _ _ h];have h16:=leastH_le (ballC a r) (wayC a b) (l.take i) 16;have hc:=castF_le (ballC a r) (wayC a b) l[i];show hstep _ _ _ _=min _ (hstep (ballC a r) (wayC a b) 16 l[i]);unfold hstep;split<;>omega
 ·rfl
end Go.Proofs.YtckdhahceelckaaGreat.G
