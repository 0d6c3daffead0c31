/- What the laws of this claim lean on: contracts of functions and plain lemmas; no condition of its own (part 62: XC2). -/
import Derived.Test.YtckdhahceelckaaGreatKQ24
set_option maxHeartbeats 16000000
set_option maxRecDepth 100000
set_option linter.unusedVariables false
set_option linter.unusedSimpArgs false
namespace Go.Proofs.YtckdhahceelckaaGreat.G
open Go.RowKit Go.Proofs.YtckdhahceelckaaGreatW.PrintWords Go.Proofs.YtckdhahceelckaaGreatW.PrintLast Go.Proofs.YtckdhahceelckaaGreatW.PrintMore
theorem part_in {y x:P3}(hy:in3 4194304 y)(hx:in3 4194304 x){k:Int}(h0:0≤k)(h1:k≤16):in3 8388608 (plusI (partP y k) x):=by
 have:=partP_bd y k h0 h1 _ hy (by decide);unfold in3 plusI at*;simp only;omega
theorem trail_may8 {c:Cr}{y:P3}(hs:smay c y=true)(hp:∀x∈c.p,in3 4194304 x){k:Int}(h0:0≤k)(h1:k≤16):(trailF c y k).may=true:=
 trail_may hs h0 h1 fun x hx=>in3_le (by decide) (part_in ((smay_iff ..).1 hs).2.2 (hp x hx) h0 h1)
end Go.Proofs.YtckdhahceelckaaGreat.G
