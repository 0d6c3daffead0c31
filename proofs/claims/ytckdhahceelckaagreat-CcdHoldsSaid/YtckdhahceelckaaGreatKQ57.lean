/- What the laws of this claim lean on: contracts of functions and plain lemmas; no condition of its own (part 57: XC1, XC2). -/
import Derived.Test.YtckdhahceelckaaGreatKQ30
set_option maxHeartbeats 16000000
set_option maxRecDepth 100000
set_option linter.unusedVariables false
set_option linter.unusedSimpArgs false
namespace Go.Proofs.YtckdhahceelckaaGreat.G
open Go.RowKit Go.Proofs.YtckdhahceelckaaGreatW.PrintWords Go.Proofs.YtckdhahceelckaaGreatW.PrintLast Go.Proofs.YtckdhahceelckaaGreatW.PrintMore
theorem holdK_le (a b:P3)(r:Int)(l:List Cr):holdK a b r l≤16:=by
 unfold holdK;split
 ·exact leastH_le _ _ _ _
 ·exact Nat.le_refl _
theorem outP_in {a b:P3}{k:Int}{B:Int}(hk:0≤k)(hk2:k≤16)(ha:in3 B a)(hb:in3 B b):in3 B (outP a b k):=by
 unfold in3 at*;have hx:=outC_bd a.x b.x k B hk hk2 ⟨ha.1,ha.2.1⟩ ⟨hb.1,hb.2.1⟩;have hy:=outC_bd a.y b.y k B hk hk2 ⟨ha.2.2.1,ha.2.2.2.1⟩ ⟨hb.2.2.1,hb.2.2.2.1⟩;have hz:=outC_bd a.z b.z k B hk hk2 ⟨ha.2.2.2.2.1,ha.2.2.2.2.2⟩ ⟨hb.2.2.2.2.1,hb.2.2.2.2.2⟩;exact⟨hx.1,hx.2,hy.1,hy.2,hz.1,hz.2⟩
theorem ShotOk.end_ {a b:P3}{r:Int}(h:ShotOk a b r){k:Int}(h0:0≤k)(h1:k≤16):in3 4672924418048 (outP a b k):=outP_in h0 h1 (in3_le (by decide) h.ha) h.hb
end Go.Proofs.YtckdhahceelckaaGreat.G
