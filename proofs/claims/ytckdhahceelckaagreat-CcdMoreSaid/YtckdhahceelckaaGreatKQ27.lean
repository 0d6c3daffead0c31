/- What the laws of this claim lean on: contracts of functions and plain lemmas; no condition of its own (part 27: XR10). -/
import Derived.Test.YtckdhahceelckaaGreatKQ21
set_option maxHeartbeats 16000000
set_option maxRecDepth 100000
set_option linter.unusedVariables false
set_option linter.unusedSimpArgs false
namespace Go.Proofs.YtckdhahceelckaaGreat.G
open Go.RowKit Go.Proofs.YtckdhahceelckaaGreatW.PrintWords Go.Proofs.YtckdhahceelckaaGreatW.PrintLast Go.Proofs.YtckdhahceelckaaGreatW.PrintMore
theorem CSt.more {w1 W W':World}{v:Value}{l:List P3}{keep:List Nat}(h:CSt w1 W v l keep)(hb:Below W.heap.size W W'){k:Nat}(hk:W.heap.size≤k)(hk2:k<W'.heap.size):CSt w1 W' v l (k::keep):=by
 refine⟨h.own.grown hb,bthen h.below hb,fun j hj=>?_⟩;rcases List.mem_cons.1 hj with rfl|hj
 ·exact⟨fun e=>by have:=h.own.lt _ e;omega,hk2⟩
 ·exact⟨(h.ne j hj).1,Nat.lt_of_lt_of_le (h.ne j hj).2 hb.size⟩
end Go.Proofs.YtckdhahceelckaaGreat.G
