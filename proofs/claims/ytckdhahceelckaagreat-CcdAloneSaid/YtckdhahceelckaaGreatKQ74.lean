/- What the laws of this claim lean on: contracts of functions and plain lemmas; no condition of its own (part 74: XL1). -/
import Derived.Test.YtckdhahceelckaaGreatKQ2
set_option maxHeartbeats 16000000
set_option maxRecDepth 100000
set_option linter.unusedVariables false
set_option linter.unusedSimpArgs false
namespace Go.Proofs.YtckdhahceelckaaGreat.G
open Go.ChangeShapes Go.WideShapes Go.RowKit
theorem open_num {H:Type}{enc:TypeId×Value→H}{W:World}{base:Nat}{spare:Nat→Bool}{held:Bool}{r:Reach}{b0:Nat}{v:Value}{d:DataW H}{p:List MemPlace}
  (hval:Value.okWide Tryz.prog W r b0 3 v) (h:DataW.Trod enc Tryz.prog W base spare held 3 v d p):∃n,v= .int .i64 n∧ -9223372036854775808≤n∧n≤9223372036854775807:=by
 obtain⟨n,rfl,_,_,hw⟩:=open_int Tryz.underlying3 hval h;exact⟨n,rfl,i64_of_wf hw⟩
end Go.Proofs.YtckdhahceelckaaGreat.G
