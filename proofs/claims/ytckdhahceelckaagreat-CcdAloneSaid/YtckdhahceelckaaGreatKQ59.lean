/- What the laws of this claim lean on: contracts of functions and plain lemmas; no condition of its own (part 59: XB). -/
import Derived.Test.YtckdhahceelckaaGreatKQ2
set_option maxHeartbeats 16000000
set_option maxRecDepth 100000
set_option linter.unusedVariables false
set_option linter.unusedSimpArgs false
namespace Go.Proofs.YtckdhahceelckaaGreat.G
open Go.RowKit Go.Proofs.YtckdhahceelckaaGreatW.PrintWords Go.Proofs.YtckdhahceelckaaGreatW.PrintLast Go.Proofs.YtckdhahceelckaaGreatW.PrintMore
section
variable {P:Program}{ops:Array Oper}{Q:Exit→Act→World→Prop}{md:Region.Mode}{S:World→Prop}{ds:List Nat}
theorem nw_ {fuel:Nat}{l:Array Bool}{a a':Act}{w:World}(h:wpAnyLast P md ops Q S ds fuel l a' w)(ha:a=a':=by first|(simp only[putAll,Act.put,List.setIfInBounds_toArray,List.set_cons_zero,List.set_cons_succ];done)|(simp only[putAll,Act.put,List.setIfInBounds_toArray,List.set_cons_zero,List.set_cons_succ];rfl)):wpAnyLast P md ops Q S ds fuel l a w:=norm_ ha h
end
end Go.Proofs.YtckdhahceelckaaGreat.G
