/- What the laws of this claim lean on: contracts of functions and plain lemmas; no condition of its own (part 51: XV6). -/
import Derived.Test.YtckdhahceelckaaGreatKQ22
set_option maxHeartbeats 16000000
set_option maxRecDepth 100000
set_option linter.unusedVariables false
set_option linter.unusedSimpArgs false
namespace Go.Proofs.YtckdhahceelckaaGreat.G
open Go.RowKit Go.Proofs.YtckdhahceelckaaGreatW.PrintWords Go.Proofs.YtckdhahceelckaaGreatW.PrintLast Go.Proofs.YtckdhahceelckaaGreatW.PrintMore
theorem castL_le (c:Cr)(y:P3)(d:Cr)(n:Nat):∀(k:Nat) (x:P3×Int),k≤(castL c y d n k x).1∧(castL c y d n k x).1≤k+n:=by
 induction n with
 |zero=>intro k x;exact⟨Nat.le_refl _,Nat.le_refl _⟩
 |succ n ih=>
  intro k x;rw[castL];split
  ·exact⟨Nat.le_refl _,Nat.le_add_right _ _⟩
  ·split
   ·exact⟨Nat.le_refl _,Nat.le_add_right _ _⟩
   ·have:=ih (k+1) (apS (trailF c y ((k:Int)+1)) d).1;omega
theorem castF_le (c:Cr)(y:P3)(d:Cr):(castF c y d).1.1≤16:=by
 unfold castF;split
 ·have:=castL_le c y d 16 0 (apS c d).1;show(castL c y d 16 0 (apS c d).1).1≤16;omega
 ·exact Nat.zero_le _
end Go.Proofs.YtckdhahceelckaaGreat.G
