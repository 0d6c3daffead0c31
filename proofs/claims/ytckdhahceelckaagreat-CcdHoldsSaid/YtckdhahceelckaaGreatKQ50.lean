/- What the laws of this claim lean on: contracts of functions and plain lemmas; no condition of its own (part 50: XV6). -/
import Derived.Test.YtckdhahceelckaaGreatKQ22
set_option maxHeartbeats 16000000
set_option maxRecDepth 100000
set_option linter.unusedVariables false
set_option linter.unusedSimpArgs false
namespace Go.Proofs.YtckdhahceelckaaGreat.G
open Go.RowKit Go.Proofs.YtckdhahceelckaaGreatW.PrintWords Go.Proofs.YtckdhahceelckaaGreatW.PrintLast Go.Proofs.YtckdhahceelckaaGreatW.PrintMore
/-- what the last free part is: its answer is that of the trail up to there -/
theorem castL_spec (c:Cr)(y:P3)(d:Cr)(n:Nat):∀(k:Nat) (x:P3×Int),
  (castL c y d n k x=(k,x))∨(0≤(castL c y d n k x).2.2∧k<(castL c y d n k x).1∧(castL c y d n k x).2=(apS (trailF c y ((castL c y d n k x).1:Int)) d).1):=by
 induction n with
 |zero=>intro k x;exact .inl rfl
 |succ n ih=>
  intro k x;rw[castL];split
  ·exact .inl rfl
  ·split
   ·exact .inl rfl
   ·rename_i h1 h2;right;rcases ih (k+1) (apS (trailF c y ((k:Int)+1)) d).1 with h|⟨h3,h4,h5⟩
    ·rw[h];refine⟨by simpa using h2,Nat.lt_succ_self k,?_⟩;simp
    ·exact⟨h3,by omega,h5⟩
end Go.Proofs.YtckdhahceelckaaGreat.G
