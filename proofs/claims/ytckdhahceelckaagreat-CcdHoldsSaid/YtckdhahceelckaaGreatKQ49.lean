/- What the laws of this claim lean on: contracts of functions and plain lemmas; no condition of its own (part 49: XG10). -/
import Derived.Test.YtckdhahceelckaaGreatKQ15
set_option maxHeartbeats 16000000
set_option maxRecDepth 100000
set_option linter.unusedVariables false
set_option linter.unusedSimpArgs false
namespace Go.Proofs.YtckdhahceelckaaGreat.G
open Go.RowKit Go.Proofs.YtckdhahceelckaaGreatW.PrintWords
theorem dot3_negI (n p:P3)(hn:in3 1048576 n)(hp:in3 16777216 p):dot3 (negI n) p= -dot3 n p:=by
 have hn':in3 1048576 (negI n):=by unfold in3 negI at*;simp only;omega
 rw[dot3_eq n p 1048576 16777216 hn hp (by decide),dot3_eq _ p 1048576 16777216 hn' hp (by decide)];unfold dotI negI;simp only[Int.neg_mul];omega
theorem sizes_negI (n:P3):fl3 (negI n)=fl3 n∧ce3 (negI n)=ce3 n:=by
 have e:dotI (negI n) (negI n)=dotI n n:=by unfold dotI negI;simp only[Int.neg_mul_neg]
 unfold ce3 fl3;rw[e];exact⟨rfl,rfl⟩
theorem reach_negI {n p0:P3}{r:List P3}(hn:in3 1048576 n)(hp:∀p∈p0::r,in3 16777216 p):(reachF (negI n) p0 r).1= -(reachF n p0 r).2∧(reachF (negI n) p0 r).2= -(reachF n p0 r).1:=by
 have gen:∀(l:List P3) (s t:Int×Int),(∀p∈l,in3 16777216 p)→t.1= -s.2→t.2= -s.1→(l.foldl (rstep (negI n)) t).1= -(l.foldl (rstep n) s).2∧(l.foldl (rstep (negI n)) t).2= -(l.foldl (rstep n) s).1:=by
  intro l
  induction l with
  |nil=>intro s t _ h1 h2;exact⟨h1,h2⟩
  |cons p l ih=>
   intro s t h h1 h2;rw[List.foldl_cons,List.foldl_cons];refine ih _ _ (fun q hq=>h q (by simp[hq])) ?_ ?_
   ·unfold rstep mn mx;simp only;rw[dot3_negI n p hn (h p (by simp)),h1];split<;>split<;>omega
   ·unfold rstep mn mx;simp only;rw[dot3_negI n p hn (h p (by simp)),h2];split<;>split<;>omega
 unfold reachF;exact gen r _ _ (fun q hq=>hp q (by simp[hq])) (dot3_negI n p0 hn (hp p0 (by simp))) (dot3_negI n p0 hn (hp p0 (by simp)))
theorem gaps_negI {n a0 b0:P3}{ar br:List P3}(ra rb:Int)(hn:in3 1048576 n)(ha:∀p∈a0::ar,in3 16777216 p)(hb:∀p∈b0::br,in3 16777216 p):(gapsF (negI n) a0 ar ra b0 br rb).1=(gapsF n a0 ar ra b0 br rb).2:=by
 unfold gapsF;simp only;rw[(reach_negI hn ha).2,(reach_negI hn hb).1,(sizes_negI n).1,(sizes_negI n).2];congr 1;omega
end Go.Proofs.YtckdhahceelckaaGreat.G
