/- What the laws of this claim lean on: contracts of functions and plain lemmas; no condition of its own (part 64: XG15). -/
import Derived.Test.YtckdhahceelckaaGreatKQ22
set_option maxHeartbeats 16000000
set_option maxRecDepth 100000
set_option linter.unusedVariables false
set_option linter.unusedSimpArgs false
namespace Go.Proofs.YtckdhahceelckaaGreat.G
open Go.RowKit Go.Proofs.YtckdhahceelckaaGreatW.PrintWords
theorem dot3_plus {n x y:P3}(hn:in3 1048576 n)(hy:in3 1048576 y)(hx:in3 8388608 x):dot3 n (plusI y x)=dot3 n x+dotI n y:=by
 rw[dot3_eq n (plusI y x) 1048576 16777216 hn (plusI_in hy hx) (by decide),dot3_eq n x 1048576 16777216 hn (in3_le (by decide) hx) (by decide)];unfold dotI plusI;simp only[Int.mul_add];omega
theorem reach_plus {n y p0:P3}{r:List P3}(hn:in3 1048576 n)(hy:in3 1048576 y)(hp:∀p∈p0::r,in3 8388608 p):reachF n (plusI y p0) (r.map (plusI y))=((reachF n p0 r).1+dotI n y,(reachF n p0 r).2+dotI n y):=by
 have gen:∀(l:List P3) (s:Int×Int),(∀p∈l,in3 8388608 p)→(l.map (plusI y)).foldl (rstep n) (s.1+dotI n y,s.2+dotI n y)=((l.foldl (rstep n) s).1+dotI n y,(l.foldl (rstep n) s).2+dotI n y):=by
  intro l
  induction l with
  |nil=>intro s _;rfl
  |cons p l ih=>
   intro s h;rw[List.map_cons,List.foldl_cons,List.foldl_cons,←ih _ (fun q hq=>h q (by simp[hq]))];congr 1;unfold rstep;rw[dot3_plus hn hy (h p (by simp))];unfold mn mx;simp only[Prod.mk.injEq];constructor
   ·split<;>split<;>omega
   ·split<;>split<;>omega
 unfold reachF;rw[←gen r _ (fun q hq=>hp q (by simp[hq])),dot3_plus hn hy (hp p0 (by simp))]
theorem rawC_moved {p a e q b f:List P3}{y:P3}(hy:in3 1048576 y)(hp:∀x∈p,in3 8388608 x)(hq:∀x∈q,in3 8388608 x):rawC (p.map (plusI y)) a e (q.map (plusI y)) b f=rawC p a e q b f:=by
 have hr:∀P∈p,∀Q∈q,roundW (e++f) (plusI y P) (plusI y Q)=roundW (e++f) P Q:=by
  intro P hP Q hQ;have h:minus3 (plusI y Q) (plusI y P)=minus3 Q P:=by
   rw[minus3_eq _ _ (in3_le (by decide) (plusI_in hy (hq Q hQ))) (in3_le (by decide) (plusI_in hy (hp P hP))),minus3_eq _ _ (in3_le (by decide) (hq Q hQ)) (in3_le (by decide) (hp P hP))];unfold plusI;simp only[P3.mk.injEq];omega
  unfold roundW;rw[h]
 have hw:pointW (p.map (plusI y)) (q.map (plusI y)) (e++f)=pointW p q (e++f):=by
  unfold pointW;rw[List.flatMap_map];have fm:∀(l:List P3) (g h:P3→List P3),(∀x∈l,g x=h x)→l.flatMap g=l.flatMap h:=by
   intro l g h
   induction l with
   |nil=>intro _;rfl
   |cons x l ih=>intro hx;rw[List.flatMap_cons,List.flatMap_cons,hx x (by simp),ih (fun z hz=>hx z (by simp[hz]))]
  apply fm;intro P hP;rw[List.flatMap_map];exact fm _ _ _ fun Q hQ=>hr P hP Q hQ
 unfold rawC;rw[hw,List.length_map,List.length_map]
theorem apart_moved {p a e q b f:List P3}{r s:Int}(m:MayP p a e r)(k:MayP q b f s){y:P3}(hy:in3 1048576 y)(hp:∀x∈p,in3 8388608 x)(hq:∀x∈q,in3 8388608 x):apartF (p.map (plusI y)) a e r (q.map (plusI y)) b f s=apartF p a e r q b f s:=by
 unfold apartF;rw[rawC_moved hy hp hq];obtain⟨p0,pr,rfl⟩:=List.exists_cons_of_ne_nil m.p0;obtain⟨q0,qr,rfl⟩:=List.exists_cons_of_ne_nil k.p0;simp only[List.map_cons,List.headD_cons,List.tail_cons];have hs:apStep (plusI y p0) (pr.map (plusI y)) r (plusI y q0) (qr.map (plusI y)) s=apStep p0 pr r q0 qr s:=by
  funext st n;unfold apStep;have hg:gapsF (long3 n) (plusI y p0) (pr.map (plusI y)) r (plusI y q0) (qr.map (plusI y)) s=gapsF (long3 n) p0 pr r q0 qr s:=by
   unfold gapsF;rw[reach_plus (long3_in n) hy hp,reach_plus (long3_in n) hy hq];simp only;rw[show(reachF (long3 n) q0 qr).1+dotI (long3 n) y-((reachF (long3 n) p0 pr).2+dotI (long3 n) y)=(reachF (long3 n) q0 qr).1-(reachF (long3 n) p0 pr).2 by omega,show(reachF (long3 n) p0 pr).1+dotI (long3 n) y-((reachF (long3 n) q0 qr).2+dotI (long3 n) y)=(reachF (long3 n) p0 pr).1-(reachF (long3 n) q0 qr).2 by omega]
  rw[hg]
 unfold apF;rw[hs]
end Go.Proofs.YtckdhahceelckaaGreat.G
