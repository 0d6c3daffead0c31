/- What the laws of this claim lean on: contracts of functions and plain lemmas; no condition of its own (part 48: XG9, XG10, XV6). -/
import Derived.Test.YtckdhahceelckaaGreatKQ22
set_option maxHeartbeats 16000000
set_option maxRecDepth 100000
set_option linter.unusedVariables false
set_option linter.unusedSimpArgs false
namespace Go.Proofs.YtckdhahceelckaaGreat.G
open Go.RowKit Go.Proofs.YtckdhahceelckaaGreatW.PrintWords
theorem apF_inv (a0:P3)(ar:List P3)(ra:Int)(b0:P3)(br:List P3)(rb:Int)(l:List P3):
  ((apF a0 ar ra b0 br rb l).2=true∧(apF a0 ar ra b0 br rb l).1=(⟨0,0,1048576⟩,-ra-rb)∧∀x∈l,long3 x=⟨0,0,0⟩)∨
  ((apF a0 ar ra b0 br rb l).2=false∧∃x∈l,long3 x≠⟨0,0,0⟩∧((apF a0 ar ra b0 br rb l).1=(long3 x,(gapsF (long3 x) a0 ar ra b0 br rb).1)∨(apF a0 ar ra b0 br rb l).1=(minus3 ⟨0,0,0⟩ (long3 x),(gapsF (long3 x) a0 ar ra b0 br rb).2))):=by
 have gen:∀(k:Nat),k≤l.length→((apF a0 ar ra b0 br rb (l.take k)).2=true∧(apF a0 ar ra b0 br rb (l.take k)).1=(⟨0,0,1048576⟩,-ra-rb)∧∀x∈l.take k,long3 x=⟨0,0,0⟩)∨
  ((apF a0 ar ra b0 br rb (l.take k)).2=false∧∃x∈l.take k,long3 x≠⟨0,0,0⟩∧((apF a0 ar ra b0 br rb (l.take k)).1=(long3 x,(gapsF (long3 x) a0 ar ra b0 br rb).1)∨(apF a0 ar ra b0 br rb (l.take k)).1=(minus3 ⟨0,0,0⟩ (long3 x),(gapsF (long3 x) a0 ar ra b0 br rb).2))):=by
  intro k
  induction k with
  |zero=>intro _;left;exact⟨rfl,rfl,by simp⟩
  |succ k ih=>
   intro hk;have e:l.take (k+1)=l.take k++[l[k]]:=by rw[List.take_succ_eq_append_getElem (by omega)]
   rw[e,apF_snoc];have ih:=ih (by omega);generalize apF a0 ar ra b0 br rb (l.take k)=s at ih;unfold apStep;by_cases h:long3 l[k]=⟨0,0,0⟩
   ·rw[if_pos h];rcases ih with⟨h1,h2,h3⟩|⟨h1,x,hx,h2⟩
    ·left;refine⟨h1,h2,fun x hx=>?_⟩;rcases List.mem_append.1 hx with hx|hx
     ·exact h3 x hx
     ·simp at hx;rw[hx];exact h
    ·right;exact⟨h1,x,List.mem_append_left _ hx,h2⟩
   ·rw[if_neg h];right;refine⟨rfl,?_⟩;have hm:l[k]∈l.take k++[l[k]]:=List.mem_append_right _ (List.mem_singleton.2 rfl);simp only;by_cases g2:(if s.2=true∨s.1.2<(gapsF (long3 l[k]) a0 ar ra b0 br rb).1 then(long3 l[k],(gapsF (long3 l[k]) a0 ar ra b0 br rb).1)else s.1).2<(gapsF (long3 l[k]) a0 ar ra b0 br rb).2
    ·rw[if_pos g2];exact⟨l[k],hm,h, .inr rfl⟩
    ·rw[if_neg g2];by_cases g1:s.2=true∨s.1.2<(gapsF (long3 l[k]) a0 ar ra b0 br rb).1
     ·rw[if_pos g1];exact⟨l[k],hm,h, .inl rfl⟩
     ·rw[if_neg g1];rcases ih with⟨h1,_⟩|⟨h1,x,hx,h2⟩
      ·exact absurd (.inl h1) g1
      ·exact⟨x,List.mem_append_left _ hx,h2⟩
 have:=gen l.length (Nat.le_refl _)
 rwa [List.take_length]at this
theorem negI_in {n:P3}{m:Int}(h:in3 m n):in3 m (negI n):=by unfold in3 negI at*;simp only;omega
theorem negI_ne {n:P3}(h:n≠⟨0,0,0⟩):negI n≠⟨0,0,0⟩:=fun e=>h (by
 unfold negI at e
 simp only[P3.mk.injEq]at e
 cases n
 simp only[P3.mk.injEq]
 simp only at e
 omega)
theorem minus_zeroI {n:P3}(h:in3 1048576 n):minus3 ⟨0,0,0⟩ n=negI n:=by
 rw[minus3_eq _ _ (by unfold in3;simp) (in3_le (by decide) h)];unfold negI;simp
theorem reach_at (n p0:P3)(r:List P3):∀p∈p0::r,(reachF n p0 r).1≤dot3 n p∧dot3 n p≤(reachF n p0 r).2:=by
 have gen:∀(l:List P3) (s:Int×Int),(l.foldl (rstep n) s).1≤s.1∧s.2≤(l.foldl (rstep n) s).2∧∀p∈l,(l.foldl (rstep n) s).1≤dot3 n p∧dot3 n p≤(l.foldl (rstep n) s).2:=by
  intro l
  induction l with
  |nil=>intro s;exact⟨Int.le_refl _,Int.le_refl _,by simp⟩
  |cons p l ih=>
   intro s;rw[List.foldl_cons];obtain⟨h1,h2,h3⟩:=ih (rstep n s p);obtain⟨m1,m2,_⟩:=mx_facts s.2 (dot3 n p);obtain⟨k1,k2,_⟩:=mn_facts s.1 (dot3 n p);have e1:(rstep n s p).1=mn s.1 (dot3 n p):=rfl;have e2:(rstep n s p).2=mx s.2 (dot3 n p):=rfl;rw[e1]at h1;rw[e2]at h2;refine⟨by omega,by omega,fun q hq=>?_⟩;rcases List.mem_cons.1 hq with rfl|hq
   ·omega
   ·exact h3 q hq
 obtain⟨h1,h2,h3⟩:=gen r (dot3 n p0,dot3 n p0);intro p hp;rcases List.mem_cons.1 hp with rfl|hp
 ·exact⟨h1,h2⟩
 ·exact h3 p hp
theorem dot3_minus {n P Q:P3}(hn:in3 1048576 n)(hP:in3 16777216 P)(hQ:in3 16777216 Q):dot3 n (minus3 Q P)=dot3 n Q-dot3 n P:=by
 rw[minus3_eq Q P (in3_le (by decide) hQ) (in3_le (by decide) hP)];have hd:in3 33554432 (⟨Q.x-P.x,Q.y-P.y,Q.z-P.z⟩:P3):=by unfold in3 at*;simp only;omega
 rw[dot3_eq n _ 1048576 33554432 hn hd (by decide),dot3_eq n Q 1048576 16777216 hn hQ (by decide),dot3_eq n P 1048576 16777216 hn hP (by decide)];unfold dotI;simp only;grind
theorem sz3_in {n:P3}(hn:in3 1048576 n):sz3 n=(fl3 n,ce3 n):=by
 unfold sz3;rw[(far3_iff _ n (by decide) (by decide)).2 (in3_le (by decide) hn)];rfl
end Go.Proofs.YtckdhahceelckaaGreat.G
namespace Go.Proofs.YtckdhahceelckaaGreat.G
open Go.RowKit Go.Proofs.YtckdhahceelckaaGreatW.PrintWords Go.Proofs.YtckdhahceelckaaGreatW.PrintLast Go.Proofs.YtckdhahceelckaaGreatW.PrintMore
theorem partP_0 (y:P3):partP y 0=⟨0,0,0⟩:=by
 unfold partP;simp
end Go.Proofs.YtckdhahceelckaaGreat.G
