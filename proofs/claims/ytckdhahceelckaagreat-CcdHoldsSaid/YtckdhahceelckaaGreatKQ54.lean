/- What the laws of this claim lean on: contracts of functions and plain lemmas; no condition of its own (part 54: XC1, XC2). -/
import Derived.Test.YtckdhahceelckaaGreatKQ52
import Derived.Test.YtckdhahceelckaaGreatKQ57
set_option maxHeartbeats 16000000
set_option maxRecDepth 100000
set_option linter.unusedVariables false
set_option linter.unusedSimpArgs false
namespace Go.Proofs.YtckdhahceelckaaGreat.G
open Go.RowKit Go.Proofs.YtckdhahceelckaaGreatW.PrintWords Go.Proofs.YtckdhahceelckaaGreatW.PrintLast Go.Proofs.YtckdhahceelckaaGreatW.PrintMore
/-- the least of all is at most that of each -/
theorem leastH_mem (c:Cr)(y:P3)(l:List Cr):∀m,∀d∈l,(castF c y d).2=true→0≤(castF c y d).1.2.2→leastH c y m l≤(castF c y d).1.1:=by
 induction l with
 |nil=>intro m d hd;simp at hd
 |cons e l ih=>
  intro m d hd h1 h2;rcases List.mem_cons.1 hd with rfl|hd
  ·refine Nat.le_trans (leastH_le c y l (hstep c y m d)) ?_;unfold hstep;rw[if_pos ⟨h1,h2⟩];omega
  ·exact ih _ d hd h1 h2
/-- it is that of one, or the first -/
theorem leastH_at (c:Cr)(y:P3)(l:List Cr):∀m,leastH c y m l=m∨∃d∈l,(castF c y d).2=true∧0≤(castF c y d).1.2.2∧leastH c y m l=(castF c y d).1.1:=by
 induction l with
 |nil=>intro m;exact .inl rfl
 |cons e l ih=>
  intro m;rcases ih (hstep c y m e)with h|⟨d,hd,h1,h2,h3⟩
  ·by_cases t:(castF c y e).2=true∧0≤(castF c y e).1.2.2
   ·have h':leastH c y m (e::l)=min m (castF c y e).1.1:=h.trans (by unfold hstep;rw[if_pos t]);by_cases t2:m≤(castF c y e).1.1
    ·left;omega
    ·right;exact⟨e,by simp,t.1,t.2,by omega⟩
   ·left;exact h.trans (by unfold hstep;rw[if_neg t])
  ·right;exact⟨d,List.mem_cons_of_mem _ hd,h1,h2,h3⟩
/-- where a ball comes to, but for two grains -/
theorem near_part (A B k m:Int)(hk:0≤k)(hkm:k≤m)(hm:m≤16):
  -(2*m)≤m*(gr (outC A B k)-gr A)-k*((gr B-gr A)*m).tdiv 16∧m*(gr (outC A B k)-gr A)-k*((gr B-gr A)*m).tdiv 16≤2*m:=by
 unfold gr outC;obtain⟨p,hp⟩:=nm_ (A / 1048576);obtain⟨q,hq⟩:=nm_ (B / 1048576);obtain⟨w,hw⟩:=nm_ ((B-A)*k / 16);obtain⟨e,he⟩:=nm_ ((A+w) / 1048576);obtain⟨y,hy⟩:=nm_ (q-p);rw[hp,hq,hw,he,hy];obtain⟨V,hV⟩:=nm_ ((y*m).tdiv 16);rw[hV];have v1:y*m-15≤16*V∧16*V≤y*m+15:=by
  subst hV;rcases Int.le_total 0 (y*m)with h|h
  ·rw[Int.tdiv_eq_ediv_of_nonneg h];omega
  ·have:=Int.neg_tdiv (y*m) 16;have h2:=Int.tdiv_eq_ediv_of_nonneg (show 0≤ -(y*m) by omega) (b:=16);omega
 obtain⟨s,hs⟩:=nm_ (A-1048576*p);obtain⟨t,ht⟩:=nm_ (B-1048576*q);have hs1:0≤s∧s≤1048575:=by omega
 have ht1:0≤t∧t≤1048575:=by omega
 have e1:(B-A)*k=1048576*(y*k)+t*k-s*k:=by
  have:B-A=1048576*y+t-s:=by omega
  rw[this];grind
 have k1:=Int.mul_nonneg ht1.1 hk;have k2:=Int.mul_le_mul_of_nonneg_right ht1.2 hk;have k3:=Int.mul_nonneg hs1.1 (show 0≤16-k by omega);have k4:=Int.mul_le_mul_of_nonneg_right hs1.2 (show 0≤16-k by omega);have k5:s*(16-k)=16*s-s*k:=by grind
 obtain⟨E,hE⟩:=nm_ (e-p);rw[hE];have h1:16*E≤y*k+15:=by omega
 have h2:y*k-16≤16*E:=by omega
 have m1:=Int.mul_le_mul_of_nonneg_left h1 (show 0≤m by omega);have m2:=Int.mul_le_mul_of_nonneg_left h2 (show 0≤m by omega);have m3:=Int.mul_le_mul_of_nonneg_left v1.1 hk;have m4:=Int.mul_le_mul_of_nonneg_left v1.2 hk;have r1:m*(16*E)=16*(m*E):=by grind
 have r2:k*(16*V)=16*(k*V):=by grind
 have r3:m*(y*k+15)=m*(y*k)+15*m:=by grind
 have r4:m*(y*k-16)=m*(y*k)-16*m:=by grind
 have r5:k*(y*m-15)=m*(y*k)-15*k:=by grind
 have r6:k*(y*m+15)=m*(y*k)+15*k:=by grind
 omega
theorem cauchy (n u:P3):dotI n u*dotI n u≤dotI n n*dotI u u:=by
 have a:=sq_nonneg (n.x*u.y-n.y*u.x);have b:=sq_nonneg (n.y*u.z-n.z*u.y);have c:=sq_nonneg (n.z*u.x-n.x*u.z);have:dotI n n*dotI u u-dotI n u*dotI n u=(n.x*u.y-n.y*u.x)*(n.x*u.y-n.y*u.x)+(n.y*u.z-n.z*u.y)*(n.y*u.z-n.z*u.y)+(n.z*u.x-n.x*u.z)*(n.z*u.x-n.x*u.z):=by
  unfold dotI;grind
 omega
theorem sq_le_of {x B:Int}(h0:0≤B)(h1: -B≤x)(h2:x≤B):x*x≤B*B:=by
 have a:=Int.mul_nonneg (show 0≤B-x by omega) (show 0≤B+x by omega);have:(B-x)*(B+x)=B*B-x*x:=by grind
 omega
theorem le_of_sq {x B:Int}(h0:0≤B)(h:x*x≤B*B):x≤B:=by
 rcases Int.le_total x B with h1|h1
 ·exact h1
 ·rcases Int.le_total x B with h2|h2
  ·exact h2
  ·by_cases e:x=B
   ·omega
   ·have a:=Int.mul_le_mul (show B+1≤x by omega) (show B+1≤x by omega) (by omega) (by omega);have:(B+1)*(B+1)=B*B+2*B+1:=by grind
    omega
/-- a point off by two grains in each part -/
theorem off_two (n u:P3)(m:Int)(hm:0≤m)(hu:in3 (2*m) u):dotI n u≤4*(m*ce3 n):=by
 obtain⟨c1,c2,c3,c4,c5⟩:=ce3_facts n;have hc0:0≤ce3 n:=by omega
 obtain⟨ux,uy,uz⟩:=u;unfold in3 at hu;simp only at hu;have sx:=sq_le_of (show 0≤2*m by omega) hu.1 hu.2.1;have sy:=sq_le_of (show 0≤2*m by omega) hu.2.2.1 hu.2.2.2.1;have sz:=sq_le_of (show 0≤2*m by omega) hu.2.2.2.2.1 hu.2.2.2.2.2;have hmm:2*m*(2*m)=4*(m*m):=by grind
 have hm2:=Int.mul_nonneg hm hm;have hd:dotI ⟨ux,uy,uz⟩ ⟨ux,uy,uz⟩≤16*(m*m):=by unfold dotI;simp only;omega
 have ca:=cauchy n ⟨ux,uy,uz⟩;have hn:=Int.mul_le_mul c1 hd (dotI_nn _) (Int.mul_nonneg hc0 hc0);refine le_of_sq (Int.mul_nonneg (by decide) (Int.mul_nonneg hm hc0)) ?_;have e:4*(m*ce3 n)*(4*(m*ce3 n))=ce3 n*ce3 n*(16*(m*m)):=by grind
 omega
/-- CcdHolds: of one of them -/
theorem holds_plain {a b:P3}{r:Int}{c:Cr}{m:Nat}{x:P3×Int}{k:Nat}(hok:castOk (ballC a r) (wayC a b) c=true)(hr:1≤r+c.r)(hc:(castF (ballC a r) (wayC a b) c).1=(m,x))(hx:0≤x.2)
  (hk:k≤m) (hm:m≤16) (ha:in3 4194304 (grP a)) (hE:in3 16777216 (grP (outP a b k))):
  ∀Q∈c.p,(x.2+r+c.r)*fl3 x.1-4*ce3 x.1≤dot3 x.1 (minus3 Q (grP (outP a b k))):=by
 intro Q hQ;have F:=free_plain hok hr hc hx;obtain⟨_,hb,hs,_⟩:=(castOk_iff ..).1 hok;have hy:=((smay_iff ..).1 hs).2.2;have f0:=F.all (grP a) (by simp[ballC]) Q hQ 0 (by decide) (by decide);have f1:=F.all (grP a) (by simp[ballC]) Q hQ 1024 (by decide) (by decide);have hn:=F.hn;have hQ':in3 16777216 Q:=far_in (by decide) (by decide) (Cr.mayP hb).pf Q hQ;have ha':in3 16777216 (grP a):=in3_le (by decide) ha;have hV:in3 4194304 (partP (wayC a b) m):=partP_bd _ m (by omega) (by omega) _ hy (by decide);show(x.2+r+c.r)*fl3 x.1-4*ce3 x.1≤_;have f0:1024*((x.2+r+c.r)*fl3 x.1)≤1024*dot3 x.1 (minus3 Q (grP a))-0*_:=f0;have f1:1024*((x.2+r+c.r)*fl3 x.1)≤1024*dot3 x.1 (minus3 Q (grP a))-1024*dot3 x.1 (partP (wayC a b) m):=f1;rw[dot3_minus hn hE hQ'];rw[dot3_minus hn ha' hQ']at f0 f1;rw[dot3_eq _ _ 1048576 16777216 hn hQ' (by decide),dot3_eq _ _ 1048576 16777216 hn ha' (by decide)]at f0 f1;rw[dot3_eq _ _ 1048576 4194304 hn hV (by decide)]at f1;rw[dot3_eq _ _ 1048576 16777216 hn hQ' (by decide),dot3_eq _ _ 1048576 16777216 hn hE (by decide)];obtain⟨n,g⟩:=x;simp only at*;obtain⟨G,hG⟩:=nm_ ((g+r+c.r)*fl3 n);rw[hG]at f0 f1⊢;obtain⟨D,hD⟩:=nm_ (dotI n Q);rw[hD]at f0 f1⊢;have hce:=(ce3_facts n);by_cases h0:m=0
 ·subst h0;obtain rfl:k=0:=by omega
  have e:grP (outP a b ((0:Nat):Int))=grP a:=by
   have:outP a b ((0:Nat):Int)=a:=by unfold outP outC;simp
   rw[this]
  rw[e];omega
 ·have px:=near_part a.x b.x k m (by omega) (by omega) (by omega);have py:=near_part a.y b.y k m (by omega) (by omega) (by omega);have pz:=near_part a.z b.z k m (by omega) (by omega) (by omega);obtain⟨A,hA⟩:=nm_ (dotI n (grP a));obtain⟨E,hEE⟩:=nm_ (dotI n (grP (outP a b k)));obtain⟨V,hVV⟩:=nm_ (dotI n (partP (wayC a b) m));have off:=off_two n ⟨(m:Int)*(gr (outC a.x b.x k)-gr a.x)-k*((gr b.x-gr a.x)*m).tdiv 16,(m:Int)*(gr (outC a.y b.y k)-gr a.y)-k*((gr b.y-gr a.y)*m).tdiv 16,(m:Int)*(gr (outC a.z b.z k)-gr a.z)-k*((gr b.z-gr a.z)*m).tdiv 16⟩ m (by omega) (by unfold in3;simp only;omega);have e:dotI n ⟨(m:Int)*(gr (outC a.x b.x k)-gr a.x)-k*((gr b.x-gr a.x)*m).tdiv 16,(m:Int)*(gr (outC a.y b.y k)-gr a.y)-k*((gr b.y-gr a.y)*m).tdiv 16,(m:Int)*(gr (outC a.z b.z k)-gr a.z)-k*((gr b.z-gr a.z)*m).tdiv 16⟩=m*(E-A)-k*V:=by
   rw[←hA,←hEE,←hVV];unfold dotI grP outP partP wayC;simp only;grind
  rw[e]at off;rw[hA]at f0 f1;rw[hVV]at f1;rw[hEE];have u1:=Int.mul_le_mul_of_nonneg_left (show G≤D-A by omega) (show 0≤(m:Int)-k by omega);have u2:=Int.mul_le_mul_of_nonneg_left (show G≤D-A-V by omega) (show 0≤(k:Int) by omega);have u3:((m:Int)-k)*G=m*G-k*G:=by grind
  have u4:((m:Int)-k)*(D-A)+k*(D-A-V)=m*(D-A)-k*V:=by grind
  have u5:(m:Int)*(E-A)-k*V=m*E-m*A-k*V:=by grind
  have u6:(m:Int)*(D-A)=m*D-m*A:=by grind
  have u7:4*((m:Int)*ce3 n)=m*(4*ce3 n):=by grind
  have u8:(m:Int)*(G-4*ce3 n)≤m*(D-E):=by
   have:(m:Int)*(G-4*ce3 n)=m*G-m*(4*ce3 n):=by grind
   have:(m:Int)*(D-E)=m*D-m*E:=by grind
   omega
  exact Int.le_of_mul_le_mul_left u8 (by omega)
theorem ShotOk.endG {a b:P3}{r:Int}(h:ShotOk a b r){k:Int}(h0:0≤k)(h1:k≤16):in3 8388608 (grP (outP a b k)):=by
 have:=h.end_ h0 h1;unfold in3 grP gr at*;simp only;omega
end Go.Proofs.YtckdhahceelckaaGreat.G
