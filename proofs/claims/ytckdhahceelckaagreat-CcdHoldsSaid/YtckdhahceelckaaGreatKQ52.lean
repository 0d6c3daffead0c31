/- What the laws of this claim lean on: contracts of functions and plain lemmas; no condition of its own (part 52: XG2, XG3, XV8). -/
import Derived.Test.YtckdhahceelckaaGreatKQ24
import Derived.Test.YtckdhahceelckaaGreatKQ36
import Derived.Test.YtckdhahceelckaaGreatKQ48
import Derived.Test.YtckdhahceelckaaGreatKQ49
import Derived.Test.YtckdhahceelckaaGreatKQ50
import Derived.Test.YtckdhahceelckaaGreatKQ51
set_option maxHeartbeats 16000000
set_option maxRecDepth 100000
set_option linter.unusedVariables false
set_option linter.unusedSimpArgs false
namespace Go.Proofs.YtckdhahceelckaaGreat.G
open Go.RowKit
theorem dotI_nn (u:P3):0≤dotI u u:=by
 unfold dotI;have h1:=sq_nonneg u.x;have h2:=sq_nonneg u.y;have h3:=sq_nonneg u.z;omega
theorem ce3_facts (w:P3):dotI w w≤ce3 w*ce3 w∧fl3 w*fl3 w≤dotI w w∧ce3 w≤fl3 w+1∧0≤fl3 w∧fl3 w≤ce3 w:=by
 have hn:=dotI_nn w;obtain⟨h1,h2⟩:=isq_spec (dotI w w).toNat;have e:((dotI w w).toNat:Int)=dotI w w:=Int.toNat_of_nonneg hn;have hf:fl3 w=(isq (dotI w w).toNat:Int):=rfl;have g1:fl3 w*fl3 w≤dotI w w:=by rw[hf,←e];exact_mod_cast h1
 have g2:dotI w w<(fl3 w+1)*(fl3 w+1):=by rw[hf,←e];exact_mod_cast h2
 have g3:0≤fl3 w:=by rw[hf];omega
 unfold ce3;split
 ·exact⟨by omega,g1,by omega,g3,by omega⟩
 ·exact⟨by omega,g1,by omega,g3,by omega⟩
end Go.Proofs.YtckdhahceelckaaGreat.G
namespace Go.Proofs.YtckdhahceelckaaGreat.G
open Go.RowKit Go.Proofs.YtckdhahceelckaaGreatW.PrintWords Go.Proofs.YtckdhahceelckaaGreatW.PrintLast Go.Proofs.YtckdhahceelckaaGreatW.PrintMore
/-- whose gap is told: none's, or a direction's that is told -/
theorem told_inv {c d:Cr}(hc:c.may=true)(hd:d.may=true):(apS c d).1.2= -c.r-d.r∨
  ∃p0 pr q0 qr x,c.p=p0::pr∧d.p=q0::qr∧(∀p∈p0::pr,in3 16777216 p)∧(∀p∈q0::qr,in3 16777216 p)∧long3 x≠⟨0,0,0⟩∧
   ((apS c d).1=(long3 x,(gapsF (long3 x) p0 pr c.r q0 qr d.r).1)∨(apS c d).1=(negI (long3 x),(gapsF (negI (long3 x)) p0 pr c.r q0 qr d.r).1)):=by
 rw[apS_val hc hd];obtain⟨p,a,e,r⟩:=c;obtain⟨q,b,f,s⟩:=d;obtain⟨p0,pr,rfl,hp⟩:=(Cr.mayP hc).pts;obtain⟨q0,qr,rfl,hq⟩:=(Cr.mayP hd).pts;simp only;unfold apartF;simp only[List.headD_cons,List.tail_cons];rcases apF_inv p0 pr r q0 qr s (rawC (p0::pr) a e (q0::qr) b f)with⟨_,h,hno⟩|⟨_,x,_,h0,h|h⟩
 ·left;rw[h]
 ·right;exact⟨p0,pr,q0,qr,x,rfl,rfl,hp,hq,h0, .inl h⟩
 ·right;refine⟨p0,pr,q0,qr,x,rfl,rfl,hp,hq,h0, .inr ?_⟩;have hn:in3 1048576 (long3 x):=long3_in x;rw[h,minus_zeroI hn,gaps_negI r s hn hp hq]
/-- what a told gap that is not below nought proves -/
structure Told (c d:Cr) (R:P3×Int):Prop where
 hn:in3 1048576 R.1
 h0:R.1≠⟨0,0,0⟩
 g0:0≤R.2+c.r+d.r
 all:∀P∈c.p,∀Q∈d.p,(R.2+c.r+d.r)*fl3 R.1≤dot3 R.1 (minus3 Q P)
theorem told_far {c d:Cr}(hc:c.may=true)(hd:d.may=true)(hr:1≤c.r+d.r)(hx:0≤(apS c d).1.2):Told c d (apS c d).1:=by
 have mr:=(Cr.mayP hc);have ms:=(Cr.mayP hd);rcases told_inv hc hd with h|⟨p0,pr,q0,qr,x,ep,eq,hp,hq,h0,h⟩
 ·omega
 ·have gen:∀n:P3,in3 1048576 n→n≠⟨0,0,0⟩→(apS c d).1=(n,(gapsF n p0 pr c.r q0 qr d.r).1)→Told c d (apS c d).1:=by
   intro n hn hn0 e;rw[e]at hx⊢;have h1:=reach_bd hn hp;have h2:=reach_bd hn hq;have hfl:=fl3_pos n hn0;have hce:=ce3_bd n;have m0:=mr.r0;have s0:=ms.r0;have hg:∃t,(reachF n q0 qr).1-(reachF n p0 pr).2=t∧0≤t∧(gapsF n p0 pr c.r q0 qr d.r).1+c.r+d.r=t / ce3 n:=by
    refine⟨_,rfl,?_⟩;unfold gapsF gapV at hx⊢;simp only at hx⊢;obtain⟨t,ht⟩:=nm_ ((reachF n q0 qr).1-(reachF n p0 pr).2);rw[ht]at hx⊢;by_cases h0:0≤t
    ·rw[if_pos h0];exact⟨h0,by omega⟩
    ·rw[if_neg h0]at hx;have:=Int.ediv_nonneg (show 0≤ -t+fl3 n-1 by omega) (show 0≤fl3 n by omega);omega
   obtain⟨t,ht,ht0,hgt⟩:=hg;have q1:0≤t / ce3 n:=Int.ediv_nonneg ht0 (by omega);have q3:t / ce3 n*ce3 n≤t:=Int.ediv_mul_le t (by omega);have q4:=Int.mul_le_mul_of_nonneg_left hce.1 q1;refine⟨hn,hn0,by simp only;omega,fun P hP Q hQ=>?_⟩;rw[ep]at hP;rw[eq]at hQ;simp only;rw[hgt,dot3_minus hn (hp P hP) (hq Q hQ)];have:=(reach_at n p0 pr P hP).2;have:=(reach_at n q0 qr Q hQ).1;omega
  have hn:in3 1048576 (long3 x):=long3_in x;rcases h with h|h
  ·exact gen _ hn h0 h
  ·exact gen _ (negI_in hn) (negI_ne h0) h
/-- what SweepFree asks of a cast -/
structure FreeP (a b:Cr) (y:P3) (k:Nat) (x:P3×Int):Prop where
 hn:in3 1048576 x.1
 h0:x.1≠⟨0,0,0⟩
 g0:0≤x.2+a.r+b.r
 g1:(x.2+a.r+b.r)*fl3 x.1≤1125899906842624
 all:∀P∈a.p,∀Q∈b.p,∀m:Int,0≤m→m≤1024→1024*((x.2+a.r+b.r)*fl3 x.1)≤1024*dot3 x.1 (minus3 Q P)-m*dot3 x.1 (partP y k)
theorem dot_way {n y P Q:P3}(hn:in3 1048576 n)(hy:in3 4194304 y)(hP:in3 16777216 P)(hPy:in3 16777216 (plusI y P))(hQ:in3 16777216 Q):dot3 n (minus3 Q (plusI y P))=dot3 n (minus3 Q P)-dot3 n y:=by
 rw[dot3_minus hn hPy hQ,dot3_minus hn hP hQ,dot3_eq n (plusI y P) 1048576 16777216 hn hPy (by decide),dot3_eq n P 1048576 16777216 hn hP (by decide),dot3_eq n y 1048576 4194304 hn hy (by decide)];unfold dotI plusI;simp only;grind
theorem free_plain {a b:Cr}{y:P3}{k:Nat}{x:P3×Int}(hok:castOk a y b=true)(hr:1≤a.r+b.r)(hc:(castF a y b).1=(k,x))(hx:0≤x.2):FreeP a b y k x:=by
 obtain⟨ha,hb,hs,ht⟩:=(castOk_iff ..).1 hok;unfold castF at hc;rw[if_pos hok]at hc;have hk:=castL_le a y b 16 0 (apS a b).1;have hcs:=castL_spec a y b 16 0 (apS a b).1;simp only at hc;rw[hc]at hk hcs;have hm:=Cr.mayP ha;have hpa:=far_in (by decide) (by decide) hm.pf;have hpb:=far_in (by decide) (by decide) (Cr.mayP hb).pf;have hy:=((smay_iff ..).1 hs).2.2;have hby:in3 4194304 (partP y k):=partP_bd y k (by omega) (by simp only at hk;omega) _ hy (by decide);have key:∀(T:Told a b x∨(Told (trailF a y k) b x)),(Told (trailF a y k) b x∨partP y k=⟨0,0,0⟩)→FreeP a b y k x:=by
  intro T T2;have hn:in3 1048576 x.1:=T.elim (·.hn) (·.hn);have h0:x.1≠⟨0,0,0⟩:=T.elim (·.h0) (·.h0);have hrt:(trailF a y k).r=a.r:=by rw[trailF_yes hs (by omega) (by simp only at hk;omega)]
  have hpt:(trailF a y k).p=a.p++a.p.map (plusI (partP y k)):=by rw[trailF_yes hs (by omega) (by simp only at hk;omega)]
  have g0:0≤x.2+a.r+b.r:=by
   rcases T with T|T
   ·exact T.g0
   ·have:=T.g0;rwa [hrt]at this
  have first:∀P∈a.p,∀Q∈b.p,(x.2+a.r+b.r)*fl3 x.1≤dot3 x.1 (minus3 Q P):=by
   intro P hP Q hQ;rcases T with T|T
   ·exact T.all P hP Q hQ
   ·have:=T.all P (by rw[hpt];exact List.mem_append_left _ hP) Q hQ
    rwa [hrt]at this
  have second:∀P∈a.p,∀Q∈b.p,(x.2+a.r+b.r)*fl3 x.1≤dot3 x.1 (minus3 Q P)-dot3 x.1 (partP y k):=by
   intro P hP Q hQ;rcases T2 with T|e
   ·have hin:=trail_pts (k:=(k:Int)) hs (by omega) (by simp only at hk;omega) (trail_last hs ht (by omega) (by simp only at hk;omega)) P hP;have:=T.all (plusI (partP y k) P) (by rw[hpt];exact List.mem_append_right _ (List.mem_map_of_mem hP)) Q hQ
    rwa [hrt,dot_way hn hby (hpa P hP) hin (hpb Q hQ)]at this
   ·rw[e];have:dot3 x.1 ⟨0,0,0⟩=0:=by unfold dot3 wrap64;simp
    rw[this];have:=first P hP Q hQ
    omega
  obtain⟨P0,pr,hP0⟩:=List.exists_cons_of_ne_nil hm.p0;obtain⟨Q0,qr,hQ0⟩:=List.exists_cons_of_ne_nil (Cr.mayP hb).p0;have hb0:in3 16777216 Q0:=hpb Q0 (by rw[hQ0];simp);have ha0:in3 16777216 P0:=hpa P0 (by rw[hP0];simp);refine⟨hn,h0,g0,?_,fun P hP Q hQ m h0 h1=>?_⟩
  ·have h1:=first P0 (by rw[hP0];simp) Q0 (by rw[hQ0];simp)
   rw[dot3_minus hn ha0 hb0,dot3_eq x.1 Q0 1048576 16777216 hn hb0 (by decide),dot3_eq x.1 P0 1048576 16777216 hn ha0 (by decide)]at h1;have:=dotI_bd x.1 Q0 1048576 16777216 hn hb0;have:=dotI_bd x.1 P0 1048576 16777216 hn ha0;omega
  ·have f:=first P hP Q hQ
   have s:=second P hP Q hQ;generalize(x.2+a.r+b.r)*fl3 x.1=G at f s⊢;generalize dot3 x.1 (minus3 Q P)=D at f s⊢;generalize dot3 x.1 (partP y k)=E at s⊢;have e1:=Int.mul_nonneg (show 0≤1024-m by omega) (show 0≤D-G by omega);have e2:=Int.mul_nonneg h0 (show 0≤D-E-G by omega);have:1024*D-m*E-1024*G=(1024-m)*(D-G)+m*(D-E-G):=by grind
   omega
 rcases hcs with h|⟨_,h4,h5⟩
 ·simp only[Prod.mk.injEq]at h;obtain⟨rfl,rfl⟩:=h;exact key (.inl (told_far ha hb hr hx)) (.inr (partP_0 y))
 ·simp only at h4 h5;have htk:=trail_last hs ht (k:=k) (by omega) (by simp only at hk;omega);have hrt:(trailF a y k).r=a.r:=by rw[trailF_yes hs (by omega) (by simp only at hk;omega)]
  have T:Told (trailF a y k) b x:=by
   rw[h5];rw[h5]at hx;exact told_far htk hb (by rw[hrt];exact hr) hx
  exact key (.inr T) (.inl T)
/-- where a cast tells a gap below nought it is the first one -/
theorem cast_neg {a b:Cr}{y:P3}{k:Nat}{x:P3×Int}(hok:castOk a y b=true)(hc:(castF a y b).1=(k,x))(hx:x.2<0):k=0∧x=(apS a b).1:=by
 unfold castF at hc;rw[if_pos hok]at hc;have hcs:=castL_spec a y b 16 0 (apS a b).1;simp only at hc;rw[hc]at hcs;rcases hcs with h|⟨h3,_,_⟩
 ·simpa using h
 ·simp only at h3;omega
theorem castF_ok {a b:Cr}{y:P3}(h:castOk a y b=true):(castF a y b).2=true:=by unfold castF;rw[if_pos h]
end Go.Proofs.YtckdhahceelckaaGreat.G
