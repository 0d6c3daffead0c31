/- What the laws of this claim lean on: contracts of functions and plain lemmas; no condition of its own (part 63: XC13). -/
import Derived.Test.YtckdhahceelckaaGreatKQ49
import Derived.Test.YtckdhahceelckaaGreatKQ53
import Derived.Test.YtckdhahceelckaaGreatKQ61
import Derived.Test.YtckdhahceelckaaGreatKQ62
set_option maxHeartbeats 16000000
set_option maxRecDepth 100000
set_option linter.unusedVariables false
set_option linter.unusedSimpArgs false
namespace Go.Proofs.YtckdhahceelckaaGreat.G
open Go.RowKit Go.Proofs.YtckdhahceelckaaGreatW.PrintWords Go.Proofs.YtckdhahceelckaaGreatW.PrintLast Go.Proofs.YtckdhahceelckaaGreatW.PrintMore
theorem short_neg (d:Int)(h0:1≤d)(h1:d≤4398046511104):short3 ⟨-d,0,0⟩=⟨-1,0,0⟩:=by
  have h3:halve3 ⟨-1,0,0⟩=⟨-1,0,0⟩:=by rw[halve3,dif_neg (by decide+kernel)]
  have b2:bare3 ⟨-1,0,0⟩=⟨-1,0,0⟩:=p3_of (by decide+kernel);have hb:bare3 ⟨-d,0,0⟩=⟨-1,0,0⟩:=by
    have hg:gcd3 ⟨-d,0,0⟩=d:=by
      unfold gcd3;simp only[Int.gcd_zero_right,Int.natAbs_neg];omega
    unfold bare3;rw[hg];unfold div3;simp only[Int.neg_tdiv,Int.tdiv_self (show d≠0 by omega),Int.zero_tdiv]
  have hf:far3 4398046511104 ⟨-d,0,0⟩=false:=(far3_iff _ _ (by decide) (by decide)).2 (by unfold in3;simp only;omega);unfold short3
  rw[if_neg (by
    rw[hf]
    rintro(h|h)
    · cases h
    · injection h with h _ _;omega),hb,h3,b2]
theorem long_neg1:long3 ⟨-1,0,0⟩=negI E1:=by
  have:(⟨-1,0,0⟩:P3)=negI ⟨1,0,0⟩:=rfl;rw[this,long3_negI,long_1]
theorem E1_in:in3 1048576 E1:=by unfold in3 E1;decide
theorem E1_ne:negI E1≠⟨0,0,0⟩:=by
  intro e;have:(negI E1).x=0:=by rw[e]
  revert this
  decide+kernel
theorem dotE (P:P3)(h:in3 16777216 P):dot3 E1 P=1048576*P.x:=by
  rw[dot3_eq E1 P 1048576 16777216 E1_in h (by decide)];unfold dotI E1;simp only;omega
theorem reach_low {n:P3}{B:Int}:∀(l:List P3) (s:Int×Int),s.1=B→(∀x∈l,B≤dot3 n x)→(l.foldl (rstep n) s).1=B
  |[],s,h,_=>h
  | x :: l, s, h, hx => by
    rw[List.foldl_cons];refine reach_low l _ ?_ fun y hy=>hx y (by simp[hy]);have:=hx x (by simp);unfold rstep mn;simp only;split<;>omega
/-- a wall behind -/
theorem wall_gap {c:Cr}{p0:P3}{pr:List P3}(hc:c.may=true)(hp:c.p=p0::pr)(hx:∀x∈pr,p0.x≤x.x){W:P3}{d:Int}(hW:W=⟨p0.x-d,p0.y,p0.z⟩)(hd:c.r+5≤d)(hd1:1≤d)(hw:in3 16777216 W):0≤(apS c ⟨[W],[],[],5⟩).1.2:=by
  have hm:=Cr.mayP hc;have hpin:∀P∈p0::pr,in3 16777216 P:=fun P hP=>far_in (by decide) (by decide) hm.pf P (by rw[hp];exact hP);have hp0:=hpin p0 (by simp);rw[apS_val hc (mayOne hw (by decide) (by decide))];show 0≤(apartF c.p c.a c.e c.r [W] [] [] 5).2;rw[hp];unfold apartF;have hmi:minus3 W p0=⟨-d,0,0⟩:=by
    rw[minus3_eq _ _ (in3_le (by decide) hw) (in3_le (by decide) hp0),hW];simp only[P3.mk.injEq];omega
  have hdb:d≤33554432:=by
    rw[hW]at hw;unfold in3 at hw hp0;simp only at hw;omega
  have hmem:(⟨-1,0,0⟩:P3)∈rawC (p0::pr) c.a c.e [W] [] []:=by
    unfold rawC;refine List.mem_append_right _ (List.mem_append_right _ ?_)
    rw[if_neg (by
      have:mn ((p0::pr).length:Int) (([W]:List P3).length:Int)≤1:=by unfold mn;simp only[List.length_cons,List.length_nil];split<;>omega
      omega)]
    unfold pointW;rw[List.flatMap_cons];refine List.mem_append_left _ ?_;rw[List.flatMap_cons];refine List.mem_append_left _ ?_;unfold roundW;rw[hmi,short_neg d hd1 (by omega)];simp
  have top:=(apF_top ((p0::pr).headD ⟨0,0,0⟩) (p0::pr).tail c.r (([W]:List P3).headD ⟨0,0,0⟩) ([W]:List P3).tail 5 _ _ hmem (by rw[long_neg1];exact E1_ne)).1;refine Int.le_trans ?_ top;rw[long_neg1];show 0≤(gapsF (negI E1) p0 pr c.r W [] 5).1
  rw [gaps_negI c.r 5 E1_in hpin (fun P hP => by have : P = W := by simpa using hP
                                                 rw[this];exact hw)]
  have r1:(reachF E1 p0 pr).1=1048576*p0.x:=by
    unfold reachF;refine reach_low pr _ (by simp only;exact dotE p0 hp0) fun x h=>?_;rw[dotE x (hpin x (by simp[h]))];have:=hx x h;omega
  have r2:(reachF E1 W []).2=1048576*W.x:=by
    unfold reachF;simp only[List.foldl_nil];exact dotE W hw
  obtain⟨hf,hce⟩:=sizes_x;unfold gapsF;simp only;rw[r1,r2,hf,hce];unfold gapV;rw[hW];simp only;rw[if_pos (by omega)];omega
theorem castL_all {c d:Cr}{y:P3}:∀(n k:Nat) (x:P3×Int),0≤x.2→(∀j:Nat,k<j→j≤k+n→0≤(apS (trailF c y (j:Int)) d).1.2)→(castL c y d n k x).1=k+n∧0≤(castL c y d n k x).2.2
  |0,k,x,h,_=>⟨rfl,h⟩
  | n + 1, k, x, h, hj => by
    have h1:=hj (k+1) (by omega) (by omega);have e:((k+1:Nat):Int)=(k:Int)+1:=by omega
    rw[e]at h1;rw[castL,if_neg (by omega),if_neg (by omega)];obtain⟨a,b⟩:=castL_all n (k+1) (apS (trailF c y ((k:Int)+1)) d).1 h1 (fun j h2 h3=>hj j (by omega) (by omega));exact⟨by rw[a];omega,b⟩
/-- where a wall is behind -/
theorem alone_plain {a b:P3}{r:Int}(h:ShotOk a b r)(hx:a.x≤b.x)(hy:b.y=a.y)(hz:b.z=a.z){q:Int}(hq:0≤q)(hq2:q<1000):holdF a b r [⟨[⟨(grP a).x-r-9-q,(grP a).y,(grP a).z⟩],[],[],5⟩]=(b,16):=by
  refine holdF_16 h.may ?_;rw[leastH_one];have hg:=h.grA;have hr0:=h.r0;have hr1:=h.r1;have hw:in3 16777216 ⟨(grP a).x-r-9-q,(grP a).y,(grP a).z⟩:=by
    unfold in3 at*;simp only;omega
  have hwm:(⟨[⟨(grP a).x-r-9-q,(grP a).y,(grP a).z⟩],[],[],5⟩:Cr).may=true:=mayOne hw (by decide) (by decide);have hyx:0≤(wayC a b).x:=by
    unfold wayC gr;simp only;omega
  have ok:=h.castOk hwm;have hs:=h.smay;have f0:0≤(apS (ballC a r) ⟨[⟨(grP a).x-r-9-q,(grP a).y,(grP a).z⟩],[],[],5⟩).1.2:=
    wall_gap h.ball (p0:=grP a) (pr:=[]) rfl (fun x hx=>by simp at hx) (d:=r+9+q) (by simp only[P3.mk.injEq,and_true];omega) (by show r+5≤_;omega) (by omega) hw
  have fk:∀j:Nat,0<j→j≤0+16→0≤(apS (trailF (ballC a r) (wayC a b) (j:Int)) ⟨[⟨(grP a).x-r-9-q,(grP a).y,(grP a).z⟩],[],[],5⟩).1.2:=by
    intro j _ h16;have e:=trailF_yes hs (k:=(j:Int)) (by omega) (by omega);refine wall_gap (trail_may8 hs (fun x hx=>by rw[ball_pts hx];exact hg) (by omega) (by omega)) (p0:=grP a) (pr:=[plusI (partP (wayC a b) j) (grP a)]) (by rw[e];rfl) (fun x hx=>?_) (d:=r+9+q) (by simp only[P3.mk.injEq,and_true];omega) (by rw[e];show r+5≤_;omega) (by omega) hw;have:x=plusI (partP (wayC a b) j) (grP a):=by simpa using hx
    rw[this];have t:=(tdiv16 (wayC a b).x j (by omega) (by omega)).1 hyx;unfold plusI partP;simp only;omega
  obtain⟨c1,c2⟩:=castL_all 16 0 (apS (ballC a r) ⟨[⟨(grP a).x-r-9-q,(grP a).y,(grP a).z⟩],[],[],5⟩).1 f0 fk;have hc:castF (ballC a r) (wayC a b) ⟨[⟨(grP a).x-r-9-q,(grP a).y,(grP a).z⟩],[],[],5⟩=(castL (ballC a r) (wayC a b) ⟨[⟨(grP a).x-r-9-q,(grP a).y,(grP a).z⟩],[],[],5⟩ 16 0 (apS (ballC a r) ⟨[⟨(grP a).x-r-9-q,(grP a).y,(grP a).z⟩],[],[],5⟩).1,true):=if_pos ok;unfold hstep;rw[hc,if_pos ⟨rfl,c2⟩,c1];rfl
theorem hold_nil (a b:P3)(r:Int):holdF a b r []=(b,16):=by
  have e:holdK a b r []=16:=by unfold holdK;split<;>rfl
  unfold holdF;rw[e];exact congrArg (·,16) (outP_16 a b)
end Go.Proofs.YtckdhahceelckaaGreat.G
