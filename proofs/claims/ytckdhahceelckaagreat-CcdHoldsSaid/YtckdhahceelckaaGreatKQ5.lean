/- What the laws of this claim lean on: contracts of functions and plain lemmas; no condition of its own (part 5: XN5, XN7, XN8, XW4, XW6). -/
import Derived.Test.YtckdhahceelckaaGreatKQ4
set_option maxHeartbeats 16000000
set_option maxRecDepth 100000
set_option linter.unusedVariables false
set_option linter.unusedSimpArgs false
namespace Go.Proofs.YtckdhahceelckaaGreat.G
open Go.RowKit Go.Proofs.YtckdhahceelckaaGreatW.PrintWords Go.Proofs.YtckdhahceelckaaGreatW.PrintLast Go.Proofs.YtckdhahceelckaaGreatW.PrintMore
attribute [local go_sem] max2_mx min2_mn max_two min_two max_three min_three max_four min_four
attribute [local go_sem high] eqA23
/-- the root of a number, down -/
def isq:Nat→Nat
 |0=>0
 |n+1=>if(isq n+1)*(isq n+1)≤n+1 then isq n+1 else isq n
theorem isq_spec:∀n,isq n*isq n≤n∧n<(isq n+1)*(isq n+1)
 |0=>by simp[isq]
 |n+1=>by
  obtain⟨h1,h2⟩:=isq_spec n;unfold isq;split
  ·rename_i h;refine⟨h,?_⟩;have e:(isq n+1+1)*(isq n+1+1)=(isq n+1)*(isq n+1)+2*(isq n+1)+1:=by grind
   omega
  ·rename_i h;exact⟨by omega,by omega⟩
theorem isq_unique (n r:Nat)(h1:r*r≤n)(h2:n<(r+1)*(r+1)):r=isq n:=by
 obtain⟨a,b⟩:=isq_spec n;rcases Nat.lt_trichotomy r (isq n)with h|h|h
 ·have:=Nat.mul_le_mul (show r+1≤isq n by omega) (show r+1≤isq n by omega);omega
 ·exact h
 ·have:=Nat.mul_le_mul (show isq n+1≤r by omega) (show isq n+1≤r by omega);omega
def dotI (p q:P3):Int:=p.x*q.x+p.y*q.y+p.z*q.z
theorem mul_bd (a b:Int)(A B:Nat)(ha:a.natAbs≤A)(hb:b.natAbs≤B):(a*b).natAbs≤A*B:=by rw[Int.natAbs_mul];exact Nat.mul_le_mul ha hb
theorem dot3_eq (p q:P3)(A B:Nat)(hp:in3 A p)(hq:in3 B q)(h:A*B≤1152921504606846976):dot3 p q=dotI p q:=by
 obtain⟨a1,a2,a3,a4,a5,a6⟩:=hp;obtain⟨b1,b2,b3,b4,b5,b6⟩:=hq;have m1:=mul_bd p.x q.x A B (by omega) (by omega);have m2:=mul_bd p.y q.y A B (by omega) (by omega);have m3:=mul_bd p.z q.z A B (by omega) (by omega);unfold dot3 dotI;generalize p.x*q.x=u at*;generalize p.y*q.y=v at*;generalize p.z*q.z=t at*;rw[w64_id u (by omega) (by omega),w64_id v (by omega) (by omega),w64_id t (by omega) (by omega),w64_id (u+v) (by omega) (by omega),w64_id _ (by omega) (by omega)]
theorem dotI_bd (p q:P3)(A B:Nat)(hp:in3 A p)(hq:in3 B q):(dotI p q).natAbs≤3*(A*B):=by
 obtain⟨a1,a2,a3,a4,a5,a6⟩:=hp;obtain⟨b1,b2,b3,b4,b5,b6⟩:=hq;have m1:=mul_bd p.x q.x A B (by omega) (by omega);have m2:=mul_bd p.y q.y A B (by omega) (by omega);have m3:=mul_bd p.z q.z A B (by omega) (by omega);unfold dotI;omega
theorem sq_nonneg (a:Int):0≤a*a:=by
 rcases Int.le_total 0 a with h|h
 ·exact Int.mul_nonneg h h
 ·have:=Int.mul_nonneg (show 0≤ -a by omega) (show 0≤ -a by omega);rwa [Int.neg_mul_neg]at this
theorem dotI_self (p:P3):0≤dotI p p:=by have:=sq_nonneg p.x;have:=sq_nonneg p.y;have:=sq_nonneg p.z;unfold dotI;omega
/-- the size of a direction, down; up -/
def fl3 (p:P3):Int:=isq (dotI p p).toNat
def ce3 (p:P3):Int:=if fl3 p*fl3 p<dotI p p then fl3 p+1 else fl3 p
def sz3 (p:P3):Int×Int:=if far3 16777216 p then(0,0)else(fl3 p,ce3 p)
theorem ofInt_i64 (a:Nat)(ha:a<9223372036854775808):(BitVec.ofInt 64 (a:Int)).toNat=a:=by
 rw[BitVec.ofInt_natCast,BitVec.toNat_ofNat];exact Nat.mod_eq_of_lt (by omega)
theorem i64_or_nat (a b:Nat)(ha:a<9223372036854775808)(hb:b<9223372036854775808):bits .or .i64 (a:Int) (b:Int)=((a |||b:Nat):Int):=by
 have hx:a |||b<2^63:=Nat.or_lt_two_pow (by omega) (by omega)
 show IntKind.i64.wrap ((BitVec.ofInt 64 (a:Int) |||BitVec.ofInt 64 (b:Int)).toNat:Int)=_;rw[BitVec.toNat_or,ofInt_i64 a ha,ofInt_i64 b hb,IntKind.wrap_i64];omega
theorem ret_two {k k':IntKind}{a b c d:Int}(h:a=b)(h':c=d):Ending.returned (.tuple #[.int k a, .int k' c])=Ending.returned (.tuple #[.int k b, .int k' d]):=by rw[h,h']
def SzInv (s r b:Nat):Prop:=r*r≤s∧((b=0∧s<(r+1)*(r+1))∨∃k q,k≤25∧b=2^k∧r=2^(k+1)*q∧s<(r+2*b)*(r+2*b))
theorem SzInv.start (s:Nat)(h:s≤844424930131968):SzInv s 0 33554432:=⟨by omega, .inr ⟨25,0,by omega,by decide,by simp,by omega⟩⟩
theorem SzInv.done {s r:Nat}(h:SzInv s r 0):r=isq s:=by
 obtain⟨h1,h2⟩:=h;rcases h2 with⟨_,h2⟩|⟨k,q,_,hb,_⟩
 ·exact isq_unique s r h1 h2
 ·exact absurd hb (by have:=Nat.two_pow_pos k;omega)
theorem SzInv.step {s r b:Nat}(h:SzInv s r b)(hb:b≠0):r |||b=r+b∧b≤33554432∧((r+b)*(r+b)≤s→SzInv s (r+b) (b / 2))∧(s<(r+b)*(r+b)→SzInv s r (b / 2)):=by
 obtain⟨h1,h2⟩:=h;rcases h2 with⟨h2,_⟩|⟨k,q,hk,rfl,rfl,h3⟩
 ·exact absurd h2 hb
 ·have hp:2^k≤2^25:=Nat.pow_le_pow_right (by omega) hk;have e2:2^(k+1)=2*2^k:=by rw[Nat.pow_succ];omega
  refine⟨?_,by simpa using hp,?_,?_⟩
  ·exact(Nat.two_pow_add_eq_or_of_lt (show 2^k<2^(k+1) by omega) q).symm
  ·intro h4;refine⟨h4,?_⟩
   cases k with
   |zero=>exact .inl ⟨by decide,by simpa[Nat.add_assoc]using h3⟩
   |succ k=>
    have e3:2^(k+1) / 2=2^k:=by rw[Nat.pow_succ];omega
    have e4:2^(k+1)=2*2^k:=by rw[Nat.pow_succ];omega
    refine .inr ⟨k,2*q+1,by omega,e3,?_,?_⟩
    ·rw[e2,Nat.mul_add,Nat.mul_one,Nat.mul_assoc,Nat.mul_left_comm]
    ·rw[e3];have:2^(k+1+1)*q+2^(k+1)+2*2^k=2^(k+1+1)*q+2*2^(k+1):=by omega
     rw[this];exact h3
  ·intro h4;refine⟨h1,?_⟩
   cases k with
   |zero=>exact .inl ⟨by decide,by simpa using h4⟩
   |succ k=>
    have e3:2^(k+1) / 2=2^k:=by rw[Nat.pow_succ];omega
    have e4:2^(k+1)=2*2^k:=by rw[Nat.pow_succ];omega
    refine .inr ⟨k,2*q,by omega,e3,?_,?_⟩
    ·rw[e2,Nat.mul_assoc,Nat.mul_left_comm]
    ·rw[e3,←e4];exact h4
theorem SzInv.bd {s r b:Nat}(h:SzInv s r b)(hs:s≤844424930131968):r≤33554432:=by
 rcases Nat.lt_or_ge 33554432 r with h1|h1
 ·have:=Nat.mul_le_mul (show 33554432≤r by omega) (show 33554432≤r by omega);have:=h.1;omega
 ·exact h1
theorem sizes_calls (x y z:Int)(w:World):
  Calls Tryz.prog 110 #[.agg #[.int .i64 x, .int .i64 y, .int .i64 z]] w fun e w'=>e= .returned (.tuple #[.int .i64 (sz3 ⟨x,y,z⟩).1, .int .i64 (sz3 ⟨x,y,z⟩).2])∧Below w.heap.size w w':=by
 have B1:=C3.new w (.int .i64 x) (.int .i64 y) (.int .i64 z) 23
 cases hf:far3 16777216 ⟨x,y,z⟩with
 |true=>
  have hs:sz3 ⟨x,y,z⟩=(0,0):=by unfold sz3;rw[hf];rfl
  rw[hs];clear hs;go_enter Tryz.func110,Tryz.ntmps110;go_wp2
  go_region_held3 (fun w'=>w'.cell? ⟨w.heap.size,0,none⟩=some (.int .i64 x)∧w'.cell? ⟨w.heap.size,1,none⟩=some (.int .i64 y)∧w'.cell? ⟨w.heap.size,2,none⟩=some (.int .i64 z))
   (first|(go_keep;done)|exact⟨c10,c11,c12⟩)
   (first
    |(go_at_call 105;refine(beyondF_calls _ _).mono ?_;rintro e w1 ⟨rfl,rfl⟩)
    |(go_at_call 144;refine(beyond1_calls _ _ _ 16777216 _ _ (by simp) (by decide) (by decide)).mono ?_;rintro e w1 ⟨rfl,hb1⟩;rw[hf];obtain⟨c10,c11,c12,f10,f11,f12⟩:=(B1.drew.alloc _).below hb1))
  go_wp2
  go_ret2
  exact⟨rfl,((((Below.refl _ w).alloc (Nat.le_refl _) _).drew).alloc (by simp) _).trans (hb1.mono (by simp;omega))⟩
 |false=>
  have hin:=(far3_iff _ _ (by decide) (by decide)).1 hf;have hd:=dot3_eq ⟨x,y,z⟩ ⟨x,y,z⟩ 16777216 16777216 hin hin (by decide);have hd1:=dotI_bd ⟨x,y,z⟩ ⟨x,y,z⟩ 16777216 16777216 hin hin;have hd2:=dotI_self ⟨x,y,z⟩;have hs:sz3 ⟨x,y,z⟩=(fl3 ⟨x,y,z⟩,ce3 ⟨x,y,z⟩):=by unfold sz3;rw[hf];rfl
  rw[hs];clear hs;unfold ce3 fl3;obtain⟨s,hs⟩:∃s:Nat,dotI ⟨x,y,z⟩ ⟨x,y,z⟩=s:=⟨_,(Int.toNat_of_nonneg hd2).symm⟩;rw[hs]at hd hd1 hd2⊢;rw[Int.toNat_natCast];have hsb:s≤844424930131968:=by omega
  have HD:=Lh hd;clear hd hd1 hd2 hs hin;obtain⟨U,hU⟩:∃U:Int,(if(isq s:Int)*(isq s:Int)<(s:Int)then(isq s:Int)+1 else(isq s:Int))=U:=⟨_,rfl⟩;rw[hU];have HU:=Lh hU;clear hU;go_enter Tryz.func110,Tryz.ntmps110;go_wp2
  go_region_held3 (fun w'=>w'.cell? ⟨w.heap.size,0,none⟩=some (.int .i64 x)∧w'.cell? ⟨w.heap.size,1,none⟩=some (.int .i64 y)∧w'.cell? ⟨w.heap.size,2,none⟩=some (.int .i64 z))
   (first|(go_keep;done)|exact⟨c10,c11,c12⟩)
   (first
    |(go_at_call 105;refine(beyondF_calls _ _).mono ?_;rintro e w1 ⟨rfl,rfl⟩)
    |(go_at_call 144;refine(beyond1_calls _ _ _ 16777216 _ _ (by simp) (by decide) (by decide)).mono ?_;rintro e w1 ⟨rfl,hb1⟩;rw[hf];obtain⟨c10,c11,c12,f10,f11,f12⟩:=(B1.drew.alloc _).below hb1))
  go_wp2_with(go_at_call 146;refine(dot_calls _ _ _ _ _ _ _).mono ?_;rintro e w2 ⟨rfl,hb2⟩;rw[HD.out]);have hB:Below w.heap.size w w2:=((((Below.refl _ w).alloc (Nat.le_refl _) _).drew).alloc (by simp) _).trans ((hb1.mono (by simp;omega)).trans (hb2.mono (by have:=hb1.size;simp at this;omega)));clear hb1 hb2 c10 c11 c12 f10 f11 f12 B1 HD;go_loopw [5,6,7] (fun v5 v6 v7 wr=>∃(r:Nat) (b:Nat),v5= .int .i64 r∧v6= .int .i64 b∧Hid (SzInv s r b)∧Below w.heap.size w wr) (fun _ b _ _=>(intOf b).toNat)
  case atStart=>exact⟨0,33554432,rfl,rfl,SzInv.start s hsb,hB⟩
  case round=>
   obtain⟨r,b,rfl,rfl,hi,hbr⟩:=hrel;have hrb:=hi.out.bd hsb;by_cases hb0:b=0
   ·subst hb0;have hr:=Lh hi.out.done;have hrr:r*r≤s:=hi.out.1;have hrr':(r:Int)*r≤s:=by exact_mod_cast hrr
    have hp:(r:Int)*r=(r*r:Nat):=by simp
    obtain⟨m,hm⟩:∃m:Nat,r*r=m:=⟨_,rfl⟩;rw[hm]at hp hrr;clear hrr';have HM:=Lh hm;clear hm;have hr':isq s=r:=hr.out.symm;rcases Nat.lt_or_ge m s with hlt|hge
    ·go_wp2
     go_ret2
     refine⟨ret_two (by rw[hr']) ?_,hbr⟩;rw[←HU.out,hr',hp,if_pos (by omega)]
    ·go_wp2
     go_ret2
     refine⟨ret_two (by rw[hr']) ?_,hbr⟩;rw[←HU.out,hr',hp,if_neg (by omega)]
   ·obtain⟨h1,h2,h3,h4⟩:=hi.out.step hb0;have hor:bits .or .i64 (r:Int) (b:Int)=((r+b:Nat):Int):=by rw[i64_or_nat _ _ (by omega) (by omega),h1]
    obtain⟨t,ht⟩:∃t:Nat,r+b=t:=⟨_,rfl⟩;rw[ht]at hor h3 h4;have htb:t≤67108864:=by omega
    have htt:t*t≤67108864*67108864:=Nat.mul_le_mul htb htb;obtain⟨m,hm⟩:∃m:Nat,t*t=m:=⟨_,rfl⟩;have hp:(t:Int)*t=(m:Int):=by rw[←hm];simp
    rw[hm]at h3 h4 htt;have H3:=Lh h3;have H4:=Lh h4;clear h1 h3 h4 ht hm;rcases Nat.lt_or_ge s m with hlt|hge
    ·go_wp2
     go_roundw
     case rel=>exact⟨r,b / 2,rfl,by go_num,H4.out hlt,hbr⟩
     case measure=>simp[intOf];omega
    ·go_wp2
     go_roundw
     case rel=>exact⟨t,b / 2,rfl,by go_num,H3.out hge,hbr⟩
     case measure=>simp[intOf];omega
/-- a gap of s along a direction of those sizes -/
def gapV (s up down ra rb:Int):Int:=if 0≤s then s / up-ra-rb else-((-s+down-1) / down)-ra-rb
theorem gap1_calls (s up down ra rb:Int)(bu ba bb bd:Nat)(w:World)(h1:w.cell? ⟨bu,0,none⟩=some (.int .i64 up))(h2:w.cell? ⟨ba,3,none⟩=some (.int .i64 ra))(h3:w.cell? ⟨bb,3,none⟩=some (.int .i64 rb))(h4:w.cell? ⟨bd,0,none⟩=some (.int .i64 down))
  (hs1: -1125899906842624≤s) (hs2:s≤1125899906842624) (hu1:1≤up) (hu2:up≤1073741824) (hd1:1≤down) (hd2:down≤1073741824) (ha1:0≤ra) (ha2:ra≤131072) (hb1:0≤rb) (hb2:rb≤131072):
  Calls Tryz.prog 111 #[.int .i64 s, .pointer (some ⟨bu,0,none⟩), .pointer (some ⟨ba,0,none⟩), .pointer (some ⟨bb,0,none⟩), .pointer (some ⟨bd,0,none⟩)] w fun e w'=>e= .returned (.int .i64 (gapV s up down ra rb))∧Below w.heap.size w w':=by
 have e1:(up == 0)=false:=by simp;omega
 have e2:(down == 0)=false:=by simp;omega
 by_cases hs:0≤s
 ·have hv:gapV s up down ra rb=s / up-ra-rb:=if_pos hs;rw[hv];clear hv;have q1:0≤s / up:=Int.ediv_nonneg hs (by omega);have q2:s / up≤s:=Int.ediv_le_self _ hs;have t1:IntKind.i64.wrap (s.tdiv up)=s / up:=by rw[Int.tdiv_eq_ediv_of_nonneg hs];exact iw_id _ (by omega) (by omega)
  have t2:IntKind.i64.wrap (s / up-ra)=s / up-ra:=iw_id _ (by omega) (by omega);have t3:IntKind.i64.wrap (s / up-ra-rb)=s / up-ra-rb:=iw_id _ (by omega) (by omega);go_enter Tryz.func111,Tryz.ntmps111;go_wp2
  go_quiet (fail)
  go_wp2
  go_ret
  exact⟨rfl,pw_below_drewN (Below.refl _ w) _⟩
 ·have hv:gapV s up down ra rb= -((-s+down-1) / down)-ra-rb:=if_neg hs;rw[hv];clear hv;have q0:0≤ -s+down-1:=by omega
  have q1:0≤(-s+down-1) / down:=Int.ediv_nonneg q0 (by omega);have q2:(-s+down-1) / down≤ -s+down-1:=Int.ediv_le_self _ q0;have t0:IntKind.i64.wrap (-s)= -s:=iw_id _ (by omega) (by omega);have t0':IntKind.i64.wrap (-s+down)= -s+down:=iw_id _ (by omega) (by omega);have t0'':IntKind.i64.wrap (-s+down-1)= -s+down-1:=iw_id _ (by omega) (by omega);have t1:IntKind.i64.wrap ((-s+down-1).tdiv down)=(-s+down-1) / down:=by rw[Int.tdiv_eq_ediv_of_nonneg q0];exact iw_id _ (by omega) (by omega)
  have t1':IntKind.i64.wrap (-((-s+down-1) / down))= -((-s+down-1) / down):=iw_id _ (by omega) (by omega);have t2:IntKind.i64.wrap (-((-s+down-1) / down)-ra)= -((-s+down-1) / down)-ra:=iw_id _ (by omega) (by omega);have t3:IntKind.i64.wrap (-((-s+down-1) / down)-ra-rb)= -((-s+down-1) / down)-ra-rb:=iw_id _ (by omega) (by omega);have hs':decide (0≤s)=false:=by simpa using hs
  have hs3:s<0:=by omega
  clear hs;go_enter Tryz.func111,Tryz.ntmps111;go_wp2
  go_quiet (fail)
  go_wp2
  go_ret
  exact⟨rfl,pw_below_drewN (Below.refl _ w) _⟩
theorem reachF_bd (n p0:P3)(r:List P3)(M:Int)(h0: -M≤dot3 n p0∧dot3 n p0≤M)(h:∀p∈r,-M≤dot3 n p∧dot3 n p≤M): -M≤(reachF n p0 r).1∧(reachF n p0 r).1≤M∧ -M≤(reachF n p0 r).2∧(reachF n p0 r).2≤M:=by
 have gen:∀(l:List P3) (s:Int×Int),(∀p∈l,-M≤dot3 n p∧dot3 n p≤M)→ -M≤s.1→s.1≤M→ -M≤s.2→s.2≤M→ -M≤(l.foldl (rstep n) s).1∧(l.foldl (rstep n) s).1≤M∧ -M≤(l.foldl (rstep n) s).2∧(l.foldl (rstep n) s).2≤M:=by
  intro l
  induction l with
  |nil=>intro s _ a b c d;exact⟨a,b,c,d⟩
  |cons p l ih=>
   intro s hp a b c d;have hp0:=hp p (by simp);obtain⟨m1,m2,m3⟩:=mx_facts s.2 (dot3 n p);obtain⟨k1,k2,k3⟩:=mn_facts s.1 (dot3 n p);rw[List.foldl_cons];exact ih _ (fun q hq=>hp q (by simp[hq])) (by unfold rstep;simp only;omega) (by unfold rstep;simp only;omega) (by unfold rstep;simp only;omega) (by unfold rstep;simp only;omega)
 exact gen r _ h h0.1 h0.2 h0.1 h0.2
theorem fl3_pos (p:P3)(h:p≠⟨0,0,0⟩):1≤fl3 p:=by
 have h1:1≤dotI p p:=by
  have a:=sq_nonneg p.x;have b:=sq_nonneg p.y;have c:=sq_nonneg p.z;have pos:∀x:Int,x≠0→1≤x*x:=fun x hx=>by
   rcases Int.lt_or_gt_of_ne hx with h|h
   ·have:=Int.mul_le_mul (show 1≤ -x by omega) (show 1≤ -x by omega) (by omega) (by omega);rw[Int.neg_mul_neg]at this;omega
   ·have:=Int.mul_le_mul (show 1≤x by omega) (show 1≤x by omega) (by omega) (by omega);omega
  unfold dotI;by_cases hx:p.x=0
  ·by_cases hy:p.y=0
   ·have hz:p.z≠0:=fun hz=>h (by cases p;simp_all);have:=pos _ hz;omega
   ·have:=pos _ hy;omega
  ·have:=pos _ hx;omega
 unfold fl3;obtain⟨_,h2⟩:=isq_spec (dotI p p).toNat;rcases Nat.eq_zero_or_pos (isq (dotI p p).toNat)with h0|h0
 ·rw[h0]at h2;omega
 ·omega
theorem fl3_le (p:P3)(h:in3 1048576 p):fl3 p≤16777216:=by
 have:=dotI_bd p p 1048576 1048576 h h;have h0:=dotI_self p;obtain⟨h1,_⟩:=isq_spec (dotI p p).toNat;unfold fl3;rcases Nat.lt_or_ge 16777216 (isq (dotI p p).toNat)with h3|h3
 ·have:=Nat.mul_le_mul (show 16777216≤isq (dotI p p).toNat by omega) (show 16777216≤isq (dotI p p).toNat by omega);omega
 ·omega
theorem ce3_bd (p:P3):fl3 p≤ce3 p∧ce3 p≤fl3 p+1:=by unfold ce3;split<;>omega
/-- the gaps of n and of the other way round -/
def gapsF (n a0:P3)(ar:List P3)(ra:Int)(b0:P3)(br:List P3)(rb:Int):Int×Int:=
 (gapV ((reachF n b0 br).1-(reachF n a0 ar).2) (ce3 n) (fl3 n) ra rb,gapV ((reachF n a0 ar).1-(reachF n b0 br).2) (ce3 n) (fl3 n) ra rb)
theorem gaps_calls (a0:P3)(ar:List P3)(b0:P3)(br:List P3)(A0 A1 A2 B0 B1 B2:Option Addr)(c0 n1 c1 n2 c2 d0 m1 d1 m2 d2:Nat)(ra rb x y z:Int)(w:World)
  (hA:Rd w A0 (a0::ar)) (hB:Rd w B0 (b0::br)) (hc0:ar.length+1≤c0) (hd0:br.length+1≤d0) (hla:ar.length<1000) (hlb:br.length<1000)
  (hn:in3 1048576 ⟨x,y,z⟩) (hn0:(⟨x,y,z⟩:P3)≠⟨0,0,0⟩) (hpa:∀p∈a0::ar,in3 16777216 p) (hpb:∀p∈b0::br,in3 16777216 p) (ha1:0≤ra) (ha2:ra≤131072) (hb1:0≤rb) (hb2:rb≤131072):
  Calls Tryz.prog 58 #[.agg #[.slice A0 (ar.length+1) c0, .slice A1 n1 c1, .slice A2 n2 c2, .int .i64 ra], .agg #[.slice B0 (br.length+1) d0, .slice B1 m1 d1, .slice B2 m2 d2, .int .i64 rb], .agg #[.int .i64 x, .int .i64 y, .int .i64 z]] w
   fun e w'=>e= .returned (.tuple #[.int .i64 (gapsF ⟨x,y,z⟩ a0 ar ra b0 br rb).1, .int .i64 (gapsF ⟨x,y,z⟩ a0 ar ra b0 br rb).2])∧Below w.heap.size w w':=by
 have hdot:∀p,in3 16777216 p→ -70368744177664≤dot3 ⟨x,y,z⟩ p∧dot3 ⟨x,y,z⟩ p≤70368744177664:=fun p hp=>by
  have h1:=dot3_eq ⟨x,y,z⟩ p 1048576 16777216 hn hp (by decide);have h2:=dotI_bd ⟨x,y,z⟩ p 1048576 16777216 hn hp;omega
 obtain⟨u1,u2,u3,u4⟩:=reachF_bd ⟨x,y,z⟩ a0 ar 70368744177664 (hdot _ (hpa _ (by simp))) (fun p hp=>hdot p (hpa p (by simp[hp])));obtain⟨v1,v2,v3,v4⟩:=reachF_bd ⟨x,y,z⟩ b0 br 70368744177664 (hdot _ (hpb _ (by simp))) (fun p hp=>hdot p (hpb p (by simp[hp])));have hs:sz3 ⟨x,y,z⟩=(fl3 ⟨x,y,z⟩,ce3 ⟨x,y,z⟩):=by
  unfold sz3;rw[(far3_iff 16777216 ⟨x,y,z⟩ (by decide) (by decide)).2 (by unfold in3 at*;simp only at*;omega)];rfl
 have k1:=fl3_pos _ hn0;have k2:=fl3_le _ hn;obtain⟨k3,k4⟩:=ce3_bd ⟨x,y,z⟩;unfold gapsF;obtain⟨RA,hRA⟩:=nm_ (reachF ⟨x,y,z⟩ a0 ar);obtain⟨RB,hRB⟩:=nm_ (reachF ⟨x,y,z⟩ b0 br);obtain⟨fl,hfl⟩:=nm_ (fl3 ⟨x,y,z⟩);obtain⟨ce,hce⟩:=nm_ (ce3 ⟨x,y,z⟩);rw[hRA]at u1 u2 u3 u4⊢;rw[hRB]at v1 v2 v3 v4⊢;rw[hfl]at k1 k2 k3 k4 hs⊢;rw[hce]at k3 k4 hs⊢;obtain⟨la,ha⟩:=RA;obtain⟨lb,hb⟩:=RB;dsimp only at u1 u2 u3 u4 v1 v2 v3 v4⊢;have HRA:=Lh hRA;have HRB:=Lh hRB;have HS:=Lh hs;have RA:=Lh hA;have RB:=Lh hB;clear hRA hRB hfl hce hs hA hB hdot hpa hpb hn hn0;obtain⟨ca,hca⟩:∃ca:Array Value,#[.slice A0 (ar.length+1) c0, .slice A1 n1 c1, .slice A2 n2 c2, .int .i64 ra]=ca:=⟨_,rfl⟩;obtain⟨cb,hcb⟩:∃cb:Array Value,#[.slice B0 (br.length+1) d0, .slice B1 m1 d1, .slice B2 m2 d2, .int .i64 rb]=cb:=⟨_,rfl⟩;have G0:Hid ((((w.alloc (.cells ca 35)).alloc (.cells cb 35)).alloc (.cells #[.int .i64 x, .int .i64 y, .int .i64 z] 23)).heap[w.heap.size]?=some (.cells ca 35 (0,0))):=blk_alloc (blk_alloc (heap_alloc_new w _) _) _;have G1:Hid ((((w.alloc (.cells ca 35)).alloc (.cells cb 35)).alloc (.cells #[.int .i64 x, .int .i64 y, .int .i64 z] 23)).heap[w.heap.size+1]?=some (.cells cb 35 (0,0))):=blk_alloc (by simpa using heap_alloc_new (w.alloc (.cells ca 35)) (.cells cb 35)) _;have G2:Hid (C3 (((w.alloc (.cells ca 35)).alloc (.cells cb 35)).alloc (.cells #[.int .i64 x, .int .i64 y, .int .i64 z] 23)) (w.heap.size+2) (.int .i64 x) (.int .i64 y) (.int .i64 z)):=by
  have:=C3.new ((w.alloc (.cells ca 35)).alloc (.cells cb 35)) (.int .i64 x) (.int .i64 y) (.int .i64 z) 23;simp only[World.size_alloc]at this;exact this
 rw[←hca,←hcb]at G0 G1 G2;clear hca hcb ca cb;go_enter Tryz.func58,Tryz.ntmps58;go_wp2_with fail;refine(reach_calls a0 ar _ _ _ _ _ _ (((RA.alloc _).alloc _).alloc _) hc0 (by omega)).mono ?_;rintro e w1 ⟨rfl,hb1⟩;rw[HRA.out];have g0:=Lh (blk_below G0.out hb1);have g1:=Lh (blk_below G1.out hb1);have g2:=Lh (G2.below hb1);have a1:w1.cell? ⟨w.heap.size+1,0,none⟩=some (.slice B0 (br.length+1) d0):=(blk_cell g1.out 0).trans rfl;obtain⟨c0,c1,c2,_,_,_⟩:=id g2.out;have hB1:Hid (Below w.heap.size w w1):=((((Below.refl _ w).alloc (Nat.le_refl _) _).alloc (by simp) _).alloc (by simp;omega) _).trans (hb1.mono (by simp;omega));clear G0 G1 G2 hb1;go_wp2_with fail;refine(reach_calls b0 br _ _ _ _ _ _ (RB.below hB1.out) hd0 (by omega)).mono ?_;rintro e w2 ⟨rfl,hb2⟩;rw[HRB.out];have G0:=Lh (blk_below g0.out hb2);have G1:=Lh (blk_below g1.out hb2);have G2:=Lh (g2.below hb2);have hB2:Hid (Below w.heap.size w w2):=bthen hB1.out hb2;clear c0 c1 c2 a1 g0 g1 g2 hb2 hB1;obtain⟨c0,c1,c2,_,_,_⟩:=id G2.out;go_wp2_with fail;refine(sizes_calls _ _ _ _).mono ?_;rintro e w3 ⟨rfl,hb3⟩;rw[HS.out];have g0:=blk_below G0.out hb3;have g1:=blk_below G1.out hb3;have a2:w3.cell? ⟨w.heap.size,3,none⟩=some (.int .i64 ra):=(blk_cell g0 3).trans rfl;have a3:w3.cell? ⟨w.heap.size+1,3,none⟩=some (.int .i64 rb):=(blk_cell g1 3).trans rfl;have z1:=blk_lt g0;have z2:=blk_lt g1;have hB3:Hid (Below w.heap.size w w3):=bthen hB2.out hb3;clear c0 c1 c2 g0 g1 G0 G1 G2 hb3 hB2;have z3:w.heap.size≠w3.heap.size:=by omega
 have z4:w.heap.size+1≠w3.heap.size:=by omega
 have z5:w.heap.size≠w3.heap.size+1:=by omega
 have z6:w.heap.size+1≠w3.heap.size+1:=by omega
 go_wp2_with fail;have b1:((w3.alloc (.cells #[.int .i64 fl] 3)).alloc (.cells #[.int .i64 ce] 3)).cell? ⟨w3.heap.size+1,0,none⟩=some (.int .i64 ce):=by simp
 have b2:((w3.alloc (.cells #[.int .i64 fl] 3)).alloc (.cells #[.int .i64 ce] 3)).cell? ⟨w.heap.size,3,none⟩=some (.int .i64 ra):=by
  rw[World.cell?_alloc_lt _ _ _ (by simp;omega),World.cell?_alloc_lt _ _ _ (by omega)];exact a2
 have b3:((w3.alloc (.cells #[.int .i64 fl] 3)).alloc (.cells #[.int .i64 ce] 3)).cell? ⟨w.heap.size+1,3,none⟩=some (.int .i64 rb):=by
  rw[World.cell?_alloc_lt _ _ _ (by simp;omega),World.cell?_alloc_lt _ _ _ (by omega)];exact a3
 have b4:((w3.alloc (.cells #[.int .i64 fl] 3)).alloc (.cells #[.int .i64 ce] 3)).cell? ⟨w3.heap.size,0,none⟩=some (.int .i64 fl):=by
  rw[World.cell?_alloc_lt _ _ _ (by simp)];simp
 have hB4:Hid (Below w.heap.size w ((w3.alloc (.cells #[.int .i64 fl] 3)).alloc (.cells #[.int .i64 ce] 3))):=(hB3.alloc hB3.size _).alloc (by have:=hB3.size;simp;omega) _;clear a2 a3 z1 z2 z3 z4 z5 z6 hB3;generalize(w3.alloc (.cells #[.int .i64 fl] 3)).alloc (.cells #[.int .i64 ce] 3)=w4 at b1 b2 b3 b4 hB4⊢;refine(gap1_calls _ ce fl ra rb _ _ _ _ _ b1 b2 b3 b4 (by omega) (by omega) (by omega) (by omega) (by omega) (by omega) ha1 ha2 hb1 hb2).mono ?_;rintro e w5 ⟨rfl,hb5⟩;obtain⟨hc5,_⟩:=bcell hb5;have d1:=(hc5 _ _ (World.block_lt_of_cell? w4 _ b1)).trans b1;have d2:=(hc5 _ _ (World.block_lt_of_cell? w4 _ b2)).trans b2;have d3:=(hc5 _ _ (World.block_lt_of_cell? w4 _ b3)).trans b3;have d4:=(hc5 _ _ (World.block_lt_of_cell? w4 _ b4)).trans b4;have hB5:Hid (Below w.heap.size w w5):=bthen hB4.out hb5;clear hc5 b1 b2 b3 b4 hb5 hB4;go_wp2_with fail;refine(gap1_calls _ ce fl ra rb _ _ _ _ _ d1 d2 d3 d4 (by omega) (by omega) (by omega) (by omega) (by omega) (by omega) ha1 ha2 hb1 hb2).mono ?_;rintro e w6 ⟨rfl,hb6⟩;have hB6:Hid (Below w.heap.size w w6):=bthen hB5.out hb6;go_wp2
 go_ret2
 exact⟨rfl,hB6.out⟩
end Go.Proofs.YtckdhahceelckaaGreat.G
namespace Go.Proofs.YtckdhahceelckaaGreat.G
open Go.RowKit Go.Proofs.YtckdhahceelckaaGreatW.PrintWords Go.Proofs.YtckdhahceelckaaGreatW.PrintLast Go.Proofs.YtckdhahceelckaaGreatW.PrintMore
attribute [local go_sem] max2_mx min2_mn max_two min_two max_three min_three max_four min_four
/-- which of two lists of digits is the lesser one -/
def cmpF (l k:List Int):Int:=if mag l<mag k then-1 else if mag k<mag l then 1 else 0
theorem cmpF_lt {l k:List Int}(h:mag l<mag k):cmpF l k= -1:=by unfold cmpF;rw[if_pos h]
theorem cmpF_gt {l k:List Int}(h:mag k<mag l):cmpF l k=1:=by unfold cmpF;rw[if_neg (by omega),if_pos h]
theorem cmpF_eq {l k:List Int}(h:l=k):cmpF l k=0:=by subst h;unfold cmpF;rw[if_neg (by omega),if_neg (by omega)]
theorem drop_step {l k:List Int}{i:Nat}(hl:l.length=8)(hk:k.length=8)(hi:i<8)(h:l.drop (i+1)=k.drop (i+1))(he:dg l i=dg k i):l.drop i=k.drop i:=by
 rw[List.drop_eq_getElem_cons (by omega),List.drop_eq_getElem_cons (show i<k.length by omega),h,←dg_lt l i (by omega),←dg_lt k i (by omega),he]
theorem size_calls (n m:Bool)(l k:List Int)(hl:l.length=8)(hk:k.length=8)(hd:digs l)(he:digs k)(w:World):
  Calls Tryz.prog 157 #[.agg (aW n l), .agg (aW m k)] w fun e w'=>e= .returned (.int .i64 (cmpF l k))∧Below w.heap.size w w':=by
 have HL:=Lh hl;have HK:=Lh hk;have HD:=Lh hd;have HE:=Lh he;clear hl hk hd he;have HA:=Lh ((Wd.new w n l).alloc (.cells (aW m k) 169));have HB:=Lh (Wd.new (w.alloc (.cells (aW n l) 169)) m k);rw[World.size_alloc]at HB;have HW:=Lh (((Below.refl _ w).alloc (Nat.le_refl _) (.cells (aW n l) 169)).alloc (by simp) (.cells (aW m k) 169));go_enter Tryz.func157,Tryz.ntmps157;go_wp2;go_loopw [5] (fun v5 wr=>∃z:Int,v5= .int .i64 z∧ -1≤z∧z≤7∧Hid (l.drop (z+1).toNat=k.drop (z+1).toNat)∧Hid (Wd wr w.heap.size n l)∧Hid (Wd wr (w.heap.size+1) m k)∧Hid (Below w.heap.size w wr)) (fun i _=>(intOf i+1).toNat)
 case atStart=>exact⟨7,rfl,by omega,by omega,Lh (by rw[List.drop_of_length_le (by rw[HL.out];decide),List.drop_of_length_le (by rw[HK.out];decide)]),HA,HB,HW⟩
 case round=>
  obtain⟨z,rfl,hz1,hz2,hD,hA,hB,hW⟩:=hrel;by_cases hz:z<0
  ·obtain rfl:z= -1:=by omega
   have E:Hid (cmpF l k=0):=Lh (cmpF_eq (by simpa using hD.out));go_wp2
   go_ret
   exact⟨by rw[E.out];rfl,hW.out⟩
  ·obtain⟨i,rfl⟩:∃i:Nat,z=i:=⟨z.toNat,by omega⟩;have hi:i<8:=by omega
   have c0:=hA.out.dig i hi;have c1:=hB.out.dig i hi;have hdr:Hid (l.drop (i+1)=k.drop (i+1)):=hD;clear hz hD;rcases Int.lt_trichotomy (dg l i) (dg k i)with h|h|h
   ·have t1:decide (dg l i<dg k i)=true:=by simpa using h
    have e:=cmpF_lt (mag_less l k i HD.out HE.out (by rw[HL.out];exact hi) (by rw[HK.out];exact hi) hdr.out h);have E:=Lh e;clear e h;go_wp2
    go_quiet (fail)
    go_wp2
    go_ret
    exact⟨by rw[E.out];rfl,pw_below_drewN hW.out _⟩
   ·have t1:decide (dg l i<dg k i)=false:=by simp;omega
    have t2:decide (dg k i<dg l i)=false:=by simp;omega
    have hN:=Lh (drop_step HL.out HK.out hi hdr.out h);clear h;go_wp2
    go_quiet (fail)
    go_wp2
    go_quiet (fail)
    go_wp2
    go_roundw
    case rel=>exact⟨↑i-1,rfl,by omega,by omega,by rw[show((i:Int)-1+1).toNat=i by omega];exact hN,hA,hB,pw_below_drewN hW.out _⟩
    case measure=>simp[intOf]
   ·have t1:decide (dg l i<dg k i)=false:=by simp;omega
    have t2:decide (dg k i<dg l i)=true:=by simpa using h
    have e:=cmpF_gt (mag_less k l i HE.out HD.out (by rw[HK.out];exact hi) (by rw[HL.out];exact hi) hdr.out.symm h);have E:=Lh e;clear e h;go_wp2
    go_quiet (fail)
    go_wp2
    go_quiet (fail)
    go_wp2
    go_ret
    exact⟨by rw[E.out];rfl,pw_below_drewN (pw_below_drewN hW.out _) _⟩
theorem plus_more (n m:Bool)(l k:List Int)(hnm:(n == m)=false)(hl:l.length=8)(hk:k.length=8)(hd:digs l)(he:digs k)(hs:mag k≤mag l)(w:World):
  Calls Tryz.prog 155 #[.agg (aW n l), .agg (aW m k)] w (OfPost (wval n l+wval m k) w):=by
 have HV:Hid (wval n l+wval m k=wval n l+wval m k∧∀o,mag o=mag l-mag k→wval n o=wval n l+wval m k):=by
  refine⟨by omega,fun o ho=>?_⟩;cases n<;>cases m<;>simp at hnm<;>(simp[wval];omega)
 have HL:=Lh hl;have HK:=Lh hk;have HD:=Lh hd;have HE:=Lh he;have HX:=Lh (SubI.start l k hl hd);have hcmp:Hid (decide (cmpF l k<0)=false):=by unfold cmpF;rw[if_neg (by omega)];split<;>rfl
 have HS:=Lh hs;clear hl hk hd he hs;have HA:=Lh (((Wd.new w n l).alloc (.cells (aW m k) 169)).alloc (.cells (aW false zs8) 169));have HB:=(Wd.new (w.alloc (.cells (aW n l) 169)) m k).alloc (.cells (aW false zs8) 169);have HC:=Wd.new ((w.alloc (.cells (aW n l) 169)).alloc (.cells (aW m k) 169)) false zs8;rw[World.size_alloc]at HB;rw[World.size_alloc,World.size_alloc]at HC;have HB:=Lh HB;have HC:=Lh HC;have HW:=Lh ((((Below.refl _ w).alloc (Nat.le_refl _) (.cells (aW n l) 169)).alloc (by simp) (.cells (aW m k) 169)).alloc (by simp;omega) (.cells (aW false zs8) 169));go_enter Tryz.func155,Tryz.ntmps155;go_wp2_with fail;refine(size_calls n m l k HL.out HK.out HD.out HE.out _).mono ?_;rintro e w3 ⟨rfl,hb3⟩;have HA3:=Lh (HA.below hb3);have HB3:=Lh (HB.below hb3);have HC3:=Lh (HC.below hb3);have HW3:=Lh (bthen HW.out hb3);have hz:w.heap.size+1+1+1≤w3.heap.size:=by have:=hb3.size;simp at this;omega
 have hc:=hcmp.out;clear HA HB HC HW hcmp hb3 hnm;obtain⟨p0,p1,p2,p3,p4,p5,p6,p7,p8⟩:=HA3.out.all;obtain⟨q0,q1,q2,q3,q4,q5,q6,q7,q8⟩:=HB3.out.all;go_wp2;have hA:=Lh (HA3.alloc (.cells (aW n l) 169));have hB:=Lh (HB3.alloc (.cells (aW n l) 169));have hC:=Lh (HC3.alloc (.cells (aW n l) 169));have hO:=Lh (Wd.new w3 n l);have hW:=Lh (HW3.alloc (by omega) (.cells (aW n l) 169));clear p0 p1 p2 p3 p4 p5 p6 p7 p8 q0 q1 q2 q3 q4 q5 q6 q7 q8 hc HA3 HB3 HC3 HW3;obtain⟨O,hO'⟩:∃O,w3.heap.size=O:=⟨_,rfl⟩;rw[hO']at hO hz⊢;generalize w3.alloc (.cells (aW n l) 169)=w4 at hA hB hC hO hW⊢;clear hO';go_loopw [11,12,13] (fun v11 v12 v13 wr=>∃(i:Nat) (c:Int) (o:List Int),i≤8∧v12= .int .i64 i∧v11= .int .i64 c∧0≤c∧c≤1∧Hid (Wd wr w.heap.size n l)∧Hid (Wd wr (w.heap.size+1) m k)∧Hid (Wd wr (w.heap.size+1+1) false zs8)∧Hid (Wd wr O n o)∧Hid (SubI l k i o c)∧Hid (Below w.heap.size w wr)) (fun _ i _ _=>8-(intOf i).toNat)
 case atStart=>exact⟨0,0,l,by omega,rfl,rfl,by omega,by omega,hA,hB,hC,hO,HX,hW⟩
 case round=>
  clear HX hA hB hC hO hW;obtain⟨i,c,o,hi8,rfl,rfl,hc0,hc1,hA,hB,hC,hO,hI,hW⟩:=hrel;by_cases hi:i<8
  ·have c0:=hA.out.dig i hi;have c1:=hB.out.dig i hi;have c2:=hO.out.dig i hi;have f2:=hO.out.fz (1+i);obtain⟨a0,a1⟩:=dg_ok HD.out i;obtain⟨b0,b1⟩:=dg_ok HE.out i;by_cases hneg:dg l i-dg k i-c<0
   ·have hN:=Lh (hI.out.step1 HD.out HE.out HK.out hi hneg);obtain⟨x,hx⟩:=nm_ (dg l i);obtain⟨y,hy⟩:=nm_ (dg k i);rw[hx]at c0 a0 a1 hN hneg;rw[hy]at c1 b0 b1 hN hneg;clear hx hy;have e1:IntKind.i64.wrap (x-y)=x-y:=iw_id _ (by omega) (by omega);have e2:IntKind.i64.wrap (x-y-c)=x-y-c:=iw_id _ (by omega) (by omega);go_wp2
    go_quiet (fail)
    clear e1 e2;obtain⟨s,hs⟩:=nm_ (x-y-c);have s0: -16777216≤s:=by omega
    rw[hs]at hN hneg⊢;clear hs;have hd:decide (s<0)=true:=by simpa using hneg
    go_wp2
    go_roundw
    case rel=>exact⟨i+1,1,_,by omega,by go_num,rfl,by omega,by omega,(hA.out.drewN _).far (by simp;try omega) _,(hB.out.drewN _).far (by simp;try omega) _,(hC.out.drewN _).far (by simp;try omega) _,(hO.out.drewN _).set hI.out.1 i hi _,hN,(pw_below_drewN hW.out _).setCell (by first|(simp;done)|(simp;omega)|omega) _⟩
    case measure=>simp[intOf];omega
   ·have hN:=Lh (hI.out.step0 HD.out HE.out HK.out hi (by omega));obtain⟨x,hx⟩:=nm_ (dg l i);obtain⟨y,hy⟩:=nm_ (dg k i);rw[hx]at c0 a0 a1 hN hneg;rw[hy]at c1 b0 b1 hN hneg;clear hx hy;have e1:IntKind.i64.wrap (x-y)=x-y:=iw_id _ (by omega) (by omega);have e2:IntKind.i64.wrap (x-y-c)=x-y-c:=iw_id _ (by omega) (by omega);go_wp2
    go_quiet (fail)
    clear e1 e2;obtain⟨s,hs⟩:=nm_ (x-y-c);have s0:s<16777216:=by omega
    rw[hs]at hN hneg⊢;clear hs;have hd:decide (s<0)=false:=by simpa using hneg
    go_wp2
    go_roundw
    case rel=>exact⟨i+1,0,_,by omega,by go_num,rfl,by omega,by omega,(hA.out.drewN _).far (by simp;try omega) _,(hB.out.drewN _).far (by simp;try omega) _,(hC.out.drewN _).far (by simp;try omega) _,(hO.out.drewN _).set hI.out.1 i hi _,hN,(pw_below_drewN hW.out _).setCell (by first|(simp;done)|(simp;omega)|omega) _⟩
    case measure=>simp[intOf];omega
  ·obtain rfl:i=8:=by omega
   obtain⟨z0,z1,z2,z3,z4,z5,z6,z7,z8⟩:=hO.out.all;obtain⟨y0,y1,y2,y3,y4,y5,y6,y7,y8⟩:=hC.out.all;obtain⟨x0,x1,x2,x3,x4,x5,x6,x7,x8⟩:=hC.out.fzs;have hv:WV (.agg (aW n o)) (wval n l+wval m k):=⟨n,o,rfl,hI.out.1,hI.out.2.1,by rw[HV.out.2 o (hI.out.done HK.out (HS.out))];try exact HV.out.1⟩;have HS:=blk9_set hC.out n o;have HW:=below_set9 hW.out (g:=w.heap.size+1+1) (by omega) (.bool n) (.int .i64 (dg o 0)) (.int .i64 (dg o 1)) (.int .i64 (dg o 2)) (.int .i64 (dg o 3)) (.int .i64 (dg o 4)) (.int .i64 (dg o 5)) (.int .i64 (dg o 6)) (.int .i64 (dg o 7));obtain⟨V,hV⟩:=nm_ (set9 wr (w.heap.size+1+1) (.bool n) (.int .i64 (dg o 0)) (.int .i64 (dg o 1)) (.int .i64 (dg o 2)) (.int .i64 (dg o 3)) (.int .i64 (dg o 4)) (.int .i64 (dg o 5)) (.int .i64 (dg o 6)) (.int .i64 (dg o 7)));rw[hV]at HS HW;obtain⟨t0,t1,t2,t3,t4,t5,t6,t7,t8⟩:=HS.all;unfold set9 at hV;have HV':=Lh hV;clear hV HS;go_wp2;rw[HV'.out];exact bodyPost_ret (v:= .agg (aW n o)) (by simp[results,Tryz.results155,go_sem,t0,t1,t2,t3,t4,t5,t6,t7,t8]) rfl ⟨_,rfl,hv,HW⟩
theorem plus_less (n m:Bool)(l k:List Int)(hnm:(n == m)=false)(hl:l.length=8)(hk:k.length=8)(hd:digs l)(he:digs k)(hs:mag l<mag k)(w:World):
  Calls Tryz.prog 155 #[.agg (aW n l), .agg (aW m k)] w (OfPost (wval n l+wval m k) w):=by
 have HV:Hid (wval m k+wval n l=wval n l+wval m k∧∀o,mag o=mag k-mag l→wval m o=wval m k+wval n l):=by
  refine⟨by omega,fun o ho=>?_⟩;cases n<;>cases m<;>simp at hnm<;>(simp[wval];omega)
 have HL:=Lh hl;have HK:=Lh hk;have HD:=Lh hd;have HE:=Lh he;have HX:=Lh (SubI.start k l hk he);have hcmp:Hid (decide (cmpF l k<0)=true):=by rw[cmpF_lt hs];rfl
 have HS:=Lh hs;clear hl hk hd he hs;have HA:=Lh (((Wd.new w n l).alloc (.cells (aW m k) 169)).alloc (.cells (aW false zs8) 169));have HB:=(Wd.new (w.alloc (.cells (aW n l) 169)) m k).alloc (.cells (aW false zs8) 169);have HC:=Wd.new ((w.alloc (.cells (aW n l) 169)).alloc (.cells (aW m k) 169)) false zs8;rw[World.size_alloc]at HB;rw[World.size_alloc,World.size_alloc]at HC;have HB:=Lh HB;have HC:=Lh HC;have HW:=Lh ((((Below.refl _ w).alloc (Nat.le_refl _) (.cells (aW n l) 169)).alloc (by simp) (.cells (aW m k) 169)).alloc (by simp;omega) (.cells (aW false zs8) 169));go_enter Tryz.func155,Tryz.ntmps155;go_wp2_with fail;refine(size_calls n m l k HL.out HK.out HD.out HE.out _).mono ?_;rintro e w3 ⟨rfl,hb3⟩;have HA3:=Lh (HA.below hb3);have HB3:=Lh (HB.below hb3);have HC3:=Lh (HC.below hb3);have HW3:=Lh (bthen HW.out hb3);have hz:w.heap.size+1+1+1≤w3.heap.size:=by have:=hb3.size;simp at this;omega
 have hc:=hcmp.out;clear HA HB HC HW hcmp hb3 hnm;obtain⟨p0,p1,p2,p3,p4,p5,p6,p7,p8⟩:=HA3.out.all;obtain⟨q0,q1,q2,q3,q4,q5,q6,q7,q8⟩:=HB3.out.all;have hA:=HA3.alloc (.cells (aW n l) 169);have hB:=HB3.alloc (.cells (aW n l) 169);have hC:=HC3.alloc (.cells (aW n l) 169);have hO:=Wd.new w3 n l;have hW:=HW3.alloc (by omega) (.cells (aW n l) 169);obtain⟨v4,hv4⟩:=nm_ (w3.alloc (.cells (aW n l) 169));have hz4:v4.heap.size=w3.heap.size+1:=by rw[←hv4];simp
 rw[hv4]at hA hB hC hO hW;clear HA3 HB3 HC3 HW3;have hA1:=blk9_set hA m k;have hB1:Wd _ _ m k:=(set9_far (w:=v4) (g:=w.heap.size) (k:=w.heap.size+1) (by omega) (.bool m) (.int .i64 (dg k 0)) (.int .i64 (dg k 1)) (.int .i64 (dg k 2)) (.int .i64 (dg k 3)) (.int .i64 (dg k 4)) (.int .i64 (dg k 5)) (.int .i64 (dg k 6)) (.int .i64 (dg k 7))).trans hB;have hC1:Wd _ _ false zs8:=(set9_far (w:=v4) (g:=w.heap.size) (k:=w.heap.size+1+1) (by omega) (.bool m) (.int .i64 (dg k 0)) (.int .i64 (dg k 1)) (.int .i64 (dg k 2)) (.int .i64 (dg k 3)) (.int .i64 (dg k 4)) (.int .i64 (dg k 5)) (.int .i64 (dg k 6)) (.int .i64 (dg k 7))).trans hC;have hO1:Wd _ _ n l:=(set9_far (w:=v4) (g:=w.heap.size) (k:=w3.heap.size) (by omega) (.bool m) (.int .i64 (dg k 0)) (.int .i64 (dg k 1)) (.int .i64 (dg k 2)) (.int .i64 (dg k 3)) (.int .i64 (dg k 4)) (.int .i64 (dg k 5)) (.int .i64 (dg k 6)) (.int .i64 (dg k 7))).trans hO;have hW1:=below_set9 hW (Nat.le_refl _) (.bool m) (.int .i64 (dg k 0)) (.int .i64 (dg k 1)) (.int .i64 (dg k 2)) (.int .i64 (dg k 3)) (.int .i64 (dg k 4)) (.int .i64 (dg k 5)) (.int .i64 (dg k 6)) (.int .i64 (dg k 7));have hz5:(set9 v4 w.heap.size (.bool m) (.int .i64 (dg k 0)) (.int .i64 (dg k 1)) (.int .i64 (dg k 2)) (.int .i64 (dg k 3)) (.int .i64 (dg k 4)) (.int .i64 (dg k 5)) (.int .i64 (dg k 6)) (.int .i64 (dg k 7))).heap.size=w3.heap.size+1:=by unfold set9;simp[hz4]
 obtain⟨v5,hv5⟩:=nm_ (set9 v4 w.heap.size (.bool m) (.int .i64 (dg k 0)) (.int .i64 (dg k 1)) (.int .i64 (dg k 2)) (.int .i64 (dg k 3)) (.int .i64 (dg k 4)) (.int .i64 (dg k 5)) (.int .i64 (dg k 6)) (.int .i64 (dg k 7)));rw[hv5]at hA1 hB1 hC1 hO1 hW1 hz5;unfold set9 at hv5;have hB2:=blk9_set hB1 n l;have hA2:Wd _ _ m k:=(set9_far (w:=v5) (g:=w.heap.size+1) (k:=w.heap.size) (by omega) (.bool n) (.int .i64 (dg l 0)) (.int .i64 (dg l 1)) (.int .i64 (dg l 2)) (.int .i64 (dg l 3)) (.int .i64 (dg l 4)) (.int .i64 (dg l 5)) (.int .i64 (dg l 6)) (.int .i64 (dg l 7))).trans hA1;have hC2:Wd _ _ false zs8:=(set9_far (w:=v5) (g:=w.heap.size+1) (k:=w.heap.size+1+1) (by omega) (.bool n) (.int .i64 (dg l 0)) (.int .i64 (dg l 1)) (.int .i64 (dg l 2)) (.int .i64 (dg l 3)) (.int .i64 (dg l 4)) (.int .i64 (dg l 5)) (.int .i64 (dg l 6)) (.int .i64 (dg l 7))).trans hC1;have hW2:=below_set9 hW1 (g:=w.heap.size+1) (by omega) (.bool n) (.int .i64 (dg l 0)) (.int .i64 (dg l 1)) (.int .i64 (dg l 2)) (.int .i64 (dg l 3)) (.int .i64 (dg l 4)) (.int .i64 (dg l 5)) (.int .i64 (dg l 6)) (.int .i64 (dg l 7));have hz6:(set9 v5 (w.heap.size+1) (.bool n) (.int .i64 (dg l 0)) (.int .i64 (dg l 1)) (.int .i64 (dg l 2)) (.int .i64 (dg l 3)) (.int .i64 (dg l 4)) (.int .i64 (dg l 5)) (.int .i64 (dg l 6)) (.int .i64 (dg l 7))).heap.size=w3.heap.size+1:=by unfold set9;simp[hz5]
 obtain⟨v6,hv6⟩:=nm_ (set9 v5 (w.heap.size+1) (.bool n) (.int .i64 (dg l 0)) (.int .i64 (dg l 1)) (.int .i64 (dg l 2)) (.int .i64 (dg l 3)) (.int .i64 (dg l 4)) (.int .i64 (dg l 5)) (.int .i64 (dg l 6)) (.int .i64 (dg l 7)));rw[hv6]at hA2 hB2 hC2 hW2 hz6;unfold set9 at hv6;obtain⟨fa0,fa1,fa2,fa3,fa4,fa5,fa6,fa7,fa8⟩:=hA.fzs;obtain⟨r0,r1,r2,r3,r4,r5,r6,r7,r8⟩:=hA.all;obtain⟨s0,s1,s2,s3,s4,s5,s6,s7,s8⟩:=hB.all;obtain⟨fb0,fb1,fb2,fb3,fb4,fb5,fb6,fb7,fb8⟩:=hB1.fzs;obtain⟨o0,o1,o2,o3,o4,o5,o6,o7,o8⟩:=hO1.all;obtain⟨b0,b1,b2,b3,b4,b5,b6,b7,b8⟩:=hB1.all;obtain⟨a0,a1,a2,a3,a4,a5,a6,a7,a8⟩:=hA2.all;have HZ6:=Lh hz6;have HA2:=Lh hA2;have HB2:=Lh hB2;have HC2:=Lh hC2;have HW2:=Lh hW2;clear hz4 hz5 hz6 hA hB hC hO hW hA1 hB1 hC1 hO1 hW1 hA2 hB2 hC2 hW2;go_wp2;have hA:=Lh (HA2.alloc (.cells (aW m k) 169));have hB:=Lh (HB2.alloc (.cells (aW m k) 169));have hC:=Lh (HC2.alloc (.cells (aW m k) 169));have hO:=Lh (Wd.new v6 m k);have hW:=Lh (HW2.alloc (by rw[HZ6.out];omega) (.cells (aW m k) 169));clear fa0 fa1 fa2 fa3 fa4 fa5 fa6 fa7 fa8 r0 r1 r2 r3 r4 r5 r6 r7 r8 s0 s1 s2 s3 s4 s5 s6 s7 s8 fb0 fb1 fb2 fb3 fb4 fb5 fb6 fb7 fb8 o0 o1 o2 o3 o4 o5 o6 o7 o8 b0 b1 b2 b3 b4 b5 b6 b7 b8 a0 a1 a2 a3 a4 a5 a6 a7 a8 p0 p1 p2 p3 p4 p5 p6 p7 p8 q0 q1 q2 q3 q4 q5 q6 q7 q8 hc hv4 hv5 hv6 HA2 HB2 HC2 HW2;have hz:w.heap.size+1+1+1≤v6.heap.size:=by rw[HZ6.out];omega
 clear HZ6;obtain⟨O,hO'⟩:∃O,v6.heap.size=O:=⟨_,rfl⟩;rw[hO']at hO hz⊢;generalize v6.alloc (.cells (aW m k) 169)=w4 at hA hB hC hO hW⊢;clear hO';go_loopw [11,12,13] (fun v11 v12 v13 wr=>∃(i:Nat) (c:Int) (o:List Int),i≤8∧v12= .int .i64 i∧v11= .int .i64 c∧0≤c∧c≤1∧Hid (Wd wr w.heap.size m k)∧Hid (Wd wr (w.heap.size+1) n l)∧Hid (Wd wr (w.heap.size+1+1) false zs8)∧Hid (Wd wr O m o)∧Hid (SubI k l i o c)∧Hid (Below w.heap.size w wr)) (fun _ i _ _=>8-(intOf i).toNat)
 case atStart=>exact⟨0,0,k,by omega,rfl,rfl,by omega,by omega,hA,hB,hC,hO,HX,hW⟩
 case round=>
  clear HX hA hB hC hO hW;obtain⟨i,c,o,hi8,rfl,rfl,hc0,hc1,hA,hB,hC,hO,hI,hW⟩:=hrel;by_cases hi:i<8
  ·have c0:=hA.out.dig i hi;have c1:=hB.out.dig i hi;have c2:=hO.out.dig i hi;have f2:=hO.out.fz (1+i);obtain⟨a0,a1⟩:=dg_ok HE.out i;obtain⟨b0,b1⟩:=dg_ok HD.out i;by_cases hneg:dg k i-dg l i-c<0
   ·have hN:=Lh (hI.out.step1 HE.out HD.out HL.out hi hneg);obtain⟨x,hx⟩:=nm_ (dg k i);obtain⟨y,hy⟩:=nm_ (dg l i);rw[hx]at c0 a0 a1 hN hneg;rw[hy]at c1 b0 b1 hN hneg;clear hx hy;have e1:IntKind.i64.wrap (x-y)=x-y:=iw_id _ (by omega) (by omega);have e2:IntKind.i64.wrap (x-y-c)=x-y-c:=iw_id _ (by omega) (by omega);go_wp2
    go_quiet (fail)
    clear e1 e2;obtain⟨s,hs⟩:=nm_ (x-y-c);have s0: -16777216≤s:=by omega
    rw[hs]at hN hneg⊢;clear hs;have hd:decide (s<0)=true:=by simpa using hneg
    go_wp2
    go_roundw
    case rel=>exact⟨i+1,1,_,by omega,by go_num,rfl,by omega,by omega,(hA.out.drewN _).far (by simp;try omega) _,(hB.out.drewN _).far (by simp;try omega) _,(hC.out.drewN _).far (by simp;try omega) _,(hO.out.drewN _).set hI.out.1 i hi _,hN,(pw_below_drewN hW.out _).setCell (by first|(simp;done)|(simp;omega)|omega) _⟩
    case measure=>simp[intOf];omega
   ·have hN:=Lh (hI.out.step0 HE.out HD.out HL.out hi (by omega));obtain⟨x,hx⟩:=nm_ (dg k i);obtain⟨y,hy⟩:=nm_ (dg l i);rw[hx]at c0 a0 a1 hN hneg;rw[hy]at c1 b0 b1 hN hneg;clear hx hy;have e1:IntKind.i64.wrap (x-y)=x-y:=iw_id _ (by omega) (by omega);have e2:IntKind.i64.wrap (x-y-c)=x-y-c:=iw_id _ (by omega) (by omega);go_wp2
    go_quiet (fail)
    clear e1 e2;obtain⟨s,hs⟩:=nm_ (x-y-c);have s0:s<16777216:=by omega
    rw[hs]at hN hneg⊢;clear hs;have hd:decide (s<0)=false:=by simpa using hneg
    go_wp2
    go_roundw
    case rel=>exact⟨i+1,0,_,by omega,by go_num,rfl,by omega,by omega,(hA.out.drewN _).far (by simp;try omega) _,(hB.out.drewN _).far (by simp;try omega) _,(hC.out.drewN _).far (by simp;try omega) _,(hO.out.drewN _).set hI.out.1 i hi _,hN,(pw_below_drewN hW.out _).setCell (by first|(simp;done)|(simp;omega)|omega) _⟩
    case measure=>simp[intOf];omega
  ·obtain rfl:i=8:=by omega
   obtain⟨z0,z1,z2,z3,z4,z5,z6,z7,z8⟩:=hO.out.all;obtain⟨y0,y1,y2,y3,y4,y5,y6,y7,y8⟩:=hC.out.all;obtain⟨x0,x1,x2,x3,x4,x5,x6,x7,x8⟩:=hC.out.fzs;have hv:WV (.agg (aW m o)) (wval n l+wval m k):=⟨m,o,rfl,hI.out.1,hI.out.2.1,by rw[HV.out.2 o (hI.out.done HL.out (Int.le_of_lt HS.out))];try exact HV.out.1⟩;have HS:=blk9_set hC.out m o;have HW:=below_set9 hW.out (g:=w.heap.size+1+1) (by omega) (.bool m) (.int .i64 (dg o 0)) (.int .i64 (dg o 1)) (.int .i64 (dg o 2)) (.int .i64 (dg o 3)) (.int .i64 (dg o 4)) (.int .i64 (dg o 5)) (.int .i64 (dg o 6)) (.int .i64 (dg o 7));obtain⟨V,hV⟩:=nm_ (set9 wr (w.heap.size+1+1) (.bool m) (.int .i64 (dg o 0)) (.int .i64 (dg o 1)) (.int .i64 (dg o 2)) (.int .i64 (dg o 3)) (.int .i64 (dg o 4)) (.int .i64 (dg o 5)) (.int .i64 (dg o 6)) (.int .i64 (dg o 7)));rw[hV]at HS HW;obtain⟨t0,t1,t2,t3,t4,t5,t6,t7,t8⟩:=HS.all;unfold set9 at hV;have HV':=Lh hV;clear hV HS;go_wp2;rw[HV'.out];exact bodyPost_ret (v:= .agg (aW m o)) (by simp[results,Tryz.results155,go_sem,t0,t1,t2,t3,t4,t5,t6,t7,t8]) rfl ⟨_,rfl,hv,HW⟩
theorem plus_calls (n m:Bool)(l k:List Int)(hl:l.length=8)(hk:k.length=8)(hd:digs l)(he:digs k)(hs:mag l+mag k<16777216^8)(w:World):
  Calls Tryz.prog 155 #[.agg (aW n l), .agg (aW m k)] w (OfPost (wval n l+wval m k) w):=by
 by_cases hnm:n=m
 ·subst hnm;exact plus_same n l k hl hk hd he hs w
 ·have h:(n == m)=false:=by simpa using hnm
  by_cases hc:mag l<mag k
  ·exact plus_less n m l k h hl hk hd he hc w
  ·exact plus_more n m l k h hl hk hd he (by omega) w
end Go.Proofs.YtckdhahceelckaaGreat.G
