/- What the laws of this claim lean on: contracts of functions and plain lemmas; no condition of its own (part 37: XR5, XR13, XR14, XR15). -/
import Derived.Test.YtckdhahceelckaaGreatKQ31
import Derived.Test.YtckdhahceelckaaGreatKQ34
import Derived.Test.YtckdhahceelckaaGreatKQ36
set_option maxHeartbeats 16000000
set_option maxRecDepth 100000
set_option linter.unusedVariables false
set_option linter.unusedSimpArgs false
namespace Go.Proofs.YtckdhahceelckaaGreat.G
open Go.RowKit Go.Proofs.YtckdhahceelckaaGreatW.PrintWords Go.Proofs.YtckdhahceelckaaGreatW.PrintLast Go.Proofs.YtckdhahceelckaaGreatW.PrintMore
attribute [local go_sem] max2_mx min2_mn max_two min_two max_three min_three max_four min_four
attribute [local go_sem high] eqA23
theorem farF_reach (n p0:P3)(r:List P3):farF n p0 r=(reachF n p0 r).2:=by
 have gen:∀(l:List P3) (s:Int×Int),l.foldl (fstep n) s.2=(l.foldl (rstep n) s).2:=by
  intro l
  induction l with
  |nil=>intro s;rfl
  |cons p l ih=>intro s;rw[List.foldl_cons,List.foldl_cons];exact ih (rstep n s p)
 exact gen r (dot3 n p0,dot3 n p0)
theorem dot3_neg (n p:P3)(hn:in3 1048576 n)(hp:in3 16777216 p):dot3 ⟨-n.x,-n.y,-n.z⟩ p= -dot3 n p:=by
 have hn':in3 1048576 (⟨-n.x,-n.y,-n.z⟩:P3):=by unfold in3 at*;simp only;omega
 rw[dot3_eq n p 1048576 16777216 hn hp (by decide),dot3_eq _ p 1048576 16777216 hn' hp (by decide)];unfold dotI;simp only[Int.neg_mul];omega
theorem farF_neg (n p0:P3)(r:List P3)(hn:in3 1048576 n)(hp:∀p∈p0::r,in3 16777216 p):farF ⟨-n.x,-n.y,-n.z⟩ p0 r= -(reachF n p0 r).1:=by
 have gen:∀(l:List P3) (s:Int×Int),(∀p∈l,in3 16777216 p)→l.foldl (fstep ⟨-n.x,-n.y,-n.z⟩) (-s.1)= -(l.foldl (rstep n) s).1:=by
  intro l
  induction l with
  |nil=>intro s _;rfl
  |cons p l ih=>
   intro s h;rw[List.foldl_cons,List.foldl_cons];have e:fstep ⟨-n.x,-n.y,-n.z⟩ (-s.1) p= -(rstep n s p).1:=by
    unfold fstep rstep;rw[dot3_neg n p hn (h p (by simp))];unfold mx mn;simp only;split<;>split<;>omega
   rw[e];exact ih _ fun q hq=>h q (by simp[hq])
 unfold farF reachF;rw[dot3_neg n p0 hn (hp p0 (by simp))];exact gen r (dot3 n p0,dot3 n p0) fun q hq=>hp q (by simp[hq])
theorem rgap_calls (p0:P3)(pr:List P3)(ra:Int)(q0:P3)(qr:List P3)(rb:Int)(A0 A1 A2 B0 B1 B2:Option Addr)(n1 n2 m1 m2 c0 c1 c2 d0 d1 d2:Nat)(n:P3)(w:World)
  (hA:RdB w A0 (p0::pr)) (hB:RdB w B0 (q0::qr)) (hla:pr.length<1000) (hlb:qr.length<1000) (hn:in3 1048576 n) (h0:n≠⟨0,0,0⟩)
  (hp:∀x∈p0::pr,in3 16777216 x) (hq:∀x∈q0::qr,in3 16777216 x) (ra0:0≤ra) (ra1:ra≤65536) (rb0:0≤rb) (rb1:rb≤65536) (g:Int) (hg:(gapsF n p0 pr ra q0 qr rb).1=g):
  Calls Tryz.prog 134 #[.agg #[.slice A0 (pr.length+1) c0, .slice A1 n1 c1, .slice A2 n2 c2, .int .i64 ra], .agg #[.slice B0 (qr.length+1) d0, .slice B1 m1 d1, .slice B2 m2 d2, .int .i64 rb],aP n] w
   fun e w'=>e= .returned (.int .i64 g)∧Below w.heap.size w w':=by
 have h1:=reach_bd hn hp;have h2:=reach_bd hn hq;have hf:=fl3_pos n h0;have hf2:=fl3_le n hn;have hc:=ce3_bd n;have hs:sz3 n=(fl3 n,ce3 n):=by unfold sz3;rw[(far3_iff _ n (by decide) (by decide)).2 (in3_le (by decide) hn)];rfl
 have HF:=Lh (fun W (hW:RdB W A0 (p0::pr))=>farthest_calls p0 pr A0 c0 n W hW (by omega));have HG:=Lh (fun W (hW:RdB W B0 (q0::qr))=>farthest_calls q0 qr B0 d0 ⟨-n.x,-n.y,-n.z⟩ W hW (by omega));have HS:=Lh (fun W=>rsizes_calls n W);rw[farF_reach]at HF;rw[farF_neg n q0 qr hn hq]at HG;rw[hs]at HS;unfold gapsF at hg;simp only at hg;obtain⟨hi,hhi⟩:=nm_ ((reachF n p0 pr).2);obtain⟨lo,hlo⟩:=nm_ ((reachF n q0 qr).1);rw[hhi]at HF h1 hg;rw[hlo]at HG h2 hg;obtain⟨fl,hfl⟩:=nm_ (fl3 n);obtain⟨ce,hce⟩:=nm_ (ce3 n);rw[hfl]at hf hf2 hc HS hg;rw[hce]at hc HS hg;simp only at HS;have HA:=Lh hA;have HB:=Lh hB;obtain⟨N0,hN0⟩:=nm_ (pr.length+1);obtain⟨M0,hM0⟩:=nm_ (qr.length+1);rw[hN0]at HF⊢;rw[hM0]at HG⊢;obtain⟨nx,ny,nz⟩:=n;obtain⟨i1,i2,i3,i4,i5,i6⟩:=hn;simp only at i1 i2 i3 i4 i5 i6;have e1:wrap64 (-nx)= -nx:=by unfold wrap64;omega
 have e2:wrap64 (-ny)= -ny:=by unfold wrap64;omega
 have e3:wrap64 (-nz)= -nz:=by unfold wrap64;omega
 have e4:IntKind.i64.wrap (-nx)= -nx:=iw_id _ (by omega) (by omega);have e5:IntKind.i64.wrap (-ny)= -ny:=iw_id _ (by omega) (by omega);have e6:IntKind.i64.wrap (-nz)= -nz:=iw_id _ (by omega) (by omega);have e7:IntKind.i64.wrap lo=lo:=iw_id _ (by omega) (by omega);obtain⟨s,hss⟩:=nm_ (lo-hi);have e8:IntKind.i64.wrap (lo-hi)=s:=by rw[←hss];exact iw_id _ (by omega) (by omega)
 have e9:wrap64 (lo-hi)=s:=by rw[←hss];unfold wrap64;omega
 have hs1: -1125899906842624≤s∧s≤1125899906842624:=by omega
 rw[hss]at hg;have E9:=Lh e9;clear hA hB hs hhi hlo hfl hce hN0 hM0 hp hq h0 hss h1 h2;have z0:=three0 w (.cells #[.slice A0 N0 c0, .slice A1 n1 c1, .slice A2 n2 c2, .int .i64 ra] 35) (.cells #[.slice B0 M0 d0, .slice B1 m1 d1, .slice B2 m2 d2, .int .i64 rb] 35) (.cells #[.int .i64 nx, .int .i64 ny, .int .i64 nz] 23);have z1:=three1 w (.cells #[.slice A0 N0 c0, .slice A1 n1 c1, .slice A2 n2 c2, .int .i64 ra] 35) (.cells #[.slice B0 M0 d0, .slice B1 m1 d1, .slice B2 m2 d2, .int .i64 rb] 35) (.cells #[.int .i64 nx, .int .i64 ny, .int .i64 nz] 23);have z2:=three2 w (.cells #[.slice A0 N0 c0, .slice A1 n1 c1, .slice A2 n2 c2, .int .i64 ra] 35) (.cells #[.slice B0 M0 d0, .slice B1 m1 d1, .slice B2 m2 d2, .int .i64 rb] 35) (.cells #[.int .i64 nx, .int .i64 ny, .int .i64 nz] 23);have zb:=Go.Joins.below_alloc3 w (.cells #[.slice A0 N0 c0, .slice A1 n1 c1, .slice A2 n2 c2, .int .i64 ra] 35) (.cells #[.slice B0 M0 d0, .slice B1 m1 d1, .slice B2 m2 d2, .int .i64 rb] 35) (.cells #[.int .i64 nx, .int .i64 ny, .int .i64 nz] 23);obtain⟨w1,hw1⟩:=nm_ (((w.alloc (.cells #[.slice A0 N0 c0, .slice A1 n1 c1, .slice A2 n2 c2, .int .i64 ra] 35)).alloc (.cells #[.slice B0 M0 d0, .slice B1 m1 d1, .slice B2 m2 d2, .int .i64 rb] 35)).alloc (.cells #[.int .i64 nx, .int .i64 ny, .int .i64 nz] 23));rw[hw1]at z0 z1 z2 zb;have hw1':=Lh hw1;have Z0:=Lh z0;have Z1:=Lh z1;have Z2:=Lh z2;have ZB:=Lh zb;clear hw1 z0 z1 z2 zb;go_enter Tryz.func134,Tryz.ntmps134;go_wp2_with fail;rw[hw1'.out];refine(HF.out w1 (HA.below ZB.out)).mono ?_;rintro e w2 ⟨rfl,hb⟩;have ZB2:=Lh (bthen ZB.out hb);have Y1:=up_ hb Z1;have Y2:=up_ hb Z2;have Y0:=up_ hb Z0;have x0:w2.cell? ⟨w.heap.size+1,0,none⟩=some (.slice B0 M0 d0):=(blk_cell Y1.out 0).trans rfl;obtain⟨y0,y1,y2,_⟩:=f3_ (w.heap.size+2) Y2.out;have l0:w.heap.size<w2.heap.size:=blk_lt Y0.out;have l1:w.heap.size+1<w2.heap.size:=blk_lt Y1.out;have l2:w.heap.size+2<w2.heap.size:=blk_lt Y2.out;clear hb;go_wp2_with fail;refine(HG.out w2 (HB.below ZB2.out)).mono ?_;rintro e w3 ⟨rfl,hb⟩;have ZB3:=Lh (bthen ZB2.out hb);have X0:=up_ hb Y0;have X1:=up_ hb Y1;have X2:=up_ hb Y2;clear x0 y0 y1 y2 l0 l1 l2 hb;obtain⟨y0,y1,y2,l2⟩:=f3_ (w.heap.size+2) X2.out;go_wp2_with fail;refine(HS.out w3).mono ?_;rintro e w4 ⟨rfl,hb⟩;have ZB4:=Lh (bthen ZB3.out hb);have V0:=up_ hb X0;have V1:=up_ hb X1;clear y0 y1 y2 l2 hb e1 e2 e3 e4 e5 e6 e7;have x3:w4.cell? ⟨w.heap.size,3,none⟩=some (.int .i64 ra):=(blk_cell V0.out 3).trans rfl;have y3:w4.cell? ⟨w.heap.size+1,3,none⟩=some (.int .i64 rb):=(blk_cell V1.out 3).trans rfl;have l0:w.heap.size<w4.heap.size:=blk_lt V0.out;have l1:w.heap.size+1<w4.heap.size:=blk_lt V1.out;have c1:(ce == 0)=false:=by simp;omega
 have c2:(fl == 0)=false:=by simp;omega
 by_cases hs0:0≤s
 ·have hv:gapV s ce fl ra rb=s / ce-ra-rb:=if_pos hs0;rw[hv]at hg;have q1:0≤s / ce:=Int.ediv_nonneg hs0 (by omega);have q2:s / ce≤s:=Int.ediv_le_self _ hs0;have t1:IntKind.i64.wrap (s.tdiv ce)=s / ce:=by rw[Int.tdiv_eq_ediv_of_nonneg hs0];exact iw_id _ (by omega) (by omega)
  have t2:IntKind.i64.wrap (s / ce-ra)=s / ce-ra:=iw_id _ (by omega) (by omega);have t3:IntKind.i64.wrap (s / ce-ra-rb)=s / ce-ra-rb:=iw_id _ (by omega) (by omega);have HG2:=Lh hg;clear hv hg;go_wp2
  go_quiet (fail)
  go_wp2
  go_ret
  exact⟨by rw[←HG2.out];rfl,pw_below_drewN ZB4.out _⟩
 ·have hv:gapV s ce fl ra rb= -((-s+fl-1) / fl)-ra-rb:=if_neg hs0;rw[hv]at hg;have q0:0≤ -s+fl-1:=by omega
  have q1:0≤(-s+fl-1) / fl:=Int.ediv_nonneg q0 (by omega);have q2:(-s+fl-1) / fl≤ -s+fl-1:=Int.ediv_le_self _ q0;have t0:IntKind.i64.wrap (-s)= -s:=iw_id _ (by omega) (by omega);have t0':IntKind.i64.wrap (-s+fl)= -s+fl:=iw_id _ (by omega) (by omega);have t0'':IntKind.i64.wrap (-s+fl-1)= -s+fl-1:=iw_id _ (by omega) (by omega);have t1:IntKind.i64.wrap ((-s+fl-1).tdiv fl)=(-s+fl-1) / fl:=by rw[Int.tdiv_eq_ediv_of_nonneg q0];exact iw_id _ (by omega) (by omega)
  have t1':IntKind.i64.wrap (-((-s+fl-1) / fl))= -((-s+fl-1) / fl):=iw_id _ (by omega) (by omega);have t2:IntKind.i64.wrap (-((-s+fl-1) / fl)-ra)= -((-s+fl-1) / fl)-ra:=iw_id _ (by omega) (by omega);have t3:IntKind.i64.wrap (-((-s+fl-1) / fl)-ra-rb)= -((-s+fl-1) / fl)-ra-rb:=iw_id _ (by omega) (by omega);have hs':decide (0≤s)=false:=by simpa using hs0
  have hs3:s<0:=by omega
  have HG2:=Lh hg;clear hv hg hs0;go_wp2
  go_quiet (fail)
  go_wp2
  go_ret
  exact⟨by rw[←HG2.out];rfl,pw_below_drewN ZB4.out _⟩
def rapStep (a0:P3)(ar:List P3)(ra:Int)(b0:P3)(br:List P3)(rb:Int)(s:(P3×Int)×Bool)(n:P3):(P3×Int)×Bool:=
 (if s.2=true∨s.1.2<(gapsF n a0 ar ra b0 br rb).1 then(n,(gapsF n a0 ar ra b0 br rb).1)else s.1,false)
def rapF (a0:P3)(ar:List P3)(ra:Int)(b0:P3)(br:List P3)(rb:Int)(l:List P3):(P3×Int)×Bool:=
 l.foldl (rapStep a0 ar ra b0 br rb) ((⟨0,0,1048576⟩,-ra-rb),true)
theorem rapF_snoc (a0:P3)(ar:List P3)(ra:Int)(b0:P3)(br:List P3)(rb:Int)(l:List P3)(k:Nat)(h:k<l.length):rapF a0 ar ra b0 br rb (l.take (k+1))=rapStep a0 ar ra b0 br rb (rapF a0 ar ra b0 br rb (l.take k)) l[k]:=by
 unfold rapF;rw[List.take_succ_eq_append_getElem h,List.foldl_append];rfl
theorem rapF_first (a0:P3)(ar:List P3)(ra:Int)(b0:P3)(br:List P3)(rb:Int)(l:List P3)(k:Nat)(h:k≤l.length):(rapF a0 ar ra b0 br rb (l.take k)).2=decide (k=0):=by
 cases k with
 |zero=>rfl
 |succ k=>rw[rapF_snoc _ _ _ _ _ _ _ _ (by omega)];rfl
theorem ng3_neg (n:P3):ng3 (ng3 n)=n:=by unfold ng3;simp
theorem ng3_in {n:P3}{m:Int}(h:in3 m n):in3 m (ng3 n):=by unfold in3 ng3 at*;simp only;omega
theorem ng3_ne {n:P3}(h:n≠⟨0,0,0⟩):ng3 n≠⟨0,0,0⟩:=fun e=>h (by rw[←ng3_neg n,e];rfl)
theorem fl3_neg (n:P3):fl3 (ng3 n)=fl3 n∧ce3 (ng3 n)=ce3 n:=by
 have e:dotI (ng3 n) (ng3 n)=dotI n n:=by unfold dotI ng3;simp only[Int.neg_mul_neg]
 unfold ce3 fl3;rw[e];exact⟨rfl,rfl⟩
theorem reach_neg {n p0:P3}{r:List P3}(hn:in3 1048576 n)(hp:∀p∈p0::r,in3 16777216 p):(reachF (ng3 n) p0 r).2= -(reachF n p0 r).1∧(reachF (ng3 n) p0 r).1= -(reachF n p0 r).2:=by
 have h1:=farF_neg n p0 r hn hp;have h2:=farF_neg (ng3 n) p0 r (ng3_in hn) hp;rw[farF_reach]at h1 h2;have e:(⟨-(ng3 n).x,-(ng3 n).y,-(ng3 n).z⟩:P3)=n:=ng3_neg n;rw[e]at h2;refine⟨h1,by omega⟩
theorem gaps_neg {n a0 b0:P3}{ar br:List P3}(ra rb:Int)(hn:in3 1048576 n)(ha:∀p∈a0::ar,in3 16777216 p)(hb:∀p∈b0::br,in3 16777216 p):(gapsF (ng3 n) a0 ar ra b0 br rb).1=(gapsF n a0 ar ra b0 br rb).2:=by
 unfold gapsF;simp only;rw[(reach_neg hn ha).1,(reach_neg hn hb).2,(fl3_neg n).1,(fl3_neg n).2];congr 1;omega
theorem minus_zero {n:P3}(h:in3 1048576 n):minus3 ⟨0,0,0⟩ n=ng3 n:=by
 rw[minus3_eq _ _ (by unfold in3;simp) (in3_le (by decide) h)];unfold ng3;simp
/-- the two tellings of the candidates are one -/
theorem rapF_eq {a0 b0:P3}{ar br:List P3}(ra rb:Int)(ha:∀p∈a0::ar,in3 16777216 p)(hb:∀p∈b0::br,in3 16777216 p)(l:List P3):rapF a0 ar ra b0 br rb (candF l)=apF a0 ar ra b0 br rb l:=by
 have gen:∀(l:List P3) (s:(P3×Int)×Bool),(candF l).foldl (rapStep a0 ar ra b0 br rb) s=l.foldl (apStep a0 ar ra b0 br rb) s:=by
  intro l
  induction l with
  |nil=>intro s;rfl
  |cons x l ih=>
   intro s;have e:candF (x::l)=(if long3 x=⟨0,0,0⟩then[]else[long3 x,ng3 (long3 x)])++candF l:=rfl;rw[e,List.foldl_append,List.foldl_cons,ih];congr 1;unfold apStep;by_cases h:long3 x=⟨0,0,0⟩
   ·rw[if_pos h,if_pos h];rfl
   ·rw[if_neg h,if_neg h,minus_zero (long3_in x)];simp only[List.foldl_cons,List.foldl_nil,rapStep];rw[gaps_neg ra rb (long3_in x) ha hb];simp only[Bool.false_eq_true,false_or]
 exact gen l _
theorem candF_mem {l:List P3}{n:P3}(h:n∈candF l):in3 1048576 n∧n≠⟨0,0,0⟩:=by
 unfold candF at h;obtain⟨x,_,h⟩:=List.mem_flatMap.1 h;split at h
 ·simp at h
 ·rename_i h0;simp only[List.mem_cons,List.not_mem_nil,or_false]at h;rcases h with rfl|rfl
  ·exact⟨long3_in x,h0⟩
  ·exact⟨ng3_in (long3_in x),ng3_ne h0⟩
theorem rapart_yes {w:World}{v u:Value}{p a e:List P3}{r:Int}{q b f:List P3}{s:Int}(hv:CoreV w v p a e r)(hu:CoreV w u q b f s)(m:MayP p a e r)(k:MayP q b f s)(R:P3×Int)(hR:apartF p a e r q b f s=R):
  Calls Tryz.prog 87 #[v,u] w fun en w'=>en= .returned (.tuple #[.agg #[.int .i64 R.1.x, .int .i64 R.1.y, .int .i64 R.1.z, .int .i64 R.2], .bool true])∧Below w.heap.size w w':=by
 have HMa:=Lh (fun W (hW:CoreV W v p a e r)=>rmay_calls hW (by have:=m.p1;omega) (by have:=m.a1;omega) (by have:=m.e1;omega));have HMb:=Lh (fun W (hW:CoreV W u q b f s)=>rmay_calls hW (by have:=k.p1;omega) (by have:=k.a1;omega) (by have:=k.e1;omega));rw[(mayF_iff p a e r).2 m]at HMa;rw[(mayF_iff q b f s).2 k]at HMb;have HV:=Lh hv;have HU:=Lh hu;obtain⟨A0,A1,A2,c0,c1,c2,rfl,a0,a1,a2,_⟩:=hv.out;obtain⟨B0,B1,B2,d0,d1,d2,rfl,b0,b1,b2,_⟩:=hu.out;have HC:=Lh (fun W (h0:RdB W A0 p) (h1:RdB W A1 a) (h2:RdB W A2 e) (g0:RdB W B0 q) (g1:RdB W B1 b) (g2:RdB W B2 f)=>rcand_calls p a e q b f r s A0 A1 A2 B0 B1 B2 c0 c1 c2 d0 d1 d2 W h0 h1 h2 g0 g1 g2 m k);have HLC:Hid ((candF (rawC p a e q b f)).length≤68000):=Lh (by have:=candF_len (rawC p a e q b f);have:=rawC_len p a e q b f r s m k;omega);obtain⟨p0,pr,rfl,hpI⟩:=m.pts;obtain⟨q0,qr,rfl,hqI⟩:=k.pts;have hra0:=m.r0;have hra1:=m.r1;have hsb0:=k.r0;have hsb1:=k.r1;have hRap:(rapF p0 pr r q0 qr s (candF (rawC (p0::pr) a e (q0::qr) b f))).1=R:=by
  rw[rapF_eq r s hpI hqI];exact hR
 have HG:=Lh (fun(n:P3) (hn:in3 1048576 n∧n≠⟨0,0,0⟩) W (h0:RdB W A0 (p0::pr)) (g0:RdB W B0 (q0::qr))=>rgap_calls p0 pr r q0 qr s A0 A1 A2 B0 B1 B2 a.length e.length b.length f.length c0 c1 c2 d0 d1 d2 n W h0 g0 (by have:=m.p1;simp at this;omega) (by have:=k.p1;simp at this;omega) hn.1 hn.2 hpI hqI hra0 hra1 hsb0 hsb1 _ rfl);have HCM:=Lh (fun n (hn:n∈candF (rawC (p0::pr) a e (q0::qr) b f))=>candF_mem hn);obtain⟨C,hC⟩:=nm_ (candF (rawC (p0::pr) a e (q0::qr) b f));rw[hC]at HC HLC hRap HCM;have HRap:=Lh hRap;have H0:=Lh a0;have H1:=Lh a1;have H2:=Lh a2;have G0:=Lh b0;have G1:=Lh b1;have G2:=Lh b2;obtain⟨np,hnp⟩:=nm_ ((p0::pr).length);obtain⟨na,hna⟩:=nm_ a.length;obtain⟨ne,hne⟩:=nm_ e.length;obtain⟨mp,hmp⟩:=nm_ ((q0::qr).length);obtain⟨ma,hma⟩:=nm_ b.length;obtain⟨me,hme⟩:=nm_ f.length;have hnp':pr.length+1=np:=hnp;have hmp':qr.length+1=mp:=hmp;rw[hnp',hmp']at HG;rw[hnp]at HC HMa HV⊢;rw[hmp]at HC HMb HU⊢;rw[hna]at HC HG HMa HV⊢;rw[hne]at HC HG HMa HV⊢;rw[hma]at HC HG HMb HU⊢;rw[hme]at HC HG HMb HU⊢;clear hv hu m k hR hRap hC a0 a1 a2 b0 b1 b2 hnp hna hne hmp hma hme hnp' hmp' hpI hqI;obtain⟨⟨Rx,Ry,Rz⟩,Rg⟩:=R;have z0:=three0 w (.cells #[.slice A0 np c0, .slice A1 na c1, .slice A2 ne c2, .int .i64 r] 35) (.cells #[.slice B0 mp d0, .slice B1 ma d1, .slice B2 me d2, .int .i64 s] 35) (.cells #[.int .i64 0, .int .i64 0, .int .i64 0, .int .i64 0] 60);have z1:=three1 w (.cells #[.slice A0 np c0, .slice A1 na c1, .slice A2 ne c2, .int .i64 r] 35) (.cells #[.slice B0 mp d0, .slice B1 ma d1, .slice B2 me d2, .int .i64 s] 35) (.cells #[.int .i64 0, .int .i64 0, .int .i64 0, .int .i64 0] 60);have z2:=three2 w (.cells #[.slice A0 np c0, .slice A1 na c1, .slice A2 ne c2, .int .i64 r] 35) (.cells #[.slice B0 mp d0, .slice B1 ma d1, .slice B2 me d2, .int .i64 s] 35) (.cells #[.int .i64 0, .int .i64 0, .int .i64 0, .int .i64 0] 60);have zb:=Go.Joins.below_alloc3 w (.cells #[.slice A0 np c0, .slice A1 na c1, .slice A2 ne c2, .int .i64 r] 35) (.cells #[.slice B0 mp d0, .slice B1 ma d1, .slice B2 me d2, .int .i64 s] 35) (.cells #[.int .i64 0, .int .i64 0, .int .i64 0, .int .i64 0] 60);obtain⟨w1,hw1⟩:=nm_ (((w.alloc (.cells #[.slice A0 np c0, .slice A1 na c1, .slice A2 ne c2, .int .i64 r] 35)).alloc (.cells #[.slice B0 mp d0, .slice B1 ma d1, .slice B2 me d2, .int .i64 s] 35)).alloc (.cells #[.int .i64 0, .int .i64 0, .int .i64 0, .int .i64 0] 60));rw[hw1]at z0 z1 z2 zb;have hw1':=Lh hw1;have Z0:=Lh z0;have Z1:=Lh z1;have Z2:=Lh z2;have ZB:=Lh zb;clear hw1 z0 z1 z2 zb;go_enter Tryz.func87,Tryz.ntmps87;go_wp2_with fail;rw[hw1'.out];refine(HMa.out w1 (HV.below ZB.out)).mono ?_;rintro en w2 ⟨rfl,hb⟩;have Y0:=up_ hb Z0;have Y1:=up_ hb Z1;have Y2:=up_ hb Z2;have YB:=Lh (bthen ZB.out hb);clear hb Z0 Z1 Z2;obtain⟨x0,x1,x2,x3,l1⟩:=f4_ (w.heap.size+1) Y1.out;go_wp2_with fail;refine(HMb.out w2 (HU.below YB.out)).mono ?_;rintro en w3 ⟨rfl,hb⟩;have Z0:=up_ hb Y0;have Z1:=up_ hb Y1;have Z2:=up_ hb Y2;have ZB:=Lh (bthen YB.out hb);clear hb Y0 Y1 Y2 YB x0 x1 x2 x3 l1;obtain⟨x0,x1,x2,x3,_⟩:=f4_ w.heap.size Z0.out;obtain⟨y0,y1,y2,y3,_⟩:=f4_ (w.heap.size+1) Z1.out;have l0:w.heap.size<w3.heap.size:=blk_lt Z0.out;have l1:w.heap.size+1<w3.heap.size:=blk_lt Z1.out;have e1:IntKind.i64.wrap (-r)= -r:=iw_id _ (by omega) (by omega);have e2:IntKind.i64.wrap (-r-s)= -r-s:=iw_id _ (by omega) (by omega);have e3:wrap64 (-r)= -r:=by unfold wrap64;omega
 have e4:wrap64 (-r-s)= -r-s:=by unfold wrap64;omega
 have b4:=(Below.refl w3.heap.size w3).alloc (Nat.le_refl _) (.cells #[.int .i64 0, .int .i64 0, .int .i64 1048576, .int .i64 (-r-s)] 60);have a4:=heap_alloc_new w3 (.cells #[.int .i64 0, .int .i64 0, .int .i64 1048576, .int .i64 (-r-s)] 60);obtain⟨w4,hw4⟩:=nm_ (w3.alloc (.cells #[.int .i64 0, .int .i64 0, .int .i64 1048576, .int .i64 (-r-s)] 60));rw[hw4]at b4 a4;have hw4':=Lh hw4;obtain⟨OB,hOB⟩:=nm_ w3.heap.size;rw[hOB]at a4;have hlo:w.heap.size+2<OB:=by rw[←hOB];exact blk_lt Z2.out
 have hOB':=Lh hOB;have V0:=up_ b4 Z0;have V1:=up_ b4 Z1;have V2:=up_ b4 Z2;have V4:=Lh a4;have VB:=Lh (bthen ZB.out b4);clear hw4 hOB b4 a4;go_wp2_with fail;rw[hw4'.out,hOB'.out];refine(HC.out w4 (H0.below VB.out) (H1.below VB.out) (H2.below VB.out) (G0.below VB.out) (G1.below VB.out) (G2.below VB.out)).mono ?_;rintro en w5 ⟨A9,c9,rfl,hr9,hb,hk9⟩
 have S5:=Lh (show ASt w w5 #[.slice A0 np c0, .slice A1 na c1, .slice A2 ne c2, .int .i64 r] #[.slice B0 mp d0, .slice B1 ma d1, .slice B2 me d2, .int .i64 s] OB ((⟨0,0,1048576⟩:P3),-r-s) A9 C from
  ⟨bthen VB.out hb,(hb.block _ (blk_lt V0.out)).trans V0.out,(hb.block _ (blk_lt V1.out)).trans V1.out,(hb.block _ (blk_lt V2.out)).trans V2.out,(hb.block _ (blk_lt V4.out)).trans V4.out,hr9,hlo,fun ad e=>by have:=hk9 ad e;have:=blk_lt V4.out;omega⟩)
 obtain⟨nc,hnc⟩:=nm_ C.length;have NC:=Lh hnc;have hnl:nc≤68000:=by rw[←hnc];exact HLC.out
 rw[hnc];have hI:Hid (rapF p0 pr r q0 qr s (C.take 0)=(((⟨0,0,1048576⟩:P3),-r-s),true)):=Lh rfl;clear hb hr9 hk9 hnc x0 x1 x2 x3 y0 y1 y2 y3 l0 l1 e1 e2 e3 e4 Z0 Z1 Z2 ZB V0 V1 V2 V4 VB HMa HMb HC;go_wp2;go_loopw [10,11] (fun v10 v11 wr=>∃j:Nat,j≤nc∧v10= .int .i64 j∧Hid (ASt w wr #[.slice A0 np c0, .slice A1 na c1, .slice A2 ne c2, .int .i64 r] #[.slice B0 mp d0, .slice B1 ma d1, .slice B2 me d2, .int .i64 s] OB (rapF p0 pr r q0 qr s (C.take j)).1 A9 C)) (fun i _ _=>nc-(intOf i).toNat)
 case atStart=>exact⟨0,by omega,rfl,by rw[hI.out];exact S5⟩
 case round=>
  clear S5;obtain⟨j,hj,rfl,hS⟩:=hrel;obtain⟨wq,hwq⟩:∃x:World,x=wr:=⟨_,rfl⟩;subst hwq;by_cases hlj:j<nc
  ·have hjl:j<C.length:=by rw[NC.out];exact hlj
   obtain⟨gn,on,rfl,lgn,f0,f1,f2⟩:=hS.rd.1.get j hjl;have hn:=HCM.out _ (List.getElem_mem hjl);have hST:=rapF_snoc p0 pr r q0 qr s C j hjl;have hfi:=rapF_first p0 pr r q0 qr s C j (by omega);obtain⟨n,hnn⟩:=nm_ (C[j]);rw[hnn]at f0 f1 f2 hn hST;have HGn:=HG.out n hn;obtain⟨g,hg⟩:=nm_ ((gapsF n p0 pr r q0 qr s).1);rw[hg]at HGn;unfold rapStep at hST;rw[hg]at hST;obtain⟨o,ho⟩:=nm_ (rapF p0 pr r q0 qr s (C.take j));rw[ho]at hS hST hfi;obtain⟨⟨⟨ox,oy,oz⟩,og⟩,ofi⟩:=o;simp only at hfi hST;subst hfi;obtain⟨nx,ny,nz⟩:=n;simp only at f0 f1 f2;have HST:=Lh hST;have HGn:=Lh HGn;obtain⟨x0,x1,x2,x3,_⟩:=f4_ w.heap.size hS.out.z0;obtain⟨y0,y1,y2,y3,_⟩:=f4_ (w.heap.size+1) hS.out.z1;have l0:w.heap.size<wq.heap.size:=blk_lt hS.out.z0;have l1:w.heap.size+1<wq.heap.size:=blk_lt hS.out.z1;have t1:(j:Int)<(nc:Int):=by omega
   have K0:=Lh ((Below.refl wq.heap.size wq).drew);clear hnn hn hg ho hST;go_wp2
   go_region_held3 (fun w'=>w'.cell? ⟨w.heap.size,0,none⟩=some (.slice A0 np c0)∧w'.cell? ⟨w.heap.size,1,none⟩=some (.slice A1 na c1)∧w'.cell? ⟨w.heap.size,2,none⟩=some (.slice A2 ne c2)∧w'.cell? ⟨w.heap.size,3,none⟩=some (.int .i64 r)∧w'.cell? ⟨w.heap.size+1,0,none⟩=some (.slice B0 mp d0)∧w'.cell? ⟨w.heap.size+1,1,none⟩=some (.slice B1 ma d1)∧w'.cell? ⟨w.heap.size+1,2,none⟩=some (.slice B2 me d2)∧w'.cell? ⟨w.heap.size+1,3,none⟩=some (.int .i64 s)∧w'.cell? ⟨gn,on+j*3,none⟩=some (.int .i64 nx)∧w'.cell? ⟨gn,on+j*3+1,none⟩=some (.int .i64 ny)∧w'.cell? ⟨gn,on+j*3+2,none⟩=some (.int .i64 nz))
    (first|(go_keep;done)|exact⟨(KB.cell (p:=⟨_,_,none⟩) l0).trans x0,(KB.cell (p:=⟨_,_,none⟩) l0).trans x1,(KB.cell (p:=⟨_,_,none⟩) l0).trans x2,(KB.cell (p:=⟨_,_,none⟩) l0).trans x3,(KB.cell (p:=⟨_,_,none⟩) l1).trans y0,(KB.cell (p:=⟨_,_,none⟩) l1).trans y1,(KB.cell (p:=⟨_,_,none⟩) l1).trans y2,(KB.cell (p:=⟨_,_,none⟩) l1).trans y3,(KB.cell (p:=⟨_,_,none⟩) lgn).trans f0,(KB.cell (p:=⟨_,_,none⟩) lgn).trans f1,(KB.cell (p:=⟨_,_,none⟩) lgn).trans f2⟩)
    ((go_at_call 134;refine(HGn.out _ (H0.below (bthen hS.below K0.out)) (G0.below (bthen hS.below K0.out))).mono ?_;rintro en w6 ⟨rfl,hb⟩;have KB:=Lh (K0.trans (hb.mono (Nat.le_refl _)))))
   have hS6:=Lh (hS.out.then KB.out);have f0':=(KB.cell (p:=⟨_,_,none⟩) lgn).trans f0;have f1':=(KB.cell (p:=⟨_,_,none⟩) lgn).trans f1;have f2':=(KB.cell (p:=⟨_,_,none⟩) lgn).trans f2;clear x0 x1 x2 x3 y0 y1 y2 y3 l0 l1 f0 f1 f2 lgn hS K0 KB hb HGn;obtain⟨g0,g1,g2,g3,lOB⟩:=f4_ OB hS6.out.ob;obtain⟨h0,h1,h2,h3⟩:=z4_ OB hS6.out.ob;by_cases hj0:j=0
   ·have d0:((j:Int) == 0)=true:=by simp;omega
    have hE:=Lh (show(rapF p0 pr r q0 qr s (C.take (j+1))).1=((⟨nx,ny,nz⟩:P3),g) by rw[HST.out,if_pos (.inl (decide_eq_true hj0))]);have hS7:=Lh (hS6.out.put nx ny nz g);clear hj0;go_wp2
    go_roundw
    case rel=>exact⟨j+1,by omega,by go_num,by rw[hE.out];exact hS7⟩
    case measure=>simp[intOf];omega
   ·have d0:((j:Int) == 0)=false:=by simp;omega
    by_cases hgt:og<g
    ·have d1:decide (og<g)=true:=decide_eq_true hgt;have hE:=Lh (show(rapF p0 pr r q0 qr s (C.take (j+1))).1=((⟨nx,ny,nz⟩:P3),g) by rw[HST.out,if_pos (.inr hgt)]);have hS7:=Lh (hS6.out.put nx ny nz g);clear hj0 hgt;go_wp2
     go_roundw
     case rel=>exact⟨j+1,by omega,by go_num,by rw[hE.out];exact hS7⟩
     case measure=>simp[intOf];omega
    ·have d1:decide (og<g)=false:=decide_eq_false hgt;have hE:=Lh (show(rapF p0 pr r q0 qr s (C.take (j+1))).1=((⟨ox,oy,oz⟩:P3),og) by rw[HST.out,if_neg (by rintro(h|h);exact hj0 (of_decide_eq_true h);exact hgt h)]);clear hj0 hgt;go_wp2
     go_roundw
     case rel=>exact⟨j+1,by omega,by go_num,by rw[hE.out];exact hS6⟩
     case measure=>simp[intOf];omega
  ·obtain rfl:j=nc:=by omega
   have hE:=(show(rapF p0 pr r q0 qr s (C.take j)).1=((⟨Rx,Ry,Rz⟩:P3),Rg) by rw[List.take_of_length_le (by rw[NC.out];exact Nat.le_refl _)];exact HRap.out);rw[hE]at hS;clear hE;obtain⟨g0,g1,g2,g3,lOB⟩:=f4_ OB hS.out.ob;obtain⟨v0,v1,v2,v3,l2⟩:=f4_ (w.heap.size+1+1) hS.out.z2;obtain⟨e0,e1,e2,e3⟩:=z4_ (w.heap.size+1+1) hS.out.z2;obtain⟨V,hV⟩:=nm_ (set4 wq (w.heap.size+1+1) (.int .i64 Rx) (.int .i64 Ry) (.int .i64 Rz) (.int .i64 Rg));have HV2:V.heap[w.heap.size+1+1]?=some (.cells #[.int .i64 Rx, .int .i64 Ry, .int .i64 Rz, .int .i64 Rg] 60 (0,0)):=by rw[←hV];exact blk4_set hS.out.z2 _ _ _ _
   have HBV:Below w.heap.size w V:=by rw[←hV];exact below_set4 hS.below (by omega) _ _ _ _
   have HBV:=Lh HBV;obtain⟨t0,t1,t2,t3,_⟩:=f4_ (w.heap.size+1+1) HV2;clear HV2 hS;go_wp2
   (try rw[hV])
   exact bodyPost_ret (v:= .tuple #[.agg #[.int .i64 Rx, .int .i64 Ry, .int .i64 Rz, .int .i64 Rg], .bool true]) (by simp[results,Tryz.results87,go_sem,t0,t1,t2,t3]) rfl ⟨rfl,HBV.out⟩
/-- May's answer in every later world -/
def RMaySays (w:World)(v:Value)(b:Bool):Prop:=∀w',Below w.heap.size w w'→Calls Tryz.prog 54 #[v] w' fun e w''=>e= .returned (.bool b)∧Below w'.heap.size w' w''
theorem rapart_no (v0 v1 v2 v3 u0 u1 u2 u3:Value)(w:World)(ba bb:Bool)(hab:(ba&&bb)=false)(ha:RMaySays w (.agg #[v0,v1,v2,v3]) ba)(hb:RMaySays w (.agg #[u0,u1,u2,u3]) bb):
  Calls Tryz.prog 87 #[.agg #[v0,v1,v2,v3], .agg #[u0,u1,u2,u3]] w fun e w'=>e= .returned (.tuple #[.agg #[.int .i64 0, .int .i64 0, .int .i64 0, .int .i64 0], .bool false])∧Below w.heap.size w w':=by
 have HA:=Lh ha;have HB:=Lh hb;clear ha hb;have Hb0:=three1 w (.cells #[v0,v1,v2,v3] 35) (.cells #[u0,u1,u2,u3] 35) (.cells #[.int .i64 0, .int .i64 0, .int .i64 0, .int .i64 0] 60);have Hr0:=three2 w (.cells #[v0,v1,v2,v3] 35) (.cells #[u0,u1,u2,u3] 35) (.cells #[.int .i64 0, .int .i64 0, .int .i64 0, .int .i64 0] 60);have HW3:Below w.heap.size w (((w.alloc (.cells #[v0,v1,v2,v3] 35)).alloc (.cells #[u0,u1,u2,u3] 35)).alloc (.cells #[.int .i64 0, .int .i64 0, .int .i64 0, .int .i64 0] 60)):=(((Below.refl _ w).alloc (Nat.le_refl _) _).alloc (by simp) _).alloc (by simp;omega) _;have HB0:=Lh Hb0;have HR0:=Lh Hr0;clear Hb0 Hr0;go_enter Tryz.func87,Tryz.ntmps87;go_wp2_with fail;obtain⟨w3,hw3⟩:=nm_ (((w.alloc (.cells #[v0,v1,v2,v3] 35)).alloc (.cells #[u0,u1,u2,u3] 35)).alloc (.cells #[.int .i64 0, .int .i64 0, .int .i64 0, .int .i64 0] 60));rw[hw3]at HB0 HR0 HW3⊢;clear hw3;refine(HA.out _ HW3).mono ?_;rintro e w4 ⟨rfl,hb4⟩;have Hb4:=(hb4.block _ (blk_lt HB0.out)).trans HB0.out;have Hr4:=(hb4.block _ (blk_lt HR0.out)).trans HR0.out;have HW4:=bthen HW3 hb4;clear HB0 HR0 HW3 hb4;have x0:w4.cell? ⟨w.heap.size+1,0,none⟩=some u0:=(blk_cell Hb4 0).trans rfl;have x1:w4.cell? ⟨w.heap.size+1,1,none⟩=some u1:=(blk_cell Hb4 1).trans rfl;have x2:w4.cell? ⟨w.heap.size+1,2,none⟩=some u2:=(blk_cell Hb4 2).trans rfl;have x3:w4.cell? ⟨w.heap.size+1,3,none⟩=some u3:=(blk_cell Hb4 3).trans rfl;go_wp2_with fail;refine(HB.out _ HW4).mono ?_;rintro e w5 ⟨rfl,hb5⟩;have Hr5:=(hb5.block _ (blk_lt Hr4)).trans Hr4;have HW5:=bthen HW4 hb5;clear Hb4 Hr4 HW4 hb5 x0 x1 x2 x3;obtain⟨v0,v1,v2,v3,_⟩:=f4_ (w.heap.size+1+1) Hr5;obtain⟨f0,f1,f2,f3⟩:=z4_ (w.heap.size+1+1) Hr5;obtain⟨V,hV⟩:=nm_ (set4 w5 (w.heap.size+1+1) (.int .i64 0) (.int .i64 0) (.int .i64 0) (.int .i64 0));have HV:V.heap[w.heap.size+1+1]?=some (.cells #[.int .i64 0, .int .i64 0, .int .i64 0, .int .i64 0] 60 (0,0)):=by rw[←hV];exact blk4_set Hr5 _ _ _ _
 have HBV:Below w.heap.size w V:=by rw[←hV];exact below_set4 HW5 (by omega) _ _ _ _
 obtain⟨t0,t1,t2,t3,_⟩:=f4_ (w.heap.size+1+1) HV;cases ba
 all_goals cases bb
 all_goals (first|(cases hab;done)|skip)
 all_goals clear hab
 all_goals go_wp2
 all_goals (try rw[hV])
 all_goals exact bodyPost_ret (v:= .tuple #[.agg #[.int .i64 0, .int .i64 0, .int .i64 0, .int .i64 0], .bool false]) (by simp[results,Tryz.results87,go_sem,t0,t1,t2,t3]) rfl ⟨rfl,HBV⟩
theorem rapart_all {w:World}{v u:Value}{p a e:List P3}{r:Int}{q b f:List P3}{s:Int}(hv:CoreV w v p a e r)(hu:CoreV w u q b f s)(hl:p.length<9223372036854775807∧a.length<9223372036854775807∧e.length<9223372036854775807)(hk:q.length<9223372036854775807∧b.length<9223372036854775807∧f.length<9223372036854775807)(R:(P3×Int)×Bool)(hR:apartS p a e r q b f s=R):
  Calls Tryz.prog 87 #[v,u] w fun en w'=>en= .returned (.tuple #[.agg #[.int .i64 R.1.1.x, .int .i64 R.1.1.y, .int .i64 R.1.1.z, .int .i64 R.1.2], .bool R.2])∧Below w.heap.size w w':=by
 subst hR;have ha:RMaySays w v (mayF p a e r):=fun W hW=>rmay_calls (hv.below hW) hl.1 hl.2.1 hl.2.2;have hb:RMaySays w u (mayF q b f s):=fun W hW=>rmay_calls (hu.below hW) hk.1 hk.2.1 hk.2.2;obtain⟨A0,A1,A2,c0,c1,c2,hve,_⟩:=hv.out;obtain⟨B0,B1,B2,d0,d1,d2,hue,_⟩:=hu.out;unfold apartS
 cases h:(mayF p a e r&&mayF q b f s)with
 |false=>
  subst hve hue
  exact rapart_no _ _ _ _ _ _ _ _ w _ _ h ha hb
 |true=>
  rw[Bool.and_eq_true]at h;exact rapart_yes hv hu ((mayF_iff p a e r).1 h.1) ((mayF_iff q b f s).1 h.2) _ rfl
end Go.Proofs.YtckdhahceelckaaGreat.G
