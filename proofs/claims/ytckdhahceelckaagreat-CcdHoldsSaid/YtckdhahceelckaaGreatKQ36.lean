/- What the laws of this claim lean on: contracts of functions and plain lemmas; no condition of its own (part 36: XR2, XG9, XV6). -/
import Derived.Test.YtckdhahceelckaaGreatKQ22
import Derived.Test.YtckdhahceelckaaGreatKQ26
set_option maxHeartbeats 16000000
set_option maxRecDepth 100000
set_option linter.unusedVariables false
set_option linter.unusedSimpArgs false
namespace Go.Proofs.YtckdhahceelckaaGreat.G
open Go.RowKit Go.Proofs.YtckdhahceelckaaGreatW.PrintWords Go.Proofs.YtckdhahceelckaaGreatW.PrintLast Go.Proofs.YtckdhahceelckaaGreatW.PrintMore
attribute [local go_sem] max2_mx min2_mn max_two min_two max_three min_three max_four min_four
attribute [local go_sem high] eqA23
theorem rsizes_calls (p:P3)(w:World):
  Calls Tryz.prog 21 #[aP p] w fun e w'=>e= .returned (.tuple #[.int .i64 (sz3 p).1, .int .i64 (sz3 p).2])∧Below w.heap.size w w':=by
 obtain⟨x,y,z⟩:=p;have hff:=allIn_far 16777216 (by decide) (by decide) [⟨x,y,z⟩]
 cases hf:far3 16777216 ⟨x,y,z⟩with
 |true=>
  have hs:sz3 ⟨x,y,z⟩=(0,0):=by unfold sz3;rw[hf];rfl
  rw[hs];have hi:decide (in3 16777216 ⟨x,y,z⟩)=false:=by
   apply decide_eq_false;intro h;rw[(far3_iff _ _ (by decide) (by decide)).2 h]at hf;cases hf
  have HI:=Lh (fun W=>rin_calls ⟨x,y,z⟩ 16777216 false hi (by decide) (by decide) W);clear hs hf hi hff;go_enter Tryz.func21,Tryz.ntmps21;go_wp2_with fail;refine(HI.out _).mono ?_;rintro e w1 ⟨rfl,hb⟩;go_wp2
  go_ret2
  exact⟨rfl,((Below.refl _ w).alloc (Nat.le_refl _) _).trans (hb.mono (by simp))⟩
 |false=>
  have hin:=(far3_iff _ _ (by decide) (by decide)).1 hf;have hd:=dot3_eq ⟨x,y,z⟩ ⟨x,y,z⟩ 16777216 16777216 hin hin (by decide);have hd1:=dotI_bd ⟨x,y,z⟩ ⟨x,y,z⟩ 16777216 16777216 hin hin;have hd2:=dotI_self ⟨x,y,z⟩;have hs:sz3 ⟨x,y,z⟩=(fl3 ⟨x,y,z⟩,ce3 ⟨x,y,z⟩):=by unfold sz3;rw[hf];rfl
  rw[hs];clear hs;unfold ce3 fl3;obtain⟨s,hs⟩:∃s:Nat,dotI ⟨x,y,z⟩ ⟨x,y,z⟩=s:=⟨_,(Int.toNat_of_nonneg hd2).symm⟩;rw[hs]at hd hd1 hd2⊢;rw[Int.toNat_natCast];have hsb:s≤844424930131968:=by omega
  have HD:=Lh hd;have HI:=Lh (fun W=>rin_calls ⟨x,y,z⟩ 16777216 true (decide_eq_true hin) (by decide) (by decide) W);clear hd hd1 hd2 hs hin hf hff;obtain⟨U,hU⟩:∃U:Int,(if(isq s:Int)*(isq s:Int)<(s:Int)then(isq s:Int)+1 else(isq s:Int))=U:=⟨_,rfl⟩;rw[hU];have HU:=Lh hU;clear hU;go_enter Tryz.func21,Tryz.ntmps21;go_wp2_with fail;refine(HI.out _).mono ?_;rintro e w1 ⟨rfl,hb⟩;have z1:=(hb.block _ (show w.heap.size<(w.alloc (.cells #[.int .i64 x, .int .i64 y, .int .i64 z] 23)).heap.size by simp)).trans (heap_alloc_new w (.cells #[.int .i64 x, .int .i64 y, .int .i64 z] 23));obtain⟨x0,x1,x2,_⟩:=f3_ w.heap.size z1;have hB:=Lh (((Below.refl _ w).alloc (Nat.le_refl _) _).trans (hb.mono (by simp)));clear hb z1;go_wp2_with fail;refine(rdot_calls _ _ _ _ _ _ _).mono ?_;rintro e w2 ⟨rfl,hb⟩;rw[HD.out];have hB:=bthen hB.out hb;clear hb x0 x1 x2 HD HI;go_wp2;go_loopw [6,7,8] (fun v6 v7 v8 wr=>∃(low high:Nat),v6= .int .i64 low∧v7= .int .i64 high∧Hid (BsInv s low high)∧wr=w2) (fun a b _ _=>(intOf b).toNat-(intOf a).toNat)
  case atStart=>exact⟨0,67108864,rfl,rfl,Lh ⟨by omega,by omega,by decide,by decide⟩,rfl⟩
  case round=>
   obtain⟨low,high,rfl,rfl,hi,rfl⟩:=hrel;have hc:=hi.out.c;have hd:=hi.out.d;by_cases hg:high≤low+1
   ·have hdone:=Lh (hi.out.done hg);have ha:=hi.out.a;have hp:(low:Int)*low=(low*low:Nat):=by simp
    obtain⟨m,hm⟩:∃m:Nat,low*low=m:=⟨_,rfl⟩;rw[hm]at hp ha;have t0:decide (1<(high:Int)-(low:Int))=false:=decide_eq_false (by omega);rcases Nat.lt_or_ge m s with hlt|hge
    ·have t1:(((m:Nat):Int) == ((s:Nat):Int))=false:=by simp;omega
     clear hm hg ha;go_wp2
     go_ret2
     refine⟨ret_two (by rw[hdone.out]) ?_,hB⟩;rw[←HU.out,hdone.out,hp,if_pos (by omega)]
    ·have t1:(((m:Nat):Int) == ((s:Nat):Int))=true:=by simp;omega
     clear hm hg;go_wp2
     go_ret2
     refine⟨ret_two (by rw[hdone.out]) ?_,hB⟩;rw[←HU.out,hdone.out,hp,if_neg (by omega)]
   ·have t0:decide (1<(high:Int)-(low:Int))=true:=decide_eq_true (by omega);obtain⟨t,ht⟩:∃t:Nat,(low+high) / 2=t:=⟨_,rfl⟩;have htb:t≤67108864:=by omega
    have hq:((low:Int)+(high:Int)).tdiv 2=(t:Int):=by
     rw[Int.tdiv_eq_ediv_of_nonneg (by omega)];omega
    have hq2:((low:Int)+(high:Int)) / 2=(t:Int):=by omega
    have htt:t*t≤67108864*67108864:=Nat.mul_le_mul htb htb;obtain⟨m,hm⟩:∃m:Nat,t*t=m:=⟨_,rfl⟩;have hp:(t:Int)*t=(m:Int):=by rw[←hm];simp
    rw[hm]at htt;have h3:m≤s→BsInv s t high:=fun h=>⟨by rw[hm];exact h,hi.out.b,by omega,hd⟩;have h4:s<m→BsInv s low t:=fun h=>⟨hi.out.a,by rw[hm];exact h,by omega,htb⟩;have H3:=Lh h3;have H4:=Lh h4;have htl:low<t:=by omega
    have hth:t<high:=by omega
    clear h3 h4 ht hm hg;rcases Nat.lt_or_ge s m with hlt|hge
    ·go_wp2
     go_roundw
     case rel=>exact⟨low,t,by go_num,by go_num,Lh (H4.out hlt),trivial⟩
     case measure=>simp[intOf];omega
    ·go_wp2
     go_roundw
     case rel=>exact⟨t,high,by go_num,by go_num,Lh (H3.out hge),trivial⟩
     case measure=>simp[intOf];omega
end Go.Proofs.YtckdhahceelckaaGreat.G
namespace Go.Proofs.YtckdhahceelckaaGreat.G
open Go.RowKit Go.Proofs.YtckdhahceelckaaGreatW.PrintWords
theorem reach_bd {n p0:P3}{r:List P3}(hn:in3 1048576 n)(h:∀p∈p0::r,in3 16777216 p): -52776558133248≤(reachF n p0 r).1∧(reachF n p0 r).1≤52776558133248∧ -52776558133248≤(reachF n p0 r).2∧(reachF n p0 r).2≤52776558133248:=by
 have each:∀p,in3 16777216 p→ -52776558133248≤dot3 n p∧dot3 n p≤52776558133248:=by
  intro p hp;rw[dot3_eq n p 1048576 16777216 hn hp (by decide)];have:=dotI_bd n p 1048576 16777216 hn hp;omega
 exact reachF_bd n p0 r 52776558133248 (each p0 (h p0 (by simp))) fun p hp=>each p (h p (by simp[hp]))
end Go.Proofs.YtckdhahceelckaaGreat.G
namespace Go.Proofs.YtckdhahceelckaaGreat.G
open Go.RowKit Go.Proofs.YtckdhahceelckaaGreatW.PrintWords Go.Proofs.YtckdhahceelckaaGreatW.PrintLast Go.Proofs.YtckdhahceelckaaGreatW.PrintMore
theorem trail_pts {c:Cr}{y:P3}(h:smay c y=true){k:Int}(h0:0≤k)(h1:k≤16)(ht:(trailF c y k).may=true):∀x∈c.p,in3 16777216 (plusI (partP y k) x):=by
 rw[trailF_yes h h0 h1]at ht;intro x hx;exact far_in (by decide) (by decide) (Cr.mayP ht).pf _ (List.mem_append_right _ (List.mem_map_of_mem hx))
/-- the last one has the furthest points -/
theorem trail_last {c:Cr}{y:P3}(h:smay c y=true)(ht:(trailF c y 16).may=true){k:Int}(h0:0≤k)(h1:k≤16):(trailF c y k).may=true:=by
 refine trail_may h h0 h1 fun x hx=>?_;have e:=trail_pts h (by decide) (by decide) ht x hx;rw[partP_16]at e;have f:=far_in (by decide) (by decide) (Cr.mayP ((smay_iff ..).1 h).1).pf x hx;have a:=tdiv16 y.x k h0 h1;have b:=tdiv16 y.y k h0 h1;have c:=tdiv16 y.z k h0 h1;unfold in3 plusI partP at*;simp only at*;omega
end Go.Proofs.YtckdhahceelckaaGreat.G
