/- What the laws of this claim lean on: contracts of functions and plain lemmas; no condition of its own (part 23: XV10, XV11, XW37, XG17). -/
import Derived.Test.YtckdhahceelckaaGreatKQ22
set_option maxHeartbeats 16000000
set_option maxRecDepth 100000
set_option linter.unusedVariables false
set_option linter.unusedSimpArgs false
namespace Go.Proofs.YtckdhahceelckaaGreat.G
open Go.RowKit Go.Proofs.YtckdhahceelckaaGreatW.PrintWords Go.Proofs.YtckdhahceelckaaGreatW.PrintLast Go.Proofs.YtckdhahceelckaaGreatW.PrintMore
attribute [local go_sem] max2_mx min2_mn max_two min_two max_three min_three max_four min_four
attribute [local go_sem high] eqA23 eqA40
theorem smay_calls {w:World}{v:Value}{c:Cr}(h:CrV w v c)(y:P3)(hl:c.p.length≤140737488355328):Calls Tryz.prog 60 #[v,aP y] w fun e w'=>e= .returned (.bool (smay c y))∧Below w.heap.size w w':=by
 obtain⟨p,a,e,r⟩:=c;obtain⟨yx,yy,yz⟩:=y;obtain⟨A0,A1,A2,c0,c1,c2,rfl,h0,h1,h2,k0,k1,k2⟩:=id h.out;have hm:(apartS p a e r [⟨0,0,0⟩] [] [] 0).2=mayF p a e r:=by
  have:=apS_may ⟨p,a,e,r⟩ ⟨[⟨0,0,0⟩],[],[],0⟩;rw[mayOne (x:=⟨0,0,0⟩) (by unfold in3;decide) (by decide) (by decide),Bool.and_true]at this;exact this
 obtain⟨R,hR⟩:=nm_ (apartS p a e r [⟨0,0,0⟩] [] [] 0);have HA:=Lh (fun(W:World) (u v:Value) (h1:CoreV W v p a e r) (h2:CoreV W u [⟨0,0,0⟩] [] [] 0)=>apart_all h1 h2 R hR);rw[hR]at hm;obtain⟨⟨⟨Rx,Ry,Rz⟩,Rg⟩,Ro⟩:=R;simp only at HA hm;obtain⟨NP,hNP⟩:=nm_ p.length;obtain⟨NA,hNA⟩:=nm_ a.length;obtain⟨NE,hNE⟩:=nm_ e.length
 have HS:Hid (smay ⟨p,a,e,r⟩ ⟨yx,yy,yz⟩=(Ro&&decide ((NP:Int)≤16)&&(decide (mx (mx yx yy) yz≤4194304)&&decide (-4194304≤mn (mn yx yy) yz)))):=Lh (by
  unfold smay Cr.may wayOk
  rw[hm]
  simp only
  rw[hNP]
  have:decide (NP≤16)=decide ((NP:Int)≤16):=by by_cases t:NP≤16<;>simp[t]<;>omega
  rw[this])
 have HV:=Lh (show CoreV w (.agg #[.slice A0 p.length c0, .slice A1 a.length c1, .slice A2 e.length c2, .int .i64 r]) p a e r from h);simp only at hl;rw[hNP,hNA,hNE]at HV⊢;rw[hNP]at hl;clear hNP hNA hNE hm hR h h0 h1 h2 k0 k1 k2;have Z0:=Lh (three0 w (.cells #[.slice A0 NP c0, .slice A1 NA c1, .slice A2 NE c2, .int .i64 r] 35) (.cells #[.int .i64 yx, .int .i64 yy, .int .i64 yz] 23) (.cells #[.int .i64 0, .int .i64 0, .int .i64 0] 23));have Z1:=Lh (three1 w (.cells #[.slice A0 NP c0, .slice A1 NA c1, .slice A2 NE c2, .int .i64 r] 35) (.cells #[.int .i64 yx, .int .i64 yy, .int .i64 yz] 23) (.cells #[.int .i64 0, .int .i64 0, .int .i64 0] 23));have Z2:=Lh (three2 w (.cells #[.slice A0 NP c0, .slice A1 NA c1, .slice A2 NE c2, .int .i64 r] 35) (.cells #[.int .i64 yx, .int .i64 yy, .int .i64 yz] 23) (.cells #[.int .i64 0, .int .i64 0, .int .i64 0] 23));have ZB:=Lh (Go.Joins.below_alloc3 w (.cells #[.slice A0 NP c0, .slice A1 NA c1, .slice A2 NE c2, .int .i64 r] 35) (.cells #[.int .i64 yx, .int .i64 yy, .int .i64 yz] 23) (.cells #[.int .i64 0, .int .i64 0, .int .i64 0] 23));go_enter Tryz.func60,Tryz.ntmps60;go_wp2_with fail;obtain⟨w1,hw1⟩:=nm_ (((w.alloc (.cells #[.slice A0 NP c0, .slice A1 NA c1, .slice A2 NE c2, .int .i64 r] 35)).alloc (.cells #[.int .i64 yx, .int .i64 yy, .int .i64 yz] 23)).alloc (.cells #[.int .i64 0, .int .i64 0, .int .i64 0] 23));rw[hw1]at Z0 Z1 Z2 ZB⊢;clear hw1
 with_reducible refine(HA.out w1 _ _ (HV.out.below ZB.out) (ball_core w1 _ 0 0 0 0 1 (Nat.le_refl _) Z2.out)).mono ?_
 rintro e w2 ⟨rfl,hb⟩;have Z0:=up_ hb Z0;have Z1:=up_ hb Z1;have ZB:=Lh (bthen ZB.out hb);have x0:w2.cell? ⟨w.heap.size,0,none⟩=some (.slice A0 NP c0):=(blk_cell Z0.out 0).trans rfl;obtain⟨y0,y1,y2,_⟩:=f3_ (w.heap.size+1) Z1.out;have l0:w.heap.size<w2.heap.size:=blk_lt Z0.out;have l1:w.heap.size+1<w2.heap.size:=blk_lt Z1.out;have ZB2:=Lh (bthen ZB.out ((Below.refl _ w2).alloc (Nat.le_refl _) (.cells #[.int .i64 Rx, .int .i64 Ry, .int .i64 Rz, .int .i64 Rg] 60)));clear hb HA HV Z2
 cases Ro with
 |false=>
  have HS2:=Lh (HS.trans (by simp:_=false));clear HS;go_wp2
  go_ret
  exact⟨by rw[HS2.out];rfl,ZB2.out⟩
 |true=>
  by_cases t1:(NP:Int)≤16
  ·have e1:decide ((NP:Int)≤16)=true:=decide_eq_true t1;by_cases t2:mx (mx yx yy) yz≤4194304
   ·have e2:decide (mx (mx yx yy) yz≤4194304)=true:=decide_eq_true t2;by_cases t3: -4194304≤mn (mn yx yy) yz
    ·have e3:decide (-4194304≤mn (mn yx yy) yz)=true:=decide_eq_true t3;have HS2:=Lh (HS.trans (by rw[e1,e2,e3];rfl:_=true));clear HS t1 t2 t3;go_wp2
     go_ret
     exact⟨by rw[HS2.out];rfl,ZB2.out⟩
    ·have e3:decide (-4194304≤mn (mn yx yy) yz)=false:=decide_eq_false t3;have HS2:=Lh (HS.trans (by rw[e1,e2,e3];rfl:_=false));clear HS t1 t2 t3;go_wp2
     go_ret
     exact⟨by rw[HS2.out];rfl,ZB2.out⟩
   ·have e2:decide (mx (mx yx yy) yz≤4194304)=false:=decide_eq_false t2;have HS2:=Lh (HS.trans (by rw[e1,e2];rfl:_=false));clear HS t1 t2;go_wp2
    go_ret
    exact⟨by rw[HS2.out];rfl,ZB2.out⟩
  ·have e1:decide ((NP:Int)≤16)=false:=decide_eq_false t1;have HS2:=Lh (HS.trans (by rw[e1];rfl:_=false));clear HS t1;go_wp2
   go_ret
   exact⟨by rw[HS2.out];rfl,ZB2.out⟩
end Go.Proofs.YtckdhahceelckaaGreat.G
namespace Go.Proofs.YtckdhahceelckaaGreat.G
open Go.RowKit Go.Proofs.YtckdhahceelckaaGreatW.PrintWords Go.Proofs.YtckdhahceelckaaGreatW.PrintLast Go.Proofs.YtckdhahceelckaaGreatW.PrintMore
attribute [local go_sem] max2_mx min2_mn max_two min_two max_three min_three max_four min_four
attribute [local go_sem high] eqA23 eqA40
attribute [local go_sem high] eqSn eqSs
theorem clone_own (l:List P3)(n:Nat)(A:Option Addr)(c:Nat)(w:World)(hn:l.length=n)(hr:Rd w A l)(hb:n≤40000):
  Calls Tryz.prog 79 #[.slice A n c] w (OwnPost l w):=by
 have HR:=Lh hr;have HN:=Lh hn
 cases A with
 |none=>
  have h0:l=[]:=by
   cases l with
   |nil=>rfl
   |cons p l=>obtain⟨b,o',e,_⟩:=hr 0 p rfl;cases e
  subst h0;clear hn hr;go_enter Tryz.func79,Tryz.ntmps79;go_wp2
  go_ret
  exact⟨_,rfl,OwnP.nil _ _,Below.refl _ _⟩
 |some ad=>
  clear hn hr;go_enter Tryz.func79,Tryz.ntmps79;have hown:OwnP (w.alloc (.cells #[] 23)) w.heap.size (.slice (some ⟨w.heap.size,0,none⟩) 0 0) []:=⟨rfl, .inr ⟨w.heap.size,0,#[],rfl,Nat.le_refl _,heap_alloc_new w (.cells #[] 23),Nat.le_refl _,by decide,rfl,rfl⟩⟩;have hB:=(Below.refl w.heap.size w).alloc (Nat.le_refl _) (.cells #[] 23);have HOWN:=Lh hown;have HB:=Lh hB;clear hown hB;go_wp2_with(at_builtin;refine appL_ w.heap.size rfl _ _ rfl _ [] l (some ad) _ _ rfl rfl HOWN.out (HR.below HB.out) HN.out (by simp;omega) HB.size ?_;intro v2 w3 hv hg hat)
  go_ret
  exact⟨_,rfl,by simpa using hv,HB.grown hg HB.size (fun k hk=>HOWN.base_ k hk)⟩
theorem CSt.setKeep {w1 W:World}{v:Value}{l:List P3}{keep:List Nat}(h:CSt w1 W v l keep){k:Nat}(hk:k∈keep)(hw:w1.heap.size≤k)(j:Nat)(u:Value):CSt w1 (W.setCell ⟨k,j,none⟩ u) v l keep:=
 ⟨own_setCell h.own (fun e=>(h.ne k hk).1 e.symm) u,h.below.setCell (p:=⟨k,j,none⟩) hw u,fun i hi=>⟨(h.ne i hi).1,by simpa using(h.ne i hi).2⟩⟩
theorem blk_s1 {w:World}{g:Nat}{a b c d:Value}{t:TypeId}(h:w.heap[g]?=some (.cells #[a,b,c,d] t (0,0)))(u:Value):(w.setCell ⟨g,1,none⟩ u).heap[g]?=some (.cells #[a,u,c,d] t (0,0)):=by
 simp[World.setCell,Array.getElem?_modify,h]
theorem blk_s2 {w:World}{g:Nat}{a b c d:Value}{t:TypeId}(h:w.heap[g]?=some (.cells #[a,b,c,d] t (0,0)))(u:Value):(w.setCell ⟨g,2,none⟩ u).heap[g]?=some (.cells #[a,b,u,d] t (0,0)):=by
 simp[World.setCell,Array.getElem?_modify,h]
/-- a list of its own from a world on -/
def RdV (W:World)(b:Nat)(v:Value)(l:List P3):Prop:=∃A c,v= .slice A l.length c∧l.length≤c∧RdB W A l∧∀ad,A=some ad→b≤ad.block
theorem RdV.below {W W1:World}{b:Nat}{v:Value}{l:List P3}(h:RdV W b v l)(hb:Below W.heap.size W W1):RdV W1 b v l:=by
 obtain⟨A,c,e,h1,h2,h3⟩:=h;exact⟨A,c,e,h1,h2.below hb,h3⟩
theorem wmul16 (x k:Int)(hx: -4194304≤x∧x≤4194304)(h0:0≤k)(h1:k≤16):wrap64 (x*k)=x*k∧wrap64 ((x*k).tdiv 16)=(x*k).tdiv 16:=by
 have a:=tdiv16 x k h0 h1;have hb: -67108864≤x*k∧x*k≤67108864:=by
  have e1:=Int.mul_nonneg (show 0≤x+4194304 by omega) h0;have e2:=Int.mul_nonneg (show 0≤4194304-x by omega) h0;rw[Int.add_mul]at e1;rw[Int.sub_mul]at e2;omega
 unfold wrap64;omega
def TrailPost (t:Cr)(w:World)(en:Ending)(w':World):Prop:=∃v,en= .returned v∧CrV w' v t∧Below w.heap.size w w'
theorem trail_in (p a e:List P3)(r:Int)(A0 A1 A2:Option Addr)(c0 c1 c2:Nat)(y:P3)(K:Int)(w:World)(hv:CoreV w (.agg #[.slice A0 p.length c0, .slice A1 a.length c1, .slice A2 e.length c2, .int .i64 r]) p a e r)(h0:RdB w A0 p)(h1:RdB w A1 a)(h2:RdB w A2 e)(hl:p.length≤140737488355328):
  Calls Tryz.prog 34 #[.agg #[.slice A0 p.length c0, .slice A1 a.length c1, .slice A2 e.length c2, .int .i64 r],aP y, .int .i64 K] w (TrailPost (trailF ⟨p,a,e,r⟩ y K) w):=by
 have HM:=Lh (fun(W:World) (hW:CoreV W (.agg #[.slice A0 p.length c0, .slice A1 a.length c1, .slice A2 e.length c2, .int .i64 r]) p a e r)=>smay_calls (c:=⟨p,a,e,r⟩) hW y hl);have HYES:=Lh (fun(h:smay ⟨p,a,e,r⟩ y=true)=>(smay_iff ⟨p,a,e,r⟩ y).1 h);have HT1:=Lh (fun(h:smay ⟨p,a,e,r⟩ y=true) (g0:0≤K) (g1:K≤16)=>trailF_yes (c:=⟨p,a,e,r⟩) h g0 g1)
 have HT0:=Lh (fun(h:smay ⟨p,a,e,r⟩ y=false∨K<0∨16<K)=>show trailF ⟨p,a,e,r⟩ y K=Cr0 from if_neg (by
  rintro⟨q0,q1,q2⟩
  rcases h with h|h|h
  ·rw[h]at q0;cases q0
  ·omega
  ·omega))
 obtain⟨S,hS⟩:=nm_ (smay ⟨p,a,e,r⟩ y);rw[hS]at HM HYES HT0 HT1;obtain⟨T,hT⟩:=nm_ (trailF ⟨p,a,e,r⟩ y K);rw[hT]at HT0 HT1⊢;obtain⟨yx,yy,yz⟩:=y;obtain⟨NP,hNP⟩:=nm_ p.length;obtain⟨NA,hNA⟩:=nm_ a.length;obtain⟨NE,hNE⟩:=nm_ e.length;have HNP:=Lh hNP;have HNA:=Lh hNA;have HNE:=Lh hNE;rw[hNP,hNA,hNE]at hv HM⊢;rw[hNP]at hl;have HV:=Lh hv;have H0:=Lh h0;have H1:=Lh h1;have H2:=Lh h2;clear h0 h1 h2 hv hS hT hNP hNA hNE hl;have z0:=three0 w (.cells #[.slice A0 NP c0, .slice A1 NA c1, .slice A2 NE c2, .int .i64 r] 35) (.cells #[.int .i64 yx, .int .i64 yy, .int .i64 yz] 23) (.cells #[.slice none 0 0, .slice none 0 0, .slice none 0 0, .int .i64 0] 35);have z1:=three1 w (.cells #[.slice A0 NP c0, .slice A1 NA c1, .slice A2 NE c2, .int .i64 r] 35) (.cells #[.int .i64 yx, .int .i64 yy, .int .i64 yz] 23) (.cells #[.slice none 0 0, .slice none 0 0, .slice none 0 0, .int .i64 0] 35);have z2:=three2 w (.cells #[.slice A0 NP c0, .slice A1 NA c1, .slice A2 NE c2, .int .i64 r] 35) (.cells #[.int .i64 yx, .int .i64 yy, .int .i64 yz] 23) (.cells #[.slice none 0 0, .slice none 0 0, .slice none 0 0, .int .i64 0] 35);have zb:=Go.Joins.below_alloc3 w (.cells #[.slice A0 NP c0, .slice A1 NA c1, .slice A2 NE c2, .int .i64 r] 35) (.cells #[.int .i64 yx, .int .i64 yy, .int .i64 yz] 23) (.cells #[.slice none 0 0, .slice none 0 0, .slice none 0 0, .int .i64 0] 35);go_enter Tryz.func34,Tryz.ntmps34;go_wp2_with fail;obtain⟨w1,hw1⟩:=nm_ (((w.alloc (.cells #[.slice A0 NP c0, .slice A1 NA c1, .slice A2 NE c2, .int .i64 r] 35)).alloc (.cells #[.int .i64 yx, .int .i64 yy, .int .i64 yz] 23)).alloc (.cells #[.slice none 0 0, .slice none 0 0, .slice none 0 0, .int .i64 0] 35));rw[hw1]at z0 z1 z2 zb⊢;clear hw1
 with_reducible refine(HM.out w1 (HV.out.below zb)).mono ?_
 rintro en w2 ⟨rfl,hb⟩;have Z0:=Lh ((hb.block _ (blk_lt z0)).trans z0);have Z1:=Lh ((hb.block _ (blk_lt z1)).trans z1);have Z2:=Lh ((hb.block _ (blk_lt z2)).trans z2);have ZB:=Lh (bthen zb hb);have H0:=Lh (H0.below ZB.out);have H1:=Lh (H1.below ZB.out);have H2:=Lh (H2.below ZB.out);clear zb z0 z1 z2 hb HM HV
 cases S with
 |false=>
  have HT:=Lh (HT0.out (.inl rfl));clear HT0 HT1 HYES;obtain⟨f0,f1,f2,f3⟩:=z4_ (w.heap.size+2) Z2.out;obtain⟨r0,r1,r2,r3,_⟩:=f4_ (w.heap.size+2) Z2.out;obtain⟨V,hV⟩:=nm_ (set4 w2 (w.heap.size+1+1) (.slice none 0 0) (.slice none 0 0) (.slice none 0 0) (.int .i64 0));have HV:V.heap[w.heap.size+2]?=some (.cells #[.slice none 0 0, .slice none 0 0, .slice none 0 0, .int .i64 0] 35 (0,0)):=by rw[←hV];exact blk4_set Z2.out _ _ _ _
  have HBV:Below w.heap.size w V:=by rw[←hV];exact below_set4 ZB.out (by omega) _ _ _ _
  obtain⟨t0,t1,t2,t3,_⟩:=f4_ (w.heap.size+1+1) HV;go_wp2
  (try rw[hV])
  exact bodyPost_ret (v:= .agg #[.slice none 0 0, .slice none 0 0, .slice none 0 0, .int .i64 0]) (by simp[results,Tryz.results34,go_sem,t0,t1,t2,t3]) rfl ⟨_,rfl,by rw[HT.out];exact⟨none,none,none,0,0,0,rfl,RdB.nil _,RdB.nil _,RdB.nil _,Nat.le_refl _,Nat.le_refl _,Nat.le_refl _⟩,HBV⟩
 |true=>
  by_cases tk0:K<0
  ·have ek0:decide (K<0)=true:=decide_eq_true tk0;have HT:=Lh (HT0.out (.inr (.inl tk0)));clear HT0 HT1 HYES;obtain⟨f0,f1,f2,f3⟩:=z4_ (w.heap.size+2) Z2.out;obtain⟨r0,r1,r2,r3,_⟩:=f4_ (w.heap.size+2) Z2.out;obtain⟨V,hV⟩:=nm_ (set4 w2 (w.heap.size+1+1) (.slice none 0 0) (.slice none 0 0) (.slice none 0 0) (.int .i64 0));have HV:V.heap[w.heap.size+2]?=some (.cells #[.slice none 0 0, .slice none 0 0, .slice none 0 0, .int .i64 0] 35 (0,0)):=by rw[←hV];exact blk4_set Z2.out _ _ _ _
   have HBV:Below w.heap.size w V:=by rw[←hV];exact below_set4 ZB.out (by omega) _ _ _ _
   obtain⟨t0,t1,t2,t3,_⟩:=f4_ (w.heap.size+1+1) HV;go_wp2
   (try rw[hV])
   exact bodyPost_ret (v:= .agg #[.slice none 0 0, .slice none 0 0, .slice none 0 0, .int .i64 0]) (by simp[results,Tryz.results34,go_sem,t0,t1,t2,t3]) rfl ⟨_,rfl,by rw[HT.out];exact⟨none,none,none,0,0,0,rfl,RdB.nil _,RdB.nil _,RdB.nil _,Nat.le_refl _,Nat.le_refl _,Nat.le_refl _⟩,HBV⟩
  have ek0:decide (K<0)=false:=decide_eq_false tk0;by_cases tk1:16<K
  ·have ek1:decide (16<K)=true:=decide_eq_true tk1;have HT:=Lh (HT0.out (.inr (.inr tk1)));clear HT0 HT1 HYES;obtain⟨f0,f1,f2,f3⟩:=z4_ (w.heap.size+2) Z2.out;obtain⟨r0,r1,r2,r3,_⟩:=f4_ (w.heap.size+2) Z2.out;obtain⟨V,hV⟩:=nm_ (set4 w2 (w.heap.size+1+1) (.slice none 0 0) (.slice none 0 0) (.slice none 0 0) (.int .i64 0));have HV:V.heap[w.heap.size+2]?=some (.cells #[.slice none 0 0, .slice none 0 0, .slice none 0 0, .int .i64 0] 35 (0,0)):=by rw[←hV];exact blk4_set Z2.out _ _ _ _
   have HBV:Below w.heap.size w V:=by rw[←hV];exact below_set4 ZB.out (by omega) _ _ _ _
   obtain⟨t0,t1,t2,t3,_⟩:=f4_ (w.heap.size+1+1) HV;go_wp2
   (try rw[hV])
   exact bodyPost_ret (v:= .agg #[.slice none 0 0, .slice none 0 0, .slice none 0 0, .int .i64 0]) (by simp[results,Tryz.results34,go_sem,t0,t1,t2,t3]) rfl ⟨_,rfl,by rw[HT.out];exact⟨none,none,none,0,0,0,rfl,RdB.nil _,RdB.nil _,RdB.nil _,Nat.le_refl _,Nat.le_refl _,Nat.le_refl _⟩,HBV⟩
  have ek1:decide (16<K)=false:=decide_eq_false tk1;obtain⟨hm,hl16,hy⟩:=HYES.out rfl;have m:=Cr.mayP hm;have g0:0≤K:=by omega
  have g1:K≤16:=by omega
  have hl1:NP≤16:=by rw[←HNP.out];exact hl16
  have hl2:NA≤128:=by rw[←HNA.out];exact m.a1
  have hl3:NE≤128:=by rw[←HNE.out];exact m.e1
  have HT:=Lh (HT1.out rfl g0 g1);have HEI:=Lh (far_in (by decide) (by decide) m.ef);have hpi:=far_in (by decide) (by decide) m.pf;have hBB:=partP_bd ⟨yx,yy,yz⟩ K g0 g1 4194304 hy (by decide);have⟨mx1,mx2⟩:=wmul16 yx K ⟨hy.1,hy.2.1⟩ g0 g1;have⟨my1,my2⟩:=wmul16 yy K ⟨hy.2.2.1,hy.2.2.2.1⟩ g0 g1;have⟨mz1,mz2⟩:=wmul16 yz K ⟨hy.2.2.2.2.1,hy.2.2.2.2.2⟩ g0 g1
  have HPX:=Lh (fun k (hk:k<p.length)=>show plusI (partP ⟨yx,yy,yz⟩ K) p[k]=⟨wrap64 (p[k].x+wrap64 ((wrap64 (yx*K)).tdiv 16)),wrap64 (p[k].y+wrap64 ((wrap64 (yy*K)).tdiv 16)),wrap64 (p[k].z+wrap64 ((wrap64 (yz*K)).tdiv 16))⟩ by
   have:=hpi p[k] (List.getElem_mem hk)
   rw[mx1,my1,mz1,mx2,my2,mz2]
   unfold in3 partP at hBB
   unfold in3 at this
   unfold plusI partP wrap64
   simp only[P3.mk.injEq]at this hBB⊢
   omega)
  have HLM:=Lh (fun k (hk:k<p.length)=>show(p++p.map (plusI (partP ⟨yx,yy,yz⟩ K))).take (NP+(k+1))=(p++p.map (plusI (partP ⟨yx,yy,yz⟩ K))).take (NP+k)++[plusI (partP ⟨yx,yy,yz⟩ K) p[k]] by
   have h9:=HNP.out
   rw[show NP+(k+1)=NP+k+1 from rfl,List.take_succ_eq_append_getElem (by rw[List.length_append,List.length_map,HNP.out];omega),List.getElem_append_right (by rw[HNP.out];omega)]
   simp[HNP.out])
  have HLM0:Hid ((p++p.map (plusI (partP ⟨yx,yy,yz⟩ K))).take (NP+0)=p):=Lh (by rw[Nat.add_zero,←HNP.out,List.take_left]);have HLM1:Hid ((p++p.map (plusI (partP ⟨yx,yy,yz⟩ K))).take (NP+NP)=p++p.map (plusI (partP ⟨yx,yy,yz⟩ K))):=Lh (List.take_of_length_le (by rw[List.length_append,List.length_map,HNP.out];exact Nat.le_refl _));have HLL:Hid ((p++p.map (plusI (partP ⟨yx,yy,yz⟩ K))).length≤32):=Lh (by rw[List.length_append,List.length_map,HNP.out];omega);obtain⟨LM,hLM⟩:=nm_ (p++p.map (plusI (partP ⟨yx,yy,yz⟩ K)));rw[hLM]at HLM HLM0 HLM1 HLL HT;have HSH:=Lh (fun W=>short_calls yx yy yz W);obtain⟨s,hs⟩:=nm_ (short3 ⟨yx,yy,yz⟩);rw[hs]at HSH HT
  have HLA:=Lh (fun k (hk:k<e.length)=>show(acrossF ⟨yx,yy,yz⟩ e).take (k+1)=(acrossF ⟨yx,yy,yz⟩ e).take k++[short3 (cross3 e[k] s)] by
   unfold acrossF
   rw[List.take_succ_eq_append_getElem (by rw[List.length_map];exact hk),List.getElem_map,hs])
  have HLAL:Hid ((acrossF ⟨yx,yy,yz⟩ e).length=NE):=Lh (by unfold acrossF;rw[List.length_map];exact HNE.out);obtain⟨LA,hLA⟩:=nm_ (acrossF ⟨yx,yy,yz⟩ e);rw[hLA]at HLA HLAL HT;obtain⟨sx,sy,sz⟩:=s;simp only at HSH;have HCL:=Lh (fun(W:World) (hW:RdB W A0 p)=>clone_own p NP A0 c0 W HNP.out hW.1 (by omega));have HW1:=Lh (fun(W:World) (va:Option Addr) (ca:Nat) (hA:RdB W A1 a) (hB:RdB W va LA)=>with_calls a LA NA NE A1 va c1 ca W HNA.out HLAL.out hA.1 hB.1 (by omega) (by omega));have HW2:=Lh (fun(W:World) (vb:Option Addr) (hA:RdB W A2 e) (hB:RdB W vb [⟨sx,sy,sz⟩])=>with_calls e [⟨sx,sy,sz⟩] NE 1 A2 vb c2 1 W HNE.out rfl hA.1 hB.1 (by omega) (by omega));clear HT0 HT1 HYES hm hl16 m hpi hBB hLM hs hLA tk0 tk1 hy g0 g1 mx1 mx2 my1 my2 mz1 mz2;have x0:w2.cell? ⟨w.heap.size,0,none⟩=some (.slice A0 NP c0):=(blk_cell Z0.out 0).trans rfl;have x3:w2.cell? ⟨w.heap.size,3,none⟩=some (.int .i64 r):=(blk_cell Z0.out 3).trans rfl;have l0:w.heap.size<w2.heap.size:=blk_lt Z0.out;go_wp2_with fail;have HB:=Lh ((Below.refl w2.heap.size w2).drew);have FF:=Lh (show ∀V,Hid (Below (w2.heap.size) w2 V)→V.cell? ⟨w.heap.size,0,none⟩=some (.slice A0 NP c0)∧V.cell? ⟨w.heap.size,3,none⟩=some (.int .i64 r) from fun V HB=>⟨(HB.cell (p:=⟨w.heap.size,0,none⟩) (l0)).trans x0,(HB.cell (p:=⟨w.heap.size,3,none⟩) (l0)).trans x3⟩);refine start_ (n:=8) (S:=fun w'=>w'.cell? ⟨w.heap.size,0,none⟩=some (.slice A0 NP c0)∧w'.cell? ⟨w.heap.size,3,none⟩=some (.int .i64 r)) (ds:=[]) (MT 0 8) (by kernel_rfl) rfl rfl (FF.out _ HB) (fun hE=>?_);obtain⟨wd,hwd⟩:=nm_ w2.drew;rw[hwd]at HB hE⊢;clear hwd;refine pu_ 0 27 (h:=?_);refine pu_ 2 29 (h:=?_);refine ta_ 1 28 hE (h:=?_);refine ta_ 3 30 hE (h:=?_);refine join_ (σ:=Nat×Value) 1 (MT 7 1) (fun s=>[(31,s.2),(32, .agg #[s.2, .slice none 0 0, .slice none 0 0, .int .i64 r]),(7, .pointer (some ⟨s.1,0,none⟩))]) (fun(s:Nat×Value) w'=>match s with|(s1,s2)=>w2.heap.size≤s1∧w'.heap[s1]?=some (.cells #[.slice none 0 0, .slice none 0 0, .slice none 0 0, .int .i64 0] 35 (0,0))∧Below (w2.heap.size) w2 w'∧OwnP w' w2.heap.size s2 p∧s2.ownBlock≠some s1) ?_ ?_;rotate_left
  ·intro hCont;refine two_ (i:=4) (j:=6) (Ni:=some 31) (Nj:=some 7) (MT 5 3) (MB_ 8 79) rfl rfl rfl rfl (by kernel_rfl) (by decide) (by decide) (fun K hK=>?_) (fun K hK=>?_)
   ·skip
    refine gs_ Tryz.func79 #[.slice A0 NP c0] ?_
    with_reducible refine(HCL.out _ (H0.out.below HB.out)).mono ?_
    rintro en w3 ⟨vc,rfl,ho,hb⟩;obtain⟨Av,nv,cv,hvv⟩:∃A n c,vc= .slice A n c:=(by obtain⟨A,c,h,_⟩:=OwnP.rd ho;exact⟨A,_,c,h⟩);subst hvv;have HO:Hid (OwnP _ w2.heap.size (.slice Av nv cv) p):=Lh (own_weaken ho HB.size);have HB:=tm_ HB hb;clear hb ho;refine⟨_,rfl,?_⟩;refine hK.out _ _ (FF.out _ HB) (fun hE=>?_);clear hK K;refine no_ (h:=?_);refine pu_ 5 32 (h:=?_);refine on_ 6 (some 7) (h:=fun K hK=>?_);refine va_ ?_;have HA:=Lh (ha_new HB.out (.cells #[.slice none 0 0, .slice none 0 0, .slice none 0 0, .int .i64 0] 35));have hge:=HB.size;have NE_:=Lh (fun(e0:_=some _)=>Nat.lt_irrefl _ (World.ownsRow.lt HO.out _ e0).2);have HO:=Lh (HO.grown ((Below.refl _ _).alloc (Nat.le_refl _) (.cells #[.slice none 0 0, .slice none 0 0, .slice none 0 0, .int .i64 0] 35)));have HB:=Lh (HB.alloc (Nat.le_trans (Nat.le_refl _) HB.size) (.cells #[.slice none 0 0, .slice none 0 0, .slice none 0 0, .int .i64 0] 35));refine hK.out _ _ (FF.out _ HB) (fun hE=>?_);clear hK K;refine no_ (h:=?_);exact nz_ (hCont (_,_) _ ⟨hge,HA.out,HB.out,HO.out,NE_.out⟩)
   ·skip
    refine va_ ?_;have HA:=Lh (ha_new HB.out (.cells #[.slice none 0 0, .slice none 0 0, .slice none 0 0, .int .i64 0] 35));have hge:=HB.size;have HB:=Lh (HB.alloc (Nat.le_trans (Nat.le_refl _) HB.size) (.cells #[.slice none 0 0, .slice none 0 0, .slice none 0 0, .int .i64 0] 35));refine hK.out _ _ (FF.out _ HB) (fun hE=>?_);clear hK K;refine no_ (h:=?_);refine on_ 4 (some 31) (h:=fun K hK=>?_);refine gs_ Tryz.func79 #[.slice A0 NP c0] ?_
    with_reducible refine(HCL.out _ (H0.out.below HB.out)).mono ?_
    rintro en w3 ⟨vc,rfl,ho,hb⟩;obtain⟨Av,nv,cv,hvv⟩:∃A n c,vc= .slice A n c:=(by obtain⟨A,c,h,_⟩:=OwnP.rd ho;exact⟨A,_,c,h⟩);subst hvv;have NE_:=Lh (fun(e0:(Value.slice Av nv cv).ownBlock=some _)=>Nat.lt_irrefl _ (Nat.lt_of_lt_of_le (blk_lt HA.out) (ho.base_ _ e0)));have HA:=up_ hb HA;have HO:Hid (OwnP _ w2.heap.size (.slice Av nv cv) p):=Lh (own_weaken ho HB.size);have HB:=tm_ HB hb;clear hb ho;refine⟨_,rfl,?_⟩;refine hK.out _ _ (FF.out _ HB) (fun hE=>?_);clear hK K;refine no_ (h:=?_);refine pu_ 5 32 (h:=?_);exact nz_ (hCont (_,_) _ ⟨hge,HA.out,HB.out,HO.out,NE_.out⟩)
  rintro⟨AB,vc⟩ wj ⟨hge,HA,HB,HO,NE_⟩
  (try simp only at hge HA HB HO NE_)
  have HA:=Lh HA;have HB:=Lh HB;have NE_:=Lh NE_;obtain⟨Av,nv,cv,hvv⟩:∃A n c,vc= .slice A n c:=(by obtain⟨A,c,h,_⟩:=OwnP.rd HO;exact⟨A,_,c,h⟩);subst hvv;have HO:=Lh HO;have hE:=FF.out _ HB;refine no_ (h:=?_);refine on_ 7 (none) (h:=fun K hK=>?_);have sc0:World.cell? _ ⟨AB,0,none⟩=some (.slice none 0 0):=(blk_cell HA.out 0).trans rfl;have sf0:=blk_frozen HA.out 0;have sc1:World.cell? _ ⟨AB,1,none⟩=some (.slice none 0 0):=(blk_cell HA.out 1).trans rfl;have sf1:=blk_frozen HA.out 1;have sc2:World.cell? _ ⟨AB,2,none⟩=some (.slice none 0 0):=(blk_cell HA.out 2).trans rfl;have sf2:=blk_frozen HA.out 2;have sc3:World.cell? _ ⟨AB,3,none⟩=some (.int .i64 0):=(blk_cell HA.out 3).trans rfl;have sf3:=blk_frozen HA.out 3;refine skip_ (w1:=?_) (by rfl) rfl ?_ ?_;rotate_left
  ·go_simp;rfl
  have HO:=Lh (own_setCell (own_setCell (own_setCell (own_setCell HO.out (p:=⟨AB,0,none⟩) (fun e0=>NE_.out e0.symm) (.slice Av nv cv)) (p:=⟨AB,1,none⟩) (fun e0=>NE_.out e0.symm) (.slice none 0 0)) (p:=⟨AB,2,none⟩) (fun e0=>NE_.out e0.symm) (.slice none 0 0)) (p:=⟨AB,3,none⟩) (fun e0=>NE_.out e0.symm) (.int .i64 r));have HA:=Lh (bs4 HA.out (.slice Av nv cv) (.slice none 0 0) (.slice none 0 0) (.int .i64 r));have HB:=Lh (bb4 HB.out (Nat.le_trans (Nat.le_refl _) hge) (.slice Av nv cv) (.slice none 0 0) (.slice none 0 0) (.int .i64 r));clear sc0 sf0 sc1 sf1 sc2 sf2 sc3 sf3;refine hK.out _ _ (FF.out _ HB) (fun hE=>?_);clear hK K;refine done_ (by kernel_rfl) ?_;obtain⟨w3,hwn⟩:=nm_ (((((wj.setCell ⟨AB,0,none⟩ (.slice Av nv cv)).setCell ⟨AB,1,none⟩ (.slice none 0 0)).setCell ⟨AB,2,none⟩ (.slice none 0 0)).setCell ⟨AB,3,none⟩ (.int .i64 r)));rw[hwn]at HA HB HO⊢;clear hwn
  have HC3:Hid (CSt w2 w3 (.slice Av nv cv) p [AB]):=Lh ⟨HO.out,HB.out,fun k hk=>by
   rw[List.mem_singleton]at hk
   subst hk
   exact⟨NE_.out,blk_lt HA.out⟩⟩
  have HC3:=Lh (HC3.out.len HLM0.out.symm);have HG:=Lh hge;have C0:=up_ HB.out Z0;have HA3:=HA;clear HA HB HO hge x0 x3 l0 HCL HLM0 NE_ FF;have x0:w3.cell? ⟨w.heap.size,0,none⟩=some (.slice A0 NP c0):=(blk_cell C0.out 0).trans rfl;go_wp2_with fail;go_loopw [36] (fun v36 wr=>∃k:Nat,∃v:Value,k≤NP∧v36= .int .i64 k∧Hid (CSt w2 wr v (LM.take (NP+k)) [AB])∧Hid (wr.heap[AB]?=some (.cells #[v, .slice none 0 0, .slice none 0 0, .int .i64 r] 35 (0,0)))) (fun i _=>NP-(intOf i).toNat)
  case atStart=>exact⟨0,_,by omega,rfl,HC3,HA3⟩
  case round=>
   obtain⟨k,v,hk,rfl,hS,hT⟩:=hrel;clear x0 HC3 HA3;by_cases hlt:k<NP
   ·have hkl:k<p.length:=by rw[HNP.out];exact hlt
    obtain⟨b,o,rfl,lb,e0,e1,e2⟩:=(H0.below hS.below).1.get k hkl;have HX:=Lh (HPX.out k hkl);have HM1:=Lh (HLM.out k hkl);obtain⟨x,hx⟩:=nm_ (p[k]);rw[hx]at e0 e1 e2 HX HM1;obtain⟨xx,xy,xz⟩:=x;simp only at HX e0 e1 e2;rw[HX.out]at HM1;have C1r:=Lh (hS.old Z1.out);obtain⟨q0,q1,q2,lq⟩:=f3_ (w.heap.size+1) C1r.out;have t0:wr.cell? ⟨AB,0,none⟩=some v:=(blk_cell hT.out 0).trans rfl;have lt:AB<wr.heap.size:=blk_lt hT.out;have tk:(k:Int)<(NP:Int):=by omega
    clear hx hkl C1r;have hbA:=((Below.refl _ wr).alloc (Nat.le_refl _) (.cells #[.int .i64 xx, .int .i64 xy, .int .i64 xz] 23)).alloc (by simp) (.cells #[.int .i64 (wrap64 (xx+wrap64 ((wrap64 (yx*K)).tdiv 16))), .int .i64 (wrap64 (xy+wrap64 ((wrap64 (yy*K)).tdiv 16))), .int .i64 (wrap64 (xz+wrap64 ((wrap64 (yz*K)).tdiv 16)))] 23);have hS2:=Lh (hS.grown hbA);have hT2:=Lh ((hbA.block _ lt).trans hT.out);have hR2:=(Rd_one (heap_alloc_new (wr.alloc (.cells #[.int .i64 xx, .int .i64 xy, .int .i64 xz] 23)) (.cells #[.int .i64 (wrap64 (xx+wrap64 ((wrap64 (yx*K)).tdiv 16))), .int .i64 (wrap64 (xy+wrap64 ((wrap64 (yy*K)).tdiv 16))), .int .i64 (wrap64 (xz+wrap64 ((wrap64 (yz*K)).tdiv 16)))] 23))).1;rw[World.size_alloc]at hR2;clear hbA;go_wp2_with(at_builtin;refine appL_ w2.heap.size rfl _ _ rfl _ (LM.take (NP+k)) [⟨wrap64 (xx+wrap64 ((wrap64 (yx*K)).tdiv 16)),wrap64 (xy+wrap64 ((wrap64 (yy*K)).tdiv 16)),wrap64 (xz+wrap64 ((wrap64 (yz*K)).tdiv 16))⟩] _ _ _ rfl rfl hS2.own hR2 rfl (by have:=List.length_take_le (NP+k) LM;simp;omega) hS2.below.size ?_;intro v2 w4 hv2 hg2 hat;obtain⟨Av2,nv2,cv2,hvv⟩:∃A n c,v2= .slice A n c:=(by obtain⟨A,c,h,_⟩:=OwnP.rd hv2;exact⟨A,_,c,h⟩);subst hvv;have hT4:=Lh (hS2.blk hg2 (List.mem_singleton.2 rfl) hT2.out);have hS4:=Lh ((hS2.out.app hv2 hg2 hat).len HM1.out.symm);have u0:w4.cell? ⟨AB,0,none⟩=some v:=(blk_cell hT4.out 0).trans rfl;have u1:w4.frozen? ⟨AB,0,none⟩=false:=blk_frozen hT4.out 0;have lA4:AB<w4.heap.size:=blk_lt hT4.out;clear hv2 hg2 hat)
    go_roundw
    case rel=>exact⟨k+1, .slice Av2 nv2 cv2,by omega,by go_num,Lh (hS4.out.setKeep (List.mem_singleton.2 rfl) HG.out 0 _),Lh (blk40 hT4.out (.slice Av2 nv2 cv2))⟩
    case measure=>simp[intOf];omega
   ·obtain rfl:NP=k:=by omega
    have hS:=Lh (hS.out.len HLM1.out);clear HLM HLM1 HPX;obtain⟨nP,hnP⟩:=nm_ LM.length;obtain⟨Ap,cp,hvp,hlp,hrp,hbp⟩:=hS.own.rdB2;subst hvp;rw[hnP]at hT hlp;have HNM:=Lh hnP;have HLP:=Lh hlp;have HRP:=Lh hrp;have HBP:=Lh (fun(ad:Addr) (ea:Ap=some ad)=>show ad.block≠AB from fun e0=>(hS.out.ne AB (List.mem_singleton.2 rfl)).1 (by rw[ea];show some ad.block=some AB;rw[e0]));have HBW:=Lh hS.below;have C0:=Lh (hS.old Z0.out);have C1:=Lh (hS.old Z1.out);have C2:=Lh (hS.old Z2.out);have H1:=Lh (H1.below HBW.out);have H2:=Lh (H2.below HBW.out);have ZB:=Lh (bthen ZB.out HBW.out);have HGW:=HG;obtain⟨q0,q1,q2,lq⟩:=f3_ (w.heap.size+1) C1.out;clear hnP hlp hrp hbp hS C1 H0 HNP;go_wp2_with fail
    with_reducible refine(HSH.out _).mono ?_
    rintro en w5 ⟨rfl,hb⟩;have HTA:=up_ hb hT;have C0:=up_ hb C0;have C2:=up_ hb C2;have HRP:=Lh (HRP.below hb);have H1:=Lh (H1.below hb);have H2:=Lh (H2.below hb);have ZB:=Lh (bthen ZB.out hb);clear hb hT q0 q1 q2 lq HBW;have x2:w5.cell? ⟨w.heap.size,2,none⟩=some (.slice A2 NE c2):=(blk_cell C0.out 2).trans rfl;have l0:w.heap.size<w5.heap.size:=blk_lt C0.out;have zb6:=(Below.refl _ w5).alloc (Nat.le_refl _) (.cells #[.int .i64 sx, .int .i64 sy, .int .i64 sz] 23);have C5:=Lh (heap_alloc_new w5 (.cells #[.int .i64 sx, .int .i64 sy, .int .i64 sz] 23));have HTA:=up_ zb6 HTA;have C0:=up_ zb6 C0;have C2:=up_ zb6 C2;have HRP:=Lh (HRP.below zb6);have H1:=Lh (H1.below zb6);have H2:=Lh (H2.below zb6);have ZB:=Lh (bthen ZB.out zb6);obtain⟨w6,hw6⟩:=nm_ (w5.alloc (.cells #[.int .i64 sx, .int .i64 sy, .int .i64 sz] 23));rw[hw6]at HTA C0 C2 C5 HRP H1 H2 ZB zb6;have hw6':=Lh hw6;obtain⟨SB,hSB⟩:=nm_ w5.heap.size;rw[hSB]at C5;have HSB:=Lh hSB;have hls:SB<w6.heap.size:=blk_lt C5.out;clear hw6 zb6 hSB;go_wp2_with fail
    (try rw[hw6'.out])
    (try rw[HSB.out])
    go_loopw [76,11] (fun v76 v11 wr=>∃k:Nat,k≤NE∧v76= .int .i64 k∧Hid (CSt w6 wr v11 (LA.take k) [])) (fun i _ _=>NE-(intOf i).toNat)
    case atStart=>exact⟨0,by omega,rfl,Lh (CSt.start w6)⟩
    case round=>
     obtain⟨k,hk,rfl,hS⟩:=hrel;clear x2 l0;obtain⟨wq,hwq⟩:∃x:World,x=wr:=⟨_,rfl⟩;subst hwq;by_cases hlt:k<NE
     ·have hkl:k<e.length:=by rw[HNE.out];exact hlt
      obtain⟨b,o,rfl,lb,e0,e1,e2⟩:=(H2.below hS.below).1.get k hkl;have HM1:=Lh (HLA.out k hkl);obtain⟨x,hx⟩:=nm_ (e[k]);rw[hx]at e0 e1 e2 HM1;obtain⟨xx,xy,xz⟩:=x;simp only at e0 e1 e2;have HX1:=Lh (fun W=>scross_calls xx xy xz sx sy sz W);obtain⟨u,hu⟩:=nm_ (cross3 ⟨xx,xy,xz⟩ ⟨sx,sy,sz⟩);rw[hu]at HX1 HM1;obtain⟨ux,uy,uz⟩:=u;simp only at HX1;have HX2:=Lh (fun W=>short_calls ux uy uz W);obtain⟨d,hd⟩:=nm_ (short3 ⟨ux,uy,uz⟩);rw[hd]at HX2 HM1;obtain⟨dx,dy,dz⟩:=d;simp only at HX2;have C5q:=Lh (hS.old C5.out);obtain⟨s0,s1,s2,ls⟩:=f3_ SB C5q.out;have tk:(k:Int)<(NE:Int):=by omega
      clear hx hu hd hkl;go_wp2_with fail
      with_reducible refine(HX1.out _).mono ?_
      rintro en w7 ⟨rfl,hb7⟩;have hB7:=Lh (((Below.refl _ wq).alloc (Nat.le_refl _) (.cells #[.int .i64 xx, .int .i64 xy, .int .i64 xz] 23)).trans (hb7.mono (by simp)));clear hb7 e0 e1 e2 s0 s1 s2;go_wp2_with fail
      with_reducible refine(HX2.out _).mono ?_
      rintro en w8 ⟨rfl,hb8⟩;have hB8:=Lh (bthen hB7.out hb8);have hB9:=Lh (hB8.alloc hB8.size (.cells #[.int .i64 dx, .int .i64 dy, .int .i64 dz] 23));have hS9:=Lh (hS.grown hB9.out);have hR9:=(Rd_one (heap_alloc_new w8 (.cells #[.int .i64 dx, .int .i64 dy, .int .i64 dz] 23))).1;clear hb8 hB7 hB8 hS;go_wp2_with(at_builtin;refine appL_ w6.heap.size rfl _ _ rfl _ (LA.take k) [⟨dx,dy,dz⟩] _ _ _ rfl rfl hS9.own hR9 rfl (by have:=List.length_take_le k LA;simp;omega) hS9.below.size ?_;intro v2 w4 hv2 hg2 hat;have hS4:=Lh ((hS9.out.app hv2 hg2 hat).len HM1.out.symm);clear hv2 hg2 hat)
      go_roundw
      case rel=>exact⟨k+1,by omega,by go_num,hS4⟩
      case measure=>simp[intOf];omega
     ·obtain rfl:NE=k:=by omega
      have hS:=Lh (hS.out.len (List.take_of_length_le (Nat.le_of_eq HLAL.out)));obtain⟨Aa,ca,hva,hla,hra,hba⟩:=hS.own.rdB2;subst hva;rw[HLAL.out];have HRA:=Lh hra;have HB6:=Lh hS.below;have HTA:=Lh (hS.old HTA.out);have C0:=Lh (hS.old C0.out);have C2:=Lh (hS.old C2.out);have C5:=Lh (hS.old C5.out);have HRP:=Lh (HRP.below HB6.out);have H1:=Lh (H1.below HB6.out);have H2:=Lh (H2.below HB6.out);have ZB:=Lh (bthen ZB.out HB6.out);have x1:wq.cell? ⟨w.heap.size,1,none⟩=some (.slice A1 NA c1):=(blk_cell C0.out 1).trans rfl;have x2:wq.cell? ⟨w.heap.size,2,none⟩=some (.slice A2 NE c2):=(blk_cell C0.out 2).trans rfl;obtain⟨s0,s1,s2,_⟩:=f3_ SB C5.out;have l0:w.heap.size<wq.heap.size:=blk_lt C0.out;have ls:SB<wq.heap.size:=blk_lt C5.out;have lA:AB<wq.heap.size:=blk_lt HTA.out;clear hS hla hra hba hw6' HLA HSH;go_wp2_with fail;have HB:=Lh ((Below.refl wq.heap.size wq).drew);have FF:=Lh (show ∀V,Hid (Below (wq.heap.size) wq V)→V.cell? ⟨w.heap.size,1,none⟩=some (.slice A1 NA c1)∧V.cell? ⟨w.heap.size,2,none⟩=some (.slice A2 NE c2)∧V.cell? ⟨SB,0,none⟩=some (.int .i64 sx)∧V.cell? ⟨SB,1,none⟩=some (.int .i64 sy)∧V.cell? ⟨SB,2,none⟩=some (.int .i64 sz) from fun V HB=>⟨(HB.cell (p:=⟨w.heap.size,1,none⟩) (l0)).trans x1,(HB.cell (p:=⟨w.heap.size,2,none⟩) (l0)).trans x2,(HB.cell (p:=⟨SB,0,none⟩) (ls)).trans s0,(HB.cell (p:=⟨SB,1,none⟩) (ls)).trans s1,(HB.cell (p:=⟨SB,2,none⟩) (ls)).trans s2⟩);refine start_ (n:=13) (S:=fun w'=>w'.cell? ⟨w.heap.size,1,none⟩=some (.slice A1 NA c1)∧w'.cell? ⟨w.heap.size,2,none⟩=some (.slice A2 NE c2)∧w'.cell? ⟨SB,0,none⟩=some (.int .i64 sx)∧w'.cell? ⟨SB,1,none⟩=some (.int .i64 sy)∧w'.cell? ⟨SB,2,none⟩=some (.int .i64 sz)) (ds:=[10,12]) (MT 0 13) (by kernel_rfl) rfl rfl (FF.out _ HB) (fun hE=>?_);obtain⟨wd,hwd⟩:=nm_ wq.drew;rw[hwd]at HB hE⊢;clear hwd;refine pu_ 0 88 (h:=?_);refine pu_ 2 90 (h:=?_);refine pu_ 4 92 (h:=?_);refine ta_ 1 89 hE (h:=?_);refine ta_ 5 93 hE (h:=?_);refine ta_ 6 94 hE (h:=?_);refine join_ (σ:=Nat×Value) 4 (MB_ 13 767) (fun s=>[(91,s.2),(95, .slice (some ⟨s.1,0,none⟩) 1 1),(97, .pointer (some ⟨AB,1,none⟩))]) (fun(s:Nat×Value) w'=>match s with|(s1,s2)=>w'.heap[s1]?=some (.cells #[.int .i64 sx, .int .i64 sy, .int .i64 sz] 23 (0,0))∧Below (wq.heap.size) wq w'∧RdV w' wq.heap.size s2 (withF a LA)) ?_ ?_;rotate_left
      ·intro hCont;refine two_ (i:=3) (j:=7) (Ni:=some 91) (Nj:=some 95) (MT 7 6) (MB_ 13 247) rfl rfl rfl rfl (by kernel_rfl) (by decide) (by decide) (fun K hK=>?_) (fun K hK=>?_)
       ·skip
        refine gs_ Tryz.func82 #[.slice A1 NA c1, .slice Aa NE ca] ?_
        with_reducible refine(HW1.out _ _ _ (H1.out.below HB.out) (HRA.out.below HB.out)).mono ?_
        rintro en w7 ⟨A7,c7,rfl,hlc,hrd,hb,hbs⟩;have HR1:Hid (RdV _ wq.heap.size (.slice A7 (withF a LA).length c7) (withF a LA)):=Lh ⟨A7,c7,rfl,hlc,hrd,fun ad ea=>Nat.le_trans HB.size (hbs ad ea)⟩;have HB:=tm_ HB hb;clear hlc hrd hb hbs;refine⟨_,rfl,?_⟩;refine hK.out _ _ (FF.out _ HB) (fun hE=>?_);clear hK K;refine no_ (h:=?_);refine pu_ 9 97 (h:=?_);refine on_ 7 (some 95) (h:=fun K hK=>?_);refine va_ ?_;have HA:=Lh (ha_new HB.out (.cells #[.int .i64 sx, .int .i64 sy, .int .i64 sz] 23));have HR1:=Lh (HR1.below ((Below.refl _ _).alloc (Nat.le_refl _) (.cells #[.int .i64 sx, .int .i64 sy, .int .i64 sz] 23)));have HB:=Lh (HB.alloc (Nat.le_trans (Nat.le_refl _) HB.size) (.cells #[.int .i64 sx, .int .i64 sy, .int .i64 sz] 23));refine hK.out _ _ (FF.out _ HB) (fun hE=>?_);clear hK K;refine no_ (h:=?_);exact nz_ (hCont (_,_) _ ⟨HA.out,HB.out,HR1.out⟩)
       ·skip
        refine va_ ?_;have HA:=Lh (ha_new HB.out (.cells #[.int .i64 sx, .int .i64 sy, .int .i64 sz] 23));have HB:=Lh (HB.alloc (Nat.le_trans (Nat.le_refl _) HB.size) (.cells #[.int .i64 sx, .int .i64 sy, .int .i64 sz] 23));refine hK.out _ _ (FF.out _ HB) (fun hE=>?_);clear hK K;refine no_ (h:=?_);refine on_ 3 (some 91) (h:=fun K hK=>?_);refine gs_ Tryz.func82 #[.slice A1 NA c1, .slice Aa NE ca] ?_
        with_reducible refine(HW1.out _ _ _ (H1.out.below HB.out) (HRA.out.below HB.out)).mono ?_
        rintro en w7 ⟨A7,c7,rfl,hlc,hrd,hb,hbs⟩;have HA:=up_ hb HA;have HR1:Hid (RdV _ wq.heap.size (.slice A7 (withF a LA).length c7) (withF a LA)):=Lh ⟨A7,c7,rfl,hlc,hrd,fun ad ea=>Nat.le_trans HB.size (hbs ad ea)⟩;have HB:=tm_ HB hb;clear hlc hrd hb hbs;refine⟨_,rfl,?_⟩;refine hK.out _ _ (FF.out _ HB) (fun hE=>?_);clear hK K;refine no_ (h:=?_);refine pu_ 9 97 (h:=?_);exact nz_ (hCont (_,_) _ ⟨HA.out,HB.out,HR1.out⟩)
      rintro⟨sb,va⟩ wj ⟨HA,HB,HR1⟩
      (try simp only at HA HB HR1)
      have HA:=Lh HA;have HB:=Lh HB;obtain⟨A7,c7,rfl,hl7,hr7,hb7⟩:=HR1;have HR7:=Lh hr7;have HL7:=Lh hl7;have HB7:=Lh hb7;obtain⟨n7,hn7⟩:=nm_ ((withF a LA).length);rw[hn7]at HL7⊢;have HN7:=Lh hn7;clear hl7 hr7 hb7 hn7;have hE:=FF.out _ HB;refine no_ (h:=?_);refine on_ 8 (some 96) (h:=fun K hK=>?_);refine gs_ Tryz.func82 #[.slice A2 NE c2, .slice (some ⟨sb,0,none⟩) 1 1] ?_
      with_reducible refine(HW2.out _ _ (H2.out.below HB.out) (Rd_one HA.out)).mono ?_
      rintro en w8 ⟨A8,c8,rfl,hlc,hrd,hb,hbs⟩;have HR7:=Lh (HR7.below hb);have HB8:=Lh (fun(ad:Addr) (ea:A8=some ad)=>Nat.le_trans HB.size (hbs ad ea));have HB:=tm_ HB hb;have HR8:=Lh hrd;have HL8:=Lh hlc;obtain⟨n8,hn8⟩:=nm_ ((withF e [⟨sx,sy,sz⟩]).length);rw[hn8]at HL8⊢;have HN8:=Lh hn8;clear hlc hrd hb hbs hn8 HA;refine⟨_,rfl,?_⟩;refine hK.out _ _ (FF.out _ HB) (fun hE=>?_);clear hK K;refine no_ (h:=?_);refine last_ (i:=10) (N:=none) (MT 11 2) rfl rfl (by kernel_rfl) (by decide) (fun K hK=>?_);have HTB:=Lh ((HB.block _ lA).trans HTA.out);have u1:w8.cell? ⟨AB,1,none⟩=some (.slice none 0 0):=(blk_cell HTB.out 1).trans rfl;have f1:w8.frozen? ⟨AB,1,none⟩=false:=blk_frozen HTB.out 1;refine skip_ (w1:=?_) (by rfl) rfl ?_ ?_;rotate_left
      ·go_simp;rfl
      clear u1 f1;refine hK.out _ _ ?_;clear hK K;refine pu_ 11 98 (h:=?_);refine last_ (i:=12) (N:=none) (MT 13 0) rfl rfl (by kernel_rfl) (by decide) (fun K hK=>?_);have HTC:=Lh (blk_s1 HTB.out (.slice A7 n7 c7));obtain⟨w9,hw9⟩:=nm_ (w8.setCell ⟨AB,1,none⟩ (.slice A7 n7 c7));rw[hw9]at HTC;have hw9':=Lh hw9
      (try rw[hw9])
      clear hw9;have u2:w9.cell? ⟨AB,2,none⟩=some (.slice none 0 0):=(blk_cell HTC.out 2).trans rfl;have f2:w9.frozen? ⟨AB,2,none⟩=false:=blk_frozen HTC.out 2;refine skip_ (w1:=?_) (by rfl) rfl ?_ ?_;rotate_left
      ·go_simp;rfl
      clear u2 f2;refine hK.out _ _ ?_;clear hK K;refine done_ (by kernel_rfl) ?_;have HTD:=Lh (blk_s2 HTC.out (.slice A8 n8 c8));have NP7:=Lh (fun(ad:Addr) (ea:A7=some ad)=>show ad.block≠AB from fun e0=>by have:=HB7.out ad ea;omega);have NP8:=Lh (fun(ad:Addr) (ea:A8=some ad)=>show ad.block≠AB from fun e0=>by have:=HB8.out ad ea;omega);have hge:w2.heap.size≤AB:=HGW.out;have hzz:w.heap.size+2<w2.heap.size:=blk_lt Z2.out;have hAw:w.heap.size≤AB:=by omega
      have hA2:w.heap.size+2≠AB:=by omega
      have p9:=((HRP.below HB.out).setc HBP.out 1 (.slice A7 n7 c7)).setc HBP.out 2 (.slice A8 n8 c8);have a9:=(HR7.out.setc NP7.out 1 (.slice A7 n7 c7)).setc NP7.out 2 (.slice A8 n8 c8);have e9:=(HR8.out.setc NP8.out 1 (.slice A7 n7 c7)).setc NP8.out 2 (.slice A8 n8 c8);have R9:=(Below.heap_setCell (w8.setCell ⟨AB,1,none⟩ (.slice A7 n7 c7)) ⟨AB,2,none⟩ (.slice A8 n8 c8) (w.heap.size+2) hA2).trans ((Below.heap_setCell w8 ⟨AB,1,none⟩ (.slice A7 n7 c7) (w.heap.size+2) hA2).trans ((HB.block _ (blk_lt C2.out)).trans C2.out));have B9:=((bthen ZB.out HB.out).setCell (p:=⟨AB,1,none⟩) hAw (.slice A7 n7 c7)).setCell (p:=⟨AB,2,none⟩) hAw (.slice A8 n8 c8);rw[hw9'.out]at p9 a9 e9 R9 B9;obtain⟨w10,hw10⟩:=nm_ (w9.setCell ⟨AB,2,none⟩ (.slice A8 n8 c8));rw[hw10]at p9 a9 e9 R9 B9 HTD⊢;obtain⟨d0_,d1_,d2_,d3_,lA10⟩:=f4_ AB HTD.out;obtain⟨r0,r1,r2,r3,_⟩:=f4_ (w.heap.size+1+1) R9;obtain⟨f0,f1,f2,f3⟩:=z4_ (w.heap.size+1+1) R9;have T7:=bs4 R9 (.slice Ap nP cp) (.slice A7 n7 c7) (.slice A8 n8 c8) (.int .i64 r);have B7:=bb4 B9 (show w.heap.size≤w.heap.size+2 by omega) (.slice Ap nP cp) (.slice A7 n7 c7) (.slice A8 n8 c8) (.int .i64 r);have p7:=p9.setS R9 (.slice Ap nP cp) (.slice A7 n7 c7) (.slice A8 n8 c8) (.int .i64 r);have a7:=a9.setS R9 (.slice Ap nP cp) (.slice A7 n7 c7) (.slice A8 n8 c8) (.int .i64 r);have e7:=e9.setS R9 (.slice Ap nP cp) (.slice A7 n7 c7) (.slice A8 n8 c8) (.int .i64 r);obtain⟨w11,hw11⟩:=nm_ (((((w10.setCell ⟨w.heap.size+1+1,0,none⟩ (.slice Ap nP cp)).setCell ⟨w.heap.size+1+1,1,none⟩ (.slice A7 n7 c7)).setCell ⟨w.heap.size+1+1,2,none⟩ (.slice A8 n8 c8)).setCell ⟨w.heap.size+1+1,3,none⟩ (.int .i64 r)));have hw11b:((((w10.setCell ⟨w.heap.size+2,0,none⟩ (.slice Ap nP cp)).setCell ⟨w.heap.size+2,1,none⟩ (.slice A7 n7 c7)).setCell ⟨w.heap.size+2,2,none⟩ (.slice A8 n8 c8)).setCell ⟨w.heap.size+2,3,none⟩ (.int .i64 r))=w11:=hw11;rw[hw11b]at T7 B7 p7 a7 e7;have hv11:=Lh hw11;have T7:=Lh T7;have B7:=Lh B7
      have HVF:Hid (CrV w11 (.agg #[.slice Ap nP cp, .slice A7 n7 c7, .slice A8 n8 c8, .int .i64 r]) T):=Lh (by
       rw[HT.out]
       exact⟨Ap,A7,A8,cp,c7,c8,by rw[HNM.out,HN7.out,HN8.out],p7,a7,e7,by rw[HNM.out];exact HLP.out,by rw[HN7.out];exact HL7.out,by rw[HN8.out];exact HL8.out⟩)
      clear hw11 hw11b p7 a7 e7 p9 a9 e9 R9 B9 hw10 hE x1 x2 s0 s1 s2 l0 ls lA HTD HTC HTB HB HR7 HR8 hw9';go_wp2
      (try rw[hv11.out])
      obtain⟨y0,y1,y2,y3,_⟩:=f4_ (w.heap.size+1+1) T7.out;exact bodyPost_ret (v:= .agg #[.slice Ap nP cp, .slice A7 n7 c7, .slice A8 n8 c8, .int .i64 r]) (by simp[results,Tryz.results34,go_sem,y0,y1,y2,y3]) rfl ⟨_,rfl,HVF.out,B7.out⟩
theorem trail_calls {w:World}{v:Value}{c:Cr}(h:CrV w v c)(y:P3)(K:Int)(hl:c.p.length≤140737488355328):Calls Tryz.prog 34 #[v,aP y, .int .i64 K] w (TrailPost (trailF c y K) w):=by
 obtain⟨p,a,e,r⟩:=c;obtain⟨A0,A1,A2,c0,c1,c2,rfl,h0,h1,h2,_⟩:=id h.out;exact trail_in p a e r A0 A1 A2 c0 c1 c2 y K w h h0 h1 h2 hl
end Go.Proofs.YtckdhahceelckaaGreat.G
namespace Go.Proofs.YtckdhahceelckaaGreat.G
open Go.RowKit Go.Proofs.YtckdhahceelckaaGreatW.PrintWords Go.Proofs.YtckdhahceelckaaGreatW.PrintLast Go.Proofs.YtckdhahceelckaaGreatW.PrintMore
attribute [local go_sem] max2_mx min2_mn max_two min_two max_three min_three max_four min_four
attribute [local go_sem high] eqA23
def CoreAt (s:Shp)(q:P7)(w:World)(v:Value):Prop:=∃p a e,CoreIs s p a e∧CoreV w v (p.map (placePt (rowsF q.turn) q.at_)) (waysF (rowsF q.turn) a) (waysF (rowsF q.turn) e) s.radius
theorem CoreAt.below {s:Shp}{q:P7}{w w1:World}{v:Value}(h:CoreAt s q w v)(hb:Below w.heap.size w w1):CoreAt s q w1 v:=by
 obtain⟨p,a,e,h1,h2⟩:=h;exact⟨p,a,e,h1,h2.below hb⟩
theorem CoreAt.setS {s:Shp}{q:P7}{w:World}{v:Value}(h:CoreAt s q w v){g:Nat}{A0 A1 A2:Option Addr}{n0 n1 n2 m0 m1 m2:Nat}{x:Value}{t:TypeId}(hg:w.heap[g]?=some (.cells #[.slice A0 n0 m0, .slice A1 n1 m1, .slice A2 n2 m2,x] t (0,0)))(u0 u1 u2 u3:Value):
  CoreAt s q ((((w.setCell ⟨g,0,none⟩ u0).setCell ⟨g,1,none⟩ u1).setCell ⟨g,2,none⟩ u2).setCell ⟨g,3,none⟩ u3) v:=by
 obtain⟨p,a,e,h1,h2⟩:=h;obtain⟨B0,B1,B2,c0,c1,c2,e1,g0,g1,g2,k⟩:=h2.out;exact⟨p,a,e,h1,⟨B0,B1,B2,c0,c1,c2,e1,g0.setS hg u0 u1 u2 u3,g1.setS hg u0 u1 u2 u3,g2.setS hg u0 u1 u2 u3,k⟩⟩
end Go.Proofs.YtckdhahceelckaaGreat.G
namespace Go.Proofs.YtckdhahceelckaaGreat.G
open Go.RowKit Go.Proofs.YtckdhahceelckaaGreatW.PrintWords
theorem dblS {p:P3}(h:in3 524288 p)(h0:p≠⟨0,0,0⟩):dbl3 p=dbl3 (two3 p):=by
 rw[dbl3,dif_neg];rintro(h1|h1)
 ·rw[(far3_iff _ _ (by omega) (by omega)).2 h]at h1;cases h1
 ·exact h0 h1
theorem dbl_end {p:P3}(h:¬in3 524288 p):dbl3 p=p:=by
 rw[dbl3,dif_pos];left;cases hf:far3 524288 p
 ·exact absurd ((far3_iff _ _ (by omega) (by omega)).1 hf) h
 ·rfl
abbrev E1:P3:=⟨1048576,0,0⟩
abbrev E2:P3:=⟨0,1048576,0⟩
abbrev E3:P3:=⟨0,0,1048576⟩
theorem long_1:long3 ⟨1,0,0⟩=E1:=by
 have e:short3 ⟨1,0,0⟩=⟨1,0,0⟩:=by
  have b:bare3 ⟨1,0,0⟩=⟨1,0,0⟩:=by unfold bare3 div3 gcd3;simp
  rw[short3_eq _ (by unfold in3;simp) (by simp),b,halve3_id _ (by unfold in3;simp),b]
 have s:∀x:Int,1≤x→x≤524288→dbl3 ⟨x,0,0⟩=dbl3 ⟨2*x,0,0⟩:=fun x h1 h2=>by
  have:=dblS (p:=⟨x,0,0⟩) (by unfold in3;simp only;omega) (by simp;omega);rw[this];unfold two3;simp
 unfold long3;rw[e];refine(s 1 (by omega) (by omega)).trans ?_;refine(s 2 (by omega) (by omega)).trans ?_;refine(s 4 (by omega) (by omega)).trans ?_;refine(s 8 (by omega) (by omega)).trans ?_;refine(s 16 (by omega) (by omega)).trans ?_;refine(s 32 (by omega) (by omega)).trans ?_;refine(s 64 (by omega) (by omega)).trans ?_;refine(s 128 (by omega) (by omega)).trans ?_;refine(s 256 (by omega) (by omega)).trans ?_;refine(s 512 (by omega) (by omega)).trans ?_;refine(s 1024 (by omega) (by omega)).trans ?_;refine(s 2048 (by omega) (by omega)).trans ?_;refine(s 4096 (by omega) (by omega)).trans ?_;refine(s 8192 (by omega) (by omega)).trans ?_;refine(s 16384 (by omega) (by omega)).trans ?_;refine(s 32768 (by omega) (by omega)).trans ?_;refine(s 65536 (by omega) (by omega)).trans ?_;refine(s 131072 (by omega) (by omega)).trans ?_;refine(s 262144 (by omega) (by omega)).trans ?_;refine(s 524288 (by omega) (by omega)).trans ?_;exact dbl_end (by unfold in3;simp)
theorem sizes_x:fl3 E1=1048576∧ce3 E1=1048576:=by
 have e:dotI E1 E1=1099511627776:=by unfold dotI;simp
 have a:fl3 E1=1048576:=by
  unfold fl3;rw[e];have:=isq_unique (1099511627776:Int).toNat 1048576 (by decide) (by decide);rw[←this];rfl
 refine⟨a,?_⟩;unfold ce3;rw[a,e];simp
theorem long_zero:long3 ⟨0,0,0⟩=⟨0,0,0⟩:=by
 unfold long3;rw[short3_zero,dbl3,dif_pos (.inr rfl)]
end Go.Proofs.YtckdhahceelckaaGreat.G
