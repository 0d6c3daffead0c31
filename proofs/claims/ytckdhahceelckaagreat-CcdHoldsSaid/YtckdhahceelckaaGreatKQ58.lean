/- What the laws of this claim lean on: contracts of functions and plain lemmas; no condition of its own (part 58: XZ9). -/
import Derived.Test.YtckdhahceelckaaGreatKQ44
import Derived.Test.YtckdhahceelckaaGreatKQ45
import Derived.Test.YtckdhahceelckaaGreatKQ53
import Derived.Test.YtckdhahceelckaaGreatKQ54
set_option maxHeartbeats 16000000
set_option maxRecDepth 100000
set_option linter.unusedVariables false
set_option linter.unusedSimpArgs false
namespace Go.Proofs.YtckdhahceelckaaGreat.G
open Go.RowKit Go.Proofs.YtckdhahceelckaaGreatW.PrintWords Go.Proofs.YtckdhahceelckaaGreatW.PrintLast Go.Proofs.YtckdhahceelckaaGreatW.PrintMore
attribute [local go_sem] max2_mx min2_mn max_two min_two max_three min_three max_four min_four
attribute [local go_sem high] eqA23 eqA40
attribute [local go_sem high] eqA27
theorem holds_x {a b:P3}{r:Int}(h:ShotOk a b r){d:Cr}(g:GoodC d){m:Nat}{x:P3×Int}(hc:(castF (ballC a r) (wayC a b) d).1=(m,x)):0≤x.2↔0≤(apS (ballC a r) d).1.2:=by
 have hok:=h.castOk g.may;constructor
 ·intro hx;have e:=hc;unfold castF at e;rw[if_pos hok]at e;by_cases t:(apS (ballC a r) d).1.2<0
  ·rw[castL_neg t]at e;simp only[Prod.mk.injEq]at e;rw[←e.2]at hx;exact hx
  ·omega
 ·intro h0;by_cases t:x.2<0
  ·have:=(cast_neg hok hc t).2;rw[this]at t;omega
  ·omega
theorem holds_one {a b:P3}{r:Int}(h:ShotOk a b r){l:List Cr}{d:Cr}(hd:d∈l)(g:GoodC d){m:Nat}{x:P3×Int}(hc:(castF (ballC a r) (wayC a b) d).1=(m,x))(h0:0≤(apS (ballC a r) d).1.2):
  holdK a b r l≤m∧m≤16∧∀Q∈d.p,wrap64 (wrap64 (wrap64 (wrap64 (x.2+r)+d.r)*(sz3 x.1).1)-wrap64 (4*(sz3 x.1).2))≤dot3 x.1 (minus3 Q (grP (outP a b (holdK a b r l)))):=by
 have hok:=h.castOk g.may;have hx:=(holds_x h g hc).2 h0;have hm:m≤16:=by
  have:=castF_le (ballC a r) (wayC a b) d;rw[hc]at this;exact this
 have r0:=h.r0;have r1:=h.r1;have d0:=g.r0;have d1:=g.r1;have hr:1≤r+d.r:=by omega
 have F:=free_plain hok (show 1≤(ballC a r).r+d.r from hr) hc hx;have hk:holdK a b r l≤m:=by
  unfold holdK;rw[if_pos h.may];have:=leastH_mem (ballC a r) (wayC a b) l 16 d hd (castF_ok hok) (by rw[hc];exact hx);rw[hc]at this;exact this
 have P:=holds_plain hok hr hc hx hk hm h.grA (in3_le (by decide) (h.endG (Int.natCast_nonneg _) (Int.ofNat_le.2 (Nat.le_trans hk hm))));refine⟨hk,hm,fun Q hQ=>?_⟩;have p:=P Q hQ;rw[sz3_in F.hn];have f0:=fl3_pos x.1 F.h0;have f1:=fl3_le x.1 F.hn;have f2:=ce3_bd x.1;have g1:(x.2+r+d.r)*fl3 x.1≤1125899906842624:=F.g1;have g2:(x.2+r+d.r)*1≤(x.2+r+d.r)*fl3 x.1:=Int.mul_le_mul_of_nonneg_left f0 (by omega);simp only;rw[w64_id (x.2+r) (by omega) (by omega),w64_id (x.2+r+d.r) (by omega) (by omega)];obtain⟨t,ht⟩:=nm_ ((x.2+r+d.r)*fl3 x.1);rw[ht]at p g1 g2⊢;rw[w64_id t (by omega) (by omega),w64_id (4*ce3 x.1) (by omega) (by omega),w64_id _ (by omega) (by omega)];exact p
def freeB (a b:P3)(r:Int)(d:Cr):Bool:=decide ((apS (ballC a r) d).1.2<0) || decide ((castF (ballC a r) (wayC a b) d).1.1=16)
theorem holds_free {a b:P3}{r:Int}(h:ShotOk a b r){l:List Cr}(hl:∀d∈l,GoodC d):l.all (freeB a b r)=decide (holdK a b r l=16):=by
 rw[Bool.eq_iff_iff];simp only[List.all_eq_true,freeB,Bool.or_eq_true,decide_eq_true_eq];constructor
 ·intro H;unfold holdK;rw[if_pos h.may];rcases leastH_at (ballC a r) (wayC a b) l 16 with e|⟨d,hd,h1,h2,h3⟩
  ·exact e
  ·rcases H d hd with n|e
   ·have:=(holds_x h (hl d hd) (m:=(castF (ballC a r) (wayC a b) d).1.1) (x:=(castF (ballC a r) (wayC a b) d).1.2) rfl).1 h2;omega
   ·rw[h3,e]
 ·intro H d hd;by_cases n:(apS (ballC a r) d).1.2<0
  ·exact .inl n
  ·right;have o:=holds_one h hd (hl d hd) (m:=(castF (ballC a r) (wayC a b) d).1.1) (x:=(castF (ballC a r) (wayC a b) d).1.2) rfl (by omega);have:=o.1;have:=o.2.1;omega
theorem beq16 (m:Nat):((m:Int) == 16)=decide (m=16):=by
 rw[Bool.eq_iff_iff];simp only[beq_iff_eq,decide_eq_true_eq];omega
theorem all_snoc {α:Type}(f:α→Bool)(l:List α)(k:Nat)(h:k<l.length):(l.take (k+1)).all f=((l.take k).all f&&f l[k]):=by
 rw[List.take_succ_eq_append_getElem h,List.all_append];simp
theorem ccdHolds_calls {w:World}(f y:P3)(r:Int)(A:Option Addr)(n c:Nat)(A':Option Addr)(n' c':Nat)(ls:List RawS)(lq:List P7)(hf:pI64 f)(hy:pI64 y)(hr:i64 r)(hls:RdW w A ls)(hn:ls.length=n)(hlq:RdQ w A' lq)(hn':lq.length=n')(hb:n≤140737488355328)(hb':n'≤140737488355328):
  Calls Tryz.prog 5 #[.agg (cShot f y r A n c A' n' c')] w fun e w'=>e= .returned (.bool true)∧Below w.heap.size w w':=by
 have HMD:=Lh (fun(W:World) (h1:RdW W A ls) (h2:RdQ W A' lq)=>made_calls f y r A n c A' n' c' ls lq hf hy hr h1 hn h2 hn' hb hb');unfold MadeP at HMD;have HSO:=Lh (shot_ok f y r);have HLS:=Lh hls;have HLQ:=Lh hlq;clear hls hlq hn hn' hf hy hr hb hb';obtain⟨a,ha⟩:=nm_ (fromS f);obtain⟨b,hb⟩:=nm_ (toS f y);obtain⟨ra,hra⟩:=nm_ (radS r);rw[ha,hb,hra]at HMD HSO;clear ha hb hra;have HH1:=Lh (fun(vw:Value) (W:World) l A n c (hl:RdC W A l) (hn:l.length=n) (hnb:n≤140737488355328)=>hold_calls (w:=W) vw a b ra l A n c hl hn hnb HSO.out.a63 HSO.out.b63);have HEI:=Lh (fun l=>(HSO.out.end_ (Int.natCast_nonneg _) (Int.ofNat_le.2 (holdK_le a b ra l)):in3 4672924418048 (outP a b (holdK a b ra l))));have HWAY:=Lh (fun W=>rwayB_calls (w:=W) a b ra HSO.out.a63 HSO.out.b63);unfold WayPost at HWAY;rw[HSO.out.may]at HWAY;have HWE:=Lh (fun(p:P3) (hp:in3 4672924418048 p) (W:World)=>rwayB_calls (w:=W) p b ra (in3_le (by decide) hp) HSO.out.b63);unfold WayPost at HWE;have HIA:=Lh (in3_le (by decide) HSO.out.ha:in3 1125899906842624 a);have HIB:=Lh (in3_le (by decide) HSO.out.hb:in3 1125899906842624 b);have HON:=Lh (fun l d (hd:d∈l) (g:GoodC d) m x hc h0=>holds_one HSO.out (l:=l) (d:=d) hd g (m:=m) (x:=x) hc h0);have HFR:=Lh (fun l (hl:∀d∈l,GoodC d)=>holds_free HSO.out (l:=l) hl);have HCK:=Lh (fun d (g:GoodC d)=>And.intro (castF_ok (HSO.out.castOk g.may)) (show(apS (ballC a ra) d).2=true from by rw[apS_may,HSO.out.ball,g.may];rfl));have HO16:=Lh (outP_16 a b);have HAW:=Lh awake18_calls;have HAP:=Lh (fun(W:World) v u d (hv:CrV W v (ballC a ra)) (hu:CrV W u d)=>apart_all hv hu (apS (ballC a ra) d) rfl);have HCA:=Lh (fun(W:World) v u d (hv:CrV W v (ballC a ra)) (hu:CrV W u d)=>cast_calls hv hu (wayC a b) (show(1:Nat)≤140737488355328 from by decide));unfold CastPost at HCA;obtain⟨HK,hHK⟩:=nm_ (holdK a b ra);have HF1:Hid (∀l,holdF a b ra l=(outP a b (HK l),HK l)):=Lh (fun l=>by rw[←hHK];rfl);have HK16:=Lh (fun l=>holdK_le a b ra l);rw[hHK]at HEI HON HFR HK16;clear hHK;obtain⟨FB,hFB⟩:=nm_ (freeB a b ra);have HFB:Hid (∀d,FB d=(decide ((apS (ballC a ra) d).1.2<0) || decide ((castF (ballC a ra) (wayC a b) d).1.1=16))):=Lh (fun d=>by rw[←hFB];rfl);rw[hFB]at HFR;clear hFB;obtain⟨BA,hBA⟩:=nm_ (ballC a ra);obtain⟨Y,hY⟩:=nm_ (wayC a b);rw[hBA]at HWAY HON HCK HAP HCA HFB;rw[hY]at HWAY HON HCK HCA HFB;clear hBA hY;obtain⟨ax,ay,az⟩:=a;obtain⟨tx,ty,tz⟩:=b;obtain⟨fx,fy,fz⟩:=f;obtain⟨yx,yy,yz⟩:=y;have W:=Lh (Below.refl w.heap.size w);go_enter Tryz.func5,Tryz.ntmps5
 go_upto_region 1 with fail
 have bz:=((Below.refl w.heap.size w).alloc (Nat.le_refl _) (.cells #[.int .i64 fx, .int .i64 fy, .int .i64 fz, .int .i64 yx, .int .i64 yy, .int .i64 yz, .int .i64 r, .slice A n c, .slice A' n' c'] 47));have nz0:=heap_alloc_new w (.cells #[.int .i64 fx, .int .i64 fy, .int .i64 fz, .int .i64 yx, .int .i64 yy, .int .i64 yz, .int .i64 r, .slice A n c, .slice A' n' c'] 47);obtain⟨w1,hwz⟩:=nm_ ((w.alloc (.cells #[.int .i64 fx, .int .i64 fy, .int .i64 fz, .int .i64 yx, .int .i64 yy, .int .i64 yz, .int .i64 r, .slice A n c, .slice A' n' c'] 47)));rw[hwz]at bz nz0⊢;replace W:=Lh (bthen W.out bz);have S:=Lh nz0;clear hwz bz nz0;replace HLS:=Lh (HLS.below W.out);replace HLQ:=Lh (HLQ.below W.out);go_wp2_with fail
 with_reducible refine(HAW.out _).mono ?_
 rintro en w2 ⟨rfl,hb⟩;replace S:=up_ hb S;replace HLS:=Lh (HLS.below hb);replace HLQ:=Lh (HLQ.below hb);replace W:=Lh (bthen W.out hb);clear HAW;clear hb
 go_upto_region 2 with fail
 have s0:w2.cell? ⟨w.heap.size,0,none⟩=some (.int .i64 fx):=(blk_cell S.out 0).trans rfl;have s1:w2.cell? ⟨w.heap.size,1,none⟩=some (.int .i64 fy):=(blk_cell S.out 1).trans rfl;have s2:w2.cell? ⟨w.heap.size,2,none⟩=some (.int .i64 fz):=(blk_cell S.out 2).trans rfl;have s3:w2.cell? ⟨w.heap.size,3,none⟩=some (.int .i64 yx):=(blk_cell S.out 3).trans rfl;have s4:w2.cell? ⟨w.heap.size,4,none⟩=some (.int .i64 yy):=(blk_cell S.out 4).trans rfl;have s5:w2.cell? ⟨w.heap.size,5,none⟩=some (.int .i64 yz):=(blk_cell S.out 5).trans rfl;have s6:w2.cell? ⟨w.heap.size,6,none⟩=some (.int .i64 r):=(blk_cell S.out 6).trans rfl;have s7:w2.cell? ⟨w.heap.size,7,none⟩=some (.slice A n c):=(blk_cell S.out 7).trans rfl;have s8:w2.cell? ⟨w.heap.size,8,none⟩=some (.slice A' n' c'):=(blk_cell S.out 8).trans rfl;have sl:w.heap.size<w2.heap.size:=blk_lt S.out;go_wp2_with fail
 with_reducible refine(HMD.out _ HLS.out HLQ.out).mono ?_
 rintro en w3 ⟨Al,cl,l,rfl,hrd,hlc,hgd,hl3,hb⟩;replace S:=up_ hb S;replace W:=Lh (bthen W.out hb);obtain⟨NL,hNL⟩:=nm_ l.length;rw[hNL]at hlc hl3⊢;have HNL:=Lh hNL;have HRD:=Lh hrd;have HLC:=Lh hlc;have HGD:=Lh hgd;have HL3:=Lh hl3;clear hNL hrd hlc hgd hl3 hb HMD HLS HLQ s0 s1 s2 s3 s4 s5 s6 s7 s8 sl;clear S
 go_upto_region 3 with fail
 have bz:=(((Below.refl w3.heap.size w3).alloc (Nat.le_refl _) (.cells #[.int .i64 ax, .int .i64 ay, .int .i64 az] 27)).alloc (by simp) (.cells #[.int .i64 tx, .int .i64 ty, .int .i64 tz] 27));have nz0:=heap_alloc_new w3 (.cells #[.int .i64 ax, .int .i64 ay, .int .i64 az] 27);replace nz0:=(Below.heap_alloc _ (.cells #[.int .i64 tx, .int .i64 ty, .int .i64 tz] 27) _ (by simp<;>omega)).trans nz0;have nz1:=heap_alloc_new (w3.alloc (.cells #[.int .i64 ax, .int .i64 ay, .int .i64 az] 27)) (.cells #[.int .i64 tx, .int .i64 ty, .int .i64 tz] 27);simp only[World.size_alloc]at nz1;obtain⟨w4,hwz⟩:=nm_ (((w3.alloc (.cells #[.int .i64 ax, .int .i64 ay, .int .i64 az] 27)).alloc (.cells #[.int .i64 tx, .int .i64 ty, .int .i64 tz] 27)));rw[hwz]at bz nz0 nz1⊢;replace HRD:=Lh (HRD.below bz);replace W:=Lh (bthen W.out bz);have HPA:=Lh nz0;have HPB:=Lh nz1;clear hwz bz nz0 nz1
 go_upto_region 4 with fail
 have bz:=((Below.refl w4.heap.size w4).alloc (Nat.le_refl _) (.cells #[.bool false] 54));have nz0:=heap_alloc_new w4 (.cells #[.bool false] 54);obtain⟨w5,hwz⟩:=nm_ ((w4.alloc (.cells #[.bool false] 54)));rw[hwz]at bz nz0⊢;replace HPA:=up_ bz HPA;replace HPB:=up_ bz HPB;replace HRD:=Lh (HRD.below bz);replace W:=Lh (bthen W.out bz);have WK:=Lh nz0;clear hwz bz nz0;obtain⟨x0,x1,x2,xl⟩:=f3_ w3.heap.size HPA.out;obtain⟨k0,k1,k2,kl⟩:=f3_ (w3.heap.size+1) HPB.out;go_wp2_with fail
 with_reducible refine(HH1.out _ _ l Al NL cl HRD.out.rd HNL.out (by have:=HL3.out;omega)).mono ?_
 rintro en w6 ⟨rfl,hb⟩;replace HPA:=up_ hb HPA;replace HPB:=up_ hb HPB;replace WK:=up_ hb WK;replace HRD:=Lh (HRD.below hb);replace W:=Lh (bthen W.out hb);clear HH1;clear hb x0 x1 x2 xl k0 k1 k2 kl;rw[HF1.out];clear HF1;have hei:=HEI.out l;have hk16:=HK16.out l;clear HEI HK16;have HHF:=Lh (HFR.out l (fun d hd=>(HGD.out d hd).1));replace HON:=Lh (HON.out l);clear HFR;obtain⟨KK,hKK⟩:=nm_ (HK l);rw[hKK]at hei hk16 HHF HON⊢;clear hKK HK;have HEQ:Hid (KK=16→outP ⟨ax,ay,az⟩ ⟨tx,ty,tz⟩ KK=⟨tx,ty,tz⟩):=Lh (fun e=>by rw[e];exact HO16.out);clear HO16;obtain⟨E,hE⟩:=nm_ (outP ⟨ax,ay,az⟩ ⟨tx,ty,tz⟩ KK);rw[hE]at hei HEQ HON⊢;clear hE;replace HWE:=Lh (HWE.out E hei);have HIE:=Lh (in3_le (by decide) hei:in3 1125899906842624 E);clear hei;obtain⟨ex,ey,ez⟩:=E;simp only
 go_upto_region 5 with fail
 have bz:=((Below.refl w6.heap.size w6).alloc (Nat.le_refl _) (.cells #[.int .i64 ex, .int .i64 ey, .int .i64 ez] 27));have nz0:=heap_alloc_new w6 (.cells #[.int .i64 ex, .int .i64 ey, .int .i64 ez] 27);obtain⟨w7,hwz⟩:=nm_ ((w6.alloc (.cells #[.int .i64 ex, .int .i64 ey, .int .i64 ez] 27)));rw[hwz]at bz nz0⊢;replace HPA:=up_ bz HPA;replace HPB:=up_ bz HPB;replace WK:=up_ bz WK;replace HRD:=Lh (HRD.below bz);replace W:=Lh (bthen W.out bz);have O1:=Lh nz0;clear hwz bz nz0;obtain⟨x0,x1,x2,xl⟩:=f3_ w3.heap.size HPA.out;obtain⟨k0,k1,k2,kl⟩:=f3_ (w3.heap.size+1) HPB.out;go_wp2_with fail
 with_reducible refine(HWAY.out _).mono ?_
 rintro en w8 ⟨vb,yv,rfl,⟨B0,B1,B2,m0,m1,m2,d0,d1,d2,rb,rfl⟩,hvy,hb⟩;replace HPA:=up_ hb HPA;replace HPB:=up_ hb HPB;replace WK:=up_ hb WK;replace O1:=up_ hb O1;replace HRD:=Lh (HRD.below hb);replace W:=Lh (bthen W.out hb);obtain⟨hcv,rfl⟩:=hvy HIA.out HIB.out;have HBV:=Lh hcv;obtain⟨yvx,yvy,yvz⟩:=yv;clear hb hvy hcv HWAY x0 x1 x2 xl k0 k1 k2 kl
 go_upto_region 6 with fail
 have bz:=(((Below.refl w8.heap.size w8).alloc (Nat.le_refl _) (.cells #[.slice B0 m0 d0, .slice B1 m1 d1, .slice B2 m2 d2, .int .i64 rb] 35)).alloc (by simp) (.cells #[.int .i64 yvx, .int .i64 yvy, .int .i64 yvz] 23));have nz0:=heap_alloc_new w8 (.cells #[.slice B0 m0 d0, .slice B1 m1 d1, .slice B2 m2 d2, .int .i64 rb] 35);replace nz0:=(Below.heap_alloc _ (.cells #[.int .i64 yvx, .int .i64 yvy, .int .i64 yvz] 23) _ (by simp<;>omega)).trans nz0;have nz1:=heap_alloc_new (w8.alloc (.cells #[.slice B0 m0 d0, .slice B1 m1 d1, .slice B2 m2 d2, .int .i64 rb] 35)) (.cells #[.int .i64 yvx, .int .i64 yvy, .int .i64 yvz] 23);simp only[World.size_alloc]at nz1;obtain⟨w9,hwz⟩:=nm_ (((w8.alloc (.cells #[.slice B0 m0 d0, .slice B1 m1 d1, .slice B2 m2 d2, .int .i64 rb] 35)).alloc (.cells #[.int .i64 yvx, .int .i64 yvy, .int .i64 yvz] 23)));rw[hwz]at bz nz0 nz1⊢;replace HPA:=up_ bz HPA;replace HPB:=up_ bz HPB;replace WK:=up_ bz WK;replace O1:=up_ bz O1;replace HRD:=Lh (HRD.below bz);replace HBV:=Lh (HBV.below bz);replace W:=Lh (bthen W.out bz);have HB13:=Lh nz0;have HYV:=Lh nz1;clear hwz bz nz0 nz1;have hk0:¬((KK:Int)<0):=by omega
 have hk1:¬(16<(KK:Int)):=by omega
 obtain⟨u0,ul⟩:=f1_ w4.heap.size WK.out
 go_upto_region 8 with fail
 obtain⟨v0,v1,v2,vl⟩:=f3_ w6.heap.size O1.out;obtain⟨k0,k1,k2,kl⟩:=f3_ (w3.heap.size+1) HPB.out;obtain⟨hmv,hhm⟩:=nm_ (holdMay ⟨ex,ey,ez⟩ ⟨tx,ty,tz⟩ ra);rw[hhm]at HWE;clear hhm;have HBC:Hid (ballC ⟨ex,ey,ez⟩ ra=⟨[grP ⟨ex,ey,ez⟩],[],[],ra⟩):=Lh rfl;obtain⟨⟨px,py,pz⟩,hp⟩:∃p,grP ⟨ex,ey,ez⟩=p:=⟨_,rfl⟩;rw[hp]at HBC HON;clear hp;go_wp2_with fail
 with_reducible refine(HWE.out _).mono ?_
 rintro en w10 ⟨ve,ye,rfl,⟨C0,C1,C2,i0,i1,i2,j0,j1,j2,rc,rfl⟩,hvy,hb⟩;replace HPA:=up_ hb HPA;replace HPB:=up_ hb HPB;replace WK:=up_ hb WK;replace O1:=up_ hb O1;replace HB13:=up_ hb HB13;replace HYV:=up_ hb HYV;replace HRD:=Lh (HRD.below hb);replace HBV:=Lh (HBV.below hb);replace W:=Lh (bthen W.out hb);have hcv:=(hvy HIE.out HIB.out).1;rw[HBC.out]at hcv;obtain⟨b0,o0,O,hO,rfl,lb,p0,p1,p2,hn0⟩:=hcv.first (by simp);obtain rfl:O=⟨px,py,pz⟩:=by simp only[List.cons.injEq]at hO;exact hO.1.symm
 simp only at p0 p1 p2;have hn0:(0:Int)<(i0:Int):=by omega
 obtain⟨yex,yey,yez⟩:=ye;clear hb hvy hcv hO HIA HIB HIE HBC HWE u0 ul v0 v1 v2 vl k0 k1 k2 kl
 go_upto_region 9 with fail
 have bz2:=((Below.refl _ w10).alloc (Nat.le_refl _) (.cells #[.slice (some ⟨b0,o0,none⟩) i0 j0, .slice C1 i1 j1, .slice C2 i2 j2, .int .i64 rc] 35)).alloc (by simp) (.cells #[.int .i64 yex, .int .i64 yey, .int .i64 yez] 23);replace p0:=(bz2.cell (p:=⟨b0,_,none⟩) lb).trans p0;replace p1:=(bz2.cell (p:=⟨b0,_,none⟩) lb).trans p1;replace p2:=(bz2.cell (p:=⟨b0,_,none⟩) lb).trans p2;replace lb:=Nat.lt_of_lt_of_le lb bz2.size;clear bz2;have bz:=(((Below.refl w10.heap.size w10).alloc (Nat.le_refl _) (.cells #[.slice (some ⟨b0,o0,none⟩) i0 j0, .slice C1 i1 j1, .slice C2 i2 j2, .int .i64 rc] 35)).alloc (by simp) (.cells #[.int .i64 yex, .int .i64 yey, .int .i64 yez] 23));have nz0:=heap_alloc_new w10 (.cells #[.slice (some ⟨b0,o0,none⟩) i0 j0, .slice C1 i1 j1, .slice C2 i2 j2, .int .i64 rc] 35);replace nz0:=(Below.heap_alloc _ (.cells #[.int .i64 yex, .int .i64 yey, .int .i64 yez] 23) _ (by simp<;>omega)).trans nz0;obtain⟨w11,hwz⟩:=nm_ (((w10.alloc (.cells #[.slice (some ⟨b0,o0,none⟩) i0 j0, .slice C1 i1 j1, .slice C2 i2 j2, .int .i64 rc] 35)).alloc (.cells #[.int .i64 yex, .int .i64 yey, .int .i64 yez] 23)));rw[hwz]at bz nz0 p0 p1 p2 lb⊢;replace HPA:=up_ bz HPA;replace HPB:=up_ bz HPB;replace WK:=up_ bz WK;replace O1:=up_ bz O1;replace HB13:=up_ bz HB13;replace HYV:=up_ bz HYV;replace HRD:=Lh (HRD.below bz);replace HBV:=Lh (HBV.below bz);replace W:=Lh (bthen W.out bz);have HE14:=Lh nz0;clear hwz bz nz0;have P0:=Lh p0;have P1:=Lh p1;have P2:=Lh p2;have LB:=Lh lb;have HN0e:=Lh hn0;clear p0 p1 p2 lb hn0;go_wp2_with fail;go_loopw [17,18] (fun v17 v18 wr=>∃i:Nat,i≤NL∧v18= .int .i64 i∧v17= .bool ((l.take i).all FB)∧Hid (Below w11.heap.size w11 wr)) (fun _ i _=>NL-(intOf i).toNat)
 case atStart=>exact⟨0,by omega,rfl,rfl,Lh (Below.refl _ _)⟩
 case round=>
  obtain⟨i,hi,rfl,rfl,hB⟩:=hrel;obtain⟨wq,hwq⟩:∃x:World,x=wr:=⟨_,rfl⟩;subst hwq;have hN3:NL≤3:=HL3.out;by_cases hlt:i<NL
  ·have hil:i<l.length:=by rw[HNL.out];exact hlt
   have hlen:=HNL.out;obtain⟨sb,so,A0,A1,A2,n0,n1,n2,c0,c1,c2,hAl,ll,e0,e1,e2,e3,hcv,-,-,-,-⟩:=HRD.out i _ (List.getElem?_eq_getElem hil);subst hAl;have hdl:l[i]∈l:=List.getElem_mem hil;have HAL:=Lh (all_snoc FB l i hil);obtain⟨d,hd⟩:=nm_ (l[i]);rw[hd]at e3 hcv hdl HAL;have hgd:=(HGD.out d hdl).1;have hck:=HCK.out d hgd;rw[HFB.out]at HAL;have HAPd:=Lh (fun(W:World) hv hu=>HAP.out W (.agg #[.slice B0 m0 d0, .slice B1 m1 d1, .slice B2 m2 d2, .int .i64 rb]) (.agg #[.slice A0 n0 c0, .slice A1 n1 c1, .slice A2 n2 c2, .int .i64 d.r]) d hv hu);have HCAd:=Lh (fun(W:World) hv hu=>HCA.out W (.agg #[.slice B0 m0 d0, .slice B1 m1 d1, .slice B2 m2 d2, .int .i64 rb]) (.agg #[.slice A0 n0 c0, .slice A1 n1 c1, .slice A2 n2 c2, .int .i64 d.r]) d hv hu);have HONd:=Lh (HON.out d hdl hgd);obtain⟨⟨⟨⟨qx,qy,qz⟩,qg⟩,qo⟩,hap⟩:∃R,apS BA d=R:=⟨_,rfl⟩;rw[hap]at HAPd HAL HONd hck;simp only at HAPd HAL HONd hck;obtain rfl:qo=true:=hck.2;obtain⟨⟨⟨m,⟨⟨xx,xy,xz⟩,xg⟩⟩,xo⟩,hca⟩:∃R,castF BA ⟨yvx,yvy,yvz⟩ d=R:=⟨_,rfl⟩;rw[hca]at HCAd HAL HONd hck;simp only at HCAd HAL HONd hck;obtain rfl:xo=true:=hck.1;replace HONd:=Lh (fun h=>HONd.out m ⟨⟨xx,xy,xz⟩,xg⟩ rfl h);simp only at HONd;obtain⟨Z0,Z1,Z2,z0,z1,z2,e,q0,q1,q2,k0,k1,k2⟩:=id hcv.out;simp only[Value.agg.injEq,Array.mk.injEq,List.cons.injEq,Value.slice.injEq,and_true]at e;obtain⟨⟨rfl,hn0,rfl⟩,⟨rfl,hn1,rfl⟩,⟨rfl,hn2,rfl⟩⟩:=e;have HQ0:=Lh q0;have HN0:=Lh hn0.symm;have hn12:n0≤12:=by rw[hn0];exact hgd.p1
   have HCV:=Lh hcv;have HE0:=Lh e0;have HE3:=Lh e3;have HLL:=Lh ll;replace e0:=(hB.cell (p:=⟨sb,_,none⟩) ll).trans e0;replace e1:=(hB.cell (p:=⟨sb,_,none⟩) ll).trans e1;replace e2:=(hB.cell (p:=⟨sb,_,none⟩) ll).trans e2;replace e3:=(hB.cell (p:=⟨sb,_,none⟩) ll).trans e3;replace ll:=Nat.lt_of_lt_of_le ll hB.size;have ti:(i:Int)<(NL:Int):=by omega
   have i1_:(0:Int)≤(i:Int):=by omega
   have GB:=(hB.block _ (blk_lt HB13.out)).trans HB13.out;have GY:=(hB.block _ (blk_lt HYV.out)).trans HYV.out;obtain⟨g0,g1,g2,g3,gl⟩:=f4_ w8.heap.size (GB);obtain⟨y0,y1,y2,yl⟩:=f3_ (w8.heap.size+1) (GY);have HBq:=Lh (HBV.below hB.out);have HCq:=Lh (HCV.below hB.out);clear hap hca hd hcv q0 q1 q2 k0 k1 k2 hgd hck hdl hn0 hn1 hn2 hil hlen GB GY
   go_upto_region 13 with fail
   have HB:=Lh ((Below.refl (wq.heap.size) wq).drew);refine start_ (n:=12) (S:=fun w'=>w'.cell? ⟨w8.heap.size,0,none⟩=some (.slice B0 m0 d0)∧w'.cell? ⟨w8.heap.size,1,none⟩=some (.slice B1 m1 d1)∧w'.cell? ⟨w8.heap.size,2,none⟩=some (.slice B2 m2 d2)∧w'.cell? ⟨w8.heap.size,3,none⟩=some (.int .i64 rb)∧w'.cell? ⟨sb,so+i*4,none⟩=some (.slice A0 n0 c0)∧w'.cell? ⟨sb,so+i*4+1,none⟩=some (.slice A1 n1 c1)∧w'.cell? ⟨sb,so+i*4+2,none⟩=some (.slice A2 n2 c2)∧w'.cell? ⟨sb,so+i*4+3,none⟩=some (.int .i64 d.r)) (ds:=[]) (MB_ 12 0) (by kernel_rfl) rfl rfl ⟨(HB.cell (p:=⟨w8.heap.size,0,none⟩) (gl)).trans g0,(HB.cell (p:=⟨w8.heap.size,1,none⟩) (gl)).trans g1,(HB.cell (p:=⟨w8.heap.size,2,none⟩) (gl)).trans g2,(HB.cell (p:=⟨w8.heap.size,3,none⟩) (gl)).trans g3,(HB.cell (p:=⟨sb,so+i*4,none⟩) (ll)).trans e0,(HB.cell (p:=⟨sb,so+i*4+1,none⟩) (ll)).trans e1,(HB.cell (p:=⟨sb,so+i*4+2,none⟩) (ll)).trans e2,(HB.cell (p:=⟨sb,so+i*4+3,none⟩) (ll)).trans e3⟩ (fun j_=>?_);obtain⟨wd,hwd⟩:=nm_ wq.drew;rw[hwd]at HB j_⊢;clear hwd;refine pure_ (i:=1) (N:=some 91) (v:=?_) (a':=?_) (MB_ 12 2) rfl rfl (by kernel_rfl) (fun _ _ _ h=>h) (Or.inl ⟨by rfl,?_⟩) ?_ ?_;rotate_left
   ·intro w';go_simp
    with_reducible rfl
   rotate_left
   ·simp only[Act.put,List.setIfInBounds_toArray,List.set_cons_zero,List.set_cons_succ,i64_w,i32_w];rfl
   refine pure_ (i:=2) (N:=some 92) (v:=?_) (a':=?_) (MB_ 12 6) rfl rfl (by kernel_rfl) (fun _ _ _ h=>h) (Or.inl ⟨by rfl,?_⟩) ?_ ?_;rotate_left
   ·intro w';go_simp
    with_reducible rfl
   rotate_left
   ·simp only[Act.put,List.setIfInBounds_toArray,List.set_cons_zero,List.set_cons_succ,i64_w,i32_w];rfl
   refine pure_ (i:=3) (N:=some 93) (v:=?_) (a':=?_) (MB_ 12 14) rfl rfl (by kernel_rfl) (fun _ _ _ h=>h) (Or.inl ⟨by rfl,?_⟩) ?_ ?_;rotate_left
   ·intro w';go_simp
    with_reducible rfl
   rotate_left
   ·simp only[Act.put,List.setIfInBounds_toArray,List.set_cons_zero,List.set_cons_succ,i64_w,i32_w];rfl
   refine take_ (i:=0) (N:=some 90) (v:=?_) (a':=?_) (MB_ 12 15) rfl rfl (by kernel_rfl) (fun _ _ _ h=>h) (Or.inl ⟨by rfl,?_⟩) j_ ?_ ?_;rotate_left
   ·rintro w' ⟨s0,s1,s2,s3,s4,s5,s6,s7⟩;go_simp
    with_reducible rfl
   rotate_left
   ·simp only[Act.put,List.setIfInBounds_toArray,List.set_cons_zero,List.set_cons_succ,i64_w,i32_w];rfl
   refine take_ (i:=4) (N:=some 94) (v:=?_) (a':=?_) (MB_ 12 31) rfl rfl (by kernel_rfl) (fun _ _ _ h=>h) (Or.inl ⟨by rfl,?_⟩) j_ ?_ ?_;rotate_left
   ·rintro w' ⟨s0,s1,s2,s3,s4,s5,s6,s7⟩;go_simp
    with_reducible rfl
   rotate_left
   ·simp only[Act.put,List.setIfInBounds_toArray,List.set_cons_zero,List.set_cons_succ,i64_w,i32_w];rfl
   refine join_ (σ:=Nat) 2 (MB_ 12 1023) (fun s=>[(19, .pointer (some ⟨s,0,none⟩)),(95, .tuple #[.agg #[.int .i64 qx, .int .i64 qy, .int .i64 qz, .int .i64 qg], .bool true]),(89, .tuple #[.agg #[.int .i64 qx, .int .i64 qy, .int .i64 qz, .int .i64 qg], .bool true]),(96, .agg #[.int .i64 qx, .int .i64 qy, .int .i64 qz, .int .i64 qg]),(97, .bool true)]) (fun s w'=>wq.heap.size≤s∧w'.heap[s]?=some (.cells #[.int .i64 0, .int .i64 0, .int .i64 0, .int .i64 0] 60 (0,0))∧Below (wq.heap.size) wq w') ?_ ?_;rotate_left
   ·intro hCont;refine two_ (i:=5) (j:=9) (Ni:=some 95) (Nj:=some 19) (MB_ 12 63) (MB_ 12 543) rfl rfl rfl rfl (by kernel_rfl) (by decide) (by decide) (fun K hK=>?_) (fun K hK=>?_)
    ·skip
     refine gs_ Tryz.func19 #[.agg #[.slice B0 m0 d0, .slice B1 m1 d1, .slice B2 m2 d2, .int .i64 rb], .agg #[.slice A0 n0 c0, .slice A1 n1 c1, .slice A2 n2 c2, .int .i64 d.r]] ?_
     with_reducible refine(HAPd.out _ (HBq.out.below HB.out) (HCq.out.below HB.out)).mono ?_
     rintro en w7 ⟨rfl,hb⟩;have HB:=tm_ HB hb;clear hb;refine⟨_,rfl,?_⟩;refine hK.out _ _ ⟨(HB.cell (p:=⟨w8.heap.size,0,none⟩) (gl)).trans g0,(HB.cell (p:=⟨w8.heap.size,1,none⟩) (gl)).trans g1,(HB.cell (p:=⟨w8.heap.size,2,none⟩) (gl)).trans g2,(HB.cell (p:=⟨w8.heap.size,3,none⟩) (gl)).trans g3,(HB.cell (p:=⟨sb,so+i*4,none⟩) (ll)).trans e0,(HB.cell (p:=⟨sb,so+i*4+1,none⟩) (ll)).trans e1,(HB.cell (p:=⟨sb,so+i*4+2,none⟩) (ll)).trans e2,(HB.cell (p:=⟨sb,so+i*4+3,none⟩) (ll)).trans e3⟩ (fun j_=>?_);clear hK K;refine norm_ (a':=?_) ?_ ?_;rotate_left
     ·show Act.put _ (some 95) _=_;simp only[Act.put,List.setIfInBounds_toArray,List.set_cons_zero,List.set_cons_succ,i64_w,i32_w];rfl
     refine pure_ (i:=6) (N:=some 89) (v:=?_) (a':=?_) (MB_ 12 127) rfl rfl (by kernel_rfl) (fun _ _ _ h=>h) (Or.inl ⟨by rfl,?_⟩) ?_ ?_;rotate_left
     ·intro w';go_simp
      with_reducible rfl
     rotate_left
     ·simp only[Act.put,List.setIfInBounds_toArray,List.set_cons_zero,List.set_cons_succ,i64_w,i32_w];rfl
     refine pure_ (i:=7) (N:=some 96) (v:=?_) (a':=?_) (MB_ 12 255) rfl rfl (by kernel_rfl) (fun _ _ _ h=>h) (Or.inl ⟨by rfl,?_⟩) ?_ ?_;rotate_left
     ·intro w';go_simp
      with_reducible rfl
     rotate_left
     ·simp only[Act.put,List.setIfInBounds_toArray,List.set_cons_zero,List.set_cons_succ,i64_w,i32_w];rfl
     refine pure_ (i:=8) (N:=some 97) (v:=?_) (a':=?_) (MB_ 12 511) rfl rfl (by kernel_rfl) (fun _ _ _ h=>h) (Or.inl ⟨by rfl,?_⟩) ?_ ?_;rotate_left
     ·intro w';go_simp
      with_reducible rfl
     rotate_left
     ·simp only[Act.put,List.setIfInBounds_toArray,List.set_cons_zero,List.set_cons_succ,i64_w,i32_w];rfl
     refine one_ (i:=9) (N:=some 19) (MB_ 12 1023) rfl rfl (by kernel_rfl) (by decide) (fun K hK=>?_);refine va_ ?_;have HA:=Lh (ha_new HB.out (.cells #[.int .i64 0, .int .i64 0, .int .i64 0, .int .i64 0] 60));have hge:=HB.size;have HB:=Lh (HB.alloc (Nat.le_trans (Nat.le_refl _) HB.size) (.cells #[.int .i64 0, .int .i64 0, .int .i64 0, .int .i64 0] 60));refine hK.out _ _ ⟨(HB.cell (p:=⟨w8.heap.size,0,none⟩) (gl)).trans g0,(HB.cell (p:=⟨w8.heap.size,1,none⟩) (gl)).trans g1,(HB.cell (p:=⟨w8.heap.size,2,none⟩) (gl)).trans g2,(HB.cell (p:=⟨w8.heap.size,3,none⟩) (gl)).trans g3,(HB.cell (p:=⟨sb,so+i*4,none⟩) (ll)).trans e0,(HB.cell (p:=⟨sb,so+i*4+1,none⟩) (ll)).trans e1,(HB.cell (p:=⟨sb,so+i*4+2,none⟩) (ll)).trans e2,(HB.cell (p:=⟨sb,so+i*4+3,none⟩) (ll)).trans e3⟩ (fun j_=>?_);clear hK K;refine norm_ (a':=?_) ?_ ?_;rotate_left
     ·show Act.put _ (some 19) _=_;simp only[Act.put,List.setIfInBounds_toArray,List.set_cons_zero,List.set_cons_succ,i64_w,i32_w];rfl
     exact nz_ (hCont _ _ ⟨hge,HA.out,HB.out⟩)
    ·skip
     refine va_ ?_;have HA:=Lh (ha_new HB.out (.cells #[.int .i64 0, .int .i64 0, .int .i64 0, .int .i64 0] 60));have hge:=HB.size;have HB:=Lh (HB.alloc (Nat.le_trans (Nat.le_refl _) HB.size) (.cells #[.int .i64 0, .int .i64 0, .int .i64 0, .int .i64 0] 60));refine hK.out _ _ ⟨(HB.cell (p:=⟨w8.heap.size,0,none⟩) (gl)).trans g0,(HB.cell (p:=⟨w8.heap.size,1,none⟩) (gl)).trans g1,(HB.cell (p:=⟨w8.heap.size,2,none⟩) (gl)).trans g2,(HB.cell (p:=⟨w8.heap.size,3,none⟩) (gl)).trans g3,(HB.cell (p:=⟨sb,so+i*4,none⟩) (ll)).trans e0,(HB.cell (p:=⟨sb,so+i*4+1,none⟩) (ll)).trans e1,(HB.cell (p:=⟨sb,so+i*4+2,none⟩) (ll)).trans e2,(HB.cell (p:=⟨sb,so+i*4+3,none⟩) (ll)).trans e3⟩ (fun j_=>?_);clear hK K;refine norm_ (a':=?_) ?_ ?_;rotate_left
     ·show Act.put _ (some 19) _=_;simp only[Act.put,List.setIfInBounds_toArray,List.set_cons_zero,List.set_cons_succ,i64_w,i32_w];rfl
     refine one_ (i:=5) (N:=some 95) (MB_ 12 575) rfl rfl (by kernel_rfl) (by decide) (fun K hK=>?_);refine gs_ Tryz.func19 #[.agg #[.slice B0 m0 d0, .slice B1 m1 d1, .slice B2 m2 d2, .int .i64 rb], .agg #[.slice A0 n0 c0, .slice A1 n1 c1, .slice A2 n2 c2, .int .i64 d.r]] ?_
     with_reducible refine(HAPd.out _ (HBq.out.below HB.out) (HCq.out.below HB.out)).mono ?_
     rintro en w7 ⟨rfl,hb⟩;have HB:=tm_ HB hb;have HA:=up_ hb HA;clear hb;refine⟨_,rfl,?_⟩;refine hK.out _ _ ⟨(HB.cell (p:=⟨w8.heap.size,0,none⟩) (gl)).trans g0,(HB.cell (p:=⟨w8.heap.size,1,none⟩) (gl)).trans g1,(HB.cell (p:=⟨w8.heap.size,2,none⟩) (gl)).trans g2,(HB.cell (p:=⟨w8.heap.size,3,none⟩) (gl)).trans g3,(HB.cell (p:=⟨sb,so+i*4,none⟩) (ll)).trans e0,(HB.cell (p:=⟨sb,so+i*4+1,none⟩) (ll)).trans e1,(HB.cell (p:=⟨sb,so+i*4+2,none⟩) (ll)).trans e2,(HB.cell (p:=⟨sb,so+i*4+3,none⟩) (ll)).trans e3⟩ (fun j_=>?_);clear hK K;refine norm_ (a':=?_) ?_ ?_;rotate_left
     ·show Act.put _ (some 95) _=_;simp only[Act.put,List.setIfInBounds_toArray,List.set_cons_zero,List.set_cons_succ,i64_w,i32_w];rfl
     refine pure_ (i:=6) (N:=some 89) (v:=?_) (a':=?_) (MB_ 12 639) rfl rfl (by kernel_rfl) (fun _ _ _ h=>h) (Or.inl ⟨by rfl,?_⟩) ?_ ?_;rotate_left
     ·intro w';go_simp
      with_reducible rfl
     rotate_left
     ·simp only[Act.put,List.setIfInBounds_toArray,List.set_cons_zero,List.set_cons_succ,i64_w,i32_w];rfl
     refine pure_ (i:=7) (N:=some 96) (v:=?_) (a':=?_) (MB_ 12 767) rfl rfl (by kernel_rfl) (fun _ _ _ h=>h) (Or.inl ⟨by rfl,?_⟩) ?_ ?_;rotate_left
     ·intro w';go_simp
      with_reducible rfl
     rotate_left
     ·simp only[Act.put,List.setIfInBounds_toArray,List.set_cons_zero,List.set_cons_succ,i64_w,i32_w];rfl
     refine pure_ (i:=8) (N:=some 97) (v:=?_) (a':=?_) (MB_ 12 1023) rfl rfl (by kernel_rfl) (fun _ _ _ h=>h) (Or.inl ⟨by rfl,?_⟩) ?_ ?_;rotate_left
     ·intro w';go_simp
      with_reducible rfl
     rotate_left
     ·simp only[Act.put,List.setIfInBounds_toArray,List.set_cons_zero,List.set_cons_succ,i64_w,i32_w];rfl
     exact nz_ (hCont _ _ ⟨hge,HA.out,HB.out⟩)
   rintro AB wj ⟨hge,HA,HB⟩;have HA:=Lh HA;have HB:=Lh HB;have j_:wj.cell? ⟨w8.heap.size,0,none⟩=some (.slice B0 m0 d0)∧wj.cell? ⟨w8.heap.size,1,none⟩=some (.slice B1 m1 d1)∧wj.cell? ⟨w8.heap.size,2,none⟩=some (.slice B2 m2 d2)∧wj.cell? ⟨w8.heap.size,3,none⟩=some (.int .i64 rb)∧wj.cell? ⟨sb,so+i*4,none⟩=some (.slice A0 n0 c0)∧wj.cell? ⟨sb,so+i*4+1,none⟩=some (.slice A1 n1 c1)∧wj.cell? ⟨sb,so+i*4+2,none⟩=some (.slice A2 n2 c2)∧wj.cell? ⟨sb,so+i*4+3,none⟩=some (.int .i64 d.r):=⟨(HB.cell (p:=⟨w8.heap.size,0,none⟩) (gl)).trans g0,(HB.cell (p:=⟨w8.heap.size,1,none⟩) (gl)).trans g1,(HB.cell (p:=⟨w8.heap.size,2,none⟩) (gl)).trans g2,(HB.cell (p:=⟨w8.heap.size,3,none⟩) (gl)).trans g3,(HB.cell (p:=⟨sb,so+i*4,none⟩) (ll)).trans e0,(HB.cell (p:=⟨sb,so+i*4+1,none⟩) (ll)).trans e1,(HB.cell (p:=⟨sb,so+i*4+2,none⟩) (ll)).trans e2,(HB.cell (p:=⟨sb,so+i*4+3,none⟩) (ll)).trans e3⟩;refine norm_ (a':=?_) ?_ ?_;rotate_left
   ·simp only[putAll,Act.put,List.setIfInBounds_toArray,List.set_cons_zero,List.set_cons_succ];rfl
   refine one_ (i:=10) (N:=none) (MB_ 12 2047) rfl rfl (by kernel_rfl) (by decide) (fun K hK=>?_);have sc0:World.cell? _ ⟨AB,0,none⟩=some (.int .i64 0):=(blk_cell HA.out 0).trans rfl;have sf0:=blk_frozen HA.out 0;have sc1:World.cell? _ ⟨AB,1,none⟩=some (.int .i64 0):=(blk_cell HA.out 1).trans rfl;have sf1:=blk_frozen HA.out 1;have sc2:World.cell? _ ⟨AB,2,none⟩=some (.int .i64 0):=(blk_cell HA.out 2).trans rfl;have sf2:=blk_frozen HA.out 2;have sc3:World.cell? _ ⟨AB,3,none⟩=some (.int .i64 0):=(blk_cell HA.out 3).trans rfl;have sf3:=blk_frozen HA.out 3;refine skip_ (w1:=?_) (by rfl) rfl ?_ ?_;rotate_left
   ·go_simp;rfl
   have HA:=Lh (bs4 HA.out (.int .i64 qx) (.int .i64 qy) (.int .i64 qz) (.int .i64 qg));have HB:=Lh (bb4 HB.out (Nat.le_trans (Nat.le_refl _) hge) (.int .i64 qx) (.int .i64 qy) (.int .i64 qz) (.int .i64 qg));clear sc0 sf0 sc1 sf1 sc2 sf2 sc3 sf3;refine hK.out _ _ ⟨(HB.cell (p:=⟨w8.heap.size,0,none⟩) (gl)).trans g0,(HB.cell (p:=⟨w8.heap.size,1,none⟩) (gl)).trans g1,(HB.cell (p:=⟨w8.heap.size,2,none⟩) (gl)).trans g2,(HB.cell (p:=⟨w8.heap.size,3,none⟩) (gl)).trans g3,(HB.cell (p:=⟨sb,so+i*4,none⟩) (ll)).trans e0,(HB.cell (p:=⟨sb,so+i*4+1,none⟩) (ll)).trans e1,(HB.cell (p:=⟨sb,so+i*4+2,none⟩) (ll)).trans e2,(HB.cell (p:=⟨sb,so+i*4+3,none⟩) (ll)).trans e3⟩ (fun j_=>?_);clear hK K;refine pure_ (i:=11) (N:=some 20) (v:=?_) (a':=?_) (MB_ 12 4095) rfl rfl (by kernel_rfl) (fun _ _ _ h=>h) (Or.inl ⟨by rfl,?_⟩) ?_ ?_;rotate_left
   ·intro w';go_simp
    with_reducible rfl
   rotate_left
   ·simp only[Act.put,List.setIfInBounds_toArray,List.set_cons_zero,List.set_cons_succ,i64_w,i32_w];rfl
   refine done_ (by kernel_rfl) ?_;obtain⟨w13,hwn⟩:=nm_ (((((wj.setCell ⟨AB,0,none⟩ (.int .i64 qx)).setCell ⟨AB,1,none⟩ (.int .i64 qy)).setCell ⟨AB,2,none⟩ (.int .i64 qz)).setCell ⟨AB,3,none⟩ (.int .i64 qg)));rw[hwn]at HA HB⊢;clear hwn;have hb:=HB.out;have hB2:=Lh (hB.trans (hb.mono hB.size));replace HBq:=Lh (HBq.below hb);replace HCq:=Lh (HCq.below hb);replace e0:=(hb.cell (p:=⟨sb,_,none⟩) ll).trans e0;replace e1:=(hb.cell (p:=⟨sb,_,none⟩) ll).trans e1;replace e2:=(hb.cell (p:=⟨sb,_,none⟩) ll).trans e2;replace e3:=(hb.cell (p:=⟨sb,_,none⟩) ll).trans e3;replace ll:=Nat.lt_of_lt_of_le ll hb.size;have G19:=HA;obtain⟨B19,hB19⟩:=nm_ AB;rw[hB19]at G19⊢;clear j_ HB HA hge hb hB19 HAPd g0 g1 g2 g3 gl y0 y1 y2 yl;have GB:=(hB2.block _ (blk_lt HB13.out)).trans HB13.out;have GY:=(hB2.block _ (blk_lt HYV.out)).trans HYV.out;obtain⟨g0,g1,g2,g3,gl⟩:=f4_ w8.heap.size (GB);obtain⟨y0,y1,y2,yl⟩:=f3_ (w8.heap.size+1) (GY);clear GB GY
   go_upto_region 14 with fail
   have HB:=Lh ((Below.refl (w13.heap.size) w13).drew);refine start_ (n:=15) (S:=fun w'=>w'.cell? ⟨w8.heap.size,0,none⟩=some (.slice B0 m0 d0)∧w'.cell? ⟨w8.heap.size,1,none⟩=some (.slice B1 m1 d1)∧w'.cell? ⟨w8.heap.size,2,none⟩=some (.slice B2 m2 d2)∧w'.cell? ⟨w8.heap.size,3,none⟩=some (.int .i64 rb)∧w'.cell? ⟨w8.heap.size+1,0,none⟩=some (.int .i64 yvx)∧w'.cell? ⟨w8.heap.size+1,1,none⟩=some (.int .i64 yvy)∧w'.cell? ⟨w8.heap.size+1,2,none⟩=some (.int .i64 yvz)∧w'.cell? ⟨sb,so+i*4,none⟩=some (.slice A0 n0 c0)∧w'.cell? ⟨sb,so+i*4+1,none⟩=some (.slice A1 n1 c1)∧w'.cell? ⟨sb,so+i*4+2,none⟩=some (.slice A2 n2 c2)∧w'.cell? ⟨sb,so+i*4+3,none⟩=some (.int .i64 d.r)) (ds:=[]) (MB_ 15 0) (by kernel_rfl) rfl rfl ⟨(HB.cell (p:=⟨w8.heap.size,0,none⟩) (gl)).trans g0,(HB.cell (p:=⟨w8.heap.size,1,none⟩) (gl)).trans g1,(HB.cell (p:=⟨w8.heap.size,2,none⟩) (gl)).trans g2,(HB.cell (p:=⟨w8.heap.size,3,none⟩) (gl)).trans g3,(HB.cell (p:=⟨w8.heap.size+1,0,none⟩) (yl)).trans y0,(HB.cell (p:=⟨w8.heap.size+1,1,none⟩) (yl)).trans y1,(HB.cell (p:=⟨w8.heap.size+1,2,none⟩) (yl)).trans y2,(HB.cell (p:=⟨sb,so+i*4,none⟩) (ll)).trans e0,(HB.cell (p:=⟨sb,so+i*4+1,none⟩) (ll)).trans e1,(HB.cell (p:=⟨sb,so+i*4+2,none⟩) (ll)).trans e2,(HB.cell (p:=⟨sb,so+i*4+3,none⟩) (ll)).trans e3⟩ (fun j_=>?_);obtain⟨wd,hwd⟩:=nm_ w13.drew;rw[hwd]at HB j_⊢;clear hwd;refine pure_ (i:=2) (N:=some 101) (v:=?_) (a':=?_) (MB_ 15 4) rfl rfl (by kernel_rfl) (fun _ _ _ h=>h) (Or.inl ⟨by rfl,?_⟩) ?_ ?_;rotate_left
   ·intro w';go_simp
    with_reducible rfl
   rotate_left
   ·simp only[Act.put,List.setIfInBounds_toArray,List.set_cons_zero,List.set_cons_succ,i64_w,i32_w];rfl
   refine pure_ (i:=3) (N:=some 102) (v:=?_) (a':=?_) (MB_ 15 12) rfl rfl (by kernel_rfl) (fun _ _ _ h=>h) (Or.inl ⟨by rfl,?_⟩) ?_ ?_;rotate_left
   ·intro w';go_simp
    with_reducible rfl
   rotate_left
   ·simp only[Act.put,List.setIfInBounds_toArray,List.set_cons_zero,List.set_cons_succ,i64_w,i32_w];rfl
   refine pure_ (i:=4) (N:=some 103) (v:=?_) (a':=?_) (MB_ 15 28) rfl rfl (by kernel_rfl) (fun _ _ _ h=>h) (Or.inl ⟨by rfl,?_⟩) ?_ ?_;rotate_left
   ·intro w';go_simp
    with_reducible rfl
   rotate_left
   ·simp only[Act.put,List.setIfInBounds_toArray,List.set_cons_zero,List.set_cons_succ,i64_w,i32_w];rfl
   refine take_ (i:=0) (N:=some 99) (v:=?_) (a':=?_) (MB_ 15 29) rfl rfl (by kernel_rfl) (fun _ _ _ h=>h) (Or.inl ⟨by rfl,?_⟩) j_ ?_ ?_;rotate_left
   ·rintro w' ⟨s0,s1,s2,s3,s4,s5,s6,s7,s8,s9,s10⟩;go_simp
    with_reducible rfl
   rotate_left
   ·simp only[Act.put,List.setIfInBounds_toArray,List.set_cons_zero,List.set_cons_succ,i64_w,i32_w];rfl
   refine take_ (i:=1) (N:=some 100) (v:=?_) (a':=?_) (MB_ 15 31) rfl rfl (by kernel_rfl) (fun _ _ _ h=>h) (Or.inl ⟨by rfl,?_⟩) j_ ?_ ?_;rotate_left
   ·rintro w' ⟨s0,s1,s2,s3,s4,s5,s6,s7,s8,s9,s10⟩;go_simp
    with_reducible rfl
   rotate_left
   ·simp only[Act.put,List.setIfInBounds_toArray,List.set_cons_zero,List.set_cons_succ,i64_w,i32_w];rfl
   refine take_ (i:=5) (N:=some 104) (v:=?_) (a':=?_) (MB_ 15 63) rfl rfl (by kernel_rfl) (fun _ _ _ h=>h) (Or.inl ⟨by rfl,?_⟩) j_ ?_ ?_;rotate_left
   ·rintro w' ⟨s0,s1,s2,s3,s4,s5,s6,s7,s8,s9,s10⟩;go_simp
    with_reducible rfl
   rotate_left
   ·simp only[Act.put,List.setIfInBounds_toArray,List.set_cons_zero,List.set_cons_succ,i64_w,i32_w];rfl
   refine join_ (σ:=Nat) 3 (MB_ 15 4095) (fun s=>[(22, .pointer (some ⟨s,0,none⟩)),(105, .tuple #[.int .i64 (m:Int), .agg #[.int .i64 xx, .int .i64 xy, .int .i64 xz, .int .i64 xg], .bool true]),(98, .tuple #[.int .i64 (m:Int), .agg #[.int .i64 xx, .int .i64 xy, .int .i64 xz, .int .i64 xg], .bool true]),(106, .int .i64 (m:Int)),(107, .agg #[.int .i64 xx, .int .i64 xy, .int .i64 xz, .int .i64 xg]),(108, .bool true)]) (fun s w'=>w13.heap.size≤s∧w'.heap[s]?=some (.cells #[.int .i64 0, .int .i64 0, .int .i64 0, .int .i64 0] 60 (0,0))∧Below (w13.heap.size) w13 w') ?_ ?_;rotate_left
   ·intro hCont;refine two_ (i:=6) (j:=11) (Ni:=some 105) (Nj:=some 22) (MB_ 15 127) (MB_ 15 2111) rfl rfl rfl rfl (by kernel_rfl) (by decide) (by decide) (fun K hK=>?_) (fun K hK=>?_)
    ·skip
     refine gs_ Tryz.func20 #[.agg #[.slice B0 m0 d0, .slice B1 m1 d1, .slice B2 m2 d2, .int .i64 rb], .agg #[.int .i64 yvx, .int .i64 yvy, .int .i64 yvz], .agg #[.slice A0 n0 c0, .slice A1 n1 c1, .slice A2 n2 c2, .int .i64 d.r]] ?_
     with_reducible refine(HCAd.out _ (HBq.out.below HB.out) (HCq.out.below HB.out)).mono ?_
     rintro en w7 ⟨rfl,hb⟩;have HB:=tm_ HB hb;clear hb;refine⟨_,rfl,?_⟩;refine hK.out _ _ ⟨(HB.cell (p:=⟨w8.heap.size,0,none⟩) (gl)).trans g0,(HB.cell (p:=⟨w8.heap.size,1,none⟩) (gl)).trans g1,(HB.cell (p:=⟨w8.heap.size,2,none⟩) (gl)).trans g2,(HB.cell (p:=⟨w8.heap.size,3,none⟩) (gl)).trans g3,(HB.cell (p:=⟨w8.heap.size+1,0,none⟩) (yl)).trans y0,(HB.cell (p:=⟨w8.heap.size+1,1,none⟩) (yl)).trans y1,(HB.cell (p:=⟨w8.heap.size+1,2,none⟩) (yl)).trans y2,(HB.cell (p:=⟨sb,so+i*4,none⟩) (ll)).trans e0,(HB.cell (p:=⟨sb,so+i*4+1,none⟩) (ll)).trans e1,(HB.cell (p:=⟨sb,so+i*4+2,none⟩) (ll)).trans e2,(HB.cell (p:=⟨sb,so+i*4+3,none⟩) (ll)).trans e3⟩ (fun j_=>?_);clear hK K;refine norm_ (a':=?_) ?_ ?_;rotate_left
     ·show Act.put _ (some 105) _=_;simp only[Act.put,List.setIfInBounds_toArray,List.set_cons_zero,List.set_cons_succ,i64_w,i32_w];rfl
     refine pure_ (i:=7) (N:=some 98) (v:=?_) (a':=?_) (MB_ 15 255) rfl rfl (by kernel_rfl) (fun _ _ _ h=>h) (Or.inl ⟨by rfl,?_⟩) ?_ ?_;rotate_left
     ·intro w';go_simp
      with_reducible rfl
     rotate_left
     ·simp only[Act.put,List.setIfInBounds_toArray,List.set_cons_zero,List.set_cons_succ,i64_w,i32_w];rfl
     refine pure_ (i:=8) (N:=some 106) (v:=?_) (a':=?_) (MB_ 15 511) rfl rfl (by kernel_rfl) (fun _ _ _ h=>h) (Or.inl ⟨by rfl,?_⟩) ?_ ?_;rotate_left
     ·intro w';go_simp
      with_reducible rfl
     rotate_left
     ·simp only[Act.put,List.setIfInBounds_toArray,List.set_cons_zero,List.set_cons_succ,i64_w,i32_w];rfl
     refine pure_ (i:=9) (N:=some 107) (v:=?_) (a':=?_) (MB_ 15 1023) rfl rfl (by kernel_rfl) (fun _ _ _ h=>h) (Or.inl ⟨by rfl,?_⟩) ?_ ?_;rotate_left
     ·intro w';go_simp
      with_reducible rfl
     rotate_left
     ·simp only[Act.put,List.setIfInBounds_toArray,List.set_cons_zero,List.set_cons_succ,i64_w,i32_w];rfl
     refine pure_ (i:=10) (N:=some 108) (v:=?_) (a':=?_) (MB_ 15 2047) rfl rfl (by kernel_rfl) (fun _ _ _ h=>h) (Or.inl ⟨by rfl,?_⟩) ?_ ?_;rotate_left
     ·intro w';go_simp
      with_reducible rfl
     rotate_left
     ·simp only[Act.put,List.setIfInBounds_toArray,List.set_cons_zero,List.set_cons_succ,i64_w,i32_w];rfl
     refine one_ (i:=11) (N:=some 22) (MB_ 15 4095) rfl rfl (by kernel_rfl) (by decide) (fun K hK=>?_);refine va_ ?_;have HA:=Lh (ha_new HB.out (.cells #[.int .i64 0, .int .i64 0, .int .i64 0, .int .i64 0] 60));have hge:=HB.size;have HB:=Lh (HB.alloc (Nat.le_trans (Nat.le_refl _) HB.size) (.cells #[.int .i64 0, .int .i64 0, .int .i64 0, .int .i64 0] 60));refine hK.out _ _ ⟨(HB.cell (p:=⟨w8.heap.size,0,none⟩) (gl)).trans g0,(HB.cell (p:=⟨w8.heap.size,1,none⟩) (gl)).trans g1,(HB.cell (p:=⟨w8.heap.size,2,none⟩) (gl)).trans g2,(HB.cell (p:=⟨w8.heap.size,3,none⟩) (gl)).trans g3,(HB.cell (p:=⟨w8.heap.size+1,0,none⟩) (yl)).trans y0,(HB.cell (p:=⟨w8.heap.size+1,1,none⟩) (yl)).trans y1,(HB.cell (p:=⟨w8.heap.size+1,2,none⟩) (yl)).trans y2,(HB.cell (p:=⟨sb,so+i*4,none⟩) (ll)).trans e0,(HB.cell (p:=⟨sb,so+i*4+1,none⟩) (ll)).trans e1,(HB.cell (p:=⟨sb,so+i*4+2,none⟩) (ll)).trans e2,(HB.cell (p:=⟨sb,so+i*4+3,none⟩) (ll)).trans e3⟩ (fun j_=>?_);clear hK K;refine norm_ (a':=?_) ?_ ?_;rotate_left
     ·show Act.put _ (some 22) _=_;simp only[Act.put,List.setIfInBounds_toArray,List.set_cons_zero,List.set_cons_succ,i64_w,i32_w];rfl
     exact nz_ (hCont _ _ ⟨hge,HA.out,HB.out⟩)
    ·skip
     refine va_ ?_;have HA:=Lh (ha_new HB.out (.cells #[.int .i64 0, .int .i64 0, .int .i64 0, .int .i64 0] 60));have hge:=HB.size;have HB:=Lh (HB.alloc (Nat.le_trans (Nat.le_refl _) HB.size) (.cells #[.int .i64 0, .int .i64 0, .int .i64 0, .int .i64 0] 60));refine hK.out _ _ ⟨(HB.cell (p:=⟨w8.heap.size,0,none⟩) (gl)).trans g0,(HB.cell (p:=⟨w8.heap.size,1,none⟩) (gl)).trans g1,(HB.cell (p:=⟨w8.heap.size,2,none⟩) (gl)).trans g2,(HB.cell (p:=⟨w8.heap.size,3,none⟩) (gl)).trans g3,(HB.cell (p:=⟨w8.heap.size+1,0,none⟩) (yl)).trans y0,(HB.cell (p:=⟨w8.heap.size+1,1,none⟩) (yl)).trans y1,(HB.cell (p:=⟨w8.heap.size+1,2,none⟩) (yl)).trans y2,(HB.cell (p:=⟨sb,so+i*4,none⟩) (ll)).trans e0,(HB.cell (p:=⟨sb,so+i*4+1,none⟩) (ll)).trans e1,(HB.cell (p:=⟨sb,so+i*4+2,none⟩) (ll)).trans e2,(HB.cell (p:=⟨sb,so+i*4+3,none⟩) (ll)).trans e3⟩ (fun j_=>?_);clear hK K;refine norm_ (a':=?_) ?_ ?_;rotate_left
     ·show Act.put _ (some 22) _=_;simp only[Act.put,List.setIfInBounds_toArray,List.set_cons_zero,List.set_cons_succ,i64_w,i32_w];rfl
     refine one_ (i:=6) (N:=some 105) (MB_ 15 2175) rfl rfl (by kernel_rfl) (by decide) (fun K hK=>?_);refine gs_ Tryz.func20 #[.agg #[.slice B0 m0 d0, .slice B1 m1 d1, .slice B2 m2 d2, .int .i64 rb], .agg #[.int .i64 yvx, .int .i64 yvy, .int .i64 yvz], .agg #[.slice A0 n0 c0, .slice A1 n1 c1, .slice A2 n2 c2, .int .i64 d.r]] ?_
     with_reducible refine(HCAd.out _ (HBq.out.below HB.out) (HCq.out.below HB.out)).mono ?_
     rintro en w7 ⟨rfl,hb⟩;have HB:=tm_ HB hb;have HA:=up_ hb HA;clear hb;refine⟨_,rfl,?_⟩;refine hK.out _ _ ⟨(HB.cell (p:=⟨w8.heap.size,0,none⟩) (gl)).trans g0,(HB.cell (p:=⟨w8.heap.size,1,none⟩) (gl)).trans g1,(HB.cell (p:=⟨w8.heap.size,2,none⟩) (gl)).trans g2,(HB.cell (p:=⟨w8.heap.size,3,none⟩) (gl)).trans g3,(HB.cell (p:=⟨w8.heap.size+1,0,none⟩) (yl)).trans y0,(HB.cell (p:=⟨w8.heap.size+1,1,none⟩) (yl)).trans y1,(HB.cell (p:=⟨w8.heap.size+1,2,none⟩) (yl)).trans y2,(HB.cell (p:=⟨sb,so+i*4,none⟩) (ll)).trans e0,(HB.cell (p:=⟨sb,so+i*4+1,none⟩) (ll)).trans e1,(HB.cell (p:=⟨sb,so+i*4+2,none⟩) (ll)).trans e2,(HB.cell (p:=⟨sb,so+i*4+3,none⟩) (ll)).trans e3⟩ (fun j_=>?_);clear hK K;refine norm_ (a':=?_) ?_ ?_;rotate_left
     ·show Act.put _ (some 105) _=_;simp only[Act.put,List.setIfInBounds_toArray,List.set_cons_zero,List.set_cons_succ,i64_w,i32_w];rfl
     refine pure_ (i:=7) (N:=some 98) (v:=?_) (a':=?_) (MB_ 15 2303) rfl rfl (by kernel_rfl) (fun _ _ _ h=>h) (Or.inl ⟨by rfl,?_⟩) ?_ ?_;rotate_left
     ·intro w';go_simp
      with_reducible rfl
     rotate_left
     ·simp only[Act.put,List.setIfInBounds_toArray,List.set_cons_zero,List.set_cons_succ,i64_w,i32_w];rfl
     refine pure_ (i:=8) (N:=some 106) (v:=?_) (a':=?_) (MB_ 15 2559) rfl rfl (by kernel_rfl) (fun _ _ _ h=>h) (Or.inl ⟨by rfl,?_⟩) ?_ ?_;rotate_left
     ·intro w';go_simp
      with_reducible rfl
     rotate_left
     ·simp only[Act.put,List.setIfInBounds_toArray,List.set_cons_zero,List.set_cons_succ,i64_w,i32_w];rfl
     refine pure_ (i:=9) (N:=some 107) (v:=?_) (a':=?_) (MB_ 15 3071) rfl rfl (by kernel_rfl) (fun _ _ _ h=>h) (Or.inl ⟨by rfl,?_⟩) ?_ ?_;rotate_left
     ·intro w';go_simp
      with_reducible rfl
     rotate_left
     ·simp only[Act.put,List.setIfInBounds_toArray,List.set_cons_zero,List.set_cons_succ,i64_w,i32_w];rfl
     refine pure_ (i:=10) (N:=some 108) (v:=?_) (a':=?_) (MB_ 15 4095) rfl rfl (by kernel_rfl) (fun _ _ _ h=>h) (Or.inl ⟨by rfl,?_⟩) ?_ ?_;rotate_left
     ·intro w';go_simp
      with_reducible rfl
     rotate_left
     ·simp only[Act.put,List.setIfInBounds_toArray,List.set_cons_zero,List.set_cons_succ,i64_w,i32_w];rfl
     exact nz_ (hCont _ _ ⟨hge,HA.out,HB.out⟩)
   rintro AB wj ⟨hge,HA,HB⟩;have HA:=Lh HA;have HB:=Lh HB;have j_:wj.cell? ⟨w8.heap.size,0,none⟩=some (.slice B0 m0 d0)∧wj.cell? ⟨w8.heap.size,1,none⟩=some (.slice B1 m1 d1)∧wj.cell? ⟨w8.heap.size,2,none⟩=some (.slice B2 m2 d2)∧wj.cell? ⟨w8.heap.size,3,none⟩=some (.int .i64 rb)∧wj.cell? ⟨w8.heap.size+1,0,none⟩=some (.int .i64 yvx)∧wj.cell? ⟨w8.heap.size+1,1,none⟩=some (.int .i64 yvy)∧wj.cell? ⟨w8.heap.size+1,2,none⟩=some (.int .i64 yvz)∧wj.cell? ⟨sb,so+i*4,none⟩=some (.slice A0 n0 c0)∧wj.cell? ⟨sb,so+i*4+1,none⟩=some (.slice A1 n1 c1)∧wj.cell? ⟨sb,so+i*4+2,none⟩=some (.slice A2 n2 c2)∧wj.cell? ⟨sb,so+i*4+3,none⟩=some (.int .i64 d.r):=⟨(HB.cell (p:=⟨w8.heap.size,0,none⟩) (gl)).trans g0,(HB.cell (p:=⟨w8.heap.size,1,none⟩) (gl)).trans g1,(HB.cell (p:=⟨w8.heap.size,2,none⟩) (gl)).trans g2,(HB.cell (p:=⟨w8.heap.size,3,none⟩) (gl)).trans g3,(HB.cell (p:=⟨w8.heap.size+1,0,none⟩) (yl)).trans y0,(HB.cell (p:=⟨w8.heap.size+1,1,none⟩) (yl)).trans y1,(HB.cell (p:=⟨w8.heap.size+1,2,none⟩) (yl)).trans y2,(HB.cell (p:=⟨sb,so+i*4,none⟩) (ll)).trans e0,(HB.cell (p:=⟨sb,so+i*4+1,none⟩) (ll)).trans e1,(HB.cell (p:=⟨sb,so+i*4+2,none⟩) (ll)).trans e2,(HB.cell (p:=⟨sb,so+i*4+3,none⟩) (ll)).trans e3⟩;refine norm_ (a':=?_) ?_ ?_;rotate_left
   ·simp only[putAll,Act.put,List.setIfInBounds_toArray,List.set_cons_zero,List.set_cons_succ];rfl
   refine pure_ (i:=12) (N:=some 21) (v:=?_) (a':=?_) (MB_ 15 8191) rfl rfl (by kernel_rfl) (fun _ _ _ h=>h) (Or.inl ⟨by rfl,?_⟩) ?_ ?_;rotate_left
   ·intro w';go_simp
    with_reducible rfl
   rotate_left
   ·simp only[Act.put,List.setIfInBounds_toArray,List.set_cons_zero,List.set_cons_succ,i64_w,i32_w];rfl
   refine one_ (i:=13) (N:=none) (MB_ 15 16383) rfl rfl (by kernel_rfl) (by decide) (fun K hK=>?_);have sc0:World.cell? _ ⟨AB,0,none⟩=some (.int .i64 0):=(blk_cell HA.out 0).trans rfl;have sf0:=blk_frozen HA.out 0;have sc1:World.cell? _ ⟨AB,1,none⟩=some (.int .i64 0):=(blk_cell HA.out 1).trans rfl;have sf1:=blk_frozen HA.out 1;have sc2:World.cell? _ ⟨AB,2,none⟩=some (.int .i64 0):=(blk_cell HA.out 2).trans rfl;have sf2:=blk_frozen HA.out 2;have sc3:World.cell? _ ⟨AB,3,none⟩=some (.int .i64 0):=(blk_cell HA.out 3).trans rfl;have sf3:=blk_frozen HA.out 3;refine skip_ (w1:=?_) (by rfl) rfl ?_ ?_;rotate_left
   ·go_simp;rfl
   have HA:=Lh (bs4 HA.out (.int .i64 xx) (.int .i64 xy) (.int .i64 xz) (.int .i64 xg));have HB:=Lh (bb4 HB.out (Nat.le_trans (Nat.le_refl _) hge) (.int .i64 xx) (.int .i64 xy) (.int .i64 xz) (.int .i64 xg));clear sc0 sf0 sc1 sf1 sc2 sf2 sc3 sf3;refine hK.out _ _ ⟨(HB.cell (p:=⟨w8.heap.size,0,none⟩) (gl)).trans g0,(HB.cell (p:=⟨w8.heap.size,1,none⟩) (gl)).trans g1,(HB.cell (p:=⟨w8.heap.size,2,none⟩) (gl)).trans g2,(HB.cell (p:=⟨w8.heap.size,3,none⟩) (gl)).trans g3,(HB.cell (p:=⟨w8.heap.size+1,0,none⟩) (yl)).trans y0,(HB.cell (p:=⟨w8.heap.size+1,1,none⟩) (yl)).trans y1,(HB.cell (p:=⟨w8.heap.size+1,2,none⟩) (yl)).trans y2,(HB.cell (p:=⟨sb,so+i*4,none⟩) (ll)).trans e0,(HB.cell (p:=⟨sb,so+i*4+1,none⟩) (ll)).trans e1,(HB.cell (p:=⟨sb,so+i*4+2,none⟩) (ll)).trans e2,(HB.cell (p:=⟨sb,so+i*4+3,none⟩) (ll)).trans e3⟩ (fun j_=>?_);clear hK K;refine pure_ (i:=14) (N:=some 23) (v:=?_) (a':=?_) (MB_ 15 32767) rfl rfl (by kernel_rfl) (fun _ _ _ h=>h) (Or.inl ⟨by rfl,?_⟩) ?_ ?_;rotate_left
   ·intro w';go_simp
    with_reducible rfl
   rotate_left
   ·simp only[Act.put,List.setIfInBounds_toArray,List.set_cons_zero,List.set_cons_succ,i64_w,i32_w];rfl
   refine done_ (by kernel_rfl) ?_;obtain⟨w14,hwn⟩:=nm_ (((((wj.setCell ⟨AB,0,none⟩ (.int .i64 xx)).setCell ⟨AB,1,none⟩ (.int .i64 xy)).setCell ⟨AB,2,none⟩ (.int .i64 xz)).setCell ⟨AB,3,none⟩ (.int .i64 xg)));rw[hwn]at HA HB⊢;clear hwn;have hb:=HB.out;have hB3:=Lh (hB2.trans (hb.mono hB2.size));replace e0:=(hb.cell (p:=⟨sb,_,none⟩) ll).trans e0;replace e1:=(hb.cell (p:=⟨sb,_,none⟩) ll).trans e1;replace e2:=(hb.cell (p:=⟨sb,_,none⟩) ll).trans e2;replace e3:=(hb.cell (p:=⟨sb,_,none⟩) ll).trans e3;replace ll:=Nat.lt_of_lt_of_le ll hb.size;replace G19:=up_ hb G19;have G22:=HA;obtain⟨B22,hB22⟩:=nm_ AB;rw[hB22]at G22⊢;clear j_ HB HA hge hb hB22 HCAd HBq HCq g0 g1 g2 g3 gl y0 y1 y2 yl hB2;have s3:w14.cell? ⟨B19,3,none⟩=some (.int .i64 qg):=(blk_cell G19.out 3).trans rfl;have sl:B19<w14.heap.size:=blk_lt G19.out;obtain⟨fb,hfb⟩:=nm_ ((l.take i).all FB);rw[hfb]at HAL⊢;clear hfb;by_cases hq:qg<0
   ·rw[decide_eq_true hq,Bool.true_or,Bool.and_true]at HAL;clear e0 e1 e2 e3 ll;go_wp2
    go_roundw
    case rel=>exact⟨i+1,by omega,by go_num,by rw[HAL.out],hB3⟩
    case measure=>simp[intOf];omega
   ·rw[decide_eq_false hq,Bool.false_or]at HAL;obtain⟨hkm,hm16,hall⟩:=HONd.out (by omega);have HALL:=Lh hall;have tm:¬((m:Int)<(KK:Int)):=by omega
    have HSZ:=Lh (fun W=>rsizes_calls ⟨xx,xy,xz⟩ W);obtain⟨⟨sf,sc⟩,hsz⟩:∃z,sz3 ⟨xx,xy,xz⟩=z:=⟨_,rfl⟩;rw[hsz]at HSZ HALL;simp only at HSZ HALL;clear hsz hall HONd;obtain⟨t0,t1,t2,t3,tl⟩:=f4_ B22 G22.out;clear e0 e1 e2 e3 ll
    go_upto_region 18 with fail
    go_cut [17] from 83 to 174 (fun s17 wx=>s17= .bool (fb&&decide (m=16))∧w14=wx)
    case first=>
     cases fb with
     |false=>
      go_wp2
      go_meet
      exact⟨by simp,rfl⟩
     |true=>
      go_wp2
      go_meet
      exact⟨by rw[beq16];simp,rfl⟩
    case rest=>
     obtain⟨rfl,rfl⟩:=hcut;go_wp2_with fail;refine(HSZ.out _).mono ?_;rintro en w15 ⟨rfl,hb⟩;have hB4:=Lh (hB3.trans (hb.mono hB3.size));replace G22:=up_ hb G22;clear hb HSZ t0 t1 t2 t3 tl s3 sl G19 hB3 hB;go_wp2_with fail;go_loopw [26] (fun v26 wr=>∃n:Nat,n≤n0∧v26= .int .i64 n∧Hid (Below w15.heap.size w15 wr)) (fun n _=>n0-(intOf n).toNat)
     case atStart=>exact⟨0,by omega,rfl,Lh (Below.refl _ _)⟩
     case round=>
      obtain⟨n,hn,rfl,hI⟩:=hrel;obtain⟨wk,hwk⟩:∃x:World,x=wr:=⟨_,rfl⟩;subst hwk;have hB5:=Lh (hB4.trans (hI.mono hB4.size));have e0:=(hB5.cell (p:=⟨sb,_,none⟩) HLL.out).trans HE0.out;have e3:=(hB5.cell (p:=⟨sb,_,none⟩) HLL.out).trans HE3.out;have ll:=Nat.lt_of_lt_of_le HLL.out hB5.size;by_cases hnt:n<n0
      ·have hnp:n<d.p.length:=by rw[HN0.out];exact hnt
       obtain⟨b,o,hA0,lp,p0,p1,p2⟩:=HQ0.out.1.get n hnp;subst hA0;have hQ:=HALL.out _ (List.getElem_mem hnp);obtain⟨x,hx⟩:=nm_ (d.p[n]);rw[hx]at p0 p1 p2 hQ;obtain⟨ux,uy,uz⟩:=x;simp only at p0 p1 p2;replace p0:=(hB5.cell (p:=⟨b,_,none⟩) lp).trans p0;replace p1:=(hB5.cell (p:=⟨b,_,none⟩) lp).trans p1;replace p2:=(hB5.cell (p:=⟨b,_,none⟩) lp).trans p2;replace lp:=Nat.lt_of_lt_of_le lp hB5.size;have GE:=(hB5.block _ (blk_lt HE14.out)).trans HE14.out;have v0:wk.cell? ⟨w10.heap.size,0,none⟩=some (.slice (some ⟨b0,o0,none⟩) i0 j0):=(blk_cell (GE) 0).trans rfl;have vl:w10.heap.size<wk.heap.size:=blk_lt GE;have r0:=(hB5.cell (p:=⟨b0,_,none⟩) LB.out).trans P0.out;have r1:=(hB5.cell (p:=⟨b0,_,none⟩) LB.out).trans P1.out;have r2:=(hB5.cell (p:=⟨b0,_,none⟩) LB.out).trans P2.out;have rl:=Nat.lt_of_lt_of_le LB.out hB5.size;have GX:=up_ hI.out G22;obtain⟨t0,t1,t2,t3,tl⟩:=f4_ B22 (GX.out);have HMN:=Lh (fun(W:World)=>rminus_calls ux uy uz px py pz W);obtain⟨⟨mx_,my_,mz_⟩,hm⟩:∃m,minus3 ⟨ux,uy,uz⟩ ⟨px,py,pz⟩=m:=⟨_,rfl⟩;rw[hm]at HMN hQ;clear hm;have HDT:=Lh (fun(W:World)=>rdot_calls xx xy xz mx_ my_ mz_ W);obtain⟨dv,hdv⟩:=nm_ (dot3 ⟨xx,xy,xz⟩ ⟨mx_,my_,mz_⟩);rw[hdv]at HDT hQ;clear hdv;have hnl:¬(dv<wrap64 (wrap64 (wrap64 (wrap64 (xg+ra)+d.r)*sf)-wrap64 (4*sc))):=by omega
       have HNLx:=Lh hnl;have tn:(n:Int)<(n0:Int):=by omega
       have hi0:=HN0e.out;clear hQ hx hnp GE hnl
       go_upto_region 25 with fail
       have HB:=Lh ((Below.refl (wk.heap.size) wk).drew);refine start_ (n:=17) (S:=fun w'=>w'.cell? ⟨B22,0,none⟩=some (.int .i64 xx)∧w'.cell? ⟨B22,1,none⟩=some (.int .i64 xy)∧w'.cell? ⟨B22,2,none⟩=some (.int .i64 xz)∧w'.cell? ⟨sb,so+i*4,none⟩=some (.slice (some ⟨b,o,none⟩) n0 c0)∧w'.cell? ⟨b,o+n*3,none⟩=some (.int .i64 ux)∧w'.cell? ⟨b,o+n*3+1,none⟩=some (.int .i64 uy)∧w'.cell? ⟨b,o+n*3+2,none⟩=some (.int .i64 uz)∧w'.cell? ⟨w10.heap.size,0,none⟩=some (.slice (some ⟨b0,o0,none⟩) i0 j0)∧w'.cell? ⟨b0,o0,none⟩=some (.int .i64 px)∧w'.cell? ⟨b0,o0+1,none⟩=some (.int .i64 py)∧w'.cell? ⟨b0,o0+2,none⟩=some (.int .i64 pz)) (ds:=[]) (MB_ 17 0) (by kernel_rfl) rfl rfl ⟨(HB.cell (p:=⟨B22,0,none⟩) (tl)).trans t0,(HB.cell (p:=⟨B22,1,none⟩) (tl)).trans t1,(HB.cell (p:=⟨B22,2,none⟩) (tl)).trans t2,(HB.cell (p:=⟨sb,so+i*4,none⟩) (ll)).trans e0,(HB.cell (p:=⟨b,o+n*3,none⟩) (lp)).trans p0,(HB.cell (p:=⟨b,o+n*3+1,none⟩) (lp)).trans p1,(HB.cell (p:=⟨b,o+n*3+2,none⟩) (lp)).trans p2,(HB.cell (p:=⟨w10.heap.size,0,none⟩) (vl)).trans v0,(HB.cell (p:=⟨b0,o0,none⟩) (rl)).trans r0,(HB.cell (p:=⟨b0,o0+1,none⟩) (rl)).trans r1,(HB.cell (p:=⟨b0,o0+2,none⟩) (rl)).trans r2⟩ (fun j_=>?_);obtain⟨wd,hwd⟩:=nm_ wk.drew;rw[hwd]at HB j_⊢;clear hwd;refine pure_ (i:=0) (N:=some 142) (v:=?_) (a':=?_) (MB_ 17 1) rfl rfl (by kernel_rfl) (fun _ _ _ h=>h) (Or.inl ⟨by rfl,?_⟩) ?_ ?_;rotate_left
       ·intro w';go_simp
        with_reducible rfl
       rotate_left
       ·simp only[Act.put,List.setIfInBounds_toArray,List.set_cons_zero,List.set_cons_succ,i64_w,i32_w];rfl
       refine pure_ (i:=2) (N:=some 144) (v:=?_) (a':=?_) (MB_ 17 5) rfl rfl (by kernel_rfl) (fun _ _ _ h=>h) (Or.inl ⟨by rfl,?_⟩) ?_ ?_;rotate_left
       ·intro w';go_simp
        with_reducible rfl
       rotate_left
       ·simp only[Act.put,List.setIfInBounds_toArray,List.set_cons_zero,List.set_cons_succ,i64_w,i32_w];rfl
       refine pure_ (i:=3) (N:=some 145) (v:=?_) (a':=?_) (MB_ 17 13) rfl rfl (by kernel_rfl) (fun _ _ _ h=>h) (Or.inl ⟨by rfl,?_⟩) ?_ ?_;rotate_left
       ·intro w';go_simp
        with_reducible rfl
       rotate_left
       ·simp only[Act.put,List.setIfInBounds_toArray,List.set_cons_zero,List.set_cons_succ,i64_w,i32_w];rfl
       refine pure_ (i:=4) (N:=some 146) (v:=?_) (a':=?_) (MB_ 17 29) rfl rfl (by kernel_rfl) (fun _ _ _ h=>h) (Or.inl ⟨by rfl,?_⟩) ?_ ?_;rotate_left
       ·intro w';go_simp
        with_reducible rfl
       rotate_left
       ·simp only[Act.put,List.setIfInBounds_toArray,List.set_cons_zero,List.set_cons_succ,i64_w,i32_w];rfl
       refine pure_ (i:=5) (N:=some 147) (v:=?_) (a':=?_) (MB_ 17 61) rfl rfl (by kernel_rfl) (fun _ _ _ h=>h) (Or.inl ⟨by rfl,?_⟩) ?_ ?_;rotate_left
       ·intro w';go_simp
        with_reducible rfl
       rotate_left
       ·simp only[Act.put,List.setIfInBounds_toArray,List.set_cons_zero,List.set_cons_succ,i64_w,i32_w];rfl
       refine pure_ (i:=7) (N:=some 149) (v:=?_) (a':=?_) (MB_ 17 189) rfl rfl (by kernel_rfl) (fun _ _ _ h=>h) (Or.inl ⟨by rfl,?_⟩) ?_ ?_;rotate_left
       ·intro w';go_simp
        with_reducible rfl
       rotate_left
       ·simp only[Act.put,List.setIfInBounds_toArray,List.set_cons_zero,List.set_cons_succ,i64_w,i32_w];rfl
       refine pure_ (i:=10) (N:=some 152) (v:=?_) (a':=?_) (MB_ 17 1213) rfl rfl (by kernel_rfl) (fun _ _ _ h=>h) (Or.inl ⟨by rfl,?_⟩) ?_ ?_;rotate_left
       ·intro w';go_simp
        with_reducible rfl
       rotate_left
       ·simp only[Act.put,List.setIfInBounds_toArray,List.set_cons_zero,List.set_cons_succ,i64_w,i32_w];rfl
       refine take_ (i:=1) (N:=some 143) (v:=?_) (a':=?_) (MB_ 17 1215) rfl rfl (by kernel_rfl) (fun _ _ _ h=>h) (Or.inl ⟨by rfl,?_⟩) j_ ?_ ?_;rotate_left
       ·rintro w' ⟨s0,s1,s2,s3,s4,s5,s6,s7,s8,s9,s10⟩;go_simp
        with_reducible rfl
       rotate_left
       ·simp only[Act.put,List.setIfInBounds_toArray,List.set_cons_zero,List.set_cons_succ,i64_w,i32_w];rfl
       refine take_ (i:=6) (N:=some 148) (v:=?_) (a':=?_) (MB_ 17 1279) rfl rfl (by kernel_rfl) (fun _ _ _ h=>h) (Or.inl ⟨by rfl,?_⟩) j_ ?_ ?_;rotate_left
       ·rintro w' ⟨s0,s1,s2,s3,s4,s5,s6,s7,s8,s9,s10⟩;go_simp
        with_reducible rfl
       rotate_left
       ·simp only[Act.put,List.setIfInBounds_toArray,List.set_cons_zero,List.set_cons_succ,i64_w,i32_w];rfl
       refine pure_ (i:=8) (N:=some 150) (v:=?_) (a':=?_) (MB_ 17 1535) rfl rfl (by kernel_rfl) (fun _ _ _ h=>h) (Or.inl ⟨by rfl,?_⟩) ?_ ?_;rotate_left
       ·intro w';go_simp
        with_reducible rfl
       rotate_left
       ·simp only[Act.put,List.setIfInBounds_toArray,List.set_cons_zero,List.set_cons_succ,i64_w,i32_w];rfl
       refine take_ (i:=9) (N:=some 151) (v:=?_) (a':=?_) (MB_ 17 2047) rfl rfl (by kernel_rfl) (fun _ _ _ h=>h) (Or.inl ⟨by rfl,?_⟩) j_ ?_ ?_;rotate_left
       ·rintro w' ⟨s0,s1,s2,s3,s4,s5,s6,s7,s8,s9,s10⟩;go_simp
        with_reducible rfl
       rotate_left
       ·simp only[Act.put,List.setIfInBounds_toArray,List.set_cons_zero,List.set_cons_succ,i64_w,i32_w];rfl
       refine take_ (i:=11) (N:=some 153) (v:=?_) (a':=?_) (MB_ 17 4095) rfl rfl (by kernel_rfl) (fun _ _ _ h=>h) (Or.inl ⟨by rfl,?_⟩) j_ ?_ ?_;rotate_left
       ·rintro w' ⟨s0,s1,s2,s3,s4,s5,s6,s7,s8,s9,s10⟩;go_simp
        with_reducible rfl
       rotate_left
       ·simp only[Act.put,List.setIfInBounds_toArray,List.set_cons_zero,List.set_cons_succ,i64_w,i32_w];rfl
       refine pure_ (i:=12) (N:=some 154) (v:=?_) (a':=?_) (MB_ 17 8191) rfl rfl (by kernel_rfl) (fun _ _ _ h=>h) (Or.inl ⟨by rfl,?_⟩) ?_ ?_;rotate_left
       ·intro w';go_simp
        with_reducible rfl
       rotate_left
       ·simp only[Act.put,List.setIfInBounds_toArray,List.set_cons_zero,List.set_cons_succ,i64_w,i32_w];rfl
       refine take_ (i:=13) (N:=some 155) (v:=?_) (a':=?_) (MB_ 17 16383) rfl rfl (by kernel_rfl) (fun _ _ _ h=>h) (Or.inl ⟨by rfl,?_⟩) j_ ?_ ?_;rotate_left
       ·rintro w' ⟨s0,s1,s2,s3,s4,s5,s6,s7,s8,s9,s10⟩;go_simp
        with_reducible rfl
       rotate_left
       ·simp only[Act.put,List.setIfInBounds_toArray,List.set_cons_zero,List.set_cons_succ,i64_w,i32_w];rfl
       refine one_ (i:=14) (N:=some 156) (MB_ 17 32767) rfl rfl (by kernel_rfl) (by decide) (fun K hK=>?_);refine gs_ Tryz.func11 #[.agg #[.int .i64 ux, .int .i64 uy, .int .i64 uz], .agg #[.int .i64 px, .int .i64 py, .int .i64 pz]] ?_
       with_reducible refine(HMN.out _).mono ?_
       rintro en wz ⟨rfl,hb⟩;have HB:=tm_ HB hb;clear hb;refine⟨_,rfl,?_⟩;refine hK.out _ _ ⟨(HB.cell (p:=⟨B22,0,none⟩) (tl)).trans t0,(HB.cell (p:=⟨B22,1,none⟩) (tl)).trans t1,(HB.cell (p:=⟨B22,2,none⟩) (tl)).trans t2,(HB.cell (p:=⟨sb,so+i*4,none⟩) (ll)).trans e0,(HB.cell (p:=⟨b,o+n*3,none⟩) (lp)).trans p0,(HB.cell (p:=⟨b,o+n*3+1,none⟩) (lp)).trans p1,(HB.cell (p:=⟨b,o+n*3+2,none⟩) (lp)).trans p2,(HB.cell (p:=⟨w10.heap.size,0,none⟩) (vl)).trans v0,(HB.cell (p:=⟨b0,o0,none⟩) (rl)).trans r0,(HB.cell (p:=⟨b0,o0+1,none⟩) (rl)).trans r1,(HB.cell (p:=⟨b0,o0+2,none⟩) (rl)).trans r2⟩ (fun j_=>?_);clear hK K;refine norm_ (a':=?_) ?_ ?_;rotate_left
       ·show Act.put _ (some 156) _=_;simp only[Act.put,List.setIfInBounds_toArray,List.set_cons_zero,List.set_cons_succ,i64_w,i32_w];rfl
       refine one_ (i:=15) (N:=some 157) (MB_ 17 65535) rfl rfl (by kernel_rfl) (by decide) (fun K hK=>?_);refine gs_ Tryz.func22 #[.agg #[.int .i64 xx, .int .i64 xy, .int .i64 xz], .agg #[.int .i64 mx_, .int .i64 my_, .int .i64 mz_]] ?_
       with_reducible refine(HDT.out _).mono ?_
       rintro en wz ⟨rfl,hb⟩;have HB:=tm_ HB hb;clear hb;refine⟨_,rfl,?_⟩;refine hK.out _ _ ⟨(HB.cell (p:=⟨B22,0,none⟩) (tl)).trans t0,(HB.cell (p:=⟨B22,1,none⟩) (tl)).trans t1,(HB.cell (p:=⟨B22,2,none⟩) (tl)).trans t2,(HB.cell (p:=⟨sb,so+i*4,none⟩) (ll)).trans e0,(HB.cell (p:=⟨b,o+n*3,none⟩) (lp)).trans p0,(HB.cell (p:=⟨b,o+n*3+1,none⟩) (lp)).trans p1,(HB.cell (p:=⟨b,o+n*3+2,none⟩) (lp)).trans p2,(HB.cell (p:=⟨w10.heap.size,0,none⟩) (vl)).trans v0,(HB.cell (p:=⟨b0,o0,none⟩) (rl)).trans r0,(HB.cell (p:=⟨b0,o0+1,none⟩) (rl)).trans r1,(HB.cell (p:=⟨b0,o0+2,none⟩) (rl)).trans r2⟩ (fun j_=>?_);clear hK K;refine norm_ (a':=?_) ?_ ?_;rotate_left
       ·show Act.put _ (some 157) _=_;simp only[Act.put,List.setIfInBounds_toArray,List.set_cons_zero,List.set_cons_succ,i64_w,i32_w];rfl
       refine pure_ (i:=16) (N:=some 27) (v:=?_) (a':=?_) (MB_ 17 131071) rfl rfl (by kernel_rfl) (fun _ _ _ h=>h) (Or.inl ⟨by rfl,?_⟩) ?_ ?_;rotate_left
       ·intro w';go_simp
        with_reducible rfl
       rotate_left
       ·simp only[Act.put,List.setIfInBounds_toArray,List.set_cons_zero,List.set_cons_succ,i64_w,i32_w];rfl
       refine done_ (by kernel_rfl) ?_;have hb:=HB.out;have hI2:=Lh (hI.trans (hb.mono hI.size));have e3:=(hb.cell (p:=⟨sb,_,none⟩) ll).trans e3;replace ll:=Nat.lt_of_lt_of_le ll hb.size;have GX2:=(hb.block _ (blk_lt GX.out)).trans GX.out;have t3:wz.cell? ⟨B22,3,none⟩=some (.int .i64 xg):=(blk_cell GX2 3).trans rfl;have tl:B22<wz.heap.size:=blk_lt GX2;clear j_ HB hb GX GX2 HMN HDT p0 p1 p2 lp v0 vl r0 r1 r2 rl t0 t1 t2 e0 hI
       go_upto_region 26 with fail
       have HB:=Lh ((Below.refl (wz.heap.size) wz).drew);refine start_ (n:=17) (S:=fun w'=>w'.cell? ⟨B22,3,none⟩=some (.int .i64 xg)∧w'.cell? ⟨sb,so+i*4+3,none⟩=some (.int .i64 d.r)) (ds:=[]) (MB_ 17 0) (by kernel_rfl) rfl rfl ⟨(HB.cell (p:=⟨B22,3,none⟩) (tl)).trans t3,(HB.cell (p:=⟨sb,so+i*4+3,none⟩) (ll)).trans e3⟩ (fun j_=>?_);obtain⟨wd,hwd⟩:=nm_ wz.drew;rw[hwd]at HB j_⊢;clear hwd;refine pure_ (i:=0) (N:=some 158) (v:=?_) (a':=?_) (MB_ 17 1) rfl rfl (by kernel_rfl) (fun _ _ _ h=>h) (Or.inl ⟨by rfl,?_⟩) ?_ ?_;rotate_left
       ·intro w';go_simp
        with_reducible rfl
       rotate_left
       ·simp only[Act.put,List.setIfInBounds_toArray,List.set_cons_zero,List.set_cons_succ,i64_w,i32_w];rfl
       refine pure_ (i:=1) (N:=some 159) (v:=?_) (a':=?_) (MB_ 17 3) rfl rfl (by kernel_rfl) (fun _ _ _ h=>h) (Or.inl ⟨by rfl,?_⟩) ?_ ?_;rotate_left
       ·intro w';go_simp
        with_reducible rfl
       rotate_left
       ·simp only[Act.put,List.setIfInBounds_toArray,List.set_cons_zero,List.set_cons_succ,i64_w,i32_w];rfl
       refine pure_ (i:=3) (N:=some 161) (v:=?_) (a':=?_) (MB_ 17 11) rfl rfl (by kernel_rfl) (fun _ _ _ h=>h) (Or.inl ⟨by rfl,?_⟩) ?_ ?_;rotate_left
       ·intro w';go_simp
        with_reducible rfl
       rotate_left
       ·simp only[Act.put,List.setIfInBounds_toArray,List.set_cons_zero,List.set_cons_succ,i64_w,i32_w];rfl
       refine pure_ (i:=5) (N:=some 163) (v:=?_) (a':=?_) (MB_ 17 43) rfl rfl (by kernel_rfl) (fun _ _ _ h=>h) (Or.inl ⟨by rfl,?_⟩) ?_ ?_;rotate_left
       ·intro w';go_simp
        with_reducible rfl
       rotate_left
       ·simp only[Act.put,List.setIfInBounds_toArray,List.set_cons_zero,List.set_cons_succ,i64_w,i32_w];rfl
       refine pure_ (i:=6) (N:=some 164) (v:=?_) (a':=?_) (MB_ 17 107) rfl rfl (by kernel_rfl) (fun _ _ _ h=>h) (Or.inl ⟨by rfl,?_⟩) ?_ ?_;rotate_left
       ·intro w';go_simp
        with_reducible rfl
       rotate_left
       ·simp only[Act.put,List.setIfInBounds_toArray,List.set_cons_zero,List.set_cons_succ,i64_w,i32_w];rfl
       refine pure_ (i:=7) (N:=some 165) (v:=?_) (a':=?_) (MB_ 17 235) rfl rfl (by kernel_rfl) (fun _ _ _ h=>h) (Or.inl ⟨by rfl,?_⟩) ?_ ?_;rotate_left
       ·intro w';go_simp
        with_reducible rfl
       rotate_left
       ·simp only[Act.put,List.setIfInBounds_toArray,List.set_cons_zero,List.set_cons_succ,i64_w,i32_w];rfl
       refine pure_ (i:=8) (N:=some 166) (v:=?_) (a':=?_) (MB_ 17 491) rfl rfl (by kernel_rfl) (fun _ _ _ h=>h) (Or.inl ⟨by rfl,?_⟩) ?_ ?_;rotate_left
       ·intro w';go_simp
        with_reducible rfl
       rotate_left
       ·simp only[Act.put,List.setIfInBounds_toArray,List.set_cons_zero,List.set_cons_succ,i64_w,i32_w];rfl
       refine pure_ (i:=11) (N:=some 169) (v:=?_) (a':=?_) (MB_ 17 2539) rfl rfl (by kernel_rfl) (fun _ _ _ h=>h) (Or.inl ⟨by rfl,?_⟩) ?_ ?_;rotate_left
       ·intro w';go_simp
        with_reducible rfl
       rotate_left
       ·simp only[Act.put,List.setIfInBounds_toArray,List.set_cons_zero,List.set_cons_succ,i64_w,i32_w];rfl
       refine pure_ (i:=13) (N:=some 171) (v:=?_) (a':=?_) (MB_ 17 10731) rfl rfl (by kernel_rfl) (fun _ _ _ h=>h) (Or.inl ⟨by rfl,?_⟩) ?_ ?_;rotate_left
       ·intro w';go_simp
        with_reducible rfl
       rotate_left
       ·simp only[Act.put,List.setIfInBounds_toArray,List.set_cons_zero,List.set_cons_succ,i64_w,i32_w];rfl
       refine pure_ (i:=14) (N:=some 172) (v:=?_) (a':=?_) (MB_ 17 27115) rfl rfl (by kernel_rfl) (fun _ _ _ h=>h) (Or.inl ⟨by rfl,?_⟩) ?_ ?_;rotate_left
       ·intro w';go_simp
        with_reducible rfl
       rotate_left
       ·simp only[Act.put,List.setIfInBounds_toArray,List.set_cons_zero,List.set_cons_succ,i64_w,i32_w];rfl
       refine take_ (i:=2) (N:=some 160) (v:=?_) (a':=?_) (MB_ 17 27119) rfl rfl (by kernel_rfl) (fun _ _ _ h=>h) (Or.inl ⟨by rfl,?_⟩) j_ ?_ ?_;rotate_left
       ·rintro w' ⟨s0,s1⟩;go_simp
        with_reducible rfl
       rotate_left
       ·simp only[Act.put,List.setIfInBounds_toArray,List.set_cons_zero,List.set_cons_succ,i64_w,i32_w];rfl
       refine pure_ (i:=4) (N:=some 162) (v:=?_) (a':=?_) (MB_ 17 27135) rfl rfl (by kernel_rfl) (fun _ _ _ h=>h) (Or.inl ⟨by rfl,?_⟩) ?_ ?_;rotate_left
       ·intro w';go_simp
        with_reducible rfl
       rotate_left
       ·simp only[Act.put,List.setIfInBounds_toArray,List.set_cons_zero,List.set_cons_succ,i64_w,i32_w];rfl
       refine take_ (i:=9) (N:=some 167) (v:=?_) (a':=?_) (MB_ 17 27647) rfl rfl (by kernel_rfl) (fun _ _ _ h=>h) (Or.inl ⟨by rfl,?_⟩) j_ ?_ ?_;rotate_left
       ·rintro w' ⟨s0,s1⟩;go_simp
        with_reducible rfl
       rotate_left
       ·simp only[Act.put,List.setIfInBounds_toArray,List.set_cons_zero,List.set_cons_succ,i64_w,i32_w];rfl
       refine pure_ (i:=10) (N:=some 168) (v:=?_) (a':=?_) (MB_ 17 28671) rfl rfl (by kernel_rfl) (fun _ _ _ h=>h) (Or.inl ⟨by rfl,?_⟩) ?_ ?_;rotate_left
       ·intro w';go_simp
        with_reducible rfl
       rotate_left
       ·simp only[Act.put,List.setIfInBounds_toArray,List.set_cons_zero,List.set_cons_succ,i64_w,i32_w];rfl
       refine pure_ (i:=12) (N:=some 170) (v:=?_) (a':=?_) (MB_ 17 32767) rfl rfl (by kernel_rfl) (fun _ _ _ h=>h) (Or.inl ⟨by rfl,?_⟩) ?_ ?_;rotate_left
       ·intro w';go_simp
        with_reducible rfl
       rotate_left
       ·simp only[Act.put,List.setIfInBounds_toArray,List.set_cons_zero,List.set_cons_succ,i64_w,i32_w];rfl
       refine pure_ (i:=15) (N:=some 173) (v:=?_) (a':=?_) (MB_ 17 65535) rfl rfl (by kernel_rfl) (fun _ _ _ h=>h) (Or.inl ⟨by rfl,?_⟩) ?_ ?_;rotate_left
       ·intro w';go_simp
        with_reducible rfl
       rotate_left
       ·simp only[Act.put,List.setIfInBounds_toArray,List.set_cons_zero,List.set_cons_succ,i64_w,i32_w];rfl
       refine pure_ (i:=16) (N:=some 174) (v:=?_) (a':=?_) (MB_ 17 131071) rfl rfl (by kernel_rfl) (fun _ _ _ h=>h) (Or.inl ⟨by rfl,?_⟩) ?_ ?_;rotate_left
       ·intro w';go_simp
        with_reducible rfl
       rotate_left
       ·simp only[Act.put,List.setIfInBounds_toArray,List.set_cons_zero,List.set_cons_succ,i64_w,i32_w];rfl
       refine done_ (by kernel_rfl) ?_;have hI3:=Lh (hI2.trans (HB.mono hI2.size));have hnl:=HNLx.out;clear j_ HB t3 tl e3 ll;go_wp2
       go_roundw
       case rel=>exact⟨n+1,by omega,by go_num,hI3⟩
       case measure=>simp[intOf];omega
      ·obtain rfl:n0=n:=by omega
       go_wp2
       go_roundw
       case rel=>exact⟨i+1,by omega,by go_num,by rw[HAL.out],hB5⟩
       case measure=>simp[intOf];omega
  ·obtain rfl:NL=i:=by omega
   rw[List.take_of_length_le (by rw[HNL.out];exact Nat.le_refl _),HHF.out];have hb:=hB.out;clear HRD HBV HB13 HYV HE14;replace HPA:=up_ hb HPA;replace HPB:=up_ hb HPB;replace WK:=up_ hb WK;replace O1:=up_ hb O1;replace W:=Lh (bthen W.out hb);clear hb;obtain⟨v0,v1,v2,vl⟩:=f3_ w6.heap.size O1.out;obtain⟨k0,k1,k2,kl⟩:=f3_ (w3.heap.size+1) HPB.out;by_cases h16:KK=16
   ·have eo:eqP ex ey ez tx ty tz=true:=eqP_yes (HEQ.out h16);have t16:(KK:Int)=16:=by omega
    have t17:¬((KK:Int)<16):=by omega
    have t18:((KK:Int) == 16)=true:=by rw[beq16,decide_eq_true h16]
    rw[decide_eq_true h16];go_wp2
    go_ret
    exact⟨rfl,W.out⟩
   ·have t16:¬((KK:Int)=16):=by omega
    have t17:(KK:Int)<16:=by omega
    have t18:((KK:Int) == 16)=false:=by rw[beq16,decide_eq_false h16]
    rw[decide_eq_false h16];go_wp2
    go_ret
    exact⟨rfl,W.out⟩
end Go.Proofs.YtckdhahceelckaaGreat.G
