/- What the laws of this claim lean on: contracts of functions and plain lemmas; no condition of its own (part 71: XC12, XZ4). -/
import Derived.Test.YtckdhahceelckaaGreatKQ44
import Derived.Test.YtckdhahceelckaaGreatKQ53
import Derived.Test.YtckdhahceelckaaGreatKQ60
set_option maxHeartbeats 16000000
set_option maxRecDepth 100000
set_option linter.unusedVariables false
set_option linter.unusedSimpArgs false
namespace Go.Proofs.YtckdhahceelckaaGreat.G
open Go.RowKit Go.Proofs.YtckdhahceelckaaGreatW.PrintWords Go.Proofs.YtckdhahceelckaaGreatW.PrintLast Go.Proofs.YtckdhahceelckaaGreatW.PrintMore
attribute [local go_sem] max2_mx min2_mn max_two min_two max_three min_three max_four min_four
attribute [local go_sem high] eqA23 eqA40
attribute [local go_sem high] eqA27
theorem ccdTells_calls {w:World}(a b:P3)(r:Int)(l:List Cr)(A:Option Addr)(n c:Nat)(hl:RdC w A l)(hlb:∀d∈l,CrB d)(hn:l.length=n)(hnb:n≤140737488355328)(ha:in3 9223372036854775808 a)(hb:in3 9223372036854775808 b):
  Calls Tryz.prog 15 #[aP a,aP b, .int .i64 r, .slice A n c] w fun e w'=>e= .returned (.bool true)∧Below w.heap.size w w':=by
 have H1:=Lh (fun(vw:Value) (W:World) (hl:RdC W A l)=>hold_calls vw a b r l A n c hl hn hnb ha hb);have H2:=Lh (fun(vw:Value) (W:World) (hl:RdC W A l)=>rhold_calls vw a b r l A n c hl hlb hn hnb ha hb);obtain⟨HF,hHF⟩:=nm_ (holdF a b r l);rw[hHF]at H1 H2;obtain⟨⟨ox,oy,oz⟩,ok⟩:=HF;obtain⟨ax,ay,az⟩:=a;obtain⟨tx,ty,tz⟩:=b;have HL:=Lh hl;have HN:=Lh hn;have HAW:=Lh awake18_calls;have W:=Lh (Below.refl w.heap.size w);have eo:eqP ox oy oz ox oy oz=true:=eqP_yes rfl;clear hl hn hlb ha hb hHF;go_enter Tryz.func15,Tryz.ntmps15
 go_upto_region 1 with fail
 have bz:=(((Below.refl w.heap.size w).alloc (Nat.le_refl _) (.cells #[.int .i64 ax, .int .i64 ay, .int .i64 az] 27)).alloc (by simp) (.cells #[.int .i64 tx, .int .i64 ty, .int .i64 tz] 27));have nz0:=heap_alloc_new w (.cells #[.int .i64 ax, .int .i64 ay, .int .i64 az] 27);replace nz0:=(Below.heap_alloc _ (.cells #[.int .i64 tx, .int .i64 ty, .int .i64 tz] 27) _ (by simp<;>omega)).trans nz0;have nz1:=heap_alloc_new (w.alloc (.cells #[.int .i64 ax, .int .i64 ay, .int .i64 az] 27)) (.cells #[.int .i64 tx, .int .i64 ty, .int .i64 tz] 27);simp only[World.size_alloc]at nz1;obtain⟨w1,hwz⟩:=nm_ (((w.alloc (.cells #[.int .i64 ax, .int .i64 ay, .int .i64 az] 27)).alloc (.cells #[.int .i64 tx, .int .i64 ty, .int .i64 tz] 27)));rw[hwz]at bz nz0 nz1⊢;replace W:=Lh (bthen W.out bz);have F:=Lh nz0;have T:=Lh nz1;clear hwz bz nz0 nz1;replace HL:=Lh (HL.below W.out);go_wp2_with fail
 with_reducible refine(HAW.out _).mono ?_
 rintro en w2 ⟨rfl,hb⟩;replace F:=up_ hb F;replace T:=up_ hb T;replace HL:=Lh (HL.below hb);replace W:=Lh (bthen W.out hb);clear HAW;clear hb;by_cases h6:6<n
 ·have d6:decide (6<(n:Int))=true:=decide_eq_true (by omega);go_wp2
  go_ret
  exact⟨rfl,W.out⟩
 have d6:decide (6<(n:Int))=false:=decide_eq_false (by omega);go_wp2_with fail;go_loopw [10] (fun v10 wr=>∃i:Nat,i≤n∧v10= .int .i64 i∧Hid (w2=wr)) (fun i _=>n-(intOf i).toNat)
 case atStart=>exact⟨0,by omega,rfl,Lh rfl⟩
 case round=>
  obtain⟨i,hi,rfl,hw⟩:=hrel;replace hw:=hw.out;subst hw;by_cases hlt:i<n
  ·have hil:i<l.length:=by rw[HN.out];exact hlt
   obtain⟨b,o,A0,A1,A2,n0,n1,n2,c0,c1,c2,rfl,lb,e0,e1,e2,e3,hd⟩:=HL.out.get i hil;have ti:(i:Int)<(n:Int):=by omega
   clear hd e3 hil;by_cases t0:40<n0
   ·have d0:decide (40<(n0:Int))=true:=decide_eq_true (by omega);go_wp2
    go_ret
    exact⟨rfl,W.out⟩
   have d0:decide (40<(n0:Int))=false:=decide_eq_false (by omega);by_cases t2:16<n2
   ·have d2:decide (16<(n2:Int))=true:=decide_eq_true (by omega);go_wp2
    go_ret
    exact⟨rfl,W.out⟩
   have d2:decide (16<(n2:Int))=false:=decide_eq_false (by omega);by_cases t1:80<n1
   ·have d1:decide (80<(n1:Int))=true:=decide_eq_true (by omega);go_wp2
    go_ret
    exact⟨rfl,W.out⟩
   have d1:decide (80<(n1:Int))=false:=decide_eq_false (by omega);go_wp2
   go_roundw
   case rel=>exact⟨i+1,by omega,by go_num,Lh (by simp)⟩
   case measure=>simp[intOf];omega
  ·obtain rfl:n=i:=by omega
   clear hi hlt HN
   go_upto_region 11 with fail
   have bz:=(((Below.refl w2.heap.size w2).alloc (Nat.le_refl _) (.cells #[.bool false] 54)).alloc (by simp) (.cells #[.bool false] 90));have nz0:=heap_alloc_new w2 (.cells #[.bool false] 54);replace nz0:=(Below.heap_alloc _ (.cells #[.bool false] 90) _ (by simp<;>omega)).trans nz0;have nz1:=heap_alloc_new (w2.alloc (.cells #[.bool false] 54)) (.cells #[.bool false] 90);simp only[World.size_alloc]at nz1;obtain⟨w3,hwz⟩:=nm_ (((w2.alloc (.cells #[.bool false] 54)).alloc (.cells #[.bool false] 90)));rw[hwz]at bz nz0 nz1⊢;replace F:=up_ bz F;replace T:=up_ bz T;replace HL:=Lh (HL.below bz);replace W:=Lh (bthen W.out bz);have WK:=Lh nz0;have WO:=Lh nz1;clear hwz bz nz0 nz1;obtain⟨x0,x1,x2,xl⟩:=f3_ w.heap.size F.out;obtain⟨k0,k1,k2,kl⟩:=f3_ (w.heap.size+1) T.out;go_wp2_with fail
   with_reducible refine(H1.out _ w3 HL.out).mono ?_
   rintro en w4 ⟨rfl,hb⟩;replace F:=up_ hb F;replace T:=up_ hb T;replace WK:=up_ hb WK;replace WO:=up_ hb WO;replace HL:=Lh (HL.below hb);replace W:=Lh (bthen W.out hb);clear H1;clear hb x0 x1 x2 xl k0 k1 k2 kl
   go_upto_region 12 with fail
   have bz:=((Below.refl w4.heap.size w4).alloc (Nat.le_refl _) (.cells #[.int .i64 ox, .int .i64 oy, .int .i64 oz] 27));have nz0:=heap_alloc_new w4 (.cells #[.int .i64 ox, .int .i64 oy, .int .i64 oz] 27);obtain⟨w5,hwz⟩:=nm_ ((w4.alloc (.cells #[.int .i64 ox, .int .i64 oy, .int .i64 oz] 27)));rw[hwz]at bz nz0⊢;replace F:=up_ bz F;replace T:=up_ bz T;replace WK:=up_ bz WK;replace WO:=up_ bz WO;replace HL:=Lh (HL.below bz);replace W:=Lh (bthen W.out bz);have O1:=Lh nz0;clear hwz bz nz0;obtain⟨x0,x1,x2,xl⟩:=f3_ w.heap.size F.out;obtain⟨k0,k1,k2,kl⟩:=f3_ (w.heap.size+1) T.out;go_wp2_with fail
   with_reducible refine(H2.out _ w5 HL.out).mono ?_
   rintro en w6 ⟨rfl,hb⟩;replace F:=up_ hb F;replace T:=up_ hb T;replace WK:=up_ hb WK;replace WO:=up_ hb WO;replace O1:=up_ hb O1;replace HL:=Lh (HL.below hb);replace W:=Lh (bthen W.out hb);clear H2;clear hb x0 x1 x2 xl k0 k1 k2 kl
   go_upto_region 13 with fail
   have bz:=((Below.refl w6.heap.size w6).alloc (Nat.le_refl _) (.cells #[.int .i64 ox, .int .i64 oy, .int .i64 oz] 27));have nz0:=heap_alloc_new w6 (.cells #[.int .i64 ox, .int .i64 oy, .int .i64 oz] 27);obtain⟨w7,hwz⟩:=nm_ ((w6.alloc (.cells #[.int .i64 ox, .int .i64 oy, .int .i64 oz] 27)));rw[hwz]at bz nz0⊢;replace F:=up_ bz F;replace T:=up_ bz T;replace WK:=up_ bz WK;replace WO:=up_ bz WO;replace O1:=up_ bz O1;replace HL:=Lh (HL.below bz);replace W:=Lh (bthen W.out bz);have O2:=Lh nz0;clear hwz bz nz0;obtain⟨x0,x1,x2,xl⟩:=f3_ w4.heap.size O1.out;obtain⟨k0,k1,k2,kl⟩:=f3_ w6.heap.size O2.out;obtain⟨u0,ul⟩:=f1_ w2.heap.size WK.out;obtain⟨v0,vl⟩:=f1_ (w2.heap.size+1) WO.out
   go_quiet (fail)
   have WF:=Lh (pw_below_drewN W.out nq);go_wp2
   go_ret
   exact⟨rfl,WF.out⟩
end Go.Proofs.YtckdhahceelckaaGreat.G
namespace Go.Proofs.YtckdhahceelckaaGreat.G
open Go.RowKit Go.Proofs.YtckdhahceelckaaGreatW.PrintWords Go.Proofs.YtckdhahceelckaaGreatW.PrintLast Go.Proofs.YtckdhahceelckaaGreatW.PrintMore
attribute [local go_sem] max2_mx min2_mn max_two min_two max_three min_three max_four min_four
attribute [local go_sem high] eqA23 eqA40
theorem ccdRight_calls {w:World}(f y:P3)(r:Int)(A:Option Addr)(n c:Nat)(A':Option Addr)(n' c':Nat)(ls:List RawS)(lq:List P7)(hf:pI64 f)(hy:pI64 y)(hr:i64 r)(hls:RdW w A ls)(hn:ls.length=n)(hlq:RdQ w A' lq)(hn':lq.length=n')(hb:n≤140737488355328)(hb':n'≤140737488355328):
  Calls Tryz.prog 4 #[.agg (cShot f y r A n c A' n' c')] w fun e w'=>e= .returned (.bool true)∧Below w.heap.size w w':=by
 have HMD:=Lh (fun(W:World) (h1:RdW W A ls) (h2:RdQ W A' lq)=>made_calls f y r A n c A' n' c' ls lq hf hy hr h1 hn h2 hn' hb hb');unfold MadeP at HMD;have HSO:=Lh (shot_ok f y r);have HLS:=Lh hls;have HLQ:=Lh hlq;clear hls hlq hn hn' hf hy hr hb hb';obtain⟨a,ha⟩:=nm_ (fromS f);obtain⟨b,hb⟩:=nm_ (toS f y);obtain⟨ra,hra⟩:=nm_ (radS r);rw[ha,hb,hra]at HMD HSO;clear ha hb hra;have HCT:=Lh (fun(W:World) l A n c (hl:RdC W A l) (hg:∀d∈l,GoodC d∧d.e.length≤16) (hn:l.length=n) (hnb:n≤140737488355328)=>ccdTells_calls (w:=W) a b ra l A n c hl (fun d hd=>(hg d hd).1.crb) hn hnb HSO.out.a63 HSO.out.b63);obtain⟨ax,ay,az⟩:=a;obtain⟨tx,ty,tz⟩:=b;obtain⟨fx,fy,fz⟩:=f;obtain⟨yx,yy,yz⟩:=y;have W:=Lh (Below.refl w.heap.size w);go_enter Tryz.func4,Tryz.ntmps4
 go_upto_region 1 with fail
 have bz:=((Below.refl w.heap.size w).alloc (Nat.le_refl _) (.cells #[.int .i64 fx, .int .i64 fy, .int .i64 fz, .int .i64 yx, .int .i64 yy, .int .i64 yz, .int .i64 r, .slice A n c, .slice A' n' c'] 47));have nz0:=heap_alloc_new w (.cells #[.int .i64 fx, .int .i64 fy, .int .i64 fz, .int .i64 yx, .int .i64 yy, .int .i64 yz, .int .i64 r, .slice A n c, .slice A' n' c'] 47);obtain⟨w1,hwz⟩:=nm_ ((w.alloc (.cells #[.int .i64 fx, .int .i64 fy, .int .i64 fz, .int .i64 yx, .int .i64 yy, .int .i64 yz, .int .i64 r, .slice A n c, .slice A' n' c'] 47)));rw[hwz]at bz nz0⊢;replace W:=Lh (bthen W.out bz);have S:=Lh nz0;clear hwz bz nz0;replace HLS:=Lh (HLS.below W.out);replace HLQ:=Lh (HLQ.below W.out);have s0:w1.cell? ⟨w.heap.size,0,none⟩=some (.int .i64 fx):=(blk_cell S.out 0).trans rfl;have s1:w1.cell? ⟨w.heap.size,1,none⟩=some (.int .i64 fy):=(blk_cell S.out 1).trans rfl;have s2:w1.cell? ⟨w.heap.size,2,none⟩=some (.int .i64 fz):=(blk_cell S.out 2).trans rfl;have s3:w1.cell? ⟨w.heap.size,3,none⟩=some (.int .i64 yx):=(blk_cell S.out 3).trans rfl;have s4:w1.cell? ⟨w.heap.size,4,none⟩=some (.int .i64 yy):=(blk_cell S.out 4).trans rfl;have s5:w1.cell? ⟨w.heap.size,5,none⟩=some (.int .i64 yz):=(blk_cell S.out 5).trans rfl;have s6:w1.cell? ⟨w.heap.size,6,none⟩=some (.int .i64 r):=(blk_cell S.out 6).trans rfl;have s7:w1.cell? ⟨w.heap.size,7,none⟩=some (.slice A n c):=(blk_cell S.out 7).trans rfl;have s8:w1.cell? ⟨w.heap.size,8,none⟩=some (.slice A' n' c'):=(blk_cell S.out 8).trans rfl;have sl:w.heap.size<w1.heap.size:=blk_lt S.out;go_wp2_with fail
 with_reducible refine(HMD.out _ HLS.out HLQ.out).mono ?_
 rintro en w2 ⟨Al,cl,l,rfl,hrd,hlc,hgd,hl3,hb⟩;replace S:=up_ hb S;replace W:=Lh (bthen W.out hb);obtain⟨NL,hNL⟩:=nm_ l.length;rw[hNL]at hlc hl3⊢;have HNL:=Lh hNL;have HRD:=Lh hrd;have HLC:=Lh hlc;have HGD:=Lh hgd;have HL3:=Lh hl3;clear hNL hrd hlc hgd hl3 hb HMD HLS HLQ s0 s1 s2 s3 s4 s5 s6 s7 s8 sl
 go_upto_region 2 with fail
 have bz:=(((Below.refl w2.heap.size w2).alloc (Nat.le_refl _) (.cells #[.int .i64 ax, .int .i64 ay, .int .i64 az] 27)).alloc (by simp) (.cells #[.int .i64 tx, .int .i64 ty, .int .i64 tz] 27));have nz0:=heap_alloc_new w2 (.cells #[.int .i64 ax, .int .i64 ay, .int .i64 az] 27);replace nz0:=(Below.heap_alloc _ (.cells #[.int .i64 tx, .int .i64 ty, .int .i64 tz] 27) _ (by simp<;>omega)).trans nz0;have nz1:=heap_alloc_new (w2.alloc (.cells #[.int .i64 ax, .int .i64 ay, .int .i64 az] 27)) (.cells #[.int .i64 tx, .int .i64 ty, .int .i64 tz] 27);simp only[World.size_alloc]at nz1;obtain⟨w3,hwz⟩:=nm_ (((w2.alloc (.cells #[.int .i64 ax, .int .i64 ay, .int .i64 az] 27)).alloc (.cells #[.int .i64 tx, .int .i64 ty, .int .i64 tz] 27)));rw[hwz]at bz nz0 nz1⊢;replace S:=up_ bz S;replace HRD:=Lh (HRD.below bz);replace W:=Lh (bthen W.out bz);have HPA:=Lh nz0;have HPB:=Lh nz1;clear hwz bz nz0 nz1;obtain⟨x0,x1,x2,xl⟩:=f3_ w2.heap.size HPA.out;obtain⟨k0,k1,k2,kl⟩:=f3_ (w2.heap.size+1) HPB.out;go_wp2_with fail
 with_reducible refine(HCT.out w3 l Al NL cl HRD.out.rd HGD.out HNL.out (by have:=HL3.out;omega)).mono ?_
 rintro en w4 ⟨rfl,hb⟩;replace S:=up_ hb S;replace HPA:=up_ hb HPA;replace HPB:=up_ hb HPB;replace HRD:=Lh (HRD.below hb);replace W:=Lh (bthen W.out hb);clear hb x0 x1 x2 xl k0 k1 k2 kl;go_wp2
 go_ret
 exact⟨rfl,W.out⟩
end Go.Proofs.YtckdhahceelckaaGreat.G
