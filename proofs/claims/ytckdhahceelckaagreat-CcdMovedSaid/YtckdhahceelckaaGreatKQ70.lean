/- What the laws of this claim lean on: contracts of functions and plain lemmas; no condition of its own (part 70: XZ8, XL1). -/
import Derived.Test.YtckdhahceelckaaGreatKQ29
import Derived.Test.YtckdhahceelckaaGreatKQ44
import Derived.Test.YtckdhahceelckaaGreatKQ53
import Derived.Test.YtckdhahceelckaaGreatKQ57
import Derived.Test.YtckdhahceelckaaGreatKQ67
set_option maxHeartbeats 16000000
set_option maxRecDepth 100000
set_option linter.unusedVariables false
set_option linter.unusedSimpArgs false
namespace Go.Proofs.YtckdhahceelckaaGreat.G
open Go.RowKit Go.Proofs.YtckdhahceelckaaGreatW.PrintWords Go.Proofs.YtckdhahceelckaaGreatW.PrintLast Go.Proofs.YtckdhahceelckaaGreatW.PrintMore
attribute [local go_sem] max2_mx min2_mn max_two min_two max_three min_three max_four min_four
attribute [local go_sem high] eqA23 eqA40
attribute [local go_sem high] eqA27
theorem low_world (w:World)(b:Nat)(h:b≤w.heap.size):∃w1:World,w1.heap.size=b∧Below w1.heap.size w1 w:=by
 have hs:({w with heap:=w.heap.extract 0 b}:World).heap.size=b:=by simp;omega
 exact⟨{w with heap:=w.heap.extract 0 b},hs,⟨rfl,rfl,rfl,by rw[hs];exact h,fun k hk=>by rw[hs]at hk;simp[Array.getElem?_extract];omega⟩⟩
section
variable {w:World}{ops:Array Oper}{rest:List Oper}{o:Oper}{a:Act}{Q:Exit→Act→World→Prop}
/-- append of one core; where the list lies then -/
theorem appM_ (w1:World)(hgd:o.guard=none)(s x:Operand)(ho:o.op= .call {callee:= .builtin .append,args:=#[s,x],argTypes:=#[42,42]})
  (v:Value) (l:List Cr) (d:Cr) (g c:Nat) (A0 A1 A2:Option Addr) (n0 n1 n2 c0 c1 c2:Nat) (hs:a.eval s=v) (hx:a.eval x= .slice (some ⟨g,0,none⟩) 1 c) (hown:OC w1 w v l) (hc:w.heap[g]?=some (.cells #[.slice A0 n0 c0, .slice A1 n1 c1, .slice A2 n2 c2, .int .i64 d.r] 35 (0,0))) (hd:CrO w w1.heap.size v.ownBlock A0 A1 A2 n0 n1 n2 c0 c1 c2 d) (hsz:l.length+1≤1000000)
  (h:∀v' w',OC w1 w' v' (l++[d])→w.grownBy w' v.ownBlock→(v'.ownBlock=v.ownBlock∨v'.ownBlock=some w.heap.size)→wpList Tryz.prog ops Q rest (a.put o.dst v') w'):wpList Tryz.prog ops Q (o::rest) a w:=by
 obtain⟨i0,hi,hz0,hz1,hz2⟩:=info_parts info36;obtain⟨⟨news,h1,h2⟩,h3⟩:=id hown
 obtain⟨v',w',q0,q1,q2,_,q4⟩:=Go.run_append_own_at (P:=Tryz.prog) w w1.heap.size 42 o.type 35 i0 _ 4 80 Tryz.underlying42 hi hz0 hz1 hz2 rfl (by omega) v l.length news h1 ⟨g,0,none⟩ 1 c [.slice A0 n0 c0, .slice A1 n1 c1, .slice A2 n2 c2, .int .i64 d.r] rfl (fun j u hj=>by
   rw[add_at,Nat.zero_add]
   match j,hj with
   |0,hj=>simp at hj;subst hj;exact(blk_cell hc 0).trans rfl
   |1,hj=>simp at hj;subst hj;exact(blk_cell hc 1).trans rfl
   |2,hj=>simp at hj;subst hj;exact(blk_cell hc 2).trans rfl
   |3,hj=>simp at hj;subst hj;exact(blk_cell hc 3).trans rfl
   |j+4,hj=>simp at hj) (fun u hu=>by simp at hu;rcases hu with rfl|rfl|rfl|rfl<;>rfl) (by unfold maxLen;omega) (by omega) h3.size
 refine Go.Lib.wpList_append_run w hgd s x 42 42 ho v (.slice (some ⟨g,0,none⟩) 1 c) hs hx v' w' q0 (h v' w' ⟨⟨news++[.slice A0 n0 c0, .slice A1 n1 c1, .slice A2 n2 c2, .int .i64 d.r],?_,?_⟩,h3.grown q2 h3.size (fun k hk=>(h1.lt k hk).1)⟩ q2 q4)
 ·rw[List.length_append];exact q1
 ·have hnl:=h1.1;exact(h2.grow q2 q4).snoc hnl (hd.grow q2 q4)
end
/-- the list that is built, and what lay there before -/
structure MSt (w1 w8 W:World) (v:Value) (l:List Cr):Prop where
 own:OC w1 W v l
 low:Below w8.heap.size w8 W
 hi:∀k,v.ownBlock=some k→w8.heap.size≤k
theorem MSt.grown {w1 w8 W W':World}{v:Value}{l:List Cr}(h:MSt w1 w8 W v l)(hb:Below W.heap.size W W'):MSt w1 w8 W' v l:=⟨h.own.grown hb,bthen h.low hb,h.hi⟩
theorem MSt.app {w1 w8 W W':World}{v v':Value}{l l':List Cr}(h:MSt w1 w8 W v l)(ho:OC w1 W' v' l')(hg:W.grownBy W' v.ownBlock)(hat:v'.ownBlock=v.ownBlock∨v'.ownBlock=some W.heap.size):MSt w1 w8 W' v' l':=
 ⟨ho,h.low.grown hg h.low.size h.hi,fun k hk=>by
  rcases hat with e|e
  ·exact h.hi k (e▸hk)
  ·rw[e]at hk;cases hk;exact h.low.size⟩
theorem moved_sum {a g:P3}(ha:in3 4672924418048 a)(hg:in3 1048576 g):(⟨wrap64 (a.x+wrap64 (g.x*1048576)),wrap64 (a.y+wrap64 (g.y*1048576)),wrap64 (a.z+wrap64 (g.z*1048576))⟩:P3)=plusI (gF g) a:=by
 unfold in3 at ha hg;unfold plusI gF wrap64;simp only[P3.mk.injEq];omega
theorem w3_in (x y z:Int):in3 9223372036854775808 ⟨wrap64 x,wrap64 y,wrap64 z⟩:=by unfold in3 wrap64;simp only;omega
/-- a core moved: what its value is, beside the list -/
theorem moved_core {W:World}{w1 w8 wr W9:World}{v vp:Value}{L:List Cr}{g:P3}{d:Cr}{A1 A2:Option Addr}{n1 n2 c1 c2:Nat}(hM:MSt w1 w8 wr v L)(hb:Below wr.heap.size wr W)(hp:OwnP W W9.heap.size vp (d.p.map (plusI g)))(h9:wr.heap.size≤W9.heap.size)(hq1:RdB w8 A1 d.a)(hq2:RdB w8 A2 d.e)(e1:d.a.length=n1)(e2:d.e.length=n2)(k1:n1≤c1)(k2:n2≤c2)(l1:loB A1 n1 w1.heap.size)(l2:loB A2 n2 w1.heap.size):
  ∃Ap cp,vp= .slice Ap d.p.length cp∧CrO W w1.heap.size v.ownBlock Ap A1 A2 d.p.length n1 n2 cp c1 c2 (movC g d):=by
 obtain⟨Ap,cp,hvp,hlp,hrp,hbp⟩:=hp.rdB2;rw[List.length_map]at hvp hlp;have hlow:=bthen hM.low hb;have lt:=hM.own.lt;refine⟨Ap,cp,hvp,⟨Ap,A1,A2,cp,c1,c2,?_,hrp,hq1.below hlow,hq2.below hlow,?_,?_,?_⟩,⟨?_,?_,?_⟩,?_,l1,l2⟩
 ·show _=_;simp only[movC,List.length_map,e1,e2]
 ·simpa[movC]using hlp
 ·simpa[movC,e1]using k1
 ·simpa[movC,e2]using k2
 ·intro _ ad e h;have:=hbp ad e;have:=(lt _ h.symm).2;omega
 ·intro hn ad e h;have:=hq1.2 (by intro z;rw[z]at e1;exact hn e1.symm) ad e;have:=hM.hi _ h.symm;omega
 ·intro hn ad e h;have:=hq2.2 (by intro z;rw[z]at e2;exact hn e2.symm) ad e;have:=hM.hi _ h.symm;omega
 ·intro _ ad e;have:=hbp ad e;have:=hM.own.below.size;omega
theorem ccdMoved_calls {w:World}(f y:P3)(r:Int)(A:Option Addr)(n c:Nat)(A':Option Addr)(n' c':Nat)(ls:List RawS)(lq:List P7)(y2:P3)(hf:pI64 f)(hy:pI64 y)(hr:i64 r)(hls:RdW w A ls)(hn:ls.length=n)(hlq:RdQ w A' lq)(hn':lq.length=n')(hb:n≤140737488355328)(hb':n'≤140737488355328)(hy2:pI64 y2):
  Calls Tryz.prog 7 #[.agg (cShot f y r A n c A' n' c'),aP y2] w fun e w'=>e= .returned (.bool true)∧Below w.heap.size w w':=by
 have HGx:=Lh (fun W=>part18_calls y2.x 1048576 hy2.1.1 hy2.1.2 (by decide) (by decide) W);have qbx:=partF_bd y2.x 1048576 (by decide);obtain⟨gx,hgx⟩:=nm_ (partF y2.x 1048576);rw[hgx]at HGx qbx;clear hgx;have HGy:=Lh (fun W=>part18_calls y2.y 1048576 hy2.2.1.1 hy2.2.1.2 (by decide) (by decide) W);have qby:=partF_bd y2.y 1048576 (by decide);obtain⟨gy,hgy⟩:=nm_ (partF y2.y 1048576);rw[hgy]at HGy qby;clear hgy;have HGz:=Lh (fun W=>part18_calls y2.z 1048576 hy2.2.2.1 hy2.2.2.2 (by decide) (by decide) W);have qbz:=partF_bd y2.z 1048576 (by decide);obtain⟨gz,hgz⟩:=nm_ (partF y2.z 1048576);rw[hgz]at HGz qbz;clear hgz;have HGI:Hid (in3 1048576 ⟨gx,gy,gz⟩):=Lh (by unfold in3;simp only;omega);clear qbx qby qbz hy2;have HMD:=Lh (fun(W:World) (h1:RdW W A ls) (h2:RdQ W A' lq)=>made_calls f y r A n c A' n' c' ls lq hf hy hr h1 hn h2 hn' hb hb');unfold MadeP at HMD;have HSO:=Lh (shot_ok f y r);have HLS:=Lh hls;have HLQ:=Lh hlq;clear hls hlq hn hn' hf hy hr hb hb';obtain⟨a,ha⟩:=nm_ (fromS f);obtain⟨b,hb⟩:=nm_ (toS f y);obtain⟨ra,hra⟩:=nm_ (radS r);rw[ha,hb,hra]at HMD HSO;clear ha hb hra;have HH1:=Lh (fun(vw:Value) (W:World) l A n c (hl:RdC W A l) (hn:l.length=n) (hnb:n≤140737488355328)=>hold_calls (w:=W) vw a b ra l A n c hl hn hnb HSO.out.a63 HSO.out.b63);have es:=moved_sum (in3_le (by decide) HSO.out.ha) HGI.out;have et:=moved_sum HSO.out.hb HGI.out;have HRS:=Lh (fun l (hl:∀d∈l,GoodC d∧d.e.length≤16)=>(congrArg (fun z=>holdF z _ ra (l.map (movC ⟨gx,gy,gz⟩))) es).trans ((congrArg (fun z=>holdF _ z ra (l.map (movC ⟨gx,gy,gz⟩))) et).trans (hold_moved HSO.out HGI.out l fun d hd=>⟨(hl d hd).1.may,(hl d hd).1.near⟩)));have HEN:=Lh (fun l=>moved_sum (a:=(holdF a b ra l).1) (HSO.out.end_ (by have:=leastH_le;exact Int.natCast_nonneg _) (Int.ofNat_le.2 (holdK_le a b ra l))) HGI.out);have HS63:Hid (in3 9223372036854775808 (plusI (gF ⟨gx,gy,gz⟩) a)):=Lh (by rw[←es];exact w3_in ..);have HT63:Hid (in3 9223372036854775808 (plusI (gF ⟨gx,gy,gz⟩) b)):=Lh (by rw[←et];exact w3_in ..);rw[←es]at HS63;rw[←et]at HT63;clear es et;have HAW:=Lh awake18_calls;obtain⟨y2x,y2y,y2z⟩:=y2;obtain⟨ax,ay,az⟩:=a;obtain⟨tx,ty,tz⟩:=b;obtain⟨fx,fy,fz⟩:=f;obtain⟨yx,yy,yz⟩:=y;have W:=Lh (Below.refl w.heap.size w);go_enter Tryz.func7,Tryz.ntmps7
 go_upto_region 1 with fail
 have bz:=(((Below.refl w.heap.size w).alloc (Nat.le_refl _) (.cells #[.int .i64 fx, .int .i64 fy, .int .i64 fz, .int .i64 yx, .int .i64 yy, .int .i64 yz, .int .i64 r, .slice A n c, .slice A' n' c'] 47)).alloc (by simp) (.cells #[.int .i64 y2x, .int .i64 y2y, .int .i64 y2z] 23));have nz0:=heap_alloc_new w (.cells #[.int .i64 fx, .int .i64 fy, .int .i64 fz, .int .i64 yx, .int .i64 yy, .int .i64 yz, .int .i64 r, .slice A n c, .slice A' n' c'] 47);replace nz0:=(Below.heap_alloc _ (.cells #[.int .i64 y2x, .int .i64 y2y, .int .i64 y2z] 23) _ (by simp<;>omega)).trans nz0;have nz1:=heap_alloc_new (w.alloc (.cells #[.int .i64 fx, .int .i64 fy, .int .i64 fz, .int .i64 yx, .int .i64 yy, .int .i64 yz, .int .i64 r, .slice A n c, .slice A' n' c'] 47)) (.cells #[.int .i64 y2x, .int .i64 y2y, .int .i64 y2z] 23);simp only[World.size_alloc]at nz1;obtain⟨w1,hwz⟩:=nm_ (((w.alloc (.cells #[.int .i64 fx, .int .i64 fy, .int .i64 fz, .int .i64 yx, .int .i64 yy, .int .i64 yz, .int .i64 r, .slice A n c, .slice A' n' c'] 47)).alloc (.cells #[.int .i64 y2x, .int .i64 y2y, .int .i64 y2z] 23)));rw[hwz]at bz nz0 nz1⊢;replace W:=Lh (bthen W.out bz);have S:=Lh nz0;have BY:=Lh nz1;clear hwz bz nz0 nz1;replace HLS:=Lh (HLS.below W.out);replace HLQ:=Lh (HLQ.below W.out);go_wp2_with fail
 with_reducible refine(HAW.out _).mono ?_
 rintro en w2 ⟨rfl,hb⟩;replace S:=up_ hb S;replace BY:=up_ hb BY;replace HLS:=Lh (HLS.below hb);replace HLQ:=Lh (HLQ.below hb);replace W:=Lh (bthen W.out hb);clear HAW;clear hb
 go_upto_region 2 with fail
 have s0:w2.cell? ⟨w.heap.size,0,none⟩=some (.int .i64 fx):=(blk_cell S.out 0).trans rfl;have s1:w2.cell? ⟨w.heap.size,1,none⟩=some (.int .i64 fy):=(blk_cell S.out 1).trans rfl;have s2:w2.cell? ⟨w.heap.size,2,none⟩=some (.int .i64 fz):=(blk_cell S.out 2).trans rfl;have s3:w2.cell? ⟨w.heap.size,3,none⟩=some (.int .i64 yx):=(blk_cell S.out 3).trans rfl;have s4:w2.cell? ⟨w.heap.size,4,none⟩=some (.int .i64 yy):=(blk_cell S.out 4).trans rfl;have s5:w2.cell? ⟨w.heap.size,5,none⟩=some (.int .i64 yz):=(blk_cell S.out 5).trans rfl;have s6:w2.cell? ⟨w.heap.size,6,none⟩=some (.int .i64 r):=(blk_cell S.out 6).trans rfl;have s7:w2.cell? ⟨w.heap.size,7,none⟩=some (.slice A n c):=(blk_cell S.out 7).trans rfl;have s8:w2.cell? ⟨w.heap.size,8,none⟩=some (.slice A' n' c'):=(blk_cell S.out 8).trans rfl;have sl:w.heap.size<w2.heap.size:=blk_lt S.out;go_wp2_with fail;have hs0:Hid (w.heap.size+1<w2.heap.size):=Lh (blk_lt BY.out)
 with_reducible refine(HMD.out _ HLS.out HLQ.out).mono ?_
 rintro en w3 ⟨Al,cl,l,rfl,hrd,hlc,hgd,hl3,hb⟩;replace S:=up_ hb S;replace BY:=up_ hb BY;replace W:=Lh (bthen W.out hb);obtain⟨NL,hNL⟩:=nm_ l.length;rw[hNL]at hlc hl3⊢;have HNL:=Lh hNL;have HRD:=Lh hrd;have HLC:=Lh hlc;have HGD:=Lh hgd;have HL3:=Lh hl3;have hs2:=Lh hb.size;clear hNL hrd hlc hgd hl3 hb HMD HLS HLQ s0 s1 s2 s3 s4 s5 s6 s7 s8 sl;clear S;have HRDs:Hid (w2.heap.size≤w3.heap.size):=hs2;clear hs2;have hs1:Hid (w.heap.size+1<w3.heap.size):=Lh (blk_lt BY.out)
 go_upto_region 3 with fail
 have bz:=(((Below.refl w3.heap.size w3).alloc (Nat.le_refl _) (.cells #[.int .i64 ax, .int .i64 ay, .int .i64 az] 27)).alloc (by simp) (.cells #[.int .i64 tx, .int .i64 ty, .int .i64 tz] 27));have nz0:=heap_alloc_new w3 (.cells #[.int .i64 ax, .int .i64 ay, .int .i64 az] 27);replace nz0:=(Below.heap_alloc _ (.cells #[.int .i64 tx, .int .i64 ty, .int .i64 tz] 27) _ (by simp<;>omega)).trans nz0;have nz1:=heap_alloc_new (w3.alloc (.cells #[.int .i64 ax, .int .i64 ay, .int .i64 az] 27)) (.cells #[.int .i64 tx, .int .i64 ty, .int .i64 tz] 27);simp only[World.size_alloc]at nz1;obtain⟨w4,hwz⟩:=nm_ (((w3.alloc (.cells #[.int .i64 ax, .int .i64 ay, .int .i64 az] 27)).alloc (.cells #[.int .i64 tx, .int .i64 ty, .int .i64 tz] 27)));rw[hwz]at bz nz0 nz1⊢;replace BY:=up_ bz BY;replace HRD:=Lh (HRD.below bz);replace W:=Lh (bthen W.out bz);have HPA:=Lh nz0;have HPB:=Lh nz1;clear hwz bz nz0 nz1;have hcl:Hid (w3.heap.size+1<w4.heap.size):=Lh (blk_lt HPB.out)
 go_upto_region 4 with fail
 have bz:=((Below.refl w4.heap.size w4).alloc (Nat.le_refl _) (.cells #[.bool false] 54));have nz0:=heap_alloc_new w4 (.cells #[.bool false] 54);obtain⟨w5,hwz⟩:=nm_ ((w4.alloc (.cells #[.bool false] 54)));rw[hwz]at bz nz0⊢;replace BY:=up_ bz BY;replace HPA:=up_ bz HPA;replace HPB:=up_ bz HPB;replace HRD:=Lh (HRD.below bz);replace W:=Lh (bthen W.out bz);have WK:=Lh nz0;clear hwz bz nz0;obtain⟨x0,x1,x2,xl⟩:=f3_ w3.heap.size HPA.out;obtain⟨k0,k1,k2,kl⟩:=f3_ (w3.heap.size+1) HPB.out;go_wp2_with fail
 with_reducible refine(HH1.out _ _ l Al NL cl HRD.out.rd HNL.out (by have:=HL3.out;omega)).mono ?_
 rintro en w6 ⟨rfl,hb⟩;replace BY:=up_ hb BY;replace HPA:=up_ hb HPA;replace HPB:=up_ hb HPB;replace WK:=up_ hb WK;replace HRD:=Lh (HRD.below hb);replace W:=Lh (bthen W.out hb);clear HH1;clear hb x0 x1 x2 xl k0 k1 k2 kl;have HRL:=Lh (HRS.out l HGD.out);have HEL:=Lh (HEN.out l);clear HRS HEN;obtain⟨R,hR⟩:=nm_ (holdF ⟨ax,ay,az⟩ ⟨tx,ty,tz⟩ ra l);rw[hR]at HRL HEL⊢;clear hR;obtain⟨⟨ox,oy,oz⟩,kk⟩:=R;simp only at HRL HEL
 go_upto_region 5 with fail
 have hs6:Hid (w4.heap.size<w6.heap.size):=Lh (blk_lt WK.out);have bz:=((Below.refl w6.heap.size w6).alloc (Nat.le_refl _) (.cells #[.int .i64 ox, .int .i64 oy, .int .i64 oz] 27));have nz0:=heap_alloc_new w6 (.cells #[.int .i64 ox, .int .i64 oy, .int .i64 oz] 27);obtain⟨w7,hwz⟩:=nm_ ((w6.alloc (.cells #[.int .i64 ox, .int .i64 oy, .int .i64 oz] 27)));rw[hwz]at bz nz0⊢;replace BY:=up_ bz BY;replace HPA:=up_ bz HPA;replace HPB:=up_ bz HPB;replace WK:=up_ bz WK;replace HRD:=Lh (HRD.below bz);replace W:=Lh (bthen W.out bz);have O1:=Lh nz0;clear hwz bz nz0;obtain⟨y0,y1,y2,yl⟩:=f3_ (w.heap.size+1) BY.out;have HB:=Lh ((Below.refl (w7.heap.size) w7).drew);refine start_ (n:=11) (S:=fun w'=>w'.cell? ⟨w.heap.size+1,0,none⟩=some (.int .i64 y2x)∧w'.cell? ⟨w.heap.size+1,1,none⟩=some (.int .i64 y2y)∧w'.cell? ⟨w.heap.size+1,2,none⟩=some (.int .i64 y2z)) (ds:=[10]) (MB_ 11 0) (by kernel_rfl) rfl rfl ⟨(HB.cell (p:=⟨w.heap.size+1,0,none⟩) (yl)).trans y0,(HB.cell (p:=⟨w.heap.size+1,1,none⟩) (yl)).trans y1,(HB.cell (p:=⟨w.heap.size+1,2,none⟩) (yl)).trans y2⟩ (fun hE=>?_);obtain⟨wd,hwd⟩:=nm_ w7.drew;rw[hwd]at HB hE⊢;clear hwd;refine pure_ (i:=0) (N:=some 40) (v:=?_) (a':=?_) (MB_ 11 1) rfl rfl (by kernel_rfl) (fun _ _ _ h=>h) (Or.inl ⟨by rfl,?_⟩) ?_ ?_;rotate_left
 ·intro w';go_simp
  with_reducible rfl
 rotate_left
 ·simp only[Act.put,List.setIfInBounds_toArray,List.set_cons_zero,List.set_cons_succ,i64_w,i32_w];rfl
 refine pure_ (i:=3) (N:=some 43) (v:=?_) (a':=?_) (MB_ 11 9) rfl rfl (by kernel_rfl) (fun _ _ _ h=>h) (Or.inl ⟨by rfl,?_⟩) ?_ ?_;rotate_left
 ·intro w';go_simp
  with_reducible rfl
 rotate_left
 ·simp only[Act.put,List.setIfInBounds_toArray,List.set_cons_zero,List.set_cons_succ,i64_w,i32_w];rfl
 refine pure_ (i:=6) (N:=some 46) (v:=?_) (a':=?_) (MB_ 11 73) rfl rfl (by kernel_rfl) (fun _ _ _ h=>h) (Or.inl ⟨by rfl,?_⟩) ?_ ?_;rotate_left
 ·intro w';go_simp
  with_reducible rfl
 rotate_left
 ·simp only[Act.put,List.setIfInBounds_toArray,List.set_cons_zero,List.set_cons_succ,i64_w,i32_w];rfl
 refine take_ (i:=1) (N:=some 41) (v:=?_) (a':=?_) (MB_ 11 75) rfl rfl (by kernel_rfl) (fun _ _ _ h=>h) (Or.inl ⟨by rfl,?_⟩) hE ?_ ?_;rotate_left
 ·rintro w' ⟨s0,s1,s2⟩;go_simp
  with_reducible rfl
 rotate_left
 ·simp only[Act.put,List.setIfInBounds_toArray,List.set_cons_zero,List.set_cons_succ,i64_w,i32_w];rfl
 refine take_ (i:=4) (N:=some 44) (v:=?_) (a':=?_) (MB_ 11 91) rfl rfl (by kernel_rfl) (fun _ _ _ h=>h) (Or.inl ⟨by rfl,?_⟩) hE ?_ ?_;rotate_left
 ·rintro w' ⟨s0,s1,s2⟩;go_simp
  with_reducible rfl
 rotate_left
 ·simp only[Act.put,List.setIfInBounds_toArray,List.set_cons_zero,List.set_cons_succ,i64_w,i32_w];rfl
 refine take_ (i:=7) (N:=some 47) (v:=?_) (a':=?_) (MB_ 11 219) rfl rfl (by kernel_rfl) (fun _ _ _ h=>h) (Or.inl ⟨by rfl,?_⟩) hE ?_ ?_;rotate_left
 ·rintro w' ⟨s0,s1,s2⟩;go_simp
  with_reducible rfl
 rotate_left
 ·simp only[Act.put,List.setIfInBounds_toArray,List.set_cons_zero,List.set_cons_succ,i64_w,i32_w];rfl
 refine one_ (i:=2) (N:=some 42) (MB_ 11 223) rfl rfl (by kernel_rfl) (by decide) (fun K hK=>?_);refine gs_ Tryz.func24 #[.int .i64 y2x, .int .i64 1048576] ?_
 with_reducible refine(HGx.out _).mono ?_
 rintro en wz ⟨rfl,rfl⟩;refine⟨_,rfl,?_⟩;refine hK.out _ _ ⟨(HB.cell (p:=⟨w.heap.size+1,0,none⟩) (yl)).trans y0,(HB.cell (p:=⟨w.heap.size+1,1,none⟩) (yl)).trans y1,(HB.cell (p:=⟨w.heap.size+1,2,none⟩) (yl)).trans y2⟩ (fun hE=>?_);clear hK K;refine norm_ (a':=?_) ?_ ?_;rotate_left
 ·show Act.put _ (some 42) _=_;simp only[Act.put,List.setIfInBounds_toArray,List.set_cons_zero,List.set_cons_succ,i64_w,i32_w];rfl
 refine one_ (i:=5) (N:=some 45) (MB_ 11 255) rfl rfl (by kernel_rfl) (by decide) (fun K hK=>?_);refine gs_ Tryz.func24 #[.int .i64 y2y, .int .i64 1048576] ?_
 with_reducible refine(HGy.out _).mono ?_
 rintro en wz ⟨rfl,rfl⟩;refine⟨_,rfl,?_⟩;refine hK.out _ _ ⟨(HB.cell (p:=⟨w.heap.size+1,0,none⟩) (yl)).trans y0,(HB.cell (p:=⟨w.heap.size+1,1,none⟩) (yl)).trans y1,(HB.cell (p:=⟨w.heap.size+1,2,none⟩) (yl)).trans y2⟩ (fun hE=>?_);clear hK K;refine norm_ (a':=?_) ?_ ?_;rotate_left
 ·show Act.put _ (some 45) _=_;simp only[Act.put,List.setIfInBounds_toArray,List.set_cons_zero,List.set_cons_succ,i64_w,i32_w];rfl
 refine one_ (i:=8) (N:=some 48) (MB_ 11 511) rfl rfl (by kernel_rfl) (by decide) (fun K hK=>?_);refine gs_ Tryz.func24 #[.int .i64 y2z, .int .i64 1048576] ?_
 with_reducible refine(HGz.out _).mono ?_
 rintro en wz ⟨rfl,rfl⟩;refine⟨_,rfl,?_⟩;refine hK.out _ _ ⟨(HB.cell (p:=⟨w.heap.size+1,0,none⟩) (yl)).trans y0,(HB.cell (p:=⟨w.heap.size+1,1,none⟩) (yl)).trans y1,(HB.cell (p:=⟨w.heap.size+1,2,none⟩) (yl)).trans y2⟩ (fun hE=>?_);clear hK K;refine norm_ (a':=?_) ?_ ?_;rotate_left
 ·show Act.put _ (some 48) _=_;simp only[Act.put,List.setIfInBounds_toArray,List.set_cons_zero,List.set_cons_succ,i64_w,i32_w];rfl
 refine pure_ (i:=9) (N:=some 49) (v:=?_) (a':=?_) (MB_ 11 1023) rfl rfl (by kernel_rfl) (fun _ _ _ h=>h) (Or.inl ⟨by rfl,?_⟩) ?_ ?_;rotate_left
 ·intro w';go_simp
  with_reducible rfl
 rotate_left
 ·simp only[Act.put,List.setIfInBounds_toArray,List.set_cons_zero,List.set_cons_succ,i64_w,i32_w];rfl
 refine last_ (i:=10) (N:=none) (MB_ 11 2047) rfl rfl (by kernel_rfl) (by decide) (fun K hK=>?_);have SBY:=up_ HB.out BY;have SHPA:=up_ HB.out HPA;have SHPB:=up_ HB.out HPB;have SWK:=up_ HB.out WK;have SO1:=up_ HB.out O1;have WB:=Lh (bthen W.out HB.out);have sc0:World.cell? _ ⟨w.heap.size+1,0,none⟩=some (.int .i64 y2x):=(blk_cell SBY.out 0).trans rfl;have sf0:World.frozen? _ ⟨w.heap.size+1,0,none⟩=false:=blk_frozen SBY.out 0;have sc1:World.cell? _ ⟨w.heap.size+1,1,none⟩=some (.int .i64 y2y):=(blk_cell SBY.out 1).trans rfl;have sf1:World.frozen? _ ⟨w.heap.size+1,1,none⟩=false:=blk_frozen SBY.out 1;have sc2:World.cell? _ ⟨w.heap.size+1,2,none⟩=some (.int .i64 y2z):=(blk_cell SBY.out 2).trans rfl;have sf2:World.frozen? _ ⟨w.heap.size+1,2,none⟩=false:=blk_frozen SBY.out 2;refine skip_ (w1:=?_) (by rfl) rfl ?_ ?_;rotate_left
 ·go_simp;rfl
 have SHPA:=Lh ((bo3 (show w3.heap.size≠w.heap.size+1 by have:=hs1.out;have:=hcl.out;have:=hs6.out;omega) (.int .i64 gx) (.int .i64 gy) (.int .i64 gz)).trans SHPA.out);have SHPB:=Lh ((bo3 (show w3.heap.size+1≠w.heap.size+1 by have:=hs1.out;have:=hcl.out;have:=hs6.out;omega) (.int .i64 gx) (.int .i64 gy) (.int .i64 gz)).trans SHPB.out);have SWK:=Lh ((bo3 (show w4.heap.size≠w.heap.size+1 by have:=hs1.out;have:=hcl.out;have:=hs6.out;omega) (.int .i64 gx) (.int .i64 gy) (.int .i64 gz)).trans SWK.out);have SO1:=Lh ((bo3 (show w6.heap.size≠w.heap.size+1 by have:=hs1.out;have:=hcl.out;have:=hs6.out;omega) (.int .i64 gx) (.int .i64 gy) (.int .i64 gz)).trans SO1.out);have SBY:=Lh (bs3 SBY.out (.int .i64 gx) (.int .i64 gy) (.int .i64 gz));have WB:=Lh (bb3 WB.out (show w.heap.size≤w.heap.size+1 by omega) (.int .i64 gx) (.int .i64 gy) (.int .i64 gz));clear sc0 sf0 sc1 sf1 sc2 sf2;refine hK.out _ _ ?_;clear hK K;refine done_ (by kernel_rfl) ?_;have SRD:=Lh ((((HRD.below HB.out).setLow (show w.heap.size+1<w2.heap.size by have:=hs0.out;omega) 0 (.int .i64 gx)).setLow (show w.heap.size+1<w2.heap.size by have:=hs0.out;omega) 1 (.int .i64 gy)).setLow (show w.heap.size+1<w2.heap.size by have:=hs0.out;omega) 2 (.int .i64 gz));obtain⟨wv,hV⟩:=nm_ ((((wz.setCell ⟨w.heap.size+1,0,none⟩ (.int .i64 gx)).setCell ⟨w.heap.size+1,1,none⟩ (.int .i64 gy)).setCell ⟨w.heap.size+1,2,none⟩ (.int .i64 gz)));rw[hV]at SBY SHPA SHPB SWK SO1 SRD WB⊢;clear hV hE HB HPA HPB WK O1 BY HRD W HGx HGy HGz y0 y1 y2 yl;have BY:=Lh SBY.out;have HPA:=Lh SHPA.out;have HPB:=Lh SHPB.out;have WK:=Lh SWK.out;have O1:=Lh SO1.out;have HRD:=Lh SRD.out;have W:=Lh WB.out;clear SBY SHPA SHPB SWK SO1 SRD WB
 go_upto_region 6 with fail
 obtain⟨y0,y1,y2,yl⟩:=f3_ (w.heap.size+1) BY.out
 go_upto_region 7 with fail
 have bz:=((Below.refl wv.heap.size wv).alloc (Nat.le_refl _) (.cells #[.int .i64 (wrap64 (gx*1048576)), .int .i64 (wrap64 (gy*1048576)), .int .i64 (wrap64 (gz*1048576))] 27));have nz0:=heap_alloc_new wv (.cells #[.int .i64 (wrap64 (gx*1048576)), .int .i64 (wrap64 (gy*1048576)), .int .i64 (wrap64 (gz*1048576))] 27);obtain⟨w8,hwz⟩:=nm_ ((wv.alloc (.cells #[.int .i64 (wrap64 (gx*1048576)), .int .i64 (wrap64 (gy*1048576)), .int .i64 (wrap64 (gz*1048576))] 27)));rw[hwz]at bz nz0⊢;replace BY:=up_ bz BY;replace HPA:=up_ bz HPA;replace HPB:=up_ bz HPB;replace WK:=up_ bz WK;replace O1:=up_ bz O1;replace HRD:=Lh (HRD.below bz);replace W:=Lh (bthen W.out bz);have HD:=Lh nz0;clear hwz bz nz0 y0 y1 y2 yl;go_wp2_with fail
 (try clear hE)
 (try clear hE)
 (try clear SBY SHPA SHPB SWK SO1 WB)
 have hw2:Hid (w2.heap.size≤w8.heap.size):=Lh (by have:=blk_lt O1.out;have:=hs6.out;have:=hcl.out;have:=hs1.out;have:=hs0.out;have:=HRDs.out;omega);obtain⟨wb,hwb,hbb⟩:=low_world w8 w2.heap.size hw2.out;have HWB:=Lh hwb;have hBB:=Lh hbb;clear hwb hbb;go_loopw [14,15] (fun v14 v15 wr=>∃i:Nat,i≤NL∧v15= .int .i64 i∧Hid (MSt wb w8 wr v14 ((l.take i).map (movC ⟨gx,gy,gz⟩)))) (fun _ i _=>NL-(intOf i).toNat)
 case atStart=>exact⟨0,by omega,rfl,Lh ⟨by simpa using(OC.start wb).grown hBB.out,Below.refl _ _,fun k hk=>by cases hk⟩⟩
 case round=>
  obtain⟨i,hi,rfl,hM⟩:=hrel;obtain⟨wq,hwq⟩:∃x:World,x=wr:=⟨_,rfl⟩;subst hwq;by_cases hlt:i<NL
  ·have hil:i<l.length:=by rw[HNL.out];exact hlt
   have hN3:NL≤3:=HL3.out;have hlen:=HNL.out;obtain⟨lb,lo,A0,A1,A2,n0,n1,n2,c0,c1,c2,hAl,ll,e0,e1,e2,e3,hcv,-,lob0,lob1,lob2⟩:=HRD.out i _ (List.getElem?_eq_getElem hil);subst hAl;obtain⟨d,hd⟩:=nm_ (l[i]);rw[hd]at e3 hcv;obtain⟨B0,B1,B2,m0,m1,m2,e,q0,q1,q2,k0,k1,k2⟩:=hcv.out;simp only[Value.agg.injEq,Array.mk.injEq,List.cons.injEq,Value.slice.injEq,and_true]at e;obtain⟨⟨rfl,hn0,rfl⟩,⟨rfl,hn1,rfl⟩,⟨rfl,hn2,rfl⟩⟩:=e;have hgd:=(HGD.out d (by rw[←hd];exact List.getElem_mem hil)).1;have HMI:=Lh (mapM_snoc (movC ⟨gx,gy,gz⟩) l i hil);rw[hd]at HMI;have hb8:=hM.out.low;have HQ0:=Lh q0;have HQ1:=Lh q1;have HQ2:=Lh q2;have HK1:=Lh k1;have HK2:=Lh k2;have HL1:=Lh lob1;have HL2:=Lh lob2;have HN0:=Lh hn0.symm;have HN1:=Lh hn1.symm;have HN2:=Lh hn2.symm;have HE0:=Lh e0;have HLL:=Lh ll;replace e0:=(hb8.cell (p:=⟨lb,_,none⟩) ll).trans e0;replace e1:=(hb8.cell (p:=⟨lb,_,none⟩) ll).trans e1;replace e2:=(hb8.cell (p:=⟨lb,_,none⟩) ll).trans e2;replace e3:=(hb8.cell (p:=⟨lb,_,none⟩) ll).trans e3;replace ll:=Nat.lt_of_lt_of_le ll hb8.size;have HNR:=Lh hgd.near;have hp12:=Lh hgd.p1;have ti:(i:Int)<(NL:Int):=by omega
   clear hcv q0 q1 q2 k0 k1 k2 hgd hb8 lob0 lob1 lob2 hn0 hn1 hn2 hd hil hlen
   go_upto_region 12 with fail
   have bz:=(Below.refl _ wq).alloc (Nat.le_refl _) (.cells #[.slice A0 n0 c0, .slice A1 n1 c1, .slice A2 n2 c2, .int .i64 d.r] 35);have nz:=heap_alloc_new wq (.cells #[.slice A0 n0 c0, .slice A1 n1 c1, .slice A2 n2 c2, .int .i64 d.r] 35);obtain⟨wa,hwa⟩:=nm_ (wq.alloc (.cells #[.slice A0 n0 c0, .slice A1 n1 c1, .slice A2 n2 c2, .int .i64 d.r] 35));rw[hwa]at bz nz⊢;have TT:=Lh nz;have BB:=Lh bz;obtain⟨TB,hTB⟩:=nm_ wq.heap.size;rw[hTB]at TT⊢;have HTB:=Lh hTB;clear hwa bz nz hTB e0 e1 e2 e3 ll;have c0_:wa.cell? ⟨TB,0,none⟩=some (.slice A0 n0 c0):=(blk_cell TT.out 0).trans rfl;have f0_:wa.frozen? ⟨TB,0,none⟩=false:=blk_frozen TT.out 0;have lt_:TB<wa.heap.size:=blk_lt TT.out;go_wp2_with fail;have T9:=Lh (blk40 TT.out (.slice none 0 0));have B9:=Lh (bb1 BB.out (show wq.heap.size≤TB from Nat.le_of_eq HTB.out) (.slice none 0 0));obtain⟨w9,hw9⟩:=nm_ (wa.setCell ⟨TB,0,none⟩ (.slice none 0 0));rw[hw9]at T9 B9⊢;have L9:=Lh (blk_lt T9.out);clear hw9 TT BB c0_ f0_ lt_;go_loopw [17] (fun v17 wr=>∃(k:Nat) (v:Value),k≤n0∧v17= .int .i64 k∧Hid (OwnP wr w9.heap.size v ((d.p.take k).map (plusI ⟨gx,gy,gz⟩)))∧Hid (w9.grownBy wr (some TB))∧Hid (wr.heap[TB]?=some (.cells #[v, .slice A1 n1 c1, .slice A2 n2 c2, .int .i64 d.r] 35 (0,0)))) (fun k _=>n0-(intOf k).toNat)
   case atStart=>exact⟨0, .slice none 0 0,by omega,rfl,Lh (OwnP.nil _ _),Lh (gb_refl _ _),T9⟩
   case round=>
    clear T9;obtain⟨k,v,hk,rfl,hO,hG,hT⟩:=hrel;obtain⟨wk,hwk⟩:∃x:World,x=wr:=⟨_,rfl⟩;subst hwk;have HBQ:=Lh (below_gb B9.out hG.out (Nat.le_of_eq HTB.out) B9.size);have HB8:=Lh (bthen hM.out.low HBQ.out);have e0:=(HB8.cell (p:=⟨lb,_,none⟩) HLL.out).trans HE0.out;have ll:lb<wk.heap.size:=Nat.lt_of_lt_of_le HLL.out HB8.size;have hn12:n0≤12:=by rw[←HN0.out];exact hp12.out
    by_cases hkt:k<n0
    ·have hkp:k<d.p.length:=by rw[HN0.out];exact hkt
     obtain⟨b,o,hA0,lp,p0,p1,p2⟩:=HQ0.out.1.get k hkp;subst hA0;have hin:=HNR.out _ (List.getElem_mem hkp);have HM1:=Lh (mapM_snoc (plusI ⟨gx,gy,gz⟩) d.p k hkp);obtain⟨x,hx⟩:=nm_ (d.p[k]);rw[hx]at p0 p1 p2 hin HM1;obtain⟨xx,xy,xz⟩:=x;simp only at p0 p1 p2;have HXX:plusI ⟨gx,gy,gz⟩ ⟨xx,xy,xz⟩=⟨wrap64 (xx+gx),wrap64 (xy+gy),wrap64 (xz+gz)⟩:=by
      have hg:=HGI.out;unfold in3 at hin hg;unfold plusI wrap64;simp only[P3.mk.injEq]at hin hg⊢;omega
     rw[HXX]at HM1;replace p0:=(HB8.cell (p:=⟨b,_,none⟩) lp).trans p0;replace p1:=(HB8.cell (p:=⟨b,_,none⟩) lp).trans p1;replace p2:=(HB8.cell (p:=⟨b,_,none⟩) lp).trans p2;replace lp:=Nat.lt_of_lt_of_le lp HB8.size;have BYk:=(HB8.block _ (blk_lt BY.out)).trans BY.out;obtain⟨y0,y1,y2,yl⟩:=f3_ (w.heap.size+1) BYk;have t0:wk.cell? ⟨TB,0,none⟩=some v:=(blk_cell hT.out 0).trans rfl;have lt:TB<wk.heap.size:=blk_lt hT.out;have tk:(k:Int)<(n0:Int):=by omega
     clear BYk hin hx HXX hkp;have hbA:=((Below.refl _ wk).alloc (Nat.le_refl _) (.cells #[.int .i64 xx, .int .i64 xy, .int .i64 xz] 23)).alloc (by simp) (.cells #[.int .i64 (wrap64 (xx+gx)), .int .i64 (wrap64 (xy+gy)), .int .i64 (wrap64 (xz+gz))] 23);have hO2:=Lh (hO.grown hbA);have hT2:=Lh ((hbA.block _ lt).trans hT.out);have hG2:=Lh (gb_below hG.out hbA);have hR2:=(Rd_one (heap_alloc_new (wk.alloc (.cells #[.int .i64 xx, .int .i64 xy, .int .i64 xz] 23)) (.cells #[.int .i64 (wrap64 (xx+gx)), .int .i64 (wrap64 (xy+gy)), .int .i64 (wrap64 (xz+gz))] 23))).1;rw[World.size_alloc]at hR2;have l9:TB<w9.heap.size:=L9.out;clear hbA;have hlk:((d.p.take k).map (plusI ⟨gx,gy,gz⟩)).length+1≤1000000:=by rw[List.length_map];have:=List.length_take_le' k d.p;have:=hp12.out;omega
     go_wp2_with(at_builtin;refine append_pts w9.heap.size rfl _ _ rfl _ ((d.p.take k).map (plusI ⟨gx,gy,gz⟩)) [⟨wrap64 (xx+gx),wrap64 (xy+gy),wrap64 (xz+gz)⟩] _ _ _ rfl rfl hO2.out hR2 rfl hlk hG2.size ?_;intro v2 w4 hv2 hg2;obtain⟨Av,nv,cv,hvv⟩:∃A n c,v2= .slice A n c:=(by obtain⟨A,c,h,_⟩:=OwnP.rd hv2;exact⟨A,_,c,h⟩);subst hvv;have hT4:=Lh ((hg2.block TB (blk_lt hT2.out) (fun e=>by have:=hO2.base_ _ e.symm;omega)).trans hT2.out);have hG4:=Lh (gb_own hG2.out hg2 (fun j hj=>hO2.base_ j hj));have hv4:=Lh hv2;have u0:w4.cell? ⟨TB,0,none⟩=some v:=(blk_cell hT4.out 0).trans rfl;have u1:w4.frozen? ⟨TB,0,none⟩=false:=blk_frozen hT4.out 0;have lA4:TB<w4.heap.size:=blk_lt hT4.out;clear hv2 hg2)
     go_roundw
     case rel=>exact⟨k+1, .slice Av nv cv,by omega,by go_num,Lh (by rw[HM1.out];exact own_setCell hv4.out (fun e=>by have:=hv4.base_ _ e.symm;simp at this;omega) _),Lh (gb_set hG4.out 0 _),Lh (blk40 hT4.out (.slice Av nv cv))⟩
     case measure=>simp[intOf];omega
    ·obtain rfl:n0=k:=by omega
     rw[List.take_of_length_le (by rw[HN0.out];exact Nat.le_refl _)]at hO;obtain⟨Ap,cp,hvp,hco⟩:=moved_core hM.out HBQ.out hO.out B9.size HQ1.out HQ2.out HN1.out HN2.out (by rw[←HN1.out];exact HK1.out) (by rw[←HN2.out];exact HK2.out) (by rw[HWB.out];exact HL1.out) (by rw[HWB.out];exact HL2.out);rw[HN0.out]at hvp hco;subst hvp;have t0:wk.cell? ⟨TB,0,none⟩=some (.slice Ap n0 cp):=(blk_cell hT.out 0).trans rfl;have t1:wk.cell? ⟨TB,1,none⟩=some (.slice A1 n1 c1):=(blk_cell hT.out 1).trans rfl;have t2:wk.cell? ⟨TB,2,none⟩=some (.slice A2 n2 c2):=(blk_cell hT.out 2).trans rfl;have t3:wk.cell? ⟨TB,3,none⟩=some (.int .i64 d.r):=(blk_cell hT.out 3).trans rfl;have lt:TB<wk.heap.size:=blk_lt hT.out;have bz:=(Below.refl _ wk).alloc (Nat.le_refl _) (.cells #[.slice Ap n0 cp, .slice A1 n1 c1, .slice A2 n2 c2, .int .i64 d.r] 35);have nz:=heap_alloc_new wk (.cells #[.slice Ap n0 cp, .slice A1 n1 c1, .slice A2 n2 c2, .int .i64 d.r] 35);have HM3:=Lh (hM.grown (bthen HBQ.out bz));have HCO2:=Lh (hco.grow (grown_of_below bz _) (.inl rfl));have HCC:=Lh nz;have hlen:((l.take i).map (movC ⟨gx,gy,gz⟩)).length+1≤1000000:=by rw[List.length_map];have:=List.length_take_le i l;have:=HL3.out;omega
     clear bz nz hco hO hG hT;go_wp2_with(at_builtin;refine appM_ wb rfl _ _ rfl _ ((l.take i).map (movC ⟨gx,gy,gz⟩)) (movC ⟨gx,gy,gz⟩ d) wk.heap.size 1 Ap A1 A2 n0 n1 n2 cp c1 c2 rfl rfl HM3.own HCC.out HCO2.out hlen ?_;intro v2 w5 hv2 hg2 hat2;have HM5:=Lh (HM3.out.app hv2 hg2 hat2);clear hv2 hg2 hat2)
     go_roundw
     case rel=>exact⟨i+1,by omega,by go_num,Lh (by rw[HMI.out];exact HM5.out)⟩
     case measure=>simp[intOf];omega
  ·obtain rfl:NL=i:=by omega
   rw[List.take_of_length_le (by rw[HNL.out];exact Nat.le_refl _)]at hM;obtain⟨Am,cm,hv14,-,hrm⟩:=hM.own.rd;rw[List.length_map,HNL.out]at hv14;subst hv14;have HRM:=Lh hrm.rd;have hb:=hM.out.low;clear hrm HRD;replace BY:=up_ hb BY;replace HPA:=up_ hb HPA;replace HPB:=up_ hb HPB;replace WK:=up_ hb WK;replace O1:=up_ hb O1;replace HD:=up_ hb HD;replace W:=Lh (bthen W.out hb);clear hb hM;have HH2:=Lh (fun(vw:Value) (W:World) A c (hl:RdC W A (l.map (movC ⟨gx,gy,gz⟩)))=>hold_calls (w:=W) vw _ _ ra (l.map (movC ⟨gx,gy,gz⟩)) A NL c hl (by rw[List.length_map];exact HNL.out) (by have:=HL3.out;omega) HS63.out HT63.out);rw[HRL.out,←HEL.out]at HH2;have eo:eqP (wrap64 (ox+wrap64 (gx*1048576))) (wrap64 (oy+wrap64 (gy*1048576))) (wrap64 (oz+wrap64 (gz*1048576))) (wrap64 (ox+wrap64 (gx*1048576))) (wrap64 (oy+wrap64 (gy*1048576))) (wrap64 (oz+wrap64 (gz*1048576)))=true:=eqP_yes rfl;clear HRL HEL;obtain⟨x0,x1,x2,xl⟩:=f3_ w3.heap.size HPA.out;obtain⟨k0,k1,k2,kl⟩:=f3_ (w3.heap.size+1) HPB.out;obtain⟨h0,h1,h2,hl⟩:=f3_ wv.heap.size HD.out;go_wp2_with fail
   with_reducible refine(HH2.out _ wq _ _ HRM.out).mono ?_
   rintro en w9 ⟨rfl,hb⟩;replace BY:=up_ hb BY;replace HPA:=up_ hb HPA;replace HPB:=up_ hb HPB;replace WK:=up_ hb WK;replace O1:=up_ hb O1;replace HD:=up_ hb HD;replace W:=Lh (bthen W.out hb);clear HRM;clear hb x0 x1 x2 xl k0 k1 k2 kl h0 h1 h2 hl
   go_upto_region 20 with fail
   have bz:=((Below.refl w9.heap.size w9).alloc (Nat.le_refl _) (.cells #[.int .i64 (wrap64 (ox+wrap64 (gx*1048576))), .int .i64 (wrap64 (oy+wrap64 (gy*1048576))), .int .i64 (wrap64 (oz+wrap64 (gz*1048576)))] 27));have nz0:=heap_alloc_new w9 (.cells #[.int .i64 (wrap64 (ox+wrap64 (gx*1048576))), .int .i64 (wrap64 (oy+wrap64 (gy*1048576))), .int .i64 (wrap64 (oz+wrap64 (gz*1048576)))] 27);obtain⟨w10,hwz⟩:=nm_ ((w9.alloc (.cells #[.int .i64 (wrap64 (ox+wrap64 (gx*1048576))), .int .i64 (wrap64 (oy+wrap64 (gy*1048576))), .int .i64 (wrap64 (oz+wrap64 (gz*1048576)))] 27)));rw[hwz]at bz nz0⊢;replace BY:=up_ bz BY;replace HPA:=up_ bz HPA;replace HPB:=up_ bz HPB;replace WK:=up_ bz WK;replace O1:=up_ bz O1;replace HD:=up_ bz HD;replace W:=Lh (bthen W.out bz);have O2:=Lh nz0;clear hwz bz nz0;obtain⟨p0,p1,p2,pl⟩:=f3_ w9.heap.size O2.out;obtain⟨o0,o1,o2,ol⟩:=f3_ w6.heap.size O1.out;obtain⟨h0,h1,h2,hl⟩:=f3_ wv.heap.size HD.out;obtain⟨u0,ul⟩:=f1_ w4.heap.size WK.out;go_wp2
   go_ret
   exact⟨rfl,W.out⟩
end Go.Proofs.YtckdhahceelckaaGreat.G
namespace Go.Proofs.YtckdhahceelckaaGreat.G
open Go.ChangeShapes Go.WideShapes Go.RowKit
theorem open_point {H:Type}{enc:TypeId×Value→H}{W:World}{base:Nat}{spare:Nat→Bool}{held:Bool}{r:Reach}{b0:Nat}{v:Value}{d:DataW H}{p:List MemPlace}
  (hval:Value.okWide Tryz.prog W r b0 23 v) (h:DataW.Trod enc Tryz.prog W base spare held 23 v d p):
  ∃x y z,v= .agg #[.int .i64 x, .int .i64 y, .int .i64 z]∧(-9223372036854775808≤x∧x≤9223372036854775807)∧(-9223372036854775808≤y∧y≤9223372036854775807)∧(-9223372036854775808≤z∧z≤9223372036854775807):=by
 obtain⟨v0,v1,v2,y0,y1,y2,n,rfl,_,_,h0,h1,h2⟩:=Go.Joins.open_agg3 Tryz.underlying23 (by kernel_rfl) (by kernel_rfl) hval h;obtain⟨a,ha,_,wa⟩:=DataW.trod_int (k:= .i64) Tryz.underlying3 h0;obtain⟨b,hb,_,wb⟩:=DataW.trod_int (k:= .i64) Tryz.underlying3 h1;obtain⟨c,hc,_,wc⟩:=DataW.trod_int (k:= .i64) Tryz.underlying3 h2;simp at ha hb hc;subst ha hb hc;exact⟨a,b,c,rfl,i64_of_wf wa,i64_of_wf wb,i64_of_wf wc⟩
end Go.Proofs.YtckdhahceelckaaGreat.G
