/- What the laws of this claim lean on: contracts of functions and plain lemmas; no condition of its own (part 33: XC4, XC5, XR8, XW18, XG16, XV16). -/
import Derived.Test.YtckdhahceelckaaGreatKQ25
import Derived.Test.YtckdhahceelckaaGreatKQ30
set_option maxHeartbeats 16000000
set_option maxRecDepth 100000
set_option linter.unusedVariables false
set_option linter.unusedSimpArgs false
namespace Go.Proofs.YtckdhahceelckaaGreat.G
open Go.RowKit Go.Proofs.YtckdhahceelckaaGreatW.PrintWords Go.Proofs.YtckdhahceelckaaGreatW.PrintLast Go.Proofs.YtckdhahceelckaaGreatW.PrintMore
attribute [local go_sem] max2_mx min2_mn max_two min_two max_three min_three max_four min_four
attribute [local go_sem high] eqA23 eqA40
theorem grains_calls (v:P3)(w:World):Calls Tryz.prog 44 #[aP v] w fun e w'=>e= .returned (aP (grP v))∧Below w.heap.size w w':=by
 obtain⟨x,y,z⟩:=v;have hb:=Lh (((Below.refl _ w).alloc (Nat.le_refl _) (.cells #[.int .i64 x, .int .i64 y, .int .i64 z] 27)).alloc (by simp) (.cells #[.int .i64 (x / 1048576), .int .i64 (y / 1048576), .int .i64 (z / 1048576)] 23));go_enter Tryz.func44,Tryz.ntmps44;go_wp2;exact bodyPost_ret (v:= .agg #[.int .i64 (x / 1048576), .int .i64 (y / 1048576), .int .i64 (z / 1048576)]) (by simp[results,Tryz.results44,go_sem]) rfl ⟨rfl,hb.out⟩
theorem cwithin_calls (n:Int)(hn:IntKind.i64.wrap (-n)= -n)(v:P3)(w:World):Calls Tryz.prog 45 #[.int .i64 n, .int .i64 v.x, .int .i64 v.y, .int .i64 v.z] w fun e w'=>e= .returned (.bool (inB n v))∧w'=w:=by
 obtain⟨x,y,z⟩:=v;have hi:=Lh (show inB n ⟨x,y,z⟩=(decide (mx (mx x y) z≤n)&&decide (-n≤mn (mn x y) z)) from rfl);by_cases t:mx (mx x y) z≤n
 ·have dt:decide (mx (mx x y) z≤n)=true:=decide_eq_true t;clear t;go_enter Tryz.func45,Tryz.ntmps45;go_wp2
  go_ret
  exact⟨by rw[hi.out,dt];rfl,rfl⟩
 ·have dt:decide (mx (mx x y) z≤n)=false:=decide_eq_false t;clear t;go_enter Tryz.func45,Tryz.ntmps45;go_wp2
  go_ret
  exact⟨by rw[hi.out,dt];rfl,rfl⟩
theorem hstep_yes {c:Cr}{y:P3}{m:Nat}{d:Cr}{k:Nat}{X:P3}{g:Int}(h:castF c y d=((k,(X,g)),true))(hg:0≤g):hstep c y m d=min m k:=by
 unfold hstep;rw[h,if_pos ⟨rfl,hg⟩]
theorem hstep_neg {c:Cr}{y:P3}{m:Nat}{d:Cr}{k:Nat}{X:P3}{g:Int}{o:Bool}(h:castF c y d=((k,(X,g)),o))(hg:¬0≤g):hstep c y m d=m:=by
 unfold hstep;rw[h,if_neg (fun t=>hg t.2)]
theorem hstep_no {c:Cr}{y:P3}{m:Nat}{d:Cr}{R:Nat×(P3×Int)}(h:castF c y d=(R,false)):hstep c y m d=m:=by
 unfold hstep;rw[h,if_neg (fun t=>by have:=t.1;simp at this)]
theorem mn_min (m k:Nat):mn (m:Int) (k:Int)=((min m k:Nat):Int):=by unfold mn;split<;>omega
theorem hold1_calls {w:World}{a d:Cr}(y:P3)(ga gy:Nat)(A0 A1 A2:Option Addr)(n0 n1 n2 c0 c1 c2:Nat)(ra:Int)(hga:w.heap[ga]?=some (.cells #[.slice A0 n0 c0, .slice A1 n1 c1, .slice A2 n2 c2, .int .i64 ra] 35 (0,0)))(hgy:w.heap[gy]?=some (.cells #[.int .i64 y.x, .int .i64 y.y, .int .i64 y.z] 23 (0,0)))
  (ha:CrV w (.agg #[.slice A0 n0 c0, .slice A1 n1 c1, .slice A2 n2 c2, .int .i64 ra]) a) {vd:Value} (hd:CrV w vd d) (hal:a.p.length≤140737488355328) (m:Nat):
  Calls Tryz.prog 47 #[.int .i64 m,vd, .pointer (some ⟨ga,0,none⟩), .pointer (some ⟨gy,0,none⟩)] w fun e w'=>e= .returned (.int .i64 ((hstep a y m d:Nat):Int))∧Below w.heap.size w w':=by
 have HC:=Lh (fun(W:World) (h1:CrV W (.agg #[.slice A0 n0 c0, .slice A1 n1 c1, .slice A2 n2 c2, .int .i64 ra]) a) (h2:CrV W vd d)=>cast_calls h1 h2 y hal);have HY:=Lh (fun k X g (h:castF a y d=((k,(X,g)),true)) (hg:0≤g)=>hstep_yes (m:=m) h hg);have HG:=Lh (fun k X g o (h:castF a y d=((k,(X,g)),o)) (hg:¬0≤g)=>hstep_neg (m:=m) h hg);have HO:=Lh (fun R (h:castF a y d=(R,false))=>hstep_no (m:=m) h);obtain⟨H,hH⟩:=nm_ (hstep a y m d);obtain⟨R,hR⟩:=nm_ (castF a y d);rw[hH]at HY HG HO⊢;rw[hR]at HC HY HG HO;obtain⟨⟨k,⟨Xx,Xy,Xz⟩,Xg⟩,Xo⟩:=R;obtain⟨yx,yy,yz⟩:=y;obtain⟨B0,B1,B2,m0,m1,m2,d0,d1,d2,rfl⟩:=hd.form;obtain⟨rd,hrd⟩:=nm_ d.r;rw[hrd]at HC hd⊢;simp only at HC hgy;have bz:=(Below.refl _ w).alloc (Nat.le_refl _) (.cells #[.slice B0 m0 d0, .slice B1 m1 d1, .slice B2 m2 d2, .int .i64 rd] 35);have nz:=heap_alloc_new w (.cells #[.slice B0 m0 d0, .slice B1 m1 d1, .slice B2 m2 d2, .int .i64 rd] 35);have HVA:=Lh (ha.below bz);have HVD:=Lh (hd.below bz);have GA:=(bz.block _ (blk_lt hga)).trans hga;have GY:=(bz.block _ (blk_lt hgy)).trans hgy;clear ha hd hR hH hrd hal hga hgy;go_enter Tryz.func47,Tryz.ntmps47
 go_upto_region 1 with fail
 obtain⟨w1,hw1⟩:=nm_ (w.alloc (.cells #[.slice B0 m0 d0, .slice B1 m1 d1, .slice B2 m2 d2, .int .i64 rd] 35));rw[hw1]at bz nz HVA HVD GA GY⊢;clear hw1;have W:=Lh bz;obtain⟨x0,x1,x2,x3,xl⟩:=f4_ ga GA;obtain⟨y0,y1,y2,yl⟩:=f3_ gy GY;obtain⟨z0,z1,z2,z3,zl⟩:=f4_ w.heap.size nz;clear GA GY nz bz;go_wp2_with fail
 with_reducible refine(HC.out w1 HVA.out HVD.out).mono ?_
 rintro en w2 ⟨rfl,hb⟩;have W:=Lh (bthen W.out hb);have HS:Hid (w.heap.size≤w2.heap.size):=Lh W.size;clear hb HC x0 x1 x2 x3 xl y0 y1 y2 yl z0 z1 z2 z3 zl HVA HVD;have W:=Lh (W.alloc HS.out (.cells #[.int .i64 Xx, .int .i64 Xy, .int .i64 Xz, .int .i64 Xg] 60))
 cases Xo with
 |false=>
  have HR:=Lh (HO.out _ rfl);clear HY HG HO;go_wp2
  go_ret
  exact⟨by rw[HR.out];rfl,W.out⟩
 |true=>
  by_cases t:Xg<0
  ·have dt:decide (Xg<0)=true:=decide_eq_true t;have HR:=Lh (HG.out _ _ _ _ rfl (by omega));clear HY HG HO t;go_wp2
   go_ret
   exact⟨by rw[HR.out];rfl,W.out⟩
  ·have dt:decide (Xg<0)=false:=decide_eq_false t;have HR:=Lh ((congrArg (fun t:Nat=>(t:Int)) (HY.out _ _ _ rfl (by omega))).trans (mn_min m k).symm);clear HY HG HO t;go_wp2
   go_ret
   exact⟨by rw[HR.out];rfl,W.out⟩
theorem fold_calls (a:Cr)(y:P3)(l:List Cr)(A:Option Addr)(n c ga gy:Nat)(w:World)(hl:RdC w A l)(hn:l.length=n)(hnb:n≤140737488355328)
  (H:∀(W:World) (vd:Value) (d:Cr) (m:Nat),Below w.heap.size w W→CrV W vd d→Calls Tryz.prog 47 #[.int .i64 m,vd, .pointer (some ⟨ga,0,none⟩), .pointer (some ⟨gy,0,none⟩)] W fun e w'=>e= .returned (.int .i64 ((hstep a y m d:Nat):Int))∧Below W.heap.size W w'):
  Calls Tryz.prog 46 #[.slice A n c, .int .i64 16, .func (.func 47) #[] #[.pointer (some ⟨ga,0,none⟩), .pointer (some ⟨gy,0,none⟩)]] w fun e w'=>e= .returned (.int .i64 ((leastH a y 16 l:Nat):Int))∧Below w.heap.size w w':=by
 have HH:=Lh H;have HL:=Lh hl;have HN:=Lh hn;have HST:=Lh (fun i (h:i<l.length)=>leastH_take a y 16 l i h);have HE:Hid (leastH a y 16 l=leastH a y 16 (l.take n)):=Lh (by rw[List.take_of_length_le (by omega)]);obtain⟨L,hL⟩:∃L:Nat→Nat,(fun i=>leastH a y 16 (l.take i))=L:=⟨_,rfl⟩;have hL2:∀i,leastH a y 16 (l.take i)=L i:=fun i=>by rw[←hL]
 simp only[hL2]at HST HE;have H0:Hid (L 0=16):=Lh (by rw[←hL2];rfl);rw[HE.out];clear H hL hL2 hl hn HE;go_enter Tryz.func46,Tryz.ntmps46;go_wp2_with fail;go_loopw [1,8,11] (fun v1 v8 v11 wr=>∃i:Nat,i≤n∧v11= .int .i64 i∧v1= .int .i64 (L i:Nat)∧Hid (Below w.heap.size w wr)) (fun _ _ i _=>n-(intOf i).toNat)
 case atStart=>exact⟨0,by omega,rfl,by rw[H0.out];rfl,Lh (Below.refl _ _)⟩
 case round=>
  obtain⟨i,hi,rfl,rfl,hB⟩:=hrel;obtain⟨wq,hwq⟩:∃x:World,x=wr:=⟨_,rfl⟩;subst hwq;by_cases hlt:i<n
  ·have hil:i<l.length:=by rw[HN.out];exact hlt
   have HS1:=Lh (HST.out i hil);obtain⟨eb,eo,E0,E1,E2,m0,m1,m2,g0,g1,g2,rfl,el,e0,e1,e2,e3,hE⟩:=(HL.below hB.out).get i hil;obtain⟨d,hd⟩:=nm_ (l[i]);rw[hd]at hE e3 HS1;obtain⟨rd,hrd⟩:=nm_ d.r;rw[hrd]at hE e3;have bz:=(Below.refl _ wq).alloc (Nat.le_refl _) (.cells #[.slice E0 m0 g0, .slice E1 m1 g1, .slice E2 m2 g2, .int .i64 rd] 35);have nz:=heap_alloc_new wq (.cells #[.slice E0 m0 g0, .slice E1 m1 g1, .slice E2 m2 g2, .int .i64 rd] 35);have HE:=Lh (hE.below bz);have HB:=Lh (bthen hB.out bz);have ti:(i:Int)<(n:Int):=by omega
   clear hE hd hrd hil
   go_upto_region 4 with fail
   obtain⟨w1,hw1⟩:=nm_ (wq.alloc (.cells #[.slice E0 m0 g0, .slice E1 m1 g1, .slice E2 m2 g2, .int .i64 rd] 35));rw[hw1]at bz nz HE HB⊢;clear hw1 bz e0 e1 e2 e3;obtain⟨z0,z1,z2,z3,zl⟩:=f4_ wq.heap.size nz;clear nz;go_wp2_with fail
   with_reducible refine(HH.out w1 _ d (L i) HB.out HE.out).mono ?_
   rintro en w2 ⟨rfl,hb⟩;have hB:=Lh (bthen HB.out hb);clear hb z0 z1 z2 z3 zl HE HB;rw[←HS1.out];go_wp2
   go_roundw
   case rel=>exact⟨i+1,by omega,by go_num,rfl,hB⟩
   case measure=>simp[intOf];omega
  ·obtain rfl:n=i:=by omega
   go_wp2
   go_ret
   exact⟨rfl,hB.out⟩
end Go.Proofs.YtckdhahceelckaaGreat.G
namespace Go.Proofs.YtckdhahceelckaaGreat.G
open Go.RowKit Go.Proofs.YtckdhahceelckaaGreatW.PrintWords Go.Proofs.YtckdhahceelckaaGreatW.PrintLast Go.Proofs.YtckdhahceelckaaGreatW.PrintMore
attribute [local go_sem] max2_mx min2_mn max_two min_two max_three min_three max_four min_four
attribute [local go_sem high] eqA23
section
variable {P:Program}{ops:Array Oper}{Q:Exit→Act→World→Prop}{S:World→Prop}
/-- a call of a function value in a region -/
theorem goesf_ {oi:Oper}{N:Option Tmp}{a:Act}{w:World}{K:Act→World→Prop}{f:FuncId}{fn:Func}{os:Array Operand}{ts:Array TypeId}(x:Operand)(caps:Array Value)(hf:P.funcs[f]?=some fn)(hname:(fn.name == "runtime.NumGoroutine")=false)(hb:fn.body.isSome=true)(args:Array Value)
  (hw:Region.wanted oi (yielded ops a.tmps)=true) (hN:oi.dst=N) (hop:oi.op= .call {callee:= .value x,args:=os,argTypes:=ts}) (hx:a.eval x= .func (.func f) #[] caps) (hargs:os.map a.eval++caps=args)
  (h:Calls P f args w fun e w'=>∃v,e= .returned v∧K (a.put N v) w'):if Region.wanted oi (yielded ops a.tmps)=true then Oper.wp P oi a w K Q else K (a.put N undef) w:=by
 refine call_ f args hw hN ?_ h;have he:=enters_ hf hname hb args w;unfold execOp;simp[hop,resolve,Deferred.ofValue,invoke,hx,hargs,he]
end
end Go.Proofs.YtckdhahceelckaaGreat.G
namespace Go.Proofs.YtckdhahceelckaaGreat.G
open Go.RowKit Go.Proofs.YtckdhahceelckaaGreatW.PrintWords Go.Proofs.YtckdhahceelckaaGreatW.PrintLast Go.Proofs.YtckdhahceelckaaGreatW.PrintMore
attribute [local go_sem] max2_mx min2_mn max_two min_two max_three min_three max_four min_four
theorem bo3 {W:World}{g k:Nat}(h:k≠g)(a0 a1 a2:Value):(((W.setCell ⟨g,0,none⟩ a0).setCell ⟨g,1,none⟩ a1).setCell ⟨g,2,none⟩ a2).heap[k]?=W.heap[k]?:=
 (Below.heap_setCell _ _ _ k h).trans ((Below.heap_setCell _ _ _ k h).trans ((Below.heap_setCell _ _ _ k h)))
end Go.Proofs.YtckdhahceelckaaGreat.G
namespace Go.Proofs.YtckdhahceelckaaGreat.G
open Go.RowKit Go.Proofs.YtckdhahceelckaaGreatW.PrintWords
theorem CoreV.setLow {w:World}{v:Value}{p a e:List P3}{r:Int}(h:CoreV w v p a e r){b g:Nat}(hf:Fresh b v)(hg:g<b)(j:Nat)(u:Value):CoreV (w.setCell ⟨g,j,none⟩ u) v p a e r:=by
 obtain⟨A0,A1,A2,c0,c1,c2,e1,h0,h1,h2,k⟩:=h.out;obtain⟨B0,B1,B2,m0,m1,m2,d0,d1,d2,x,e2,f0,f1,f2⟩:=hf;subst e1;simp at e2;obtain⟨⟨rfl,_,_⟩,⟨rfl,_,_⟩,⟨rfl,_,_⟩,_⟩:=e2;exact⟨A0,A1,A2,c0,c1,c2,rfl,h0.setc (fun ad ea=>by have:=f0 ad ea;omega) j u,h1.setc (fun ad ea=>by have:=f1 ad ea;omega) j u,h2.setc (fun ad ea=>by have:=f2 ad ea;omega) j u,k⟩
end Go.Proofs.YtckdhahceelckaaGreat.G
namespace Go.Proofs.YtckdhahceelckaaGreat.G
open Go.RowKit Go.Proofs.YtckdhahceelckaaGreatW.PrintWords Go.Proofs.YtckdhahceelckaaGreatW.PrintLast Go.Proofs.YtckdhahceelckaaGreatW.PrintMore
attribute [local go_sem] max2_mx min2_mn max_two min_two max_three min_three max_four min_four
attribute [local go_sem high] eqA23 eqA40
theorem CrV.setLow {w:World}{v:Value}{c:Cr}(h:CrV w v c){b g:Nat}(hf:Fresh b v)(hg:g<b)(j:Nat)(u:Value):CrV (w.setCell ⟨g,j,none⟩ u) v c:=CoreV.setLow h hf hg j u
end Go.Proofs.YtckdhahceelckaaGreat.G
