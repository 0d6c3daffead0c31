/- What the laws of this claim lean on: contracts of functions and plain lemmas; no condition of its own (part 65: XV16, XZ6). -/
import Derived.Test.YtckdhahceelckaaGreatKQ55
import Derived.Test.YtckdhahceelckaaGreatKQ56
import Derived.Test.YtckdhahceelckaaGreatKQ59
set_option maxHeartbeats 16000000
set_option maxRecDepth 100000
set_option linter.unusedVariables false
set_option linter.unusedSimpArgs false
namespace Go.Proofs.YtckdhahceelckaaGreat.G
open Go.RowKit Go.Proofs.YtckdhahceelckaaGreatW.PrintWords Go.Proofs.YtckdhahceelckaaGreatW.PrintLast Go.Proofs.YtckdhahceelckaaGreatW.PrintMore
attribute [local go_sem] max2_mx min2_mn max_two min_two max_three min_three max_four min_four
attribute [local go_sem high] eqA23 eqA40
theorem pick11_calls (c n:Int)(hc1: -9223372036854775808≤c)(hc2:c≤9223372036854775807)(hn:0<n)(hn2:n≤4294967296)(w:World):
  Calls Tryz.prog 13 #[.int .i64 c, .int .i64 n] w fun e w'=>e= .returned (.int .i64 (pickF c n))∧w'=w:=by
 have hb:=pickF_bd c n hn;have hn0:n≠0:=by omega
 have hn1:n≠ -1:=by omega
 by_cases h:c<0
 ·have hd:decide (c<0)=true:=by simpa using h
  have e1:IntKind.i64.wrap (c+1)=c+1:=iw_id _ (by omega) (by omega);have e2:IntKind.i64.wrap (-(c+1))= -(c+1):=iw_id _ (by omega) (by omega);have e3:pickF c n=(-(c+1)).tmod n:=by unfold pickF;rw[if_pos h]
  have e4:IntKind.i64.wrap ((-(c+1)).tmod n)=(-(c+1)).tmod n:=iw_id _ (by rw[←e3];omega) (by rw[←e3];omega);rw[e3];go_enter Tryz.func13,Tryz.ntmps13;go_wp2
  go_ret
  exact⟨by show Ending.returned (Value.int .i64 (-(c+1).tmod n))=_;rw[Int.neg_tmod],rfl⟩
 ·have hd:decide (c<0)=false:=by simpa using h
  have e3:pickF c n=c.tmod n:=by unfold pickF;rw[if_neg h]
  have e4:IntKind.i64.wrap (c.tmod n)=c.tmod n:=iw_id _ (by rw[←e3];omega) (by rw[←e3];omega);rw[e3];go_enter Tryz.func13,Tryz.ntmps13;go_wp2
  go_ret
  exact⟨by show Ending.returned (Value.int .i64 (c%n))=_;rw[Int.tmod_eq_emod_of_nonneg (by omega)],rfl⟩
def TwoPost (w:World)(en:Ending)(w':World):Prop:=∃va vb a b,en= .returned (.tuple #[va,vb])∧CrV w' va a∧CrV w' vb b∧Below w.heap.size w w'∧Fresh w.heap.size va∧Fresh w.heap.size vb∧GoodC a∧GoodC b
theorem two_calls (k1 r1:Int)(h1:P3)(l1:List P3)(A1:Option Addr)(c1:Nat)(k2 r2:Int)(h2:P3)(l2:List P3)(A2:Option Addr)(c2:Nat)(p q:P7)(near:Int)(way:P3)(w:World)
  (hA1:RdB w A1 l1) (hr1:RawOk k1 r1 h1 l1) (hA2:RdB w A2 l2) (hr2:RawOk k2 r2 h2 l2) (hp:i64s p) (hq:i64s q) (hne:i64 near) (hwa:pI64 way):
  Calls Tryz.prog 9 #[.agg (cTwo k1 r1 h1 A1 l1.length c1 k2 r2 h2 A2 l2.length c2 p q near way)] w (TwoPost w):=by
 refine(cores_calls2 k1 r1 h1 l1 A1 c1 k2 r2 h2 l2 A2 c2 p q near way w hA1 hr1 hA2 hr2 hp hq hne hwa).mono ?_;rintro en w' ⟨va,vb,rfl,ha,hb_,hb,hfa,hfb⟩;obtain⟨a,ha1,ha2⟩:=CoreAt.good (rightS_ok k1 r1 h1 l1) (rightPose p) (rightPose_ok p).1 (rightPose_ok p).2 (fun l x hx hi h0=>ways_turned p hx hi h0) ha;have hb2:∃c,CrV w' vb c∧GoodC c:=by
  have hm:=(rightPose_ok q).1;have hw:∀(l:List P3) (x:P3),x∈l→in3 1048576 x→x≠⟨0,0,0⟩→∃y∈waysF (rowsF (rightPose q).turn) l,long3 y≠⟨0,0,0⟩:=fun l x hx hi h0=>ways_turned q hx hi h0;have hn:=nearF_ok near way p;obtain⟨t,ht⟩:=nm_ ((rightPose q).turn);rw[ht]at hb_ hm hw;exact CoreAt.good (rightS_ok k2 r2 h2 l2) ⟨nearF near way (rightPose p).at_,t⟩ hm hn hw hb_
 obtain⟨b,hb3,hb4⟩:=hb2;exact⟨va,vb,a,b,rfl,ha1,hb3,hb,hfa,hfb,ha2,hb4⟩
/-- a list of two cores, built -/
theorem RdC_two {w:World}{g:Nat}{A0 A1 A2 B0 B1 B2:Option Addr}{n0 n1 n2 c0 c1 c2 m0 m1 m2 d0 d1 d2:Nat}{r s:Int}{c d:Cr}{t:TypeId}(h:w.heap[g]?=some (.cells #[.slice A0 n0 c0, .slice A1 n1 c1, .slice A2 n2 c2, .int .i64 r, .slice B0 m0 d0, .slice B1 m1 d1, .slice B2 m2 d2, .int .i64 s] t (0,0)))
  (hc:CrV w (.agg #[.slice A0 n0 c0, .slice A1 n1 c1, .slice A2 n2 c2, .int .i64 r]) c) (hr:c.r=r) (hd:CrV w (.agg #[.slice B0 m0 d0, .slice B1 m1 d1, .slice B2 m2 d2, .int .i64 s]) d) (hs:d.r=s):RdC w (some ⟨g,0,none⟩) [c,d]:=fun i x hx=>by
 match i with
 |0=>
  simp at hx;subst hx;subst hr
  exact⟨g,0,A0,A1,A2,n0,n1,n2,c0,c1,c2,rfl,blk_lt h,(blk_cell h 0).trans rfl,(blk_cell h 1).trans rfl,(blk_cell h 2).trans rfl,(blk_cell h 3).trans rfl,hc⟩
 |1=>
  simp at hx;subst hx;subst hs
  exact⟨g,0,B0,B1,B2,m0,m1,m2,d0,d1,d2,rfl,blk_lt h,(blk_cell h 4).trans rfl,(blk_cell h 5).trans rfl,(blk_cell h 6).trans rfl,(blk_cell h 7).trans rfl,hd⟩
 |i+2=>simp at hx
theorem sweepRight_calls (k1 r1:Int)(h1:P3)(l1:List P3)(A1:Option Addr)(c1:Nat)(k2 r2:Int)(h2:P3)(l2:List P3)(A2:Option Addr)(c2:Nat)(p q:P7)(near:Int)(way:P3)(pt:Int)(w:World)
  (hA1:RdB w A1 l1) (hr1:RawOk k1 r1 h1 l1) (hA2:RdB w A2 l2) (hr2:RawOk k2 r2 h2 l2) (hp:i64s p) (hq:i64s q) (hne:i64 near) (hwa:pI64 way) (hpt: -9223372036854775808≤pt∧pt≤9223372036854775807):
  Calls Tryz.prog 3 #[.agg (cTwo k1 r1 h1 A1 l1.length c1 k2 r2 h2 A2 l2.length c2 p q near way), .int .i64 pt] w fun e w'=>e= .returned (.bool true)∧Below w.heap.size w w':=by
 have HPT:=Lh (fun(W:World)=>pick11_calls pt 17 hpt.1 hpt.2 (by decide) (by decide) W);obtain⟨qp,hqp⟩:=nm_ (pickF pt 17);rw[hqp]at HPT;clear hqp hpt;have HC:=Lh (fun(W:World) (hW1:RdB W A1 l1) (hW2:RdB W A2 l2)=>two_calls k1 r1 h1 l1 A1 c1 k2 r2 h2 l2 A2 c2 p q near way W hW1 hr1 hW2 hr2 hp hq hne hwa);have HA1:=Lh hA1;have HA2:=Lh hA2;obtain⟨N1,hN1⟩:=nm_ l1.length;obtain⟨N2,hN2⟩:=nm_ l2.length;rw[hN1,hN2]at HC⊢;clear hA1 hr1 hA2 hr2 hp hq hne hwa hN1 hN2;obtain⟨h1x,h1y,h1z⟩:=h1;obtain⟨h2x,h2y,h2z⟩:=h2;obtain⟨⟨pax,pay,paz⟩,⟨ptw,ptx,pty,ptz⟩⟩:=p;obtain⟨⟨qax,qay,qaz⟩,⟨qtw,qtx,qty,qtz⟩⟩:=q;obtain⟨wx,wy,wz⟩:=way;have W:=Lh (Below.refl w.heap.size w);go_enter Tryz.func3,Tryz.ntmps3
 go_upto_region 1 with fail
 have bz:=((Below.refl w.heap.size w).alloc (Nat.le_refl _) (.cells #[.int .i64 k1, .int .i64 r1, .int .i64 h1x, .int .i64 h1y, .int .i64 h1z, .slice A1 N1 c1, .int .i64 k2, .int .i64 r2, .int .i64 h2x, .int .i64 h2y, .int .i64 h2z, .slice A2 N2 c2, .int .i64 pax, .int .i64 pay, .int .i64 paz, .int .i64 ptw, .int .i64 ptx, .int .i64 pty, .int .i64 ptz, .int .i64 qax, .int .i64 qay, .int .i64 qaz, .int .i64 qtw, .int .i64 qtx, .int .i64 qty, .int .i64 qtz, .int .i64 near, .int .i64 wx, .int .i64 wy, .int .i64 wz] 33));have nz0:=heap_alloc_new w (.cells #[.int .i64 k1, .int .i64 r1, .int .i64 h1x, .int .i64 h1y, .int .i64 h1z, .slice A1 N1 c1, .int .i64 k2, .int .i64 r2, .int .i64 h2x, .int .i64 h2y, .int .i64 h2z, .slice A2 N2 c2, .int .i64 pax, .int .i64 pay, .int .i64 paz, .int .i64 ptw, .int .i64 ptx, .int .i64 pty, .int .i64 ptz, .int .i64 qax, .int .i64 qay, .int .i64 qaz, .int .i64 qtw, .int .i64 qtx, .int .i64 qty, .int .i64 qtz, .int .i64 near, .int .i64 wx, .int .i64 wy, .int .i64 wz] 33);obtain⟨w1,hwz⟩:=nm_ ((w.alloc (.cells #[.int .i64 k1, .int .i64 r1, .int .i64 h1x, .int .i64 h1y, .int .i64 h1z, .slice A1 N1 c1, .int .i64 k2, .int .i64 r2, .int .i64 h2x, .int .i64 h2y, .int .i64 h2z, .slice A2 N2 c2, .int .i64 pax, .int .i64 pay, .int .i64 paz, .int .i64 ptw, .int .i64 ptx, .int .i64 pty, .int .i64 ptz, .int .i64 qax, .int .i64 qay, .int .i64 qaz, .int .i64 qtw, .int .i64 qtx, .int .i64 qty, .int .i64 qtz, .int .i64 near, .int .i64 wx, .int .i64 wy, .int .i64 wz] 33)));rw[hwz]at bz nz0⊢;replace W:=Lh (bthen W.out bz);have T0:=Lh nz0;clear hwz bz nz0;go_wp2_with(refine wpList_load_row rfl 33 _ rfl w.heap.size rfl 33 _ (0,0) _ T0.out Tryz.underlying33 rfl (by kernel_rfl) ?_);refine(HC.out _ (HA1.below W.out) (HA2.below W.out)).mono ?_;rintro en w2 ⟨va,vb,a,b,rfl,ha,hbv,hb,hfa,hfb,ga,gb⟩;replace W:=Lh (bthen W.out hb);clear hb;have GA:=Lh ga;have GB:=Lh gb;have HV:=Lh ha;have HVB:=Lh hbv;have HFA:=Lh hfa;have HFB:=Lh hfb;obtain⟨B0,B1,B2,d0,d1,d2,hva,q0,_⟩:=id ha.out;obtain⟨B3,B4,B5,d3,d4,d5,hvb,q3,_⟩:=id hbv.out;have Q0:=Lh q0;have Q3:=Lh q3;obtain⟨n0,hn0⟩:=nm_ a.p.length;obtain⟨n1,hn1⟩:=nm_ a.a.length;obtain⟨n2,hn2⟩:=nm_ a.e.length;obtain⟨n3,hn3⟩:=nm_ b.p.length;obtain⟨n4,hn4⟩:=nm_ b.a.length;obtain⟨n5,hn5⟩:=nm_ b.e.length;obtain⟨ra,hra⟩:=nm_ a.r;obtain⟨rb,hrb⟩:=nm_ b.r;rw[hn0,hn1,hn2,hra]at hva;rw[hn3,hn4,hn5,hrb]at hvb;have HN0:=Lh hn0;have HN3:=Lh hn3;have HRA:=Lh hra;have HRB:=Lh hrb;subst hva hvb;clear hn0 hn1 hn2 hn3 hn4 hn5 hra hrb ha hbv hfa hfb ga gb q0 q3 HC;clear T0 HFA HFB
 go_upto_region 2 with fail
 have bz:=(((Below.refl w2.heap.size w2).alloc (Nat.le_refl _) (.cells #[.slice B0 n0 d0, .slice B1 n1 d1, .slice B2 n2 d2, .int .i64 ra] 35)).alloc (by simp) (.cells #[.slice B3 n3 d3, .slice B4 n4 d4, .slice B5 n5 d5, .int .i64 rb] 35));have nz0:=heap_alloc_new w2 (.cells #[.slice B0 n0 d0, .slice B1 n1 d1, .slice B2 n2 d2, .int .i64 ra] 35);replace nz0:=(Below.heap_alloc _ (.cells #[.slice B3 n3 d3, .slice B4 n4 d4, .slice B5 n5 d5, .int .i64 rb] 35) _ (by simp<;>omega)).trans nz0;have nz1:=heap_alloc_new (w2.alloc (.cells #[.slice B0 n0 d0, .slice B1 n1 d1, .slice B2 n2 d2, .int .i64 ra] 35)) (.cells #[.slice B3 n3 d3, .slice B4 n4 d4, .slice B5 n5 d5, .int .i64 rb] 35);simp only[World.size_alloc]at nz1;obtain⟨w3,hwz⟩:=nm_ (((w2.alloc (.cells #[.slice B0 n0 d0, .slice B1 n1 d1, .slice B2 n2 d2, .int .i64 ra] 35)).alloc (.cells #[.slice B3 n3 d3, .slice B4 n4 d4, .slice B5 n5 d5, .int .i64 rb] 35)));rw[hwz]at bz nz0 nz1⊢;replace HV:=Lh (HV.below bz);replace HVB:=Lh (HVB.below bz);replace W:=Lh (bthen W.out bz);have CA:=Lh nz0;have CB:=Lh nz1;clear hwz bz nz0 nz1;obtain⟨x0,x1,x2,x3,xl⟩:=f4_ w2.heap.size CA.out;obtain⟨y0,y1,y2,y3,yl⟩:=f4_ (w2.heap.size+1) CB.out;by_cases t1:16<(n2:Int)
 ·have e1:decide (16<(n2:Int))=true:=decide_eq_true t1;clear t1;go_wp2_with fail;refine(awake11_calls _).mono ?_;rintro en wz ⟨rfl,hb⟩;have WZ:=Lh (bthen W.out hb);clear hb;go_wp2
  go_ret
  exact⟨rfl,WZ.out⟩
 have e1:decide (16<(n2:Int))=false:=decide_eq_false t1;by_cases t2:16<(n5:Int)
 ·have e2:decide (16<(n5:Int))=true:=decide_eq_true t2;clear t1 t2;go_wp2_with fail;refine(awake11_calls _).mono ?_;rintro en wz ⟨rfl,hb⟩;have WZ:=Lh (bthen W.out hb);clear hb;go_wp2
  go_ret
  exact⟨rfl,WZ.out⟩
 have e2:decide (16<(n5:Int))=false:=decide_eq_false t2;clear t1 t2;obtain⟨b0,o0,O,hO,rfl,lb,p0,p1,p2,hn0⟩:=HV.out.first GA.out.mp.p0;have hn0:(0:Int)<(n0:Int):=by omega
 obtain⟨ox,oy,oz⟩:=O;simp only at p0 p1 p2;clear hO;obtain⟨b3,o3,O3,hO3,rfl,lb3,r0,r1,r2,hn3⟩:=HVB.out.first GB.out.mp.p0;have hn3:(0:Int)<(n3:Int):=by omega
 obtain⟨kx,ky,kz⟩:=O3;simp only at r0 r1 r2;clear hO3
 go_upto_region 4 with fail
 have HMN:=Lh (fun(W:World)=>rminus_calls kx ky kz ox oy oz W);obtain⟨⟨mx_,my_,mz_⟩,hm⟩:∃m,minus3 ⟨kx,ky,kz⟩ ⟨ox,oy,oz⟩=m:=⟨_,rfl⟩;rw[hm]at HMN;clear hm;have HB:=Lh ((Below.refl (w3.heap.size) w3).drew);refine start_ (n:=11) (S:=fun w'=>w'.cell? ⟨w2.heap.size,0,none⟩=some (.slice (some ⟨b0,o0,none⟩) n0 d0)∧w'.cell? ⟨w2.heap.size+1,0,none⟩=some (.slice (some ⟨b3,o3,none⟩) n3 d3)∧w'.cell? ⟨b0,o0,none⟩=some (.int .i64 ox)∧w'.cell? ⟨b0,o0+1,none⟩=some (.int .i64 oy)∧w'.cell? ⟨b0,o0+2,none⟩=some (.int .i64 oz)∧w'.cell? ⟨b3,o3,none⟩=some (.int .i64 kx)∧w'.cell? ⟨b3,o3+1,none⟩=some (.int .i64 ky)∧w'.cell? ⟨b3,o3+2,none⟩=some (.int .i64 kz)) (ds:=[]) (MB_ 11 0) (by kernel_rfl) rfl rfl ⟨(HB.cell (p:=⟨w2.heap.size,0,none⟩) (xl)).trans x0,(HB.cell (p:=⟨w2.heap.size+1,0,none⟩) (yl)).trans y0,(HB.cell (p:=⟨b0,o0,none⟩) (lb)).trans p0,(HB.cell (p:=⟨b0,o0+1,none⟩) (lb)).trans p1,(HB.cell (p:=⟨b0,o0+2,none⟩) (lb)).trans p2,(HB.cell (p:=⟨b3,o3,none⟩) (lb3)).trans r0,(HB.cell (p:=⟨b3,o3+1,none⟩) (lb3)).trans r1,(HB.cell (p:=⟨b3,o3+2,none⟩) (lb3)).trans r2⟩ (fun hE=>?_);obtain⟨wd,hwd⟩:=nm_ w3.drew;rw[hwd]at HB hE⊢;clear hwd;refine pure_ (i:=0) (N:=some 24) (v:=?_) (a':=?_) (MB_ 11 1) rfl rfl (by kernel_rfl) (fun _ _ _ h=>h) (Or.inl ⟨by rfl,?_⟩) ?_ ?_;rotate_left
 ·intro w';go_simp
  with_reducible rfl
 rotate_left
 ·simp only[Act.put,List.setIfInBounds_toArray,List.set_cons_zero,List.set_cons_succ,i64_w,i32_w];rfl
 refine pure_ (i:=4) (N:=some 28) (v:=?_) (a':=?_) (MB_ 11 17) rfl rfl (by kernel_rfl) (fun _ _ _ h=>h) (Or.inl ⟨by rfl,?_⟩) ?_ ?_;rotate_left
 ·intro w';go_simp
  with_reducible rfl
 rotate_left
 ·simp only[Act.put,List.setIfInBounds_toArray,List.set_cons_zero,List.set_cons_succ,i64_w,i32_w];rfl
 refine take_ (i:=1) (N:=some 25) (v:=?_) (a':=?_) (MB_ 11 19) rfl rfl (by kernel_rfl) (fun _ _ _ h=>h) (Or.inl ⟨by rfl,?_⟩) hE ?_ ?_;rotate_left
 ·rintro w' ⟨s0,s1,s2,s3,s4,s5,s6,s7⟩;go_simp
  with_reducible rfl
 rotate_left
 ·simp only[Act.put,List.setIfInBounds_toArray,List.set_cons_zero,List.set_cons_succ,i64_w,i32_w];rfl
 refine pure_ (i:=2) (N:=some 26) (v:=?_) (a':=?_) (MB_ 11 23) rfl rfl (by kernel_rfl) (fun _ _ _ h=>h) (Or.inl ⟨by rfl,?_⟩) ?_ ?_;rotate_left
 ·intro w';go_simp
  with_reducible rfl
 rotate_left
 ·simp only[Act.put,List.setIfInBounds_toArray,List.set_cons_zero,List.set_cons_succ,i64_w,i32_w];rfl
 refine take_ (i:=3) (N:=some 27) (v:=?_) (a':=?_) (MB_ 11 31) rfl rfl (by kernel_rfl) (fun _ _ _ h=>h) (Or.inl ⟨by rfl,?_⟩) hE ?_ ?_;rotate_left
 ·rintro w' ⟨s0,s1,s2,s3,s4,s5,s6,s7⟩;go_simp
  with_reducible rfl
 rotate_left
 ·simp only[Act.put,List.setIfInBounds_toArray,List.set_cons_zero,List.set_cons_succ,i64_w,i32_w];rfl
 refine take_ (i:=5) (N:=some 29) (v:=?_) (a':=?_) (MB_ 11 63) rfl rfl (by kernel_rfl) (fun _ _ _ h=>h) (Or.inl ⟨by rfl,?_⟩) hE ?_ ?_;rotate_left
 ·rintro w' ⟨s0,s1,s2,s3,s4,s5,s6,s7⟩;go_simp
  with_reducible rfl
 rotate_left
 ·simp only[Act.put,List.setIfInBounds_toArray,List.set_cons_zero,List.set_cons_succ,i64_w,i32_w];rfl
 refine pure_ (i:=6) (N:=some 30) (v:=?_) (a':=?_) (MB_ 11 127) rfl rfl (by kernel_rfl) (fun _ _ _ h=>h) (Or.inl ⟨by rfl,?_⟩) ?_ ?_;rotate_left
 ·intro w';go_simp
  with_reducible rfl
 rotate_left
 ·simp only[Act.put,List.setIfInBounds_toArray,List.set_cons_zero,List.set_cons_succ,i64_w,i32_w];rfl
 refine take_ (i:=7) (N:=some 31) (v:=?_) (a':=?_) (MB_ 11 255) rfl rfl (by kernel_rfl) (fun _ _ _ h=>h) (Or.inl ⟨by rfl,?_⟩) hE ?_ ?_;rotate_left
 ·rintro w' ⟨s0,s1,s2,s3,s4,s5,s6,s7⟩;go_simp
  with_reducible rfl
 rotate_left
 ·simp only[Act.put,List.setIfInBounds_toArray,List.set_cons_zero,List.set_cons_succ,i64_w,i32_w];rfl
 refine join_ (σ:=Nat) 1 (MB_ 11 1023) (fun s=>[(7, .pointer (some ⟨s,0,none⟩)),(32, .agg #[.int .i64 mx_, .int .i64 my_, .int .i64 mz_])]) (fun s w'=>w3.heap.size≤s∧w'.heap[s]?=some (.cells #[.int .i64 0, .int .i64 0, .int .i64 0] 23 (0,0))∧Below (w3.heap.size) w3 w') ?_ ?_;rotate_left
 ·intro hCont;refine two_ (i:=8) (j:=9) (Ni:=some 32) (Nj:=some 7) (MB_ 11 511) (MB_ 11 767) rfl rfl rfl rfl (by kernel_rfl) (by decide) (by decide) (fun K hK=>?_) (fun K hK=>?_)
  ·skip
   refine gs_ Tryz.func11 #[.agg #[.int .i64 kx, .int .i64 ky, .int .i64 kz], .agg #[.int .i64 ox, .int .i64 oy, .int .i64 oz]] ?_
   with_reducible refine(HMN.out _).mono ?_
   rintro en wz ⟨rfl,hb⟩;have HB:=tm_ HB hb;clear hb;refine⟨_,rfl,?_⟩;refine hK.out _ _ ⟨(HB.cell (p:=⟨w2.heap.size,0,none⟩) (xl)).trans x0,(HB.cell (p:=⟨w2.heap.size+1,0,none⟩) (yl)).trans y0,(HB.cell (p:=⟨b0,o0,none⟩) (lb)).trans p0,(HB.cell (p:=⟨b0,o0+1,none⟩) (lb)).trans p1,(HB.cell (p:=⟨b0,o0+2,none⟩) (lb)).trans p2,(HB.cell (p:=⟨b3,o3,none⟩) (lb3)).trans r0,(HB.cell (p:=⟨b3,o3+1,none⟩) (lb3)).trans r1,(HB.cell (p:=⟨b3,o3+2,none⟩) (lb3)).trans r2⟩ (fun hE=>?_);clear hK K;refine norm_ (a':=?_) ?_ ?_;rotate_left
   ·show Act.put _ (some 32) _=_;simp only[Act.put,List.setIfInBounds_toArray,List.set_cons_zero,List.set_cons_succ,i64_w,i32_w];rfl
   refine one_ (i:=9) (N:=some 7) (MB_ 11 1023) rfl rfl (by kernel_rfl) (by decide) (fun K hK=>?_);refine va_ ?_;have HA:=Lh (ha_new HB.out (.cells #[.int .i64 0, .int .i64 0, .int .i64 0] 23));have hge:=HB.size;have HB:=Lh (HB.alloc (Nat.le_trans (Nat.le_refl _) HB.size) (.cells #[.int .i64 0, .int .i64 0, .int .i64 0] 23));refine hK.out _ _ ⟨(HB.cell (p:=⟨w2.heap.size,0,none⟩) (xl)).trans x0,(HB.cell (p:=⟨w2.heap.size+1,0,none⟩) (yl)).trans y0,(HB.cell (p:=⟨b0,o0,none⟩) (lb)).trans p0,(HB.cell (p:=⟨b0,o0+1,none⟩) (lb)).trans p1,(HB.cell (p:=⟨b0,o0+2,none⟩) (lb)).trans p2,(HB.cell (p:=⟨b3,o3,none⟩) (lb3)).trans r0,(HB.cell (p:=⟨b3,o3+1,none⟩) (lb3)).trans r1,(HB.cell (p:=⟨b3,o3+2,none⟩) (lb3)).trans r2⟩ (fun hE=>?_);clear hK K;refine norm_ (a':=?_) ?_ ?_;rotate_left
   ·show Act.put _ (some 7) _=_;simp only[Act.put,List.setIfInBounds_toArray,List.set_cons_zero,List.set_cons_succ,i64_w,i32_w];rfl
   exact nz_ (hCont _ _ ⟨hge,HA.out,HB.out⟩)
  ·skip
   refine va_ ?_;have HA:=Lh (ha_new HB.out (.cells #[.int .i64 0, .int .i64 0, .int .i64 0] 23));have hge:=HB.size;have HB:=Lh (HB.alloc (Nat.le_trans (Nat.le_refl _) HB.size) (.cells #[.int .i64 0, .int .i64 0, .int .i64 0] 23));refine hK.out _ _ ⟨(HB.cell (p:=⟨w2.heap.size,0,none⟩) (xl)).trans x0,(HB.cell (p:=⟨w2.heap.size+1,0,none⟩) (yl)).trans y0,(HB.cell (p:=⟨b0,o0,none⟩) (lb)).trans p0,(HB.cell (p:=⟨b0,o0+1,none⟩) (lb)).trans p1,(HB.cell (p:=⟨b0,o0+2,none⟩) (lb)).trans p2,(HB.cell (p:=⟨b3,o3,none⟩) (lb3)).trans r0,(HB.cell (p:=⟨b3,o3+1,none⟩) (lb3)).trans r1,(HB.cell (p:=⟨b3,o3+2,none⟩) (lb3)).trans r2⟩ (fun hE=>?_);clear hK K;refine norm_ (a':=?_) ?_ ?_;rotate_left
   ·show Act.put _ (some 7) _=_;simp only[Act.put,List.setIfInBounds_toArray,List.set_cons_zero,List.set_cons_succ,i64_w,i32_w];rfl
   refine one_ (i:=8) (N:=some 32) (MB_ 11 1023) rfl rfl (by kernel_rfl) (by decide) (fun K hK=>?_);refine gs_ Tryz.func11 #[.agg #[.int .i64 kx, .int .i64 ky, .int .i64 kz], .agg #[.int .i64 ox, .int .i64 oy, .int .i64 oz]] ?_
   with_reducible refine(HMN.out _).mono ?_
   rintro en wz ⟨rfl,hb⟩;have HB:=tm_ HB hb;have HA:=up_ hb HA;clear hb;refine⟨_,rfl,?_⟩;refine hK.out _ _ ⟨(HB.cell (p:=⟨w2.heap.size,0,none⟩) (xl)).trans x0,(HB.cell (p:=⟨w2.heap.size+1,0,none⟩) (yl)).trans y0,(HB.cell (p:=⟨b0,o0,none⟩) (lb)).trans p0,(HB.cell (p:=⟨b0,o0+1,none⟩) (lb)).trans p1,(HB.cell (p:=⟨b0,o0+2,none⟩) (lb)).trans p2,(HB.cell (p:=⟨b3,o3,none⟩) (lb3)).trans r0,(HB.cell (p:=⟨b3,o3+1,none⟩) (lb3)).trans r1,(HB.cell (p:=⟨b3,o3+2,none⟩) (lb3)).trans r2⟩ (fun hE=>?_);clear hK K;refine norm_ (a':=?_) ?_ ?_;rotate_left
   ·show Act.put _ (some 32) _=_;simp only[Act.put,List.setIfInBounds_toArray,List.set_cons_zero,List.set_cons_succ,i64_w,i32_w];rfl
   exact nz_ (hCont _ _ ⟨hge,HA.out,HB.out⟩)
 rintro AB wj ⟨hge,HA,HB⟩;have HA:=Lh HA;have HB:=Lh HB;have hE:wj.cell? ⟨w2.heap.size,0,none⟩=some (.slice (some ⟨b0,o0,none⟩) n0 d0)∧wj.cell? ⟨w2.heap.size+1,0,none⟩=some (.slice (some ⟨b3,o3,none⟩) n3 d3)∧wj.cell? ⟨b0,o0,none⟩=some (.int .i64 ox)∧wj.cell? ⟨b0,o0+1,none⟩=some (.int .i64 oy)∧wj.cell? ⟨b0,o0+2,none⟩=some (.int .i64 oz)∧wj.cell? ⟨b3,o3,none⟩=some (.int .i64 kx)∧wj.cell? ⟨b3,o3+1,none⟩=some (.int .i64 ky)∧wj.cell? ⟨b3,o3+2,none⟩=some (.int .i64 kz):=⟨(HB.cell (p:=⟨w2.heap.size,0,none⟩) (xl)).trans x0,(HB.cell (p:=⟨w2.heap.size+1,0,none⟩) (yl)).trans y0,(HB.cell (p:=⟨b0,o0,none⟩) (lb)).trans p0,(HB.cell (p:=⟨b0,o0+1,none⟩) (lb)).trans p1,(HB.cell (p:=⟨b0,o0+2,none⟩) (lb)).trans p2,(HB.cell (p:=⟨b3,o3,none⟩) (lb3)).trans r0,(HB.cell (p:=⟨b3,o3+1,none⟩) (lb3)).trans r1,(HB.cell (p:=⟨b3,o3+2,none⟩) (lb3)).trans r2⟩;refine norm_ (a':=?_) ?_ ?_;rotate_left
 ·simp only[putAll,Act.put,List.setIfInBounds_toArray,List.set_cons_zero,List.set_cons_succ];rfl
 refine one_ (i:=10) (N:=none) (MB_ 11 2047) rfl rfl (by kernel_rfl) (by decide) (fun K hK=>?_);have sc0:World.cell? _ ⟨AB,0,none⟩=some (.int .i64 0):=(blk_cell HA.out 0).trans rfl;have sf0:=blk_frozen HA.out 0;have sc1:World.cell? _ ⟨AB,1,none⟩=some (.int .i64 0):=(blk_cell HA.out 1).trans rfl;have sf1:=blk_frozen HA.out 1;have sc2:World.cell? _ ⟨AB,2,none⟩=some (.int .i64 0):=(blk_cell HA.out 2).trans rfl;have sf2:=blk_frozen HA.out 2;refine skip_ (w1:=?_) (by rfl) rfl ?_ ?_;rotate_left
 ·go_simp;rfl
 have HA:=Lh (bs3 HA.out (.int .i64 mx_) (.int .i64 my_) (.int .i64 mz_));have HB:=Lh (bb3 HB.out (Nat.le_trans (Nat.le_refl _) hge) (.int .i64 mx_) (.int .i64 my_) (.int .i64 mz_));clear sc0 sf0 sc1 sf1 sc2 sf2;refine hK.out _ _ ⟨(HB.cell (p:=⟨w2.heap.size,0,none⟩) (xl)).trans x0,(HB.cell (p:=⟨w2.heap.size+1,0,none⟩) (yl)).trans y0,(HB.cell (p:=⟨b0,o0,none⟩) (lb)).trans p0,(HB.cell (p:=⟨b0,o0+1,none⟩) (lb)).trans p1,(HB.cell (p:=⟨b0,o0+2,none⟩) (lb)).trans p2,(HB.cell (p:=⟨b3,o3,none⟩) (lb3)).trans r0,(HB.cell (p:=⟨b3,o3+1,none⟩) (lb3)).trans r1,(HB.cell (p:=⟨b3,o3+2,none⟩) (lb3)).trans r2⟩ (fun hE=>?_);clear hK K;refine done_ (by kernel_rfl) ?_;obtain⟨w4,hwn⟩:=nm_ ((((wj.setCell ⟨AB,0,none⟩ (.int .i64 mx_)).setCell ⟨AB,1,none⟩ (.int .i64 my_)).setCell ⟨AB,2,none⟩ (.int .i64 mz_)));rw[hwn]at HA HB⊢;clear hwn;have hb:=HB.out;have HW7:=HA;clear x0 x1 x2 x3 xl y0 y1 y2 y3 yl;replace CA:=up_ hb CA;replace CB:=up_ hb CB;replace HV:=Lh (HV.below hb);replace HVB:=Lh (HVB.below hb);replace W:=Lh (bthen W.out hb);obtain⟨B7,hB7⟩:=nm_ AB;rw[hB7]at HW7⊢;clear hE HB HA hb hge hB7 p0 p1 p2 lb hn0 r0 r1 r2 lb3 hn3 HMN e1 e2
 go_upto_region 5 with fail
 have HTL:=Lh (fun(W:World) (g:Nat) (h1:CrV W (.agg #[.slice (some ⟨b0,o0,none⟩) n0 d0, .slice B1 n1 d1, .slice B2 n2 d2, .int .i64 ra]) a) (h2:RdC W (some ⟨g,0,none⟩) [b,a])=>tells13 h1 GA.out.crb ⟨wrap64 (2*mx_),wrap64 (2*my_),wrap64 (2*mz_)⟩ qp [b,a] (some ⟨g,0,none⟩) 2 2 h2 (fun d hd=>by
  simp at hd
  rcases hd with rfl|rfl
  ·exact GB.out.crb
  ·exact GA.out.crb) rfl (by decide))
 have HRB2:=Lh (fun(W:World) (g:Nat) (h:W.heap[g]?=some (.cells #[.slice (some ⟨b3,o3,none⟩) n3 d3, .slice B4 n4 d4, .slice B5 n5 d5, .int .i64 rb, .slice (some ⟨b0,o0,none⟩) n0 d0, .slice B1 n1 d1, .slice B2 n2 d2, .int .i64 ra] 35 (0,0))) (h1:CrV W (.agg #[.slice (some ⟨b3,o3,none⟩) n3 d3, .slice B4 n4 d4, .slice B5 n5 d5, .int .i64 rb]) b) (h2:CrV W (.agg #[.slice (some ⟨b0,o0,none⟩) n0 d0, .slice B1 n1 d1, .slice B2 n2 d2, .int .i64 ra]) a)=>RdC_two h h1 HRB.out h2 HRA.out);obtain⟨x0,x1,x2,x3,xl⟩:=f4_ w2.heap.size CA.out;obtain⟨y0,y1,y2,y3,yl⟩:=f4_ (w2.heap.size+1) CB.out;obtain⟨q0,q1,q2,ql⟩:=f3_ B7 HW7.out;have HB:=Lh ((Below.refl (w4.heap.size) w4).drew);refine start_ (n:=18) (S:=fun w'=>w'.cell? ⟨w2.heap.size,0,none⟩=some (.slice (some ⟨b0,o0,none⟩) n0 d0)∧w'.cell? ⟨w2.heap.size,1,none⟩=some (.slice B1 n1 d1)∧w'.cell? ⟨w2.heap.size,2,none⟩=some (.slice B2 n2 d2)∧w'.cell? ⟨w2.heap.size,3,none⟩=some (.int .i64 ra)∧w'.cell? ⟨w2.heap.size+1,0,none⟩=some (.slice (some ⟨b3,o3,none⟩) n3 d3)∧w'.cell? ⟨w2.heap.size+1,1,none⟩=some (.slice B4 n4 d4)∧w'.cell? ⟨w2.heap.size+1,2,none⟩=some (.slice B5 n5 d5)∧w'.cell? ⟨w2.heap.size+1,3,none⟩=some (.int .i64 rb)∧w'.cell? ⟨B7,0,none⟩=some (.int .i64 mx_)∧w'.cell? ⟨B7,1,none⟩=some (.int .i64 my_)∧w'.cell? ⟨B7,2,none⟩=some (.int .i64 mz_)) (ds:=[]) (MB_ 18 0) (by kernel_rfl) rfl rfl ⟨(HB.cell (p:=⟨w2.heap.size,0,none⟩) (xl)).trans x0,(HB.cell (p:=⟨w2.heap.size,1,none⟩) (xl)).trans x1,(HB.cell (p:=⟨w2.heap.size,2,none⟩) (xl)).trans x2,(HB.cell (p:=⟨w2.heap.size,3,none⟩) (xl)).trans x3,(HB.cell (p:=⟨w2.heap.size+1,0,none⟩) (yl)).trans y0,(HB.cell (p:=⟨w2.heap.size+1,1,none⟩) (yl)).trans y1,(HB.cell (p:=⟨w2.heap.size+1,2,none⟩) (yl)).trans y2,(HB.cell (p:=⟨w2.heap.size+1,3,none⟩) (yl)).trans y3,(HB.cell (p:=⟨B7,0,none⟩) (ql)).trans q0,(HB.cell (p:=⟨B7,1,none⟩) (ql)).trans q1,(HB.cell (p:=⟨B7,2,none⟩) (ql)).trans q2⟩ (fun hE=>?_);obtain⟨wd,hwd⟩:=nm_ w4.drew;rw[hwd]at HB hE⊢;clear hwd;refine pure_ (i:=1) (N:=some 34) (v:=?_) (a':=?_) (MB_ 18 2) rfl rfl (by kernel_rfl) (fun _ _ _ h=>h) (Or.inl ⟨by rfl,?_⟩) ?_ ?_;rotate_left
 ·intro w';go_simp
  with_reducible rfl
 rotate_left
 ·simp only[Act.put,List.setIfInBounds_toArray,List.set_cons_zero,List.set_cons_succ,i64_w,i32_w];rfl
 refine pure_ (i:=4) (N:=some 37) (v:=?_) (a':=?_) (MB_ 18 18) rfl rfl (by kernel_rfl) (fun _ _ _ h=>h) (Or.inl ⟨by rfl,?_⟩) ?_ ?_;rotate_left
 ·intro w';go_simp
  with_reducible rfl
 rotate_left
 ·simp only[Act.put,List.setIfInBounds_toArray,List.set_cons_zero,List.set_cons_succ,i64_w,i32_w];rfl
 refine pure_ (i:=7) (N:=some 40) (v:=?_) (a':=?_) (MB_ 18 146) rfl rfl (by kernel_rfl) (fun _ _ _ h=>h) (Or.inl ⟨by rfl,?_⟩) ?_ ?_;rotate_left
 ·intro w';go_simp
  with_reducible rfl
 rotate_left
 ·simp only[Act.put,List.setIfInBounds_toArray,List.set_cons_zero,List.set_cons_succ,i64_w,i32_w];rfl
 refine pure_ (i:=11) (N:=some 44) (v:=?_) (a':=?_) (MB_ 18 2194) rfl rfl (by kernel_rfl) (fun _ _ _ h=>h) (Or.inl ⟨by rfl,?_⟩) ?_ ?_;rotate_left
 ·intro w';go_simp
  with_reducible rfl
 rotate_left
 ·simp only[Act.put,List.setIfInBounds_toArray,List.set_cons_zero,List.set_cons_succ,i64_w,i32_w];rfl
 refine take_ (i:=0) (N:=some 33) (v:=?_) (a':=?_) (MB_ 18 2195) rfl rfl (by kernel_rfl) (fun _ _ _ h=>h) (Or.inl ⟨by rfl,?_⟩) hE ?_ ?_;rotate_left
 ·rintro w' ⟨s0,s1,s2,s3,s4,s5,s6,s7,s8,s9,s10⟩;go_simp
  with_reducible rfl
 rotate_left
 ·simp only[Act.put,List.setIfInBounds_toArray,List.set_cons_zero,List.set_cons_succ,i64_w,i32_w];rfl
 refine take_ (i:=2) (N:=some 35) (v:=?_) (a':=?_) (MB_ 18 2199) rfl rfl (by kernel_rfl) (fun _ _ _ h=>h) (Or.inl ⟨by rfl,?_⟩) hE ?_ ?_;rotate_left
 ·rintro w' ⟨s0,s1,s2,s3,s4,s5,s6,s7,s8,s9,s10⟩;go_simp
  with_reducible rfl
 rotate_left
 ·simp only[Act.put,List.setIfInBounds_toArray,List.set_cons_zero,List.set_cons_succ,i64_w,i32_w];rfl
 refine pure_ (i:=3) (N:=some 36) (v:=?_) (a':=?_) (MB_ 18 2207) rfl rfl (by kernel_rfl) (fun _ _ _ h=>h) (Or.inl ⟨by rfl,?_⟩) ?_ ?_;rotate_left
 ·intro w';go_simp
  with_reducible rfl
 rotate_left
 ·simp only[Act.put,List.setIfInBounds_toArray,List.set_cons_zero,List.set_cons_succ,i64_w,i32_w];rfl
 refine take_ (i:=5) (N:=some 38) (v:=?_) (a':=?_) (MB_ 18 2239) rfl rfl (by kernel_rfl) (fun _ _ _ h=>h) (Or.inl ⟨by rfl,?_⟩) hE ?_ ?_;rotate_left
 ·rintro w' ⟨s0,s1,s2,s3,s4,s5,s6,s7,s8,s9,s10⟩;go_simp
  with_reducible rfl
 rotate_left
 ·simp only[Act.put,List.setIfInBounds_toArray,List.set_cons_zero,List.set_cons_succ,i64_w,i32_w];rfl
 refine pure_ (i:=6) (N:=some 39) (v:=?_) (a':=?_) (MB_ 18 2303) rfl rfl (by kernel_rfl) (fun _ _ _ h=>h) (Or.inl ⟨by rfl,?_⟩) ?_ ?_;rotate_left
 ·intro w';go_simp
  with_reducible rfl
 rotate_left
 ·simp only[Act.put,List.setIfInBounds_toArray,List.set_cons_zero,List.set_cons_succ,i64_w,i32_w];rfl
 refine take_ (i:=8) (N:=some 41) (v:=?_) (a':=?_) (MB_ 18 2559) rfl rfl (by kernel_rfl) (fun _ _ _ h=>h) (Or.inl ⟨by rfl,?_⟩) hE ?_ ?_;rotate_left
 ·rintro w' ⟨s0,s1,s2,s3,s4,s5,s6,s7,s8,s9,s10⟩;go_simp
  with_reducible rfl
 rotate_left
 ·simp only[Act.put,List.setIfInBounds_toArray,List.set_cons_zero,List.set_cons_succ,i64_w,i32_w];rfl
 refine pure_ (i:=9) (N:=some 42) (v:=?_) (a':=?_) (MB_ 18 3071) rfl rfl (by kernel_rfl) (fun _ _ _ h=>h) (Or.inl ⟨by rfl,?_⟩) ?_ ?_;rotate_left
 ·intro w';go_simp
  with_reducible rfl
 rotate_left
 ·simp only[Act.put,List.setIfInBounds_toArray,List.set_cons_zero,List.set_cons_succ,i64_w,i32_w];rfl
 refine pure_ (i:=10) (N:=some 43) (v:=?_) (a':=?_) (MB_ 18 4095) rfl rfl (by kernel_rfl) (fun _ _ _ h=>h) (Or.inl ⟨by rfl,?_⟩) ?_ ?_;rotate_left
 ·intro w';go_simp
  with_reducible rfl
 rotate_left
 ·simp only[Act.put,List.setIfInBounds_toArray,List.set_cons_zero,List.set_cons_succ,i64_w,i32_w];rfl
 refine take_ (i:=13) (N:=some 46) (v:=?_) (a':=?_) (MB_ 18 12287) rfl rfl (by kernel_rfl) (fun _ _ _ h=>h) (Or.inl ⟨by rfl,?_⟩) hE ?_ ?_;rotate_left
 ·rintro w' ⟨s0,s1,s2,s3,s4,s5,s6,s7,s8,s9,s10⟩;go_simp
  with_reducible rfl
 rotate_left
 ·simp only[Act.put,List.setIfInBounds_toArray,List.set_cons_zero,List.set_cons_succ,i64_w,i32_w];rfl
 refine take_ (i:=14) (N:=some 47) (v:=?_) (a':=?_) (MB_ 18 28671) rfl rfl (by kernel_rfl) (fun _ _ _ h=>h) (Or.inl ⟨by rfl,?_⟩) hE ?_ ?_;rotate_left
 ·rintro w' ⟨s0,s1,s2,s3,s4,s5,s6,s7,s8,s9,s10⟩;go_simp
  with_reducible rfl
 rotate_left
 ·simp only[Act.put,List.setIfInBounds_toArray,List.set_cons_zero,List.set_cons_succ,i64_w,i32_w];rfl
 refine join_ (σ:=Nat) 2 (MB_ 18 65535) (fun s=>[(45, .int .i64 qp),(48, .slice (some ⟨s,0,none⟩) 2 2)]) (fun(s:Nat) w'=>w4.heap.size≤s∧w'.heap[s]?=some (.cells #[.slice (some ⟨b3,o3,none⟩) n3 d3, .slice B4 n4 d4, .slice B5 n5 d5, .int .i64 rb, .slice (some ⟨b0,o0,none⟩) n0 d0, .slice B1 n1 d1, .slice B2 n2 d2, .int .i64 ra] 35 (0,0))∧Below w4.heap.size w4 w') ?_ ?_;rotate_left
 ·intro hJ12_15;refine join_ (σ:=Nat) 3 (MB_ 18 32767) (fun s=>[(45, .int .i64 qp)]) (fun(s:Nat) w'=>Below w4.heap.size w4 w') ?_ ?_;rotate_left
  ·intro hJ12;refine join_ (σ:=Nat) 3 (MB_ 18 61439) (fun s=>[(48, .slice (some ⟨s,0,none⟩) 2 2)]) (fun(s:Nat) w'=>w4.heap.size≤s∧w'.heap[s]?=some (.cells #[.slice (some ⟨b3,o3,none⟩) n3 d3, .slice B4 n4 d4, .slice B5 n5 d5, .int .i64 rb, .slice (some ⟨b0,o0,none⟩) n0 d0, .slice B1 n1 d1, .slice B2 n2 d2, .int .i64 ra] 35 (0,0))∧Below w4.heap.size w4 w') ?_ ?_;rotate_left
   ·intro hJ15;refine two_ (i:=12) (j:=15) (Ni:=some 45) (Nj:=some 48) (MB_ 18 32767) (MB_ 18 61439) rfl rfl rfl rfl (by kernel_rfl) (by decide) (by decide) (fun K hK=>?_) (fun K hK=>?_)
    ·skip
     refine gs_ Tryz.func13 #[.int .i64 pt, .int .i64 17] ?_
     with_reducible refine(HPT.out _).mono ?_
     rintro en wz ⟨rfl,rfl⟩;refine⟨_,rfl,?_⟩;refine hK.out _ _ ⟨(HB.cell (p:=⟨w2.heap.size,0,none⟩) (xl)).trans x0,(HB.cell (p:=⟨w2.heap.size,1,none⟩) (xl)).trans x1,(HB.cell (p:=⟨w2.heap.size,2,none⟩) (xl)).trans x2,(HB.cell (p:=⟨w2.heap.size,3,none⟩) (xl)).trans x3,(HB.cell (p:=⟨w2.heap.size+1,0,none⟩) (yl)).trans y0,(HB.cell (p:=⟨w2.heap.size+1,1,none⟩) (yl)).trans y1,(HB.cell (p:=⟨w2.heap.size+1,2,none⟩) (yl)).trans y2,(HB.cell (p:=⟨w2.heap.size+1,3,none⟩) (yl)).trans y3,(HB.cell (p:=⟨B7,0,none⟩) (ql)).trans q0,(HB.cell (p:=⟨B7,1,none⟩) (ql)).trans q1,(HB.cell (p:=⟨B7,2,none⟩) (ql)).trans q2⟩ (fun hE=>?_);clear hK K;refine norm_ (a':=?_) ?_ ?_;rotate_left
     ·show Act.put _ (some 45) _=_;simp only[Act.put,List.setIfInBounds_toArray,List.set_cons_zero,List.set_cons_succ,i64_w,i32_w];rfl
     exact nw_ (hJ12 0 _ HB.out)
    ·skip
     refine va_ ?_;have HA:=Lh (ha_new HB.out (.cells #[.slice (some ⟨b3,o3,none⟩) n3 d3, .slice B4 n4 d4, .slice B5 n5 d5, .int .i64 rb, .slice (some ⟨b0,o0,none⟩) n0 d0, .slice B1 n1 d1, .slice B2 n2 d2, .int .i64 ra] 35));have gA:=HB.size;have HB:=Lh (HB.alloc (Nat.le_trans (Nat.le_refl _) HB.size) (.cells #[.slice (some ⟨b3,o3,none⟩) n3 d3, .slice B4 n4 d4, .slice B5 n5 d5, .int .i64 rb, .slice (some ⟨b0,o0,none⟩) n0 d0, .slice B1 n1 d1, .slice B2 n2 d2, .int .i64 ra] 35));refine hK.out _ _ ⟨(HB.cell (p:=⟨w2.heap.size,0,none⟩) (xl)).trans x0,(HB.cell (p:=⟨w2.heap.size,1,none⟩) (xl)).trans x1,(HB.cell (p:=⟨w2.heap.size,2,none⟩) (xl)).trans x2,(HB.cell (p:=⟨w2.heap.size,3,none⟩) (xl)).trans x3,(HB.cell (p:=⟨w2.heap.size+1,0,none⟩) (yl)).trans y0,(HB.cell (p:=⟨w2.heap.size+1,1,none⟩) (yl)).trans y1,(HB.cell (p:=⟨w2.heap.size+1,2,none⟩) (yl)).trans y2,(HB.cell (p:=⟨w2.heap.size+1,3,none⟩) (yl)).trans y3,(HB.cell (p:=⟨B7,0,none⟩) (ql)).trans q0,(HB.cell (p:=⟨B7,1,none⟩) (ql)).trans q1,(HB.cell (p:=⟨B7,2,none⟩) (ql)).trans q2⟩ (fun hE=>?_);clear hK K;refine norm_ (a':=?_) ?_ ?_;rotate_left
     ·show Act.put _ (some 48) _=_;simp only[Act.put,List.setIfInBounds_toArray,List.set_cons_zero,List.set_cons_succ,i64_w,i32_w];rfl
     exact nw_ (hJ15 _ _ ⟨gA,HA.out,HB.out⟩)
   ·skip
    rintro AA wj ⟨gA,HA,HB⟩;have HA:=Lh HA;have HB:=Lh HB;have hE:wj.cell? ⟨w2.heap.size,0,none⟩=some (.slice (some ⟨b0,o0,none⟩) n0 d0)∧wj.cell? ⟨w2.heap.size,1,none⟩=some (.slice B1 n1 d1)∧wj.cell? ⟨w2.heap.size,2,none⟩=some (.slice B2 n2 d2)∧wj.cell? ⟨w2.heap.size,3,none⟩=some (.int .i64 ra)∧wj.cell? ⟨w2.heap.size+1,0,none⟩=some (.slice (some ⟨b3,o3,none⟩) n3 d3)∧wj.cell? ⟨w2.heap.size+1,1,none⟩=some (.slice B4 n4 d4)∧wj.cell? ⟨w2.heap.size+1,2,none⟩=some (.slice B5 n5 d5)∧wj.cell? ⟨w2.heap.size+1,3,none⟩=some (.int .i64 rb)∧wj.cell? ⟨B7,0,none⟩=some (.int .i64 mx_)∧wj.cell? ⟨B7,1,none⟩=some (.int .i64 my_)∧wj.cell? ⟨B7,2,none⟩=some (.int .i64 mz_):=⟨(HB.cell (p:=⟨w2.heap.size,0,none⟩) (xl)).trans x0,(HB.cell (p:=⟨w2.heap.size,1,none⟩) (xl)).trans x1,(HB.cell (p:=⟨w2.heap.size,2,none⟩) (xl)).trans x2,(HB.cell (p:=⟨w2.heap.size,3,none⟩) (xl)).trans x3,(HB.cell (p:=⟨w2.heap.size+1,0,none⟩) (yl)).trans y0,(HB.cell (p:=⟨w2.heap.size+1,1,none⟩) (yl)).trans y1,(HB.cell (p:=⟨w2.heap.size+1,2,none⟩) (yl)).trans y2,(HB.cell (p:=⟨w2.heap.size+1,3,none⟩) (yl)).trans y3,(HB.cell (p:=⟨B7,0,none⟩) (ql)).trans q0,(HB.cell (p:=⟨B7,1,none⟩) (ql)).trans q1,(HB.cell (p:=⟨B7,2,none⟩) (ql)).trans q2⟩;refine norm_ (a':=?_) ?_ ?_;rotate_left
    ·simp only[putAll,Act.put,List.setIfInBounds_toArray,List.set_cons_zero,List.set_cons_succ];rfl
    refine one_ (i:=12) (N:=some 45) (MB_ 18 65535) rfl rfl (by kernel_rfl) (by decide) (fun K hK=>?_);refine gs_ Tryz.func13 #[.int .i64 pt, .int .i64 17] ?_
    with_reducible refine(HPT.out _).mono ?_
    rintro en wz ⟨rfl,rfl⟩;refine⟨_,rfl,?_⟩;refine hK.out _ _ ⟨(HB.cell (p:=⟨w2.heap.size,0,none⟩) (xl)).trans x0,(HB.cell (p:=⟨w2.heap.size,1,none⟩) (xl)).trans x1,(HB.cell (p:=⟨w2.heap.size,2,none⟩) (xl)).trans x2,(HB.cell (p:=⟨w2.heap.size,3,none⟩) (xl)).trans x3,(HB.cell (p:=⟨w2.heap.size+1,0,none⟩) (yl)).trans y0,(HB.cell (p:=⟨w2.heap.size+1,1,none⟩) (yl)).trans y1,(HB.cell (p:=⟨w2.heap.size+1,2,none⟩) (yl)).trans y2,(HB.cell (p:=⟨w2.heap.size+1,3,none⟩) (yl)).trans y3,(HB.cell (p:=⟨B7,0,none⟩) (ql)).trans q0,(HB.cell (p:=⟨B7,1,none⟩) (ql)).trans q1,(HB.cell (p:=⟨B7,2,none⟩) (ql)).trans q2⟩ (fun hE=>?_);clear hK K;refine norm_ (a':=?_) ?_ ?_;rotate_left
    ·show Act.put _ (some 45) _=_;simp only[Act.put,List.setIfInBounds_toArray,List.set_cons_zero,List.set_cons_succ,i64_w,i32_w];rfl
    exact nw_ (hJ12_15 _ _ ⟨gA,HA.out,HB.out⟩)
  ·skip
   rintro AA wj HB;have HB:=Lh HB;have hE:wj.cell? ⟨w2.heap.size,0,none⟩=some (.slice (some ⟨b0,o0,none⟩) n0 d0)∧wj.cell? ⟨w2.heap.size,1,none⟩=some (.slice B1 n1 d1)∧wj.cell? ⟨w2.heap.size,2,none⟩=some (.slice B2 n2 d2)∧wj.cell? ⟨w2.heap.size,3,none⟩=some (.int .i64 ra)∧wj.cell? ⟨w2.heap.size+1,0,none⟩=some (.slice (some ⟨b3,o3,none⟩) n3 d3)∧wj.cell? ⟨w2.heap.size+1,1,none⟩=some (.slice B4 n4 d4)∧wj.cell? ⟨w2.heap.size+1,2,none⟩=some (.slice B5 n5 d5)∧wj.cell? ⟨w2.heap.size+1,3,none⟩=some (.int .i64 rb)∧wj.cell? ⟨B7,0,none⟩=some (.int .i64 mx_)∧wj.cell? ⟨B7,1,none⟩=some (.int .i64 my_)∧wj.cell? ⟨B7,2,none⟩=some (.int .i64 mz_):=⟨(HB.cell (p:=⟨w2.heap.size,0,none⟩) (xl)).trans x0,(HB.cell (p:=⟨w2.heap.size,1,none⟩) (xl)).trans x1,(HB.cell (p:=⟨w2.heap.size,2,none⟩) (xl)).trans x2,(HB.cell (p:=⟨w2.heap.size,3,none⟩) (xl)).trans x3,(HB.cell (p:=⟨w2.heap.size+1,0,none⟩) (yl)).trans y0,(HB.cell (p:=⟨w2.heap.size+1,1,none⟩) (yl)).trans y1,(HB.cell (p:=⟨w2.heap.size+1,2,none⟩) (yl)).trans y2,(HB.cell (p:=⟨w2.heap.size+1,3,none⟩) (yl)).trans y3,(HB.cell (p:=⟨B7,0,none⟩) (ql)).trans q0,(HB.cell (p:=⟨B7,1,none⟩) (ql)).trans q1,(HB.cell (p:=⟨B7,2,none⟩) (ql)).trans q2⟩;refine norm_ (a':=?_) ?_ ?_;rotate_left
   ·simp only[putAll,Act.put,List.setIfInBounds_toArray,List.set_cons_zero,List.set_cons_succ];rfl
   refine one_ (i:=15) (N:=some 48) (MB_ 18 65535) rfl rfl (by kernel_rfl) (by decide) (fun K hK=>?_);refine va_ ?_;have HA:=Lh (ha_new HB.out (.cells #[.slice (some ⟨b3,o3,none⟩) n3 d3, .slice B4 n4 d4, .slice B5 n5 d5, .int .i64 rb, .slice (some ⟨b0,o0,none⟩) n0 d0, .slice B1 n1 d1, .slice B2 n2 d2, .int .i64 ra] 35));have gA:=HB.size;have HB:=Lh (HB.alloc (Nat.le_trans (Nat.le_refl _) HB.size) (.cells #[.slice (some ⟨b3,o3,none⟩) n3 d3, .slice B4 n4 d4, .slice B5 n5 d5, .int .i64 rb, .slice (some ⟨b0,o0,none⟩) n0 d0, .slice B1 n1 d1, .slice B2 n2 d2, .int .i64 ra] 35));refine hK.out _ _ ⟨(HB.cell (p:=⟨w2.heap.size,0,none⟩) (xl)).trans x0,(HB.cell (p:=⟨w2.heap.size,1,none⟩) (xl)).trans x1,(HB.cell (p:=⟨w2.heap.size,2,none⟩) (xl)).trans x2,(HB.cell (p:=⟨w2.heap.size,3,none⟩) (xl)).trans x3,(HB.cell (p:=⟨w2.heap.size+1,0,none⟩) (yl)).trans y0,(HB.cell (p:=⟨w2.heap.size+1,1,none⟩) (yl)).trans y1,(HB.cell (p:=⟨w2.heap.size+1,2,none⟩) (yl)).trans y2,(HB.cell (p:=⟨w2.heap.size+1,3,none⟩) (yl)).trans y3,(HB.cell (p:=⟨B7,0,none⟩) (ql)).trans q0,(HB.cell (p:=⟨B7,1,none⟩) (ql)).trans q1,(HB.cell (p:=⟨B7,2,none⟩) (ql)).trans q2⟩ (fun hE=>?_);clear hK K;refine norm_ (a':=?_) ?_ ?_;rotate_left
   ·show Act.put _ (some 48) _=_;simp only[Act.put,List.setIfInBounds_toArray,List.set_cons_zero,List.set_cons_succ,i64_w,i32_w];rfl
   exact nw_ (hJ12_15 _ _ ⟨gA,HA.out,HB.out⟩)
 rintro AA wj ⟨gA,HA,HB⟩;have HA:=Lh HA;have HB:=Lh HB;have hE:wj.cell? ⟨w2.heap.size,0,none⟩=some (.slice (some ⟨b0,o0,none⟩) n0 d0)∧wj.cell? ⟨w2.heap.size,1,none⟩=some (.slice B1 n1 d1)∧wj.cell? ⟨w2.heap.size,2,none⟩=some (.slice B2 n2 d2)∧wj.cell? ⟨w2.heap.size,3,none⟩=some (.int .i64 ra)∧wj.cell? ⟨w2.heap.size+1,0,none⟩=some (.slice (some ⟨b3,o3,none⟩) n3 d3)∧wj.cell? ⟨w2.heap.size+1,1,none⟩=some (.slice B4 n4 d4)∧wj.cell? ⟨w2.heap.size+1,2,none⟩=some (.slice B5 n5 d5)∧wj.cell? ⟨w2.heap.size+1,3,none⟩=some (.int .i64 rb)∧wj.cell? ⟨B7,0,none⟩=some (.int .i64 mx_)∧wj.cell? ⟨B7,1,none⟩=some (.int .i64 my_)∧wj.cell? ⟨B7,2,none⟩=some (.int .i64 mz_):=⟨(HB.cell (p:=⟨w2.heap.size,0,none⟩) (xl)).trans x0,(HB.cell (p:=⟨w2.heap.size,1,none⟩) (xl)).trans x1,(HB.cell (p:=⟨w2.heap.size,2,none⟩) (xl)).trans x2,(HB.cell (p:=⟨w2.heap.size,3,none⟩) (xl)).trans x3,(HB.cell (p:=⟨w2.heap.size+1,0,none⟩) (yl)).trans y0,(HB.cell (p:=⟨w2.heap.size+1,1,none⟩) (yl)).trans y1,(HB.cell (p:=⟨w2.heap.size+1,2,none⟩) (yl)).trans y2,(HB.cell (p:=⟨w2.heap.size+1,3,none⟩) (yl)).trans y3,(HB.cell (p:=⟨B7,0,none⟩) (ql)).trans q0,(HB.cell (p:=⟨B7,1,none⟩) (ql)).trans q1,(HB.cell (p:=⟨B7,2,none⟩) (ql)).trans q2⟩;refine norm_ (a':=?_) ?_ ?_;rotate_left
 ·simp only[putAll,Act.put,List.setIfInBounds_toArray,List.set_cons_zero,List.set_cons_succ];rfl
 refine one_ (i:=16) (N:=some 49) (MB_ 18 131071) rfl rfl (by kernel_rfl) (by decide) (fun K hK=>?_);refine gs_ Tryz.func12 #[.agg #[.slice (some ⟨b0,o0,none⟩) n0 d0, .slice B1 n1 d1, .slice B2 n2 d2, .int .i64 ra], .agg #[.int .i64 (wrap64 (2*mx_)), .int .i64 (wrap64 (2*my_)), .int .i64 (wrap64 (2*mz_))], .int .i64 qp, .slice (some ⟨AA,0,none⟩) 2 2] ?_
 with_reducible refine(HTL.out _ AA (HV.out.below HB.out) (HRB2.out _ AA HA.out (HVB.out.below HB.out) (HV.out.below HB.out))).mono ?_
 rintro en wz ⟨rfl,hb⟩;have HB:=tm_ HB hb;have HA:=up_ hb HA;clear hb;refine⟨_,rfl,?_⟩;refine hK.out _ _ ⟨(HB.cell (p:=⟨w2.heap.size,0,none⟩) (xl)).trans x0,(HB.cell (p:=⟨w2.heap.size,1,none⟩) (xl)).trans x1,(HB.cell (p:=⟨w2.heap.size,2,none⟩) (xl)).trans x2,(HB.cell (p:=⟨w2.heap.size,3,none⟩) (xl)).trans x3,(HB.cell (p:=⟨w2.heap.size+1,0,none⟩) (yl)).trans y0,(HB.cell (p:=⟨w2.heap.size+1,1,none⟩) (yl)).trans y1,(HB.cell (p:=⟨w2.heap.size+1,2,none⟩) (yl)).trans y2,(HB.cell (p:=⟨w2.heap.size+1,3,none⟩) (yl)).trans y3,(HB.cell (p:=⟨B7,0,none⟩) (ql)).trans q0,(HB.cell (p:=⟨B7,1,none⟩) (ql)).trans q1,(HB.cell (p:=⟨B7,2,none⟩) (ql)).trans q2⟩ (fun hE=>?_);clear hK K;refine norm_ (a':=?_) ?_ ?_;rotate_left
 ·show Act.put _ (some 49) _=_;simp only[Act.put,List.setIfInBounds_toArray,List.set_cons_zero,List.set_cons_succ,i64_w,i32_w];rfl
 refine pure_ (i:=17) (N:=some 4) (v:=?_) (a':=?_) (MB_ 18 262143) rfl rfl (by kernel_rfl) (fun _ _ _ h=>h) (Or.inl ⟨by rfl,?_⟩) ?_ ?_;rotate_left
 ·intro w';go_simp
  with_reducible rfl
 rotate_left
 ·simp only[Act.put,List.setIfInBounds_toArray,List.set_cons_zero,List.set_cons_succ,i64_w,i32_w];rfl
 refine done_ (by kernel_rfl) ?_;have WF:=Lh (bthen W.out HB.out);go_wp2
 go_ret
 exact⟨rfl,WF.out⟩
end Go.Proofs.YtckdhahceelckaaGreat.G
