/- What the laws of this claim lean on: contracts of functions and plain lemmas; no condition of its own (part 15: XW25, XW28, XG6). -/
import Derived.Test.YtckdhahceelckaaGreatKQ13
set_option maxHeartbeats 16000000
set_option maxRecDepth 100000
set_option linter.unusedVariables false
set_option linter.unusedSimpArgs false
namespace Go.Proofs.YtckdhahceelckaaGreat.G
open Go.RowKit Go.Proofs.YtckdhahceelckaaGreatW.PrintWords Go.Proofs.YtckdhahceelckaaGreatW.PrintLast Go.Proofs.YtckdhahceelckaaGreatW.PrintMore
attribute [local go_sem] max2_mx min2_mn max_two min_two max_three min_three max_four min_four
attribute [local go_sem high] eqA23
/-- the normal of three points -/
def nrm3 (a b c:P3):P3:=cross3 (minus3 b a) (minus3 c a)
theorem normal_calls (a b c:P3)(w:World):
  Calls Tryz.prog 114 #[aP a,aP b,aP c] w fun e w'=>e= .returned (aP (nrm3 a b c))∧Below w.heap.size w w':=by
 have HM1:=Lh (fun W=>rminus_calls b.x b.y b.z a.x a.y a.z W);have HM2:=Lh (fun W=>rminus_calls c.x c.y c.z a.x a.y a.z W);have HC:=Lh (fun W=>rcross_calls (minus3 b a) (minus3 c a) W);have HE:Hid (nrm3 a b c=cross3 (minus3 b a) (minus3 c a)):=Lh rfl;obtain⟨ax,ay,az⟩:=a;obtain⟨bx,cy,bz⟩:=b;obtain⟨cx,dy,cz⟩:=c;simp only at HM1 HM2;obtain⟨⟨u1,u2,u3⟩,hu⟩:∃u,minus3 ⟨bx,cy,bz⟩ ⟨ax,ay,az⟩=u:=⟨_,rfl⟩;obtain⟨⟨v1,v2,v3⟩,hv⟩:∃u,minus3 ⟨cx,dy,cz⟩ ⟨ax,ay,az⟩=u:=⟨_,rfl⟩;rw[hu]at HM1 HC HE;rw[hv]at HM2 HC HE;obtain⟨⟨n1,n2,n3⟩,hn⟩:∃u,cross3 ⟨u1,u2,u3⟩ ⟨v1,v2,v3⟩=u:=⟨_,rfl⟩;rw[hn]at HC HE;simp only at HM1 HM2 HC;clear hu hv hn;go_enter Tryz.func114,Tryz.ntmps114;go_wp2_with fail;obtain⟨w1,hw1⟩:=nm_ ((((w.alloc (.cells #[.int .i64 ax, .int .i64 ay, .int .i64 az] 23)).alloc (.cells #[.int .i64 bx, .int .i64 cy, .int .i64 bz] 23)).alloc (.cells #[.int .i64 cx, .int .i64 dy, .int .i64 cz] 23)).alloc (.cells #[.int .i64 0, .int .i64 0, .int .i64 0] 23));have A1:Hid (C3 w1 w.heap.size (.int .i64 ax) (.int .i64 ay) (.int .i64 az)):=Lh (by rw[←hw1];exact(C3.of (three0 w _ _ _)).alloc _);have B1:Hid (C3 w1 (w.heap.size+1) (.int .i64 bx) (.int .i64 cy) (.int .i64 bz)):=Lh (by rw[←hw1];exact(C3.of (three1 w _ _ _)).alloc _);have D1:Hid (C3 w1 (w.heap.size+1+1) (.int .i64 cx) (.int .i64 dy) (.int .i64 cz)):=Lh (by rw[←hw1];exact(C3.of (three2 w _ _ _)).alloc _)
 have R1:Hid (w1.heap[w.heap.size+1+1+1]?=some (.cells #[.int .i64 0, .int .i64 0, .int .i64 0] 23 (0,0))):=Lh (by
  rw[←hw1]
  have h:=heap_alloc_new (((w.alloc (.cells #[.int .i64 ax, .int .i64 ay, .int .i64 az] 23)).alloc (.cells #[.int .i64 bx, .int .i64 cy, .int .i64 bz] 23)).alloc (.cells #[.int .i64 cx, .int .i64 dy, .int .i64 cz] 23)) (.cells #[.int .i64 0, .int .i64 0, .int .i64 0] 23)
  simp only[World.size_alloc]at h
  exact h)
 have HW1:=Lh (show Below w.heap.size w w1 by rw[←hw1];exact((((Below.refl _ w).alloc (Nat.le_refl _) _).alloc (by simp) _).alloc (by simp;omega) _).alloc (by simp;omega) _);have lz:w.heap.size+1+1+1<w1.heap.size:=blk_lt R1.out;rw[hw1];clear hw1;have l0:w.heap.size<w1.heap.size:=by omega
 have l1:w.heap.size+1<w1.heap.size:=by omega
 have l2:w.heap.size+1+1<w1.heap.size:=by omega
 obtain⟨a0,a1,a2,_,_,_⟩:=A1.out;obtain⟨b0,b1,b2,_,_,_⟩:=B1.out;obtain⟨d0,d1,d2,_,_,_⟩:=D1.out;have HB:=Lh ((Below.refl (w1.heap.size) w1).drew);have HA:=Lh (show w1.drew.heap[(w.heap.size+1+1+1)]?=_ from R1.out);have FF:=Lh (show ∀V,Hid (Below (w1.heap.size) w1 V)→V.cell? ⟨w.heap.size,0,none⟩=some (.int .i64 ax)∧V.cell? ⟨w.heap.size,1,none⟩=some (.int .i64 ay)∧V.cell? ⟨w.heap.size,2,none⟩=some (.int .i64 az)∧V.cell? ⟨w.heap.size+1,0,none⟩=some (.int .i64 bx)∧V.cell? ⟨w.heap.size+1,1,none⟩=some (.int .i64 cy)∧V.cell? ⟨w.heap.size+1,2,none⟩=some (.int .i64 bz)∧V.cell? ⟨w.heap.size+1+1,0,none⟩=some (.int .i64 cx)∧V.cell? ⟨w.heap.size+1+1,1,none⟩=some (.int .i64 dy)∧V.cell? ⟨w.heap.size+1+1,2,none⟩=some (.int .i64 cz) from fun V HB=>⟨(HB.cell (p:=⟨w.heap.size,0,none⟩) (l0)).trans a0,(HB.cell (p:=⟨w.heap.size,1,none⟩) (l0)).trans a1,(HB.cell (p:=⟨w.heap.size,2,none⟩) (l0)).trans a2,(HB.cell (p:=⟨w.heap.size+1,0,none⟩) (l1)).trans b0,(HB.cell (p:=⟨w.heap.size+1,1,none⟩) (l1)).trans b1,(HB.cell (p:=⟨w.heap.size+1,2,none⟩) (l1)).trans b2,(HB.cell (p:=⟨w.heap.size+1+1,0,none⟩) (l2)).trans d0,(HB.cell (p:=⟨w.heap.size+1+1,1,none⟩) (l2)).trans d1,(HB.cell (p:=⟨w.heap.size+1+1,2,none⟩) (l2)).trans d2⟩);refine start_ (n:=8) (S:=fun w'=>w'.cell? ⟨w.heap.size,0,none⟩=some (.int .i64 ax)∧w'.cell? ⟨w.heap.size,1,none⟩=some (.int .i64 ay)∧w'.cell? ⟨w.heap.size,2,none⟩=some (.int .i64 az)∧w'.cell? ⟨w.heap.size+1,0,none⟩=some (.int .i64 bx)∧w'.cell? ⟨w.heap.size+1,1,none⟩=some (.int .i64 cy)∧w'.cell? ⟨w.heap.size+1,2,none⟩=some (.int .i64 bz)∧w'.cell? ⟨w.heap.size+1+1,0,none⟩=some (.int .i64 cx)∧w'.cell? ⟨w.heap.size+1+1,1,none⟩=some (.int .i64 dy)∧w'.cell? ⟨w.heap.size+1+1,2,none⟩=some (.int .i64 cz)) (ds:=[7]) (MT 0 8) (by kernel_rfl) rfl rfl (FF.out _ HB) (fun hE=>?_);obtain⟨wd,hwd⟩:=nm_ w1.drew;rw[hwd]at HB hE HA⊢;clear hwd;refine ta_ 0 7 hE (h:=?_);refine ta_ 1 8 hE (h:=?_);refine ta_ 3 10 hE (h:=?_);refine ta_ 4 11 hE (h:=?_);refine on_ 2 (some 9) (h:=fun K hK=>?_);refine gs_ Tryz.func11 #[.agg #[.int .i64 bx, .int .i64 cy, .int .i64 bz], .agg #[.int .i64 ax, .int .i64 ay, .int .i64 az]] ?_
 with_reducible refine(HM1.out _).mono ?_
 rintro e w3 ⟨rfl,hb⟩;have HB:=tm_ HB hb;have HA:=up_ hb HA;clear hb;refine⟨_,rfl,?_⟩;refine hK.out _ _ (FF.out _ HB) (fun hE=>?_);clear hK K;refine no_ (h:=?_);refine on_ 5 (some 12) (h:=fun K hK=>?_);refine gs_ Tryz.func11 #[.agg #[.int .i64 cx, .int .i64 dy, .int .i64 cz], .agg #[.int .i64 ax, .int .i64 ay, .int .i64 az]] ?_
 with_reducible refine(HM2.out _).mono ?_
 rintro e w3 ⟨rfl,hb⟩;have HB:=tm_ HB hb;have HA:=up_ hb HA;clear hb;refine⟨_,rfl,?_⟩;refine hK.out _ _ (FF.out _ HB) (fun hE=>?_);clear hK K;refine no_ (h:=?_);refine on_ 6 (some 13) (h:=fun K hK=>?_);refine gs_ Tryz.func85 #[.agg #[.int .i64 u1, .int .i64 u2, .int .i64 u3], .agg #[.int .i64 v1, .int .i64 v2, .int .i64 v3]] ?_
 with_reducible refine(HC.out _).mono ?_
 rintro e w3 ⟨rfl,hb⟩;have HB:=tm_ HB hb;have HA:=up_ hb HA;clear hb;refine⟨_,rfl,?_⟩;refine hK.out _ _ (FF.out _ HB) (fun hE=>?_);clear hK K;refine no_ (h:=?_);refine last_ (i:=7) (N:=none) (MT 8 0) rfl rfl (by kernel_rfl) (by decide) (fun K hK=>?_);have sc0:World.cell? _ ⟨(w.heap.size+1+1+1),0,none⟩=some (.int .i64 0):=(blk_cell HA.out 0).trans rfl;have sf0:=blk_frozen HA.out 0;have sc1:World.cell? _ ⟨(w.heap.size+1+1+1),1,none⟩=some (.int .i64 0):=(blk_cell HA.out 1).trans rfl;have sf1:=blk_frozen HA.out 1;have sc2:World.cell? _ ⟨(w.heap.size+1+1+1),2,none⟩=some (.int .i64 0):=(blk_cell HA.out 2).trans rfl;have sf2:=blk_frozen HA.out 2;refine skip_ (w1:=?_) (by rfl) rfl ?_ ?_;rotate_left
 ·go_simp;rfl
 have HB:=Lh (show Below (w.heap.size) _ _ from HB.mono (Nat.le_of_lt l0));have HA:=Lh (bs3 HA.out (.int .i64 n1) (.int .i64 n2) (.int .i64 n3));have HB:=Lh (bb3 HB.out (show w.heap.size≤w.heap.size+1+1+1 by omega) (.int .i64 n1) (.int .i64 n2) (.int .i64 n3));clear sc0 sf0 sc1 sf1 sc2 sf2;refine hK.out _ _ ?_;clear hK K;refine done_ (by kernel_rfl) ?_;obtain⟨w5,hwn⟩:=nm_ ((((w3.setCell ⟨(w.heap.size+1+1+1),0,none⟩ (.int .i64 n1)).setCell ⟨(w.heap.size+1+1+1),1,none⟩ (.int .i64 n2)).setCell ⟨(w.heap.size+1+1+1),2,none⟩ (.int .i64 n3)));rw[hwn]at HA HB⊢;clear hwn;have HW5:=Lh (HW1.trans HB.out);obtain⟨t0,t1,t2,_⟩:=f3_ (w.heap.size+1+1+1) HA.out;clear HB HA a0 a1 a2 b0 b1 b2 d0 d1 d2;go_wp2;rw[HE.out];exact bodyPost_ret (v:=aP ⟨n1,n2,n3⟩) (by simp[results,Tryz.results114,go_sem,t0,t1,t2]) rfl ⟨rfl,HW5.out⟩
/-- the least and the greatest along a normal, from nought -/
def sdStep (n a:P3)(s:Int×Int)(p:P3):Int×Int:=(mn s.1 (dot3 n (minus3 p a)),mx s.2 (dot3 n (minus3 p a)))
def sdF (l:List P3)(n a:P3):Int×Int:=l.foldl (sdStep n a) (0,0)
theorem sdF_snoc (l:List P3)(n a:P3)(k:Nat)(h:k<l.length):sdF (l.take (k+1)) n a=sdStep n a (sdF (l.take k) n a) l[k]:=by
 unfold sdF;rw[List.take_succ_eq_append_getElem h,List.foldl_append];rfl
def sideV (s:Int×Int):Int:=if s.2≤0 then 1 else if 0≤s.1 then-1 else 0
def sideF (l:List P3)(n a:P3):Int:=sideV (sdF l n a)
theorem side_calls (l:List P3)(A:Option Addr)(c:Nat)(n a:P3)(w:World)(hA:Rd w A l)(hl:l.length≤1000):
  Calls Tryz.prog 115 #[.slice A l.length c,aP n,aP a] w fun e w'=>e= .returned (.int .i64 (sideF l n a))∧Below w.heap.size w w':=by
 have HA:=Lh hA;have HSN:=Lh (fun k h=>sdF_snoc l n a k h);have HE:Hid (sideF l n a=sideV (sdF l n a)):=Lh rfl;have HM:=Lh (fun(p:P3) W=>rminus_calls p.x p.y p.z a.x a.y a.z W);have HD:=Lh (fun(q:P3) W=>rdot_calls n.x n.y n.z q.x q.y q.z W);have HSD:Hid (∀s p,sdStep n a s p=(mn s.1 (dot3 n (minus3 p a)),mx s.2 (dot3 n (minus3 p a)))):=Lh (fun s p=>rfl);obtain⟨N,hN⟩:=nm_ l.length;have HN:=Lh hN;rw[hN]at hl⊢;clear hA hN;obtain⟨nx,ny,nz⟩:=n;obtain⟨ax,ay,az⟩:=a;simp only at HM HD;go_enter Tryz.func115,Tryz.ntmps115;go_wp2;obtain⟨w1,hw1⟩:=nm_ ((w.alloc (.cells #[.int .i64 nx, .int .i64 ny, .int .i64 nz] 23)).alloc (.cells #[.int .i64 ax, .int .i64 ay, .int .i64 az] 23));have N1:Hid (C3 w1 w.heap.size (.int .i64 nx) (.int .i64 ny) (.int .i64 nz)):=Lh (by rw[←hw1];exact(C3.new w _ _ _ _).alloc _);have A1:Hid (C3 w1 (w.heap.size+1) (.int .i64 ax) (.int .i64 ay) (.int .i64 az)):=Lh (by rw[←hw1];have h:=C3.new (w.alloc (.cells #[.int .i64 nx, .int .i64 ny, .int .i64 nz] 23)) (.int .i64 ax) (.int .i64 ay) (.int .i64 az) 23;rw[World.size_alloc]at h;exact h);have HW1:=Lh (show Below w.heap.size w w1 by rw[←hw1];exact((Below.refl _ w).alloc (Nat.le_refl _) _).alloc (by simp) _);have z1:w1.heap.size=w.heap.size+1+1:=by rw[←hw1];simp
 have Z1:=Lh z1;rw[hw1];clear hw1 z1;go_loopw [7,8,9,10] (fun v7 v8 v9 v10 wr=>∃k:Nat,k≤N∧v9= .int .i64 k∧v7= .int .i64 (sdF (l.take k) ⟨nx,ny,nz⟩ ⟨ax,ay,az⟩).1∧v8= .int .i64 (sdF (l.take k) ⟨nx,ny,nz⟩ ⟨ax,ay,az⟩).2∧Hid (Below w1.heap.size w1 wr)) (fun _ _ i _ _=>N-(intOf i).toNat)
 case atStart=>exact⟨0,by omega,rfl,rfl,rfl,Lh (Below.refl _ _)⟩
 case round=>
  obtain⟨k,hk,rfl,rfl,rfl,hB⟩:=hrel;have z1:=Z1.out;by_cases hlt:k<N
  ·have hkl:k<l.length:=by rw[HN.out];exact hlt
   have hBw:Below w.heap.size w wr:=HW1.trans (hB.mono (by omega));obtain⟨b,o,rfl,lb,e0,e1,e2⟩:=(HA.below hBw).get k hkl;have hS:=HSN.out k hkl;obtain⟨p,hpe⟩:=nm_ (l[k]);rw[hpe]at e0 e1 e2 hS;have hM:=Lh (HM.out p);obtain⟨q,hq⟩:=nm_ (minus3 p ⟨ax,ay,az⟩);have hD:=Lh (HD.out q);obtain⟨d,hd⟩:=nm_ (dot3 ⟨nx,ny,nz⟩ q);rw[HSD.out,hq,hd]at hS;have hM':Hid (∀W,Calls Tryz.prog 11 #[aP p,aP ⟨ax,ay,az⟩] W fun e w'=>e= .returned (aP q)∧Below W.heap.size W w'):=Lh (by rw[←hq];exact hM.out);have hD':Hid (∀W,Calls Tryz.prog 22 #[aP ⟨nx,ny,nz⟩,aP q] W fun e w'=>e= .returned (.int .i64 d)∧Below W.heap.size W w'):=Lh (by rw[←hd];exact hD.out);have hS:=Lh hS;obtain⟨⟨s1,s2⟩,hs⟩:∃s,sdF (l.take k) ⟨nx,ny,nz⟩ ⟨ax,ay,az⟩=s:=⟨_,rfl⟩;rw[hs]at hS⊢;obtain⟨px,py,pz⟩:=p;simp only at e0 e1 e2 hS;clear hpe hq hd hM hD hs;obtain⟨wo,hwo⟩:∃wo:World,wo=wr:=⟨_,rfl⟩;subst hwo;obtain⟨n0,n1,n2,_,_,_⟩:=N1.below hB.out;obtain⟨a0,a1,a2,_,_,_⟩:=A1.below hB.out;have hsz:=hB.size;have ln:w.heap.size<wo.heap.size:=by omega
   have la:w.heap.size+1<wo.heap.size:=by omega
   have hki:(k:Int)<(N:Int):=by omega
   have hB0:=hB;clear z1 hsz hB;go_wp2_with fail;have HB:=Lh ((Below.refl (wo.heap.size) wo).drew);have FF:=Lh (show ∀V,Hid (Below (wo.heap.size) wo V)→V.cell? ⟨w.heap.size,0,none⟩=some (.int .i64 nx)∧V.cell? ⟨w.heap.size,1,none⟩=some (.int .i64 ny)∧V.cell? ⟨w.heap.size,2,none⟩=some (.int .i64 nz)∧V.cell? ⟨w.heap.size+1,0,none⟩=some (.int .i64 ax)∧V.cell? ⟨w.heap.size+1,1,none⟩=some (.int .i64 ay)∧V.cell? ⟨w.heap.size+1,2,none⟩=some (.int .i64 az)∧V.cell? ⟨b,o+k*3,none⟩=some (.int .i64 px)∧V.cell? ⟨b,o+k*3+1,none⟩=some (.int .i64 py)∧V.cell? ⟨b,o+k*3+2,none⟩=some (.int .i64 pz) from fun V HB=>⟨(HB.cell (p:=⟨w.heap.size,0,none⟩) (ln)).trans n0,(HB.cell (p:=⟨w.heap.size,1,none⟩) (ln)).trans n1,(HB.cell (p:=⟨w.heap.size,2,none⟩) (ln)).trans n2,(HB.cell (p:=⟨w.heap.size+1,0,none⟩) (la)).trans a0,(HB.cell (p:=⟨w.heap.size+1,1,none⟩) (la)).trans a1,(HB.cell (p:=⟨w.heap.size+1,2,none⟩) (la)).trans a2,(HB.cell (p:=⟨b,o+k*3,none⟩) (lb)).trans e0,(HB.cell (p:=⟨b,o+k*3+1,none⟩) (lb)).trans e1,(HB.cell (p:=⟨b,o+k*3+2,none⟩) (lb)).trans e2⟩);refine start_ (n:=9) (S:=fun w'=>w'.cell? ⟨w.heap.size,0,none⟩=some (.int .i64 nx)∧w'.cell? ⟨w.heap.size,1,none⟩=some (.int .i64 ny)∧w'.cell? ⟨w.heap.size,2,none⟩=some (.int .i64 nz)∧w'.cell? ⟨w.heap.size+1,0,none⟩=some (.int .i64 ax)∧w'.cell? ⟨w.heap.size+1,1,none⟩=some (.int .i64 ay)∧w'.cell? ⟨w.heap.size+1,2,none⟩=some (.int .i64 az)∧w'.cell? ⟨b,o+k*3,none⟩=some (.int .i64 px)∧w'.cell? ⟨b,o+k*3+1,none⟩=some (.int .i64 py)∧w'.cell? ⟨b,o+k*3+2,none⟩=some (.int .i64 pz)) (ds:=[]) (MT 0 9) (by kernel_rfl) rfl rfl (FF.out _ HB) (fun hE=>?_);obtain⟨wd,hwd⟩:=nm_ wo.drew;rw[hwd]at HB hE⊢;clear hwd;refine pu_ 1 18 (h:=?_);refine pu_ 2 19 (h:=?_);refine pu_ 3 20 (h:=?_);refine ta_ 0 17 hE (h:=?_);refine ta_ 4 21 hE (h:=?_);refine ta_ 5 22 hE (h:=?_);refine on_ 6 (some 23) (h:=fun K hK=>?_);refine gs_ Tryz.func11 #[aP ⟨px,py,pz⟩,aP ⟨ax,ay,az⟩] ?_
   with_reducible refine(hM'.out _).mono ?_
   rintro e w3 ⟨rfl,hb⟩;have HB:=tm_ HB hb;clear hb;refine⟨_,rfl,?_⟩;refine hK.out _ _ (FF.out _ HB) (fun hE=>?_);clear hK K;refine no_ (h:=?_);refine on_ 7 (some 24) (h:=fun K hK=>?_);refine gs_ Tryz.func22 #[aP ⟨nx,ny,nz⟩,aP q] ?_
   with_reducible refine(hD'.out _).mono ?_
   rintro e w3 ⟨rfl,hb⟩;have HB:=tm_ HB hb;clear hb;refine⟨_,rfl,?_⟩;refine hK.out _ _ (FF.out _ HB) (fun hE=>?_);clear hK K;refine no_ (h:=?_);refine pu_ 8 10 (h:=?_);refine done_ (by kernel_rfl) ?_;have hB2:=Lh (bthen hB0.out HB.out);clear hE HB n0 n1 n2 a0 a1 a2 e0 e1 e2;go_wp2
   go_roundw
   case rel=>exact⟨k+1,by omega,by go_num,by rw[hS.out],by rw[hS.out],hB2⟩
   case measure=>simp[intOf];omega
  ·obtain rfl:k=N:=by omega
   rw[List.take_of_length_le (by rw[HN.out];omega)];obtain⟨⟨s1,s2⟩,hs⟩:∃s,sdF l ⟨nx,ny,nz⟩ ⟨ax,ay,az⟩=s:=⟨_,rfl⟩;have HV:=Lh (show sideF l ⟨nx,ny,nz⟩ ⟨ax,ay,az⟩=sideV (s1,s2) by rw[HE.out,hs]);rw[hs];have hBw:=Lh (HW1.trans (hB.mono (by omega)));clear hs;simp only;by_cases h1:s2≤0
   ·have d1:decide (s2≤0)=true:=by simpa using h1
    have E:=Lh (show sideV (s1,s2)=1 from if_pos h1);clear h1;go_wp2
    go_ret
    exact⟨by rw[HV.out,E.out];rfl,hBw.out⟩
   ·have d1:decide (s2≤0)=false:=by simpa using h1
    by_cases h2:0≤s1
    ·have d2:decide (0≤s1)=true:=by simpa using h2
     have E:=Lh (show sideV (s1,s2)= -1 by unfold sideV;rw[if_neg h1,if_pos h2]);clear h1 h2;go_wp2
     go_ret
     exact⟨by rw[HV.out,E.out];rfl,hBw.out⟩
    ·have d2:decide (0≤s1)=false:=by simpa using h2
     have E:=Lh (show sideV (s1,s2)=0 by unfold sideV;rw[if_neg h1,if_neg h2]);clear h1 h2;go_wp2
     go_ret
     exact⟨by rw[HV.out,E.out];rfl,hBw.out⟩
/-- point o lies in the plane of m, k, i -/
def ZP (l:List P3)(i k m o:Nat):Prop:=∀a b c d,l[i]?=some a→l[k]?=some b→l[m]?=some c→l[o]?=some d→dot3 (nrm3 c b a) (minus3 d c)=0
def ZM (l:List P3)(i k m:Nat):Prop:=∀o,ZP l i k m o
def ZK (l:List P3)(i k:Nat):Prop:=∀m,m<k→ZM l i k m
def ZI (l:List P3)(i:Nat):Prop:=∀k,k<i→ZK l i k
/-- all points lie in one plane -/
def FlatP (l:List P3):Prop:=∀i,ZI l i
theorem lt_succ_cases {P:Nat→Prop}{n:Nat}(h:∀k,k<n→P k)(h':P n):∀k,k<n+1→P k:=fun k hk=>by
 by_cases e:k<n
 ·exact h k e
 ·obtain rfl:k=n:=by omega
  exact h'
theorem ZP_out {l:List P3}{i k m o:Nat}(h:l.length≤o):ZP l i k m o:=fun a b c d _ _ _ hd=>by rw[List.getElem?_eq_none h]at hd;cases hd
theorem ZI_out {l:List P3}{i:Nat}(h:l.length≤i):ZI l i:=fun k _ m _ o a b c d ha=>by rw[List.getElem?_eq_none h]at ha;cases ha
theorem ZP_of {l:List P3}{i k m o:Nat}{a b c d:P3}(ha:l[i]?=some a)(hb:l[k]?=some b)(hc:l[m]?=some c)(hd:l[o]?=some d)(h:dot3 (nrm3 c b a) (minus3 d c)=0):ZP l i k m o:=fun a' b' c' d' ha' hb' hc' hd'=>by
 rw[ha]at ha';rw[hb]at hb';rw[hc]at hc';rw[hd]at hd';cases ha';cases hb';cases hc';cases hd';exact h
theorem flat_calls (l:List P3)(A:Option Addr)(c:Nat)(w:World)(hA:Rd w A l)(hl:l.length≤1000)(bb:Bool)(hb:bb=true↔FlatP l):
  Calls Tryz.prog 113 #[.slice A l.length c] w fun e w'=>e= .returned (.bool bb)∧Below w.heap.size w w':=by
 have HAA:=Lh hA;have HBB:=Lh hb;have HNO:=Lh (fun(a b c:P3) W=>normal_calls a b c W);have HM:=Lh (fun(p a:P3) W=>rminus_calls p.x p.y p.z a.x a.y a.z W);have HD:=Lh (fun(n q:P3) W=>rdot_calls n.x n.y n.z q.x q.y q.z W);obtain⟨N,hN⟩:=nm_ l.length;have HN:=Lh hN;rw[hN]at hl⊢;clear hA hN hb;go_enter Tryz.func113,Tryz.ntmps113;go_wp2;go_loopw [3,4,5,6,7] (fun v3 v4 v5 v6 v7 wr=>∃i:Nat,i≤N∧v3= .int .i64 i∧Hid (∀i',i'<i→ZI l i')∧Hid (Below w.heap.size w wr)) (fun i _ _ _ _ _=>N-(intOf i).toNat)
 case atStart=>exact⟨0,by omega,rfl,Lh (fun i' h=>by omega),Lh (Below.refl _ _)⟩
 case round=>
  obtain⟨i,hi,rfl,hzi,hB⟩:=hrel;obtain⟨wa,hwa⟩:∃wo:World,wo=wr:=⟨_,rfl⟩;subst hwa;by_cases hlt:i<N
  ·have hil:i<l.length:=by rw[HN.out];exact hlt
   obtain⟨b,o,rfl,lbw,_⟩:=HAA.out.get i hil
   have HRD:Hid (∀W,Below w.heap.size w W→∀j p,l[j]?=some p→W.cell? ⟨b,o+j*3,none⟩=some (.int .i64 p.x)∧W.cell? ⟨b,o+j*3+1,none⟩=some (.int .i64 p.y)∧W.cell? ⟨b,o+j*3+2,none⟩=some (.int .i64 p.z)):=Lh (fun W hW j p hj=>by
    obtain⟨b',o',e',_,h0,h1,h2⟩:=(HAA.below hW) j p hj
    simp only[Option.some.injEq,Addr.mk.injEq,and_true]at e'
    obtain⟨rfl,rfl⟩:=e'
    exact⟨h0,h1,h2⟩)
   obtain⟨⟨ix,iy,iz⟩,hpi⟩:∃p,l[i]?=some p:=⟨_,List.getElem?_eq_getElem hil⟩;have hpi:=Lh hpi;have hiN:(i:Int)<(N:Int):=by omega
   go_wp2;go_loopw [4,5,6,7] (fun v4 v5 v6 v7 wr=>∃k:Nat,k≤i∧v4= .int .i64 k∧Hid (∀k',k'<k→ZK l i k')∧Hid (Below w.heap.size w wr)) (fun k _ _ _ _=>i-(intOf k).toNat)
   case atStart=>exact⟨0,by omega,rfl,Lh (fun i' h=>by omega),hB⟩
   case round=>
    clear hB;obtain⟨k,hk,rfl,hzk,hB⟩:=hrel;obtain⟨wb,hwb⟩:∃wo:World,wo=wr:=⟨_,rfl⟩;subst hwb;by_cases hki:k<i
    ·obtain⟨⟨kx,ky,kz⟩,hpk⟩:∃p,l[k]?=some p:=⟨_,List.getElem?_eq_getElem (show k<l.length by omega)⟩;have hpk:=Lh hpk;have hki1:(k:Int)<(i:Int):=by omega
     have hkN:(k:Int)<(N:Int):=by omega
     go_wp2;go_loopw [5,6,7] (fun v5 v6 v7 wr=>∃m:Nat,m≤k∧v5= .int .i64 m∧Hid (∀m',m'<m→ZM l i k m')∧Hid (Below w.heap.size w wr)) (fun m _ _ _=>k-(intOf m).toNat)
     case atStart=>exact⟨0,by omega,rfl,Lh (fun i' h=>by omega),hB⟩
     case round=>
      clear hB;obtain⟨m,hm,rfl,hzm,hB⟩:=hrel;obtain⟨wc,hwc⟩:∃wo:World,wo=wr:=⟨_,rfl⟩;subst hwc;by_cases hmk:m<k
      ·obtain⟨⟨mx',my',mz'⟩,hpm⟩:∃p,l[m]?=some p:=⟨_,List.getElem?_eq_getElem (show m<l.length by omega)⟩;have hpm:=Lh hpm;have hmk1:(m:Int)<(k:Int):=by omega
       have hmN:(m:Int)<(N:Int):=by omega
       obtain⟨i0,i1,i2⟩:=HRD.out _ hB.out i _ hpi.out;obtain⟨k0,k1,k2⟩:=HRD.out _ hB.out k _ hpk.out;obtain⟨m0,m1,m2⟩:=HRD.out _ hB.out m _ hpm.out;simp only at i0 i1 i2 k0 k1 k2 m0 m1 m2;have hNO:=HNO.out ⟨mx',my',mz'⟩ ⟨kx,ky,kz⟩ ⟨ix,iy,iz⟩;obtain⟨⟨nx,ny,nz⟩,hn⟩:∃n,nrm3 ⟨mx',my',mz'⟩ ⟨kx,ky,kz⟩ ⟨ix,iy,iz⟩=n:=⟨_,rfl⟩;rw[hn]at hNO;have hNO:=Lh hNO;have hn:=Lh hn;have lbc:b<wc.heap.size:=by have:=hB.size;omega
       go_wp2_with fail;have HB:=Lh ((Below.refl (wc.heap.size) wc).drew);have FF:=Lh (show ∀V,Hid (Below (wc.heap.size) wc V)→V.cell? ⟨b,o+m*3,none⟩=some (.int .i64 mx')∧V.cell? ⟨b,o+m*3+1,none⟩=some (.int .i64 my')∧V.cell? ⟨b,o+m*3+2,none⟩=some (.int .i64 mz')∧V.cell? ⟨b,o+k*3,none⟩=some (.int .i64 kx)∧V.cell? ⟨b,o+k*3+1,none⟩=some (.int .i64 ky)∧V.cell? ⟨b,o+k*3+2,none⟩=some (.int .i64 kz)∧V.cell? ⟨b,o+i*3,none⟩=some (.int .i64 ix)∧V.cell? ⟨b,o+i*3+1,none⟩=some (.int .i64 iy)∧V.cell? ⟨b,o+i*3+2,none⟩=some (.int .i64 iz) from fun V HB=>⟨(HB.cell (p:=⟨b,o+m*3,none⟩) (lbc)).trans m0,(HB.cell (p:=⟨b,o+m*3+1,none⟩) (lbc)).trans m1,(HB.cell (p:=⟨b,o+m*3+2,none⟩) (lbc)).trans m2,(HB.cell (p:=⟨b,o+k*3,none⟩) (lbc)).trans k0,(HB.cell (p:=⟨b,o+k*3+1,none⟩) (lbc)).trans k1,(HB.cell (p:=⟨b,o+k*3+2,none⟩) (lbc)).trans k2,(HB.cell (p:=⟨b,o+i*3,none⟩) (lbc)).trans i0,(HB.cell (p:=⟨b,o+i*3+1,none⟩) (lbc)).trans i1,(HB.cell (p:=⟨b,o+i*3+2,none⟩) (lbc)).trans i2⟩);refine start_ (n:=15) (S:=fun w'=>w'.cell? ⟨b,o+m*3,none⟩=some (.int .i64 mx')∧w'.cell? ⟨b,o+m*3+1,none⟩=some (.int .i64 my')∧w'.cell? ⟨b,o+m*3+2,none⟩=some (.int .i64 mz')∧w'.cell? ⟨b,o+k*3,none⟩=some (.int .i64 kx)∧w'.cell? ⟨b,o+k*3+1,none⟩=some (.int .i64 ky)∧w'.cell? ⟨b,o+k*3+2,none⟩=some (.int .i64 kz)∧w'.cell? ⟨b,o+i*3,none⟩=some (.int .i64 ix)∧w'.cell? ⟨b,o+i*3+1,none⟩=some (.int .i64 iy)∧w'.cell? ⟨b,o+i*3+2,none⟩=some (.int .i64 iz)) (ds:=[]) (MT 0 15) (by kernel_rfl) rfl rfl (FF.out _ HB) (fun hE=>?_);obtain⟨wd,hwd⟩:=nm_ wc.drew;rw[hwd]at HB hE⊢;clear hwd;refine pu_ 0 24 (h:=?_);refine pu_ 1 25 (h:=?_);refine pu_ 2 26 (h:=?_);refine pu_ 4 28 (h:=?_);refine pu_ 5 29 (h:=?_);refine pu_ 6 30 (h:=?_);refine pu_ 8 32 (h:=?_);refine pu_ 9 33 (h:=?_);refine pu_ 10 34 (h:=?_);refine ta_ 3 27 hE (h:=?_);refine ta_ 7 31 hE (h:=?_);refine ta_ 11 35 hE (h:=?_);refine join_ (σ:=Nat) 1 (MT 14 1) (fun s=>[(6, .pointer (some ⟨s,0,none⟩)),(36, .agg #[.int .i64 nx, .int .i64 ny, .int .i64 nz])]) (fun s w'=>wc.heap.size≤s∧w'.heap[s]?=some (.cells #[.int .i64 0, .int .i64 0, .int .i64 0] 23 (0,0))∧Below (wc.heap.size) wc w') ?_ ?_;rotate_left
       ·intro hCont;refine two_ (i:=12) (j:=13) (Ni:=some 36) (Nj:=some 6) (MT 13 2) (MB_ 15 12287) rfl rfl rfl rfl (by kernel_rfl) (by decide) (by decide) (fun K hK=>?_) (fun K hK=>?_)
        ·skip
         refine gs_ Tryz.func114 #[.agg #[.int .i64 mx', .int .i64 my', .int .i64 mz'], .agg #[.int .i64 kx, .int .i64 ky, .int .i64 kz], .agg #[.int .i64 ix, .int .i64 iy, .int .i64 iz]] ?_
         with_reducible refine(hNO.out _).mono ?_
         rintro e w3 ⟨rfl,hb⟩;have HB:=tm_ HB hb;clear hb;refine⟨_,rfl,?_⟩;refine hK.out _ _ (FF.out _ HB) (fun hE=>?_);clear hK K;refine no_ (h:=?_);refine on_ 13 (some 6) (h:=fun K hK=>?_);refine va_ ?_;have HA:=Lh (ha_new HB.out (.cells #[.int .i64 0, .int .i64 0, .int .i64 0] 23));have hge:=HB.size;have HB:=Lh (HB.alloc (Nat.le_trans (Nat.le_refl _) HB.size) (.cells #[.int .i64 0, .int .i64 0, .int .i64 0] 23));refine hK.out _ _ (FF.out _ HB) (fun hE=>?_);clear hK K;refine no_ (h:=?_);exact nz_ (hCont _ _ ⟨hge,HA.out,HB.out⟩)
        ·skip
         refine va_ ?_;have HA:=Lh (ha_new HB.out (.cells #[.int .i64 0, .int .i64 0, .int .i64 0] 23));have hge:=HB.size;have HB:=Lh (HB.alloc (Nat.le_trans (Nat.le_refl _) HB.size) (.cells #[.int .i64 0, .int .i64 0, .int .i64 0] 23));refine hK.out _ _ (FF.out _ HB) (fun hE=>?_);clear hK K;refine no_ (h:=?_);refine on_ 12 (some 36) (h:=fun K hK=>?_);refine gs_ Tryz.func114 #[.agg #[.int .i64 mx', .int .i64 my', .int .i64 mz'], .agg #[.int .i64 kx, .int .i64 ky, .int .i64 kz], .agg #[.int .i64 ix, .int .i64 iy, .int .i64 iz]] ?_
         with_reducible refine(hNO.out _).mono ?_
         rintro e w3 ⟨rfl,hb⟩;have HB:=tm_ HB hb;have HA:=up_ hb HA;clear hb;refine⟨_,rfl,?_⟩;refine hK.out _ _ (FF.out _ HB) (fun hE=>?_);clear hK K;refine no_ (h:=?_);exact nz_ (hCont _ _ ⟨hge,HA.out,HB.out⟩)
       rintro AB wj ⟨hge,HA,HB⟩;have HA:=Lh HA;have HB:=Lh HB;have hE:=FF.out _ HB;refine no_ (h:=?_);refine on_ 14 (none) (h:=fun K hK=>?_);have sc0:World.cell? _ ⟨AB,0,none⟩=some (.int .i64 0):=(blk_cell HA.out 0).trans rfl;have sf0:=blk_frozen HA.out 0;have sc1:World.cell? _ ⟨AB,1,none⟩=some (.int .i64 0):=(blk_cell HA.out 1).trans rfl;have sf1:=blk_frozen HA.out 1;have sc2:World.cell? _ ⟨AB,2,none⟩=some (.int .i64 0):=(blk_cell HA.out 2).trans rfl;have sf2:=blk_frozen HA.out 2;refine skip_ (w1:=?_) (by rfl) rfl ?_ ?_;rotate_left
       ·go_simp;rfl
       have HA:=Lh (bs3 HA.out (.int .i64 nx) (.int .i64 ny) (.int .i64 nz));have HB:=Lh (bb3 HB.out (Nat.le_trans (Nat.le_refl _) hge) (.int .i64 nx) (.int .i64 ny) (.int .i64 nz));clear sc0 sf0 sc1 sf1 sc2 sf2;refine hK.out _ _ (FF.out _ HB) (fun hE=>?_);clear hK K;refine done_ (by kernel_rfl) ?_;obtain⟨w5,hwn⟩:=nm_ ((((wj.setCell ⟨AB,0,none⟩ (.int .i64 nx)).setCell ⟨AB,1,none⟩ (.int .i64 ny)).setCell ⟨AB,2,none⟩ (.int .i64 nz)));rw[hwn]at HA HB⊢;clear hwn;have hB5:=Lh (bthen hB.out HB.out);have hA5:=HA;have hge5:w.heap.size≤AB:=by have:=hB.size;omega
       have lA5:AB<w5.heap.size:=blk_lt hA5.out;have Z5:=Lh hB5.size;clear hE HB HA hge i0 i1 i2 k0 k1 k2 m0 m1 m2 hB lbc;obtain⟨BN,hBN⟩:∃x,x=w5.heap.size:=⟨_,rfl⟩;go_wp2;go_loopw [7] (fun v7 wr=>∃q:Nat,q≤N∧v7= .int .i64 q∧Hid (∀q',q'<q→ZP l i k m q')∧Hid (Below w5.heap.size w5 wr)) (fun q _=>N-(intOf q).toNat)
       case atStart=>exact⟨0,by omega,rfl,Lh (fun i' h=>by omega),Lh (Below.refl _ _)⟩
       case round=>
        obtain⟨q,hq,rfl,hzq,hBq⟩:=hrel;obtain⟨wd',hwd⟩:∃wo:World,wo=wr:=⟨_,rfl⟩;subst hwd;have hBw:=Lh (bthen hB5.out hBq.out |>.mono (Nat.le_refl _));by_cases hqN:q<N
        ·obtain⟨p,hpq⟩:∃p,l[q]?=some p:=⟨_,List.getElem?_eq_getElem (show q<l.length by rw[HN.out];exact hqN)⟩;obtain⟨q0,q1,q2⟩:=HRD.out _ hBw.out q _ hpq;obtain⟨m0,m1,m2⟩:=HRD.out _ hBw.out m _ hpm.out;simp only at m0 m1 m2;have hNk:=(hBq.block _ lA5).trans hA5.out;obtain⟨n0,n1,n2,_⟩:=f3_ AB hNk;have hM:=HM.out p ⟨mx',my',mz'⟩;obtain⟨u,hu⟩:=nm_ (minus3 p ⟨mx',my',mz'⟩);rw[hu]at hM;have hD:=HD.out ⟨nx,ny,nz⟩ u;obtain⟨d,hd⟩:=nm_ (dot3 ⟨nx,ny,nz⟩ u);rw[hd]at hD;have hM:=Lh hM;have hD:=Lh hD;have hZ:=Lh (fun(h:d=0)=>ZP_of hpi.out hpk.out hpm.out hpq (by rw[hn.out,hu,hd];exact h));have hZ2:=Lh (fun(h:ZP l i k m q)=>show d=0 by have:=h _ _ _ _ hpi.out hpk.out hpm.out hpq;rw[hn.out,hu,hd]at this;exact this);obtain⟨px,py,pz⟩:=p;simp only at q0 q1 q2;have hqN1:(q:Int)<(N:Int):=by omega
         have lb':b<wd'.heap.size:=by have:=hBw.size;omega
         have ln':AB<wd'.heap.size:=blk_lt hNk;clear hu hd hpq hNk;go_wp2_with fail;have HB:=Lh ((Below.refl (wd'.heap.size) wd').drew);have FF:=Lh (show ∀V,Hid (Below (wd'.heap.size) wd' V)→V.cell? ⟨AB,0,none⟩=some (.int .i64 nx)∧V.cell? ⟨AB,1,none⟩=some (.int .i64 ny)∧V.cell? ⟨AB,2,none⟩=some (.int .i64 nz)∧V.cell? ⟨b,o+q*3,none⟩=some (.int .i64 px)∧V.cell? ⟨b,o+q*3+1,none⟩=some (.int .i64 py)∧V.cell? ⟨b,o+q*3+2,none⟩=some (.int .i64 pz)∧V.cell? ⟨b,o+m*3,none⟩=some (.int .i64 mx')∧V.cell? ⟨b,o+m*3+1,none⟩=some (.int .i64 my')∧V.cell? ⟨b,o+m*3+2,none⟩=some (.int .i64 mz') from fun V HB=>⟨(HB.cell (p:=⟨AB,0,none⟩) (ln')).trans n0,(HB.cell (p:=⟨AB,1,none⟩) (ln')).trans n1,(HB.cell (p:=⟨AB,2,none⟩) (ln')).trans n2,(HB.cell (p:=⟨b,o+q*3,none⟩) (lb')).trans q0,(HB.cell (p:=⟨b,o+q*3+1,none⟩) (lb')).trans q1,(HB.cell (p:=⟨b,o+q*3+2,none⟩) (lb')).trans q2,(HB.cell (p:=⟨b,o+m*3,none⟩) (lb')).trans m0,(HB.cell (p:=⟨b,o+m*3+1,none⟩) (lb')).trans m1,(HB.cell (p:=⟨b,o+m*3+2,none⟩) (lb')).trans m2⟩);refine start_ (n:=12) (S:=fun w'=>w'.cell? ⟨AB,0,none⟩=some (.int .i64 nx)∧w'.cell? ⟨AB,1,none⟩=some (.int .i64 ny)∧w'.cell? ⟨AB,2,none⟩=some (.int .i64 nz)∧w'.cell? ⟨b,o+q*3,none⟩=some (.int .i64 px)∧w'.cell? ⟨b,o+q*3+1,none⟩=some (.int .i64 py)∧w'.cell? ⟨b,o+q*3+2,none⟩=some (.int .i64 pz)∧w'.cell? ⟨b,o+m*3,none⟩=some (.int .i64 mx')∧w'.cell? ⟨b,o+m*3+1,none⟩=some (.int .i64 my')∧w'.cell? ⟨b,o+m*3+2,none⟩=some (.int .i64 mz')) (ds:=[]) (MT 0 12) (by kernel_rfl) rfl rfl (FF.out _ HB) (fun hE=>?_);obtain⟨wd,hwd⟩:=nm_ wd'.drew;rw[hwd]at HB hE⊢;clear hwd;refine pu_ 1 44 (h:=?_);refine pu_ 2 45 (h:=?_);refine pu_ 3 46 (h:=?_);refine pu_ 5 48 (h:=?_);refine pu_ 6 49 (h:=?_);refine pu_ 7 50 (h:=?_);refine ta_ 0 43 hE (h:=?_);refine ta_ 4 47 hE (h:=?_);refine ta_ 8 51 hE (h:=?_);refine on_ 9 (some 52) (h:=fun K hK=>?_);refine gs_ Tryz.func11 #[.agg #[.int .i64 px, .int .i64 py, .int .i64 pz], .agg #[.int .i64 mx', .int .i64 my', .int .i64 mz']] ?_
         with_reducible refine(hM.out _).mono ?_
         rintro e w3 ⟨rfl,hb⟩;have HB:=tm_ HB hb;clear hb;refine⟨_,rfl,?_⟩;refine hK.out _ _ (FF.out _ HB) (fun hE=>?_);clear hK K;refine no_ (h:=?_);refine on_ 10 (some 53) (h:=fun K hK=>?_);refine gs_ Tryz.func22 #[.agg #[.int .i64 nx, .int .i64 ny, .int .i64 nz],aP u] ?_
         with_reducible refine(hD.out _).mono ?_
         rintro e w3 ⟨rfl,hb⟩;have HB:=tm_ HB hb;clear hb;refine⟨_,rfl,?_⟩;refine hK.out _ _ (FF.out _ HB) (fun hE=>?_);clear hK K;refine no_ (h:=?_);refine pu_ 11 54 (h:=?_);refine done_ (by kernel_rfl) ?_;have hB6:=Lh (bthen hBq.out HB.out);have hBw6:=Lh (bthen hBw.out HB.out);clear hE HB n0 n1 n2 q0 q1 q2 m0 m1 m2;by_cases hd0:d=0
         ·have hz:=Lh (lt_succ_cases hzq.out (hZ.out hd0));have t0:(d != 0)=false:=by simp[hd0]
          subst hd0;go_wp2
          go_roundw
          case rel=>exact⟨q+1,by omega,by go_num,hz,hB6⟩
          case measure=>simp[intOf];omega
         ·have t0:(d != 0)=true:=by simp[hd0]
          have E:=Lh (show bb=false by
           cases hbb:bb
           ·rfl
           ·exact absurd (hZ2.out ((HBB.out.1 hbb) i k hki m hmk q)) hd0)
          clear hd0;go_wp2
          go_ret
          exact⟨by rw[E.out];rfl,hBw6.out⟩
        ·obtain rfl:q=N:=by omega
         have hz:=Lh (lt_succ_cases hzm.out (fun q'=>by
          by_cases e:q'<q
          ·exact hzq.out q' e
          ·exact ZP_out (by rw[HN.out];omega)))
         go_wp2
         go_roundw
         case rel=>exact⟨m+1,by omega,by go_num,hz,hBw⟩
         case measure=>simp[intOf];omega
      ·obtain rfl:m=k:=by omega
       have hz:=Lh (lt_succ_cases hzk.out (fun m' hm'=>hzm.out m' hm'));go_wp2
       go_roundw
       case rel=>exact⟨m+1,by omega,by go_num,hz,hB⟩
       case measure=>simp[intOf];omega
    ·obtain rfl:k=i:=by omega
     have hz:=Lh (lt_succ_cases hzi.out (fun m' hm'=>hzk.out m' hm'));go_wp2
     go_roundw
     case rel=>exact⟨k+1,by omega,by go_num,hz,hB⟩
     case measure=>simp[intOf];omega
  ·obtain rfl:i=N:=by omega
   have E:=Lh (show bb=true from HBB.out.2 (fun i'=>by
    by_cases e:i'<i
    ·exact hzi.out i' e
    ·exact ZI_out (by rw[HN.out];omega)))
   go_wp2
   go_ret
   exact⟨by rw[E.out];rfl,hB.out⟩
/-- what Check says of a hull's points -/
def chkOk (l:List P3):Prop:=formB l=true∧¬FlatP l
theorem check_123 (k r:Int)(h:P3)(A:Option Addr)(n c:Nat)(hk:k=1∨k=2∨k=3)(hr0:1≤r)(hr1:r≤16384)(hh:1≤h.x∧h.x≤65536∧1≤h.y∧h.y≤65536∧1≤h.z∧h.z≤65536)(w:World):
  Calls Tryz.prog 62 #[.agg (cS k r h A n c)] w fun e w'=>e= .returned (.int .i64 0)∧Below w.heap.size w w':=by
 have HF:Hid (∀W,Calls Tryz.prog 112 #[.agg (cS k r h A n c)] W fun e w'=>e= .returned (.bool true)∧Below W.heap.size W w'):=Lh (fun W=>by
  rcases hk with rfl|rfl|rfl
  ·exact form_1 r h A n c hr0 hr1 W
  ·exact form_2 r h A n c hr0 hr1 hh.1 hh.2.1 W
  ·exact form_3 r h A n c (by omega) hr1 hh W)
 have t0:(k == 4)=false:=by rcases hk with rfl|rfl|rfl<;>rfl
 have P:=Lh (heap_alloc_new w (.cells (cS k r h A n c) 74));have PB:=Lh ((Below.refl w.heap.size w).alloc (Nat.le_refl _) (.cells (cS k r h A n c) 74));clear hk hr0 hr1 hh;obtain⟨hx,hy,hz⟩:=h;go_enter Tryz.func62,Tryz.ntmps62;go_wp2_with fail;refine(HF.out _).mono ?_;rintro e w1 ⟨rfl,hb⟩;have P1:=(hb.block _ (blk_lt P.out)).trans P.out;have PB1:=Lh (bthen PB.out hb);have c0:w1.cell? ⟨w.heap.size,0,none⟩=some (.int .i64 k):=(blk_cell P1 0).trans rfl;clear hb P1;go_wp2
 go_ret
 exact⟨rfl,PB1.out⟩
def ChkPost (l:List P3)(w:World)(e:Ending)(w':World):Prop:=∃n:Int,e= .returned (.int .i64 n)∧(n=0↔chkOk l)∧Below w.heap.size w w'
theorem check_4 (r:Int)(h:P3)(l:List P3)(A:Option Addr)(c:Nat)(hr0:0≤r)(hr1:r≤16384)(hl:l.length≤12)(hp:∀p∈l,in3 65536 p)(w:World)(hA:RdB w A l):
  Calls Tryz.prog 62 #[.agg (cS 4 r h A l.length c)] w (ChkPost l w):=by
 have HF:=Lh (fun(W:World) (hW:RdB W A l)=>form_4 r h l A c hr0 hr1 hl hp W hW (formB l) rfl);have HAA:=Lh hA;have HC:Hid (chkOk l↔(formB l=true∧¬FlatP l)):=Lh Iff.rfl;obtain⟨fb,hfb⟩:∃b:Bool,(b=true↔FlatP l):=by
  by_cases hf:FlatP l
  ·exact⟨true,by simp[hf]⟩
  ·exact⟨false,by simp[hf]⟩
 have HL:=Lh (fun(W:World) (hW:Rd W A l)=>flat_calls l A c W hW (by omega) fb hfb);have hfb:=Lh hfb;obtain⟨bb,hbb⟩:=nm_ (formB l);have F1:=Lh (fun(h:bb=false) (k:chkOk l)=>show False by have:=k.1;rw[hbb,h]at this;cases this);have F2:=Lh (fun(h:bb=true) (h2:fb=false)=>show chkOk l from⟨by rw[hbb,h],fun k=>by have:=hfb.out.2 k;rw[h2]at this;cases this⟩);have F3:=Lh (fun(h2:fb=true) (k:chkOk l)=>show False from k.2 (hfb.out.1 h2));rw[hbb]at HF;clear HC hfb;clear hbb hA hr0 hr1 hp;obtain⟨N,hN⟩:=nm_ l.length;rw[hN]at HF HL⊢;clear hN hl;have P:=Lh (heap_alloc_new w (.cells (cS 4 r h A N c) 74));have PB:=Lh ((Below.refl w.heap.size w).alloc (Nat.le_refl _) (.cells (cS 4 r h A N c) 74));have R:=Lh (HAA.below ((Below.refl w.heap.size w).alloc (Nat.le_refl _) (.cells (cS 4 r h A N c) 74)));obtain⟨hx,hy,hz⟩:=h;go_enter Tryz.func62,Tryz.ntmps62;go_wp2_with fail;refine(HF.out _ R.out).mono ?_;rintro e w1 ⟨rfl,hb⟩;have P1:=(hb.block _ (blk_lt P.out)).trans P.out;have PB1:=Lh (bthen PB.out hb);have c0:w1.cell? ⟨w.heap.size,0,none⟩=some (.int .i64 4):=(blk_cell P1 0).trans rfl;have c5:w1.cell? ⟨w.heap.size,5,none⟩=some (.slice A N c):=(blk_cell P1 5).trans rfl;have R1:=Lh (R.below hb);clear hb P1;cases bb
 ·have E:=Lh (F1.out rfl);clear F1 F2 F3;go_wp2
  go_ret
  exact⟨50,rfl,⟨fun h=>absurd h (by decide),fun h=>absurd h E.out⟩,PB1.out⟩
 ·have E2:=Lh (fun h2=>F2.out rfl h2);clear F1 F2;go_wp2_with fail;refine(HL.out _ R1.out.1).mono ?_;rintro e w2 ⟨rfl,hb⟩;have PB2:=Lh (bthen PB1.out hb);clear hb;cases fb
  ·have E:=Lh (E2.out rfl);clear E2 F3;go_wp2
   go_ret
   exact⟨0,rfl,⟨fun _=>E.out,fun _=>rfl⟩,PB2.out⟩
  ·have E:=Lh (F3.out rfl);clear E2 F3;go_wp2
   go_ret
   exact⟨51,rfl,⟨fun h=>absurd h (by decide),fun h=>absurd h E.out⟩,PB2.out⟩
end Go.Proofs.YtckdhahceelckaaGreat.G
namespace Go.Proofs.YtckdhahceelckaaGreat.G
theorem nodup_sub_length {α:Type}[DecidableEq α]:∀(l m:List α),l.Nodup→(∀x∈l,x∈m)→l.length≤m.length
 |[],m,_,_=>by simp
 |x::l,m,hn,hs=>by
  have hx:x∈m:=hs x (.head _);obtain⟨h1,h2⟩:=List.nodup_cons.1 hn;have ih:=nodup_sub_length l (m.erase x) h2 (fun y hy=>(List.mem_erase_of_ne (fun e=>h1 (by rw[←e];exact hy))).2 (hs y (.tail _ hy)));rw[List.length_erase_of_mem hx]at ih;have:=List.length_pos_of_mem hx;simp only[List.length_cons];omega
def subI (a b:P3):P3:=⟨a.x-b.x,a.y-b.y,a.z-b.z⟩
def crossI (a b:P3):P3:=⟨a.y*b.z-a.z*b.y,a.z*b.x-a.x*b.z,a.x*b.y-a.y*b.x⟩
theorem cross3_eq (p q:P3)(A B:Nat)(hp:in3 A p)(hq:in3 B q)(h:A*B≤1152921504606846976):cross3 p q=crossI p q∧in3 (2*(A*B)) (crossI p q):=by
 obtain⟨a1,a2,a3,a4,a5,a6⟩:=hp;obtain⟨b1,b2,b3,b4,b5,b6⟩:=hq;have m1:=mul_bd p.y q.z A B (by omega) (by omega);have m2:=mul_bd p.z q.y A B (by omega) (by omega);have m3:=mul_bd p.z q.x A B (by omega) (by omega);have m4:=mul_bd p.x q.z A B (by omega) (by omega);have m5:=mul_bd p.x q.y A B (by omega) (by omega);have m6:=mul_bd p.y q.x A B (by omega) (by omega);unfold cross3 crossI in3;simp only;generalize p.y*q.z=u1 at*;generalize p.z*q.y=u2 at*;generalize p.z*q.x=u3 at*;generalize p.x*q.z=u4 at*;generalize p.x*q.y=u5 at*;generalize p.y*q.x=u6 at*;refine⟨?_,by omega⟩;rw[w64_id u1 (by omega) (by omega),w64_id u2 (by omega) (by omega),w64_id u3 (by omega) (by omega),w64_id u4 (by omega) (by omega),w64_id u5 (by omega) (by omega),w64_id u6 (by omega) (by omega),w64_id _ (by omega) (by omega),w64_id _ (by omega) (by omega),w64_id _ (by omega) (by omega)]
/-- the product of three -/
def detI (d u v:P3):Int:=dotI (crossI d u) v
theorem det_swap (d u v:P3):detI d v u= -detI d u v:=by unfold detI dotI crossI;grind
theorem cross_cross (d u v:P3):crossI (crossI d u) (crossI d v)=⟨detI d u v*d.x,detI d u v*d.y,detI d u v*d.z⟩:=by
 unfold crossI detI dotI crossI;simp only[P3.mk.injEq];refine⟨?_,?_,?_⟩<;>grind
theorem crI_cross (a b:P3):crI a b=dotI (crossI a b) (crossI a b):=by unfold crI dotI crossI;grind
theorem dotI_zero (u:P3)(h:dotI u u=0):u=⟨0,0,0⟩:=by
 have a:=sq_nonneg u.x;have b:=sq_nonneg u.y;have c:=sq_nonneg u.z;unfold dotI at h;have q:∀t:Int,t*t=0→t=0:=fun t ht=>by rcases Int.mul_eq_zero.1 ht with h|h<;>exact h
 have x:=q _ (show u.x*u.x=0 by omega);have y:=q _ (show u.y*u.y=0 by omega);have z:=q _ (show u.z*u.z=0 by omega);cases u;simp_all
/-- two that are parallel, the same way -/
theorem par_of_cross (a b:P3)(ha:a≠⟨0,0,0⟩)(hc:crossI a b=⟨0,0,0⟩)(hd:0<dotI a b):Par b a:=by
 unfold crossI at hc;simp only[P3.mk.injEq]at hc;obtain⟨c1,c2,c3⟩:=hc;refine⟨dotI a a,dotI a b,dotI_pos a ha,hd,?_,?_,?_⟩<;>unfold dotI<;>grind
theorem dot_par_ne (a b:P3)(ha:a≠⟨0,0,0⟩)(hb:b≠⟨0,0,0⟩)(hc:crossI a b=⟨0,0,0⟩):dotI a b≠0:=by
 intro h0;have h:=lagI a b;rw[crI_cross,hc,h0]at h;have p:=Int.mul_pos (dotI_pos a ha) (dotI_pos b hb);rw[h]at p
 revert p;decide
/-- three in one plane span nothing -/
theorem det_plane (n x y z:P3)(hn:n≠⟨0,0,0⟩)(hx:dotI n x=0)(hy:dotI n y=0)(hz:dotI n z=0):detI x y z=0:=by
 have e:detI x y z*dotI n n=0:=by
  have:detI x y z*dotI n n=dotI n x*dotI (crossI y z) n+dotI n y*dotI (crossI z x) n+dotI n z*dotI (crossI x y) n:=by unfold detI dotI crossI;grind
  rw[this,hx,hy,hz];simp
 rcases Int.mul_eq_zero.1 e with h|h
 ·exact h
 ·exact absurd (dotI_zero n h) hn
def negI (u:P3):P3:=⟨-u.x,-u.y,-u.z⟩
/-- the greatest number that divides is that of parallel ones -/
theorem gcd3_scale (k:Nat)(p:P3):gcd3 ⟨(k:Int)*p.x,k*p.y,k*p.z⟩=k*gcd3 p:=by
 unfold gcd3;simp only;rw[Int.gcd_mul_left];have e:((((k:Int).natAbs*Int.gcd p.x p.y:Nat)):Int)=(k:Int)*(Int.gcd p.x p.y:Int):=by simp
 rw[e,Int.gcd_mul_left];simp
theorem bare3_par_eq (u v:P3)(hu:u≠⟨0,0,0⟩)(hv:v≠⟨0,0,0⟩)(h:Par u v):bare3 u=bare3 v:=by
 obtain⟨a,b,ha,hb,e1,e2,e3⟩:=h;have g1:=gcd3_scale a.toNat u;have g2:=gcd3_scale b.toNat v;rw[show(a.toNat:Int)=a by omega]at g1;rw[show(b.toNat:Int)=b by omega]at g2;rw[e1,e2,e3,g2]at g1;obtain⟨x1,x2,x3⟩:=bare3_eq u;obtain⟨y1,y2,y3⟩:=bare3_eq v;have p1:=gcd3_pos u hu;have hk:0<a*gcd3 u:=Int.mul_pos ha (by omega);rw[x1,y1]at e1;rw[x2,y2]at e2;rw[x3,y3]at e3;have f:∀s t:Int,a*(gcd3 u*s)=b*(gcd3 v*t)→s=t:=fun s t hst=>by
  have:a*gcd3 u*s=a*gcd3 u*t:=by rw[Int.mul_assoc,hst,←Int.mul_assoc,g1]
  exact Int.eq_of_mul_eq_mul_left (by omega) this
 have r1:=f _ _ e1;have r2:=f _ _ e2;have r3:=f _ _ e3;cases hbu:bare3 u;cases hbv:bare3 v;rw[hbu,hbv]at r1 r2 r3
 simp_all
theorem short3_par_eq (u v:P3)(hu:in3 4398046511104 u)(hv:in3 4398046511104 v)(hu0:u≠⟨0,0,0⟩)(hv0:v≠⟨0,0,0⟩)(h:Par u v):short3 u=short3 v:=by
 rw[short3_eq u hu hu0,short3_eq v hv hv0,bare3_par_eq u v hu0 hv0 h]
end Go.Proofs.YtckdhahceelckaaGreat.G
