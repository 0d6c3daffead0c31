/- What the laws of this claim lean on: contracts of functions and plain lemmas; no condition of its own (part 11: XW18). -/
import Derived.Test.YtckdhahceelckaaGreatKQ10
set_option maxHeartbeats 16000000
set_option maxRecDepth 100000
set_option linter.unusedVariables false
set_option linter.unusedSimpArgs false
namespace Go.Proofs.YtckdhahceelckaaGreat.G
open Go.RowKit Go.Proofs.YtckdhahceelckaaGreatW.PrintWords Go.Proofs.YtckdhahceelckaaGreatW.PrintLast Go.Proofs.YtckdhahceelckaaGreatW.PrintMore
attribute [local go_sem] max2_mx min2_mn max_two min_two max_three min_three max_four min_four
theorem bs1 {W:World}{g:Nat}{b0:Value}{t:TypeId}(h:W.heap[g]?=some (.cells #[b0] t (0,0)))(a0:Value):
  (W.setCell ⟨g,0,none⟩ a0).heap[g]?=some (.cells #[a0] t (0,0)):=by
 have h0:=blk_set h 0 a0;simp only[List.setIfInBounds_toArray,List.set_cons_zero,List.set_cons_succ]at h0;exact h0
theorem bs3 {W:World}{g:Nat}{b0 b1 b2:Value}{t:TypeId}(h:W.heap[g]?=some (.cells #[b0,b1,b2] t (0,0)))(a0 a1 a2:Value):
  (((W.setCell ⟨g,0,none⟩ a0).setCell ⟨g,1,none⟩ a1).setCell ⟨g,2,none⟩ a2).heap[g]?=some (.cells #[a0,a1,a2] t (0,0)):=by
 have h0:=blk_set h 0 a0;have h1:=blk_set h0 1 a1;have h2:=blk_set h1 2 a2;simp only[List.setIfInBounds_toArray,List.set_cons_zero,List.set_cons_succ]at h2;exact h2
theorem bb3 {B:Nat}{A W:World}{g:Nat}(h:Below B A W)(hg:B≤g)(a0 a1 a2:Value):Below B A (((W.setCell ⟨g,0,none⟩ a0).setCell ⟨g,1,none⟩ a1).setCell ⟨g,2,none⟩ a2):=(((h.setCell (p:=⟨g,0,none⟩) hg a0).setCell (p:=⟨g,1,none⟩) hg a1).setCell (p:=⟨g,2,none⟩) hg a2)
theorem bs4 {W:World}{g:Nat}{b0 b1 b2 b3:Value}{t:TypeId}(h:W.heap[g]?=some (.cells #[b0,b1,b2,b3] t (0,0)))(a0 a1 a2 a3:Value):
  ((((W.setCell ⟨g,0,none⟩ a0).setCell ⟨g,1,none⟩ a1).setCell ⟨g,2,none⟩ a2).setCell ⟨g,3,none⟩ a3).heap[g]?=some (.cells #[a0,a1,a2,a3] t (0,0)):=by
 have h0:=blk_set h 0 a0;have h1:=blk_set h0 1 a1;have h2:=blk_set h1 2 a2;have h3:=blk_set h2 3 a3;simp only[List.setIfInBounds_toArray,List.set_cons_zero,List.set_cons_succ]at h3;exact h3
theorem bb4 {B:Nat}{A W:World}{g:Nat}(h:Below B A W)(hg:B≤g)(a0 a1 a2 a3:Value):Below B A ((((W.setCell ⟨g,0,none⟩ a0).setCell ⟨g,1,none⟩ a1).setCell ⟨g,2,none⟩ a2).setCell ⟨g,3,none⟩ a3):=((((h.setCell (p:=⟨g,0,none⟩) hg a0).setCell (p:=⟨g,1,none⟩) hg a1).setCell (p:=⟨g,2,none⟩) hg a2).setCell (p:=⟨g,3,none⟩) hg a3)
theorem bo4 {W:World}{g k:Nat}(h:k≠g)(a0 a1 a2 a3:Value):((((W.setCell ⟨g,0,none⟩ a0).setCell ⟨g,1,none⟩ a1).setCell ⟨g,2,none⟩ a2).setCell ⟨g,3,none⟩ a3).heap[k]?=W.heap[k]?:=
 (Below.heap_setCell _ _ _ k h).trans ((Below.heap_setCell _ _ _ k h).trans ((Below.heap_setCell _ _ _ k h).trans ((Below.heap_setCell _ _ _ k h))))
theorem bs6 {W:World}{g:Nat}{b0 b1 b2 b3 b4 b5:Value}{t:TypeId}(h:W.heap[g]?=some (.cells #[b0,b1,b2,b3,b4,b5] t (0,0)))(a0 a1 a2 a3 a4 a5:Value):
  ((((((W.setCell ⟨g,0,none⟩ a0).setCell ⟨g,1,none⟩ a1).setCell ⟨g,2,none⟩ a2).setCell ⟨g,3,none⟩ a3).setCell ⟨g,4,none⟩ a4).setCell ⟨g,5,none⟩ a5).heap[g]?=some (.cells #[a0,a1,a2,a3,a4,a5] t (0,0)):=by
 have h0:=blk_set h 0 a0;have h1:=blk_set h0 1 a1;have h2:=blk_set h1 2 a2;have h3:=blk_set h2 3 a3;have h4:=blk_set h3 4 a4;have h5:=blk_set h4 5 a5;simp only[List.setIfInBounds_toArray,List.set_cons_zero,List.set_cons_succ]at h5;exact h5
theorem bb6 {B:Nat}{A W:World}{g:Nat}(h:Below B A W)(hg:B≤g)(a0 a1 a2 a3 a4 a5:Value):Below B A ((((((W.setCell ⟨g,0,none⟩ a0).setCell ⟨g,1,none⟩ a1).setCell ⟨g,2,none⟩ a2).setCell ⟨g,3,none⟩ a3).setCell ⟨g,4,none⟩ a4).setCell ⟨g,5,none⟩ a5):=((((((h.setCell (p:=⟨g,0,none⟩) hg a0).setCell (p:=⟨g,1,none⟩) hg a1).setCell (p:=⟨g,2,none⟩) hg a2).setCell (p:=⟨g,3,none⟩) hg a3).setCell (p:=⟨g,4,none⟩) hg a4).setCell (p:=⟨g,5,none⟩) hg a5)
theorem bs7 {W:World}{g:Nat}{b0 b1 b2 b3 b4 b5 b6:Value}{t:TypeId}(h:W.heap[g]?=some (.cells #[b0,b1,b2,b3,b4,b5,b6] t (0,0)))(a0 a1 a2 a3 a4 a5 a6:Value):
  (((((((W.setCell ⟨g,0,none⟩ a0).setCell ⟨g,1,none⟩ a1).setCell ⟨g,2,none⟩ a2).setCell ⟨g,3,none⟩ a3).setCell ⟨g,4,none⟩ a4).setCell ⟨g,5,none⟩ a5).setCell ⟨g,6,none⟩ a6).heap[g]?=some (.cells #[a0,a1,a2,a3,a4,a5,a6] t (0,0)):=by
 have h0:=blk_set h 0 a0;have h1:=blk_set h0 1 a1;have h2:=blk_set h1 2 a2;have h3:=blk_set h2 3 a3;have h4:=blk_set h3 4 a4;have h5:=blk_set h4 5 a5;have h6:=blk_set h5 6 a6;simp only[List.setIfInBounds_toArray,List.set_cons_zero,List.set_cons_succ]at h6;exact h6
theorem bb7 {B:Nat}{A W:World}{g:Nat}(h:Below B A W)(hg:B≤g)(a0 a1 a2 a3 a4 a5 a6:Value):Below B A (((((((W.setCell ⟨g,0,none⟩ a0).setCell ⟨g,1,none⟩ a1).setCell ⟨g,2,none⟩ a2).setCell ⟨g,3,none⟩ a3).setCell ⟨g,4,none⟩ a4).setCell ⟨g,5,none⟩ a5).setCell ⟨g,6,none⟩ a6):=(((((((h.setCell (p:=⟨g,0,none⟩) hg a0).setCell (p:=⟨g,1,none⟩) hg a1).setCell (p:=⟨g,2,none⟩) hg a2).setCell (p:=⟨g,3,none⟩) hg a3).setCell (p:=⟨g,4,none⟩) hg a4).setCell (p:=⟨g,5,none⟩) hg a5).setCell (p:=⟨g,6,none⟩) hg a6)
theorem ha_new {B:Nat}{A W:World}(h:Below B A W)(o:Obj):(W.alloc o).heap[W.heap.size]?=some o:=heap_alloc_new W o
/-- a raw number as one from -m to m -/
def partF (c m:Int):Int:=pickF c (2*m+1)-m
theorem partF_bd (c m:Int)(hm:0<m): -m≤partF c m∧partF c m≤m:=by have:=pickF_bd c (2*m+1) (by omega);unfold partF;omega
theorem pick6_calls (c n:Int)(hc1: -9223372036854775808≤c)(hc2:c≤9223372036854775807)(hn:0<n)(hn2:n≤1152921504606846976)(w:World):
  Calls Tryz.prog 121 #[.int .i64 c, .int .i64 n] w fun e w'=>e= .returned (.int .i64 (pickF c n))∧w'=w:=by
 have hb:=pickF_bd c n hn;have hn0:n≠0:=by omega
 have hn1:n≠ -1:=by omega
 by_cases h:c<0
 ·have hd:decide (c<0)=true:=by simpa using h
  have e1:IntKind.i64.wrap (c+1)=c+1:=iw_id _ (by omega) (by omega);have e2:IntKind.i64.wrap (-(c+1))= -(c+1):=iw_id _ (by omega) (by omega);have e3:pickF c n=(-(c+1)).tmod n:=by unfold pickF;rw[if_pos h]
  have e4:IntKind.i64.wrap ((-(c+1)).tmod n)=(-(c+1)).tmod n:=iw_id _ (by rw[←e3];omega) (by rw[←e3];omega);rw[e3];go_enter Tryz.func121,Tryz.ntmps121;go_wp2
  go_ret
  exact⟨by show Ending.returned (Value.int .i64 (-(c+1).tmod n))=_;rw[Int.neg_tmod],rfl⟩
 ·have hd:decide (c<0)=false:=by simpa using h
  have e3:pickF c n=c.tmod n:=by unfold pickF;rw[if_neg h]
  have e4:IntKind.i64.wrap (c.tmod n)=c.tmod n:=iw_id _ (by rw[←e3];omega) (by rw[←e3];omega);rw[e3];go_enter Tryz.func121,Tryz.ntmps121;go_wp2
  go_ret
  exact⟨by show Ending.returned (Value.int .i64 (c%n))=_;rw[Int.tmod_eq_emod_of_nonneg (by omega)],rfl⟩
theorem part6_calls (c m:Int)(hc1: -9223372036854775808≤c)(hc2:c≤9223372036854775807)(hm:0<m)(hm2:m≤288230376151711744)(w:World):
  Calls Tryz.prog 67 #[.int .i64 c, .int .i64 m] w fun e w'=>e= .returned (.int .i64 (partF c m))∧w'=w:=by
 have hb:=pickF_bd c (2*m+1) (by omega);have hq:=Lh (pick6_calls c (2*m+1) hc1 hc2 (by omega) (by omega));have hf:Hid (partF c m=pickF c (2*m+1)-m):=Lh rfl;obtain⟨x,hx⟩:=nm_ (pickF c (2*m+1));rw[hx]at hq hf hb;clear hx;obtain⟨b1,b2⟩:=hb;go_enter Tryz.func67,Tryz.ntmps67;go_wp2_with fail;refine(hq.out _).mono ?_;rintro e w1 ⟨rfl,rfl⟩;go_wp2
 go_ret
 exact⟨by rw[hf.out];rfl,rfl⟩
theorem pick5_calls (c n:Int)(hc1: -9223372036854775808≤c)(hc2:c≤9223372036854775807)(hn:0<n)(hn2:n≤1152921504606846976)(w:World):
  Calls Tryz.prog 64 #[.int .i64 c, .int .i64 n] w fun e w'=>e= .returned (.int .i64 (pickF c n))∧w'=w:=by
 have hb:=pickF_bd c n hn;have hn0:n≠0:=by omega
 have hn1:n≠ -1:=by omega
 by_cases h:c<0
 ·have hd:decide (c<0)=true:=by simpa using h
  have e1:IntKind.i64.wrap (c+1)=c+1:=iw_id _ (by omega) (by omega);have e2:IntKind.i64.wrap (-(c+1))= -(c+1):=iw_id _ (by omega) (by omega);have e3:pickF c n=(-(c+1)).tmod n:=by unfold pickF;rw[if_pos h]
  have e4:IntKind.i64.wrap ((-(c+1)).tmod n)=(-(c+1)).tmod n:=iw_id _ (by rw[←e3];omega) (by rw[←e3];omega);rw[e3];go_enter Tryz.func64,Tryz.ntmps64;go_wp2
  go_ret
  exact⟨by show Ending.returned (Value.int .i64 (-(c+1).tmod n))=_;rw[Int.neg_tmod],rfl⟩
 ·have hd:decide (c<0)=false:=by simpa using h
  have e3:pickF c n=c.tmod n:=by unfold pickF;rw[if_neg h]
  have e4:IntKind.i64.wrap (c.tmod n)=c.tmod n:=iw_id _ (by rw[←e3];omega) (by rw[←e3];omega);rw[e3];go_enter Tryz.func64,Tryz.ntmps64;go_wp2
  go_ret
  exact⟨by show Ending.returned (Value.int .i64 (c%n))=_;rw[Int.tmod_eq_emod_of_nonneg (by omega)],rfl⟩
theorem part5_calls (c m:Int)(hc1: -9223372036854775808≤c)(hc2:c≤9223372036854775807)(hm:0<m)(hm2:m≤288230376151711744)(w:World):
  Calls Tryz.prog 65 #[.int .i64 c, .int .i64 m] w fun e w'=>e= .returned (.int .i64 (partF c m))∧w'=w:=by
 have hb:=pickF_bd c (2*m+1) (by omega);have hq:=Lh (pick5_calls c (2*m+1) hc1 hc2 (by omega) (by omega));have hf:Hid (partF c m=pickF c (2*m+1)-m):=Lh rfl;obtain⟨x,hx⟩:=nm_ (pickF c (2*m+1));rw[hx]at hq hf hb;clear hx;obtain⟨b1,b2⟩:=hb;go_enter Tryz.func65,Tryz.ntmps65;go_wp2_with fail;refine(hq.out _).mono ?_;rintro e w1 ⟨rfl,rfl⟩;go_wp2
 go_ret
 exact⟨by rw[hf.out];rfl,rfl⟩
theorem whole_bad (g:Nat)(q:Q4)(w:World)(hg:Wk w g)(h1:raw40 q.w)(h2:raw40 q.x)(h3:raw40 q.y)(h4:raw40 q.z)(hn:lenF q<2147483648):
  Calls Tryz.prog 66 #[.pointer (some ⟨g,0,none⟩),aQ q] w fun e w'=>e= .returned (aQ ⟨0,0,0,0⟩)∧Below g w w'∧w'.cell? ⟨g,0,none⟩=some (.bool true)∧∀k,k<w.heap.size→k≠g→w'.heap[k]?=w.heap[k]?:=by
 obtain⟨qw,qx,qy,qz⟩:=q;have HG:=Lh hg;have hgl:g<w.heap.size:=blk_lt hg;have HL:Hid (∀x∈[qw,qx,qy,qz],fits x):=Lh (by intro x hx;simp at hx;rcases hx with rfl|rfl|rfl|rfl;exact h1.fits;exact h2.fits;exact h3.fits;exact h4.fits)
 have HS:Hid (dotL [qw,qx,qy,qz] [qw,qx,qy,qz]<21267647932558653966460912964485513216):=Lh (by
  rw[dotL4];have a:=h1.sq;have b:=h2.sq;have c:=h3.sq;have d:=h4.sq;simp only at a b c d;omega)
 have HN:Hid (rtI (dotL [qw,qx,qy,qz] [qw,qx,qy,qz])=lenF ⟨qw,qx,qy,qz⟩):=Lh (by rw[dotL4];rfl);clear hg h1 h2 h3 h4;obtain⟨N,hN⟩:=nm_ (lenF ⟨qw,qx,qy,qz⟩);rw[hN]at HN hn;clear hN;have hd:decide (N<2147483648)=true:=by simpa using hn
 go_enter Tryz.func66,Tryz.ntmps66;go_wp2_with fail;refine(bare_w_calls _).mono ?_;rintro e w1 ⟨rfl,hw1⟩;have Q1:Hid (Qk w1 w.heap.size ⟨qw,qx,qy,qz⟩):=Lh (by rw[hw1];exact(Below.heap_alloc _ _ _ (by simp;omega)).trans ((Below.heap_alloc _ _ _ (by simp)).trans (heap_alloc_new w _)))
 have R1:Hid (Qk w1 (w.heap.size+1) ⟨0,0,0,0⟩):=Lh (by
  rw[hw1]
  have h:=heap_alloc_new (w.alloc (.cells #[.int .i64 qw, .int .i64 qx, .int .i64 qy, .int .i64 qz] 29)) (.cells #[.int .i64 0, .int .i64 0, .int .i64 0, .int .i64 0] 29)
  rw[World.size_alloc]at h
  exact(Below.heap_alloc _ _ _ (by simp)).trans h)
 have W1:=Lh (show Below w.heap.size w w1 by rw[hw1];exact(((Below.refl _ w).alloc (Nat.le_refl _) _).alloc (by simp) _).alloc (by simp;omega) _);have G1:=Lh (HG.below W1.out);have lt1:w.heap.size+1+1<w1.heap.size:=by rw[hw1];simp
 have lq1:w.heap.size<w1.heap.size:=by omega
 clear hw1 HG;simp only[World.size_alloc];obtain⟨x0,x1,x2,x3⟩:=Q1.out.all;go_wp2_with fail;refine(norm_calls _ [qw,qx,qy,qz] _ 4 _ (RdI.of4 (heap_alloc_new w1 _)) (by simp) (by simp) HL.out HS.out).mono ?_;rintro e w2 ⟨rfl,hb⟩;rw[HN.out];have R2:=Lh ((R1.below ((Below.refl _ _).alloc (Nat.le_refl _) (.cells #[.int .i64 qw, .int .i64 qx, .int .i64 qy, .int .i64 qz] 3))).below hb);have G2:=Lh ((G1.alloc (.cells #[.int .i64 qw, .int .i64 qx, .int .i64 qy, .int .i64 qz] 3)).below hb);have W2:=Lh (bthen (W1.alloc W1.size (.cells #[.int .i64 qw, .int .i64 qx, .int .i64 qy, .int .i64 qz] 3)) hb);clear hb Q1 R1 G1 W1 lt1 lq1 x0 x1 x2 x3;have g0:=G2.cell;have g1:=G2.out.fz;have G3:=Lh (show(w2.setCell ⟨g,0,none⟩ (.bool true)).heap[g]?=some (.cells #[.bool true] 90 (0,0)) from bs1 G2.out _);have R3:Hid (Qk (w2.setCell ⟨g,0,none⟩ (.bool true)) (w.heap.size+1) ⟨0,0,0,0⟩):=Lh ((Below.heap_setCell w2 ⟨g,0,none⟩ (.bool true) (w.heap.size+1) (by simp;omega)).trans R2.out);have W3:=Lh ((W2.mono (Nat.le_of_lt hgl)).setCell (p:=⟨g,0,none⟩) (Nat.le_refl _) (.bool true));have K3:=Lh (fun(k:Nat) (hk:k<w.heap.size) (hne:k≠g)=>(Below.heap_setCell w2 ⟨g,0,none⟩ (.bool true) k (by simpa using hne)).trans (W2.block k hk));obtain⟨w3,hw3⟩:=nm_ (w2.setCell ⟨g,0,none⟩ (.bool true));rw[hw3]at G3 R3 W3 K3;obtain⟨c0,c1,c2,c3⟩:=R3.out.all;obtain⟨f0,f1,f2,f3⟩:=R3.out.fzs;go_wp2;exact bodyPost_ret (v:=aQ ⟨0,0,0,0⟩) (by simp[results,Tryz.results66,go_sem,c0,c1,c2,c3]) rfl ⟨rfl,below_set4 W3.out (by omega) _ _ _ _,(blk_cell ((bo4 (show g≠w.heap.size+1 by omega) _ _ _ _).trans G3.out) 0).trans rfl,fun k hk hne=>(bo4 (show k≠w.heap.size+1 by omega) _ _ _ _).trans (K3.out k hk hne)⟩
end Go.Proofs.YtckdhahceelckaaGreat.G
