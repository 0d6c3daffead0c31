/- What the laws of this claim lean on: contracts of functions and plain lemmas; no condition of its own (part 9: XW14, XW15, XW17). -/
import Derived.Test.YtckdhahceelckaaGreatKQ7
import Derived.Test.YtckdhahceelckaaGreatKQ8
set_option maxHeartbeats 16000000
set_option maxRecDepth 100000
set_option linter.unusedVariables false
set_option linter.unusedSimpArgs false
namespace Go.Proofs.YtckdhahceelckaaGreat.G
open Go.RowKit Go.Proofs.YtckdhahceelckaaGreatW.PrintWords Go.Proofs.YtckdhahceelckaaGreatW.PrintLast Go.Proofs.YtckdhahceelckaaGreatW.PrintMore
attribute [local go_sem] max2_mx min2_mn max_two min_two max_three min_three max_four min_four
/-- a work that is not Bad -/
def Wk (w:World)(g:Nat):Prop:=w.heap[g]?=some (.cells #[.bool false] 90 (0,0))
theorem Wk.below {w w1:World}{g:Nat}(h:Wk w g)(hb:Below w.heap.size w w1):Wk w1 g:=(hb.block _ (blk_lt h)).trans h
theorem Wk.cell {w:World}{g:Nat}(h:Wk w g):w.cell? ⟨g,0,none⟩=some (.bool false):=(blk_cell h 0).trans rfl
theorem Wk.fz {w:World}{g:Nat}(h:Wk w g):w.frozen? ⟨g,0,none⟩=false:=blk_frozen h 0
theorem Wk.alloc {w:World}{g:Nat}(h:Wk w g)(o:Obj):Wk (w.alloc o) g:=h.below ((Below.refl _ w).alloc (Nat.le_refl _) o)
theorem Wk.new (w:World):Wk (w.alloc (.cells #[.bool false] 90)) w.heap.size:=heap_alloc_new w _
/-- the wide product of two vectors, in FX -/
def vdotF (a b:P3):Int:=dotI a b / 4294967296
def fits3 (a:P3):Prop:=fits a.x∧fits a.y∧fits a.z
theorem dotL3 (a b:P3):dotL [a.x,a.y,a.z] [b.x,b.y,b.z]=dotI a b:=by simp[dotL,dotI];omega
abbrev aP (p:P3):Value:= .agg #[.int .i64 p.x, .int .i64 p.y, .int .i64 p.z]
theorem vdot_calls (g:Nat)(a b:P3)(w:World)(hg:Wk w g)(ha:fits3 a)(hb:fits3 b)(hs:(dotI a b).natAbs≤4611686018427387902*4294967296):
  Calls Tryz.prog 123 #[.pointer (some ⟨g,0,none⟩),aP a,aP b] w fun e w'=>e= .returned (.int .i64 (vdotF a b))∧Below w.heap.size w w':=by
 obtain⟨ax,ay,az⟩:=a;obtain⟨bx,cy,bz⟩:=b;have HG:=Lh hg;have HF:Hid (∀x∈[ax,ay,az],fits x):=Lh (by intro x hx;simp at hx;rcases hx with rfl|rfl|rfl;exact ha.1;exact ha.2.1;exact ha.2.2);have HF2:Hid (∀x∈[bx,cy,bz],fits x):=Lh (by intro x hx;simp at hx;rcases hx with rfl|rfl|rfl;exact hb.1;exact hb.2.1;exact hb.2.2);have e:=dotL3 ⟨ax,ay,az⟩ ⟨bx,cy,bz⟩;rw[←e]at hs;have HS:=Lh hs;have HE:Hid (vdotF ⟨ax,ay,az⟩ ⟨bx,cy,bz⟩=dotL [ax,ay,az] [bx,cy,bz] / 4294967296):=Lh (by unfold vdotF;rw[←e]);clear hg ha hb hs e;go_enter Tryz.func123,Tryz.ntmps123;go_wp2_with fail;refine(bare_w_calls _).mono ?_;rintro e w1 ⟨rfl,hw1⟩;have k0:w1.cell? ⟨w.heap.size,0,none⟩=some (.int .i64 ax)∧w1.cell? ⟨w.heap.size,1,none⟩=some (.int .i64 ay)∧w1.cell? ⟨w.heap.size,2,none⟩=some (.int .i64 az):=by
  have h:w1.heap[w.heap.size]?=some (.cells #[.int .i64 ax, .int .i64 ay, .int .i64 az] 27 (0,0)):=by rw[hw1];exact three0 _ _ _ _
  exact⟨(blk_cell h 0).trans rfl,(blk_cell h 1).trans rfl,(blk_cell h 2).trans rfl⟩
 have k1:w1.cell? ⟨w.heap.size+1,0,none⟩=some (.int .i64 bx)∧w1.cell? ⟨w.heap.size+1,1,none⟩=some (.int .i64 cy)∧w1.cell? ⟨w.heap.size+1,2,none⟩=some (.int .i64 bz):=by
  have h:w1.heap[w.heap.size+1]?=some (.cells #[.int .i64 bx, .int .i64 cy, .int .i64 bz] 27 (0,0)):=by rw[hw1];exact three1 _ _ _ _
  exact⟨(blk_cell h 0).trans rfl,(blk_cell h 1).trans rfl,(blk_cell h 2).trans rfl⟩
 have HW1:=Lh (show Below w.heap.size w w1 by rw[hw1];exact(((Below.refl _ w).alloc (Nat.le_refl _) _).alloc (by simp) _).alloc (by simp;omega) _);have HO1:Hid (Wk w1 (w.heap.size+1+1)):=Lh (by rw[hw1];have h:=Wk.new ((w.alloc (.cells #[.int .i64 ax, .int .i64 ay, .int .i64 az] 27)).alloc (.cells #[.int .i64 bx, .int .i64 cy, .int .i64 bz] 27));simp only[World.size_alloc]at h;exact h);have HG1:=Lh (HG.below HW1.out);have hz1:w1.heap.size=w.heap.size+1+1+1:=by rw[hw1];simp
 obtain⟨x0,x1,x2⟩:=k0;obtain⟨y0,y1,y2⟩:=k1;have lt0:w.heap.size<w1.heap.size:=by omega
 have lt1:w.heap.size+1<w1.heap.size:=by omega
 have HZ1:=Lh hz1;clear hw1 HG hz1;simp only[World.size_alloc];go_wp2_with fail;have hh:w1.heap.size<(w1.alloc (.cells #[.int .i64 ax, .int .i64 ay, .int .i64 az] 3)).heap.size:=by simp
 refine(wdot_calls _ [ax,ay,az] [bx,cy,bz] _ _ 3 3 _ ((RdI.of3 (heap_alloc_new w1 _)).below ((Below.refl _ _).alloc (Nat.le_refl _) _)) ?_ rfl (by simp) (by simp) (by simp) HF.out HF2.out HS.out).mono ?_
 ·have:=RdI.of3 (heap_alloc_new (w1.alloc (.cells #[.int .i64 ax, .int .i64 ay, .int .i64 az] 3)) (.cells #[.int .i64 bx, .int .i64 cy, .int .i64 bz] 3));rw[World.size_alloc]at this;exact this
 rintro e w2 ⟨rfl,hb2⟩;have hz2:=HZ1.out;have HW2:=Lh (bthen ((HW1.alloc (by omega) (.cells #[.int .i64 ax, .int .i64 ay, .int .i64 az] 3)).alloc (by simp;omega) (.cells #[.int .i64 bx, .int .i64 cy, .int .i64 bz] 3)) hb2);have HO2:=Lh (((HO1.alloc (.cells #[.int .i64 ax, .int .i64 ay, .int .i64 az] 3)).alloc (.cells #[.int .i64 bx, .int .i64 cy, .int .i64 bz] 3)).below hb2);have HG2:=Lh (((HG1.alloc (.cells #[.int .i64 ax, .int .i64 ay, .int .i64 az] 3)).alloc (.cells #[.int .i64 bx, .int .i64 cy, .int .i64 bz] 3)).below hb2);clear hh hb2 hz2 x0 x1 x2 y0 y1 y2;go_wp2_with fail;refine(done_calls g (w.heap.size+1+1) w2 HG2.cell HG2.out.fz HO2.cell).mono ?_;rintro e w3 ⟨rfl,rfl⟩;go_wp2
 go_ret
 exact⟨by rw[HE.out];rfl,HW2.out⟩
def addI (a b:P3):P3:=⟨a.x+b.x,a.y+b.y,a.z+b.z⟩
theorem vadd_calls (g:Nat)(a b:P3)(w:World)(hg:Wk w g)(ha:fits3 a)(hb:fits3 b)(hs:fits3 (addI a b)):
  Calls Tryz.prog 70 #[.pointer (some ⟨g,0,none⟩),aP a,aP b] w fun e w'=>e= .returned (aP (addI a b))∧Below w.heap.size w w':=by
 obtain⟨ax,ay,az⟩:=a;obtain⟨bx,cy,bz⟩:=b;have HG:=Lh hg;have HA:=Lh ha;have HB:=Lh hb;have HS:=Lh hs;clear hg ha hb hs;go_enter Tryz.func70,Tryz.ntmps70;go_wp2_with fail;refine(bare_w_calls _).mono ?_;rintro e w1 ⟨rfl,hw1⟩;have P1:Hid (C3 w1 w.heap.size (.int .i64 ax) (.int .i64 ay) (.int .i64 az)):=Lh (by rw[hw1];exact(C3.of (three0 w _ _ _)).alloc _);have Q1:Hid (C3 w1 (w.heap.size+1) (.int .i64 bx) (.int .i64 cy) (.int .i64 bz)):=Lh (by rw[hw1];exact(C3.of (three1 w _ _ _)).alloc _);have R1:Hid (C3 w1 (w.heap.size+1+1) (.int .i64 0) (.int .i64 0) (.int .i64 0)):=Lh (by rw[hw1];exact(C3.of (three2 w _ _ _)).alloc _);have HW1:=Lh (show Below w.heap.size w w1 by rw[hw1];exact((((Below.refl _ w).alloc (Nat.le_refl _) _).alloc (by simp) _).alloc (by simp;omega) _).alloc (by simp;omega) _);have HO1:Hid (Wk w1 (w.heap.size+1+1+1)):=Lh (by rw[hw1];have h:=Wk.new (((w.alloc (.cells #[.int .i64 ax, .int .i64 ay, .int .i64 az] 27)).alloc (.cells #[.int .i64 bx, .int .i64 cy, .int .i64 bz] 27)).alloc (.cells #[.int .i64 0, .int .i64 0, .int .i64 0] 27));simp only[World.size_alloc]at h;exact h);have HG1:=Lh (HG.below HW1.out);clear hw1 HG;simp only[World.size_alloc];obtain⟨x0,x1,x2,_,_,_⟩:=P1.out;obtain⟨y0,y1,y2,_,_,_⟩:=Q1.out;go_wp2_with fail;refine(wadd_calls _ ax bx HA.out.1 HB.out.1 HS.out.1 _).mono ?_;rintro e w2 ⟨rfl,hb2⟩;have P2:=Lh (P1.below hb2);have Q2:=Lh (Q1.below hb2);have R2:=Lh (R1.below hb2);have HW2:=Lh (bthen HW1.out hb2);have HO2:=Lh (HO1.below hb2);have HG2:=Lh (HG1.below hb2);clear x0 x1 x2 y0 y1 y2 P1 Q1 R1 HW1 HO1 HG1 hb2;obtain⟨x0,x1,x2,_,_,_⟩:=P2.out;obtain⟨y0,y1,y2,_,_,_⟩:=Q2.out;go_wp2_with fail;refine(wadd_calls _ ay cy HA.out.2.1 HB.out.2.1 HS.out.2.1 _).mono ?_;rintro e w3 ⟨rfl,hb2⟩;have P3:=Lh (P2.below hb2);have Q3:=Lh (Q2.below hb2);have R3:=Lh (R2.below hb2);have HW3:=Lh (bthen HW2.out hb2);have HO3:=Lh (HO2.below hb2);have HG3:=Lh (HG2.below hb2);clear x0 x1 x2 y0 y1 y2 P2 Q2 R2 HW2 HO2 HG2 hb2;obtain⟨x0,x1,x2,_,_,_⟩:=P3.out;obtain⟨y0,y1,y2,_,_,_⟩:=Q3.out;go_wp2_with fail;refine(wadd_calls _ az bz HA.out.2.2 HB.out.2.2 HS.out.2.2 _).mono ?_;rintro e w4 ⟨rfl,hb2⟩;have R4:=Lh (R3.below hb2);have HW4:=Lh (bthen HW3.out hb2);have HO4:=Lh (HO3.below hb2);have HG4:=Lh (HG3.below hb2);clear x0 x1 x2 y0 y1 y2 P3 Q3 R3 HW3 HO3 HG3 hb2;go_wp2_with fail;refine(done_calls g (w.heap.size+1+1+1) w4 HG4.cell HG4.out.fz HO4.cell).mono ?_;rintro e w5 ⟨rfl,rfl⟩;obtain⟨c0,c1,c2,f0,f1,f2⟩:=R4.out;go_wp2;exact bodyPost_ret (v:=aP (addI ⟨ax,ay,az⟩ ⟨bx,cy,bz⟩)) (by simp[results,Tryz.results70,go_sem,c0,c1,c2,addI]) rfl ⟨rfl,below_set3 HW4.out (by omega) _ _ _⟩
/-- the rows of a turn -/
structure M3 where
 a:P3
 b:P3
 c:P3
abbrev aM (m:M3):Value:= .agg #[.int .i64 m.a.x, .int .i64 m.a.y, .int .i64 m.a.z, .int .i64 m.b.x, .int .i64 m.b.y, .int .i64 m.b.z, .int .i64 m.c.x, .int .i64 m.c.y, .int .i64 m.c.z]
def turnF (m:M3)(v:P3):P3:=⟨vdotF m.a v,vdotF m.b v,vdotF m.c v⟩
def dotOk (a b:P3):Prop:=fits3 a∧fits3 b∧(dotI a b).natAbs≤4611686018427387902*4294967296
/-- block g holds the rows -/
def Mk (w:World)(g:Nat)(m:M3):Prop:=w.heap[g]?=some (.cells #[.int .i64 m.a.x, .int .i64 m.a.y, .int .i64 m.a.z, .int .i64 m.b.x, .int .i64 m.b.y, .int .i64 m.b.z, .int .i64 m.c.x, .int .i64 m.c.y, .int .i64 m.c.z] 111 (0,0))
theorem Mk.below {w w1:World}{g:Nat}{m:M3}(h:Mk w g m)(hb:Below w.heap.size w w1):Mk w1 g m:=(hb.block _ (blk_lt h)).trans h
theorem Mk.all {w g m}(h:Mk w g m):w.cell? ⟨g,0,none⟩=some (.int .i64 m.a.x)∧w.cell? ⟨g,1,none⟩=some (.int .i64 m.a.y)∧w.cell? ⟨g,2,none⟩=some (.int .i64 m.a.z)∧w.cell? ⟨g,3,none⟩=some (.int .i64 m.b.x)∧w.cell? ⟨g,4,none⟩=some (.int .i64 m.b.y)∧w.cell? ⟨g,5,none⟩=some (.int .i64 m.b.z)∧w.cell? ⟨g,6,none⟩=some (.int .i64 m.c.x)∧w.cell? ⟨g,7,none⟩=some (.int .i64 m.c.y)∧w.cell? ⟨g,8,none⟩=some (.int .i64 m.c.z):=
 ⟨(blk_cell h 0).trans rfl,(blk_cell h 1).trans rfl,(blk_cell h 2).trans rfl,(blk_cell h 3).trans rfl,(blk_cell h 4).trans rfl,(blk_cell h 5).trans rfl,(blk_cell h 6).trans rfl,(blk_cell h 7).trans rfl,(blk_cell h 8).trans rfl⟩
theorem turn_calls (g:Nat)(m:M3)(v:P3)(w:World)(hg:Wk w g)(h1:dotOk m.a v)(h2:dotOk m.b v)(h3:dotOk m.c v):
  Calls Tryz.prog 71 #[.pointer (some ⟨g,0,none⟩),aM m,aP v] w fun e w'=>e= .returned (aP (turnF m v))∧Below w.heap.size w w':=by
 have HG:=Lh hg;have H1:=Lh h1;have H2:=Lh h2;have H3:=Lh h3;clear hg h1 h2 h3;go_enter Tryz.func71,Tryz.ntmps71;go_wp2_with fail;refine(bare_w_calls _).mono ?_;rintro e w1 ⟨rfl,hw1⟩;have P1:Hid (Mk w1 w.heap.size m):=Lh (by rw[hw1];exact(Below.heap_alloc _ _ _ (by simp;omega)).trans (three0 w _ _ _));have Q1:Hid (C3 w1 (w.heap.size+1) (.int .i64 v.x) (.int .i64 v.y) (.int .i64 v.z)):=Lh (by rw[hw1];exact(C3.of (three1 w _ _ _)).alloc _);have R1:Hid (C3 w1 (w.heap.size+1+1) (.int .i64 0) (.int .i64 0) (.int .i64 0)):=Lh (by rw[hw1];exact(C3.of (three2 w _ _ _)).alloc _);have HW1:=Lh (show Below w.heap.size w w1 by rw[hw1];exact((((Below.refl _ w).alloc (Nat.le_refl _) _).alloc (by simp) _).alloc (by simp;omega) _).alloc (by simp;omega) _);have HO1:Hid (Wk w1 (w.heap.size+1+1+1)):=Lh (by rw[hw1];have h:=Wk.new (((w.alloc (.cells #[.int .i64 m.a.x, .int .i64 m.a.y, .int .i64 m.a.z, .int .i64 m.b.x, .int .i64 m.b.y, .int .i64 m.b.z, .int .i64 m.c.x, .int .i64 m.c.y, .int .i64 m.c.z] 111)).alloc (.cells #[.int .i64 v.x, .int .i64 v.y, .int .i64 v.z] 27)).alloc (.cells #[.int .i64 0, .int .i64 0, .int .i64 0] 27));simp only[World.size_alloc]at h;exact h);have HG1:=Lh (HG.below HW1.out);clear hw1 HG;simp only[World.size_alloc];obtain⟨x0,x1,x2,x3,x4,x5,x6,x7,x8⟩:=P1.out.all;obtain⟨y0,y1,y2,_,_,_⟩:=Q1.out;go_wp2_with fail;refine(vdot_calls _ m.a v _ HO1.out H1.out.1 H1.out.2.1 H1.out.2.2).mono ?_;rintro e w2 ⟨rfl,hb2⟩;have P2:=Lh (P1.below hb2);have Q2:=Lh (Q1.below hb2);have R2:=Lh (R1.below hb2);have HW2:=Lh (bthen HW1.out hb2);have HO2:=Lh (HO1.below hb2);have HG2:=Lh (HG1.below hb2);clear x0 x1 x2 x3 x4 x5 x6 x7 x8 y0 y1 y2 P1 Q1 R1 HW1 HO1 HG1 hb2;obtain⟨x0,x1,x2,x3,x4,x5,x6,x7,x8⟩:=P2.out.all;obtain⟨y0,y1,y2,_,_,_⟩:=Q2.out;go_wp2_with fail;refine(vdot_calls _ m.b v _ HO2.out H2.out.1 H2.out.2.1 H2.out.2.2).mono ?_;rintro e w3 ⟨rfl,hb2⟩;have P3:=Lh (P2.below hb2);have Q3:=Lh (Q2.below hb2);have R3:=Lh (R2.below hb2);have HW3:=Lh (bthen HW2.out hb2);have HO3:=Lh (HO2.below hb2);have HG3:=Lh (HG2.below hb2);clear x0 x1 x2 x3 x4 x5 x6 x7 x8 y0 y1 y2 P2 Q2 R2 HW2 HO2 HG2 hb2;obtain⟨x0,x1,x2,x3,x4,x5,x6,x7,x8⟩:=P3.out.all;obtain⟨y0,y1,y2,_,_,_⟩:=Q3.out;go_wp2_with fail;refine(vdot_calls _ m.c v _ HO3.out H3.out.1 H3.out.2.1 H3.out.2.2).mono ?_;rintro e w4 ⟨rfl,hb2⟩;have R4:=Lh (R3.below hb2);have HW4:=Lh (bthen HW3.out hb2);have HO4:=Lh (HO3.below hb2);have HG4:=Lh (HG3.below hb2);clear x0 x1 x2 x3 x4 x5 x6 x7 x8 y0 y1 y2 P3 Q3 R3 HW3 HO3 HG3 hb2;go_wp2_with fail;refine(done_calls g (w.heap.size+1+1+1) w4 HG4.cell HG4.out.fz HO4.cell).mono ?_;rintro e w5 ⟨rfl,rfl⟩;obtain⟨c0,c1,c2,f0,f1,f2⟩:=R4.out;go_wp2;exact bodyPost_ret (v:=aP (turnF m v)) (by simp[results,Tryz.results71,go_sem,c0,c1,c2,turnF]) rfl ⟨rfl,below_set3 HW4.out (by omega) _ _ _⟩
structure Q4 where
 w:Int
 x:Int
 y:Int
 z:Int
abbrev aQ (q:Q4):Value:= .agg #[.int .i64 q.w, .int .i64 q.x, .int .i64 q.y, .int .i64 q.z]
/-- block g holds a turn -/
def Qk (w:World)(g:Nat)(q:Q4):Prop:=w.heap[g]?=some (.cells #[.int .i64 q.w, .int .i64 q.x, .int .i64 q.y, .int .i64 q.z] 29 (0,0))
theorem Qk.below {w w1:World}{g:Nat}{m:Q4}(h:Qk w g m)(hb:Below w.heap.size w w1):Qk w1 g m:=(hb.block _ (blk_lt h)).trans h
theorem Qk.all {w g q}(h:Qk w g q):w.cell? ⟨g,0,none⟩=some (.int .i64 q.w)∧w.cell? ⟨g,1,none⟩=some (.int .i64 q.x)∧w.cell? ⟨g,2,none⟩=some (.int .i64 q.y)∧w.cell? ⟨g,3,none⟩=some (.int .i64 q.z):=
 ⟨(blk_cell h 0).trans rfl,(blk_cell h 1).trans rfl,(blk_cell h 2).trans rfl,(blk_cell h 3).trans rfl⟩
theorem Qk.fzs {w g q}(h:Qk w g q):w.frozen? ⟨g,0,none⟩=false∧w.frozen? ⟨g,1,none⟩=false∧w.frozen? ⟨g,2,none⟩=false∧w.frozen? ⟨g,3,none⟩=false:=
 ⟨blk_frozen h 0,blk_frozen h 1,blk_frozen h 2,blk_frozen h 3⟩
/-- the size of a raw turn -/
def lenF (q:Q4):Int:=rtI (q.w*q.w+q.x*q.x+q.y*q.y+q.z*q.z)
def unitF (q:Q4):Q4:=⟨q.w*4294967296 / lenF q,q.x*4294967296 / lenF q,q.y*4294967296 / lenF q,q.z*4294967296 / lenF q⟩
def raw40 (x:Int):Prop:= -1099511627776≤x∧x≤1099511627776
theorem raw40.fits {x:Int}(h:raw40 x):fits x:=by unfold raw40 at h;unfold G.fits;omega
theorem raw40.sq {x:Int}(h:raw40 x):0≤x*x∧x*x≤1208925819614629174706176:=by
 refine⟨sq_nonneg x,?_⟩;have:(x*x).natAbs≤1099511627776*1099511627776:=by rw[Int.natAbs_mul];unfold raw40 at h;exact Nat.mul_le_mul (by omega) (by omega)
 omega
theorem dotL4 (a b c d:Int):dotL [a,b,c,d] [a,b,c,d]=a*a+b*b+c*c+d*d:=by simp[dotL];omega
theorem lenF_fits {q:Q4}(h1:raw40 q.w)(h2:raw40 q.x)(h3:raw40 q.y)(h4:raw40 q.z):fits (lenF q):=by
 have a:=h1.sq;have b:=h2.sq;have c:=h3.sq;have d:=h4.sq;exact rtI_fits (by omega) (by omega)
theorem unit_q {x n:Int}(h:raw40 x)(hn:2147483648≤n):(x*4294967296).natAbs≤4611686018427387902*n:=by unfold raw40 at h;omega
theorem whole_good (g:Nat)(q:Q4)(w:World)(hg:Wk w g)(h1:raw40 q.w)(h2:raw40 q.x)(h3:raw40 q.y)(h4:raw40 q.z)(hn:2147483648≤lenF q):
  Calls Tryz.prog 66 #[.pointer (some ⟨g,0,none⟩),aQ q] w fun e w'=>e= .returned (aQ (unitF q))∧Below w.heap.size w w':=by
 have HF:=Lh (lenF_fits h1 h2 h3 h4);obtain⟨qw,qx,qy,qz⟩:=q;have HG:=Lh hg;have HA:Hid (raw40 qw∧raw40 qx∧raw40 qy∧raw40 qz):=Lh ⟨h1,h2,h3,h4⟩;have HL:Hid (∀x∈[qw,qx,qy,qz],fits x):=Lh (by intro x hx;simp at hx;rcases hx with rfl|rfl|rfl|rfl;exact h1.fits;exact h2.fits;exact h3.fits;exact h4.fits)
 have HS:Hid (dotL [qw,qx,qy,qz] [qw,qx,qy,qz]<21267647932558653966460912964485513216):=Lh (by
  rw[dotL4];have a:=h1.sq;have b:=h2.sq;have c:=h3.sq;have d:=h4.sq;simp only at a b c d;omega)
 have HN:Hid (rtI (dotL [qw,qx,qy,qz] [qw,qx,qy,qz])=lenF ⟨qw,qx,qy,qz⟩):=Lh (by rw[dotL4];rfl);have HU:Hid (unitF ⟨qw,qx,qy,qz⟩=⟨qw*4294967296 / lenF ⟨qw,qx,qy,qz⟩,qx*4294967296 / lenF ⟨qw,qx,qy,qz⟩,qy*4294967296 / lenF ⟨qw,qx,qy,qz⟩,qz*4294967296 / lenF ⟨qw,qx,qy,qz⟩⟩):=Lh rfl;clear hg h1 h2 h3 h4;obtain⟨N,hN⟩:=nm_ (lenF ⟨qw,qx,qy,qz⟩);rw[hN]at HN HU hn HF;clear hN;have hd:decide (N<2147483648)=false:=by simp;omega
 go_enter Tryz.func66,Tryz.ntmps66;go_wp2_with fail;refine(bare_w_calls _).mono ?_;rintro e w1 ⟨rfl,hw1⟩;have Q1:Hid (Qk w1 w.heap.size ⟨qw,qx,qy,qz⟩):=Lh (by rw[hw1];exact(Below.heap_alloc _ _ _ (by simp;omega)).trans ((Below.heap_alloc _ _ _ (by simp)).trans (heap_alloc_new w _)))
 have R1:Hid (Qk w1 (w.heap.size+1) ⟨0,0,0,0⟩):=Lh (by
  rw[hw1]
  have h:=heap_alloc_new (w.alloc (.cells #[.int .i64 qw, .int .i64 qx, .int .i64 qy, .int .i64 qz] 29)) (.cells #[.int .i64 0, .int .i64 0, .int .i64 0, .int .i64 0] 29)
  rw[World.size_alloc]at h
  exact(Below.heap_alloc _ _ _ (by simp)).trans h)
 have W1:=Lh (show Below w.heap.size w w1 by rw[hw1];exact(((Below.refl _ w).alloc (Nat.le_refl _) _).alloc (by simp) _).alloc (by simp;omega) _)
 have O1:Hid (Wk w1 (w.heap.size+1+1)):=Lh (by
  rw[hw1]
  have h:=Wk.new ((w.alloc (.cells #[.int .i64 qw, .int .i64 qx, .int .i64 qy, .int .i64 qz] 29)).alloc (.cells #[.int .i64 0, .int .i64 0, .int .i64 0, .int .i64 0] 29))
  simp only[World.size_alloc]at h
  exact h)
 have G1:=Lh (HG.below W1.out);have lt1:w.heap.size+1+1<w1.heap.size:=by rw[hw1];simp
 have lq1:w.heap.size<w1.heap.size:=by omega
 clear hw1 HG;simp only[World.size_alloc];obtain⟨x0,x1,x2,x3⟩:=Q1.out.all;go_wp2_with fail;refine(norm_calls _ [qw,qx,qy,qz] _ 4 _ (RdI.of4 (heap_alloc_new w1 _)) (by simp) (by simp) HL.out HS.out).mono ?_;rintro e w2 ⟨rfl,hb⟩;rw[HN.out];have Q2:=Lh ((Q1.below ((Below.refl _ _).alloc (Nat.le_refl _) (.cells #[.int .i64 qw, .int .i64 qx, .int .i64 qy, .int .i64 qz] 3))).below hb);have R2:=Lh ((R1.below ((Below.refl _ _).alloc (Nat.le_refl _) (.cells #[.int .i64 qw, .int .i64 qx, .int .i64 qy, .int .i64 qz] 3))).below hb);have O2:=Lh ((O1.alloc (.cells #[.int .i64 qw, .int .i64 qx, .int .i64 qy, .int .i64 qz] 3)).below hb);have G2:=Lh ((G1.alloc (.cells #[.int .i64 qw, .int .i64 qx, .int .i64 qy, .int .i64 qz] 3)).below hb);have W2:=Lh (bthen (W1.alloc W1.size (.cells #[.int .i64 qw, .int .i64 qx, .int .i64 qy, .int .i64 qz] 3)) hb);clear hb Q1 R1 O1 G1 W1 lt1 lq1 x0 x1 x2 x3;obtain⟨x0,x1,x2,x3⟩:=Q2.out.all;go_wp2_with fail;refine(wdiv_calls _ qw N HA.out.1.fits HF.out (by omega) (unit_q HA.out.1 hn) _).mono ?_;rintro e w3 ⟨rfl,hb⟩;have Q3:=Lh (Q2.below hb);have R3:=Lh (R2.below hb);have O3:=Lh (O2.below hb);have G3:=Lh (G2.below hb);have W3:=Lh (bthen W2.out hb);clear hb Q2 R2 O2 G2 W2 x0 x1 x2 x3;obtain⟨x0,x1,x2,x3⟩:=Q3.out.all;go_wp2_with fail;refine(wdiv_calls _ qx N HA.out.2.1.fits HF.out (by omega) (unit_q HA.out.2.1 hn) _).mono ?_;rintro e w4 ⟨rfl,hb⟩;have Q4:=Lh (Q3.below hb);have R4:=Lh (R3.below hb);have O4:=Lh (O3.below hb);have G4:=Lh (G3.below hb);have W4:=Lh (bthen W3.out hb);clear hb Q3 R3 O3 G3 W3 x0 x1 x2 x3;obtain⟨x0,x1,x2,x3⟩:=Q4.out.all;go_wp2_with fail;refine(wdiv_calls _ qy N HA.out.2.2.1.fits HF.out (by omega) (unit_q HA.out.2.2.1 hn) _).mono ?_;rintro e w5 ⟨rfl,hb⟩;have Q5:=Lh (Q4.below hb);have R5:=Lh (R4.below hb);have O5:=Lh (O4.below hb);have G5:=Lh (G4.below hb);have W5:=Lh (bthen W4.out hb);clear hb Q4 R4 O4 G4 W4 x0 x1 x2 x3;obtain⟨x0,x1,x2,x3⟩:=Q5.out.all;go_wp2_with fail;refine(wdiv_calls _ qz N HA.out.2.2.2.fits HF.out (by omega) (unit_q HA.out.2.2.2 hn) _).mono ?_;rintro e w6 ⟨rfl,hb⟩;have R6:=Lh (R5.below hb);have O6:=Lh (O5.below hb);have G6:=Lh (G5.below hb);have W6:=Lh (bthen W5.out hb);clear hb Q5 R5 O5 G5 W5 x0 x1 x2 x3;go_wp2_with fail;refine(done_calls g (w.heap.size+1+1) w6 G6.cell G6.out.fz O6.cell).mono ?_;rintro e w7 ⟨rfl,rfl⟩;obtain⟨c0,c1,c2,c3⟩:=R6.out.all;obtain⟨f0,f1,f2,f3⟩:=R6.out.fzs;go_wp2;rw[HU.out];exact bodyPost_ret (v:=aQ ⟨qw*4294967296 / N,qx*4294967296 / N,qy*4294967296 / N,qz*4294967296 / N⟩) (by simp[results,Tryz.results66,go_sem,c0,c1,c2,c3]) rfl ⟨rfl,below_set4 W6.out (by omega) _ _ _ _⟩
end Go.Proofs.YtckdhahceelckaaGreat.G
