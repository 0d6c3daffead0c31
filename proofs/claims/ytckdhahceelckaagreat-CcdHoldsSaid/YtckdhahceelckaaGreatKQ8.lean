/- What the laws of this claim lean on: contracts of functions and plain lemmas; no condition of its own (part 8: XN16, XN17, XN19). -/
import Derived.Test.YtckdhahceelckaaGreatKQ6
set_option maxHeartbeats 16000000
set_option maxRecDepth 100000
set_option linter.unusedVariables false
set_option linter.unusedSimpArgs false
namespace Go.Proofs.YtckdhahceelckaaGreat.G
open Go.RowKit Go.Proofs.YtckdhahceelckaaGreatW.PrintWords Go.Proofs.YtckdhahceelckaaGreatW.PrintLast Go.Proofs.YtckdhahceelckaaGreatW.PrintMore
attribute [local go_sem] max2_mx min2_mn max_two min_two max_three min_three max_four min_four
attribute [local go_sem high] eqA23
open Go.Shelf
attribute [local go_sem] Oper.semAt_some
/-- a slice of points that lies in this world -/
def RdB (w:World)(A:Option Addr)(l:List P3):Prop:=Rd w A l∧(l≠[]→∀ad,A=some ad→ad.block<w.heap.size)
theorem dbl3_in (p:P3)(h:in3 1048576 p):in3 1048576 (dbl3 p):=by
 induction p using dbl3.induct with
 |case1 p h'=>rw[dbl3,dif_pos h'];exact h
 |case2 p h' ih=>
  rw[dbl3,dif_neg h'];apply ih;have h1:far3 524288 p=false:=by simpa using fun e=>h' (.inl e)
  have hi:=(far3_iff _ _ (by decide) (by decide)).1 h1;unfold in3 two3 at*;simp only;omega
theorem long3_in (p:P3):in3 1048576 (long3 p):=dbl3_in _ (short3_in p)
theorem KpX.seto {bo bf:Nat}(W:World)(i:Nat)(v:Value):KpX bo bf W (W.setCell ⟨bo,i,none⟩ v):=
 ⟨by simp,fun k c t f _ h1 _=>Below.heap_setCell _ _ _ k h1⟩
theorem KpX.setf {bo bf:Nat}(W:World)(i:Nat)(v:Value):KpX bo bf W (W.setCell ⟨bf,i,none⟩ v):=
 ⟨by simp,fun k c t f _ _ h1=>Below.heap_setCell _ _ _ k h1⟩
abbrev set4 (w:World)(g:Nat)(x y z u:Value):World:=(((w.setCell ⟨g,0,none⟩ x).setCell ⟨g,1,none⟩ y).setCell ⟨g,2,none⟩ z).setCell ⟨g,3,none⟩ u
theorem KpX.set4 {bo bf:Nat}(W:World)(x y z u:Value):KpX bo bf W (set4 W bo x y z u):=(((KpX.seto W 0 x).trans (KpX.seto _ 1 y)).trans (KpX.seto _ 2 z)).trans (KpX.seto _ 3 u)
theorem keeps_set4 (W:World)(g:Nat)(x y z u:Value):KeepsOthers W (set4 W g x y z u):=(((KeepsOthers.setCell W _ x).trans (KeepsOthers.setCell _ _ y)).trans (KeepsOthers.setCell _ _ z)).trans (KeepsOthers.setCell _ _ u)
theorem heap_set4 (W:World)(g k:Nat)(h:k≠g)(x y z u:Value):(set4 W g x y z u).heap[k]?=W.heap[k]?:=
 (Below.heap_setCell _ _ _ k h).trans ((Below.heap_setCell _ _ _ k h).trans ((Below.heap_setCell _ _ _ k h).trans (Below.heap_setCell _ _ _ k h)))
theorem below_set4 {B:Nat}{a w:World}(h:Below B a w){g:Nat}(hg:B≤g)(x y z u:Value):Below B a (set4 w g x y z u):=(((h.setCell (p:=⟨g,0,none⟩) hg x).setCell (p:=⟨g,1,none⟩) hg y).setCell (p:=⟨g,2,none⟩) hg z).setCell (p:=⟨g,3,none⟩) hg u
theorem three0 (w:World)(o1 o2 o3:Obj):(((w.alloc o1).alloc o2).alloc o3).heap[w.heap.size]?=some o1:=
 (Below.heap_alloc _ _ _ (by simp;omega)).trans ((Below.heap_alloc _ _ _ (by simp)).trans (World.alloc_heap_new w o1))
theorem three1 (w:World)(o1 o2 o3:Obj):(((w.alloc o1).alloc o2).alloc o3).heap[w.heap.size+1]?=some o2:=
 (Below.heap_alloc _ _ _ (by simp)).trans (by have:=World.alloc_heap_new (w.alloc o1) o2;rwa [World.size_alloc]at this)
theorem three2 (w:World)(o1 o2 o3:Obj):(((w.alloc o1).alloc o2).alloc o3).heap[w.heap.size+2]?=some o3:=by
 have:=World.alloc_heap_new ((w.alloc o1).alloc o2) o3;rwa [World.size_alloc,World.size_alloc]at this
theorem apart_in (n:Nat)(hn:6≤n)(a0:P3)(ar aa ea:List P3)(ra:Int)(b0:P3)(br ab eb:List P3)(rb:Int)(A0 A1 A2 B0 B1 B2:Option Addr)(c0 c1 c2 d0 d1 d2:Nat)(w:World)
  (hA0:Hid (RdB w A0 (a0::ar))) (hA1:Hid (RdB w A1 aa)) (hA2:Hid (RdB w A2 ea)) (hB0:Hid (RdB w B0 (b0::br))) (hB1:Hid (RdB w B1 ab)) (hB2:Hid (RdB w B2 eb))
  (k0:ar.length+1≤c0) (k1:aa.length≤c1) (k2:ea.length≤c2) (m0:br.length+1≤d0) (m1:ab.length≤d1) (m2:eb.length≤d2)
  (ap:ar.length+1≤32) (aal:aa.length≤128) (eal:ea.length≤128) (bp:br.length+1≤32) (abl:ab.length≤128) (ebl:eb.length≤128)
  (ra1:0≤ra) (ra2:ra≤65536) (rb1:0≤rb) (rb2:rb≤65536)
  (pA:(a0::ar).any (far3 16777216)=false) (pB:(b0::br).any (far3 16777216)=false) (xA:aa.any (far3 1048576)=false) (xB:ab.any (far3 1048576)=false) (eA:ea.any (far3 1048576)=false) (eB:eb.any (far3 1048576)=false)
  (R:(P3×Int)×Bool) (hR:apF a0 ar ra b0 br rb (rawC (a0::ar) aa ea (b0::br) ab eb)=R):
  CallsIn Fence.wide n Tryz.prog 19 #[.agg #[.slice A0 (ar.length+1) c0, .slice A1 aa.length c1, .slice A2 ea.length c2, .int .i64 ra], .agg #[.slice B0 (br.length+1) d0, .slice B1 ab.length d1, .slice B2 eb.length d2, .int .i64 rb]] w
   fun e w'=>e= .returned (.tuple #[.agg #[.int .i64 R.1.1.x, .int .i64 R.1.1.y, .int .i64 R.1.1.z, .int .i64 R.1.2], .bool true])∧Below w.heap.size w w':=by
 have h1:1≤n:=by omega
 refine callsIn_of_wp_marks Tryz.func19 rfl trivial ?_ rfl;simp only[Tryz.ntmps19,List.size_toArray,List.length_cons,List.length_nil,Nat.reduceAdd,Nat.reduceSub,Array.replicate_succ,Array.replicate_zero,List.push_toArray,List.append_toArray,List.nil_append,List.cons_append];have Ha0:(((w.alloc (.cells #[.slice A0 (ar.length+1) c0, .slice A1 aa.length c1, .slice A2 ea.length c2, .int .i64 ra] 35)).alloc (.cells #[.slice B0 (br.length+1) d0, .slice B1 ab.length d1, .slice B2 eb.length d2, .int .i64 rb] 35)).alloc (.cells #[.int .i64 0, .int .i64 0, .int .i64 0, .int .i64 0] 60)).heap[w.heap.size]?=some (.cells #[.slice A0 (ar.length+1) c0, .slice A1 aa.length c1, .slice A2 ea.length c2, .int .i64 ra] 35 (0,0)):=three0 _ _ _ _;have Hb0:(((w.alloc (.cells #[.slice A0 (ar.length+1) c0, .slice A1 aa.length c1, .slice A2 ea.length c2, .int .i64 ra] 35)).alloc (.cells #[.slice B0 (br.length+1) d0, .slice B1 ab.length d1, .slice B2 eb.length d2, .int .i64 rb] 35)).alloc (.cells #[.int .i64 0, .int .i64 0, .int .i64 0, .int .i64 0] 60)).heap[w.heap.size+1]?=some (.cells #[.slice B0 (br.length+1) d0, .slice B1 ab.length d1, .slice B2 eb.length d2, .int .i64 rb] 35 (0,0)):=three1 _ _ _ _;have Hr0:(((w.alloc (.cells #[.slice A0 (ar.length+1) c0, .slice A1 aa.length c1, .slice A2 ea.length c2, .int .i64 ra] 35)).alloc (.cells #[.slice B0 (br.length+1) d0, .slice B1 ab.length d1, .slice B2 eb.length d2, .int .i64 rb] 35)).alloc (.cells #[.int .i64 0, .int .i64 0, .int .i64 0, .int .i64 0] 60)).heap[w.heap.size+2]?=some (.cells #[.int .i64 0, .int .i64 0, .int .i64 0, .int .i64 0] 60 (0,0)):=three2 _ _ _ _;have HW3:Below w.heap.size w (((w.alloc (.cells #[.slice A0 (ar.length+1) c0, .slice A1 aa.length c1, .slice A2 ea.length c2, .int .i64 ra] 35)).alloc (.cells #[.slice B0 (br.length+1) d0, .slice B1 ab.length d1, .slice B2 eb.length d2, .int .i64 rb] 35)).alloc (.cells #[.int .i64 0, .int .i64 0, .int .i64 0, .int .i64 0] 60)):=(((Below.refl _ w).alloc (Nat.le_refl _) _).alloc (by simp) _).alloc (by simp;omega) _
 gi_wp2_with fail
 obtain⟨w3,hw3⟩:=nm_ (((w.alloc (.cells #[.slice A0 (ar.length+1) c0, .slice A1 aa.length c1, .slice A2 ea.length c2, .int .i64 ra] 35)).alloc (.cells #[.slice B0 (br.length+1) d0, .slice B1 ab.length d1, .slice B2 eb.length d2, .int .i64 rb] 35)).alloc (.cells #[.int .i64 0, .int .i64 0, .int .i64 0, .int .i64 0] 60));rw[hw3]at Ha0 Hb0 Hr0 HW3⊢;clear hw3;refine⟨trivial,?_⟩;refine((callsIn_wide (n:=n-1)).2 (may_yes (a0::ar) aa ea ra A0 A1 A2 c0 c1 c2 w3 (hA0.out.1.below HW3) (hA1.out.1.below HW3) (hA2.out.1.below HW3) k0 k1 k2 false false false (by simp) ap aal eal ra1 ra2 pA xA eA)).mono ?_;rintro e w4 ⟨rfl,hb4⟩;have Ha4:=(hb4.block _ (blk_lt Ha0)).trans Ha0;have Hb4:=(hb4.block _ (blk_lt Hb0)).trans Hb0;have Hr4:=(hb4.block _ (blk_lt Hr0)).trans Hr0;have HW4:=bthen HW3 hb4;clear Ha0 Hb0 Hr0 HW3 hb4;obtain⟨x0,x1,x2,x3,_⟩:=f4_ (w.heap.size+1) Hb4
 gi_wp2_with fail
 refine⟨trivial,?_⟩;refine((callsIn_wide (n:=n-1)).2 (may_yes (b0::br) ab eb rb B0 B1 B2 d0 d1 d2 w4 (hB0.out.1.below HW4) (hB1.out.1.below HW4) (hB2.out.1.below HW4) m0 m1 m2 false false false (by simp) bp abl ebl rb1 rb2 pB xB eB)).mono ?_;rintro e w5 ⟨rfl,hb5⟩;have Ha5:=(hb5.block _ (blk_lt Ha4)).trans Ha4;have Hb5:=(hb5.block _ (blk_lt Hb4)).trans Hb4;have Hr5:=(hb5.block _ (blk_lt Hr4)).trans Hr4;have HW5:=bthen HW4 hb5;clear Ha4 Hb4 Hr4 HW4 hb5 x0 x1 x2 x3;obtain⟨x0,x1,x2,x3,_⟩:=f4_ w.heap.size Ha5;obtain⟨y0,y1,y2,y3,_⟩:=f4_ (w.heap.size+1) Hb5;have e1:IntKind.i64.wrap (-ra)= -ra:=iw_id _ (by omega) (by omega);have e2:IntKind.i64.wrap (-ra-rb)= -ra-rb:=iw_id _ (by omega) (by omega);have za:=blk_lt Ha5;have zb:=blk_lt Hb5;have za':w.heap.size<w5.heap.size+1:=by omega
 have zb':w.heap.size+1<w5.heap.size+1:=by omega
 gi_wp2_with fail
 refine⟨trivial,?_⟩;refine((callsIn_wide (n:=n-1)).2 (ways_calls _ _ _ _ _ _ _ _ _)).mono ?_;rintro e w6 ⟨rfl,hw6⟩;have Ho6:w6.heap[w5.heap.size]?=some (.cells #[.int .i64 0, .int .i64 0, .int .i64 1048576, .int .i64 (-ra-rb)] 60 (0,0)):=by
  rw[hw6];exact(Below.heap_alloc _ _ _ (by simp;omega)).trans (three0 _ _ _ _)
 have Hf6:Boxed w6 (w5.heap.size+1) 4 (.bool true):=by
  show w6.heap[_]?=_;rw[hw6];exact(Below.heap_alloc _ _ _ (by simp)).trans (three1 _ _ _ _)
 have Hc6:w6.heap[w5.heap.size+2]?=some (.cells #[.slice A0 (ar.length+1) c0, .slice A1 aa.length c1, .slice A2 ea.length c2, .int .i64 ra] 35 (0,0)):=by
  rw[hw6];exact(Below.heap_alloc _ _ _ (by simp)).trans (three2 _ _ _ _)
 have Hd6:w6.heap[w5.heap.size+3]?=some (.cells #[.slice B0 (br.length+1) d0, .slice B1 ab.length d1, .slice B2 eb.length d2, .int .i64 rb] 35 (0,0)):=by
  rw[hw6];have:=three2 (w5.alloc (.cells #[.int .i64 0, .int .i64 0, .int .i64 1048576, .int .i64 (-ra-rb)] 60)) (.cells #[.bool true] 4) (.cells #[.slice A0 (ar.length+1) c0, .slice A1 aa.length c1, .slice A2 ea.length c2, .int .i64 ra] 35) (.cells #[.slice B0 (br.length+1) d0, .slice B1 ab.length d1, .slice B2 eb.length d2, .int .i64 rb] 35);rw[World.size_alloc]at this;exact this
 have hs6:w6.heap.size=w5.heap.size+4:=by rw[hw6];simp
 have hb6:Below w5.heap.size w5 w6:=by
  rw[hw6];exact((((Below.refl _ w5).alloc (Nat.le_refl _) _).alloc (by simp) _).alloc (by simp;omega) _).alloc (by simp;omega) _
 have Ha6:=(hb6.block _ (blk_lt Ha5)).trans Ha5;have Hb6:=(hb6.block _ (blk_lt Hb5)).trans Hb5;have Hr6:=(hb6.block _ (blk_lt Hr5)).trans Hr5;have HW6:=bthen HW5 hb6;have hws:w.heap.size+2<w5.heap.size:=blk_lt Hr5;have X0:Hid (RdX w5.heap.size (w5.heap.size+1) w6 A0 (a0::ar)):=⟨hA0.out.1.below HW6,fun hne ad e=>by have:=hA0.out.2 hne ad e;omega⟩;have X1:Hid (RdX w5.heap.size (w5.heap.size+1) w6 A1 aa):=⟨hA1.out.1.below HW6,fun hne ad e=>by have:=hA1.out.2 hne ad e;omega⟩;have X2:Hid (RdX w5.heap.size (w5.heap.size+1) w6 A2 ea):=⟨hA2.out.1.below HW6,fun hne ad e=>by have:=hA2.out.2 hne ad e;omega⟩;have Y0:Hid (RdX w5.heap.size (w5.heap.size+1) w6 B0 (b0::br)):=⟨hB0.out.1.below HW6,fun hne ad e=>by have:=hB0.out.2 hne ad e;omega⟩;have Y1:Hid (RdX w5.heap.size (w5.heap.size+1) w6 B1 ab):=⟨hB1.out.1.below HW6,fun hne ad e=>by have:=hB1.out.2 hne ad e;omega⟩;have Y2:Hid (RdX w5.heap.size (w5.heap.size+1) w6 B2 eb):=⟨hB2.out.1.below HW6,fun hne ad e=>by have:=hB2.out.2 hne ad e;omega⟩;have X0:Hid (RdX w5.heap.size (w5.heap.size+1) w6 A0 (a0::ar)):=⟨hA0.out.1.below HW6,fun hne ad e=>by have:=hA0.out.2 hne ad e;omega⟩;have X1:Hid (RdX w5.heap.size (w5.heap.size+1) w6 A1 aa):=⟨hA1.out.1.below HW6,fun hne ad e=>by have:=hA1.out.2 hne ad e;omega⟩;have X2:Hid (RdX w5.heap.size (w5.heap.size+1) w6 A2 ea):=⟨hA2.out.1.below HW6,fun hne ad e=>by have:=hA2.out.2 hne ad e;omega⟩;have Y0:Hid (RdX w5.heap.size (w5.heap.size+1) w6 B0 (b0::br)):=⟨hB0.out.1.below HW6,fun hne ad e=>by have:=hB0.out.2 hne ad e;omega⟩;have Y1:Hid (RdX w5.heap.size (w5.heap.size+1) w6 B1 ab):=⟨hB1.out.1.below HW6,fun hne ad e=>by have:=hB1.out.2 hne ad e;omega⟩;have Y2:Hid (RdX w5.heap.size (w5.heap.size+1) w6 B2 eb):=⟨hB2.out.1.below HW6,fun hne ad e=>by have:=hB2.out.2 hne ad e;omega⟩;clear hw6 hb6 Ha5 Hb5 Hr5 HW5 x0 x1 x2 x3 y0 y1 y2 y3 e1 e2
 gi_wp2_with fail
 refine wpIn_rangeFunc_ownH (Kp:=KpX w5.heap.size (w5.heap.size+1)) rfl h1 (gf:=106) (lb:=#[.pointer (some ⟨w5.heap.size+1+1,0,none⟩), .pointer (some ⟨w5.heap.size+1+1+1,0,none⟩)]) rfl trivial (enters_of Tryz.func106 (by kernel_rfl) rfl)
  (ways_stops (n-1) (by omega) w5.heap.size (w5.heap.size+1) (w5.heap.size+2) (w5.heap.size+3) (a0::ar) aa ea (b0::br) ab eb A0 A1 A2 B0 B1 B2 c0 c1 c2 d0 d1 d2 ra rb w6 Hc6 Hd6 X0 X1 X2 Y0 Y1 Y2 (by omega) (by omega) (by omega) (by omega) (by simp;omega) (by simp;omega) (by omega) (by omega) (by omega) (by omega) (by omega) (by omega))
  KpX.trans (fun W l o o' _ hl ho _=>KpX.putObj hl ho) (Below.refl _ _) (fun _=>rfl)
  (fun pre W=>((W.heap[w5.heap.size]?=some (.cells #[.int .i64 (apF a0 ar ra b0 br rb pre).1.1.x, .int .i64 (apF a0 ar ra b0 br rb pre).1.1.y, .int .i64 (apF a0 ar ra b0 br rb pre).1.1.z, .int .i64 (apF a0 ar ra b0 br rb pre).1.2] 60 (0,0))∧Boxed W (w5.heap.size+1) 4 (.bool (apF a0 ar ra b0 br rb pre).2))∧
   (W.heap[w.heap.size]?=some (.cells #[.slice A0 (ar.length+1) c0, .slice A1 aa.length c1, .slice A2 ea.length c2, .int .i64 ra] 35 (0,0))∧W.heap[w.heap.size+1]?=some (.cells #[.slice B0 (br.length+1) d0, .slice B1 ab.length d1, .slice B2 eb.length d2, .int .i64 rb] 35 (0,0))))∧
   (W.heap[w.heap.size+2]?=some (.cells #[.int .i64 0, .int .i64 0, .int .i64 0, .int .i64 0] 60 (0,0))∧Below w.heap.size w W))
  (fun _ _ _=>False)
  (OwnFrom.and (OwnFrom.and (OwnFrom.and ((blk4_own _ (fun pre=>#[.int .i64 (apF a0 ar ra b0 br rb pre).1.1.x, .int .i64 (apF a0 ar ra b0 br rb pre).1.1.y, .int .i64 (apF a0 ar ra b0 br rb pre).1.1.z, .int .i64 (apF a0 ar ra b0 br rb pre).1.2]) _).from _) ((boxed_own _ _ (fun pre=> .bool (apF a0 ar ra b0 br rb pre).2)).from _)) (OwnFrom.and ((blk4_own _ _ _).from _) ((blk4_own _ _ _).from _))) (OwnFrom.and ((blk4_own _ _ _).from _) (ownFrom_below (Nat.le_refl _) (by omega))))
  (fun _ _ _ _ _ hs _ _=>hs)
  ⟨⟨⟨Ho6,Hf6⟩,Ha6,Hb6⟩,Hr6,HW6⟩
  (fun x a' W=>∃Bx,w5.heap.size+1<Bx∧W.heap[Bx]?=some (.cells #[.int .i64 x.x, .int .i64 x.y, .int .i64 x.z] 23 (0,0))∧a'={tmps:=#[.agg #[.slice A0 (ar.length+1) c0, .slice A1 aa.length c1, .slice A2 ea.length c2, .int .i64 ra], .agg #[.slice B0 (br.length+1) d0, .slice B1 ab.length d1, .slice B2 eb.length d2, .int .i64 rb], .pointer (some ⟨w.heap.size,0,none⟩), .pointer (some ⟨w.heap.size+1,0,none⟩), .pointer (some ⟨w.heap.size+1+1,0,none⟩), .bool false, .pointer (some ⟨w5.heap.size,0,none⟩), .pointer (some ⟨w5.heap.size+1,0,none⟩), .pointer (some ⟨Bx,0,none⟩),undef,undef,undef,undef, .agg #[.slice A0 (ar.length+1) c0, .slice A1 aa.length c1, .slice A2 ea.length c2, .int .i64 ra], .bool true, .bool false, .bool false, .agg #[.slice B0 (br.length+1) d0, .slice B1 ab.length d1, .slice B2 eb.length d2, .int .i64 rb], .bool true, .bool false, .bool false,undef, .agg #[.int .i64 0, .int .i64 0, .int .i64 1048576], .pointer (some ⟨w.heap.size,3,none⟩), .int .i64 ra, .int .i64 (-ra), .pointer (some ⟨w.heap.size+1,3,none⟩), .int .i64 rb, .int .i64 (-ra-rb), .agg #[.int .i64 0, .int .i64 0, .int .i64 1048576, .int .i64 (-ra-rb)], .agg #[.slice A0 (ar.length+1) c0, .slice A1 aa.length c1, .slice A2 ea.length c2, .int .i64 ra], .agg #[.slice B0 (br.length+1) d0, .slice B1 ab.length d1, .slice B2 eb.length d2, .int .i64 rb], .func (.func 106) #[] #[.pointer (some ⟨w5.heap.size+1+1,0,none⟩), .pointer (some ⟨w5.heap.size+1+1+1,0,none⟩)], .agg #[.int .i64 x.x, .int .i64 x.y, .int .i64 x.z],undef,undef,undef,undef,undef,undef,undef,undef,undef,undef,undef,undef,undef,undef,undef,undef,undef,undef,undef,undef,undef,undef,undef,undef,undef,undef,undef,undef,undef,undef,undef,undef,undef,undef],defers:=[]})
  (fun x a' _ X Y row hs hg hr=>by obtain⟨Bx,h1,h2,h3⟩:=hs;exact⟨Bx,h1,blk4_own Bx (fun(_:Unit)=>#[.int .i64 x.x, .int .i64 x.y, .int .i64 x.z]) 23 () X Y row h2 hg (fun r e=>(hr r e).2),h3⟩)
  ?assign ?body ?done ?stop
 case assign=>
  rintro l pre ⟨xx,xy,xz⟩ W K ⟨⟨⟨I1,I2⟩,I3,I4⟩,I5,I6⟩ hK;have i1:w5.heap.size+1<W.heap.size:=blk_lt I2;simp only[enc3]
  gi_wp2
  exact hK _ _ ((KeepsOthers.alloc _ _).from _) (KpX.of_below ((Below.refl _ W).alloc (Nat.le_refl _) _)) ⟨⟨⟨(Below.heap_alloc _ _ _ (by omega)).trans I1,I2.alloc _⟩,(Below.heap_alloc _ _ _ (by omega)).trans I3,(Below.heap_alloc _ _ _ (by omega)).trans I4⟩,(Below.heap_alloc _ _ _ (by omega)).trans I5,I6.alloc I6.size _⟩ ⟨W.heap.size,i1,World.alloc_heap_new W _,rfl⟩
 case body=>
  rintro l pre ⟨xx,xy,xz⟩ a' W hl ⟨r,hr⟩ ⟨⟨⟨I1,I2⟩,I3,I4⟩,I5,I6⟩ ⟨Bx,hBx,I7,rfl⟩ hlt;dsimp only at I7;obtain⟨u0,u1,u2,_⟩:=f3_ Bx I7;have HS:=Lh (apF_snoc a0 ar ra b0 br rb pre ⟨xx,xy,xz⟩);obtain⟨S,hS⟩:=nm_ (apF a0 ar ra b0 br rb pre);rw[hS]at I1 I2 HS;obtain⟨S',hS'⟩:∃S',apF a0 ar ra b0 br rb (pre++[⟨xx,xy,xz⟩])=S':=⟨_,rfl⟩;rw[hS']at HS;have hSS:=Lh hS';clear hS hS';obtain⟨⟨⟨ox,oy,oz⟩,og⟩,first⟩:=S;dsimp only at I1 I2
  gi_wp2_with fail
  refine⟨trivial,fun h=>(by cases h),?_⟩;refine(CallsIn.inRound l ((callsIn_wide (n:=n-1-1-1)).2 (lengthen_calls xx xy xz (decide (long3 ⟨xx,xy,xz⟩≠⟨0,0,0⟩)) W rfl))).mono ?_;rintro e Wa ⟨rfl,hba⟩;have i0:=blk_lt I5;have J1:=(hba.block _ (blk_lt I1)).trans I1;have J2:Boxed Wa (w5.heap.size+1) 4 (.bool first):=(hba.block _ (blk_lt I2)).trans I2;have J3:=(hba.block _ (blk_lt I3)).trans I3;have J4:=(hba.block _ (blk_lt I4)).trans I4;have J5:=(hba.block _ (blk_lt I5)).trans I5;have J6:=bthen I6 hba;have KF:KeepsFrom w6.heap.size W Wa:=⟨hba.size,fun k o _ hk _=>(hba.block k (blk_lt hk)).trans hk⟩;have KX:KpX w5.heap.size (w5.heap.size+1) W Wa:=KpX.of_below hba;clear I1 I2 I3 I4 I5 I6 I7 u0 u1 u2 hba;obtain⟨nv,hnv⟩:=nm_ (long3 ⟨xx,xy,xz⟩);have hin:in3 1048576 nv:=by rw[←hnv];exact long3_in _
  have HS2:Hid (S'=if nv=⟨0,0,0⟩then((⟨ox,oy,oz⟩,og),first)else
    (if(if first=true∨og<(gapsF nv a0 ar ra b0 br rb).1 then(nv,(gapsF nv a0 ar ra b0 br rb).1)else(⟨ox,oy,oz⟩,og)).2<(gapsF nv a0 ar ra b0 br rb).2 then(minus3 ⟨0,0,0⟩ nv,(gapsF nv a0 ar ra b0 br rb).2)else(if first=true∨og<(gapsF nv a0 ar ra b0 br rb).1 then(nv,(gapsF nv a0 ar ra b0 br rb).1)else(⟨ox,oy,oz⟩,og)),false)):=by
   show S'=_;rw[HS.out];unfold apStep;rw[hnv]
  rw[hnv];clear HS hnv
  have FIN:Hid (∀(Wz:World) (px py pz g:Int) (f:Bool),S'=((⟨px,py,pz⟩,g),f)→KeepsFrom w6.heap.size W Wz→KpX w5.heap.size (w5.heap.size+1) W Wz→
    Wz.heap[w5.heap.size]?=some (.cells #[.int .i64 px, .int .i64 py, .int .i64 pz, .int .i64 g] 60 (0,0))→Boxed Wz (w5.heap.size+1) 4 (.bool f)→
    Wz.heap[w.heap.size]?=some (.cells #[.slice A0 (ar.length+1) c0, .slice A1 aa.length c1, .slice A2 ea.length c2, .int .i64 ra] 35 (0,0))→Wz.heap[w.heap.size+1]?=some (.cells #[.slice B0 (br.length+1) d0, .slice B1 ab.length d1, .slice B2 eb.length d2, .int .i64 rb] 35 (0,0))→
    Wz.heap[w.heap.size+2]?=some (.cells #[.int .i64 0, .int .i64 0, .int .i64 0, .int .i64 0] 60 (0,0))→Below w.heap.size w Wz→
    KeepsFrom w6.heap.size W Wz∧KpX w5.heap.size (w5.heap.size+1) W Wz∧(((Wz.heap[w5.heap.size]?=some (.cells #[.int .i64 (apF a0 ar ra b0 br rb (pre++[⟨xx,xy,xz⟩])).1.1.x, .int .i64 (apF a0 ar ra b0 br rb (pre++[⟨xx,xy,xz⟩])).1.1.y, .int .i64 (apF a0 ar ra b0 br rb (pre++[⟨xx,xy,xz⟩])).1.1.z, .int .i64 (apF a0 ar ra b0 br rb (pre++[⟨xx,xy,xz⟩])).1.2] 60 (0,0))∧Boxed Wz (w5.heap.size+1) 4 (.bool (apF a0 ar ra b0 br rb (pre++[⟨xx,xy,xz⟩])).2))∧
   (Wz.heap[w.heap.size]?=some (.cells #[.slice A0 (ar.length+1) c0, .slice A1 aa.length c1, .slice A2 ea.length c2, .int .i64 ra] 35 (0,0))∧Wz.heap[w.heap.size+1]?=some (.cells #[.slice B0 (br.length+1) d0, .slice B1 ab.length d1, .slice B2 eb.length d2, .int .i64 rb] 35 (0,0))))∧
   (Wz.heap[w.heap.size+2]?=some (.cells #[.int .i64 0, .int .i64 0, .int .i64 0, .int .i64 0] 60 (0,0))∧Below w.heap.size w Wz))):=by
   intro Wz px py pz g f hs a1 a2 a3 a4 a5 a6 a7 a8;rw[hSS.out,hs];exact⟨a1,a2,⟨⟨a3,a4⟩,a5,a6⟩,a7,a8⟩
  clear hSS;by_cases hz:nv=⟨0,0,0⟩
  ·have hS':S'=((⟨ox,oy,oz⟩,og),first):=by rw[HS2.out,if_pos hz]
   have hd:decide (nv≠⟨0,0,0⟩)=false:=by simpa using hz
   rw[hd];have HS':=Lh hS';clear hd HS2 hz hin hS';obtain⟨nx,ny,nz⟩:=nv;dsimp only
   gi_wp2
   refine FIN.out _ _ _ _ _ _ HS'.out (KF.trans ((KeepsOthers.alloc _ _).from _)) (KX.trans (KpX.of_below ((Below.refl _ _).alloc (Nat.le_refl _) _))) ?_ (J2.alloc _) ?_ ?_ ?_ (J6.alloc J6.size _)
   ·exact(Below.heap_alloc _ _ _ (blk_lt J1)).trans J1
   ·exact(Below.heap_alloc _ _ _ (blk_lt J3)).trans J3
   ·exact(Below.heap_alloc _ _ _ (blk_lt J4)).trans J4
   ·exact(Below.heap_alloc _ _ _ (blk_lt J5)).trans J5
  ·have hd:decide (nv≠⟨0,0,0⟩)=true:=by simpa using hz
   rw[hd];obtain⟨⟨g1,g2⟩,hg⟩:∃g,gapsF nv a0 ar ra b0 br rb=g:=⟨_,rfl⟩;have HS3:Hid (S'=(if(if first=true∨og<g1 then(nv,g1)else(⟨ox,oy,oz⟩,og)).2<g2 then(minus3 ⟨0,0,0⟩ nv,g2)else(if first=true∨og<g1 then(nv,g1)else(⟨ox,oy,oz⟩,og)),false)):=by
    show S'=_;rw[HS2.out,if_neg hz,hg]
   clear hd HS2;obtain⟨p0,p1,p2,p3,_⟩:=f4_ w.heap.size J3;obtain⟨q0,q1,q2,q3,_⟩:=f4_ (w.heap.size+1) J4;have l3:=blk_lt J3;have l4:=blk_lt J4;obtain⟨nx,ny,nz⟩:=nv;dsimp only
   gi_wp2_with fail
   obtain⟨Wb,hWb⟩:=nm_ (Wa.alloc (.cells #[.int .i64 nx, .int .i64 ny, .int .i64 nz] 23));have hbb:Below Wa.heap.size Wa Wb:=by rw[←hWb];exact(Below.refl _ _).alloc (Nat.le_refl _) _
   have hnb:Wb.heap[Wa.heap.size]?=some (.cells #[.int .i64 nx, .int .i64 ny, .int .i64 nz] 23 (0,0)):=by rw[←hWb];exact World.alloc_heap_new _ _
   rw[hWb];have HWb:=bthen J6 hbb;have allin:∀(l:List P3),l.any (far3 16777216)=false→∀p∈l,in3 16777216 p:=fun l h p hp=>by
    refine(far3_iff _ _ (by decide) (by decide)).1 ?_;simp only[List.any_eq_false]at h;simpa using h p hp
   refine⟨trivial,fun h=>(by cases h),?_⟩;refine(CallsIn.inRound l ((callsIn_wide (n:=n-1-1-1)).2 (gaps_calls a0 ar b0 br A0 A1 A2 B0 B1 B2 c0 _ c1 _ c2 d0 _ d1 _ d2 ra rb nx ny nz Wb (hA0.out.1.below HWb) (hB0.out.1.below HWb) k0 m0 (by omega) (by omega) hin hz (allin _ pA) (allin _ pB) ra1 (by omega) rb1 (by omega)))).mono ?_;rw[hg];rintro e Wc ⟨rfl,hbc⟩;have hac:=bthen hbb hbc;have K1:=(hac.block _ (blk_lt J1)).trans J1;have K2:Boxed Wc (w5.heap.size+1) 4 (.bool first):=(hac.block _ (blk_lt J2)).trans J2;have K3:=(hac.block _ (blk_lt J3)).trans J3;have K4:=(hac.block _ (blk_lt J4)).trans J4;have K5:=(hac.block _ (blk_lt J5)).trans J5;have K6:=bthen J6 hac;have Kn:=(hbc.block _ (blk_lt hnb)).trans hnb;have KFc:KeepsFrom w6.heap.size W Wc:=KF.trans ⟨hac.size,fun k o _ hk _=>(hac.block k (blk_lt hk)).trans hk⟩;have KXc:KpX w5.heap.size (w5.heap.size+1) W Wc:=KX.trans (KpX.of_below hac);have hbo:=blk_lt K1;have hsw:=K6.size;have i5:=blk_lt K5;have nn0:w5.heap.size≠Wa.heap.size:=by have:=blk_lt J1;omega
   have nn1:w5.heap.size+1≠Wa.heap.size:=by have:=blk_lt J2;omega
   clear J1 J2 J3 J4 J5 J6 KF KX hbb hbc hnb hWb HWb hac p0 p1 p2 p3 q0 q1 q2 q3 l3 l4 allin hin hz hg;obtain⟨n0,n1,n2,_⟩:=f3_ Wa.heap.size Kn;have bx0:Wc.cell? ⟨w5.heap.size+1,0,none⟩=some (.bool first):=K2.cell;have bx1:Wc.frozen? ⟨w5.heap.size+1,0,none⟩=false:=K2.frozen;obtain⟨o0,o1,o2,o3,_⟩:=f4_ w5.heap.size K1;obtain⟨f0,f1,f2,f3⟩:=z4_ w5.heap.size K1;by_cases hf:first=true∨og<g1
   ·-- the way is better (or the first)
    rw[if_pos hf]at HS3;dsimp only at HS3;obtain⟨V,hV⟩:=nm_ (set4 Wc w5.heap.size (.int .i64 nx) (.int .i64 ny) (.int .i64 nz) (.int .i64 g1));have L1:V.heap[w5.heap.size]?=some (.cells #[.int .i64 nx, .int .i64 ny, .int .i64 nz, .int .i64 g1] 60 (0,0)):=by rw[←hV];exact blk4_set K1 _ _ _ _
    have L2:Boxed V (w5.heap.size+1) 4 (.bool first):=by show V.heap[_]?=_;rw[←hV];exact(heap_set4 _ _ _ (by omega) _ _ _ _).trans K2
    have L3:=(show V.heap[w.heap.size]?=_ by rw[←hV];exact heap_set4 _ _ _ (by omega) _ _ _ _).trans K3;have L4:=(show V.heap[w.heap.size+1]?=_ by rw[←hV];exact heap_set4 _ _ _ (by omega) _ _ _ _).trans K4;have L5:=(show V.heap[w.heap.size+2]?=_ by rw[←hV];exact heap_set4 _ _ _ (by omega) _ _ _ _).trans K5;have L6:Below w.heap.size w V:=by rw[←hV];exact below_set4 K6 (by omega) _ _ _ _
    have Ln:=(show V.heap[Wa.heap.size]?=_ by rw[←hV];exact heap_set4 _ _ _ (by omega) _ _ _ _).trans Kn;have LKF:KeepsFrom w6.heap.size W V:=by rw[←hV];exact KFc.trans ((keeps_set4 _ _ _ _ _ _).from _)
    have LKX:KpX w5.heap.size (w5.heap.size+1) W V:=by rw[←hV];exact KXc.trans (KpX.set4 _ _ _ _ _)
    have b2:V.cell? ⟨w5.heap.size+1,0,none⟩=some (.bool first):=L2.cell;have b3:V.frozen? ⟨w5.heap.size+1,0,none⟩=false:=L2.frozen;clear K1 K2 K3 K4 K5 K6 Kn KFc KXc;obtain⟨V2,hV2⟩:=nm_ (V.setCell ⟨w5.heap.size+1,0,none⟩ (.bool false));have M1:V2.heap[w5.heap.size]?=some (.cells #[.int .i64 nx, .int .i64 ny, .int .i64 nz, .int .i64 g1] 60 (0,0)):=by rw[←hV2];exact(Below.heap_setCell _ _ _ _ (by simp)).trans L1
    have M2:Boxed V2 (w5.heap.size+1) 4 (.bool false):=by rw[←hV2];exact L2.set _
    have M3:=(show V2.heap[w.heap.size]?=_ by rw[←hV2];exact(Below.heap_setCell _ _ _ _ (by simp;omega))).trans L3;have M4:=(show V2.heap[w.heap.size+1]?=_ by rw[←hV2];exact(Below.heap_setCell _ _ _ _ (by simp;omega))).trans L4;have M5:=(show V2.heap[w.heap.size+2]?=_ by rw[←hV2];exact(Below.heap_setCell _ _ _ _ (by simp;omega))).trans L5;have M6:Below w.heap.size w V2:=by rw[←hV2];exact L6.setCell (p:=⟨w5.heap.size+1,0,none⟩) (by simp;omega) _
    have Mn:=(show V2.heap[Wa.heap.size]?=_ by rw[←hV2];exact(Below.heap_setCell _ _ _ _ (by simp;omega))).trans Ln;have MKF:KeepsFrom w6.heap.size W V2:=by rw[←hV2];exact LKF.trans ((KeepsOthers.setCell _ _ _).from _)
    have MKX:KpX w5.heap.size (w5.heap.size+1) W V2:=by rw[←hV2];exact LKX.trans (KpX.setf _ _ _)
    obtain⟨r0,r1,r2,_⟩:=f3_ Wa.heap.size Mn;have r3:V2.cell? ⟨w5.heap.size,3,none⟩=some (.int .i64 g1):=(blk_cell M1 3).trans rfl;clear L1 L2 L3 L4 L5 L6 Ln LKF LKX
    cases first with
    |true=>
     by_cases h2:g1<g2
     ·have hd2:decide (g1<g2)=true:=by simpa using h2
      rw[if_pos h2]at HS3;have HS4:=Lh HS3;clear HS3
      gi_wp2_with fail
      refine⟨trivial,fun h=>(by cases h),?_⟩;refine(CallsIn.inRound l ((callsIn_wide (n:=n-1-1-1)).2 (minus_calls 0 0 0 nx ny nz _))).mono ?_;rintro e Vd ⟨rfl,hbd⟩;obtain⟨⟨tx,ty,tz⟩,hmn⟩:∃t,minus3 ⟨0,0,0⟩ ⟨nx,ny,nz⟩=t:=⟨_,rfl⟩;rw[hmn];have HS5:Hid (S'=((⟨tx,ty,tz⟩,g2),false)):=by show S'=_;rw[HS4.out,hmn]
      clear HS4 hmn;have N1:=(hbd.block _ (blk_lt M1)).trans M1;have N2:Boxed Vd (w5.heap.size+1) 4 (.bool false):=(hbd.block _ (blk_lt M2)).trans M2;have N3:=(hbd.block _ (blk_lt M3)).trans M3;have N4:=(hbd.block _ (blk_lt M4)).trans M4;have N5:=(hbd.block _ (blk_lt M5)).trans M5;have N6:=bthen M6 hbd;have NKF:KeepsFrom w6.heap.size W Vd:=MKF.trans ⟨hbd.size,fun k o _ hk _=>(hbd.block k (blk_lt hk)).trans hk⟩;have NKX:KpX w5.heap.size (w5.heap.size+1) W Vd:=MKX.trans (KpX.of_below hbd);clear r0 r1 r2 r3 M1 M2 M3 M4 M5 M6 Mn MKF MKX hbd hV2;obtain⟨s0,s1,s2,s3,_⟩:=f4_ w5.heap.size N1;obtain⟨q0,q1,q2,q3⟩:=z4_ w5.heap.size N1;obtain⟨V4,hV4⟩:=nm_ (set4 Vd w5.heap.size (.int .i64 tx) (.int .i64 ty) (.int .i64 tz) (.int .i64 g2))
      gi_wp2
      (try rw[hV4])
      have P3:=(show V4.heap[w.heap.size]?=_ by rw[←hV4];exact heap_set4 _ _ _ (by omega) _ _ _ _).trans N3;have P4:=(show V4.heap[w.heap.size+1]?=_ by rw[←hV4];exact heap_set4 _ _ _ (by omega) _ _ _ _).trans N4;have P5:=(show V4.heap[w.heap.size+2]?=_ by rw[←hV4];exact heap_set4 _ _ _ (by omega) _ _ _ _).trans N5;exact FIN.out V4 _ _ _ _ _ HS5.out (by rw[←hV4];exact NKF.trans ((keeps_set4 _ _ _ _ _ _).from _)) (by rw[←hV4];exact NKX.trans (KpX.set4 _ _ _ _ _)) (by rw[←hV4];exact blk4_set N1 _ _ _ _) (by show V4.heap[_]?=_;rw[←hV4];exact(heap_set4 _ _ _ (by omega) _ _ _ _).trans N2) P3 P4 P5 (by rw[←hV4];exact below_set4 N6 (by omega) _ _ _ _)
     ·have hd2:decide (g1<g2)=false:=by simpa using h2
      rw[if_neg h2]at HS3;have HS4:=Lh HS3;clear HS3
      gi_wp2
      exact FIN.out V2 _ _ _ _ _ HS4.out MKF MKX M1 M2 M3 M4 M5 M6
    |false=>
     have hd1:decide (og<g1)=true:=by simpa using hf
     by_cases h2:g1<g2
     ·have hd2:decide (g1<g2)=true:=by simpa using h2
      rw[if_pos h2]at HS3;have HS4:=Lh HS3;clear HS3
      gi_wp2_with fail
      refine⟨trivial,fun h=>(by cases h),?_⟩;refine(CallsIn.inRound l ((callsIn_wide (n:=n-1-1-1)).2 (minus_calls 0 0 0 nx ny nz _))).mono ?_;rintro e Vd ⟨rfl,hbd⟩;obtain⟨⟨tx,ty,tz⟩,hmn⟩:∃t,minus3 ⟨0,0,0⟩ ⟨nx,ny,nz⟩=t:=⟨_,rfl⟩;rw[hmn];have HS5:Hid (S'=((⟨tx,ty,tz⟩,g2),false)):=by show S'=_;rw[HS4.out,hmn]
      clear HS4 hmn;have N1:=(hbd.block _ (blk_lt M1)).trans M1;have N2:Boxed Vd (w5.heap.size+1) 4 (.bool false):=(hbd.block _ (blk_lt M2)).trans M2;have N3:=(hbd.block _ (blk_lt M3)).trans M3;have N4:=(hbd.block _ (blk_lt M4)).trans M4;have N5:=(hbd.block _ (blk_lt M5)).trans M5;have N6:=bthen M6 hbd;have NKF:KeepsFrom w6.heap.size W Vd:=MKF.trans ⟨hbd.size,fun k o _ hk _=>(hbd.block k (blk_lt hk)).trans hk⟩;have NKX:KpX w5.heap.size (w5.heap.size+1) W Vd:=MKX.trans (KpX.of_below hbd);clear r0 r1 r2 r3 M1 M2 M3 M4 M5 M6 Mn MKF MKX hbd hV2;obtain⟨s0,s1,s2,s3,_⟩:=f4_ w5.heap.size N1;obtain⟨q0,q1,q2,q3⟩:=z4_ w5.heap.size N1;obtain⟨V4,hV4⟩:=nm_ (set4 Vd w5.heap.size (.int .i64 tx) (.int .i64 ty) (.int .i64 tz) (.int .i64 g2))
      gi_wp2
      (try rw[hV4])
      have P3:=(show V4.heap[w.heap.size]?=_ by rw[←hV4];exact heap_set4 _ _ _ (by omega) _ _ _ _).trans N3;have P4:=(show V4.heap[w.heap.size+1]?=_ by rw[←hV4];exact heap_set4 _ _ _ (by omega) _ _ _ _).trans N4;have P5:=(show V4.heap[w.heap.size+2]?=_ by rw[←hV4];exact heap_set4 _ _ _ (by omega) _ _ _ _).trans N5;exact FIN.out V4 _ _ _ _ _ HS5.out (by rw[←hV4];exact NKF.trans ((keeps_set4 _ _ _ _ _ _).from _)) (by rw[←hV4];exact NKX.trans (KpX.set4 _ _ _ _ _)) (by rw[←hV4];exact blk4_set N1 _ _ _ _) (by show V4.heap[_]?=_;rw[←hV4];exact(heap_set4 _ _ _ (by omega) _ _ _ _).trans N2) P3 P4 P5 (by rw[←hV4];exact below_set4 N6 (by omega) _ _ _ _)
     ·have hd2:decide (g1<g2)=false:=by simpa using h2
      rw[if_neg h2]at HS3;have HS4:=Lh HS3;clear HS3
      gi_wp2
      exact FIN.out V2 _ _ _ _ _ HS4.out MKF MKX M1 M2 M3 M4 M5 M6
   ·obtain rfl:first=false:=by simpa using fun e=>hf (.inl e)
    have hd1:decide (og<g1)=false:=by simpa using fun e=>hf (.inr e)
    rw[if_neg hf]at HS3;dsimp only at HS3;obtain⟨V2,hV2⟩:=nm_ (Wc.setCell ⟨w5.heap.size+1,0,none⟩ (.bool false));have M1:V2.heap[w5.heap.size]?=some (.cells #[.int .i64 ox, .int .i64 oy, .int .i64 oz, .int .i64 og] 60 (0,0)):=by rw[←hV2];exact(Below.heap_setCell _ _ _ _ (by simp)).trans K1
    have M2:Boxed V2 (w5.heap.size+1) 4 (.bool false):=by rw[←hV2];exact K2.set _
    have M3:=(show V2.heap[w.heap.size]?=_ by rw[←hV2];exact(Below.heap_setCell _ _ _ _ (by simp;omega))).trans K3;have M4:=(show V2.heap[w.heap.size+1]?=_ by rw[←hV2];exact(Below.heap_setCell _ _ _ _ (by simp;omega))).trans K4;have M5:=(show V2.heap[w.heap.size+2]?=_ by rw[←hV2];exact(Below.heap_setCell _ _ _ _ (by simp;omega))).trans K5;have M6:Below w.heap.size w V2:=by rw[←hV2];exact K6.setCell (p:=⟨w5.heap.size+1,0,none⟩) (by simp;omega) _
    have Mn:=(show V2.heap[Wa.heap.size]?=_ by rw[←hV2];exact(Below.heap_setCell _ _ _ _ (by simp;omega))).trans Kn;have MKF:KeepsFrom w6.heap.size W V2:=by rw[←hV2];exact KFc.trans ((KeepsOthers.setCell _ _ _).from _)
    have MKX:KpX w5.heap.size (w5.heap.size+1) W V2:=by rw[←hV2];exact KXc.trans (KpX.setf _ _ _)
    obtain⟨r0,r1,r2,_⟩:=f3_ Wa.heap.size Mn;have r3:V2.cell? ⟨w5.heap.size,3,none⟩=some (.int .i64 og):=(blk_cell M1 3).trans rfl;clear K1 K2 K3 K4 K5 K6 Kn KFc KXc;by_cases h2:og<g2
    ·have hd2:decide (og<g2)=true:=by simpa using h2
     rw[if_pos h2]at HS3;have HS4:=Lh HS3;clear HS3
     gi_wp2_with fail
     refine⟨trivial,fun h=>(by cases h),?_⟩;refine(CallsIn.inRound l ((callsIn_wide (n:=n-1-1-1)).2 (minus_calls 0 0 0 nx ny nz _))).mono ?_;rintro e Vd ⟨rfl,hbd⟩;obtain⟨⟨tx,ty,tz⟩,hmn⟩:∃t,minus3 ⟨0,0,0⟩ ⟨nx,ny,nz⟩=t:=⟨_,rfl⟩;rw[hmn];have HS5:Hid (S'=((⟨tx,ty,tz⟩,g2),false)):=by show S'=_;rw[HS4.out,hmn]
     clear HS4 hmn;have N1:=(hbd.block _ (blk_lt M1)).trans M1;have N2:Boxed Vd (w5.heap.size+1) 4 (.bool false):=(hbd.block _ (blk_lt M2)).trans M2;have N3:=(hbd.block _ (blk_lt M3)).trans M3;have N4:=(hbd.block _ (blk_lt M4)).trans M4;have N5:=(hbd.block _ (blk_lt M5)).trans M5;have N6:=bthen M6 hbd;have NKF:KeepsFrom w6.heap.size W Vd:=MKF.trans ⟨hbd.size,fun k o _ hk _=>(hbd.block k (blk_lt hk)).trans hk⟩;have NKX:KpX w5.heap.size (w5.heap.size+1) W Vd:=MKX.trans (KpX.of_below hbd);clear r0 r1 r2 r3 M1 M2 M3 M4 M5 M6 Mn MKF MKX hbd hV2;obtain⟨s0,s1,s2,s3,_⟩:=f4_ w5.heap.size N1;obtain⟨q0,q1,q2,q3⟩:=z4_ w5.heap.size N1;obtain⟨V4,hV4⟩:=nm_ (set4 Vd w5.heap.size (.int .i64 tx) (.int .i64 ty) (.int .i64 tz) (.int .i64 g2))
     gi_wp2
     (try rw[hV4])
     have P3:=(show V4.heap[w.heap.size]?=_ by rw[←hV4];exact heap_set4 _ _ _ (by omega) _ _ _ _).trans N3;have P4:=(show V4.heap[w.heap.size+1]?=_ by rw[←hV4];exact heap_set4 _ _ _ (by omega) _ _ _ _).trans N4;have P5:=(show V4.heap[w.heap.size+2]?=_ by rw[←hV4];exact heap_set4 _ _ _ (by omega) _ _ _ _).trans N5;exact FIN.out V4 _ _ _ _ _ HS5.out (by rw[←hV4];exact NKF.trans ((keeps_set4 _ _ _ _ _ _).from _)) (by rw[←hV4];exact NKX.trans (KpX.set4 _ _ _ _ _)) (by rw[←hV4];exact blk4_set N1 _ _ _ _) (by show V4.heap[_]?=_;rw[←hV4];exact(heap_set4 _ _ _ (by omega) _ _ _ _).trans N2) P3 P4 P5 (by rw[←hV4];exact below_set4 N6 (by omega) _ _ _ _)
    ·have hd2:decide (og<g2)=false:=by simpa using h2
     rw[if_neg h2]at HS3;have HS4:=Lh HS3;clear HS3
     gi_wp2
     exact FIN.out V2 _ _ _ _ _ HS4.out MKF MKX M1 M2 M3 M4 M5 M6
 case done=>
  rintro D zs W hD rfl ⟨⟨⟨I1,I2⟩,I3,I4⟩,I5,I6⟩ hK;rw[hR]at I1;obtain⟨u0,u1,u2,u3,_⟩:=f4_ w5.heap.size I1;obtain⟨v0,v1,v2,v3,_⟩:=f4_ (w.heap.size+1+1) I5;obtain⟨f0,f1,f2,f3⟩:=z4_ (w.heap.size+1+1) I5;obtain⟨W2,hW2⟩:=nm_ ((((W.setCell ⟨w.heap.size+1+1,0,none⟩ (.int .i64 R.1.1.x)).setCell ⟨w.heap.size+1+1,1,none⟩ (.int .i64 R.1.1.y)).setCell ⟨w.heap.size+1+1,2,none⟩ (.int .i64 R.1.1.z)).setCell ⟨w.heap.size+1+1,3,none⟩ (.int .i64 R.1.2));have H2:W2.heap[w.heap.size+1+1]?=some (.cells #[.int .i64 R.1.1.x, .int .i64 R.1.1.y, .int .i64 R.1.1.z, .int .i64 R.1.2] 60 (0,0)):=by rw[←hW2];exact blk4_set I5 _ _ _ _
  have HD:W2.heap[D]?=some (.deferred (some [])):=by
   rw[←hW2,Below.heap_setCell _ _ _ _ (by simp;omega),Below.heap_setCell _ _ _ _ (by simp;omega),Below.heap_setCell _ _ _ _ (by simp;omega),Below.heap_setCell _ _ _ _ (by simp;omega)];exact hK
  have HB:Below w.heap.size w W2:=by
   rw[←hW2];exact(((I6.setCell (p:=⟨_,_,_⟩) (by simp;omega) _).setCell (p:=⟨_,_,_⟩) (by simp;omega) _).setCell (p:=⟨_,_,_⟩) (by simp;omega) _).setCell (p:=⟨_,_,_⟩) (by simp;omega) _
  gi_wp2
  (try rw[hW2])
  have hne:w.heap.size+1+1≠D:=by omega
  obtain⟨W3,hW3⟩:=nm_ (W2.putObj D (.deferred none));have H3:W3.heap[w.heap.size+1+1]?=some (.cells #[.int .i64 R.1.1.x, .int .i64 R.1.1.y, .int .i64 R.1.1.z, .int .i64 R.1.2] 60 (0,0)):=by rw[←hW3];exact(World.putObj_heap_other hne).trans H2
  have HB3:Below w.heap.size w W3:=by rw[←hW3];exact HB.trans (belowK_b (w:=w) (Nat.le_refl _) W2 D _ _ (by omega) HD rfl rfl)
  obtain⟨t0,t1,t2,t3,_⟩:=f4_ (w.heap.size+1+1) H3;refine⟨by simp, .inl ⟨_,_,rfl,run_takeDeferred HD,?_⟩⟩;rw[hW3];refine⟨.tuple #[.agg #[.int .i64 R.1.1.x, .int .i64 R.1.1.y, .int .i64 R.1.1.z, .int .i64 R.1.2], .bool true],?_,rfl,HB3⟩;simp[results,Tryz.results19,go_sem,t0,t1,t2,t3]
 case stop=>
  rintro D c pre W _ _ h _;exact h.elim
end Go.Proofs.YtckdhahceelckaaGreat.G
namespace Go.Proofs.YtckdhahceelckaaGreat.G
open Go.RowKit Go.Proofs.YtckdhahceelckaaGreatW.PrintWords Go.Proofs.YtckdhahceelckaaGreatW.PrintLast Go.Proofs.YtckdhahceelckaaGreatW.PrintMore
attribute [local go_sem] max2_mx min2_mn max_two min_two max_three min_three max_four min_four
attribute [local go_sem high] eqA23
/-- which of n things a raw number speaks of -/
def pickF (c n:Int):Int:=(if c<0 then-(c+1)else c).tmod n
theorem pickF_bd (c n:Int)(hn:0<n):0≤pickF c n∧pickF c n<n:=by
 unfold pickF;have h0:0≤(if c<0 then-(c+1)else c):=by split<;>omega
 generalize(if c<0 then-(c+1)else c)=d at h0;rw[Int.tmod_eq_emod_of_nonneg h0];exact⟨Int.emod_nonneg _ (by omega),Int.emod_lt_of_pos _ hn⟩
theorem rminus_calls (x y z a b c:Int)(w:World):
  Calls Tryz.prog 11 #[.agg #[.int .i64 x, .int .i64 y, .int .i64 z], .agg #[.int .i64 a, .int .i64 b, .int .i64 c]] w fun e w'=>e= .returned (.agg #[.int .i64 (minus3 ⟨x,y,z⟩ ⟨a,b,c⟩).x, .int .i64 (minus3 ⟨x,y,z⟩ ⟨a,b,c⟩).y, .int .i64 (minus3 ⟨x,y,z⟩ ⟨a,b,c⟩).z])∧Below w.heap.size w w':=by
 go_enter Tryz.func11,Tryz.ntmps11;go_wp2;exact bodyPost_ret (v:= .agg #[.int .i64 (minus3 ⟨x,y,z⟩ ⟨a,b,c⟩).x, .int .i64 (minus3 ⟨x,y,z⟩ ⟨a,b,c⟩).y, .int .i64 (minus3 ⟨x,y,z⟩ ⟨a,b,c⟩).z]) (by simp[results,Tryz.results11,go_sem,minus3]) rfl ⟨rfl,(by repeat (first|exact Below.refl _ _|refine Below.setCell ?_ (by simp<;>omega) _|refine Below.alloc ?_ (by simp<;>omega) _|refine Below.drew ?_))⟩
theorem rdot_calls (x y z a b c:Int)(w:World):
  Calls Tryz.prog 22 #[.agg #[.int .i64 x, .int .i64 y, .int .i64 z], .agg #[.int .i64 a, .int .i64 b, .int .i64 c]] w fun e w'=>e= .returned (.int .i64 (dot3 ⟨x,y,z⟩ ⟨a,b,c⟩))∧Below w.heap.size w w':=by
 go_enter Tryz.func22,Tryz.ntmps22;go_wp2
 go_ret
 exact⟨by simp[dot3,wrap64,go_sem],(by repeat (first|exact Below.refl _ _|refine Below.setCell ?_ (by simp<;>omega) _|refine Below.alloc ?_ (by simp<;>omega) _|refine Below.drew ?_))⟩
/-- a core: what a value speaks of in this world -/
structure CoreV (w:World) (v:Value) (p a e:List P3) (r:Int):Prop where
 out:∃A0 A1 A2 c0 c1 c2,v= .agg #[.slice A0 p.length c0, .slice A1 a.length c1, .slice A2 e.length c2, .int .i64 r]∧RdB w A0 p∧RdB w A1 a∧RdB w A2 e∧p.length≤c0∧a.length≤c1∧e.length≤c2
theorem RdB.below {w w1:World}{A l}(h:RdB w A l)(hb:Below w.heap.size w w1):RdB w1 A l:=⟨h.1.below hb,fun hne ad e=>Nat.lt_of_lt_of_le (h.2 hne ad e) hb.size⟩
theorem RdB.nil (w:World):RdB w none []:=⟨Rd.nil _ _,fun h=>absurd rfl h⟩
theorem CoreV.below {w w1:World}{v p a e r}(h:CoreV w v p a e r)(hb:Below w.heap.size w w1):CoreV w1 v p a e r:=by
 obtain⟨A0,A1,A2,c0,c1,c2,e1,h0,h1,h2,h3⟩:=h.out;exact⟨A0,A1,A2,c0,c1,c2,e1,h0.below hb,h1.below hb,h2.below hb,h3⟩
/-- may this be one? -/
structure MayP (p a e:List P3) (r:Int):Prop where
 p0:p≠[]
 p1:p.length≤32
 a1:a.length≤128
 e1:e.length≤128
 r0:0≤r
 r1:r≤65536
 pf:p.any (far3 16777216)=false
 af:a.any (far3 1048576)=false
 ef:e.any (far3 1048576)=false
/-- the answer for two that may be -/
def apartF (p a e:List P3)(r:Int)(q b f:List P3)(s:Int):P3×Int:=
 (apF (p.headD ⟨0,0,0⟩) p.tail r (q.headD ⟨0,0,0⟩) q.tail s (rawC p a e q b f)).1
theorem apart_calls (p a e:List P3)(r:Int)(q b f:List P3)(s:Int)(v u:Value)(w:World)(hv:CoreV w v p a e r)(hu:CoreV w u q b f s)(m:MayP p a e r)(k:MayP q b f s)(R:P3×Int)(hR:apartF p a e r q b f s=R):
  Calls Tryz.prog 19 #[v,u] w fun e w'=>e= .returned (.tuple #[.agg #[.int .i64 R.1.x, .int .i64 R.1.y, .int .i64 R.1.z, .int .i64 R.2], .bool true])∧Below w.heap.size w w':=by
 obtain⟨A0,A1,A2,c0,c1,c2,rfl,h0,h1,h2,h3,h4,h5⟩:=hv.out;obtain⟨B0,B1,B2,d0,d1,d2,rfl,g0,g1,g2,g3,g4,g5⟩:=hu.out;obtain⟨p0,pr,rfl⟩:=List.exists_cons_of_ne_nil m.p0;obtain⟨q0,qr,rfl⟩:=List.exists_cons_of_ne_nil k.p0;subst hR;exact(callsIn_wide (n:=20)).1 (apart_in 20 (by decide) p0 pr a e r q0 qr b f s A0 A1 A2 B0 B1 B2 c0 c1 c2 d0 d1 d2 w h0 h1 h2 g0 g1 g2 (by simpa using h3) h4 h5 (by simpa using g3) g4 g5 (by simpa using m.p1) m.a1 m.e1 (by simpa using k.p1) k.a1 k.e1 m.r0 m.r1 k.r0 k.r1 m.pf k.pf m.af k.af m.ef k.ef _ rfl)
theorem Rd_one {w:World}{g:Nat}{x y z:Int}{t:TypeId}(h:w.heap[g]?=some (.cells #[.int .i64 x, .int .i64 y, .int .i64 z] t (0,0))):RdB w (some ⟨g,0,none⟩) [⟨x,y,z⟩]:=
 ⟨fun i p hp=>by
  match i with
  |0=>
   simp at hp
   subst hp
   exact⟨g,0,rfl,blk_lt h,(blk_cell h 0).trans rfl,(blk_cell h 1).trans rfl,(blk_cell h 2).trans rfl⟩
  |i+1=>simp at hp,fun _ ad e=>by cases e;exact blk_lt h⟩
/-- may's answer in every later world -/
def MaySays (w:World)(v:Value)(b:Bool):Prop:=∀w',Below w.heap.size w w'→Calls Tryz.prog 55 #[v] w' fun e w''=>e= .returned (.bool b)∧Below w'.heap.size w' w''
theorem MaySays.yes {w:World}{v:Value}{p a e:List P3}{r:Int}(h:CoreV w v p a e r)(m:MayP p a e r):MaySays w v true:=fun w' hb=>by
 obtain⟨A0,A1,A2,c0,c1,c2,rfl,h0,h1,h2,h3,h4,h5⟩:=(h.below hb).out;exact may_yes p a e r A0 A1 A2 c0 c1 c2 w' h0.1 h1.1 h2.1 h3 h4 h5 false false false (List.length_pos_iff.2 m.p0) m.p1 m.a1 m.e1 m.r0 m.r1 m.pf m.af m.ef
theorem apart_nob (v0 v1 v2 v3 u0 u1 u2 u3:Value)(w:World)(ha:MaySays w (.agg #[v0,v1,v2,v3]) true)(hb:MaySays w (.agg #[u0,u1,u2,u3]) false):
  Calls Tryz.prog 19 #[.agg #[v0,v1,v2,v3], .agg #[u0,u1,u2,u3]] w fun e w'=>e= .returned (.tuple #[.agg #[.int .i64 0, .int .i64 0, .int .i64 0, .int .i64 0], .bool false])∧Below w.heap.size w w':=by
 have HA:=Lh ha;have HB:=Lh hb;clear ha hb;have Hb0:=three1 w (.cells #[v0,v1,v2,v3] 35) (.cells #[u0,u1,u2,u3] 35) (.cells #[.int .i64 0, .int .i64 0, .int .i64 0, .int .i64 0] 60);have Hr0:=three2 w (.cells #[v0,v1,v2,v3] 35) (.cells #[u0,u1,u2,u3] 35) (.cells #[.int .i64 0, .int .i64 0, .int .i64 0, .int .i64 0] 60);have HW3:Below w.heap.size w (((w.alloc (.cells #[v0,v1,v2,v3] 35)).alloc (.cells #[u0,u1,u2,u3] 35)).alloc (.cells #[.int .i64 0, .int .i64 0, .int .i64 0, .int .i64 0] 60)):=(((Below.refl _ w).alloc (Nat.le_refl _) _).alloc (by simp) _).alloc (by simp;omega) _;have HB0:=Lh Hb0;have HR0:=Lh Hr0;clear Hb0 Hr0;go_enter Tryz.func19,Tryz.ntmps19;go_wp2_with fail;obtain⟨w3,hw3⟩:=nm_ (((w.alloc (.cells #[v0,v1,v2,v3] 35)).alloc (.cells #[u0,u1,u2,u3] 35)).alloc (.cells #[.int .i64 0, .int .i64 0, .int .i64 0, .int .i64 0] 60));rw[hw3]at HB0 HR0 HW3⊢;clear hw3;refine(HA.out _ HW3).mono ?_;rintro e w4 ⟨rfl,hb4⟩;have Hb4:=(hb4.block _ (blk_lt HB0.out)).trans HB0.out;have Hr4:=(hb4.block _ (blk_lt HR0.out)).trans HR0.out;have HW4:=bthen HW3 hb4;clear HB0 HR0 HW3 hb4;have x0:w4.cell? ⟨w.heap.size+1,0,none⟩=some u0:=(blk_cell Hb4 0).trans rfl;have x1:w4.cell? ⟨w.heap.size+1,1,none⟩=some u1:=(blk_cell Hb4 1).trans rfl;have x2:w4.cell? ⟨w.heap.size+1,2,none⟩=some u2:=(blk_cell Hb4 2).trans rfl;have x3:w4.cell? ⟨w.heap.size+1,3,none⟩=some u3:=(blk_cell Hb4 3).trans rfl;go_wp2_with fail;refine(HB.out _ HW4).mono ?_;rintro e w5 ⟨rfl,hb5⟩;have Hr5:=(hb5.block _ (blk_lt Hr4)).trans Hr4;have HW5:=bthen HW4 hb5;clear Hb4 Hr4 HW4 hb5 x0 x1 x2 x3;obtain⟨v0,v1,v2,v3,_⟩:=f4_ (w.heap.size+1+1) Hr5;obtain⟨f0,f1,f2,f3⟩:=z4_ (w.heap.size+1+1) Hr5;obtain⟨V,hV⟩:=nm_ (set4 w5 (w.heap.size+1+1) (.int .i64 0) (.int .i64 0) (.int .i64 0) (.int .i64 0));have HV:V.heap[w.heap.size+1+1]?=some (.cells #[.int .i64 0, .int .i64 0, .int .i64 0, .int .i64 0] 60 (0,0)):=by rw[←hV];exact blk4_set Hr5 _ _ _ _
 have HBV:Below w.heap.size w V:=by rw[←hV];exact below_set4 HW5 (by omega) _ _ _ _
 obtain⟨t0,t1,t2,t3,_⟩:=f4_ (w.heap.size+1+1) HV;go_wp2
 (try rw[hV])
 exact bodyPost_ret (v:= .tuple #[.agg #[.int .i64 0, .int .i64 0, .int .i64 0, .int .i64 0], .bool false]) (by simp[results,Tryz.results19,go_sem,t0,t1,t2,t3]) rfl ⟨rfl,HBV⟩
end Go.Proofs.YtckdhahceelckaaGreat.G
