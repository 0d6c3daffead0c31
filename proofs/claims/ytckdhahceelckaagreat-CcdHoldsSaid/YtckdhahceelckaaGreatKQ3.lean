/- What the laws of this claim lean on: contracts of functions and plain lemmas; no condition of its own (part 3: XN3, XN13, XN1, XW2, XW3, XW5). -/
import Derived.Test.YtckdhahceelckaaGreatKQ2
set_option maxHeartbeats 16000000
set_option maxRecDepth 100000
set_option linter.unusedVariables false
set_option linter.unusedSimpArgs false
namespace Go.Proofs.YtckdhahceelckaaGreat.G
open Go.RowKit Go.Proofs.YtckdhahceelckaaGreatW.PrintWords Go.Proofs.YtckdhahceelckaaGreatW.PrintLast Go.Proofs.YtckdhahceelckaaGreatW.PrintMore
attribute [local go_sem] max2_mx min2_mn max_two min_two max_three min_three max_four min_four
attribute [local go_sem high] eqA23
theorem mx_facts (a b:Int):a≤mx a b∧b≤mx a b∧(mx a b=a∨mx a b=b):=by unfold mx;split<;>omega
theorem mn_facts (a b:Int):mn a b≤a∧mn a b≤b∧(mn a b=a∨mn a b=b):=by unfold mn;split<;>omega
theorem far3_iff (n:Int)(p:P3)(hn:0≤n)(hn2:n≤9223372036854775807):far3 n p=false↔in3 n p:=by
 have hw:wrap64 (-n)= -n:=w64_id _ (by omega) (by omega);unfold far3 in3;rw[hw];obtain⟨a1,a2,a3⟩:=mx_facts p.x p.y;obtain⟨b1,b2,b3⟩:=mx_facts (mx p.x p.y) p.z;obtain⟨c1,c2,c3⟩:=mn_facts p.x p.y;obtain⟨d1,d2,d3⟩:=mn_facts (mn p.x p.y) p.z;simp only[Bool.or_eq_false_iff,decide_eq_false_iff_not];omega
def size3 (p:P3):Nat:=p.x.natAbs+p.y.natAbs+p.z.natAbs
theorem tdiv2_abs (x:Int):(x.tdiv 2).natAbs=x.natAbs / 2:=by rw[Int.natAbs_tdiv];rfl
theorem div3_in (n B:Int)(p:P3)(h:in3 B p):in3 B (div3 n p):=by
 obtain⟨h1,h2,h3,h4,h5,h6⟩:=h;have a:=tdiv_le p.x n B.natAbs (by omega);have b:=tdiv_le p.y n B.natAbs (by omega);have c:=tdiv_le p.z n B.natAbs (by omega);unfold in3 div3;simp only;omega
theorem div2_lt (p:P3)(h:far3 1048576 p=true):size3 (div3 2 p)<size3 p:=by
 have h':¬in3 1048576 p:=fun hi=>by rw[(far3_iff _ _ (by omega) (by omega)).2 hi]at h;cases h
 have a:=tdiv2_abs p.x;have b:=tdiv2_abs p.y;have c:=tdiv2_abs p.z;unfold in3 at h';unfold size3 div3;simp only;omega
def halve3 (p:P3):P3:=if h:far3 1048576 p=true then halve3 (div3 2 p)else p
termination_by size3 p
decreasing_by exact div2_lt p h
theorem div2_ne (p:P3)(h:far3 1048576 p=true):div3 2 p≠⟨0,0,0⟩:=by
 have h':¬in3 1048576 p:=fun hi=>by rw[(far3_iff _ _ (by omega) (by omega)).2 hi]at h;cases h
 have a:=tdiv2_abs p.x;have b:=tdiv2_abs p.y;have c:=tdiv2_abs p.z;intro e;unfold div3 at e;simp only[P3.mk.injEq]at e;unfold in3 at h';obtain⟨e1,e2,e3⟩:=e;rw[e1]at a;rw[e2]at b;rw[e3]at c;simp at a b c;omega
def short3 (p:P3):P3:=if far3 4398046511104 p=true∨p=⟨0,0,0⟩then⟨0,0,0⟩else bare3 (halve3 (bare3 p))
theorem bare3_ne (p:P3)(B:Nat)(h:p≠⟨0,0,0⟩):bare3 p≠⟨0,0,0⟩:=by
 have hg:=gcd3_pos p h;have d1:gcd3 p∣p.x:=Int.dvd_trans (by unfold gcd3;exact Int.gcd_dvd_left ..) (Int.gcd_dvd_left ..);have d2:gcd3 p∣p.y:=Int.dvd_trans (by unfold gcd3;exact Int.gcd_dvd_left ..) (Int.gcd_dvd_right ..);have d3:gcd3 p∣p.z:=by unfold gcd3;exact Int.gcd_dvd_right ..
 intro e;unfold bare3 div3 at e;simp only[P3.mk.injEq]at e;obtain⟨e1,e2,e3⟩:=e;apply h;have x0:=Int.tdiv_mul_cancel d1;have y0:=Int.tdiv_mul_cancel d2;have z0:=Int.tdiv_mul_cancel d3;rw[e1]at x0;rw[e2]at y0;rw[e3]at z0;cases p;simp at x0 y0 z0⊢;omega
theorem short_calls (x y z:Int)(w:World):
  Calls Tryz.prog 80 #[.agg #[.int .i64 x, .int .i64 y, .int .i64 z]] w fun e w'=>e= .returned (.agg #[.int .i64 (short3 ⟨x,y,z⟩).x, .int .i64 (short3 ⟨x,y,z⟩).y, .int .i64 (short3 ⟨x,y,z⟩).z])∧Below w.heap.size w w':=by
 have B1:=((C3.new w (.int .i64 x) (.int .i64 y) (.int .i64 z) 23).alloc (.cells #[.int .i64 0, .int .i64 0, .int .i64 0] 23));have B2:=(C3.new (w.alloc (.cells #[.int .i64 x, .int .i64 y, .int .i64 z] 23)) (.int .i64 0) (.int .i64 0) (.int .i64 0) 23);simp only[World.size_alloc]at B2;by_cases hf:far3 4398046511104 ⟨x,y,z⟩=true
 ·have hs:short3 ⟨x,y,z⟩=⟨0,0,0⟩:=by unfold short3;rw[if_pos (.inl hf)]
  rw[hs];clear hs;go_enter Tryz.func80,Tryz.ntmps80;go_wp2_with(go_at_call 124;refine(beyond_calls _ _ _ _ _ (by decide) (by decide)).mono ?_;rintro e w1 ⟨rfl,hb1⟩;rw[hf];have B2:=B2.below hb1;obtain⟨c20,c21,c22,f20,f21,f22⟩:=id B2);exact bodyPost_ret (v:= .agg #[.int .i64 0, .int .i64 0, .int .i64 0]) (by simp[results,Tryz.results80,go_sem,c20,c21,c22]) rfl ⟨rfl,(((((Below.refl _ w).alloc (Nat.le_refl _) _).alloc (by simp) _).trans (hb1.mono (by simp;omega))).setCell (by simp) _).setCell (by simp) _ |>.setCell (by simp) _⟩
 ·have hf':far3 4398046511104 ⟨x,y,z⟩=false:=by simpa using hf
  obtain⟨hx1,hx2,hy1,hy2,hz1,hz2⟩:=(far3_iff _ _ (by decide) (by decide)).1 hf';simp only at hx1 hx2 hy1 hy2 hz1 hz2;by_cases hp:(⟨x,y,z⟩:P3)=⟨0,0,0⟩
  ·have hs:short3 ⟨x,y,z⟩=⟨0,0,0⟩:=by unfold short3;rw[if_pos (.inr hp)]
   rw[hs];clear hs;simp only[P3.mk.injEq]at hp;obtain⟨rfl,rfl,rfl⟩:=hp;have he0:eqP 0 0 0 0 0 0=true:=by decide
   go_enter Tryz.func80,Tryz.ntmps80;go_wp2_with(go_at_call 124;refine(beyond_calls _ _ _ _ _ (by decide) (by decide)).mono ?_;rintro e w1 ⟨rfl,hb1⟩;rw[hf'];have B1:=B1.below hb1;obtain⟨c10,c11,c12,f10,f11,f12⟩:=id B1;have B2:=B2.below hb1;obtain⟨c20,c21,c22,f20,f21,f22⟩:=id B2);exact bodyPost_ret (v:= .agg #[.int .i64 0, .int .i64 0, .int .i64 0]) (by simp[results,Tryz.results80,go_sem,c20,c21,c22]) rfl ⟨rfl,(((((Below.refl _ w).alloc (Nat.le_refl _) _).alloc (by simp) _).trans (hb1.mono (by simp;omega))).setCell (by simp) _).setCell (by simp) _ |>.setCell (by simp) _⟩
  ·have hs:short3 ⟨x,y,z⟩=bare3 (halve3 (bare3 ⟨x,y,z⟩)):=by unfold short3;rw[if_neg (by simp[hf',hp])]
   rw[hs];clear hs;go_enter Tryz.func80,Tryz.ntmps80;have HP:=Lh hp;have he0:=eqP_no hp;clear hp hf
   go_wp2_with(first
    |(go_at_call 124;refine(beyond_calls _ _ _ _ _ (by decide) (by decide)).mono ?_;rintro e w1 ⟨rfl,hb1⟩;rw[hf'];have B1:=B1.below hb1;obtain⟨c10,c11,c12,f10,f11,f12⟩:=id B1;have B2:=B2.below hb1)
    |(go_at_call 125;refine(bare_calls _ _ _ _ HP.out ?_ ?_ ?_ ?_ ?_ ?_).mono ?_;omega;omega;omega;omega;omega;omega;rintro e w2 ⟨rfl,hb2⟩;have B1:=B1.below hb2;obtain⟨c10,c11,c12,f10,f11,f12⟩:=id B1;have B2:=B2.below hb2))
   have hB:Below w.heap.size w w2:=(((Below.refl _ w).alloc (Nat.le_refl _) _).alloc (by simp) _).trans ((hb1.mono (by simp;omega)).trans (hb2.mono (by have:=hb1.size;simp at this;omega)));have hB:=below_set3 hB (Nat.le_refl w.heap.size) (.int .i64 (bare3 ⟨x,y,z⟩).x) (.int .i64 (bare3 ⟨x,y,z⟩).y) (.int .i64 (bare3 ⟨x,y,z⟩).z);have B2:=B2.other (g':=w.heap.size) (by omega) (.int .i64 (bare3 ⟨x,y,z⟩).x) (.int .i64 (bare3 ⟨x,y,z⟩).y) (.int .i64 (bare3 ⟨x,y,z⟩).z);have B1:=B1.set (.int .i64 (bare3 ⟨x,y,z⟩).x) (.int .i64 (bare3 ⟨x,y,z⟩).y) (.int .i64 (bare3 ⟨x,y,z⟩).z);have hin:=div3_in (gcd3 ⟨x,y,z⟩) 4398046511104 ⟨x,y,z⟩ ⟨hx1,hx2,hy1,hy2,hz1,hz2⟩;have hne:=bare3_ne _ 0 HP.out;change in3 4398046511104 (bare3 ⟨x,y,z⟩)at hin;unfold set3 at B1 B2 hB;obtain⟨q,hq⟩:=nm_ (bare3 ⟨x,y,z⟩);rw[hq]at B1 B2 hB hin hne⊢;generalize((w2.setCell {block:=w.heap.size,off:=0} (Value.int IntKind.i64 q.x)).setCell {block:=w.heap.size,off:=1} (Value.int IntKind.i64 q.y)).setCell {block:=w.heap.size,off:=2} (Value.int IntKind.i64 q.z)=w3 at B1 B2 hB⊢;have HQ:=Lh hq;clear hq he0 HP hb1 hb2 c10 c11 c12 f10 f11 f12
   go_loopg [] (size3 q) (fun kq wr=>∃r:P3,Hid (kq=size3 r)∧Hid (halve3 r=halve3 q)∧Hid (in3 4398046511104 r)∧Hid (r≠⟨0,0,0⟩)∧Hid (C3 wr w.heap.size (.int .i64 r.x) (.int .i64 r.y) (.int .i64 r.z))∧Hid (C3 wr (w.heap.size+1) (.int .i64 0) (.int .i64 0) (.int .i64 0))∧Hid (Below w.heap.size w wr))
   case atStart=>exact⟨q,rfl,rfl,hin,hne,B1,B2,hB⟩
   case round=>
    obtain⟨r,h1,h2,h3,h4,h5,h6,h7⟩:=hrel;obtain⟨hx1,hx2,hy1,hy2,hz1,hz2⟩:=h3.out;obtain⟨rx,ry,rz⟩:=r;dsimp only at h5 hx1 hx2 hy1 hy2 hz1 hz2;obtain⟨c10,c11,c12,f10,f11,f12⟩:=id h5.out
    cases hf:far3 1048576 ⟨rx,ry,rz⟩with
    |true=>
     have e1:halve3 ⟨rx,ry,rz⟩=halve3 (div3 2 ⟨rx,ry,rz⟩):=by rw[halve3,dif_pos hf]
     have e2:Hid (size3 (div3 2 ⟨rx,ry,rz⟩)<gk):=by rw[h1.out];exact div2_lt _ hf
     have e3:=Lh (div3_in 2 4398046511104 _ h3.out);have e4:=Lh (div2_ne _ hf);have E1:Hid (halve3 (div3 2 ⟨rx,ry,rz⟩)=halve3 q):=e1.symm.trans h2.out;clear e1
     go_wp2_with(first
      |(go_at_call 124;refine(beyond_calls _ _ _ _ _ (by decide) (by decide)).mono ?_;rintro e w4 ⟨rfl,hb4⟩;rw[hf];have C1:=Lh (h5.below hb4);have C2:=Lh (h6.below hb4);obtain⟨c10,c11,c12,f10,f11,f12⟩:=id C1.out)
      |(go_at_call 126;refine(divisor_calls _ _ _ _ _ ?_ ?_ ?_ ?_ ?_ ?_ ?_ ?_).mono ?_;omega;omega;omega;omega;omega;omega;omega;omega;rintro e w5 ⟨rfl,hb5⟩;have D1:=Lh (C1.below hb5);have D2:=Lh (C2.below hb5);obtain⟨c10,c11,c12,f10,f11,f12⟩:=id D1.out))
     go_roundg (size3 (div3 2 ⟨rx,ry,rz⟩))
     case measure=>exact e2.out
     case rel=>exact⟨div3 2 ⟨rx,ry,rz⟩,rfl,E1,e3,e4,D1.out.set _ _ _,D2.out.other (by omega) _ _ _,below_set3 (h7.trans ((hb4.mono h7.size).trans (hb5.mono (Nat.le_trans h7.size hb4.size)))) (Nat.le_refl _) _ _ _⟩
    |false=>
     have e1:halve3 ⟨rx,ry,rz⟩=⟨rx,ry,rz⟩:=by rw[halve3,dif_neg (by rw[hf];simp)]
     have E1:Hid (halve3 q=⟨rx,ry,rz⟩):=h2.out.symm.trans e1;clear e1;have H4:=h4.out
     go_wp2_with(first
      |(go_at_call 124;refine(beyond_calls _ _ _ _ _ (by decide) (by decide)).mono ?_;rintro e w4 ⟨rfl,hb4⟩;rw[hf];have C1:=Lh (h5.below hb4);have C2:=Lh (h6.below hb4);obtain⟨c10,c11,c12,f10,f11,f12⟩:=id C1.out)
      |(go_at_call 125;refine(bare_calls _ _ _ _ h4.out ?_ ?_ ?_ ?_ ?_ ?_).mono ?_;omega;omega;omega;omega;omega;omega;rintro e w5 ⟨rfl,hb5⟩;have D2:=Lh (C2.below hb5);obtain⟨c20,c21,c22,f20,f21,f22⟩:=id D2.out))
     rw[HQ.out,E1.out];exact bodyPost_ret (v:= .agg #[.int .i64 (bare3 ⟨rx,ry,rz⟩).x, .int .i64 (bare3 ⟨rx,ry,rz⟩).y, .int .i64 (bare3 ⟨rx,ry,rz⟩).z]) (by simp[results,Tryz.results80,go_sem,c20,c21,c22]) rfl ⟨rfl,below_set3 (h7.trans ((hb4.mono h7.size).trans (hb5.mono (Nat.le_trans h7.size hb4.size)))) (by omega) _ _ _⟩
def csz (n0 n1 k:Nat):Nat:=if k=0 then 0 else if k=1 then n0 else n0+n1
def cpt (l0 l1:List P3)(k:Nat):List P3:=if k=0 then[]else if k=1 then l0 else l0++l1
def PtsPost (l:List P3)(w:World)(e:Ending)(w':World):Prop:=∃A c,e= .returned (.slice A l.length c)∧l.length≤c∧Rd w' A l∧Below w.heap.size w w'∧(∀ad,A=some ad→w.heap.size≤ad.block)
theorem concat_calls (l0 l1:List P3)(n0 n1:Nat)(A0 A1:Option Addr)(c0 c1 g:Nat)(w:World)(hn0:l0.length=n0)(hn1:l1.length=n1)(hg0:w.cell? ⟨g,0,none⟩=some (.slice A0 n0 c0))(hg1:w.cell? ⟨g,1,none⟩=some (.slice A1 n1 c1))(h0:Rd w A0 l0)(h1:Rd w A1 l1)(hb0:n0≤40000)(hb1:n1≤40000):
  Calls Tryz.prog 107 #[.slice (some ⟨g,0,none⟩) 2 2] w (PtsPost (l0++l1) w):=by
 have H0:=Lh h0;have H1:=Lh h1;have N0:=Lh hn0;have N1:=Lh hn1;have hgl:=World.block_lt_of_cell? w _ hg0;have HG0:=Lh hg0;have HG1:=Lh hg1;clear h0 h1 hn0 hn1 hg0 hg1;go_enter Tryz.func107,Tryz.ntmps107;go_wp2;go_loopw [3,5,11] (fun v3 v5 v11 wr=>∃k:Nat,k≤2∧v11= .int .i64 k∧v3= .int .i64 (csz n0 n1 k)∧Below w.heap.size w wr) (fun _ _ i _=>2-(intOf i).toNat)
 case atStart=>exact⟨0,by omega,rfl,rfl,Below.refl _ _⟩
 case round=>
  obtain⟨k,hk,rfl,rfl,hbr⟩:=hrel;have e0:=(hbr.cell (p:=⟨g,0,none⟩) hgl).trans HG0.out;have e1:=(hbr.cell (p:=⟨g,1,none⟩) hgl).trans HG1.out;have hc:k=0∨k=1∨k=2:=by omega
  rcases hc with rfl|rfl|rfl
  ·simp only[csz,if_true];go_wp2
   go_roundw
   case rel=>exact⟨1,by omega,rfl,by simp[csz],hbr⟩
   case measure=>simp[intOf]
  ·simp only[csz,if_true,if_neg (show ¬(1:Nat)=0 by omega)];go_wp2
   go_roundw
   case rel=>exact⟨2,by omega,rfl,by simp[csz],hbr⟩
   case measure=>simp[intOf]
  ·simp only[csz,if_neg (show ¬(2:Nat)=0 by omega),if_neg (show ¬(2:Nat)=1 by omega)];clear e0 e1;go_wp2_with fail;have hgr:=grow_calls (n0+n1) wr (by omega);rw[Int.natCast_add]at hgr;refine hgr.mono ?_;rintro e w2 ⟨v,rfl,hv,hb2⟩;have hB2:Below w.heap.size w w2:=bthen hbr hb2;have hv0:OwnP w2 w.heap.size v []:=own_weaken hv hbr.size;clear hgr hv hb2;go_wp2;clear hbr;go_loopw [6,8,27] (fun v6 v8 v27 wr=>∃k:Nat,k≤2∧v27= .int .i64 k∧Hid (OwnP wr w.heap.size v6 (cpt l0 l1 k))∧Hid (Below w.heap.size w wr)) (fun _ _ i _=>2-(intOf i).toNat)
   case atStart=>exact⟨0,by omega,rfl,hv0,hB2⟩
   case round=>
    clear hv0 hB2;obtain⟨k,hk,rfl,hv,hbr⟩:=hrel;have hbr2:=hbr.out;have e0:=(hbr2.cell (p:=⟨g,0,none⟩) hgl).trans HG0.out;have e1:=(hbr2.cell (p:=⟨g,1,none⟩) hgl).trans HG1.out;have hc:k=0∨k=1∨k=2:=by omega
    rcases hc with rfl|rfl|rfl
    ·go_wp2_with(at_builtin;refine append_pts w.heap.size rfl _ _ rfl _ [] l0 A0 _ _ rfl rfl hv.out (H0.below hbr2) N0.out (by simp;omega) hbr2.size ?_;intro v2 w3 hv2 hg2)
     go_roundw
     case rel=>exact⟨1,by omega,rfl,hv2,hbr2.grown hg2 hbr2.size (fun k hk=>hv.base_ k hk)⟩
     case measure=>simp[intOf]
    ·go_wp2_with(at_builtin;refine append_pts w.heap.size rfl _ _ rfl _ l0 l1 A1 _ _ rfl rfl hv.out (H1.below hbr2) N1.out (by rw[N0.out];omega) hbr2.size ?_;intro v2 w3 hv2 hg2)
     go_roundw
     case rel=>exact⟨2,by omega,rfl,hv2,hbr2.grown hg2 hbr2.size (fun k hk=>hv.base_ k hk)⟩
     case measure=>simp[intOf]
    ·clear e0 e1;go_wp2
     go_ret
     obtain⟨A,c,rfl,hlc,hrd,hbs⟩:=hv.rd;exact⟨A,c,rfl,hlc,hrd,hbr2,hbs⟩
end Go.Proofs.YtckdhahceelckaaGreat.G
namespace Go.Proofs.YtckdhahceelckaaGreat.G
open Go.RowKit Go.Proofs.YtckdhahceelckaaGreatW.PrintWords Go.Proofs.YtckdhahceelckaaGreatW.PrintLast Go.Proofs.YtckdhahceelckaaGreatW.PrintMore
attribute [local go_sem] max2_mx min2_mn max_two min_two max_three min_three max_four min_four
theorem dot_calls (x y z a b c:Int)(w:World):
  Calls Tryz.prog 146 #[.agg #[.int .i64 x, .int .i64 y, .int .i64 z], .agg #[.int .i64 a, .int .i64 b, .int .i64 c]] w fun e w'=>e= .returned (.int .i64 (dot3 ⟨x,y,z⟩ ⟨a,b,c⟩))∧Below w.heap.size w w':=by
 go_enter Tryz.func146,Tryz.ntmps146;go_wp2
 go_ret
 exact⟨rfl,((Below.refl _ _).alloc (Nat.le_refl _) _).alloc (by simp) _⟩
theorem minus_calls (x y z a b c:Int)(w:World):
  Calls Tryz.prog 59 #[.agg #[.int .i64 x, .int .i64 y, .int .i64 z], .agg #[.int .i64 a, .int .i64 b, .int .i64 c]] w fun e w'=>e= .returned (.agg #[.int .i64 (minus3 ⟨x,y,z⟩ ⟨a,b,c⟩).x, .int .i64 (minus3 ⟨x,y,z⟩ ⟨a,b,c⟩).y, .int .i64 (minus3 ⟨x,y,z⟩ ⟨a,b,c⟩).z])∧Below w.heap.size w w':=by
 go_enter Tryz.func59,Tryz.ntmps59;go_wp2;exact bodyPost_ret (v:= .agg #[.int .i64 (minus3 ⟨x,y,z⟩ ⟨a,b,c⟩).x, .int .i64 (minus3 ⟨x,y,z⟩ ⟨a,b,c⟩).y, .int .i64 (minus3 ⟨x,y,z⟩ ⟨a,b,c⟩).z]) (by simp[results,Tryz.results59,go_sem,minus3]) rfl ⟨rfl,(by repeat (first|exact Below.refl _ _|refine Below.setCell ?_ (by simp<;>omega) _|refine Below.alloc ?_ (by simp<;>omega) _|refine Below.drew ?_))⟩
theorem cross_calls (x y z a b c:Int)(w:World):
  Calls Tryz.prog 108 #[.agg #[.int .i64 x, .int .i64 y, .int .i64 z], .agg #[.int .i64 a, .int .i64 b, .int .i64 c]] w fun e w'=>e= .returned (.agg #[.int .i64 (cross3 ⟨x,y,z⟩ ⟨a,b,c⟩).x, .int .i64 (cross3 ⟨x,y,z⟩ ⟨a,b,c⟩).y, .int .i64 (cross3 ⟨x,y,z⟩ ⟨a,b,c⟩).z])∧Below w.heap.size w w':=by
 go_enter Tryz.func108,Tryz.ntmps108;go_wp2;exact bodyPost_ret (v:= .agg #[.int .i64 (cross3 ⟨x,y,z⟩ ⟨a,b,c⟩).x, .int .i64 (cross3 ⟨x,y,z⟩ ⟨a,b,c⟩).y, .int .i64 (cross3 ⟨x,y,z⟩ ⟨a,b,c⟩).z]) (by simp[results,Tryz.results108,go_sem,cross3]) rfl ⟨rfl,(by repeat (first|exact Below.refl _ _|refine Below.setCell ?_ (by simp<;>omega) _|refine Below.alloc ?_ (by simp<;>omega) _|refine Below.drew ?_))⟩
def rstep (n:P3)(s:Int×Int)(p:P3):Int×Int:=(mn s.1 (dot3 n p),mx s.2 (dot3 n p))
def reachF (n p0:P3)(r:List P3):Int×Int:=r.foldl (rstep n) (dot3 n p0,dot3 n p0)
theorem reachF_snoc (n p0:P3)(r:List P3)(k:Nat)(h:k<r.length):reachF n p0 (r.take (k+1))=rstep n (reachF n p0 (r.take k)) r[k]:=by
 unfold reachF;rw[List.take_succ_eq_append_getElem h,List.foldl_append];rfl
theorem reach_calls (p0:P3)(r:List P3)(A:Option Addr)(c:Nat)(x y z:Int)(w:World)(hr:Rd w A (p0::r))(hc:r.length+1≤c)(hm:r.length<9223372036854775807):
  Calls Tryz.prog 109 #[.slice A (r.length+1) c, .agg #[.int .i64 x, .int .i64 y, .int .i64 z]] w fun e w'=>e= .returned (.tuple #[.int .i64 (reachF ⟨x,y,z⟩ p0 r).1, .int .i64 (reachF ⟨x,y,z⟩ p0 r).2])∧Below w.heap.size w w':=by
 obtain⟨b,o,rfl,hlt,h1,h2,h3⟩:=hr.get 0 (by simp);simp only[Nat.zero_mul,Nat.add_zero,List.getElem_cons_zero]at h1 h2 h3;have hl0':(0:Int)<(r.length:Int)+1:=by omega
 have hl1':(1:Int)≤(r.length:Int)+1:=by omega
 have hR:=Lh hr;clear hr;obtain⟨i0,hi0,_,hsz0,_⟩:=info_parts info23;obtain⟨A',hA',hcut⟩:∃A':Option Addr,(0<r.length→A'=some ⟨b,o+3,none⟩)∧∀W:World,(Instr.slice 24 (.slice (some ⟨b,o,none⟩) (r.length+1) c) (some (.int .i64 1)) none none).run Tryz.prog W= .ok (.slice A' r.length (c-1)) W:=
  ⟨_,fun h=>if_neg (by omega),fun W=>cut_from (P:=Tryz.prog) 24 23 .i64 Tryz.underlying24 hi0 3 hsz0 (some ⟨b,o,none⟩) (r.length+1) c 1 (by omega) (by omega) W⟩
 go_enter Tryz.func109,Tryz.ntmps109;go_wp2
 go_region_held3 (fun w'=>w'.cell? ⟨w.heap.size,0,none⟩=some (.int .i64 x)∧w'.cell? ⟨w.heap.size,1,none⟩=some (.int .i64 y)∧w'.cell? ⟨w.heap.size,2,none⟩=some (.int .i64 z)∧w'.cell? ⟨b,o,none⟩=some (.int .i64 p0.x)∧w'.cell? ⟨b,o+1,none⟩=some (.int .i64 p0.y)∧w'.cell? ⟨b,o+2,none⟩=some (.int .i64 p0.z))
  (((try dsimp only);(repeat' apply And.intro)<;>first|(go_keep;done)|(rw[hc1 _ _ (by simp<;>omega)];simp[*];done)))
  ((go_at_call 146;refine(dot_calls _ _ _ _ _ _ _).mono ?_;rintro e w1 ⟨rfl,hb⟩;obtain⟨hc1,hf1⟩:=bcell hb))
 have hB:Below w.heap.size w w1:=(((Below.refl _ w).alloc (Nat.le_refl _) _).drew).trans (hb.mono (by simp));clear hc1 hf1;go_wp2;obtain⟨D,hD⟩:=nm_ (dot3 ⟨x,y,z⟩ p0);have hD':dot3 ⟨x,y,z⟩ ⟨p0.x,p0.y,p0.z⟩=D:=hD;simp only[hD'];obtain⟨g1,g2,g3,_⟩:= ‹w1.cell? ⟨w.heap.size,0,none⟩=some (.int .i64 x)∧w1.cell? ⟨w.heap.size,1,none⟩=some (.int .i64 y)∧w1.cell? ⟨w.heap.size,2,none⟩=some (.int .i64 z)∧_›;have hsz:w.heap.size<w1.heap.size:=by have:=hb.size;simp at this;omega
 go_loopw [4,5,18] (fun v4 v5 v18 wr=>∃k:Nat,k≤r.length∧v18= .int .i64 k∧v4= .int .i64 (reachF ⟨x,y,z⟩ p0 (r.take k)).1∧v5= .int .i64 (reachF ⟨x,y,z⟩ p0 (r.take k)).2∧Below w1.heap.size w1 wr) (fun _ _ i _=>r.length-(intOf i).toNat)
 case atStart=>exact⟨0,Nat.zero_le _,rfl,by simp[reachF,←hD],by simp[reachF,←hD],Below.refl _ _⟩
 case round=>
  obtain⟨k,hk,rfl,rfl,rfl,hbr⟩:=hrel;obtain⟨hcr,hfr⟩:=bcell hbr;have q1:=(hcr _ 0 hsz).trans g1;have q2:=(hcr _ 1 hsz).trans g2;have q3:=(hcr _ 2 hsz).trans g3;have hszr:w.heap.size<wr.heap.size:=Nat.lt_of_lt_of_le hsz hbr.size;have hbB:Below w.heap.size w wr:=hB.trans (hbr.mono (by omega));clear hcr hfr g1 g2 g3 hb hD hD' h1 h2 h3;by_cases hlt2:k<r.length
  ·obtain rfl:=hA' (by omega);obtain⟨b',o',hA,_,h1,h2,h3⟩:=hR.out.get (k+1) (by simp;omega);simp only[Option.some.injEq,Addr.mk.injEq,and_true]at hA;obtain⟨rfl,rfl⟩:=hA;simp only[List.getElem_cons_succ,show o+(k+1)*3=o+3+k*3 from by omega]at h1 h2 h3;have e1:=(hbB.cell (p:=⟨b,o+3+k*3,none⟩) hlt).trans h1;have e2:=(hbB.cell (p:=⟨b,o+3+k*3+1,none⟩) hlt).trans h2;have e3:=(hbB.cell (p:=⟨b,o+3+k*3+2,none⟩) hlt).trans h3;clear h1 h2 h3;have hS:=Lh (reachF_snoc ⟨x,y,z⟩ p0 r k hlt2);go_wp2_with(go_at_call 146;refine(dot_calls _ _ _ _ _ _ _).mono ?_;rintro e w3 ⟨rfl,hb3⟩)
   go_roundw
   case rel=>exact⟨k+1,by omega,by go_num,by rw[hS.out];rfl,by rw[hS.out];rfl,hbr.trans ((((Below.refl _ wr).alloc hbr.size _)).trans (hb3.mono (by simp;have:=hbr.size;omega)))⟩
   case measure=>simp[intOf];omega
  ·obtain rfl:k=r.length:=by omega
   go_wp2
   go_ret2
   exact⟨by simp,hbB⟩
end Go.Proofs.YtckdhahceelckaaGreat.G
namespace Go.Proofs.YtckdhahceelckaaGreat.G
theorem two_pos (n:Nat):(0:Int)<2^n:=Int.pow_pos (by decide)
theorem two_succ (n:Nat):(2:Int)^(n+1)=2*2^n:=by rw[Int.pow_succ,Int.mul_comm]
/-- the bit of round j out of n -/
def bitOf (n j:Nat):Int:=if j<n then 2^(n-1-j)else 0
theorem bitOf_half (n j:Nat)(h:j<n):bitOf n j / 2=bitOf n (j+1):=by
 unfold bitOf;rw[if_pos h];by_cases h2:j+1<n
 ·rw[if_pos h2,show n-1-j=(n-1-(j+1))+1 by omega,two_succ];omega
 ·rw[if_neg h2,show n-1-j=0 by omega];decide
theorem bitOf_pos (n j:Nat)(h:j<n):0<bitOf n j:=by unfold bitOf;rw[if_pos h];exact two_pos _
theorem bitOf_le (n j:Nat):bitOf n j≤2^(n-1)∧0≤bitOf n j:=by
 unfold bitOf;split
 ·refine⟨?_,Int.le_of_lt (two_pos _)⟩;have:(2:Int)^(n-1)=2^(n-1-j)*2^j:=by rw[←Int.pow_add,show n-1-j+j=n-1 by omega]
  rw[this];have h1:=two_pos j;have:=Int.mul_le_mul_of_nonneg_left (show 1≤(2:Int)^j by omega) (Int.le_of_lt (two_pos (n-1-j)));omega
 ·exact⟨Int.le_of_lt (two_pos _),Int.le_refl _⟩
/-- j bits of digit d are done, D stands above it -/
def DivI (D d c:Int)(j:Nat)(q r:Int):Prop:=0≤q∧0≤r∧r<c∧q*c+r=D*2^j+d / 2^(24-j)
theorem DivI.start {D d c q r:Int}(hq:0≤q)(hr:0≤r)(hc:r<c)(h:q*c+r=D)(h0:0≤d)(h1:d<16777216):DivI D d c 0 q r:=
 ⟨hq,hr,hc,by rw[h,show(2:Int)^(24-0)=16777216 by decide,Int.ediv_eq_zero_of_lt h0 h1];simp⟩
theorem DivI.next {D d c q r:Int}{j:Nat}(hj:j<24)(h:DivI D d c j q r):2*q*c+(2*r+d / bitOf 24 j%2)=D*2^(j+1)+d / 2^(24-(j+1)):=by
 obtain⟨h1,h2,h3,h4⟩:=h;unfold bitOf;rw[if_pos hj,show 24-1-j=24-(j+1) by omega];have e:d / 2^(24-(j+1)) / 2=d / 2^(24-j):=by
  have e0:(2:Int)^(24-j)=2^(24-(j+1))*2:=by rw[show 24-j=(24-(j+1))+1 by omega,Int.pow_succ]
  rw[Int.ediv_ediv_of_nonneg (Int.le_of_lt (two_pos _)),e0]
 have e2:=Int.mul_ediv_add_emod (d / 2^(24-(j+1))) 2;rw[e]at e2;rw[two_succ];generalize d / 2^(24-(j+1))%2=b at*;generalize d / 2^(24-(j+1))=x at*;generalize d / 2^(24-j)=y at*;generalize(2:Int)^j=p at*;grind
theorem DivI.step0 {D d c q r:Int}{j:Nat}(hj:j<24)(h:DivI D d c j q r)(hn:2*r+d / bitOf 24 j%2<c):DivI D d c (j+1) (2*q) (2*r+d / bitOf 24 j%2):=by
 have h4:=h.next hj;obtain⟨h1,h2,h3,_⟩:=h;have:=Int.emod_nonneg (d / bitOf 24 j) (show(2:Int)≠0 by decide);exact⟨by omega,by omega,hn,h4⟩
theorem DivI.step1 {D d c q r:Int}{j:Nat}(hj:j<24)(h:DivI D d c j q r)(hn:c≤2*r+d / bitOf 24 j%2):DivI D d c (j+1) (2*q+1) (2*r+d / bitOf 24 j%2-c):=by
 have h4:=h.next hj;obtain⟨h1,h2,h3,_⟩:=h;have:=Int.emod_lt_of_pos (d / bitOf 24 j) (show(0:Int)<2 by decide);refine⟨by omega,by omega,by omega,?_⟩;rw[←h4];grind
theorem DivI.done {D d c q r:Int}(h:DivI D d c 24 q r):0≤q∧0≤r∧r<c∧q*c+r=d+16777216*D:=by
 obtain⟨h1,h2,h3,h4⟩:=h;refine⟨h1,h2,h3,?_⟩;rw[h4,show(2:Int)^24=16777216 by decide,show 24-24=0 by rfl,Int.pow_zero,Int.ediv_one];omega
/-- what is left fits: the quotient so far is at most half of the greatest one -/
theorem DivI.small {D d c q r M S:Int}{j:Nat}(hj:j<24)(h:DivI D d c j q r)(hD:0≤D)(hd:0≤d)(hM:d+16777216*D≤M)(hS:M<(S+1)*c):2*q≤S:=by
 obtain⟨h1,h2,h3,h4⟩:=h;have a:d / 2^(24-j)*2≤d:=by
  have e:(2:Int)^(24-j)=2*2^(23-j):=by rw[←two_succ,show 23-j+1=24-j by omega]
  rw[e,←Int.ediv_ediv_of_nonneg (by decide)];have p:=two_pos (23-j);have b:d / 2 / 2^(23-j)≤d / 2:=Int.ediv_le_self _ (by omega);omega
 have b:D*2^j*2≤16777216*D:=by
  have e:(16777216:Int)=2^(j+1)*2^(23-j):=by rw[←Int.pow_add,show j+1+(23-j)=24 by omega];decide
  have p:=two_pos (23-j);have k:D*2^(j+1)*1≤D*2^(j+1)*2^(23-j):=Int.mul_le_mul_of_nonneg_left (by omega) (Int.mul_nonneg hD (Int.le_of_lt (two_pos _)));rw[e];rw[two_succ]at*;generalize(2:Int)^(23-j)=x at*;generalize(2:Int)^j=y at*;grind
 have hc:0<c:=by omega
 have k:2*q*c<(S+1)*c:=by
  have e:2*q*c=2*(q*c):=by grind
  omega
 have:=Int.lt_of_mul_lt_mul_right k (Int.le_of_lt hc);omega
theorem divEnd {M c q r:Int}(hq:0≤q)(hr:0≤r)(hc:r<c)(h:q*c+r=M):q=M / c∧r=M%c:=by
 have hp:0<c:=by omega
 have e:M / c=q:=by
  rw[←h,Int.add_comm,Int.add_mul_ediv_right _ _ (by omega),Int.ediv_eq_zero_of_lt hr hc];omega
 refine⟨e.symm,?_⟩;have:=Int.mul_ediv_add_emod M c;rw[e]at this;have:c*q=q*c:=Int.mul_comm ..;omega
/-- the floor of a wide number's quotient, c above 0 -/
theorem floor_neg (M c:Int)(hc:0<c):(-M) / c=if M%c>0 then-(M / c+1)else-(M / c):=by
 have e:=Int.mul_ediv_add_emod M c;have h1:=Int.emod_nonneg M (show c≠0 by omega);have h2:=Int.emod_lt_of_pos M hc;split
 ·have: -M=(c-M%c)+ -(M / c+1)*c:=by grind
  rw[this,Int.add_mul_ediv_right _ _ (by omega),Int.ediv_eq_zero_of_lt (by omega) (by omega)];omega
 ·have: -M=0+ -(M / c)*c:=by grind
  rw[this,Int.add_mul_ediv_right _ _ (by omega),Int.zero_ediv];omega
def RootI (a:Int)(j:Nat)(r:Int):Prop:=0≤r∧r≤2^62-2^(62-j)∧r*r≤a∧a<(r+2^(62-j))*(r+2^(62-j))
theorem RootI.start {a:Int}(h0:0≤a)(h1:a<2^124):RootI a 0 0:=⟨by decide,by decide,by simpa using h0,by
 have:((0:Int)+2^(62-0))*(0+2^(62-0))=2^124:=by decide
 rw[this];exact h1⟩
theorem RootI.bit {a r:Int}{j:Nat}(hj:j<62)(h:RootI a j r):0≤r+bitOf 62 j∧r+bitOf 62 j≤4611686018427387904-bitOf 62 j∧0<bitOf 62 j:=by
 obtain⟨h1,h2,h3,h4⟩:=h;have e:bitOf 62 j=2^(61-j):=by unfold bitOf;rw[if_pos hj]
 have e2:(2:Int)^(62-j)=2*2^(61-j):=by rw[←two_succ,show 61-j+1=62-j by omega]
 have p:=two_pos (61-j);rw[e2,show(2:Int)^62=4611686018427387904 by decide]at h2;rw[e];exact⟨by omega,by omega,p⟩
theorem RootI.yes {a r:Int}{j:Nat}(hj:j<62)(h:RootI a j r)(hn:(r+bitOf 62 j)*(r+bitOf 62 j)≤a):RootI a (j+1) (r+bitOf 62 j):=by
 obtain⟨h1,h2,h3,h4⟩:=h;have e:bitOf 62 j=2^(62-(j+1)):=by unfold bitOf;rw[if_pos hj,show 62-1-j=62-(j+1) by omega]
 have e2:(2:Int)^(62-j)=2*2^(62-(j+1)):=by rw[←two_succ,show 62-(j+1)+1=62-j by omega]
 have p:=two_pos (62-(j+1));rw[e2]at h2 h4;rw[e]at hn⊢;refine⟨by omega,by omega,hn,?_⟩;have:r+2*2^(62-(j+1))=r+2^(62-(j+1))+2^(62-(j+1)):=by omega
 rw[this]at h4;exact h4
theorem RootI.no {a r:Int}{j:Nat}(hj:j<62)(h:RootI a j r)(hn:a<(r+bitOf 62 j)*(r+bitOf 62 j)):RootI a (j+1) r:=by
 obtain⟨h1,h2,h3,h4⟩:=h;have e:bitOf 62 j=2^(62-(j+1)):=by unfold bitOf;rw[if_pos hj,show 62-1-j=62-(j+1) by omega]
 have e2:(2:Int)^(62-j)=2*2^(62-(j+1)):=by rw[←two_succ,show 62-(j+1)+1=62-j by omega]
 have p:=two_pos (62-(j+1));rw[e2]at h2;rw[e]at hn;exact⟨h1,by omega,h3,hn⟩
theorem RootI.done {a r:Int}(h:RootI a 62 r):0≤r∧r*r≤a∧a<(r+1)*(r+1):=by
 obtain⟨h1,h2,h3,h4⟩:=h;exact⟨h1,h3,by simpa using h4⟩
end Go.Proofs.YtckdhahceelckaaGreat.G
namespace Go.Proofs.YtckdhahceelckaaGreat.G
open Go.RowKit Go.Proofs.YtckdhahceelckaaGreatW.PrintWords Go.Proofs.YtckdhahceelckaaGreatW.PrintLast Go.Proofs.YtckdhahceelckaaGreatW.PrintMore
attribute [local go_sem] max2_mx min2_mn max_two min_two max_three min_three max_four min_four
/-- the cells of a wide number -/
abbrev aW (n:Bool)(l:List Int):Array Value:=#[.bool n, .int .i64 (dg l 0), .int .i64 (dg l 1), .int .i64 (dg l 2), .int .i64 (dg l 3), .int .i64 (dg l 4), .int .i64 (dg l 5), .int .i64 (dg l 6), .int .i64 (dg l 7)]
/-- block g holds it -/
def Wd (w:World)(g:Nat)(n:Bool)(l:List Int):Prop:=w.heap[g]?=some (.cells (aW n l) 169 (0,0))
theorem Wd.lt {w g n l}(h:Wd w g n l):g<w.heap.size:=blk_lt h
theorem Wd.neg {w g n l}(h:Wd w g n l):w.cell? ⟨g,0,none⟩=some (.bool n):=(blk_cell h 0).trans rfl
theorem aW_get (n:Bool)(l:List Int)(k:Nat)(hk:k<8):(aW n l)[1+k]?=some (.int .i64 (dg l k)):=by
 match k,hk with
 |0,_|1,_|2,_|3,_|4,_|5,_|6,_|7,_=>rfl
theorem Wd.dig {w g n l}(h:Wd w g n l)(k:Nat)(hk:k<8):w.cell? ⟨g,1+k,none⟩=some (.int .i64 (dg l k)):=(blk_cell h (1+k)).trans (aW_get n l k hk)
theorem Wd.fz {w g n l}(h:Wd w g n l)(k:Nat):w.frozen? ⟨g,k,none⟩=false:=blk_frozen h k
theorem aW_set (n:Bool)(l:List Int)(hl:l.length=8)(k:Nat)(hk:k<8)(x:Int):(aW n l).setIfInBounds (1+k) (.int .i64 x)=aW n (l.set k x):=by
 have e:∀j,dg (l.set k x) j=if j=k then x else dg l j:=fun j=>dg_set l k j x (by omega)
 unfold aW;simp only[e]
 match k,hk with
 |0,_|1,_|2,_|3,_|4,_|5,_|6,_|7,_=>rfl
theorem blk_set {w:World}{g:Nat}{cs:Array Value}{t:TypeId}(h:w.heap[g]?=some (.cells cs t (0,0)))(j:Nat)(u:Value):(w.setCell ⟨g,j,none⟩ u).heap[g]?=some (.cells (cs.setIfInBounds j u) t (0,0)):=by
 simp[World.setCell,Array.getElem?_modify,h]
theorem Wd.set {w g n l}(h:Wd w g n l)(hl:l.length=8)(k:Nat)(hk:k<8)(x:Int):Wd (w.setCell ⟨g,1+k,none⟩ (.int .i64 x)) g n (l.set k x):=by
 unfold Wd;rw[blk_set h,aW_set n l hl k hk]
theorem Wd.setn {w g n l}(h:Wd w g n l)(b:Bool):Wd (w.setCell ⟨g,0,none⟩ (.bool b)) g b l:=by
 unfold Wd;rw[blk_set h];rfl
theorem Wd.far {w g n l}(h:Wd w g n l){p:Addr}(hp:p.block≠g)(u:Value):Wd (w.setCell p u) g n l:=(Below.heap_setCell w p u g (Ne.symm hp)).trans h
theorem Wd.below {w w1 g n l}(h:Wd w g n l)(hb:Below w.heap.size w w1):Wd w1 g n l:=(hb.block _ h.lt).trans h
/-- all nine cells -/
theorem Wd.alloc {w g n l}(h:Wd w g n l)(o:Obj):Wd (w.alloc o) g n l:=h.below ((Below.refl _ w).alloc (Nat.le_refl _) o)
theorem Wd.new (w:World)(n:Bool)(l:List Int):Wd (w.alloc (.cells (aW n l) 169)) w.heap.size n l:=heap_alloc_new w _
theorem Wd.drew {w g n l}(h:Wd w g n l):Wd w.drew g n l:=h
theorem Wd.drewN {w g n l}(h:Wd w g n l)(k:Nat):Wd (w.drewN k) g n l:=h
theorem Wd.fzs {w g n l}(h:Wd w g n l):w.frozen? ⟨g,0,none⟩=false∧w.frozen? ⟨g,1,none⟩=false∧w.frozen? ⟨g,2,none⟩=false∧w.frozen? ⟨g,3,none⟩=false∧w.frozen? ⟨g,4,none⟩=false∧w.frozen? ⟨g,5,none⟩=false∧w.frozen? ⟨g,6,none⟩=false∧w.frozen? ⟨g,7,none⟩=false∧w.frozen? ⟨g,8,none⟩=false:=
 ⟨h.fz 0,h.fz 1,h.fz 2,h.fz 3,h.fz 4,h.fz 5,h.fz 6,h.fz 7,h.fz 8⟩
/-- all nine cells -/
theorem Wd.all {w g n l}(h:Wd w g n l):w.cell? ⟨g,0,none⟩=some (.bool n)∧w.cell? ⟨g,1,none⟩=some (.int .i64 (dg l 0))∧w.cell? ⟨g,2,none⟩=some (.int .i64 (dg l 1))∧w.cell? ⟨g,3,none⟩=some (.int .i64 (dg l 2))∧w.cell? ⟨g,4,none⟩=some (.int .i64 (dg l 3))∧w.cell? ⟨g,5,none⟩=some (.int .i64 (dg l 4))∧w.cell? ⟨g,6,none⟩=some (.int .i64 (dg l 5))∧w.cell? ⟨g,7,none⟩=some (.int .i64 (dg l 6))∧w.cell? ⟨g,8,none⟩=some (.int .i64 (dg l 7)):=
 ⟨h.neg,h.dig 0 (by omega),h.dig 1 (by omega),h.dig 2 (by omega),h.dig 3 (by omega),h.dig 4 (by omega),h.dig 5 (by omega),h.dig 6 (by omega),h.dig 7 (by omega)⟩
/-- nine stores -/
def set9 (w:World)(g:Nat)(a0 a1 a2 a3 a4 a5 a6 a7 a8:Value):World:=((((((((w.setCell ⟨g,0,none⟩ a0).setCell ⟨g,1,none⟩ a1).setCell ⟨g,2,none⟩ a2).setCell ⟨g,3,none⟩ a3).setCell ⟨g,4,none⟩ a4).setCell ⟨g,5,none⟩ a5).setCell ⟨g,6,none⟩ a6).setCell ⟨g,7,none⟩ a7).setCell ⟨g,8,none⟩ a8
theorem blk9 {W:World}{g:Nat}{b0 b1 b2 b3 b4 b5 b6 b7 b8:Value}{t:TypeId}(h:W.heap[g]?=some (.cells #[b0,b1,b2,b3,b4,b5,b6,b7,b8] t (0,0)))(a0 a1 a2 a3 a4 a5 a6 a7 a8:Value):
  (set9 W g a0 a1 a2 a3 a4 a5 a6 a7 a8).heap[g]?=some (.cells #[a0,a1,a2,a3,a4,a5,a6,a7,a8] t (0,0)):=by
 have h0:=blk_set h 0 a0;have h1:=blk_set h0 1 a1;have h2:=blk_set h1 2 a2;have h3:=blk_set h2 3 a3;have h4:=blk_set h3 4 a4;have h5:=blk_set h4 5 a5;have h6:=blk_set h5 6 a6;have h7:=blk_set h6 7 a7;have h8:=blk_set h7 8 a8;simp only[List.setIfInBounds_toArray,List.set_cons_zero,List.set_cons_succ]at h8;exact h8
theorem blk9_set {W:World}{g:Nat}{n l}(h:Wd W g n l)(m:Bool)(k:List Int):
  Wd (set9 W g (.bool m) (.int .i64 (dg k 0)) (.int .i64 (dg k 1)) (.int .i64 (dg k 2)) (.int .i64 (dg k 3)) (.int .i64 (dg k 4)) (.int .i64 (dg k 5)) (.int .i64 (dg k 6)) (.int .i64 (dg k 7))) g m k:=blk9 h ..
theorem below_set9 {B:Nat}{a w:World}(h:Below B a w){g:Nat}(hg:B≤g)(a0 a1 a2 a3 a4 a5 a6 a7 a8:Value):Below B a (set9 w g a0 a1 a2 a3 a4 a5 a6 a7 a8):=
 ((((((((h.setCell (p:=⟨g,0,none⟩) hg a0).setCell (p:=⟨g,1,none⟩) hg a1).setCell (p:=⟨g,2,none⟩) hg a2).setCell (p:=⟨g,3,none⟩) hg a3).setCell (p:=⟨g,4,none⟩) hg a4).setCell (p:=⟨g,5,none⟩) hg a5).setCell (p:=⟨g,6,none⟩) hg a6).setCell (p:=⟨g,7,none⟩) hg a7).setCell (p:=⟨g,8,none⟩) hg a8
theorem set9_far {w:World}{g k:Nat}(h:k≠g)(a0 a1 a2 a3 a4 a5 a6 a7 a8:Value):(set9 w g a0 a1 a2 a3 a4 a5 a6 a7 a8).heap[k]?=w.heap[k]?:=
 (Below.heap_setCell _ _ _ k h).trans ((Below.heap_setCell _ _ _ k h).trans ((Below.heap_setCell _ _ _ k h).trans ((Below.heap_setCell _ _ _ k h).trans ((Below.heap_setCell _ _ _ k h).trans ((Below.heap_setCell _ _ _ k h).trans ((Below.heap_setCell _ _ _ k h).trans ((Below.heap_setCell _ _ _ k h).trans (Below.heap_setCell _ _ _ k h))))))))
/-- a value is a wide number's, with eight digits -/
structure WV (v:Value) (x:Int):Prop where
 out:∃n l,v= .agg (aW n l)∧l.length=8∧digs l∧wval n l=x
def zs8:List Int:=[0,0,0,0,0,0,0,0]
def OfPost (x:Int)(w:World)(e:Ending)(w':World):Prop:=∃v,e= .returned v∧WV v x∧Below w.heap.size w w'
theorem u64_neg (x:Int)(h1: -9223372036854775808≤x)(h2:x<0):IntKind.u64.wrap (-IntKind.u64.wrap x)=((x.natAbs:Nat):Int):=by
 have e:IntKind.u64.wrap x=x+18446744073709551616:=by
  simp[IntKind.wrap,IntKind.bits,IntKind.signed];omega
 rw[e];simp[IntKind.wrap,IntKind.bits,IntKind.signed];omega
theorem u64_pos (x:Int)(h1:0≤x)(h2:x≤9223372036854775807):IntKind.u64.wrap x=((x.natAbs:Nat):Int):=by
 simp[IntKind.wrap,IntKind.bits,IntKind.signed];omega
theorem of_calls (x:Int)(hx1: -9223372036854775808≤x)(hx2:x≤9223372036854775807)(w:World):Calls Tryz.prog 139 #[.int .i64 x] w (OfPost x w):=by
 have h1:=u64_neg x hx1;have h2:=fun h=>u64_pos x h hx2;obtain⟨N,hN⟩:=nm_ x.natAbs;have hN2:N<16777216^8:=by omega
 have hN3:N≤9223372036854775808:=by omega
 go_enter Tryz.func139,Tryz.ntmps139;go_wp2
 all_goals
  go_loopw [4,5] (fun v4 v5 wr=>∃(k u:Nat) (l:List Int) (n:Bool),k≤8∧v5= .int .i64 k∧v4= .int .u64 u∧Hid (Wd wr (w.heap.size+1) n l)∧Hid (n=decide (x<0))∧Hid (Wd wr w.heap.size false zs8)∧Hid (OfI N k l u)∧Hid (Below w.heap.size w wr)) (fun _ i _=>8-(intOf i).toNat)
  case atStart=>
   refine⟨0,N,zs8,decide (x<0),by omega,rfl,by simp[*],Lh ?_,rfl,Lh ?_,Lh (OfI.start N),Lh ?_⟩
   ·first
     |(rw[decide_eq_true (by assumption)];have HB:=Wd.new (w.alloc (.cells (aW false zs8) 169)) true zs8;rw[World.size_alloc]at HB;exact HB)
     |(rw[decide_eq_false (by omega)];have HB:=Wd.new (w.alloc (.cells (aW false zs8) 169)) false zs8;rw[World.size_alloc]at HB;exact HB)
   ·exact(Wd.new w false zs8).alloc _
   ·exact((Below.refl _ w).alloc (Nat.le_refl _) _).alloc (by simp) _
  case round=>
   obtain⟨k,u,l,n,hk,rfl,rfl,hB,hn,hA,hI,hW⟩:=hrel;by_cases hlt:k<8
   ·have c0:=hB.out.dig k hlt;have f0:=hB.out.fz (1+k);have hu:=hI.out.le;have e1:IntKind.u64.wrap ((u:Int) / 16777216)=((u / 16777216:Nat):Int):=by simp[IntKind.wrap,IntKind.bits,IntKind.signed];omega
    go_wp2
    go_roundw
    case rel=>exact⟨k+1,u / 16777216,l.set k ((u%16777216:Nat):Int),n,by omega,by go_num,by go_num,hB.out.set hI.out.1 k hlt _,hn,hA.out.far (by simp) _,hI.out.step hlt,hW.setCell (by simp) _⟩
    case measure=>simp[intOf];omega
   ·obtain rfl:k=8:=by omega
    obtain⟨z0,z1,z2,z3,z4,z5,z6,z7,z8⟩:=hB.out.all;obtain⟨y0,y1,y2,y3,y4,y5,y6,y7,y8⟩:=hA.out.all;obtain⟨x0,x1,x2,x3,x4,x5,x6,x7,x8⟩:=hA.out.fzs;have hv:WV (.agg (aW n l)) x:=⟨n,l,rfl,hI.out.1,hI.out.2.1,by have:=hI.out.done hN2;rw[hn.out];unfold wval;split<;>(simp at*;omega)⟩;have HS:=blk9_set hA.out n l;have HW:=below_set9 hW.out (Nat.le_refl _) (.bool n) (.int .i64 (dg l 0)) (.int .i64 (dg l 1)) (.int .i64 (dg l 2)) (.int .i64 (dg l 3)) (.int .i64 (dg l 4)) (.int .i64 (dg l 5)) (.int .i64 (dg l 6)) (.int .i64 (dg l 7));unfold set9 at HS HW;obtain⟨V,hV⟩:=nm_ (((((((((wr.setCell ⟨w.heap.size,0,none⟩ (.bool n)).setCell ⟨w.heap.size,1,none⟩ (.int .i64 (dg l 0))).setCell ⟨w.heap.size,2,none⟩ (.int .i64 (dg l 1))).setCell ⟨w.heap.size,3,none⟩ (.int .i64 (dg l 2))).setCell ⟨w.heap.size,4,none⟩ (.int .i64 (dg l 3))).setCell ⟨w.heap.size,5,none⟩ (.int .i64 (dg l 4))).setCell ⟨w.heap.size,6,none⟩ (.int .i64 (dg l 5))).setCell ⟨w.heap.size,7,none⟩ (.int .i64 (dg l 6))).setCell ⟨w.heap.size,8,none⟩ (.int .i64 (dg l 7)));rw[hV]at HS HW;obtain⟨t0,t1,t2,t3,t4,t5,t6,t7,t8⟩:=HS.all;clear h1 h2 HS;have HV:=Lh hV;clear hV;go_wp2;rw[HV.out];exact bodyPost_ret (v:= .agg (aW n l)) (by simp[results,Tryz.results139,go_sem,t0,t1,t2,t3,t4,t5,t6,t7,t8]) rfl ⟨_,rfl,hv,HW⟩
theorem plus_same (n:Bool)(l k:List Int)(hl:l.length=8)(hk:k.length=8)(hd:digs l)(he:digs k)(hs:mag l+mag k<16777216^8)(w:World):
  Calls Tryz.prog 155 #[.agg (aW n l), .agg (aW n k)] w (OfPost (wval n l+wval n k) w):=by
 have HL:=Lh hl;have HK:=Lh hk;have HD:=Lh hd;have HE:=Lh he;have HS:=Lh hs;have HX:=Lh (AddI.start l k hl hd);clear hl hk hd he hs;have HA:=((Wd.new w n l).alloc (.cells (aW n k) 169)).alloc (.cells (aW false zs8) 169);have HB:=(Wd.new (w.alloc (.cells (aW n l) 169)) n k).alloc (.cells (aW false zs8) 169);have HC:=Wd.new ((w.alloc (.cells (aW n l) 169)).alloc (.cells (aW n k) 169)) false zs8;rw[World.size_alloc]at HB;rw[World.size_alloc,World.size_alloc]at HC;have HW:=(((Below.refl _ w).alloc (Nat.le_refl _) (.cells (aW n l) 169)).alloc (by simp) (.cells (aW n k) 169)).alloc (by simp;omega) (.cells (aW false zs8) 169);have HA:=Lh (HA.alloc (.cells (aW n l) 169));have HB:=Lh (HB.alloc (.cells (aW n l) 169));have HC:=Lh (HC.alloc (.cells (aW n l) 169));have HO:=Wd.new (((w.alloc (.cells (aW n l) 169)).alloc (.cells (aW n k) 169)).alloc (.cells (aW false zs8) 169)) n l;simp only[World.size_alloc]at HO;have HO:=Lh HO;have HW:=Lh (HW.alloc (by simp;omega) (.cells (aW n l) 169));go_enter Tryz.func155,Tryz.ntmps155;go_wp2;go_loopw [5,7,8] (fun v5 v7 v8 wr=>∃(i:Nat) (c:Int) (o:List Int),i≤8∧v7= .int .i64 i∧v5= .int .i64 c∧0≤c∧c≤1∧Hid (Wd wr w.heap.size n l)∧Hid (Wd wr (w.heap.size+1) n k)∧Hid (Wd wr (w.heap.size+1+1) false zs8)∧Hid (Wd wr (w.heap.size+1+1+1) n o)∧Hid (AddI l k i o c)∧Hid (Below w.heap.size w wr)) (fun _ i _ _=>8-(intOf i).toNat)
 case atStart=>exact⟨0,0,l,by omega,rfl,rfl,by omega,by omega,HA,HB,HC,HO,HX,HW⟩
 case round=>
  clear HX HA HB HC HO HW;obtain⟨i,c,o,hi8,rfl,rfl,hc0,hc1,hA,hB,hC,hO,hI,hW⟩:=hrel;by_cases hi:i<8
  ·have c0:=hA.out.dig i hi;have c1:=hB.out.dig i hi;have c2:=hO.out.dig i hi;have f2:=hO.out.fz (1+i);obtain⟨a0,a1⟩:=dg_ok HD.out i;obtain⟨b0,b1⟩:=dg_ok HE.out i;have hN:=Lh (hI.out.step HD.out HE.out HK.out hi);obtain⟨x,hx⟩:=nm_ (dg l i);obtain⟨y,hy⟩:=nm_ (dg k i);rw[hx]at c0 a0 a1 hN;rw[hy]at c1 b0 b1 hN;clear hx hy;have e1:IntKind.i64.wrap (x+y)=x+y:=iw_id _ (by omega) (by omega);have e2:IntKind.i64.wrap (x+y+c)=x+y+c:=iw_id _ (by omega) (by omega);go_wp2
   go_quiet (fail)
   clear e1 e2;obtain⟨s,hs⟩:=nm_ (x+y+c);have s0:0≤s:=by omega
   have s1:s≤33554431:=by omega
   rw[hs]at hN⊢;clear hs;go_wp2
   go_roundw
   case rel=>exact⟨i+1,s / 16777216,_,by omega,by go_num,rfl,by omega,by omega,(hA.out.drewN _).far (by simp;try omega) _,(hB.out.drewN _).far (by simp;try omega) _,(hC.out.drewN _).far (by simp;try omega) _,(hO.out.drewN _).set hI.out.1 i hi _,hN,(pw_below_drewN hW.out _).setCell (by simp;omega) _⟩
   case measure=>simp[intOf];omega
  ·obtain rfl:i=8:=by omega
   obtain⟨z0,z1,z2,z3,z4,z5,z6,z7,z8⟩:=hO.out.all;obtain⟨y0,y1,y2,y3,y4,y5,y6,y7,y8⟩:=hC.out.all;obtain⟨x0,x1,x2,x3,x4,x5,x6,x7,x8⟩:=hC.out.fzs;have hv:WV (.agg (aW n o)) (wval n l+wval n k):=⟨n,o,rfl,hI.out.1,hI.out.2.1,by have:=hI.out.done HK.out HS.out;unfold wval;split<;>omega⟩;have HS:=blk9_set hC.out n o;have HW:=below_set9 hW.out (g:=w.heap.size+1+1) (by omega) (.bool n) (.int .i64 (dg o 0)) (.int .i64 (dg o 1)) (.int .i64 (dg o 2)) (.int .i64 (dg o 3)) (.int .i64 (dg o 4)) (.int .i64 (dg o 5)) (.int .i64 (dg o 6)) (.int .i64 (dg o 7));obtain⟨V,hV⟩:=nm_ (set9 wr (w.heap.size+1+1) (.bool n) (.int .i64 (dg o 0)) (.int .i64 (dg o 1)) (.int .i64 (dg o 2)) (.int .i64 (dg o 3)) (.int .i64 (dg o 4)) (.int .i64 (dg o 5)) (.int .i64 (dg o 6)) (.int .i64 (dg o 7)));rw[hV]at HS HW;obtain⟨t0,t1,t2,t3,t4,t5,t6,t7,t8⟩:=HS.all;unfold set9 at hV;have HV:=Lh hV;clear hV HS;go_wp2;rw[HV.out];exact bodyPost_ret (v:= .agg (aW n o)) (by simp[results,Tryz.results155,go_sem,t0,t1,t2,t3,t4,t5,t6,t7,t8]) rfl ⟨_,rfl,hv,HW⟩
end Go.Proofs.YtckdhahceelckaaGreat.G
