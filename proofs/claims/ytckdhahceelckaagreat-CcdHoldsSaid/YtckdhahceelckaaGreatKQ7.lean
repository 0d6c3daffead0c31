/- What the laws of this claim lean on: contracts of functions and plain lemmas; no condition of its own (part 7: XW10, XW11, XW12, XW13). -/
import Derived.Test.YtckdhahceelckaaGreatKQ6
set_option maxHeartbeats 16000000
set_option maxRecDepth 100000
set_option linter.unusedVariables false
set_option linter.unusedSimpArgs false
namespace Go.Proofs.YtckdhahceelckaaGreat.G
open Go.RowKit Go.Proofs.YtckdhahceelckaaGreatW.PrintWords Go.Proofs.YtckdhahceelckaaGreatW.PrintLast Go.Proofs.YtckdhahceelckaaGreatW.PrintMore
attribute [local go_sem] max2_mx min2_mn max_two min_two max_three min_three max_four min_four
theorem mag_wval {n:Bool}{l:List Int}(h:digs l):0≤mag l∧(mag l=wval n l∨mag l= -wval n l):=by
 refine⟨mag_nonneg l h,?_⟩;cases n<;>simp[wval]
/-- the root, down -/
def rtI (v:Int):Int:=isq v.toNat
theorem rtI_of {v r:Int}(h0:0≤r)(h1:r*r≤v)(h2:v<(r+1)*(r+1)):r=rtI v:=by
 unfold rtI;have hv:0≤v:=by have:=Int.mul_nonneg h0 h0;omega
 have e:(r.toNat:Int)=r:=by omega
 have e1:((r.toNat*r.toNat:Nat):Int)=r*r:=by rw[Int.natCast_mul,e]
 have e2:(((r.toNat+1)*(r.toNat+1):Nat):Int)=(r+1)*(r+1):=by rw[Int.natCast_mul,Int.natCast_add,e];rfl
 have:=isq_unique v.toNat r.toNat (by omega) (by omega);omega
theorem rtI_spec {v:Int}(h:0≤v):0≤rtI v∧rtI v*rtI v≤v∧v<(rtI v+1)*(rtI v+1):=by
 obtain⟨h1,h2⟩:=isq_spec v.toNat;unfold rtI;have e1:((isq v.toNat*isq v.toNat:Nat):Int)=(isq v.toNat:Int)*(isq v.toNat:Int):=Int.natCast_mul ..;have e2:(((isq v.toNat+1)*(isq v.toNat+1):Nat):Int)=((isq v.toNat:Int)+1)*((isq v.toNat:Int)+1):=by rw[Int.natCast_mul,Int.natCast_add];rfl
 omega
theorem p8:(16777216:Int)^8=6277101735386680763835789423207666416102355444464034512896:=by decide
theorem sq_small {t:Int}(h0:0≤t)(h1:t≤4611686018427387904):0≤t*t∧t*t≤21267647932558653966460912964485513216:=by
 have a:=Int.mul_nonneg h0 h0;have b:=Int.mul_le_mul h1 h1 h0 (by decide);omega
theorem rootof_calls (n:Bool)(l:List Int)(hl:l.length=8)(hd:digs l)(h0:0≤wval n l)(h1:wval n l<21267647932558653966460912964485513216)(w:World):
  Calls Tryz.prog 148 #[.agg (aW n l)] w fun e w'=>e= .returned (.tuple #[.int .i64 (rtI (wval n l)), .bool true])∧Below w.heap.size w w':=by
 have HL:=Lh hl;have HD:=Lh hd;have hmm:=mag_wval (n:=n) hd;have HMM:=Lh hmm;have HX:=Lh (RootI.start h0 (by rw[show(2:Int)^124=21267647932558653966460912964485513216 by decide];exact h1));have H0:=Lh h0;have H1:=Lh h1;clear hl hd h0 h1 hmm;have HA:=Lh (Wd.new w n l);have HW:=Lh ((Below.refl _ w).alloc (Nat.le_refl _) (.cells (aW n l) 169));go_enter Tryz.func148,Tryz.ntmps148;go_wp2_with fail;refine(of_calls 4611686018427387904 (by decide) (by decide) _).mono ?_;rintro e w1 ⟨v,rfl,⟨n1,l1,rfl,hl1,hd1,hv1⟩,hb1⟩;have HA1:=Lh (HA.below hb1);have HW1:=Lh (bthen HW.out hb1);clear HA HW hb1;have hp1:=Lh (And.intro hl1 (And.intro hd1 hv1));clear hl1 hd1 hv1;go_wp2_with fail;refine(of_calls 4611686018427387904 (by decide) (by decide) _).mono ?_;rintro e w2 ⟨v,rfl,⟨n2,l2,rfl,hl2,hd2,hv2⟩,hb2⟩;have HA2:=Lh (HA1.below hb2);have HW2:=Lh (bthen HW1.out hb2);have hp2:=Lh (And.intro hl2 (And.intro hd2 hv2));clear HA1 HW1 hb2 hl2 hd2 hv2;go_wp2_with fail;have hm1:=mag_wval (n:=n1) hp1.out.2.1;have hm2:=mag_wval (n:=n2) hp2.out.2.1;have hq1:mag l1=4611686018427387904:=by have:=hp1.out.2.2;omega
 have hq2:mag l2=4611686018427387904:=by have:=hp2.out.2.2;omega
 refine(times_calls n1 n2 l1 l2 hp1.out.1 hp2.out.1 hp1.out.2.1 hp2.out.2.1 (by rw[hq1,hq2];decide) _).mono ?_;rintro e w3 ⟨v,rfl,⟨n3,l3,rfl,hl3,hd3,hv3⟩,hb3⟩;have HA3:=Lh ((HA2.below hb3).alloc (.cells (aW n3 l3) 169));have HW3:=Lh ((bthen HW2.out hb3).alloc (by have:=HW2.size;have:=hb3.size;omega) (.cells (aW n3 l3) 169));rw[hp1.out.2.2,hp2.out.2.2]at hv3;have HT:=Lh (Wd.new w3 n3 l3);have hm3:=mag_wval (n:=n3) hd3;have hz3:w.heap.size+1≤w3.heap.size:=by have:=hb3.size;have:=HA2.out.lt;omega
 have hless:Hid (∀W,Calls Tryz.prog 154 #[.agg (aW n l), .agg (aW n3 l3)] W fun e w'=>e= .returned (.bool true)∧Below W.heap.size W w'):=fun W=>
  less_calls n n3 l l3 HL.out hl3 HD.out hd3 (by have:=HMM.out;have:=H0.out;have:=H1.out;rw[p8];omega) true (by rw[hv3];simpa using H1.out) W
 clear HA2 HW2 hb3 hl3 hd3 hv3 hm1 hm2 hm3 hq1 hq2 hp1 hp2;have hA3:=HA3.out;obtain⟨a0,a1,a2,a3,a4,a5,a6,a7,a8⟩:=hA3.all;obtain⟨b0,b1,b2,b3,b4,b5,b6,b7,b8⟩:=HT.out.all;clear hA3;go_wp2_with fail;refine(hless.out _).mono ?_;rintro e w4 ⟨rfl,hb4⟩;have HA4:=Lh (HA3.below hb4);have HW4:=Lh (bthen HW3.out hb4);have hz4:w.heap.size+1+1≤w4.heap.size:=by have:=hb4.size;simp at this;omega
 clear a0 a1 a2 a3 a4 a5 a6 a7 a8 b0 b1 b2 b3 b4 b5 b6 b7 b8 HT hless HA3 HW3 hb4;go_wp2;go_loopw [6,7,8,9] (fun v6 v7 v8 v9 wr=>∃(j:Nat) (r:Int),j≤62∧v6= .int .i64 r∧v7= .int .i64 (bitOf 62 j)∧Hid (RootI (wval n l) j r)∧Hid (Wd wr w.heap.size n l)∧Hid (Below w.heap.size w wr)) (fun _ b _ _ _=>(intOf b).toNat)
 case atStart=>exact⟨0,0,by omega,rfl,rfl,HX,HA4,HW4⟩
 case round=>
  clear HX HA4 HW4;obtain⟨j,r,hj62,rfl,rfl,hI,hA,hW⟩:=hrel;by_cases hj:j<62
  ·obtain⟨x0,x1,x2⟩:=hI.out.bit hj;have r0:=hI.out.1;have HB:=Lh (bitOf_half 62 j hj);have HY:=Lh (fun h=>hI.out.yes hj h);have HN:=Lh (fun h=>hI.out.no hj h);obtain⟨B,hB⟩:=nm_ (bitOf 62 j);rw[hB]at x0 x1 x2 HB HY HN⊢;clear hB;go_wp2_with fail;refine(of_calls (r+B) (by omega) (by omega) _).mono ?_;rintro e w5 ⟨v,rfl,⟨n5,l5,rfl,hl5,hd5,hv5⟩,hb5⟩;have hm5:=mag_wval (n:=n5) hd5;have hq5:mag l5=r+B:=by omega
   have hsq:=sq_small x0 (by omega);have HT5:=Lh (fun W=>times_calls n5 n5 l5 l5 hl5 hl5 hd5 hd5 (by rw[hq5,p8];omega) W);rw[hv5]at HT5;have HA5:=Lh ((hA.below hb5).alloc (.cells (aW n5 l5) 169));have HO5:=Lh (Wd.new w5 n5 l5);have HW5:=Lh ((bthen hW.out hb5).alloc (by have:=hW.size;have:=hb5.size;omega) (.cells (aW n5 l5) 169));have hz5:w.heap.size+1≤w5.heap.size:=by have:=hb5.size;have:=hA.out.lt;omega
   clear hb5 hl5 hd5 hv5 hm5 hq5 hA hW;obtain⟨a0,a1,a2,a3,a4,a5,a6,a7,a8⟩:=HA5.out.all;obtain⟨b0,b1,b2,b3,b4,b5,b6,b7,b8⟩:=HO5.out.all;rcases(show(r+B)*(r+B)≤wval n l∨wval n l<(r+B)*(r+B) by omega)with hc|hc
   ·have hN:=Lh (HY.out hc);have HC:=Lh hc;clear hc;go_wp2_with fail;have HA5:=Lh HA5.drew;have HO5:=Lh HO5.drew;have HW5:=Lh HW5.drew
    go_region_held3 (fun w'=>w'.cell? ⟨w.heap.size,0,none⟩=some (.bool n)∧w'.cell? ⟨w.heap.size,1,none⟩=some (.int .i64 (dg l 0))∧w'.cell? ⟨w.heap.size,2,none⟩=some (.int .i64 (dg l 1))∧w'.cell? ⟨w.heap.size,3,none⟩=some (.int .i64 (dg l 2))∧w'.cell? ⟨w.heap.size,4,none⟩=some (.int .i64 (dg l 3))∧w'.cell? ⟨w.heap.size,5,none⟩=some (.int .i64 (dg l 4))∧w'.cell? ⟨w.heap.size,6,none⟩=some (.int .i64 (dg l 5))∧w'.cell? ⟨w.heap.size,7,none⟩=some (.int .i64 (dg l 6))∧w'.cell? ⟨w.heap.size,8,none⟩=some (.int .i64 (dg l 7))∧w'.cell? ⟨w5.heap.size,0,none⟩=some (.bool n5)∧w'.cell? ⟨w5.heap.size,1,none⟩=some (.int .i64 (dg l5 0))∧w'.cell? ⟨w5.heap.size,2,none⟩=some (.int .i64 (dg l5 1))∧w'.cell? ⟨w5.heap.size,3,none⟩=some (.int .i64 (dg l5 2))∧w'.cell? ⟨w5.heap.size,4,none⟩=some (.int .i64 (dg l5 3))∧w'.cell? ⟨w5.heap.size,5,none⟩=some (.int .i64 (dg l5 4))∧w'.cell? ⟨w5.heap.size,6,none⟩=some (.int .i64 (dg l5 5))∧w'.cell? ⟨w5.heap.size,7,none⟩=some (.int .i64 (dg l5 6))∧w'.cell? ⟨w5.heap.size,8,none⟩=some (.int .i64 (dg l5 7)))
     (first|exact⟨a0,a1,a2,a3,a4,a5,a6,a7,a8,b0,b1,b2,b3,b4,b5,b6,b7,b8⟩|(go_keep;done))
     (first
      |(go_at_call 138;refine(HT5.out _).mono ?_;rintro e w6 ⟨v,rfl,⟨n6,l6,rfl,hl6,hd6,hv6⟩,hb6⟩;have HA6:=Lh (HA5.below hb6);have HO6:=Lh (HO5.below hb6);have HW6:=Lh (bthen HW5.out hb6);have HP6:=Lh (And.intro hl6 (And.intro hd6 hv6));clear hl6 hd6 hv6 hb6;obtain⟨a0,a1,a2,a3,a4,a5,a6,a7,a8⟩:=HA6.out.all;obtain⟨b0,b1,b2,b3,b4,b5,b6,b7,b8⟩:=HO6.out.all)
      |(go_at_call 154;refine(less_calls n n6 l l6 HL.out HP6.out.1 HD.out HP6.out.2.1 ?_ false ?_ _).mono ?_;have m6:=mag_wval (n:=n6) HP6.out.2.1;have m7:=HMM.out;have m8:=H0.out;have m9:=H1.out;have m10:=HP6.out.2.2;rw[p8];omega;have m10:=HP6.out.2.2;have m11:=HC.out;rw[m10];simp;omega;rintro e w7 ⟨rfl,hb7⟩;have HA7:=Lh (HA6.below hb7);have HO7:=Lh (HO6.below hb7);have HW7:=Lh (bthen HW6.out hb7);clear hb7;obtain⟨a0,a1,a2,a3,a4,a5,a6,a7,a8⟩:=HA7.out.all;obtain⟨b0,b1,b2,b3,b4,b5,b6,b7,b8⟩:=HO7.out.all))
    go_wp2
    go_roundw
    case rel=>exact⟨j+1,_,by omega,rfl,by rw[HB.out],hN,HA7,HW7⟩
    case measure=>simp[intOf];omega
   ·have hN:=Lh (HN.out hc);have HC:=Lh hc;clear hc;go_wp2_with fail;have HA5:=Lh HA5.drew;have HO5:=Lh HO5.drew;have HW5:=Lh HW5.drew
    go_region_held3 (fun w'=>w'.cell? ⟨w.heap.size,0,none⟩=some (.bool n)∧w'.cell? ⟨w.heap.size,1,none⟩=some (.int .i64 (dg l 0))∧w'.cell? ⟨w.heap.size,2,none⟩=some (.int .i64 (dg l 1))∧w'.cell? ⟨w.heap.size,3,none⟩=some (.int .i64 (dg l 2))∧w'.cell? ⟨w.heap.size,4,none⟩=some (.int .i64 (dg l 3))∧w'.cell? ⟨w.heap.size,5,none⟩=some (.int .i64 (dg l 4))∧w'.cell? ⟨w.heap.size,6,none⟩=some (.int .i64 (dg l 5))∧w'.cell? ⟨w.heap.size,7,none⟩=some (.int .i64 (dg l 6))∧w'.cell? ⟨w.heap.size,8,none⟩=some (.int .i64 (dg l 7))∧w'.cell? ⟨w5.heap.size,0,none⟩=some (.bool n5)∧w'.cell? ⟨w5.heap.size,1,none⟩=some (.int .i64 (dg l5 0))∧w'.cell? ⟨w5.heap.size,2,none⟩=some (.int .i64 (dg l5 1))∧w'.cell? ⟨w5.heap.size,3,none⟩=some (.int .i64 (dg l5 2))∧w'.cell? ⟨w5.heap.size,4,none⟩=some (.int .i64 (dg l5 3))∧w'.cell? ⟨w5.heap.size,5,none⟩=some (.int .i64 (dg l5 4))∧w'.cell? ⟨w5.heap.size,6,none⟩=some (.int .i64 (dg l5 5))∧w'.cell? ⟨w5.heap.size,7,none⟩=some (.int .i64 (dg l5 6))∧w'.cell? ⟨w5.heap.size,8,none⟩=some (.int .i64 (dg l5 7)))
     (first|exact⟨a0,a1,a2,a3,a4,a5,a6,a7,a8,b0,b1,b2,b3,b4,b5,b6,b7,b8⟩|(go_keep;done))
     (first
      |(go_at_call 138;refine(HT5.out _).mono ?_;rintro e w6 ⟨v,rfl,⟨n6,l6,rfl,hl6,hd6,hv6⟩,hb6⟩;have HA6:=Lh (HA5.below hb6);have HO6:=Lh (HO5.below hb6);have HW6:=Lh (bthen HW5.out hb6);have HP6:=Lh (And.intro hl6 (And.intro hd6 hv6));clear hl6 hd6 hv6 hb6;obtain⟨a0,a1,a2,a3,a4,a5,a6,a7,a8⟩:=HA6.out.all;obtain⟨b0,b1,b2,b3,b4,b5,b6,b7,b8⟩:=HO6.out.all)
      |(go_at_call 154;refine(less_calls n n6 l l6 HL.out HP6.out.1 HD.out HP6.out.2.1 ?_ true ?_ _).mono ?_;have m6:=mag_wval (n:=n6) HP6.out.2.1;have m7:=HMM.out;have m8:=H0.out;have m9:=H1.out;have m10:=HP6.out.2.2;rw[p8];omega;have m10:=HP6.out.2.2;have m11:=HC.out;rw[m10];simp;omega;rintro e w7 ⟨rfl,hb7⟩;have HA7:=Lh (HA6.below hb7);have HO7:=Lh (HO6.below hb7);have HW7:=Lh (bthen HW6.out hb7);clear hb7;obtain⟨a0,a1,a2,a3,a4,a5,a6,a7,a8⟩:=HA7.out.all;obtain⟨b0,b1,b2,b3,b4,b5,b6,b7,b8⟩:=HO7.out.all))
    go_wp2
    go_roundw
    case rel=>exact⟨j+1,_,by omega,rfl,by rw[HB.out],hN,HA7,HW7⟩
    case measure=>simp[intOf];omega
  ·obtain rfl:j=62:=by omega
   have e0:bitOf 62 62=0:=rfl;obtain⟨k0,k1,k2⟩:=hI.out.done;have E:=Lh (rtI_of k0 k1 k2);clear k1 k2;go_wp2
   go_ret2
   exact⟨by rw[←E.out];rfl,hW.out⟩
/-- the slice at A reads as the numbers l -/
def RdI (w:World)(A:Option Addr)(l:List Int):Prop:=
 ∀i x,l[i]?=some x→∃b o,A=some ⟨b,o,none⟩∧b<w.heap.size∧w.cell? ⟨b,o+i,none⟩=some (.int .i64 x)
theorem RdI.below {w w1:World}{A l}(h:RdI w A l)(hb:Below w.heap.size w w1):RdI w1 A l:=fun i p hp=>by
 obtain⟨b,o,hA,hlt,h1⟩:=h i p hp;exact⟨b,o,hA,Nat.lt_of_lt_of_le hlt hb.size,(hb.cell (p:=⟨b,_,none⟩) hlt).trans h1⟩
theorem RdI.get {w:World}{A:Option Addr}{l:List Int}(h:RdI w A l)(i:Nat)(hi:i<l.length):∃b o,A=some ⟨b,o,none⟩∧b<w.heap.size∧w.cell? ⟨b,o+i,none⟩=some (.int .i64 l[i]):=
 h i _ (List.getElem?_eq_getElem hi)
theorem RdI.of2 {w:World}{g:Nat}{x y:Int}{t:TypeId}(h:w.heap[g]?=some (.cells #[.int .i64 x, .int .i64 y] t (0,0))):RdI w (some ⟨g,0,none⟩) [x,y]:=fun i p hp=>by
 match i,hp with
 |0,hp=>simp at hp;subst hp;exact⟨g,0,rfl,blk_lt h,(blk_cell h 0).trans rfl⟩
 |1,hp=>simp at hp;subst hp;exact⟨g,0,rfl,blk_lt h,(blk_cell h 1).trans rfl⟩
theorem RdI.of3 {w:World}{g:Nat}{x y z:Int}{t:TypeId}(h:w.heap[g]?=some (.cells #[.int .i64 x, .int .i64 y, .int .i64 z] t (0,0))):RdI w (some ⟨g,0,none⟩) [x,y,z]:=fun i p hp=>by
 match i,hp with
 |0,hp=>simp at hp;subst hp;exact⟨g,0,rfl,blk_lt h,(blk_cell h 0).trans rfl⟩
 |1,hp=>simp at hp;subst hp;exact⟨g,0,rfl,blk_lt h,(blk_cell h 1).trans rfl⟩
 |2,hp=>simp at hp;subst hp;exact⟨g,0,rfl,blk_lt h,(blk_cell h 2).trans rfl⟩
theorem RdI.of4 {w:World}{g:Nat}{x y z u:Int}{t:TypeId}(h:w.heap[g]?=some (.cells #[.int .i64 x, .int .i64 y, .int .i64 z, .int .i64 u] t (0,0))):RdI w (some ⟨g,0,none⟩) [x,y,z,u]:=fun i p hp=>by
 match i,hp with
 |0,hp=>simp at hp;subst hp;exact⟨g,0,rfl,blk_lt h,(blk_cell h 0).trans rfl⟩
 |1,hp=>simp at hp;subst hp;exact⟨g,0,rfl,blk_lt h,(blk_cell h 1).trans rfl⟩
 |2,hp=>simp at hp;subst hp;exact⟨g,0,rfl,blk_lt h,(blk_cell h 2).trans rfl⟩
 |3,hp=>simp at hp;subst hp;exact⟨g,0,rfl,blk_lt h,(blk_cell h 3).trans rfl⟩
/-- numbers that may be -/
def fits (x:Int):Prop:= -4611686018427387903≤x∧x≤4611686018427387903
theorem great_calls (l:List Int)(A:Option Addr)(c:Nat)(w:World)(h:RdI w A l)(hc:l.length≤c)(hm:l.length≤100)(hf:∀x∈l,fits x):
  Calls Tryz.prog 135 #[.slice A l.length c] w fun e w'=>e= .returned (.bool false)∧w'=w:=by
 have H:=Lh h;have HF:=Lh hf;clear h hf;go_enter Tryz.func135,Tryz.ntmps135;go_wp2
 go_loop [3] (fun v3=>∃k:Nat,k≤l.length∧v3= .int .i64 k) (fun i=>l.length-(intOf i).toNat)
 case atStart=>exact⟨0,by omega,rfl⟩
 case round=>
  obtain⟨k,hk,rfl⟩:=hrel;by_cases hlt:k<l.length
  ·obtain⟨b,o,rfl,hb,hx⟩:=H.out.get k hlt;obtain⟨f1,f2⟩:=HF.out _ (List.getElem_mem hlt);obtain⟨x,hx'⟩:∃x,l[k]=x:=⟨_,rfl⟩;rw[hx']at hx f1 f2;clear hx';have d1:decide (x< -4611686018427387903)=false:=by simp;omega
   have d2:decide (4611686018427387903<x)=false:=by simp;omega
   go_wp2
   go_round
   case rel=>exact⟨k+1,by omega,by go_num⟩
   case measure=>simp[intOf];omega
  ·go_wp2
   go_ret
   exact⟨rfl,rfl⟩
theorem tells_calls (v:Value)(n:Int)(hn:fits n)(w:World):
  Calls Tryz.prog 136 #[v, .int .i64 n, .bool true] w fun e w'=>e= .returned (.int .i64 n)∧w'=w:=by
 obtain⟨f1,f2⟩:=hn;have d1:decide (n< -4611686018427387903)=false:=by simp;omega
 have d2:decide (4611686018427387903<n)=false:=by simp;omega
 go_enter Tryz.func136,Tryz.ntmps136;go_wp2
 go_ret
 exact⟨rfl,rfl⟩
theorem wadd_calls (v:Value)(a b:Int)(ha:fits a)(hb:fits b)(hs:fits (a+b))(w:World):
  Calls Tryz.prog 92 #[v, .int .i64 a, .int .i64 b] w fun e w'=>e= .returned (.int .i64 (a+b))∧Below w.heap.size w w':=by
 have HF:Hid (∀x∈[a,b],fits x):=Lh (by intro x hx;simp at hx;rcases hx with rfl|rfl<;>assumption);have HS:=Lh hs;obtain⟨a1,a2⟩:=ha;obtain⟨b1,b2⟩:=hb;clear hs;go_enter Tryz.func92,Tryz.ntmps92;go_wp2_with fail;refine(great_calls [a,b] _ 2 _ (RdI.of2 (heap_alloc_new w _)) (Nat.le_refl _) (by simp) HF.out).mono ?_;rintro e w1 ⟨rfl,rfl⟩;go_wp2_with fail;refine(tells_calls v (a+b) HS.out _).mono ?_;rintro e w1 ⟨rfl,rfl⟩;go_wp2
 go_ret
 exact⟨rfl,(Below.refl _ w).alloc (Nat.le_refl _) _⟩
theorem wsub_calls (v:Value)(a b:Int)(ha:fits a)(hb:fits b)(hs:fits (a-b))(w:World):
  Calls Tryz.prog 94 #[v, .int .i64 a, .int .i64 b] w fun e w'=>e= .returned (.int .i64 (a-b))∧Below w.heap.size w w':=by
 have HF:Hid (∀x∈[a,b],fits x):=Lh (by intro x hx;simp at hx;rcases hx with rfl|rfl<;>assumption);have HS:=Lh hs;obtain⟨a1,a2⟩:=ha;obtain⟨b1,b2⟩:=hb;clear hs;go_enter Tryz.func94,Tryz.ntmps94;go_wp2_with fail;refine(great_calls [a,b] _ 2 _ (RdI.of2 (heap_alloc_new w _)) (Nat.le_refl _) (by simp) HF.out).mono ?_;rintro e w1 ⟨rfl,rfl⟩;go_wp2_with fail;refine(tells_calls v (a-b) HS.out _).mono ?_;rintro e w1 ⟨rfl,rfl⟩;go_wp2
 go_ret
 exact⟨rfl,(Below.refl _ w).alloc (Nat.le_refl _) _⟩
theorem mag_prod {n m:Bool}{l k:List Int}(hd:digs l)(he:digs k)(X Y:Nat)(h1:(wval n l).natAbs≤X)(h2:(wval m k).natAbs≤Y):mag l*mag k≤X*Y:=by
 have a:=mag_wval (n:=n) hd;have b:=mag_wval (n:=m) he;exact Int.mul_le_mul (by omega) (by omega) b.1 (by omega)
theorem wratio_calls (v:Value)(a b c:Int)(ha:fits a)(hb:fits b)(hc:fits c)(hc0:0<c)(hq:(a*b).natAbs≤4611686018427387902*c)(w:World):
  Calls Tryz.prog 93 #[v, .int .i64 a, .int .i64 b, .int .i64 c] w fun e w'=>e= .returned (.int .i64 (a*b / c))∧Below w.heap.size w w':=by
 have HF:Hid (∀x∈[a,b,c],fits x):=Lh (by intro x hx;simp at hx;rcases hx with rfl|rfl|rfl<;>assumption);obtain⟨a1,a2⟩:=ha;obtain⟨b1,b2⟩:=hb;obtain⟨c1,c2⟩:=hc;have hz:(c == 0)=false:=by simp;omega
 have hfit:Hid (fits (a*b / c)):=by
  have e1:a*b / c*c≤a*b:=Int.ediv_mul_le _ (by omega);have e2:a*b<(a*b / c+1)*c:=by have:=Int.lt_ediv_add_one_mul_self (a*b) hc0;exact this
  unfold fits;constructor
  ·rcases Int.le_total 0 (a*b / c+4611686018427387903)with h|h
   ·omega
   ·have:=Int.mul_le_mul_of_nonneg_right (show a*b / c+1≤ -4611686018427387902 by omega) (Int.le_of_lt hc0);omega
  ·rcases Int.le_total (a*b / c) 4611686018427387903 with h|h
   ·omega
   ·have:=Int.mul_le_mul_of_nonneg_right h (Int.le_of_lt hc0);omega
 have HQ:=Lh hq;clear hq;go_enter Tryz.func93,Tryz.ntmps93;go_wp2_with fail;refine(great_calls [a,b,c] _ 3 _ (RdI.of3 (heap_alloc_new w _)) (Nat.le_refl _) (by simp) HF.out).mono ?_;rintro e w1 ⟨rfl,rfl⟩;go_wp2_with fail;refine(of_calls a (by omega) (by omega) _).mono ?_;rintro e w1 ⟨u,rfl,⟨n1,l1,rfl,hl1,hd1,hv1⟩,hb1⟩;have H1:=Lh (And.intro hl1 (And.intro hd1 hv1));have HB1:=Lh (bthen ((Below.refl _ w).alloc (Nat.le_refl _) _) hb1);clear hl1 hd1 hv1 hb1;go_wp2_with fail;refine(of_calls b (by omega) (by omega) _).mono ?_;rintro e w2 ⟨u,rfl,⟨n2,l2,rfl,hl2,hd2,hv2⟩,hb2⟩;have H2:=Lh (And.intro hl2 (And.intro hd2 hv2));have HB2:=Lh (bthen HB1.out hb2);clear hl2 hd2 hv2 hb2 HB1;go_wp2_with fail;refine(times_calls n1 n2 l1 l2 H1.out.1 H2.out.1 H1.out.2.1 H2.out.2.1 ?_ _).mono ?_
 ·have:=mag_prod (n:=n1) (m:=n2) H1.out.2.1 H2.out.2.1 9223372036854775807 9223372036854775807 (by rw[H1.out.2.2];omega) (by rw[H2.out.2.2];omega);rw[p8];omega
 rintro e w3 ⟨u,rfl,⟨n3,l3,rfl,hl3,hd3,hv3⟩,hb3⟩;rw[H1.out.2.2,H2.out.2.2]at hv3;have H3:=Lh (And.intro hl3 (And.intro hd3 hv3));have HB3:=Lh (bthen HB2.out hb3);clear hl3 hd3 hv3 hb3 HB2;go_wp2_with fail;refine(down_calls n3 l3 c H3.out.1 H3.out.2.1 hc0 c2 ?_ _).mono ?_
 ·have:=mag_wval (n:=n3) H3.out.2.1;have:=H3.out.2.2;have:=HQ.out;omega
 rintro e w4 ⟨rfl,hb4⟩;rw[H3.out.2.2];have HB4:=Lh (bthen HB3.out hb4);clear hb4 HB3;go_wp2_with fail;refine(tells_calls v (a*b / c) hfit.out _).mono ?_;rintro e w5 ⟨rfl,rfl⟩;go_wp2
 go_ret
 exact⟨rfl,HB4.out⟩
theorem wdiv_calls (v:Value)(a c:Int)(ha:fits a)(hc:fits c)(hc0:0<c)(hq:(a*4294967296).natAbs≤4611686018427387902*c)(w:World):
  Calls Tryz.prog 119 #[v, .int .i64 a, .int .i64 c] w fun e w'=>e= .returned (.int .i64 (a*4294967296 / c))∧Below w.heap.size w w':=by
 have H:=Lh (wratio_calls v a 4294967296 c ha (by unfold fits;decide) hc hc0 hq);clear ha hc hc0 hq;go_enter Tryz.func119,Tryz.ntmps119;go_wp2_with fail;refine(H.out _).mono ?_;rintro e w1 ⟨rfl,hb1⟩;go_wp2
 go_ret
 exact⟨rfl,hb1⟩
/-- the sum of the products -/
def dotL:List Int→List Int→Int
 |x::l,y::m=>x*y+dotL l m
 |_,_=>0
theorem dotL_snoc:∀(l m:List Int) (k:Nat) (h:k<l.length) (h':k<m.length),dotL (l.take (k+1)) (m.take (k+1))=dotL (l.take k) (m.take k)+l[k]*m[k]
 |x::l,y::m,0,_,_=>by simp[dotL]
 |x::l,y::m,k+1,h,h'=>by
  have:=dotL_snoc l m k (by simpa using h) (by simpa using h');simp only[List.take_succ_cons,dotL,List.getElem_cons_succ,this];omega
theorem fits_mul {x y:Int}(hx:fits x)(hy:fits y):(x*y).natAbs≤21267647932558653957237540927630737409:=by
 rw[Int.natAbs_mul];obtain⟨a,b⟩:=hx;obtain⟨c,d⟩:=hy;exact Nat.mul_le_mul (show x.natAbs≤4611686018427387903 by omega) (show y.natAbs≤4611686018427387903 by omega)
theorem dotL_bd:∀(l m:List Int),(∀x∈l,fits x)→(∀x∈m,fits x)→(dotL l m).natAbs≤l.length*21267647932558653957237540927630737409
 |[],_,_,_=>by simp[dotL]
 |x::l,[],_,_=>by simp[dotL]
 |x::l,y::m,h1,h2=>by
  have a:=dotL_bd l m (fun z hz=>h1 z (.tail _ hz)) (fun z hz=>h2 z (.tail _ hz));have b:=fits_mul (h1 x (.head _)) (h2 y (.head _));simp only[dotL,List.length_cons];omega
theorem bd8 {d n C:Nat}(h1:d≤n*C)(h:n≤8):d≤8*C:=Nat.le_trans h1 (Nat.mul_le_mul_right _ h)
theorem rd1 {w:World}{b o:Nat}{l:List Int}{k:Nat}(h:RdI w (some ⟨b,o,none⟩) l)(hk:k<l.length):w.cell? ⟨b,o+k,none⟩=some (.int .i64 l[k]):=by
 obtain⟨b',o',e,_,hc⟩:=h.get k hk;simp only[Option.some.injEq,Addr.mk.injEq,and_true]at e;obtain⟨rfl,rfl⟩:=e;exact hc
theorem sum_m1 {n1 n2:Bool}{l1 l2:List Int}{x y:Int}(h1:l1.length=8∧digs l1∧wval n1 l1=x)(h2:l2.length=8∧digs l2∧wval n2 l2=y)(hx:fits x)(hy:fits y):mag l1*mag l2<16777216^8:=by
 obtain⟨a,b⟩:=hx;obtain⟨c,d⟩:=hy;have:=mag_prod (n:=n1) (m:=n2) h1.2.1 h2.2.1 4611686018427387903 4611686018427387903 (by rw[h1.2.2];omega) (by rw[h2.2.2];omega);rw[p8];omega
theorem sum_m2 {n n3:Bool}{o l3:List Int}{x y s:Int}(h:o.length=8∧digs o∧wval n o=s)(h3:l3.length=8∧digs l3∧wval n3 l3=x*y)(hx:fits x)(hy:fits y)(hb:s.natAbs≤8*21267647932558653957237540927630737409):mag o+mag l3<16777216^8:=by
 have a:=mag_wval (n:=n) h.2.1;have b:=mag_wval (n:=n3) h3.2.1;have c:=fits_mul hx hy;rw[h.2.2]at a;rw[h3.2.2]at b;rw[p8];omega
theorem sum_calls (l m:List Int)(A B:Option Addr)(c d:Nat)(w:World)(hA:RdI w A l)(hB:RdI w B m)(hlm:m.length=l.length)(h8:l.length≤8)(hc:l.length≤c)(hd:m.length≤d)(hf:∀x∈l,fits x)(hg:∀x∈m,fits x):
  Calls Tryz.prog 149 #[.slice A l.length c, .slice B l.length d] w (OfPost (dotL l m) w):=by
 have HA:=Lh hA;have HB:=Lh hB;have HLM:=Lh hlm;have HF:=Lh hf;have HG:=Lh hg;obtain⟨N,hN⟩:=nm_ l.length;have HN:=Lh hN;rw[hN]at h8 hc⊢;have hd':N≤d:=by omega
 clear hA hB hlm hf hg hN hd;have HR:=Lh ((Wd.new w false zs8).alloc (.cells (aW false zs8) 169));have HO:=Wd.new (w.alloc (.cells (aW false zs8) 169)) false zs8;rw[World.size_alloc]at HO;have HO:=Lh HO;have HW:=Lh (((Below.refl _ w).alloc (Nat.le_refl _) (.cells (aW false zs8) 169)).alloc (by simp) (.cells (aW false zs8) 169));go_enter Tryz.func149,Tryz.ntmps149;go_wp2;go_loopw [6] (fun v6 wr=>∃(k:Nat) (n:Bool) (o:List Int),k≤N∧v6= .int .i64 k∧Hid (o.length=8∧digs o∧wval n o=dotL (l.take k) (m.take k))∧Hid (Wd wr w.heap.size false zs8)∧Hid (Wd wr (w.heap.size+1) n o)∧Hid (Below w.heap.size w wr)) (fun i _=>N-(intOf i).toNat)
 case atStart=>exact⟨0,false,zs8,by omega,rfl,Lh ⟨rfl,zs8_ok.2.1,by simp[wval,zs8_ok.2.2,dotL]⟩,HR,HO,HW⟩
 case round=>
  clear HR HO HW;obtain⟨k,n,o,hk,rfl,hP,hR,hO,hW⟩:=hrel;by_cases hkN:k<N
  ·have hlt:k<l.length:=by rw[HN.out];exact hkN
   have hlt2:k<m.length:=by rw[HLM.out];exact hlt
   have hA:=Lh (HA.below hW.out);have hB:=Lh (HB.below hW.out);obtain⟨ba,oa,rfl,_,_⟩:=hA.out.get k hlt;obtain⟨bb,ob,rfl,_,_⟩:=hB.out.get k hlt2;have hxx:fits l[k]:=HF.out _ (List.getElem_mem _);have hyy:fits m[k]:=HG.out _ (List.getElem_mem _);have hS:=dotL_snoc l m k hlt hlt2;have hbd:=Lh (bd8 (dotL_bd (l.take k) (m.take k) (fun x hx=>HF.out x (List.mem_of_mem_take hx)) (fun x hx=>HG.out x (List.mem_of_mem_take hx))) (show(l.take k).length≤8 by rw[List.length_take];omega));obtain⟨x,hx⟩:=nm_ (l[k]);obtain⟨y,hy⟩:=nm_ (m[k]);rw[hx]at hxx hS;rw[hy]at hyy hS;have hx:=Lh hx;have hy:=Lh hy;have hS:=Lh hS;obtain⟨q1,q2⟩:=id hxx;obtain⟨q3,q4⟩:=id hyy;have hO:=Lh hO.drew;have hR:=Lh hR.drew;have hW:=Lh (pw_below_drewN hW.out 1);have hA:=Lh (HA.below hW.out);have hB:=Lh (HB.below hW.out);obtain⟨z0,z1,z2,z3,z4,z5,z6,z7,z8⟩:=hO.out.all;have cx:=rd1 hA.out hlt;have cy:=rd1 hB.out hlt2;rw[hx.out]at cx;rw[hy.out]at cy;have hkN1:(k:Int)<(N:Int):=by omega
   go_wp2_with fail;refine start_ (n:=14) (S:=fun w'=>w'.cell? ⟨w.heap.size+1,0,none⟩=some (.bool n)∧w'.cell? ⟨w.heap.size+1,1,none⟩=some (.int .i64 (dg o 0))∧w'.cell? ⟨w.heap.size+1,2,none⟩=some (.int .i64 (dg o 1))∧w'.cell? ⟨w.heap.size+1,3,none⟩=some (.int .i64 (dg o 2))∧w'.cell? ⟨w.heap.size+1,4,none⟩=some (.int .i64 (dg o 3))∧w'.cell? ⟨w.heap.size+1,5,none⟩=some (.int .i64 (dg o 4))∧w'.cell? ⟨w.heap.size+1,6,none⟩=some (.int .i64 (dg o 5))∧w'.cell? ⟨w.heap.size+1,7,none⟩=some (.int .i64 (dg o 6))∧w'.cell? ⟨w.heap.size+1,8,none⟩=some (.int .i64 (dg o 7))∧w'.cell? ⟨ba,oa+k,none⟩=some (.int .i64 x)∧w'.cell? ⟨bb,ob+k,none⟩=some (.int .i64 y)) (ds:=[13]) (MT 0 14) (by kernel_rfl) rfl rfl ⟨z0,z1,z2,z3,z4,z5,z6,z7,z8,cx,cy⟩ (fun hE=>?_);refine pu_ 1 14 (h:=?_);refine pu_ 2 15 (h:=?_);refine pu_ 3 16 (h:=?_);refine pu_ 6 19 (h:=?_);refine pu_ 7 20 (h:=?_);refine pu_ 8 21 (h:=?_);refine take_ (i:=0) (N:=some 13) (v:=?_) (a':=?_) (MB_ 14 463) rfl rfl (by kernel_rfl) (fun _ _ _ h=>h) (Or.inl ⟨by rfl,?_⟩) (by assumption) ?_ ?_;rotate_left
   ·rintro w' ⟨s0,s1,s2,s3,s4,s5,s6,s7,s8,s9,s10⟩;go_simp
    with_reducible rfl
   rotate_left
   ·simp only[Act.put,List.setIfInBounds_toArray,List.set_cons_zero,List.set_cons_succ];rfl
   refine take_ (i:=4) (N:=some 17) (v:=?_) (a':=?_) (MB_ 14 479) rfl rfl (by kernel_rfl) (fun _ _ _ h=>h) (Or.inl ⟨by rfl,?_⟩) (by assumption) ?_ ?_;rotate_left
   ·rintro w' ⟨s0,s1,s2,s3,s4,s5,s6,s7,s8,s9,s10⟩;go_simp
    with_reducible rfl
   rotate_left
   ·simp only[Act.put,List.setIfInBounds_toArray,List.set_cons_zero,List.set_cons_succ];rfl
   refine take_ (i:=9) (N:=some 22) (v:=?_) (a':=?_) (MB_ 14 991) rfl rfl (by kernel_rfl) (fun _ _ _ h=>h) (Or.inl ⟨by rfl,?_⟩) (by assumption) ?_ ?_;rotate_left
   ·rintro w' ⟨s0,s1,s2,s3,s4,s5,s6,s7,s8,s9,s10⟩;go_simp
    with_reducible rfl
   rotate_left
   ·simp only[Act.put,List.setIfInBounds_toArray,List.set_cons_zero,List.set_cons_succ];rfl
   refine on_ 5 (some 18) (h:=fun K hK=>?_);refine goes_ Tryz.func139 (by kernel_rfl) rfl #[.int .i64 x] (by rfl) rfl rfl (by first|rfl|(simp only[List.map_toArray,List.map_cons,List.map_nil];rfl)) ?_
   with_reducible refine(of_calls x (by omega) (by omega) _).mono ?_
   rintro e w1 ⟨u,rfl,⟨n1,l1,rfl,hl1,hd1,hv1⟩,hb⟩;have HOw1:=Lh (hO.below hb);have HRw1:=Lh (hR.below hb);have HWw1:=Lh (bthen hW.out hb);have HAw1:=Lh (hA.below hb);have HBw1:=Lh (hB.below hb);obtain⟨z0,z1,z2,z3,z4,z5,z6,z7,z8⟩:=HOw1.out.all;have cx:=rd1 HAw1.out hlt;rw[hx.out]at cx;have cy:=rd1 HBw1.out hlt2;rw[hy.out]at cy;have P1:=Lh (And.intro hl1 (And.intro hd1 hv1));clear hl1 hd1 hv1;clear hb;refine⟨_,rfl,?_⟩;refine hK.out _ _ ⟨z0,z1,z2,z3,z4,z5,z6,z7,z8,cx,cy⟩ (fun hE=>?_);clear hK K;refine no_ (h:=?_);refine on_ 10 (some 23) (h:=fun K hK=>?_);refine goes_ Tryz.func139 (by kernel_rfl) rfl #[.int .i64 y] (by rfl) rfl rfl (by first|rfl|(simp only[List.map_toArray,List.map_cons,List.map_nil];rfl)) ?_
   with_reducible refine(of_calls y (by omega) (by omega) _).mono ?_
   rintro e w2 ⟨u,rfl,⟨n2,l2,rfl,hl2,hd2,hv2⟩,hb⟩;have HOw2:=Lh (HOw1.below hb);have HRw2:=Lh (HRw1.below hb);have HWw2:=Lh (bthen HWw1.out hb);have HAw2:=Lh (HAw1.below hb);have HBw2:=Lh (HBw1.below hb);obtain⟨z0,z1,z2,z3,z4,z5,z6,z7,z8⟩:=HOw2.out.all;have cx:=rd1 HAw2.out hlt;rw[hx.out]at cx;have cy:=rd1 HBw2.out hlt2;rw[hy.out]at cy;have P2:=Lh (And.intro hl2 (And.intro hd2 hv2));clear hl2 hd2 hv2;clear hb;refine⟨_,rfl,?_⟩;refine hK.out _ _ ⟨z0,z1,z2,z3,z4,z5,z6,z7,z8,cx,cy⟩ (fun hE=>?_);clear hK K;refine no_ (h:=?_);refine on_ 11 (some 24) (h:=fun K hK=>?_);refine goes_ Tryz.func138 (by kernel_rfl) rfl #[.agg (aW n1 l1), .agg (aW n2 l2)] (by rfl) rfl rfl (by first|rfl|(simp only[List.map_toArray,List.map_cons,List.map_nil];rfl)) ?_
   with_reducible refine(times_calls n1 n2 l1 l2 P1.out.1 P2.out.1 P1.out.2.1 P2.out.2.1 (sum_m1 P1.out P2.out hxx hyy) _).mono ?_
   rintro e w3 ⟨u,rfl,⟨n3,l3,rfl,hl3,hd3,hv3⟩,hb⟩;have HOw3:=Lh (HOw2.below hb);have HRw3:=Lh (HRw2.below hb);have HWw3:=Lh (bthen HWw2.out hb);have HAw3:=Lh (HAw2.below hb);have HBw3:=Lh (HBw2.below hb);obtain⟨z0,z1,z2,z3,z4,z5,z6,z7,z8⟩:=HOw3.out.all;have cx:=rd1 HAw3.out hlt;rw[hx.out]at cx;have cy:=rd1 HBw3.out hlt2;rw[hy.out]at cy;rw[P1.out.2.2,P2.out.2.2]at hv3;have P3:=Lh (And.intro hl3 (And.intro hd3 hv3));clear hl3 hd3 hv3;clear hb;refine⟨_,rfl,?_⟩;refine hK.out _ _ ⟨z0,z1,z2,z3,z4,z5,z6,z7,z8,cx,cy⟩ (fun hE=>?_);clear hK K;refine no_ (h:=?_);refine on_ 12 (some 25) (h:=fun K hK=>?_);refine goes_ Tryz.func155 (by kernel_rfl) rfl #[.agg (aW n o), .agg (aW n3 l3)] (by rfl) rfl rfl (by first|rfl|(simp only[List.map_toArray,List.map_cons,List.map_nil];rfl)) ?_
   with_reducible refine(plus_calls n n3 o l3 hP.out.1 P3.out.1 hP.out.2.1 P3.out.2.1 (sum_m2 hP.out P3.out hxx hyy hbd.out) _).mono ?_
   rintro e w4 ⟨u,rfl,⟨n4,l4,rfl,hl4,hd4,hv4⟩,hb⟩;have HOw4:=Lh (HOw3.below hb);have HRw4:=Lh (HRw3.below hb);have HWw4:=Lh (bthen HWw3.out hb);have HAw4:=Lh (HAw3.below hb);have HBw4:=Lh (HBw3.below hb);obtain⟨z0,z1,z2,z3,z4,z5,z6,z7,z8⟩:=HOw4.out.all;have cx:=rd1 HAw4.out hlt;rw[hx.out]at cx;have cy:=rd1 HBw4.out hlt2;rw[hy.out]at cy;rw[hP.out.2.2,P3.out.2.2]at hv4;have P4:=Lh (And.intro hl4 (And.intro hd4 hv4));clear hl4 hd4 hv4;obtain⟨f0,f1,f2,f3,f4,f5,f6,f7,f8⟩:=HOw4.out.fzs;clear hb;refine⟨_,rfl,?_⟩;refine hK.out _ _ ⟨z0,z1,z2,z3,z4,z5,z6,z7,z8,cx,cy⟩ (fun hE=>?_);clear hK K;refine no_ (h:=?_);refine last_ (i:=13) (N:=none) (MT 14 0) rfl rfl (by kernel_rfl) (by decide) (fun K hK=>?_);refine skip_ (w1:=?_) (by rfl) rfl ?_ ?_;rotate_left
   ·go_simp;rfl
   refine hK.out _ _ ?_;clear hK K;refine done_ (by kernel_rfl) ?_;have hN:=blk9_set HOw4.out n4 l4;have hR':=(set9_far (w:=w4) (g:=w.heap.size+1) (k:=w.heap.size) (by omega) (.bool n4) (.int .i64 (dg l4 0)) (.int .i64 (dg l4 1)) (.int .i64 (dg l4 2)) (.int .i64 (dg l4 3)) (.int .i64 (dg l4 4)) (.int .i64 (dg l4 5)) (.int .i64 (dg l4 6)) (.int .i64 (dg l4 7))).trans HRw4.out;have hW':=below_set9 HWw4.out (g:=w.heap.size+1) (by omega) (.bool n4) (.int .i64 (dg l4 0)) (.int .i64 (dg l4 1)) (.int .i64 (dg l4 2)) (.int .i64 (dg l4 3)) (.int .i64 (dg l4 4)) (.int .i64 (dg l4 5)) (.int .i64 (dg l4 6)) (.int .i64 (dg l4 7));unfold set9 at hN hR' hW';have hN:=Lh hN;have hR':=Lh hR';have hW':=Lh hW';have hP':Hid (l4.length=8∧digs l4∧wval n4 l4=dotL (l.take (k+1)) (m.take (k+1))):=Lh ⟨P4.out.1,P4.out.2.1,by rw[P4.out.2.2,hS.out]⟩;go_wp2
   go_roundw
   case rel=>exact⟨k+1,n4,l4,by omega,by go_num,hP',hR',hN,hW'⟩
   case measure=>simp[intOf];omega
  ·obtain rfl:k=N:=by omega
   obtain⟨z0,z1,z2,z3,z4,z5,z6,z7,z8⟩:=hO.out.all;obtain⟨x0,x1,x2,x3,x4,x5,x6,x7,x8⟩:=hR.out.all;obtain⟨f0,f1,f2,f3,f4,f5,f6,f7,f8⟩:=hR.out.fzs;have hv:WV (.agg (aW n o)) (dotL l m):=⟨n,o,rfl,hP.out.1,hP.out.2.1,by rw[hP.out.2.2,List.take_of_length_le (by rw[HN.out];omega),List.take_of_length_le (by rw[HLM.out,HN.out];omega)]⟩;have HS:=blk9_set hR.out n o;have HW:=below_set9 hW.out (Nat.le_refl _) (.bool n) (.int .i64 (dg o 0)) (.int .i64 (dg o 1)) (.int .i64 (dg o 2)) (.int .i64 (dg o 3)) (.int .i64 (dg o 4)) (.int .i64 (dg o 5)) (.int .i64 (dg o 6)) (.int .i64 (dg o 7));obtain⟨V,hV⟩:=nm_ (set9 wr w.heap.size (.bool n) (.int .i64 (dg o 0)) (.int .i64 (dg o 1)) (.int .i64 (dg o 2)) (.int .i64 (dg o 3)) (.int .i64 (dg o 4)) (.int .i64 (dg o 5)) (.int .i64 (dg o 6)) (.int .i64 (dg o 7)));rw[hV]at HS HW;obtain⟨t0,t1,t2,t3,t4,t5,t6,t7,t8⟩:=HS.all;unfold set9 at hV;have HV:=Lh hV;have HW:=Lh HW;have hv:=Lh hv;clear hV HS;go_wp2;rw[HV.out];exact bodyPost_ret (v:= .agg (aW n o)) (by simp[results,Tryz.results149,go_sem,t0,t1,t2,t3,t4,t5,t6,t7,t8]) rfl ⟨_,rfl,hv.out,HW.out⟩
theorem dotL_self:∀(l:List Int),0≤dotL l l
 |[]=>by simp[dotL]
 |x::l=>by have:=dotL_self l;have:=sq_nonneg x;simp only[dotL];omega
theorem rtI_fits {v:Int}(h0:0≤v)(h:v<21267647932558653966460912964485513216):fits (rtI v):=by
 obtain⟨a,b,_⟩:=rtI_spec h0;refine⟨by omega,?_⟩;rcases Int.le_total (rtI v) 4611686018427387903 with h1|h1
 ·exact h1
 ·rcases Int.le_total (rtI v) 4611686018427387903 with h3|h3
  ·exact h3
  ·by_cases h4:rtI v=4611686018427387903
   ·omega
   ·have:=Int.mul_le_mul (show(4611686018427387904:Int)≤rtI v by omega) (show(4611686018427387904:Int)≤rtI v by omega) (by decide) (by omega);omega
theorem norm_calls (v:Value)(l:List Int)(A:Option Addr)(c:Nat)(w:World)(hA:RdI w A l)(h8:l.length≤8)(hc:l.length≤c)(hf:∀x∈l,fits x)(hs:dotL l l<21267647932558653966460912964485513216):
  Calls Tryz.prog 118 #[v, .slice A l.length c] w fun e w'=>e= .returned (.int .i64 (rtI (dotL l l)))∧Below w.heap.size w w':=by
 have HG:=Lh (great_calls l A c w hA hc (by omega) hf);have HS:=Lh (sum_calls l l A A c c w hA hA rfl h8 hc hc hf hf);have HF:=Lh (rtI_fits (dotL_self l) hs);have H0:=Lh (dotL_self l);have H1:=Lh hs;have hd:decide ((8:Int)<(l.length:Int))=false:=by simp;omega
 have hd2:decide (8<l.length)=false:=by simp;omega
 clear hA hf hs;obtain⟨N,hN⟩:=nm_ l.length;rw[hN]at HG HS hd hd2 h8 hc⊢;clear hN;go_enter Tryz.func118,Tryz.ntmps118;go_wp2_with fail;refine HG.mono ?_;rintro e w1 ⟨rfl,rfl⟩;clear HG;go_wp2_with fail;refine HS.mono ?_;rintro e w2 ⟨u,rfl,⟨n,o,rfl,ho,hdg,hv⟩,hb⟩;have hr:=rootof_calls n o ho hdg (by rw[hv];exact H0.out) (by rw[hv];exact H1.out) w2;rw[hv]at hr;have HR:=Lh hr;have HB:=Lh hb;clear hr hb hv ho hdg HS hd hd2;go_wp2_with fail;refine HR.mono ?_;rintro e w3 ⟨rfl,hb3⟩;have HB3:=Lh (bthen HB.out hb3);clear hb3 HR HB;go_wp2_with fail;refine(tells_calls v _ HF.out _).mono ?_;rintro e w4 ⟨rfl,rfl⟩;go_wp2
 go_ret
 exact⟨rfl,HB3.out⟩
theorem fdiv_fits {s:Int}(h:s.natAbs≤4611686018427387902*4294967296):fits (s / 4294967296):=by unfold fits;omega
theorem wdot_calls (v:Value)(l m:List Int)(A B:Option Addr)(c d:Nat)(w:World)(hA:RdI w A l)(hB:RdI w B m)(hlm:m.length=l.length)(h8:l.length≤8)(hc:l.length≤c)(hdd:m.length≤d)(hf:∀x∈l,fits x)(hg:∀x∈m,fits x)(hs:(dotL l m).natAbs≤4611686018427387902*4294967296):
  Calls Tryz.prog 122 #[v, .slice A l.length c, .slice B l.length d] w fun e w'=>e= .returned (.int .i64 (dotL l m / 4294967296))∧Below w.heap.size w w':=by
 have HG:=Lh (great_calls l A c w hA hc (by omega) hf);have hg':=great_calls m B d w hB hdd (by omega) hg;rw[hlm]at hg';have HG2:=Lh hg';have HS:=Lh (sum_calls l m A B c d w hA hB hlm h8 hc hdd hf hg);have HF:=Lh (fdiv_fits hs);have H1:=Lh hs;clear hA hB hf hg hs hg' hlm hdd;obtain⟨N,hN⟩:=nm_ l.length;rw[hN]at HG HG2 HS h8 hc⊢;clear hN;have hd:decide ((8:Int)<(N:Int))=false:=by simp;omega
 have hd2:decide (8<N)=false:=by simp;omega
 have hd3:((N:Int) != (N:Int))=false:=by simp
 go_enter Tryz.func122,Tryz.ntmps122;go_wp2_with fail;refine HG.mono ?_;rintro e w1 ⟨rfl,rfl⟩;clear HG;go_wp2_with fail;refine HG2.mono ?_;rintro e w1 ⟨rfl,rfl⟩;clear HG2;go_wp2_with fail;refine HS.mono ?_;rintro e w2 ⟨u,rfl,⟨n,o,rfl,ho,hdg,hv⟩,hb⟩;have hmm:=mag_wval (n:=n) hdg;have hr:=down_calls n o 4294967296 ho hdg (by decide) (by decide) (by have:=H1.out;rw[hv]at hmm;omega) w2;rw[hv]at hr;have HR:=Lh hr;have HB:=Lh hb;clear hr hb hv ho hdg HS hd hd2 hmm;go_wp2_with fail;refine HR.mono ?_;rintro e w3 ⟨rfl,hb3⟩;have HB3:=Lh (bthen HB.out hb3);clear hb3 HR HB;go_wp2_with fail;refine(tells_calls v _ HF.out _).mono ?_;rintro e w4 ⟨rfl,rfl⟩;go_wp2
 go_ret
 exact⟨rfl,HB3.out⟩
/-- a store of what lies there -/
theorem setCell_id (w:World)(g o:Nat)(v:Value)(h:w.cell? ⟨g,o,none⟩=some v):w.setCell ⟨g,o,none⟩ v=w:=by
 have e:(w.setCell ⟨g,o,none⟩ v).heap=w.heap:=by
  unfold World.setCell;apply Array.ext_getElem?;intro i;simp only[Option.isSome_none,Bool.false_eq_true,if_false];rw[Array.getElem?_modify];split
  ·rename_i he;unfold World.cell? at h;rw[←he];simp only[Option.isSome_none,Bool.false_eq_true,if_false]at h
   cases ho:w.heap[g]? with
   |none=>rfl
   |some ob=>
    rw[ho]at h
    cases ob with
    |cells cs t fr=>
     simp only[Option.map_some,Option.some.injEq,Obj.cells.injEq,and_true]at h⊢;apply Array.ext_getElem?;intro j;rw[Array.getElem?_setIfInBounds];split
     ·rename_i hj;rw[←hj,h];have:=(Array.getElem?_eq_some_iff.1 h).1;simp[this]
     ·rfl
    |_=>simp at h
  ·rfl
 have e2:w.setCell ⟨g,o,none⟩ v={w with heap:=(w.setCell ⟨g,o,none⟩ v).heap}:=rfl;rw[e2,e]
theorem bare_w_calls (w:World):Calls Tryz.prog 117 #[] w fun e w'=>e= .returned (.pointer (some ⟨w.heap.size,0,none⟩))∧w'=w.alloc (.cells #[.bool false] 90):=by
 go_enter Tryz.func117,Tryz.ntmps117;go_wp2
 go_ret
 exact⟨rfl,rfl⟩
theorem done_calls (g h:Nat)(w:World)(h1:w.cell? ⟨g,0,none⟩=some (.bool false))(f1:w.frozen? ⟨g,0,none⟩=false)(h2:w.cell? ⟨h,0,none⟩=some (.bool false)):
  Calls Tryz.prog 120 #[.pointer (some ⟨g,0,none⟩), .pointer (some ⟨h,0,none⟩)] w fun e w'=>e= .returned (.bool true)∧w'=w:=by
 have hs:=setCell_id w _ _ _ h1;go_enter Tryz.func120,Tryz.ntmps120;go_wp2
 go_ret
 exact⟨rfl,by simp[*]⟩
end Go.Proofs.YtckdhahceelckaaGreat.G
