/- What the laws of this claim lean on: contracts of functions and plain lemmas; no condition of its own (part 6: XW9, XW7, XW8, XN6, XN9, XG1, XG2, XG3, XN15, XG10). -/
import Derived.Test.YtckdhahceelckaaGreatKQ5
set_option maxHeartbeats 16000000
set_option maxRecDepth 100000
set_option linter.unusedVariables false
set_option linter.unusedSimpArgs false
namespace Go.Proofs.YtckdhahceelckaaGreat.G
open Go.RowKit Go.Proofs.YtckdhahceelckaaGreatW.PrintWords Go.Proofs.YtckdhahceelckaaGreatW.PrintLast Go.Proofs.YtckdhahceelckaaGreatW.PrintMore
attribute [local go_sem] max2_mx min2_mn max_two min_two max_three min_three max_four min_four
/-- the state ahead of digit z -/
def DnI (l:List Int)(c z q r:Int):Prop:=0≤q∧0≤r∧r<c∧q*c+r=mag (l.drop (z+1).toNat)
theorem DnI.start (l:List Int)(c:Int)(hl:l.length=8)(hc:0<c):DnI l c 7 0 0:=⟨by omega,by omega,hc,by rw[List.drop_of_length_le (by omega)];simp[mag]⟩
theorem DnI.skip {l:List Int}{c:Int}{i:Nat}(h:DnI l c i 0 0)(hl:l.length=8)(hi:i<8)(h0:dg l i=0):DnI l c ((i:Int)-1) 0 0:=by
 obtain⟨h1,h2,h3,h4⟩:=h;refine⟨h1,h2,h3,?_⟩;rw[show((i:Int)-1+1).toNat=i by omega,mag_drop l i (by omega),h0];rw[show((i:Int)+1).toNat=i+1 by omega]at h4;rw[←h4];simp
theorem DnI.inn {l:List Int}{c q r:Int}{i:Nat}(h:DnI l c i q r)(hd:digs l):DivI (mag (l.drop (i+1))) (dg l i) c 0 q r:=by
 obtain⟨h1,h2,h3,h4⟩:=h;rw[show((i:Int)+1).toNat=i+1 by omega]at h4;exact DivI.start h1 h2 h3 h4 (dg_ok hd i).1 (dg_ok hd i).2
theorem DnI.out {l:List Int}{c q r:Int}{i:Nat}(h:DivI (mag (l.drop (i+1))) (dg l i) c 24 q r)(hl:l.length=8)(hi:i<8):DnI l c ((i:Int)-1) q r:=by
 obtain⟨h1,h2,h3,h4⟩:=h.done;refine⟨h1,h2,h3,?_⟩;rw[show((i:Int)-1+1).toNat=i by omega,mag_drop l i (by omega),h4]
theorem DnI.q_le {l:List Int}{c q r:Int}{i j:Nat}(h:DivI (mag (l.drop (i+1))) (dg l i) c j q r)(hj:j<24)(hl:l.length=8)(hd:digs l)(hi:i<8)(hM:mag l≤4611686018427387902*c):q≤2305843009213693951:=by
 have h1:=mag_split l i (by omega);rw[mag_drop l i (by omega)]at h1;have h2:=mag_nonneg _ (digs_take hd i);have h3:=mag_nonneg _ (digs_drop hd (i+1));have h4:=dg_ok hd i;have h5:1*(dg l i+16777216*mag (l.drop (i+1)))≤16777216^i*(dg l i+16777216*mag (l.drop (i+1))):=Int.mul_le_mul_of_nonneg_right (by have:=pw_pos i;omega) (by omega);obtain⟨a1,a2,a3,a4⟩:=id h;have:=h.small (S:=4611686018427387902) hj h3 h4.1 (M:=mag l) (by omega) (by omega);omega
theorem DnI.fin {l:List Int}{c q r:Int}(h:DnI l c (-1) q r)(hM:mag l≤4611686018427387902*c):0≤q∧q≤4611686018427387902∧0≤r∧(0<r→wval true l / c= -(q+1))∧(r≤0→wval true l / c= -q)∧wval false l / c=q:=by
 obtain⟨h1,h2,h3,h4⟩:=h;rw[show((-1:Int)+1).toNat=0 by decide,List.drop_zero]at h4;have hc:0<c:=by omega
 obtain⟨e1,e2⟩:=divEnd h1 h2 h3 h4;have f:=floor_neg (mag l) c hc;rw[←e1,←e2]at f;have k:q*c≤4611686018427387902*c:=by omega
 have k2:=Int.le_of_mul_le_mul_right k hc;refine⟨h1,k2,h2,fun hr=>?_,fun hr=>?_,e1.symm⟩
 ·show(-mag l) / c=_;rw[f,if_pos hr]
 ·show(-mag l) / c=_;rw[f,if_neg (by omega)]
theorem down_calls (n:Bool)(l:List Int)(c:Int)(hl:l.length=8)(hd:digs l)(hc0:0<c)(hc1:c≤4611686018427387903)(hM:mag l≤4611686018427387902*c)(w:World):
  Calls Tryz.prog 137 #[.agg (aW n l), .int .i64 c] w fun e w'=>e= .returned (.tuple #[.int .i64 (wval n l / c), .bool true])∧Below w.heap.size w w':=by
 have HL:=Lh hl;have HD:=Lh hd;have HM:=Lh hM;have HX:=Lh (DnI.start l c hl hc0);clear hl hd hM;have HA:=Lh (Wd.new w n l);have HW:=Lh ((Below.refl _ w).alloc (Nat.le_refl _) (.cells (aW n l) 169));have hcn:decide (c<0)=false:=by simp;omega
 go_enter Tryz.func137,Tryz.ntmps137;go_wp2;clear hcn;go_loopw [7,8,9,10] (fun v7 v8 v9 v10 wr=>∃z q r:Int,v9= .int .i64 z∧v7= .int .i64 q∧v8= .int .i64 r∧ -1≤z∧z≤7∧Hid (DnI l c z q r)∧Hid (Wd wr w.heap.size n l)∧Hid (Below w.heap.size w wr)) (fun _ _ i _ _=>(intOf i+1).toNat)
 case atStart=>exact⟨7,0,0,rfl,rfl,rfl,by omega,by omega,HX,HA,HW⟩
 case round=>
  clear HX HA HW;obtain⟨z,q,r,rfl,rfl,rfl,hz1,hz2,hI,hA,hW⟩:=hrel;obtain⟨wo,rfl⟩:∃wo:World,wo=wr:=⟨_,rfl⟩;by_cases hz:z<0
  ·obtain rfl:z= -1:=by omega
   obtain⟨q0,q1,r0,v1,v2,v3⟩:=hI.out.fin HM.out;clear hz1 hz2 hz;cases n
   ·have hd1:decide ((4611686018427387903:Int)<q)=false:=by simp;omega
    have V:=Lh v3;clear v1 v2 v3;go_wp2
    go_ret2
    exact⟨by rw[V.out];rfl,hW.out⟩
   ·by_cases hr:0<r
    ·have hd1:decide ((4611686018427387903:Int)<q+1)=false:=by simp;omega
     have V:=Lh (v1 hr);have hr1:decide (0<r)=true:=by simpa using hr
     clear v1 v2 v3 hr;go_wp2
     go_ret2
     exact⟨by rw[V.out];rfl,hW.out⟩
    ·have hd1:decide ((4611686018427387903:Int)<q)=false:=by simp;omega
     have V:=Lh (v2 (by omega));have hr1:decide (0<r)=false:=by simpa using hr
     clear v1 v2 v3 hr;go_wp2
     go_ret2
     exact⟨by rw[V.out];rfl,hW.out⟩
  ·obtain⟨i,rfl⟩:∃i:Nat,z=i:=⟨z.toNat,by omega⟩;have hi:i<8:=by omega
   have c0:=hA.out.dig i hi;obtain⟨a0,a1⟩:=dg_ok HD.out i;obtain⟨q0,r0,r1,_⟩:=id hI.out;by_cases hskip:dg l i=0∧q=0∧r=0
   ·obtain⟨h0,rfl,rfl⟩:=hskip;have hN:=Lh (hI.out.skip HL.out hi h0);rw[h0]at c0;clear h0 a0 a1 q0 r0 r1 hz;go_wp2
    go_roundw
    case rel=>exact⟨_,0,0,rfl,rfl,rfl,by omega,by omega,hN,hA,hW⟩
    case measure=>simp[intOf]
   ·obtain⟨d,hd⟩:=nm_ (dg l i);have hN:=Lh (hI.out.inn HD.out);have HQ:=Lh (fun(j:Nat) (q r:Int) (h:DivI (mag (l.drop (i+1))) (dg l i) c j q r) (hj:j<24)=>DnI.q_le h hj HL.out HD.out hi HM.out);have HO:=Lh (fun(q r:Int) (h:DivI (mag (l.drop (i+1))) (dg l i) c 24 q r)=>DnI.out h HL.out hi);rw[hd]at c0 a0 a1 hskip hN HQ HO;have HDD:=Lh hd;clear hd hz;have hcase:((d == 0)=false)∨((d == 0)=true∧(q == 0)=false)∨((d == 0)=true∧(q == 0)=true∧(r == 0)=false):=by
     by_cases x:d=0
     ·by_cases y:q=0
      ·right;right;simp[x,y]at hskip⊢;exact hskip
      ·right;left;simp[x,y]
     ·left;simp[x]
    clear hskip;generalize mag (l.drop (i+1))=D at hN HQ HO;rcases hcase with t1|⟨t1,t2⟩|⟨t1,t2,t3⟩
    all_goals
     go_wp2;go_loopw [7,8,10] (fun v7 v8 v10 wr=>∃(j:Nat) (q r:Int),j≤24∧v10= .int .i64 (bitOf 24 j)∧v7= .int .i64 q∧v8= .int .i64 r∧Hid (DivI D d c j q r)∧Hid (Wd wr w.heap.size n l)∧Hid (Below w.heap.size w wr)) (fun _ _ b _=>(intOf b).toNat)
     case atStart=>exact⟨0,q,r,by omega,rfl,rfl,rfl,hN,hA,hW⟩
     case round=>
      clear hN hA hW q0 r0 r1 c0
      (try clear t1)
      (try clear t2)
      (try clear t3)
      obtain⟨j,q,r,hj24,rfl,rfl,rfl,hJ,hA,hW⟩:=hrel;obtain⟨q0,r0,r1,_⟩:=id hJ.out;by_cases hj:j<24
      ·have q1:=HQ.out j q r hJ.out hj;have b0:=bitOf_pos 24 j hj;have b1:=(bitOf_le 24 j).1;have HB:=Lh (bitOf_half 24 j hj);have m0:=Int.emod_nonneg (d / bitOf 24 j) (show(2:Int)≠0 by decide);have m1:=Int.emod_lt_of_pos (d / bitOf 24 j) (show(0:Int)<2 by decide);have HS0:=Lh (fun h=>hJ.out.step0 hj h);have HS1:=Lh (fun h=>hJ.out.step1 hj h);have c0:=hA.out.dig i hi;rw[HDD.out]at c0;have bb:(2:Int)^(24-1)=8388608:=by decide
       rw[bb]at b1;obtain⟨B,hB⟩:=nm_ (bitOf 24 j);rw[hB]at b0 b1 m0 m1 HS0 HS1 HB⊢;have e0:(B == 0)=false:=by simp;omega
       have x0:0≤d / B:=Int.ediv_nonneg a0 (by omega);have x1:d / B≤d:=Int.ediv_le_self _ a0;have e1:IntKind.i64.wrap (d.tdiv B)=d / B:=by rw[Int.tdiv_eq_ediv_of_nonneg a0];exact iw_id _ (by omega) (by omega)
       clear bb hB;have hd2:decide ((2305843009213693951:Int)<q)=false:=by simp;omega
       obtain⟨X,hX⟩:=nm_ (d / B);rw[hX]at m0 m1 HS0 HS1 x0 x1 e1;clear hX;have hb:X%2=0∨X%2=1:=by omega
       rcases hb with hb|hb
       ·have e2:(X%2 == 1)=false:=by rw[hb];rfl
        rw[hb,Int.add_zero]at HS0 HS1;clear hb m0 m1;by_cases hc:c≤2*r
        ·have hN:=Lh (HS1.out hc);have hd3:decide (c≤2*r)=true:=by simpa using hc
         go_wp2
         go_roundw
         case rel=>exact⟨j+1,_,_,by omega,by rw[←HB.out],rfl,rfl,hN,hA,hW⟩
         case measure=>simp[intOf];omega
        ·have hN:=Lh (HS0.out (by omega));have hd3:decide (c≤2*r)=false:=by simpa using hc
         go_wp2
         go_roundw
         case rel=>exact⟨j+1,_,_,by omega,by rw[←HB.out],rfl,rfl,hN,hA,hW⟩
         case measure=>simp[intOf];omega
       ·have e2:(X%2 == 1)=true:=by rw[hb];rfl
        rw[hb]at HS0 HS1;clear hb m0 m1;by_cases hc:c≤2*r+1
        ·have hN:=Lh (HS1.out hc);have hd3:decide (c≤2*r+1)=true:=by simpa using hc
         go_wp2
         go_roundw
         case rel=>exact⟨j+1,_,_,by omega,by rw[←HB.out],rfl,rfl,hN,hA,hW⟩
         case measure=>simp[intOf];omega
        ·have hN:=Lh (HS0.out (by omega));have hd3:decide (c≤2*r+1)=false:=by simpa using hc
         go_wp2
         go_roundw
         case rel=>exact⟨j+1,_,_,by omega,by rw[←HB.out],rfl,rfl,hN,hA,hW⟩
         case measure=>simp[intOf];omega
      ·obtain rfl:j=24:=by omega
       have e0:bitOf 24 24=0:=rfl;have hN:=Lh (HO.out q r hJ.out);go_wp2
       go_roundw
       case rel=>exact⟨_,q,r,rfl,rfl,rfl,by omega,by omega,hN,hA,hW⟩
       case measure=>simp[intOf]
theorem wval_mul (n m:Bool)(l k o:List Int)(h:mag o=mag l*mag k):wval (!(n == m)) o=wval n l*wval m k:=by
 cases n<;>cases m<;>simp[wval,h,Int.neg_mul,Int.mul_neg]
theorem times_calls (n m:Bool)(l k:List Int)(hl:l.length=8)(hk:k.length=8)(hd:digs l)(he:digs k)(hs:mag l*mag k<16777216^8)(w:World):
  Calls Tryz.prog 138 #[.agg (aW n l), .agg (aW m k)] w (OfPost (wval n l*wval m k) w):=by
 have HL:=Lh hl;have HK:=Lh hk;have HD:=Lh hd;have HE:=Lh he;have HS:=Lh hs;clear hl hk hd he hs;have HA:=Lh ((((Wd.new w n l).alloc (.cells (aW m k) 169)).alloc (.cells (aW false zs8) 169)).alloc (.cells (aW false zs8) 169));have HB:=((Wd.new (w.alloc (.cells (aW n l) 169)) m k).alloc (.cells (aW false zs8) 169)).alloc (.cells (aW false zs8) 169);have HC:=(Wd.new ((w.alloc (.cells (aW n l) 169)).alloc (.cells (aW m k) 169)) false zs8).alloc (.cells (aW false zs8) 169);have HO:=Wd.new (((w.alloc (.cells (aW n l) 169)).alloc (.cells (aW m k) 169)).alloc (.cells (aW false zs8) 169)) false zs8;simp only[World.size_alloc]at HB HC HO;have HB:=Lh HB;have HC:=Lh HC;have HO:=Lh HO;have HW:=Lh (((((Below.refl _ w).alloc (Nat.le_refl _) (.cells (aW n l) 169)).alloc (by simp) (.cells (aW m k) 169)).alloc (by simp;omega) (.cells (aW false zs8) 169)).alloc (by simp;omega) (.cells (aW false zs8) 169));go_enter Tryz.func138,Tryz.ntmps138;go_wp2;go_loopw [6,7,8,9] (fun v6 v7 v8 v9 wr=>∃(i:Nat) (o:List Int),i≤8∧v6= .int .i64 i∧Hid (Wd wr w.heap.size n l)∧Hid (Wd wr (w.heap.size+1) m k)∧Hid (Wd wr (w.heap.size+1+1) false zs8)∧Hid (Wd wr (w.heap.size+1+1+1) false o)∧Hid (MulO l k i o)∧Hid (Below w.heap.size w wr)) (fun i _ _ _ _=>8-(intOf i).toNat)
 case atStart=>exact⟨0,zs8,by omega,rfl,HA,HB,HC,HO,Lh (MulO.start l k),HW⟩
 case round=>
  clear HA HB HC HO HW;obtain⟨i,o,hi8,rfl,hA,hB,hC,hO,hI,hW⟩:=hrel;obtain⟨wo,rfl⟩:∃wo:World,wo=wr:=⟨_,rfl⟩;by_cases hi:i<8
  ·have c0:=hA.out.dig i hi;obtain⟨a0,a1⟩:=dg_ok HD.out i;by_cases h0:dg l i=0
   ·have hN:=Lh (hI.out.skip HL.out hi h0);rw[h0]at c0;clear h0 a0 a1;go_wp2
    go_roundw
    case rel=>exact⟨i+1,o,by omega,by go_num,hA,hB,hC,hO,hN,hW⟩
    case measure=>simp[intOf];omega
   ·obtain⟨x,hx⟩:=nm_ (dg l i);rw[hx]at c0 a0 a1 h0;have HX:=Lh hx;have t0:(x == 0)=false:=by simpa using h0
    clear hx h0;go_wp2;go_loopw [7,8,9] (fun v7 v8 v9 wr=>∃(j:Nat) (c:Int) (o':List Int),i+j≤8∧v8= .int .i64 j∧v7= .int .i64 c∧0≤c∧c<16777216∧Hid (Wd wr w.heap.size n l)∧Hid (Wd wr (w.heap.size+1) m k)∧Hid (Wd wr (w.heap.size+1+1) false zs8)∧Hid (Wd wr (w.heap.size+1+1+1) false o')∧Hid (MulI (mag o) x k i j o' c)∧Hid (Below w.heap.size w wr)) (fun _ j _ _=>8-(intOf j).toNat)
    case atStart=>exact⟨0,0,o,by omega,rfl,rfl,by omega,by omega,hA,hB,hC,hO,Lh (MulI.start x k i hI.out.1 hI.out.2.1),hW⟩
    case round=>
     clear hA hB hC hO hW t0 c0;obtain⟨j,c,o',hj8,rfl,rfl,k0,k1,hA,hB,hC,hO,hJ,hW⟩:=hrel;by_cases hj:i+j<8
     ·have c0:=hA.out.dig i hi;rw[HX.out]at c0;have c1:=hB.out.dig j (by omega);have c2:=hO.out.dig (i+j) hj;have f2:=hO.out.fz (1+(i+j));obtain⟨b0,b1⟩:=dg_ok HE.out j;obtain⟨d0,d1⟩:=dg_ok hJ.out.2.1 (i+j);have hm:=mul_dig _ _ _ _ d0 d1 a0 a1 b0 b1 k0 k1;have hN:=Lh (hJ.out.step a0 a1 HE.out HK.out hj);obtain⟨y,hy⟩:=nm_ (dg k j);obtain⟨z,hz⟩:=nm_ (dg o' (i+j));rw[hy]at c1 b0 b1 hN hm;rw[hz]at c2 d0 d1 hN;clear hy hz;obtain⟨m0,m1⟩:=hm;have n1:(i:Int)+(j:Int)<8:=by omega
      have n0:0≤(i:Int)+(j:Int):=by omega
      have e0:IntKind.i64.wrap ((i:Int)+(j:Int))=(i:Int)+(j:Int):=iw_id _ (by omega) (by omega);have e1:IntKind.i64.wrap (x*y)=x*y:=iw_id _ (by omega) (by omega);have e2:IntKind.i64.wrap (z+x*y)=z+x*y:=iw_id _ (by omega) (by omega);have e3:IntKind.i64.wrap (z+x*y+c)=z+x*y+c:=iw_id _ (by omega) (by omega);have e4:((i:Int)+(j:Int)).toNat=i+j:=by omega
      go_wp2
      go_quiet (fail)
      clear e1 e2 e3;obtain⟨s,hs⟩:=nm_ (z+x*y+c);have s0:0≤s:=by omega
      have s1:s≤281474976710655:=by omega
      rw[hs]at hN⊢;clear hs m0 m1;go_wp2
      go_roundw
      case rel=>exact⟨j+1,s / 16777216,_,by omega,by go_num,rfl,by omega,by omega,(hA.out.drewN _).far (by simp;try omega) _,(hB.out.drewN _).far (by simp;try omega) _,(hC.out.drewN _).far (by simp;try omega) _,(hO.out.drewN _).set hJ.out.1 (i+j) hj _,hN,(pw_below_drewN hW.out _).setCell (by first|(simp;done)|(simp;omega)|omega) _⟩
      case measure=>simp[intOf];omega
     ·obtain rfl:j=8-i:=by omega
      have e0:IntKind.i64.wrap ((i:Int)+((8-i:Nat):Int))=8:=by rw[show(i:Int)+((8-i:Nat):Int)=8 by omega];decide
      have hJ':=hJ.out;rw[←HX.out]at hJ';have hN:=Lh (hI.out.step hi hJ' HD.out HE.out HL.out HK.out HS.out);clear hJ';go_wp2
      go_roundw
      case rel=>exact⟨i+1,o',by omega,by go_num,hA,hB,hC,hO,hN,hW⟩
      case measure=>simp[intOf];omega
  ·obtain rfl:i=8:=by omega
   have hz:=hI.out.2.2;rw[List.take_of_length_le (by rw[HL.out];decide)]at hz;have hv:WV (.agg (aW (!(n == m)) o)) (wval n l*wval m k):=⟨_,o,rfl,hI.out.1,hI.out.2.1,wval_mul n m l k o hz⟩;clear hz;have y0:=hA.out.neg;have y1:=hB.out.neg;have y2:=hO.out.neg;have y3:=hO.out.fz 0;have hO1:=hO.out.setn (!(n == m));have hC1:=hC.out.far (p:=⟨w.heap.size+1+1+1,0,none⟩) (by simp) (.bool (!(n == m)));have hW1:=hW.setCell (p:=⟨w.heap.size+1+1+1,0,none⟩) (by simp;omega) (.bool (!(n == m)));obtain⟨v1,hv1⟩:=nm_ (wo.setCell ⟨w.heap.size+1+1+1,0,none⟩ (.bool (!(n == m))));rw[hv1]at hO1 hC1 hW1;obtain⟨z0,z1,z2,z3,z4,z5,z6,z7,z8⟩:=hO1.all;obtain⟨x1,x2,x3,x4,x5,x6,x7,x8,x9⟩:=hC1.all;obtain⟨f0,f1,f2,f3,f4,f5,f6,f7,f8⟩:=hC1.fzs;have HS:=blk9_set hC1 (!(n == m)) o;have HW:=below_set9 hW1 (g:=w.heap.size+1+1) (by omega) (.bool (!(n == m))) (.int .i64 (dg o 0)) (.int .i64 (dg o 1)) (.int .i64 (dg o 2)) (.int .i64 (dg o 3)) (.int .i64 (dg o 4)) (.int .i64 (dg o 5)) (.int .i64 (dg o 6)) (.int .i64 (dg o 7));obtain⟨V,hV⟩:=nm_ (set9 v1 (w.heap.size+1+1) (.bool (!(n == m))) (.int .i64 (dg o 0)) (.int .i64 (dg o 1)) (.int .i64 (dg o 2)) (.int .i64 (dg o 3)) (.int .i64 (dg o 4)) (.int .i64 (dg o 5)) (.int .i64 (dg o 6)) (.int .i64 (dg o 7)));rw[hV]at HS HW;obtain⟨t0,t1,t2,t3,t4,t5,t6,t7,t8⟩:=HS.all;unfold set9 at hV;have HV:=Lh hV;have HW:=Lh HW;have hv:=Lh hv;clear hV HS hO1 hC1 hW1;go_wp2;rw[HV.out];exact bodyPost_ret (v:= .agg (aW (!(n == m)) o)) (by simp[results,Tryz.results138,go_sem,t0,t1,t2,t3,t4,t5,t6,t7,t8]) rfl ⟨_,rfl,hv.out,HW.out⟩
def signF (x:Int):Int:=if x<0 then-1 else if 0<x then 1 else 0
theorem zs8_ok:zs8.length=8∧digs zs8∧mag zs8=0:=⟨rfl,by unfold zs8 digs;decide,by decide⟩
theorem sign_calls (n:Bool)(l:List Int)(hl:l.length=8)(hd:digs l)(w:World):
  Calls Tryz.prog 156 #[.agg (aW n l)] w fun e w'=>e= .returned (.int .i64 (signF (wval n l)))∧Below w.heap.size w w':=by
 have hm:=mag_nonneg l hd;have HS:=Lh (size_calls n false l zs8 hl rfl hd zs8_ok.2.1);have HA:=(Wd.new w n l).alloc (.cells (aW false zs8) 169);have HB:=Wd.new (w.alloc (.cells (aW n l) 169)) false zs8;rw[World.size_alloc]at HB;have HW:=Lh (((Below.refl _ w).alloc (Nat.le_refl _) (.cells (aW n l) 169)).alloc (by simp) (.cells (aW false zs8) 169));have HA':=Lh HA;clear HA HB hl hd;rcases Int.lt_trichotomy (mag l) 0 with h|h|h
 ·omega
 ·have hc:cmpF l zs8=0:=by unfold cmpF;rw[zs8_ok.2.2,if_neg (by omega),if_neg (by omega)]
  have hg:Hid (signF (wval n l)=0):=by unfold signF wval;rw[h];cases n<;>rfl
  rw[hc]at HS;clear hc hm h;go_enter Tryz.func156,Tryz.ntmps156;go_wp2_with fail;refine(HS.out _).mono ?_;rintro e w3 ⟨rfl,hb3⟩;have H3:=Lh (bthen HW.out hb3);clear hb3;go_wp2
  go_ret
  exact⟨by rw[hg.out];rfl,H3.out⟩
 ·have hc:cmpF l zs8=1:=by unfold cmpF;rw[zs8_ok.2.2,if_neg (by omega),if_pos h]
  have hg:Hid (signF (wval n l)=if n then-1 else 1):=by
   unfold signF wval;cases n
   ·simp only[Bool.false_eq_true,if_false];rw[if_neg (by omega),if_pos h];rfl
   ·simp only[if_true];rw[if_pos (by omega)];rfl
  rw[hc]at HS;clear hc hm h;go_enter Tryz.func156,Tryz.ntmps156;go_wp2_with fail;refine(HS.out _).mono ?_;rintro e w3 ⟨rfl,hb3⟩;have H3:=Lh (bthen HW.out hb3);have c0:=(HA'.below hb3).neg;clear hb3;cases n
  ·go_wp2
   go_ret
   exact⟨by rw[hg.out];rfl,H3.out⟩
  ·go_wp2
   go_ret
   exact⟨by rw[hg.out];rfl,H3.out⟩
theorem wval_not (m:Bool)(k:List Int):wval (!m) k= -wval m k:=by cases m<;>simp[wval]
theorem wval_add (n m:Bool)(l k o:List Int):wval n l+wval (!m) k=wval n l-wval m k:=by rw[wval_not];omega
theorem less_calls (n m:Bool)(l k:List Int)(hl:l.length=8)(hk:k.length=8)(hd:digs l)(he:digs k)(hs:mag l+mag k<16777216^8)(b:Bool)(hb:decide (wval n l<wval m k)=b)(w:World):
  Calls Tryz.prog 154 #[.agg (aW n l), .agg (aW m k)] w fun e w'=>e= .returned (.bool b)∧Below w.heap.size w w':=by
 have HP:=Lh (plus_calls n (!m) l k hl hk hd he hs);have HW:=Lh (((Below.refl _ w).alloc (Nat.le_refl _) (.cells (aW n l) 169)).alloc (by simp) (.cells (aW (!m) k) 169));have Hb:=Lh hb;have HE:=Lh (wval_add n m l k k);clear hl hk hd he hs hb;go_enter Tryz.func154,Tryz.ntmps154;go_wp2_with fail;refine(HP.out _).mono ?_;rintro e w3 ⟨v,rfl,⟨p,o,rfl,ho,hd,hv⟩,hb3⟩;have H3:=Lh (bthen HW.out hb3);have HS:=Lh (sign_calls p o ho hd);have hq:Hid (decide (signF (wval p o)<0)=b):=by
  rw[hv,HE.out,←Hb.out];apply Lib.hid;rw[Bool.eq_iff_iff];simp only[decide_eq_true_eq];unfold signF
  repeat' split
  all_goals omega
 clear hb3 ho hd hv;go_wp2_with fail;refine(HS.out _).mono ?_;rintro e w4 ⟨rfl,hb4⟩;have H4:=Lh (bthen H3.out hb4);have hq':=hq.out;clear hb4;go_wp2
 go_ret
 exact⟨by rw[←hq'];rfl,H4.out⟩
end Go.Proofs.YtckdhahceelckaaGreat.G
namespace Go.Proofs.YtckdhahceelckaaGreat.G
open Go.RowKit Go.Proofs.YtckdhahceelckaaGreatW.PrintWords Go.Proofs.YtckdhahceelckaaGreatW.PrintLast Go.Proofs.YtckdhahceelckaaGreatW.PrintMore
attribute [local go_sem] max2_mx min2_mn max_two min_two max_three min_three max_four min_four
attribute [local go_sem high] eqA23
def two3 (p:P3):P3:=⟨2*p.x,2*p.y,2*p.z⟩
theorem two3_lt (p:P3)(h:¬(far3 524288 p=true∨p=⟨0,0,0⟩)):2000000-size3 (two3 p)<2000000-size3 p:=by
 have h1:far3 524288 p=false:=by simpa using fun e=>h (.inl e)
 have hi:=(far3_iff _ _ (by decide) (by decide)).1 h1;have h2:p≠⟨0,0,0⟩:=fun e=>h (.inr e);have h3:p.x≠0∨p.y≠0∨p.z≠0:=by
  cases p;simp at h2⊢;omega
 unfold in3 at hi;unfold size3 two3;simp only;omega
/-- doubled, as long as no part's size is above 2^19 -/
def dbl3 (p:P3):P3:=if h:far3 524288 p=true∨p=⟨0,0,0⟩then p else dbl3 (two3 p)
termination_by 2000000-size3 p
decreasing_by exact two3_lt p h
/-- made long; noughts: it is none -/
def long3 (p:P3):P3:=dbl3 (short3 p)
theorem two3_ne (p:P3)(h:p≠⟨0,0,0⟩):two3 p≠⟨0,0,0⟩:=by
 cases p;simp[two3]at h⊢;omega
theorem halve3_in (p:P3):in3 1048576 (halve3 p):=by
 induction p using halve3.induct with
 |case1 p h ih=>rw[halve3,dif_pos h];exact ih
 |case2 p h=>
  rw[halve3,dif_neg h];exact(far3_iff _ _ (by decide) (by decide)).1 (by simpa using h)
theorem short3_in (p:P3):in3 1048576 (short3 p):=by
 unfold short3;split
 ·unfold in3;simp
 ·exact div3_in _ _ _ (halve3_in _)
theorem halve3_ne (p:P3)(h:p≠⟨0,0,0⟩):halve3 p≠⟨0,0,0⟩:=by
 induction p using halve3.induct with
 |case1 p h' ih=>rw[halve3,dif_pos h'];exact ih (div2_ne p h')
 |case2 p h'=>rw[halve3,dif_neg h'];exact h
theorem dbl3_ne (p:P3)(h:p≠⟨0,0,0⟩):dbl3 p≠⟨0,0,0⟩:=by
 induction p using dbl3.induct with
 |case1 p h'=>rw[dbl3,dif_pos h'];exact h
 |case2 p h' ih=>rw[dbl3,dif_neg h'];exact ih (two3_ne p h)
theorem lengthen_calls (x y z:Int)(b:Bool)(w:World)(hb0:decide (long3 ⟨x,y,z⟩≠⟨0,0,0⟩)=b):
  Calls Tryz.prog 57 #[.agg #[.int .i64 x, .int .i64 y, .int .i64 z]] w fun e w'=>e= .returned (.tuple #[.agg #[.int .i64 (long3 ⟨x,y,z⟩).x, .int .i64 (long3 ⟨x,y,z⟩).y, .int .i64 (long3 ⟨x,y,z⟩).z], .bool b])∧Below w.heap.size w w':=by
 have B1:=((C3.new w (.int .i64 x) (.int .i64 y) (.int .i64 z) 23).alloc (.cells #[.int .i64 0, .int .i64 0, .int .i64 0] 23));have B2:=(C3.new (w.alloc (.cells #[.int .i64 x, .int .i64 y, .int .i64 z] 23)) (.int .i64 0) (.int .i64 0) (.int .i64 0) 23);simp only[World.size_alloc]at B2;have B1:=Lh B1;have B2:=Lh B2;obtain⟨p,hp⟩:=nm_ (short3 ⟨x,y,z⟩);have hin:in3 1048576 p:=by rw[←hp];exact short3_in _
 unfold long3 at hb0⊢;rw[hp]at hb0⊢;have HP:=Lh hp;clear hp;obtain⟨px,py,pz⟩:=p;by_cases hz:(⟨px,py,pz⟩:P3)=⟨0,0,0⟩
 ·have h1:dbl3 ⟨px,py,pz⟩=⟨0,0,0⟩:=by rw[dbl3,dif_pos (.inr hz)];exact hz
  rw[h1]at hb0⊢;obtain rfl:false=b:=by simpa using hb0
  clear hb0 h1;have he:=eqP_yes hz;simp only[P3.mk.injEq]at hz;obtain⟨rfl,rfl,rfl⟩:=hz;go_enter Tryz.func57,Tryz.ntmps57;go_wp2_with(go_at_call 80;refine(short_calls _ _ _ _).mono ?_;rintro e w1 ⟨rfl,hb1⟩;rw[HP.out];obtain⟨c10,c11,c12,f10,f11,f12⟩:=B1.below hb1;have D2:=Lh (B2.below hb1);obtain⟨c20,c21,c22,f20,f21,f22⟩:=D2.out);have hB:Below w.heap.size w w1:=(((Below.refl _ w).alloc (Nat.le_refl _) _).alloc (by simp) _).trans (hb1.mono (by simp;omega));exact bodyPost_ret (v:= .tuple #[.agg #[.int .i64 0, .int .i64 0, .int .i64 0], .bool false]) (by simp[results,Tryz.results57,go_sem,c20,c21,c22]) rfl ⟨rfl,below_set3 (below_set3 hB (Nat.le_refl _) _ _ _) (by omega) _ _ _⟩
 ·obtain⟨D,hD⟩:=nm_ (dbl3 ⟨px,py,pz⟩);have hDn:D≠⟨0,0,0⟩:=by
   rw[←hD];exact dbl3_ne _ hz
  rw[hD]at hb0⊢;obtain rfl:true=b:=by rw[←hb0];simpa using hDn
  have HD:=Lh hD;have HZ:=Lh hz;have HI:=Lh hin;have he:=eqP_no hz;clear hb0 hD hz hDn hin;go_enter Tryz.func57,Tryz.ntmps57;go_wp2_with(go_at_call 80;refine(short_calls _ _ _ _).mono ?_;rintro e w1 ⟨rfl,hb1⟩;rw[HP.out];have D1:=Lh (B1.below hb1);obtain⟨c10,c11,c12,f10,f11,f12⟩:=D1.out;have D2:=Lh (B2.below hb1));have hB:Below w.heap.size w w1:=(((Below.refl _ w).alloc (Nat.le_refl _) _).alloc (by simp) _).trans (hb1.mono (by simp;omega));have hB:=below_set3 hB (Nat.le_refl w.heap.size) (.int .i64 px) (.int .i64 py) (.int .i64 pz);have B2:=D2.out.other (g':=w.heap.size) (by omega) (.int .i64 px) (.int .i64 py) (.int .i64 pz);have B1:=D1.out.set (.int .i64 px) (.int .i64 py) (.int .i64 pz);unfold set3 at B1 B2 hB;generalize((w1.setCell {block:=w.heap.size,off:=0} (Value.int IntKind.i64 px)).setCell {block:=w.heap.size,off:=1} (Value.int IntKind.i64 py)).setCell {block:=w.heap.size,off:=2} (Value.int IntKind.i64 pz)=w3 at B1 B2 hB⊢;clear he hb1 c10 c11 c12 f10 f11 f12 D1 D2
  go_loopg [] (2000000-size3 ⟨px,py,pz⟩) (fun kq wr=>∃r:P3,Hid (kq=2000000-size3 r)∧Hid (dbl3 r=D)∧Hid (in3 1048576 r)∧Hid (r≠⟨0,0,0⟩)∧Hid (C3 wr w.heap.size (.int .i64 r.x) (.int .i64 r.y) (.int .i64 r.z))∧Hid (C3 wr (w.heap.size+1) (.int .i64 0) (.int .i64 0) (.int .i64 0))∧Hid (Below w.heap.size w wr))
  case atStart=>exact⟨⟨px,py,pz⟩,rfl,HD.out,HI.out,HZ.out,B1,B2,hB⟩
  case round=>
   obtain⟨r,h1,h2,h3,h4,h5,h6,h7⟩:=hrel;obtain⟨hx1,hx2,hy1,hy2,hz1,hz2⟩:=h3.out;obtain⟨rx,ry,rz⟩:=r;dsimp only at h5 hx1 hx2 hy1 hy2 hz1 hz2;obtain⟨c10,c11,c12,f10,f11,f12⟩:=id h5.out
   cases hf:far3 524288 ⟨rx,ry,rz⟩with
   |false=>
    have hne:¬(far3 524288 ⟨rx,ry,rz⟩=true∨(⟨rx,ry,rz⟩:P3)=⟨0,0,0⟩):=by rw[hf];simpa using h4.out
    have e1:dbl3 ⟨rx,ry,rz⟩=dbl3 (two3 ⟨rx,ry,rz⟩):=by rw[dbl3,dif_neg hne]
    have e2:Hid (2000000-size3 (two3 ⟨rx,ry,rz⟩)<gk):=by rw[h1.out];exact two3_lt _ hne
    have e4:=Lh (two3_ne _ h4.out);have hi5:=(far3_iff _ _ (by decide) (by decide)).1 hf;have e3:Hid (in3 1048576 (two3 ⟨rx,ry,rz⟩)):=by unfold in3 two3 at*;simp only at*;show _∧_;omega
    have E1:Hid (dbl3 (two3 ⟨rx,ry,rz⟩)=D):=e1.symm.trans h2.out;clear e1 hne hi5;go_wp2
    go_region_held3 (fun w'=>w'.cell? ⟨w.heap.size,0,none⟩=some (.int .i64 rx)∧w'.cell? ⟨w.heap.size,1,none⟩=some (.int .i64 ry)∧w'.cell? ⟨w.heap.size,2,none⟩=some (.int .i64 rz))
     (first|exact⟨d10,d11,d12⟩|(go_keep;done)|exact⟨c10,c11,c12⟩)
     (first
      |(go_at_call 105;refine(beyondF_calls _ _).mono ?_;rintro e w4 ⟨rfl,rfl⟩;have C1:=Lh ((h5.drew).alloc (.cells #[.int .i64 524288] 3));have C2:=Lh ((h6.drew).alloc (.cells #[.int .i64 524288] 3));obtain⟨d10,d11,d12,g10,g11,g12⟩:=id C1.out)
      |(go_at_call 144;refine(beyond1_calls _ _ _ 524288 _ _ (by simp) (by decide) (by decide)).mono ?_;rintro e w5 ⟨rfl,hb5⟩;rw[hf];have D1:=Lh (C1.below hb5);have D2:=Lh (C2.below hb5);obtain⟨d10,d11,d12,g10,g11,g12⟩:=id D1.out))
    go_wp2
    go_roundg (2000000-size3 (two3 ⟨rx,ry,rz⟩))
    case measure=>exact e2.out
    case rel=>exact⟨two3 ⟨rx,ry,rz⟩,rfl,E1,e3,e4,D1.out.set _ _ _,D2.out.other (by omega) _ _ _,below_set3 (((h7.drew).alloc h7.size _).trans (hb5.mono (by have:=h7.size;simp;omega))) (Nat.le_refl _) _ _ _⟩
   |true=>
    have e1:dbl3 ⟨rx,ry,rz⟩=⟨rx,ry,rz⟩:=by rw[dbl3,dif_pos (.inl hf)]
    obtain rfl:D=⟨rx,ry,rz⟩:=h2.out.symm.trans e1;clear e1;go_wp2
    go_region_held3 (fun w'=>w'.cell? ⟨w.heap.size,0,none⟩=some (.int .i64 rx)∧w'.cell? ⟨w.heap.size,1,none⟩=some (.int .i64 ry)∧w'.cell? ⟨w.heap.size,2,none⟩=some (.int .i64 rz))
     (first|exact⟨d10,d11,d12⟩|(go_keep;done)|exact⟨c10,c11,c12⟩)
     (first
      |(go_at_call 105;refine(beyondF_calls _ _).mono ?_;rintro e w4 ⟨rfl,rfl⟩;have C1:=Lh ((h5.drew).alloc (.cells #[.int .i64 524288] 3));have C2:=Lh ((h6.drew).alloc (.cells #[.int .i64 524288] 3));obtain⟨d10,d11,d12,g10,g11,g12⟩:=id C1.out)
      |(go_at_call 144;refine(beyond1_calls _ _ _ 524288 _ _ (by simp) (by decide) (by decide)).mono ?_;rintro e w5 ⟨rfl,hb5⟩;rw[hf];have D1:=Lh (C1.below hb5);have D2:=Lh (C2.below hb5);obtain⟨d10,d11,d12,g10,g11,g12⟩:=id D1.out))
    obtain⟨d20,d21,d22,g20,g21,g22⟩:=id D2.out;go_wp2;exact bodyPost_ret (v:= .tuple #[.agg #[.int .i64 rx, .int .i64 ry, .int .i64 rz], .bool true]) (by simp[results,Tryz.results57,go_sem,d20,d21,d22]) rfl ⟨rfl,below_set3 (((h7.drew).alloc h7.size _).trans (hb5.mono (by have:=h7.size;simp;omega))) (by omega) _ _ _⟩
def mayF (p a e:List P3)(r:Int):Bool:=decide (0<p.length)&&decide (p.length≤32)&&decide (a.length≤128)&&decide (e.length≤128)&&decide (0≤r)&&decide (r≤65536)&& !p.any (far3 16777216)&& !a.any (far3 1048576)&& !e.any (far3 1048576)
theorem beyondE_calls (n:Int)(w:World):
  Calls Tryz.prog 105 #[.int .i64 n] w fun e w'=>∃g:Nat,e= .returned (.func (.func 144) #[] #[.pointer (some ⟨g,0,none⟩)])∧w'.cell? ⟨g,0,none⟩=some (.int .i64 n)∧Below w.heap.size w w':=
 (beyondF_calls n w).mono fun e w' ⟨he,hw⟩=>⟨w.heap.size,he,by rw[←hw];simp,by rw[←hw];exact(Below.refl _ w).alloc (Nat.le_refl _) _⟩
theorem contains_calls' (l:List P3)(m:Nat)(A:Option Addr)(c:Nat)(n:Int)(B:Nat)(v:Bool)(w:World)(hl:l.length=m)(hv:l.any (far3 n)=v)(hr:Rd w A l)(hc:m≤c)(hm:m<9223372036854775807)(hB:w.cell? ⟨B,0,none⟩=some (.int .i64 n))(hn1:0≤n)(hn2:n≤9223372036854775807):
  Calls Tryz.prog 104 #[.slice A m c, .func (.func 144) #[] #[.pointer (some ⟨B,0,none⟩)]] w fun e w'=>e= .returned (.bool v)∧Below w.heap.size w w':=by
 subst hl;subst hv;exact contains_calls l A c n B w hr hc hm hB hn1 hn2
theorem may_yes (p a e:List P3)(r:Int)(A0 A1 A2:Option Addr)(c0 c1 c2:Nat)(w:World)(h0:Rd w A0 p)(h1:Rd w A1 a)(h2:Rd w A2 e)(k0:p.length≤c0)(k1:a.length≤c1)(k2:e.length≤c2)(B:Bool)(F:Bool)(G:Bool)
  (hp1:0<p.length) (hp2:p.length≤32) (ha:a.length≤128) (he:e.length≤128) (hr1:0≤r) (hr2:r≤65536) (hF:p.any (far3 16777216)=false) (hG:a.any (far3 1048576)=false) (hB:e.any (far3 1048576)=B):
  Calls Tryz.prog 55 #[.agg #[.slice A0 p.length c0, .slice A1 a.length c1, .slice A2 e.length c2, .int .i64 r]] w fun e w'=>e= .returned (.bool !B)∧Below w.heap.size w w':=by
 have H0:=Lh h0;have H1:=Lh h1;have H2:=Lh h2;have HF:=Lh hF;have HG:=Lh hG;have HB:=Lh hB;clear h0 h1 h2 hF hG hB;obtain⟨np,hnp⟩:=nm_ p.length;obtain⟨na,hna⟩:=nm_ a.length;obtain⟨ne,hne⟩:=nm_ e.length;rw[hnp]at hp1 hp2 k0⊢;rw[hna]at ha k1⊢;rw[hne]at he k2⊢;have HNP:=Lh hnp;have HNA:=Lh hna;have HNE:=Lh hne;clear hnp hna hne;have t1:decide ((0:Int)<(np:Int))=true:=by simp;omega
 have t2:decide ((np:Int)≤32)=true:=by simp;omega
 have t3:decide (mx (na:Int) (ne:Int)≤128)=true:=by simp[mx];split<;>omega
 have t4:decide (0≤r)=true:=by simp;omega
 have t5:decide (r≤65536)=true:=by simp;omega
 go_enter Tryz.func55,Tryz.ntmps55;go_wp2;obtain⟨ca,hca⟩:∃ca:Array Value,#[.slice A0 np c0, .slice A1 na c1, .slice A2 ne c2, .int .i64 r]=ca:=⟨_,rfl⟩;have G0:Hid ((w.alloc (.cells ca 35)).drew.heap[w.heap.size]?=some (.cells ca 35 (0,0))):=heap_alloc_new w _;have R0:Hid (Below w.heap.size w (w.alloc (.cells ca 35)).drew):=((Below.refl _ w).alloc (Nat.le_refl _) _).drew;rw[←hca]at G0 R0;clear hca ca
 go_region_held3 (fun w'=>w'.cell? ⟨w.heap.size,0,none⟩=some (.slice A0 np c0)∧w'.cell? ⟨w.heap.size,1,none⟩=some (.slice A1 na c1)∧w'.cell? ⟨w.heap.size,2,none⟩=some (.slice A2 ne c2)∧w'.cell? ⟨w.heap.size,3,none⟩=some (.int .i64 r))
  (first|exact⟨(blk_cell g0.out 0).trans rfl,(blk_cell g0.out 1).trans rfl,(blk_cell g0.out 2).trans rfl,(blk_cell g0.out 3).trans rfl⟩|(go_keep;done))
  (first
   |(go_at_call 105;(try clear g0);(try clear hg);refine(beyondE_calls _ _).mono ?_;rintro e w1 ⟨g,rfl,hg,hb1⟩;have g0:=Lh (blk_below G0.out hb1);have r0:=Lh (bthen R0.out hb1);clear G0 R0 hb1;have G0:=g0;have R0:=r0;clear r0)
   |(go_at_call_of 104 A0;(try clear g0);refine(contains_calls' p _ _ _ 16777216 _ false _ HNP.out HF.out (H0.below R0.out) k0 (by omega) hg (by decide) (by decide)).mono ?_;rintro e w1 ⟨rfl,hb1⟩;have g0:=Lh (blk_below G0.out hb1);have r0:=Lh (bthen R0.out hb1);clear G0 R0 hb1;have G0:=g0;have R0:=r0;clear r0)
   |(go_at_call_of 104 A1;(try clear g0);refine(contains_calls' a _ _ _ 1048576 _ false _ HNA.out HG.out (H1.below R0.out) k1 (by omega) hg (by decide) (by decide)).mono ?_;rintro e w1 ⟨rfl,hb1⟩;have g0:=Lh (blk_below G0.out hb1);have r0:=Lh (bthen R0.out hb1);clear G0 R0 hb1;have G0:=g0;have R0:=r0;clear r0)
   |(go_at_call_of 104 A2;(try clear g0);refine(contains_calls' e _ _ _ 1048576 _ B _ HNE.out HB.out (H2.below R0.out) k2 (by omega) hg (by decide) (by decide)).mono ?_;rintro e w1 ⟨rfl,hb1⟩;have g0:=Lh (blk_below G0.out hb1);have r0:=Lh (bthen R0.out hb1);clear G0 R0 hb1;have G0:=g0;have R0:=r0;clear r0))
 go_wp2
 go_ret
 exact⟨rfl,R0.out⟩
end Go.Proofs.YtckdhahceelckaaGreat.G
namespace Go.Proofs.YtckdhahceelckaaGreat.G
open Go.RowKit
theorem lagrange (a b c x y z:Int):(a*a+b*b+c*c)*(x*x+y*y+z*z)=(a*x+b*y+c*z)*(a*x+b*y+c*z)+((b*z-c*y)*(b*z-c*y)+(c*x-a*z)*(c*x-a*z)+(a*y-b*x)*(a*y-b*x)):=by grind
/-- one points where the other points -/
def Par (u v:P3):Prop:=∃a b:Int,0<a∧0<b∧a*u.x=b*v.x∧a*u.y=b*v.y∧a*u.z=b*v.z
theorem Par.refl (u:P3):Par u u:=⟨1,1,by decide,by decide,rfl,rfl,rfl⟩
theorem Par.trans {u v t:P3}(h:Par u v)(k:Par v t):Par u t:=by
 obtain⟨a,b,ha,hb,x1,y1,z1⟩:=h;obtain⟨c,e,hc,he,x2,y2,z2⟩:=k;exact⟨a*c,b*e,Int.mul_pos ha hc,Int.mul_pos hb he,by grind,by grind,by grind⟩
theorem gcd3_dvd (p:P3):gcd3 p∣p.x∧gcd3 p∣p.y∧gcd3 p∣p.z:=
 ⟨Int.dvd_trans (by unfold gcd3;exact Int.gcd_dvd_left ..) (Int.gcd_dvd_left ..),Int.dvd_trans (by unfold gcd3;exact Int.gcd_dvd_left ..) (Int.gcd_dvd_right ..),by unfold gcd3;exact Int.gcd_dvd_right ..⟩
theorem bare3_eq (p:P3):p.x=gcd3 p*(bare3 p).x∧p.y=gcd3 p*(bare3 p).y∧p.z=gcd3 p*(bare3 p).z:=by
 obtain⟨h1,h2,h3⟩:=gcd3_dvd p;exact⟨(Int.mul_tdiv_cancel' h1).symm,(Int.mul_tdiv_cancel' h2).symm,(Int.mul_tdiv_cancel' h3).symm⟩
theorem bare3_par (p:P3)(h:p≠⟨0,0,0⟩):Par (bare3 p) p:=by
 obtain⟨h1,h2,h3⟩:=bare3_eq p;have hg:=gcd3_pos p h;exact⟨gcd3 p,1,by omega,by decide,by omega,by omega,by omega⟩
theorem two3_par (p:P3):Par (two3 p) p:=⟨1,2,by decide,by decide,by simp[two3],by simp[two3],by simp[two3]⟩
theorem dbl3_par (p:P3):Par (dbl3 p) p:=by
 induction p using dbl3.induct with
 |case1 p h'=>rw[dbl3,dif_pos h'];exact Par.refl _
 |case2 p h' ih=>rw[dbl3,dif_neg h'];exact ih.trans (two3_par p)
theorem dbl3_far (p:P3)(h:p≠⟨0,0,0⟩):far3 524288 (dbl3 p)=true:=by
 induction p using dbl3.induct with
 |case1 p h'=>rw[dbl3,dif_pos h'];exact h'.resolve_right h
 |case2 p h' ih=>rw[dbl3,dif_neg h'];exact ih (two3_ne p h)
theorem halve3_id (p:P3)(h:in3 1048576 p):halve3 p=p:=by rw[halve3,dif_neg];rw[(far3_iff _ _ (by decide) (by decide)).2 h];decide
theorem bare3_in (p:P3)(n:Int)(h:in3 n p):in3 n (bare3 p):=div3_in _ _ _ h
/-- the square of the cross product's length -/
def crI (u v:P3):Int:=(u.y*v.z-u.z*v.y)*(u.y*v.z-u.z*v.y)+(u.z*v.x-u.x*v.z)*(u.z*v.x-u.x*v.z)+(u.x*v.y-u.y*v.x)*(u.x*v.y-u.y*v.x)
theorem lagI (u v:P3):dotI u u*dotI v v=dotI u v*dotI u v+crI u v:=by
 unfold dotI crI;exact lagrange _ _ _ _ _ _
theorem dotI_far (u:P3)(m:Int)(hm:0≤m)(h:m<u.x∨u.x< -m∨m<u.y∨u.y< -m∨m<u.z∨u.z< -m):m*m<dotI u u:=by
 unfold dotI;have h1:=sq_nonneg u.x;have h2:=sq_nonneg u.y;have h3:=sq_nonneg u.z;have key:∀a:Int,(m<a∨a< -m)→m*m<a*a:=fun a ha=>by
  rcases ha with ha|ha
  ·exact Int.lt_of_le_of_lt (Int.mul_le_mul_of_nonneg_left (Int.le_of_lt ha) hm) (Int.mul_lt_mul_of_pos_right ha (by omega))
  ·have hb:m< -a:=by omega
   have:=Int.lt_of_le_of_lt (Int.mul_le_mul_of_nonneg_left (Int.le_of_lt hb) hm) (Int.mul_lt_mul_of_pos_right hb (by omega));have e: -a* -a=a*a:=by grind
   omega
 rcases h with h|h|h|h|h|h
 ·have:=key u.x (.inl h);omega
 ·have:=key u.x (.inr h);omega
 ·have:=key u.y (.inl h);omega
 ·have:=key u.y (.inr h);omega
 ·have:=key u.z (.inl h);omega
 ·have:=key u.z (.inr h);omega
theorem dotI_pos (u:P3)(h:u≠⟨0,0,0⟩):0<dotI u u:=by
 have:0<u.x∨u.x< -0∨0<u.y∨u.y< -0∨0<u.z∨u.z< -0:=by
  cases u;simp at h⊢;omega
 have:=dotI_far u 0 (by decide) this;omega
theorem short3_eq (p:P3)(h:in3 4398046511104 p)(h0:p≠⟨0,0,0⟩):short3 p=bare3 (halve3 (bare3 p)):=by
 unfold short3;rw[if_neg];rw[(far3_iff _ _ (by decide) (by decide)).2 h];simp[h0]
theorem short3_zero:short3 ⟨0,0,0⟩=⟨0,0,0⟩:=by unfold short3;rw[if_pos (.inr rfl)]
theorem short3_ne (p:P3)(h:in3 4398046511104 p)(h0:p≠⟨0,0,0⟩):short3 p≠⟨0,0,0⟩:=by
 rw[short3_eq p h h0];exact bare3_ne _ 0 (halve3_ne _ (bare3_ne _ 0 h0))
theorem in3_le {n m:Int}(h:n≤m){p:P3}(hp:in3 n p):in3 m p:=by unfold in3 at*;omega
theorem long3_short (p:P3)(h:in3 1048576 p)(h0:p≠⟨0,0,0⟩):Par (long3 p) p∧long3 p≠⟨0,0,0⟩∧274877906944<dotI (long3 p) (long3 p):=by
 have hs:short3 p=bare3 (bare3 p):=by
  rw[short3_eq p (in3_le (by decide) h) h0,halve3_id _ (bare3_in _ _ h)]
 have hb:=bare3_ne p 0 h0;unfold long3;rw[hs];have hb2:=bare3_ne (bare3 p) 0 hb;refine⟨(dbl3_par _).trans ((bare3_par _ hb).trans (bare3_par _ h0)),dbl3_ne _ hb2,?_⟩;have hf:=dbl3_far _ hb2;have hn:¬in3 524288 (dbl3 (bare3 (bare3 p))):=fun hi=>by rw[(far3_iff _ _ (by decide) (by decide)).2 hi]at hf;cases hf
 have:=dotI_far (dbl3 (bare3 (bare3 p))) 524288 (by decide) (by unfold in3 at hn;omega);omega
end Go.Proofs.YtckdhahceelckaaGreat.G
namespace Go.Proofs.YtckdhahceelckaaGreat.G
open Go.RowKit Go.Proofs.YtckdhahceelckaaGreatW.PrintWords Go.Proofs.YtckdhahceelckaaGreatW.PrintLast Go.Proofs.YtckdhahceelckaaGreatW.PrintMore
attribute [local go_sem] max2_mx min2_mn max_two min_two max_three min_three max_four min_four
attribute [local go_sem high] eqA23
open Go.Shelf
attribute [local go_sem] Oper.semAt_some
/-- one round of the search for the best way; the whole -/
def apStep (a0:P3)(ar:List P3)(ra:Int)(b0:P3)(br:List P3)(rb:Int)(s:(P3×Int)×Bool)(n:P3):(P3×Int)×Bool:=
 if long3 n=⟨0,0,0⟩then s else
  let g:=gapsF (long3 n) a0 ar ra b0 br rb
  let o:=if s.2=true∨s.1.2<g.1 then(long3 n,g.1)else s.1
  (if o.2<g.2 then(minus3 ⟨0,0,0⟩ (long3 n),g.2)else o,false)
def apF (a0:P3)(ar:List P3)(ra:Int)(b0:P3)(br:List P3)(rb:Int)(l:List P3):(P3×Int)×Bool:=
 l.foldl (apStep a0 ar ra b0 br rb) ((⟨0,0,1048576⟩,-ra-rb),true)
theorem apF_snoc (a0:P3)(ar:List P3)(ra:Int)(b0:P3)(br:List P3)(rb:Int)(l:List P3)(x:P3):apF a0 ar ra b0 br rb (l++[x])=apStep a0 ar ra b0 br rb (apF a0 ar ra b0 br rb l) x:=by simp[apF]
def enc3 (p:P3):Array Value:=#[.agg #[.int .i64 p.x, .int .i64 p.y, .int .i64 p.z]]
/-- ways' function value stops -/
theorem ways_stops (n:Nat)(hn:3≤n)(bo bf ga gb:Nat)(pa aa ea pb ab eb:List P3)(A0 A1 A2 B0 B1 B2:Option Addr)(c0 c1 c2 d0 d1 d2:Nat)(ra rb:Int)(W:World)
  (hga:W.heap[ga]?=some (.cells #[.slice A0 pa.length c0, .slice A1 aa.length c1, .slice A2 ea.length c2, .int .i64 ra] 35 (0,0)))
  (hgb:W.heap[gb]?=some (.cells #[.slice B0 pb.length d0, .slice B1 ab.length d1, .slice B2 eb.length d2, .int .i64 rb] 35 (0,0)))
  (R0:Hid (RdX bo bf W A0 pa)) (R1:Hid (RdX bo bf W A1 aa)) (R2:Hid (RdX bo bf W A2 ea)) (S0:Hid (RdX bo bf W B0 pb)) (S1:Hid (RdX bo bf W B1 ab)) (S2:Hid (RdX bo bf W B2 eb)) (hl1:aa.length≤40000) (hl2:ab.length≤40000) (hl3:ea.length≤40000) (hl4:eb.length≤40000) (hl5:pa.length≤40000) (hl6:pb.length≤40000)
  (hga1:ga≠bo) (hga2:ga≠bf) (hgb1:gb≠bo) (hgb2:gb≠bf) (hbo:bo<W.heap.size) (hbf:bf<W.heap.size):
  SeqStopsK Fence.wide n Tryz.prog 106 #[.pointer (some ⟨ga,0,none⟩), .pointer (some ⟨gb,0,none⟩)] enc3 (KpX bo bf) (fun ys=>ys=rawC pa aa ea pb ab eb) (fun pre=>pre<+:rawC pa aa ea pb ab eb) (rawC pa aa ea pb ab eb).length W:=by
 intro l J Jx W1 hW hJ hJx hY h0;have KW:KpX bo bf W W1:=KpX.of_below hW;have hs:=hW.size;exact ways1_in n hn l bo bf ga gb pa aa ea pb ab eb A0 A1 A2 B0 B1 B2 c0 c1 c2 d0 d1 d2 ra rb J Jx W1 hJ hJx hY (heap_keep hga KW hga1 hga2) (heap_keep hgb KW hgb1 hgb2) (R0.out.keep KW) (R1.out.keep KW) (R2.out.keep KW) (S0.out.keep KW) (S1.out.keep KW) (S2.out.keep KW) hl1 hl2 hl3 hl4 hl5 hl6 hga1 hga2 hgb1 hgb2 (by omega) (by omega) h0
theorem ways_calls (x0 x1 x2 x3 y0 y1 y2 y3:Value)(w:World):
  Calls Tryz.prog 56 #[.agg #[x0,x1,x2,x3], .agg #[y0,y1,y2,y3]] w fun e w'=>e= .returned (.func (.func 106) #[] #[.pointer (some ⟨w.heap.size,0,none⟩), .pointer (some ⟨w.heap.size+1,0,none⟩)])∧
   w'=(w.alloc (.cells #[x0,x1,x2,x3] 35)).alloc (.cells #[y0,y1,y2,y3] 35):=by
 go_enter Tryz.func56,Tryz.ntmps56;go_wp2
 go_ret
 exact⟨rfl,rfl⟩
/-- a block of four cells -/
theorem blk4_set {W:World}{g:Nat}{a b c d:Value}{t:TypeId}(h:W.heap[g]?=some (.cells #[a,b,c,d] t (0,0)))(x y z u:Value):
  ((((W.setCell ⟨g,0,none⟩ x).setCell ⟨g,1,none⟩ y).setCell ⟨g,2,none⟩ z).setCell ⟨g,3,none⟩ u).heap[g]?=some (.cells #[x,y,z,u] t (0,0)):=by
 obtain⟨hlt,hk⟩:=Array.getElem?_eq_some_iff.1 h;simp[World.setCell,Array.getElem?_modify,h]
theorem blk4_own {β:Type}(g:Nat)(cs:β→Array Value)(t:TypeId):Own (fun s W=>W.heap[g]?=some (.cells (cs s) t (0,0))):=fun s X Y row hs hg hrow=>
 (hg.block g (Array.getElem?_eq_some_iff.1 hs).1 (fun e'=>by obtain⟨o,ho,hc⟩:=hrow g e'.symm;rw[show X.heap[g]?=_ from hs]at ho;cases ho;cases hc)).trans hs
end Go.Proofs.YtckdhahceelckaaGreat.G
namespace Go.Proofs.YtckdhahceelckaaGreat.G
open Go.RowKit Go.Proofs.YtckdhahceelckaaGreatW.PrintWords
/-- a core has a way of its own, or two points at most -/
def Ways (p a:List P3):Prop:=p.length≤2∨∃x∈a,long3 x≠⟨0,0,0⟩
end Go.Proofs.YtckdhahceelckaaGreat.G
