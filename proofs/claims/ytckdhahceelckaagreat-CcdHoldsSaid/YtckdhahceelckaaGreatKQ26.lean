/- What the laws of this claim lean on: contracts of functions and plain lemmas; no condition of its own (part 26: XR1, XR7). -/
import Derived.Test.YtckdhahceelckaaGreatKQ13
set_option maxHeartbeats 16000000
set_option maxRecDepth 100000
set_option linter.unusedVariables false
set_option linter.unusedSimpArgs false
namespace Go.Proofs.YtckdhahceelckaaGreat.G
open Go.RowKit Go.Proofs.YtckdhahceelckaaGreatW.PrintWords Go.Proofs.YtckdhahceelckaaGreatW.PrintLast Go.Proofs.YtckdhahceelckaaGreatW.PrintMore
attribute [local go_sem] max2_mx min2_mn max_two min_two max_three min_three max_four min_four
attribute [local go_sem high] eqA23
theorem rin_calls (p:P3)(n:Int)(r:Bool)(hr:decide (in3 n p)=r)(h0:0≤n)(h1:n≤4611686018427387904)(w:World):
  Calls Tryz.prog 61 #[aP p, .int .i64 n] w fun e w'=>e= .returned (.bool r)∧Below w.heap.size w w':=by
 obtain⟨x,y,z⟩:=p;have ew:IntKind.i64.wrap (-n)= -n:=iw_id _ (by omega) (by omega);by_cases t0: -n≤x;rotate_left
 ·have E:Hid (r=false):=Lh (by rw[←hr];apply decide_eq_false;rintro⟨k1,k2,k3,k4,k5,k6⟩;simp only at k1 k2 k3 k4 k5 k6;omega);have d0:decide (-n≤x)=false:=by simpa using t0
  clear hr t0;go_enter Tryz.func61,Tryz.ntmps61;go_wp2
  go_ret
  exact⟨by rw[E.out];rfl,(Below.refl _ w).alloc (Nat.le_refl _) _⟩
 by_cases t1:x≤n;rotate_left
 ·have E:Hid (r=false):=Lh (by rw[←hr];apply decide_eq_false;rintro⟨k1,k2,k3,k4,k5,k6⟩;simp only at k1 k2 k3 k4 k5 k6;omega);have d0:decide (-n≤x)=true:=by simpa using t0
  have d1:decide (x≤n)=false:=by simpa using t1
  clear hr t0 t1;go_enter Tryz.func61,Tryz.ntmps61;go_wp2
  go_ret
  exact⟨by rw[E.out];rfl,(Below.refl _ w).alloc (Nat.le_refl _) _⟩
 by_cases t2: -n≤y;rotate_left
 ·have E:Hid (r=false):=Lh (by rw[←hr];apply decide_eq_false;rintro⟨k1,k2,k3,k4,k5,k6⟩;simp only at k1 k2 k3 k4 k5 k6;omega);have d0:decide (-n≤x)=true:=by simpa using t0
  have d1:decide (x≤n)=true:=by simpa using t1
  have d2:decide (-n≤y)=false:=by simpa using t2
  clear hr t0 t1 t2;go_enter Tryz.func61,Tryz.ntmps61;go_wp2
  go_ret
  exact⟨by rw[E.out];rfl,(Below.refl _ w).alloc (Nat.le_refl _) _⟩
 by_cases t3:y≤n;rotate_left
 ·have E:Hid (r=false):=Lh (by rw[←hr];apply decide_eq_false;rintro⟨k1,k2,k3,k4,k5,k6⟩;simp only at k1 k2 k3 k4 k5 k6;omega);have d0:decide (-n≤x)=true:=by simpa using t0
  have d1:decide (x≤n)=true:=by simpa using t1
  have d2:decide (-n≤y)=true:=by simpa using t2
  have d3:decide (y≤n)=false:=by simpa using t3
  clear hr t0 t1 t2 t3;go_enter Tryz.func61,Tryz.ntmps61;go_wp2
  go_ret
  exact⟨by rw[E.out];rfl,(Below.refl _ w).alloc (Nat.le_refl _) _⟩
 by_cases t4: -n≤z;rotate_left
 ·have E:Hid (r=false):=Lh (by rw[←hr];apply decide_eq_false;rintro⟨k1,k2,k3,k4,k5,k6⟩;simp only at k1 k2 k3 k4 k5 k6;omega);have d0:decide (-n≤x)=true:=by simpa using t0
  have d1:decide (x≤n)=true:=by simpa using t1
  have d2:decide (-n≤y)=true:=by simpa using t2
  have d3:decide (y≤n)=true:=by simpa using t3
  have d4:decide (-n≤z)=false:=by simpa using t4
  clear hr t0 t1 t2 t3 t4;go_enter Tryz.func61,Tryz.ntmps61;go_wp2
  go_ret
  exact⟨by rw[E.out];rfl,(Below.refl _ w).alloc (Nat.le_refl _) _⟩
 by_cases t5:z≤n;rotate_left
 ·have E:Hid (r=false):=Lh (by rw[←hr];apply decide_eq_false;rintro⟨k1,k2,k3,k4,k5,k6⟩;simp only at k1 k2 k3 k4 k5 k6;omega);have d0:decide (-n≤x)=true:=by simpa using t0
  have d1:decide (x≤n)=true:=by simpa using t1
  have d2:decide (-n≤y)=true:=by simpa using t2
  have d3:decide (y≤n)=true:=by simpa using t3
  have d4:decide (-n≤z)=true:=by simpa using t4
  have d5:decide (z≤n)=false:=by simpa using t5
  clear hr t0 t1 t2 t3 t4 t5;go_enter Tryz.func61,Tryz.ntmps61;go_wp2
  go_ret
  exact⟨by rw[E.out];rfl,(Below.refl _ w).alloc (Nat.le_refl _) _⟩
 have E:Hid (r=true):=Lh (by rw[←hr];apply decide_eq_true;refine⟨?_,?_,?_,?_,?_,?_⟩<;>simp only<;>omega);have d0:decide (-n≤x)=true:=by simpa using t0
 have d1:decide (x≤n)=true:=by simpa using t1
 have d2:decide (-n≤y)=true:=by simpa using t2
 have d3:decide (y≤n)=true:=by simpa using t3
 have d4:decide (-n≤z)=true:=by simpa using t4
 have d5:decide (z≤n)=true:=by simpa using t5
 clear hr t0 t1 t2 t3 t4 t5;go_enter Tryz.func61,Tryz.ntmps61;go_wp2
 go_ret
 exact⟨by rw[E.out];rfl,(Below.refl _ w).alloc (Nat.le_refl _) _⟩
/-- are all of these at most so far out? -/
def allIn (n:Int)(l:List P3):Bool:=l.all fun p=>decide (in3 n p)
theorem allIn_iff (n:Int)(l:List P3):allIn n l=true↔∀p∈l,in3 n p:=by unfold allIn;rw[List.all_eq_true];exact⟨fun h p hp=>of_decide_eq_true (h p hp),fun h p hp=>decide_eq_true (h p hp)⟩
theorem allIn_far (n:Int)(h0:0≤n)(h1:n≤9223372036854775807)(l:List P3):allIn n l= !(l.any (far3 n)):=by
 cases h:l.any (far3 n)with
 |false=>rw[List.any_eq_false]at h;exact(allIn_iff n l).2 fun p hp=>(far3_iff n p h0 h1).1 (by simpa using h p hp)
 |true=>
  rw[List.any_eq_true]at h;obtain⟨p,hp,h2⟩:=h
  cases e:allIn n l with
  |false=>rfl
  |true=>have:=(far3_iff n p h0 h1).2 ((allIn_iff n l).1 e p hp);rw[this]at h2;cases h2
theorem all_calls (l:List P3)(A:Option Addr)(c:Nat)(n:Int)(w:World)(hr:Rd w A l)(hm:l.length<9223372036854775807)(h0:0≤n)(h1:n≤4611686018427387904):
  Calls Tryz.prog 103 #[.slice A l.length c, .int .i64 n] w fun e w'=>e= .returned (.bool (allIn n l))∧Below w.heap.size w w':=by
 have HR:=Lh hr;obtain⟨r,hR⟩:=nm_ (allIn n l);have HA:=Lh hR;rw[hR];obtain⟨N,hN⟩:=nm_ l.length;have HN:=Lh hN;rw[hN]at hm⊢;clear hr hR hN;go_enter Tryz.func103,Tryz.ntmps103;go_wp2;go_loopw [5,6] (fun v5 v6 wr=>∃k:Nat,k≤N∧v5= .int .i64 k∧Hid (∀p∈l.take k,in3 n p)∧Below w.heap.size w wr) (fun i _ _=>N-(intOf i).toNat)
 case atStart=>exact⟨0,Nat.zero_le _,rfl,Lh (by simp),Below.refl _ _⟩
 case round=>
  obtain⟨k,hk,rfl,hno,hbr⟩:=hrel;by_cases hlt:k<N
  ·have hkl:k<l.length:=by rw[HN.out];exact hlt
   obtain⟨b,o,rfl,hbl,e1,e2,e3⟩:=(HR.below hbr).get k hkl;obtain⟨p,hp⟩:=nm_ (l[k]);rw[hp]at e1 e2 e3;have HP:=Lh hp;have HT:=Lh (show l.take (k+1)=l.take k++[l[k]] from List.take_succ_eq_append_getElem hkl);have HM:=Lh (show p∈l from hp▸List.getElem_mem hkl);obtain⟨t,ht⟩:=nm_ (decide (in3 n p));have HI:=Lh (fun W=>rin_calls p n t ht h0 h1 W);have HTT:=Lh ht;clear hp ht;obtain⟨px,py,pz⟩:=p;dsimp only at e1 e2 e3;have hZ:=hbr.size
   cases t with
   |false=>
    go_wp2_with fail;refine(HI.out _).mono ?_;rintro e w3 ⟨rfl,hb3⟩;go_wp2
    go_ret
    refine⟨?_,bthen hbr hb3⟩;have:r=false:=by
     rw[←HA.out]
     cases e:allIn n l with
     |false=>rfl
     |true=>exact absurd ((allIn_iff n l).1 e _ HM.out) (of_decide_eq_false HTT.out)
    rw[this];rfl
   |true=>
    go_wp2_with fail;refine(HI.out _).mono ?_;rintro e w3 ⟨rfl,hb3⟩;go_wp2
    go_roundw
    case rel=>
     refine⟨k+1,by omega,by go_num,Lh fun p' hp'=>?_,bthen hbr hb3⟩;rw[HT.out,HP.out]at hp';rcases List.mem_append.1 hp' with h|h
     ·exact hno.out p' h
     ·simp at h;rw[h];exact of_decide_eq_true HTT.out
    case measure=>simp[intOf];omega
  ·obtain rfl:k=N:=by omega
   go_wp2
   go_ret
   refine⟨?_,hbr⟩;have:r=true:=by
    rw[←HA.out];refine(allIn_iff n l).2 fun p hp=>hno.out p ?_
    rwa [List.take_of_length_le (by rw[HN.out];exact Nat.le_refl _)]
   rw[this];rfl
theorem rmay_calls {w:World}{v:Value}{p a e:List P3}{r:Int}(h:CoreV w v p a e r)(hp:p.length<9223372036854775807)(ha:a.length<9223372036854775807)(he:e.length<9223372036854775807):
  Calls Tryz.prog 54 #[v] w fun en w'=>en= .returned (.bool (mayF p a e r))∧Below w.heap.size w w':=by
 obtain⟨A0,A1,A2,c0,c1,c2,rfl,h0,h1,h2,_⟩:=h.out;have H0:=Lh (fun W (hW:RdB W A0 p)=>all_calls p A0 c0 16777216 W hW.1 hp (by decide) (by decide));have H1:=Lh (fun W (hW:RdB W A1 a)=>all_calls a A1 c1 1048576 W hW.1 ha (by decide) (by decide));have H2:=Lh (fun W (hW:RdB W A2 e)=>all_calls e A2 c2 1048576 W hW.1 he (by decide) (by decide));rw[allIn_far _ (by decide) (by decide)]at H0 H1 H2;have hm:mayF p a e r=mayF p a e r:=rfl
 conv at hm=>lhs;unfold mayF
 obtain⟨B,hB⟩:=nm_ (mayF p a e r);rw[hB]at hm⊢;obtain⟨b0,hb0⟩:=nm_ ((!(p.any (far3 16777216))));obtain⟨b1,hb1⟩:=nm_ ((!(a.any (far3 1048576))));obtain⟨b2,hb2⟩:=nm_ ((!(e.any (far3 1048576))));rw[hb0]at H0 hm;rw[hb1]at H1 hm;rw[hb2]at H2 hm;have G0:=Lh h0;have G1:=Lh h1;have G2:=Lh h2;obtain⟨np,hnp⟩:=nm_ p.length;obtain⟨na,hna⟩:=nm_ a.length;obtain⟨ne,hne⟩:=nm_ e.length;rw[hnp]at H0 hm hp⊢;rw[hna]at H1 hm ha⊢;rw[hne]at H2 hm he⊢;clear h h0 h1 h2 hB hb0 hb1 hb2 hnp hna hne;have HM:=Lh hm;clear hm;have z:=heap_alloc_new w (.cells #[.slice A0 np c0, .slice A1 na c1, .slice A2 ne c2, .int .i64 r] 35);have zb:=(Below.refl _ w).alloc (Nat.le_refl _) (.cells #[.slice A0 np c0, .slice A1 na c1, .slice A2 ne c2, .int .i64 r] 35);obtain⟨w1,hw1⟩:=nm_ (w.alloc (.cells #[.slice A0 np c0, .slice A1 na c1, .slice A2 ne c2, .int .i64 r] 35));rw[hw1]at z zb;have hw1':=Lh hw1;have Z:=Lh z;have ZB:=Lh zb;clear hw1 z zb;by_cases t0:(np:Int)<1
 ·have E:Hid (B=false):=Lh (by rw[←HM.out,decide_eq_false (show ¬0<np by omega)];simp);have d0:decide ((np:Int)<1)=true:=decide_eq_true t0;clear t0;go_enter Tryz.func54,Tryz.ntmps54;go_wp2
  go_ret
  exact⟨by rw[E.out];rfl,(Below.refl _ w).alloc (Nat.le_refl _) _⟩
 by_cases t1:32<(np:Int)
 ·have E:Hid (B=false):=Lh (by rw[←HM.out,decide_eq_false (show ¬np≤32 by omega)];simp);have d0:decide ((np:Int)<1)=false:=decide_eq_false t0;have d1:decide (32<(np:Int))=true:=decide_eq_true t1;clear t0 t1;go_enter Tryz.func54,Tryz.ntmps54;go_wp2
  go_ret
  exact⟨by rw[E.out];rfl,(Below.refl _ w).alloc (Nat.le_refl _) _⟩
 by_cases t2:128<(na:Int)
 ·have E:Hid (B=false):=Lh (by rw[←HM.out,decide_eq_false (show ¬na≤128 by omega)];simp);have d0:decide ((np:Int)<1)=false:=decide_eq_false t0;have d1:decide (32<(np:Int))=false:=decide_eq_false t1;have d2:decide (128<(na:Int))=true:=decide_eq_true t2;clear t0 t1 t2;go_enter Tryz.func54,Tryz.ntmps54;go_wp2
  go_ret
  exact⟨by rw[E.out];rfl,(Below.refl _ w).alloc (Nat.le_refl _) _⟩
 by_cases t3:128<(ne:Int)
 ·have E:Hid (B=false):=Lh (by rw[←HM.out,decide_eq_false (show ¬ne≤128 by omega)];simp);have d0:decide ((np:Int)<1)=false:=decide_eq_false t0;have d1:decide (32<(np:Int))=false:=decide_eq_false t1;have d2:decide (128<(na:Int))=false:=decide_eq_false t2;have d3:decide (128<(ne:Int))=true:=decide_eq_true t3;clear t0 t1 t2 t3;go_enter Tryz.func54,Tryz.ntmps54;go_wp2
  go_ret
  exact⟨by rw[E.out];rfl,(Below.refl _ w).alloc (Nat.le_refl _) _⟩
 by_cases t4:r<0
 ·have E:Hid (B=false):=Lh (by rw[←HM.out,decide_eq_false (show ¬0≤r by omega)];simp);have d0:decide ((np:Int)<1)=false:=decide_eq_false t0;have d1:decide (32<(np:Int))=false:=decide_eq_false t1;have d2:decide (128<(na:Int))=false:=decide_eq_false t2;have d3:decide (128<(ne:Int))=false:=decide_eq_false t3;have d4:decide (r<0)=true:=decide_eq_true t4;clear t0 t1 t2 t3 t4;go_enter Tryz.func54,Tryz.ntmps54;go_wp2
  go_ret
  exact⟨by rw[E.out];rfl,(Below.refl _ w).alloc (Nat.le_refl _) _⟩
 by_cases t5:65536<r
 ·have E:Hid (B=false):=Lh (by rw[←HM.out,decide_eq_false (show ¬r≤65536 by omega)];simp);have d0:decide ((np:Int)<1)=false:=decide_eq_false t0;have d1:decide (32<(np:Int))=false:=decide_eq_false t1;have d2:decide (128<(na:Int))=false:=decide_eq_false t2;have d3:decide (128<(ne:Int))=false:=decide_eq_false t3;have d4:decide (r<0)=false:=decide_eq_false t4;have d5:decide (65536<r)=true:=decide_eq_true t5;clear t0 t1 t2 t3 t4 t5;go_enter Tryz.func54,Tryz.ntmps54;go_wp2
  go_ret
  exact⟨by rw[E.out];rfl,(Below.refl _ w).alloc (Nat.le_refl _) _⟩
 have E:Hid (B=(b0&&b1&&b2)):=Lh (by rw[←HM.out,decide_eq_true (show 0<np by omega),decide_eq_true (show np≤32 by omega),decide_eq_true (show na≤128 by omega),decide_eq_true (show ne≤128 by omega),decide_eq_true (show 0≤r by omega),decide_eq_true (show r≤65536 by omega)];rfl);have d0:decide ((np:Int)<1)=false:=decide_eq_false t0;have d1:decide (32<(np:Int))=false:=decide_eq_false t1;have d2:decide (128<(na:Int))=false:=decide_eq_false t2;have d3:decide (128<(ne:Int))=false:=decide_eq_false t3;have d4:decide (r<0)=false:=decide_eq_false t4;have d5:decide (65536<r)=false:=decide_eq_false t5;clear t0 t1 t2 t3 t4 t5 HM;have E':=E.out;clear E;subst E';go_enter Tryz.func54,Tryz.ntmps54;go_wp2_with fail;rw[hw1'.out];refine(H0.out w1 (G0.below ZB.out)).mono ?_;rintro en w2 ⟨rfl,hb⟩;have Z2:=up_ hb Z;have ZB2:=Lh (bthen ZB.out hb);clear hb;have x1:w2.cell? ⟨w.heap.size,1,none⟩=some (.slice A1 na c1):=(blk_cell Z2.out 1).trans rfl;have l0:w.heap.size<w2.heap.size:=blk_lt Z2.out;go_wp2_with fail;refine(H1.out w2 (G1.below ZB2.out)).mono ?_;rintro en w3 ⟨rfl,hb⟩;have Z3:=up_ hb Z2;have ZB3:=Lh (bthen ZB2.out hb);clear hb x1 l0;have x2:w3.cell? ⟨w.heap.size,2,none⟩=some (.slice A2 ne c2):=(blk_cell Z3.out 2).trans rfl;have l0:w.heap.size<w3.heap.size:=blk_lt Z3.out;go_wp2_with fail;refine(H2.out w3 (G2.below ZB3.out)).mono ?_;rintro en w4 ⟨rfl,hb⟩;have ZB4:=Lh (bthen ZB3.out hb);clear hb x2 l0;clear d0 d1 d2 d3 d4 d5;cases b0
 ·go_wp2
  go_ret
  exact⟨rfl,ZB4.out⟩
 cases b1
 ·go_wp2
  go_ret
  exact⟨rfl,ZB4.out⟩
 go_wp2
 go_ret
 exact⟨by cases b2<;>rfl,ZB4.out⟩
end Go.Proofs.YtckdhahceelckaaGreat.G
