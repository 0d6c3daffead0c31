/- What the laws of this claim lean on: contracts of functions and plain lemmas; no condition of its own (part 13: XW20, XW21, XW22, XW26, XW27). -/
import Derived.Test.YtckdhahceelckaaGreatKQ12
set_option maxHeartbeats 16000000
set_option maxRecDepth 100000
set_option linter.unusedVariables false
set_option linter.unusedSimpArgs false
namespace Go.Proofs.YtckdhahceelckaaGreat.G
open Go.RowKit Go.Proofs.YtckdhahceelckaaGreatW.PrintWords Go.Proofs.YtckdhahceelckaaGreatW.PrintLast Go.Proofs.YtckdhahceelckaaGreatW.PrintMore
attribute [local go_sem] max2_mx min2_mn max_two min_two max_three min_three max_four min_four
theorem times_bd {x n:Int}(h1: -1048576≤x)(h2:x≤1048576)(h3:0≤n)(h4:n≤1048576): -1099511627776≤x*n∧x*n≤1099511627776:=by
 have:=Int.natAbs_mul x n;have:=Nat.mul_le_mul (show x.natAbs≤1048576 by omega) (show n.natAbs≤1048576 by omega);omega
def timesF (p:P3)(n:Int):P3:=⟨p.x*n,p.y*n,p.z*n⟩
theorem times6_calls (p:P3)(n:Int)(hp:in3 1048576 p)(h0:0≤n)(h1:n≤1048576)(w:World):
  Calls Tryz.prog 72 #[aP p, .int .i64 n] w fun e w'=>e= .returned (aP (timesF p n))∧Below w.heap.size w w':=by
 obtain⟨x,y,z⟩:=p;obtain⟨a1,a2,a3,a4,a5,a6⟩:=hp;simp only at a1 a2 a3 a4 a5 a6;obtain⟨b1,b2⟩:=times_bd a1 a2 h0 h1;obtain⟨b3,b4⟩:=times_bd a3 a4 h0 h1;obtain⟨b5,b6⟩:=times_bd a5 a6 h0 h1;have e1:IntKind.i64.wrap (x*n)=x*n:=iw_id _ (by omega) (by omega);have e2:IntKind.i64.wrap (y*n)=y*n:=iw_id _ (by omega) (by omega);have e3:IntKind.i64.wrap (z*n)=z*n:=iw_id _ (by omega) (by omega);have e4:wrap64 (x*n)=x*n:=w64_id _ (by omega) (by omega);have e5:wrap64 (y*n)=y*n:=w64_id _ (by omega) (by omega);have e6:wrap64 (z*n)=z*n:=w64_id _ (by omega) (by omega);go_enter Tryz.func72,Tryz.ntmps72;go_wp2;exact bodyPost_ret (v:=aP (timesF ⟨x,y,z⟩ n)) (by simp[results,Tryz.results72,go_sem,timesF]) rfl ⟨rfl,((Below.refl _ w).alloc (Nat.le_refl _) _).alloc (by simp) _⟩
theorem td_facts (n k:Int)(hk:0<k):k*n.tdiv k+n.tmod k=n∧(0≤n→0≤n.tmod k∧n.tmod k<k)∧(n≤0→ -k<n.tmod k∧n.tmod k≤0):=by
 refine⟨Int.mul_tdiv_add_tmod n k,fun h=>?_,fun h=>?_⟩
 ·rw[Int.tmod_eq_emod_of_nonneg h];exact⟨Int.emod_nonneg _ (by omega),Int.emod_lt_of_pos _ hk⟩
 ·have e:n.tmod k= -((-n).tmod k):=by rw[Int.neg_tmod];omega
  rw[e,Int.tmod_eq_emod_of_nonneg (by omega)];have:=Int.emod_nonneg (-n) (show k≠0 by omega);have:=Int.emod_lt_of_pos (-n) hk;omega
theorem down6_calls (n:Int)(h1: -4611686018427387904≤n)(h2:n≤4611686018427387904)(w:World):
  Calls Tryz.prog 73 #[.int .i64 n] w fun e w'=>e= .returned (.int .i64 (n / 1048576))∧w'=w:=by
 obtain⟨t1,t2,t3⟩:=td_facts n 1048576 (by decide);have t4: -1048576<n.tmod 1048576∧n.tmod 1048576<1048576:=by omega
 have t5:0≤n.tmod 1048576∨n<0:=by omega
 obtain⟨t6,t7⟩:=t4;clear t2 t3;have T:=Lh t1;have T5:=Lh t5;clear t5;by_cases h:n.tmod 1048576<0
 ·have E:=Lh (show n.tdiv 1048576-1=n / 1048576 by omega);have b1: -4398046511104≤n.tdiv 1048576:=by omega
  have b2:n.tdiv 1048576≤4398046511104:=by omega
  have e1:IntKind.i64.wrap (n.tdiv 1048576)=n.tdiv 1048576:=iw_id _ (by omega) (by omega);have e2:IntKind.i64.wrap (n.tdiv 1048576-1)=n.tdiv 1048576-1:=iw_id _ (by omega) (by omega);have e3:IntKind.i64.wrap (n.tmod 1048576)=n.tmod 1048576:=iw_id _ (by omega) (by omega);have e4:wrap64 (n.tdiv 1048576)=n.tdiv 1048576:=w64_id _ (by omega) (by omega);have e5:wrap64 (n.tmod 1048576)=n.tmod 1048576:=w64_id _ (by omega) (by omega);clear t1;have d:decide (n.tmod 1048576<0)=true:=by simpa using h
  go_enter Tryz.func73,Tryz.ntmps73;go_wp2
  go_ret
  exact⟨by rw[←E.out];rfl,rfl⟩
 ·have E:=Lh (show n.tdiv 1048576=n / 1048576 by omega);have b1: -4398046511104≤n.tdiv 1048576:=by omega
  have b2:n.tdiv 1048576≤4398046511104:=by omega
  have e1:IntKind.i64.wrap (n.tdiv 1048576)=n.tdiv 1048576:=iw_id _ (by omega) (by omega);have e3:IntKind.i64.wrap (n.tmod 1048576)=n.tmod 1048576:=iw_id _ (by omega) (by omega);have e4:wrap64 (n.tdiv 1048576)=n.tdiv 1048576:=w64_id _ (by omega) (by omega);have e5:wrap64 (n.tmod 1048576)=n.tmod 1048576:=w64_id _ (by omega) (by omega);clear t1;have d:decide (n.tmod 1048576<0)=false:=by simpa using h
  go_enter Tryz.func73,Tryz.ntmps73;go_wp2
  go_ret
  exact⟨by rw[←E.out];rfl,rfl⟩
theorem size5_calls (n:Int)(h1: -4611686018427387904≤n)(h2:n≤4611686018427387904)(w:World):
  Calls Tryz.prog 132 #[.int .i64 n] w fun e w'=>e= .returned (.int .i64 (n.natAbs:Int))∧w'=w:=by
 by_cases h:n<0
 ·have E:=Lh (show-n=(n.natAbs:Int) by omega);have d:decide (n<0)=true:=by simpa using h
  go_enter Tryz.func132,Tryz.ntmps132;go_wp2
  go_ret
  exact⟨by rw[←E.out];rfl,rfl⟩
 ·have E:=Lh (show n=(n.natAbs:Int) by omega);have d:decide (n<0)=false:=by simpa using h
  go_enter Tryz.func132,Tryz.ntmps132;go_wp2
  go_ret
  exact⟨by rw[←E.out];rfl,rfl⟩
theorem in5_calls (n a b:Int)(r:Bool)(hr:decide (a≤n∧n≤b)=r)(w:World):
  Calls Tryz.prog 130 #[.int .i64 n, .int .i64 a, .int .i64 b] w fun e w'=>e= .returned (.bool r)∧w'=w:=by
 by_cases h:a≤n
 ·have d:decide (a≤n)=true:=by simpa using h
  by_cases h':n≤b
  ·have d':decide (n≤b)=true:=by simpa using h'
   have E:Hid (r=true):=Lh (by rw[←hr];simp[h,h']);clear hr h h';go_enter Tryz.func130,Tryz.ntmps130;go_wp2
   go_ret
   exact⟨by rw[E.out];rfl,rfl⟩
  ·have d':decide (n≤b)=false:=by simpa using h'
   have E:Hid (r=false):=Lh (by rw[←hr];simp[h']);clear hr h h';go_enter Tryz.func130,Tryz.ntmps130;go_wp2
   go_ret
   exact⟨by rw[E.out];rfl,rfl⟩
 ·have d:decide (a≤n)=false:=by simpa using h
  have E:Hid (r=false):=Lh (by rw[←hr];simp[h]);clear hr h;go_enter Tryz.func130,Tryz.ntmps130;go_wp2
  go_ret
  exact⟨by rw[E.out];rfl,rfl⟩
instance (n:Int) (p:P3):Decidable (in3 n p):=by unfold in3;infer_instance
theorem in6_calls (p:P3)(n:Int)(r:Bool)(hr:decide (in3 n p)=r)(h0:0≤n)(h1:n≤4611686018427387904)(w:World):
  Calls Tryz.prog 69 #[aP p, .int .i64 n] w fun e w'=>e= .returned (.bool r)∧Below w.heap.size w w':=by
 obtain⟨x,y,z⟩:=p;have ew:IntKind.i64.wrap (-n)= -n:=iw_id _ (by omega) (by omega);by_cases t0: -n≤x;rotate_left
 ·have E:Hid (r=false):=Lh (by rw[←hr];apply decide_eq_false;rintro⟨k1,k2,k3,k4,k5,k6⟩;simp only at k1 k2 k3 k4 k5 k6;omega);have d0:decide (-n≤x)=false:=by simpa using t0
  clear hr t0;go_enter Tryz.func69,Tryz.ntmps69;go_wp2
  go_ret
  exact⟨by rw[E.out];rfl,(Below.refl _ w).alloc (Nat.le_refl _) _⟩
 by_cases t1:x≤n;rotate_left
 ·have E:Hid (r=false):=Lh (by rw[←hr];apply decide_eq_false;rintro⟨k1,k2,k3,k4,k5,k6⟩;simp only at k1 k2 k3 k4 k5 k6;omega);have d0:decide (-n≤x)=true:=by simpa using t0
  have d1:decide (x≤n)=false:=by simpa using t1
  clear hr t0 t1;go_enter Tryz.func69,Tryz.ntmps69;go_wp2
  go_ret
  exact⟨by rw[E.out];rfl,(Below.refl _ w).alloc (Nat.le_refl _) _⟩
 by_cases t2: -n≤y;rotate_left
 ·have E:Hid (r=false):=Lh (by rw[←hr];apply decide_eq_false;rintro⟨k1,k2,k3,k4,k5,k6⟩;simp only at k1 k2 k3 k4 k5 k6;omega);have d0:decide (-n≤x)=true:=by simpa using t0
  have d1:decide (x≤n)=true:=by simpa using t1
  have d2:decide (-n≤y)=false:=by simpa using t2
  clear hr t0 t1 t2;go_enter Tryz.func69,Tryz.ntmps69;go_wp2
  go_ret
  exact⟨by rw[E.out];rfl,(Below.refl _ w).alloc (Nat.le_refl _) _⟩
 by_cases t3:y≤n;rotate_left
 ·have E:Hid (r=false):=Lh (by rw[←hr];apply decide_eq_false;rintro⟨k1,k2,k3,k4,k5,k6⟩;simp only at k1 k2 k3 k4 k5 k6;omega);have d0:decide (-n≤x)=true:=by simpa using t0
  have d1:decide (x≤n)=true:=by simpa using t1
  have d2:decide (-n≤y)=true:=by simpa using t2
  have d3:decide (y≤n)=false:=by simpa using t3
  clear hr t0 t1 t2 t3;go_enter Tryz.func69,Tryz.ntmps69;go_wp2
  go_ret
  exact⟨by rw[E.out];rfl,(Below.refl _ w).alloc (Nat.le_refl _) _⟩
 by_cases t4: -n≤z;rotate_left
 ·have E:Hid (r=false):=Lh (by rw[←hr];apply decide_eq_false;rintro⟨k1,k2,k3,k4,k5,k6⟩;simp only at k1 k2 k3 k4 k5 k6;omega);have d0:decide (-n≤x)=true:=by simpa using t0
  have d1:decide (x≤n)=true:=by simpa using t1
  have d2:decide (-n≤y)=true:=by simpa using t2
  have d3:decide (y≤n)=true:=by simpa using t3
  have d4:decide (-n≤z)=false:=by simpa using t4
  clear hr t0 t1 t2 t3 t4;go_enter Tryz.func69,Tryz.ntmps69;go_wp2
  go_ret
  exact⟨by rw[E.out];rfl,(Below.refl _ w).alloc (Nat.le_refl _) _⟩
 by_cases t5:z≤n;rotate_left
 ·have E:Hid (r=false):=Lh (by rw[←hr];apply decide_eq_false;rintro⟨k1,k2,k3,k4,k5,k6⟩;simp only at k1 k2 k3 k4 k5 k6;omega);have d0:decide (-n≤x)=true:=by simpa using t0
  have d1:decide (x≤n)=true:=by simpa using t1
  have d2:decide (-n≤y)=true:=by simpa using t2
  have d3:decide (y≤n)=true:=by simpa using t3
  have d4:decide (-n≤z)=true:=by simpa using t4
  have d5:decide (z≤n)=false:=by simpa using t5
  clear hr t0 t1 t2 t3 t4 t5;go_enter Tryz.func69,Tryz.ntmps69;go_wp2
  go_ret
  exact⟨by rw[E.out];rfl,(Below.refl _ w).alloc (Nat.le_refl _) _⟩
 have E:Hid (r=true):=Lh (by rw[←hr];apply decide_eq_true;refine⟨?_,?_,?_,?_,?_,?_⟩<;>simp only<;>omega);have d0:decide (-n≤x)=true:=by simpa using t0
 have d1:decide (x≤n)=true:=by simpa using t1
 have d2:decide (-n≤y)=true:=by simpa using t2
 have d3:decide (y≤n)=true:=by simpa using t3
 have d4:decide (-n≤z)=true:=by simpa using t4
 have d5:decide (z≤n)=true:=by simpa using t5
 clear hr t0 t1 t2 t3 t4 t5;go_enter Tryz.func69,Tryz.ntmps69;go_wp2
 go_ret
 exact⟨by rw[E.out];rfl,(Below.refl _ w).alloc (Nat.le_refl _) _⟩
end Go.Proofs.YtckdhahceelckaaGreat.G
namespace Go.Proofs.YtckdhahceelckaaGreat.G
open Go.RowKit Go.Proofs.YtckdhahceelckaaGreatW.PrintWords Go.Proofs.YtckdhahceelckaaGreatW.PrintLast Go.Proofs.YtckdhahceelckaaGreatW.PrintMore
attribute [local go_sem] max2_mx min2_mn max_two min_two max_three min_three max_four min_four
attribute [local go_sem high] eqA23
theorem rcross_calls (a b:P3)(w:World):
  Calls Tryz.prog 85 #[aP a,aP b] w fun e w'=>e= .returned (aP (cross3 a b))∧Below w.heap.size w w':=by
 obtain⟨x,y,z⟩:=a;obtain⟨a,b,c⟩:=b;go_enter Tryz.func85,Tryz.ntmps85;go_wp2;exact bodyPost_ret (v:= .agg #[.int .i64 (cross3 ⟨x,y,z⟩ ⟨a,b,c⟩).x, .int .i64 (cross3 ⟨x,y,z⟩ ⟨a,b,c⟩).y, .int .i64 (cross3 ⟨x,y,z⟩ ⟨a,b,c⟩).z]) (by simp[results,Tryz.results85,go_sem,cross3]) rfl ⟨rfl,(by repeat (first|exact Below.refl _ _|refine Below.setCell ?_ (by simp<;>omega) _|refine Below.alloc ?_ (by simp<;>omega) _|refine Below.drew ?_))⟩
/-- the greatest divisor of some numbers -/
def gcdL (l:List Nat):Nat:=l.foldl Nat.gcd 0
theorem gcdL_snoc (l:List Nat)(k:Nat)(h:k<l.length):gcdL (l.take (k+1))=Nat.gcd (gcdL (l.take k)) l[k]:=by
 unfold gcdL;rw[List.take_succ_eq_append_getElem h,List.foldl_append];rfl
theorem gcdL3 (p:P3):(gcdL [p.x.natAbs,p.y.natAbs,p.z.natAbs]:Int)=gcd3 p:=by
 unfold gcdL gcd3;simp only[List.foldl_cons,List.foldl_nil,Nat.gcd_zero_left];rw[Int.gcd,Int.gcd];simp
theorem gcd_le2 (a b B:Nat)(ha:a≤B)(hb:b≤B):Nat.gcd a b≤B:=by
 by_cases h:a=0
 ·subst h;simpa using hb
 ·exact Nat.le_trans (Nat.le_of_dvd (by omega) (Nat.gcd_dvd_left a b)) ha
theorem gcdL_le (l:List Nat)(B:Nat)(h:∀x∈l,x≤B):gcdL l≤B:=by
 have gen:∀(l:List Nat) (g:Nat),g≤B→(∀x∈l,x≤B)→l.foldl Nat.gcd g≤B:=by
  intro l
  induction l with
  |nil=>intro g hg _;exact hg
  |cons x l ih=>intro g hg hx;exact ih _ (gcd_le2 g x B hg (hx x (.head _))) (fun y hy=>hx y (.tail _ hy))
 exact gen l 0 (Nat.zero_le _) h
theorem bare3_zero:bare3 ⟨0,0,0⟩=⟨0,0,0⟩:=by decide+kernel
theorem rbare_calls (p:P3)(w:World)(hp:in3 4398046511104 p):
  Calls Tryz.prog 131 #[aP p] w fun e w'=>e= .returned (aP (bare3 p))∧Below w.heap.size w w':=by
 have HG3:=Lh (gcdL3 p)
 have HZ:Hid (gcd3 p=0→bare3 p=p):=Lh (fun h=>by
  by_cases e:p=⟨0,0,0⟩
  ·rw[e];exact bare3_zero
  ·have:=gcd3_pos p e;omega)
 have HD:Hid (bare3 p=⟨p.x.tdiv (gcd3 p),p.y.tdiv (gcd3 p),p.z.tdiv (gcd3 p)⟩):=Lh rfl;obtain⟨x,y,z⟩:=p;obtain⟨a1,a2,a3,a4,a5,a6⟩:=hp;simp only at a1 a2 a3 a4 a5 a6;have sx:=Lh (size5_calls x (by omega) (by omega));have sy:=Lh (size5_calls y (by omega) (by omega));have sz:=Lh (size5_calls z (by omega) (by omega));have LB:Hid (∀q∈[x.natAbs,y.natAbs,z.natAbs],q≤4398046511104):=Lh (by intro q hq;simp at hq;rcases hq with rfl|rfl|rfl<;>omega);have TX:=Lh (fun n=>iw_tdiv x n (by omega) (by omega));have TY:=Lh (fun n=>iw_tdiv y n (by omega) (by omega));have TZ:=Lh (fun n=>iw_tdiv z n (by omega) (by omega));simp only at HG3;obtain⟨X,hX⟩:=nm_ x.natAbs;obtain⟨Y,hY⟩:=nm_ y.natAbs;obtain⟨Z,hZ⟩:=nm_ z.natAbs;rw[hX]at sx HG3 LB;rw[hY]at sy HG3 LB;rw[hZ]at sz HG3 LB;clear hX hY hZ a1 a2 a3 a4 a5 a6;go_enter Tryz.func131,Tryz.ntmps131;go_wp2_with fail;obtain⟨w1,hw1⟩:=nm_ ((w.alloc (.cells #[.int .i64 x, .int .i64 y, .int .i64 z] 23)).alloc (.cells #[.int .i64 0, .int .i64 0, .int .i64 0] 23));have P1:Hid (C3 w1 w.heap.size (.int .i64 x) (.int .i64 y) (.int .i64 z)):=Lh (by rw[←hw1];exact(C3.new w _ _ _ _).alloc _);have R1:Hid (w1.heap[w.heap.size+1]?=some (.cells #[.int .i64 0, .int .i64 0, .int .i64 0] 23 (0,0))):=Lh (by rw[←hw1];have h:=heap_alloc_new (w.alloc (.cells #[.int .i64 x, .int .i64 y, .int .i64 z] 23)) (.cells #[.int .i64 0, .int .i64 0, .int .i64 0] 23);rw[World.size_alloc]at h;exact h);have HW1:=Lh (show Below w.heap.size w w1 by rw[←hw1];exact((Below.refl _ w).alloc (Nat.le_refl _) _).alloc (by simp) _);have lt1:w.heap.size+1<w1.heap.size:=by rw[←hw1];simp
 have lt0:w.heap.size<w1.heap.size:=by omega
 rw[hw1];clear hw1;obtain⟨c0,c1,c2,_,_,_⟩:=P1.out;have HB:=Lh ((Below.refl (w1.heap.size) w1).drew);have FF:=Lh (show ∀V,Hid (Below (w1.heap.size) w1 V)→V.cell? ⟨w.heap.size,0,none⟩=some (.int .i64 x)∧V.cell? ⟨w.heap.size,1,none⟩=some (.int .i64 y)∧V.cell? ⟨w.heap.size,2,none⟩=some (.int .i64 z) from fun V HB=>⟨(HB.cell (p:=⟨w.heap.size,0,none⟩) (lt0)).trans c0,(HB.cell (p:=⟨w.heap.size,1,none⟩) (lt0)).trans c1,(HB.cell (p:=⟨w.heap.size,2,none⟩) (lt0)).trans c2⟩);refine start_ (n:=11) (S:=fun w'=>w'.cell? ⟨w.heap.size,0,none⟩=some (.int .i64 x)∧w'.cell? ⟨w.heap.size,1,none⟩=some (.int .i64 y)∧w'.cell? ⟨w.heap.size,2,none⟩=some (.int .i64 z)) (ds:=[]) (MT 0 11) (by kernel_rfl) rfl rfl (FF.out _ HB) (fun j_=>?_);obtain⟨wd,hwd⟩:=nm_ w1.drew;rw[hwd]at HB j_⊢;clear hwd;refine pu_ 0 9 (h:=?_);refine pu_ 3 12 (h:=?_);refine pu_ 6 15 (h:=?_);refine ta_ 1 10 j_ (h:=?_);refine ta_ 4 13 j_ (h:=?_);refine ta_ 7 16 j_ (h:=?_);refine on_ 2 (some 11) (h:=fun K hK=>?_);refine gs_ Tryz.func132 #[.int .i64 x] ?_
 with_reducible refine(sx.out _).mono ?_
 rintro e w3 ⟨rfl,rfl⟩;refine⟨_,rfl,?_⟩;refine hK.out _ _ (FF.out _ HB) (fun j_=>?_);clear hK K;refine no_ (h:=?_);refine on_ 5 (some 14) (h:=fun K hK=>?_);refine gs_ Tryz.func132 #[.int .i64 y] ?_
 with_reducible refine(sy.out _).mono ?_
 rintro e w3 ⟨rfl,rfl⟩;refine⟨_,rfl,?_⟩;refine hK.out _ _ (FF.out _ HB) (fun j_=>?_);clear hK K;refine no_ (h:=?_);refine on_ 8 (some 17) (h:=fun K hK=>?_);refine gs_ Tryz.func132 #[.int .i64 z] ?_
 with_reducible refine(sz.out _).mono ?_
 rintro e w3 ⟨rfl,rfl⟩;refine⟨_,rfl,?_⟩;refine hK.out _ _ (FF.out _ HB) (fun j_=>?_);clear hK K;refine no_ (h:=?_);refine on_ 9 (some 18) (h:=fun K hK=>?_);refine va_ ?_;have HA:=Lh (ha_new HB.out (.cells #[.int .i64 (X:Int), .int .i64 (Y:Int), .int .i64 (Z:Int)] 3));have hge:=HB.size;have HB:=Lh (HB.alloc (Nat.le_trans (Nat.le_refl _) HB.size) (.cells #[.int .i64 (X:Int), .int .i64 (Y:Int), .int .i64 (Z:Int)] 3));refine hK.out _ _ (FF.out _ HB) (fun j_=>?_);clear hK K;refine no_ (h:=?_);refine pu_ 10 4 (h:=?_);refine done_ (by kernel_rfl) ?_;have P2:=Lh (P1.below HB.out);have R2:=Lh ((HB.block _ lt1).trans R1.out);have HW2:=Lh (HW1.trans (HB.mono (by omega)));have RI2:=Lh (RdI.of3 HA.out);obtain⟨AB,hAB⟩:=nm_ w3.heap.size;have lz:w1.heap.size≤AB:=by rw[←hAB];exact hge
 rw[hAB]at RI2⊢;obtain⟨w4,hw4⟩:=nm_ (w3.alloc (.cells #[.int .i64 X, .int .i64 Y, .int .i64 Z] 3));rw[hw4]at P2 R2 HW2 RI2⊢;clear j_ HB HA hge c0 c1 c2 P1 R1 HW1 hAB hw4;obtain⟨N,hN⟩:∃N:List Nat,[X,Y,Z]=N:=⟨_,rfl⟩;have hNI:[(X:Int),(Y:Int),(Z:Int)]=N.map Int.ofNat:=by rw[←hN];rfl
 rw[hNI]at RI2;have hN3:N.length=3:=by rw[←hN];rfl
 rw[hN]at HG3 LB;have HN3:=Lh hN3;clear hNI hN hN3;go_wp2;go_loopw [3,5,6,7,8] (fun v3 v5 v6 v7 v8 wr=>∃k:Nat,k≤3∧v5= .int .i64 k∧v3= .int .i64 (gcdL (N.take k))∧Hid (wr=w4)) (fun _ i _ _ _ _=>3-(intOf i).toNat)
 case atStart=>exact⟨0,by omega,rfl,rfl,Lh rfl⟩
 case round=>
  obtain⟨k,hk,rfl,rfl,hwr⟩:=hrel;have hwr':=hwr.out;subst hwr';by_cases hlt:k<3
  ·have hlN:k<N.length:=by rw[HN3.out];exact hlt
   have hc:wr.cell? ⟨AB,0+k,none⟩=some (.int .i64 (N[k]:Int)):=by
    obtain⟨b,o,e,_,h⟩:=RI2.out.get k (by rw[List.length_map];exact hlN);simp only[Option.some.injEq,Addr.mk.injEq,and_true]at e;obtain⟨rfl,rfl⟩:=e;rw[List.getElem_map]at h;exact h
   rw[Nat.zero_add]at hc;have hS:=Lh (gcdL_snoc N k hlN);have b1:N[k]≤4398046511104:=LB.out _ (List.getElem_mem _);have b2:gcdL (N.take k)≤4398046511104:=gcdL_le _ _ (fun q hq=>LB.out q (List.mem_of_mem_take hq));obtain⟨M,hM⟩:=nm_ (N[k]);obtain⟨g,hg⟩:=nm_ (gcdL (N.take k));rw[hM]at hc hS b1;rw[hg]at hS b2⊢;clear hM hg;obtain⟨wo,hwo⟩:∃wo:World,wo=wr:=⟨_,rfl⟩;subst hwo;go_wp2;go_loopw [6,7,8] (fun v6 v7 v8 wr=>∃a b:Nat,v6= .int .i64 a∧v7= .int .i64 b∧a≤4398046511104∧b≤4398046511104∧Hid (Nat.gcd a b=Nat.gcd g M)∧Hid (wr=wo)) (fun _ b _ _=>(intOf b).toNat)
   case atStart=>exact⟨g,M,rfl,rfl,b2,b1,Lh rfl,Lh rfl⟩
   case round=>
    clear hc b1 b2;obtain⟨a,b,rfl,rfl,h1,h2,h3,hw'⟩:=hrel;have hw'':=hw'.out;subst hw'';by_cases hb:b=0
    ·subst hb;have t0:((0:Int) != 0)=false:=rfl;have hE:Hid (gcdL (N.take (k+1))=a):=Lh (by rw[hS.out,←h3.out];simp);go_wp2
     go_roundw
     case rel=>exact⟨k+1,by omega,by go_num,by rw[hE.out],by first|exact Lh rfl|exact trivial⟩
     case measure=>simp[intOf];omega
    ·have t0:(((b:Nat):Int) != 0)=true:=by simp;exact hb
     have t1:(((b:Nat):Int) == 0)=false:=by simp;exact hb
     have t2:((b:Nat):Int)≠0:=by omega
     have e1:IntKind.i64.wrap ((a:Int).tmod (b:Int))=((a%b:Nat):Int):=by
      rw[Int.tmod_eq_emod_of_nonneg (by omega),←Int.natCast_emod];have:=Nat.mod_le a b;exact iw_id _ (by omega) (by omega)
     have hm:=Nat.mod_lt a (show b>0 by omega);go_wp2
     go_roundw
     case rel=>exact⟨b,a%b,rfl,by first|rfl|(rw[Int.natCast_emod])|go_num,h2,by omega,Lh (by rw[←h3.out,Nat.gcd_comm b,←Nat.gcd_rec,Nat.gcd_comm]),by first|exact Lh rfl|exact trivial⟩
     case measure=>simp[intOf];omega
  ·obtain rfl:k=3:=by omega
   rw[List.take_of_length_le (by rw[HN3.out];omega),HG3.out];obtain⟨c0,c1,c2,_,_,_⟩:=P2.out;obtain⟨z0,z1,z2,_⟩:=f3_ (w.heap.size+1) R2.out;obtain⟨f0,f1,f2⟩:=z3_ (w.heap.size+1) R2.out;by_cases hg0:gcd3 ⟨x,y,z⟩=0
   ·have E:=Lh (HZ.out hg0);rw[hg0];clear hg0;go_wp2;rw[E.out];exact bodyPost_ret (v:=aP ⟨x,y,z⟩) (by simp[results,Tryz.results131,go_sem,z0,z1,z2]) rfl ⟨rfl,below_set3 HW2.out (by omega) _ _ _⟩
   ·obtain⟨G,hG⟩:=nm_ (gcd3 ⟨x,y,z⟩);rw[hG]at hg0 HD⊢;have t1:(G == 0)=false:=by simpa using hg0
    have e1:=TX.out G;have e2:=TY.out G;have e3:=TZ.out G;clear hG;have lt4:w.heap.size<wr.heap.size:=World.block_lt_of_cell? wr _ c0;go_wp2_with fail;have HB:=Lh ((Below.refl (wr.heap.size) wr).drew);have HA:=Lh (show wr.drew.heap[(w.heap.size+1)]?=_ from R2.out);refine start_ (n:=14) (S:=fun w'=>w'.cell? ⟨w.heap.size,0,none⟩=some (.int .i64 x)∧w'.cell? ⟨w.heap.size,1,none⟩=some (.int .i64 y)∧w'.cell? ⟨w.heap.size,2,none⟩=some (.int .i64 z)) (ds:=[13]) (MT 0 14) (by kernel_rfl) rfl rfl ⟨(HB.cell (p:=⟨w.heap.size,0,none⟩) (lt4)).trans c0,(HB.cell (p:=⟨w.heap.size,1,none⟩) (lt4)).trans c1,(HB.cell (p:=⟨w.heap.size,2,none⟩) (lt4)).trans c2⟩ (fun j_=>?_);obtain⟨wd,hwd⟩:=nm_ wr.drew;rw[hwd]at HB j_ HA⊢;clear hwd;refine pu_ 0 39 (h:=?_);refine pu_ 2 41 (h:=?_);refine pu_ 4 43 (h:=?_);refine pu_ 6 45 (h:=?_);refine pu_ 8 47 (h:=?_);refine pu_ 10 49 (h:=?_);refine ta_ 1 40 j_ (h:=?_);refine pu_ 3 42 (h:=?_);refine ta_ 5 44 j_ (h:=?_);refine pu_ 7 46 (h:=?_);refine ta_ 9 48 j_ (h:=?_);refine pu_ 11 50 (h:=?_);refine pu_ 12 51 (h:=?_);refine last_ (i:=13) (N:=none) (MT 14 0) rfl rfl (by kernel_rfl) (by decide) (fun K hK=>?_);have sc0:World.cell? _ ⟨(w.heap.size+1),0,none⟩=some (.int .i64 0):=(blk_cell HA.out 0).trans rfl;have sf0:=blk_frozen HA.out 0;have sc1:World.cell? _ ⟨(w.heap.size+1),1,none⟩=some (.int .i64 0):=(blk_cell HA.out 1).trans rfl;have sf1:=blk_frozen HA.out 1;have sc2:World.cell? _ ⟨(w.heap.size+1),2,none⟩=some (.int .i64 0):=(blk_cell HA.out 2).trans rfl;have sf2:=blk_frozen HA.out 2;refine skip_ (w1:=?_) (by rfl) rfl ?_ ?_;rotate_left
    ·go_simp;rfl
    have HB:=Lh (show Below (w.heap.size) _ _ from HB.mono (Nat.le_of_lt lt4));have HA:=Lh (bs3 HA.out (.int .i64 (x.tdiv G)) (.int .i64 (y.tdiv G)) (.int .i64 (z.tdiv G)));have HB:=Lh (bb3 HB.out (show w.heap.size≤w.heap.size+1 from Nat.le_succ _) (.int .i64 (x.tdiv G)) (.int .i64 (y.tdiv G)) (.int .i64 (z.tdiv G)));clear sc0 sf0 sc1 sf1 sc2 sf2;refine hK.out _ _ ?_;clear hK K;refine done_ (by kernel_rfl) ?_;obtain⟨w5,hwn⟩:=nm_ ((((wd.setCell ⟨(w.heap.size+1),0,none⟩ (.int .i64 (x.tdiv G))).setCell ⟨(w.heap.size+1),1,none⟩ (.int .i64 (y.tdiv G))).setCell ⟨(w.heap.size+1),2,none⟩ (.int .i64 (z.tdiv G))));rw[hwn]at HA HB⊢;clear hwn;have HW5:=Lh (HW2.trans HB.out);obtain⟨t5,t6,t7,_⟩:=f3_ (w.heap.size+1) HA.out;clear HB HA c0 c1 c2 z0 z1 z2 f0 f1 f2;go_wp2;rw[HD.out];exact bodyPost_ret (v:=aP ⟨x.tdiv G,y.tdiv G,z.tdiv G⟩) (by simp[results,Tryz.results131,go_sem,t5,t6,t7]) rfl ⟨rfl,HW5.out⟩
theorem short3_in_eq (p:P3)(h:in3 4398046511104 p):short3 p=bare3 (halve3 (bare3 p)):=by
 by_cases e:p=⟨0,0,0⟩
 ·rw[e,short3_zero,bare3_zero,halve3,dif_neg (by decide+kernel),bare3_zero]
 ·exact short3_eq p h e
theorem far_of (r:P3)(h:1048576<r.x.natAbs∨1048576<r.y.natAbs∨1048576<r.z.natAbs):far3 1048576 r=true:=by
 cases hf:far3 1048576 r
 ·obtain⟨a,b,c,d,e,f⟩:=(far3_iff _ _ (by decide) (by decide)).1 hf;omega
 ·rfl
theorem far_not (r:P3)(h1:r.x.natAbs≤1048576)(h2:r.y.natAbs≤1048576)(h3:r.z.natAbs≤1048576):far3 1048576 r=false:=
 (far3_iff _ _ (by decide) (by decide)).2 (by unfold in3;omega)
theorem rshort_calls (p:P3)(w:World)(hp:in3 4398046511104 p):
  Calls Tryz.prog 84 #[aP p] w fun e w'=>e= .returned (aP (short3 p))∧Below w.heap.size w w':=by
 have HSE:=Lh (short3_in_eq p hp);have HBR:=Lh (fun W=>rbare_calls p W hp);have HIN:=Lh (bare3_in p 4398046511104 hp);obtain⟨q,hq⟩:=nm_ (bare3 p);rw[hq]at HSE HBR HIN;clear hq;obtain⟨x,y,z⟩:=p;obtain⟨a1,a2,a3,a4,a5,a6⟩:=hp;simp only at a1 a2 a3 a4 a5 a6;have ix:=Lh (in5_calls x (-4398046511104) 4398046511104 true (by simp;omega));have iy:=Lh (in5_calls y (-4398046511104) 4398046511104 true (by simp;omega));have iz:=Lh (in5_calls z (-4398046511104) 4398046511104 true (by simp;omega));clear a1 a2 a3 a4 a5 a6;have B1:=Lh ((C3.new w (.int .i64 x) (.int .i64 y) (.int .i64 z) 23).alloc (.cells #[.int .i64 0, .int .i64 0, .int .i64 0] 23));have B2:=C3.new (w.alloc (.cells #[.int .i64 x, .int .i64 y, .int .i64 z] 23)) (.int .i64 0) (.int .i64 0) (.int .i64 0) 23;simp only[World.size_alloc]at B2;have B2:=Lh B2;have HW:=Lh (((Below.refl _ w).alloc (Nat.le_refl _) (.cells #[.int .i64 x, .int .i64 y, .int .i64 z] 23)).alloc (by simp) (.cells #[.int .i64 0, .int .i64 0, .int .i64 0] 23));go_enter Tryz.func84,Tryz.ntmps84;go_wp2_with fail;refine(ix.out _).mono ?_;rintro e w1 ⟨rfl,rfl⟩;go_wp2_with fail;refine(iy.out _).mono ?_;rintro e w1 ⟨rfl,rfl⟩;go_wp2_with fail;refine(iz.out _).mono ?_;rintro e w1 ⟨rfl,rfl⟩;clear ix iy iz;go_wp2_with fail;refine(HBR.out _).mono ?_;rintro e w1 ⟨rfl,hb⟩;have D2:=Lh (B2.below hb);have HW1:=Lh (bthen HW.out hb);have lz:w.heap.size+1<w1.heap.size:=by have:=hb.size;simp at this;omega
 clear HBR HW hb B1 B2;have hA:=Lh (C3.new w1 (.int .i64 q.x) (.int .i64 q.y) (.int .i64 q.z) 23);have hR:=Lh (D2.alloc (.cells #[.int .i64 q.x, .int .i64 q.y, .int .i64 q.z] 23));have hW:=Lh (HW1.alloc (by omega) (.cells #[.int .i64 q.x, .int .i64 q.y, .int .i64 q.z] 23));clear D2 HW1;obtain⟨T,hT⟩:=nm_ w1.heap.size;go_wp2_with fail;rw[hT]at hA lz;generalize w1.alloc (.cells #[.int .i64 q.x, .int .i64 q.y, .int .i64 q.z] 23)=w2 at hA hR hW⊢;clear hT
 go_loopg [] (size3 q) (fun kq wr=>∃r:P3,Hid (kq=size3 r)∧Hid (halve3 r=halve3 q)∧Hid (in3 4398046511104 r)∧Hid (C3 wr T (.int .i64 r.x) (.int .i64 r.y) (.int .i64 r.z))∧Hid (C3 wr (w.heap.size+1) (.int .i64 0) (.int .i64 0) (.int .i64 0))∧Hid (Below w.heap.size w wr))
 case atStart=>exact⟨q,Lh rfl,Lh rfl,HIN,hA,hR,hW⟩
 case round=>
  clear hA hR hW HIN;obtain⟨r,h1,h2,h3,h5,h6,h7⟩:=hrel;obtain⟨hx1,hx2,hy1,hy2,hz1,hz2⟩:=h3.out;obtain⟨rx,ry,rz⟩:=r;dsimp only at h5 hx1 hx2 hy1 hy2 hz1 hz2;have sx:=Lh (size5_calls rx (by omega) (by omega));have sy:=Lh (size5_calls ry (by omega) (by omega));have sz:=Lh (size5_calls rz (by omega) (by omega));obtain⟨c10,c11,c12,f10,f11,f12⟩:=id h5.out;by_cases tx:1048576<rx.natAbs
  ·skip
   have dx:decide ((1048576:Int)<(rx.natAbs:Int))=true:=by simp;omega
   have hf:=far_of ⟨rx,ry,rz⟩ (.inl tx);have e2:=Lh (show size3 (div3 2 ⟨rx,ry,rz⟩)<gk by rw[h1.out];exact div2_lt _ hf);have e3:=Lh (div3_in 2 4398046511104 _ h3.out);have e1:=Lh ((show halve3 (div3 2 ⟨rx,ry,rz⟩)=halve3 ⟨rx,ry,rz⟩ by rw[halve3.eq_1 ⟨rx,ry,rz⟩,dif_pos hf]).trans h2.out);have td1:=iw_tdiv rx 2 (by omega) (by omega);have td2:=iw_tdiv ry 2 (by omega) (by omega);have td3:=iw_tdiv rz 2 (by omega) (by omega);clear hf tx;go_wp2_with fail;refine(sx.out _).mono ?_;rintro e w5 ⟨rfl,rfl⟩;go_wp2
   go_roundg (size3 (div3 2 ⟨rx,ry,rz⟩))
   case measure=>exact e2.out
   case rel=>exact⟨div3 2 ⟨rx,ry,rz⟩,Lh rfl,e1,e3,h5.out.set _ _ _,h6.out.other (by omega) _ _ _,below_set3 h7.out (by omega) _ _ _⟩
  ·by_cases ty:1048576<ry.natAbs
   ·skip
    have dx:decide ((1048576:Int)<(rx.natAbs:Int))=false:=by simp;omega
    have dy:decide ((1048576:Int)<(ry.natAbs:Int))=true:=by simp;omega
    have hf:=far_of ⟨rx,ry,rz⟩ (.inr (.inl ty));have e2:=Lh (show size3 (div3 2 ⟨rx,ry,rz⟩)<gk by rw[h1.out];exact div2_lt _ hf);have e3:=Lh (div3_in 2 4398046511104 _ h3.out);have e1:=Lh ((show halve3 (div3 2 ⟨rx,ry,rz⟩)=halve3 ⟨rx,ry,rz⟩ by rw[halve3.eq_1 ⟨rx,ry,rz⟩,dif_pos hf]).trans h2.out);have td1:=iw_tdiv rx 2 (by omega) (by omega);have td2:=iw_tdiv ry 2 (by omega) (by omega);have td3:=iw_tdiv rz 2 (by omega) (by omega);clear hf tx ty;go_wp2_with fail;refine(sx.out _).mono ?_;rintro e w5 ⟨rfl,rfl⟩;go_wp2_with fail;refine(sy.out _).mono ?_;rintro e w5 ⟨rfl,rfl⟩;go_wp2
    go_roundg (size3 (div3 2 ⟨rx,ry,rz⟩))
    case measure=>exact e2.out
    case rel=>exact⟨div3 2 ⟨rx,ry,rz⟩,Lh rfl,e1,e3,h5.out.set _ _ _,h6.out.other (by omega) _ _ _,below_set3 h7.out (by omega) _ _ _⟩
   ·by_cases tz:1048576<rz.natAbs
    ·skip
     have dx:decide ((1048576:Int)<(rx.natAbs:Int))=false:=by simp;omega
     have dy:decide ((1048576:Int)<(ry.natAbs:Int))=false:=by simp;omega
     have dz:decide ((1048576:Int)<(rz.natAbs:Int))=true:=by simp;omega
     have hf:=far_of ⟨rx,ry,rz⟩ (.inr (.inr tz));have e2:=Lh (show size3 (div3 2 ⟨rx,ry,rz⟩)<gk by rw[h1.out];exact div2_lt _ hf);have e3:=Lh (div3_in 2 4398046511104 _ h3.out);have e1:=Lh ((show halve3 (div3 2 ⟨rx,ry,rz⟩)=halve3 ⟨rx,ry,rz⟩ by rw[halve3.eq_1 ⟨rx,ry,rz⟩,dif_pos hf]).trans h2.out);have td1:=iw_tdiv rx 2 (by omega) (by omega);have td2:=iw_tdiv ry 2 (by omega) (by omega);have td3:=iw_tdiv rz 2 (by omega) (by omega);clear hf tx ty tz;go_wp2_with fail;refine(sx.out _).mono ?_;rintro e w5 ⟨rfl,rfl⟩;go_wp2_with fail;refine(sy.out _).mono ?_;rintro e w5 ⟨rfl,rfl⟩;go_wp2_with fail;refine(sz.out _).mono ?_;rintro e w5 ⟨rfl,rfl⟩;go_wp2
     go_roundg (size3 (div3 2 ⟨rx,ry,rz⟩))
     case measure=>exact e2.out
     case rel=>exact⟨div3 2 ⟨rx,ry,rz⟩,Lh rfl,e1,e3,h5.out.set _ _ _,h6.out.other (by omega) _ _ _,below_set3 h7.out (by omega) _ _ _⟩
    ·skip
     have dx:decide ((1048576:Int)<(rx.natAbs:Int))=false:=by simp;omega
     have dy:decide ((1048576:Int)<(ry.natAbs:Int))=false:=by simp;omega
     have dz:decide ((1048576:Int)<(rz.natAbs:Int))=false:=by simp;omega
     have hf:=far_not ⟨rx,ry,rz⟩ (by simp;omega) (by simp;omega) (by simp;omega);have E1:=Lh (show halve3 q=⟨rx,ry,rz⟩ by rw[←h2.out,halve3,dif_neg (by rw[hf];simp)]);have HBR:=Lh (fun W=>rbare_calls ⟨rx,ry,rz⟩ W h3.out);obtain⟨u,hu⟩:=nm_ (bare3 ⟨rx,ry,rz⟩);rw[hu]at HBR;have HU:=Lh hu;clear hf tx ty tz hu;go_wp2_with fail;refine(sx.out _).mono ?_;rintro e w5 ⟨rfl,rfl⟩;go_wp2_with fail;refine(sy.out _).mono ?_;rintro e w5 ⟨rfl,rfl⟩;go_wp2_with fail;refine(sz.out _).mono ?_;rintro e w5 ⟨rfl,rfl⟩;go_wp2_with fail;refine(HBR.out _).mono ?_;rintro e w6 ⟨rfl,hb⟩;obtain⟨c0,c1,c2,f0,f1,f2⟩:=h6.below hb;have H7:=Lh (bthen h7.out hb);clear hb c10 c11 c12 f10 f11 f12;go_wp2;rw[HSE.out,E1.out,HU.out];exact bodyPost_ret (v:=aP u) (by simp[results,Tryz.results84,go_sem,c0,c1,c2]) rfl ⟨rfl,below_set3 H7.out (by omega) _ _ _⟩
def neg3 (p:P3):P3:=⟨-p.x,-p.y,-p.z⟩
def hasB (both:Bool)(p q:P3):Bool:=decide (q=p) || (both&&decide (q=neg3 p))
def hasF (l:List P3)(p:P3)(both:Bool):Bool:=l.any (hasB both p)
theorem any_take_snoc {α:Type}(l:List α)(f:α→Bool)(k:Nat)(hk:k<l.length):(l.take (k+1)).any f=((l.take k).any f || f l[k]):=by
 rw[List.take_succ_eq_append_getElem hk,List.any_append];simp
theorem any_of_get {α:Type}(l:List α)(f:α→Bool)(k:Nat)(hk:k<l.length)(h:f l[k]=true):l.any f=true:=List.any_eq_true.2 ⟨_,List.getElem_mem hk,h⟩
theorem has_calls (l:List P3)(A:Option Addr)(c:Nat)(p:P3)(both:Bool)(w:World)(hA:Rd w A l)(hl:l.length≤100000)(hp:in3 1048576 p)(r:Bool)(hr:hasF l p both=r):
  Calls Tryz.prog 116 #[.slice A l.length c,aP p, .bool both] w fun e w'=>e= .returned (.bool r)∧Below w.heap.size w w':=by
 have HA:=Lh hA;have HR:=Lh hr;obtain⟨N,hN⟩:=nm_ l.length;have HN:=Lh hN;rw[hN]at hl⊢;clear hA hN hr;obtain⟨px,py,pz⟩:=p;obtain⟨i1,i2,i3,i4,i5,i6⟩:=hp;simp only at i1 i2 i3 i4 i5 i6;have m1:IntKind.i64.wrap (-px)= -px:=iw_id _ (by omega) (by omega);have m2:IntKind.i64.wrap (-py)= -py:=iw_id _ (by omega) (by omega);have m3:IntKind.i64.wrap (-pz)= -pz:=iw_id _ (by omega) (by omega);have M:=Lh (And.intro m1 (And.intro m2 m3));clear m1 m2 m3;go_enter Tryz.func116,Tryz.ntmps116;go_wp2;obtain⟨w1,hw1⟩:=nm_ (w.alloc (.cells #[.int .i64 px, .int .i64 py, .int .i64 pz] 23));have P1:Hid (C3 w1 w.heap.size (.int .i64 px) (.int .i64 py) (.int .i64 pz)):=Lh (by rw[←hw1];exact C3.new w _ _ _ _);have HW1:=Lh (show Below w.heap.size w w1 by rw[←hw1];exact(Below.refl _ w).alloc (Nat.le_refl _) _);rw[hw1];clear hw1;go_loopw [7] (fun v7 wr=>∃k n:Nat,k≤N∧v7= .int .i64 k∧Hid ((l.take k).any (hasB both ⟨px,py,pz⟩)=false)∧Hid (wr=w1.drewN n)) (fun i _=>N-(intOf i).toNat)
 case atStart=>exact⟨0,0,by omega,rfl,Lh rfl,Lh rfl⟩
 case round=>
  obtain⟨k,n,hk,rfl,hO,hwr⟩:=hrel;have hwr':=hwr.out;subst hwr';by_cases hlt:k<N
  ·have hkl:k<l.length:=by rw[HN.out];exact hlt
   obtain⟨b,o,rfl,lb,e0,e1,e2⟩:=(HA.below HW1.out).get k hkl;have hS:=any_take_snoc l (hasB both ⟨px,py,pz⟩) k hkl;have hG:=any_of_get l (hasB both ⟨px,py,pz⟩) k hkl;rw[hO.out,Bool.false_or]at hS;obtain⟨q,hq⟩:=nm_ (l[k]);rw[hq]at e0 e1 e2 hS hG;obtain⟨qx,qy,qz⟩:=q;simp only at e0 e1 e2;have hS:=Lh hS;have hG:=Lh hG;have hki:(k:Int)<(N:Int):=by omega
   obtain⟨c0,c1,c2,_,_,_⟩:=P1.out;clear hq;by_cases t1:(⟨qx,qy,qz⟩:P3)=⟨px,py,pz⟩
   ·have he:=eqP_yes t1;have E:=Lh (show r=true by rw[←HR.out];exact hG.out (by unfold hasB;rw[decide_eq_true t1];rfl));clear t1;go_wp2
    go_quiet (fail)
    go_wp2
    go_ret
    exact⟨by rw[E.out];rfl,pw_below_drewN (pw_below_drewN HW1.out _) _⟩
   ·have he:=eqP_no t1;cases both
    ·have E:=Lh (show(l.take (k+1)).any (hasB false ⟨px,py,pz⟩)=false by rw[hS.out];unfold hasB;rw[decide_eq_false t1];rfl);clear t1;go_wp2
     go_quiet (fail)
     go_wp2
     go_roundw
     case rel=>exact⟨k+1,_,by omega,by go_num,E,by first|exact Lh rfl|exact trivial⟩
     case measure=>simp[intOf];omega
    ·obtain⟨m1,m2,m3⟩:=M.out;by_cases t2:(⟨qx,qy,qz⟩:P3)=⟨-px,-py,-pz⟩
     ·have he2:=eqP_yes t2;have E:=Lh (show r=true by rw[←HR.out];exact hG.out (by unfold hasB;rw[decide_eq_false t1,show decide ((⟨qx,qy,qz⟩:P3)=neg3 ⟨px,py,pz⟩)=true from decide_eq_true t2];rfl));clear t1 t2;go_wp2
      go_quiet (fail)
      go_wp2
      go_ret
      exact⟨by rw[E.out];rfl,pw_below_drewN (pw_below_drewN HW1.out _) _⟩
     ·have he2:=eqP_no t2;have E:=Lh (show(l.take (k+1)).any (hasB true ⟨px,py,pz⟩)=false by rw[hS.out];unfold hasB;rw[decide_eq_false t1,show decide ((⟨qx,qy,qz⟩:P3)=neg3 ⟨px,py,pz⟩)=false from decide_eq_false t2];rfl);clear t1 t2;go_wp2
      go_quiet (fail)
      go_wp2
      go_roundw
      case rel=>exact⟨k+1,_,by omega,by go_num,E,by first|exact Lh rfl|exact trivial⟩
      case measure=>simp[intOf];omega
  ·obtain rfl:k=N:=by omega
   have E:=Lh (show r=false by rw[←HR.out];have:=hO.out;rw[List.take_of_length_le (by rw[HN.out];omega)]at this;exact this);go_wp2
   go_ret
   exact⟨by rw[E.out];rfl,pw_below_drewN HW1.out _⟩
theorem within_calls (p:P3)(a b:Int)(h:a≤p.x∧p.x≤b∧a≤p.y∧p.y≤b∧a≤p.z∧p.z≤b)(w:World):
  Calls Tryz.prog 147 #[aP p, .int .i64 a, .int .i64 b] w fun e w'=>e= .returned (.bool true)∧Below w.heap.size w w':=by
 obtain⟨x,y,z⟩:=p;obtain⟨h1,h2,h3,h4,h5,h6⟩:=h;have ix:=Lh (in5_calls x a b true (decide_eq_true ⟨h1,h2⟩));have iy:=Lh (in5_calls y a b true (decide_eq_true ⟨h3,h4⟩));have iz:=Lh (in5_calls z a b true (decide_eq_true ⟨h5,h6⟩));clear h1 h2 h3 h4 h5 h6;go_enter Tryz.func147,Tryz.ntmps147;go_wp2_with fail;refine(ix.out _).mono ?_;rintro e w1 ⟨rfl,rfl⟩;go_wp2_with fail;refine(iy.out _).mono ?_;rintro e w1 ⟨rfl,rfl⟩;go_wp2_with fail;refine(iz.out _).mono ?_;rintro e w1 ⟨rfl,rfl⟩;go_wp2
 go_ret
 exact⟨rfl,(Below.refl _ w).alloc (Nat.le_refl _) _⟩
structure Shp where
 kind:Int
 radius:Int
 half:P3
 pts:List P3
abbrev cS (k r:Int)(h:P3)(A:Option Addr)(n c:Nat):Array Value:=#[.int .i64 k, .int .i64 r, .int .i64 h.x, .int .i64 h.y, .int .i64 h.z, .slice A n c]
theorem form_1 (r:Int)(h:P3)(A:Option Addr)(n c:Nat)(hr0:1≤r)(hr1:r≤16384)(w:World):
  Calls Tryz.prog 112 #[.agg (cS 1 r h A n c)] w fun e w'=>e= .returned (.bool true)∧Below w.heap.size w w':=by
 have ir:=Lh (in5_calls r 1 16384 true (decide_eq_true ⟨hr0,hr1⟩));clear hr0 hr1;go_enter Tryz.func112,Tryz.ntmps112;go_wp2_with fail;refine(ir.out _).mono ?_;rintro e w1 ⟨rfl,rfl⟩;go_wp2
 go_ret
 exact⟨rfl,(Below.refl _ w).alloc (Nat.le_refl _) _⟩
theorem form_2 (r:Int)(h:P3)(A:Option Addr)(n c:Nat)(hr0:1≤r)(hr1:r≤16384)(hh0:1≤h.x)(hh1:h.x≤65536)(w:World):
  Calls Tryz.prog 112 #[.agg (cS 2 r h A n c)] w fun e w'=>e= .returned (.bool true)∧Below w.heap.size w w':=by
 have ir:=Lh (in5_calls r 1 16384 true (decide_eq_true ⟨hr0,hr1⟩));have ih:=Lh (in5_calls h.x 1 65536 true (decide_eq_true ⟨hh0,hh1⟩));clear hr0 hr1 hh0 hh1;go_enter Tryz.func112,Tryz.ntmps112;go_wp2_with fail;refine(ir.out _).mono ?_;rintro e w1 ⟨rfl,rfl⟩;go_wp2_with fail;refine(ih.out _).mono ?_;rintro e w1 ⟨rfl,rfl⟩;go_wp2
 go_ret
 exact⟨rfl,(Below.refl _ w).alloc (Nat.le_refl _) _⟩
theorem form_3 (r:Int)(h:P3)(A:Option Addr)(n c:Nat)(hr0:0≤r)(hr1:r≤16384)(hh:1≤h.x∧h.x≤65536∧1≤h.y∧h.y≤65536∧1≤h.z∧h.z≤65536)(w:World):
  Calls Tryz.prog 112 #[.agg (cS 3 r h A n c)] w fun e w'=>e= .returned (.bool true)∧Below w.heap.size w w':=by
 have ir:=Lh (in5_calls r 0 16384 true (decide_eq_true ⟨hr0,hr1⟩));have ih:=Lh (within_calls h 1 65536 hh);clear hr0 hr1 hh;have P:=heap_alloc_new w (.cells (cS 3 r h A n c) 74);have PB:=(Below.refl w.heap.size w).alloc (Nat.le_refl _) (.cells (cS 3 r h A n c) 74);have P:=Lh P;have PB:=Lh PB;go_enter Tryz.func112,Tryz.ntmps112;go_wp2_with fail;refine(ih.out _).mono ?_;rintro e w1 ⟨rfl,hb⟩;have P1:=(hb.block _ (blk_lt P.out)).trans P.out;have PB1:=Lh (bthen PB.out hb);have c1:w1.cell? ⟨w.heap.size,1,none⟩=some (.int .i64 r):=(blk_cell P1 1).trans rfl;clear hb P1;go_wp2_with fail;refine(ir.out _).mono ?_;rintro e w2 ⟨rfl,rfl⟩;go_wp2
 go_ret
 exact⟨rfl,PB1.out⟩
theorem nodup_take {l:List P3}{i:Nat}(hi:i<l.length)(h:(l.take i).Nodup)(hn:∀j,(hj:j<i)→l[j]'(by omega)≠l[i]):(l.take (i+1)).Nodup:=by
 rw[List.take_succ_eq_append_getElem hi];refine List.nodup_append.2 ⟨h,by simp,?_⟩;intro x hx y hy;simp only[List.mem_singleton]at hy;subst hy;obtain⟨j,hj,rfl⟩:=List.mem_iff_getElem.1 hx;rw[List.length_take]at hj;rw[List.getElem_take];exact hn j (by omega)
theorem dup_not {l:List P3}{i j:Nat}(hi:i<l.length)(hj:j<i)(h:l[j]'(by omega)=l[i]):¬l.Nodup:=by
 intro hn;rw[List.nodup_iff_pairwise_ne,List.pairwise_iff_getElem]at hn;exact hn j i (by omega) hi hj h
def formB (l:List P3):Bool:=decide (4≤l.length)&&decide l.Nodup
theorem form_4 (r:Int)(h:P3)(l:List P3)(A:Option Addr)(c:Nat)(hr0:0≤r)(hr1:r≤16384)(hl:l.length≤12)(hp:∀p∈l,in3 65536 p)(w:World)(hA:RdB w A l)(bb:Bool)(hb:formB l=bb):
  Calls Tryz.prog 112 #[.agg (cS 4 r h A l.length c)] w fun e w'=>e= .returned (.bool bb)∧Below w.heap.size w w':=by
 have ir:=Lh (in5_calls r 0 16384 true (decide_eq_true ⟨hr0,hr1⟩));have il:=Lh (in5_calls (l.length:Int) 4 12 (decide (4≤l.length)) (by rw[decide_eq_decide];omega));have HA:=Lh hA;have HB:=Lh hb;have HP:=Lh (fun p h=>within_calls p (-65536) 65536 (hp p h));have HND:=Lh (fun(i:Nat) (hi:i<l.length)=> @nodup_take l i hi);have HDN:=Lh (fun(i j:Nat) (hi:i<l.length) (hj:j<i)=> @dup_not l i j hi hj);have HF4:=Lh (show formB l=(decide (4≤l.length)&&decide l.Nodup) from rfl);obtain⟨N,hN⟩:=nm_ l.length;have HN:=Lh hN;rw[hN]at hl il HF4⊢;clear hA hb hp hN hr0 hr1;have P:=Lh (heap_alloc_new w (.cells (cS 4 r h A N c) 74));have PB:=Lh ((Below.refl w.heap.size w).alloc (Nat.le_refl _) (.cells (cS 4 r h A N c) 74));obtain⟨hx,hy,hz⟩:=h;go_enter Tryz.func112,Tryz.ntmps112;go_wp2_with fail;refine(ir.out _).mono ?_;rintro e w1 ⟨rfl,rfl⟩;go_wp2_with fail;refine(il.out _).mono ?_;rintro e w1 ⟨rfl,rfl⟩;by_cases h4:4≤N
 ·rw[decide_eq_true h4];obtain⟨w2,hw2⟩:=nm_ (w.alloc (.cells (cS 4 r ⟨hx,hy,hz⟩ A N c) 74));rw[hw2]at P PB;have z2:w2.heap.size=w.heap.size+1:=by rw[←hw2];simp
  have Z2:=Lh z2;have c5:w2.cell? ⟨w.heap.size,5,none⟩=some (.slice A N c):=(blk_cell P.out 5).trans rfl;go_wp2;clear z2
  (try rw[hw2])
  clear hw2;go_loopw [4,5,6] (fun v4 v5 v6 wr=>∃i:Nat,i≤N∧v4= .int .i64 i∧Hid ((l.take i).Nodup)∧Hid (Below w2.heap.size w2 wr)) (fun i _ _ _=>N-(intOf i).toNat)
  case atStart=>exact⟨0,by omega,rfl,Lh (by simp),Lh (Below.refl _ _)⟩
  case round=>
   obtain⟨i,hi,rfl,hnd,hB⟩:=hrel;obtain⟨wo,hwo⟩:∃wo:World,wo=wr:=⟨_,rfl⟩;subst hwo;have z2:=Z2.out;have c5':wo.cell? ⟨w.heap.size,5,none⟩=some (.slice A N c):=(hB.cell (p:=⟨w.heap.size,5,none⟩) (by show w.heap.size<_;omega)).trans c5;clear z2;by_cases hlt:i<N
   ·have hkl:i<l.length:=by rw[HN.out];exact hlt
    have hBw:Below w.heap.size w wo:=bthen PB.out hB.out;obtain⟨b,o,rfl,lb,e0,e1,e2⟩:=(HA.out.1.below hBw).get i hkl;have hwi:=Lh (HP.out _ (List.getElem_mem hkl));have hND:=Lh (HND.out i hkl hnd.out);have hDN:=Lh (fun j hj=>HDN.out i j hkl hj);obtain⟨p,hpe⟩:=nm_ (l[i]);rw[hpe]at e0 e1 e2 hwi hND hDN
    have HRD:Hid (∀W,Below w.heap.size w W→∀j,(hj:j<l.length)→W.cell? ⟨b,o+j*3,none⟩=some (.int .i64 l[j].x)∧W.cell? ⟨b,o+j*3+1,none⟩=some (.int .i64 l[j].y)∧W.cell? ⟨b,o+j*3+2,none⟩=some (.int .i64 l[j].z)):=Lh (fun W hW j hj=>by
     obtain⟨b',o',e',_,h0,h1,h2⟩:=(HA.out.1.below hW).get j hj
     simp only[Option.some.injEq,Addr.mk.injEq,and_true]at e'
     obtain⟨rfl,rfl⟩:=e'
     exact⟨h0,h1,h2⟩)
    have hpe:=Lh hpe;obtain⟨px,py,pz⟩:=p;simp only at e0 e1 e2;have HBw:=Lh hBw;clear hBw;go_wp2_with fail;refine(hwi.out _).mono ?_;rintro e w3 ⟨rfl,hb⟩;have hB3:=Lh (bthen hB.out hb);have hBw3:=Lh (bthen HBw.out hb);have hlt3:w.heap.size<wo.heap.size:=World.block_lt_of_cell? wo _ c5';have c53:=(hb.cell (p:=⟨w.heap.size,5,none⟩) hlt3).trans c5';obtain⟨e0,e1,e2⟩:=HRD.out _ hBw3.out i hkl;rw[hpe.out]at e0 e1 e2;simp only at e0 e1 e2;clear hb hB HBw hlt3 c5' lb hwi;have lbw:b<w.heap.size:=HA.out.2 (fun e0=>by rw[e0]at hkl;simp at hkl) _ rfl;go_wp2;go_loopw [6] (fun v6 wr=>∃j n:Nat,j≤i∧v6= .int .i64 j∧Hid (∀k,(hk:k<j)→(hk2:k<l.length)→l[k]≠⟨px,py,pz⟩)∧Hid (wr=w3.drewN n)) (fun j _=>i-(intOf j).toNat)
    case atStart=>exact⟨0,0,by omega,rfl,Lh (fun k hk=>by omega),Lh rfl⟩
    case round=>
     obtain⟨j,n,hj,rfl,hno,hwr⟩:=hrel;have hwr':=hwr.out;subst hwr';by_cases hji:j<i
     ·have hjl:j<l.length:=by omega
      obtain⟨g0,g1,g2⟩:=HRD.out _ hBw3.out j hjl;have hD2:=Lh (hDN.out j hji);obtain⟨q,hq⟩:=nm_ (l[j]);rw[hq]at g0 g1 g2 hD2;have hq:=Lh hq;obtain⟨qx,qy,qz⟩:=q;simp only at g0 g1 g2;have hji1:(j:Int)<(i:Int):=by omega
      have hjN:(j:Int)<(N:Int):=by omega
      have hiN:(i:Int)<(N:Int):=by omega
      by_cases t1:(⟨qx,qy,qz⟩:P3)=⟨px,py,pz⟩
      ·have he:=eqP_yes t1;have hdup:=hD2.out t1;have E:=Lh (show false=bb from by rw[←HB.out,HF4.out,decide_eq_false hdup,Bool.and_false]);clear t1 hdup;go_wp2
       go_quiet (fail)
       go_wp2
       go_ret
       exact⟨by rw[←E.out];rfl,pw_below_drewN (pw_below_drewN hBw3.out _) _⟩
      ·have he:=eqP_no t1
       have hno2:=Lh (fun k (hk:k<j+1) (hk2:k<l.length)=>show l[k]≠⟨px,py,pz⟩ by
        by_cases e:k<j
        ·exact hno.out k e hk2
        ·obtain rfl:k=j:=by omega
         rw[hq.out];exact t1)
       clear t1;go_wp2
       go_quiet (fail)
       go_wp2
       go_roundw
       case rel=>exact⟨j+1,_,by omega,by go_num,hno2,by first|exact Lh rfl|exact trivial⟩
       case measure=>simp[intOf];omega
     ·obtain rfl:j=i:=by omega
      have hN2:=Lh (hND.out (fun k hk=>hno.out k hk (by omega)));go_wp2
      go_roundw
      case rel=>exact⟨j+1,by omega,by go_num,hN2,Lh (pw_below_drewN hB3.out _)⟩
      case measure=>simp[intOf];omega
   ·obtain rfl:i=N:=by omega
    have hBw:=Lh (show Below w.heap.size w wo from bthen PB.out hB.out);have hfull:l.Nodup:=by have:=hnd.out;rwa [List.take_of_length_le (by rw[HN.out];omega)]at this
    have E:=Lh (show true=bb from by rw[←HB.out,HF4.out,decide_eq_true h4,decide_eq_true hfull];rfl);go_wp2
    go_ret
    exact⟨by rw[←E.out];rfl,hBw.out⟩
 ·rw[decide_eq_false h4];have E:=Lh (show false=bb from by rw[←HB.out,HF4.out,decide_eq_false h4];rfl);go_wp2
  go_ret
  exact⟨by rw[←E.out];rfl,PB.out⟩
end Go.Proofs.YtckdhahceelckaaGreat.G
