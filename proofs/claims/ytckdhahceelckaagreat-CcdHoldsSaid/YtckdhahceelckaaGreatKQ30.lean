/- What the laws of this claim lean on: contracts of functions and plain lemmas; no condition of its own (part 30: XC3, XC1, XC6). -/
import Derived.Test.YtckdhahceelckaaGreatKQ24
set_option maxHeartbeats 16000000
set_option maxRecDepth 100000
set_option linter.unusedVariables false
set_option linter.unusedSimpArgs false
namespace Go.Proofs.YtckdhahceelckaaGreat.G
open Go.RowKit Go.Proofs.YtckdhahceelckaaGreatW.PrintWords Go.Proofs.YtckdhahceelckaaGreatW.PrintLast Go.Proofs.YtckdhahceelckaaGreatW.PrintMore
theorem maskN (a:Nat)(ha:a<18446744073709551616):bits .and .u64 (a:Int) 4294967295=((a%4294967296:Nat):Int):=by
 have h:=bits_and_u64_nat a 4294967295 ha (by omega);have e:a&&& 4294967295=a%4294967296:=Nat.and_two_pow_sub_one_eq_mod a 32;rw[e]at h;exact h
theorem divN (a:Nat):(a:Int) / 4294967296=((a / 4294967296:Nat):Int):=by omega
theorem mulN (a b:Nat):(a:Int)*(b:Int)=((a*b:Nat):Int):=(Int.natCast_mul a b).symm
theorem addN (a b:Nat):(a:Int)+(b:Int)=((a+b:Nat):Int):=(Int.natCast_add a b).symm
theorem wrapN (a:Nat)(ha:a<18446744073709551616):IntKind.u64.wrap (a:Int)=(a:Int):=by rw[IntKind.wrap_u64];omega
theorem wrapM (a:Nat):IntKind.u64.wrap (a:Int)=((a%18446744073709551616:Nat):Int):=by rw[IntKind.wrap_u64];omega
theorem mul64_calls (x y:Nat)(hx:x<18446744073709551616)(hy:y<18446744073709551616)(w:World):
  Calls Tryz.prog 140 #[.int .u64 x, .int .u64 y] w fun e w'=>e= .returned (.tuple #[.int .u64 ((x*y / 18446744073709551616:Nat):Int), .int .u64 ((x*y%18446744073709551616:Nat):Int)])∧w'=w:=by
 obtain⟨bd,bt,bw,hhi⟩:=Lib.mul64_hi x y hx hy;have ba:=Lib.half_mul_le (a:=x / 4294967296) (b:=y / 4294967296) (by omega) (by omega);have bb:=Lib.half_mul_le (a:=x / 4294967296) (b:=y%4294967296) (by omega) (by omega);have bc:=Lib.half_mul_le (a:=x%4294967296) (b:=y / 4294967296) (by omega) (by omega);have ba':x / 4294967296*(y / 4294967296)<18446744073709551616:=by omega
 have bb':x / 4294967296*(y%4294967296)<18446744073709551616:=by omega
 have bc':x%4294967296*(y / 4294967296)<18446744073709551616:=by omega
 have bh1:x / 4294967296*(y / 4294967296)+(x / 4294967296*(y%4294967296)+x%4294967296*(y%4294967296) / 4294967296) / 4294967296<18446744073709551616:=by omega
 have bh:x / 4294967296*(y / 4294967296)+(x / 4294967296*(y%4294967296)+x%4294967296*(y%4294967296) / 4294967296) / 4294967296+((x / 4294967296*(y%4294967296)+x%4294967296*(y%4294967296) / 4294967296)%4294967296+x%4294967296*(y / 4294967296)) / 4294967296<18446744073709551616:=by omega
 go_enter Tryz.func140,Tryz.ntmps140;go_wp2;simp only[maskN x hx,maskN y hy,divN,mulN,addN,wrapN _ bd,wrapN _ bb',wrapN _ bt,maskN _ bt,wrapN _ bc',wrapN _ bw,wrapN _ ba',wrapN _ bh1,wrapN _ bh,wrapM (x*y)];rw[hhi];exact bodyPost_ret (v:= .tuple #[.int .u64 ((x*y / 18446744073709551616:Nat):Int), .int .u64 ((x*y%18446744073709551616:Nat):Int)]) (by simp[results,Tryz.results140,go_sem]) rfl ⟨rfl,rfl⟩
theorem sub64_run (x y b:Nat)(hb:b≤1)(w:World):(callFunc 141 #[.int .u64 x, .int .u64 y, .int .u64 b]).run Tryz.prog w= .ok (.value (.tuple #[.int .u64 (((x+18446744073709551616-y-b)%18446744073709551616:Nat):Int), .int .u64 ((if x<y+b then 1 else 0:Nat):Int)])) w:=by
 rw[run_callFunc_extern Tryz.func141 (by kernel_rfl) (by kernel_rfl) (by kernel_rfl) (e:=sub64Entry) (by kernel_rfl),run_sub64 x y b hb];rfl
/-- a number of 128 bits, of a small whole one -/
def hiW (n:Int):Int:=if n<0 then 18446744073709551615 else 0
def loW (n:Int):Int:=if n<0 then n+18446744073709551616 else n
abbrev aWd (n:Int):Value:= .agg #[.int .u64 (hiW n), .int .u64 (loW n)]
theorem bs2 {W:World}{g:Nat}{b0 b1:Value}{t:TypeId}(h:W.heap[g]?=some (.cells #[b0,b1] t (0,0)))(a0 a1:Value):
  ((W.setCell ⟨g,0,none⟩ a0).setCell ⟨g,1,none⟩ a1).heap[g]?=some (.cells #[a0,a1] t (0,0)):=by
 have h0:=blk_set h 0 a0;have h1:=blk_set h0 1 a1;simp only[List.setIfInBounds_toArray,List.set_cons_zero,List.set_cons_succ]at h1;exact h1
theorem bb2 {B:Nat}{A W:World}{g:Nat}(h:Below B A W)(hg:B≤g)(a0 a1:Value):Below B A ((W.setCell ⟨g,0,none⟩ a0).setCell ⟨g,1,none⟩ a1):=((h.setCell (p:=⟨g,0,none⟩) hg a0).setCell (p:=⟨g,1,none⟩) hg a1)
theorem RdI.of1 {w:World}{g:Nat}{x:Int}{t:TypeId}(h:w.heap[g]?=some (.cells #[.int .i64 x] t (0,0))):RdI w (some ⟨g,0,none⟩) [x]:=fun i p hp=>by
 match i,hp with
 |0,hp=>simp at hp;subst hp;exact⟨g,0,rfl,blk_lt h,(blk_cell h 0).trans rfl⟩
theorem times_n (u v:Nat)(a:Int)(h:IntKind.u64.wrap a=(u:Int))(ha: -4503599627370496≤a)(h0:a<0)(hv:v≤16):
  IntKind.u64.wrap (((u*v / 18446744073709551616:Nat):Int)-(v:Int))=hiW (a*v)∧((u*v%18446744073709551616:Nat):Int)=loW (a*v):=by
 rw[IntKind.wrap_u64]at h⊢;obtain⟨n,hn⟩:∃n:Nat,(n:Int)= -a:=⟨(-a).toNat,by omega⟩;have hu:u+n=18446744073709551616:=by omega
 obtain⟨P,hP⟩:=nm_ (n*v);obtain⟨U,hU⟩:=nm_ (u*v);have e:U+P=18446744073709551616*v:=by rw[←hP,←hU,←Nat.add_mul,hu]
 have eP:a*(v:Int)= -(P:Int):=by
  have:a= -(n:Int):=by omega
  rw[this,←hP,Int.natCast_mul,Int.neg_mul]
 have hPb:P≤4503599627370496*16:=by rw[←hP];exact Nat.mul_le_mul (by omega) hv
 have hP1:0<v→0<P:=fun h=>by rw[←hP];exact Nat.mul_pos (by omega) h
 rw[hU,eP];unfold hiW loW;split<;>omega
theorem times_p (u v:Nat)(a:Int)(h:IntKind.u64.wrap a=(u:Int))(ha:a≤4503599627370496)(h0:0≤a)(hv:v≤16):
  ((u*v / 18446744073709551616:Nat):Int)=hiW (a*v)∧((u*v%18446744073709551616:Nat):Int)=loW (a*v):=by
 rw[IntKind.wrap_u64]at h;have hu:(u:Int)=a:=by omega
 obtain⟨U,hU⟩:=nm_ (u*v);have eP:a*(v:Int)=(U:Int):=by rw[←hu,←hU,Int.natCast_mul]
 have hPb:U≤4503599627370496*16:=by rw[←hU];exact Nat.mul_le_mul (by omega) hv
 rw[hU,eP];unfold hiW loW;split<;>omega
theorem times_calls2 (a b:Int)(ha: -4503599627370496≤a∧a≤4503599627370496)(hb:0≤b∧b≤16)(w:World):
  Calls Tryz.prog 98 #[.int .i64 a, .int .i64 b] w fun e w'=>e= .returned (aWd (a*b))∧Below w.heap.size w w':=by
 obtain⟨u,hu⟩:∃u:Nat,IntKind.u64.wrap a=(u:Int):=⟨(IntKind.u64.wrap a).toNat,by rw[IntKind.wrap_u64];omega⟩;obtain⟨v,hv⟩:∃v:Nat,b=(v:Int):=⟨b.toNat,by omega⟩;subst hv;have hvw:IntKind.u64.wrap (v:Int)=(v:Int):=by rw[IntKind.wrap_u64];omega
 have db:decide ((v:Int)<0)=false:=decide_eq_false (by omega);have hub:u<18446744073709551616:=by rw[IntKind.wrap_u64]at hu;omega
 have HM:=Lh (fun W=>mul64_calls u v hub (by omega) W);have HN:=Lh (fun h0=>times_n u v a hu ha.1 h0 (by omega));have HP:=Lh (fun h0=>times_p u v a hu ha.2 h0 (by omega));obtain⟨h,hh⟩:∃h:Int,((u*v / 18446744073709551616:Nat):Int)=h:=⟨_,rfl⟩;obtain⟨l,hl⟩:∃h:Int,((u*v%18446744073709551616:Nat):Int)=h:=⟨_,rfl⟩;rw[hh,hl]at HM HN HP;clear hh hl ha hb hub;have r0:=blk_cell (heap_alloc_new w (.cells #[.int .u64 0, .int .u64 0] 138)) 0;have r1:=blk_cell (heap_alloc_new w (.cells #[.int .u64 0, .int .u64 0] 138)) 1;have f0:=blk_frozen (heap_alloc_new w (.cells #[.int .u64 0, .int .u64 0] 138)) 0;have f1:=blk_frozen (heap_alloc_new w (.cells #[.int .u64 0, .int .u64 0] 138)) 1;have hb:=(Below.refl _ w).alloc (Nat.le_refl _) (.cells #[.int .u64 0, .int .u64 0] 138);have HA:=Lh (heap_alloc_new w (.cells #[.int .u64 0, .int .u64 0] 138));go_enter Tryz.func98,Tryz.ntmps98;go_wp2_with fail;obtain⟨w1,hw1⟩:=nm_ (w.alloc (.cells #[.int .u64 0, .int .u64 0] 138));rw[hw1]at r0 r1 f0 f1 hb HA⊢;have HB:=Lh hb;clear hw1 hb;refine(HM.out w1).mono ?_;rintro e w2 ⟨rfl,rfl⟩;by_cases t:a<0
 ·have da:decide (a<0)=true:=decide_eq_true t;have HR:=Lh (HN.out t);clear HM HN HP t;go_wp2;obtain⟨x,hx⟩:=nm_ (IntKind.u64.wrap (h-(v:Int)));rw[hx]at HR⊢;have HA2:=bs2 HA.out (.int .u64 x) (.int .u64 l);have HB2:=bb2 HB.out (Nat.le_refl _) (.int .u64 x) (.int .u64 l);obtain⟨V,hV⟩:=nm_ (((w2.setCell ⟨w.heap.size,0,none⟩ (.int .u64 x)).setCell ⟨w.heap.size,1,none⟩ (.int .u64 l)));rw[hV]at HA2 HB2⊢;have t0:=blk_cell HA2 0;have t1:=blk_cell HA2 1;simp at t0 t1;exact bodyPost_ret (v:= .agg #[.int .u64 x, .int .u64 l]) (by simp[results,Tryz.results98,go_sem,t0,t1]) rfl ⟨by rw[HR.out.1,HR.out.2],HB2⟩
 ·have da:decide (a<0)=false:=decide_eq_false t;have HR:=Lh (HP.out (by omega));clear HM HN HP t;go_wp2;have HA2:=bs2 HA.out (.int .u64 h) (.int .u64 l);have HB2:=bb2 HB.out (Nat.le_refl _) (.int .u64 h) (.int .u64 l);obtain⟨V,hV⟩:=nm_ (((w2.setCell ⟨w.heap.size,0,none⟩ (.int .u64 h)).setCell ⟨w.heap.size,1,none⟩ (.int .u64 l)));rw[hV]at HA2 HB2⊢;have t0:=blk_cell HA2 0;have t1:=blk_cell HA2 1;simp at t0 t1;exact bodyPost_ret (v:= .agg #[.int .u64 h, .int .u64 l]) (by simp[results,Tryz.results98,go_sem,t0,t1]) rfl ⟨by rw[HR.out.1,HR.out.2],HB2⟩
theorem neg_hi (n:Int):(hiW n / 9223372036854775808 == 1)=decide (n<0):=by
 unfold hiW;by_cases t:n<0
 ·rw[if_pos t,decide_eq_true t];decide
 ·rw[if_neg t,decide_eq_false t];decide
theorem neg_calls (n:Int)(w:World):Calls Tryz.prog 100 #[aWd n] w fun e w'=>e= .returned (.bool (decide (n<0)))∧Below w.heap.size w w':=by
 have hb:=Lh ((Below.refl _ w).alloc (Nat.le_refl _) (.cells #[.int .u64 (hiW n), .int .u64 (loW n)] 138));have hn:=Lh (neg_hi n);go_enter Tryz.func100,Tryz.ntmps100;go_wp2;rw[hn.out]
 go_ret
 exact⟨rfl,hb.out⟩
/-- a number below nought, turned -/
theorem minus_calls2 (n:Int)(h0:n<0)(h1: -9223372036854775808≤n)(w:World):Calls Tryz.prog 99 #[aWd n] w fun e w'=>e= .returned (aWd (-n))∧Below w.heap.size w w':=by
 have e1:hiW n=((18446744073709551615:Nat):Int):=if_pos h0;obtain⟨m,hm⟩:∃m:Nat,loW n=(m:Int):=⟨(loW n).toNat,by unfold loW;rw[if_pos h0];omega⟩;have e2:=sub64_run 0 m 0 (by decide);have e3:=sub64_run 0 18446744073709551615 1 (by decide);have hm1:0<m∧m<18446744073709551616:=by unfold loW at hm;rw[if_pos h0]at hm;omega
 rw[if_pos (show 0<m+0 by omega)]at e2;rw[if_pos (by decide)]at e3;have e4:(((0+18446744073709551616-m-0)%18446744073709551616:Nat):Int)=loW (-n):=by
  unfold loW at hm⊢;rw[if_pos h0]at hm;rw[if_neg (by omega)];omega
 have e5:hiW (-n)=0:=if_neg (by omega);rw[e4]at e2;unfold aWd;rw[e1,hm];obtain⟨y,hy⟩:=nm_ (loW (-n));obtain⟨z,hz⟩:∃z:Int,((18446744073709551615:Nat):Int)=z:=⟨_,rfl⟩;obtain⟨u,hu⟩:∃z:Int,(m:Int)=z:=⟨_,rfl⟩;rw[hy,hu]at e2;rw[hz]at e3;rw[e5,hy,hu,hz];have e2:∀W,(callFunc 141 #[.int .u64 0, .int .u64 u, .int .u64 0]).run Tryz.prog W= .ok (.value (.tuple #[.int .u64 y, .int .u64 1])) W:=e2;have e3:∀W,(callFunc 141 #[.int .u64 0, .int .u64 z, .int .u64 1]).run Tryz.prog W= .ok (.value (.tuple #[.int .u64 0, .int .u64 1])) W:=e3;clear hy hz hu e4 e5 e1 hm hm1 h0 h1;go_enter Tryz.func99,Tryz.ntmps99;go_wp2_with(simp only[e2,e3]);exact bodyPost_ret (v:= .agg #[.int .u64 0, .int .u64 y]) (by simp[results,Tryz.results99,go_sem]) rfl ⟨rfl,((Below.refl _ w).alloc (Nat.le_refl _) _).alloc (by simp) _⟩
/-- bits.Div64 of a number of one word -/
theorem div64_calls (l c:Int)(hc:0<c)(h0:0≤l)(h1:l<18446744073709551616)(w:World):Calls Tryz.prog 101 #[.int .u64 0, .int .u64 l, .int .u64 c] w fun e w'=>e= .returned (.tuple #[.int .u64 (l / c), .int .u64 (l%c)])∧Below w.heap.size w w':=by
 have d1:(c == 0)=false:=by simp;omega
 have d2:decide (c≤0)=false:=decide_eq_false (by omega);have d3:¬c=0:=by omega
 have e1:=Lh (show IntKind.u64.wrap (l.tdiv c)=l / c by
  rw[Int.tdiv_eq_ediv_of_nonneg h0,IntKind.wrap_u64]
  have a:=Int.ediv_nonneg h0 (show 0≤c by omega)
  have b:=Int.ediv_le_self c h0
  omega)
 have e2:=Lh (show l.tmod c=l%c from Int.tmod_eq_emod_of_nonneg h0);clear h0 h1;go_enter Tryz.func101,Tryz.ntmps101;go_wp2_with fail
 go_quiet (fail)
 rw[e1.out,e2.out];go_wp2;exact bodyPost_ret (v:= .tuple #[.int .u64 (l / c), .int .u64 (l%c)]) (by simp[results,Tryz.results101,go_sem]) rfl ⟨rfl,pw_below_drewN (Below.refl _ w) _⟩
theorem great2_calls (l:List Int)(A:Option Addr)(c:Nat)(w:World)(h:RdI w A l)(hc:l.length≤c)(hm:l.length≤100)(hf:∀x∈l,fits x):
  Calls Tryz.prog 95 #[.slice A l.length c] w fun e w'=>e= .returned (.bool false)∧w'=w:=by
 have H:=Lh h;have HF:=Lh hf;clear h hf;go_enter Tryz.func95,Tryz.ntmps95;go_wp2
 go_loop [4,7] (fun v4 v7=>∃k:Nat,k≤l.length∧v7= .int .i64 k) (fun _ i=>l.length-(intOf i).toNat)
 case atStart=>exact⟨0,by omega,rfl⟩
 case round=>
  obtain⟨k,hk,rfl⟩:=hrel;by_cases hlt:k<l.length
  ·obtain⟨b,o,rfl,hb,hx⟩:=H.out.get k hlt;obtain⟨f1,f2⟩:=HF.out _ (List.getElem_mem hlt);obtain⟨x,hx'⟩:∃x,l[k]=x:=⟨_,rfl⟩;rw[hx']at hx f1 f2;clear hx';have d1:decide (x< -4611686018427387903)=false:=by simp;omega
   have d2:decide (4611686018427387903<x)=false:=by simp;omega
   go_wp2
   go_round
   case rel=>exact⟨k+1,by omega,by go_num⟩
   case measure=>simp[intOf];omega
  ·go_wp2
   go_ret
   exact⟨rfl,rfl⟩
theorem tell_calls (v:Value)(n:Int)(hn:fits n)(w:World):
  Calls Tryz.prog 97 #[v, .int .i64 n] w fun e w'=>e= .returned (.int .i64 n)∧Below w.heap.size w w':=by
 have HF:Hid (∀x∈[n],fits x):=Lh (by intro x hx;simp at hx;rw[hx];exact hn);clear hn;go_enter Tryz.func97,Tryz.ntmps97;go_wp2_with fail;refine(great2_calls [n] _ 1 _ (RdI.of1 (heap_alloc_new w _)) (Nat.le_refl _) (by simp) HF.out).mono ?_;rintro e w1 ⟨rfl,rfl⟩;go_wp2
 go_ret
 exact⟨rfl,(Below.refl _ w).alloc (Nat.le_refl _) _⟩
theorem fadd_calls (v:Value)(a b:Int)(ha:fits a)(hb:fits b)(hs:fits (a+b))(w:World):
  Calls Tryz.prog 49 #[v, .int .i64 a, .int .i64 b] w fun e w'=>e= .returned (.int .i64 (a+b))∧Below w.heap.size w w':=by
 have HF:Hid (∀x∈[a,b],fits x):=Lh (by intro x hx;simp at hx;rcases hx with rfl|rfl<;>assumption);have HS:=Lh hs;obtain⟨a1,a2⟩:=ha;obtain⟨b1,b2⟩:=hb;clear hs;go_enter Tryz.func49,Tryz.ntmps49;go_wp2_with fail;refine(great2_calls [a,b] _ 2 _ (RdI.of2 (heap_alloc_new w _)) (Nat.le_refl _) (by simp) HF.out).mono ?_;rintro e w1 ⟨rfl,rfl⟩;have bz:=Lh ((Below.refl _ w).alloc (Nat.le_refl _) (.cells #[.int .i64 a, .int .i64 b] 3));go_wp2_with fail;refine(tell_calls v (a+b) HS.out _).mono ?_;rintro e w1 ⟨rfl,hb⟩;go_wp2
 go_ret
 exact⟨rfl,bthen bz.out hb⟩
theorem fsub_calls (v:Value)(a b:Int)(ha:fits a)(hb:fits b)(hs:fits (a-b))(w:World):
  Calls Tryz.prog 51 #[v, .int .i64 a, .int .i64 b] w fun e w'=>e= .returned (.int .i64 (a-b))∧Below w.heap.size w w':=by
 have HF:Hid (∀x∈[a,b],fits x):=Lh (by intro x hx;simp at hx;rcases hx with rfl|rfl<;>assumption);have HS:=Lh hs;obtain⟨a1,a2⟩:=ha;obtain⟨b1,b2⟩:=hb;clear hs;go_enter Tryz.func51,Tryz.ntmps51;go_wp2_with fail;refine(great2_calls [a,b] _ 2 _ (RdI.of2 (heap_alloc_new w _)) (Nat.le_refl _) (by simp) HF.out).mono ?_;rintro e w1 ⟨rfl,rfl⟩;have bz:=Lh ((Below.refl _ w).alloc (Nat.le_refl _) (.cells #[.int .i64 a, .int .i64 b] 3));go_wp2_with fail;refine(tell_calls v (a-b) HS.out _).mono ?_;rintro e w1 ⟨rfl,hb⟩;go_wp2
 go_ret
 exact⟨rfl,bthen bz.out hb⟩
theorem hi_p {n:Int}(h:0≤n):hiW n=0∧loW n=n:=⟨if_neg (by omega),if_neg (by omega)⟩
theorem fratio_calls (v:Value)(a b:Int)(ha: -4503599627370496≤a∧a≤4503599627370496)(hb:0≤b∧b≤16)(w:World):
  Calls Tryz.prog 50 #[v, .int .i64 a, .int .i64 b, .int .i64 16] w fun e w'=>e= .returned (.int .i64 (a*b / 16))∧Below w.heap.size w w':=by
 have HF:Hid (∀x∈[a,b,16],fits x):=Lh (by intro x hx;simp at hx;unfold fits;rcases hx with rfl|rfl|rfl<;>omega);have HT:=Lh (fun W=>times_calls2 a b ha hb W)
 have HNB:Hid (-72057594037927936≤a*b∧a*b≤72057594037927936):=Lh (by
  have e1:=Int.mul_le_mul_of_nonneg_right ha.1 hb.1
  have e2:=Int.mul_le_mul_of_nonneg_right ha.2 hb.1
  omega)
 obtain⟨n,hn⟩:=nm_ (a*b);rw[hn]at HT HNB⊢;clear hn ha hb;have z0:=heap_alloc_new w (.cells #[.int .i64 a, .int .i64 b, .int .i64 16] 3);go_enter Tryz.func50,Tryz.ntmps50;go_wp2_with fail;refine(great2_calls [a,b,16] _ 3 _ (RdI.of3 z0) (Nat.le_refl _) (by simp) HF.out).mono ?_;rintro e w1 ⟨rfl,rfl⟩;have W:=Lh ((Below.refl _ w).alloc (Nat.le_refl _) (.cells #[.int .i64 a, .int .i64 b, .int .i64 16] 3));clear z0 HF;go_wp2_with fail;refine(HT.out _).mono ?_;rintro e w2 ⟨rfl,hb⟩;have W:=Lh (bthen W.out hb);have HN:=Lh (neg_calls n);have HS:Hid (w.heap.size≤w2.heap.size):=Lh W.size;clear HT hb;unfold aWd at*;have G:=heap_alloc_new w2 (.cells #[.int .u64 (hiW n), .int .u64 (loW n)] 138);have W3:=W.alloc HS.out (.cells #[.int .u64 (hiW n), .int .u64 (loW n)] 138)
 go_upto_region 6 with fail
 obtain⟨w3,hw3⟩:=nm_ (w2.alloc (.cells #[.int .u64 (hiW n), .int .u64 (loW n)] 138));obtain⟨g,hg⟩:=nm_ w2.heap.size;rw[hw3]at G W3⊢;rw[hg]at G HS⊢;clear W hw3 hg;have W:=Lh W3;have g0:=blk_cell G 0;have g1:=blk_cell G 1;have gl:=blk_lt G;have G:=Lh G;clear W3;go_wp2_with fail;refine(HN.out w3).mono ?_;rintro e w4 ⟨rfl,hb⟩;have G:=up_ hb G;have W:=Lh (bthen W.out hb);clear hb HN g0 g1 gl;by_cases t:n<0
 ·have dn:decide (n<0)=true:=decide_eq_true t;have HM:=Lh (fun W=>minus_calls2 n t (by have:=HNB.out;omega) W);unfold aWd at HM;rw[(hi_p (show 0≤ -n by omega)).1,(hi_p (show 0≤ -n by omega)).2]at HM;have HD:=Lh (fun W=>div64_calls (-n) 16 (by decide) (by omega) (by have:=HNB.out;omega) W);obtain⟨q,hq⟩:=nm_ (-n / 16);obtain⟨r,hr⟩:=nm_ (-n%16);rw[hq,hr]at HD;have HQ:Hid (0≤q∧q≤4503599627370496∧(0<r→n / 16= -(q+1))∧(¬0<r→n / 16= -q)):=Lh (by have:=HNB.out;omega);obtain⟨N,hN⟩:=nm_ (-n);rw[hN]at HM HD;rw[dn];clear hq hr hN t dn HNB;have g0:=blk_cell G.out 0;have g1:=blk_cell G.out 1;have gl:=blk_lt G.out;go_wp2_with fail;refine(HM.out w4).mono ?_;rintro e w5 ⟨rfl,hb⟩;have G:=up_ hb G;have W:=Lh (bthen W.out hb);clear hb HM g0 g1 gl;have g0:=blk_cell G.out 0;have g1:=blk_cell G.out 1;have f0:=blk_frozen G.out 0;have f1:=blk_frozen G.out 1;have gl:=blk_lt G.out;have G2:=bs2 G.out (.int .u64 0) (.int .u64 N);have W2:=bb2 W.out HS.out (.int .u64 0) (.int .u64 N);go_wp2_with fail;obtain⟨w6,hw6⟩:=nm_ (((w5.setCell ⟨g,0,none⟩ (.int .u64 0)).setCell ⟨g,1,none⟩ (.int .u64 N)));rw[hw6]at W2⊢;clear hw6 G2 G g0 g1 f0 f1 gl W;refine(HD.out w6).mono ?_;rintro e w7 ⟨rfl,hb⟩;have W:=Lh (bthen W2 hb);clear hb HD W2;obtain⟨q0,q1,q2,q3⟩:=HQ.out;by_cases tr:0<r
  ·have dr:decide (0<r)=true:=decide_eq_true tr;have dm:decide (4611686018427387903<q+1)=false:=decide_eq_false (by omega);have e1:IntKind.u64.wrap (q+1)=q+1:=by rw[IntKind.wrap_u64];omega
   have e2:IntKind.i64.wrap (q+1)=q+1:=iw_id _ (by omega) (by omega);have e3:IntKind.i64.wrap (-(q+1))= -(q+1):=iw_id _ (by omega) (by omega);have HR:=Lh (q2 tr);clear q0 q1 q2 q3 HQ;go_wp2
   go_ret
   exact⟨by rw[HR.out];rfl,W.out⟩
  ·have dr:decide (0<r)=false:=decide_eq_false tr;have dm:decide (4611686018427387903<q)=false:=decide_eq_false (by omega);have e2:IntKind.i64.wrap q=q:=iw_id _ (by omega) (by omega);have e3:IntKind.i64.wrap (-q)= -q:=iw_id _ (by omega) (by omega);have HR:=Lh (q3 (by omega));clear q0 q1 q2 q3 HQ;go_wp2
   go_ret
   exact⟨by rw[HR.out];rfl,W.out⟩
 ·have dn:decide (n<0)=false:=decide_eq_false t;have HD:=Lh (fun W=>div64_calls n 16 (by decide) (by omega) (by have:=HNB.out;omega) W);have HQ:Hid (0≤n / 16∧n / 16≤4503599627370496):=Lh (by have:=HNB.out;omega);rw[(hi_p (show 0≤n by omega)).1,(hi_p (show 0≤n by omega)).2]at G;rw[(hi_p (show 0≤n by omega)).1,(hi_p (show 0≤n by omega)).2];obtain⟨q,hq⟩:=nm_ (n / 16);obtain⟨r,hr⟩:=nm_ (n%16);rw[hq,hr]at HD;rw[hq]at HQ;have HQ2:=Lh hq;rw[dn];clear hq hr t dn HNB;have g0:=blk_cell G.out 0;have g1:=blk_cell G.out 1;have gl:=blk_lt G.out;go_wp2_with fail;refine(HD.out w4).mono ?_;rintro e w7 ⟨rfl,hb⟩;have W:=Lh (bthen W.out hb);clear hb HD g0 g1 gl G;obtain⟨q0,q1⟩:=HQ.out;have dm:decide (4611686018427387903<q)=false:=decide_eq_false (by omega);have e2:IntKind.i64.wrap q=q:=iw_id _ (by omega) (by omega);clear q0 q1 HQ;go_wp2
  go_ret
  exact⟨by rw[HQ2.out];rfl,W.out⟩
/-- one of the fixed ones -/
def hstep (c:Cr)(y:P3)(m:Nat)(d:Cr):Nat:=if(castF c y d).2=true∧0≤(castF c y d).1.2.2 then min m (castF c y d).1.1 else m
def leastH (c:Cr)(y:P3)(m:Nat)(l:List Cr):Nat:=l.foldl (hstep c y) m
def outC (x y:Int)(k:Int):Int:=x+(y-x)*k / 16
def outP (a b:P3)(k:Int):P3:=⟨outC a.x b.x k,outC a.y b.y k,outC a.z b.z k⟩
theorem outP_16 (a b:P3):outP a b 16=b:=by
 obtain⟨x,y,z⟩:=a;obtain⟨x',y',z'⟩:=b;unfold outP outC;simp only[P3.mk.injEq];omega
def holdK (a b:P3)(r:Int)(l:List Cr):Nat:=if holdMay a b r=true then leastH (ballC a r) (wayC a b) 16 l else 16
def holdF (a b:P3)(r:Int)(l:List Cr):P3×Nat:=(outP a b (holdK a b r l),holdK a b r l)
theorem hstep_le (c:Cr)(y:P3)(m:Nat)(d:Cr):hstep c y m d≤m:=by unfold hstep;split<;>omega
theorem leastH_le (c:Cr)(y:P3)(l:List Cr):∀m,leastH c y m l≤m:=by
 induction l with
 |nil=>intro m;exact Nat.le_refl _
 |cons d l ih=>intro m;exact Nat.le_trans (ih (hstep c y m d)) (hstep_le c y m d)
theorem leastH_snoc (c:Cr)(y:P3)(m:Nat)(l:List Cr)(d:Cr):leastH c y m (l++[d])=hstep c y (leastH c y m l) d:=by
 unfold leastH;rw[List.foldl_append];rfl
theorem leastH_take (c:Cr)(y:P3)(m:Nat)(l:List Cr)(i:Nat)(h:i<l.length):leastH c y m (l.take (i+1))=hstep c y (leastH c y m (l.take i)) l[i]:=by
 rw[List.take_succ_eq_append_getElem h,leastH_snoc]
theorem outC_bd (x y k B:Int)(hk:0≤k)(hk2:k≤16)(hx: -B≤x∧x≤B)(hy: -B≤y∧y≤B): -B≤outC x y k∧outC x y k≤B:=by
 unfold outC;obtain⟨d,hd⟩:=nm_ (y-x);rw[hd];rcases Int.le_total 0 d with h|h
 ·have:=Int.mul_nonneg h hk;have:=Int.mul_le_mul_of_nonneg_left hk2 h;omega
 ·have:=Int.mul_nonneg (show 0≤ -d by omega) hk;have:=Int.mul_le_mul_of_nonneg_left hk2 (show 0≤ -d by omega);have r1: -d*k= -(d*k):=by grind
  have r2: -d*16= -(d*16):=by grind
  omega
end Go.Proofs.YtckdhahceelckaaGreat.G
namespace Go.Proofs.YtckdhahceelckaaGreat.G
open Go.RowKit Go.Proofs.YtckdhahceelckaaGreatW.PrintWords Go.Proofs.YtckdhahceelckaaGreatW.PrintLast Go.Proofs.YtckdhahceelckaaGreatW.PrintMore
attribute [local go_sem] max2_mx min2_mn max_two min_two max_three min_three max_four min_four
attribute [local go_sem high] eqA23 eqA40
theorem fits_of {x:Int}(h: -1125899906842624≤x∧x≤1125899906842624):fits x:=by unfold fits;omega
theorem part_calls {w:World}(go gl:Nat)(k:Int)(hgl:w.heap[gl]?=some (.cells #[.int .i64 k] 3 (0,0)))(hk:0≤k∧k≤16)(a b:Int)(ha: -1125899906842624≤a∧a≤1125899906842624)(hb: -1125899906842624≤b∧b≤1125899906842624):
  Calls Tryz.prog 48 #[.int .i64 a, .int .i64 b, .pointer (some ⟨go,0,none⟩), .pointer (some ⟨gl,0,none⟩)] w fun e w'=>e= .returned (.int .i64 (outC a b k))∧Below w.heap.size w w':=by
 have hq:=outC_bd a b k 1125899906842624 hk.1 hk.2 ha hb;have HS:=Lh (fun W=>fsub_calls (.pointer (some ⟨go,0,none⟩)) b a (fits_of hb) (fits_of ha) (by unfold fits;omega) W);have HR:=Lh (fun W=>fratio_calls (.pointer (some ⟨go,0,none⟩)) (b-a) k (by omega) hk W);have HA:=Lh (fun W=>fadd_calls (.pointer (some ⟨go,0,none⟩)) a ((b-a)*k / 16) (fits_of ha) (by unfold outC at hq;unfold fits;omega) (by unfold outC at hq;unfold fits;omega) W);have HE:Hid (outC a b k=a+(b-a)*k / 16):=Lh rfl;obtain⟨D,hD⟩:=nm_ (b-a);rw[hD]at HS HR HA HE;obtain⟨Q,hQ⟩:=nm_ (D*k / 16);rw[hQ]at HR HA HE;obtain⟨R,hR⟩:=nm_ (a+Q);rw[hR]at HA HE;rw[HE.out];obtain⟨y0,yl⟩:=f1_ gl hgl;clear hq hD hQ hR ha hb hk HE;go_enter Tryz.func48,Tryz.ntmps48;go_wp2_with fail;have HB:=Lh ((Below.refl (w.heap.size) w).drew);refine start_ (n:=8) (S:=fun w'=>w'.cell? ⟨gl,0,none⟩=some (.int .i64 k)) (ds:=[]) (MT 0 8) (by kernel_rfl) rfl rfl ((HB.cell (p:=⟨gl,0,none⟩) (yl)).trans y0) (fun hE=>?_);obtain⟨wd,hwd⟩:=nm_ w.drew;rw[hwd]at HB hE⊢;clear hwd;refine pu_ 0 7 (h:=?_);refine pu_ 1 8 (h:=?_);refine pu_ 2 9 (h:=?_);refine ta_ 4 11 hE (h:=?_);refine on_ 3 (some 10) (h:=fun K hK=>?_);refine gs_ Tryz.func51 #[.pointer (some ⟨go,0,none⟩), .int .i64 b, .int .i64 a] ?_
 with_reducible refine(HS.out _).mono ?_
 rintro en w2 ⟨rfl,hb⟩;have HB:=tm_ HB hb;clear hb;refine⟨_,rfl,?_⟩;refine hK.out _ _ ((HB.cell (p:=⟨gl,0,none⟩) (yl)).trans y0) (fun hE=>?_);clear hK K;refine no_ (h:=?_);refine on_ 5 (some 12) (h:=fun K hK=>?_);refine gs_ Tryz.func50 #[.pointer (some ⟨go,0,none⟩), .int .i64 D, .int .i64 k, .int .i64 16] ?_
 with_reducible refine(HR.out _).mono ?_
 rintro en w3 ⟨rfl,hb⟩;have HB:=tm_ HB hb;clear hb;refine⟨_,rfl,?_⟩;refine hK.out _ _ ((HB.cell (p:=⟨gl,0,none⟩) (yl)).trans y0) (fun hE=>?_);clear hK K;refine no_ (h:=?_);refine on_ 6 (some 13) (h:=fun K hK=>?_);refine gs_ Tryz.func49 #[.pointer (some ⟨go,0,none⟩), .int .i64 a, .int .i64 Q] ?_
 with_reducible refine(HA.out _).mono ?_
 rintro en w4 ⟨rfl,hb⟩;have HB:=tm_ HB hb;clear hb;refine⟨_,rfl,?_⟩;refine hK.out _ _ ((HB.cell (p:=⟨gl,0,none⟩) (yl)).trans y0) (fun hE=>?_);clear hK K;refine no_ (h:=?_);refine pu_ 7 6 (h:=?_);refine done_ (by kernel_rfl) ?_;go_wp2
 go_ret
 exact⟨rfl,HB.out⟩
end Go.Proofs.YtckdhahceelckaaGreat.G
