/- What the laws of this claim lean on: contracts of functions and plain lemmas; no condition of its own (part 42: XO1, XO2, XZ1). -/
import Derived.Test.YtckdhahceelckaaGreatKQ33
import Derived.Test.YtckdhahceelckaaGreatKQ40
set_option maxHeartbeats 16000000
set_option maxRecDepth 100000
set_option linter.unusedVariables false
set_option linter.unusedSimpArgs false
namespace Go.Proofs.YtckdhahceelckaaGreat.G
open Go.RowKit Go.Proofs.YtckdhahceelckaaGreatW.PrintWords Go.Proofs.YtckdhahceelckaaGreatW.PrintLast Go.Proofs.YtckdhahceelckaaGreatW.PrintMore
theorem RowO.snoc {W:World}{base:Nat}{b:Option Nat}{news:List Value}{l:List Cr}{d:Cr}{A0 A1 A2:Option Addr}{n0 n1 n2 c0 c1 c2:Nat}(h:RowO W base b news l)(hn:news.length=l.length*4)(hd:CrO W base b A0 A1 A2 n0 n1 n2 c0 c1 c2 d):
  RowO W base b (news++[.slice A0 n0 c0, .slice A1 n1 c1, .slice A2 n2 c2, .int .i64 d.r]) (l++[d]):=fun i x hx=>by
 by_cases hi:i<l.length
 ·rw[List.getElem?_append_left hi]at hx;obtain⟨B0,B1,B2,m0,m1,m2,d0,d1,d2,e0,e1,e2,e3,ho⟩:=h i x hx;exact⟨B0,B1,B2,m0,m1,m2,d0,d1,d2,by rw[List.getElem?_append_left (by omega)];exact e0,by rw[List.getElem?_append_left (by omega)];exact e1,by rw[List.getElem?_append_left (by omega)];exact e2,by rw[List.getElem?_append_left (by omega)];exact e3,ho⟩
 ·rw[List.getElem?_append_right (by omega)]at hx;have hi0:i-l.length=0:=by
   rcases Nat.eq_zero_or_pos (i-l.length)with e|e
   ·exact e
   ·rw[List.getElem?_eq_none (by simp;omega)]at hx;cases hx
  rw[hi0]at hx;simp only[List.getElem?_cons_zero,Option.some.injEq]at hx;subst hx;have hil:i=l.length:=by omega
  subst hil;have q:∀j,(news++[.slice A0 n0 c0, .slice A1 n1 c1, .slice A2 n2 c2, .int .i64 d.r])[l.length*4+j]?=([.slice A0 n0 c0, .slice A1 n1 c1, .slice A2 n2 c2, .int .i64 d.r]:List Value)[j]?:=fun j=>by
   rw[List.getElem?_append_right (by omega)];congr 1;omega
  exact⟨A0,A1,A2,n0,n1,n2,c0,c1,c2,q 0,q 1,q 2,q 3,hd⟩
/-- a low block is written -/
theorem RdCF.setLow {w:World}{base:Nat}{A:Option Addr}{l:List Cr}(h:RdCF w base A l){g:Nat}(hg:g<base)(j:Nat)(u:Value):RdCF (w.setCell ⟨g,j,none⟩ u) base A l:=fun i c hc=>by
 obtain⟨b,o,A0,A1,A2,n0,n1,n2,c0,c1,c2,e,hlt,h0,h1,h2,h3,h4,hb,l0,l1,l2⟩:=h i c hc;have hne:b≠g:=by omega
 have q:∀k,(w.setCell ⟨g,j,none⟩ u).cell? ⟨b,k,none⟩=w.cell? ⟨b,k,none⟩:=fun k=>World.cell?_of_block (a:=⟨b,k,none⟩) (Below.heap_setCell w ⟨g,j,none⟩ u b hne);have hv:CrV (w.setCell ⟨g,j,none⟩ u) (.agg #[.slice A0 n0 c0, .slice A1 n1 c1, .slice A2 n2 c2, .int .i64 c.r]) c:=by
  obtain⟨B0,B1,B2,d0,d1,d2,e,q0,q1,q2,k0,k1,k2⟩:=h4.out;simp only[Value.agg.injEq,Array.mk.injEq,List.cons.injEq,Value.slice.injEq,and_true]at e;obtain⟨⟨rfl,rfl,rfl⟩,⟨rfl,rfl,rfl⟩,rfl,rfl,rfl⟩:=e;have off:∀{A:Option Addr} {m:List P3},loB A m.length base→m≠[]→∀ad,A=some ad→ad.block≠g:=fun{A m} hl hm ad ea=>by
   have:=hl (fun e0=>hm (List.eq_nil_of_length_eq_zero e0)) ad ea;omega
  exact⟨_,_,_,_,_,_,rfl,q0.setcE (off l0) j u,q1.setcE (off l1) j u,q2.setcE (off l2) j u,k0,k1,k2⟩
 exact⟨b,o,A0,A1,A2,n0,n1,n2,c0,c1,c2,e,by rw[World.size_setCell];exact hlt,(q _).trans h0,(q _).trans h1,(q _).trans h2,(q _).trans h3,hv,hb,l0,l1,l2⟩
section
variable {w:World}{ops:Array Oper}{rest:List Oper}{o:Oper}{a:Act}{Q:Exit→Act→World→Prop}
/-- append of one core -/
theorem appO_ (w1:World)(hgd:o.guard=none)(s x:Operand)(ho:o.op= .call {callee:= .builtin .append,args:=#[s,x],argTypes:=#[42,42]})
  (v:Value) (l:List Cr) (d:Cr) (g c:Nat) (A0 A1 A2:Option Addr) (n0 n1 n2 c0 c1 c2:Nat) (hs:a.eval s=v) (hx:a.eval x= .slice (some ⟨g,0,none⟩) 1 c) (hown:OC w1 w v l) (hc:w.heap[g]?=some (.cells #[.slice A0 n0 c0, .slice A1 n1 c1, .slice A2 n2 c2, .int .i64 d.r] 35 (0,0))) (hd:CrO w w1.heap.size v.ownBlock A0 A1 A2 n0 n1 n2 c0 c1 c2 d) (hsz:l.length+1≤1000000)
  (h:∀v' w',OC w1 w' v' (l++[d])→w.grownBy w' v.ownBlock→wpList Tryz.prog ops Q rest (a.put o.dst v') w'):wpList Tryz.prog ops Q (o::rest) a w:=by
 obtain⟨i0,hi,hz0,hz1,hz2⟩:=info_parts info36;obtain⟨⟨news,h1,h2⟩,h3⟩:=id hown
 obtain⟨v',w',q0,q1,q2,_,q4⟩:=Go.run_append_own_at (P:=Tryz.prog) w w1.heap.size 42 o.type 35 i0 _ 4 80 Tryz.underlying42 hi hz0 hz1 hz2 rfl (by omega) v l.length news h1 ⟨g,0,none⟩ 1 c [.slice A0 n0 c0, .slice A1 n1 c1, .slice A2 n2 c2, .int .i64 d.r] rfl (fun j u hj=>by
   rw[add_at,Nat.zero_add]
   match j,hj with
   |0,hj=>simp at hj;subst hj;exact(blk_cell hc 0).trans rfl
   |1,hj=>simp at hj;subst hj;exact(blk_cell hc 1).trans rfl
   |2,hj=>simp at hj;subst hj;exact(blk_cell hc 2).trans rfl
   |3,hj=>simp at hj;subst hj;exact(blk_cell hc 3).trans rfl
   |j+4,hj=>simp at hj) (fun u hu=>by simp at hu;rcases hu with rfl|rfl|rfl|rfl<;>rfl) (by unfold maxLen;omega) (by omega) h3.size
 refine Go.Lib.wpList_append_run w hgd s x 42 42 ho v (.slice (some ⟨g,0,none⟩) 1 c) hs hx v' w' q0 (h v' w' ⟨⟨news++[.slice A0 n0 c0, .slice A1 n1 c1, .slice A2 n2 c2, .int .i64 d.r],?_,?_⟩,h3.grown q2 h3.size (fun k hk=>(h1.lt k hk).1)⟩ q2)
 ·rw[List.length_append];exact q1
 ·have hnl:=h1.1;exact(h2.grow q2 q4).snoc hnl (hd.grow q2 q4)
end
def PlPost (w:World)(en:Ending)(w':World):Prop:=∃v,en= .returned v∧PlV w' v w.heap.size∧Below w.heap.size w w'
theorem placed_good (k r:Int)(h:P3)(l:List P3)(A:Option Addr)(c:Nat)(p7:P7)(w:World)(hA:RdB w A l)(hr:RawOk k r h l)(hp:i64s p7):Calls Tryz.prog 25 #[.agg (cS k r h A l.length c), .agg (cP7 p7)] w (PlPost w):=by
 refine(placed_calls2 k r h l A c p7 w hA hr hp).mono ?_;rintro en w' ⟨v,p,a,e,rfl,h1,h2,hb,hf⟩;obtain⟨d,hd1,hd2⟩:=CoreAt.good (rightS_ok k r h l) (rightPose p7) (rightPose_ok p7).1 (rightPose_ok p7).2 (fun l x hx hi h0=>ways_turned p7 hx hi h0) ⟨p,a,e,h1,h2⟩;exact⟨v,rfl,⟨d,hd1,hd2,hf⟩,hb⟩
/-- a fresh core lies beside a list of the call's own -/
theorem CrO.of_fresh {w1 W0 W:World}{v:Value}{l:List Cr}{A0 A1 A2:Option Addr}{n0 n1 n2 c0 c1 c2:Nat}{d:Cr}(h:CrV W (.agg #[.slice A0 n0 c0, .slice A1 n1 c1, .slice A2 n2 c2, .int .i64 d.r]) d)(hf:Fresh W0.heap.size (.agg #[.slice A0 n0 c0, .slice A1 n1 c1, .slice A2 n2 c2, .int .i64 d.r]))(ho:OC w1 W0 v l):CrO W w1.heap.size v.ownBlock A0 A1 A2 n0 n1 n2 c0 c1 c2 d:=by
 obtain⟨B0,B1,B2,m0,m1,m2,d0,d1,d2,x,e,f0,f1,f2⟩:=hf;simp only[Value.agg.injEq,Array.mk.injEq,List.cons.injEq,Value.slice.injEq,and_true]at e;obtain⟨⟨rfl,rfl,rfl⟩,⟨rfl,rfl,rfl⟩,⟨rfl,rfl,rfl⟩,_⟩:=e;have off:∀{A:Option Addr} {n:Nat},(∀ad,A=some ad→W0.heap.size≤ad.block)→offB A n v.ownBlock:=fun{A n} hA _ ad e hh=>by
  have:=(ho.lt ad.block hh.symm).2;have:=hA ad e;omega
 have hs:=ho.below.size;have lo:∀{A:Option Addr} {n:Nat},(∀ad,A=some ad→W0.heap.size≤ad.block)→loB A n w1.heap.size:=fun{A n} hA _ ad e=>Nat.le_trans hs (hA ad e);exact⟨h,⟨off f0,off f1,off f2⟩,lo f0,lo f1,lo f2⟩
/-- where a raw shot begins -/
def fromS (f:P3):P3:=⟨partF f.x 4398046511104,partF f.y 4398046511104,partF f.z 4398046511104⟩
def toS (f y:P3):P3:=⟨(fromS f).x+partF y.x 274877906944,(fromS f).y+partF y.y 274877906944,(fromS f).z+partF y.z 274877906944⟩
def radS (r:Int):Int:=1+pickF r 16384
theorem shot_ok (f y:P3)(r:Int):ShotOk (fromS f) (toS f y) (radS r):=by
 have a:=partF_bd f.x 4398046511104 (by decide);have b:=partF_bd f.y 4398046511104 (by decide);have c:=partF_bd f.z 4398046511104 (by decide);have d:=partF_bd y.x 274877906944 (by decide);have e:=partF_bd y.y 274877906944 (by decide);have g:=partF_bd y.z 274877906944 (by decide);have h:=pickF_bd r 16384 (by decide);refine⟨?_,?_,?_,?_⟩
 ·unfold in3 fromS;simp only;omega
 ·unfold in3 toS fromS;simp only;omega
 ·unfold radS;omega
 ·unfold radS;omega
end Go.Proofs.YtckdhahceelckaaGreat.G
namespace Go.Proofs.YtckdhahceelckaaGreat.G
open Go.RowKit Go.Proofs.YtckdhahceelckaaGreatW.PrintWords Go.Proofs.YtckdhahceelckaaGreatW.PrintLast Go.Proofs.YtckdhahceelckaaGreatW.PrintMore
attribute [local go_sem] max2_mx min2_mn max_two min_two max_three min_three max_four min_four
attribute [local go_sem high] eqA23 eqA40
theorem pick18_calls (c n:Int)(hc1: -9223372036854775808≤c)(hc2:c≤9223372036854775807)(hn:0<n)(hn2:n≤1152921504606846976)(w:World):
  Calls Tryz.prog 23 #[.int .i64 c, .int .i64 n] w fun e w'=>e= .returned (.int .i64 (pickF c n))∧w'=w:=by
 have hb:=pickF_bd c n hn;have hn0:n≠0:=by omega
 have hn1:n≠ -1:=by omega
 by_cases h:c<0
 ·have hd:decide (c<0)=true:=by simpa using h
  have e1:IntKind.i64.wrap (c+1)=c+1:=iw_id _ (by omega) (by omega);have e2:IntKind.i64.wrap (-(c+1))= -(c+1):=iw_id _ (by omega) (by omega);have e3:pickF c n=(-(c+1)).tmod n:=by unfold pickF;rw[if_pos h]
  have e4:IntKind.i64.wrap ((-(c+1)).tmod n)=(-(c+1)).tmod n:=iw_id _ (by rw[←e3];omega) (by rw[←e3];omega);rw[e3];go_enter Tryz.func23,Tryz.ntmps23;go_wp2
  go_ret
  exact⟨by show Ending.returned (Value.int .i64 (-(c+1).tmod n))=_;rw[Int.neg_tmod],rfl⟩
 ·have hd:decide (c<0)=false:=by simpa using h
  have e3:pickF c n=c.tmod n:=by unfold pickF;rw[if_neg h]
  have e4:IntKind.i64.wrap (c.tmod n)=c.tmod n:=iw_id _ (by rw[←e3];omega) (by rw[←e3];omega);rw[e3];go_enter Tryz.func23,Tryz.ntmps23;go_wp2
  go_ret
  exact⟨by show Ending.returned (Value.int .i64 (c%n))=_;rw[Int.tmod_eq_emod_of_nonneg (by omega)],rfl⟩
theorem part18_calls (c m:Int)(hc1: -9223372036854775808≤c)(hc2:c≤9223372036854775807)(hm:0<m)(hm2:m≤288230376151711744)(w:World):
  Calls Tryz.prog 24 #[.int .i64 c, .int .i64 m] w fun e w'=>e= .returned (.int .i64 (partF c m))∧w'=w:=by
 have hb:=pickF_bd c (2*m+1) (by omega);have hq:=Lh (pick18_calls c (2*m+1) hc1 hc2 (by omega) (by omega));have hf:Hid (partF c m=pickF c (2*m+1)-m):=Lh rfl;obtain⟨x,hx⟩:=nm_ (pickF c (2*m+1));rw[hx]at hq hf hb;clear hx;obtain⟨b1,b2⟩:=hb;go_enter Tryz.func24,Tryz.ntmps24;go_wp2_with fail;refine(hq.out _).mono ?_;rintro e w1 ⟨rfl,rfl⟩;go_wp2
 go_ret
 exact⟨by rw[hf.out];rfl,rfl⟩
end Go.Proofs.YtckdhahceelckaaGreat.G
