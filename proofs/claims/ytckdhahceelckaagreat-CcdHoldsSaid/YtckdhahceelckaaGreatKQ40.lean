/- What the laws of this claim lean on: contracts of functions and plain lemmas; no condition of its own (part 40: XV20, XV30, XO1, XO2, XZ2, XL2). -/
import Derived.Test.YtckdhahceelckaaGreatKQ25
set_option maxHeartbeats 16000000
set_option maxRecDepth 100000
set_option linter.unusedVariables false
set_option linter.unusedSimpArgs false
namespace Go.Proofs.YtckdhahceelckaaGreat.G
open Go.RowKit Go.Proofs.YtckdhahceelckaaGreatW.PrintWords Go.Proofs.YtckdhahceelckaaGreatW.PrintLast Go.Proofs.YtckdhahceelckaaGreatW.PrintMore
attribute [local go_sem] max2_mx min2_mn max_two min_two max_three min_three max_four min_four
attribute [local go_sem high] eqA23 eqA40
/-- a list of numbers of the call's own; one that reads -/
def OwnNn (w:World)(base:Nat)(v:Value)(l:List Nat):Prop:=w.ownsRow base 3 1 v l.length (l.map fun(n:Nat)=>Value.int .i64 (n:Int))
def RdNn (w:World)(A:Option Addr)(l:List Nat):Prop:=∀(i n:Nat),l[i]?=some n→∃b o,A=some ⟨b,o,none⟩∧b<w.heap.size∧w.cell? ⟨b,o+i,none⟩=some (.int .i64 (n:Int))
theorem RdNn.below {w w1:World}{A:Option Addr}{l:List Nat}(h:RdNn w A l)(hb:Below w.heap.size w w1):RdNn w1 A l:=fun i n hn=>by
 obtain⟨b,o,e,hlt,h0⟩:=h i n hn;exact⟨b,o,e,Nat.lt_of_lt_of_le hlt hb.size,(hb.cell (p:=⟨b,_,none⟩) hlt).trans h0⟩
theorem OwnNn.nil (w:World)(base:Nat):OwnNn w base (.slice none 0 0) []:=World.ownsRow_nil _ _ _ _
theorem OwnNn.rd {w:World}{base:Nat}{v:Value}{l:List Nat}(h:OwnNn w base v l):∃A c,v= .slice A l.length c∧l.length≤c∧c≤maxLen∧RdNn w A l∧(A=none→l.length=0):=by
 have h0:=h;obtain⟨h1,h2⟩:=h;rcases h2 with⟨rfl,hn⟩|⟨g,cap,cur,rfl,hb,hg,hnc,hm,hsz,ht⟩
 ·obtain rfl:=List.eq_nil_of_length_eq_zero hn;exact⟨none,0,rfl,Nat.le_refl _,Nat.zero_le _,fun i n hi=>by simp at hi,fun _=>rfl⟩
 ·refine⟨some ⟨g,0,none⟩,cap,rfl,hnc,hm,fun i n hi=>⟨g,0,rfl,(Array.getElem?_eq_some_iff.1 hg).1,?_⟩,fun e=>by cases e⟩;have:=h0.cells (g:=g) rfl i (.int .i64 (n:Int)) (by rw[List.getElem?_map,hi];rfl)
  rwa [add_at]at this
theorem OwnNn.grown {w w':World}{base:Nat}{v:Value}{l:List Nat}(h:OwnNn w base v l)(hb:Below w.heap.size w w'):OwnNn w' base v l:=pw_own_below h hb
theorem info36:(Tryz.prog.info? 35).map (fun i=>(i.zero,i.size,i.bytes))=some (some (.agg #[.slice none 0 0, .slice none 0 0, .slice none 0 0, .int .i64 0]),4,80):=by kernel_rfl
/-- a row of cells holds these cores -/
def RowC (w:World)(news:List Value)(l:List Cr):Prop:=∀i d,l[i]?=some d→∃A0 A1 A2 n0 n1 n2 c0 c1 c2,news[i*4]?=some (.slice A0 n0 c0)∧news[i*4+1]?=some (.slice A1 n1 c1)∧news[i*4+2]?=some (.slice A2 n2 c2)∧news[i*4+3]?=some (.int .i64 d.r)∧CrV w (.agg #[.slice A0 n0 c0, .slice A1 n1 c1, .slice A2 n2 c2, .int .i64 d.r]) d
theorem RdC.tail {w:World}{b o:Nat}{a:Cr}{l:List Cr}(h:RdC w (some ⟨b,o,none⟩) (a::l)):RdC w (some ⟨b,o+4,none⟩) l:=fun i d hd=>by
 obtain⟨b',o',A0,A1,A2,n0,n1,n2,c0,c1,c2,e,hlt,h0,h1,h2,h3,h4⟩:=h (i+1) d (by simpa using hd);simp only[Option.some.injEq,Addr.mk.injEq,and_true]at e;obtain⟨rfl,rfl⟩:=e;have ee:o+(i+1)*4=o+4+i*4:=by omega
 rw[ee]at h0 h1 h2 h3;exact⟨b,o+4,A0,A1,A2,n0,n1,n2,c0,c1,c2,rfl,hlt,h0,h1,h2,h3,h4⟩
theorem RowC.cons {w:World}{news:List Value}{l:List Cr}{d:Cr}{A0 A1 A2:Option Addr}{n0 n1 n2 c0 c1 c2:Nat}(h:RowC w news l)(hd:CrV w (.agg #[.slice A0 n0 c0, .slice A1 n1 c1, .slice A2 n2 c2, .int .i64 d.r]) d):
  RowC w ([.slice A0 n0 c0, .slice A1 n1 c1, .slice A2 n2 c2, .int .i64 d.r]++news) (d::l):=fun i e he=>by
 cases i with
 |zero=>
  simp only[List.getElem?_cons_zero,Option.some.injEq]at he;subst he
  exact⟨A0,A1,A2,n0,n1,n2,c0,c1,c2,rfl,rfl,rfl,rfl,hd⟩
 |succ i=>
  obtain⟨B0,B1,B2,m0,m1,m2,d0,d1,d2,h0,h1,h2,h3,h4⟩:=h i e (by simpa using he);refine⟨B0,B1,B2,m0,m1,m2,d0,d1,d2,?_,?_,?_,?_,h4⟩
  ·rw[show(i+1)*4=i*4+4 from by omega];exact h0
  ·rw[show(i+1)*4+1=i*4+1+4 from by omega];exact h1
  ·rw[show(i+1)*4+2=i*4+2+4 from by omega];exact h2
  ·rw[show(i+1)*4+3=i*4+3+4 from by omega];exact h3
theorem RdC.news {w:World}{b:Nat}:∀{l:List Cr} {o:Nat},RdC w (some ⟨b,o,none⟩) l→∃news:List Value,news.length=l.length*4∧(∀j u,news[j]?=some u→w.cell? ⟨b,o+j,none⟩=some u)∧(∀u∈news,u.oneCell'=true)∧RowC w news l
 |[],o,_=>⟨[],rfl,fun j u hj=>by simp at hj,fun u hu=>by simp at hu,fun i d hd=>by simp at hd⟩
 |d::l,o,h=>by
  obtain⟨news,e1,e2,e3,e4⟩:=RdC.news h.tail;obtain⟨b',o',A0,A1,A2,n0,n1,n2,c0,c1,c2,e,hlt,h0,h1,h2,h3,h4⟩:=h 0 d rfl;simp only[Option.some.injEq,Addr.mk.injEq,and_true]at e;obtain⟨rfl,rfl⟩:=e;refine⟨[.slice A0 n0 c0, .slice A1 n1 c1, .slice A2 n2 c2, .int .i64 d.r]++news,by simp[e1];omega,fun j u hj=>?_,fun u hu=>?_,e4.cons h4⟩
  ·match j with
   |0=>simp at hj;subst hj;simpa using h0
   |1=>simp at hj;subst hj;simpa using h1
   |2=>simp at hj;subst hj;simpa using h2
   |3=>simp at hj;subst hj;simpa using h3
   |j+4=>
    have:=e2 j u (by simpa using hj)
    rwa [show o+4+j=o+(j+4) from by omega]at this
  ·rcases List.mem_append.1 hu with hu|hu
   ·simp at hu;rcases hu with rfl|rfl|rfl|rfl<;>rfl
   ·exact e3 u hu
theorem RowC.below {w w1:World}{news:List Value}{l:List Cr}(h:RowC w news l)(hb:Below w.heap.size w w1):RowC w1 news l:=fun i d hd=>by
 obtain⟨A0,A1,A2,n0,n1,n2,c0,c1,c2,h0,h1,h2,h3,h4⟩:=h i d hd;exact⟨A0,A1,A2,n0,n1,n2,c0,c1,c2,h0,h1,h2,h3,h4.below hb⟩
theorem RowC.rd {w:World}{news:List Value}{l:List Cr}{g:Nat}(h:RowC w news l)(hg:g<w.heap.size)(hc:∀j u,news[j]?=some u→w.cell? ⟨g,j,none⟩=some u):RdC w (some ⟨g,0,none⟩) l:=fun i d hd=>by
 obtain⟨A0,A1,A2,n0,n1,n2,c0,c1,c2,h0,h1,h2,h3,h4⟩:=h i d hd;exact⟨g,0,A0,A1,A2,n0,n1,n2,c0,c1,c2,rfl,hg,by rw[Nat.zero_add];exact hc _ _ h0,by rw[Nat.zero_add];exact hc _ _ h1,by rw[Nat.zero_add];exact hc _ _ h2,by rw[Nat.zero_add];exact hc _ _ h3,h4⟩
end Go.Proofs.YtckdhahceelckaaGreat.G
namespace Go.Proofs.YtckdhahceelckaaGreat.G
open Go.RowKit Go.Proofs.YtckdhahceelckaaGreatW.PrintWords Go.Proofs.YtckdhahceelckaaGreatW.PrintLast Go.Proofs.YtckdhahceelckaaGreatW.PrintMore
/-- where a slice that holds something lies, it is not at b -/
def offB (A:Option Addr)(n:Nat)(b:Option Nat):Prop:=n≠0→∀ad,A=some ad→some ad.block≠b
/-- where a slice that holds something lies, it is not below base -/
def loB (A:Option Addr)(n:Nat)(base:Nat):Prop:=n≠0→∀ad,A=some ad→base≤ad.block
/-- a core's value, beside the block b -/
def CrO (W:World)(base:Nat)(b:Option Nat)(A0 A1 A2:Option Addr)(n0 n1 n2 c0 c1 c2:Nat)(d:Cr):Prop:=
 CrV W (.agg #[.slice A0 n0 c0, .slice A1 n1 c1, .slice A2 n2 c2, .int .i64 d.r]) d∧(offB A0 n0 b∧offB A1 n1 b∧offB A2 n2 b)∧loB A0 n0 base∧loB A1 n1 base∧loB A2 n2 base
theorem CrO.grow {W W':World}{base:Nat}{b b':Option Nat}{A0 A1 A2:Option Addr}{n0 n1 n2 c0 c1 c2:Nat}{d:Cr}(h:CrO W base b A0 A1 A2 n0 n1 n2 c0 c1 c2 d)(hg:W.grownBy W' b)(hb:b'=b∨b'=some W.heap.size):CrO W' base b' A0 A1 A2 n0 n1 n2 c0 c1 c2 d:=by
 obtain⟨hv,⟨h0,h1,h2⟩,hlo⟩:=h;obtain⟨B0,B1,B2,d0,d1,d2,e,q0,q1,q2,k0,k1,k2⟩:=hv.out;simp only[Value.agg.injEq,Array.mk.injEq,List.cons.injEq,Value.slice.injEq,and_true]at e;obtain⟨⟨rfl,rfl,rfl⟩,⟨rfl,rfl,rfl⟩,rfl,rfl,rfl⟩:=e
 have lift:∀{A:Option Addr} {l:List P3},RdB W A l→offB A l.length b→RdB W' A l:=fun{A l} hr ho=>hr.blk hg.size fun ad e hne=>
  hg.block ad.block (hr.2 hne ad e) (ho (fun e0=>hne (List.eq_nil_of_length_eq_zero e0)) ad e)
 have off:∀{A:Option Addr} {l:List P3},RdB W A l→offB A l.length b→offB A l.length b':=fun{A l} hr ho hn ad e=>by
  rcases hb with rfl|rfl
  ·exact ho hn ad e
  ·have:=hr.2 (fun e0=>hn (by rw[e0];rfl)) ad e;exact fun e'=>absurd (Option.some.inj e') (Nat.ne_of_lt this)
 exact⟨⟨_,_,_,_,_,_,rfl,lift q0 h0,lift q1 h1,lift q2 h2,k0,k1,k2⟩,⟨off q0 h0,off q1 h1,off q2 h2⟩,hlo⟩
/-- a row of cells that holds these cores, none of which lies at b -/
def RowO (W:World)(base:Nat)(b:Option Nat)(news:List Value)(l:List Cr):Prop:=∀i d,l[i]?=some d→∃A0 A1 A2 n0 n1 n2 c0 c1 c2,news[i*4]?=some (.slice A0 n0 c0)∧news[i*4+1]?=some (.slice A1 n1 c1)∧news[i*4+2]?=some (.slice A2 n2 c2)∧news[i*4+3]?=some (.int .i64 d.r)∧CrO W base b A0 A1 A2 n0 n1 n2 c0 c1 c2 d
theorem RowO.grow {W W':World}{base:Nat}{b b':Option Nat}{news:List Value}{l:List Cr}(h:RowO W base b news l)(hg:W.grownBy W' b)(hb:b'=b∨b'=some W.heap.size):RowO W' base b' news l:=fun i d hd=>by
 obtain⟨A0,A1,A2,n0,n1,n2,c0,c1,c2,e0,e1,e2,e3,ho⟩:=h i d hd;exact⟨A0,A1,A2,n0,n1,n2,c0,c1,c2,e0,e1,e2,e3,ho.grow hg hb⟩
/-- v is a list of cores, made since w1 -/
structure OC (w1 W:World) (v:Value) (l:List Cr):Prop where
 ex:∃news,W.ownsRow w1.heap.size 35 4 v l.length news∧RowO W w1.heap.size v.ownBlock news l
 below:Below w1.heap.size w1 W
theorem OC.start (w1:World):OC w1 w1 (.slice none 0 0) []:=⟨⟨[],World.ownsRow_nil _ _ _ _,fun i d hd=>by simp at hd⟩,Below.refl _ _⟩
theorem OC.grown {w1 W W':World}{v:Value}{l:List Cr}(h:OC w1 W v l)(hb:Below W.heap.size W W'):OC w1 W' v l:=by
 obtain⟨⟨news,h1,h2⟩,h3⟩:=h;exact⟨⟨news,pw_own_below h1 hb,h2.grow (grown_of_below hb _) (.inl rfl)⟩,bthen h3 hb⟩
theorem OC.lt {w1 W:World}{v:Value}{l:List Cr}(h:OC w1 W v l):∀k,v.ownBlock=some k→w1.heap.size≤k∧k<W.heap.size:=by
 obtain⟨⟨news,h1,h2⟩,h3⟩:=h;exact h1.lt
/-- a list of cores none of which lies below base -/
def RdCF (w:World)(base:Nat)(A:Option Addr)(l:List Cr):Prop:=∀i c,l[i]?=some c→∃b o A0 A1 A2 n0 n1 n2 c0 c1 c2,A=some ⟨b,o,none⟩∧b<w.heap.size∧w.cell? ⟨b,o+i*4,none⟩=some (.slice A0 n0 c0)∧w.cell? ⟨b,o+i*4+1,none⟩=some (.slice A1 n1 c1)∧w.cell? ⟨b,o+i*4+2,none⟩=some (.slice A2 n2 c2)∧w.cell? ⟨b,o+i*4+3,none⟩=some (.int .i64 c.r)∧CrV w (.agg #[.slice A0 n0 c0, .slice A1 n1 c1, .slice A2 n2 c2, .int .i64 c.r]) c∧base≤b∧loB A0 n0 base∧loB A1 n1 base∧loB A2 n2 base
theorem RdCF.rd {w:World}{base:Nat}{A:Option Addr}{l:List Cr}(h:RdCF w base A l):RdC w A l:=fun i c hc=>by
 obtain⟨b,o,A0,A1,A2,n0,n1,n2,c0,c1,c2,e,hlt,h0,h1,h2,h3,h4,_⟩:=h i c hc;exact⟨b,o,A0,A1,A2,n0,n1,n2,c0,c1,c2,e,hlt,h0,h1,h2,h3,h4⟩
theorem RdCF.below {w w1:World}{base:Nat}{A:Option Addr}{l:List Cr}(h:RdCF w base A l)(hb:Below w.heap.size w w1):RdCF w1 base A l:=fun i c hc=>by
 obtain⟨b,o,A0,A1,A2,n0,n1,n2,c0,c1,c2,e,hlt,h0,h1,h2,h3,h4,hl⟩:=h i c hc;exact⟨b,o,A0,A1,A2,n0,n1,n2,c0,c1,c2,e,Nat.lt_of_lt_of_le hlt hb.size,(hb.cell (p:=⟨b,_,none⟩) hlt).trans h0,(hb.cell (p:=⟨b,_,none⟩) hlt).trans h1,(hb.cell (p:=⟨b,_,none⟩) hlt).trans h2,(hb.cell (p:=⟨b,_,none⟩) hlt).trans h3,h4.below hb,hl⟩
theorem OC.rd {w1 W:World}{v:Value}{l:List Cr}(h:OC w1 W v l):∃A c,v= .slice A l.length c∧l.length≤c∧RdCF W w1.heap.size A l:=by
 obtain⟨⟨news,h1,h2⟩,h3⟩:=h;have h0:=h1;obtain⟨hl,h1⟩:=h1;rcases h1 with⟨rfl,hn⟩|⟨g,cap,cur,rfl,hb,hg,hnc,hm,hsz,ht⟩
 ·obtain rfl:=List.eq_nil_of_length_eq_zero hn;exact⟨none,0,rfl,Nat.le_refl _,fun i d hd=>by simp at hd⟩
 ·refine⟨some ⟨g,0,none⟩,cap,rfl,hnc,fun i d hd=>?_⟩;obtain⟨A0,A1,A2,n0,n1,n2,c0,c1,c2,e0,e1,e2,e3,ho⟩:=h2 i d hd;have q:∀j u,news[j]?=some u→W.cell? ⟨g,0+j,none⟩=some u:=fun j u hj=>by
   have:=h0.cells (g:=g) rfl j u hj
   rwa [add_at]at this
  exact⟨g,0,A0,A1,A2,n0,n1,n2,c0,c1,c2,rfl,(Array.getElem?_eq_some_iff.1 hg).1,q _ _ e0,q _ _ e1,q _ _ e2,q _ _ e3,ho.1,hb,ho.2.2⟩
/-- a core that may be, made since b -/
def PlV (w:World)(v:Value)(b:Nat):Prop:=∃d,CrV w v d∧GoodC d∧Fresh b v
theorem PlV.below {w w1:World}{v:Value}{b:Nat}(h:PlV w v b)(hb:Below w.heap.size w w1):PlV w1 v b:=by
 obtain⟨d,h1,h2,h3⟩:=h;exact⟨d,h1.below hb,h2,h3⟩
theorem CrV.setS {w:World}{v:Value}{c:Cr}(h:CrV w v c){g:Nat}{A0 A1 A2:Option Addr}{n0 n1 n2 m0 m1 m2:Nat}{x:Value}{t:TypeId}(hg:w.heap[g]?=some (.cells #[.slice A0 n0 m0, .slice A1 n1 m1, .slice A2 n2 m2,x] t (0,0)))(u0 u1 u2 u3:Value):
  CrV ((((w.setCell ⟨g,0,none⟩ u0).setCell ⟨g,1,none⟩ u1).setCell ⟨g,2,none⟩ u2).setCell ⟨g,3,none⟩ u3) v c:=by
 obtain⟨B0,B1,B2,d0,d1,d2,rfl,q0,q1,q2,k0,k1,k2⟩:=h.out;exact⟨B0,B1,B2,d0,d1,d2,rfl,q0.setS hg u0 u1 u2 u3,q1.setS hg u0 u1 u2 u3,q2.setS hg u0 u1 u2 u3,k0,k1,k2⟩
/-- a raw shape -/
structure RawS where
 k:Int
 r:Int
 h:P3
 pts:List P3
/-- a list of raw shapes -/
def RdW (w:World)(A:Option Addr)(l:List RawS):Prop:=∀i s,l[i]?=some s→∃b o Ai ci,A=some ⟨b,o,none⟩∧b<w.heap.size∧w.cell? ⟨b,o+i*6,none⟩=some (.int .i64 s.k)∧w.cell? ⟨b,o+i*6+1,none⟩=some (.int .i64 s.r)∧w.cell? ⟨b,o+i*6+2,none⟩=some (.int .i64 s.h.x)∧w.cell? ⟨b,o+i*6+3,none⟩=some (.int .i64 s.h.y)∧w.cell? ⟨b,o+i*6+4,none⟩=some (.int .i64 s.h.z)∧w.cell? ⟨b,o+i*6+5,none⟩=some (.slice Ai s.pts.length ci)∧RdB w Ai s.pts∧RawOk s.k s.r s.h s.pts
theorem RdW.below {w w1:World}{A:Option Addr}{l:List RawS}(h:RdW w A l)(hb:Below w.heap.size w w1):RdW w1 A l:=fun i s hs=>by
 obtain⟨b,o,Ai,ci,e,hlt,h0,h1,h2,h3,h4,h5,h6,h7⟩:=h i s hs;exact⟨b,o,Ai,ci,e,Nat.lt_of_lt_of_le hlt hb.size,(hb.cell (p:=⟨b,_,none⟩) hlt).trans h0,(hb.cell (p:=⟨b,_,none⟩) hlt).trans h1,(hb.cell (p:=⟨b,_,none⟩) hlt).trans h2,(hb.cell (p:=⟨b,_,none⟩) hlt).trans h3,(hb.cell (p:=⟨b,_,none⟩) hlt).trans h4,(hb.cell (p:=⟨b,_,none⟩) hlt).trans h5,h6.below hb,h7⟩
theorem RdW.get {w:World}{A:Option Addr}{l:List RawS}(h:RdW w A l)(i:Nat)(hi:i<l.length):∃b o Ai ci,A=some ⟨b,o,none⟩∧b<w.heap.size∧w.cell? ⟨b,o+i*6,none⟩=some (.int .i64 l[i].k)∧w.cell? ⟨b,o+i*6+1,none⟩=some (.int .i64 l[i].r)∧w.cell? ⟨b,o+i*6+2,none⟩=some (.int .i64 l[i].h.x)∧w.cell? ⟨b,o+i*6+3,none⟩=some (.int .i64 l[i].h.y)∧w.cell? ⟨b,o+i*6+4,none⟩=some (.int .i64 l[i].h.z)∧w.cell? ⟨b,o+i*6+5,none⟩=some (.slice Ai l[i].pts.length ci)∧RdB w Ai l[i].pts∧RawOk l[i].k l[i].r l[i].h l[i].pts:=
 h i _ (List.getElem?_eq_getElem hi)
/-- a list of raw poses -/
def RdQ (w:World)(A:Option Addr)(l:List P7):Prop:=∀i q,l[i]?=some q→∃b o,A=some ⟨b,o,none⟩∧b<w.heap.size∧w.cell? ⟨b,o+i*7,none⟩=some (.int .i64 q.at_.x)∧w.cell? ⟨b,o+i*7+1,none⟩=some (.int .i64 q.at_.y)∧w.cell? ⟨b,o+i*7+2,none⟩=some (.int .i64 q.at_.z)∧w.cell? ⟨b,o+i*7+3,none⟩=some (.int .i64 q.turn.w)∧w.cell? ⟨b,o+i*7+4,none⟩=some (.int .i64 q.turn.x)∧w.cell? ⟨b,o+i*7+5,none⟩=some (.int .i64 q.turn.y)∧w.cell? ⟨b,o+i*7+6,none⟩=some (.int .i64 q.turn.z)∧i64s q
theorem RdQ.below {w w1:World}{A:Option Addr}{l:List P7}(h:RdQ w A l)(hb:Below w.heap.size w w1):RdQ w1 A l:=fun i s hs=>by
 obtain⟨b,o,e,hlt,h0,h1,h2,h3,h4,h5,h6,h7⟩:=h i s hs;exact⟨b,o,e,Nat.lt_of_lt_of_le hlt hb.size,(hb.cell (p:=⟨b,_,none⟩) hlt).trans h0,(hb.cell (p:=⟨b,_,none⟩) hlt).trans h1,(hb.cell (p:=⟨b,_,none⟩) hlt).trans h2,(hb.cell (p:=⟨b,_,none⟩) hlt).trans h3,(hb.cell (p:=⟨b,_,none⟩) hlt).trans h4,(hb.cell (p:=⟨b,_,none⟩) hlt).trans h5,(hb.cell (p:=⟨b,_,none⟩) hlt).trans h6,h7⟩
theorem RdQ.get {w:World}{A:Option Addr}{l:List P7}(h:RdQ w A l)(i:Nat)(hi:i<l.length):∃b o,A=some ⟨b,o,none⟩∧b<w.heap.size∧w.cell? ⟨b,o+i*7,none⟩=some (.int .i64 l[i].at_.x)∧w.cell? ⟨b,o+i*7+1,none⟩=some (.int .i64 l[i].at_.y)∧w.cell? ⟨b,o+i*7+2,none⟩=some (.int .i64 l[i].at_.z)∧w.cell? ⟨b,o+i*7+3,none⟩=some (.int .i64 l[i].turn.w)∧w.cell? ⟨b,o+i*7+4,none⟩=some (.int .i64 l[i].turn.x)∧w.cell? ⟨b,o+i*7+5,none⟩=some (.int .i64 l[i].turn.y)∧w.cell? ⟨b,o+i*7+6,none⟩=some (.int .i64 l[i].turn.z)∧i64s l[i]:=
 h i _ (List.getElem?_eq_getElem hi)
end Go.Proofs.YtckdhahceelckaaGreat.G
namespace Go.Proofs.YtckdhahceelckaaGreat.G
open Go.RowKit Go.Proofs.YtckdhahceelckaaGreatW.PrintWords Go.Proofs.YtckdhahceelckaaGreatW.PrintLast Go.Proofs.YtckdhahceelckaaGreatW.PrintMore
attribute [local go_sem] max2_mx min2_mn max_two min_two max_three min_three max_four min_four
attribute [local go_sem high] eqA23 eqA40
theorem RdCF.mono {w:World}{base b':Nat}{A:Option Addr}{l:List Cr}(h:RdCF w base A l)(hb:b'≤base):RdCF w b' A l:=fun i c hc=>by
 obtain⟨b,o,A0,A1,A2,n0,n1,n2,c0,c1,c2,e,hlt,h0,h1,h2,h3,h4,h5,l0,l1,l2⟩:=h i c hc;exact⟨b,o,A0,A1,A2,n0,n1,n2,c0,c1,c2,e,hlt,h0,h1,h2,h3,h4,Nat.le_trans hb h5,fun h ad e=>Nat.le_trans hb (l0 h ad e),fun h ad e=>Nat.le_trans hb (l1 h ad e),fun h ad e=>Nat.le_trans hb (l2 h ad e)⟩
end Go.Proofs.YtckdhahceelckaaGreat.G
namespace Go.Proofs.YtckdhahceelckaaGreat.G
open Go.ChangeShapes Go.WideShapes Go.RowKit
theorem cell_num {w:World}{r:Reach}{base:Nat}{v:Value}(h:Cell.okWide Tryz.prog w r base 3 v):∃n,v= .int .i64 n∧i64 n:=by
 simp only[Cell.okWide,Tryz.underlying3]at h;cases v<;>simp_all [Cell.ok,Tryz.underlying3];obtain⟨h1,h2⟩:=h.2;exact⟨h1,h2⟩
theorem list_of {α:Type}{Q:Nat→α→Prop}:∀(n:Nat),(∀i,i<n→∃p,Q i p)→∃l:List α,l.length=n∧∀i p,l[i]?=some p→Q i p
 |0,_=>⟨[],rfl,fun i p h=>by simp at h⟩
 |n+1,H=>by
  obtain⟨l,hl,hq⟩:=list_of n fun i hi=>H i (by omega);obtain⟨p,hp⟩:=H n (by omega);refine⟨l++[p],by simp[hl],fun i q h=>?_⟩;rcases Nat.lt_or_ge i l.length with h'|h'
  ·rw[List.getElem?_append_left h']at h;exact hq i q h
  ·rw[List.getElem?_append_right h']at h;have:i-l.length=0:=by
    rcases Nat.eq_zero_or_pos (i-l.length)with e|e
    ·exact e
    ·rw[List.getElem?_eq_none (by simp;omega)]at h;cases h
   rw[this]at h;simp at h;subst h;have:i=n:=by omega
   rwa [this]
section
variable {H:Type}{enc:TypeId×Value→H}{W:World}{base:Nat}{spare:Nat→Bool}{held:Bool}
/-- a slice of points that reads, read -/
theorem open_pts {fuel:Nat}{A:Option Addr}{n c:Nat}{y:DataW H×List MemPlace}(hA:∀a,A=some a→a.spot=none∧a.block<W.heap.size)
  (h:DataW.trod enc Tryz.prog W base spare held fuel 24 [.slice A n c]=some y) (hw:∀k∈y.1.weights Tryz.prog 24,k≤reachBytes):
  ∃l:List P3,l.length=n∧RdB W A l∧(∀p∈l,pI64 p)∧l.length≤4611686018427387904:=by
 rcases Go.Deep.open_slice Tryz.underlying24 h with⟨e,_⟩|⟨a,len,cap,m,k,D,Pl,e,hb,hl,hc,hm,hx,hf⟩
 ·simp only[List.cons.injEq,Value.slice.injEq,and_true]at e;obtain⟨rfl,rfl,rfl⟩:=e;exact⟨[],rfl,RdB.nil W,by simp,by simp⟩
 ·simp only[List.cons.injEq,Value.slice.injEq,and_true]at e;obtain⟨rfl,rfl,rfl⟩:=e;obtain⟨hs,hlt⟩:=hA a rfl;obtain⟨b,o,s⟩:=a;simp only at hs hlt;subst hs;have hlen:n≤4611686018427387904:=by
   rw[hx]at hw;have:=hw _ (by rw[DataW.weights,Tryz.underlying24];exact List.mem_cons_self);have hbs:Tryz.prog.bytesOf 23=24:=by kernel_rfl
   rw[hbs]at this;simp[reachBytes]at this;omega
  have hcells:Tryz.prog.cellsOf 23=3:=by kernel_rfl
  have each:∀i,i<n→∃p:P3,pI64 p∧W.cell? ⟨b,o+i*3,none⟩=some (.int .i64 p.x)∧W.cell? ⟨b,o+i*3+1,none⟩=some (.int .i64 p.y)∧W.cell? ⟨b,o+i*3+2,none⟩=some (.int .i64 p.z):=by
   intro i hi;have him:i<m:=by
    rw[hm];split<;>omega
   obtain⟨cs',h1,h2⟩:=hf i him;rw[hcells]at h1;obtain⟨_,hl3,hg⟩:=World.cells?_some h1;have ea:(⟨b,o,none⟩:Addr).add (i*3)=⟨b,o+i*3,none⟩:=by
    unfold Addr.add;split
    ·rename_i h0;rw[h0];rfl
    ·rfl
   rw[ea]at hg;obtain⟨v0,v1,v2,rfl⟩:∃v0 v1 v2,cs'=[v0,v1,v2]:=by
    match cs',hl3 with
    |[v0,v1,v2],_=>exact⟨v0,v1,v2,rfl⟩
   obtain⟨y0,y1,y2,n',_,_,t0,t1,t2⟩:=Go.Deep.trod_struct3 Tryz.underlying23 h2;obtain⟨x,hx',_,wx⟩:=DataW.trod_int (k:= .i64) Tryz.underlying3 t0;obtain⟨y,hy',_,wy⟩:=DataW.trod_int (k:= .i64) Tryz.underlying3 t1;obtain⟨z,hz',_,wz⟩:=DataW.trod_int (k:= .i64) Tryz.underlying3 t2;have k3:Tryz.prog.cellsOf 3=1:=by kernel_rfl
   simp[k3]at hx' hy' hz';subst hx' hy' hz';exact⟨⟨x,y,z⟩,⟨i64_of_wf wx,i64_of_wf wy,i64_of_wf wz⟩,hg 0 (by decide),hg 1 (by decide),hg 2 (by decide)⟩
  obtain⟨l,hll,hq⟩:=list_of n each;refine⟨l,hll,⟨fun i p hp=>⟨b,o,rfl,hlt,(hq i p hp).2⟩,fun _ ad e=>by cases e;exact hlt⟩,fun p hp=>?_,by omega⟩;obtain⟨i,hi⟩:=List.getElem?_of_mem hp;exact(hq i p hi).1
end
end Go.Proofs.YtckdhahceelckaaGreat.G
