/- What the laws of this claim lean on: contracts of functions and plain lemmas; no condition of its own (part 2: XB, XN11, XN12, XN2, XW1, XL1). -/
import Derived.Test.YtckdhahceelckaaGreatKQ1
set_option maxHeartbeats 16000000
set_option maxRecDepth 100000
set_option linter.unusedVariables false
set_option linter.unusedSimpArgs false
namespace Go.Proofs.YtckdhahceelckaaGreat.G
open Go.RowKit Go.Proofs.YtckdhahceelckaaGreatW.PrintWords Go.Proofs.YtckdhahceelckaaGreatW.PrintLast Go.Proofs.YtckdhahceelckaaGreatW.PrintMore
theorem max2_mx (k k':IntKind)(x y:Int):Builtin.max2 (.int k x) (.int k' y)=pure (.int k (mx x y)):=max2_int k k' x y
theorem min2_mn (k k':IntKind)(x y:Int):Builtin.min2 (.int k x) (.int k' y)=pure (.int k (mn x y)):=min2_int k k' x y
/-- the first k are, the rest are not -/
abbrev MT (k m:Nat):Array Bool:=(List.replicate k true++List.replicate m false).toArray
structure P3 where
  x:Int
  y:Int
  z:Int
deriving DecidableEq
def dot3 (p q:P3):Int:=wrap64 ((wrap64 ((wrap64 (p.x*q.x))+(wrap64 (p.y*q.y))))+(wrap64 (p.z*q.z)))
def minus3 (p q:P3):P3:=⟨wrap64 (p.x-q.x),wrap64 (p.y-q.y),wrap64 (p.z-q.z)⟩
def cross3 (a b:P3):P3:=⟨wrap64 ((wrap64 (a.y*b.z))-(wrap64 (a.z*b.y))),wrap64 ((wrap64 (a.z*b.x))-(wrap64 (a.x*b.z))),wrap64 ((wrap64 (a.x*b.y))-(wrap64 (a.y*b.x)))⟩
/-- a part's size is above n -/
def far3 (n:Int)(p:P3):Bool:=decide (mx (mx p.x p.y) p.z>n) || decide (mn (mn p.x p.y) p.z<wrap64 (-n))
theorem bcell {w w1:World}(hb:Below w.heap.size w w1):(∀b o,b<w.heap.size→w1.cell? ⟨b,o,none⟩=w.cell? ⟨b,o,none⟩)∧(∀b o,b<w.heap.size→w1.frozen? ⟨b,o,none⟩=w.frozen? ⟨b,o,none⟩):=
  ⟨fun b o h=>hb.cell (p:=⟨b,o,none⟩) h,fun b o h=>hb.frozen (p:=⟨b,o,none⟩) h⟩
theorem bthen {w w1 w2:World}(h:Below w.heap.size w w1)(k:Below w1.heap.size w1 w2):Below w.heap.size w w2:=h.trans (k.mono h.size)
/-- three cells of block g hold a, b, c and may be written -/
structure C3 (w:World) (g:Nat) (a b c:Value):Prop where
  c0:w.cell? ⟨g,0,none⟩=some a
  c1:w.cell? ⟨g,1,none⟩=some b
  c2:w.cell? ⟨g,2,none⟩=some c
  f0:w.frozen? ⟨g,0,none⟩=false
  f1:w.frozen? ⟨g,1,none⟩=false
  f2:w.frozen? ⟨g,2,none⟩=false
theorem C3.below {w w1:World}{g a b c}(h:C3 w g a b c)(hb:Below w.heap.size w w1):C3 w1 g a b c:=by
  have hg:g<w.heap.size:=World.block_lt_of_cell? w _ h.c0;exact⟨(hb.cell (p:=⟨g,0,none⟩) hg).trans h.c0,(hb.cell (p:=⟨g,1,none⟩) hg).trans h.c1,(hb.cell (p:=⟨g,2,none⟩) hg).trans h.c2,(hb.frozen (p:=⟨g,0,none⟩) hg).trans h.f0,(hb.frozen (p:=⟨g,1,none⟩) hg).trans h.f1,(hb.frozen (p:=⟨g,2,none⟩) hg).trans h.f2⟩
theorem C3.drew {w:World}{g a b c}(h:C3 w g a b c):C3 w.drew g a b c:=⟨h.c0,h.c1,h.c2,h.f0,h.f1,h.f2⟩
theorem C3.drewN {w:World}{g a b c}(h:C3 w g a b c)(n:Nat):C3 (w.drewN n) g a b c:=⟨h.c0,h.c1,h.c2,h.f0,h.f1,h.f2⟩
theorem C3.of {w:World}{g a b c t}(h:w.heap[g]?=some (.cells #[a,b,c] t (0,0))):C3 w g a b c:=
  ⟨blk_cell h 0,blk_cell h 1,blk_cell h 2,blk_frozen h 0,blk_frozen h 1,blk_frozen h 2⟩
theorem C3.new (w:World)(a b c:Value)(t:TypeId):C3 (w.alloc (.cells #[a,b,c] t)) w.heap.size a b c:= .of (heap_alloc_new w _)
theorem C3.alloc {w:World}{g a b c}(h:C3 w g a b c)(o:Obj):C3 (w.alloc o) g a b c:=h.below ((Below.refl _ w).alloc (Nat.le_refl _) o)
theorem C3.lt {w:World}{g a b c}(h:C3 w g a b c):g<w.heap.size:=World.block_lt_of_cell? w _ h.c0
theorem C3.far {w:World}{g a b c}(h:C3 w g a b c){p:Addr}(hp:p.block≠g)(u:Value):C3 (w.setCell p u) g a b c:=by
  have e:(w.setCell p u).heap[g]?=w.heap[g]?:=Below.heap_setCell w p u g (Ne.symm hp);exact⟨(World.cell?_of_block (a:=⟨g,0,none⟩) e).trans h.c0,(World.cell?_of_block (a:=⟨g,1,none⟩) e).trans h.c1,(World.cell?_of_block (a:=⟨g,2,none⟩) e).trans h.c2,(World.frozen?_of_block (a:=⟨g,0,none⟩) e).trans h.f0,(World.frozen?_of_block (a:=⟨g,1,none⟩) e).trans h.f1,(World.frozen?_of_block (a:=⟨g,2,none⟩) e).trans h.f2⟩
theorem C3.set0 {w:World}{g a b c}(h:C3 w g a b c)(u:Value):C3 (w.setCell ⟨g,0,none⟩ u) g u b c:=
  ⟨World.cell?_setCell_same' _ _ _ (by rw[h.c0];rfl),(World.cell?_setCell_other w ⟨g,0,none⟩ ⟨g,1,none⟩ u (by simp)).trans h.c1,(World.cell?_setCell_other w ⟨g,0,none⟩ ⟨g,2,none⟩ u (by simp)).trans h.c2,by rw[World.frozen?_setCell];exact h.f0,by rw[World.frozen?_setCell];exact h.f1,by rw[World.frozen?_setCell];exact h.f2⟩
theorem C3.set1 {w:World}{g a b c}(h:C3 w g a b c)(u:Value):C3 (w.setCell ⟨g,1,none⟩ u) g a u c:=
  ⟨(World.cell?_setCell_other w ⟨g,1,none⟩ ⟨g,0,none⟩ u (by simp)).trans h.c0,World.cell?_setCell_same' _ _ _ (by rw[h.c1];rfl),(World.cell?_setCell_other w ⟨g,1,none⟩ ⟨g,2,none⟩ u (by simp)).trans h.c2,by rw[World.frozen?_setCell];exact h.f0,by rw[World.frozen?_setCell];exact h.f1,by rw[World.frozen?_setCell];exact h.f2⟩
theorem C3.set2 {w:World}{g a b c}(h:C3 w g a b c)(u:Value):C3 (w.setCell ⟨g,2,none⟩ u) g a b u:=
  ⟨(World.cell?_setCell_other w ⟨g,2,none⟩ ⟨g,0,none⟩ u (by simp)).trans h.c0,(World.cell?_setCell_other w ⟨g,2,none⟩ ⟨g,1,none⟩ u (by simp)).trans h.c1,World.cell?_setCell_same' _ _ _ (by rw[h.c2];rfl),by rw[World.frozen?_setCell];exact h.f0,by rw[World.frozen?_setCell];exact h.f1,by rw[World.frozen?_setCell];exact h.f2⟩
/-- the point at block g written -/
abbrev set3 (w:World)(g:Nat)(x y z:Value):World:=((w.setCell ⟨g,0,none⟩ x).setCell ⟨g,1,none⟩ y).setCell ⟨g,2,none⟩ z
theorem C3.set {w:World}{g a b c}(h:C3 w g a b c)(x y z:Value):C3 (set3 w g x y z) g x y z:=((h.set0 x).set1 y).set2 z
theorem C3.other {w:World}{g g' a b c}(h:C3 w g a b c)(hne:g'≠g)(x y z:Value):C3 (set3 w g' x y z) g a b c:=((h.far (p:=⟨g',0,none⟩) hne x).far (p:=⟨g',1,none⟩) hne y).far (p:=⟨g',2,none⟩) hne z
theorem below_set3 {B:Nat}{a w:World}(h:Below B a w){g:Nat}(hg:B≤g)(x y z:Value):Below B a (set3 w g x y z):=((h.setCell (p:=⟨g,0,none⟩) hg x).setCell (p:=⟨g,1,none⟩) hg y).setCell (p:=⟨g,2,none⟩) hg z
/-- the slice at A reads as the points l -/
def Rd (w:World)(A:Option Addr)(l:List P3):Prop:=
  ∀i p,l[i]?=some p→∃b o,A=some ⟨b,o,none⟩∧b<w.heap.size∧w.cell? ⟨b,o+i*3,none⟩=some (.int .i64 p.x)∧w.cell? ⟨b,o+i*3+1,none⟩=some (.int .i64 p.y)∧w.cell? ⟨b,o+i*3+2,none⟩=some (.int .i64 p.z)
theorem Rd.below {w w1:World}{A l}(h:Rd w A l)(hb:Below w.heap.size w w1):Rd w1 A l:=fun i p hp=>by
  obtain⟨b,o,hA,hlt,h1,h2,h3⟩:=h i p hp;exact⟨b,o,hA,Nat.lt_of_lt_of_le hlt hb.size,(hb.cell (p:=⟨b,_,none⟩) hlt).trans h1,(hb.cell (p:=⟨b,_,none⟩) hlt).trans h2,(hb.cell (p:=⟨b,_,none⟩) hlt).trans h3⟩
theorem Rd.get {w:World}{A:Option Addr}{l:List P3}(h:Rd w A l)(i:Nat)(hi:i<l.length):∃b o,A=some ⟨b,o,none⟩∧b<w.heap.size∧w.cell? ⟨b,o+i*3,none⟩=some (.int .i64 l[i].x)∧w.cell? ⟨b,o+i*3+1,none⟩=some (.int .i64 l[i].y)∧w.cell? ⟨b,o+i*3+2,none⟩=some (.int .i64 l[i].z):=
  h i _ (List.getElem?_eq_getElem hi)
theorem Rd.nil (w:World)(A:Option Addr):Rd w A []:=fun i p hp=>by simp at hp
theorem Rd.drew {w:World}{A l}(h:Rd w A l):Rd w.drew A l:=h
theorem Rd.alloc {w:World}{A l}(h:Rd w A l)(o:Obj):Rd (w.alloc o) A l:=h.below ((Below.refl _ w).alloc (Nat.le_refl _) o)
theorem info23:(Tryz.prog.info? 23).map (fun i=>(i.zero,i.size,i.bytes))=some (some (.agg #[(.int .i64 0),(.int .i64 0),(.int .i64 0)]),3,24):=by kernel_rfl
/-- '==' of two points -/
def eqP (x y z a b c:Int):Bool:=x == a&&(y == b&&z == c)
theorem eqA23 (d:Nat)(w:World)(x0 y0:Int)(x1 y1:Int)(x2 y2:Int):
    (Op.equalIn (d+2) 23 (.agg #[.int .i64 x0, .int .i64 x1, .int .i64 x2]) (.agg #[.int .i64 y0, .int .i64 y1, .int .i64 y2])).run Tryz.prog w= .ok (eqP x0 x1 x2 y0 y1 y2) w:=by
  unfold eqP;refine eqA_of Tryz.underlying23 (by kernel_rfl) ?_;refine eqf_cons (by rfl) (by go_simp;rfl) (by go_simp;rfl) (by go_simp) ?_;refine eqf_cons (by rfl) (by go_simp;rfl) (by go_simp;rfl) (by go_simp) ?_;exact eqf_last (by rfl) (by go_simp;rfl) (by go_simp;rfl) (by go_simp)
theorem eqP_iff (x y z a b c:Int):eqP x y z a b c=true↔(⟨x,y,z⟩:P3)=⟨a,b,c⟩:=by
  unfold eqP;simp
theorem eqP_no {x y z a b c:Int}(h:(⟨x,y,z⟩:P3)≠⟨a,b,c⟩):eqP x y z a b c=false:=by
  cases e:eqP x y z a b c
  · rfl
  · exact absurd ((eqP_iff ..).1 e) h
theorem eqP_yes {x y z a b c:Int}(h:(⟨x,y,z⟩:P3)=⟨a,b,c⟩):eqP x y z a b c=true:=(eqP_iff ..).2 h
section
variable {P:Program}{ops:Array Oper}{Q:Exit→Act→World→Prop}{md:Region.Mode}{S:World→Prop}{ds:List Nat}
/-- a pure operation -/
theorem pu_ (i:Nat)(n:Tmp){oi:Oper}{v:Value}{fuel:Nat}{l l':Array Bool}{a a':Act}{w:World}
    (hi:ops[i]?=some oi:=by rfl) (hN:oi.dst=some n:=by rfl)
    (hl:l.setIfInBounds i true=l':=by simp only[List.setIfInBounds_toArray,List.set_cons_zero,List.set_cons_succ];rfl)
    (hc:anyB md ops l l' i=true:=by kernel_rfl)
    (hQ:∀c a w,Q (.panic c) (a.put oi.dst v) w→Q (.panic c) a w:=by exact fun _ _ _ h=>h)
    (hy:Yields P ops oi v a:=by exact Or.inl ⟨by rfl,by intro w';go_simp;with_reducible rfl⟩)
    (ha:a.put (some n) v=a':=by first|(simp only[Act.put,List.setIfInBounds_toArray,List.set_cons_zero,List.set_cons_succ,i64_w,i32_w];rfl)|rfl)
    (h:wpAnyLast P md ops Q S ds fuel l' a' w):wpAnyLast P md ops Q S ds (fuel+1) l a w:=
  pure_ l' hi hN hc hQ hy ha h
/-- one whose guard is off -/
theorem of_ (i:Nat)(n:Tmp){oi:Oper}{fuel:Nat}{l l':Array Bool}{a a':Act}{w:World}
    (hi:ops[i]?=some oi:=by rfl) (hN:oi.dst=some n:=by rfl)
    (hl:l.setIfInBounds i true=l':=by simp only[List.setIfInBounds_toArray,List.set_cons_zero,List.set_cons_succ];rfl)
    (hc:anyB md ops l l' i=true:=by kernel_rfl)
    (hQ:∀c a w,Q (.panic c) (a.put oi.dst undef) w→Q (.panic c) a w:=by exact fun _ _ _ h=>h)
    (hy:Yields P ops oi undef a:=by exact Or.inr ⟨by rfl,rfl⟩)
    (ha:a.put (some n) undef=a':=by first|(simp only[Act.put,List.setIfInBounds_toArray,List.set_cons_zero,List.set_cons_succ,i64_w,i32_w];rfl)|rfl)
    (h:wpAnyLast P md ops Q S ds fuel l' a' w):wpAnyLast P md ops Q S ds (fuel+1) l a w:=
  pure_ l' hi hN hc hQ hy ha h
/-- one that reads what S says -/
theorem ta_ (i:Nat)(n:Tmp){oi:Oper}{v:Value}{fuel:Nat}{l l':Array Bool}{a a':Act}{w:World}(hS:S w)
    (hi:ops[i]?=some oi:=by rfl) (hN:oi.dst=some n:=by rfl)
    (hl:l.setIfInBounds i true=l':=by simp only[List.setIfInBounds_toArray,List.set_cons_zero,List.set_cons_succ];rfl)
    (hc:takeB md ops ds l l' i=true:=by kernel_rfl)
    (hQ:∀c a w,Q (.panic c) (a.put oi.dst v) w→Q (.panic c) a w:=by exact fun _ _ _ h=>h)
    (hy:YieldsIf P ops S oi v a:=by exact Or.inl ⟨by rfl,by intro w' hs;(repeat (obtain⟨_,hs⟩:=hs));go_simp;with_reducible rfl⟩)
    (ha:a.put (some n) v=a':=by first|(simp only[Act.put,List.setIfInBounds_toArray,List.set_cons_zero,List.set_cons_succ,i64_w,i32_w];rfl)|rfl)
    (h:wpAnyLast P md ops Q S ds fuel l' a' w):wpAnyLast P md ops Q S ds (fuel+1) l a w:=
  take_ l' hi hN hc hQ hy hS ha h
/-- the one that may come up now -/
theorem on_ (i:Nat)(N:Option Tmp){oi:Oper}{fuel:Nat}{l l':Array Bool}{a:Act}{w:World}
    (hi:ops[i]?=some oi:=by rfl) (hN:oi.dst=N:=by rfl)
    (hl:l.setIfInBounds i true=l':=by simp only[List.setIfInBounds_toArray,List.set_cons_zero,List.set_cons_succ];rfl)
    (hc:readyB md ops l l' i=true:=by kernel_rfl) (hd:i∉ds:=by decide)
    (h:∀K:Act→World→Prop,Shut (∀a' w',S w'→(S w'→wpAnyLast P md ops Q S ds fuel l' a' w')→K a' w')→if Region.wanted oi (yielded ops a.tmps)=true then Oper.wp P oi a w K Q else K (a.put N undef) w):
    wpAnyLast P md ops Q S ds (fuel+1) l a w:=
  one_ l' hi hN hc hd h
theorem no_ {fuel:Nat}{l:Array Bool}{a a':Act}{w:World}(ha:a=a':=by first|(simp only[putAll,Act.put,List.setIfInBounds_toArray,List.set_cons_zero,List.set_cons_succ,i64_w,i32_w];rfl)|rfl)
    (h:wpAnyLast P md ops Q S ds fuel l a' w):wpAnyLast P md ops Q S ds fuel l a w:=norm_ ha h
end
/-- said short: hidden -/
theorem Lh {p:Prop}(h:p):Hid p:=Lib.hid h
theorem nm_ {α:Type}(a:α):∃x,a=x:=⟨a,rfl⟩
theorem up_ {w w':World}(hb:Below w.heap.size w w'){k:Nat}{o:Obj}(h:Hid (w.heap[k]?=some o)):Hid (w'.heap[k]?=some o):=Lh ((hb.block _ (blk_lt h.out)).trans h.out)
theorem tm_ {B:Nat}{a w w':World}(h:Hid (Below B a w))(hb:Below w.heap.size w w')(hB:B≤a.heap.size:=by exact Nat.le_refl _):Hid (Below B a w'):=Lh (h.out.trans (hb.mono (Nat.le_trans hB h.out.size)))
theorem f1_ (g:Nat){w:World}{a:Value}{t:TypeId}(h:w.heap[g]?=some (.cells #[a] t (0,0))):w.cell? ⟨g,0,none⟩=some a∧g<w.heap.size:=⟨(blk_cell h 0).trans rfl,blk_lt h⟩
theorem f3_ (g:Nat){w:World}{a b c:Value}{t:TypeId}(h:w.heap[g]?=some (.cells #[a,b,c] t (0,0))):w.cell? ⟨g,0,none⟩=some a∧w.cell? ⟨g,1,none⟩=some b∧w.cell? ⟨g,2,none⟩=some c∧g<w.heap.size:=⟨(blk_cell h 0).trans rfl,(blk_cell h 1).trans rfl,(blk_cell h 2).trans rfl,blk_lt h⟩
theorem f4_ (g:Nat){w:World}{a b c d:Value}{t:TypeId}(h:w.heap[g]?=some (.cells #[a,b,c,d] t (0,0))):w.cell? ⟨g,0,none⟩=some a∧w.cell? ⟨g,1,none⟩=some b∧w.cell? ⟨g,2,none⟩=some c∧w.cell? ⟨g,3,none⟩=some d∧g<w.heap.size:=⟨(blk_cell h 0).trans rfl,(blk_cell h 1).trans rfl,(blk_cell h 2).trans rfl,(blk_cell h 3).trans rfl,blk_lt h⟩
theorem z3_ (g:Nat){w:World}{cs:Array Value}{t:TypeId}(h:w.heap[g]?=some (.cells cs t (0,0))):w.frozen? ⟨g,0,none⟩=false∧w.frozen? ⟨g,1,none⟩=false∧w.frozen? ⟨g,2,none⟩=false:=⟨blk_frozen h 0,blk_frozen h 1,blk_frozen h 2⟩
theorem z4_ (g:Nat){w:World}{cs:Array Value}{t:TypeId}(h:w.heap[g]?=some (.cells cs t (0,0))):w.frozen? ⟨g,0,none⟩=false∧w.frozen? ⟨g,1,none⟩=false∧w.frozen? ⟨g,2,none⟩=false∧w.frozen? ⟨g,3,none⟩=false:=⟨blk_frozen h 0,blk_frozen h 1,blk_frozen h 2,blk_frozen h 3⟩
/-- a call, said short -/
theorem gs_ {P:Program}{ops:Array Oper}{Q:Exit→Act→World→Prop}{oi:Oper}{N:Option Tmp}{a:Act}{w:World}{K:Act→World→Prop}{f:FuncId}{fn:Func}{os:Array Operand}{ts:Array TypeId}(hf:P.funcs[f]?=some fn)(args:Array Value)
    (h:Calls P f args w fun e w'=>∃v,e= .returned v∧K (a.put N v) w')
    (hname:(fn.name == "runtime.NumGoroutine")=false:=by kernel_rfl) (hb:fn.body.isSome=true:=by rfl) (hw:Region.wanted oi (yielded ops a.tmps)=true:=by rfl) (hN:oi.dst=N:=by rfl) (hop:oi.op= .call {callee:= .value (.func f),args:=os,argTypes:=ts}:=by rfl) (hargs:os.map a.eval=args:=by simp only[List.map_toArray,List.map_cons,List.map_nil];rfl):if Region.wanted oi (yielded ops a.tmps)=true then Oper.wp P oi a w K Q else K (a.put N undef) w:=
  goes_ hf hname hb args hw hN hop hargs h
section
variable {P:Program}{ops:Array Oper}{Q:Exit→Act→World→Prop}{md:Region.Mode}{S:World→Prop}{ds:List Nat}
/-- a bit pattern -/
abbrev MB_ (n k:Nat):Array Bool:=((List.range n).map fun i=>k.testBit i).toArray
theorem va_ {oi:Oper}{N:Option Tmp}{a:Act}{w w1:World}{v:Value}{K:Act→World→Prop}(h:K (a.put N v) w1)(hw:Region.wanted oi (yielded ops a.tmps)=true:=by rfl)(hN:oi.dst=N:=by rfl)(hrun:(execOp a.eval oi).run P w= .ok (.value v) w1:=by go_simp<;>(constructor<;>rfl)):if Region.wanted oi (yielded ops a.tmps)=true then Oper.wp P oi a w K Q else K (a.put N undef) w:=value_ hw hN hrun h
theorem nz_ {fuel:Nat}{l:Array Bool}{a a':Act}{w:World}(h:wpAnyLast P md ops Q S ds fuel l a' w)(ha:a=a':=by simp only[putAll,Act.put,List.setIfInBounds_toArray,List.set_cons_zero,List.set_cons_succ]):wpAnyLast P md ops Q S ds fuel l a w:=norm_ ha h
end
end Go.Proofs.YtckdhahceelckaaGreat.G
namespace Go.Proofs.YtckdhahceelckaaGreat.G
open Go.RowKit Go.Proofs.YtckdhahceelckaaGreatW.PrintWords Go.Proofs.YtckdhahceelckaaGreatW.PrintLast Go.Proofs.YtckdhahceelckaaGreatW.PrintMore
attribute [local go_sem] max2_mx min2_mn max_two min_two max_three min_three max_four min_four
attribute [local go_sem high] eqA23
def OwnP (w:World)(base:Nat)(v:Value)(l:List P3):Prop:=w.ownsRow base 23 3 v l.length (l.flatMap fun p=>[.int .i64 p.x, .int .i64 p.y, .int .i64 p.z])
def GrowPost (w:World)(e:Ending)(w':World):Prop:=∃v,e= .returned v∧OwnP w' w.heap.size v []∧Below w.heap.size w w'
theorem grow_calls (n:Nat)(w:World)(hn:n≤100000):
  Calls Tryz.prog 145 #[.slice none 0 0, .int .i64 n] w (GrowPost w):=by
 obtain⟨i0,hi0,hz0,hsz0,hby0⟩:=info_parts info23;by_cases h0:n=0
 ·subst h0;go_enter Tryz.func145,Tryz.ntmps145;go_wp2
  go_ret
  exact⟨_,rfl,World.ownsRow_nil _ _ _ _,Below.refl _ _⟩
 ·have hap:=fun W=>Go.Lib.run_append_nil_zeros (P:=Tryz.prog) W 24 3 24 23 i0 (.agg #[(.int .i64 0),(.int .i64 0),(.int .i64 0)]) .i64 .i64 Tryz.underlying24 Tryz.underlying3 hi0 hz0 n (by omega) (by rw[hsz0];omega) (by omega) (by rw[hby0];omega);have hpos:(0:Int)<(n:Int):=by omega
  have hcap:∀W:World,n≤grownCap W n 0 23:=fun W=>grownCap_ge W n 0 23;have hcap2:∀W:World,grownCap W n 0 23≤maxLen:=fun W=>grownCap_le_maxLen W n 0 23 (by unfold maxLen;omega);have HAP:=Lh hap;have HC:=Lh hcap;have HC2:=Lh hcap2;clear hap hcap hcap2;go_enter Tryz.func145,Tryz.ntmps145;go_wp2_with(at_builtin;refine Go.Lib.wpList_append_run _ rfl _ _ _ _ rfl _ _ rfl rfl _ _ (HAP.out _) ?_)
  go_ret
  refine⟨.slice (some ⟨w.heap.size,0,none⟩) 0 (grownCap w n 0 23),rfl,?_,((Below.refl _ w).alloc (Nat.le_refl _) _).drew⟩;exact World.ownsRow_made w _ _ (Nat.le_refl _) (HC2.out w) (by simp[size_zeroCells];have:=HC.out w;omega)
def cells3 (l:List P3):List Value:=l.flatMap fun p=>[.int .i64 p.x, .int .i64 p.y, .int .i64 p.z]
theorem cells3_length (l:List P3):(cells3 l).length=l.length*3:=by
 induction l with
 |nil=>rfl
 |cons p l ih=>simp only[cells3,List.flatMap_cons,List.length_append,List.length_cons,List.length_nil]at*;omega
theorem Rd.tail {w:World}{b o:Nat}{p:P3}{l:List P3}(h:Rd w (some ⟨b,o,none⟩) (p::l)):Rd w (some ⟨b,o+3,none⟩) l:=fun i q hq=>by
 obtain⟨b',o',e,hb,h1,h2,h3⟩:=h (i+1) q (by simpa using hq);simp only[Option.some.injEq,Addr.mk.injEq,and_true]at e;obtain⟨rfl,rfl⟩:=e;have ee:o+(i+1)*3=o+3+i*3:=by omega
 rw[ee]at h1 h2 h3;exact⟨b,o+3,rfl,hb,h1,h2,h3⟩
theorem Rd.cells {w:World}{b:Nat}:∀{l:List P3} {o:Nat},Rd w (some ⟨b,o,none⟩) l→∀(j:Nat) (u:Value),(cells3 l)[j]?=some u→w.cell? ⟨b,o+j,none⟩=some u
 |[],o,_,j,u,hj=>by simp[cells3]at hj
 |p::l,o,h,j,u,hj=>by
  obtain⟨b',o',e,hb,h1,h2,h3⟩:=h 0 p rfl;simp only[Option.some.injEq,Addr.mk.injEq,and_true]at e;obtain⟨rfl,rfl⟩:=e;simp only[Nat.zero_mul,Nat.add_zero]at h1 h2 h3
  match j,hj with
  |0,hj=>simp only[cells3,List.flatMap_cons,List.cons_append,List.getElem?_cons_zero,Option.some.injEq]at hj;subst hj;exact h1
  |1,hj=>simp only[cells3,List.flatMap_cons,List.cons_append,List.getElem?_cons_succ,List.getElem?_cons_zero,Option.some.injEq]at hj;subst hj;exact h2
  |2,hj=>simp only[cells3,List.flatMap_cons,List.cons_append,List.getElem?_cons_succ,List.getElem?_cons_zero,Option.some.injEq]at hj;subst hj;exact h3
  |j+3,hj=>
   have:=Rd.cells h.tail j u (by simpa[cells3]using hj)
   rwa [show o+3+j=o+(j+3) from by omega]at this
theorem Rd.of_cells {w:World}{b o:Nat}{l:List P3}(hb:b<w.heap.size)(h:∀(j:Nat) (u:Value),(cells3 l)[j]?=some u→w.cell? ⟨b,o+j,none⟩=some u):Rd w (some ⟨b,o,none⟩) l:=by
 induction l generalizing o with
 |nil=>exact Rd.nil _ _
 |cons p l ih=>
  have hl:=ih (o:=o+3) (fun j u hj=>by have:=h (j+3) u (by simpa[cells3]using hj);rwa [show o+(j+3)=o+3+j from by omega]at this);intro i q hq
  cases i with
  |zero=>
   simp only[List.getElem?_cons_zero,Option.some.injEq]at hq;subst hq;refine⟨b,o,rfl,hb,?_,?_,?_⟩
   ·simpa using h 0 (.int .i64 p.x) (by simp[cells3])
   ·simpa using h 1 (.int .i64 p.y) (by simp[cells3])
   ·simpa using h 2 (.int .i64 p.z) (by simp[cells3])
  |succ i=>
   obtain⟨b',o',e,hb',h1,h2,h3⟩:=hl i q (by simpa using hq);simp only[Option.some.injEq,Addr.mk.injEq,and_true]at e;obtain⟨rfl,rfl⟩:=e;rw[show o+3+i*3=o+(i+1)*3 from by omega]at h1 h2 h3;exact⟨b,o,rfl,hb,h1,h2,h3⟩
theorem cells3_append (l m:List P3):cells3 (l++m)=cells3 l++cells3 m:=by simp[cells3]
theorem cells3_one (l:List P3):∀u∈cells3 l,u.oneCell'=true:=by
 intro u hu;simp only[cells3,List.mem_flatMap]at hu;obtain⟨p,_,hu⟩:=hu;simp at hu;rcases hu with rfl|rfl|rfl<;>rfl
theorem add_at (b o j:Nat):(⟨b,o,none⟩:Addr).add j=⟨b,o+j,none⟩:=by unfold Addr.add;split<;>simp_all
theorem OwnP.rd {w:World}{base:Nat}{v:Value}{l:List P3}(h:OwnP w base v l):∃A c,v= .slice A l.length c∧l.length≤c∧Rd w A l∧(∀ad,A=some ad→base≤ad.block):=by
 have h0:=h;obtain⟨h1,h2⟩:=h;rcases h2 with⟨rfl,hn⟩|⟨g,cap,cur,rfl,hb,hg,hnc,hm,hsz,ht⟩
 ·obtain rfl:=List.eq_nil_of_length_eq_zero hn;exact⟨none,0,rfl,Nat.le_refl _,Rd.nil _ _,fun ad e=>by cases e⟩
 ·refine⟨some ⟨g,0,none⟩,cap,rfl,hnc,Rd.of_cells (Array.getElem?_eq_some_iff.1 hg).1 fun j u hj=>?_,fun ad e=>by cases e;exact hb⟩;have:=h0.cells (g:=g) rfl j u hj
  rwa [add_at]at this
theorem OwnP.nil (w:World)(base:Nat):OwnP w base (.slice none 0 0) []:=World.ownsRow_nil _ _ _ _
theorem OwnP.grown {w w':World}{base:Nat}{v:Value}{l:List P3}(h:OwnP w base v l)(hb:Below w.heap.size w w'):OwnP w' base v l:=pw_own_below h hb
theorem OwnP.drew {w:World}{base:Nat}{v:Value}{l:List P3}(h:OwnP w base v l):OwnP w.drew base v l:=h
theorem OwnP.base_ {w:World}{base:Nat}{v:Value}{l:List P3}(h:OwnP w base v l)(k:Nat)(hk:v.ownBlock=some k):base≤k:=own_base h k hk
section
variable {w:World}{ops:Array Oper}{rest:List Oper}{o:Oper}{a:Act}{Q:Exit→Act→World→Prop}
/-- append(v, xs...) of points -/
theorem append_pts (base:Nat)(hgd:o.guard=none)(s x:Operand)(ho:o.op= .call {callee:= .builtin .append,args:=#[s,x],argTypes:=#[24,24]})
  (v:Value) (l l2:List P3) (A:Option Addr) (m c:Nat) (hs:a.eval s=v) (hx:a.eval x= .slice A m c) (hown:OwnP w base v l) (hr:Rd w A l2) (hm:l2.length=m) (hsz:l.length+m≤1000000) (hbase:base≤w.heap.size)
  (h:∀v' w',OwnP w' base v' (l++l2)→w.grownBy w' v.ownBlock→wpList Tryz.prog ops Q rest (a.put o.dst v') w'):wpList Tryz.prog ops Q (o::rest) a w:=by
 obtain⟨i0,hi,hz0,hz1,hz2⟩:=info_parts info23
 cases A with
 |none=>
  have h0:l2=[]:=by
   cases l2 with
   |nil=>rfl
   |cons p l2=>obtain⟨b,o',e,_⟩:=hr 0 p rfl;cases e
  subst h0;simp only[List.length_nil]at hm;subst hm;refine Go.Lib.wpList_append_run w hgd s x 24 24 ho v (.slice none 0 c) hs hx v w ?_ (h v w (by rw[List.append_nil];exact hown) (World.grownBy.refl w _));rcases hown.2 with⟨rfl,hn⟩|⟨g,cap,cur,rfl,_,_,hnc,_⟩
  ·simp[Builtin.append_,run_underlying Tryz.underlying24,sizeOf,typeInfo,hi,Builtin.lenOf,Builtin.firstCells]
  ·simp[Builtin.append_,run_underlying Tryz.underlying24,sizeOf,typeInfo,hi,Builtin.lenOf,Builtin.firstCells,hnc,storeCells]
 |some ad=>
  have hnews:∀j u,(cells3 l2)[j]?=some u→w.cell? (ad.add j)=some u:=by
   cases l2 with
   |nil=>intro j u hj;simp[cells3]at hj
   |cons p l2=>
    obtain⟨b,o',e,_⟩:=hr 0 p rfl;simp only[Option.some.injEq]at e;subst e;intro j u hj;rw[add_at];exact hr.cells j u hj
  refine wpList_append_own w hgd s x 24 ho base 23 i0 _ 3 24 Tryz.underlying24 hi hz0 hz1 hz2 rfl (by omega) v l.length (cells3 l) hs hown ad m c (cells3 l2) hx (by rw[cells3_length,hm]) hnews (cells3_one l2) (by unfold maxLen;omega) (by omega) hbase ?_;intro v' w' h1 h2 _;refine h v' w' ?_ h2;show w'.ownsRow base 23 3 v' (l++l2).length (cells3 (l++l2));rw[cells3_append,List.length_append,hm];exact h1
end
end Go.Proofs.YtckdhahceelckaaGreat.G
namespace Go.Proofs.YtckdhahceelckaaGreat.G
open Go.RowKit Go.Proofs.YtckdhahceelckaaGreatW.PrintWords Go.Proofs.YtckdhahceelckaaGreatW.PrintLast Go.Proofs.YtckdhahceelckaaGreatW.PrintMore
attribute [local go_sem] max2_mx min2_mn max_two min_two max_three min_three max_four min_four
theorem gcd_tmod (a b:Int):Int.gcd b (a.tmod b)=Int.gcd a b:=by
 rw[Int.tmod_def,Int.gcd_comm];exact Int.gcd_sub_mul_left_left b a _
theorem ret_int {k:IntKind}{a b:Int}(h:a=b):Ending.returned (.int k a)=Ending.returned (.int k b):=by rw[h]
theorem w64_id (x:Int)(h1: -9223372036854775808≤x)(h2:x≤9223372036854775807):wrap64 x=x:=by unfold wrap64;omega
theorem gcd_calls (a b:Int)(w:World)(ha1: -4611686018427387904≤a)(ha2:a≤4611686018427387904)(hb1: -4611686018427387904≤b)(hb2:b≤4611686018427387904):
  Calls Tryz.prog 150 #[.int .i64 a, .int .i64 b] w fun e w'=>e= .returned (.int .i64 (Int.gcd a b))∧Below w.heap.size w w':=by
 go_enter Tryz.func150,Tryz.ntmps150;go_wp2;go_loopw [0,1] (fun v0 v1 wr=>∃x y:Int,v0= .int .i64 x∧v1= .int .i64 y∧Hid (Int.gcd x y=Int.gcd a b)∧ -4611686018427387904≤x∧x≤4611686018427387904∧ -4611686018427387904≤y∧y≤4611686018427387904∧Below w.heap.size w wr) (fun _ y _=>(intOf y).natAbs)
 case atStart=>exact⟨a,b,rfl,rfl,rfl,ha1,ha2,hb1,hb2,Below.refl _ _⟩
 case round=>
  obtain⟨x,y,rfl,rfl,hg,hx1,hx2,hy1,hy2,hbr⟩:=hrel;clear ha1 ha2 hb1 hb2;by_cases h0:y=0
  ·subst h0;go_wp2
   go_ret
   refine⟨ret_int ?_,hbr⟩;have e:=hg.out;simp at e;rw[←e];unfold mx;omega
  ·have h0':(y != 0)=true:=by simpa using h0
   have h0'':(y == 0)=false:=by simpa using h0
   have hG:=gcd_tmod x y;have hm1:(x.tmod y).natAbs<y.natAbs:=by rw[Int.natAbs_tmod];exact Nat.mod_lt _ (by omega)
   have HG:Hid (Int.gcd y (x.tmod y)=Int.gcd a b):=hG.trans hg.out;clear hG hg;go_wp2
   go_quiet (fail)
   go_wp2
   go_roundw
   case rel=>exact⟨y,x.tmod y,rfl,rfl,HG,by omega,by omega,by omega,by omega,pw_below_drewN hbr _⟩
   case measure=>simpa[intOf]using hm1
theorem beyond_calls (x y z n:Int)(w:World)(hn1:0≤n)(hn2:n≤9223372036854775807):
  Calls Tryz.prog 124 #[.agg #[.int .i64 x, .int .i64 y, .int .i64 z], .int .i64 n] w fun e w'=>e= .returned (.bool (far3 n ⟨x,y,z⟩))∧Below w.heap.size w w':=by
 have hw:wrap64 (-n)= -n:=w64_id _ (by omega) (by omega);unfold far3;rw[hw];clear hw;go_enter Tryz.func124,Tryz.ntmps124;go_wp2
 all_goals (go_ret;exact⟨by simp[*],((Below.refl _ _).alloc (Nat.le_refl _) _)⟩)
theorem tdiv_le (x n:Int)(B:Nat)(hx:x.natAbs≤B):(x.tdiv n).natAbs≤B:=by
 rw[Int.natAbs_tdiv];exact Nat.le_trans (Nat.div_le_self _ _) hx
theorem iw_id (x:Int)(h1: -9223372036854775808≤x)(h2:x≤9223372036854775807):IntKind.i64.wrap x=x:=by rw[IntKind.wrap_i64];omega
theorem iw_tdiv (x n:Int)(h1: -4611686018427387904≤x)(h2:x≤4611686018427387904):IntKind.i64.wrap (x.tdiv n)=x.tdiv n:=by
 have:=tdiv_le x n 4611686018427387904 (by omega);exact iw_id _ (by omega) (by omega)
def div3 (n:Int)(p:P3):P3:=⟨p.x.tdiv n,p.y.tdiv n,p.z.tdiv n⟩
theorem divisor_calls (n x y z:Int)(w:World)(hn:n≠0)(hn1:1≤n)(hx1: -4611686018427387904≤x)(hx2:x≤4611686018427387904)(hy1: -4611686018427387904≤y)(hy2:y≤4611686018427387904)(hz1: -4611686018427387904≤z)(hz2:z≤4611686018427387904):
  Calls Tryz.prog 126 #[.int .i64 n, .agg #[.int .i64 x, .int .i64 y, .int .i64 z]] w fun e w'=>e= .returned (.agg #[.int .i64 (div3 n ⟨x,y,z⟩).x, .int .i64 (div3 n ⟨x,y,z⟩).y, .int .i64 (div3 n ⟨x,y,z⟩).z])∧Below w.heap.size w w':=by
 have hd:(n == 0)=false:=by simpa using hn
 have ex:=iw_tdiv x n hx1 hx2;have ey:=iw_tdiv y n hy1 hy2;have ez:=iw_tdiv z n hz1 hz2;go_enter Tryz.func126,Tryz.ntmps126;go_wp2
 go_region_held3 (fun w'=>w'.cell? ⟨w.heap.size,0,none⟩=some (.int .i64 x)∧w'.cell? ⟨w.heap.size,1,none⟩=some (.int .i64 y)∧w'.cell? ⟨w.heap.size,2,none⟩=some (.int .i64 z)) (go_keep) (fail)
 go_wp2;exact bodyPost_ret (v:= .agg #[.int .i64 (div3 n ⟨x,y,z⟩).x, .int .i64 (div3 n ⟨x,y,z⟩).y, .int .i64 (div3 n ⟨x,y,z⟩).z]) (by simp[results,Tryz.results126,go_sem,div3]) rfl ⟨rfl,(by repeat (first|exact Below.refl _ _|refine Below.setCell ?_ (by simp<;>omega) _|refine Below.alloc ?_ (by simp<;>omega) _|refine Below.drew ?_))⟩
def gcd3 (p:P3):Int:=Int.gcd (Int.gcd p.x p.y) p.z
def bare3 (p:P3):P3:=div3 (gcd3 p) p
def in3 (n:Int)(p:P3):Prop:= -n≤p.x∧p.x≤n∧ -n≤p.y∧p.y≤n∧ -n≤p.z∧p.z≤n
theorem gcd_le_bd (a b:Int)(B:Nat)(ha:a.natAbs≤B)(hb:b.natAbs≤B):Int.gcd a b≤B:=by
 by_cases h:a=0
 ·subst h;simpa using hb
 ·exact Nat.le_trans (Nat.le_of_dvd (by omega) (Nat.gcd_dvd_left a.natAbs b.natAbs)) ha
theorem gcd3_pos (p:P3)(h:p≠⟨0,0,0⟩):1≤gcd3 p:=by
 unfold gcd3;rcases Nat.eq_zero_or_pos (Int.gcd (Int.gcd p.x p.y) p.z)with h0|h0
 ·exfalso;rw[Int.gcd_eq_zero_iff]at h0;obtain⟨h1,h2⟩:=h0;have h1':Int.gcd p.x p.y=0:=by omega
  rw[Int.gcd_eq_zero_iff]at h1';exact h (by cases p;simp_all)
 ·omega
theorem bare_calls (x y z:Int)(w:World)(hp:(⟨x,y,z⟩:P3)≠⟨0,0,0⟩)(hx1: -4611686018427387904≤x)(hx2:x≤4611686018427387904)(hy1: -4611686018427387904≤y)(hy2:y≤4611686018427387904)(hz1: -4611686018427387904≤z)(hz2:z≤4611686018427387904):
  Calls Tryz.prog 125 #[.agg #[.int .i64 x, .int .i64 y, .int .i64 z]] w fun e w'=>e= .returned (.agg #[.int .i64 (bare3 ⟨x,y,z⟩).x, .int .i64 (bare3 ⟨x,y,z⟩).y, .int .i64 (bare3 ⟨x,y,z⟩).z])∧Below w.heap.size w w':=by
 have k1:=gcd3_pos _ hp;have k2:(Int.gcd x y:Int)≤4611686018427387904:=by have:=gcd_le_bd x y 4611686018427387904 (by omega) (by omega);omega
 have k3:(0:Int)≤Int.gcd x y:=by omega
 unfold bare3;unfold gcd3 at k1⊢;simp only at k1⊢;clear hp;obtain⟨G,hG⟩:∃G:Int,(Int.gcd x y:Int)=G:=⟨_,rfl⟩;obtain⟨E,hE⟩:∃E:Int,(Int.gcd G z:Int)=E:=⟨_,rfl⟩;rw[hG]at k1 k2 k3;rw[hG,hE];rw[hE]at k1;have HG:=Lh hG;have HE:=Lh hE;clear hG hE;go_enter Tryz.func125,Tryz.ntmps125;go_wp2;have B1:=((C3.new w (.int .i64 x) (.int .i64 y) (.int .i64 z) 23).alloc (.cells #[.int .i64 0, .int .i64 0, .int .i64 0] 23)).drew;have B2:=(C3.new (w.alloc (.cells #[.int .i64 x, .int .i64 y, .int .i64 z] 23)) (.int .i64 0) (.int .i64 0) (.int .i64 0) 23).drew;simp only[World.size_alloc]at B2
 go_region_held3 (fun w'=>w'.cell? ⟨w.heap.size,0,none⟩=some (.int .i64 x)∧w'.cell? ⟨w.heap.size,1,none⟩=some (.int .i64 y)∧w'.cell? ⟨w.heap.size,2,none⟩=some (.int .i64 z))
  (first|exact⟨c10,c11,c12⟩|(go_keep;done))
  (first
   |(go_at_call_of 150 z;refine(gcd_calls _ _ _ ?_ ?_ ?_ ?_).mono ?_;omega;omega;omega;omega;rintro e w2 ⟨rfl,hb2⟩;rw[HE.out];have B1:=B1.below hb2;have B2:=B2.below hb2;obtain⟨c10,c11,c12,f10,f11,f12⟩:=id B1;obtain⟨c20,c21,c22,f20,f21,f22⟩:=id B2)
   |(go_at_call_of 150 y;refine(gcd_calls _ _ _ ?_ ?_ ?_ ?_).mono ?_;omega;omega;omega;omega;rintro e w1 ⟨rfl,hb1⟩;rw[HG.out];have B1:=B1.below hb1;have B2:=B2.below hb1;obtain⟨c10,c11,c12,f10,f11,f12⟩:=id B1;obtain⟨c20,c21,c22,f20,f21,f22⟩:=id B2)
   |(go_at_call 126;refine(divisor_calls _ _ _ _ _ ?_ ?_ ?_ ?_ ?_ ?_ ?_ ?_).mono ?_;omega;omega;omega;omega;omega;omega;omega;omega;rintro e w3 ⟨rfl,hb3⟩;have B1:=B1.below hb3;have B2:=B2.below hb3;obtain⟨c10,c11,c12,f10,f11,f12⟩:=id B1;obtain⟨c20,c21,c22,f20,f21,f22⟩:=id B2))
 go_wp2;have hB:Below w.heap.size w w3:=(((((Below.refl _ w).alloc (Nat.le_refl _) _).alloc (by simp) _).drew.trans (hb1.mono (by simp;omega))).trans (hb2.mono (by have:=hb1.size;simp at this;omega))).trans (hb3.mono (by have:=hb1.size;have:=hb2.size;simp at*;omega));exact bodyPost_ret (v:= .agg #[.int .i64 (div3 E ⟨x,y,z⟩).x, .int .i64 (div3 E ⟨x,y,z⟩).y, .int .i64 (div3 E ⟨x,y,z⟩).z]) (by simp[results,Tryz.results125,go_sem, *]) rfl ⟨rfl,((hB.setCell (by simp) _).setCell (by simp) _).setCell (by simp) _⟩
end Go.Proofs.YtckdhahceelckaaGreat.G
namespace Go.Proofs.YtckdhahceelckaaGreat.G
def mag:List Int→Int
 |[]=>0
 |x::l=>x+16777216*mag l
def digs (l:List Int):Prop:=∀x∈l,0≤x∧x<16777216
/-- digit k -/
def dg (l:List Int)(k:Nat):Int:=l.getD k 0
theorem pw_pos (n:Nat):(0:Int)<16777216^n:=Int.pow_pos (by decide)
theorem pw_succ (n:Nat):(16777216:Int)^(n+1)=16777216^n*16777216:=Int.pow_succ ..
theorem mag_nonneg:∀(l:List Int),digs l→0≤mag l
 |[],_=>Int.le_refl _
 |x::l,h=>by
  have:=mag_nonneg l (fun y hy=>h y (.tail _ hy));have:=h x (.head _);unfold mag;omega
theorem mag_lt:∀(l:List Int),digs l→mag l<16777216^l.length
 |[],_=>by simp[mag]
 |x::l,h=>by
  have:=mag_lt l (fun y hy=>h y (.tail _ hy));have:=h x (.head _);rw[List.length_cons,pw_succ];unfold mag;omega
theorem mag_append:∀(a b:List Int),mag (a++b)=mag a+16777216^a.length*mag b
 |[],b=>by simp[mag]
 |x::a,b=>by
  rw[List.cons_append,mag,mag,mag_append a b,List.length_cons,pw_succ];grind
theorem mag_split (l:List Int)(i:Nat)(h:i≤l.length):mag l=mag (l.take i)+16777216^i*mag (l.drop i):=by
 have:=mag_append (l.take i) (l.drop i);rw[List.take_append_drop,List.length_take,Nat.min_eq_left h]at this;exact this
theorem dg_lt (l:List Int)(i:Nat)(h:i<l.length):dg l i=l[i]:=by
 unfold dg;rw[List.getD_eq_getElem?_getD,List.getElem?_eq_getElem h];rfl
theorem mag_take_succ (l:List Int)(i:Nat)(h:i<l.length):mag (l.take (i+1))=mag (l.take i)+16777216^i*dg l i:=by
 rw[List.take_succ_eq_append_getElem h,mag_append,List.length_take,Nat.min_eq_left (by omega),dg_lt l i h];simp[mag]
theorem mag_drop (l:List Int)(i:Nat)(h:i<l.length):mag (l.drop i)=dg l i+16777216*mag (l.drop (i+1)):=by
 rw[List.drop_eq_getElem_cons h,mag,dg_lt l i h]
theorem mag_set:∀(l:List Int) (i:Nat) (x:Int),i<l.length→mag (l.set i x)=mag l+16777216^i*(x-dg l i)
 |[],i,x,h=>by simp at h
 |y::l,0,x,h=>by simp[mag,dg];omega
 |y::l,i+1,x,h=>by
  have:=mag_set l i x (by simpa using h);rw[List.set_cons_succ,mag,mag,this,pw_succ];have e:dg (y::l) (i+1)=dg l i:=by simp[dg]
  rw[e];grind
theorem dg_set (l:List Int)(i k:Nat)(x:Int)(h:i<l.length):dg (l.set i x) k=if k=i then x else dg l k:=by
 unfold dg;rw[List.getD_eq_getElem?_getD,List.getD_eq_getElem?_getD,List.getElem?_set];by_cases e:i=k
 ·subst e;simp[h]
 ·rw[if_neg e,if_neg (fun h=>e h.symm)]
theorem dg_ok {l:List Int}(h:digs l)(k:Nat):0≤dg l k∧dg l k<16777216:=by
 by_cases hk:k<l.length
 ·rw[dg_lt l k hk];exact h _ (List.getElem_mem _)
 ·unfold dg;rw[List.getD_eq_getElem?_getD,List.getElem?_eq_none (by omega)];decide
theorem digs_set {l:List Int}(h:digs l)(i:Nat)(x:Int)(h0:0≤x)(h1:x<16777216):digs (l.set i x):=fun y hy=>by
 rcases List.mem_or_eq_of_mem_set hy with h'|rfl
 ·exact h y h'
 ·exact⟨h0,h1⟩
theorem digs_take {l:List Int}(h:digs l)(i:Nat):digs (l.take i):=fun y hy=>h y (List.mem_of_mem_take hy)
theorem digs_drop {l:List Int}(h:digs l)(i:Nat):digs (l.drop i):=fun y hy=>h y (List.mem_of_mem_drop hy)
theorem mag_take_lt {l:List Int}(h:digs l)(i:Nat)(hi:i≤l.length):mag (l.take i)<16777216^i:=by
 have:=mag_lt _ (digs_take h i)
 rwa [List.length_take,Nat.min_eq_left hi]at this
/-- two numbers with a differing digit and the same ones above it -/
theorem mag_less (a b:List Int)(i:Nat)(ha:digs a)(hb:digs b)(hi:i<a.length)(hj:i<b.length)(hd:a.drop (i+1)=b.drop (i+1))(h:dg a i<dg b i):mag a<mag b:=by
 rw[mag_split a i (by omega),mag_split b i (by omega),mag_drop a i hi,mag_drop b i hj,hd];have h1:=mag_take_lt ha i (by omega);have h2:=mag_nonneg _ (digs_take hb i);have h3:(16777216:Int)^i*1≤16777216^i*(dg b i-dg a i):=Int.mul_le_mul_of_nonneg_left (by omega) (Int.le_of_lt (pw_pos i));have e:(16777216:Int)^i*(dg b i+16777216*mag (b.drop (i+1)))-16777216^i*(dg a i+16777216*mag (b.drop (i+1)))=16777216^i*(dg b i-dg a i):=by grind
 omega
/-- the value -/
def wval (neg:Bool)(l:List Int):Int:=if neg then-mag l else mag l
theorem mag_zeros (n:Nat):mag (List.replicate n 0)=0:=by
 induction n with
 |zero=>rfl
 |succ n ih=>rw[List.replicate_succ,mag,ih];rfl
def OfI (n:Nat)(i:Nat)(l:List Int)(u:Nat):Prop:=l.length=8∧digs l∧(∀j,i≤j→dg l j=0)∧mag l+16777216^i*(u:Int)=n
theorem OfI.start (n:Nat):OfI n 0 (List.replicate 8 0) n:=by
 refine⟨by simp,fun x hx=>by rw[List.eq_of_mem_replicate hx];decide,fun j _=>?_,by rw[mag_zeros];simp⟩;unfold dg;rw[List.getD_eq_getElem?_getD,List.getElem?_replicate];split<;>rfl
theorem OfI.step {n i:Nat}{l:List Int}{u:Nat}(h:OfI n i l u)(hi:i<8):OfI n (i+1) (l.set i ((u%16777216:Nat):Int)) (u / 16777216):=by
 obtain⟨h1,h2,h3,h4⟩:=h;refine⟨by simpa using h1,digs_set h2 _ _ (by omega) (by omega),fun j hj=>by rw[dg_set _ _ _ _ (by omega),if_neg (by omega)];exact h3 j (by omega),?_⟩;rw[mag_set _ _ _ (by omega),h3 i (Nat.le_refl _),pw_succ];have e:((u:Nat):Int)=((u%16777216:Nat):Int)+16777216*((u / 16777216:Nat):Int):=by omega
 rw[e]at h4;grind
theorem OfI.le {n i:Nat}{l:List Int}{u:Nat}(h:OfI n i l u):u≤n:=by
 obtain⟨h1,h2,h3,h4⟩:=h;have:=mag_nonneg l h2;have h5:1*(u:Int)≤16777216^i*(u:Int):=Int.mul_le_mul_of_nonneg_right (by have:=pw_pos i;omega) (by omega);omega
theorem OfI.done {n:Nat}{l:List Int}{u:Nat}(h:OfI n 8 l u)(hn:n<16777216^8):mag l=n:=by
 obtain⟨h1,h2,h3,h4⟩:=h;have:=mag_nonneg l h2;have hu:u=0:=by
  rcases Nat.eq_zero_or_pos u with h0|h0
  ·exact h0
  ·exfalso;have:(16777216:Int)^8*1≤16777216^8*(u:Int):=Int.mul_le_mul_of_nonneg_left (by omega) (by decide);have:((16777216^8:Nat):Int)=(16777216:Int)^8:=by decide
   omega
 subst hu;omega
def AddI (a b:List Int)(i:Nat)(o:List Int)(c:Int):Prop:=o.length=8∧digs o∧0≤c∧c≤1∧(∀j,i≤j→dg o j=dg a j)∧mag o+16777216^i*c=mag a+mag (b.take i)
theorem AddI.start (a b:List Int)(ha:a.length=8)(hd:digs a):AddI a b 0 a 0:=⟨ha,hd,by decide,by decide,fun _ _=>rfl,by simp[mag]⟩
theorem AddI.step {a b:List Int}{i:Nat}{o:List Int}{c:Int}(h:AddI a b i o c)(ha:digs a)(hb:digs b)(hlb:b.length=8)(hi:i<8):
  AddI a b (i+1) (o.set i ((dg a i+dg b i+c)%16777216)) ((dg a i+dg b i+c) / 16777216):=by
 obtain⟨h1,h2,h3,h4,h5,h6⟩:=h;have ka:=dg_ok ha i;have kb:=dg_ok hb i;refine⟨by simpa using h1,digs_set h2 _ _ (by omega) (by omega),by omega,by omega,fun j hj=>by rw[dg_set _ _ _ _ (by omega),if_neg (by omega)];exact h5 j (by omega),?_⟩;rw[mag_set _ _ _ (by omega),mag_take_succ b i (by omega),h5 i (Nat.le_refl _),pw_succ];have e:=Int.mul_ediv_add_emod (dg a i+dg b i+c) 16777216;generalize(dg a i+dg b i+c)%16777216=r at e;generalize(dg a i+dg b i+c) / 16777216=q at e;grind
theorem AddI.done {a b o:List Int}{c:Int}(h:AddI a b 8 o c)(hlb:b.length=8)(hs:mag a+mag b<16777216^8):mag o=mag a+mag b:=by
 obtain⟨h1,h2,h3,h4,h5,h6⟩:=h;have:=mag_nonneg o h2;rw[List.take_of_length_le (by omega)]at h6;have hp:(16777216:Int)^8=6277101735386680763835789423207666416102355444464034512896:=by decide
 rw[hp]at*;have:c=0:=by omega
 subst this;omega
def SubI (a b:List Int)(i:Nat)(o:List Int)(c:Int):Prop:=o.length=8∧digs o∧0≤c∧c≤1∧(∀j,i≤j→dg o j=dg a j)∧mag o-16777216^i*c=mag a-mag (b.take i)
theorem SubI.start (a b:List Int)(ha:a.length=8)(hd:digs a):SubI a b 0 a 0:=⟨ha,hd,by decide,by decide,fun _ _=>rfl,by simp[mag]⟩
theorem SubI.step0 {a b:List Int}{i:Nat}{o:List Int}{c:Int}(h:SubI a b i o c)(ha:digs a)(hb:digs b)(hlb:b.length=8)(hi:i<8)(hn:0≤dg a i-dg b i-c):
  SubI a b (i+1) (o.set i (dg a i-dg b i-c)) 0:=by
 obtain⟨h1,h2,h3,h4,h5,h6⟩:=h;have ka:=dg_ok ha i;have kb:=dg_ok hb i;refine⟨by simpa using h1,digs_set h2 _ _ (by omega) (by omega),by omega,by omega,fun j hj=>by rw[dg_set _ _ _ _ (by omega),if_neg (by omega)];exact h5 j (by omega),?_⟩;rw[mag_set _ _ _ (by omega),mag_take_succ b i (by omega),h5 i (Nat.le_refl _),pw_succ];grind
theorem SubI.step1 {a b:List Int}{i:Nat}{o:List Int}{c:Int}(h:SubI a b i o c)(ha:digs a)(hb:digs b)(hlb:b.length=8)(hi:i<8)(hn:dg a i-dg b i-c<0):
  SubI a b (i+1) (o.set i (dg a i-dg b i-c+16777216)) 1:=by
 obtain⟨h1,h2,h3,h4,h5,h6⟩:=h;have ka:=dg_ok ha i;have kb:=dg_ok hb i;refine⟨by simpa using h1,digs_set h2 _ _ (by omega) (by omega),by omega,by omega,fun j hj=>by rw[dg_set _ _ _ _ (by omega),if_neg (by omega)];exact h5 j (by omega),?_⟩;rw[mag_set _ _ _ (by omega),mag_take_succ b i (by omega),h5 i (Nat.le_refl _),pw_succ];grind
theorem SubI.done {a b o:List Int}{c:Int}(h:SubI a b 8 o c)(hlb:b.length=8)(hs:mag b≤mag a):mag o=mag a-mag b:=by
 obtain⟨h1,h2,h3,h4,h5,h6⟩:=h;have hl:=mag_lt o h2;rw[h1]at hl;rw[List.take_of_length_le (by omega)]at h6;have hp:(16777216:Int)^8=6277101735386680763835789423207666416102355444464034512896:=by decide
 rw[hp]at*;have:c=0:=by omega
 subst this;omega
/-- the inner loop: digit i of a (x), k of b's digits done; s: the sum ahead of it -/
def MulI (s x:Int)(b:List Int)(i k:Nat)(o:List Int)(c:Int):Prop:=o.length=8∧digs o∧0≤c∧c<16777216∧mag o+16777216^(i+k)*c=s+16777216^i*x*mag (b.take k)
theorem MulI.start {o:List Int}(x:Int)(b:List Int)(i:Nat)(h:o.length=8)(hd:digs o):MulI (mag o) x b i 0 o 0:=⟨h,hd,by decide,by decide,by simp[mag]⟩
theorem mul_dig (u x y c:Int)(h1:0≤u)(h2:u<16777216)(h3:0≤x)(h4:x<16777216)(h5:0≤y)(h6:y<16777216)(h7:0≤c)(h8:c<16777216):0≤x*y∧x*y≤281474943156225:=by
 have a:=Int.mul_nonneg h3 h5;have b:x*y≤16777215*16777215:=Int.mul_le_mul (by omega) (by omega) h5 (by decide);omega
theorem MulI.step {s x:Int}{b:List Int}{i k:Nat}{o:List Int}{c:Int}(h:MulI s x b i k o c)(hx0:0≤x)(hx1:x<16777216)(hb:digs b)(hlb:b.length=8)(hi:i+k<8):
  MulI s x b i (k+1) (o.set (i+k) ((dg o (i+k)+x*dg b k+c)%16777216)) ((dg o (i+k)+x*dg b k+c) / 16777216):=by
 obtain⟨h1,h2,h3,h4,h6⟩:=h;have ko:=dg_ok h2 (i+k);have kb:=dg_ok hb k;have km:=mul_dig (dg o (i+k)) x (dg b k) c ko.1 ko.2 hx0 hx1 kb.1 kb.2 h3 h4;refine⟨by simpa using h1,digs_set h2 _ _ (by omega) (by omega),by omega,by omega,?_⟩;rw[mag_set _ _ _ (by omega),mag_take_succ b k (by omega),←Nat.add_assoc,pw_succ];have e:=Int.mul_ediv_add_emod (dg o (i+k)+x*dg b k+c) 16777216;generalize(dg o (i+k)+x*dg b k+c)%16777216=r at e;generalize(dg o (i+k)+x*dg b k+c) / 16777216=q at e;have e2:(16777216:Int)^(i+k)=16777216^i*16777216^k:=Int.pow_add ..;rw[e2]at*;grind
/-- the outer loop -/
def MulO (a b:List Int)(i:Nat)(o:List Int):Prop:=o.length=8∧digs o∧mag o=mag (a.take i)*mag b
theorem MulO.start (a b:List Int):MulO a b 0 (List.replicate 8 0):=
 ⟨by simp,fun x hx=>by rw[List.eq_of_mem_replicate hx];decide,by rw[mag_zeros];simp[mag]⟩
theorem MulO.skip {a b o:List Int}{i:Nat}(h:MulO a b i o)(hla:a.length=8)(hi:i<8)(h0:dg a i=0):MulO a b (i+1) o:=by
 obtain⟨h1,h2,h3⟩:=h;exact⟨h1,h2,by rw[mag_take_succ a i (by omega),h0,h3];simp⟩
theorem mag_take_le {l:List Int}(h:digs l)(i:Nat)(hi:i≤l.length):mag (l.take i)≤mag l:=by
 have:=mag_split l i hi;have:=Int.mul_nonneg (Int.le_of_lt (pw_pos i)) (mag_nonneg _ (digs_drop h i));omega
theorem MulO.step {a b o o':List Int}{i:Nat}{c:Int}(h:MulO a b i o)(hi:i<8)(hm:MulI (mag o) (dg a i) b i (8-i) o' c)(ha:digs a)(hb:digs b)(hla:a.length=8)(hlb:b.length=8)(hs:mag a*mag b<16777216^8):
  MulO a b (i+1) o':=by
 obtain⟨h1,h2,h3⟩:=h;obtain⟨k1,k2,k3,k4,k5⟩:=hm;rw[show i+(8-i)=8 by omega]at k5;have hb0:=mag_nonneg b hb;have hle:=mag_take_le ha (i+1) (by omega);have hle2:mag (a.take (i+1))*mag b≤mag a*mag b:=Int.mul_le_mul_of_nonneg_right hle hb0;rw[mag_take_succ a i (by omega)]at hle2;have hsp:=mag_split b (8-i) (by omega);have hx:=dg_ok ha i;have hz:=mag_nonneg _ (digs_drop hb (8-i));have hxz:=Int.mul_nonneg hx.1 hz;have hn0:=mag_nonneg o' k2;have e8:(16777216:Int)^i*16777216^(8-i)=16777216^8:=by rw[←Int.pow_add,show i+(8-i)=8 by omega]
 have e1:(mag (a.take i)+16777216^i*dg a i)*mag b=mag (a.take i)*mag b+16777216^i*dg a i*mag (b.take (8-i))+16777216^8*(dg a i*mag (b.drop (8-i))):=by
  rw[←e8];generalize(16777216:Int)^i=p at*;generalize(16777216:Int)^(8-i)=q at*;grind
 have hp:(16777216:Int)^8=6277101735386680763835789423207666416102355444464034512896:=by decide
 rw[e1]at hle2;rw[hp]at k5 hs hle2 e1;refine⟨k1,k2,?_⟩;rw[mag_take_succ a i (by omega),e1];rw[h3]at k5;generalize mag (a.take i)*mag b=A at*;generalize 16777216^i*dg a i*mag (b.take (8-i))=Bx at*;generalize dg a i*mag (b.drop (8-i))=C at*;generalize mag a*mag b=D at*;omega
end Go.Proofs.YtckdhahceelckaaGreat.G
namespace Go.Proofs.YtckdhahceelckaaGreat.G
open Go.ChangeShapes Go.WideShapes Go.RowKit
theorem i64_of_wf {n:Int}(h:(Lit.int .i64 n).wf=true): -9223372036854775808≤n∧n≤9223372036854775807:=by
 simp[Lit.wf]at h;have e:IntKind.i64.min= -9223372036854775808:=by decide
 omega
theorem laidOut:laidOutB Tryz.prog=true:=by kernel_rfl
end Go.Proofs.YtckdhahceelckaaGreat.G
