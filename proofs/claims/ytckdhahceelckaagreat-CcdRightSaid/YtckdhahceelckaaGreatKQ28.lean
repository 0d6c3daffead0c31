/- What the laws of this claim lean on: contracts of functions and plain lemmas; no condition of its own (part 28: XR10, XR11, XR3, XW1). -/
import Derived.Test.YtckdhahceelckaaGreatKQ26
import Derived.Test.YtckdhahceelckaaGreatKQ27
import Derived.Test.YtckdhahceelckaaGreatKQ29
set_option maxHeartbeats 16000000
set_option maxRecDepth 100000
set_option linter.unusedVariables false
set_option linter.unusedSimpArgs false
namespace Go.Proofs.YtckdhahceelckaaGreat.G
open Go.RowKit Go.Proofs.YtckdhahceelckaaGreatW.PrintWords Go.Proofs.YtckdhahceelckaaGreatW.PrintLast Go.Proofs.YtckdhahceelckaaGreatW.PrintMore
section
variable {w:World}{ops:Array Oper}{rest:List Oper}{o:Oper}{a:Act}{Q:Exit→Act→World→Prop}{K:Act→World→Prop}{N:Option Tmp}
/-- the same inside a region that draws its order -/
theorem appR_ (base:Nat)(hw:Region.wanted o (yielded ops a.tmps)=true)(hN:o.dst=N)(s x:Operand)(ho:o.op= .call {callee:= .builtin .append,args:=#[s,x],argTypes:=#[24,24]})
  (v:Value) (l l2:List P3) (A:Option Addr) (m c:Nat) (hs:a.eval s=v) (hx:a.eval x= .slice A m c) (hown:OwnP w base v l) (hr:Rd w A l2) (hm:l2.length=m) (hsz:l.length+m≤1000000) (hbase:base≤w.heap.size)
  (h:∀v' w',OwnP w' base v' (l++l2)→w.grownBy w' v.ownBlock→(v'.ownBlock=v.ownBlock∨v'.ownBlock=some w.heap.size)→K (a.put N v') w'):
  if Region.wanted o (yielded ops a.tmps)=true then Oper.wp Tryz.prog o a w K Q else K (a.put N undef) w:=by
 rw[if_pos hw];subst hN;obtain⟨v',w',h0,h1,h2,h3⟩:=run_append_pts w base o.type v l l2 A m c hown hr hm hsz hbase;unfold Oper.wp execOp;simp only[ho,resolve,invoke,builtin,Sem.run_bind,Sem.run_pure,Result.andThen_ok,List.map_toArray,List.map_cons,List.map_nil,hs,hx,h0];exact h _ _ h1 h2 h3
end
theorem CSt.less {w1 W:World}{v:Value}{l:List P3}{k:Nat}{keep:List Nat}(h:CSt w1 W v l (k::keep)):CSt w1 W v l keep:=⟨h.own,h.below,fun j hj=>h.ne j (List.mem_cons_of_mem _ hj)⟩
theorem below_none {w w':World}(h:w.grownBy w' none):Below w.heap.size w w':=⟨h.os,h.tape,h.output,h.size,fun k hk=>h.block k hk (by simp)⟩
theorem Rd_pair {w:World}{g:Nat}{p q:P3}{t:TypeId}(h:w.heap[g]?=some (.cells #[.int .i64 p.x, .int .i64 p.y, .int .i64 p.z, .int .i64 q.x, .int .i64 q.y, .int .i64 q.z] t (0,0))):RdB w (some ⟨g,0,none⟩) [p,q]:=
 ⟨fun i u hu=>by
  match i,hu with
  |0,hu=>simp at hu;subst hu;exact⟨g,0,rfl,blk_lt h,(blk_cell h 0).trans rfl,(blk_cell h 1).trans rfl,(blk_cell h 2).trans rfl⟩
  |1,hu=>simp at hu;subst hu;exact⟨g,0,rfl,blk_lt h,(blk_cell h 3).trans rfl,(blk_cell h 4).trans rfl,(blk_cell h 5).trans rfl⟩
  |i+2,hu=>simp at hu,fun _ ad e=>by cases e;exact blk_lt h⟩
theorem CSt.moreA {w1 W W':World}{v:Value}{l:List P3}(h:CSt w1 W v l [])(hb:Below W.heap.size W W'){A:Option Addr}(hA:∀ad,A=some ad→W.heap.size≤ad.block)(hA2:∀ad,A=some ad→ad.block<W'.heap.size):CSt w1 W' v l (keepA A):=by
 cases A with
 |none=>exact h.grown hb
 |some ad=>exact h.more hb (hA ad rfl) (hA2 ad rfl)
def ng3 (n:P3):P3:=⟨-n.x,-n.y,-n.z⟩
/-- the candidates of directions as they are -/
def candF (l:List P3):List P3:=l.flatMap fun x=>if long3 x=⟨0,0,0⟩then[]else[long3 x,ng3 (long3 x)]
theorem candF_no (l:List P3)(k:Nat)(h:k<l.length)(h0:long3 l[k]=⟨0,0,0⟩):candF (l.take (k+1))=candF (l.take k):=by
 unfold candF;rw[List.take_succ_eq_append_getElem h,List.flatMap_append];simp[h0]
theorem candF_yes (l:List P3)(k:Nat)(h:k<l.length)(h0:long3 l[k]≠⟨0,0,0⟩):candF (l.take (k+1))=candF (l.take k)++[long3 l[k],ng3 (long3 l[k])]:=by
 unfold candF;rw[List.take_succ_eq_append_getElem h,List.flatMap_append];simp[h0]
theorem candF_len (l:List P3):(candF l).length≤2*l.length:=by
 unfold candF
 induction l with
 |nil=>simp
 |cons x l ih=>
  rw[List.flatMap_cons,List.length_append,List.length_cons];have:(if long3 x=⟨0,0,0⟩then[]else[long3 x,ng3 (long3 x)]).length≤2:=by split<;>simp
  omega
theorem flatM_snoc {α β:Type}(f:α→List β)(l:List α)(k:Nat)(h:k<l.length):(l.take (k+1)).flatMap f=(l.take k).flatMap f++f l[k]:=by
 rw[List.take_succ_eq_append_getElem h,List.flatMap_append];simp
theorem flat_le {α β:Type}(f:α→List β)(n:Nat):∀(l:List α),(∀x∈l,(f x).length≤n)→(l.flatMap f).length≤l.length*n
 |[],_=>by simp
 |x::l,h=>by
  rw[List.flatMap_cons,List.length_append,List.length_cons,Nat.add_mul];have:=flat_le f n l fun y hy=>h y (by simp[hy]);have:=h x (by simp);omega
theorem cross_in {p q:P3}(hp:in3 1048576 p)(hq:in3 1048576 q):in3 4398046511104 (cross3 p q):=by
 obtain⟨e,h⟩:=cross3_eq p q 1048576 1048576 hp hq (by decide);rw[e];exact in3_le (by decide) h
theorem minus_in {p q:P3}(hp:in3 16777216 p)(hq:in3 16777216 q):in3 4398046511104 (minus3 p q):=by
 rw[minus3_eq p q (in3_le (by decide) hp) (in3_le (by decide) hq)];unfold in3 at*;simp only;omega
/-- the list while the edges are crossed -/
def ed2 (L ea eb:List P3)(i k:Nat):List P3:=L++(edgeW (ea.take i) eb++(eb.take k).map (cross3 (ea.getD i ⟨0,0,0⟩)))
theorem getD_at (l:List P3)(i:Nat)(h:i<l.length):l.getD i ⟨0,0,0⟩=l[i]:=by rw[List.getD_eq_getElem?_getD,List.getElem?_eq_getElem h];rfl
theorem ed2_step (L ea eb:List P3)(i k:Nat)(hi:i<ea.length)(hk:k<eb.length):ed2 L ea eb i k++[cross3 ea[i] eb[k]]=ed2 L ea eb i (k+1):=by
 unfold ed2;rw[mapM_snoc _ _ _ hk,getD_at _ _ hi,List.append_assoc,List.append_assoc]
theorem ed2_end (L ea eb:List P3)(i:Nat)(hi:i<ea.length):ed2 L ea eb i eb.length=ed2 L ea eb (i+1) 0:=by
 unfold ed2;rw[edgeW_snoc _ _ _ hi,List.take_length,getD_at _ _ hi];simp
theorem ed2_start (L ea eb:List P3):ed2 L ea eb 0 0=L:=by unfold ed2 edgeW;simp
theorem ed2_all (L ea eb:List P3):ed2 L ea eb ea.length 0=L++edgeW ea eb:=by unfold ed2;simp
theorem ed2_len (L ea eb:List P3)(i k:Nat)(h0:L.length≤256)(h1:ea.length≤128)(h2:eb.length≤128):(ed2 L ea eb i k).length≤17000:=by
 unfold ed2 edgeW;rw[List.length_append,List.length_append,List.length_map];have a:=flat_le (fun e=>eb.map fun f=>cross3 e f) 128 (ea.take i) (fun x _=>by rw[List.length_map];exact h2);have b:=List.length_take_le i ea;have b':=List.length_take_le' i ea;have c:=List.length_take_le' k eb;have d:=Nat.mul_le_mul (show(ea.take i).length≤128 by omega) (Nat.le_refl 128);omega
/-- the list while the points are gone through -/
def pt2 (L pa pb es:List P3)(i k:Nat):List P3:=L++(pointW (pa.take i) pb es++(pb.take k).flatMap (roundW es (pa.getD i ⟨0,0,0⟩)))
theorem pt2_end (L pa pb es:List P3)(i:Nat)(hi:i<pa.length):pt2 L pa pb es i pb.length=pt2 L pa pb es (i+1) 0:=by
 unfold pt2 pointW;rw[flatM_snoc _ _ _ hi,List.take_length,getD_at _ _ hi];simp
theorem pt2_start (L pa pb es:List P3):pt2 L pa pb es 0 0=L:=by unfold pt2 pointW;simp
theorem pt2_all (L pa pb es:List P3):pt2 L pa pb es pa.length 0=L++pointW pa pb es:=by unfold pt2;simp
theorem roundW_len (es:List P3)(p q:P3):(roundW es p q).length=es.length+1:=by unfold roundW;simp
theorem pt2_len (L pa pb es:List P3)(i k:Nat)(hi:i<pa.length)(h0:L.length≤17000)(h1:pa.length≤32)(h2:pb.length≤32)(h3:es.length≤256)(hm:pa.length≤2∨pb.length≤2):(pt2 L pa pb es i k).length≤34000:=by
 unfold pt2 pointW;rw[List.length_append,List.length_append];have a:=flat_le (fun p=>pb.flatMap fun q=>roundW es p q) (pb.length*257) (pa.take i) (fun x _=>flat_le _ 257 pb fun y _=>by rw[roundW_len];omega);have b:=flat_le (roundW es (pa.getD i ⟨0,0,0⟩)) 257 (pb.take k) (fun x _=>by rw[roundW_len];omega);have b1:=List.length_take_le i pa;have c:=List.length_take_le' k pb;have d:=Nat.mul_le_mul c (Nat.le_refl 257);have e:(pa.take i).length+1≤pa.length:=by rw[List.length_take];omega
 have f:=Nat.mul_le_mul e (Nat.le_refl (pb.length*257));rw[Nat.add_mul,Nat.one_mul]at f;have g:pa.length*(pb.length*257)≤64*257:=by
  rw[←Nat.mul_assoc];apply Nat.mul_le_mul_right;rcases hm with h|h
  ·exact Nat.le_trans (Nat.mul_le_mul h h2) (by decide)
  ·exact Nat.le_trans (Nat.mul_le_mul h1 h) (by decide)
 omega
/-- the list while one pair's edges are gone through -/
def pt3 (L pa pb es:List P3)(i k:Nat)(d:P3)(m:Nat):List P3:=pt2 L pa pb es i k++(d::(es.take m).map fun e=>cross3 (short3 (cross3 e d)) e)
theorem pt3_start (L pa pb es:List P3)(i k:Nat)(d:P3):pt2 L pa pb es i k++[d]=pt3 L pa pb es i k d 0:=by unfold pt3;simp
theorem pt3_step (L pa pb es:List P3)(i k:Nat)(d:P3)(m:Nat)(h:m<es.length):pt3 L pa pb es i k d m++[cross3 (short3 (cross3 es[m] d)) es[m]]=pt3 L pa pb es i k d (m+1):=by
 unfold pt3;rw[mapM_snoc _ _ _ h,List.append_assoc,List.cons_append]
theorem pt3_end (L pa pb es:List P3)(i k:Nat)(hi:i<pa.length)(hk:k<pb.length):pt3 L pa pb es i k (short3 (minus3 pb[k] pa[i])) es.length=pt2 L pa pb es i (k+1):=by
 unfold pt3 pt2;rw[flatM_snoc _ _ _ hk,getD_at _ _ hi,List.take_length];simp[roundW]
theorem pt3_len (L pa pb es:List P3)(i k:Nat)(d:P3)(m:Nat)(hi:i<pa.length)(h0:L.length≤17000)(h1:pa.length≤32)(h2:pb.length≤32)(h3:es.length≤256)(hm:pa.length≤2∨pb.length≤2):(pt3 L pa pb es i k d m).length≤35000:=by
 unfold pt3;rw[List.length_append,List.length_cons,List.length_map];have:=pt2_len L pa pb es i k hi h0 h1 h2 h3 hm;have:=List.length_take_le' m es;omega
/-- all that is gathered may be made long -/
theorem rawC_in (pa aa ea pb ab eb:List P3)(ra rb:Int)(m:MayP pa aa ea ra)(k:MayP pb ab eb rb):∀x∈rawC pa aa ea pb ab eb,in3 4398046511104 x:=by
 have fin:∀{n:Int} {l:List P3},0≤n→n≤9223372036854775807→l.any (far3 n)=false→∀x∈l,in3 n x:=by
  intro n l h0 h1 h x hx;rw[List.any_eq_false]at h;exact(far3_iff n x h0 h1).1 (by simpa using h x hx)
 have paI:=fin (by decide) (by decide) m.pf;have pbI:=fin (by decide) (by decide) k.pf;have aaI:=fin (by decide) (by decide) m.af;have abI:=fin (by decide) (by decide) k.af;have eaI:=fin (by decide) (by decide) m.ef;have ebI:=fin (by decide) (by decide) k.ef;intro x hx;unfold rawC at hx;rcases List.mem_append.1 hx with h|h
 ·rcases List.mem_append.1 h with h|h
  ·exact in3_le (by decide) (aaI x h)
  ·exact in3_le (by decide) (abI x h)
 ·rcases List.mem_append.1 h with h|h
  ·unfold edgeW at h;obtain⟨e,he,h⟩:=List.mem_flatMap.1 h;obtain⟨f,hf,rfl⟩:=List.mem_map.1 h;exact cross_in (eaI e he) (ebI f hf)
  ·split at h
   ·simp at h
   ·unfold pointW at h;obtain⟨p,hp,h⟩:=List.mem_flatMap.1 h;obtain⟨q,hq,h⟩:=List.mem_flatMap.1 h;unfold roundW at h;rcases List.mem_cons.1 h with rfl|h
    ·exact in3_le (by decide) (short3_in _)
    ·obtain⟨e,he,rfl⟩:=List.mem_map.1 h;have eI:in3 1048576 e:=by
      rcases List.mem_append.1 he with he|he
      ·exact eaI e he
      ·exact ebI e he
     exact cross_in (short3_in _) eI
theorem rawC_len (pa aa ea pb ab eb:List P3)(ra rb:Int)(m:MayP pa aa ea ra)(k:MayP pb ab eb rb):(rawC pa aa ea pb ab eb).length≤34000:=by
 have:=m.a1;have:=k.a1;have:=m.e1;have:=k.e1;have:=m.p1;have:=k.p1;have h1:=ed2_len (aa++ab) ea eb ea.length 0 (by rw[List.length_append];omega) (by omega) (by omega);rw[ed2_all]at h1;unfold rawC;rw[←List.append_assoc];split
 ·simpa using(by omega:((aa++ab)++edgeW ea eb).length≤34000)
 ·rename_i hm;obtain⟨p0,pr,hp⟩:=List.exists_cons_of_ne_nil m.p0;have hl:pa.length-1<pa.length:=by rw[hp];simp
  have h2:=pt2_len ((aa++ab)++edgeW ea eb) pa pb (ea++eb) (pa.length-1) pb.length hl h1 (by omega) (by omega) (by rw[List.length_append];omega) (by unfold mn at hm;split at hm<;>omega);rw[pt2_end _ _ _ _ _ hl,show pa.length-1+1=pa.length by omega,pt2_all]at h2;exact h2
end Go.Proofs.YtckdhahceelckaaGreat.G
namespace Go.Proofs.YtckdhahceelckaaGreat.G
open Go.RowKit Go.Proofs.YtckdhahceelckaaGreatW.PrintWords Go.Proofs.YtckdhahceelckaaGreatW.PrintLast Go.Proofs.YtckdhahceelckaaGreatW.PrintMore
attribute [local go_sem] max2_mx min2_mn max_two min_two max_three min_three max_four min_four
attribute [local go_sem high] eqA23
theorem rlong_calls (p:P3)(w:World)(hp:in3 4398046511104 p):
  Calls Tryz.prog 151 #[aP p] w fun e w'=>e= .returned (aP (long3 p))∧Below w.heap.size w w':=by
 have HS:=Lh (fun W=>rshort_calls p W hp);obtain⟨x,y,z⟩:=p;have B1:=((C3.new w (.int .i64 x) (.int .i64 y) (.int .i64 z) 23).alloc (.cells #[.int .i64 0, .int .i64 0, .int .i64 0] 23));have B2:=(C3.new (w.alloc (.cells #[.int .i64 x, .int .i64 y, .int .i64 z] 23)) (.int .i64 0) (.int .i64 0) (.int .i64 0) 23);simp only[World.size_alloc]at B2;have B1:=Lh B1;have B2:=Lh B2;obtain⟨q,hq⟩:=nm_ (short3 ⟨x,y,z⟩);have hin:in3 1048576 q:=by rw[←hq];exact short3_in _
 unfold long3;rw[hq]at HS⊢;clear hp hq;obtain⟨px,py,pz⟩:=q;by_cases hz:(⟨px,py,pz⟩:P3)=⟨0,0,0⟩
 ·have h1:dbl3 ⟨px,py,pz⟩=⟨0,0,0⟩:=by rw[dbl3,dif_pos (.inr hz)];exact hz
  rw[h1];clear h1;have he:=eqP_yes hz;simp only[P3.mk.injEq]at hz;obtain⟨rfl,rfl,rfl⟩:=hz;go_enter Tryz.func151,Tryz.ntmps151;go_wp2_with(go_at_call 84;refine(HS.out _).mono ?_;rintro e w1 ⟨rfl,hb1⟩;obtain⟨c10,c11,c12,f10,f11,f12⟩:=B1.below hb1;have D2:=Lh (B2.below hb1);obtain⟨c20,c21,c22,f20,f21,f22⟩:=D2.out);have hB:Below w.heap.size w w1:=(((Below.refl _ w).alloc (Nat.le_refl _) _).alloc (by simp) _).trans (hb1.mono (by simp;omega));exact bodyPost_ret (v:= .agg #[.int .i64 0, .int .i64 0, .int .i64 0]) (by simp[results,Tryz.results151,go_sem,c20,c21,c22]) rfl ⟨rfl,below_set3 (below_set3 hB (Nat.le_refl _) _ _ _) (by omega) _ _ _⟩
 ·obtain⟨D,hD⟩:=nm_ (dbl3 ⟨px,py,pz⟩);rw[hD];have HD:=Lh hD;have HZ:=Lh hz;have HI:=Lh hin;have he:=eqP_no hz;clear hD hz hin;go_enter Tryz.func151,Tryz.ntmps151;go_wp2_with(go_at_call 84;refine(HS.out _).mono ?_;rintro e w1 ⟨rfl,hb1⟩;have D1:=Lh (B1.below hb1);obtain⟨c10,c11,c12,f10,f11,f12⟩:=D1.out;have D2:=Lh (B2.below hb1));have hB:Below w.heap.size w w1:=(((Below.refl _ w).alloc (Nat.le_refl _) _).alloc (by simp) _).trans (hb1.mono (by simp;omega));have hB:=below_set3 hB (Nat.le_refl w.heap.size) (.int .i64 px) (.int .i64 py) (.int .i64 pz);have B2:=D2.out.other (g':=w.heap.size) (by omega) (.int .i64 px) (.int .i64 py) (.int .i64 pz);have B1:=D1.out.set (.int .i64 px) (.int .i64 py) (.int .i64 pz);unfold set3 at B1 B2 hB;generalize((w1.setCell {block:=w.heap.size,off:=0} (Value.int IntKind.i64 px)).setCell {block:=w.heap.size,off:=1} (Value.int IntKind.i64 py)).setCell {block:=w.heap.size,off:=2} (Value.int IntKind.i64 pz)=w3 at B1 B2 hB⊢;clear he hb1 c10 c11 c12 f10 f11 f12 D1 D2
  go_loopg [3] (2000000-size3 ⟨px,py,pz⟩) (fun kq v3 wr=>∃r:P3,Hid (kq=2000000-size3 r)∧Hid (dbl3 r=D)∧Hid (in3 1048576 r)∧Hid (r≠⟨0,0,0⟩)∧Hid (C3 wr w.heap.size (.int .i64 r.x) (.int .i64 r.y) (.int .i64 r.z))∧Hid (C3 wr (w.heap.size+1) (.int .i64 0) (.int .i64 0) (.int .i64 0))∧Hid (Below w.heap.size w wr))
  case atStart=>exact⟨⟨px,py,pz⟩,rfl,HD.out,HI.out,HZ.out,B1,B2,hB⟩
  case round=>
   obtain⟨r,h1,h2,h3,h4,h5,h6,h7⟩:=hrel;obtain⟨hx1,hx2,hy1,hy2,hz1,hz2⟩:=h3.out;obtain⟨rx,ry,rz⟩:=r;dsimp only at h5 hx1 hx2 hy1 hy2 hz1 hz2;obtain⟨c10,c11,c12,f10,f11,f12⟩:=id h5.out
   cases hf:far3 524288 ⟨rx,ry,rz⟩with
   |false=>
    have hne:¬(far3 524288 ⟨rx,ry,rz⟩=true∨(⟨rx,ry,rz⟩:P3)=⟨0,0,0⟩):=by rw[hf];simpa using h4.out
    have e1:dbl3 ⟨rx,ry,rz⟩=dbl3 (two3 ⟨rx,ry,rz⟩):=by rw[dbl3,dif_neg hne]
    have e2:Hid (2000000-size3 (two3 ⟨rx,ry,rz⟩)<gk):=by rw[h1.out];exact two3_lt _ hne
    have e4:=Lh (two3_ne _ h4.out);have hi5:=(far3_iff _ _ (by decide) (by decide)).1 hf;have HI5:=Lh (fun W=>rin_calls ⟨rx,ry,rz⟩ 524288 true (decide_eq_true hi5) (by decide) (by decide) W);have e3:Hid (in3 1048576 (two3 ⟨rx,ry,rz⟩)):=by unfold in3 two3 at*;simp only at*;show _∧_;omega
    have E1:Hid (dbl3 (two3 ⟨rx,ry,rz⟩)=D):=e1.symm.trans h2.out;clear e1 hne hi5 hf;go_wp2_with(go_at_call 61;refine(HI5.out _).mono ?_;rintro e w5 ⟨rfl,hb5⟩;have D1:=Lh (h5.below hb5);have D2:=Lh (h6.below hb5);obtain⟨d10,d11,d12,g10,g11,g12⟩:=id D1.out)
    go_roundg (2000000-size3 (two3 ⟨rx,ry,rz⟩))
    case measure=>exact e2.out
    case rel=>exact⟨two3 ⟨rx,ry,rz⟩,rfl,E1,e3,e4,D1.out.set _ _ _,D2.out.other (by omega) _ _ _,below_set3 (h7.trans (hb5.mono h7.size)) (Nat.le_refl _) _ _ _⟩
   |true=>
    have e1:dbl3 ⟨rx,ry,rz⟩=⟨rx,ry,rz⟩:=by rw[dbl3,dif_pos (.inl hf)]
    have hi5:¬in3 524288 ⟨rx,ry,rz⟩:=fun h=>by rw[(far3_iff _ _ (by decide) (by decide)).2 h]at hf;cases hf
    have HI5:=Lh (fun W=>rin_calls ⟨rx,ry,rz⟩ 524288 false (decide_eq_false hi5) (by decide) (by decide) W);obtain rfl:D=⟨rx,ry,rz⟩:=h2.out.symm.trans e1;clear e1 hi5 hf;go_wp2_with(go_at_call 61;refine(HI5.out _).mono ?_;rintro e w5 ⟨rfl,hb5⟩;have D1:=Lh (h5.below hb5);have D2:=Lh (h6.below hb5);obtain⟨d10,d11,d12,g10,g11,g12⟩:=id D1.out;obtain⟨d20,d21,d22,g20,g21,g22⟩:=id D2.out);exact bodyPost_ret (v:=aP ⟨rx,ry,rz⟩) (by simp[results,Tryz.results151,go_sem,d20,d21,d22]) rfl ⟨rfl,below_set3 (h7.trans (hb5.mono h7.size)) (by omega) _ _ _⟩
end Go.Proofs.YtckdhahceelckaaGreat.G
namespace Go.Proofs.YtckdhahceelckaaGreat.G
abbrev BW:Int:=16777216
end Go.Proofs.YtckdhahceelckaaGreat.G
