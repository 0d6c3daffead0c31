/- What the laws of this claim lean on: contracts of functions and plain lemmas; no condition of its own (part 16: XW29). -/
import Derived.Test.YtckdhahceelckaaGreatKQ14
import Derived.Test.YtckdhahceelckaaGreatKQ15
set_option maxHeartbeats 16000000
set_option maxRecDepth 100000
set_option linter.unusedVariables false
set_option linter.unusedSimpArgs false
namespace Go.Proofs.YtckdhahceelckaaGreat.G
open Go.RowKit Go.Proofs.YtckdhahceelckaaGreatW.PrintWords Go.Proofs.YtckdhahceelckaaGreatW.PrintLast Go.Proofs.YtckdhahceelckaaGreatW.PrintMore
attribute [local go_sem] max2_mx min2_mn max_two min_two max_three min_three max_four min_four
attribute [local go_sem high] eqA23
theorem wpList_one_at {w:World}{ops:Array Oper}{rest:List Oper}{o:Oper}{a:Act}{Q:Exit→Act→World→Prop}(base:Nat)(hgd:o.guard=none)(s x:Operand)(ho:o.op= .call {callee:= .builtin .append,args:=#[s,x],argTypes:=#[24,24]})
  (v:Value) (l:List P3) (g c:Nat) (p:P3) (t:TypeId) (hs:a.eval s=v) (hx:a.eval x= .slice (some ⟨g,0,none⟩) 1 c) (hown:OwnP w base v l) (hr:w.heap[g]?=some (.cells #[.int .i64 p.x, .int .i64 p.y, .int .i64 p.z] t (0,0))) (hsz:l.length≤999999) (hbase:base≤w.heap.size)
  (h:∀v' w',OwnP w' base v' (l++[p])→w.grownBy w' v.ownBlock→(v'.ownBlock=v.ownBlock∨v'.ownBlock=some w.heap.size)→wpList Tryz.prog ops Q rest (a.put o.dst v') w'):wpList Tryz.prog ops Q (o::rest) a w:=by
 obtain⟨i0,hi,hz0,hz1,hz2⟩:=info_parts info23;have hrd:=(Rd_one (t:=t) (x:=p.x) (y:=p.y) (z:=p.z) hr).1;refine wpList_append_own_at w hgd s x 24 ho base 23 i0 _ 3 24 Tryz.underlying24 hi hz0 hz1 hz2 rfl (by omega) v l.length (cells3 l) hs hown ⟨g,0,none⟩ 1 c (cells3 [p]) hx (by rw[cells3_length];rfl) (fun j u hj=>by rw[add_at];exact hrd.cells j u hj) (cells3_one _) (by unfold maxLen;omega) (by omega) hbase ?_;intro v' w' h1 h2 _ h4;refine h v' w' ?_ h2 h4;show w'.ownsRow base 23 3 v' (l++[p]).length (cells3 (l++[p]));rw[cells3_append,List.length_append];exact h1
theorem Rd_three {w:World}{g:Nat}{p q r:P3}{t:TypeId}(h:w.heap[g]?=some (.cells #[.int .i64 p.x, .int .i64 p.y, .int .i64 p.z, .int .i64 q.x, .int .i64 q.y, .int .i64 q.z, .int .i64 r.x, .int .i64 r.y, .int .i64 r.z] t (0,0))):RdB w (some ⟨g,0,none⟩) [p,q,r]:=
 ⟨fun i u hu=>by
  match i,hu with
  |0,hu=>simp at hu;subst hu;exact⟨g,0,rfl,blk_lt h,(blk_cell h 0).trans rfl,(blk_cell h 1).trans rfl,(blk_cell h 2).trans rfl⟩
  |1,hu=>simp at hu;subst hu;exact⟨g,0,rfl,blk_lt h,(blk_cell h 3).trans rfl,(blk_cell h 4).trans rfl,(blk_cell h 5).trans rfl⟩
  |2,hu=>simp at hu;subst hu;exact⟨g,0,rfl,blk_lt h,(blk_cell h 6).trans rfl,(blk_cell h 7).trans rfl,(blk_cell h 8).trans rfl⟩,fun _ ad e=>by cases e;exact blk_lt h⟩
def axisF (s:Int)(n:P3):P3:=short3 ⟨s*n.x,s*n.y,s*n.z⟩
/-- an axis of three points -/
def AxAt (l:List P3)(i j k:Nat)(a:P3):Prop:=∃pa pb pc,l[i]?=some pa∧l[j]?=some pb∧l[k]?=some pc∧nrm3 pa pb pc≠⟨0,0,0⟩∧sideF l (nrm3 pa pb pc) pa≠0∧a=axisF (sideF l (nrm3 pa pb pc) pa) (nrm3 pa pb pc)
def AxP (l:List P3)(a:P3):Prop:=∃i j k,i<j∧j<k∧AxAt l i j k a
def EdAt (l:List P3)(i j:Nat)(e:P3):Prop:=∃pa pb,l[i]?=some pa∧l[j]?=some pb∧e=short3 (minus3 pb pa)
def EdP (l:List P3)(e:P3):Prop:=∃i j,i<j∧EdAt l i j e
def DoneA (l axes:List P3)(i j k:Nat):Prop:=∀i' j' k' a,i'<j'→j'<k'→(i'<i∨(i'=i∧(j'<j∨(j'=j∧k'<k))))→AxAt l i' j' k' a→a∈axes
theorem AxAt.lt {l:List P3}{i j k:Nat}{a:P3}(h:AxAt l i j k a):i<l.length∧j<l.length∧k<l.length:=by
 obtain⟨pa,pb,pc,h1,h2,h3,_⟩:=h;exact⟨(List.getElem?_eq_some_iff.1 h1).1,(List.getElem?_eq_some_iff.1 h2).1,(List.getElem?_eq_some_iff.1 h3).1⟩
theorem DoneA.to {l axes:List P3}{i j k i1 j1 k1:Nat}(h:DoneA l axes i j k)(hc:∀i' j' k',i'<j'→j'<k'→k'<l.length→(i'<i1∨(i'=i1∧(j'<j1∨(j'=j1∧k'<k1))))→(i'<i∨(i'=i∧(j'<j∨(j'=j∧k'<k))))):DoneA l axes i1 j1 k1:=
 fun i' j' k' a h1 h2 h3 h4=>h i' j' k' a h1 h2 (hc i' j' k' h1 h2 h4.lt.2.2 h3) h4
theorem DoneA.step {l axes axes':List P3}{i j k:Nat}(h:DoneA l axes i j k)(hs:∀a∈axes,a∈axes')(hn:∀a,AxAt l i j k a→a∈axes'):DoneA l axes' i j (k+1):=fun i' j' k' a h1 h2 h3 h4=>by
 by_cases e:i'=i∧j'=j∧k'=k
 ·obtain⟨rfl,rfl,rfl⟩:=e;exact hn a h4
 ·exact hs a (h i' j' k' a h1 h2 (by omega) h4)
structure HSt (l:List P3) (w wr:World) (v4 v5:Value) (axes edges:List P3):Prop where
 o4:OwnP wr w.heap.size v4 axes
 o5:OwnP wr w.heap.size v5 edges
 dj:∀k,v4.ownBlock=some k→v5.ownBlock=some k→False
 bl:Below w.heap.size w wr
 n4:axes.Nodup
 a4:∀a∈axes,AxP l a
 n5:edges.Nodup
 a5:∀e∈edges,EdP l e
theorem HSt.grown {l w wr wr' v4 v5 axes edges}(h:HSt l w wr v4 v5 axes edges)(hb:Below wr.heap.size wr wr'):HSt l w wr' v4 v5 axes edges:=
 ⟨h.o4.grown hb,h.o5.grown hb,h.dj,bthen h.bl hb,h.n4,h.a4,h.n5,h.a5⟩
theorem OwnP.other {w w':World}{base:Nat}{v u:Value}{l:List P3}(h:OwnP w base v l)(hg:w.grownBy w' u.ownBlock)(hd:∀k,v.ownBlock=some k→u.ownBlock=some k→False):OwnP w' base v l:=by
 refine⟨h.1,?_⟩;rcases h.2 with hn|⟨g,cap,cur,hv,hb,hgg,rest⟩
 ·exact .inl hn
 ·refine .inr ⟨g,cap,cur,hv,hb,?_,rest⟩;have hlt:=(Array.getElem?_eq_some_iff.1 hgg).1;exact(hg.block g hlt (fun e=>hd g (by rw[hv];rfl) e.symm)).trans hgg
theorem nodup_snoc {l:List P3}{a:P3}(h:l.Nodup)(ha:a∉l):(l++[a]).Nodup:=List.nodup_append.2 ⟨h,by simp,fun x hx y hy=>by simp only[List.mem_singleton]at hy;subst hy;exact fun e=>ha (e▸hx)⟩
theorem HSt.add4 {l w wr w' v4 v5 axes edges}{v':Value}{a:P3}(h:HSt l w wr v4 v5 axes edges)(ho:OwnP w' w.heap.size v' (axes++[a]))(hg:wr.grownBy w' v4.ownBlock)(hat:v'.ownBlock=v4.ownBlock∨v'.ownBlock=some wr.heap.size)(hna:a∉axes)(hax:AxP l a):HSt l w w' v' v5 (axes++[a]) edges:=
 ⟨ho,h.o5.other hg (fun k h1 h2=>h.dj k h2 h1),fun k h1 h2=>by
  rcases hat with e|e
  ·exact h.dj k (e▸h1) h2
  ·rw[e]at h1;cases h1;exact absurd (OwnP.lt h.o5 _ h2) (Nat.lt_irrefl _),h.bl.grown hg h.bl.size (fun k hk=>h.o4.base_ k hk),nodup_snoc h.n4 hna,fun x hx=>by
  rcases List.mem_append.1 hx with hx|hx
  ·exact h.a4 x hx
  ·simp only[List.mem_singleton]at hx;subst hx;exact hax,h.n5,h.a5⟩
theorem HSt.add5 {l w wr w' v4 v5 axes edges}{v':Value}{a:P3}(h:HSt l w wr v4 v5 axes edges)(ho:OwnP w' w.heap.size v' (edges++[a]))(hg:wr.grownBy w' v5.ownBlock)(hat:v'.ownBlock=v5.ownBlock∨v'.ownBlock=some wr.heap.size)(hna:a∉edges)(hax:EdP l a):HSt l w w' v4 v' axes (edges++[a]):=
 ⟨h.o4.other hg (fun k h1 h2=>h.dj k h1 h2),ho,fun k h1 h2=>by
  rcases hat with e|e
  ·exact h.dj k h1 (e▸h2)
  ·rw[e]at h2;cases h2;exact absurd (OwnP.lt h.o4 _ h1) (Nat.lt_irrefl _),h.bl.grown hg h.bl.size (fun k hk=>h.o5.base_ k hk),h.n4,h.a4,nodup_snoc h.n5 hna,fun x hx=>by
  rcases List.mem_append.1 hx with hx|hx
  ·exact h.a5 x hx
  ·simp only[List.mem_singleton]at hx;subst hx;exact hax⟩
theorem hasF_no {l:List P3}{p:P3}{b:Bool}(h:hasF l p b=false):p∉l:=fun hp=>by
 have:=List.any_eq_false.1 h p hp;simp[hasB]at this
theorem hasF_yes {l:List P3}{p:P3}(h:hasF l p false=true):p∈l:=by
 obtain⟨x,hx,hb⟩:=List.any_eq_true.1 h;simp[hasB]at hb;exact hb▸hx
theorem nrm_in {a b c:P3}(ha:in3 65536 a)(hb:in3 65536 b)(hc:in3 65536 c):in3 34359738368 (nrm3 a b c)∧in3 131072 (minus3 b a)∧in3 131072 (minus3 c a)∧in3 131072 (minus3 c b):=by
 have q:∀x y:P3,in3 65536 x→in3 65536 y→in3 131072 (minus3 x y):=fun x y hx hy=>by
  obtain⟨a1,a2,a3,a4,a5,a6⟩:=hx;obtain⟨b1,b2,b3,b4,b5,b6⟩:=hy;unfold minus3 in3;simp only;rw[w64_id _ (by omega) (by omega),w64_id _ (by omega) (by omega),w64_id _ (by omega) (by omega)];omega
 have h1:=q b a hb ha;have h2:=q c a hc ha;refine⟨?_,h1,h2,q c b hc hb⟩;obtain⟨e,hi⟩:=cross3_eq (minus3 b a) (minus3 c a) 131072 131072 h1 h2 (by decide);unfold nrm3;rw[e];exact hi
theorem sideF_cases (l:List P3)(n a:P3):sideF l n a=1∨sideF l n a= -1∨sideF l n a=0:=by
 by_cases h1:(sdF l n a).2≤0
 ·left;unfold sideF sideV;rw[if_pos h1]
 ·by_cases h2:0≤(sdF l n a).1
  ·right;left;unfold sideF sideV;rw[if_neg h1,if_pos h2]
  ·right;right;unfold sideF sideV;rw[if_neg h1,if_neg h2]
def HullPost (l:List P3)(w:World)(en:Ending)(w':World):Prop:=∃axes edges Ax Ae cx ce,en= .returned (.tuple #[.slice Ax axes.length cx, .slice Ae edges.length ce])∧axes.length≤cx∧edges.length≤ce∧RdB w' Ax axes∧RdB w' Ae edges∧Below w.heap.size w w'∧axes.Nodup∧(∀a∈axes,AxP l a)∧edges.Nodup∧(∀e∈edges,EdP l e)∧DoneA l axes l.length 0 0∧(∀ad,Ax=some ad→w.heap.size≤ad.block)∧(∀ad,Ae=some ad→w.heap.size≤ad.block)
theorem hull_calls (l:List P3)(A:Option Addr)(c:Nat)(w:World)(hA:RdB w A l)(hl:l.length≤12)(hp:∀p∈l,in3 65536 p):
  Calls Tryz.prog 63 #[.slice A l.length c] w (HullPost l w):=by
 have HAA:=Lh hA;have HP:=Lh hp;have HNO:=Lh (fun(a b c:P3) W=>normal_calls a b c W);have HSD:=Lh (fun(n a:P3) (W:World) (h:Rd W A l)=>side_calls l A c n a W h (by omega));have HDT:=Lh (fun(axes:List P3) (i j k i1 j1 k1:Nat) (h:DoneA l axes i j k) hc=>DoneA.to (i1:=i1) (j1:=j1) (k1:=k1) h hc);obtain⟨N,hN⟩:=nm_ l.length;have HN:=Lh hN;rw[hN]at hl HSD⊢;clear hA hN hp;go_enter Tryz.func63,Tryz.ntmps63;go_wp2;go_loopw [4,5,6,7,8,9,10,11,12,13,14,15] (fun v4 v5 v6 v7 v8 v9 v10 v11 v12 v13 v14 v15 wr=>∃(i:Nat) (axes edges:List P3),i≤N∧v6= .int .i64 i∧Hid (HSt l w wr v4 v5 axes edges)∧Hid (DoneA l axes i 0 0)∧axes.length≤144*i∧edges.length≤432*i) (fun _ _ i _ _ _ _ _ _ _ _ _ _=>N-(intOf i).toNat)
 case atStart=>exact⟨0,[],[],by omega,rfl,Lh ⟨OwnP.nil _ _,OwnP.nil _ _,fun k h=>(by cases h),Below.refl _ _,by simp,by simp,by simp,by simp⟩,Lh (fun i' j' k' a h1 h2 h3=>by omega),by simp,by simp⟩
 case round=>
  obtain⟨i,axes,edges,hi,rfl,hS,hD,la,le⟩:=hrel;obtain⟨wa,hwa⟩:∃wo:World,wo=wr:=⟨_,rfl⟩;subst hwa;by_cases hlt:i<N
  ·have hil:i<l.length:=by rw[HN.out];exact hlt
   obtain⟨b,o,rfl,lbw,_⟩:=HAA.out.1.get i hil
   have HRD:Hid (∀W,Below w.heap.size w W→∀j p,l[j]?=some p→W.cell? ⟨b,o+j*3,none⟩=some (.int .i64 p.x)∧W.cell? ⟨b,o+j*3+1,none⟩=some (.int .i64 p.y)∧W.cell? ⟨b,o+j*3+2,none⟩=some (.int .i64 p.z)):=Lh (fun W hW j p hj=>by
    obtain⟨b',o',e',_,h0,h1,h2⟩:=(HAA.out.1.below hW) j p hj
    simp only[Option.some.injEq,Addr.mk.injEq,and_true]at e'
    obtain⟨rfl,rfl⟩:=e'
    exact⟨h0,h1,h2⟩)
   obtain⟨⟨ix,iy,iz⟩,hpi⟩:∃p,l[i]?=some p:=⟨_,List.getElem?_eq_getElem hil⟩;have ini:=Lh (HP.out _ (List.mem_of_getElem? hpi));have hpi:=Lh hpi;have hiN:(i:Int)<(N:Int):=by omega
   have hD2:=Lh (HDT.out axes i 0 0 i (i+1) 0 hD.out (fun i' j' k' h1 h2 h3 h4=>by omega));clear hD;go_wp2;go_loopw [4,5,7,8,9,10,11,12,13,14,15] (fun v4 v5 v7 v8 v9 v10 v11 v12 v13 v14 v15 wr=>∃(j:Nat) (axes edges:List P3),i<j∧j≤N∧v7= .int .i64 j∧Hid (HSt l w wr v4 v5 axes edges)∧Hid (DoneA l axes i j 0)∧axes.length≤144*i+12*j∧edges.length≤432*i+36*j) (fun _ _ j _ _ _ _ _ _ _ _ _=>N-(intOf j).toNat)
   case atStart=>exact⟨i+1,axes,edges,by omega,by omega,by go_num,hS,hD2,by omega,by omega⟩
   case round=>
    clear hS hD2 la le;obtain⟨j,axes,edges,hij,hj,rfl,hS,hD,la,le⟩:=hrel;obtain⟨wb,hwb⟩:∃wo:World,wo=wr:=⟨_,rfl⟩;subst hwb;by_cases hjN:j<N
    ·obtain⟨⟨jx,jy,jz⟩,hpj⟩:∃p,l[j]?=some p:=⟨_,List.getElem?_eq_getElem (show j<l.length by rw[HN.out];exact hjN)⟩;have inj:=Lh (HP.out _ (List.mem_of_getElem? hpj));have hpj:=Lh hpj;have hjN1:(j:Int)<(N:Int):=by omega
     have hD2:=Lh (HDT.out axes i j 0 i j (j+1) hD.out (fun i' j' k' h1 h2 h3 h4=>by omega));clear hD;go_wp2;go_loopw [4,5,8,9,10,11,12,13,14,15] (fun v4 v5 v8 v9 v10 v11 v12 v13 v14 v15 wr=>∃(k:Nat) (axes edges:List P3),j<k∧k≤N∧v8= .int .i64 k∧Hid (HSt l w wr v4 v5 axes edges)∧Hid (DoneA l axes i j k)∧axes.length≤144*i+12*j+k∧edges.length≤432*i+36*j+3*k) (fun _ _ k _ _ _ _ _ _ _ _=>N-(intOf k).toNat)
     case atStart=>exact⟨j+1,axes,edges,by omega,by omega,by go_num,hS,hD2,by omega,by omega⟩
     case round=>
      clear hS hD2 la le;obtain⟨k,axes,edges,hjk,hk,rfl,hS,hD,la,le⟩:=hrel;obtain⟨wc,hwc⟩:∃wo:World,wo=wr:=⟨_,rfl⟩;subst hwc;by_cases hkN:k<N
      ·obtain⟨⟨kx,ky,kz⟩,hpk⟩:∃p,l[k]?=some p:=⟨_,List.getElem?_eq_getElem (show k<l.length by rw[HN.out];exact hkN)⟩;have ink:=Lh (HP.out _ (List.mem_of_getElem? hpk));have hpk:=Lh hpk;have hkN1:(k:Int)<(N:Int):=by omega
       obtain⟨i0,i1,i2⟩:=HRD.out _ hS.out.bl i _ hpi.out;obtain⟨j0,j1,j2⟩:=HRD.out _ hS.out.bl j _ hpj.out;obtain⟨k0,k1,k2⟩:=HRD.out _ hS.out.bl k _ hpk.out;simp only at i0 i1 i2 j0 j1 j2 k0 k1 k2;have hNO:=HNO.out ⟨ix,iy,iz⟩ ⟨jx,jy,jz⟩ ⟨kx,ky,kz⟩;obtain⟨ni1,ni2,ni3,ni4⟩:=nrm_in ini.out inj.out ink.out
       have hAT:=Lh (show ∀a,AxAt l i j k a→nrm3 ⟨ix,iy,iz⟩ ⟨jx,jy,jz⟩ ⟨kx,ky,kz⟩≠⟨0,0,0⟩∧sideF l (nrm3 ⟨ix,iy,iz⟩ ⟨jx,jy,jz⟩ ⟨kx,ky,kz⟩) ⟨ix,iy,iz⟩≠0∧a=axisF (sideF l (nrm3 ⟨ix,iy,iz⟩ ⟨jx,jy,jz⟩ ⟨kx,ky,kz⟩) ⟨ix,iy,iz⟩) (nrm3 ⟨ix,iy,iz⟩ ⟨jx,jy,jz⟩ ⟨kx,ky,kz⟩) from fun a ha=>by
        obtain⟨pa,pb,pc,g1,g2,g3,g4,g5,g6⟩:=ha
        rw[hpi.out]at g1;rw[hpj.out]at g2;rw[hpk.out]at g3
        cases g1;cases g2;cases g3
        exact⟨g4,g5,g6⟩)
       have hAI:=Lh (show ∀a,nrm3 ⟨ix,iy,iz⟩ ⟨jx,jy,jz⟩ ⟨kx,ky,kz⟩≠⟨0,0,0⟩→sideF l (nrm3 ⟨ix,iy,iz⟩ ⟨jx,jy,jz⟩ ⟨kx,ky,kz⟩) ⟨ix,iy,iz⟩≠0→a=axisF (sideF l (nrm3 ⟨ix,iy,iz⟩ ⟨jx,jy,jz⟩ ⟨kx,ky,kz⟩) ⟨ix,iy,iz⟩) (nrm3 ⟨ix,iy,iz⟩ ⟨jx,jy,jz⟩ ⟨kx,ky,kz⟩)→AxP l a from fun a h1 h2 h3=>⟨i,j,k,hij,hjk,_,_,_,hpi.out,hpj.out,hpk.out,h1,h2,h3⟩);have hsd:=sideF_cases l (nrm3 ⟨ix,iy,iz⟩ ⟨jx,jy,jz⟩ ⟨kx,ky,kz⟩) ⟨ix,iy,iz⟩;have hSD:=HSD.out (nrm3 ⟨ix,iy,iz⟩ ⟨jx,jy,jz⟩ ⟨kx,ky,kz⟩) ⟨ix,iy,iz⟩;obtain⟨⟨nx,ny,nz⟩,hn⟩:∃n,nrm3 ⟨ix,iy,iz⟩ ⟨jx,jy,jz⟩ ⟨kx,ky,kz⟩=n:=⟨_,rfl⟩;rw[hn]at hNO hAT hAI hsd hSD ni1;obtain⟨sg,hsg⟩:=nm_ (sideF l ⟨nx,ny,nz⟩ ⟨ix,iy,iz⟩);rw[hsg]at hAT hAI hsd hSD;have hNO:=Lh hNO;have hSD:=Lh hSD;have hsd:=Lh hsd;have hE1:=Lh (show EdP l (short3 (minus3 ⟨jx,jy,jz⟩ ⟨ix,iy,iz⟩)) from⟨i,j,hij,_,_,hpi.out,hpj.out,rfl⟩);have hE2:=Lh (show EdP l (short3 (minus3 ⟨kx,ky,kz⟩ ⟨ix,iy,iz⟩)) from⟨i,k,by omega,_,_,hpi.out,hpk.out,rfl⟩);have hE3:=Lh (show EdP l (short3 (minus3 ⟨kx,ky,kz⟩ ⟨jx,jy,jz⟩)) from⟨j,k,hjk,_,_,hpj.out,hpk.out,rfl⟩);have hn:=Lh hn;have ni1:=Lh ni1;have ni2:=Lh ni2;have ni3:=Lh ni3;have ni4:=Lh ni4;have lbc:b<wc.heap.size:=by have:=hS.out.bl.size;omega
       clear hsg;go_wp2_with fail;have HB:=Lh ((Below.refl (wc.heap.size) wc).drew);have FF:=Lh (show ∀V,Hid (Below (wc.heap.size) wc V)→V.cell? ⟨b,o+i*3,none⟩=some (.int .i64 ix)∧V.cell? ⟨b,o+i*3+1,none⟩=some (.int .i64 iy)∧V.cell? ⟨b,o+i*3+2,none⟩=some (.int .i64 iz)∧V.cell? ⟨b,o+j*3,none⟩=some (.int .i64 jx)∧V.cell? ⟨b,o+j*3+1,none⟩=some (.int .i64 jy)∧V.cell? ⟨b,o+j*3+2,none⟩=some (.int .i64 jz)∧V.cell? ⟨b,o+k*3,none⟩=some (.int .i64 kx)∧V.cell? ⟨b,o+k*3+1,none⟩=some (.int .i64 ky)∧V.cell? ⟨b,o+k*3+2,none⟩=some (.int .i64 kz) from fun V HB=>⟨(HB.cell (p:=⟨b,o+i*3,none⟩) (lbc)).trans i0,(HB.cell (p:=⟨b,o+i*3+1,none⟩) (lbc)).trans i1,(HB.cell (p:=⟨b,o+i*3+2,none⟩) (lbc)).trans i2,(HB.cell (p:=⟨b,o+j*3,none⟩) (lbc)).trans j0,(HB.cell (p:=⟨b,o+j*3+1,none⟩) (lbc)).trans j1,(HB.cell (p:=⟨b,o+j*3+2,none⟩) (lbc)).trans j2,(HB.cell (p:=⟨b,o+k*3,none⟩) (lbc)).trans k0,(HB.cell (p:=⟨b,o+k*3+1,none⟩) (lbc)).trans k1,(HB.cell (p:=⟨b,o+k*3+2,none⟩) (lbc)).trans k2⟩);refine start_ (n:=15) (S:=fun w'=>w'.cell? ⟨b,o+i*3,none⟩=some (.int .i64 ix)∧w'.cell? ⟨b,o+i*3+1,none⟩=some (.int .i64 iy)∧w'.cell? ⟨b,o+i*3+2,none⟩=some (.int .i64 iz)∧w'.cell? ⟨b,o+j*3,none⟩=some (.int .i64 jx)∧w'.cell? ⟨b,o+j*3+1,none⟩=some (.int .i64 jy)∧w'.cell? ⟨b,o+j*3+2,none⟩=some (.int .i64 jz)∧w'.cell? ⟨b,o+k*3,none⟩=some (.int .i64 kx)∧w'.cell? ⟨b,o+k*3+1,none⟩=some (.int .i64 ky)∧w'.cell? ⟨b,o+k*3+2,none⟩=some (.int .i64 kz)) (ds:=[]) (MT 0 15) (by kernel_rfl) rfl rfl (FF.out _ HB) (fun j_=>?_);obtain⟨wd,hwd⟩:=nm_ wc.drew;rw[hwd]at HB j_⊢;clear hwd;refine pu_ 0 38 (h:=?_);refine pu_ 1 39 (h:=?_);refine pu_ 2 40 (h:=?_);refine pu_ 4 42 (h:=?_);refine pu_ 5 43 (h:=?_);refine pu_ 6 44 (h:=?_);refine pu_ 8 46 (h:=?_);refine pu_ 9 47 (h:=?_);refine pu_ 10 48 (h:=?_);refine ta_ 3 41 j_ (h:=?_);refine ta_ 7 45 j_ (h:=?_);refine ta_ 11 49 j_ (h:=?_);refine join_ (σ:=Nat) 1 (MT 14 1) (fun s=>[(9, .pointer (some ⟨s,0,none⟩)),(50, .agg #[.int .i64 nx, .int .i64 ny, .int .i64 nz])]) (fun s w'=>wc.heap.size≤s∧w'.heap[s]?=some (.cells #[.int .i64 0, .int .i64 0, .int .i64 0] 23 (0,0))∧Below (wc.heap.size) wc w') ?_ ?_;rotate_left
       ·intro hCont;refine two_ (i:=12) (j:=13) (Ni:=some 50) (Nj:=some 9) (MT 13 2) (MB_ 15 12287) rfl rfl rfl rfl (by kernel_rfl) (by decide) (by decide) (fun K hK=>?_) (fun K hK=>?_)
        ·skip
         refine gs_ Tryz.func114 #[.agg #[.int .i64 ix, .int .i64 iy, .int .i64 iz], .agg #[.int .i64 jx, .int .i64 jy, .int .i64 jz], .agg #[.int .i64 kx, .int .i64 ky, .int .i64 kz]] ?_
         with_reducible refine(hNO.out _).mono ?_
         rintro e w3 ⟨rfl,hb⟩;have HB:=tm_ HB hb;clear hb;refine⟨_,rfl,?_⟩;refine hK.out _ _ (FF.out _ HB) (fun j_=>?_);clear hK K;refine no_ (h:=?_);refine on_ 13 (some 9) (h:=fun K hK=>?_);refine va_ ?_;have HA:=Lh (ha_new HB.out (.cells #[.int .i64 0, .int .i64 0, .int .i64 0] 23));have hge:=HB.size;have HB:=Lh (HB.alloc (Nat.le_trans (Nat.le_refl _) HB.size) (.cells #[.int .i64 0, .int .i64 0, .int .i64 0] 23));refine hK.out _ _ (FF.out _ HB) (fun j_=>?_);clear hK K;refine no_ (h:=?_);exact nz_ (hCont _ _ ⟨hge,HA.out,HB.out⟩)
        ·skip
         refine va_ ?_;have HA:=Lh (ha_new HB.out (.cells #[.int .i64 0, .int .i64 0, .int .i64 0] 23));have hge:=HB.size;have HB:=Lh (HB.alloc (Nat.le_trans (Nat.le_refl _) HB.size) (.cells #[.int .i64 0, .int .i64 0, .int .i64 0] 23));refine hK.out _ _ (FF.out _ HB) (fun j_=>?_);clear hK K;refine no_ (h:=?_);refine on_ 12 (some 50) (h:=fun K hK=>?_);refine gs_ Tryz.func114 #[.agg #[.int .i64 ix, .int .i64 iy, .int .i64 iz], .agg #[.int .i64 jx, .int .i64 jy, .int .i64 jz], .agg #[.int .i64 kx, .int .i64 ky, .int .i64 kz]] ?_
         with_reducible refine(hNO.out _).mono ?_
         rintro e w3 ⟨rfl,hb⟩;have HB:=tm_ HB hb;have HA:=up_ hb HA;clear hb;refine⟨_,rfl,?_⟩;refine hK.out _ _ (FF.out _ HB) (fun j_=>?_);clear hK K;refine no_ (h:=?_);exact nz_ (hCont _ _ ⟨hge,HA.out,HB.out⟩)
       rintro AB wj ⟨hge,HA,HB⟩;have HA:=Lh HA;have HB:=Lh HB;have j_:=FF.out _ HB;refine no_ (h:=?_);refine on_ 14 (none) (h:=fun K hK=>?_);have sc0:World.cell? _ ⟨AB,0,none⟩=some (.int .i64 0):=(blk_cell HA.out 0).trans rfl;have sf0:=blk_frozen HA.out 0;have sc1:World.cell? _ ⟨AB,1,none⟩=some (.int .i64 0):=(blk_cell HA.out 1).trans rfl;have sf1:=blk_frozen HA.out 1;have sc2:World.cell? _ ⟨AB,2,none⟩=some (.int .i64 0):=(blk_cell HA.out 2).trans rfl;have sf2:=blk_frozen HA.out 2;refine skip_ (w1:=?_) (by rfl) rfl ?_ ?_;rotate_left
       ·go_simp;rfl
       have HA:=Lh (bs3 HA.out (.int .i64 nx) (.int .i64 ny) (.int .i64 nz));have HB:=Lh (bb3 HB.out (Nat.le_trans (Nat.le_refl _) hge) (.int .i64 nx) (.int .i64 ny) (.int .i64 nz));clear sc0 sf0 sc1 sf1 sc2 sf2;refine hK.out _ _ (FF.out _ HB) (fun j_=>?_);clear hK K;refine done_ (by kernel_rfl) ?_;obtain⟨w5,hwn⟩:=nm_ ((((wj.setCell ⟨AB,0,none⟩ (.int .i64 nx)).setCell ⟨AB,1,none⟩ (.int .i64 ny)).setCell ⟨AB,2,none⟩ (.int .i64 nz)));rw[hwn]at HA HB⊢;clear hwn;have hS5:=Lh (hS.grown HB.out);have hA5:=HA;have lA5:AB<w5.heap.size:=blk_lt hA5.out;clear j_ HB HA hge i0 i1 i2 j0 j1 j2 k0 k1 k2 hS lbc;obtain⟨i0,i1,i2⟩:=HRD.out _ hS5.out.bl i _ hpi.out;simp only at i0 i1 i2;obtain⟨n0,n1,n2,_⟩:=f3_ AB hA5.out;have lb5:b<w5.heap.size:=by have:=hS5.out.bl.size;omega
       have hRD5:=Lh (HAA.out.1.below hS5.out.bl);go_wp2_with fail;have HB:=Lh ((Below.refl (w5.heap.size) w5).drew);refine start_ (n:=8) (S:=fun w'=>w'.cell? ⟨AB,0,none⟩=some (.int .i64 nx)∧w'.cell? ⟨AB,1,none⟩=some (.int .i64 ny)∧w'.cell? ⟨AB,2,none⟩=some (.int .i64 nz)∧w'.cell? ⟨b,o+i*3,none⟩=some (.int .i64 ix)∧w'.cell? ⟨b,o+i*3+1,none⟩=some (.int .i64 iy)∧w'.cell? ⟨b,o+i*3+2,none⟩=some (.int .i64 iz)) (ds:=[]) (MT 0 8) (by kernel_rfl) rfl rfl ⟨(HB.cell (p:=⟨AB,0,none⟩) (lA5)).trans n0,(HB.cell (p:=⟨AB,1,none⟩) (lA5)).trans n1,(HB.cell (p:=⟨AB,2,none⟩) (lA5)).trans n2,(HB.cell (p:=⟨b,o+i*3,none⟩) (lb5)).trans i0,(HB.cell (p:=⟨b,o+i*3+1,none⟩) (lb5)).trans i1,(HB.cell (p:=⟨b,o+i*3+2,none⟩) (lb5)).trans i2⟩ (fun j_=>?_);have hRDd:=Lh (show Rd w5.drew (some ⟨b,o,none⟩) l from hRD5.out);obtain⟨wd,hwd⟩:=nm_ w5.drew;rw[hwd]at HB j_ hRDd⊢;clear hwd;refine pu_ 0 51 (h:=?_);refine pu_ 2 53 (h:=?_);refine pu_ 3 54 (h:=?_);refine pu_ 4 55 (h:=?_);refine ta_ 1 52 j_ (h:=?_);refine ta_ 5 56 j_ (h:=?_);refine on_ 6 (some 57) (h:=fun K hK=>?_);refine gs_ Tryz.func115 #[.slice (some ⟨b,o,none⟩) N c, .agg #[.int .i64 nx, .int .i64 ny, .int .i64 nz], .agg #[.int .i64 ix, .int .i64 iy, .int .i64 iz]] ?_
       with_reducible refine(hSD.out _ hRDd.out).mono ?_
       rintro e w3 ⟨rfl,hb⟩;have HB:=tm_ HB hb;clear hb;refine⟨_,rfl,?_⟩;refine hK.out _ _ ⟨(HB.cell (p:=⟨AB,0,none⟩) (lA5)).trans n0,(HB.cell (p:=⟨AB,1,none⟩) (lA5)).trans n1,(HB.cell (p:=⟨AB,2,none⟩) (lA5)).trans n2,(HB.cell (p:=⟨b,o+i*3,none⟩) (lb5)).trans i0,(HB.cell (p:=⟨b,o+i*3+1,none⟩) (lb5)).trans i1,(HB.cell (p:=⟨b,o+i*3+2,none⟩) (lb5)).trans i2⟩ (fun j_=>?_);clear hK K;refine no_ (h:=?_);refine pu_ 7 10 (h:=?_);refine done_ (by kernel_rfl) ?_;have hS6:=Lh (hS5.grown HB.out);have hA6:=Lh ((HB.block _ lA5).trans hA5.out);clear j_ HB hRDd hRD5 i0 i1 i2 n0 n1 n2 hS5 hA5 lA5 lb5;obtain⟨n0,n1,n2,_⟩:=f3_ AB hA6.out;by_cases hskip:(⟨nx,ny,nz⟩:P3)=⟨0,0,0⟩∨sg=0
       ·have hD2:=Lh (hD.out.step (fun a ha=>ha) (fun a ha=>by
         obtain⟨g1,g2,_⟩:=hAT.out a ha
         rcases hskip with h|h
         ·exact absurd h g1
         ·exact absurd h g2))
        have hcase:eqP nx ny nz 0 0 0=true∨(eqP nx ny nz 0 0 0=false∧(sg == 0)=true):=by
         by_cases h:(⟨nx,ny,nz⟩:P3)=⟨0,0,0⟩
         ·exact .inl (eqP_yes h)
         ·refine .inr ⟨eqP_no h,?_⟩;rcases hskip with h'|h'
          ·exact absurd h' h
          ·simp[h']
        clear hskip;rcases hcase with he|⟨he,hs0⟩
        all_goals
         go_wp2
         go_roundw
         case rel=>exact⟨k+1,axes,edges,by omega,by omega,by go_num,hS6,hD2,by omega,by omega⟩
         case measure=>simp[intOf];omega
       ·have hn0:(⟨nx,ny,nz⟩:P3)≠⟨0,0,0⟩:=fun h=>hskip (.inl h);have hs0:sg≠0:=fun h=>hskip (.inr h);have he:=eqP_no hn0;have hs0':(sg == 0)=false:=by simpa using hs0
        obtain⟨nb1,nb2,nb3,nb4,nb5,nb6⟩:=ni1.out;simp only at nb1 nb2 nb3 nb4 nb5 nb6;have hsb:sg=1∨sg= -1:=by
         rcases hsd.out with h|h|h
         ·exact .inl h
         ·exact .inr h
         ·exact absurd h hs0
        have m1: -34359738368≤sg*nx∧sg*nx≤34359738368:=by rcases hsb with rfl|rfl<;>omega
        have m2: -34359738368≤sg*ny∧sg*ny≤34359738368:=by rcases hsb with rfl|rfl<;>omega
        have m3: -34359738368≤sg*nz∧sg*nz≤34359738368:=by rcases hsb with rfl|rfl<;>omega
        have w1':IntKind.i64.wrap (sg*nx)=sg*nx:=iw_id _ (by omega) (by omega);have w2':IntKind.i64.wrap (sg*ny)=sg*ny:=iw_id _ (by omega) (by omega);have w3':IntKind.i64.wrap (sg*nz)=sg*nz:=iw_id _ (by omega) (by omega);have w4':wrap64 (sg*nx)=sg*nx:=w64_id _ (by omega) (by omega);have w5':wrap64 (sg*ny)=sg*ny:=w64_id _ (by omega) (by omega);have w6':wrap64 (sg*nz)=sg*nz:=w64_id _ (by omega) (by omega);have hSH:=Lh (fun W=>rshort_calls ⟨sg*nx,sg*ny,sg*nz⟩ W (by unfold in3;simp only;omega));have hAX:=Lh (hAI.out _ hn0 hs0 rfl);have hATE:=Lh (fun a (ha:AxAt l i j k a)=>(hAT.out a ha).2.2);have haI:=Lh (short3_in ⟨sg*nx,sg*ny,sg*nz⟩);unfold axisF at hAX hATE;simp only at hAX hATE;obtain⟨a,ha⟩:=nm_ (short3 ⟨sg*nx,sg*ny,sg*nz⟩);rw[ha]at hSH hAX hATE haI;clear ha hskip hn0 hs0 hsb m1 m2 m3 nb1 nb2 nb3 nb4 nb5 nb6;go_wp2_with fail;refine(hSH.out _).mono ?_;rintro e w6 ⟨rfl,hb⟩;have hS7:=Lh (hS6.grown hb);clear hb hS6 hA6 n0 n1 n2 he hs0' w1' w2' w3' w4' w5' w6';obtain⟨Ax,cx,hvx,hlx,hrx,hbx⟩:=OwnP.rdB hS7.out.o4;have hS8:=Lh (hS7.grown ((Below.refl _ w6).alloc (Nat.le_refl _) (.cells #[.int .i64 a.x, .int .i64 a.y, .int .i64 a.z] 23)));have hR8:=Lh (hrx.1.below ((Below.refl _ w6).alloc (Nat.le_refl _) (.cells #[.int .i64 a.x, .int .i64 a.y, .int .i64 a.z] 23)));have hA8:=Lh (heap_alloc_new w6 (.cells #[.int .i64 a.x, .int .i64 a.y, .int .i64 a.z] 23));obtain⟨w8,hw8⟩:=nm_ (w6.alloc (.cells #[.int .i64 a.x, .int .i64 a.y, .int .i64 a.z] 23));rw[hw8]at hS8 hR8 hA8;obtain⟨BA,hBA⟩:=nm_ w6.heap.size;rw[hBA]at hA8;have lBA:BA<w8.heap.size:=blk_lt hA8.out;subst hvx;clear hS7 hrx;have lax:axes.length≤2000:=by omega
        obtain⟨hc0,hc1,hc2,_⟩:=f3_ BA hA8.out;have hHas:=Lh (fun r hr=>has_calls axes Ax cx a false w8 hR8.out (by omega) haI.out r hr);have hlx:=Lh hlx;have hbx:=Lh hbx;go_wp2_with fail
        (try rw[hw8])
        obtain⟨hb4,hhb⟩:=nm_ (hasF axes a false);refine(hHas.out hb4 hhb).mono ?_;rintro e wh ⟨rfl,hb⟩;have hhb:=Lh hhb;have hS9:=Lh (hS8.grown hb);have hA9:=Lh ((hb.block _ lBA).trans hA8.out);clear hb hHas hS8 hR8 hA8 hc0 hc1 hc2 hw8 hBA lBA;obtain⟨hc0,hc1,hc2,_⟩:=f3_ BA hA9.out
        -- the three edges
        obtain⟨⟨d1,d2,d3⟩,hd⟩:∃d,minus3 ⟨jx,jy,jz⟩ ⟨ix,iy,iz⟩=d:=⟨_,rfl⟩;obtain⟨⟨f1,f2,f3⟩,hf⟩:∃d,minus3 ⟨kx,ky,kz⟩ ⟨ix,iy,iz⟩=d:=⟨_,rfl⟩;obtain⟨⟨g1,g2,g3⟩,hg⟩:∃d,minus3 ⟨kx,ky,kz⟩ ⟨jx,jy,jz⟩=d:=⟨_,rfl⟩;have M1:=(fun W=>rminus_calls jx jy jz ix iy iz W);have M2:=(fun W=>rminus_calls kx ky kz ix iy iz W);have M3':=(fun W=>rminus_calls kx ky kz jx jy jz W);have E1:=hE1.out;have E2:=hE2.out;have E3:=hE3.out;have j1:=ni2.out;have j2:=ni3.out;have j3:=ni4.out;rw[hd]at M1 E1 j1;rw[hf]at M2 E2 j2;rw[hg]at M3' E3 j3;have S1:=(fun W=>rshort_calls ⟨d1,d2,d3⟩ W (in3_le (by decide) j1));have S2:=(fun W=>rshort_calls ⟨f1,f2,f3⟩ W (in3_le (by decide) j2));have S3:=(fun W=>rshort_calls ⟨g1,g2,g3⟩ W (in3_le (by decide) j3));have I1:=short3_in ⟨d1,d2,d3⟩;have I2:=short3_in ⟨f1,f2,f3⟩;have I3:=short3_in ⟨g1,g2,g3⟩;obtain⟨e1,he1⟩:=nm_ (short3 ⟨d1,d2,d3⟩);obtain⟨e2,he2⟩:=nm_ (short3 ⟨f1,f2,f3⟩);obtain⟨e3,he3⟩:=nm_ (short3 ⟨g1,g2,g3⟩);rw[he1]at S1 I1 E1;rw[he2]at S2 I2 E2;rw[he3]at S3 I3 E3
        have EL:=Lh (show ∀e∈[e1,e2,e3],EdP l e∧in3 1048576 e by
         intro e he
         simp only[List.mem_cons,List.not_mem_nil,or_false]at he
         rcases he with rfl|rfl|rfl
         ·exact⟨E1,I1⟩
         ·exact⟨E2,I2⟩
         ·exact⟨E3,I3⟩)
        have M1:=Lh M1;have M2:=Lh M2;have M3':=Lh M3';have S1:=Lh S1;have S2:=Lh S2;have S3:=Lh S3;clear hd hf hg he1 he2 he3 E1 E2 E3 I1 I2 I3 j1 j2 j3 hE1 hE2 hE3;cases hb4
        ·have hS10:=Lh (hS9.grown ((Below.refl _ wh).alloc (Nat.le_refl _) (.cells #[.int .i64 a.x, .int .i64 a.y, .int .i64 a.z] 23)));have hA10:=Lh (heap_alloc_new wh (.cells #[.int .i64 a.x, .int .i64 a.y, .int .i64 a.z] 23));have hna:=Lh (hasF_no hhb.out);go_wp2_with(at_builtin;refine wpList_one_at w.heap.size rfl _ _ rfl _ axes _ _ a 23 rfl rfl hS10.out.o4 hA10.out (by omega) (by have:=hS10.out.bl.size;omega) ?_;intro v9 w9 hv9 hg9 hat9;have hS11:=Lh (hS10.out.add4 hv9 hg9 hat9 hna.out hAX.out);clear hv9 hg9 hat9);have hDn:=Lh (show DoneA l (axes++[a]) i j (k+1) from hD.out.step (fun x hx=>List.mem_append_left _ hx) (fun x hx=>by rw[hATE.out x hx];simp));clear hS9 hA9 hS10 hA10 hc0 hc1 hc2 hna;obtain⟨i0,i1,i2⟩:=HRD.out _ hS11.out.bl i _ hpi.out;obtain⟨j0,j1,j2⟩:=HRD.out _ hS11.out.bl j _ hpj.out;obtain⟨k0,k1,k2⟩:=HRD.out _ hS11.out.bl k _ hpk.out;simp only at i0 i1 i2 j0 j1 j2 k0 k1 k2;have lb9:b<w9.heap.size:=by have:=hS11.out.bl.size;omega
         have HB:=Lh ((Below.refl (w9.heap.size) w9).drew);have FF:=Lh (show ∀V,Hid (Below (w9.heap.size) w9 V)→V.cell? ⟨b,o+i*3,none⟩=some (.int .i64 ix)∧V.cell? ⟨b,o+i*3+1,none⟩=some (.int .i64 iy)∧V.cell? ⟨b,o+i*3+2,none⟩=some (.int .i64 iz)∧V.cell? ⟨b,o+j*3,none⟩=some (.int .i64 jx)∧V.cell? ⟨b,o+j*3+1,none⟩=some (.int .i64 jy)∧V.cell? ⟨b,o+j*3+2,none⟩=some (.int .i64 jz)∧V.cell? ⟨b,o+k*3,none⟩=some (.int .i64 kx)∧V.cell? ⟨b,o+k*3+1,none⟩=some (.int .i64 ky)∧V.cell? ⟨b,o+k*3+2,none⟩=some (.int .i64 kz) from fun V HB=>⟨(HB.cell (p:=⟨b,o+i*3,none⟩) (lb9)).trans i0,(HB.cell (p:=⟨b,o+i*3+1,none⟩) (lb9)).trans i1,(HB.cell (p:=⟨b,o+i*3+2,none⟩) (lb9)).trans i2,(HB.cell (p:=⟨b,o+j*3,none⟩) (lb9)).trans j0,(HB.cell (p:=⟨b,o+j*3+1,none⟩) (lb9)).trans j1,(HB.cell (p:=⟨b,o+j*3+2,none⟩) (lb9)).trans j2,(HB.cell (p:=⟨b,o+k*3,none⟩) (lb9)).trans k0,(HB.cell (p:=⟨b,o+k*3+1,none⟩) (lb9)).trans k1,(HB.cell (p:=⟨b,o+k*3+2,none⟩) (lb9)).trans k2⟩);refine start_ (n:=32) (S:=fun w'=>w'.cell? ⟨b,o+i*3,none⟩=some (.int .i64 ix)∧w'.cell? ⟨b,o+i*3+1,none⟩=some (.int .i64 iy)∧w'.cell? ⟨b,o+i*3+2,none⟩=some (.int .i64 iz)∧w'.cell? ⟨b,o+j*3,none⟩=some (.int .i64 jx)∧w'.cell? ⟨b,o+j*3+1,none⟩=some (.int .i64 jy)∧w'.cell? ⟨b,o+j*3+2,none⟩=some (.int .i64 jz)∧w'.cell? ⟨b,o+k*3,none⟩=some (.int .i64 kx)∧w'.cell? ⟨b,o+k*3+1,none⟩=some (.int .i64 ky)∧w'.cell? ⟨b,o+k*3+2,none⟩=some (.int .i64 kz)) (ds:=[]) (MT 0 32) (by kernel_rfl) rfl rfl (FF.out _ HB) (fun j_=>?_);obtain⟨wd,hwd⟩:=nm_ w9.drew;rw[hwd]at HB j_⊢;clear hwd;refine pu_ 0 88 (h:=?_);refine pu_ 1 89 (h:=?_);refine pu_ 2 90 (h:=?_);refine pu_ 4 92 (h:=?_);refine pu_ 5 93 (h:=?_);refine pu_ 6 94 (h:=?_);refine pu_ 10 98 (h:=?_);refine pu_ 11 99 (h:=?_);refine pu_ 12 100 (h:=?_);refine pu_ 14 102 (h:=?_);refine pu_ 15 103 (h:=?_);refine pu_ 16 104 (h:=?_);refine pu_ 20 108 (h:=?_);refine pu_ 21 109 (h:=?_);refine pu_ 22 110 (h:=?_);refine pu_ 24 112 (h:=?_);refine pu_ 25 113 (h:=?_);refine pu_ 26 114 (h:=?_);refine ta_ 3 91 j_ (h:=?_);refine ta_ 7 95 j_ (h:=?_);refine ta_ 13 101 j_ (h:=?_);refine ta_ 17 105 j_ (h:=?_);refine ta_ 23 111 j_ (h:=?_);refine ta_ 27 115 j_ (h:=?_);refine on_ 8 (some 96) (h:=fun K hK=>?_);refine gs_ Tryz.func11 #[.agg #[.int .i64 jx, .int .i64 jy, .int .i64 jz], .agg #[.int .i64 ix, .int .i64 iy, .int .i64 iz]] ?_
         with_reducible refine(M1.out _).mono ?_
         rintro e w3 ⟨rfl,hb⟩;have HB:=tm_ HB hb;clear hb;refine⟨_,rfl,?_⟩;refine hK.out _ _ (FF.out _ HB) (fun j_=>?_);clear hK K;refine no_ (h:=?_);refine on_ 9 (some 97) (h:=fun K hK=>?_);refine gs_ Tryz.func84 #[aP ⟨d1,d2,d3⟩] ?_
         with_reducible refine(S1.out _).mono ?_
         rintro e w3 ⟨rfl,hb⟩;have HB:=tm_ HB hb;clear hb;refine⟨_,rfl,?_⟩;refine hK.out _ _ (FF.out _ HB) (fun j_=>?_);clear hK K;refine no_ (h:=?_);refine on_ 18 (some 106) (h:=fun K hK=>?_);refine gs_ Tryz.func11 #[.agg #[.int .i64 kx, .int .i64 ky, .int .i64 kz], .agg #[.int .i64 ix, .int .i64 iy, .int .i64 iz]] ?_
         with_reducible refine(M2.out _).mono ?_
         rintro e w3 ⟨rfl,hb⟩;have HB:=tm_ HB hb;clear hb;refine⟨_,rfl,?_⟩;refine hK.out _ _ (FF.out _ HB) (fun j_=>?_);clear hK K;refine no_ (h:=?_);refine on_ 19 (some 107) (h:=fun K hK=>?_);refine gs_ Tryz.func84 #[aP ⟨f1,f2,f3⟩] ?_
         with_reducible refine(S2.out _).mono ?_
         rintro e w3 ⟨rfl,hb⟩;have HB:=tm_ HB hb;clear hb;refine⟨_,rfl,?_⟩;refine hK.out _ _ (FF.out _ HB) (fun j_=>?_);clear hK K;refine no_ (h:=?_);refine on_ 28 (some 116) (h:=fun K hK=>?_);refine gs_ Tryz.func11 #[.agg #[.int .i64 kx, .int .i64 ky, .int .i64 kz], .agg #[.int .i64 jx, .int .i64 jy, .int .i64 jz]] ?_
         with_reducible refine(M3'.out _).mono ?_
         rintro e w3 ⟨rfl,hb⟩;have HB:=tm_ HB hb;clear hb;refine⟨_,rfl,?_⟩;refine hK.out _ _ (FF.out _ HB) (fun j_=>?_);clear hK K;refine no_ (h:=?_);refine on_ 29 (some 117) (h:=fun K hK=>?_);refine gs_ Tryz.func84 #[aP ⟨g1,g2,g3⟩] ?_
         with_reducible refine(S3.out _).mono ?_
         rintro e w3 ⟨rfl,hb⟩;have HB:=tm_ HB hb;clear hb;refine⟨_,rfl,?_⟩;refine hK.out _ _ (FF.out _ HB) (fun j_=>?_);clear hK K;refine no_ (h:=?_);refine on_ 30 (some 118) (h:=fun K hK=>?_);refine va_ ?_;have HA:=Lh (ha_new HB.out (.cells #[.int .i64 e1.x, .int .i64 e1.y, .int .i64 e1.z, .int .i64 e2.x, .int .i64 e2.y, .int .i64 e2.z, .int .i64 e3.x, .int .i64 e3.y, .int .i64 e3.z] 23));have hge:=HB.size;have HB:=Lh (HB.alloc (Nat.le_trans (Nat.le_refl _) HB.size) (.cells #[.int .i64 e1.x, .int .i64 e1.y, .int .i64 e1.z, .int .i64 e2.x, .int .i64 e2.y, .int .i64 e2.z, .int .i64 e3.x, .int .i64 e3.y, .int .i64 e3.z] 23));refine hK.out _ _ (FF.out _ HB) (fun j_=>?_);clear hK K;refine no_ (h:=?_);refine pu_ 31 13 (h:=?_);refine done_ (by kernel_rfl) ?_;obtain⟨w10,hw10⟩:=nm_ (w3.alloc (.cells #[.int .i64 e1.x, .int .i64 e1.y, .int .i64 e1.z, .int .i64 e2.x, .int .i64 e2.y, .int .i64 e2.z, .int .i64 e3.x, .int .i64 e3.y, .int .i64 e3.z] 23));obtain⟨EB,hEB⟩:=nm_ w3.heap.size;rw[hw10]at HB HA⊢;rw[hEB]at HA hge⊢;have hS12:=Lh (hS11.grown HB.out);have hne:=Lh (fun q (h:(_:Value).ownBlock=some q)=>show q≠EB by have:=OwnP.lt hS11.out.o5 q h;omega);have hE:=HA;have lE:EB<w10.heap.size:=blk_lt hE.out;clear j_ HB HA hge hw10 hEB i0 i1 i2 j0 j1 j2 k0 k1 k2 hS11 lb9 M1 M2 M3' S1 S2 S3;go_wp2;go_loopw [5,14,15] (fun v5 v14 v15 wr=>∃(q:Nat) (edges2:List P3),q≤3∧v14= .int .i64 q∧Hid (HSt l w wr _ v5 (axes++[a]) edges2)∧Hid (wr.heap[EB]?=some (.cells #[.int .i64 e1.x, .int .i64 e1.y, .int .i64 e1.z, .int .i64 e2.x, .int .i64 e2.y, .int .i64 e2.z, .int .i64 e3.x, .int .i64 e3.y, .int .i64 e3.z] 23 (0,0)))∧Hid (∀z,v5.ownBlock=some z→z≠EB)∧edges2.length≤edges.length+q) (fun _ q _ _=>3-(intOf q).toNat)
         case atStart=>exact⟨0,edges,by omega,rfl,hS12,hE,hne,by omega⟩
         case round=>
          clear hS12 hE hne lE;obtain⟨q,edges2,hq3,rfl,hS,hE,hne,hle⟩:=hrel;by_cases hq:q<3
          ·obtain⟨eb,eo,ee,_,q0,q1,q2⟩:=(Rd_three hE.out).1.get q (by simpa using hq);simp only[Option.some.injEq,Addr.mk.injEq,and_true]at ee;obtain⟨rfl,rfl⟩:=ee;obtain⟨hEP,hEI⟩:=EL.out _ (List.getElem_mem (show q<[e1,e2,e3].length by simpa using hq));obtain⟨ev,hev⟩:=nm_ ([e1,e2,e3][q]'(by simpa using hq));rw[hev]at q0 q1 q2 hEP hEI;have hEP:=Lh hEP;have HEV:=Lh hev;clear hev;obtain⟨Ae,ce,hve,hle2,hre,hbe⟩:=OwnP.rdB hS.out.o5;have hHas:=Lh (fun r hr=>has_calls edges2 Ae ce ev true _ hre.1 (by omega) hEI r hr);obtain⟨be,hbe2⟩:=nm_ (hasF edges2 ev true);have lEr:EB<wr.heap.size:=blk_lt hE.out;obtain⟨wo2,hwo2⟩:∃wo:World,wo=wr:=⟨_,rfl⟩;subst hwo2;subst hve;rw[Nat.zero_add]at q0 q1 q2;go_wp2_with fail;refine(hHas.out be hbe2).mono ?_;rintro e w13 ⟨rfl,hb⟩;have hS13:=Lh (hS.grown hb);have hE13:=Lh ((hb.block _ lEr).trans hE.out);have l13:EB<w13.heap.size:=blk_lt hE13.out;clear hb hHas q0 q1 q2 hre;obtain⟨eb,eo,ee,_,q0,q1,q2⟩:=(Rd_three hE13.out).1.get q (by simpa using hq);simp only[Option.some.injEq,Addr.mk.injEq,and_true]at ee;obtain⟨rfl,rfl⟩:=ee;rw[HEV.out]at q0 q1 q2;rw[Nat.zero_add]at q0 q1 q2;cases be
           ·have hnb:=Lh (hasF_no hbe2);have hS14:=Lh (hS13.grown ((Below.refl _ w13).alloc (Nat.le_refl _) (.cells #[.int .i64 ev.x, .int .i64 ev.y, .int .i64 ev.z] 23)));have hA14:=Lh (heap_alloc_new w13 (.cells #[.int .i64 ev.x, .int .i64 ev.y, .int .i64 ev.z] 23));have hE14:=Lh ((Below.heap_alloc _ (.cells #[.int .i64 ev.x, .int .i64 ev.y, .int .i64 ev.z] 23) _ l13).trans hE13.out);have hbe2:=Lh hbe2;go_wp2_with(at_builtin;refine wpList_one_at w.heap.size rfl _ _ rfl _ edges2 _ _ ev 23 rfl rfl hS14.out.o5 hA14.out (by omega) (by have:=hS14.out.bl.size;omega) ?_;intro v15 w15 hv15 hg15 hat15;have hS15:=Lh (hS14.out.add5 hv15 hg15 hat15 hnb.out hEP.out);have hE15:=Lh ((hg15.block EB (blk_lt hE14.out) (fun e=>hne.out EB e.symm rfl)).trans hE14.out);have hne15:=Lh (fun z (hz:v15.ownBlock=some z)=>show z≠EB from by rcases hat15 with e|e;exact hne.out z (e▸hz);rw[e]at hz;cases hz;simp;omega);clear hv15 hg15 hat15)
            go_roundw
            case rel=>exact⟨q+1,edges2++[ev],by omega,by go_num,hS15,hE15,hne15,by simp;omega⟩
            case measure=>simp[intOf];omega
           ·have hbe2:=Lh hbe2;go_wp2
            go_roundw
            case rel=>exact⟨q+1,edges2,by omega,by go_num,hS13,hE13,hne,by omega⟩
            case measure=>simp[intOf];omega
          ·obtain rfl:q=3:=by omega
           go_wp2
           go_roundw
           case rel=>exact⟨k+1,axes++[a],edges2,by omega,by omega,by go_num,hS,hDn,by first|omega|(simp;omega),by omega⟩
           case measure=>simp[intOf];omega
        ·have hDn:=Lh (show DoneA l axes i j (k+1) from hD.out.step (fun x hx=>hx) (fun x hx=>by rw[hATE.out x hx];exact hasF_yes hhb.out));go_wp2_with fail;obtain⟨w9,hw9⟩:∃x:World,x=wh:=⟨_,rfl⟩;subst hw9;have hS11:=hS9;clear hA9 hc0 hc1 hc2 hS9;obtain⟨i0,i1,i2⟩:=HRD.out _ hS11.out.bl i _ hpi.out;obtain⟨j0,j1,j2⟩:=HRD.out _ hS11.out.bl j _ hpj.out;obtain⟨k0,k1,k2⟩:=HRD.out _ hS11.out.bl k _ hpk.out;simp only at i0 i1 i2 j0 j1 j2 k0 k1 k2;have lb9:b<w9.heap.size:=by have:=hS11.out.bl.size;omega
         have HB:=Lh ((Below.refl (w9.heap.size) w9).drew);have FF:=Lh (show ∀V,Hid (Below (w9.heap.size) w9 V)→V.cell? ⟨b,o+i*3,none⟩=some (.int .i64 ix)∧V.cell? ⟨b,o+i*3+1,none⟩=some (.int .i64 iy)∧V.cell? ⟨b,o+i*3+2,none⟩=some (.int .i64 iz)∧V.cell? ⟨b,o+j*3,none⟩=some (.int .i64 jx)∧V.cell? ⟨b,o+j*3+1,none⟩=some (.int .i64 jy)∧V.cell? ⟨b,o+j*3+2,none⟩=some (.int .i64 jz)∧V.cell? ⟨b,o+k*3,none⟩=some (.int .i64 kx)∧V.cell? ⟨b,o+k*3+1,none⟩=some (.int .i64 ky)∧V.cell? ⟨b,o+k*3+2,none⟩=some (.int .i64 kz) from fun V HB=>⟨(HB.cell (p:=⟨b,o+i*3,none⟩) (lb9)).trans i0,(HB.cell (p:=⟨b,o+i*3+1,none⟩) (lb9)).trans i1,(HB.cell (p:=⟨b,o+i*3+2,none⟩) (lb9)).trans i2,(HB.cell (p:=⟨b,o+j*3,none⟩) (lb9)).trans j0,(HB.cell (p:=⟨b,o+j*3+1,none⟩) (lb9)).trans j1,(HB.cell (p:=⟨b,o+j*3+2,none⟩) (lb9)).trans j2,(HB.cell (p:=⟨b,o+k*3,none⟩) (lb9)).trans k0,(HB.cell (p:=⟨b,o+k*3+1,none⟩) (lb9)).trans k1,(HB.cell (p:=⟨b,o+k*3+2,none⟩) (lb9)).trans k2⟩);refine start_ (n:=32) (S:=fun w'=>w'.cell? ⟨b,o+i*3,none⟩=some (.int .i64 ix)∧w'.cell? ⟨b,o+i*3+1,none⟩=some (.int .i64 iy)∧w'.cell? ⟨b,o+i*3+2,none⟩=some (.int .i64 iz)∧w'.cell? ⟨b,o+j*3,none⟩=some (.int .i64 jx)∧w'.cell? ⟨b,o+j*3+1,none⟩=some (.int .i64 jy)∧w'.cell? ⟨b,o+j*3+2,none⟩=some (.int .i64 jz)∧w'.cell? ⟨b,o+k*3,none⟩=some (.int .i64 kx)∧w'.cell? ⟨b,o+k*3+1,none⟩=some (.int .i64 ky)∧w'.cell? ⟨b,o+k*3+2,none⟩=some (.int .i64 kz)) (ds:=[]) (MT 0 32) (by kernel_rfl) rfl rfl (FF.out _ HB) (fun j_=>?_);obtain⟨wd,hwd⟩:=nm_ w9.drew;rw[hwd]at HB j_⊢;clear hwd;refine pu_ 0 88 (h:=?_);refine pu_ 1 89 (h:=?_);refine pu_ 2 90 (h:=?_);refine pu_ 4 92 (h:=?_);refine pu_ 5 93 (h:=?_);refine pu_ 6 94 (h:=?_);refine pu_ 10 98 (h:=?_);refine pu_ 11 99 (h:=?_);refine pu_ 12 100 (h:=?_);refine pu_ 14 102 (h:=?_);refine pu_ 15 103 (h:=?_);refine pu_ 16 104 (h:=?_);refine pu_ 20 108 (h:=?_);refine pu_ 21 109 (h:=?_);refine pu_ 22 110 (h:=?_);refine pu_ 24 112 (h:=?_);refine pu_ 25 113 (h:=?_);refine pu_ 26 114 (h:=?_);refine ta_ 3 91 j_ (h:=?_);refine ta_ 7 95 j_ (h:=?_);refine ta_ 13 101 j_ (h:=?_);refine ta_ 17 105 j_ (h:=?_);refine ta_ 23 111 j_ (h:=?_);refine ta_ 27 115 j_ (h:=?_);refine on_ 8 (some 96) (h:=fun K hK=>?_);refine gs_ Tryz.func11 #[.agg #[.int .i64 jx, .int .i64 jy, .int .i64 jz], .agg #[.int .i64 ix, .int .i64 iy, .int .i64 iz]] ?_
         with_reducible refine(M1.out _).mono ?_
         rintro e w3 ⟨rfl,hb⟩;have HB:=tm_ HB hb;clear hb;refine⟨_,rfl,?_⟩;refine hK.out _ _ (FF.out _ HB) (fun j_=>?_);clear hK K;refine no_ (h:=?_);refine on_ 9 (some 97) (h:=fun K hK=>?_);refine gs_ Tryz.func84 #[aP ⟨d1,d2,d3⟩] ?_
         with_reducible refine(S1.out _).mono ?_
         rintro e w3 ⟨rfl,hb⟩;have HB:=tm_ HB hb;clear hb;refine⟨_,rfl,?_⟩;refine hK.out _ _ (FF.out _ HB) (fun j_=>?_);clear hK K;refine no_ (h:=?_);refine on_ 18 (some 106) (h:=fun K hK=>?_);refine gs_ Tryz.func11 #[.agg #[.int .i64 kx, .int .i64 ky, .int .i64 kz], .agg #[.int .i64 ix, .int .i64 iy, .int .i64 iz]] ?_
         with_reducible refine(M2.out _).mono ?_
         rintro e w3 ⟨rfl,hb⟩;have HB:=tm_ HB hb;clear hb;refine⟨_,rfl,?_⟩;refine hK.out _ _ (FF.out _ HB) (fun j_=>?_);clear hK K;refine no_ (h:=?_);refine on_ 19 (some 107) (h:=fun K hK=>?_);refine gs_ Tryz.func84 #[aP ⟨f1,f2,f3⟩] ?_
         with_reducible refine(S2.out _).mono ?_
         rintro e w3 ⟨rfl,hb⟩;have HB:=tm_ HB hb;clear hb;refine⟨_,rfl,?_⟩;refine hK.out _ _ (FF.out _ HB) (fun j_=>?_);clear hK K;refine no_ (h:=?_);refine on_ 28 (some 116) (h:=fun K hK=>?_);refine gs_ Tryz.func11 #[.agg #[.int .i64 kx, .int .i64 ky, .int .i64 kz], .agg #[.int .i64 jx, .int .i64 jy, .int .i64 jz]] ?_
         with_reducible refine(M3'.out _).mono ?_
         rintro e w3 ⟨rfl,hb⟩;have HB:=tm_ HB hb;clear hb;refine⟨_,rfl,?_⟩;refine hK.out _ _ (FF.out _ HB) (fun j_=>?_);clear hK K;refine no_ (h:=?_);refine on_ 29 (some 117) (h:=fun K hK=>?_);refine gs_ Tryz.func84 #[aP ⟨g1,g2,g3⟩] ?_
         with_reducible refine(S3.out _).mono ?_
         rintro e w3 ⟨rfl,hb⟩;have HB:=tm_ HB hb;clear hb;refine⟨_,rfl,?_⟩;refine hK.out _ _ (FF.out _ HB) (fun j_=>?_);clear hK K;refine no_ (h:=?_);refine on_ 30 (some 118) (h:=fun K hK=>?_);refine va_ ?_;have HA:=Lh (ha_new HB.out (.cells #[.int .i64 e1.x, .int .i64 e1.y, .int .i64 e1.z, .int .i64 e2.x, .int .i64 e2.y, .int .i64 e2.z, .int .i64 e3.x, .int .i64 e3.y, .int .i64 e3.z] 23));have hge:=HB.size;have HB:=Lh (HB.alloc (Nat.le_trans (Nat.le_refl _) HB.size) (.cells #[.int .i64 e1.x, .int .i64 e1.y, .int .i64 e1.z, .int .i64 e2.x, .int .i64 e2.y, .int .i64 e2.z, .int .i64 e3.x, .int .i64 e3.y, .int .i64 e3.z] 23));refine hK.out _ _ (FF.out _ HB) (fun j_=>?_);clear hK K;refine no_ (h:=?_);refine pu_ 31 13 (h:=?_);refine done_ (by kernel_rfl) ?_;obtain⟨w10,hw10⟩:=nm_ (w3.alloc (.cells #[.int .i64 e1.x, .int .i64 e1.y, .int .i64 e1.z, .int .i64 e2.x, .int .i64 e2.y, .int .i64 e2.z, .int .i64 e3.x, .int .i64 e3.y, .int .i64 e3.z] 23));obtain⟨EB,hEB⟩:=nm_ w3.heap.size;rw[hw10]at HB HA⊢;rw[hEB]at HA hge⊢;have hS12:=Lh (hS11.grown HB.out);have hne:=Lh (fun q (h:(_:Value).ownBlock=some q)=>show q≠EB by have:=OwnP.lt hS11.out.o5 q h;omega);have hE:=HA;have lE:EB<w10.heap.size:=blk_lt hE.out;clear j_ HB HA hge hw10 hEB i0 i1 i2 j0 j1 j2 k0 k1 k2 hS11 lb9 M1 M2 M3' S1 S2 S3;go_wp2;go_loopw [5,14,15] (fun v5 v14 v15 wr=>∃(q:Nat) (edges2:List P3),q≤3∧v14= .int .i64 q∧Hid (HSt l w wr _ v5 (axes) edges2)∧Hid (wr.heap[EB]?=some (.cells #[.int .i64 e1.x, .int .i64 e1.y, .int .i64 e1.z, .int .i64 e2.x, .int .i64 e2.y, .int .i64 e2.z, .int .i64 e3.x, .int .i64 e3.y, .int .i64 e3.z] 23 (0,0)))∧Hid (∀z,v5.ownBlock=some z→z≠EB)∧edges2.length≤edges.length+q) (fun _ q _ _=>3-(intOf q).toNat)
         case atStart=>exact⟨0,edges,by omega,rfl,hS12,hE,hne,by omega⟩
         case round=>
          clear hS12 hE hne lE;obtain⟨q,edges2,hq3,rfl,hS,hE,hne,hle⟩:=hrel;by_cases hq:q<3
          ·obtain⟨eb,eo,ee,_,q0,q1,q2⟩:=(Rd_three hE.out).1.get q (by simpa using hq);simp only[Option.some.injEq,Addr.mk.injEq,and_true]at ee;obtain⟨rfl,rfl⟩:=ee;obtain⟨hEP,hEI⟩:=EL.out _ (List.getElem_mem (show q<[e1,e2,e3].length by simpa using hq));obtain⟨ev,hev⟩:=nm_ ([e1,e2,e3][q]'(by simpa using hq));rw[hev]at q0 q1 q2 hEP hEI;have hEP:=Lh hEP;have HEV:=Lh hev;clear hev;obtain⟨Ae,ce,hve,hle2,hre,hbe⟩:=OwnP.rdB hS.out.o5;have hHas:=Lh (fun r hr=>has_calls edges2 Ae ce ev true _ hre.1 (by omega) hEI r hr);obtain⟨be,hbe2⟩:=nm_ (hasF edges2 ev true);have lEr:EB<wr.heap.size:=blk_lt hE.out;obtain⟨wo2,hwo2⟩:∃wo:World,wo=wr:=⟨_,rfl⟩;subst hwo2;subst hve;rw[Nat.zero_add]at q0 q1 q2;go_wp2_with fail;refine(hHas.out be hbe2).mono ?_;rintro e w13 ⟨rfl,hb⟩;have hS13:=Lh (hS.grown hb);have hE13:=Lh ((hb.block _ lEr).trans hE.out);have l13:EB<w13.heap.size:=blk_lt hE13.out;clear hb hHas q0 q1 q2 hre;obtain⟨eb,eo,ee,_,q0,q1,q2⟩:=(Rd_three hE13.out).1.get q (by simpa using hq);simp only[Option.some.injEq,Addr.mk.injEq,and_true]at ee;obtain⟨rfl,rfl⟩:=ee;rw[HEV.out]at q0 q1 q2;rw[Nat.zero_add]at q0 q1 q2;cases be
           ·have hnb:=Lh (hasF_no hbe2);have hS14:=Lh (hS13.grown ((Below.refl _ w13).alloc (Nat.le_refl _) (.cells #[.int .i64 ev.x, .int .i64 ev.y, .int .i64 ev.z] 23)));have hA14:=Lh (heap_alloc_new w13 (.cells #[.int .i64 ev.x, .int .i64 ev.y, .int .i64 ev.z] 23));have hE14:=Lh ((Below.heap_alloc _ (.cells #[.int .i64 ev.x, .int .i64 ev.y, .int .i64 ev.z] 23) _ l13).trans hE13.out);have hbe2:=Lh hbe2;go_wp2_with(at_builtin;refine wpList_one_at w.heap.size rfl _ _ rfl _ edges2 _ _ ev 23 rfl rfl hS14.out.o5 hA14.out (by omega) (by have:=hS14.out.bl.size;omega) ?_;intro v15 w15 hv15 hg15 hat15;have hS15:=Lh (hS14.out.add5 hv15 hg15 hat15 hnb.out hEP.out);have hE15:=Lh ((hg15.block EB (blk_lt hE14.out) (fun e=>hne.out EB e.symm rfl)).trans hE14.out);have hne15:=Lh (fun z (hz:v15.ownBlock=some z)=>show z≠EB from by rcases hat15 with e|e;exact hne.out z (e▸hz);rw[e]at hz;cases hz;simp;omega);clear hv15 hg15 hat15)
            go_roundw
            case rel=>exact⟨q+1,edges2++[ev],by omega,by go_num,hS15,hE15,hne15,by simp;omega⟩
            case measure=>simp[intOf];omega
           ·have hbe2:=Lh hbe2;go_wp2
            go_roundw
            case rel=>exact⟨q+1,edges2,by omega,by go_num,hS13,hE13,hne,by omega⟩
            case measure=>simp[intOf];omega
          ·obtain rfl:q=3:=by omega
           go_wp2
           go_roundw
           case rel=>exact⟨k+1,axes,edges2,by omega,by omega,by go_num,hS,hDn,by first|omega|(simp;omega),by omega⟩
           case measure=>simp[intOf];omega
      ·obtain rfl:k=N:=by omega
       have hD2:=Lh (HDT.out axes i j k i (j+1) 0 hD.out (fun i' j' k' h1 h2 h3 h4=>by rw[HN.out]at h3;omega));go_wp2
       go_roundw
       case rel=>exact⟨j+1,axes,edges,by omega,by omega,by go_num,hS,hD2,by omega,by omega⟩
       case measure=>simp[intOf];omega
    ·obtain rfl:j=N:=by omega
     have hD2:=Lh (HDT.out axes i j 0 (i+1) 0 0 hD.out (fun i' j' k' h1 h2 h3 h4=>by rw[HN.out]at h3;omega));go_wp2
     go_roundw
     case rel=>exact⟨i+1,axes,edges,by omega,by go_num,hS,hD2,by omega,by omega⟩
     case measure=>simp[intOf];omega
  ·obtain rfl:i=N:=by omega
   obtain⟨Ax,cx,hvx,hlx,hrx,hbx⟩:=OwnP.rdB hS.out.o4;obtain⟨Ae,ce,hve,hle,hre,hbe⟩:=OwnP.rdB hS.out.o5;subst hvx;subst hve;have hF:=Lh (show HullPost l w (.returned (.tuple #[.slice Ax axes.length cx, .slice Ae edges.length ce])) wa from⟨axes,edges,Ax,Ae,cx,ce,rfl,hlx,hle,hrx,hre,hS.out.bl,hS.out.n4,hS.out.a4,hS.out.n5,hS.out.a5,by rw[HN.out];exact hD.out,hbx,hbe⟩);clear hlx hle hrx hre hbx hbe;go_wp2
   go_ret2
   exact hF.out
end Go.Proofs.YtckdhahceelckaaGreat.G
