/- What the laws of this claim lean on: contracts of functions and plain lemmas; no condition of its own (part 14: XW23). -/
import Derived.Test.YtckdhahceelckaaGreatKQ13
set_option maxHeartbeats 16000000
set_option maxRecDepth 100000
set_option linter.unusedVariables false
set_option linter.unusedSimpArgs false
namespace Go.Proofs.YtckdhahceelckaaGreat.G
open Go.RowKit Go.Proofs.YtckdhahceelckaaGreatW.PrintWords Go.Proofs.YtckdhahceelckaaGreatW.PrintLast Go.Proofs.YtckdhahceelckaaGreatW.PrintMore
attribute [local go_sem] max2_mx min2_mn max_two min_two max_three min_three max_four min_four
attribute [local go_sem high] eqA23
def tdv3 (p:P3)(n:Int):P3:=⟨p.x.tdiv n,p.y.tdiv n,p.z.tdiv n⟩
/-- a direction, turned -/
def wayF (m:M3)(p:P3):P3:=short3 (tdv3 (turnF m (timesF (dbl3 p) 4096)) 4096)
def waysF (m:M3)(l:List P3):List P3:=(l.map (wayF m)).filter fun q=>decide (q≠⟨0,0,0⟩)
theorem waysF_no (m:M3)(l:List P3)(k:Nat)(h:k<l.length)(h0:wayF m l[k]=⟨0,0,0⟩):waysF m (l.take (k+1))=waysF m (l.take k):=by
 unfold waysF;rw[List.take_succ_eq_append_getElem h,List.map_append,List.filter_append];simp[h0]
theorem waysF_yes (m:M3)(l:List P3)(k:Nat)(h:k<l.length)(h0:wayF m l[k]≠⟨0,0,0⟩):waysF m (l.take (k+1))=waysF m (l.take k)++[wayF m l[k]]:=by
 unfold waysF;rw[List.take_succ_eq_append_getElem h,List.map_append,List.filter_append];simp[h0]
theorem waysF_len (m:M3)(l:List P3):(waysF m l).length≤l.length:=by
 unfold waysF;exact Nat.le_trans (List.length_filter_le _ _) (by simp)
/-- rows that may be -/
def mOk (m:M3):Prop:=in3 21474836480 m.a∧in3 21474836480 m.b∧in3 21474836480 m.c
theorem in3_fits {n:Int}{p:P3}(h:in3 n p)(hn:n≤4611686018427387903):fits3 p:=by
 obtain⟨a,b,c,d,e,f⟩:=h;unfold fits3 G.fits;omega
theorem dotI_in {p q:P3}{A B:Nat}(hp:in3 A p)(hq:in3 B q):(dotI p q).natAbs≤3*(A*B):=dotI_bd p q A B hp hq
theorem turn_ok {m:M3}{v:P3}(h:mOk m)(hv:in3 4294967296 v):dotOk m.a v∧dotOk m.b v∧dotOk m.c v∧in3 64424509440 (turnF m v):=by
 have q:∀r:P3,in3 21474836480 r→dotOk r v∧ -64424509440≤vdotF r v∧vdotF r v≤64424509440:=fun r hr=>by
  have:=dotI_in (A:=21474836480) (B:=4294967296) hr hv;refine⟨⟨in3_fits hr (by decide),in3_fits hv (by decide),by omega⟩,?_⟩;unfold vdotF;omega
 obtain⟨a1,a2,a3⟩:=q m.a h.1;obtain⟨b1,b2,b3⟩:=q m.b h.2.1;obtain⟨c1,c2,c3⟩:=q m.c h.2.2;exact⟨a1,b1,c1,by unfold in3 turnF;simp only;omega⟩
theorem times_in {p:P3}(h:in3 1048576 p):in3 4294967296 (timesF p 4096):=by unfold in3 timesF at*;simp only;omega
theorem tdv_in {p:P3}(h:in3 64424509440 p):in3 4398046511104 (tdv3 p 4096):=by
 obtain⟨a,b,c,d,e,f⟩:=h;have x:=tdiv_le p.x 4096 64424509440 (by omega);have y:=tdiv_le p.y 4096 64424509440 (by omega);have z:=tdiv_le p.z 4096 64424509440 (by omega);unfold in3 tdv3;simp only;omega
def WaysPost (l:List P3)(w:World)(e:Ending)(w':World):Prop:=∃A c,e= .returned (.tuple #[.slice A l.length c, .bool true])∧l.length≤c∧RdB w' A l∧Below w.heap.size w w'∧(∀ad,A=some ad→w.heap.size≤ad.block)
theorem OwnP.lt {w:World}{base:Nat}{v:Value}{l:List P3}(h:OwnP w base v l)(k:Nat)(hk:v.ownBlock=some k):k<w.heap.size:=(World.ownsRow.lt h k hk).2
theorem OwnP.rdB {w:World}{base:Nat}{v:Value}{l:List P3}(h:OwnP w base v l):∃A c,v= .slice A l.length c∧l.length≤c∧RdB w A l∧(∀ad,A=some ad→base≤ad.block):=by
 obtain⟨A,c,e,h1,h2,h3⟩:=h.rd;refine⟨A,c,e,h1,⟨h2,fun _ ad ea=>?_⟩,h3⟩;subst ea;exact h.lt _ (by rw[e];rfl)
theorem OwnP.setc {w:World}{base:Nat}{v:Value}{l:List P3}(h:OwnP w base v l){p:Addr}(hne:∀k,v.ownBlock=some k→k<p.block)(u:Value):OwnP (w.setCell p u) base v l:=
 own_setCell h (fun e=>by have:=hne _ e.symm;omega) u
theorem ways6_calls (g:Nat)(m:M3)(l:List P3)(A:Option Addr)(c:Nat)(w:World)(hg:Wk w g)(hA:Rd w A l)(hc:l.length≤c)(hl:l.length≤1000)(hin:∀p∈l,in3 1048576 p)(hm:mOk m):
  Calls Tryz.prog 74 #[.pointer (some ⟨g,0,none⟩),aM m, .slice A l.length c] w (WaysPost (waysF m l) w):=by
 have HG:=Lh hg;have HA:=Lh hA;have HI:=Lh hin;have HM:=Lh hm;have hgl:g<w.heap.size:=blk_lt hg;obtain⟨N,hN⟩:=nm_ l.length;have HN:=Lh hN;rw[hN]at hc hl⊢;clear hg hA hin hm hN;go_enter Tryz.func74,Tryz.ntmps74;go_wp2;obtain⟨w1,hw1⟩:=nm_ (w.alloc (.cells #[.int .i64 m.a.x, .int .i64 m.a.y, .int .i64 m.a.z, .int .i64 m.b.x, .int .i64 m.b.y, .int .i64 m.b.z, .int .i64 m.c.x, .int .i64 m.c.y, .int .i64 m.c.z] 111));have MK1:Hid (Mk w1 w.heap.size m):=Lh (by rw[←hw1];exact heap_alloc_new w _);have HW1:=Lh (show Below w.heap.size w w1 by rw[←hw1];exact(Below.refl _ w).alloc (Nat.le_refl _) _);have hz1:w1.heap.size=w.heap.size+1:=by rw[←hw1];simp
 rw[hw1];have HZ1:=Lh hz1;clear hw1 hz1;go_loopw [8,9,10,11,12,13,14] (fun v8 v9 v10 v11 v12 v13 v14 wr=>∃k:Nat,k≤N∧v9= .int .i64 k∧Hid (OwnP wr (w.heap.size+1) v8 (waysF m (l.take k)))∧Hid (Below (w.heap.size+1) w1 wr)) (fun _ i _ _ _ _ _ _=>N-(intOf i).toNat)
 case atStart=>exact⟨0,by omega,rfl,Lh (OwnP.nil _ _),Lh (Below.refl _ _)⟩
 case round=>
  obtain⟨k,hk,rfl,hO,hB⟩:=hrel;by_cases hlt:k<N
  ·have hkl:k<l.length:=by rw[HN.out];exact hlt
   have hz1:=HZ1.out;have hBw:Below w.heap.size w wr:=HW1.trans (hB.mono (by omega));obtain⟨b,o,rfl,_,e0,e1,e2⟩:=(HA.below hBw).get k hkl;have hp:=HI.out _ (List.getElem_mem hkl);have hYES:=waysF_yes m l k hkl;have hNO:=waysF_no m l k hkl;obtain⟨p,hpe⟩:=nm_ (l[k]);rw[hpe]at e0 e1 e2 hp hYES hNO;obtain⟨px,py,pz⟩:=p;simp only at e0 e1 e2
   have HRD:Hid (∀W,Below w.heap.size w W→W.cell? ⟨b,o+k*3,none⟩=some (.int .i64 px)∧W.cell? ⟨b,o+k*3+1,none⟩=some (.int .i64 py)∧W.cell? ⟨b,o+k*3+2,none⟩=some (.int .i64 pz)):=Lh (fun W hW=>by
    obtain⟨b',o',e',_,h0,h1,h2⟩:=(HA.below hW).get k hkl
    simp only[Option.some.injEq,Addr.mk.injEq,and_true]at e'
    obtain⟨rfl,rfl⟩:=e'
    rw[hpe]at h0 h1 h2
    exact⟨h0,h1,h2⟩)
   have HY:=Lh hYES;have HNO:=Lh hNO;obtain⟨ok,hok⟩:=nm_ (waysF m (l.take k));have hlen:ok.length≤1000:=by rw[←hok];have:=waysF_len m (l.take k);have:=List.length_take_le k l;omega
   rw[hok]at hO HY HNO;obtain⟨D,hD⟩:=nm_ (dbl3 ⟨px,py,pz⟩);have hDI:in3 1048576 D:=by rw[←hD];exact dbl3_in _ hp
   obtain⟨q,hq⟩:=nm_ (wayF m ⟨px,py,pz⟩);have HQ:Hid (short3 (tdv3 (turnF m (timesF D 4096)) 4096)=q):=Lh (by rw[←hD];exact hq);rw[hq]at HY HNO;have HP:=Lh hp;have HD:=Lh hD;have HDI:=Lh hDI;have HBw:=Lh hBw;have hw1:w.heap.size+1≤wr.heap.size:=by have:=hB.size;omega
   clear hpe hYES hNO hok hq hD hDI hp hBw hz1;obtain⟨wo,hwo⟩:∃wo:World,wo=wr:=⟨_,rfl⟩;subst hwo;go_wp2_with fail;refine(in6_calls ⟨px,py,pz⟩ 1048576 true (by simpa using HP.out) (by decide) (by decide) _).mono ?_;rintro e w2 ⟨rfl,hb⟩;have hO2:=Lh (hO.grown hb);have hB2:=Lh (hB.trans (hb.mono hw1));have hBw2:=Lh (bthen HBw.out hb);have hw2:w.heap.size+1≤w2.heap.size:=by have:=hb.size;omega
   clear e0 e1 e2 hO hB HBw hb hw1;obtain⟨e0,e1,e2⟩:=HRD.out _ hBw2.out;go_wp2_with fail;refine(in6_calls ⟨px,py,pz⟩ 524288 (decide (in3 524288 ⟨px,py,pz⟩)) rfl (by decide) (by decide) _).mono ?_;rintro e w3 ⟨rfl,hb⟩;have hlt2:=Lh (fun k (h:(_:Value).ownBlock=some k)=>hO2.out.lt k h);have hO3:=Lh ((hO2.grown ((Below.refl _ w2).alloc (Nat.le_refl _) (.cells #[.int .i64 px, .int .i64 py, .int .i64 pz] 23))).grown hb);have hB3:=Lh ((hB2.alloc hw2 (.cells #[.int .i64 px, .int .i64 py, .int .i64 pz] 23)).trans (hb.mono (by simp;omega)));have hBw3:=Lh (bthen (hBw2.alloc (by omega) (.cells #[.int .i64 px, .int .i64 py, .int .i64 pz] 23)) hb);have hC3:=Lh ((C3.new w2 (.int .i64 px) (.int .i64 py) (.int .i64 pz) 23).below hb);have hlt3:w2.heap.size<w3.heap.size:=by have:=hb.size;simp at this;omega
   clear e0 e1 e2 hO2 hB2 hBw2 hb;obtain⟨T,hT⟩:=nm_ w2.heap.size;rw[hT]at hlt2 hlt3 hC3 hw2;go_wp2_with fail
   go_loopg [12] (2000000-size3 ⟨px,py,pz⟩) (fun kq v12 wr=>∃r:P3,Hid (kq=2000000-size3 r)∧v12= .bool (decide (in3 524288 r))∧Hid (dbl3 r=D)∧Hid (in3 1048576 r)∧Hid (C3 wr T (.int .i64 r.x) (.int .i64 r.y) (.int .i64 r.z))∧Hid (OwnP wr (w.heap.size+1) u8 ok)∧Hid (Below (w.heap.size+1) w1 wr)∧Hid (T<wr.heap.size))
   case atStart=>exact⟨⟨px,py,pz⟩,Lh rfl,rfl,HD,HP,hC3,hO3,hB3,Lh hlt3⟩
   case round=>
    clear hO3 hB3 hBw3 hC3 hlt3 HP HD;obtain⟨r,h1,rfl,h2,h3,h4,h5,h6,h7⟩:=hrel;by_cases hstop:far3 524288 r=true∨r=⟨0,0,0⟩
    ·have hrD:r=D:=by rw[←h2.out,dbl3,dif_pos hstop]
     subst hrD;have hcase:(∃b0:Bool,decide (in3 524288 r)=b0∧(b0=false∨(b0=true∧r=⟨0,0,0⟩))):=by
      refine⟨_,rfl,?_⟩;rcases hstop with hf|hz
      ·left;apply decide_eq_false;intro hi;rw[(far3_iff _ _ (by decide) (by decide)).2 hi]at hf;cases hf
      ·by_cases hi:in3 524288 r
       ·right;exact⟨decide_eq_true hi,hz⟩
       ·left;exact decide_eq_false hi
     obtain⟨b0,hb0,hcase⟩:=hcase;rw[hb0];have hti:=Lh (times_in h3.out);have hT4:=Lh (fun W=>times6_calls r 4096 h3.out (by decide) (by decide) W);have hEZ:=Lh (show r=⟨0,0,0⟩→eqP r.x r.y r.z 0 0 0=true from fun hr=>by rw[hr];decide);obtain⟨V,hV⟩:=nm_ (timesF r 4096);rw[hV]at hti hT4;obtain⟨t1,t2,t3,t4⟩:=turn_ok HM.out hti.out;have hU:=Lh (fun W (h:Wk W g)=>turn_calls g m V W h t1 t2 t3);obtain⟨U,hUe⟩:=nm_ (turnF m V);rw[hUe]at hU t4;have hS:=Lh (fun W=>rshort_calls (tdv3 U 4096) W (tdv_in t4));have hQ':short3 (tdv3 U 4096)=q:=by rw[←hUe,←hV];exact HQ.out
     rw[hQ']at hS;obtain⟨ux,uy,uz⟩:=U;obtain⟨b1,b2,b3,b4,b5,b6⟩:=t4;simp only at b1 b2 b3 b4 b5 b6;have TD:Hid (IntKind.i64.wrap (ux.tdiv 4096)=ux.tdiv 4096∧IntKind.i64.wrap (uy.tdiv 4096)=uy.tdiv 4096∧IntKind.i64.wrap (uz.tdiv 4096)=uz.tdiv 4096):=Lh ⟨iw_tdiv _ _ (by omega) (by omega),iw_tdiv _ _ (by omega) (by omega),iw_tdiv _ _ (by omega) (by omega)⟩
     have TD2:Hid (wrap64 (ux.tdiv 4096)=ux.tdiv 4096∧wrap64 (uy.tdiv 4096)=uy.tdiv 4096∧wrap64 (uz.tdiv 4096)=uz.tdiv 4096):=Lh (by
      have x:=tdiv_le ux 4096 64424509440 (by omega)
      have y:=tdiv_le uy 4096 64424509440 (by omega)
      have z:=tdiv_le uz 4096 64424509440 (by omega)
      exact⟨w64_id _ (by omega) (by omega),w64_id _ (by omega) (by omega),w64_id _ (by omega) (by omega)⟩)
     have MKr:=Lh ((h6.block _ (by omega)).trans MK1.out);have WKr:=Lh ((h6.block _ (show g<w.heap.size+1 by omega)).trans ((HW1.block _ hgl).trans (show w.heap[g]?=some (.cells #[.bool false] 90 (0,0)) from HG.out)));have hlq:w.heap.size<wr.heap.size:=by have:=h7.out;omega
     have hlg:g<wr.heap.size:=by omega
     have hlT:T<wr.heap.size:=h7.out;obtain⟨rx,ry,rz⟩:=r;obtain⟨c0,c1,c2,_,_,_⟩:=h4.out;obtain⟨x0,x1,x2,x3,x4,x5,x6,x7,x8⟩:=(show Mk wr w.heap.size m from MKr.out).all;simp only at hEZ c0 c1 c2;clear hV hUe hQ' hti t1 t2 t3 b1 b2 b3 b4 b5 b6 hstop hb0 h1 h2 h3;rcases hcase with rfl|⟨rfl,hr0⟩
     rotate_left
     ·have he:=hEZ.out hr0;clear hr0;go_wp2_with fail;have HB:=Lh ((Below.refl (wr.heap.size) wr).drew);have FF:=Lh (show ∀V,Hid (Below (wr.heap.size) wr V)→V.cell? ⟨w.heap.size,0,none⟩=some (.int .i64 m.a.x)∧V.cell? ⟨w.heap.size,1,none⟩=some (.int .i64 m.a.y)∧V.cell? ⟨w.heap.size,2,none⟩=some (.int .i64 m.a.z)∧V.cell? ⟨w.heap.size,3,none⟩=some (.int .i64 m.b.x)∧V.cell? ⟨w.heap.size,4,none⟩=some (.int .i64 m.b.y)∧V.cell? ⟨w.heap.size,5,none⟩=some (.int .i64 m.b.z)∧V.cell? ⟨w.heap.size,6,none⟩=some (.int .i64 m.c.x)∧V.cell? ⟨w.heap.size,7,none⟩=some (.int .i64 m.c.y)∧V.cell? ⟨w.heap.size,8,none⟩=some (.int .i64 m.c.z)∧V.cell? ⟨T,0,none⟩=some (.int .i64 rx)∧V.cell? ⟨T,1,none⟩=some (.int .i64 ry)∧V.cell? ⟨T,2,none⟩=some (.int .i64 rz) from fun V HB=>⟨(HB.cell (p:=⟨w.heap.size,0,none⟩) (hlq)).trans x0,(HB.cell (p:=⟨w.heap.size,1,none⟩) (hlq)).trans x1,(HB.cell (p:=⟨w.heap.size,2,none⟩) (hlq)).trans x2,(HB.cell (p:=⟨w.heap.size,3,none⟩) (hlq)).trans x3,(HB.cell (p:=⟨w.heap.size,4,none⟩) (hlq)).trans x4,(HB.cell (p:=⟨w.heap.size,5,none⟩) (hlq)).trans x5,(HB.cell (p:=⟨w.heap.size,6,none⟩) (hlq)).trans x6,(HB.cell (p:=⟨w.heap.size,7,none⟩) (hlq)).trans x7,(HB.cell (p:=⟨w.heap.size,8,none⟩) (hlq)).trans x8,(HB.cell (p:=⟨T,0,none⟩) (hlT)).trans c0,(HB.cell (p:=⟨T,1,none⟩) (hlT)).trans c1,(HB.cell (p:=⟨T,2,none⟩) (hlT)).trans c2⟩);refine start_ (n:=7) (S:=fun w'=>w'.cell? ⟨w.heap.size,0,none⟩=some (.int .i64 m.a.x)∧w'.cell? ⟨w.heap.size,1,none⟩=some (.int .i64 m.a.y)∧w'.cell? ⟨w.heap.size,2,none⟩=some (.int .i64 m.a.z)∧w'.cell? ⟨w.heap.size,3,none⟩=some (.int .i64 m.b.x)∧w'.cell? ⟨w.heap.size,4,none⟩=some (.int .i64 m.b.y)∧w'.cell? ⟨w.heap.size,5,none⟩=some (.int .i64 m.b.z)∧w'.cell? ⟨w.heap.size,6,none⟩=some (.int .i64 m.c.x)∧w'.cell? ⟨w.heap.size,7,none⟩=some (.int .i64 m.c.y)∧w'.cell? ⟨w.heap.size,8,none⟩=some (.int .i64 m.c.z)∧w'.cell? ⟨T,0,none⟩=some (.int .i64 rx)∧w'.cell? ⟨T,1,none⟩=some (.int .i64 ry)∧w'.cell? ⟨T,2,none⟩=some (.int .i64 rz)) (ds:=[]) (MT 0 7) (by kernel_rfl) rfl rfl (FF.out _ HB) (fun j_=>?_);obtain⟨wd,hwd⟩:=nm_ wr.drew;rw[hwd]at HB j_⊢;clear hwd;refine pu_ 0 52 (h:=?_);refine ta_ 1 53 j_ (h:=?_);refine ta_ 2 54 j_ (h:=?_);refine join_ (σ:=Nat) 1 (MT 6 1) (fun s=>[(13, .pointer (some ⟨s,0,none⟩)),(55,aP V),(56,aP ⟨ux,uy,uz⟩)]) (fun s w'=>wr.heap.size≤s∧w'.heap[s]?=some (.cells #[.int .i64 0, .int .i64 0, .int .i64 0] 27 (0,0))∧Below (wr.heap.size) wr w') ?_ ?_;rotate_left
      ·intro hCont;refine two_ (i:=3) (j:=5) (Ni:=some 55) (Nj:=some 13) (MT 4 3) (MB_ 7 39) rfl rfl rfl rfl (by kernel_rfl) (by decide) (by decide) (fun K hK=>?_) (fun K hK=>?_)
       ·skip
        refine gs_ Tryz.func72 #[aP ⟨rx,ry,rz⟩, .int .i64 4096] ?_
        with_reducible refine(hT4.out _).mono ?_
        rintro e w3 ⟨rfl,hb⟩;have HB:=tm_ HB hb;clear hb;refine⟨_,rfl,?_⟩;refine hK.out _ _ (FF.out _ HB) (fun j_=>?_);clear hK K;refine no_ (h:=?_);refine two_ (i:=4) (j:=5) (Ni:=some 56) (Nj:=some 13) (MT 5 2) (MB_ 7 47) rfl rfl rfl rfl (by kernel_rfl) (by decide) (by decide) (fun K hK=>?_) (fun K hK=>?_)
        ·skip
         refine gs_ Tryz.func71 #[.pointer (some ⟨g,0,none⟩),aM m,aP V] ?_
         with_reducible refine(hU.out _ (Wk.of ((HB.out.block _ hlg).trans WKr.out))).mono ?_
         rintro e w3 ⟨rfl,hb⟩;have HB:=tm_ HB hb;clear hb;refine⟨_,rfl,?_⟩;refine hK.out _ _ (FF.out _ HB) (fun j_=>?_);clear hK K;refine no_ (h:=?_);refine on_ 5 (some 13) (h:=fun K hK=>?_);refine va_ ?_;have HA:=Lh (ha_new HB.out (.cells #[.int .i64 0, .int .i64 0, .int .i64 0] 27));have hge:=HB.size;have HB:=Lh (HB.alloc (Nat.le_trans (Nat.le_refl _) HB.size) (.cells #[.int .i64 0, .int .i64 0, .int .i64 0] 27));refine hK.out _ _ (FF.out _ HB) (fun j_=>?_);clear hK K;refine no_ (h:=?_);exact nz_ (hCont _ _ ⟨hge,HA.out,HB.out⟩)
        ·skip
         refine va_ ?_;have HA:=Lh (ha_new HB.out (.cells #[.int .i64 0, .int .i64 0, .int .i64 0] 27));have hge:=HB.size;have HB:=Lh (HB.alloc (Nat.le_trans (Nat.le_refl _) HB.size) (.cells #[.int .i64 0, .int .i64 0, .int .i64 0] 27));refine hK.out _ _ (FF.out _ HB) (fun j_=>?_);clear hK K;refine no_ (h:=?_);refine on_ 4 (some 56) (h:=fun K hK=>?_);refine gs_ Tryz.func71 #[.pointer (some ⟨g,0,none⟩),aM m,aP V] ?_
         with_reducible refine(hU.out _ (Wk.of ((HB.out.block _ hlg).trans WKr.out))).mono ?_
         rintro e w3 ⟨rfl,hb⟩;have HB:=tm_ HB hb;have HA:=up_ hb HA;clear hb;refine⟨_,rfl,?_⟩;refine hK.out _ _ (FF.out _ HB) (fun j_=>?_);clear hK K;refine no_ (h:=?_);exact nz_ (hCont _ _ ⟨hge,HA.out,HB.out⟩)
       ·skip
        refine va_ ?_;have HA:=Lh (ha_new HB.out (.cells #[.int .i64 0, .int .i64 0, .int .i64 0] 27));have hge:=HB.size;have HB:=Lh (HB.alloc (Nat.le_trans (Nat.le_refl _) HB.size) (.cells #[.int .i64 0, .int .i64 0, .int .i64 0] 27));refine hK.out _ _ (FF.out _ HB) (fun j_=>?_);clear hK K;refine no_ (h:=?_);refine on_ 3 (some 55) (h:=fun K hK=>?_);refine gs_ Tryz.func72 #[aP ⟨rx,ry,rz⟩, .int .i64 4096] ?_
        with_reducible refine(hT4.out _).mono ?_
        rintro e w3 ⟨rfl,hb⟩;have HB:=tm_ HB hb;have HA:=up_ hb HA;clear hb;refine⟨_,rfl,?_⟩;refine hK.out _ _ (FF.out _ HB) (fun j_=>?_);clear hK K;refine no_ (h:=?_);refine on_ 4 (some 56) (h:=fun K hK=>?_);refine gs_ Tryz.func71 #[.pointer (some ⟨g,0,none⟩),aM m,aP V] ?_
        with_reducible refine(hU.out _ (Wk.of ((HB.out.block _ hlg).trans WKr.out))).mono ?_
        rintro e w3 ⟨rfl,hb⟩;have HB:=tm_ HB hb;have HA:=up_ hb HA;clear hb;refine⟨_,rfl,?_⟩;refine hK.out _ _ (FF.out _ HB) (fun j_=>?_);clear hK K;refine no_ (h:=?_);exact nz_ (hCont _ _ ⟨hge,HA.out,HB.out⟩)
      rintro AB wj ⟨hge,HA,HB⟩;have HA:=Lh HA;have HB:=Lh HB;have j_:=FF.out _ HB;refine no_ (h:=?_);refine on_ 6 (none) (h:=fun K hK=>?_);have sc0:World.cell? _ ⟨AB,0,none⟩=some (.int .i64 0):=(blk_cell HA.out 0).trans rfl;have sf0:=blk_frozen HA.out 0;have sc1:World.cell? _ ⟨AB,1,none⟩=some (.int .i64 0):=(blk_cell HA.out 1).trans rfl;have sf1:=blk_frozen HA.out 1;have sc2:World.cell? _ ⟨AB,2,none⟩=some (.int .i64 0):=(blk_cell HA.out 2).trans rfl;have sf2:=blk_frozen HA.out 2;refine skip_ (w1:=?_) (by rfl) rfl ?_ ?_;rotate_left
      ·go_simp;rfl
      have HA:=Lh (bs3 HA.out (.int .i64 ux) (.int .i64 uy) (.int .i64 uz));have HB:=Lh (bb3 HB.out (Nat.le_trans (Nat.le_refl _) hge) (.int .i64 ux) (.int .i64 uy) (.int .i64 uz));clear sc0 sf0 sc1 sf1 sc2 sf2;refine hK.out _ _ (FF.out _ HB) (fun j_=>?_);clear hK K;refine done_ (by kernel_rfl) ?_;obtain⟨w5,hwn⟩:=nm_ ((((wj.setCell ⟨AB,0,none⟩ (.int .i64 ux)).setCell ⟨AB,1,none⟩ (.int .i64 uy)).setCell ⟨AB,2,none⟩ (.int .i64 uz)));rw[hwn]at HA HB⊢;clear hwn;have hO5:=Lh (h5.grown HB.out);have hB5:=Lh (h6.trans (HB.mono (by omega)));have hz5:w.heap.size+1≤w5.heap.size:=by have:=hB5.size;have:=HZ1.out;omega
      obtain⟨y0,y1,y2,_⟩:=f3_ AB HA.out;clear j_ HB HA hge x0 x1 x2 x3 x4 x5 x6 x7 x8 c0 c1 c2;obtain⟨d0,d1,d2⟩:=TD.out;obtain⟨d3,d4,d5⟩:=TD2.out;go_wp2_with fail;refine(hS.out _).mono ?_;rintro e w6 ⟨rfl,hb⟩;have hO6:=Lh (hO5.grown hb);have hB6:=Lh (hB5.trans (hb.mono hz5));have hz6:w.heap.size+1≤w6.heap.size:=by have:=hb.size;omega
      clear hO5 hB5 hz5 hb y0 y1 y2 d0 d1 d2 d3 d4 d5 TD TD2;obtain⟨qx,qy,qz⟩:=q;by_cases hq0:(⟨qx,qy,qz⟩:P3)=⟨0,0,0⟩
      ·have he2:=eqP_yes hq0;have hE:=Lh (HNO.out hq0);clear hq0;go_wp2
       go_roundw
       case rel=>exact⟨k+1,by omega,by go_num,by rw[hE.out];exact Lh (hO6.grown ((Below.refl _ w6).alloc (Nat.le_refl _) _)),Lh (hB6.alloc hz6 _)⟩
       case measure=>simp[intOf];omega
      ·have he2:=eqP_no hq0;have hE:=Lh (HY.out hq0);clear hq0;have hO7:=Lh ((hO6.grown ((Below.refl _ w6).alloc (Nat.le_refl _) (.cells #[.int .i64 qx, .int .i64 qy, .int .i64 qz] 23))).grown ((Below.refl _ _).alloc (Nat.le_refl _) (.cells #[.int .i64 qx, .int .i64 qy, .int .i64 qz] 23)));have hB7:=Lh ((hB6.alloc hz6 (.cells #[.int .i64 qx, .int .i64 qy, .int .i64 qz] 23)).alloc (by simp;omega) (.cells #[.int .i64 qx, .int .i64 qy, .int .i64 qz] 23));have hR7:=(Rd_one (heap_alloc_new (w6.alloc (.cells #[.int .i64 qx, .int .i64 qy, .int .i64 qz] 23)) (.cells #[.int .i64 qx, .int .i64 qy, .int .i64 qz] 23))).1;rw[World.size_alloc]at hR7;have hR7:=Lh hR7;go_wp2_with(at_builtin;refine append_pts (w.heap.size+1) rfl _ _ rfl _ ok [⟨qx,qy,qz⟩] _ _ _ rfl rfl hO7.out hR7.out rfl (by simp;omega) (by simp;omega) ?_;intro v2 w8 hv2 hg2)
       go_roundw
       case rel=>exact⟨k+1,by omega,by go_num,by rw[hE.out];exact Lh hv2,Lh (hB7.grown hg2 (by simp;omega) (fun k hk=>hO7.base_ k hk))⟩
       case measure=>simp[intOf];omega
     ·go_wp2_with fail;have HB:=Lh ((Below.refl (wr.heap.size) wr).drew);have FF:=Lh (show ∀V,Hid (Below (wr.heap.size) wr V)→V.cell? ⟨w.heap.size,0,none⟩=some (.int .i64 m.a.x)∧V.cell? ⟨w.heap.size,1,none⟩=some (.int .i64 m.a.y)∧V.cell? ⟨w.heap.size,2,none⟩=some (.int .i64 m.a.z)∧V.cell? ⟨w.heap.size,3,none⟩=some (.int .i64 m.b.x)∧V.cell? ⟨w.heap.size,4,none⟩=some (.int .i64 m.b.y)∧V.cell? ⟨w.heap.size,5,none⟩=some (.int .i64 m.b.z)∧V.cell? ⟨w.heap.size,6,none⟩=some (.int .i64 m.c.x)∧V.cell? ⟨w.heap.size,7,none⟩=some (.int .i64 m.c.y)∧V.cell? ⟨w.heap.size,8,none⟩=some (.int .i64 m.c.z)∧V.cell? ⟨T,0,none⟩=some (.int .i64 rx)∧V.cell? ⟨T,1,none⟩=some (.int .i64 ry)∧V.cell? ⟨T,2,none⟩=some (.int .i64 rz) from fun V HB=>⟨(HB.cell (p:=⟨w.heap.size,0,none⟩) (hlq)).trans x0,(HB.cell (p:=⟨w.heap.size,1,none⟩) (hlq)).trans x1,(HB.cell (p:=⟨w.heap.size,2,none⟩) (hlq)).trans x2,(HB.cell (p:=⟨w.heap.size,3,none⟩) (hlq)).trans x3,(HB.cell (p:=⟨w.heap.size,4,none⟩) (hlq)).trans x4,(HB.cell (p:=⟨w.heap.size,5,none⟩) (hlq)).trans x5,(HB.cell (p:=⟨w.heap.size,6,none⟩) (hlq)).trans x6,(HB.cell (p:=⟨w.heap.size,7,none⟩) (hlq)).trans x7,(HB.cell (p:=⟨w.heap.size,8,none⟩) (hlq)).trans x8,(HB.cell (p:=⟨T,0,none⟩) (hlT)).trans c0,(HB.cell (p:=⟨T,1,none⟩) (hlT)).trans c1,(HB.cell (p:=⟨T,2,none⟩) (hlT)).trans c2⟩);refine start_ (n:=7) (S:=fun w'=>w'.cell? ⟨w.heap.size,0,none⟩=some (.int .i64 m.a.x)∧w'.cell? ⟨w.heap.size,1,none⟩=some (.int .i64 m.a.y)∧w'.cell? ⟨w.heap.size,2,none⟩=some (.int .i64 m.a.z)∧w'.cell? ⟨w.heap.size,3,none⟩=some (.int .i64 m.b.x)∧w'.cell? ⟨w.heap.size,4,none⟩=some (.int .i64 m.b.y)∧w'.cell? ⟨w.heap.size,5,none⟩=some (.int .i64 m.b.z)∧w'.cell? ⟨w.heap.size,6,none⟩=some (.int .i64 m.c.x)∧w'.cell? ⟨w.heap.size,7,none⟩=some (.int .i64 m.c.y)∧w'.cell? ⟨w.heap.size,8,none⟩=some (.int .i64 m.c.z)∧w'.cell? ⟨T,0,none⟩=some (.int .i64 rx)∧w'.cell? ⟨T,1,none⟩=some (.int .i64 ry)∧w'.cell? ⟨T,2,none⟩=some (.int .i64 rz)) (ds:=[]) (MT 0 7) (by kernel_rfl) rfl rfl (FF.out _ HB) (fun j_=>?_);obtain⟨wd,hwd⟩:=nm_ wr.drew;rw[hwd]at HB j_⊢;clear hwd;refine pu_ 0 52 (h:=?_);refine ta_ 1 53 j_ (h:=?_);refine ta_ 2 54 j_ (h:=?_);refine join_ (σ:=Nat) 1 (MT 6 1) (fun s=>[(13, .pointer (some ⟨s,0,none⟩)),(55,aP V),(56,aP ⟨ux,uy,uz⟩)]) (fun s w'=>wr.heap.size≤s∧w'.heap[s]?=some (.cells #[.int .i64 0, .int .i64 0, .int .i64 0] 27 (0,0))∧Below (wr.heap.size) wr w') ?_ ?_;rotate_left
      ·intro hCont;refine two_ (i:=3) (j:=5) (Ni:=some 55) (Nj:=some 13) (MT 4 3) (MB_ 7 39) rfl rfl rfl rfl (by kernel_rfl) (by decide) (by decide) (fun K hK=>?_) (fun K hK=>?_)
       ·skip
        refine gs_ Tryz.func72 #[aP ⟨rx,ry,rz⟩, .int .i64 4096] ?_
        with_reducible refine(hT4.out _).mono ?_
        rintro e w3 ⟨rfl,hb⟩;have HB:=tm_ HB hb;clear hb;refine⟨_,rfl,?_⟩;refine hK.out _ _ (FF.out _ HB) (fun j_=>?_);clear hK K;refine no_ (h:=?_);refine two_ (i:=4) (j:=5) (Ni:=some 56) (Nj:=some 13) (MT 5 2) (MB_ 7 47) rfl rfl rfl rfl (by kernel_rfl) (by decide) (by decide) (fun K hK=>?_) (fun K hK=>?_)
        ·skip
         refine gs_ Tryz.func71 #[.pointer (some ⟨g,0,none⟩),aM m,aP V] ?_
         with_reducible refine(hU.out _ (Wk.of ((HB.out.block _ hlg).trans WKr.out))).mono ?_
         rintro e w3 ⟨rfl,hb⟩;have HB:=tm_ HB hb;clear hb;refine⟨_,rfl,?_⟩;refine hK.out _ _ (FF.out _ HB) (fun j_=>?_);clear hK K;refine no_ (h:=?_);refine on_ 5 (some 13) (h:=fun K hK=>?_);refine va_ ?_;have HA:=Lh (ha_new HB.out (.cells #[.int .i64 0, .int .i64 0, .int .i64 0] 27));have hge:=HB.size;have HB:=Lh (HB.alloc (Nat.le_trans (Nat.le_refl _) HB.size) (.cells #[.int .i64 0, .int .i64 0, .int .i64 0] 27));refine hK.out _ _ (FF.out _ HB) (fun j_=>?_);clear hK K;refine no_ (h:=?_);exact nz_ (hCont _ _ ⟨hge,HA.out,HB.out⟩)
        ·skip
         refine va_ ?_;have HA:=Lh (ha_new HB.out (.cells #[.int .i64 0, .int .i64 0, .int .i64 0] 27));have hge:=HB.size;have HB:=Lh (HB.alloc (Nat.le_trans (Nat.le_refl _) HB.size) (.cells #[.int .i64 0, .int .i64 0, .int .i64 0] 27));refine hK.out _ _ (FF.out _ HB) (fun j_=>?_);clear hK K;refine no_ (h:=?_);refine on_ 4 (some 56) (h:=fun K hK=>?_);refine gs_ Tryz.func71 #[.pointer (some ⟨g,0,none⟩),aM m,aP V] ?_
         with_reducible refine(hU.out _ (Wk.of ((HB.out.block _ hlg).trans WKr.out))).mono ?_
         rintro e w3 ⟨rfl,hb⟩;have HB:=tm_ HB hb;have HA:=up_ hb HA;clear hb;refine⟨_,rfl,?_⟩;refine hK.out _ _ (FF.out _ HB) (fun j_=>?_);clear hK K;refine no_ (h:=?_);exact nz_ (hCont _ _ ⟨hge,HA.out,HB.out⟩)
       ·skip
        refine va_ ?_;have HA:=Lh (ha_new HB.out (.cells #[.int .i64 0, .int .i64 0, .int .i64 0] 27));have hge:=HB.size;have HB:=Lh (HB.alloc (Nat.le_trans (Nat.le_refl _) HB.size) (.cells #[.int .i64 0, .int .i64 0, .int .i64 0] 27));refine hK.out _ _ (FF.out _ HB) (fun j_=>?_);clear hK K;refine no_ (h:=?_);refine on_ 3 (some 55) (h:=fun K hK=>?_);refine gs_ Tryz.func72 #[aP ⟨rx,ry,rz⟩, .int .i64 4096] ?_
        with_reducible refine(hT4.out _).mono ?_
        rintro e w3 ⟨rfl,hb⟩;have HB:=tm_ HB hb;have HA:=up_ hb HA;clear hb;refine⟨_,rfl,?_⟩;refine hK.out _ _ (FF.out _ HB) (fun j_=>?_);clear hK K;refine no_ (h:=?_);refine on_ 4 (some 56) (h:=fun K hK=>?_);refine gs_ Tryz.func71 #[.pointer (some ⟨g,0,none⟩),aM m,aP V] ?_
        with_reducible refine(hU.out _ (Wk.of ((HB.out.block _ hlg).trans WKr.out))).mono ?_
        rintro e w3 ⟨rfl,hb⟩;have HB:=tm_ HB hb;have HA:=up_ hb HA;clear hb;refine⟨_,rfl,?_⟩;refine hK.out _ _ (FF.out _ HB) (fun j_=>?_);clear hK K;refine no_ (h:=?_);exact nz_ (hCont _ _ ⟨hge,HA.out,HB.out⟩)
      rintro AB wj ⟨hge,HA,HB⟩;have HA:=Lh HA;have HB:=Lh HB;have j_:=FF.out _ HB;refine no_ (h:=?_);refine on_ 6 (none) (h:=fun K hK=>?_);have sc0:World.cell? _ ⟨AB,0,none⟩=some (.int .i64 0):=(blk_cell HA.out 0).trans rfl;have sf0:=blk_frozen HA.out 0;have sc1:World.cell? _ ⟨AB,1,none⟩=some (.int .i64 0):=(blk_cell HA.out 1).trans rfl;have sf1:=blk_frozen HA.out 1;have sc2:World.cell? _ ⟨AB,2,none⟩=some (.int .i64 0):=(blk_cell HA.out 2).trans rfl;have sf2:=blk_frozen HA.out 2;refine skip_ (w1:=?_) (by rfl) rfl ?_ ?_;rotate_left
      ·go_simp;rfl
      have HA:=Lh (bs3 HA.out (.int .i64 ux) (.int .i64 uy) (.int .i64 uz));have HB:=Lh (bb3 HB.out (Nat.le_trans (Nat.le_refl _) hge) (.int .i64 ux) (.int .i64 uy) (.int .i64 uz));clear sc0 sf0 sc1 sf1 sc2 sf2;refine hK.out _ _ (FF.out _ HB) (fun j_=>?_);clear hK K;refine done_ (by kernel_rfl) ?_;obtain⟨w5,hwn⟩:=nm_ ((((wj.setCell ⟨AB,0,none⟩ (.int .i64 ux)).setCell ⟨AB,1,none⟩ (.int .i64 uy)).setCell ⟨AB,2,none⟩ (.int .i64 uz)));rw[hwn]at HA HB⊢;clear hwn;have hO5:=Lh (h5.grown HB.out);have hB5:=Lh (h6.trans (HB.mono (by omega)));have hz5:w.heap.size+1≤w5.heap.size:=by have:=hB5.size;have:=HZ1.out;omega
      obtain⟨y0,y1,y2,_⟩:=f3_ AB HA.out;clear j_ HB HA hge x0 x1 x2 x3 x4 x5 x6 x7 x8 c0 c1 c2;obtain⟨d0,d1,d2⟩:=TD.out;obtain⟨d3,d4,d5⟩:=TD2.out;go_wp2_with fail;refine(hS.out _).mono ?_;rintro e w6 ⟨rfl,hb⟩;have hO6:=Lh (hO5.grown hb);have hB6:=Lh (hB5.trans (hb.mono hz5));have hz6:w.heap.size+1≤w6.heap.size:=by have:=hb.size;omega
      clear hO5 hB5 hz5 hb y0 y1 y2 d0 d1 d2 d3 d4 d5 TD TD2;obtain⟨qx,qy,qz⟩:=q;by_cases hq0:(⟨qx,qy,qz⟩:P3)=⟨0,0,0⟩
      ·have he2:=eqP_yes hq0;have hE:=Lh (HNO.out hq0);clear hq0;go_wp2
       go_roundw
       case rel=>exact⟨k+1,by omega,by go_num,by rw[hE.out];exact Lh (hO6.grown ((Below.refl _ w6).alloc (Nat.le_refl _) _)),Lh (hB6.alloc hz6 _)⟩
       case measure=>simp[intOf];omega
      ·have he2:=eqP_no hq0;have hE:=Lh (HY.out hq0);clear hq0;have hO7:=Lh ((hO6.grown ((Below.refl _ w6).alloc (Nat.le_refl _) (.cells #[.int .i64 qx, .int .i64 qy, .int .i64 qz] 23))).grown ((Below.refl _ _).alloc (Nat.le_refl _) (.cells #[.int .i64 qx, .int .i64 qy, .int .i64 qz] 23)));have hB7:=Lh ((hB6.alloc hz6 (.cells #[.int .i64 qx, .int .i64 qy, .int .i64 qz] 23)).alloc (by simp;omega) (.cells #[.int .i64 qx, .int .i64 qy, .int .i64 qz] 23));have hR7:=(Rd_one (heap_alloc_new (w6.alloc (.cells #[.int .i64 qx, .int .i64 qy, .int .i64 qz] 23)) (.cells #[.int .i64 qx, .int .i64 qy, .int .i64 qz] 23))).1;rw[World.size_alloc]at hR7;have hR7:=Lh hR7;go_wp2_with(at_builtin;refine append_pts (w.heap.size+1) rfl _ _ rfl _ ok [⟨qx,qy,qz⟩] _ _ _ rfl rfl hO7.out hR7.out rfl (by simp;omega) (by simp;omega) ?_;intro v2 w8 hv2 hg2)
       go_roundw
       case rel=>exact⟨k+1,by omega,by go_num,by rw[hE.out];exact Lh hv2,Lh (hB7.grown hg2 (by simp;omega) (fun k hk=>hO7.base_ k hk))⟩
       case measure=>simp[intOf];omega
    ·have hnf:far3 524288 r=false:=by
      cases hf:far3 524288 r
      ·rfl
      ·exact absurd (.inl hf) hstop
     have hi:=(far3_iff _ _ (by decide) (by decide)).1 hnf;have hdt:decide (in3 524288 r)=true:=decide_eq_true hi;rw[hdt];have hne:r≠⟨0,0,0⟩:=fun e=>hstop (.inr e);have e2:=Lh (show 2000000-size3 (two3 r)<gk by rw[h1.out];exact two3_lt r hstop);have e3:=Lh (show dbl3 (two3 r)=D by rw[←h2.out,dbl3.eq_1 r,dif_neg hstop]);have e4:Hid (in3 1048576 (two3 r)):=Lh (by unfold in3 two3 at*;simp only;omega);have hin:=Lh (fun W=>in6_calls (two3 r) 524288 (decide (in3 524288 (two3 r))) rfl (by decide) (by decide) W);obtain⟨rx,ry,rz⟩:=r;have he:=eqP_no hne;obtain⟨i1,i2,i3,i4,i5,i6⟩:=hi;simp only at i1 i2 i3 i4 i5 i6;obtain⟨c0,c1,c2,f0,f1,f2⟩:=h4.out;simp only at c0 c1 c2;clear hstop hnf hdt hne h1 h2 h3;have hC4:=h4.out.set (.int .i64 (2*rx)) (.int .i64 (2*ry)) (.int .i64 (2*rz));have hO4:=((h5.out.setc (p:=⟨T,0,none⟩) hlt2.out (.int .i64 (2*rx))).setc (p:=⟨T,1,none⟩) hlt2.out (.int .i64 (2*ry))).setc (p:=⟨T,2,none⟩) hlt2.out (.int .i64 (2*rz));have hB4:=below_set3 h6.out hw2 (.int .i64 (2*rx)) (.int .i64 (2*ry)) (.int .i64 (2*rz));have hl4:T<(set3 wr T (.int .i64 (2*rx)) (.int .i64 (2*ry)) (.int .i64 (2*rz))).heap.size:=by unfold set3;simp;exact h7.out
     obtain⟨wn,hwn⟩:=nm_ (set3 wr T (.int .i64 (2*rx)) (.int .i64 (2*ry)) (.int .i64 (2*rz)));rw[hwn]at hC4 hB4 hl4;unfold set3 at hwn;rw[hwn]at hO4;have hC4:=Lh hC4;have hO4:=Lh hO4;have hB4:=Lh hB4;obtain⟨g0,g1,g2,_,_,_⟩:=hC4.out;go_wp2_with fail;refine(hin.out _).mono ?_;rintro e w7 ⟨rfl,hb⟩;have hC5:=Lh (hC4.below hb);have hO5:=Lh (hO4.grown hb);have hB5:=Lh (hB4.trans (hb.mono (by omega)));have hl5:=Lh (show T<w7.heap.size by have:=hb.size;omega);clear hb g0 g1 g2 hwn c0 c1 c2 f0 f1 f2;go_wp2
     go_roundg (2000000-size3 (two3 ⟨rx,ry,rz⟩))
     case measure=>exact e2.out
     case rel=>exact⟨two3 ⟨rx,ry,rz⟩,Lh rfl,rfl,e3,e4,hC5,hO5,hB5,hl5⟩
  ·obtain rfl:k=N:=by omega
   rw[List.take_of_length_le (by rw[HN.out];omega)]at hO;obtain⟨A',c',rfl,hlc,hrd,hbs⟩:=hO.out.rdB;have hz1:=HZ1.out;have hBw:=Lh (HW1.trans (hB.mono (by omega)));go_wp2
   go_ret2
   exact⟨A',c',rfl,hlc,hrd,hBw.out,fun ad e=>Nat.le_trans (Nat.le_succ _) (hbs ad e)⟩
end Go.Proofs.YtckdhahceelckaaGreat.G
