/- What the laws of this claim lean on: contracts of functions and plain lemmas; no condition of its own (part 72: XL2). -/
import Derived.Test.YtckdhahceelckaaGreatKQ55
set_option maxHeartbeats 16000000
set_option maxRecDepth 100000
set_option linter.unusedVariables false
set_option linter.unusedSimpArgs false
namespace Go.Proofs.YtckdhahceelckaaGreat.G
open Go.ChangeShapes Go.WideShapes Go.RowKit
theorem cell_pts {w:World}{r:Reach}{base:Nat}{v:Value}(h:Cell.okWide Tryz.prog w r base 24 v):∃A n c,v= .slice A n c∧∀a,A=some a→a.spot=none∧a.block<w.heap.size:=by
 simp only[Cell.okWide,Tryz.underlying24]at h
 cases v with
 |slice A n c=>
  refine⟨A,n,c,rfl,fun a e=>?_⟩;subst e;simp only[Cell.ok,Tryz.underlying24]at h;obtain⟨_,_,_,hs,row,cells,hsh,_⟩:=h;refine⟨hs,?_⟩;unfold World.shape? at hsh;rcases Nat.lt_or_ge a.block w.heap.size with h'|h'
  ·exact h'
  ·rw[Array.getElem?_eq_none h']at hsh;cases hsh
 |_=>simp[Cell.ok,Tryz.underlying24]at h
section
variable {H:Type}{enc:TypeId×Value→H}{W:World}{base:Nat}{spare:Nat→Bool}{held:Bool}
theorem array30 {α:Type}{cs:Array α}(h:cs.size=30):∃c0 c1 c2 c3 c4 c5 c6 c7 c8 c9 c10 c11 c12 c13 c14 c15 c16 c17 c18 c19 c20 c21 c22 c23 c24 c25 c26 c27 c28 c29,cs=#[c0,c1,c2,c3,c4,c5,c6,c7,c8,c9,c10,c11,c12,c13,c14,c15,c16,c17,c18,c19,c20,c21,c22,c23,c24,c25,c26,c27,c28,c29]:=by
 obtain⟨l⟩:=cs
 match l,h with
 |[c0,c1,c2,c3,c4,c5,c6,c7,c8,c9,c10,c11,c12,c13,c14,c15,c16,c17,c18,c19,c20,c21,c22,c23,c24,c25,c26,c27,c28,c29],_=>exact⟨c0,c1,c2,c3,c4,c5,c6,c7,c8,c9,c10,c11,c12,c13,c14,c15,c16,c17,c18,c19,c20,c21,c22,c23,c24,c25,c26,c27,c28,c29,rfl⟩
theorem types33:Tryz.prog.cellTypes Tryz.prog.depth 33=some [3,3,3,3,3,24,3,3,3,3,3,24,3,3,3,3,3,3,3,3,3,3,3,3,3,3,3,3,3,3]:=by kernel_rfl
theorem open_raw5 {fuel:Nat}{v0 v1 v2 v3 v4 v5:Value}{y:DataW H×List MemPlace}(h:DataW.trod enc Tryz.prog W base spare held fuel 26 [v0,v1,v2,v3,v4,v5]=some y)(hw:∀k∈y.1.weights Tryz.prog 26,k≤reachBytes):
  ∃m y',DataW.trod enc Tryz.prog W base spare held m 24 [v5]=some y'∧∀k∈y'.1.weights Tryz.prog 24,k≤reachBytes:=by
 obtain⟨xs,n,_,rfl,_,hlen,hf⟩:=DataW.trod_struct Tryz.underlying26 h;have h3:=hf 3 _ rfl;have e:((List.drop 5 [v0,v1,v2,v3,v4,v5]).take (Tryz.prog.cellsOf 24))=[v5]:=by
  have:Tryz.prog.cellsOf 24=1:=by kernel_rfl
  rw[this];rfl
 obtain⟨y',hy'⟩:∃y',xs[3]?=some y':=⟨_,List.getElem?_eq_getElem (by rw[hlen];decide)⟩;rw[hy']at h3;refine⟨n,y',(congrArg _ e.symm).trans h3,fun k hk=>hw k ?_⟩;rw[DataW.weights,Tryz.underlying26];exact DataW.weights_mem_each (j:=3) (t:=24) (d:=y'.1) rfl (by rw[List.getElem?_map,hy'];rfl) k hk
theorem open_two {r:Reach}{b0:Nat}{v:Value}{d:DataW H}{p:List MemPlace}(hval:Value.okWide Tryz.prog W r b0 33 v)(h:DataW.Trod enc Tryz.prog W base spare held 33 v d p)(hw:∀k∈d.weights Tryz.prog 33,k≤reachBytes):
  ∃k1 r1 h1 l1 A1 c1 k2 r2 h2 l2 A2 c2 p q near way,v= .agg (cTwo k1 r1 h1 A1 (List.length l1) c1 k2 r2 h2 A2 (List.length l2) c2 p q near way)∧RdB W A1 l1∧RawOk k1 r1 h1 l1∧RdB W A2 l2∧RawOk k2 r2 h2 l2∧i64s p∧i64s q∧i64 near∧pI64 way:=by
 simp only[Value.okWide,Tryz.underlying33]at hval;obtain⟨cs,rfl,hsz,ts,hts,_,hc⟩:=hval;have hC:Tryz.prog.cellsOf 33=30:=by kernel_rfl
 rw[types33]at hts;cases hts;obtain⟨c0,c1,c2,c3,c4,c5,c6,c7,c8,c9,c10,c11,c12,c13,c14,c15,c16,c17,c18,c19,c20,c21,c22,c23,c24,c25,c26,c27,c28,c29,rfl⟩:=array30 (hsz.trans hC);obtain⟨k1,rfl,ik1⟩:∃n,c0= .int .i64 n∧i64 n:=by
  obtain⟨u,hu,hk⟩:=hc 0 _ rfl;cases hu;exact cell_num hk
 obtain⟨r1,rfl,ir1⟩:∃n,c1= .int .i64 n∧i64 n:=by
  obtain⟨u,hu,hk⟩:=hc 1 _ rfl;cases hu;exact cell_num hk
 obtain⟨x1,rfl,ix1⟩:∃n,c2= .int .i64 n∧i64 n:=by
  obtain⟨u,hu,hk⟩:=hc 2 _ rfl;cases hu;exact cell_num hk
 obtain⟨y1',rfl,iy1'⟩:∃n,c3= .int .i64 n∧i64 n:=by
  obtain⟨u,hu,hk⟩:=hc 3 _ rfl;cases hu;exact cell_num hk
 obtain⟨z1',rfl,iz1'⟩:∃n,c4= .int .i64 n∧i64 n:=by
  obtain⟨u,hu,hk⟩:=hc 4 _ rfl;cases hu;exact cell_num hk
 obtain⟨A1,n1,cap1,rfl,hA1⟩:∃A n c,c5= .slice A n c∧∀a,A=some a→a.spot=none∧a.block<W.heap.size:=by
  obtain⟨u,hu,hk⟩:=hc 5 _ rfl;cases hu;exact cell_pts hk
 obtain⟨k2,rfl,ik2⟩:∃n,c6= .int .i64 n∧i64 n:=by
  obtain⟨u,hu,hk⟩:=hc 6 _ rfl;cases hu;exact cell_num hk
 obtain⟨r2,rfl,ir2⟩:∃n,c7= .int .i64 n∧i64 n:=by
  obtain⟨u,hu,hk⟩:=hc 7 _ rfl;cases hu;exact cell_num hk
 obtain⟨x2,rfl,ix2⟩:∃n,c8= .int .i64 n∧i64 n:=by
  obtain⟨u,hu,hk⟩:=hc 8 _ rfl;cases hu;exact cell_num hk
 obtain⟨y2,rfl,iy2⟩:∃n,c9= .int .i64 n∧i64 n:=by
  obtain⟨u,hu,hk⟩:=hc 9 _ rfl;cases hu;exact cell_num hk
 obtain⟨z2,rfl,iz2⟩:∃n,c10= .int .i64 n∧i64 n:=by
  obtain⟨u,hu,hk⟩:=hc 10 _ rfl;cases hu;exact cell_num hk
 obtain⟨A2,n2,cap2,rfl,hA2⟩:∃A n c,c11= .slice A n c∧∀a,A=some a→a.spot=none∧a.block<W.heap.size:=by
  obtain⟨u,hu,hk⟩:=hc 11 _ rfl;cases hu;exact cell_pts hk
 obtain⟨pa,rfl,ipa⟩:∃n,c12= .int .i64 n∧i64 n:=by
  obtain⟨u,hu,hk⟩:=hc 12 _ rfl;cases hu;exact cell_num hk
 obtain⟨pb,rfl,ipb⟩:∃n,c13= .int .i64 n∧i64 n:=by
  obtain⟨u,hu,hk⟩:=hc 13 _ rfl;cases hu;exact cell_num hk
 obtain⟨pd,rfl,ipd⟩:∃n,c14= .int .i64 n∧i64 n:=by
  obtain⟨u,hu,hk⟩:=hc 14 _ rfl;cases hu;exact cell_num hk
 obtain⟨pw,rfl,ipw⟩:∃n,c15= .int .i64 n∧i64 n:=by
  obtain⟨u,hu,hk⟩:=hc 15 _ rfl;cases hu;exact cell_num hk
 obtain⟨px,rfl,ipx⟩:∃n,c16= .int .i64 n∧i64 n:=by
  obtain⟨u,hu,hk⟩:=hc 16 _ rfl;cases hu;exact cell_num hk
 obtain⟨py,rfl,ipy⟩:∃n,c17= .int .i64 n∧i64 n:=by
  obtain⟨u,hu,hk⟩:=hc 17 _ rfl;cases hu;exact cell_num hk
 obtain⟨pz,rfl,ipz⟩:∃n,c18= .int .i64 n∧i64 n:=by
  obtain⟨u,hu,hk⟩:=hc 18 _ rfl;cases hu;exact cell_num hk
 obtain⟨qa,rfl,iqa⟩:∃n,c19= .int .i64 n∧i64 n:=by
  obtain⟨u,hu,hk⟩:=hc 19 _ rfl;cases hu;exact cell_num hk
 obtain⟨qb,rfl,iqb⟩:∃n,c20= .int .i64 n∧i64 n:=by
  obtain⟨u,hu,hk⟩:=hc 20 _ rfl;cases hu;exact cell_num hk
 obtain⟨qc,rfl,iqc⟩:∃n,c21= .int .i64 n∧i64 n:=by
  obtain⟨u,hu,hk⟩:=hc 21 _ rfl;cases hu;exact cell_num hk
 obtain⟨qw,rfl,iqw⟩:∃n,c22= .int .i64 n∧i64 n:=by
  obtain⟨u,hu,hk⟩:=hc 22 _ rfl;cases hu;exact cell_num hk
 obtain⟨qx,rfl,iqx⟩:∃n,c23= .int .i64 n∧i64 n:=by
  obtain⟨u,hu,hk⟩:=hc 23 _ rfl;cases hu;exact cell_num hk
 obtain⟨qy,rfl,iqy⟩:∃n,c24= .int .i64 n∧i64 n:=by
  obtain⟨u,hu,hk⟩:=hc 24 _ rfl;cases hu;exact cell_num hk
 obtain⟨qz,rfl,iqz⟩:∃n,c25= .int .i64 n∧i64 n:=by
  obtain⟨u,hu,hk⟩:=hc 25 _ rfl;cases hu;exact cell_num hk
 obtain⟨ne,rfl,ine⟩:∃n,c26= .int .i64 n∧i64 n:=by
  obtain⟨u,hu,hk⟩:=hc 26 _ rfl;cases hu;exact cell_num hk
 obtain⟨wx,rfl,iwx⟩:∃n,c27= .int .i64 n∧i64 n:=by
  obtain⟨u,hu,hk⟩:=hc 27 _ rfl;cases hu;exact cell_num hk
 obtain⟨wy,rfl,iwy⟩:∃n,c28= .int .i64 n∧i64 n:=by
  obtain⟨u,hu,hk⟩:=hc 28 _ rfl;cases hu;exact cell_num hk
 obtain⟨wz,rfl,iwz⟩:∃n,c29= .int .i64 n∧i64 n:=by
  obtain⟨u,hu,hk⟩:=hc 29 _ rfl;cases hu;exact cell_num hk
 clear hc hsz hC;obtain⟨fuel,hf0⟩:=h;obtain⟨xs,n,_,hx,_,hlen,hf⟩:=DataW.trod_struct Tryz.underlying33 hf0;simp only[Prod.mk.injEq]at hx;obtain⟨rfl,_⟩:=hx;have h0:=hf 0 _ rfl;have h1:=hf 1 _ rfl;have k26:Tryz.prog.cellsOf 26=6:=by kernel_rfl
 obtain⟨y0,hy0⟩:∃y,xs[0]?=some y:=⟨_,List.getElem?_eq_getElem (by rw[hlen];decide)⟩;obtain⟨y1,hy1⟩:∃y,xs[1]?=some y:=⟨_,List.getElem?_eq_getElem (by rw[hlen];decide)⟩;rw[hy0]at h0;rw[hy1]at h1
 have w0:∀k∈y0.1.weights Tryz.prog 26,k≤reachBytes:=fun k hk=>hw k (by
  rw[DataW.weights,Tryz.underlying33]
  exact DataW.weights_mem_each (j:=0) (t:=26) (d:=y0.1) rfl (by rw[List.getElem?_map,hy0];rfl) k hk)
 have w1:∀k∈y1.1.weights Tryz.prog 26,k≤reachBytes:=fun k hk=>hw k (by
  rw[DataW.weights,Tryz.underlying33]
  exact DataW.weights_mem_each (j:=1) (t:=26) (d:=y1.1) rfl (by rw[List.getElem?_map,hy1];rfl) k hk)
 have h0':DataW.trod enc Tryz.prog W base spare held n 26 [.int .i64 k1, .int .i64 r1, .int .i64 x1, .int .i64 y1', .int .i64 z1', .slice A1 n1 cap1]=some y0:=by
  have e:((List.drop 0 ([.int .i64 k1, .int .i64 r1, .int .i64 x1, .int .i64 y1', .int .i64 z1', .slice A1 n1 cap1, .int .i64 k2, .int .i64 r2, .int .i64 x2, .int .i64 y2, .int .i64 z2, .slice A2 n2 cap2, .int .i64 pa, .int .i64 pb, .int .i64 pd, .int .i64 pw, .int .i64 px, .int .i64 py, .int .i64 pz, .int .i64 qa, .int .i64 qb, .int .i64 qc, .int .i64 qw, .int .i64 qx, .int .i64 qy, .int .i64 qz, .int .i64 ne, .int .i64 wx, .int .i64 wy, .int .i64 wz]:List Value)).take (Tryz.prog.cellsOf 26))=[.int .i64 k1, .int .i64 r1, .int .i64 x1, .int .i64 y1', .int .i64 z1', .slice A1 n1 cap1]:=by rw[k26];rfl
  exact(congrArg _ e.symm).trans h0
 have h1':DataW.trod enc Tryz.prog W base spare held n 26 [.int .i64 k2, .int .i64 r2, .int .i64 x2, .int .i64 y2, .int .i64 z2, .slice A2 n2 cap2]=some y1:=by
  have e:((List.drop 6 ([.int .i64 k1, .int .i64 r1, .int .i64 x1, .int .i64 y1', .int .i64 z1', .slice A1 n1 cap1, .int .i64 k2, .int .i64 r2, .int .i64 x2, .int .i64 y2, .int .i64 z2, .slice A2 n2 cap2, .int .i64 pa, .int .i64 pb, .int .i64 pd, .int .i64 pw, .int .i64 px, .int .i64 py, .int .i64 pz, .int .i64 qa, .int .i64 qb, .int .i64 qc, .int .i64 qw, .int .i64 qx, .int .i64 qy, .int .i64 qz, .int .i64 ne, .int .i64 wx, .int .i64 wy, .int .i64 wz]:List Value)).take (Tryz.prog.cellsOf 26))=[.int .i64 k2, .int .i64 r2, .int .i64 x2, .int .i64 y2, .int .i64 z2, .slice A2 n2 cap2]:=by rw[k26];rfl
  exact(congrArg _ e.symm).trans h1
 obtain⟨m0,z0,t0,u0⟩:=open_raw5 (W:=W) (v5:= .slice A1 n1 cap1) h0' w0;obtain⟨m1,z1,t1,u1⟩:=open_raw5 (W:=W) (v5:= .slice A2 n2 cap2) h1' w1;obtain⟨l1,hl1,R1,I1,L1⟩:=open_pts hA1 t0 u0;obtain⟨l2,hl2,R2,I2,L2⟩:=open_pts hA2 t1 u1;subst hl1 hl2;exact⟨k1,r1,⟨x1,y1',z1'⟩,l1,A1,cap1,k2,r2,⟨x2,y2,z2⟩,l2,A2,cap2,⟨⟨pa,pb,pd⟩,⟨pw,px,py,pz⟩⟩,⟨⟨qa,qb,qc⟩,⟨qw,qx,qy,qz⟩⟩,ne,⟨wx,wy,wz⟩,rfl,R1,⟨ik1,ir1,⟨ix1,iy1',iz1'⟩,L1,I1⟩,R2,⟨ik2,ir2,⟨ix2,iy2,iz2⟩,L2,I2⟩,⟨ipa,ipb,ipd,ipw,ipx,ipy,ipz⟩,⟨iqa,iqb,iqc,iqw,iqx,iqy,iqz⟩,ine,⟨iwx,iwy,iwz⟩⟩
end
end Go.Proofs.YtckdhahceelckaaGreat.G
