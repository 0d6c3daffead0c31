/- What the laws of this claim lean on: contracts of functions and plain lemmas; no condition of its own (part 53: XL4, XO3, XL3, XC10, XZ4, XC11). -/
import Derived.Test.YtckdhahceelckaaGreatKQ35
import Derived.Test.YtckdhahceelckaaGreatKQ40
set_option maxHeartbeats 16000000
set_option maxRecDepth 100000
set_option linter.unusedVariables false
set_option linter.unusedSimpArgs false
namespace Go.Proofs.YtckdhahceelckaaGreat.G
open Go.ChangeShapes Go.WideShapes Go.RowKit
theorem cell_spot {w:World}{a:Addr}{v:Value}(h:w.cell? a=some v):a.spot=none∧a.block<w.heap.size:=by
 unfold World.cell? at h;split at h
 ·rename_i c e t hc;refine⟨?_,(Array.getElem?_eq_some_iff.1 hc).1⟩
  cases hs:a.spot with
  |none=>rfl
  |some s=>rw[hs]at h;simp at h
 ·cases h
theorem add_zero_ (a:Addr)(k:Nat):(a.add (0*k)).add 0=a:=by
 unfold Addr.add;simp
theorem weights_all {H:Type}{P:Program}{t:TypeId}:∀{ds:List (DataW H)} {j:Nat} {d:DataW H},ds[j]?=some d→∀n∈d.weights P t,n∈DataW.weightsAll P t ds
 |d::r,0,_,h,n,hn=>by
  cases h;rw[DataW.weightsAll]
  exact List.mem_append_left _ hn
 |d::r,j+1,e,h,n,hn=>by
  rw[DataW.weightsAll];exact List.mem_append_right _ (weights_all (ds:=r) (j:=j) (by simpa using h) n hn)
section
variable {H:Type}{enc:TypeId×Value→H}{W:World}{base:Nat}{spare:Nat→Bool}{held:Bool}
theorem open_int1 {fuel:Nat}{v:Value}{y:DataW H×List MemPlace}(h:DataW.trod enc Tryz.prog W base spare held fuel 3 [v]=some y):∃x,v= .int .i64 x∧i64 x:=by
 obtain⟨x,hx',_,wx⟩:=DataW.trod_int (k:= .i64) Tryz.underlying3 h;simp only[List.cons.injEq,and_true]at hx';exact⟨x,hx',i64_of_wf wx⟩
theorem open_ints {t:TypeId}{fs:Array Field}(ht:Tryz.prog.underlying t=some (.struct fs)){fuel:Nat}{cs:List Value}{y:DataW H×List MemPlace}(h:DataW.trod enc Tryz.prog W base spare held fuel t cs=some y)
  (k:Nat) (hk:fs.size=k) (hf:∀(i:Nat),i<k→∃f,fs[i]?=some f∧f.type=3∧f.offset=i) (hc:Tryz.prog.cellsOf t=k):cs.length=k∧∀(i:Nat) (v:Value),cs[i]?=some v→∃x,v= .int .i64 x∧i64 x:=by
 obtain⟨xs,n,_,hx,hcs,hlen,hff⟩:=DataW.trod_struct ht h;rw[hc]at hcs;refine⟨hcs,fun i v hv=>?_⟩;have hi:i<k:=by
  rcases Nat.lt_or_ge i k with h'|h'
  ·exact h'
  ·rw[List.getElem?_eq_none (by omega)]at hv;cases hv
 obtain⟨f,hf1,hf2,hf3⟩:=hf i hi;have h0:=hff i f hf1;obtain⟨y0,hy0⟩:∃y,xs[i]?=some y:=⟨_,List.getElem?_eq_getElem (by omega)⟩;rw[hy0,hf2,hf3,show Tryz.prog.cellsOf 3=1 from by kernel_rfl]at h0;have e:(List.drop i cs).take 1=[v]:=by
  obtain⟨hlt,he⟩:=List.getElem?_eq_some_iff.1 hv;rw[List.drop_eq_getElem_cons hlt,he];rfl
 rw[e]at h0;exact open_int1 h0
theorem open_three {t:TypeId}{f0 f1 f2:Field}(ht:Tryz.prog.underlying t=some (.struct #[f0,f1,f2]))(h0:f0.type=3∧f0.offset=0)(h1:f1.type=3∧f1.offset=1)(h2:f2.type=3∧f2.offset=2)(hc:Tryz.prog.cellsOf t=3)
  {fuel:Nat} {cs:List Value} {y:DataW H×List MemPlace} (h:DataW.trod enc Tryz.prog W base spare held fuel t cs=some y):∃p:P3,cs=[.int .i64 p.x, .int .i64 p.y, .int .i64 p.z]∧pI64 p:=by
 obtain⟨hl,hv⟩:=open_ints ht h 3 rfl (fun i hi=>by
  match i,hi with
  |0,_=>exact⟨f0,rfl,h0⟩
  |1,_=>exact⟨f1,rfl,h1⟩
  |2,_=>exact⟨f2,rfl,h2⟩) hc
 match cs,hl with
 |[a,b,c],_=>
  obtain⟨x,rfl,hx⟩:=hv 0 a rfl;obtain⟨y,rfl,hy⟩:=hv 1 b rfl;obtain⟨z,rfl,hz⟩:=hv 2 c rfl;exact⟨⟨x,y,z⟩,rfl,hx,hy,hz⟩
/-- a slice of points that lies in a cell, with what its numbers are -/
theorem open_cell_pts2 {fuel:Nat}{v:Value}{y:DataW H×List MemPlace}(h:DataW.trod enc Tryz.prog W base spare held fuel 24 [v]=some y)(hw:∀k∈y.1.weights Tryz.prog 24,k≤reachBytes):
  ∃A c,∃l:List P3,v= .slice A l.length c∧RdB W A l∧(∀p∈l,pI64 p)∧l.length≤4611686018427387904:=by
 rcases Go.Deep.open_slice Tryz.underlying24 h with⟨e,_⟩|⟨a,len,cap,m,k,D,Pl,e,hb,hl,hc,hm,hx,hf⟩
 ·simp only[List.cons.injEq,and_true]at e;subst e;exact⟨none,0,[],rfl,RdB.nil W,by simp,by simp⟩
 ·simp only[List.cons.injEq,and_true]at e;subst e;rcases Nat.eq_zero_or_pos len with h0|h0
  ·subst h0;exact⟨some a,cap,[],rfl,⟨Rd.nil _ _,fun h=>absurd rfl h⟩,by simp,by simp⟩
  ·have him:0<m:=by
    rw[hm];split<;>omega
   obtain⟨cs',h1,h2⟩:=hf 0 him;have hcells:Tryz.prog.cellsOf 23=3:=by kernel_rfl
   rw[hcells]at h1;obtain⟨_,hl3,hg⟩:=World.cells?_some h1;obtain⟨v0,hv0⟩:∃v0,cs'[0]?=some v0:=⟨_,List.getElem?_eq_getElem (by omega)⟩;obtain⟨s1,s2⟩:=cell_spot ((hg 0 (by decide)).trans hv0);have hA:∀a',some a=some a'→a'.spot=none∧a'.block<W.heap.size:=fun a' e=>by
    cases e;rw[add_zero_]at s1 s2;exact⟨s1,s2⟩
   obtain⟨l,hll,R,L,L2⟩:=open_pts hA h hw;subst hll;exact⟨some a,cap,l,rfl,R,L,L2⟩
theorem open_raw5_cells {fuel:Nat}{cs:List Value}{y:DataW H×List MemPlace}(h:DataW.trod enc Tryz.prog W base spare held fuel 26 cs=some y)(hw:∀k∈y.1.weights Tryz.prog 26,k≤reachBytes):
  ∃Ai ci,∃s:RawS,cs=[.int .i64 s.k, .int .i64 s.r, .int .i64 s.h.x, .int .i64 s.h.y, .int .i64 s.h.z, .slice Ai s.pts.length ci]∧RdB W Ai s.pts∧RawOk s.k s.r s.h s.pts:=by
 obtain⟨xs,n,_,hx,hcs,hlen,hf⟩:=DataW.trod_struct Tryz.underlying26 h;have hC:Tryz.prog.cellsOf 26=6:=by kernel_rfl
 have k24:Tryz.prog.cellsOf 24=1:=by kernel_rfl
 have k3:Tryz.prog.cellsOf 3=1:=by kernel_rfl
 have k23:Tryz.prog.cellsOf 23=3:=by kernel_rfl
 rw[hC]at hcs;obtain⟨v0,v1,v2,v3,v4,v5,rfl⟩:∃v0 v1 v2 v3 v4 v5,cs=[v0,v1,v2,v3,v4,v5]:=by
  match cs,hcs with
  |[v0,v1,v2,v3,v4,v5],_=>exact⟨v0,v1,v2,v3,v4,v5,rfl⟩
 subst hx;have each:∀(i:Nat),i<4→∃y,xs[i]?=some y:=fun i hi=>⟨_,List.getElem?_eq_getElem (by rw[hlen];show i<4;omega)⟩;obtain⟨y0,hy0⟩:=each 0 (by decide);obtain⟨y1,hy1⟩:=each 1 (by decide);obtain⟨y2,hy2⟩:=each 2 (by decide);obtain⟨y3,hy3⟩:=each 3 (by decide);have h0:=hf 0 _ rfl;have h1:=hf 1 _ rfl;have h2:=hf 2 _ rfl;have h3:=hf 3 _ rfl;rw[hy0]at h0;rw[hy1]at h1;rw[hy2]at h2;rw[hy3]at h3
 have wt:∀k∈y3.1.weights Tryz.prog 24,k≤reachBytes:=fun k hk=>hw k (by
  rw[DataW.weights,Tryz.underlying26]
  exact DataW.weights_mem_each (j:=3) (t:=24) (d:=y3.1) (by rfl) (by rw[List.getElem?_map,hy3];rfl) k hk)
 have t0:DataW.trod enc Tryz.prog W base spare held n 3 [v0]=some y0:=by
  have e:((List.drop 0 ([v0,v1,v2,v3,v4,v5]:List Value)).take (Tryz.prog.cellsOf 3))=[v0]:=by rw[k3];rfl
  exact(congrArg _ e.symm).trans h0
 have t1:DataW.trod enc Tryz.prog W base spare held n 3 [v1]=some y1:=by
  have e:((List.drop 1 ([v0,v1,v2,v3,v4,v5]:List Value)).take (Tryz.prog.cellsOf 3))=[v1]:=by rw[k3];rfl
  exact(congrArg _ e.symm).trans h1
 have t2:DataW.trod enc Tryz.prog W base spare held n 23 [v2,v3,v4]=some y2:=by
  have e:((List.drop 2 ([v0,v1,v2,v3,v4,v5]:List Value)).take (Tryz.prog.cellsOf 23))=[v2,v3,v4]:=by rw[k23];rfl
  exact(congrArg _ e.symm).trans h2
 have t3:DataW.trod enc Tryz.prog W base spare held n 24 [v5]=some y3:=by
  have e:((List.drop 5 ([v0,v1,v2,v3,v4,v5]:List Value)).take (Tryz.prog.cellsOf 24))=[v5]:=by rw[k24];rfl
  exact(congrArg _ e.symm).trans h3
 obtain⟨k,rfl,ik⟩:=open_int1 t0;obtain⟨r,rfl,ir⟩:=open_int1 t1;obtain⟨p,hp,ip⟩:=open_three Tryz.underlying23 ⟨rfl,rfl⟩ ⟨rfl,rfl⟩ ⟨rfl,rfl⟩ k23 t2;simp only[List.cons.injEq,and_true]at hp;obtain⟨rfl,rfl,rfl⟩:=hp;obtain⟨Ai,ci,l,rfl,R,L,L2⟩:=open_cell_pts2 t3 wt;exact⟨Ai,ci,⟨k,r,p,l⟩,rfl,R,⟨ik,ir,ip,L2,L⟩⟩
theorem open_raw6_cells {fuel:Nat}{cs:List Value}{y:DataW H×List MemPlace}(h:DataW.trod enc Tryz.prog W base spare held fuel 31 cs=some y):
  ∃q:P7,cs=[.int .i64 q.at_.x, .int .i64 q.at_.y, .int .i64 q.at_.z, .int .i64 q.turn.w, .int .i64 q.turn.x, .int .i64 q.turn.y, .int .i64 q.turn.z]∧i64s q:=by
 obtain⟨xs,n,_,hx,hcs,hlen,hf⟩:=DataW.trod_struct Tryz.underlying31 h;have hC:Tryz.prog.cellsOf 31=7:=by kernel_rfl
 have k27:Tryz.prog.cellsOf 27=3:=by kernel_rfl
 have k29:Tryz.prog.cellsOf 29=4:=by kernel_rfl
 rw[hC]at hcs;obtain⟨v0,v1,v2,v3,v4,v5,v6,rfl⟩:∃v0 v1 v2 v3 v4 v5 v6,cs=[v0,v1,v2,v3,v4,v5,v6]:=by
  match cs,hcs with
  |[v0,v1,v2,v3,v4,v5,v6],_=>exact⟨v0,v1,v2,v3,v4,v5,v6,rfl⟩
 have each:∀(i:Nat),i<2→∃y,xs[i]?=some y:=fun i hi=>⟨_,List.getElem?_eq_getElem (by rw[hlen];show i<2;omega)⟩;obtain⟨y0,hy0⟩:=each 0 (by decide);obtain⟨y1,hy1⟩:=each 1 (by decide);have h0:=hf 0 _ rfl;have h1:=hf 1 _ rfl;rw[hy0]at h0;rw[hy1]at h1;have t0:DataW.trod enc Tryz.prog W base spare held n 27 [v0,v1,v2]=some y0:=by
  have e:((List.drop 0 ([v0,v1,v2,v3,v4,v5,v6]:List Value)).take (Tryz.prog.cellsOf 27))=[v0,v1,v2]:=by rw[k27];rfl
  exact(congrArg _ e.symm).trans h0
 have t1:DataW.trod enc Tryz.prog W base spare held n 29 [v3,v4,v5,v6]=some y1:=by
  have e:((List.drop 3 ([v0,v1,v2,v3,v4,v5,v6]:List Value)).take (Tryz.prog.cellsOf 29))=[v3,v4,v5,v6]:=by rw[k29];rfl
  exact(congrArg _ e.symm).trans h1
 obtain⟨p,hp,ip⟩:=open_three Tryz.underlying27 ⟨rfl,rfl⟩ ⟨rfl,rfl⟩ ⟨rfl,rfl⟩ k27 t0;simp only[List.cons.injEq,and_true]at hp;obtain⟨rfl,rfl,rfl⟩:=hp
 obtain⟨_,hv⟩:=open_ints Tryz.underlying29 t1 4 rfl (fun i hi=>by
  match i,hi with
  |0,_=>exact⟨_,rfl,rfl,rfl⟩
  |1,_=>exact⟨_,rfl,rfl,rfl⟩
  |2,_=>exact⟨_,rfl,rfl,rfl⟩
  |3,_=>exact⟨_,rfl,rfl,rfl⟩) k29
 obtain⟨a,rfl,ia⟩:=hv 0 _ rfl;obtain⟨b,rfl,ib⟩:=hv 1 _ rfl;obtain⟨c,rfl,ic⟩:=hv 2 _ rfl;obtain⟨d,rfl,id_⟩:=hv 3 _ rfl;exact⟨⟨p,⟨a,b,c,d⟩⟩,rfl,ip.1,ip.2.1,ip.2.2,ia,ib,ic,id_⟩
end
theorem list_of3 {α:Type}{Q:Nat→α→Prop}:∀(n:Nat),(∀i,i<n→∃p,Q i p)→∃l:List α,l.length=n∧∀i p,l[i]?=some p→Q i p
 |0,_=>⟨[],rfl,fun i p h=>by simp at h⟩
 |n+1,H=>by
  obtain⟨l,hl,hq⟩:=list_of3 n fun i hi=>H i (by omega);obtain⟨p,hp⟩:=H n (by omega);refine⟨l++[p],by simp[hl],fun i q h=>?_⟩;rcases Nat.lt_or_ge i l.length with h'|h'
  ·rw[List.getElem?_append_left h']at h;exact hq i q h
  ·rw[List.getElem?_append_right h']at h;have:i-l.length=0:=by
    rcases Nat.eq_zero_or_pos (i-l.length)with e|e
    ·exact e
    ·rw[List.getElem?_eq_none (by simp;omega)]at h;cases h
   rw[this]at h;simp at h;subst h;have:i=n:=by omega
   rwa [this]
end Go.Proofs.YtckdhahceelckaaGreat.G
namespace Go.Proofs.YtckdhahceelckaaGreat.G
open Go.RowKit Go.Proofs.YtckdhahceelckaaGreatW.PrintWords Go.Proofs.YtckdhahceelckaaGreatW.PrintLast Go.Proofs.YtckdhahceelckaaGreatW.PrintMore
attribute [local go_sem] max2_mx min2_mn max_two min_two max_three min_three max_four min_four
attribute [local go_sem high] eqA23 eqA40
def exC:Cr:=⟨[⟨3,0,0⟩],[],[],2⟩
theorem exC_may:exC.may=true:=mayOne (by unfold in3;decide) (by decide) (by decide)
theorem exA_may:exA.may=true:=mayOne (by unfold in3;decide) (by decide) (by decide)
theorem exC_gaps:gapsF E1 ⟨0,0,0⟩ [] 2 ⟨3,0,0⟩ [] 2=(-1,-7):=by
 have d0:dot3 E1 ⟨0,0,0⟩=0:=by decide+kernel
 have d3:dot3 E1 ⟨3,0,0⟩=3145728:=by decide+kernel
 have ha:reachF E1 ⟨0,0,0⟩ []=(0,0):=by simp[reachF,d0]
 have hb:reachF E1 ⟨3,0,0⟩ []=(3145728,3145728):=by simp[reachF,d3]
 obtain⟨hf,hc⟩:=sizes_x;unfold gapsF;rw[ha,hb,hf,hc];unfold gapV;simp only;rw[if_pos (by omega),if_neg (by omega)];simp only[Prod.mk.injEq];omega
theorem exC_first:(apS exA exC).1.2= -1:=by
 rw[apS_val exA_may exC_may];have hr:rawC [⟨0,0,0⟩] [] [] [⟨3,0,0⟩] [] []=[⟨1,0,0⟩]:=by
  rw[rawC_balls,show minus3 ⟨3,0,0⟩ ⟨0,0,0⟩=⟨3,0,0⟩ from p3_of (by decide+kernel),short_x 3 (by decide) (by decide)]
 have hE:E1≠⟨0,0,0⟩:=by
  intro e;have:E1.x=0:=by rw[e]
  revert this
  decide+kernel
 show(apartF [⟨0,0,0⟩] [] [] 2 [⟨3,0,0⟩] [] [] 2).2=_;unfold apartF;rw[hr,show[(⟨0,0,0⟩:P3)].tail=[] from rfl,show[(⟨0,0,0⟩:P3)].headD ⟨0,0,0⟩=⟨0,0,0⟩ from rfl,show[(⟨3,0,0⟩:P3)].tail=[] from rfl,show[(⟨3,0,0⟩:P3)].headD ⟨0,0,0⟩=⟨3,0,0⟩ from rfl];unfold apF;rw[List.foldl_cons,List.foldl_nil];unfold apStep;rw[long_1,if_neg hE,exC_gaps];simp only[true_or,if_true];rw[if_neg (by omega)]
theorem cast_neg0 {c d:Cr}{y:P3}(h:(apS c d).1.2<0)(m:Nat):hstep c y m d=m:=by
 unfold hstep;by_cases ok:castOk c y d=true
 ·rw[if_neg];rintro⟨_,h2⟩;unfold castF at h2;rw[if_pos ok,castL_neg h]at h2;simp only at h2;omega
 ·rw[if_neg];rintro⟨h1,_⟩;unfold castF at h1;rw[if_neg ok]at h1;cases h1
theorem ex_ball:ballC ⟨0,0,0⟩ 2=exA∧wayC ⟨0,0,0⟩ ⟨33554432,0,0⟩=⟨32,0,0⟩:=⟨rfl,rfl⟩
theorem ex_holdMay:holdMay ⟨0,0,0⟩ ⟨33554432,0,0⟩ 2=true:=(holdMay_iff ..).2 ⟨exA_may,by unfold in3;decide,by unfold in3;decide,by rw[ex_ball.2];unfold in3;decide⟩
theorem leastH_one (c:Cr)(y:P3)(m:Nat)(d:Cr):leastH c y m [d]=hstep c y m d:=by unfold leastH;rw[List.foldl_cons,List.foldl_nil]
theorem ex_least1:leastH exA ⟨32,0,0⟩ 16 [exB]=8:=by
 rw[leastH_one,hstep_yes ex_castA (Int.le_refl 0)];rfl
theorem ex_out1:outP ⟨0,0,0⟩ ⟨33554432,0,0⟩ 8=⟨16777216,0,0⟩:=by
 unfold outP outC;simp only[P3.mk.injEq];omega
theorem ex_hold1:holdF ⟨0,0,0⟩ ⟨33554432,0,0⟩ 2 [exB]=(⟨16777216,0,0⟩,8):=by
 have h:=holdF_yes (l:=[exB]) ex_holdMay (k:=8) (by rw[ex_ball.1,ex_ball.2];exact ex_least1);rw[h];exact congrArg (fun t=>(t,8)) ex_out1
theorem ex_hold2:holdF ⟨0,0,0⟩ ⟨33554432,0,0⟩ 2 [exC]=(⟨33554432,0,0⟩,16):=by
 refine holdF_16 ex_holdMay ?_;rw[ex_ball.1,ex_ball.2,leastH_one];exact cast_neg0 (by rw[exC_first];decide) 16
theorem ShotOk.a63 {a b:P3}{r:Int}(h:ShotOk a b r):in3 9223372036854775808 a:=in3_le (by decide) h.ha
theorem ShotOk.b63 {a b:P3}{r:Int}(h:ShotOk a b r):in3 9223372036854775808 b:=in3_le (by decide) h.hb
end Go.Proofs.YtckdhahceelckaaGreat.G
namespace Go.Proofs.YtckdhahceelckaaGreat.G
open Go.RowKit Go.Proofs.YtckdhahceelckaaGreatW.PrintWords Go.Proofs.YtckdhahceelckaaGreatW.PrintLast Go.Proofs.YtckdhahceelckaaGreatW.PrintMore
attribute [local go_sem] max2_mx min2_mn max_two min_two max_three min_three max_four min_four
attribute [local go_sem high] eqA23 eqA40
theorem eqA27 (d:Nat)(w:World)(x0 y0:Int)(x1 y1:Int)(x2 y2:Int):
  (Op.equalIn (d+2) 27 (.agg #[.int .i64 x0, .int .i64 x1, .int .i64 x2]) (.agg #[.int .i64 y0, .int .i64 y1, .int .i64 y2])).run Tryz.prog w= .ok (eqP x0 x1 x2 y0 y1 y2) w:=by
 unfold eqP;refine eqA_of Tryz.underlying27 (by kernel_rfl) ?_;refine eqf_cons (by rfl) (by go_simp;rfl) (by go_simp;rfl) (by go_simp) ?_;refine eqf_cons (by rfl) (by go_simp;rfl) (by go_simp;rfl) (by go_simp) ?_;exact eqf_last (by rfl) (by go_simp;rfl) (by go_simp;rfl) (by go_simp)
attribute [local go_sem high] eqA27
theorem awake18_calls (w:World):Calls Tryz.prog 16 #[] w fun e w'=>e= .returned (.bool true)∧Below w.heap.size w w':=by
 have H1:=Lh (fun(vw:Value) (W:World) A (hl:RdC W A [exB])=>hold_calls vw ⟨0,0,0⟩ ⟨33554432,0,0⟩ 2 [exB] A 1 1 hl rfl (by decide) (by unfold in3;decide) (by unfold in3;decide));have H2:=Lh (fun(vw:Value) (W:World) A (hl:RdC W A [exC])=>hold_calls vw ⟨0,0,0⟩ ⟨33554432,0,0⟩ 2 [exC] A 1 1 hl rfl (by decide) (by unfold in3;decide) (by unfold in3;decide));rw[ex_hold1]at H1;rw[ex_hold2]at H2;have W:=Lh (Below.refl w.heap.size w);go_enter Tryz.func16,Tryz.ntmps16
 go_upto_region 3 with fail
 have bz:=(((Below.refl w.heap.size w).alloc (Nat.le_refl _) (.cells #[.bool false] 54)).alloc (by simp) (.cells #[.int .i64 33554432, .int .i64 0, .int .i64 0] 27));have nz0:=heap_alloc_new w (.cells #[.bool false] 54);replace nz0:=(Below.heap_alloc _ (.cells #[.int .i64 33554432, .int .i64 0, .int .i64 0] 27) _ (by simp<;>omega)).trans nz0;have nz1:=heap_alloc_new (w.alloc (.cells #[.bool false] 54)) (.cells #[.int .i64 33554432, .int .i64 0, .int .i64 0] 27);simp only[World.size_alloc]at nz1;obtain⟨w1,hwz⟩:=nm_ (((w.alloc (.cells #[.bool false] 54)).alloc (.cells #[.int .i64 33554432, .int .i64 0, .int .i64 0] 27)));rw[hwz]at bz nz0 nz1⊢;replace W:=Lh (bthen W.out bz);have WK:=Lh nz0;have TT:=Lh nz1;clear hwz bz nz0 nz1;obtain⟨t0,t1,t2,tl⟩:=f3_ (w.heap.size+1) TT.out;go_wp2_with fail;have bz:=(((Below.refl w1.heap.size w1).alloc (Nat.le_refl _) (.cells #[.int .i64 20, .int .i64 0, .int .i64 0] 23)).alloc (by simp) (.cells #[.slice (some ⟨w1.heap.size,0,none⟩) 1 1, .slice none 0 0, .slice none 0 0, .int .i64 2] 35));have nz0:=heap_alloc_new w1 (.cells #[.int .i64 20, .int .i64 0, .int .i64 0] 23);replace nz0:=(Below.heap_alloc _ (.cells #[.slice (some ⟨w1.heap.size,0,none⟩) 1 1, .slice none 0 0, .slice none 0 0, .int .i64 2] 35) _ (by simp<;>omega)).trans nz0;have nz1:=heap_alloc_new (w1.alloc (.cells #[.int .i64 20, .int .i64 0, .int .i64 0] 23)) (.cells #[.slice (some ⟨w1.heap.size,0,none⟩) 1 1, .slice none 0 0, .slice none 0 0, .int .i64 2] 35);simp only[World.size_alloc]at nz1;obtain⟨w2,hwz⟩:=nm_ (((w1.alloc (.cells #[.int .i64 20, .int .i64 0, .int .i64 0] 23)).alloc (.cells #[.slice (some ⟨w1.heap.size,0,none⟩) 1 1, .slice none 0 0, .slice none 0 0, .int .i64 2] 35)));rw[hwz]at bz nz0 nz1⊢;replace WK:=up_ bz WK;replace TT:=up_ bz TT;replace W:=Lh (bthen W.out bz);have PP:=Lh nz0;have CC:=Lh nz1;clear hwz bz nz0 nz1 t0 t1 t2 tl;have cc:CrV w2 (.agg #[.slice (some ⟨w1.heap.size,0,none⟩) 1 1, .slice none 0 0, .slice none 0 0, .int .i64 2]) exB:=ball_core w2 _ 20 0 0 2 1 (Nat.le_refl _) PP.out;have hl:=RdC_one CC.out cc rfl;clear PP CC cc
 with_reducible refine(H1.out _ w2 _ hl).mono ?_
 rintro en w3 ⟨rfl,hb⟩;replace WK:=up_ hb WK;replace TT:=up_ hb TT;replace W:=Lh (bthen W.out hb);clear hl;clear hb
 go_upto_region 4 with fail
 have bz:=((Below.refl w3.heap.size w3).alloc (Nat.le_refl _) (.cells #[.int .i64 16777216, .int .i64 0, .int .i64 0] 27));have nz0:=heap_alloc_new w3 (.cells #[.int .i64 16777216, .int .i64 0, .int .i64 0] 27);obtain⟨w4,hwz⟩:=nm_ ((w3.alloc (.cells #[.int .i64 16777216, .int .i64 0, .int .i64 0] 27)));rw[hwz]at bz nz0⊢;replace WK:=up_ bz WK;replace TT:=up_ bz TT;replace W:=Lh (bthen W.out bz);have O1:=Lh nz0;clear hwz bz nz0;obtain⟨t0,t1,t2,tl⟩:=f3_ (w.heap.size+1) TT.out;go_wp2_with fail;have bz:=(((Below.refl w4.heap.size w4).alloc (Nat.le_refl _) (.cells #[.int .i64 3, .int .i64 0, .int .i64 0] 23)).alloc (by simp) (.cells #[.slice (some ⟨w4.heap.size,0,none⟩) 1 1, .slice none 0 0, .slice none 0 0, .int .i64 2] 35));have nz0:=heap_alloc_new w4 (.cells #[.int .i64 3, .int .i64 0, .int .i64 0] 23);replace nz0:=(Below.heap_alloc _ (.cells #[.slice (some ⟨w4.heap.size,0,none⟩) 1 1, .slice none 0 0, .slice none 0 0, .int .i64 2] 35) _ (by simp<;>omega)).trans nz0;have nz1:=heap_alloc_new (w4.alloc (.cells #[.int .i64 3, .int .i64 0, .int .i64 0] 23)) (.cells #[.slice (some ⟨w4.heap.size,0,none⟩) 1 1, .slice none 0 0, .slice none 0 0, .int .i64 2] 35);simp only[World.size_alloc]at nz1;obtain⟨w5,hwz⟩:=nm_ (((w4.alloc (.cells #[.int .i64 3, .int .i64 0, .int .i64 0] 23)).alloc (.cells #[.slice (some ⟨w4.heap.size,0,none⟩) 1 1, .slice none 0 0, .slice none 0 0, .int .i64 2] 35)));rw[hwz]at bz nz0 nz1⊢;replace WK:=up_ bz WK;replace TT:=up_ bz TT;replace O1:=up_ bz O1;replace W:=Lh (bthen W.out bz);have PP:=Lh nz0;have CC:=Lh nz1;clear hwz bz nz0 nz1 t0 t1 t2 tl;have cc:CrV w5 (.agg #[.slice (some ⟨w4.heap.size,0,none⟩) 1 1, .slice none 0 0, .slice none 0 0, .int .i64 2]) exC:=ball_core w5 _ 3 0 0 2 1 (Nat.le_refl _) PP.out;have hl:=RdC_one CC.out cc rfl;clear PP CC cc
 with_reducible refine(H2.out _ w5 _ hl).mono ?_
 rintro en w6 ⟨rfl,hb⟩;replace WK:=up_ hb WK;replace TT:=up_ hb TT;replace O1:=up_ hb O1;replace W:=Lh (bthen W.out hb);clear hl;clear hb
 go_upto_region 5 with fail
 have bz:=((Below.refl w6.heap.size w6).alloc (Nat.le_refl _) (.cells #[.int .i64 33554432, .int .i64 0, .int .i64 0] 27));have nz0:=heap_alloc_new w6 (.cells #[.int .i64 33554432, .int .i64 0, .int .i64 0] 27);obtain⟨w7,hwz⟩:=nm_ ((w6.alloc (.cells #[.int .i64 33554432, .int .i64 0, .int .i64 0] 27)));rw[hwz]at bz nz0⊢;replace WK:=up_ bz WK;replace TT:=up_ bz TT;replace O1:=up_ bz O1;replace W:=Lh (bthen W.out bz);have O2:=Lh nz0;clear hwz bz nz0;obtain⟨k0,kl⟩:=f1_ w.heap.size WK.out;obtain⟨t0,t1,t2,tl⟩:=f3_ (w.heap.size+1) TT.out;obtain⟨a0,a1,a2,al⟩:=f3_ w3.heap.size O1.out;obtain⟨b0,b1,b2,bl⟩:=f3_ w6.heap.size O2.out;go_wp2
 go_ret
 exact⟨rfl,W.out⟩
end Go.Proofs.YtckdhahceelckaaGreat.G
