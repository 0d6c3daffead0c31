/- What the laws of this claim lean on: contracts of functions and plain lemmas; no condition of its own (part 73: XZ3). -/
import Derived.Test.YtckdhahceelckaaGreatKQ44
import Derived.Test.YtckdhahceelckaaGreatKQ53
set_option maxHeartbeats 16000000
set_option maxRecDepth 100000
set_option linter.unusedVariables false
set_option linter.unusedSimpArgs false
namespace Go.Proofs.YtckdhahceelckaaGreat.G
open Go.ChangeShapes Go.WideShapes Go.RowKit
theorem cell_sl {t e:TypeId}(ht:Tryz.prog.underlying t=some (.slice e)){w:World}{r:Reach}{base:Nat}{v:Value}(h:Cell.okWide Tryz.prog w r base t v):∃A n c,v= .slice A n c:=by
 simp only[Cell.okWide,ht]at h
 cases v with
 |slice A n c=>exact⟨A,n,c,rfl⟩
 |_=>simp[Cell.ok,ht]at h
theorem array9 {α:Type}{cs:Array α}(h:cs.size=9):∃c0 c1 c2 c3 c4 c5 c6 c7 c8,cs=#[c0,c1,c2,c3,c4,c5,c6,c7,c8]:=by
 obtain⟨l⟩:=cs
 match l,h with
 |[c0,c1,c2,c3,c4,c5,c6,c7,c8],_=>exact⟨c0,c1,c2,c3,c4,c5,c6,c7,c8,rfl⟩
theorem types47:Tryz.prog.cellTypes Tryz.prog.depth 47=some [3,3,3,3,3,3,3,44,45]:=by kernel_rfl
section
variable {H:Type}{enc:TypeId×Value→H}{W:World}{base:Nat}{spare:Nat→Bool}{held:Bool}
theorem open_shapes {fuel:Nat}{A:Option Addr}{n c:Nat}{y:DataW H×List MemPlace}(hf0:DataW.trod enc Tryz.prog W base spare held fuel 44 [.slice A n c]=some y)(hw:∀k∈y.1.weights Tryz.prog 44,k≤reachBytes):
  ∃l:List RawS,l.length=n∧RdW W A l∧n≤140737488355328:=by
 rcases Go.Deep.open_slice Tryz.underlying44 hf0 with⟨e,_⟩|⟨a,len,cap,m,k,D,Pl,e,hb,hl,hc,hm,hx,hf⟩
 ·simp only[List.cons.injEq,Value.slice.injEq,and_true]at e;obtain⟨rfl,rfl,rfl⟩:=e;exact⟨[],rfl,fun i d hd=>by simp at hd,by decide⟩
 ·simp only[List.cons.injEq,Value.slice.injEq,and_true]at e;obtain⟨rfl,rfl,rfl⟩:=e;rw[hx]at hw;rw[DataW.weights,Tryz.underlying44]at hw;have hcells:Tryz.prog.cellsOf 26=6:=by kernel_rfl
  have hbs:1≤Tryz.prog.bytesOf 26:=of_decide_eq_true (by kernel_rfl);have hn1:n≤140737488355328:=by
   have h1:=hw _ List.mem_cons_self;have h2:=Nat.le_trans (Nat.le_mul_of_pos_right _ hbs) h1;simp[reachBytes]at h2;omega
  have hsp:0<n→a.spot=none∧a.block<W.heap.size:=by
   intro h0;have him:0<m:=by
    rw[hm];split<;>omega
   obtain⟨cs',h1,h2⟩:=hf 0 him;rw[hcells]at h1;obtain⟨_,hl4,hg⟩:=World.cells?_some h1;obtain⟨v0,hv0⟩:∃v0,cs'[0]?=some v0:=⟨_,List.getElem?_eq_getElem (by omega)⟩;have hs:=cell_spot ((hg 0 (by decide)).trans hv0);rw[add_zero_]at hs;exact hs
  have each:∀i,i<n→∃q:RawS,∃Ai ci,a.spot=none∧a.block<W.heap.size∧W.cell? ⟨a.block,a.off+i*6,none⟩=some (.int .i64 q.k)∧W.cell? ⟨a.block,a.off+i*6+1,none⟩=some (.int .i64 q.r)∧W.cell? ⟨a.block,a.off+i*6+2,none⟩=some (.int .i64 q.h.x)∧W.cell? ⟨a.block,a.off+i*6+3,none⟩=some (.int .i64 q.h.y)∧W.cell? ⟨a.block,a.off+i*6+4,none⟩=some (.int .i64 q.h.z)∧W.cell? ⟨a.block,a.off+i*6+5,none⟩=some (.slice Ai q.pts.length ci)∧RdB W Ai q.pts∧RawOk q.k q.r q.h q.pts:=by
   intro i hi;have him:i<m:=by
    rw[hm];split<;>omega
   obtain⟨cs',h1,h2⟩:=hf i him;rw[hcells]at h1;obtain⟨_,hl4,hg⟩:=World.cells?_some h1;have hwi:∀k∈(D i).weights Tryz.prog 26,k≤reachBytes:=fun k hk=>hw k (List.mem_cons_of_mem _ (List.mem_append_left _ (weights_all (j:=i) (by rw[List.getElem?_map,List.getElem?_range hi];rfl) k hk)));obtain⟨Ai,ci,q,rfl,hq,hqb⟩:=open_raw5_cells h2 hwi;have hs:=hsp (by omega);obtain⟨b,o,s⟩:=a;simp only at hs;obtain⟨rfl,hlt⟩:=hs;have ea:(⟨b,o,none⟩:Addr).add (i*6)=⟨b,o+i*6,none⟩:=add_at _ _ _;rw[ea]at hg;have g0:=hg 0 (by decide);have g1:=hg 1 (by decide);have g2:=hg 2 (by decide);have g3:=hg 3 (by decide);have g4:=hg 4 (by decide);have g5:=hg 5 (by decide);rw[add_at]at g0 g1 g2 g3 g4 g5;exact⟨q,Ai,ci,rfl,hlt,g0,g1,g2,g3,g4,g5,hq,hqb⟩
  obtain⟨l,hll,hq⟩:=list_of3 n each;refine⟨l,hll,fun i d hd=>?_,hn1⟩;obtain⟨Ai,ci,hs,hlt,g⟩:=hq i d hd;obtain⟨b,o,s⟩:=a;simp only at hs hlt g;subst hs;exact⟨b,o,Ai,ci,rfl,hlt,g⟩
theorem open_poses {fuel:Nat}{A:Option Addr}{n c:Nat}{y:DataW H×List MemPlace}(hf0:DataW.trod enc Tryz.prog W base spare held fuel 45 [.slice A n c]=some y)(hw:∀k∈y.1.weights Tryz.prog 45,k≤reachBytes):
  ∃l:List P7,l.length=n∧RdQ W A l∧n≤140737488355328:=by
 rcases Go.Deep.open_slice Tryz.underlying45 hf0 with⟨e,_⟩|⟨a,len,cap,m,k,D,Pl,e,hb,hl,hc,hm,hx,hf⟩
 ·simp only[List.cons.injEq,Value.slice.injEq,and_true]at e;obtain⟨rfl,rfl,rfl⟩:=e;exact⟨[],rfl,fun i d hd=>by simp at hd,by decide⟩
 ·simp only[List.cons.injEq,Value.slice.injEq,and_true]at e;obtain⟨rfl,rfl,rfl⟩:=e;rw[hx]at hw;rw[DataW.weights,Tryz.underlying45]at hw;have hcells:Tryz.prog.cellsOf 31=7:=by kernel_rfl
  have hbs:1≤Tryz.prog.bytesOf 31:=of_decide_eq_true (by kernel_rfl);have hn1:n≤140737488355328:=by
   have h1:=hw _ List.mem_cons_self;have h2:=Nat.le_trans (Nat.le_mul_of_pos_right _ hbs) h1;simp[reachBytes]at h2;omega
  have hsp:0<n→a.spot=none∧a.block<W.heap.size:=by
   intro h0;have him:0<m:=by
    rw[hm];split<;>omega
   obtain⟨cs',h1,h2⟩:=hf 0 him;rw[hcells]at h1;obtain⟨_,hl4,hg⟩:=World.cells?_some h1;obtain⟨v0,hv0⟩:∃v0,cs'[0]?=some v0:=⟨_,List.getElem?_eq_getElem (by omega)⟩;have hs:=cell_spot ((hg 0 (by decide)).trans hv0);rw[add_zero_]at hs;exact hs
  have each:∀i,i<n→∃q:P7,a.spot=none∧a.block<W.heap.size∧W.cell? ⟨a.block,a.off+i*7,none⟩=some (.int .i64 q.at_.x)∧W.cell? ⟨a.block,a.off+i*7+1,none⟩=some (.int .i64 q.at_.y)∧W.cell? ⟨a.block,a.off+i*7+2,none⟩=some (.int .i64 q.at_.z)∧W.cell? ⟨a.block,a.off+i*7+3,none⟩=some (.int .i64 q.turn.w)∧W.cell? ⟨a.block,a.off+i*7+4,none⟩=some (.int .i64 q.turn.x)∧W.cell? ⟨a.block,a.off+i*7+5,none⟩=some (.int .i64 q.turn.y)∧W.cell? ⟨a.block,a.off+i*7+6,none⟩=some (.int .i64 q.turn.z)∧i64s q:=by
   intro i hi;have him:i<m:=by
    rw[hm];split<;>omega
   obtain⟨cs',h1,h2⟩:=hf i him;rw[hcells]at h1;obtain⟨_,hl4,hg⟩:=World.cells?_some h1;obtain⟨q,rfl,hq⟩:=open_raw6_cells h2;have hs:=hsp (by omega);obtain⟨b,o,s⟩:=a;simp only at hs;obtain⟨rfl,hlt⟩:=hs;have ea:(⟨b,o,none⟩:Addr).add (i*7)=⟨b,o+i*7,none⟩:=add_at _ _ _;rw[ea]at hg;have g0:=hg 0 (by decide);have g1:=hg 1 (by decide);have g2:=hg 2 (by decide);have g3:=hg 3 (by decide);have g4:=hg 4 (by decide);have g5:=hg 5 (by decide);have g6:=hg 6 (by decide);rw[add_at]at g0 g1 g2 g3 g4 g5 g6;exact⟨q,rfl,hlt,g0,g1,g2,g3,g4,g5,g6,hq⟩
  obtain⟨l,hll,hq⟩:=list_of3 n each;refine⟨l,hll,fun i d hd=>?_,hn1⟩;obtain⟨hs,hlt,g⟩:=hq i d hd;obtain⟨b,o,s⟩:=a;simp only at hs hlt g;subst hs;exact⟨b,o,rfl,hlt,g⟩
theorem open_shot {r:Reach}{b0:Nat}{v:Value}{d:DataW H}{p:List MemPlace}(hval:Value.okWide Tryz.prog W r b0 47 v)(h:DataW.Trod enc Tryz.prog W base spare held 47 v d p)(hw:∀k∈d.weights Tryz.prog 47,k≤reachBytes):
  ∃f y r A n c A' n' c' ls lq,v= .agg (cShot f y r A n c A' n' c')∧pI64 f∧pI64 y∧i64 r∧RdW W A ls∧ls.length=n∧RdQ W A' lq∧lq.length=n'∧n≤140737488355328∧n'≤140737488355328:=by
 simp only[Value.okWide,Tryz.underlying47]at hval;obtain⟨cs,rfl,hsz,ts,hts,_,hc⟩:=hval;have hC:Tryz.prog.cellsOf 47=9:=by kernel_rfl
 rw[types47]at hts;cases hts;obtain⟨c0,c1,c2,c3,c4,c5,c6,c7,c8,rfl⟩:=array9 (hsz.trans hC);have num:∀(i:Nat) (c:Value),#[c0,c1,c2,c3,c4,c5,c6,c7,c8][i]?=some c→i<7→∃n,c= .int .i64 n∧i64 n:=by
  intro i c hi h7;obtain⟨u,hu,hk⟩:=hc i _ hi;have:u=3:=by
   match i,h7 with
   |0,_=>simpa using hu.symm
   |1,_=>simpa using hu.symm
   |2,_=>simpa using hu.symm
   |3,_=>simpa using hu.symm
   |4,_=>simpa using hu.symm
   |5,_=>simpa using hu.symm
   |6,_=>simpa using hu.symm
  subst this;exact cell_num hk
 obtain⟨x0,rfl,i0⟩:=num 0 _ rfl (by decide);obtain⟨x1,rfl,i1⟩:=num 1 _ rfl (by decide);obtain⟨x2,rfl,i2⟩:=num 2 _ rfl (by decide);obtain⟨x3,rfl,i3⟩:=num 3 _ rfl (by decide);obtain⟨x4,rfl,i4⟩:=num 4 _ rfl (by decide);obtain⟨x5,rfl,i5⟩:=num 5 _ rfl (by decide);obtain⟨x6,rfl,i6⟩:=num 6 _ rfl (by decide);obtain⟨A,n,cap,rfl⟩:∃A n c,c7= .slice A n c:=by
  obtain⟨u,hu,hk⟩:=hc 7 _ rfl;cases hu;exact cell_sl Tryz.underlying44 hk
 obtain⟨A',n',cap',rfl⟩:∃A n c,c8= .slice A n c:=by
  obtain⟨u,hu,hk⟩:=hc 8 _ rfl;cases hu;exact cell_sl Tryz.underlying45 hk
 obtain⟨fuel,hf0⟩:=h;obtain⟨xs,m,_,hx,hcs,hlen,hf⟩:=DataW.trod_struct Tryz.underlying47 hf0;have k44:Tryz.prog.cellsOf 44=1:=by kernel_rfl
 have k45:Tryz.prog.cellsOf 45=1:=by kernel_rfl
 have each:∀(i:Nat),i<5→∃y,xs[i]?=some y:=fun i hi=>⟨_,List.getElem?_eq_getElem (by rw[hlen];show i<5;omega)⟩;obtain⟨y3,hy3⟩:=each 3 (by decide);obtain⟨y4,hy4⟩:=each 4 (by decide);have h3:=hf 3 _ rfl;have h4:=hf 4 _ rfl;rw[hy3]at h3;rw[hy4]at h4;simp only[Prod.mk.injEq]at hx;obtain⟨rfl,_⟩:=hx;rw[DataW.weights,Tryz.underlying47]at hw;have w3:∀k∈y3.1.weights Tryz.prog 44,k≤reachBytes:=fun k hk=>hw k (DataW.weights_mem_each (j:=3) (t:=44) (d:=y3.1) (by rfl) (by rw[List.getElem?_map,hy3];rfl) k hk);have w4:∀k∈y4.1.weights Tryz.prog 45,k≤reachBytes:=fun k hk=>hw k (DataW.weights_mem_each (j:=4) (t:=45) (d:=y4.1) (by rfl) (by rw[List.getElem?_map,hy4];rfl) k hk);have t3:DataW.trod enc Tryz.prog W base spare held m 44 [.slice A n cap]=some y3:=by
  have e:((List.drop 7 ([.int .i64 x0, .int .i64 x1, .int .i64 x2, .int .i64 x3, .int .i64 x4, .int .i64 x5, .int .i64 x6, .slice A n cap, .slice A' n' cap']:List Value)).take (Tryz.prog.cellsOf 44))=[.slice A n cap]:=by rw[k44];rfl
  exact(congrArg _ e.symm).trans h3
 have t4:DataW.trod enc Tryz.prog W base spare held m 45 [.slice A' n' cap']=some y4:=by
  have e:((List.drop 8 ([.int .i64 x0, .int .i64 x1, .int .i64 x2, .int .i64 x3, .int .i64 x4, .int .i64 x5, .int .i64 x6, .slice A n cap, .slice A' n' cap']:List Value)).take (Tryz.prog.cellsOf 45))=[.slice A' n' cap']:=by rw[k45];rfl
  exact(congrArg _ e.symm).trans h4
 obtain⟨ls,hls,RS,LS⟩:=open_shapes t3 w3;obtain⟨lq,hlq,RQ,LQ⟩:=open_poses t4 w4;exact⟨⟨x0,x1,x2⟩,⟨x3,x4,x5⟩,x6,A,n,cap,A',n',cap',ls,lq,rfl,⟨i0,i1,i2⟩,⟨i3,i4,i5⟩,i6,RS,hls,RQ,hlq,LS,LQ⟩
end
end Go.Proofs.YtckdhahceelckaaGreat.G
