/- What the laws of this claim lean on: contracts of functions and plain lemmas; no condition of its own (part 21: XW35, XG7, XW36, XR2, XR10, XM2, XM5). -/
import Derived.Test.YtckdhahceelckaaGreatKQ19
import Derived.Test.YtckdhahceelckaaGreatKQ20
set_option maxHeartbeats 16000000
set_option maxRecDepth 100000
set_option linter.unusedVariables false
set_option linter.unusedSimpArgs false
namespace Go.Proofs.YtckdhahceelckaaGreat.G
open Go.RowKit Go.Proofs.YtckdhahceelckaaGreatW.PrintWords Go.Proofs.YtckdhahceelckaaGreatW.PrintLast Go.Proofs.YtckdhahceelckaaGreatW.PrintMore
theorem sq_le_bd {a n:Int}(hn:0≤n)(h:a*a<(n+1)*(n+1)): -n≤a∧a≤n:=by
 have key:a.natAbs<n.natAbs+1:=by
  rcases Nat.lt_or_ge a.natAbs (n.natAbs+1)with h1|h1
  ·exact h1
  ·have h2:=Nat.mul_le_mul h1 h1;have h3:((a.natAbs*a.natAbs:Nat):Int)=a*a:=Int.natAbs_mul_self;have h4:(((n.natAbs+1)*(n.natAbs+1):Nat):Int)=(n+1)*(n+1):=by
    rw[Int.natCast_mul,Int.natCast_add,Int.natAbs_of_nonneg hn];rfl
   omega
 omega
theorem unit_one {x L:Int}(hL:0<L)(h1: -L≤x)(h2:x≤L): -4294967296≤x*4294967296 / L∧x*4294967296 / L≤4294967296:=by
 constructor
 ·rw[Int.le_ediv_iff_mul_le hL];omega
 ·have:x*4294967296 / L<4294967296+1:=by rw[Int.ediv_lt_iff_lt_mul hL];omega
  omega
def q32 (q:Q4):Prop:=(-4294967296≤q.w∧q.w≤4294967296)∧(-4294967296≤q.x∧q.x≤4294967296)∧(-4294967296≤q.y∧q.y≤4294967296)∧(-4294967296≤q.z∧q.z≤4294967296)
theorem unitF_q32 (q:Q4)(h:0<lenF q):q32 (unitF q):=by
 obtain⟨w,x,y,z⟩:=q;have hw:=sq_nonneg w;have hx:=sq_nonneg x;have hy:=sq_nonneg y;have hz:=sq_nonneg z;obtain⟨h0,_,h1⟩:=rtI_spec (v:=w*w+x*x+y*y+z*z) (by omega);have e:lenF ⟨w,x,y,z⟩=rtI (w*w+x*x+y*y+z*z):=rfl;rw[←e]at h0 h1;have bw:=sq_le_bd (a:=w) h0 (by omega);have bx:=sq_le_bd (a:=x) h0 (by omega);have by_:=sq_le_bd (a:=y) h0 (by omega);have bz:=sq_le_bd (a:=z) h0 (by omega);exact⟨unit_one h bw.1 bw.2,unit_one h bx.1 bx.2,unit_one h by_.1 by_.2,unit_one h bz.1 bz.2⟩
theorem wholeF_q32 (q:Q4):q32 (wholeF q):=by
 unfold wholeF;split
 ·unfold q32;simp
 ·exact unitF_q32 q (by omega)
theorem mul32 {a b:Int}(ha: -4294967296≤a∧a≤4294967296)(hb: -4294967296≤b∧b≤4294967296): -18446744073709551616≤a*b∧a*b≤18446744073709551616:=by
 have h:(a*b).natAbs≤4294967296*4294967296:=by rw[Int.natAbs_mul];exact Nat.mul_le_mul (by omega) (by omega)
 omega
theorem D2_32 {a b c d:Int}(ha: -4294967296≤a∧a≤4294967296)(hb: -4294967296≤b∧b≤4294967296)(hc: -4294967296≤c∧c≤4294967296)(hd: -4294967296≤d∧d≤4294967296):
  -17179869184≤D2 (a+a) (b+b) c d∧D2 (a+a) (b+b) c d≤17179869184:=by
 have h1:=mul32 ha hc;have h2:=mul32 hb hd;have e:D2 (a+a) (b+b) c d=(2*(a*c)+2*(b*d)) / 4294967296:=by
  unfold D2;congr 1;rw[Int.add_mul,Int.add_mul];omega
 rw[e];omega
theorem neg32 {a:Int}(ha: -4294967296≤a∧a≤4294967296): -4294967296≤ -a∧ -a≤4294967296:=by omega
theorem rows_mOk {q:Q4}(h:q32 q):mOk (rowsF q):=by
 obtain⟨hw,hx,hy,hz⟩:=h;have a1:=D2_32 hy hz hy hz;have a2:=D2_32 hx hw hy (neg32 hz);have a3:=D2_32 hx hw hz hy;have b1:=D2_32 hx hw hy hz;have b2:=D2_32 hx hz hx hz;have b3:=D2_32 hy hw hz (neg32 hx);have c1:=D2_32 hx hw hz (neg32 hy);have c2:=D2_32 hy hw hz hx;have c3:=D2_32 hx hy hx hy;refine⟨⟨?_,?_,?_,?_,?_,?_⟩,⟨?_,?_,?_,?_,?_,?_⟩,⟨?_,?_,?_,?_,?_,?_⟩⟩<;>simp only[rowsF]<;>omega
theorem q32.quat {q:Q4}(h:q32 q):quat q:=by unfold q32 at h;unfold G.quat;omega
theorem partV_at (p:P3):atOk (partV p):=by
 have a:=partF_bd p.x 4398046511104 (by decide);have b:=partF_bd p.y 4398046511104 (by decide);have c:=partF_bd p.z 4398046511104 (by decide);unfold atOk in3 partV;simp only;omega
/-- the core of a shape -/
def CoreIs (s:Shp)(p a e:List P3):Prop:=
 (s.kind=1∧p=[⟨0,0,0⟩]∧a=[]∧e=[])∨(s.kind=2∧p=[⟨-s.half.x,0,0⟩,⟨s.half.x,0,0⟩]∧a=[]∧e=[⟨1,0,0⟩])∨
 (s.kind=3∧p=corners s.half∧a=[⟨1,0,0⟩,⟨0,1,0⟩,⟨0,0,1⟩]∧e=[⟨1,0,0⟩,⟨0,1,0⟩,⟨0,0,1⟩])∨(s.kind=4∧p=s.pts∧HullOk s.pts a e)
def CorePostS (s:Shp)(w:World)(en:Ending)(w':World):Prop:=∃p a e,CoreIs s p a e∧CorePost p a e s.radius w en w'
theorem core_calls (s:Shp)(A:Option Addr)(c:Nat)(hok:ShpOk s)(w:World)(hA:RdB w A s.pts):
  Calls Tryz.prog 26 #[.agg (cS s.kind s.radius s.half A s.pts.length c)] w (CorePostS s w):=by
 obtain⟨k,r,h,l⟩:=s;obtain⟨hk,r0,r1,hh,hl,hp,hc⟩:=hok;simp only at hk r0 r1 hh hl hp hc hA⊢;rcases hk with rfl|rfl|rfl|rfl
 ·exact(core_1 r h A _ c r0 r1 hh w).mono fun en w' hq=>⟨_,_,_, .inl ⟨rfl,rfl,rfl,rfl⟩,hq⟩
 ·exact(core_2 r h A _ c r0 r1 hh w).mono fun en w' hq=>⟨_,_,_, .inr (.inl ⟨rfl,rfl,rfl,rfl⟩),hq⟩
 ·exact(core_3 r h A _ c r0 r1 hh w).mono fun en w' hq=>⟨_,_,_, .inr (.inr (.inl ⟨rfl,rfl,rfl,rfl⟩)),hq⟩
 ·exact(core_4 r h l A c (by omega) r1 hl hp (hc rfl) w hA).mono fun en w' ⟨axes,edges,hq,hq2⟩=>⟨_,_,_, .inr (.inr (.inr ⟨rfl,rfl,hq⟩)),hq2⟩
end Go.Proofs.YtckdhahceelckaaGreat.G
namespace Go.Proofs.YtckdhahceelckaaGreat.G
open Go.RowKit Go.Proofs.YtckdhahceelckaaGreatW.PrintWords Go.Proofs.YtckdhahceelckaaGreatW.PrintLast Go.Proofs.YtckdhahceelckaaGreatW.PrintMore
theorem fold_bd (n a:P3)(l:List P3):∀(s:Int×Int),(l.foldl (sdStep n a) s).1≤s.1∧s.2≤(l.foldl (sdStep n a) s).2∧∀o∈l,(l.foldl (sdStep n a) s).1≤dot3 n (minus3 o a)∧dot3 n (minus3 o a)≤(l.foldl (sdStep n a) s).2:=by
 induction l with
 |nil=>intro s;simp
 |cons p l ih=>
  intro s;obtain⟨h1,h2,h3⟩:=ih (sdStep n a s p);have m1:(sdStep n a s p).1≤s.1∧(sdStep n a s p).1≤dot3 n (minus3 p a):=by unfold sdStep mn;simp only;split<;>omega
  have m2:s.2≤(sdStep n a s p).2∧dot3 n (minus3 p a)≤(sdStep n a s p).2:=by unfold sdStep mx;simp only;split<;>omega
  simp only[List.foldl_cons];refine⟨by omega,by omega,fun o ho=>?_⟩;rcases List.mem_cons.1 ho with rfl|ho
  ·exact⟨by omega,by omega⟩
  ·exact h3 o ho
theorem side_spec {l:List P3}{n a:P3}(h:sideF l n a≠0):(sideF l n a=1∨sideF l n a= -1)∧∀o∈l,sideF l n a*dot3 n (minus3 o a)≤0:=by
 obtain⟨h1,h2,h3⟩:=fold_bd n a l (0,0);unfold sideF sideV at*;unfold sdF at*;split
 ·rename_i h4;exact⟨.inl rfl,fun o ho=>by have:=h3 o ho;omega⟩
 ·rename_i h4;rw[if_neg h4]at h;split
  ·exact⟨.inr rfl,fun o ho=>by have:=h3 o ho;omega⟩
  ·rename_i h5;rw[if_neg h5]at h;exact absurd rfl h
theorem sub_in {p q:P3}(hp:in3 65536 p)(hq:in3 65536 q):minus3 p q=subI p q∧in3 (131072:Nat) (subI p q):=by
 refine⟨minus3_eq p q (in3_le (by decide) hp) (in3_le (by decide) hq),?_⟩;unfold in3 subI at*;simp only;omega
theorem nrm_at {a b c:P3}(ha:in3 65536 a)(hb:in3 65536 b)(hc:in3 65536 c):nrm3 a b c=crossI (subI b a) (subI c a)∧in3 (34359738368:Nat) (crossI (subI b a) (subI c a)):=by
 obtain⟨e1,i1⟩:=sub_in hb ha;obtain⟨e2,i2⟩:=sub_in hc ha;have h:=cross3_eq _ _ 131072 131072 i1 i2 (by decide);unfold nrm3;rw[e1,e2];exact h
theorem dot_in {n:P3}{o a:P3}(hn:in3 (34359738368:Nat) n)(ho:in3 65536 o)(ha:in3 65536 a):dot3 n (minus3 o a)=dotI n (subI o a):=by
 obtain⟨e1,i1⟩:=sub_in ho ha;rw[e1];exact dot3_eq _ _ 34359738368 131072 hn i1 (by decide)
theorem dot_sub (n o a b:P3)(h1:dotI n (subI o a)=0)(h2:dotI n (subI b a)=0):dotI n (subI o b)=0:=by
 unfold dotI subI at*;grind
theorem flat_of {l:List P3}(hin:∀p∈l,in3 65536 p){n a:P3}(hn:n≠⟨0,0,0⟩)(h:∀o∈l,dotI n (subI o a)=0):FlatP l:=by
 intro i k hk m hm o x y z v hx hy hz hv;have mx_:=List.mem_of_getElem? hx;have my_:=List.mem_of_getElem? hy;have mz_:=List.mem_of_getElem? hz;have mv_:=List.mem_of_getElem? hv;obtain⟨e,i1⟩:=nrm_at (hin _ mz_) (hin _ my_) (hin _ mx_);rw[e,dot_in i1 (hin _ mv_) (hin _ mz_)];exact det_plane n _ _ _ hn (dot_sub n _ a _ (h _ my_) (h _ mz_)) (dot_sub n _ a _ (h _ mx_) (h _ mz_)) (dot_sub n _ a _ (h _ mv_) (h _ mz_))
theorem dot_neg (a b:P3):dotI a (negI b)= -dotI a b:=by unfold dotI negI;grind
theorem cross_neg (a b:P3):crossI a (negI b)=negI (crossI a b):=by unfold crossI negI;simp only[P3.mk.injEq];refine⟨?_,?_,?_⟩<;>grind
theorem dot_of_par {a b v:P3}{x y:Int}(h1:x*a.x=y*b.x)(h2:x*a.y=y*b.y)(h3:x*a.z=y*b.z):x*dotI a v=y*dotI b v:=by unfold dotI;grind
theorem sgn_ne {s:Int}(hs:s=1∨s= -1){n:P3}(h:n≠⟨0,0,0⟩):(⟨s*n.x,s*n.y,s*n.z⟩:P3)≠⟨0,0,0⟩:=by
 intro e;simp only[P3.mk.injEq]at e;apply h;obtain⟨x,y,z⟩:=n;simp only at e;simp only[P3.mk.injEq];rcases hs with rfl|rfl<;>omega
theorem sgn_in {s:Int}(hs:s=1∨s= -1){n:P3}(h:in3 (34359738368:Nat) n):in3 4398046511104 (⟨s*n.x,s*n.y,s*n.z⟩:P3):=by
 unfold in3 at*;simp only;rcases hs with rfl|rfl<;>omega
/-- on one side of a line there is one axis -/
theorem ax_one {l:List P3}(hin:∀p∈l,in3 65536 p)(hf:¬FlatP l){i j k1 k2:Nat}{pa pb p1 p2:P3}(ha:l[i]?=some pa)(hb:l[j]?=some pb)(h1:l[k1]?=some p1)(h2:l[k2]?=some p2)
  (n1:nrm3 pa pb p1≠⟨0,0,0⟩) (n2:nrm3 pa pb p2≠⟨0,0,0⟩) (s1:sideF l (nrm3 pa pb p1) pa≠0) (s2:sideF l (nrm3 pa pb p2) pa=sideF l (nrm3 pa pb p1) pa):
  axisF (sideF l (nrm3 pa pb p1) pa) (nrm3 pa pb p1)=axisF (sideF l (nrm3 pa pb p2) pa) (nrm3 pa pb p2):=by
 have ma:=hin _ (List.mem_of_getElem? ha);have mb:=hin _ (List.mem_of_getElem? hb);have m1:=hin _ (List.mem_of_getElem? h1);have m2:=hin _ (List.mem_of_getElem? h2);obtain⟨e1,i1⟩:=nrm_at ma mb m1;obtain⟨e2,i2⟩:=nrm_at ma mb m2;obtain⟨sg,sd1⟩:=side_spec s1;obtain⟨_,sd2⟩:=side_spec (show sideF l (nrm3 pa pb p2) pa≠0 by rw[s2];exact s1);rw[s2]at sd2⊢;obtain⟨s,hs⟩:=nm_ (sideF l (nrm3 pa pb p1) pa);rw[hs]at sg sd1 sd2⊢;clear hs s1 s2;rw[e1]at n1 sd1⊢;rw[e2]at n2 sd2⊢;have d1:∀o∈l,s*dotI (crossI (subI pb pa) (subI p1 pa)) (subI o pa)≤0:=fun o ho=>by have:=sd1 o ho;rwa [dot_in i1 (hin _ ho) ma]at this
 have d2:∀o∈l,s*dotI (crossI (subI pb pa) (subI p2 pa)) (subI o pa)≤0:=fun o ho=>by have:=sd2 o ho;rwa [dot_in i2 (hin _ ho) ma]at this
 have q1:=d1 _ (List.mem_of_getElem? h2);have q2:=d2 _ (List.mem_of_getElem? h1);have q3:dotI (crossI (subI pb pa) (subI p1 pa)) (subI p2 pa)=detI (subI pb pa) (subI p1 pa) (subI p2 pa):=rfl;have q4:dotI (crossI (subI pb pa) (subI p2 pa)) (subI p1 pa)= -detI (subI pb pa) (subI p1 pa) (subI p2 pa):=det_swap _ _ _;rw[q3]at q1;rw[q4]at q2;have D0:detI (subI pb pa) (subI p1 pa) (subI p2 pa)=0:=by rcases sg with rfl|rfl<;>omega
 have cc:=cross_cross (subI pb pa) (subI p1 pa) (subI p2 pa);rw[D0]at cc;simp only[Int.zero_mul]at cc;obtain⟨N1,hN1⟩:=nm_ (crossI (subI pb pa) (subI p1 pa));obtain⟨N2,hN2⟩:=nm_ (crossI (subI pb pa) (subI p2 pa));rw[hN1]at n1 d1 cc i1⊢;rw[hN2]at n2 d2 cc i2⊢;have hne:=dot_par_ne N1 N2 n1 n2 cc;rcases Int.lt_trichotomy (dotI N1 N2) 0 with hd|hd|hd
 ·exfalso;obtain⟨x,y,hx,hy,c1,c2,c3⟩:=par_of_cross N1 (negI N2) n1 (by rw[cross_neg,cc];rfl) (by rw[dot_neg];omega);refine hf (flat_of hin n1 (fun o ho=>?_) (a:=pa));have f:=dot_of_par (v:=subI o pa) c1 c2 c3;have g:dotI (negI N2) (subI o pa)= -dotI N2 (subI o pa):=by unfold dotI negI;grind
  rw[g]at f;have r1:=d1 o ho;have r2:=d2 o ho;have hz:s*dotI N1 (subI o pa)=0:=by
   have t:y*(s*dotI N1 (subI o pa))=x*(-(s*dotI N2 (subI o pa))):=by grind
   have t1:0≤x*(-(s*dotI N2 (subI o pa))):=Int.mul_nonneg (Int.le_of_lt hx) (by omega);rcases Int.lt_trichotomy (s*dotI N1 (subI o pa)) 0 with h|h|h
   ·have:=Int.mul_neg_of_pos_of_neg hy h;omega
   ·exact h
   ·omega
  rcases sg with rfl|rfl<;>omega
 ·exact absurd hd hne
 ·obtain⟨x,y,hx,hy,c1,c2,c3⟩:=par_of_cross N1 N2 n1 cc hd;unfold axisF;refine(short3_par_eq _ _ (sgn_in sg i2) (sgn_in sg i1) (sgn_ne sg n2) (sgn_ne sg n1) ⟨x,y,hx,hy,?_,?_,?_⟩).symm<;>simp only<;>grind
def AxS (l:List P3)(i j:Nat)(s:Int)(a:P3):Prop:=∃(k:Nat) (pa pb pc:P3),l[i]?=some pa∧l[j]?=some pb∧l[k]?=some pc∧nrm3 pa pb pc≠⟨0,0,0⟩∧sideF l (nrm3 pa pb pc) pa≠0∧sideF l (nrm3 pa pb pc) pa=s∧a=axisF (sideF l (nrm3 pa pb pc) pa) (nrm3 pa pb pc)
theorem AxS.one {l:List P3}(hin:∀p∈l,in3 65536 p)(hf:¬FlatP l){i j:Nat}{s:Int}{a b:P3}(h:AxS l i j s a)(h':AxS l i j s b):a=b:=by
 obtain⟨k,pa,pb,pc,h1,h2,h3,h4,h5,h6,h7⟩:=h;obtain⟨k',pa',pb',pc',g1,g2,g3,g4,g5,g6,g7⟩:=h';rw[h1]at g1;rw[h2]at g2;cases g1;cases g2;rw[h7,g7];exact ax_one hin hf h1 h2 h3 g3 h4 g4 h5 (by rw[g6,h6])
open Classical in
noncomputable def axPick (l:List P3)(i j:Nat)(s:Int):P3:=if h:∃a,AxS l i j s a then Classical.choose h else⟨0,0,0⟩
theorem axPick_eq {l:List P3}(hin:∀p∈l,in3 65536 p)(hf:¬FlatP l){i j:Nat}{s:Int}{a:P3}(h:AxS l i j s a):axPick l i j s=a:=by
 have e:∃a,AxS l i j s a:=⟨a,h⟩;unfold axPick;rw[dif_pos e];exact AxS.one hin hf (Classical.choose_spec e) h
noncomputable def axAll (l:List P3):List P3:=(List.range 11).flatMap fun j=>(List.range j).flatMap fun i=>[axPick l i j 1,axPick l i j (-1)]
theorem flat_len {α β:Type}(f:α→List β)(n:Nat):∀(l:List α),(∀x∈l,(f x).length=n)→(l.flatMap f).length=l.length*n
 |[],_=>by simp
 |x::l,h=>by
  rw[List.flatMap_cons,List.length_append,h x (by simp),flat_len f n l (fun y hy=>h y (by simp[hy])),List.length_cons,Nat.add_mul];omega
theorem axAll_len (l:List P3):(axAll l).length=110:=by
 have e:∀j,((List.range j).flatMap fun i=>[axPick l i j 1,axPick l i j (-1)]).length=j*2:=fun j=>by rw[flat_len _ 2 _ (fun _ _=>rfl),List.length_range]
 unfold axAll;rw[List.length_flatMap];simp only[e];decide
theorem ax_len {l axes:List P3}(hin:∀p∈l,in3 65536 p)(hf:¬FlatP l)(hl:l.length≤12)(hn:axes.Nodup)(h:∀a∈axes,AxP l a):axes.length≤110:=by
 rw[←axAll_len l];refine nodup_sub_length _ _ hn (fun a ha=>?_);obtain⟨i,j,k,hij,hjk,hat⟩:=h a ha;have hk:=hat.lt.2.2;obtain⟨pa,pb,pc,h1,h2,h3,h4,h5,h6⟩:=hat;have sg:=(side_spec h5).1;have e:=axPick_eq hin hf (show AxS l i j (sideF l (nrm3 pa pb pc) pa) a from⟨k,pa,pb,pc,h1,h2,h3,h4,h5,rfl,h6⟩);unfold axAll;simp only[List.mem_flatMap,List.mem_range];refine⟨j,by omega,i,hij,?_⟩;rcases sg with sg|sg<;>rw[sg]at e<;>rw[e]<;>simp
def edAll (l:List P3):List P3:=(List.range 12).flatMap fun j=>(List.range j).map fun i=>short3 (minus3 (l.getD j ⟨0,0,0⟩) (l.getD i ⟨0,0,0⟩))
theorem edAll_len (l:List P3):(edAll l).length=66:=by
 unfold edAll;rw[List.length_flatMap];simp only[List.length_map,List.length_range];decide
theorem ed_len {l edges:List P3}(hl:l.length≤12)(hn:edges.Nodup)(h:∀a∈edges,EdP l a):edges.length≤66:=by
 rw[←edAll_len l];refine nodup_sub_length _ _ hn (fun a ha=>?_);obtain⟨i,j,hij,pa,pb,h1,h2,e⟩:=h a ha;have hj:=(List.getElem?_eq_some_iff.1 h2).1;unfold edAll;simp only[List.mem_flatMap,List.mem_range,List.mem_map];refine⟨j,by omega,i,hij,?_⟩;rw[e,List.getD_eq_getElem?_getD,List.getD_eq_getElem?_getD,h1,h2];rfl
/-- what a core of a right shape may hold -/
structure CoreB (p a e:List P3):Prop where
 p0:0<p.length
 p1:p.length≤12
 a1:a.length≤110
 e1:e.length≤66
 pin:∀x∈p,in3 65536 x
 ain:∀x∈a,in3 1048576 x
 ein:∀x∈e,in3 1048576 x
theorem corner_in {h:P3}(hh:halfOk h){x:P3}(hx:x∈corners h):in3 65536 x:=by
 unfold corners at hx;obtain⟨k,hk,rfl⟩:=List.mem_map.1 hx;have hk8:=List.mem_range.1 hk;obtain⟨h1,h2,h3,h4,h5,h6⟩:=hh;have a:=sg_in ((k / 4:Nat):Int) h.x (by omega) h1 h2;have b:=sg_in ((k / 2%2:Nat):Int) h.y (by omega) h3 h4;have c:=sg_in ((k%2:Nat):Int) h.z (by omega) h5 h6;exact⟨a.1,a.2,b.1,b.2,c.1,c.2⟩
theorem CoreIs.bounds {s:Shp}(hs:ShpOk s){p a e:List P3}(h:CoreIs s p a e):CoreB p a e:=by
 have hh:=hs.half;have one:∀x∈[(⟨1,0,0⟩:P3),⟨0,1,0⟩,⟨0,0,1⟩],in3 1048576 x:=by
  intro x hx;simp only[List.mem_cons,List.not_mem_nil,or_false]at hx;rcases hx with rfl|rfl|rfl<;>unfold in3<;>decide
 rcases h with⟨_,rfl,rfl,rfl⟩|⟨_,rfl,rfl,rfl⟩|⟨_,rfl,rfl,rfl⟩|⟨hk,rfl,ho⟩
 ·exact⟨by simp,by simp,by simp,by simp,by intro x hx;simp only[List.mem_cons,List.not_mem_nil,or_false]at hx;subst hx;unfold in3;decide,by simp,by simp⟩
 ·obtain⟨h1,h2,_⟩:=hh;refine⟨by simp,by simp,by simp,by simp,?_,by simp,?_⟩
  ·intro x hx;simp only[List.mem_cons,List.not_mem_nil,or_false]at hx;rcases hx with rfl|rfl<;>unfold in3<;>simp only<;>omega
  ·intro x hx;simp only[List.mem_cons,List.not_mem_nil,or_false]at hx;subst hx;unfold in3;decide
 ·exact⟨by simp[corners],by simp[corners],by simp,by simp,fun x hx=>corner_in hh hx,one,one⟩
 ·have hc:=hs.hull hk;have hlen:0<s.pts.length:=by
   rcases Nat.eq_zero_or_pos s.pts.length with h0|h0
   ·refine absurd ?_ hc.2;intro i k hk m hm o x y z v hx;rw[List.getElem?_eq_none (by omega)]at hx;cases hx
   ·exact h0
  refine⟨hlen,hs.len,ax_len hs.pts hc.2 hs.len ho.axn ho.ax,ed_len hs.len ho.edn ho.ed,hs.pts,fun x hx=>?_,fun x hx=>?_⟩
  ·obtain⟨i,j,k,_,_,pa,pb,pc,_,_,_,_,_,e⟩:=ho.ax x hx;rw[e];exact short3_in _
  ·obtain⟨i,j,_,pa,pb,_,_,e⟩:=ho.ed x hx;rw[e];exact short3_in _
end Go.Proofs.YtckdhahceelckaaGreat.G
namespace Go.Proofs.YtckdhahceelckaaGreat.G
open Go.RowKit Go.Proofs.YtckdhahceelckaaGreatW.PrintWords Go.Proofs.YtckdhahceelckaaGreatW.PrintLast Go.Proofs.YtckdhahceelckaaGreatW.PrintMore
attribute [local go_sem] max2_mx min2_mn max_two min_two max_three min_three max_four min_four
attribute [local go_sem high] eqA23
/-- a raw shape's numbers are Go's -/
structure RawOk (k r:Int) (h:P3) (l:List P3):Prop where
 k:i64 k
 r:i64 r
 h:pI64 h
 len:l.length≤4611686018427387904
 pts:∀p∈l,pI64 p
theorem RdB.setS {w:World}{A:Option Addr}{l:List P3}(h:RdB w A l){g:Nat}{A0 A1 A2:Option Addr}{n0 n1 n2 m0 m1 m2:Nat}{x:Value}{t:TypeId}(hg:w.heap[g]?=some (.cells #[.slice A0 n0 m0, .slice A1 n1 m1, .slice A2 n2 m2,x] t (0,0)))(u0 u1 u2 u3:Value):
  RdB ((((w.setCell ⟨g,0,none⟩ u0).setCell ⟨g,1,none⟩ u1).setCell ⟨g,2,none⟩ u2).setCell ⟨g,3,none⟩ u3) A l:=by
 cases l with
 |nil=>exact⟨Rd.nil _ _,fun h=>absurd rfl h⟩
 |cons p l=>
  have ne:∀ad,A=some ad→ad.block≠g:=by
   intro ad e hb;obtain⟨b,o,e',_,e0,e1,e2⟩:=h.1 0 p rfl;rw[e']at e;cases e;simp only at hb;subst hb;have q0:=(blk_cell hg (o+0*3)).symm.trans e0;have q1:=(blk_cell hg (o+0*3+1)).symm.trans e1
   match o with
   |0=>simp at q0
   |1=>simp at q0
   |2=>simp at q0
   |3=>simp at q1
   |o+4=>simp at q1
  exact(((h.setc ne 0 u0).setc ne 1 u1).setc ne 2 u2).setc ne 3 u3
/-- a core whose lists lie from b on -/
structure CoreVF (b:Nat) (w:World) (v:Value) (p a e:List P3) (r:Int):Prop where
 c:CoreV w v p a e r
 fr:Fresh b v
theorem CoreVF.below {b:Nat}{w w1:World}{v:Value}{p a e:List P3}{r:Int}(h:CoreVF b w v p a e r)(hb:Below w.heap.size w w1):CoreVF b w1 v p a e r:=⟨h.c.below hb,h.fr⟩
def PlacePostB (b:Nat)(p a e:List P3)(r:Int)(w:World)(en:Ending)(w':World):Prop:=∃v,en= .returned (.tuple #[v, .bool true])∧CoreVF b w' v p a e r∧Below w.heap.size w w'
theorem PlacePostF.toB {b b':Nat}{p a e:List P3}{r:Int}{w:World}{en:Ending}{w':World}(h:PlacePostF b p a e r w en w')(hb:b'≤b):PlacePostB b' p a e r w en w':=by
 obtain⟨v,e1,e2,e3,e4⟩:=h;exact⟨v,e1,⟨e2,e4.mono hb⟩,e3⟩
def PlacedPostF (b:Nat)(s:Shp)(q:P7)(w:World)(en:Ending)(w':World):Prop:=∃v p a e,en= .returned v∧CoreIs s p a e∧CoreV w' v (p.map (placePt (rowsF q.turn) q.at_)) (waysF (rowsF q.turn) a) (waysF (rowsF q.turn) e) s.radius∧Below w.heap.size w w'∧Fresh b v
theorem placed_calls2 (k r:Int)(h:P3)(l:List P3)(A:Option Addr)(c:Nat)(p7:P7)(w:World)(hA:RdB w A l)(hr:RawOk k r h l)(hp:i64s p7):
  Calls Tryz.prog 25 #[.agg (cS k r h A l.length c), .agg (cP7 p7)] w (PlacedPostF w.heap.size (rightS k r h l) (rightPose p7) w):=by
 have HR5:=Lh (fun(W:World) (hW:RdB W A l)=>right5_calls k r h l A c W hW hr.len hr.k hr.r hr.h hr.pts);have HR6:=Lh (fun(W:World)=>right6_calls p7 W hp);have HQ:Hid (q32 (rightPose p7).turn∧atOk (rightPose p7).at_):=Lh (by simp only[rightPose];exact⟨wholeF_q32 (partQ p7.turn),partV_at p7.at_⟩);have HS:=Lh (rightS_ok k r h l);have HAA:=Lh hA;obtain⟨s,hs⟩:=nm_ (rightS k r h l);obtain⟨q,hq⟩:=nm_ (rightPose p7);rw[hq]at HQ;rw[hs]at HR5 HS⊢;rw[hq]at HR6⊢;obtain⟨N,hN⟩:=nm_ l.length;rw[hN]at HR5⊢;clear hs hq hN hA hr hp;obtain⟨⟨ax,ay,az⟩,⟨tw,tx,ty,tz⟩⟩:=p7
 (try simp only at HR6)
 go_enter Tryz.func25,Tryz.ntmps25;go_wp2_with fail;obtain⟨w0,hw0⟩:=nm_ (((w.alloc (.cells (cS k r h A N c) 26)).alloc (.cells #[.int .i64 ax, .int .i64 ay, .int .i64 az, .int .i64 tw, .int .i64 tx, .int .i64 ty, .int .i64 tz] 31)).alloc (.cells #[.slice none 0 0, .slice none 0 0, .slice none 0 0, .int .i64 0] 35));have P0:Hid (w0.heap[w.heap.size+1]?=some (.cells #[.int .i64 ax, .int .i64 ay, .int .i64 az, .int .i64 tw, .int .i64 tx, .int .i64 ty, .int .i64 tz] 31 (0,0))):=Lh (by rw[←hw0];exact three1 _ _ _ _);have R0:Hid (w0.heap[w.heap.size+1+1]?=some (.cells #[.slice none 0 0, .slice none 0 0, .slice none 0 0, .int .i64 0] 35 (0,0))):=Lh (by rw[←hw0];exact three2 _ _ _ _);have W0:=Lh (show Below w.heap.size w w0 by rw[←hw0];exact(((Below.refl _ w).alloc (Nat.le_refl _) _).alloc (by simp) _).alloc (by simp;omega) _);rw[hw0];clear hw0;refine(HR5.out w0 (HAA.below W0.out)).mono ?_;rintro e w1 ⟨A5,c5,rfl,hrd,hc5,hb⟩;have P1:=up_ hb P0;have R1:=up_ hb R0;have W1:=Lh (bthen W0.out hb);have HC:=Lh (core_calls s A5 c5 HS.out w1 hrd);clear hb hrd hc5 W0 P0 R0;go_wp2_with fail;refine HC.mono ?_;rintro e w2 ⟨p,a,e,hci,v,rfl,hv,hb⟩;obtain⟨A0,A1,A2,c0,c1,c2,rfl,g0,g1,g2,k0,k1,k2⟩:=hv.out;have HCI:=Lh hci;have hB:=hci.bounds HS.out;have P2:=up_ hb P1;have R2:=up_ hb R1;have W2:=Lh (bthen W1.out hb);have HPL:=Lh (fun(W:World) (hW0:RdB W A0 p) (hW1:RdB W A1 a) (hW2:RdB W A2 e) (hsz:w.heap.size≤W.heap.size)=>(place_in2 q p a e s.radius A0 A1 A2 c0 c1 c2 W hW0 hW1 hW2 k0 k1 k2 HQ.out.1.quat (rowsF q.turn) rfl (rows_mOk HQ.out.1) HQ.out.2 hB.p0 (by have:=hB.p1;omega) (by have:=hB.a1;omega) (by have:=hB.e1;omega) hB.pin hB.ain hB.ein).mono (fun en w' h=>h.toB hsz));obtain⟨NP,hNP⟩:=nm_ p.length;obtain⟨NA,hNA⟩:=nm_ a.length;obtain⟨NE,hNE⟩:=nm_ e.length;rw[hNP,hNA,hNE]at HPL⊢;obtain⟨ra,hra⟩:=nm_ s.radius;rw[hra]at HPL⊢;have HRA:=Lh hra;obtain⟨LP,hLP⟩:=nm_ (p.map (placePt (rowsF q.turn) q.at_));obtain⟨LA,hLA⟩:=nm_ (waysF (rowsF q.turn) a);obtain⟨LE,hLE⟩:=nm_ (waysF (rowsF q.turn) e);rw[hLP,hLA,hLE]at HPL;have HLP:=Lh hLP;have HLA:=Lh hLA;have HLE:=Lh hLE;have G0:=Lh g0;have G1:=Lh g1;have G2:=Lh g2;clear hNP hNA hNE hra hLP hLA hLE g0 g1 g2 k0 k1 k2 hB hci hv hb P1 R1 W1 HC HR5 HQ;obtain⟨CB,hCB⟩:=nm_ w2.heap.size;have zc:=heap_alloc_new w2 (.cells #[.slice A0 NP c0, .slice A1 NA c1, .slice A2 NE c2, .int .i64 ra] 35);have bc:=(Below.refl w2.heap.size w2).alloc (Nat.le_refl _) (.cells #[.slice A0 NP c0, .slice A1 NA c1, .slice A2 NE c2, .int .i64 ra] 35);obtain⟨w3,hw3⟩:=nm_ (w2.alloc (.cells #[.slice A0 NP c0, .slice A1 NA c1, .slice A2 NE c2, .int .i64 ra] 35));rw[hw3]at zc bc;rw[hCB]at zc;have C3:=Lh zc;have P3_:=up_ bc P2;have R3:=up_ bc R2;have W3:=Lh (bthen W2.out bc);have G0:=Lh (G0.below bc);have G1:=Lh (G1.below bc);have G2:=Lh (G2.below bc);have hw3':=Lh hw3;have hCB':=Lh hCB;clear zc bc hw3 hCB P2 R2 W2;go_wp2_with fail;rw[hw3'.out,hCB'.out];clear hw3' hCB';have lC:CB<w3.heap.size:=blk_lt C3.out;have lP:w.heap.size+1<w3.heap.size:=blk_lt P3_.out;obtain⟨x0,x1,x2,x3,_⟩:=f4_ CB C3.out;have y0:w3.cell? ⟨w.heap.size+1,0,none⟩=some (.int .i64 ax):=(blk_cell P3_.out 0).trans rfl;have y1:w3.cell? ⟨w.heap.size+1,1,none⟩=some (.int .i64 ay):=(blk_cell P3_.out 1).trans rfl;have y2:w3.cell? ⟨w.heap.size+1,2,none⟩=some (.int .i64 az):=(blk_cell P3_.out 2).trans rfl;have y3:w3.cell? ⟨w.heap.size+1,3,none⟩=some (.int .i64 tw):=(blk_cell P3_.out 3).trans rfl;have y4:w3.cell? ⟨w.heap.size+1,4,none⟩=some (.int .i64 tx):=(blk_cell P3_.out 4).trans rfl;have y5:w3.cell? ⟨w.heap.size+1,5,none⟩=some (.int .i64 ty):=(blk_cell P3_.out 5).trans rfl;have y6:w3.cell? ⟨w.heap.size+1,6,none⟩=some (.int .i64 tz):=(blk_cell P3_.out 6).trans rfl;have HB:=Lh ((Below.refl (w3.heap.size) w3).drew);have FF:=Lh (show ∀V,Hid (Below (w3.heap.size) w3 V)→V.cell? ⟨CB,0,none⟩=some (.slice A0 NP c0)∧V.cell? ⟨CB,1,none⟩=some (.slice A1 NA c1)∧V.cell? ⟨CB,2,none⟩=some (.slice A2 NE c2)∧V.cell? ⟨CB,3,none⟩=some (.int .i64 ra)∧V.cell? ⟨w.heap.size+1,0,none⟩=some (.int .i64 ax)∧V.cell? ⟨w.heap.size+1,1,none⟩=some (.int .i64 ay)∧V.cell? ⟨w.heap.size+1,2,none⟩=some (.int .i64 az)∧V.cell? ⟨w.heap.size+1,3,none⟩=some (.int .i64 tw)∧V.cell? ⟨w.heap.size+1,4,none⟩=some (.int .i64 tx)∧V.cell? ⟨w.heap.size+1,5,none⟩=some (.int .i64 ty)∧V.cell? ⟨w.heap.size+1,6,none⟩=some (.int .i64 tz) from fun V HB=>⟨(HB.cell (p:=⟨CB,0,none⟩) (lC)).trans x0,(HB.cell (p:=⟨CB,1,none⟩) (lC)).trans x1,(HB.cell (p:=⟨CB,2,none⟩) (lC)).trans x2,(HB.cell (p:=⟨CB,3,none⟩) (lC)).trans x3,(HB.cell (p:=⟨w.heap.size+1,0,none⟩) (lP)).trans y0,(HB.cell (p:=⟨w.heap.size+1,1,none⟩) (lP)).trans y1,(HB.cell (p:=⟨w.heap.size+1,2,none⟩) (lP)).trans y2,(HB.cell (p:=⟨w.heap.size+1,3,none⟩) (lP)).trans y3,(HB.cell (p:=⟨w.heap.size+1,4,none⟩) (lP)).trans y4,(HB.cell (p:=⟨w.heap.size+1,5,none⟩) (lP)).trans y5,(HB.cell (p:=⟨w.heap.size+1,6,none⟩) (lP)).trans y6⟩);refine start_ (n:=10) (S:=fun w'=>w'.cell? ⟨CB,0,none⟩=some (.slice A0 NP c0)∧w'.cell? ⟨CB,1,none⟩=some (.slice A1 NA c1)∧w'.cell? ⟨CB,2,none⟩=some (.slice A2 NE c2)∧w'.cell? ⟨CB,3,none⟩=some (.int .i64 ra)∧w'.cell? ⟨w.heap.size+1,0,none⟩=some (.int .i64 ax)∧w'.cell? ⟨w.heap.size+1,1,none⟩=some (.int .i64 ay)∧w'.cell? ⟨w.heap.size+1,2,none⟩=some (.int .i64 az)∧w'.cell? ⟨w.heap.size+1,3,none⟩=some (.int .i64 tw)∧w'.cell? ⟨w.heap.size+1,4,none⟩=some (.int .i64 tx)∧w'.cell? ⟨w.heap.size+1,5,none⟩=some (.int .i64 ty)∧w'.cell? ⟨w.heap.size+1,6,none⟩=some (.int .i64 tz)) (ds:=[]) (MT 0 10) (by kernel_rfl) rfl rfl (FF.out _ HB) (fun hE=>?_);obtain⟨wd,hwd⟩:=nm_ w3.drew;rw[hwd]at HB hE⊢;clear hwd;refine ta_ 0 16 hE (h:=?_);refine ta_ 1 17 hE (h:=?_);refine join_ (σ:=Nat×Value) 2 (MT 8 2) (fun s=>[(7, .pointer (some ⟨s.1,0,none⟩)),(18, .agg (cP7 q)),(19, .tuple #[s.2, .bool true]),(15, .tuple #[s.2, .bool true]),(20,s.2),(21, .bool true)]) (fun(s:Nat×Value) w'=>match s with|(s1,s2)=>w3.heap.size≤s1∧w'.heap[s1]?=some (.cells #[.slice none 0 0, .slice none 0 0, .slice none 0 0, .int .i64 0] 35 (0,0))∧Below (w3.heap.size) w3 w'∧CoreVF w.heap.size w' s2 LP LA LE ra) ?_ ?_;rotate_left
 ·intro hCont;refine two_ (i:=2) (j:=7) (Ni:=some 18) (Nj:=some 7) (MT 3 7) (MB_ 10 131) rfl rfl rfl rfl (by kernel_rfl) (by decide) (by decide) (fun K hK=>?_) (fun K hK=>?_)
  ·skip
   refine gs_ Tryz.func28 #[.agg #[.int .i64 ax, .int .i64 ay, .int .i64 az, .int .i64 tw, .int .i64 tx, .int .i64 ty, .int .i64 tz]] ?_
   with_reducible refine(HR6.out _).mono ?_
   rintro e' w4 ⟨rfl,hb⟩;have HB:=tm_ HB hb;clear hb;refine⟨_,rfl,?_⟩;refine hK.out _ _ (FF.out _ HB) (fun hE=>?_);clear hK K;refine no_ (h:=?_);refine two_ (i:=3) (j:=7) (Ni:=some 19) (Nj:=some 7) (MT 4 6) (MB_ 10 135) rfl rfl rfl rfl (by kernel_rfl) (by decide) (by decide) (fun K hK=>?_) (fun K hK=>?_)
   ·skip
    refine gs_ Tryz.func30 #[.agg #[.slice A0 NP c0, .slice A1 NA c1, .slice A2 NE c2, .int .i64 ra], .agg (cP7 q)] ?_
    with_reducible refine(HPL.out _ (G0.out.below HB.out) (G1.out.below HB.out) (G2.out.below HB.out) (Nat.le_trans W3.out.size HB.out.size)).mono ?_
    rintro e' w4 ⟨v,rfl,hv,hb⟩;have HB:=tm_ HB hb;have HV:=Lh hv;clear hv;clear hb;refine⟨_,rfl,?_⟩;refine hK.out _ _ (FF.out _ HB) (fun hE=>?_);clear hK K;refine no_ (h:=?_);refine pu_ 4 15 (h:=?_);refine pu_ 5 20 (h:=?_);refine pu_ 6 21 (h:=?_);refine on_ 7 (some 7) (h:=fun K hK=>?_);refine va_ ?_;have HA:=Lh (ha_new HB.out (.cells #[.slice none 0 0, .slice none 0 0, .slice none 0 0, .int .i64 0] 35));have hge:=HB.size;have HB:=Lh (HB.alloc (Nat.le_trans (Nat.le_refl _) HB.size) (.cells #[.slice none 0 0, .slice none 0 0, .slice none 0 0, .int .i64 0] 35));have HV:=Lh (HV.below ((Below.refl _ _).alloc (Nat.le_refl _) (.cells #[.slice none 0 0, .slice none 0 0, .slice none 0 0, .int .i64 0] 35)));refine hK.out _ _ (FF.out _ HB) (fun hE=>?_);clear hK K;refine no_ (h:=?_);exact nz_ (hCont (_,_) _ ⟨hge,HA.out,HB.out,HV.out⟩)
   ·skip
    refine va_ ?_;have HA:=Lh (ha_new HB.out (.cells #[.slice none 0 0, .slice none 0 0, .slice none 0 0, .int .i64 0] 35));have hge:=HB.size;have HB:=Lh (HB.alloc (Nat.le_trans (Nat.le_refl _) HB.size) (.cells #[.slice none 0 0, .slice none 0 0, .slice none 0 0, .int .i64 0] 35));refine hK.out _ _ (FF.out _ HB) (fun hE=>?_);clear hK K;refine no_ (h:=?_);refine on_ 3 (some 19) (h:=fun K hK=>?_);refine gs_ Tryz.func30 #[.agg #[.slice A0 NP c0, .slice A1 NA c1, .slice A2 NE c2, .int .i64 ra], .agg (cP7 q)] ?_
    with_reducible refine(HPL.out _ (G0.out.below HB.out) (G1.out.below HB.out) (G2.out.below HB.out) (Nat.le_trans W3.out.size HB.out.size)).mono ?_
    rintro e' w4 ⟨v,rfl,hv,hb⟩;have HB:=tm_ HB hb;have HA:=up_ hb HA;have HV:=Lh hv;clear hv;clear hb;refine⟨_,rfl,?_⟩;refine hK.out _ _ (FF.out _ HB) (fun hE=>?_);clear hK K;refine no_ (h:=?_);refine pu_ 4 15 (h:=?_);refine pu_ 5 20 (h:=?_);refine pu_ 6 21 (h:=?_);exact nz_ (hCont (_,_) _ ⟨hge,HA.out,HB.out,HV.out⟩)
  ·skip
   refine va_ ?_;have HA:=Lh (ha_new HB.out (.cells #[.slice none 0 0, .slice none 0 0, .slice none 0 0, .int .i64 0] 35));have hge:=HB.size;have HB:=Lh (HB.alloc (Nat.le_trans (Nat.le_refl _) HB.size) (.cells #[.slice none 0 0, .slice none 0 0, .slice none 0 0, .int .i64 0] 35));refine hK.out _ _ (FF.out _ HB) (fun hE=>?_);clear hK K;refine no_ (h:=?_);refine on_ 2 (some 18) (h:=fun K hK=>?_);refine gs_ Tryz.func28 #[.agg #[.int .i64 ax, .int .i64 ay, .int .i64 az, .int .i64 tw, .int .i64 tx, .int .i64 ty, .int .i64 tz]] ?_
   with_reducible refine(HR6.out _).mono ?_
   rintro e' w4 ⟨rfl,hb⟩;have HB:=tm_ HB hb;have HA:=up_ hb HA;clear hb;refine⟨_,rfl,?_⟩;refine hK.out _ _ (FF.out _ HB) (fun hE=>?_);clear hK K;refine no_ (h:=?_);refine on_ 3 (some 19) (h:=fun K hK=>?_);refine gs_ Tryz.func30 #[.agg #[.slice A0 NP c0, .slice A1 NA c1, .slice A2 NE c2, .int .i64 ra], .agg (cP7 q)] ?_
   with_reducible refine(HPL.out _ (G0.out.below HB.out) (G1.out.below HB.out) (G2.out.below HB.out) (Nat.le_trans W3.out.size HB.out.size)).mono ?_
   rintro e' w4 ⟨v,rfl,hv,hb⟩;have HB:=tm_ HB hb;have HA:=up_ hb HA;have HV:=Lh hv;clear hv;clear hb;refine⟨_,rfl,?_⟩;refine hK.out _ _ (FF.out _ HB) (fun hE=>?_);clear hK K;refine no_ (h:=?_);refine pu_ 4 15 (h:=?_);refine pu_ 5 20 (h:=?_);refine pu_ 6 21 (h:=?_);exact nz_ (hCont (_,_) _ ⟨hge,HA.out,HB.out,HV.out⟩)
 rintro⟨AB,V⟩ wj ⟨hge,HA,HB,HV⟩;have HA:=Lh HA;have HB:=Lh HB
 (try simp only at hge HA HB HV)
 have HV:=Lh HV;obtain⟨B0,B1,B2,d0,d1,d2,hV,g0,g1,g2,k0,k1,k2⟩:=HV.out.c.out;have HFR:=Lh HV.out.fr;rw[hV]at HFR;subst hV;have G3:=Lh g0;have G4:=Lh g1;have G5:=Lh g2;have K0:=Lh k0;have K1:=Lh k1;have K2:=Lh k2;clear g0 g1 g2 k0 k1 k2;have HA_:=HA;have hE:=FF.out _ HB;refine no_ (h:=?_);refine on_ 8 (none) (h:=fun K hK=>?_);have sc0:World.cell? _ ⟨AB,0,none⟩=some (.slice none 0 0):=(blk_cell HA.out 0).trans rfl;have sf0:=blk_frozen HA.out 0;have sc1:World.cell? _ ⟨AB,1,none⟩=some (.slice none 0 0):=(blk_cell HA.out 1).trans rfl;have sf1:=blk_frozen HA.out 1;have sc2:World.cell? _ ⟨AB,2,none⟩=some (.slice none 0 0):=(blk_cell HA.out 2).trans rfl;have sf2:=blk_frozen HA.out 2;have sc3:World.cell? _ ⟨AB,3,none⟩=some (.int .i64 0):=(blk_cell HA.out 3).trans rfl;have sf3:=blk_frozen HA.out 3;refine skip_ (w1:=?_) (by rfl) rfl ?_ ?_;rotate_left
 ·go_simp;rfl
 have HA:=Lh (bs4 HA.out (.slice B0 LP.length d0) (.slice B1 LA.length d1) (.slice B2 LE.length d2) (.int .i64 ra));have HB:=Lh (bb4 HB.out (Nat.le_trans (Nat.le_refl _) hge) (.slice B0 LP.length d0) (.slice B1 LA.length d1) (.slice B2 LE.length d2) (.int .i64 ra));clear sc0 sf0 sc1 sf1 sc2 sf2 sc3 sf3;refine hK.out _ _ (FF.out _ HB) (fun hE=>?_);clear hK K;refine pu_ 9 8 (h:=?_);refine done_ (by kernel_rfl) ?_;have G35:=Lh (G3.out.setS HA_.out (.slice B0 LP.length d0) (.slice B1 LA.length d1) (.slice B2 LE.length d2) (.int .i64 ra));have G45:=Lh (G4.out.setS HA_.out (.slice B0 LP.length d0) (.slice B1 LA.length d1) (.slice B2 LE.length d2) (.int .i64 ra));have G55:=Lh (G5.out.setS HA_.out (.slice B0 LP.length d0) (.slice B1 LA.length d1) (.slice B2 LE.length d2) (.int .i64 ra));obtain⟨w5,hwn⟩:=nm_ (((((wj.setCell ⟨AB,0,none⟩ (.slice B0 LP.length d0)).setCell ⟨AB,1,none⟩ (.slice B1 LA.length d1)).setCell ⟨AB,2,none⟩ (.slice B2 LE.length d2)).setCell ⟨AB,3,none⟩ (.int .i64 ra)));rw[hwn]at HA HB G35 G45 G55⊢;clear hwn;have HA5:=HA;have R5:=up_ HB.out R3;have W5:=Lh (bthen W3.out HB.out);have lA:AB<w5.heap.size:=blk_lt HA5.out;have lR:w.heap.size+1+1<w5.heap.size:=blk_lt R5.out;have d0_:w5.cell? ⟨AB,0,none⟩=some (.slice B0 LP.length d0):=(blk_cell HA5.out 0).trans rfl;have r0:w5.cell? ⟨w.heap.size+1+1,0,none⟩=some (.slice none 0 0):=(blk_cell R5.out 0).trans rfl;have f0:w5.frozen? ⟨w.heap.size+1+1,0,none⟩=false:=blk_frozen R5.out 0;have d1_:w5.cell? ⟨AB,1,none⟩=some (.slice B1 LA.length d1):=(blk_cell HA5.out 1).trans rfl;have r1:w5.cell? ⟨w.heap.size+1+1,1,none⟩=some (.slice none 0 0):=(blk_cell R5.out 1).trans rfl;have f1:w5.frozen? ⟨w.heap.size+1+1,1,none⟩=false:=blk_frozen R5.out 1;have d2_:w5.cell? ⟨AB,2,none⟩=some (.slice B2 LE.length d2):=(blk_cell HA5.out 2).trans rfl;have r2:w5.cell? ⟨w.heap.size+1+1,2,none⟩=some (.slice none 0 0):=(blk_cell R5.out 2).trans rfl;have f2:w5.frozen? ⟨w.heap.size+1+1,2,none⟩=false:=blk_frozen R5.out 2;have d3_:w5.cell? ⟨AB,3,none⟩=some (.int .i64 ra):=(blk_cell HA5.out 3).trans rfl;have r3:w5.cell? ⟨w.heap.size+1+1,3,none⟩=some (.int .i64 0):=(blk_cell R5.out 3).trans rfl;have f3:w5.frozen? ⟨w.heap.size+1+1,3,none⟩=false:=blk_frozen R5.out 3;have T7:=bs4 R5.out (.slice B0 LP.length d0) (.slice B1 LA.length d1) (.slice B2 LE.length d2) (.int .i64 ra);have B7:=bb4 W5.out (show w.heap.size≤w.heap.size+1+1 by omega) (.slice B0 LP.length d0) (.slice B1 LA.length d1) (.slice B2 LE.length d2) (.int .i64 ra);have p7:=G35.out.setS R5.out (.slice B0 LP.length d0) (.slice B1 LA.length d1) (.slice B2 LE.length d2) (.int .i64 ra);have a7:=G45.out.setS R5.out (.slice B0 LP.length d0) (.slice B1 LA.length d1) (.slice B2 LE.length d2) (.int .i64 ra);have e7:=G55.out.setS R5.out (.slice B0 LP.length d0) (.slice B1 LA.length d1) (.slice B2 LE.length d2) (.int .i64 ra);obtain⟨w7,hw7⟩:=nm_ (((((w5.setCell ⟨w.heap.size+1+1,0,none⟩ (.slice B0 LP.length d0)).setCell ⟨w.heap.size+1+1,1,none⟩ (.slice B1 LA.length d1)).setCell ⟨w.heap.size+1+1,2,none⟩ (.slice B2 LE.length d2)).setCell ⟨w.heap.size+1+1,3,none⟩ (.int .i64 ra)));rw[hw7]at T7 B7 p7 a7 e7;have hv7:=Lh hw7;have T7:=Lh T7;have B7:=Lh B7;have HVF:=Lh (show CoreV w7 (.agg #[.slice B0 LP.length d0, .slice B1 LA.length d1, .slice B2 LE.length d2, .int .i64 ra]) LP LA LE ra from⟨B0,B1,B2,d0,d1,d2,rfl,p7,a7,e7,K0.out,K1.out,K2.out⟩);clear hw7 p7 a7 e7 x0 x1 x2 x3 y0 y1 y2 y3 y4 y5 y6 lC lP hge;go_wp2
 (try rw[hv7.out])
 obtain⟨y0,y1,y2,y3,_⟩:=f4_ (w.heap.size+1+1) T7.out;exact bodyPost_ret (v:= .agg #[.slice B0 LP.length d0, .slice B1 LA.length d1, .slice B2 LE.length d2, .int .i64 ra]) (by simp[results,Tryz.results25,go_sem,y0,y1,y2,y3]) rfl ⟨_,p,a,e,rfl,HCI.out,by rw[HLP.out,HLA.out,HLE.out,HRA.out];exact HVF.out,B7.out,HFR.out⟩
structure BsInv (s low high:Nat):Prop where
 a:low*low≤s
 b:s<high*high
 c:low<high
 d:high≤67108864
theorem BsInv.done {s low high:Nat}(h:BsInv s low high)(h1:high≤low+1):isq s=low:=by
 have e:high=low+1:=by have:=h.c;omega
 have:=h.b;rw[e]at this;exact(isq_unique s low h.a this).symm
end Go.Proofs.YtckdhahceelckaaGreat.G
namespace Go.Proofs.YtckdhahceelckaaGreat.G
open Go.RowKit Go.Proofs.YtckdhahceelckaaGreatW.PrintWords Go.Proofs.YtckdhahceelckaaGreatW.PrintLast Go.Proofs.YtckdhahceelckaaGreatW.PrintMore
section
variable {w:World}{ops:Array Oper}{rest:List Oper}{o:Oper}{a:Act}{Q:Exit→Act→World→Prop}{K:Act→World→Prop}{N:Option Tmp}
theorem run_append_pts (w:World)(base:Nat)(ty:TypeId)(v:Value)(l l2:List P3)(A:Option Addr)(m c:Nat)(hown:OwnP w base v l)(hr:Rd w A l2)(hm:l2.length=m)(hsz:l.length+m≤1000000)(hbase:base≤w.heap.size):
  ∃v' w',(Builtin.append_ #[24,24] ty #[v, .slice A m c]).run Tryz.prog w= .ok v' w'∧OwnP w' base v' (l++l2)∧w.grownBy w' v.ownBlock∧(v'.ownBlock=v.ownBlock∨v'.ownBlock=some w.heap.size):=by
 obtain⟨i0,hi,hz0,hz1,hz2⟩:=info_parts info23
 cases A with
 |none=>
  have h0:l2=[]:=by
   cases l2 with
   |nil=>rfl
   |cons p l2=>obtain⟨b,o',e,_⟩:=hr 0 p rfl;cases e
  subst h0;simp only[List.length_nil]at hm;subst hm;refine⟨v,w,?_,by rw[List.append_nil];exact hown,World.grownBy.refl w _, .inl rfl⟩;rcases hown.2 with⟨rfl,hn⟩|⟨g,cap,cur,rfl,_,_,hnc,_⟩
  ·simp[Builtin.append_,run_underlying Tryz.underlying24,sizeOf,typeInfo,hi,Builtin.lenOf,Builtin.firstCells]
  ·simp[Builtin.append_,run_underlying Tryz.underlying24,sizeOf,typeInfo,hi,Builtin.lenOf,Builtin.firstCells,hnc,storeCells]
 |some ad=>
  have hnews:∀j u,(cells3 l2)[j]?=some u→w.cell? (ad.add j)=some u:=by
   cases l2 with
   |nil=>intro j u hj;simp[cells3]at hj
   |cons p l2=>
    obtain⟨b,o',e,_⟩:=hr 0 p rfl;simp only[Option.some.injEq]at e;subst e;intro j u hj;rw[add_at];exact hr.cells j u hj
  obtain⟨v',w',h0,h1,h2,_,h4⟩:=Go.run_append_own_at (P:=Tryz.prog) w base 24 ty 23 i0 _ 3 24 Tryz.underlying24 hi hz0 hz1 hz2 rfl (by omega) v l.length (cells3 l) hown ad m c (cells3 l2) (by rw[cells3_length,hm]) hnews (cells3_one l2) (by unfold maxLen;omega) (by omega) hbase;refine⟨v',w',h0,?_,h2,h4⟩;show w'.ownsRow base 23 3 v' (l++l2).length (cells3 (l++l2));rw[cells3_append,List.length_append,hm];exact h1
/-- append of points, where the new row lies told -/
theorem appL_ (base:Nat)(hgd:o.guard=none)(s x:Operand)(ho:o.op= .call {callee:= .builtin .append,args:=#[s,x],argTypes:=#[24,24]})
  (v:Value) (l l2:List P3) (A:Option Addr) (m c:Nat) (hs:a.eval s=v) (hx:a.eval x= .slice A m c) (hown:OwnP w base v l) (hr:Rd w A l2) (hm:l2.length=m) (hsz:l.length+m≤1000000) (hbase:base≤w.heap.size)
  (h:∀v' w',OwnP w' base v' (l++l2)→w.grownBy w' v.ownBlock→(v'.ownBlock=v.ownBlock∨v'.ownBlock=some w.heap.size)→wpList Tryz.prog ops Q rest (a.put o.dst v') w'):wpList Tryz.prog ops Q (o::rest) a w:=by
 obtain⟨v',w',h0,h1,h2,h3⟩:=run_append_pts w base o.type v l l2 A m c hown hr hm hsz hbase;exact Go.Lib.wpList_append_run w hgd s x 24 24 ho v (.slice A m c) hs hx v' w' h0 (h v' w' h1 h2 h3)
end
theorem OwnP.rdB2 {w:World}{base:Nat}{v:Value}{l:List P3}(h:OwnP w base v l):∃A c,v= .slice A l.length c∧l.length≤c∧RdB w A l∧(∀ad,A=some ad→base≤ad.block):=by
 obtain⟨A,c,e,h1,h2,h3⟩:=OwnP.rd h;refine⟨A,c,e,h1,⟨h2,fun _ ad ea=>?_⟩,h3⟩;subst ea;exact(World.ownsRow.lt h ad.block (by rw[e];rfl)).2
/-- a list of the call's own grows; what lay there at its beginning, and what is kept, stays -/
structure CSt (w1 W:World) (v:Value) (l:List P3) (keep:List Nat):Prop where
 own:OwnP W w1.heap.size v l
 below:Below w1.heap.size w1 W
 ne:∀k∈keep,v.ownBlock≠some k∧k<W.heap.size
theorem CSt.start (w1:World):CSt w1 w1 (.slice none 0 0) [] []:=⟨OwnP.nil _ _,Below.refl _ _,by simp⟩
theorem CSt.grown {w1 W W':World}{v:Value}{l:List P3}{keep:List Nat}(h:CSt w1 W v l keep)(hb:Below W.heap.size W W'):CSt w1 W' v l keep:=
 ⟨h.own.grown hb,bthen h.below hb,fun k hk=>⟨(h.ne k hk).1,Nat.lt_of_lt_of_le (h.ne k hk).2 hb.size⟩⟩
theorem CSt.app {w1 W W':World}{v v':Value}{l l':List P3}{keep:List Nat}(h:CSt w1 W v l keep)(hv:OwnP W' w1.heap.size v' l')(hg:W.grownBy W' v.ownBlock)(hat:v'.ownBlock=v.ownBlock∨v'.ownBlock=some W.heap.size):CSt w1 W' v' l' keep:=by
 refine⟨hv,h.below.grown hg h.below.size (fun k hk=>h.own.base_ k hk),fun k hk=>?_⟩;obtain⟨h1,h2⟩:=h.ne k hk;refine⟨?_,Nat.lt_of_lt_of_le h2 hg.size⟩;rcases hat with e|e
 ·rw[e];exact h1
 ·rw[e];intro e';cases e';omega
theorem CSt.blk {w1 W W':World}{v:Value}{l:List P3}{keep:List Nat}(h:CSt w1 W v l keep)(hg:W.grownBy W' v.ownBlock){k:Nat}(hk:k∈keep){o:Obj}(ho:W.heap[k]?=some o):W'.heap[k]?=some o:=
 (hg.block k (h.ne k hk).2 (fun e=>(h.ne k hk).1 e.symm)).trans ho
theorem CSt.old {w1 W:World}{v:Value}{l:List P3}{keep:List Nat}(h:CSt w1 W v l keep){k:Nat}{o:Obj}(ho:w1.heap[k]?=some o):W.heap[k]?=some o:=(h.below.block k (blk_lt ho)).trans ho
theorem CSt.len {w1 W:World}{v:Value}{l l':List P3}{keep:List Nat}(h:CSt w1 W v l keep)(e:l=l'):CSt w1 W v l' keep:=e▸h
theorem RdB.blk {w W:World}{A:Option Addr}{l:List P3}(h:RdB w A l)(hs:w.heap.size≤W.heap.size)(hk:∀ad,A=some ad→l≠[]→W.heap[ad.block]?=w.heap[ad.block]?):RdB W A l:=by
 refine⟨fun i p hp=>?_,fun hne ad e=>Nat.lt_of_lt_of_le (h.2 hne ad e) hs⟩;obtain⟨b,o,rfl,hlt,h1,h2,h3⟩:=h.1 i p hp;have hb:=hk _ rfl (fun e0=>by rw[e0]at hp;simp at hp);have q:∀k,W.cell? ⟨b,k,none⟩=w.cell? ⟨b,k,none⟩:=fun k=>World.cell?_of_block (a:=⟨b,k,none⟩) hb;exact⟨b,o,rfl,Nat.lt_of_lt_of_le hlt hs,(q _).trans h1,(q _).trans h2,(q _).trans h3⟩
/-- the block of a slice -/
def keepA (A:Option Addr):List Nat:=(A.map (·.block)).toList
theorem RdB.keep {w1 W W':World}{v:Value}{l es:List P3}{keep:List Nat}{A:Option Addr}(h:RdB W A es)(S:CSt w1 W v l keep)(hs:∀k∈keepA A,k∈keep)(hg:W.grownBy W' v.ownBlock):RdB W' A es:=
 h.blk hg.size fun ad e _=>by
  have hk:=hs ad.block (by rw[e];simp[keepA]);exact hg.block ad.block (S.ne _ hk).2 (fun e'=>(S.ne _ hk).1 e'.symm)
end Go.Proofs.YtckdhahceelckaaGreat.G
namespace Go.Proofs.YtckdhahceelckaaGreat.G
open Go.RowKit Go.Proofs.YtckdhahceelckaaGreatW.PrintWords Go.Proofs.YtckdhahceelckaaGreatW.PrintLast Go.Proofs.YtckdhahceelckaaGreatW.PrintMore
attribute [local go_sem] max2_mx min2_mn max_two min_two max_three min_three max_four min_four
attribute [local go_sem high] eqA23
theorem gb_below {w w1 w2:World}{k:Option Nat}(h:w.grownBy w1 k)(b:Below w1.heap.size w1 w2):w.grownBy w2 k:=
 ⟨b.os.trans h.os,b.tape.trans h.tape,b.output.trans h.output,Nat.le_trans h.size b.size,fun j hj hk=>(b.block j (Nat.lt_of_lt_of_le hj h.size)).trans (h.block j hj hk)⟩
theorem gb_set {w w1:World}{g:Nat}(h:w.grownBy w1 (some g))(j:Nat)(u:Value):w.grownBy (w1.setCell ⟨g,j,none⟩ u) (some g):=
 ⟨h.os,h.tape,h.output,by simpa using h.size,fun i hi hk=>(Below.heap_setCell w1 ⟨g,j,none⟩ u i (fun e=>hk (by simp at e;rw[e]))).trans (h.block i hi hk)⟩
theorem gb_refl (w:World)(k:Option Nat):w.grownBy w k:=⟨rfl,rfl,rfl,Nat.le_refl _,fun _ _ _=>rfl⟩
theorem RdB.gb {w w1:World}{A:Option Addr}{l:List P3}{g:Nat}(h:RdB w A l)(k:w.grownBy w1 (some g))(hne:l≠[]→∀ad,A=some ad→ad.block≠g):RdB w1 A l:=
 h.blk k.size fun ad e hn=>k.block ad.block (h.2 hn ad e) (fun e'=>hne hn ad e (by cases e';rfl))
theorem below_gb {w w1 w2:World}{g b:Nat}(h:Below b w w1)(k:w1.grownBy w2 (some g))(hg:b≤g)(hb:b≤w1.heap.size):Below b w w2:=
 ⟨k.os.trans h.os,k.tape.trans h.tape,k.output.trans h.output,Nat.le_trans h.size k.size,fun j hj=>(k.block j (Nat.lt_of_lt_of_le hj hb) (fun e=>by cases e;omega)).trans (h.block j hj)⟩
theorem CSt.set {w1 W:World}{v:Value}{l:List P3}{keep:List Nat}(h:CSt w1 W v l keep){g:Nat}(hm:g∈keep)(hg:w1.heap.size≤g)(j:Nat)(u:Value):CSt w1 (W.setCell ⟨g,j,none⟩ u) v l keep:=
 ⟨own_setCell h.own (fun e=>(h.ne g hm).1 e.symm) u,h.below.setCell (p:=⟨g,j,none⟩) hg u,fun k hk=>⟨(h.ne k hk).1,by simpa using(h.ne k hk).2⟩⟩
end Go.Proofs.YtckdhahceelckaaGreat.G
