/- What the laws of this claim lean on: contracts of functions and plain lemmas; no condition of its own (part 24: XG8, XV7, XC1, XV8, XG11, XG13, XG12, XG14, XG16, XV16, XC2). -/
import Derived.Test.YtckdhahceelckaaGreatKQ23
set_option maxHeartbeats 16000000
set_option maxRecDepth 100000
set_option linter.unusedVariables false
set_option linter.unusedSimpArgs false
namespace Go.Proofs.YtckdhahceelckaaGreat.G
open Go.RowKit Go.Proofs.YtckdhahceelckaaGreatW.PrintWords Go.Proofs.YtckdhahceelckaaGreatW.PrintLast Go.Proofs.YtckdhahceelckaaGreatW.PrintMore
theorem any_far {n:Int}(h0:0≤n)(h1:n≤9223372036854775807){l:List P3}(h:∀x∈l,in3 n x):l.any (far3 n)=false:=by
 rw[List.any_eq_false];intro x hx;rw[(far3_iff n x h0 h1).2 (h x hx)];decide
theorem place_in3 {m:M3}{at_ x:P3}(hm:mOk m)(ha:atOk at_)(hx:in3 65536 x):in3 8388608 (placePt m at_ x):=by
 obtain⟨_,_,_,h⟩:=turn_ok2 hm (times_in2 hx);obtain⟨_,_,_,h2⟩:=add_in h ha;exact down_in h2
theorem waysF_in (m:M3)(l:List P3):∀x∈waysF m l,in3 1048576 x:=by
 intro x hx;unfold waysF at hx;obtain⟨h1,_⟩:=List.mem_filter.1 hx;obtain⟨y,_,rfl⟩:=List.mem_map.1 h1;exact short3_in _
theorem CoreIs.may {s:Shp}(hs:ShpOk s){p a e:List P3}(h:CoreIs s p a e){q:P7}(hm:mOk (rowsF q.turn))(ha:atOk q.at_):
  MayP (p.map (placePt (rowsF q.turn) q.at_)) (waysF (rowsF q.turn) a) (waysF (rowsF q.turn) e) s.radius:=by
 have hB:=h.bounds hs;refine⟨fun e'=>?_,?_,?_,?_,?_,?_,any_far (by decide) (by decide) fun x hx=>?_,any_far (by decide) (by decide) (waysF_in _ _),any_far (by decide) (by decide) (waysF_in _ _)⟩
 ·have:=hB.p0;rw[List.map_eq_nil_iff]at e';rw[e']at this;simp at this
 ·rw[List.length_map];have:=hB.p1;omega
 ·have:=hB.a1;have:=waysF_len (rowsF q.turn) a;omega
 ·have:=hB.e1;have:=waysF_len (rowsF q.turn) e;omega
 ·have:=hs.r0;omega
 ·have:=hs.r1;omega
 ·obtain⟨y,hy,rfl⟩:=List.mem_map.1 hx;exact in3_le (by decide) (place_in3 hm ha (hB.pin y hy))
/-- both of Cores' answers may be -/
theorem rightPose_ok (p:P7):mOk (rowsF (rightPose p).turn)∧atOk (rightPose p).at_:=by
 simp only[rightPose];exact⟨rows_mOk (wholeF_q32 (partQ p.turn)),partV_at p.at_⟩
/-- what a value of Cores is for Apart -/
theorem CoreAt.may {s:Shp}(hs:ShpOk s){q:P7}(hm:mOk (rowsF q.turn))(ha:atOk q.at_){w:World}{v:Value}(h:CoreAt s q w v):∃p a e,CoreV w v p a e s.radius∧MayP p a e s.radius:=by
 obtain⟨p,a,e,h1,h2⟩:=h;exact⟨_,_,_,h2,h1.may hs hm ha⟩
theorem p3_of {p:P3}{a b c:Int}(h:p.x=a∧p.y=b∧p.z=c):p=⟨a,b,c⟩:=by
 cases p
 simp_all
theorem short_b (n:Int)(h0:1≤n)(h1:n≤1000)(hbn:bare3 ⟨n,0,0⟩=⟨1,0,0⟩):short3 ⟨n,0,0⟩=⟨1,0,0⟩:=by
 have h3:halve3 ⟨1,0,0⟩=⟨1,0,0⟩:=by rw[halve3,dif_neg (by decide+kernel)]
 have b2:bare3 ⟨1,0,0⟩=⟨1,0,0⟩:=p3_of (by decide+kernel);have hf:far3 4398046511104 ⟨n,0,0⟩=false:=(far3_iff _ _ (by decide) (by decide)).2 (by unfold in3;simp only;omega);unfold short3
 rw[if_neg (by
  rw[hf]
  rintro(h|h)
  ·cases h
  ·injection h with h _ _;omega),hbn,h3,b2]
theorem short_x (n:Int)(h0:1≤n)(h1:n≤20):short3 ⟨n,0,0⟩=⟨1,0,0⟩:=by
 have hb:∀m∈List.range 20,(bare3 ⟨((m+1:Nat):Int),0,0⟩).x=1∧(bare3 ⟨((m+1:Nat):Int),0,0⟩).y=0∧(bare3 ⟨((m+1:Nat):Int),0,0⟩).z=0:=by decide+kernel
 have hbn:bare3 ⟨n,0,0⟩=⟨1,0,0⟩:=by
  have:=p3_of (hb (n.toNat-1) (List.mem_range.2 (by omega)));have e:((n.toNat-1+1:Nat):Int)=n:=by omega
  rwa [e]at this
 exact short_b n h0 (by omega) hbn
theorem short_zero:short3 ⟨0,0,0⟩=⟨0,0,0⟩:=by unfold short3;rw[if_pos (.inr rfl)]
def exB:Cr:=⟨[⟨20,0,0⟩],[],[],2⟩
theorem ex_gaps (m ra:Int)(l:List P3)(hl:l=[]∧m=0∨l=[⟨m,0,0⟩])(h0:0≤m)(h1:m≤20):gapsF E1 ⟨0,0,0⟩ l ra ⟨20,0,0⟩ [] 2=(20-m-ra-2,-20-ra-2):=by
 have d0:dot3 E1 ⟨0,0,0⟩=0:=by decide+kernel
 have dm:dot3 E1 ⟨m,0,0⟩=1048576*m:=by
  rw[dot3_eq E1 ⟨m,0,0⟩ 1048576 1048576 (by unfold in3 E1;decide) (by unfold in3;simp only;omega) (by decide)];unfold dotI E1;simp only;omega
 have d20:dot3 E1 ⟨20,0,0⟩=20971520:=by decide+kernel
 have ha:reachF E1 ⟨0,0,0⟩ l=(0,1048576*m):=by
  rcases hl with⟨rfl,rfl⟩|rfl
  ·simp[reachF,d0]
  ·simp only[reachF,List.foldl_cons,List.foldl_nil,rstep,d0,dm,mn,mx,Prod.mk.injEq];constructor<;>split<;>omega
 have hb:reachF E1 ⟨20,0,0⟩ []=(20971520,20971520):=by simp[reachF,d20]
 obtain⟨hf,hc⟩:=sizes_x;unfold gapsF;rw[ha,hb,hf,hc];unfold gapV;simp only;rw[if_pos (by omega),if_neg (by omega)];simp only[Prod.mk.injEq];omega
theorem ex_step {m ra:Int}{l L:List P3}(hl:l=[]∧m=0∨l=[⟨m,0,0⟩])(h0:0≤m)(h1:m≤20)(hL:∀x∈L,long3 x=E1∨long3 x=⟨0,0,0⟩):
  (apF ⟨0,0,0⟩ l ra ⟨20,0,0⟩ [] 2 (⟨1,0,0⟩::L)).1=(E1,20-m-ra-2):=by
 have g:=ex_gaps m ra l hl h0 h1;have hE:E1≠⟨0,0,0⟩:=by
  intro e;have:E1.x=0:=by rw[e]
  revert this
  decide+kernel
 have s1:∀s:(P3×Int)×Bool,(s.2=true∨s=((E1,20-m-ra-2),false))→∀x,long3 x=E1→apStep ⟨0,0,0⟩ l ra ⟨20,0,0⟩ [] 2 s x=((E1,20-m-ra-2),false):=by
  intro s hs x hx;unfold apStep;rw[hx,if_neg hE,g];rcases hs with hs|rfl
  ·simp only[hs,true_or,if_true];rw[if_neg (by omega)]
  ·simp only[Bool.false_eq_true,false_or,Int.lt_irrefl,if_false];rw[if_neg (by omega)]
 have all:∀L:List P3,(∀x∈L,long3 x=E1∨long3 x=⟨0,0,0⟩)→L.foldl (apStep ⟨0,0,0⟩ l ra ⟨20,0,0⟩ [] 2) ((E1,20-m-ra-2),false)=((E1,20-m-ra-2),false):=by
  intro L
  induction L with
  |nil=>intro _;rfl
  |cons x L ih=>
   intro h;rw[List.foldl_cons];have:apStep ⟨0,0,0⟩ l ra ⟨20,0,0⟩ [] 2 ((E1,20-m-ra-2),false) x=((E1,20-m-ra-2),false):=by
    rcases h x (by simp)with hx|hx
    ·exact s1 _ (.inr rfl) x hx
    ·unfold apStep;rw[hx,if_pos rfl]
   rw[this];exact ih fun y hy=>h y (by simp[hy])
 unfold apF;rw[List.foldl_cons,s1 _ (.inl rfl) _ long_1,all L hL]
theorem long_E (x:P3)(h:x=⟨1,0,0⟩∨x=⟨0,0,0⟩):long3 x=E1∨long3 x=⟨0,0,0⟩:=by
 rcases h with rfl|rfl
 ·exact .inl long_1
 ·exact .inr long_zero
theorem exB_may:exB.may=true:=mayOne (by unfold in3;decide) (by decide) (by decide)
theorem ex_first (ra:Int)(h0:0≤ra)(h1:ra≤2):apS ⟨[⟨0,0,0⟩],[],[],ra⟩ exB=((E1,18-ra),true):=by
 rw[apS_val (mayOne (by unfold in3;decide) h0 (by omega)) exB_may];have hr:rawC [⟨0,0,0⟩] [] [] [⟨20,0,0⟩] [] []=[⟨1,0,0⟩]:=by
  rw[rawC_balls,show minus3 ⟨20,0,0⟩ ⟨0,0,0⟩=⟨20,0,0⟩ from p3_of (by decide+kernel),short_x 20 (by decide) (by decide)]
 show(apartF [⟨0,0,0⟩] [] [] ra [⟨20,0,0⟩] [] [] 2,true)=_;unfold apartF;rw[hr];have:=ex_step (m:=0) (ra:=ra) (l:=[]) (L:=[]) (.inl ⟨rfl,rfl⟩) (by decide) (by decide) (fun x hx=>by cases hx);rw[show[(⟨0,0,0⟩:P3)].tail=[] from rfl,show[(⟨0,0,0⟩:P3)].headD ⟨0,0,0⟩=⟨0,0,0⟩ from rfl,show[(⟨20,0,0⟩:P3)].tail=[] from rfl,show[(⟨20,0,0⟩:P3)].headD ⟨0,0,0⟩=⟨20,0,0⟩ from rfl,this];simp only[Prod.mk.injEq,and_true,true_and];omega
theorem ex_smay (s ra:Int)(h0:0≤ra)(h1:ra≤2)(hs0:1≤s)(hs1:s≤10):smay ⟨[⟨0,0,0⟩],[],[],ra⟩ ⟨16*s,0,0⟩=true:=
 (smay_iff ..).2 ⟨mayOne (by unfold in3;decide) h0 (by omega),by simp,by unfold in3;simp only;omega⟩
theorem ex_part (s k:Int):partP ⟨16*s,0,0⟩ k=⟨s*k,0,0⟩:=by
 unfold partP;rw[Int.mul_assoc,Int.mul_tdiv_cancel_left _ (by decide)];simp
theorem ex_may (s ra:Int)(h0:0≤ra)(h1:ra≤2)(hs0:1≤s)(hs1:s≤10)(k:Int)(hk0:0≤k)(hk1:k≤16):(trailF ⟨[⟨0,0,0⟩],[],[],ra⟩ ⟨16*s,0,0⟩ k).may=true:=by
 refine trail_may (ex_smay s ra h0 h1 hs0 hs1) hk0 hk1 fun x hx=>?_;have:x=⟨0,0,0⟩:=by simpa using hx
 subst this;have e1:=Int.mul_le_mul hs1 hk1 hk0 (by decide);have e0:=Int.mul_nonneg (show 0≤s by omega) hk0;rw[ex_part];unfold in3 plusI;simp only;omega
theorem ex_raw (m ra:Int)(h0:0≤m)(h1:m≤20):apartF [⟨0,0,0⟩,⟨m,0,0⟩] [] [⟨1,0,0⟩] ra [⟨20,0,0⟩] [] [] 2=(E1,18-m-ra):=by
 have hx:cross3 (short3 (cross3 ⟨1,0,0⟩ ⟨1,0,0⟩)) ⟨1,0,0⟩=⟨0,0,0⟩:=by
  rw[show cross3 ⟨1,0,0⟩ ⟨1,0,0⟩=⟨0,0,0⟩ from p3_of (by decide+kernel),short_zero];exact p3_of (by decide+kernel)
 have hx0:cross3 (short3 (cross3 ⟨1,0,0⟩ ⟨0,0,0⟩)) ⟨1,0,0⟩=⟨0,0,0⟩:=by
  rw[show cross3 ⟨1,0,0⟩ ⟨0,0,0⟩=⟨0,0,0⟩ from p3_of (by decide+kernel),short_zero];exact p3_of (by decide+kernel)
 have e1:short3 (minus3 ⟨20,0,0⟩ ⟨0,0,0⟩)=⟨1,0,0⟩:=by rw[show minus3 ⟨20,0,0⟩ ⟨0,0,0⟩=⟨20,0,0⟩ from p3_of (by decide+kernel),short_x 20 (by decide) (by decide)]
 have e2:short3 (minus3 ⟨20,0,0⟩ ⟨m,0,0⟩)=⟨1,0,0⟩∨short3 (minus3 ⟨20,0,0⟩ ⟨m,0,0⟩)=⟨0,0,0⟩:=by
  rw[minus3_eq _ _ (by unfold in3;decide) (by unfold in3;simp only;omega)];by_cases h:m=20
  ·subst h;right;exact short_zero
  ·left;exact short_x (20-m) (by omega) (by omega)
 obtain⟨u,hu⟩:=nm_ (short3 (minus3 ⟨20,0,0⟩ ⟨m,0,0⟩));rw[hu]at e2;have hr:rawC [⟨0,0,0⟩,⟨m,0,0⟩] [] [⟨1,0,0⟩] [⟨20,0,0⟩] [] []=[⟨1,0,0⟩,⟨0,0,0⟩,u,cross3 (short3 (cross3 ⟨1,0,0⟩ u)) ⟨1,0,0⟩]:=by
  unfold rawC edgeW pointW roundW;rw[if_neg (by simp[mn])];simp only[List.cons_append,List.nil_append,List.append_nil,List.flatMap_cons,List.flatMap_nil,List.map_cons,List.map_nil,e1,hx,hu]
 unfold apartF;rw[hr]
 have:=ex_step (m:=m) (ra:=ra) (l:=[⟨m,0,0⟩]) (L:=[⟨0,0,0⟩,u,cross3 (short3 (cross3 ⟨1,0,0⟩ u)) ⟨1,0,0⟩]) (.inr rfl) h0 h1 (fun x hx'=>by
  simp only[List.mem_cons,List.not_mem_nil,or_false]at hx'
  rcases hx' with rfl|rfl|rfl
  ·exact long_E _ (.inr rfl)
  ·exact long_E _ e2
  ·rcases e2 with e|e
   ·rw[e,hx];exact long_E _ (.inr rfl)
   ·rw[e,hx0];exact long_E _ (.inr rfl))
 simp only[List.headD_cons,List.tail_cons];rw[this];simp only[Prod.mk.injEq,true_and];omega
theorem ex_trail (s ra:Int)(h0:0≤ra)(h1:ra≤2)(hs0:1≤s)(hs1:s≤10)(y:P3)(hy:y=⟨16*s,0,0⟩)(hsh:short3 y=⟨1,0,0⟩)(k:Int)(hk0:0≤k)(hk1:k≤16)(hm:s*k≤20):apS (trailF ⟨[⟨0,0,0⟩],[],[],ra⟩ y k) exB=((E1,18-s*k-ra),true):=by
 have hsm:smay ⟨[⟨0,0,0⟩],[],[],ra⟩ y=true:=by rw[hy];exact ex_smay s ra h0 h1 hs0 hs1
 have hmay:(trailF ⟨[⟨0,0,0⟩],[],[],ra⟩ y k).may=true:=by rw[hy];exact ex_may s ra h0 h1 hs0 hs1 k hk0 hk1
 have hpart:partP y k=⟨s*k,0,0⟩:=by rw[hy];exact ex_part s k
 rw[apS_val hmay exB_may,trailF_yes hsm hk0 hk1,hpart];have hm0:=Int.mul_nonneg (show 0≤s by omega) hk0;obtain⟨m,hmm⟩:=nm_ (s*k);rw[hmm]at hm hm0⊢;have hw:withF [] [(⟨1,0,0⟩:P3)]=[⟨1,0,0⟩]:=by
  have:nz ⟨1,0,0⟩=true:=by decide+kernel
  unfold withF;simp[this]
 have ha:withF [] (acrossF y [])=[]:=rfl;have hp:plusI ⟨m,0,0⟩ ⟨0,0,0⟩=⟨m,0,0⟩:=by unfold plusI;simp
 simp only[List.map_cons,List.map_nil,List.cons_append,List.nil_append,hsh,hw,ha,hp,exB];rw[ex_raw m ra hm0 hm]
theorem castL_go {c d:Cr}{y:P3}{n k:Nat}{x z:P3×Int}(hx:0≤x.2)(hz:(apS (trailF c y ((k:Int)+1)) d).1=z)(h:0≤z.2):castL c y d (n+1) k x=castL c y d n (k+1) z:=by
 rw[castL,if_neg (by omega),hz,if_neg (by omega)]
theorem castL_stop {c d:Cr}{y:P3}{n k:Nat}{x z:P3×Int}(hz:(apS (trailF c y ((k:Int)+1)) d).1=z)(h:z.2<0):castL c y d (n+1) k x=(k,x):=by
 rw[castL,hz,if_pos h];split<;>rfl
def exA:Cr:=⟨[⟨0,0,0⟩],[],[],2⟩
theorem ex_castA:castF exA ⟨32,0,0⟩ exB=((8,(E1,0)),true):=by
 have hsh:short3 ⟨32,0,0⟩=⟨1,0,0⟩:=by
  exact short_b 32 (by decide) (by decide) (p3_of (by decide+kernel))
 have hok:castOk exA ⟨32,0,0⟩ exB=true:=(castOk_iff ..).2 ⟨mayOne (by unfold in3;decide) (by decide) (by decide),exB_may,ex_smay 2 2 (by decide) (by decide) (by decide) (by decide),ex_may 2 2 (by decide) (by decide) (by decide) (by decide) 16 (by decide) (by decide)⟩;have ht:∀k:Nat,k≤8→(apS (trailF exA ⟨32,0,0⟩ ((k:Int)+1)) exB).1=(E1,14-2*(k:Int)):=by
  intro k hk;have:=ex_trail 2 2 (by decide) (by decide) (by decide) (by decide) ⟨32,0,0⟩ rfl hsh ((k:Int)+1) (by omega) (by omega) (by omega);show(apS (trailF ⟨[⟨0,0,0⟩],[],[],2⟩ ⟨32,0,0⟩ ((k:Int)+1)) exB).1=_;rw[this];simp only[Prod.mk.injEq,true_and];omega
 have gen:∀j k:Nat,j+k=8→castL exA ⟨32,0,0⟩ exB (j+8) k (E1,16-2*(k:Int))=(8,(E1,0)):=by
  intro j
  induction j with
  |zero=>
   intro k hk;have:k=8:=by omega
   subst this
   exact(castL_stop (ht 8 (by decide)) (by decide)).trans rfl
  |succ j ih=>
   intro k hk;rw[show j+1+8=(j+8)+1 by omega,castL_go (by simp only;omega) (ht k (by omega)) (by simp only;omega)];have:=ih (k+1) (by omega);rw[←this];congr 1;simp only[Prod.mk.injEq,true_and];omega
 unfold castF;rw[if_pos hok,show(apS exA exB).1=(E1,16) from by show(apS ⟨[⟨0,0,0⟩],[],[],2⟩ exB).1=_;rw[ex_first 2 (by decide) (by decide)];rfl];have:=gen 8 0 (by decide);rw[←this];rfl
/-- to grains, down -/
def gr (n:Int):Int:=n / 1048576
def grP (v:P3):P3:=⟨gr v.x,gr v.y,gr v.z⟩
def ballC (a:P3)(r:Int):Cr:=⟨[grP a],[],[],r⟩
def wayC (a b:P3):P3:=⟨gr b.x-gr a.x,gr b.y-gr a.y,gr b.z-gr a.z⟩
/-- no part is above n -/
def inB (n:Int)(p:P3):Bool:=decide (mx (mx p.x p.y) p.z≤n)&&decide (-n≤mn (mn p.x p.y) p.z)
theorem inB_iff (n:Int)(y:P3):inB n y=true↔in3 n y:=by
 have a:=mx_facts y.x y.y;have b:=mx_facts (mx y.x y.y) y.z;have c:=mn_facts y.x y.y;have d:=mn_facts (mn y.x y.y) y.z;unfold inB in3;simp only[Bool.and_eq_true,decide_eq_true_eq];omega
abbrev FB:Int:=1125899906842624
def holdMay (a b:P3)(r:Int):Bool:=(ballC a r).may&&(inB FB a&&(inB FB b&&inB 4194304 (wayC a b)))
theorem holdMay_iff (a b:P3)(r:Int):holdMay a b r=true↔(ballC a r).may=true∧in3 FB a∧in3 FB b∧in3 4194304 (wayC a b):=by
 unfold holdMay;simp only[Bool.and_eq_true,inB_iff]
theorem castOk_near {a b:Cr}{y:P3}(ha:a.may=true)(hb:b.may=true)(hl:a.p.length≤16)(hp:∀P∈a.p,in3 8388608 P)(hy:in3 4194304 y):castOk a y b=true:=by
 have hs:smay a y=true:=(smay_iff ..).2 ⟨ha,hl,hy⟩;refine(castOk_iff ..).2 ⟨ha,hb,hs,trail_may hs (by decide) (by decide) fun z hz=>?_⟩;have:=hp z hz;rw[partP_16];unfold in3 plusI at*;simp only;omega
end Go.Proofs.YtckdhahceelckaaGreat.G
namespace Go.Proofs.YtckdhahceelckaaGreat.G
open Go.RowKit Go.Proofs.YtckdhahceelckaaGreatW.PrintWords
theorem min_ratio (f g:P3→Int):∀(l:List P3),(∀p∈l,0≤f p)→(∃p∈l,g p<0)→∃p∈l,g p<0∧∀o∈l,g o<0→f p*(-(g o))≤f o*(-(g p))
 |[],_,h=>by obtain⟨p,hp,_⟩:=h;simp at hp
 |x::l,hf,h=>by
  have hf':∀p∈l,0≤f p:=fun p hp=>hf p (List.mem_cons_of_mem _ hp);by_cases hl:∃p∈l,g p<0
  ·obtain⟨p,hp,gp,hmin⟩:=min_ratio f g l hf' hl;by_cases hx:g x<0∧f x*(-(g p))≤f p*(-(g x))
   ·refine⟨x,List.mem_cons_self,hx.1,fun o ho go=>?_⟩;rcases List.mem_cons.1 ho with rfl|ho
    ·exact Int.le_refl _
    ·have h1:=Int.mul_le_mul_of_nonneg_right hx.2 (show 0≤ -(g o) by omega);have h2:=Int.mul_le_mul_of_nonneg_right (hmin o ho go) (show 0≤ -(g x) by omega);refine Int.le_of_mul_le_mul_right (a:= -(g p)) ?_ (by omega);have e1:f x* -(g o)* -(g p)=f x* -(g p)* -(g o):=by grind
     have e2:f p* -(g x)* -(g o)=f p* -(g o)* -(g x):=by grind
     have e3:f o* -(g x)* -(g p)=f o* -(g p)* -(g x):=by grind
     omega
   ·refine⟨p,List.mem_cons_of_mem _ hp,gp,fun o ho go=>?_⟩;rcases List.mem_cons.1 ho with rfl|ho
    ·have:¬(f o*(-(g p))≤f p*(-(g o))):=fun h'=>hx ⟨go,h'⟩;omega
    ·exact hmin o ho go
  ·obtain⟨p,hp,gp⟩:=h;rcases List.mem_cons.1 hp with rfl|hp
   ·refine⟨p,List.mem_cons_self,gp,fun o ho go=>?_⟩;rcases List.mem_cons.1 ho with rfl|ho
    ·exact Int.le_refl _
    ·exact absurd ⟨o,ho,go⟩ hl
   ·exact absurd ⟨p,hp,gp⟩ hl
def combI (α β:Int)(n m:P3):P3:=⟨α*n.x+β*m.x,α*n.y+β*m.y,α*n.z+β*m.z⟩
theorem dot_comb (α β:Int)(n m v:P3):dotI (combI α β n m) v=α*dotI n v+β*dotI m v:=by unfold dotI combI;grind
theorem rotate_ (l:List P3)(a n m:P3)(hn:∀p∈l,0≤dotI n (subI p a))(hz:∀p∈l,dotI n (subI p a)=0→dotI m (subI p a)=0)(hex:∃p∈l,dotI m (subI p a)≠0):
  ∃α β p,0<α∧p∈l∧dotI m (subI p a)≠0∧(∀o∈l,0≤dotI (combI α β n m) (subI o a))∧dotI (combI α β n m) (subI p a)=0:=by
 obtain⟨t,ht,hneg⟩:∃t:Int,(t=1∨t= -1)∧∃p∈l,t*dotI m (subI p a)<0:=by
  obtain⟨p,hp,h⟩:=hex;rcases Int.lt_or_gt_of_ne h with h|h
  ·exact⟨1, .inl rfl,p,hp,by omega⟩
  ·exact⟨-1, .inr rfl,p,hp,by omega⟩
 obtain⟨p,hp,gp,hmin⟩:=min_ratio (fun o=>dotI n (subI o a)) (fun o=>t*dotI m (subI o a)) l hn hneg
 (try simp only at gp hmin)
 refine⟨-(t*dotI m (subI p a)),t*dotI n (subI p a),p,by omega,hp,?_,?_,?_⟩
 ·intro e;rw[e,Int.mul_zero]at gp;omega
 ·intro o ho;rw[dot_comb];have hfo:=hn o ho;have hfp:=hn p hp;by_cases hg:t*dotI m (subI o a)<0
  ·have:=hmin o ho hg;have e1: -(t*dotI m (subI p a))*dotI n (subI o a)=dotI n (subI o a)* -(t*dotI m (subI p a)):=by grind
   have e2:t*dotI n (subI p a)*dotI m (subI o a)= -(dotI n (subI p a)* -(t*dotI m (subI o a))):=by grind
   rw[e1,e2];omega
  ·have h1:=Int.mul_nonneg (show 0≤ -(t*dotI m (subI p a)) by omega) hfo;have h2:=Int.mul_nonneg hfp (show 0≤t*dotI m (subI o a) by omega);have e2:t*dotI n (subI p a)*dotI m (subI o a)=dotI n (subI p a)*(t*dotI m (subI o a)):=by grind
   rw[e2];omega
 ·rw[dot_comb];grind
theorem min_at (f:P3→Int):∀(l:List P3),l≠[]→∃p∈l,∀o∈l,f p≤f o
 |[],h=>absurd rfl h
 |[x],_=>⟨x,by simp,fun o ho=>by simp at ho;rw[ho];exact Int.le_refl _⟩
 |x::y::l,_=>by
  obtain⟨p,hp,h⟩:=min_at f (y::l) (by simp);by_cases hx:f x≤f p
  ·refine⟨x,List.mem_cons_self,fun o ho=>?_⟩;rcases List.mem_cons.1 ho with rfl|ho
   ·exact Int.le_refl _
   ·exact Int.le_trans hx (h o ho)
  ·refine⟨p,List.mem_cons_of_mem _ hp,fun o ho=>?_⟩;rcases List.mem_cons.1 ho with rfl|ho
   ·omega
   ·exact h o ho
theorem sub_ne {a b:P3}(h:b≠a):subI b a≠⟨0,0,0⟩:=fun e=>h (by
 unfold subI at e
 simp only[P3.mk.injEq]at e
 cases a;cases b
 simp only[P3.mk.injEq]
 simp only at e
 omega)
/-- a plane that all points lie on one side of, and three points in it -/
theorem support {l:List P3}(hin:∀p∈l,in3 65536 p)(hf:¬FlatP l):∃a b c n,a∈l∧b∈l∧c∈l∧n≠⟨0,0,0⟩∧(∀p∈l,0≤dotI n (subI p a))∧dotI n (subI b a)=0∧dotI n (subI c a)=0∧crossI (subI b a) (subI c a)≠⟨0,0,0⟩:=by
 have hne:l≠[]:=by
  rintro rfl;exact hf (flat_of (l:=[]) (n:=⟨1,0,0⟩) (a:=⟨0,0,0⟩) (by simp) (by simp) (by simp))
 obtain⟨a,ha,hmin⟩:=min_at (fun p=>p.x) l hne
 (try simp only at hmin)
 -- an edge
 obtain⟨n1,b,hn1,hb,hba,hs1,hz1⟩:∃n1 b,n1≠(⟨0,0,0⟩:P3)∧b∈l∧b≠a∧(∀p∈l,0≤dotI n1 (subI p a))∧dotI n1 (subI b a)=0:=by
  have d0:∀p:P3,dotI ⟨1,0,0⟩ (subI p a)=p.x-a.x:=fun p=>by unfold dotI subI;simp only;omega
  have d1:∀p:P3,dotI ⟨0,1,0⟩ (subI p a)=p.y-a.y:=fun p=>by unfold dotI subI;simp only;omega
  by_cases h:∃b∈l,b≠a∧dotI ⟨1,0,0⟩ (subI b a)=0
  ·obtain⟨b,hb,hba,hz⟩:=h;exact⟨⟨1,0,0⟩,b,by simp,hb,hba,fun p hp=>by rw[d0];have:=hmin p hp;omega,hz⟩
  ·obtain⟨α,β,b,hα,hb,hm,hs,hz⟩:=rotate_ l a ⟨1,0,0⟩ ⟨0,1,0⟩ (fun p hp=>by rw[d0];have:=hmin p hp;omega)
    (fun p hp h0=>by
     by_cases e:p=a
     ·rw[e,d1];omega
     ·exact absurd ⟨p,hp,e,h0⟩ h)
    (by
     by_cases hx:∃p∈l,dotI ⟨0,1,0⟩ (subI p a)≠0
     ·exact hx
     ·refine absurd (flat_of hin (n:=⟨0,1,0⟩) (a:=a) (by simp) fun o ho=>?_) hf
      by_cases e:dotI ⟨0,1,0⟩ (subI o a)=0
      ·exact e
      ·exact absurd ⟨o,ho,e⟩ hx)
   refine⟨combI α β ⟨1,0,0⟩ ⟨0,1,0⟩,b,?_,hb,?_,hs,hz⟩
   ·intro e;unfold combI at e;simp only[P3.mk.injEq]at e;omega
   ·rintro rfl;rw[d1]at hm;omega
 -- a face
 have hU:=sub_ne hba;by_cases h:∃c∈l,dotI n1 (subI c a)=0∧crossI (subI b a) (subI c a)≠⟨0,0,0⟩
 ·obtain⟨c,hc,hz,hx⟩:=h;exact⟨a,b,c,n1,ha,hb,hc,hn1,hs1,hz1,hz,hx⟩
 ·have hm:∀v,dotI (crossI n1 (subI b a)) v=dotI n1 (crossI (subI b a) v):=fun v=>by unfold dotI crossI;grind
  have z0:∀n:P3,dotI n ⟨0,0,0⟩=0:=fun n=>by unfold dotI;simp
  have hmn:crossI n1 (subI b a)≠⟨0,0,0⟩:=by
   intro e;have h1:=lagI n1 (subI b a);rw[crI_cross,e,z0,hz1]at h1;have h2:=Int.mul_pos (dotI_pos _ hn1) (dotI_pos _ hU);omega
  obtain⟨α,β,c,hα,hc,hmc,hs,hz⟩:=rotate_ l a n1 (crossI n1 (subI b a)) hs1
   (fun p hp h0=>by
    rw[hm]
    by_cases e:crossI (subI b a) (subI p a)=⟨0,0,0⟩
    ·rw[e,z0]
    ·exact absurd ⟨p,hp,h0,e⟩ h)
   (by
    by_cases hx:∃p∈l,dotI (crossI n1 (subI b a)) (subI p a)≠0
    ·exact hx
    ·refine absurd (flat_of hin (a:=a) hmn fun o ho=>?_) hf
     by_cases e:dotI (crossI n1 (subI b a)) (subI o a)=0
     ·exact e
     ·exact absurd ⟨o,ho,e⟩ hx)
  refine⟨a,b,c,combI α β n1 (crossI n1 (subI b a)),ha,hb,hc,?_,hs,?_,hz,?_⟩
  ·intro e;have h1:=dot_comb α β n1 (crossI n1 (subI b a)) n1;have h2:dotI (crossI n1 (subI b a)) n1=0:=by unfold dotI crossI;grind
   rw[e,h2,Int.mul_zero,Int.add_zero]at h1;have h3:dotI (⟨0,0,0⟩:P3) n1=0:=by unfold dotI;simp
   have h4:=Int.mul_pos hα (dotI_pos _ hn1);omega
  ·rw[dot_comb,hz1];have h2:dotI (crossI n1 (subI b a)) (subI b a)=0:=by unfold dotI crossI;grind
   rw[h2];simp
  ·intro e;rw[hm,e,z0]at hmc;exact hmc rfl
theorem fold_side (n a:P3):∀(l:List P3) (s:Int×Int),((∀o∈l,0≤dot3 n (minus3 o a))→0≤s.1→0≤(l.foldl (sdStep n a) s).1)∧((∀o∈l,dot3 n (minus3 o a)≤0)→s.2≤0→(l.foldl (sdStep n a) s).2≤0)
 |[],s=>⟨fun _ h=>h,fun _ h=>h⟩
 |x::l,s=>by
  obtain⟨h1,h2⟩:=fold_side n a l (sdStep n a s x);rw[List.foldl_cons];refine⟨fun h hs=>h1 (fun o ho=>h o (List.mem_cons_of_mem _ ho)) ?_,fun h hs=>h2 (fun o ho=>h o (List.mem_cons_of_mem _ ho)) ?_⟩
  ·have:=h x List.mem_cons_self;unfold sdStep mn;simp only;split<;>omega
  ·have:=h x List.mem_cons_self;unfold sdStep mx;simp only;split<;>omega
theorem side_of {l:List P3}(hin:∀p∈l,in3 65536 p){a n x y z:P3}(hn:n≠⟨0,0,0⟩)(hs:∀p∈l,0≤dotI n (subI p a))(mx_:x∈l)(my_:y∈l)(mz_:z∈l)(hx:dotI n (subI x a)=0)(hy:dotI n (subI y a)=0)(hz:dotI n (subI z a)=0):sideF l (nrm3 x y z) x≠0:=by
 obtain⟨e,i1⟩:=nrm_at (hin _ mx_) (hin _ my_) (hin _ mz_);rw[e];have hv:∀o,dotI n (subI o x)=dotI n (subI o a):=fun o=>by unfold dotI subI at*;grind
 have key:∀v,dotI n n*dotI (crossI (subI y x) (subI z x)) v=dotI n (crossI (subI y x) (subI z x))*dotI n v:=fun v=>by
  have h1:=hv y;have h2:=hv z;rw[hy]at h1;rw[hz]at h2;generalize subI y x=Y at h1 h2;generalize subI z x=Z at h1 h2;unfold dotI crossI at*;grind
 have hpos:=dotI_pos n hn;have hd:∀o∈l,dot3 (crossI (subI y x) (subI z x)) (minus3 o x)=dotI (crossI (subI y x) (subI z x)) (subI o x):=fun o ho=>dot_in i1 (hin _ ho) (hin _ mx_);generalize crossI (subI y x) (subI z x)=N at key hd;have h0:∀o∈l,0≤dotI n (subI o x):=fun o ho=>by rw[hv];exact hs o ho
 unfold sideF sdF sideV;obtain⟨f1,f2⟩:=fold_side N x l (0,0);rcases Int.le_total 0 (dotI n N)with hN|hN
 ·have:=f1 (fun o ho=>by
   rw[hd o ho]
   have k:=key (subI o x)
   have p:=Int.mul_nonneg hN (h0 o ho)
   rw[←k]at p
   rcases Int.lt_or_le (dotI N (subI o x)) 0 with q|q
   ·have:=Int.mul_neg_of_pos_of_neg hpos q
    omega
   ·exact q) (Int.le_refl _)
  split
  ·decide
  ·(try rw[if_pos this]);decide
 ·have:=f2 (fun o ho=>by
   rw[hd o ho]
   have k:=key (subI o x)
   have p:=Int.mul_nonpos_of_nonpos_of_nonneg hN (h0 o ho)
   rw[←k]at p
   rcases Int.lt_or_le 0 (dotI N (subI o x))with q|q
   ·have:=Int.mul_pos hpos q
    omega
   ·exact q) (Int.le_refl _)
  rw[if_pos this];decide
theorem abs_mul {a b A B:Int}(ha: -A≤a∧a≤A)(hb: -B≤b∧b≤B): -(A*B)≤a*b∧a*b≤A*B:=by
 have h:(a*b).natAbs≤A.natAbs*B.natAbs:=by rw[Int.natAbs_mul];exact Nat.mul_le_mul (by omega) (by omega)
 have e:((A.natAbs*B.natAbs:Nat):Int)=A*B:=by rw[Int.natCast_mul,Int.natAbs_of_nonneg (by omega),Int.natAbs_of_nonneg (by omega)]
 omega
/-- one row of the rounded turn and of the turn itself -/
theorem row_bd {a1 a2 a3 c1 c2 c3 X Y Z:Int}(h1: -4294967296≤4294967296*a1-c1∧4294967296*a1-c1≤4294967296)(h2: -4294967296≤4294967296*a2-c2∧4294967296*a2-c2≤4294967296)(h3: -4294967296≤4294967296*a3-c3∧4294967296*a3-c3≤4294967296)
  (hX: -4294967296≤X∧X≤4294967296) (hY: -4294967296≤Y∧Y≤4294967296) (hZ: -4294967296≤Z∧Z≤4294967296) (hv: -4096<(a1*X+a2*Y+a3*Z) / 4294967296∧(a1*X+a2*Y+a3*Z) / 4294967296<4096):
  -75613203958135452073984≤c1*X+c2*Y+c3*Z∧c1*X+c2*Y+c3*Z≤75613203958135452073984:=by
 have k1:=abs_mul h1 hX;have k2:=abs_mul h2 hY;have k3:=abs_mul h3 hZ;have e:c1*X+c2*Y+c3*Z=4294967296*(a1*X+a2*Y+a3*Z)-((4294967296*a1-c1)*X+(4294967296*a2-c2)*Y+(4294967296*a3-c3)*Z):=by grind
 rw[e];generalize(4294967296*a1-c1)*X=e1 at k1;generalize(4294967296*a2-c2)*Y=e2 at k2;generalize(4294967296*a3-c3)*Z=e3 at k3;generalize a1*X+a2*Y+a3*Z=r at hv;omega
theorem rot_norm (w x y z X Y Z T:Int):
  ((T-((y+y)*y+(z+z)*z))*X+((x+x)*y+(w+w)* -z)*Y+((x+x)*z+(w+w)*y)*Z-(T-(w*w+x*x+y*y+z*z))*X)*((T-((y+y)*y+(z+z)*z))*X+((x+x)*y+(w+w)* -z)*Y+((x+x)*z+(w+w)*y)*Z-(T-(w*w+x*x+y*y+z*z))*X)+
  (((x+x)*y+(w+w)*z)*X+(T-((x+x)*x+(z+z)*z))*Y+((y+y)*z+(w+w)* -x)*Z-(T-(w*w+x*x+y*y+z*z))*Y)*(((x+x)*y+(w+w)*z)*X+(T-((x+x)*x+(z+z)*z))*Y+((y+y)*z+(w+w)* -x)*Z-(T-(w*w+x*x+y*y+z*z))*Y)+
  (((x+x)*z+(w+w)* -y)*X+((y+y)*z+(w+w)*x)*Y+(T-((x+x)*x+(y+y)*y))*Z-(T-(w*w+x*x+y*y+z*z))*Z)*(((x+x)*z+(w+w)* -y)*X+((y+y)*z+(w+w)*x)*Y+(T-((x+x)*x+(y+y)*y))*Z-(T-(w*w+x*x+y*y+z*z))*Z)=
  (w*w+x*x+y*y+z*z)*(w*w+x*x+y*y+z*z)*(X*X+Y*Y+Z*Z):=by grind
theorem rot_alg (S T m1 m2 m3 X Y Z:Int)(h:(m1-(T-S)*X)*(m1-(T-S)*X)+(m2-(T-S)*Y)*(m2-(T-S)*Y)+(m3-(T-S)*Z)*(m3-(T-S)*Z)=S*S*(X*X+Y*Y+Z*Z)):
  T*(2*S-T)*(X*X+Y*Y+Z*Z)=m1*m1+m2*m2+m3*m3-2*((T-S)*(m1*X+m2*Y+m3*Z)):=by grind
theorem d2_near (a b c d:Int): -4294967296≤4294967296*D2 a b c d-(a*c+b*d)∧4294967296*D2 a b c d-(a*c+b*d)≤4294967296:=by
 unfold D2;generalize a*c+b*d=n;omega
theorem d2_near' (a b c d:Int): -4294967296≤4294967296*(4294967296-D2 a b c d)-(18446744073709551616-(a*c+b*d))∧4294967296*(4294967296-D2 a b c d)-(18446744073709551616-(a*c+b*d))≤4294967296:=by
 unfold D2;generalize a*c+b*d=n;omega
/-- a unit quaternion turns a long vector into one that is not short -/
theorem turn_long {q:Q4}(hq:q32 q)(hS:18446744039349813248≤q.w*q.w+q.x*q.x+q.y*q.y+q.z*q.z){V:P3}(hV:in3 4294967296 V)(hN:4611686018427387904≤dotI V V)
  (h1: -4096<vdotF (rowsF q).a V∧vdotF (rowsF q).a V<4096) (h2: -4096<vdotF (rowsF q).b V∧vdotF (rowsF q).b V<4096) (h3: -4096<vdotF (rowsF q).c V∧vdotF (rowsF q).c V<4096):False:=by
 obtain⟨w,x,y,z⟩:=q;obtain⟨X,Y,Z⟩:=V;obtain⟨v1,v2,v3,v4,v5,v6⟩:=hV;obtain⟨bw,bx,by_,bz⟩:=hq;simp only at hS v1 v2 v3 v4 v5 v6 bw bx by_ bz;unfold vdotF dotI rowsF at h1 h2 h3;unfold dotI at hN;simp only at h1 h2 h3 hN;have r1:=row_bd (d2_near' (y+y) (z+z) y z) (d2_near (x+x) (w+w) y (-z)) (d2_near (x+x) (w+w) z y) ⟨v1,v2⟩ ⟨v3,v4⟩ ⟨v5,v6⟩ h1;have r2:=row_bd (d2_near (x+x) (w+w) y z) (d2_near' (x+x) (z+z) x z) (d2_near (y+y) (w+w) z (-x)) ⟨v1,v2⟩ ⟨v3,v4⟩ ⟨v5,v6⟩ h2;have r3:=row_bd (d2_near (x+x) (w+w) z (-y)) (d2_near (y+y) (w+w) z x) (d2_near' (x+x) (y+y) x y) ⟨v1,v2⟩ ⟨v3,v4⟩ ⟨v5,v6⟩ h3;have hn:=rot_norm w x y z X Y Z 18446744073709551616;have sw:=abs_mul bw bw;have sx:=abs_mul bx bx;have sy:=abs_mul by_ by_;have sz:=abs_mul bz bz;have hSu:w*w+x*x+y*y+z*z≤73786976294838206464:=by omega
 clear sw sx sy sz;generalize w*w+x*x+y*y+z*z=S at hS hSu hn;generalize(18446744073709551616-((y+y)*y+(z+z)*z))*X+((x+x)*y+(w+w)* -z)*Y+((x+x)*z+(w+w)*y)*Z=m1 at r1 hn;generalize((x+x)*y+(w+w)*z)*X+(18446744073709551616-((x+x)*x+(z+z)*z))*Y+((y+y)*z+(w+w)* -x)*Z=m2 at r2 hn;generalize((x+x)*z+(w+w)* -y)*X+((y+y)*z+(w+w)*x)*Y+(18446744073709551616-((x+x)*x+(y+y)*y))*Z=m3 at r3 hn;have alg:=rot_alg S 18446744073709551616 m1 m2 m3 X Y Z hn;generalize X*X+Y*Y+Z*Z=N at hN alg;have k1:=Int.mul_le_mul_of_nonneg_right (show(170141183460469231731687303715884105728:Int)≤18446744073709551616*(2*S-18446744073709551616) by omega) (show 0≤N by omega);have q1:=abs_mul r1 r1;have q2:=abs_mul r2 r2;have q3:=abs_mul r3 r3;have p1:=abs_mul r1 (⟨v1,v2⟩: -4294967296≤X∧X≤4294967296);have p2:=abs_mul r2 (⟨v3,v4⟩: -4294967296≤Y∧Y≤4294967296);have p3:=abs_mul r3 (⟨v5,v6⟩: -4294967296≤Z∧Z≤4294967296);have p4: -(3*(75613203958135452073984*4294967296))≤m1*X+m2*Y+m3*Z∧m1*X+m2*Y+m3*Z≤3*(75613203958135452073984*4294967296):=by omega
 have p5:=abs_mul (⟨by omega,by omega⟩: -(55340232221128654848:Int)≤18446744073709551616-S∧18446744073709551616-S≤55340232221128654848) p4;generalize(18446744073709551616-S)*(m1*X+m2*Y+m3*Z)=D at alg p5;generalize 18446744073709551616*(2*S-18446744073709551616)*N=E at alg k1;generalize m1*m1=M1 at alg q1;generalize m2*m2=M2 at alg q2;generalize m3*m3=M3 at alg q3;clear p1 p2 p3 p4 r1 r2 r3 hn h1 h2 h3 bw bx by_ bz;omega
theorem unit_norm (q:Q4)(h:0<lenF q):18446744039349813248≤(unitF q).w*(unitF q).w+(unitF q).x*(unitF q).x+(unitF q).y*(unitF q).y+(unitF q).z*(unitF q).z:=by
 obtain⟨w,x,y,z⟩:=q;have hw:=sq_nonneg w;have hx:=sq_nonneg x;have hy:=sq_nonneg y;have hz:=sq_nonneg z;obtain⟨h0,h2,h1⟩:=rtI_spec (v:=w*w+x*x+y*y+z*z) (by omega);have e:lenF ⟨w,x,y,z⟩=rtI (w*w+x*x+y*y+z*z):=rfl;rw[←e]at h0 h1 h2;have bw:=sq_le_bd (a:=w) h0 (by omega);have bx:=sq_le_bd (a:=x) h0 (by omega);have by_:=sq_le_bd (a:=y) h0 (by omega);have bz:=sq_le_bd (a:=z) h0 (by omega);unfold unitF;simp only;generalize lenF ⟨w,x,y,z⟩=L at h h0 h1 h2 bw bx by_ bz;have one:∀a:Int,-L≤a→a≤L→18446744073709551616*(a*a)-8589934592*(L*L)≤L*L*((a*4294967296 / L)*(a*4294967296 / L)):=by
  intro a ha1 ha2;have d1:=Int.emod_add_mul_ediv (a*4294967296) L;have d2:=Int.emod_nonneg (a*4294967296) (show L≠0 by omega);have d3:=Int.emod_lt_of_pos (a*4294967296) h;generalize a*4294967296 / L=c at d1;generalize a*4294967296%L=r at d1 d2 d3;have e1:L*c=4294967296*a-r:=by omega
  have e2:L*L*(c*c)=(4294967296*a-r)*(4294967296*a-r):=by rw[←e1];grind
  have e3:(4294967296*a-r)*(4294967296*a-r)=18446744073709551616*(a*a)-8589934592*(a*r)+r*r:=by grind
  have k1:=abs_mul (⟨ha1,ha2⟩: -L≤a∧a≤L) (⟨by omega,by omega⟩: -L≤r∧r≤L);have k2:=sq_nonneg r;rw[e2,e3];omega
 have o1:=one w bw.1 bw.2;have o2:=one x bx.1 bx.2;have o3:=one y by_.1 by_.2;have o4:=one z bz.1 bz.2;generalize w*4294967296 / L=c1 at o1;generalize x*4294967296 / L=c2 at o2;generalize y*4294967296 / L=c3 at o3;generalize z*4294967296 / L=c4 at o4;refine Int.le_of_mul_le_mul_left (a:=L*L) ?_ (Int.mul_pos h h);have e1:L*L*(c1*c1+c2*c2+c3*c3+c4*c4)=L*L*(c1*c1)+L*L*(c2*c2)+L*L*(c3*c3)+L*L*(c4*c4):=by grind
 have e2:L*L*18446744039349813248=18446744039349813248*(L*L):=Int.mul_comm _ _;rw[e1,e2];omega
theorem whole_norm (q:Q4):18446744039349813248≤(wholeF q).w*(wholeF q).w+(wholeF q).x*(wholeF q).x+(wholeF q).y*(wholeF q).y+(wholeF q).z*(wholeF q).z:=by
 unfold wholeF;split
 ·simp
 ·exact unit_norm q (by omega)
/-- a right pose turns no way into nought -/
theorem way_turned (p:P7)(x:P3)(hx:in3 1048576 x)(h0:x≠⟨0,0,0⟩):wayF (rowsF (rightPose p).turn) x≠⟨0,0,0⟩:=by
 have hq:=wholeF_q32 (partQ p.turn);have hS:=whole_norm (partQ p.turn);have hm:=rows_mOk hq;have hD:=dbl3_in x hx;have hf:=dbl3_far x h0;simp only[rightPose];generalize wholeF (partQ p.turn)=q at hq hS hm;unfold wayF;generalize dbl3 x=D at hD hf;have hV:=times_in hD;obtain⟨_,_,_,ht⟩:=turn_ok hm hV;have hfar:¬in3 524288 D:=fun h=>by rw[(far3_iff _ _ (by decide) (by decide)).2 h]at hf;cases hf
 have hd:=dotI_far D 524288 (by decide) (by unfold in3 at hfar;omega);have hN:4611686018427387904≤dotI (timesF D 4096) (timesF D 4096):=by
  have e:dotI (timesF D 4096) (timesF D 4096)=16777216*dotI D D:=by unfold dotI timesF;grind
  rw[e];omega
 refine short3_ne _ (tdv_in ht) fun e=>?_;unfold tdv3 at e;simp only[P3.mk.injEq]at e;obtain⟨e1,e2,e3⟩:=e;have zero:∀a:Int,a.tdiv 4096=0→ -4096<a∧a<4096:=fun a ha=>by
  rcases Int.le_total 0 a with h|h
  ·rw[Int.tdiv_eq_ediv_of_nonneg h]at ha;omega
  ·have:a.tdiv 4096= -((-a).tdiv 4096):=by rw[Int.neg_tdiv,Int.neg_neg]
   rw[this,Int.tdiv_eq_ediv_of_nonneg (by omega)]at ha;omega
 exact turn_long hq hS hV hN (zero _ e1) (zero _ e2) (zero _ e3)
theorem sort3 {l:List P3}{Q:P3→P3→P3→Prop}(s12:∀x y z,Q x y z→Q y x z)(s23:∀x y z,Q x y z→Q x z y)(hne:∀x y z,Q x y z→x≠y){a b c:P3}{i j k:Nat}(ha:l[i]?=some a)(hb:l[j]?=some b)(hc:l[k]?=some c)(h:Q a b c):
  ∃(i j k:Nat) (x y z:P3),i<j∧j<k∧l[i]?=some x∧l[j]?=some y∧l[k]?=some z∧Q x y z:=by
 have hij:i≠j:=fun e=>by rw[e,hb]at ha;cases ha;exact hne _ _ _ h rfl
 have hik:i≠k:=fun e=>by rw[e,hc]at ha;cases ha;exact hne _ _ _ (s23 _ _ _ h) rfl
 have hjk:j≠k:=fun e=>by rw[e,hc]at hb;cases hb;exact hne _ _ _ (s23 _ _ _ (s12 _ _ _ h)) rfl
 rcases Nat.lt_or_gt_of_ne hij with h1|h1<;>rcases Nat.lt_or_gt_of_ne hik with h2|h2<;>rcases Nat.lt_or_gt_of_ne hjk with h3|h3
 ·exact⟨i,j,k,a,b,c,h1,h3,ha,hb,hc,h⟩
 ·exact⟨i,k,j,a,c,b,h2,h3,ha,hc,hb,s23 _ _ _ h⟩
 ·omega
 ·exact⟨k,i,j,c,a,b,h2,h1,hc,ha,hb,s12 _ _ _ (s23 _ _ _ h)⟩
 ·exact⟨j,i,k,b,a,c,h1,h2,hb,ha,hc,s12 _ _ _ h⟩
 ·omega
 ·exact⟨j,k,i,b,c,a,h3,h2,hb,hc,ha,s23 _ _ _ (s12 _ _ _ h)⟩
 ·exact⟨k,j,i,c,b,a,h3,h1,hc,hb,ha,s23 _ _ _ (s12 _ _ _ (s23 _ _ _ h))⟩
theorem cross12 {x y z:P3}(h:crossI (subI y x) (subI z x)≠⟨0,0,0⟩):crossI (subI x y) (subI z y)≠⟨0,0,0⟩:=fun e=>h (by
 unfold crossI subI at*
 simp only[P3.mk.injEq]at*
 refine⟨?_,?_,?_⟩<;>grind)
theorem cross23 {x y z:P3}(h:crossI (subI y x) (subI z x)≠⟨0,0,0⟩):crossI (subI z x) (subI y x)≠⟨0,0,0⟩:=fun e=>h (by
 unfold crossI subI at*
 simp only[P3.mk.injEq]at*
 refine⟨?_,?_,?_⟩<;>grind)
theorem hull_axis {l axes edges:List P3}(hin:∀p∈l,in3 65536 p)(hf:¬FlatP l)(h:HullOk l axes edges):∃x∈axes,x≠⟨0,0,0⟩∧in3 1048576 x:=by
 obtain⟨a,b,c,n,ha,hb,hc,hn,hs,hzb,hzc,hx⟩:=support hin hf;have hza:dotI n (subI a a)=0:=by unfold dotI subI;simp
 obtain⟨ia,hia⟩:=List.getElem?_of_mem ha;obtain⟨ib,hib⟩:=List.getElem?_of_mem hb;obtain⟨ic,hic⟩:=List.getElem?_of_mem hc;obtain⟨i,j,k,x,y,z,hij,hjk,hxi,hyj,hzk,⟨zx,zy,zz⟩,hcr⟩:=sort3 (l:=l) (Q:=fun x y z=>(dotI n (subI x a)=0∧dotI n (subI y a)=0∧dotI n (subI z a)=0)∧crossI (subI y x) (subI z x)≠⟨0,0,0⟩)
  (fun x y z h=>⟨⟨h.1.2.1,h.1.1,h.1.2.2⟩,cross12 h.2⟩) (fun x y z h=>⟨⟨h.1.1,h.1.2.2,h.1.2.1⟩,cross23 h.2⟩)
  (fun x y z h e=>h.2 (by subst e;unfold crossI subI;simp)) hia hib hic ⟨⟨hza,hzb,hzc⟩,hx⟩
 have mx_:=List.mem_of_getElem? hxi;have my_:=List.mem_of_getElem? hyj;have mz_:=List.mem_of_getElem? hzk;have hsd:=side_of hin hn hs mx_ my_ mz_ zx zy zz;obtain⟨e,i1⟩:=nrm_at (hin _ mx_) (hin _ my_) (hin _ mz_);have hnn:nrm3 x y z≠⟨0,0,0⟩:=by rw[e];exact hcr
 have hil:i<l.length:=(List.getElem?_eq_some_iff.1 hxi).1;have hmem:=h.done i j k _ hij hjk (.inl hil) ⟨x,y,z,hxi,hyj,hzk,hnn,hsd,rfl⟩;obtain⟨hs1,_⟩:=side_spec hsd;refine⟨_,hmem,?_,?_⟩
 ·unfold axisF;refine short3_ne _ ?_ (sgn_ne hs1 hnn);rw[e];exact sgn_in (by rw[←e];exact hs1) i1
 ·unfold axisF;exact short3_in _
theorem ways_turned (p:P7){l:List P3}{x:P3}(hx:x∈l)(hi:in3 1048576 x)(h0:x≠⟨0,0,0⟩):∃y∈waysF (rowsF (rightPose p).turn) l,long3 y≠⟨0,0,0⟩:=by
 have h1:=way_turned p x hi h0;refine⟨wayF (rowsF (rightPose p).turn) x,?_,?_⟩
 ·unfold waysF;exact List.mem_filter.2 ⟨List.mem_map_of_mem hx,by simpa using h1⟩
 ·exact(long3_short _ (by unfold wayF;exact short3_in _) h1).2.1
/-- what a value of Cores is for Sound -/
theorem CoreAt.way {s:Shp}(hs:ShpOk s)(A:P3)(p7:P7)(ha:atOk A){w:World}{v:Value}(h:CoreAt s ⟨A,(rightPose p7).turn⟩ w v):∃p a e,CoreV w v p a e s.radius∧MayP p a e s.radius∧Ways p a:=by
 have hm:=(rightPose_ok p7).1;have hw:∀(l:List P3) (x:P3),x∈l→in3 1048576 x→x≠⟨0,0,0⟩→∃y∈waysF (rowsF (rightPose p7).turn) l,long3 y≠⟨0,0,0⟩:=fun l x hx hi h0=>ways_turned p7 hx hi h0;obtain⟨t,ht⟩:=nm_ ((rightPose p7).turn);rw[ht]at h hm hw;obtain⟨p,a,e,h1,h2⟩:=h;refine⟨p.map (placePt (rowsF t) A),waysF (rowsF t) a,waysF (rowsF t) e,h2,CoreIs.may (q:=⟨A,t⟩) hs h1 hm ha,?_⟩;unfold Ways;rcases h1 with⟨_,rfl,rfl,rfl⟩|⟨_,rfl,rfl,rfl⟩|⟨_,rfl,rfl,rfl⟩|⟨hk,rfl,hh⟩
 ·left;simp
 ·left;simp
 ·right;exact hw _ ⟨1,0,0⟩ (by simp) (by unfold in3;simp) (by simp)
 ·right;obtain⟨x,hx,h0,hi⟩:=hull_axis hs.pts (hs.hull hk).2 hh;exact hw _ x hx hi h0
theorem CoreIs.in8 {s:Shp}(hs:ShpOk s){p a e:List P3}(h:CoreIs s p a e){q:P7}(hm:mOk (rowsF q.turn))(ha:atOk q.at_):∀x∈p.map (placePt (rowsF q.turn) q.at_),in3 8388608 x:=by
 intro x hx;obtain⟨y,hy,rfl⟩:=List.mem_map.1 hx;exact place_in3 hm ha ((h.bounds hs).pin y hy)
theorem CoreAt.nearW {s:Shp}(hs:ShpOk s)(q:P7)(hm:mOk (rowsF q.turn))(ha:atOk q.at_)(hw:∀(l:List P3) (x:P3),x∈l→in3 1048576 x→x≠⟨0,0,0⟩→∃y∈waysF (rowsF q.turn) l,long3 y≠⟨0,0,0⟩)
  {w:World} {v:Value} (h:CoreAt s q w v):∃p a e,CoreV w v p a e s.radius∧MayP p a e s.radius∧Ways p a∧∀x∈p,in3 8388608 x:=by
 obtain⟨p,a,e,h1,h2⟩:=h;refine⟨_,_,_,h2,h1.may hs hm ha,?_,h1.in8 hs hm ha⟩;unfold Ways;rcases h1 with⟨_,rfl,rfl,rfl⟩|⟨_,rfl,rfl,rfl⟩|⟨_,rfl,rfl,rfl⟩|⟨hk,rfl,hh⟩
 ·left;simp
 ·left;simp
 ·right;exact hw _ ⟨1,0,0⟩ (by simp) (by unfold in3;simp) (by simp)
 ·right;obtain⟨x,hx,h0,hi⟩:=hull_axis hs.pts (hs.hull hk).2 hh;exact hw _ x hx hi h0
theorem CoreAt.near {s:Shp}(hs:ShpOk s)(A:P3)(p7:P7)(ha:atOk A){w:World}{v:Value}(h:CoreAt s ⟨A,(rightPose p7).turn⟩ w v):∃p a e,CoreV w v p a e s.radius∧MayP p a e s.radius∧Ways p a∧∀x∈p,in3 8388608 x:=by
 have hm:=(rightPose_ok p7).1;have hw:∀(l:List P3) (x:P3),x∈l→in3 1048576 x→x≠⟨0,0,0⟩→∃y∈waysF (rowsF (rightPose p7).turn) l,long3 y≠⟨0,0,0⟩:=fun l x hx hi h0=>ways_turned p7 hx hi h0;obtain⟨t,ht⟩:=nm_ ((rightPose p7).turn);rw[ht]at h hm hw;exact CoreAt.nearW hs ⟨A,t⟩ hm ha hw h
end Go.Proofs.YtckdhahceelckaaGreat.G
namespace Go.Proofs.YtckdhahceelckaaGreat.G
open Go.RowKit Go.Proofs.YtckdhahceelckaaGreatW.PrintWords Go.Proofs.YtckdhahceelckaaGreatW.PrintLast Go.Proofs.YtckdhahceelckaaGreatW.PrintMore
attribute [local go_sem] max2_mx min2_mn max_two min_two max_three min_three max_four min_four
attribute [local go_sem high] eqA23 eqA40
/-- a core of a shape that may be, placed -/
structure GoodC (c:Cr):Prop where
 may:c.may=true
 r0:1≤c.r
 r1:c.r≤16384
 ways:Ways c.p c.a
 near:∀x∈c.p,in3 8388608 x
 p1:c.p.length≤12
 a1:c.a.length≤110
 e1:c.e.length≤66
theorem CoreAt.good {s:Shp}(hs:ShpOk s)(q:P7)(hm:mOk (rowsF q.turn))(ha:atOk q.at_)(hw:∀(l:List P3) (x:P3),x∈l→in3 1048576 x→x≠⟨0,0,0⟩→∃y∈waysF (rowsF q.turn) l,long3 y≠⟨0,0,0⟩)
  {w:World} {v:Value} (h:CoreAt s q w v):∃c,CrV w v c∧GoodC c:=by
 obtain⟨p,a,e,h1,h2⟩:=h;have hB:=h1.bounds hs;refine⟨⟨p.map (placePt (rowsF q.turn) q.at_),waysF (rowsF q.turn) a,waysF (rowsF q.turn) e,s.radius⟩,h2,(mayF_iff ..).2 (h1.may hs hm ha),hs.r0,hs.r1,?_,h1.in8 hs hm ha,by simp only[List.length_map];exact hB.p1,Nat.le_trans (waysF_len _ _) hB.a1,Nat.le_trans (waysF_len _ _) hB.e1⟩;unfold Ways;rcases h1 with⟨_,rfl,rfl,rfl⟩|⟨_,rfl,rfl,rfl⟩|⟨_,rfl,rfl,rfl⟩|⟨hk,rfl,hh⟩
 ·left;simp
 ·left;simp
 ·right;exact hw _ ⟨1,0,0⟩ (by simp) (by unfold in3;simp) (by simp)
 ·right;obtain⟨x,hx,h0,hi⟩:=hull_axis hs.pts (hs.hull hk).2 hh;exact hw _ x hx hi h0
/-- a core's first point, read -/
theorem CrV.first {w:World}{B0:Option Addr}{n0 d0:Nat}{x1 x2 x3:Value}{c:Cr}(h:CrV w (.agg #[.slice B0 n0 d0,x1,x2,x3]) c)(hp:c.p≠[]):∃b o O,∃hO:c.p=O::c.p.tail,B0=some ⟨b,o,none⟩∧b<w.heap.size∧w.cell? ⟨b,o,none⟩=some (.int .i64 O.x)∧w.cell? ⟨b,o+1,none⟩=some (.int .i64 O.y)∧w.cell? ⟨b,o+2,none⟩=some (.int .i64 O.z)∧0<n0:=by
 obtain⟨A0,A1,A2,c0,c1,c2,e,q,_⟩:=h.out;obtain⟨O,pr,hO⟩:=List.exists_cons_of_ne_nil hp;rw[hO]at q;obtain⟨b,o,hA,lb,p0,p1,p2⟩:=q.1 0 O rfl;simp only[Nat.zero_mul,Nat.add_zero]at p0 p1 p2;injection e with e
 have e1:=congrArg (fun t:Array Value=>t[0]?) e;simp only[List.getElem?_toArray,List.getElem?_cons_zero,Option.some.injEq,Value.slice.injEq]at e1;obtain⟨e2,e3,_⟩:=e1;refine⟨b,o,O,by rw[hO];rfl,by rw[e2,hA],lb,p0,p1,p2,?_⟩;rw[e3,hO];simp
end Go.Proofs.YtckdhahceelckaaGreat.G
namespace Go.Proofs.YtckdhahceelckaaGreat.G
open Go.RowKit Go.Proofs.YtckdhahceelckaaGreatW.PrintWords Go.Proofs.YtckdhahceelckaaGreatW.PrintLast Go.Proofs.YtckdhahceelckaaGreatW.PrintMore
/-- where a shot may begin and end -/
structure ShotOk (a b:P3) (r:Int):Prop where
 ha:in3 4398046511104 a
 hw:in3 274877906944 ⟨b.x-a.x,b.y-a.y,b.z-a.z⟩
 r0:1≤r
 r1:r≤16384
theorem ShotOk.grA {a b:P3}{r:Int}(h:ShotOk a b r):in3 4194304 (grP a):=by
 have:=h.ha;unfold in3 grP gr at*;simp only;omega
theorem ShotOk.hb {a b:P3}{r:Int}(h:ShotOk a b r):in3 4672924418048 b:=by
 have:=h.ha;have:=h.hw;unfold in3 at*;simp only at*;omega
theorem ShotOk.way {a b:P3}{r:Int}(h:ShotOk a b r):in3 262145 (wayC a b):=by
 have:=h.hw;unfold in3 wayC gr at*;simp only at*;omega
theorem ShotOk.ball {a b:P3}{r:Int}(h:ShotOk a b r):(ballC a r).may=true:=mayOne (in3_le (by decide) h.grA) (by have:=h.r0;omega) (by have:=h.r1;omega)
theorem ShotOk.may {a b:P3}{r:Int}(h:ShotOk a b r):holdMay a b r=true:=
 (holdMay_iff ..).2 ⟨h.ball,in3_le (by decide) h.ha,in3_le (by decide) h.hb,in3_le (by decide) h.way⟩
theorem ShotOk.smay {a b:P3}{r:Int}(h:ShotOk a b r):smay (ballC a r) (wayC a b)=true:=(smay_iff ..).2 ⟨h.ball,by simp[ballC],in3_le (by decide) h.way⟩
theorem ball_pts {a P:P3}{r:Int}(hP:P∈(ballC a r).p):P=grP a:=by simpa[ballC]using hP
theorem ShotOk.castOk {a b:P3}{r:Int}(h:ShotOk a b r){d:Cr}(hd:d.may=true):castOk (ballC a r) (wayC a b) d=true:=
 castOk_near h.ball hd (by simp[ballC]) (fun P hP=>by rw[ball_pts hP];exact in3_le (by decide) h.grA) (in3_le (by decide) h.way)
end Go.Proofs.YtckdhahceelckaaGreat.G
