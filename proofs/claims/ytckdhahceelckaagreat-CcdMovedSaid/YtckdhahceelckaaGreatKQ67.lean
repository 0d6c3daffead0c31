/- What the laws of this claim lean on: contracts of functions and plain lemmas; no condition of its own (part 67: XC2, XM2, XW18). -/
import Derived.Test.YtckdhahceelckaaGreatKQ30
import Derived.Test.YtckdhahceelckaaGreatKQ62
import Derived.Test.YtckdhahceelckaaGreatKQ64
set_option maxHeartbeats 16000000
set_option maxRecDepth 100000
set_option linter.unusedVariables false
set_option linter.unusedSimpArgs false
namespace Go.Proofs.YtckdhahceelckaaGreat.G
open Go.RowKit Go.Proofs.YtckdhahceelckaaGreatW.PrintWords Go.Proofs.YtckdhahceelckaaGreatW.PrintLast Go.Proofs.YtckdhahceelckaaGreatW.PrintMore
/-- a core moved by grains -/
def movC (g:P3)(c:Cr):Cr:=⟨c.p.map (plusI g),c.a,c.e,c.r⟩
theorem movC_may {c:Cr}(hc:c.may=true){g:P3}(hg:in3 1048576 g)(hp:∀x∈c.p,in3 8388608 x):(movC g c).may=true:=
 (mayF_iff ..).2 ((Cr.mayP hc).moved hg hp)
theorem apS_moved {c d:Cr}(hc:c.may=true)(hd:d.may=true){g:P3}(hg:in3 1048576 g)(hp:∀x∈c.p,in3 8388608 x)(hq:∀x∈d.p,in3 8388608 x):apS (movC g c) (movC g d)=apS c d:=by
 rw[apS_val (movC_may hc hg hp) (movC_may hd hg hq),apS_val hc hd];show(apartF (c.p.map (plusI g)) c.a c.e c.r (d.p.map (plusI g)) d.a d.e d.r,true)=_;rw[apart_moved (Cr.mayP hc) (Cr.mayP hd) hg hp hq]
theorem plusI_comm (g h x:P3):plusI g (plusI h x)=plusI h (plusI g x):=by
 unfold plusI;simp only[P3.mk.injEq];omega
theorem smay_moved {c:Cr}{y:P3}(hs:smay c y=true){g:P3}(hg:in3 1048576 g)(hp:∀x∈c.p,in3 8388608 x):smay (movC g c) y=true:=by
 obtain⟨a,b,d⟩:=(smay_iff ..).1 hs;exact(smay_iff ..).2 ⟨movC_may a hg hp,by show(c.p.map (plusI g)).length≤16;rw[List.length_map];exact b,d⟩
theorem trailM_moved {c:Cr}{y:P3}(hs:smay c y=true){g:P3}(hg:in3 1048576 g)(hp:∀x∈c.p,in3 8388608 x){k:Int}(h0:0≤k)(h1:k≤16):trailF (movC g c) y k=movC g (trailF c y k):=by
 rw[trailF_yes (smay_moved hs hg hp) h0 h1,trailF_yes hs h0 h1];unfold movC;simp only[List.map_append,List.map_map,Cr.mk.injEq,and_true];congr 1;apply List.map_congr_left;intro x _;exact(plusI_comm g (partP y k) x).symm
theorem trailM_in {c:Cr}{y:P3}(hs:smay c y=true)(hp:∀x∈c.p,in3 4194304 x){k:Int}(h0:0≤k)(h1:k≤16):∀x∈(trailF c y k).p,in3 8388608 x:=by
 rw[trailF_yes hs h0 h1];intro x hx;rcases List.mem_append.1 hx with h|h
 ·exact in3_le (by decide) (hp x h)
 ·obtain⟨z,hz,rfl⟩:=List.mem_map.1 h;exact part_in ((smay_iff ..).1 hs).2.2 (hp z hz) h0 h1
theorem step_moved {c d:Cr}{y:P3}(hs:smay c y=true)(hd:d.may=true){g:P3}(hg:in3 1048576 g)(hp:∀x∈c.p,in3 4194304 x)(hq:∀x∈d.p,in3 8388608 x){k:Int}(h0:0≤k)(h1:k≤16):apS (trailF (movC g c) y k) (movC g d)=apS (trailF c y k) d:=by
 rw[trailM_moved hs hg (fun x hx=>in3_le (by decide) (hp x hx)) h0 h1];exact apS_moved (trail_may8 hs hp h0 h1) hd hg (trailM_in hs hp h0 h1) hq
theorem cast_moved {c d:Cr}{y:P3}(hs:smay c y=true)(hd:d.may=true){g:P3}(hg:in3 1048576 g)(hp:∀x∈c.p,in3 4194304 x)(hq:∀x∈d.p,in3 8388608 x):castF (movC g c) y (movC g d)=castF c y d:=by
 have hc:=((smay_iff ..).1 hs).1;have hp8:∀x∈c.p,in3 8388608 x:=fun x hx=>in3_le (by decide) (hp x hx);have e0:=apS_moved hc hd hg hp8 hq;have ok1:castOk c y d=true:=(castOk_iff ..).2 ⟨hc,hd,hs,trail_may8 hs hp (by decide) (by decide)⟩;have ok2:castOk (movC g c) y (movC g d)=true:=by
  unfold castOk at ok1⊢;rw[e0,smay_moved hs hg hp8,step_moved hs hd hg hp hq (by decide) (by decide)];simpa[hs]using ok1
 have L:∀(n k:Nat) (x:P3×Int),k+n≤16→castL (movC g c) y (movC g d) n k x=castL c y d n k x:=by
  intro n
  induction n with
  |zero=>intro k x _;rfl
  |succ n ih=>
   intro k x h;rw[castL,castL,step_moved hs hd hg hp hq (by omega) (by omega),ih _ _ (by omega)]
 unfold castF;rw[if_pos ok1,if_pos ok2,e0,L 16 0 _ (by decide)]
/-- grains, as a place -/
def gF (g:P3):P3:=⟨g.x*1048576,g.y*1048576,g.z*1048576⟩
theorem gr_moved (x g:Int):gr (x+g*1048576)=gr x+g:=by unfold gr;omega
theorem grP_moved (a g:P3):grP (plusI (gF g) a)=plusI g (grP a):=by
 unfold grP plusI gF;simp only[gr_moved]
theorem wayC_moved (a b g:P3):wayC (plusI (gF g) a) (plusI (gF g) b)=wayC a b:=by
 unfold wayC plusI gF;simp only[gr_moved,P3.mk.injEq];omega
theorem ballC_moved (a g:P3)(r:Int):ballC (plusI (gF g) a) r=movC g (ballC a r):=by
 unfold ballC movC;rw[grP_moved];rfl
theorem outP_moved (a b g:P3)(k:Int):outP (plusI (gF g) a) (plusI (gF g) b) k=plusI (gF g) (outP a b k):=by
 unfold outP outC plusI gF;simp only[P3.mk.injEq];refine⟨?_,?_,?_⟩
 ·rw[show b.x+g.x*1048576-(a.x+g.x*1048576)=b.x-a.x by omega];omega
 ·rw[show b.y+g.y*1048576-(a.y+g.y*1048576)=b.y-a.y by omega];omega
 ·rw[show b.z+g.z*1048576-(a.z+g.z*1048576)=b.z-a.z by omega];omega
theorem least_moved {c:Cr}{y:P3}(hs:smay c y=true){g:P3}(hg:in3 1048576 g)(hp:∀x∈c.p,in3 4194304 x)(l:List Cr):∀m,(∀d∈l,d.may=true∧∀x∈d.p,in3 8388608 x)→leastH (movC g c) y m (l.map (movC g))=leastH c y m l:=by
 induction l with
 |nil=>intro m _;rfl
 |cons d l ih=>
  intro m h;have hd:=h d (by simp);have e:hstep (movC g c) y m (movC g d)=hstep c y m d:=by
   unfold hstep;rw[cast_moved hs hd.1 hg hp hd.2]
  show leastH (movC g c) y (hstep (movC g c) y m (movC g d)) (l.map (movC g))=leastH c y (hstep c y m d) l;rw[e];exact ih _ fun z hz=>h z (by simp[hz])
/-- CcdMoved -/
theorem hold_moved {a b:P3}{r:Int}(h:ShotOk a b r){g:P3}(hg:in3 1048576 g)(l:List Cr)(hl:∀d∈l,d.may=true∧∀x∈d.p,in3 8388608 x):
  holdF (plusI (gF g) a) (plusI (gF g) b) r (l.map (movC g))=(plusI (gF g) (holdF a b r l).1,(holdF a b r l).2):=by
 have hp:∀x∈(ballC a r).p,in3 4194304 x:=fun x hx=>by
  have:x=grP a:=by simpa[ballC]using hx
  rw[this];exact h.grA
 have e:holdK (plusI (gF g) a) (plusI (gF g) b) r (l.map (movC g))=holdK a b r l:=by
  unfold holdK;rw[ballC_moved,wayC_moved,least_moved h.smay hg hp l 16 hl];have m1:=h.may;have m2:holdMay (plusI (gF g) a) (plusI (gF g) b) r=true:=by
   refine(holdMay_iff ..).2 ⟨?_,?_,?_,?_⟩
   ·rw[ballC_moved];exact movC_may h.ball hg fun x hx=>in3_le (by decide) (hp x hx)
   ·have:=h.ha;show in3 1125899906842624 _;unfold in3 plusI gF at*;simp only;omega
   ·have:=h.hb;show in3 1125899906842624 _;unfold in3 plusI gF at*;simp only;omega
   ·rw[wayC_moved];exact in3_le (by decide) h.way
  rw[if_pos m1,if_pos m2]
 unfold holdF;rw[e,outP_moved]
end Go.Proofs.YtckdhahceelckaaGreat.G
namespace Go.Proofs.YtckdhahceelckaaGreat.G
open Go.RowKit Go.Proofs.YtckdhahceelckaaGreatW.PrintWords Go.Proofs.YtckdhahceelckaaGreatW.PrintLast Go.Proofs.YtckdhahceelckaaGreatW.PrintMore
attribute [local go_sem] max2_mx min2_mn max_two min_two max_three min_three max_four min_four
attribute [local go_sem high] eqA23
theorem gb_own {w w1 w2:World}{g:Nat}{v:Value}(h:w.grownBy w1 (some g))(k:w1.grownBy w2 v.ownBlock)(hv:∀j,v.ownBlock=some j→w.heap.size≤j):w.grownBy w2 (some g):=
 ⟨k.os.trans h.os,k.tape.trans h.tape,k.output.trans h.output,Nat.le_trans h.size k.size,fun j hj hk=>(k.block j (Nat.lt_of_lt_of_le hj h.size) (fun e=>by have:=hv j e.symm;omega)).trans (h.block j hj hk)⟩
end Go.Proofs.YtckdhahceelckaaGreat.G
namespace Go.Proofs.YtckdhahceelckaaGreat.G
open Go.RowKit Go.Proofs.YtckdhahceelckaaGreatW.PrintWords Go.Proofs.YtckdhahceelckaaGreatW.PrintLast Go.Proofs.YtckdhahceelckaaGreatW.PrintMore
attribute [local go_sem] max2_mx min2_mn max_two min_two max_three min_three max_four min_four
theorem bb1 {B:Nat}{A W:World}{g:Nat}(h:Below B A W)(hg:B≤g)(a0:Value):Below B A (W.setCell ⟨g,0,none⟩ a0):=(h.setCell (p:=⟨g,0,none⟩) hg a0)
end Go.Proofs.YtckdhahceelckaaGreat.G
