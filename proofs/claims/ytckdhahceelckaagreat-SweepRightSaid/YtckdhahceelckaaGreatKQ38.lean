/- What the laws of this claim lean on: contracts of functions and plain lemmas; no condition of its own (part 38: XV6). -/
import Derived.Test.YtckdhahceelckaaGreatKQ22
set_option maxHeartbeats 16000000
set_option maxRecDepth 100000
set_option linter.unusedVariables false
set_option linter.unusedSimpArgs false
namespace Go.Proofs.YtckdhahceelckaaGreat.G
open Go.RowKit Go.Proofs.YtckdhahceelckaaGreatW.PrintWords Go.Proofs.YtckdhahceelckaaGreatW.PrintLast Go.Proofs.YtckdhahceelckaaGreatW.PrintMore
/-- are they met? -/
def overB (c d:Cr):Bool:=(apS c d).2&&decide ((apS c d).1.2<1)
def overF (c:Cr):Nat→List Cr→List Nat
 |_,[]=>[]
 |i,d::l=>if overB c d=true then i::overF c (i+1) l else overF c (i+1) l
theorem overF_snoc (c:Cr)(l:List Cr):∀(i:Nat) (d:Cr),overF c i (l++[d])=overF c i l++(if overB c d=true then[i+l.length]else[]):=by
 induction l with
 |nil=>intro i d;simp[overF]
 |cons x l ih=>
  intro i d;rw[List.cons_append,overF,overF,ih];have:i+1+l.length=i+(x::l).length:=by simp;omega
  rw[this];split<;>simp
/-- the place of the least one of those that are, the first one of equals -/
def leastF {α:Type}(z:α)(ask:Nat→α×Bool)(lt:α→α→Bool):Nat→Int×α
 |0=>(-1,z)
 |i+1=>if(ask i).2=true∧((leastF z ask lt i).1<0∨lt (ask i).1 (leastF z ask lt i).2=true)then((i:Int),(ask i).1)else leastF z ask lt i
theorem leastF_bd {α:Type}(z:α)(ask:Nat→α×Bool)(lt:α→α→Bool)(n:Nat): -1≤(leastF z ask lt n).1∧(leastF z ask lt n).1<n:=by
 induction n with
 |zero=>simp[leastF]
 |succ n ih=>
  rw[leastF];split
  ·simp only;omega
  ·omega
def nearZ:P3×Int:=(⟨0,0,0⟩,0)
/-- the nearest of some -/
def nearL (c:Cr)(l:List Cr):Int×(P3×Int):=leastF nearZ (fun i=>match l[i]? with|some d=>apS c d|none=>(nearZ,false)) (fun x y=>decide (x.2<y.2)) l.length
/-- what Ray asks of one -/
def rayAsk (c:Cr)(y:P3)(d:Cr):Nat×Bool:=((castF c y d).1.1,(castF c y d).2&&(decide ((castF c y d).1.1<16) || decide ((castF c y d).1.2.2<0)))
def rayL (c:Cr)(y:P3)(l:List Cr):Int×Nat:=leastF 0 (fun i=>match l[i]? with|some d=>rayAsk c y d|none=>(0,false)) (fun a b=>decide (a<b)) l.length
def rayF (x y:P3)(l:List Cr):(Int×Nat)×Bool:=
 if smay ⟨[x],[],[],0⟩ y=true then(if(rayL ⟨[x],[],[],0⟩ y l).1<0 then((-1,16),false)else(rayL ⟨[x],[],[],0⟩ y l,true))else((-1,0),false)
end Go.Proofs.YtckdhahceelckaaGreat.G
