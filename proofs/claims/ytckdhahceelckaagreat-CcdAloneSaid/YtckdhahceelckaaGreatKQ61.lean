/- What the laws of this claim lean on: contracts of functions and plain lemmas; no condition of its own (part 61: XG15). -/
import Derived.Test.YtckdhahceelckaaGreatKQ15
set_option maxHeartbeats 16000000
set_option maxRecDepth 100000
set_option linter.unusedVariables false
set_option linter.unusedSimpArgs false
namespace Go.Proofs.YtckdhahceelckaaGreat.G
open Go.RowKit Go.Proofs.YtckdhahceelckaaGreatW.PrintWords
theorem negI_zero_iff (p:P3):negI p=⟨0,0,0⟩↔p=⟨0,0,0⟩:=by
 cases p;unfold negI;simp only[P3.mk.injEq];omega
theorem in3_negI {n:Int}{p:P3}:in3 n (negI p)↔in3 n p:=by unfold in3 negI;simp only;omega
theorem far3_negI (n:Int)(p:P3)(h0:0≤n)(h1:n≤9223372036854775807):far3 n (negI p)=far3 n p:=by
 have a:=far3_iff n p h0 h1;have b:=far3_iff n (negI p) h0 h1;rw[in3_negI]at b;cases h:far3 n p<;>cases h':far3 n (negI p)<;>simp_all
theorem gcd3_negI (p:P3):gcd3 (negI p)=gcd3 p:=by
 unfold gcd3 negI;simp only[Int.gcd_neg,Int.neg_gcd]
theorem div3_negI (n:Int)(p:P3):div3 n (negI p)=negI (div3 n p):=by
 unfold div3 negI;simp only[Int.neg_tdiv]
theorem bare3_negI (p:P3):bare3 (negI p)=negI (bare3 p):=by
 unfold bare3;rw[gcd3_negI,div3_negI]
theorem halve3_negI (p:P3):halve3 (negI p)=negI (halve3 p):=by
 induction p using halve3.induct with
 |case1 p h ih=>
  rw[halve3,dif_pos (by rw[far3_negI _ _ (by decide) (by decide)];exact h),div3_negI,ih]
  conv=>rhs;rw[halve3,dif_pos h]
 |case2 p h=>
  rw[halve3,dif_neg (by rw[far3_negI _ _ (by decide) (by decide)];exact h)]
  conv=>rhs;rw[halve3,dif_neg h]
theorem short3_negI (p:P3):short3 (negI p)=negI (short3 p):=by
 unfold short3;have e:(far3 4398046511104 (negI p)=true∨negI p=⟨0,0,0⟩)↔(far3 4398046511104 p=true∨p=⟨0,0,0⟩):=by
  rw[far3_negI _ _ (by decide) (by decide),negI_zero_iff]
 by_cases h:far3 4398046511104 p=true∨p=⟨0,0,0⟩
 ·rw[if_pos (e.2 h),if_pos h];rfl
 ·rw[if_neg (fun k=>h (e.1 k)),if_neg h,bare3_negI,halve3_negI,bare3_negI]
theorem two3_negI (p:P3):two3 (negI p)=negI (two3 p):=by
 unfold two3 negI;simp only[Int.mul_neg]
theorem dbl3_negI (p:P3):dbl3 (negI p)=negI (dbl3 p):=by
 induction p using dbl3.induct with
 |case1 p h=>
  rw[dbl3,dif_pos (by rw[far3_negI _ _ (by decide) (by decide),negI_zero_iff];exact h)]
  conv=>rhs;rw[dbl3,dif_pos h]
 |case2 p h ih=>
  rw[dbl3,dif_neg (by rw[far3_negI _ _ (by decide) (by decide),negI_zero_iff];exact h),two3_negI,ih]
  conv=>rhs;rw[dbl3,dif_neg h]
theorem long3_negI (p:P3):long3 (negI p)=negI (long3 p):=by unfold long3;rw[short3_negI,dbl3_negI]
/-- the told gap is the widest -/
theorem apF_top (a0:P3)(ar:List P3)(ra:Int)(b0:P3)(br:List P3)(rb:Int)(l:List P3):
  ∀x∈l,long3 x≠⟨0,0,0⟩→(gapsF (long3 x) a0 ar ra b0 br rb).1≤(apF a0 ar ra b0 br rb l).1.2∧(gapsF (long3 x) a0 ar ra b0 br rb).2≤(apF a0 ar ra b0 br rb l).1.2:=by
 have st:∀(s:(P3×Int)×Bool) (n:P3),long3 n≠⟨0,0,0⟩→(apStep a0 ar ra b0 br rb s n).2=false∧(s.2=false→s.1.2≤(apStep a0 ar ra b0 br rb s n).1.2)∧
   (gapsF (long3 n) a0 ar ra b0 br rb).1≤(apStep a0 ar ra b0 br rb s n).1.2∧(gapsF (long3 n) a0 ar ra b0 br rb).2≤(apStep a0 ar ra b0 br rb s n).1.2:=by
  intro s n h;unfold apStep;rw[if_neg h];obtain⟨⟨ax,g⟩,fl⟩:=s;generalize gapsF (long3 n) a0 ar ra b0 br rb=t;obtain⟨t1,t2⟩:=t;simp only;by_cases h1:fl=true∨g<t1
  ·simp only[h1,if_true];by_cases h2:t1<t2
   ·simp only[h2,if_true];refine⟨trivial,fun hf=>?_,?_,?_⟩
    ·rcases h1 with h1|h1
     ·rw[hf]at h1;cases h1
     ·omega
    ·omega
    ·omega
   ·simp only[h2,if_false];refine⟨trivial,fun hf=>?_,?_,?_⟩
    ·rcases h1 with h1|h1
     ·rw[hf]at h1;cases h1
     ·omega
    ·omega
    ·omega
  ·simp only[h1,if_false];have h1':¬g<t1:=fun e=>h1 (.inr e);by_cases h2:g<t2
   ·simp only[h2,if_true];exact⟨trivial,fun _=>by omega,by omega,by omega⟩
   ·simp only[h2,if_false];exact⟨trivial,fun _=>by omega,by omega,by omega⟩
 have gen:∀(l:List P3) (s:(P3×Int)×Bool),(s.2=false→s.1.2≤(l.foldl (apStep a0 ar ra b0 br rb) s).1.2)∧∀x∈l,long3 x≠⟨0,0,0⟩→
   (gapsF (long3 x) a0 ar ra b0 br rb).1≤(l.foldl (apStep a0 ar ra b0 br rb) s).1.2∧(gapsF (long3 x) a0 ar ra b0 br rb).2≤(l.foldl (apStep a0 ar ra b0 br rb) s).1.2:=by
  intro l
  induction l with
  |nil=>intro s;exact⟨fun _=>Int.le_refl _,fun x hx=>by simp at hx⟩
  |cons n l ih=>
   intro s;rw[List.foldl_cons];obtain⟨i1,i2⟩:=ih (apStep a0 ar ra b0 br rb s n);by_cases h:long3 n=⟨0,0,0⟩
   ·have e:apStep a0 ar ra b0 br rb s n=s:=by unfold apStep;rw[if_pos h]
    rw[e]at i1 i2⊢;refine⟨i1,fun x hx h0=>?_⟩;rcases List.mem_cons.1 hx with rfl|hx
    ·exact absurd h h0
    ·exact i2 x hx h0
   ·obtain⟨s1,s2,s3,s4⟩:=st s n h;have i1:=i1 s1;refine⟨fun hf=>Int.le_trans (s2 hf) i1,fun x hx h0=>?_⟩;rcases List.mem_cons.1 hx with rfl|hx
    ·exact⟨Int.le_trans s3 i1,Int.le_trans s4 i1⟩
    ·exact i2 x hx h0
 exact(gen l _).2
end Go.Proofs.YtckdhahceelckaaGreat.G
