/- What the laws of this claim lean on: contracts of functions and plain lemmas; no condition of its own (part 32: XV24). -/
import Derived.Test.YtckdhahceelckaaGreatKQ25
set_option maxHeartbeats 16000000
set_option maxRecDepth 100000
set_option linter.unusedVariables false
set_option linter.unusedSimpArgs false
namespace Go.Proofs.YtckdhahceelckaaGreat.G
open Go.RowKit Go.Proofs.YtckdhahceelckaaGreatW.PrintWords Go.Proofs.YtckdhahceelckaaGreatW.PrintLast Go.Proofs.YtckdhahceelckaaGreatW.PrintMore
attribute [local go_sem] max2_mx min2_mn max_two min_two max_three min_three max_four min_four
attribute [local go_sem high] eqA23 eqA40
theorem rway_calls (y:P3)(w:World):Calls Tryz.prog 83 #[aP y] w fun e w'=>e= .returned (.bool (wayOk y))∧Below w.heap.size w w':=by
 have HW:=Lh (wayOk_iff y);obtain⟨yx,yy,yz⟩:=y;have HB:=Lh ((Below.refl _ w).alloc (Nat.le_refl _) (.cells #[.int .i64 yx, .int .i64 yy, .int .i64 yz] 23));by_cases t0: -4194304≤yx
 ·have e0:decide (-4194304≤yx)=true:=decide_eq_true t0;by_cases t1:yx≤4194304
  ·have e1:decide (yx≤4194304)=true:=decide_eq_true t1;by_cases t2: -4194304≤yy
   ·have e2:decide (-4194304≤yy)=true:=decide_eq_true t2;by_cases t3:yy≤4194304
    ·have e3:decide (yy≤4194304)=true:=decide_eq_true t3;by_cases t4: -4194304≤yz
     ·have e4:decide (-4194304≤yz)=true:=decide_eq_true t4;by_cases t5:yz≤4194304
      ·have e5:decide (yz≤4194304)=true:=decide_eq_true t5;have HR:Hid (wayOk ⟨yx,yy,yz⟩=true):=Lh (HW.out.2 (by unfold in3;simp only;omega));rw[HR.out];clear HW t0 t1 t2 t3 t4 t5 HR;go_enter Tryz.func83,Tryz.ntmps83;go_wp2
       go_ret
       exact⟨rfl,HB.out⟩
      ·have e5:decide (yz≤4194304)=false:=decide_eq_false t5
       have HR:Hid (wayOk ⟨yx,yy,yz⟩=false):=Lh (by
        cases h:wayOk ⟨yx,yy,yz⟩
        ·rfl
        ·have:=HW.out.1 h
         unfold in3 at this
         simp only at this
         omega)
       rw[HR.out];clear HW t0 t1 t2 t3 t4 t5 HR;go_enter Tryz.func83,Tryz.ntmps83;go_wp2
       go_ret
       exact⟨rfl,HB.out⟩
     ·have e4:decide (-4194304≤yz)=false:=decide_eq_false t4
      have HR:Hid (wayOk ⟨yx,yy,yz⟩=false):=Lh (by
       cases h:wayOk ⟨yx,yy,yz⟩
       ·rfl
       ·have:=HW.out.1 h
        unfold in3 at this
        simp only at this
        omega)
      rw[HR.out];clear HW t0 t1 t2 t3 t4 HR;go_enter Tryz.func83,Tryz.ntmps83;go_wp2
      go_ret
      exact⟨rfl,HB.out⟩
    ·have e3:decide (yy≤4194304)=false:=decide_eq_false t3
     have HR:Hid (wayOk ⟨yx,yy,yz⟩=false):=Lh (by
      cases h:wayOk ⟨yx,yy,yz⟩
      ·rfl
      ·have:=HW.out.1 h
       unfold in3 at this
       simp only at this
       omega)
     rw[HR.out];clear HW t0 t1 t2 t3 HR;go_enter Tryz.func83,Tryz.ntmps83;go_wp2
     go_ret
     exact⟨rfl,HB.out⟩
   ·have e2:decide (-4194304≤yy)=false:=decide_eq_false t2
    have HR:Hid (wayOk ⟨yx,yy,yz⟩=false):=Lh (by
     cases h:wayOk ⟨yx,yy,yz⟩
     ·rfl
     ·have:=HW.out.1 h
      unfold in3 at this
      simp only at this
      omega)
    rw[HR.out];clear HW t0 t1 t2 HR;go_enter Tryz.func83,Tryz.ntmps83;go_wp2
    go_ret
    exact⟨rfl,HB.out⟩
  ·have e1:decide (yx≤4194304)=false:=decide_eq_false t1
   have HR:Hid (wayOk ⟨yx,yy,yz⟩=false):=Lh (by
    cases h:wayOk ⟨yx,yy,yz⟩
    ·rfl
    ·have:=HW.out.1 h
     unfold in3 at this
     simp only at this
     omega)
   rw[HR.out];clear HW t0 t1 HR;go_enter Tryz.func83,Tryz.ntmps83;go_wp2
   go_ret
   exact⟨rfl,HB.out⟩
 ·have e0:decide (-4194304≤yx)=false:=decide_eq_false t0
  have HR:Hid (wayOk ⟨yx,yy,yz⟩=false):=Lh (by
   cases h:wayOk ⟨yx,yy,yz⟩
   ·rfl
   ·have:=HW.out.1 h
    unfold in3 at this
    simp only at this
    omega)
  rw[HR.out];clear HW t0 HR;go_enter Tryz.func83,Tryz.ntmps83;go_wp2
  go_ret
  exact⟨rfl,HB.out⟩
theorem take128 (l:List P3)(k:Nat)(h:k<l.length):((l.take (k+1)).filter nz).take 128=if nz l[k]=true∧(((l.take k).filter nz).take 128).length<128 then((l.take k).filter nz).take 128++[l[k]]else((l.take k).filter nz).take 128:=by
 rw[List.take_succ_eq_append_getElem h,List.filter_append];obtain⟨F,hF⟩:=nm_ ((l.take k).filter nz);obtain⟨x,hx⟩:=nm_ (l[k]);rw[hF,hx];by_cases hz:nz x=true
 ·have e1:[x].filter nz=[x]:=by simp[hz]
  rw[e1];by_cases hl:F.length<128
  ·have e2:(F++[x]).take 128=F++[x]:=List.take_of_length_le (by simp;omega);have e3:F.take 128=F:=List.take_of_length_le (by omega);rw[e2,e3,if_pos ⟨hz,hl⟩]
  ·have e2:(F++[x]).take 128=F.take 128:=List.take_append_of_le_length (by omega);rw[e2,if_neg (fun t=>by have:=t.2;rw[List.length_take]at this;omega)]
 ·have e1:[x].filter nz=[]:=by simp[hz]
  rw[e1,List.append_nil,if_neg (fun t=>hz t.1)]
theorem rwith_calls (l m:List P3)(n k:Nat)(A B:Option Addr)(c d:Nat)(w:World)(hn:l.length=n)(hk:m.length=k)(hA:Rd w A l)(hB:Rd w B m)(hn1:n≤10000)(hk1:k≤10000):
  Calls Tryz.prog 86 #[.slice A n c, .slice B k d] w (PtsPostB (withF l m) w):=by
 have HA:=Lh hA;have HB:=Lh hB;have HN:=Lh hn;have HK:=Lh hk;have HLL:Hid ((l++m).length=n+k):=Lh (by rw[List.length_append,hn,hk]);have HTK:=Lh (fun i (h:i<(l++m).length)=>take128 (l++m) i h);have htw:(l++m).take (n+k)=l++m:=List.take_of_length_le (by rw[HLL.out];exact Nat.le_refl _);have HWF:Hid (withF l m=((((l++m).take (n+k)).filter nz).take 128)):=Lh (by rw[htw];rfl);clear htw;obtain⟨L,hL⟩:=nm_ (l++m);rw[hL]at HLL HTK HWF;have HL:=Lh hL;rw[HWF.out];clear hn hk hA hB hL;go_enter Tryz.func86,Tryz.ntmps86
 go_wp2_with(first
  |(at_builtin;refine appL_ w.heap.size rfl _ _ rfl (.slice none 0 0) [] l A _ _ rfl rfl (OwnP.nil _ _) HA.out HN.out (by simp;omega) (Nat.le_refl _) ?_;intro v2 w2 hv hg hat;have S2:=Lh ((CSt.start w).app hv hg hat);clear hv hg hat)
  |(at_builtin;refine appL_ w.heap.size rfl _ _ rfl v2 ([]++l) m B _ _ rfl rfl S2.own (HB.below S2.below) HK.out (by have:=HN.out;simp;omega) S2.below.size ?_;intro v3 w3 hv hg hat;have S3:=Lh ((S2.out.app hv hg hat).len (show([]++l)++m=L from HL.out));clear hv hg hat))
 clear S2;obtain⟨A3,c3,rfl,hc3,R3,K3⟩:=S3.own.rdB2;rw[HLL.out]at hc3⊢;have R3:=Lh R3;have HB3:=Lh S3.below;clear S3 K3;go_loopw [7,6] (fun v7 v6 wr=>∃i:Nat,i≤n+k∧v7= .int .i64 i∧Hid (CSt w3 wr v6 (((L.take i).filter nz).take 128) [])) (fun i _ _=>(n+k)-(intOf i).toNat)
 case atStart=>exact⟨0,by omega,rfl,Lh ((CSt.start w3).len rfl)⟩
 case round=>
  obtain⟨i,hi,rfl,hS⟩:=hrel;obtain⟨wq,hwq⟩:∃x:World,x=wr:=⟨_,rfl⟩;subst hwq;by_cases hlt:i<n+k
  ·have hil:i<L.length:=by rw[HLL.out];exact hlt
   obtain⟨b,o,rfl,lb,e0,e1,e2⟩:=(R3.below hS.below).1.get i hil;have HT:=Lh (HTK.out i hil);obtain⟨F,hF⟩:=nm_ (((L.take i).filter nz).take 128);have hF128:F.length≤128:=by rw[←hF,List.length_take];exact Nat.min_le_left _ _
   rw[hF]at HT hS;obtain⟨x,hx⟩:=nm_ (L[i]);rw[hx]at e0 e1 e2 HT;obtain⟨px,py,pz⟩:=x;simp only at e0 e1 e2;have ti:(i:Int)<((n+k:Nat):Int):=by omega
   have hnz:nz ⟨px,py,pz⟩= !eqP px py pz 0 0 0:=rfl;rw[hnz]at HT;obtain⟨Av,cv,rfl,hcv,_,_⟩:=hS.own.rdB2;obtain⟨q,hq⟩:=nm_ F.length;rw[hq]at hS HT hF128 hcv⊢;have HQ:=Lh hq;clear hF hx hnz hq
   cases hz:eqP px py pz 0 0 0 with
   |true=>
    have HT:=Lh (HT.trans (by rw[hz];simp:_=F));go_wp2
    go_roundw
    case rel=>exact⟨i+1,by omega,by go_num,Lh (hS.out.len HT.out.symm)⟩
    case measure=>simp[intOf];omega
   |false=>
    by_cases tq:q<128
    ·have eq_:decide ((q:Int)<128)=true:=decide_eq_true (by omega);have HT:=Lh (HT.trans (by rw[hz];simp[tq]:_=F++[⟨px,py,pz⟩]));have hbA:=(Below.refl _ wq).alloc (Nat.le_refl _) (.cells #[.int .i64 px, .int .i64 py, .int .i64 pz] 23);have hS9:=Lh (hS.grown hbA);have hR9:=(Rd_one (heap_alloc_new wq (.cells #[.int .i64 px, .int .i64 py, .int .i64 pz] 23))).1;clear hbA;go_wp2_with(at_builtin;refine appL_ w3.heap.size rfl _ _ rfl _ F [⟨px,py,pz⟩] _ _ _ rfl rfl hS9.own hR9 rfl (by rw[HQ.out];simp;omega) hS9.below.size ?_;intro v2 w4 hv2 hg2 hat;have hS4:=Lh ((hS9.out.app hv2 hg2 hat).len HT.out.symm);clear hv2 hg2 hat)
     go_roundw
     case rel=>exact⟨i+1,by omega,by go_num,hS4⟩
     case measure=>simp[intOf];omega
    ·have eq_:decide ((q:Int)<128)=false:=decide_eq_false (by omega);have HT:=Lh (HT.trans (by rw[hz];simp[tq]:_=F));go_wp2
     go_roundw
     case rel=>exact⟨i+1,by omega,by go_num,Lh (hS.out.len HT.out.symm)⟩
     case measure=>simp[intOf];omega
  ·obtain rfl:n+k=i:=by omega
   obtain⟨Ar,cr,rfl,hcr,hRr,hKr⟩:=hS.own.rdB2;have HRr:=Lh hRr;have WB:=Lh (bthen HB3.out hS.below);have HKr:=Lh (fun ad ea=>Nat.le_trans HB3.size (hKr ad ea));clear hRr hKr hS;go_wp2
   go_ret
   exact⟨Ar,cr,rfl,hcr,HRr.out,WB.out,HKr.out⟩
end Go.Proofs.YtckdhahceelckaaGreat.G
