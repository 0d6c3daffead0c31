/- What the laws of this claim lean on: contracts of functions and plain lemmas; no condition of its own (part 43: XV20, XV13, XV14). -/
import Derived.Test.YtckdhahceelckaaGreatKQ39
import Derived.Test.YtckdhahceelckaaGreatKQ40
set_option maxHeartbeats 16000000
set_option maxRecDepth 100000
set_option linter.unusedVariables false
set_option linter.unusedSimpArgs false
namespace Go.Proofs.YtckdhahceelckaaGreat.G
open Go.RowKit Go.Proofs.YtckdhahceelckaaGreatW.PrintWords Go.Proofs.YtckdhahceelckaaGreatW.PrintLast Go.Proofs.YtckdhahceelckaaGreatW.PrintMore
attribute [local go_sem] max2_mx min2_mn max_two min_two max_three min_three max_four min_four
attribute [local go_sem high] eqA23 eqA40
def nearS (a:Cr)(l:List Cr):(Int×(P3×Int))×Bool:=(nearL a l,decide (0≤(nearL a l).1))
def NearR (R:(Int×(P3×Int))×Bool)(w:World)(en:Ending)(w':World):Prop:=en= .returned (.tuple #[.int .i64 R.1.1, .agg #[.int .i64 R.1.2.1.x, .int .i64 R.1.2.1.y, .int .i64 R.1.2.1.z, .int .i64 R.1.2.2], .bool R.2])∧Below w.heap.size w w'
theorem near_calls {w:World}{v:Value}{a:Cr}(ha:CrV w v a)(l:List Cr)(A:Option Addr)(n c:Nat)(hl:RdC w A l)(hn:l.length=n)(hnb:n≤140737488355328):
  Calls Tryz.prog 40 #[v, .slice A n c] w (NearR (nearS a l) w):=by
 have HLE:Hid (nearL a l=leastF nearZ (askN a l) (fun x y=>decide (x.2<y.2)) n):=Lh (by rw[nearL_ask,hn]);have HNF:Hid (nearS a l=(nearL a l,decide (0≤(nearL a l).1))):=Lh rfl;obtain⟨RL,hRL⟩:=nm_ (nearL a l);rw[hRL]at HLE HNF;obtain⟨RF,hRF⟩:=nm_ (nearS a l);rw[hRF]at HNF⊢;have HN:=Lh hn;have HL:=Lh hl;have HV:=Lh ha;obtain⟨A0,A1,A2,n0,n1,n2,c0,c1,c2,rfl⟩:=ha.form;obtain⟨ra,hra⟩:=nm_ a.r;rw[hra]at HV⊢;clear hRL hRF hn hl ha hra;have g0:=three0 w (.cells #[.slice A0 n0 c0, .slice A1 n1 c1, .slice A2 n2 c2, .int .i64 ra] 35) (.cells #[.slice A n c] 42) (.cells #[.int .i64 0, .int .i64 0, .int .i64 0, .int .i64 0] 60);have g1:=three1 w (.cells #[.slice A0 n0 c0, .slice A1 n1 c1, .slice A2 n2 c2, .int .i64 ra] 35) (.cells #[.slice A n c] 42) (.cells #[.int .i64 0, .int .i64 0, .int .i64 0, .int .i64 0] 60);have g2:=three2 w (.cells #[.slice A0 n0 c0, .slice A1 n1 c1, .slice A2 n2 c2, .int .i64 ra] 35) (.cells #[.slice A n c] 42) (.cells #[.int .i64 0, .int .i64 0, .int .i64 0, .int .i64 0] 60);have gb:=Go.Joins.below_alloc3 w (.cells #[.slice A0 n0 c0, .slice A1 n1 c1, .slice A2 n2 c2, .int .i64 ra] 35) (.cells #[.slice A n c] 42) (.cells #[.int .i64 0, .int .i64 0, .int .i64 0, .int .i64 0] 60);obtain⟨w1,hw1⟩:=nm_ (((w.alloc (.cells #[.slice A0 n0 c0, .slice A1 n1 c1, .slice A2 n2 c2, .int .i64 ra] 35)).alloc (.cells #[.slice A n c] 42)).alloc (.cells #[.int .i64 0, .int .i64 0, .int .i64 0, .int .i64 0] 60));rw[hw1]at g0 g1 g2 gb;have hw1':=Lh hw1;have G0:=Lh g0;have G1:=Lh g1;have G2:=Lh g2;have W:=Lh gb;clear g0 g1 g2 gb hw1;have HLS:=Lh (nleast_calls n (askN a l) w.heap.size (w.heap.size+1) w1 hnb (fun W' i hW hi=>nask_calls l A n c _ _ i _ _ _ _ _ _ _ _ _ ra ((hW.block _ (blk_lt G0.out)).trans G0.out) ((hW.block _ (blk_lt G1.out)).trans G1.out) (HV.below (bthen W.out hW)) (HL.below (bthen W.out hW)) HN.out hi hnb));rw[←HLE.out]at HLS;go_enter Tryz.func40,Tryz.ntmps40;go_wp2_with fail;rw[hw1'.out]
 with_reducible refine HLS.out.mono ?_
 rintro en w2 ⟨rfl,hb⟩;have G2:=up_ hb G2;have W:=Lh (bthen W.out hb);clear hb HLS HLE hw1';obtain⟨at_,⟨Bx,By,Bz⟩,Bg⟩:=RL
 go_upto_region 2 with fail
 have bz:=(Below.refl _ w2).alloc (Nat.le_refl _) (.cells #[.int .i64 Bx, .int .i64 By, .int .i64 Bz, .int .i64 Bg] 60);have YC:=Lh (heap_alloc_new w2 (.cells #[.int .i64 Bx, .int .i64 By, .int .i64 Bz, .int .i64 Bg] 60));have W:=Lh (bthen W.out bz);have G2:=up_ bz G2;obtain⟨w3,hw3⟩:=nm_ (w2.alloc (.cells #[.int .i64 Bx, .int .i64 By, .int .i64 Bz, .int .i64 Bg] 60));obtain⟨YB,hYB⟩:=nm_ w2.heap.size
 (try simp only)
 rw[hw3]at YC W G2⊢;rw[hYB]at YC⊢;clear bz hw3 hYB;go_wp2_with fail;have HB:=Lh ((Below.refl w3.heap.size w3).drew);have FF:=Lh (show ∀V,Hid (Below w3.heap.size w3 V)→V.cell? ⟨YB,0,none⟩=some (.int .i64 Bx)∧V.cell? ⟨YB,1,none⟩=some (.int .i64 By)∧V.cell? ⟨YB,2,none⟩=some (.int .i64 Bz)∧V.cell? ⟨YB,3,none⟩=some (.int .i64 Bg) from fun V HB=>have e:=(HB.block _ (blk_lt YC.out)).trans YC.out;⟨(blk_cell e 0).trans rfl,(blk_cell e 1).trans rfl,(blk_cell e 2).trans rfl,(blk_cell e 3).trans rfl⟩);refine start_ (n:=7) (S:=fun w'=>w'.cell? ⟨YB,0,none⟩=some (.int .i64 Bx)∧w'.cell? ⟨YB,1,none⟩=some (.int .i64 By)∧w'.cell? ⟨YB,2,none⟩=some (.int .i64 Bz)∧w'.cell? ⟨YB,3,none⟩=some (.int .i64 Bg)) (ds:=[5]) (MT 0 7) (by kernel_rfl) rfl rfl (FF.out _ HB) (fun j_=>?_);obtain⟨wd,hwd⟩:=nm_ w3.drew;rw[hwd]at HB j_⊢;clear hwd;refine pu_ 0 16 (h:=?_);refine pu_ 2 18 (h:=?_);refine pu_ 3 19 (h:=?_);refine pu_ 4 4 (h:=?_);refine ta_ 1 17 j_ (h:=?_);refine last_ (i:=5) (N:=none) (MT 6 1) rfl rfl (by kernel_rfl) (by decide) (fun K hK=>?_);have R4:=(HB.block _ (blk_lt G2.out)).trans G2.out;have sc0:World.cell? _ ⟨w.heap.size+2,0,none⟩=some (.int .i64 0):=(blk_cell R4 0).trans rfl;have sf0:World.frozen? _ ⟨w.heap.size+2,0,none⟩=false:=blk_frozen R4 0;have sc1:World.cell? _ ⟨w.heap.size+2,1,none⟩=some (.int .i64 0):=(blk_cell R4 1).trans rfl;have sf1:World.frozen? _ ⟨w.heap.size+2,1,none⟩=false:=blk_frozen R4 1;have sc2:World.cell? _ ⟨w.heap.size+2,2,none⟩=some (.int .i64 0):=(blk_cell R4 2).trans rfl;have sf2:World.frozen? _ ⟨w.heap.size+2,2,none⟩=false:=blk_frozen R4 2;have sc3:World.cell? _ ⟨w.heap.size+2,3,none⟩=some (.int .i64 0):=(blk_cell R4 3).trans rfl;have sf3:World.frozen? _ ⟨w.heap.size+2,3,none⟩=false:=blk_frozen R4 3;refine skip_ (w1:=?_) (by rfl) rfl ?_ ?_;rotate_left
 ·go_simp;rfl
 refine hK.out _ _ ?_;clear hK K;refine pu_ 6 6 (h:=?_);refine done_ (by kernel_rfl) ?_;have DST:=bs4 R4 (.int .i64 Bx) (.int .i64 By) (.int .i64 Bz) (.int .i64 Bg);have HBX:=bb4 (HB.mono (show w.heap.size≤w3.heap.size from W.size)) (show w.heap.size≤w.heap.size+2 by omega) (.int .i64 Bx) (.int .i64 By) (.int .i64 Bz) (.int .i64 Bg);obtain⟨w9,hV⟩:=nm_ (((((wd.setCell ⟨w.heap.size+2,0,none⟩ (.int .i64 Bx)).setCell ⟨w.heap.size+2,1,none⟩ (.int .i64 By)).setCell ⟨w.heap.size+2,2,none⟩ (.int .i64 Bz)).setCell ⟨w.heap.size+2,3,none⟩ (.int .i64 Bg)));rw[hV]at DST HBX
 (try rw[hV])
 have hVV:=Lh hV;have DST:=Lh DST;have HBX:=Lh HBX;clear hV j_ HB FF R4 sc0 sf0 sc1 sf1 sc2 sf2 sc3 sf3;obtain⟨t0,t1,t2,t3,_⟩:=f4_ (w.heap.size+1+1) DST.out;have W:=Lh (W.trans HBX.out);clear DST HBX G2 YC;go_wp2;exact bodyPost_ret (v:= .tuple #[.int .i64 at_, .agg #[.int .i64 Bx, .int .i64 By, .int .i64 Bz, .int .i64 Bg], .bool (decide (0≤at_))]) (by simp[results,Tryz.results40,go_sem,t0,t1,t2,t3]) rfl ⟨by rw[HNF.out],W.out⟩
section
variable {w:World}{ops:Array Oper}{rest:List Oper}{o:Oper}{a:Act}{Q:Exit→Act→World→Prop}
/-- append of one number -/
theorem appI_ (base:Nat)(hgd:o.guard=none)(s x:Operand)(ho:o.op= .call {callee:= .builtin .append,args:=#[s,x],argTypes:=#[86,86]})
  (v:Value) (l:List Nat) (k g c:Nat) (hs:a.eval s=v) (hx:a.eval x= .slice (some ⟨g,0,none⟩) 1 c) (hown:OwnNn w base v l) (hc:w.cell? ⟨g,0,none⟩=some (.int .i64 (k:Int))) (hsz:l.length+1≤1000000) (hbase:base≤w.heap.size)
  (h:∀v' w',OwnNn w' base v' (l++[k])→w.grownBy w' v.ownBlock→wpList Tryz.prog ops Q rest (a.put o.dst v') w'):wpList Tryz.prog ops Q (o::rest) a w:=by
 obtain⟨i0,hi,hz0,hz1,hz2⟩:=info_parts info3
 obtain⟨v',w',h0,h1,h2,_,h4⟩:=Go.run_append_own_at (P:=Tryz.prog) w base 86 o.type 3 i0 _ 1 8 Tryz.underlying86 hi hz0 hz1 hz2 rfl (by omega) v l.length (l.map fun(n:Nat)=>Value.int .i64 (n:Int)) hown ⟨g,0,none⟩ 1 c [.int .i64 (k:Int)] rfl (fun j u hj=>by
   cases j with
   |zero=>simp at hj;subst hj;rw[add_at];exact hc
   |succ j=>simp at hj) (fun u hu=>by simp at hu;subst hu;rfl) (by unfold maxLen;omega) (by omega) hbase
 refine Go.Lib.wpList_append_run w hgd s x 86 86 ho v (.slice (some ⟨g,0,none⟩) 1 c) hs hx v' w' h0 (h v' w' ?_ h2);show w'.ownsRow base 3 1 v' (l++[k]).length ((l++[k]).map fun(n:Nat)=>Value.int .i64 (n:Int));rw[List.length_append,List.map_append];exact h1
end
theorem clip84_calls (A:Option Addr)(n c:Nat)(w:World)(hc:n≤c)(hm:n<9223372036854775807)(ha:A=none→n=0):Calls Tryz.prog 88 #[.slice A n c] w fun e w'=>e= .returned (.slice A n n)∧w'=w:=by
 go_enter Tryz.func88,Tryz.ntmps88;go_wp2
 go_ret
 exact⟨rfl,rfl⟩
def OverPost (l:List Nat)(w:World)(en:Ending)(w':World):Prop:=∃A,en= .returned (.slice A l.length l.length)∧RdNn w' A l∧Below w.heap.size w w'
theorem overF_len (c:Cr):∀(l:List Cr) (i:Nat),(overF c i l).length≤l.length
 |[],_=>Nat.le_refl _
 |d::l,i=>by
  have:=overF_len c l (i+1);rw[overF];split<;>simp<;>omega
theorem overF_take (c:Cr)(l:List Cr)(i:Nat)(h:i<l.length):overF c 0 (l.take (i+1))=overF c 0 (l.take i)++(if overB c l[i]=true then[i]else[]):=by
 rw[List.take_succ_eq_append_getElem h,overF_snoc,List.length_take,Nat.min_eq_left (by omega),Nat.zero_add]
theorem over_calls {w:World}{v:Value}{a:Cr}(ha:CrV w v a)(l:List Cr)(A:Option Addr)(n c:Nat)(hl:RdC w A l)(hn:l.length=n)(hnb:n≤100000):
  Calls Tryz.prog 38 #[v, .slice A n c] w (OverPost (overF a 0 l) w):=by
 have HFU:Hid (overF a 0 l=overF a 0 (l.take n)):=Lh (by rw[List.take_of_length_le (by omega)]);have HTK:=Lh (fun i (h:i<l.length)=>overF_take a l i h);have HLN:=Lh (fun i=>show(overF a 0 (l.take i)).length≤n from Nat.le_trans (overF_len a _ _) (by rw[List.length_take];omega));obtain⟨OV,hOV⟩:∃f:Nat→List Nat,(fun i=>overF a 0 (l.take i))=f:=⟨_,rfl⟩;have hOV2:∀i,overF a 0 (l.take i)=OV i:=fun i=>by rw[←hOV]
 simp only[hOV2]at HFU HTK HLN;have HO0:Hid (OV 0=[]):=Lh (by rw[←hOV2];rfl);rw[HFU.out];have HN:=Lh hn;have HL:=Lh hl;have HV:=Lh ha;obtain⟨A0,A1,A2,n0,n1,n2,c0,c1,c2,rfl⟩:=ha.form;obtain⟨ra,hra⟩:=nm_ a.r;rw[hra]at HV⊢;clear hOV hOV2 hn hl ha hra HFU;have g0:=heap_alloc_new w (.cells #[.slice A0 n0 c0, .slice A1 n1 c1, .slice A2 n2 c2, .int .i64 ra] 35);have gb:=(Below.refl _ w).alloc (Nat.le_refl _) (.cells #[.slice A0 n0 c0, .slice A1 n1 c1, .slice A2 n2 c2, .int .i64 ra] 35);go_enter Tryz.func38,Tryz.ntmps38;go_wp2_with fail;obtain⟨w1,hw1⟩:=nm_ (w.alloc (.cells #[.slice A0 n0 c0, .slice A1 n1 c1, .slice A2 n2 c2, .int .i64 ra] 35));rw[hw1]at g0 gb⊢;have G0:=Lh g0;have W:=Lh gb;clear g0 gb hw1;go_loopw [5,12] (fun v5 v12 wr=>∃i:Nat,i≤n∧v12= .int .i64 i∧Hid (OwnNn wr w1.heap.size v5 (OV i))∧Hid (Below w1.heap.size w1 wr)) (fun _ i _=>n-(intOf i).toNat)
 case atStart=>exact⟨0,by omega,rfl,by rw[HO0.out];exact OwnNn.nil _ _,Lh (Below.refl _ _)⟩
 case round=>
  obtain⟨i,hi,rfl,hO,hB⟩:=hrel;obtain⟨wq,hwq⟩:∃x:World,x=wr:=⟨_,rfl⟩;subst hwq;by_cases hlt:i<n
  ·have hil:i<l.length:=by rw[HN.out];exact hlt
   obtain⟨eb,eo,E0,E1_,E2_,m0,m1,m2,g0,g1,g2,rfl,el,e0,e1,e2,e3,hE⟩:=(HL.below (bthen W.out hB.out)).get i hil;have HTI:=Lh (HTK.out i hil);have HLI:=Lh (HLN.out i);obtain⟨d,hd⟩:=nm_ (l[i]);rw[hd]at hE e3 HTI;obtain⟨rd,hrd⟩:=nm_ d.r;rw[hrd]at hE e3;have HE:=Lh hE;have HAP:=Lh (fun(W:World) (h1:CrV W (.agg #[.slice A0 n0 c0, .slice A1 n1 c1, .slice A2 n2 c2, .int .i64 ra]) a) (h2:CrV W (.agg #[.slice E0 m0 g0, .slice E1_ m1 g1, .slice E2_ m2 g2, .int .i64 rd]) d)=>apart_all h1 h2 (apS a d) rfl);have HOB:Hid (overB a d=((apS a d).2&&decide ((apS a d).1.2<1))):=Lh rfl;obtain⟨R,hR⟩:=nm_ (apS a d);rw[hR]at HAP HOB;obtain⟨⟨⟨Xx,Xy,Xz⟩,Xg⟩,Xo⟩:=R
   (try simp only at HAP)
   have HOB:=Lh (show overB a d=(Xo&&decide (Xg<1)) from HOB.out);rw[HOB.out]at HTI;have ti:(i:Int)<(n:Int):=by omega
   have G0q:=up_ hB.out G0;obtain⟨x0,x1,x2,x3,xl⟩:=f4_ w.heap.size G0q.out;have WQ:=Lh (bthen W.out hB.out);clear hE hR hd hrd hil;go_wp2_with fail;have bq:=(Below.refl _ wq).alloc (Nat.le_refl _) (.cells #[.slice E0 m0 g0, .slice E1_ m1 g1, .slice E2_ m2 g2, .int .i64 rd] 35);obtain⟨w2,hw2⟩:=nm_ (wq.alloc (.cells #[.slice E0 m0 g0, .slice E1_ m1 g1, .slice E2_ m2 g2, .int .i64 rd] 35));rw[hw2]at bq⊢;have hO:=Lh (hO.grown bq);have hB:=Lh (hB.trans (bq.mono hB.size));have WQ:=Lh (bthen WQ.out bq);have HE:=Lh (HE.below bq);clear bq hw2 x0 x1 x2 x3 xl e0 e1 e2 e3
   with_reducible refine(HAP.out _ (HV.out.below WQ.out) HE.out).mono ?_
   rintro en w3 ⟨rfl,hb⟩;have hO:=Lh (hO.grown hb);have hB:=Lh (hB.trans (hb.mono hB.size));clear hb HAP HE
   go_upto_region 6 with fail
   have bq:=(Below.refl _ w3).alloc (Nat.le_refl _) (.cells #[.int .i64 Xx, .int .i64 Xy, .int .i64 Xz, .int .i64 Xg] 60);have YC:=Lh (heap_alloc_new w3 (.cells #[.int .i64 Xx, .int .i64 Xy, .int .i64 Xz, .int .i64 Xg] 60));obtain⟨w4,hw4⟩:=nm_ (w3.alloc (.cells #[.int .i64 Xx, .int .i64 Xy, .int .i64 Xz, .int .i64 Xg] 60));obtain⟨YB,hYB⟩:=nm_ w3.heap.size
   (try simp only)
   have hO:=Lh (hO.grown bq);have hB:=Lh (hB.trans (bq.mono hB.size));rw[hw4]at YC hO hB⊢;rw[hYB]at YC⊢;clear bq hw4 hYB;have u3:w4.cell? ⟨YB,3,none⟩=some (.int .i64 Xg):=(blk_cell YC.out 3).trans rfl;have ul:YB<w4.heap.size:=blk_lt YC.out
   cases Xo with
   |false=>
    have HTI:=Lh (HTI.trans (by simp:_=OV i));go_wp2
    go_roundw
    case rel=>exact⟨i+1,by omega,by go_num,by rw[HTI.out];exact hO,hB⟩
    case measure=>simp[intOf];omega
   |true=>
    by_cases tg:Xg<1
    ·have eg:decide (Xg<1)=true:=decide_eq_true tg;have HTI:=Lh (HTI.trans (by rw[eg];rfl:_=OV i++[i]));have hli:(OV i).length+1≤1000000:=by have:=HLI.out;omega
     have bn:=(Below.refl _ w4).alloc (Nat.le_refl _) (.cells #[.int .i64 (i:Int)] 3);have hO2:=Lh (hO.grown bn);have hB2:=Lh (hB.trans (bn.mono hB.size));have hc2:(w4.alloc (.cells #[.int .i64 (i:Int)] 3)).cell? ⟨w4.heap.size,0,none⟩=some (.int .i64 (i:Int)):=(blk_cell (heap_alloc_new w4 (.cells #[.int .i64 (i:Int)] 3)) 0).trans rfl;have HC2:=Lh hc2;clear tg bn hc2;go_wp2_with(at_builtin;refine appI_ w1.heap.size rfl _ _ rfl _ (OV i) i w4.heap.size _ rfl rfl hO2.out HC2.out hli hB2.size ?_;intro v2 w5 hv2 hg2;have hO5:=Lh hv2;have hB5:=Lh (hB2.grown hg2 hB2.size (fun k hk=>own_base hO2.out k hk));clear hv2 hg2)
     go_roundw
     case rel=>exact⟨i+1,by omega,by go_num,by rw[HTI.out];exact hO5,hB5⟩
     case measure=>simp[intOf];omega
    ·have eg:decide (Xg<1)=false:=decide_eq_false tg;have HTI:=Lh (HTI.trans (by rw[eg];simp:_=OV i));clear tg;go_wp2
     go_roundw
     case rel=>exact⟨i+1,by omega,by go_num,by rw[HTI.out];exact hO,hB⟩
     case measure=>simp[intOf];omega
  ·obtain rfl:n=i:=by omega
   obtain⟨Ar,cr,rfl,hlc,hcm,hrd,hnn⟩:=hO.rd;have HRD:=Lh hrd;have WQ:=Lh (bthen W.out hB.out);have hsm:(OV n).length<9223372036854775807:=by have:=HLN.out n;omega
   obtain⟨q,hq⟩:=nm_ ((OV n).length);rw[hq]at hlc hnn hsm⊢;have HQ:=Lh hq;clear hO hrd hq hcm;go_wp2_with(go_at_call 88;refine(clip84_calls Ar q cr _ hlc hsm hnn).mono ?_;rintro en w5 ⟨rfl,rfl⟩)
   go_ret
   exact⟨Ar,by rw[HQ.out];rfl,HRD.out,WQ.out⟩
/-- what Ray asks of the i-th -/
def askR (a:Cr)(y:P3)(l:List Cr)(i:Nat):Nat×Bool:=match l[i]? with|some d=>rayAsk a y d|none=>(0,false)
theorem rayL_ask (a:Cr)(y:P3)(l:List Cr):rayL a y l=leastF 0 (askR a y l) (fun a b=>decide (a<b)) l.length:=rfl
theorem askR_get (a:Cr)(y:P3)(l:List Cr)(i:Nat)(h:i<l.length):askR a y l i=rayAsk a y l[i]:=by unfold askR;rw[List.getElem?_eq_getElem h]
def RayPost (R:Nat×Bool)(w:World)(en:Ending)(w':World):Prop:=en= .returned (.tuple #[.int .i64 R.1, .bool R.2])∧Below w.heap.size w w'
theorem rask_calls {w:World}{a:Cr}(y:P3)(l:List Cr)(A:Option Addr)(n c ga gy gl i:Nat)(A0 A1 A2:Option Addr)(n0 n1 n2 c0 c1 c2:Nat)(ra:Int)(hga:w.heap[ga]?=some (.cells #[.slice A0 n0 c0, .slice A1 n1 c1, .slice A2 n2 c2, .int .i64 ra] 35 (0,0)))(hgy:w.heap[gy]?=some (.cells #[.int .i64 y.x, .int .i64 y.y, .int .i64 y.z] 23 (0,0)))(hgl:w.heap[gl]?=some (.cells #[.slice A n c] 42 (0,0)))
  (ha:CrV w (.agg #[.slice A0 n0 c0, .slice A1 n1 c1, .slice A2 n2 c2, .int .i64 ra]) a) (hl:RdC w A l) (hn:l.length=n) (hi:i<n) (hal:a.p.length≤140737488355328) (hnb:n≤140737488355328):
  Calls Tryz.prog 76 #[.int .i64 i, .pointer (some ⟨ga,0,none⟩), .pointer (some ⟨gy,0,none⟩), .pointer (some ⟨gl,0,none⟩)] w (RayPost (askR a y l i) w):=by
 have hil:i<l.length:=by omega
 obtain⟨b,o,B0,B1,B2,m0,m1,m2,d0,d1,d2,rfl,lb,e0,e1,e2,e3,hd⟩:=hl.get i hil;have HCA:=Lh (fun(W:World) (h1:CrV W (.agg #[.slice A0 n0 c0, .slice A1 n1 c1, .slice A2 n2 c2, .int .i64 ra]) a) (h2:CrV W (.agg #[.slice B0 m0 d0, .slice B1 m1 d1, .slice B2 m2 d2, .int .i64 l[i].r]) l[i])=>cast_calls h1 h2 y hal);have HGE:Hid (askR a y l i=rayAsk a y l[i]):=Lh (askR_get a y l i hil);obtain⟨RR,hRR⟩:∃r:Nat×Bool,askR a y l i=r:=⟨_,rfl⟩;rw[hRR]at HGE⊢;obtain⟨d,hdd⟩:=nm_ (l[i]);rw[hdd]at HCA HGE hd e3;have HASK:Hid (RR=((castF a y d).1.1,(castF a y d).2&&(decide ((castF a y d).1.1<16) || decide ((castF a y d).1.2.2<0)))):=Lh HGE.out;obtain⟨R,hR⟩:=nm_ (castF a y d);rw[hR]at HASK HCA;obtain⟨⟨k,⟨Xx,Xy,Xz⟩,Xg⟩,Xo⟩:=R;obtain⟨yx,yy,yz⟩:=y;simp only at HASK HCA hgy;have hkd:decide (k<16)=decide ((k:Int)<16):=by by_cases t:k<16<;>simp[t]<;>omega
 rw[hkd]at HASK;obtain⟨rd,hrd⟩:=nm_ d.r;rw[hrd]at HCA hd e3;have HVA:=Lh ha;have HVD:=Lh hd;have ti:(i:Int)<(n:Int):=by omega
 obtain⟨x0,x1,x2,x3,la⟩:=f4_ ga hga;obtain⟨y0,y1,y2,ly⟩:=f3_ gy hgy;obtain⟨q0,ll⟩:=f1_ gl hgl;clear ha hd hl hn hR hdd hrd hRR hkd hga hgy hgl hil hal HGE;go_enter Tryz.func76,Tryz.ntmps76;go_wp2_with fail;have HB:=Lh ((Below.refl (w.heap.size) w).drew);have FF:=Lh (show ∀V,Hid (Below (w.heap.size) w V)→V.cell? ⟨ga,0,none⟩=some (.slice A0 n0 c0)∧V.cell? ⟨ga,1,none⟩=some (.slice A1 n1 c1)∧V.cell? ⟨ga,2,none⟩=some (.slice A2 n2 c2)∧V.cell? ⟨ga,3,none⟩=some (.int .i64 ra)∧V.cell? ⟨gy,0,none⟩=some (.int .i64 yx)∧V.cell? ⟨gy,1,none⟩=some (.int .i64 yy)∧V.cell? ⟨gy,2,none⟩=some (.int .i64 yz)∧V.cell? ⟨gl,0,none⟩=some (.slice (some ⟨b,o,none⟩) n c)∧V.cell? ⟨b,o+i*4,none⟩=some (.slice B0 m0 d0)∧V.cell? ⟨b,o+i*4+1,none⟩=some (.slice B1 m1 d1)∧V.cell? ⟨b,o+i*4+2,none⟩=some (.slice B2 m2 d2)∧V.cell? ⟨b,o+i*4+3,none⟩=some (.int .i64 rd) from fun V HB=>⟨(HB.cell (p:=⟨ga,0,none⟩) (la)).trans x0,(HB.cell (p:=⟨ga,1,none⟩) (la)).trans x1,(HB.cell (p:=⟨ga,2,none⟩) (la)).trans x2,(HB.cell (p:=⟨ga,3,none⟩) (la)).trans x3,(HB.cell (p:=⟨gy,0,none⟩) (ly)).trans y0,(HB.cell (p:=⟨gy,1,none⟩) (ly)).trans y1,(HB.cell (p:=⟨gy,2,none⟩) (ly)).trans y2,(HB.cell (p:=⟨gl,0,none⟩) (ll)).trans q0,(HB.cell (p:=⟨b,o+i*4,none⟩) (lb)).trans e0,(HB.cell (p:=⟨b,o+i*4+1,none⟩) (lb)).trans e1,(HB.cell (p:=⟨b,o+i*4+2,none⟩) (lb)).trans e2,(HB.cell (p:=⟨b,o+i*4+3,none⟩) (lb)).trans e3⟩);refine start_ (n:=15) (S:=fun w'=>w'.cell? ⟨ga,0,none⟩=some (.slice A0 n0 c0)∧w'.cell? ⟨ga,1,none⟩=some (.slice A1 n1 c1)∧w'.cell? ⟨ga,2,none⟩=some (.slice A2 n2 c2)∧w'.cell? ⟨ga,3,none⟩=some (.int .i64 ra)∧w'.cell? ⟨gy,0,none⟩=some (.int .i64 yx)∧w'.cell? ⟨gy,1,none⟩=some (.int .i64 yy)∧w'.cell? ⟨gy,2,none⟩=some (.int .i64 yz)∧w'.cell? ⟨gl,0,none⟩=some (.slice (some ⟨b,o,none⟩) n c)∧w'.cell? ⟨b,o+i*4,none⟩=some (.slice B0 m0 d0)∧w'.cell? ⟨b,o+i*4+1,none⟩=some (.slice B1 m1 d1)∧w'.cell? ⟨b,o+i*4+2,none⟩=some (.slice B2 m2 d2)∧w'.cell? ⟨b,o+i*4+3,none⟩=some (.int .i64 rd)) (ds:=[]) (MT 0 15) (by kernel_rfl) rfl rfl (FF.out _ HB) (fun hE=>?_);obtain⟨wd,hwd⟩:=nm_ w.drew;rw[hwd]at HB hE⊢;clear hwd;refine pu_ 3 14 (h:=?_);refine ta_ 0 11 hE (h:=?_);refine ta_ 1 12 hE (h:=?_);refine ta_ 2 13 hE (h:=?_);refine pu_ 4 15 (h:=?_);refine ta_ 5 16 hE (h:=?_);refine join_ (σ:=Nat) 3 (MT 12 3) (fun s=>[(8, .pointer (some ⟨s,0,none⟩)),(17, .tuple #[.int .i64 (k:Int), .agg #[.int .i64 Xx, .int .i64 Xy, .int .i64 Xz, .int .i64 Xg], .bool Xo]),(10, .tuple #[.int .i64 (k:Int), .agg #[.int .i64 Xx, .int .i64 Xy, .int .i64 Xz, .int .i64 Xg], .bool Xo]),(18, .int .i64 (k:Int)),(19, .agg #[.int .i64 Xx, .int .i64 Xy, .int .i64 Xz, .int .i64 Xg]),(20, .bool Xo)]) (fun s w'=>w.heap.size≤s∧w'.heap[s]?=some (.cells #[.int .i64 0, .int .i64 0, .int .i64 0, .int .i64 0] 60 (0,0))∧Below (w.heap.size) w w') ?_ ?_;rotate_left
 ·intro hCont;refine two_ (i:=6) (j:=11) (Ni:=some 17) (Nj:=some 8) (MT 7 8) (MB_ 15 2111) rfl rfl rfl rfl (by kernel_rfl) (by decide) (by decide) (fun K hK=>?_) (fun K hK=>?_)
  ·skip
   refine gs_ Tryz.func20 #[.agg #[.slice A0 n0 c0, .slice A1 n1 c1, .slice A2 n2 c2, .int .i64 ra],aP ⟨yx,yy,yz⟩, .agg #[.slice B0 m0 d0, .slice B1 m1 d1, .slice B2 m2 d2, .int .i64 rd]] ?_
   with_reducible refine(HCA.out _ (HVA.out.below HB.out) (HVD.out.below HB.out)).mono ?_
   rintro en w3 ⟨rfl,hb⟩;have HB:=tm_ HB hb;clear hb;refine⟨_,rfl,?_⟩;refine hK.out _ _ (FF.out _ HB) (fun hE=>?_);clear hK K;refine no_ (h:=?_);refine pu_ 7 10 (h:=?_);refine pu_ 8 18 (h:=?_);refine pu_ 9 19 (h:=?_);refine pu_ 10 20 (h:=?_);refine on_ 11 (some 8) (h:=fun K hK=>?_);refine va_ ?_;have HA:=Lh (ha_new HB.out (.cells #[.int .i64 0, .int .i64 0, .int .i64 0, .int .i64 0] 60));have hge:=HB.size;have HB:=Lh (HB.alloc (Nat.le_trans (Nat.le_refl _) HB.size) (.cells #[.int .i64 0, .int .i64 0, .int .i64 0, .int .i64 0] 60));refine hK.out _ _ (FF.out _ HB) (fun hE=>?_);clear hK K;refine no_ (h:=?_);exact nz_ (hCont _ _ ⟨hge,HA.out,HB.out⟩)
  ·skip
   refine va_ ?_;have HA:=Lh (ha_new HB.out (.cells #[.int .i64 0, .int .i64 0, .int .i64 0, .int .i64 0] 60));have hge:=HB.size;have HB:=Lh (HB.alloc (Nat.le_trans (Nat.le_refl _) HB.size) (.cells #[.int .i64 0, .int .i64 0, .int .i64 0, .int .i64 0] 60));refine hK.out _ _ (FF.out _ HB) (fun hE=>?_);clear hK K;refine no_ (h:=?_);refine on_ 6 (some 17) (h:=fun K hK=>?_);refine gs_ Tryz.func20 #[.agg #[.slice A0 n0 c0, .slice A1 n1 c1, .slice A2 n2 c2, .int .i64 ra],aP ⟨yx,yy,yz⟩, .agg #[.slice B0 m0 d0, .slice B1 m1 d1, .slice B2 m2 d2, .int .i64 rd]] ?_
   with_reducible refine(HCA.out _ (HVA.out.below HB.out) (HVD.out.below HB.out)).mono ?_
   rintro en w3 ⟨rfl,hb⟩;have HB:=tm_ HB hb;have HA:=up_ hb HA;clear hb;refine⟨_,rfl,?_⟩;refine hK.out _ _ (FF.out _ HB) (fun hE=>?_);clear hK K;refine no_ (h:=?_);refine pu_ 7 10 (h:=?_);refine pu_ 8 18 (h:=?_);refine pu_ 9 19 (h:=?_);refine pu_ 10 20 (h:=?_);exact nz_ (hCont _ _ ⟨hge,HA.out,HB.out⟩)
 rintro AB wj ⟨hge,HA,HB⟩;have HA:=Lh HA;have HB:=Lh HB;have hE:=FF.out _ HB;refine no_ (h:=?_);refine pu_ 12 7 (h:=?_);refine on_ 13 (none) (h:=fun K hK=>?_);have sc0:World.cell? _ ⟨AB,0,none⟩=some (.int .i64 0):=(blk_cell HA.out 0).trans rfl;have sf0:=blk_frozen HA.out 0;have sc1:World.cell? _ ⟨AB,1,none⟩=some (.int .i64 0):=(blk_cell HA.out 1).trans rfl;have sf1:=blk_frozen HA.out 1;have sc2:World.cell? _ ⟨AB,2,none⟩=some (.int .i64 0):=(blk_cell HA.out 2).trans rfl;have sf2:=blk_frozen HA.out 2;have sc3:World.cell? _ ⟨AB,3,none⟩=some (.int .i64 0):=(blk_cell HA.out 3).trans rfl;have sf3:=blk_frozen HA.out 3;refine skip_ (w1:=?_) (by rfl) rfl ?_ ?_;rotate_left
 ·go_simp;rfl
 have HA:=Lh (bs4 HA.out (.int .i64 Xx) (.int .i64 Xy) (.int .i64 Xz) (.int .i64 Xg));have HB:=Lh (bb4 HB.out (Nat.le_trans (Nat.le_refl _) hge) (.int .i64 Xx) (.int .i64 Xy) (.int .i64 Xz) (.int .i64 Xg));clear sc0 sf0 sc1 sf1 sc2 sf2 sc3 sf3;refine hK.out _ _ (FF.out _ HB) (fun hE=>?_);clear hK K;refine pu_ 14 9 (h:=?_);refine done_ (by kernel_rfl) ?_;obtain⟨w4,hwn⟩:=nm_ (((((wj.setCell ⟨AB,0,none⟩ (.int .i64 Xx)).setCell ⟨AB,1,none⟩ (.int .i64 Xy)).setCell ⟨AB,2,none⟩ (.int .i64 Xz)).setCell ⟨AB,3,none⟩ (.int .i64 Xg)));rw[hwn]at HA HB⊢;clear hwn;have v3:w4.cell? ⟨AB,3,none⟩=some (.int .i64 Xg):=(blk_cell HA.out 3).trans rfl;have lA:AB<w4.heap.size:=blk_lt HA.out;clear hE HVA HVD x0 x1 x2 x3 la y0 y1 y2 ly q0 ll e0 e1 e2 e3 lb HCA hge
 cases Xo with
 |false=>
  go_wp2_with fail
  go_quiet (fail)
  go_wp2
  exact bodyPost_ret (v:= .tuple #[.int .i64 (k:Int), .bool false]) (by simp[results,Tryz.results76,go_sem]) rfl ⟨by rw[HASK.out];rfl,pw_below_drewN HB.out _⟩
 |true=>
  by_cases t1:(k:Int)<16
  ·have u1:decide ((k:Int)<16)=true:=decide_eq_true t1;rw[u1]at HASK;clear t1;go_wp2_with fail
   go_quiet (fail)
   go_wp2;exact bodyPost_ret (v:= .tuple #[.int .i64 (k:Int), .bool true]) (by simp[results,Tryz.results76,go_sem]) rfl ⟨by rw[HASK.out];rfl,pw_below_drewN HB.out _⟩
  ·have u1:decide ((k:Int)<16)=false:=decide_eq_false t1;rw[u1]at HASK;clear t1;by_cases t2:Xg<0
   ·have u2:decide (Xg<0)=true:=decide_eq_true t2;rw[u2]at HASK;clear t2;go_wp2_with fail
    go_quiet (fail)
    go_wp2;exact bodyPost_ret (v:= .tuple #[.int .i64 (k:Int), .bool true]) (by simp[results,Tryz.results76,go_sem]) rfl ⟨by rw[HASK.out];rfl,pw_below_drewN HB.out _⟩
   ·have u2:decide (Xg<0)=false:=decide_eq_false t2;rw[u2]at HASK;clear t2;go_wp2_with fail
    go_quiet (fail)
    go_wp2;exact bodyPost_ret (v:= .tuple #[.int .i64 (k:Int), .bool false]) (by simp[results,Tryz.results76,go_sem]) rfl ⟨by rw[HASK.out];rfl,pw_below_drewN HB.out _⟩
theorem rless_calls (a b:Int)(w:World):Calls Tryz.prog 77 #[.int .i64 a, .int .i64 b] w fun e w'=>e= .returned (.bool (decide (a<b)))∧w'=w:=by
 go_enter Tryz.func77,Tryz.ntmps77;go_wp2
 go_ret
 exact⟨rfl,rfl⟩
def LeastPost (R:Int×Nat)(w:World)(en:Ending)(w':World):Prop:=en= .returned (.tuple #[.int .i64 R.1, .int .i64 R.2])∧Below w.heap.size w w'
theorem rleast_calls (n:Nat)(ask:Nat→Nat×Bool)(ga gy gl:Nat)(w:World)(hn:n≤140737488355328)
  (H:∀(W:World) (i:Nat),Below w.heap.size w W→i<n→Calls Tryz.prog 76 #[.int .i64 i, .pointer (some ⟨ga,0,none⟩), .pointer (some ⟨gy,0,none⟩), .pointer (some ⟨gl,0,none⟩)] W (RayPost (ask i) W)):
  Calls Tryz.prog 75 #[.int .i64 n, .func (.func 76) #[] #[.pointer (some ⟨ga,0,none⟩), .pointer (some ⟨gy,0,none⟩), .pointer (some ⟨gl,0,none⟩)], .func (.func 77) #[] #[]] w (LeastPost (leastF 0 ask (fun a b=>decide (a<b)) n) w):=by
 have HH:=Lh H;have HST:=Lh (fun i=>show leastF 0 ask (fun a b=>decide (a<b)) (i+1)=if(ask i).2=true∧((leastF 0 ask (fun a b=>decide (a<b)) i).1<0∨decide ((ask i).1<(leastF 0 ask (fun a b=>decide (a<b)) i).2)=true)then((i:Int),(ask i).1)else leastF 0 ask (fun a b=>decide (a<b)) i from rfl);have H0:Hid (leastF 0 ask (fun a b=>decide (a<b)) 0=(-1,0)):=Lh rfl;obtain⟨L,hL⟩:∃L:Nat→Int×Nat,leastF 0 ask (fun a b=>decide (a<b))=L:=⟨_,rfl⟩;rw[hL]at HST H0⊢;clear H hL;go_enter Tryz.func75,Tryz.ntmps75;go_wp2_with fail;go_loopw [8,9,14] (fun v8 v9 v14 wr=>∃i:Nat,i≤n∧v14= .int .i64 i∧v8= .int .i64 (L i).1∧v9= .int .i64 (L i).2∧Hid (Below w.heap.size w wr)) (fun _ _ i _=>n-(intOf i).toNat)
 case atStart=>exact⟨0,by omega,rfl,by rw[H0.out],by rw[H0.out];rfl,Lh (Below.refl _ _)⟩
 case round=>
  obtain⟨i,hi,rfl,rfl,rfl,hB⟩:=hrel;obtain⟨wq,hwq⟩:∃x:World,x=wr:=⟨_,rfl⟩;subst hwq;by_cases hlt:i<n
  ·have HI:=Lh (HH.out wq i hB.out hlt);have HS1:=Lh (HST.out i);obtain⟨R,hR⟩:=nm_ (ask i);rw[hR]at HI HS1;obtain⟨m,hm⟩:=nm_ (L i);rw[hm]at HS1⊢;obtain⟨at_,best⟩:=m;obtain⟨p,is⟩:=R;simp only at HS1;have ti:(i:Int)<(n:Int):=by omega
   clear hR hm;go_wp2_with fail
   with_reducible refine HI.out.mono ?_
   rintro en w2 ⟨rfl,hb⟩;have hB:=Lh (bthen hB.out hb);clear hb HI
   cases is with
   |false=>
    have hS:Hid (L (i+1)=(at_,best)):=Lh (by rw[HS1.out,if_neg (by simp)]);clear HS1;go_wp2
    go_roundw
    case rel=>exact⟨i+1,by omega,by go_num,by rw[hS.out],by rw[hS.out],hB⟩
    case measure=>simp[intOf];omega
   |true=>
    by_cases ta:at_<0
    ·have ea:decide (at_<0)=true:=decide_eq_true ta;have hS:Hid (L (i+1)=((i:Int),p)):=Lh (by rw[HS1.out,if_pos ⟨rfl, .inl ta⟩]);clear HS1 ta;go_wp2
     go_roundw
     case rel=>exact⟨i+1,by omega,by go_num,by rw[hS.out],by rw[hS.out],hB⟩
     case measure=>simp[intOf];omega
    ·have ea:decide (at_<0)=false:=decide_eq_false ta;by_cases tp:p<best
     ·have ep:decide ((p:Int)<(best:Int))=true:=decide_eq_true (by omega);have hS:Hid (L (i+1)=((i:Int),p)):=Lh (by rw[HS1.out,if_pos ⟨rfl, .inr (decide_eq_true tp)⟩]);clear HS1 ta tp;go_wp2_with(go_at_call 77;refine(rless_calls _ _ _).mono ?_;rintro en w3 ⟨rfl,rfl⟩;rw[ep])
      go_roundw
      case rel=>exact⟨i+1,by omega,by go_num,by rw[hS.out],by rw[hS.out],hB⟩
      case measure=>simp[intOf];omega
     ·have ep:decide ((p:Int)<(best:Int))=false:=decide_eq_false (by omega)
      have hS:Hid (L (i+1)=(at_,best)):=Lh (by
       rw[HS1.out,if_neg]
       rintro⟨_,h|h⟩
       ·exact ta h
       ·exact tp (by simpa using h))
      clear HS1 ta tp;go_wp2_with(go_at_call 77;refine(rless_calls _ _ _).mono ?_;rintro en w3 ⟨rfl,rfl⟩;rw[ep])
      go_roundw
      case rel=>exact⟨i+1,by omega,by go_num,by rw[hS.out],by rw[hS.out],hB⟩
      case measure=>simp[intOf];omega
  ·obtain rfl:n=i:=by omega
   go_wp2;exact bodyPost_ret (v:= .tuple #[.int .i64 (L n).1, .int .i64 ((L n).2:Int)]) (by simp[results,Tryz.results75,go_sem]) rfl ⟨rfl,hB.out⟩
def RayR (R:(Int×Nat)×Bool)(w:World)(en:Ending)(w':World):Prop:=en= .returned (.tuple #[.int .i64 R.1.1, .int .i64 R.1.2, .bool R.2])∧Below w.heap.size w w'
theorem ray_calls (x y:P3)(l:List Cr)(A:Option Addr)(n c:Nat)(w:World)(hl:RdC w A l)(hn:l.length=n)(hnb:n≤140737488355328):
  Calls Tryz.prog 31 #[aP x,aP y, .slice A n c] w (RayR (rayF x y l) w):=by
 have HNO:=Lh (fun(h:smay ⟨[x],[],[],0⟩ y=false)=>show rayF x y l=((-1,0),false) from if_neg (by rw[h];decide));have HYS:=Lh (fun(h:smay ⟨[x],[],[],0⟩ y=true)=>show rayF x y l=(if(rayL ⟨[x],[],[],0⟩ y l).1<0 then((-1,16),false)else(rayL ⟨[x],[],[],0⟩ y l,true)) from if_pos h);have HM:=Lh (fun(W:World) (v:Value) (h:CrV W v ⟨[x],[],[],0⟩)=>smay_calls h y (by simp));obtain⟨S,hS⟩:=nm_ (smay ⟨[x],[],[],0⟩ y);rw[hS]at HNO HYS HM;have HLE:Hid (rayL ⟨[x],[],[],0⟩ y l=leastF 0 (askR ⟨[x],[],[],0⟩ y l) (fun a b=>decide (a<b)) n):=Lh (by rw[rayL_ask,hn]);obtain⟨RL,hRL⟩:=nm_ (rayL ⟨[x],[],[],0⟩ y l);rw[hRL]at HYS HLE;obtain⟨RF,hRF⟩:=nm_ (rayF x y l);rw[hRF]at HNO HYS⊢;have HN:=Lh hn;have HL:=Lh hl;obtain⟨xx,xy,xz⟩:=x;obtain⟨yx,yy,yz⟩:=y;clear hS hRL hRF hn hl;have b1:=(Below.refl _ w).alloc (Nat.le_refl _) (.cells #[.int .i64 xx, .int .i64 xy, .int .i64 xz] 23);have b2:=b1.alloc (by simp) (.cells #[.int .i64 yx, .int .i64 yy, .int .i64 yz] 23);have b3:=b2.alloc (by simp<;>omega) (.cells #[.slice A n c] 42);have b4:=b3.alloc (by simp<;>omega) (.cells #[.int .i64 xx, .int .i64 xy, .int .i64 xz] 23);have b5:=b4.alloc (by simp<;>omega) (.cells #[.slice (some ⟨w.heap.size+1+1+1,0,none⟩) 1 1, .slice none 0 0, .slice none 0 0, .int .i64 0] 35);have g1:=heap_alloc_new (w.alloc (.cells #[.int .i64 xx, .int .i64 xy, .int .i64 xz] 23)) (.cells #[.int .i64 yx, .int .i64 yy, .int .i64 yz] 23);have g2:=heap_alloc_new ((w.alloc (.cells #[.int .i64 xx, .int .i64 xy, .int .i64 xz] 23)).alloc (.cells #[.int .i64 yx, .int .i64 yy, .int .i64 yz] 23)) (.cells #[.slice A n c] 42);have g3:=heap_alloc_new (((w.alloc (.cells #[.int .i64 xx, .int .i64 xy, .int .i64 xz] 23)).alloc (.cells #[.int .i64 yx, .int .i64 yy, .int .i64 yz] 23)).alloc (.cells #[.slice A n c] 42)) (.cells #[.int .i64 xx, .int .i64 xy, .int .i64 xz] 23);have g4:=heap_alloc_new ((((w.alloc (.cells #[.int .i64 xx, .int .i64 xy, .int .i64 xz] 23)).alloc (.cells #[.int .i64 yx, .int .i64 yy, .int .i64 yz] 23)).alloc (.cells #[.slice A n c] 42)).alloc (.cells #[.int .i64 xx, .int .i64 xy, .int .i64 xz] 23)) (.cells #[.slice (some ⟨w.heap.size+1+1+1,0,none⟩) 1 1, .slice none 0 0, .slice none 0 0, .int .i64 0] 35);simp only[World.size_alloc]at g1 g2 g3 g4;have g1:=(Below.heap_alloc _ (.cells #[.slice (some ⟨w.heap.size+1+1+1,0,none⟩) 1 1, .slice none 0 0, .slice none 0 0, .int .i64 0] 35) _ (by simp<;>omega)).trans ((Below.heap_alloc _ (.cells #[.int .i64 xx, .int .i64 xy, .int .i64 xz] 23) _ (by simp<;>omega)).trans ((Below.heap_alloc _ (.cells #[.slice A n c] 42) _ (by simp)).trans g1));have g2:=(Below.heap_alloc _ (.cells #[.slice (some ⟨w.heap.size+1+1+1,0,none⟩) 1 1, .slice none 0 0, .slice none 0 0, .int .i64 0] 35) _ (by simp<;>omega)).trans ((Below.heap_alloc _ (.cells #[.int .i64 xx, .int .i64 xy, .int .i64 xz] 23) _ (by simp)).trans g2);have g3:=(Below.heap_alloc _ (.cells #[.slice (some ⟨w.heap.size+1+1+1,0,none⟩) 1 1, .slice none 0 0, .slice none 0 0, .int .i64 0] 35) _ (by simp)).trans g3;go_enter Tryz.func31,Tryz.ntmps31;go_wp2_with fail;obtain⟨w1,hw1⟩:=nm_ (((((w.alloc (.cells #[.int .i64 xx, .int .i64 xy, .int .i64 xz] 23)).alloc (.cells #[.int .i64 yx, .int .i64 yy, .int .i64 yz] 23)).alloc (.cells #[.slice A n c] 42)).alloc (.cells #[.int .i64 xx, .int .i64 xy, .int .i64 xz] 23)).alloc (.cells #[.slice (some ⟨w.heap.size+1+1+1,0,none⟩) 1 1, .slice none 0 0, .slice none 0 0, .int .i64 0] 35));rw[hw1]at g1 g2 g3 g4 b5⊢;clear hw1 b1 b2 b3 b4;have HV:=Lh (show CrV w1 (.agg #[.slice (some ⟨w.heap.size+1+1+1,0,none⟩) 1 1, .slice none 0 0, .slice none 0 0, .int .i64 0]) ⟨[⟨xx,xy,xz⟩],[],[],0⟩ from ball_core w1 _ xx xy xz 0 1 (Nat.le_refl _) g3);have HB:=Lh b5
 with_reducible refine(HM.out w1 _ HV.out).mono ?_
 rintro en w2 ⟨rfl,hb⟩;have G1:=Lh ((hb.block _ (blk_lt g1)).trans g1);have G2:=Lh ((hb.block _ (blk_lt g2)).trans g2);have G4:=Lh ((hb.block _ (blk_lt g4)).trans g4);have HV:=Lh (HV.below hb);have HB:=Lh (bthen HB.out hb);clear hb g1 g2 g3 g4 b5 HM
 cases S with
 |false=>
  have HR:=Lh (HNO.out rfl);go_wp2
  exact bodyPost_ret (v:= .tuple #[.int .i64 (-1), .int .i64 0, .bool false]) (by simp[results,Tryz.results31,go_sem]) rfl ⟨by rw[HR.out];rfl,HB.out⟩
 |true=>
  have HR:=Lh (HYS.out rfl);obtain⟨q0,ql⟩:=f1_ (w.heap.size+1+1) G2.out;clear HNO HYS;have HLS:=Lh (rleast_calls n (askR ⟨[⟨xx,xy,xz⟩],[],[],0⟩ ⟨yx,yy,yz⟩ l) (w.heap.size+1+1+1+1) (w.heap.size+1) (w.heap.size+1+1) w2 hnb (fun W i hW hi=>rask_calls ⟨yx,yy,yz⟩ l A n c _ _ _ i _ _ _ _ _ _ _ _ _ _ ((hW.block _ (blk_lt G4.out)).trans G4.out) ((hW.block _ (blk_lt G1.out)).trans G1.out) ((hW.block _ (blk_lt G2.out)).trans G2.out) (HV.below hW) (HL.below (bthen HB.out hW)) HN.out hi (by simp) hnb));rw[←HLE.out]at HLS;go_wp2_with fail
  with_reducible refine HLS.out.mono ?_
  rintro en w3 ⟨rfl,hb⟩;have HB:=Lh (bthen HB.out hb);clear hb HLS HLE q0 ql;obtain⟨ra,rb⟩:=RL;by_cases t:ra<0
  ·have e1:decide (ra<0)=true:=decide_eq_true t;have HR:=Lh (HR.trans (if_pos t));clear t;go_wp2;exact bodyPost_ret (v:= .tuple #[.int .i64 (-1), .int .i64 16, .bool false]) (by simp[results,Tryz.results31,go_sem]) rfl ⟨by rw[HR.out];rfl,HB.out⟩
  ·have e1:decide (ra<0)=false:=decide_eq_false t;have HR:=Lh (HR.trans (if_neg t));clear t;go_wp2;exact bodyPost_ret (v:= .tuple #[.int .i64 ra, .int .i64 (rb:Int), .bool true]) (by simp[results,Tryz.results31,go_sem]) rfl ⟨by rw[HR.out],HB.out⟩
end Go.Proofs.YtckdhahceelckaaGreat.G
