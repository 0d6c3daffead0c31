/- What the laws of this claim lean on: contracts of functions and plain lemmas; no condition of its own (part 47: XV29, XV28, XV30, XV7, XV15, XN17, XW19). -/
import Derived.Test.YtckdhahceelckaaGreatKQ41
import Derived.Test.YtckdhahceelckaaGreatKQ43
set_option maxHeartbeats 16000000
set_option maxRecDepth 100000
set_option linter.unusedVariables false
set_option linter.unusedSimpArgs false
namespace Go.Proofs.YtckdhahceelckaaGreat.G
open Go.RowKit Go.Proofs.YtckdhahceelckaaGreatW.PrintWords Go.Proofs.YtckdhahceelckaaGreatW.PrintLast Go.Proofs.YtckdhahceelckaaGreatW.PrintMore
attribute [local go_sem] max2_mx min2_mn max_two min_two max_three min_three max_four min_four
attribute [local go_sem high] eqA23 eqA40
theorem rray_calls (x y:P3)(l:List Cr)(A:Option Addr)(n c:Nat)(w:World)(hl:RdC w A l)(hlb:∀d∈l,CrB d)(hn:l.length=n)(hnb:n≤140737488355328):
  Calls Tryz.prog 42 #[aP x,aP y, .slice A n c] w (RayR (rayF x y l) w):=by
 have HLB:=Lh hlb
 have HNO:=Lh (fun(h:mayF [x] [] [] 0=false∨wayOk y=false)=>show rayF x y l=((-1,0),false) from if_neg (by
  unfold smay Cr.may
  rcases h with h|h
  ·simp only at h⊢;rw[h];simp
  ·rw[h];simp))
 have HYS:=Lh (fun(h:mayF [x] [] [] 0=true) (h2:wayOk y=true)=>show rayF x y l=(if(leastF 0 (askR ⟨[x],[],[],0⟩ y l) (fun a b=>decide (a<b)) n).1<0 then((-1,16),false)else(leastF 0 (askR ⟨[x],[],[],0⟩ y l) (fun a b=>decide (a<b)) n,true)) from by
  rw[←hn]
  exact if_pos (by unfold smay Cr.may;simp only;rw[h,h2];rfl))
 have HM:=Lh (fun(W:World) (v:Value) (h:CrV W v ⟨[x],[],[],0⟩)=>rmay_calls h (by simp) (by simp) (by simp));have HW:=Lh (fun(W:World)=>rway_calls y W)
 (try simp only at HM)
 have HTK:=Lh (fun i (h:i<l.length)=>show leastF 0 (askR ⟨[x],[],[],0⟩ y l) (fun a b=>decide (a<b)) (i+1)=if(rayAsk ⟨[x],[],[],0⟩ y l[i]).2=true∧((leastF 0 (askR ⟨[x],[],[],0⟩ y l) (fun a b=>decide (a<b)) i).1<0∨decide ((rayAsk ⟨[x],[],[],0⟩ y l[i]).1<(leastF 0 (askR ⟨[x],[],[],0⟩ y l) (fun a b=>decide (a<b)) i).2)=true)then((i:Int),(rayAsk ⟨[x],[],[],0⟩ y l[i]).1)else leastF 0 (askR ⟨[x],[],[],0⟩ y l) (fun a b=>decide (a<b)) i by
  rw[leastF,askR_get _ _ _ i h])
 have HBD:=Lh (fun i=>leastF_bd 0 (askR ⟨[x],[],[],0⟩ y l) (fun a b=>decide (a<b)) i);obtain⟨F,hF⟩:∃f:Nat→Int×Nat,leastF 0 (askR ⟨[x],[],[],0⟩ y l) (fun a b=>decide (a<b))=f:=⟨_,rfl⟩;have HF0:Hid (F 0=(-1,0)):=Lh (by rw[←hF];rfl);simp only[hF]at HYS HTK HBD;obtain⟨RF,hRF⟩:=nm_ (rayF x y l);rw[hRF]at HNO HYS⊢;obtain⟨M1,hM1⟩:=nm_ (mayF [x] [] [] 0);obtain⟨M2,hM2⟩:=nm_ (wayOk y);rw[hM1]at HNO HYS HM;rw[hM2]at HNO HYS HW;have HN:=Lh hn;have HL:=Lh hl;obtain⟨xx,xy,xz⟩:=x;obtain⟨yx,yy,yz⟩:=y
 (try simp only at HW)
 clear hF hRF hM1 hM2 hn hl hlb;have b4:=((((Below.refl _ w).alloc (Nat.le_refl _) (.cells #[.int .i64 xx, .int .i64 xy, .int .i64 xz] 23)).alloc (by simp) (.cells #[.int .i64 yx, .int .i64 yy, .int .i64 yz] 23)).alloc (by simp<;>omega) (.cells #[.int .i64 xx, .int .i64 xy, .int .i64 xz] 23)).alloc (by simp<;>omega) (.cells #[.slice (some ⟨w.heap.size+1+1,0,none⟩) 1 1, .slice none 0 0, .slice none 0 0, .int .i64 0] 35);have g1:=heap_alloc_new (w.alloc (.cells #[.int .i64 xx, .int .i64 xy, .int .i64 xz] 23)) (.cells #[.int .i64 yx, .int .i64 yy, .int .i64 yz] 23);have g2:=heap_alloc_new ((w.alloc (.cells #[.int .i64 xx, .int .i64 xy, .int .i64 xz] 23)).alloc (.cells #[.int .i64 yx, .int .i64 yy, .int .i64 yz] 23)) (.cells #[.int .i64 xx, .int .i64 xy, .int .i64 xz] 23);have g3:=heap_alloc_new (((w.alloc (.cells #[.int .i64 xx, .int .i64 xy, .int .i64 xz] 23)).alloc (.cells #[.int .i64 yx, .int .i64 yy, .int .i64 yz] 23)).alloc (.cells #[.int .i64 xx, .int .i64 xy, .int .i64 xz] 23)) (.cells #[.slice (some ⟨w.heap.size+1+1,0,none⟩) 1 1, .slice none 0 0, .slice none 0 0, .int .i64 0] 35);simp only[World.size_alloc]at g1 g2 g3;have g1:=(Below.heap_alloc _ (.cells #[.slice (some ⟨w.heap.size+1+1,0,none⟩) 1 1, .slice none 0 0, .slice none 0 0, .int .i64 0] 35) _ (by simp<;>omega)).trans ((Below.heap_alloc _ (.cells #[.int .i64 xx, .int .i64 xy, .int .i64 xz] 23) _ (by simp)).trans g1);have g2:=(Below.heap_alloc _ (.cells #[.slice (some ⟨w.heap.size+1+1,0,none⟩) 1 1, .slice none 0 0, .slice none 0 0, .int .i64 0] 35) _ (by simp)).trans g2;go_enter Tryz.func42,Tryz.ntmps42;go_wp2_with fail;obtain⟨w1,hw1⟩:=nm_ ((((w.alloc (.cells #[.int .i64 xx, .int .i64 xy, .int .i64 xz] 23)).alloc (.cells #[.int .i64 yx, .int .i64 yy, .int .i64 yz] 23)).alloc (.cells #[.int .i64 xx, .int .i64 xy, .int .i64 xz] 23)).alloc (.cells #[.slice (some ⟨w.heap.size+1+1,0,none⟩) 1 1, .slice none 0 0, .slice none 0 0, .int .i64 0] 35));rw[hw1]at g1 g2 g3 b4⊢;clear hw1;have HV:=Lh (show CrV w1 (.agg #[.slice (some ⟨w.heap.size+1+1,0,none⟩) 1 1, .slice none 0 0, .slice none 0 0, .int .i64 0]) ⟨[⟨xx,xy,xz⟩],[],[],0⟩ from ball_core w1 _ xx xy xz 0 1 (Nat.le_refl _) g2);have HB:=Lh b4
 with_reducible refine(HM.out w1 _ HV.out).mono ?_
 rintro en w1b ⟨rfl,hb⟩;have G1:=Lh ((hb.block _ (blk_lt g1)).trans g1);have G3:=Lh ((hb.block _ (blk_lt g3)).trans g3);replace HV:=Lh (HV.below hb);replace HB:=Lh (bthen HB.out hb);clear hb g1 g2 g3 b4 HM;obtain⟨y0,y1,y2,yl⟩:=f3_ (w.heap.size+1) G1.out;go_wp2_with fail
 with_reducible refine(HW.out _).mono ?_
 rintro en w2 ⟨rfl,hb⟩;replace G1:=up_ hb G1;replace G3:=up_ hb G3;replace HV:=Lh (HV.below hb);replace HB:=Lh (bthen HB.out hb);clear hb HW y0 y1 y2 yl
 cases M1 with
 |false=>
  have HR:=Lh (HNO.out (.inl rfl));go_wp2
  exact bodyPost_ret (v:= .tuple #[.int .i64 (-1), .int .i64 0, .bool false]) (by simp[results,Tryz.results42,go_sem]) rfl ⟨by rw[HR.out];rfl,HB.out⟩
 |true=>
 cases M2 with
 |false=>
  have HR:=Lh (HNO.out (.inr rfl));go_wp2
  exact bodyPost_ret (v:= .tuple #[.int .i64 (-1), .int .i64 0, .bool false]) (by simp[results,Tryz.results42,go_sem]) rfl ⟨by rw[HR.out];rfl,HB.out⟩
 |true=>
 have HR:=Lh (HYS.out rfl rfl);replace HL:=Lh (HL.below HB.out);have W:=HB;clear HNO HYS HB;go_wp2_with fail;go_loopw [12,13,14,15,16,17] (fun v12 v13 v14 v15 v16 v17 wr=>∃(i:Nat) (at_:Int) (be br:Nat),i≤n∧v14= .int .i64 i∧v12= .int .i64 at_∧v13= .int .i64 (br:Int)∧Hid (F i=(at_,be))∧Hid (at_<0→br=16)∧Hid (0≤at_→br=be)∧Hid (Below w2.heap.size w2 wr)) (fun _ _ i _ _ _ _=>n-(intOf i).toNat)
 case atStart=>exact⟨0,-1,0,16,by omega,rfl,rfl,rfl,HF0,Lh (fun _=>rfl),Lh (fun h=>absurd h (by decide)),Lh (Below.refl _ _)⟩
 case round=>
  obtain⟨i,at_,be,br,hi,rfl,rfl,rfl,hFi,hb0,hb1,hB⟩:=hrel;obtain⟨wq,hwq⟩:∃x:World,x=wr:=⟨_,rfl⟩;subst hwq;by_cases hlt:i<n
  ·have hil:i<l.length:=by rw[HN.out];exact hlt
   have HLB:=HLB.out _ (List.getElem_mem hil);obtain⟨eb,eo,E0,E1_,E2_,m0,m1,m2,g0,g1,g2,rfl,el,e0,e1,e2,e3,hE⟩:=(HL.below hB.out).get i hil;have HTI:=Lh (HTK.out i hil);obtain⟨d,hd⟩:=nm_ (l[i]);rw[hd]at hE e3 HTI HLB;obtain⟨rd,hrd⟩:=nm_ d.r;rw[hrd]at hE e3;have HE:=Lh hE;have HCA:=Lh (fun(W:World) (h1:CrV W (.agg #[.slice (some ⟨w.heap.size+1+1,0,none⟩) 1 1, .slice none 0 0, .slice none 0 0, .int .i64 0]) ⟨[⟨xx,xy,xz⟩],[],[],0⟩) (h2:CrV W (.agg #[.slice E0 m0 g0, .slice E1_ m1 g1, .slice E2_ m2 g2, .int .i64 rd]) d)=>rcast_calls h1 h2 ⟨yx,yy,yz⟩ (by simp) (by unfold CrB at HLB;exact HLB));have HASK:Hid (rayAsk ⟨[⟨xx,xy,xz⟩],[],[],0⟩ ⟨yx,yy,yz⟩ d=((castF ⟨[⟨xx,xy,xz⟩],[],[],0⟩ ⟨yx,yy,yz⟩ d).1.1,(castF ⟨[⟨xx,xy,xz⟩],[],[],0⟩ ⟨yx,yy,yz⟩ d).2&&(decide ((castF ⟨[⟨xx,xy,xz⟩],[],[],0⟩ ⟨yx,yy,yz⟩ d).1.1<16) || decide ((castF ⟨[⟨xx,xy,xz⟩],[],[],0⟩ ⟨yx,yy,yz⟩ d).1.2.2<0)))):=Lh rfl;rw[HASK.out,hFi.out]at HTI;obtain⟨R,hR⟩:=nm_ (castF ⟨[⟨xx,xy,xz⟩],[],[],0⟩ ⟨yx,yy,yz⟩ d);rw[hR]at HCA HTI;obtain⟨⟨k,⟨Xx,Xy,Xz⟩,Xg⟩,Xo⟩:=R
   (try simp only at HCA)
   (try simp only at HTI)
   have ti:(i:Int)<(n:Int):=by omega
   have G1q:=up_ hB.out G1;have G3q:=up_ hB.out G3;obtain⟨x0,x1,x2,x3,xl⟩:=f4_ (w.heap.size+1+1+1) G3q.out;obtain⟨y0,y1,y2,yl⟩:=f3_ (w.heap.size+1) G1q.out;clear hE hR hd hrd hil HASK HLB;go_wp2_with fail;have HB:=Lh ((Below.refl (wq.heap.size) wq).drew);have FF:=Lh (show ∀V,Hid (Below (wq.heap.size) wq V)→V.cell? ⟨w.heap.size+1+1+1,0,none⟩=some (.slice (some ⟨w.heap.size+1+1,0,none⟩) 1 1)∧V.cell? ⟨w.heap.size+1+1+1,1,none⟩=some (.slice none 0 0)∧V.cell? ⟨w.heap.size+1+1+1,2,none⟩=some (.slice none 0 0)∧V.cell? ⟨w.heap.size+1+1+1,3,none⟩=some (.int .i64 0)∧V.cell? ⟨w.heap.size+1,0,none⟩=some (.int .i64 yx)∧V.cell? ⟨w.heap.size+1,1,none⟩=some (.int .i64 yy)∧V.cell? ⟨w.heap.size+1,2,none⟩=some (.int .i64 yz)∧V.cell? ⟨eb,eo+i*4,none⟩=some (.slice E0 m0 g0)∧V.cell? ⟨eb,eo+i*4+1,none⟩=some (.slice E1_ m1 g1)∧V.cell? ⟨eb,eo+i*4+2,none⟩=some (.slice E2_ m2 g2)∧V.cell? ⟨eb,eo+i*4+3,none⟩=some (.int .i64 rd) from fun V HB=>⟨(HB.cell (p:=⟨w.heap.size+1+1+1,0,none⟩) (xl)).trans x0,(HB.cell (p:=⟨w.heap.size+1+1+1,1,none⟩) (xl)).trans x1,(HB.cell (p:=⟨w.heap.size+1+1+1,2,none⟩) (xl)).trans x2,(HB.cell (p:=⟨w.heap.size+1+1+1,3,none⟩) (xl)).trans x3,(HB.cell (p:=⟨w.heap.size+1,0,none⟩) (yl)).trans y0,(HB.cell (p:=⟨w.heap.size+1,1,none⟩) (yl)).trans y1,(HB.cell (p:=⟨w.heap.size+1,2,none⟩) (yl)).trans y2,(HB.cell (p:=⟨eb,eo+i*4,none⟩) (el)).trans e0,(HB.cell (p:=⟨eb,eo+i*4+1,none⟩) (el)).trans e1,(HB.cell (p:=⟨eb,eo+i*4+2,none⟩) (el)).trans e2,(HB.cell (p:=⟨eb,eo+i*4+3,none⟩) (el)).trans e3⟩);refine start_ (n:=15) (S:=fun w'=>w'.cell? ⟨w.heap.size+1+1+1,0,none⟩=some (.slice (some ⟨w.heap.size+1+1,0,none⟩) 1 1)∧w'.cell? ⟨w.heap.size+1+1+1,1,none⟩=some (.slice none 0 0)∧w'.cell? ⟨w.heap.size+1+1+1,2,none⟩=some (.slice none 0 0)∧w'.cell? ⟨w.heap.size+1+1+1,3,none⟩=some (.int .i64 0)∧w'.cell? ⟨w.heap.size+1,0,none⟩=some (.int .i64 yx)∧w'.cell? ⟨w.heap.size+1,1,none⟩=some (.int .i64 yy)∧w'.cell? ⟨w.heap.size+1,2,none⟩=some (.int .i64 yz)∧w'.cell? ⟨eb,eo+i*4,none⟩=some (.slice E0 m0 g0)∧w'.cell? ⟨eb,eo+i*4+1,none⟩=some (.slice E1_ m1 g1)∧w'.cell? ⟨eb,eo+i*4+2,none⟩=some (.slice E2_ m2 g2)∧w'.cell? ⟨eb,eo+i*4+3,none⟩=some (.int .i64 rd)) (ds:=[]) (MT 0 15) (by kernel_rfl) rfl rfl (FF.out _ HB) (fun j_=>?_);obtain⟨wd,hwd⟩:=nm_ wq.drew;rw[hwd]at HB j_⊢;clear hwd;refine pu_ 2 40 (h:=?_);refine pu_ 3 41 (h:=?_);refine pu_ 4 42 (h:=?_);refine ta_ 0 38 j_ (h:=?_);refine ta_ 1 39 j_ (h:=?_);refine ta_ 5 43 j_ (h:=?_);refine join_ (σ:=Nat) 3 (MT 12 3) (fun s=>[(16, .pointer (some ⟨s,0,none⟩)),(44, .tuple #[.int .i64 (k:Int), .agg #[.int .i64 Xx, .int .i64 Xy, .int .i64 Xz, .int .i64 Xg], .bool Xo]),(37, .tuple #[.int .i64 (k:Int), .agg #[.int .i64 Xx, .int .i64 Xy, .int .i64 Xz, .int .i64 Xg], .bool Xo]),(45, .int .i64 (k:Int)),(46, .agg #[.int .i64 Xx, .int .i64 Xy, .int .i64 Xz, .int .i64 Xg]),(47, .bool Xo)]) (fun s w'=>wq.heap.size≤s∧w'.heap[s]?=some (.cells #[.int .i64 0, .int .i64 0, .int .i64 0, .int .i64 0] 60 (0,0))∧Below (wq.heap.size) wq w') ?_ ?_;rotate_left
   ·intro hCont;refine two_ (i:=6) (j:=11) (Ni:=some 44) (Nj:=some 16) (MT 7 8) (MB_ 15 2111) rfl rfl rfl rfl (by kernel_rfl) (by decide) (by decide) (fun K hK=>?_) (fun K hK=>?_)
    ·skip
     refine gs_ Tryz.func36 #[.agg #[.slice (some ⟨w.heap.size+1+1,0,none⟩) 1 1, .slice none 0 0, .slice none 0 0, .int .i64 0],aP ⟨yx,yy,yz⟩, .agg #[.slice E0 m0 g0, .slice E1_ m1 g1, .slice E2_ m2 g2, .int .i64 rd]] ?_
     with_reducible refine(HCA.out _ (HV.out.below (bthen hB.out HB.out)) (HE.out.below HB.out)).mono ?_
     rintro en w7 ⟨rfl,hb⟩;have HB:=tm_ HB hb;clear hb;refine⟨_,rfl,?_⟩;refine hK.out _ _ (FF.out _ HB) (fun j_=>?_);clear hK K;refine no_ (h:=?_);refine pu_ 7 37 (h:=?_);refine pu_ 8 45 (h:=?_);refine pu_ 9 46 (h:=?_);refine pu_ 10 47 (h:=?_);refine on_ 11 (some 16) (h:=fun K hK=>?_);refine va_ ?_;have HA:=Lh (ha_new HB.out (.cells #[.int .i64 0, .int .i64 0, .int .i64 0, .int .i64 0] 60));have hge:=HB.size;have HB:=Lh (HB.alloc (Nat.le_trans (Nat.le_refl _) HB.size) (.cells #[.int .i64 0, .int .i64 0, .int .i64 0, .int .i64 0] 60));refine hK.out _ _ (FF.out _ HB) (fun j_=>?_);clear hK K;refine no_ (h:=?_);exact nz_ (hCont _ _ ⟨hge,HA.out,HB.out⟩)
    ·skip
     refine va_ ?_;have HA:=Lh (ha_new HB.out (.cells #[.int .i64 0, .int .i64 0, .int .i64 0, .int .i64 0] 60));have hge:=HB.size;have HB:=Lh (HB.alloc (Nat.le_trans (Nat.le_refl _) HB.size) (.cells #[.int .i64 0, .int .i64 0, .int .i64 0, .int .i64 0] 60));refine hK.out _ _ (FF.out _ HB) (fun j_=>?_);clear hK K;refine no_ (h:=?_);refine on_ 6 (some 44) (h:=fun K hK=>?_);refine gs_ Tryz.func36 #[.agg #[.slice (some ⟨w.heap.size+1+1,0,none⟩) 1 1, .slice none 0 0, .slice none 0 0, .int .i64 0],aP ⟨yx,yy,yz⟩, .agg #[.slice E0 m0 g0, .slice E1_ m1 g1, .slice E2_ m2 g2, .int .i64 rd]] ?_
     with_reducible refine(HCA.out _ (HV.out.below (bthen hB.out HB.out)) (HE.out.below HB.out)).mono ?_
     rintro en w7 ⟨rfl,hb⟩;have HB:=tm_ HB hb;have HA:=up_ hb HA;clear hb;refine⟨_,rfl,?_⟩;refine hK.out _ _ (FF.out _ HB) (fun j_=>?_);clear hK K;refine no_ (h:=?_);refine pu_ 7 37 (h:=?_);refine pu_ 8 45 (h:=?_);refine pu_ 9 46 (h:=?_);refine pu_ 10 47 (h:=?_);exact nz_ (hCont _ _ ⟨hge,HA.out,HB.out⟩)
   rintro AB wj ⟨hge,HA,HB⟩;have HA:=Lh HA;have HB:=Lh HB;have j_:=FF.out _ HB;refine no_ (h:=?_);refine pu_ 12 15 (h:=?_);refine on_ 13 (none) (h:=fun K hK=>?_);have sc0:World.cell? _ ⟨AB,0,none⟩=some (.int .i64 0):=(blk_cell HA.out 0).trans rfl;have sf0:=blk_frozen HA.out 0;have sc1:World.cell? _ ⟨AB,1,none⟩=some (.int .i64 0):=(blk_cell HA.out 1).trans rfl;have sf1:=blk_frozen HA.out 1;have sc2:World.cell? _ ⟨AB,2,none⟩=some (.int .i64 0):=(blk_cell HA.out 2).trans rfl;have sf2:=blk_frozen HA.out 2;have sc3:World.cell? _ ⟨AB,3,none⟩=some (.int .i64 0):=(blk_cell HA.out 3).trans rfl;have sf3:=blk_frozen HA.out 3;refine skip_ (w1:=?_) (by rfl) rfl ?_ ?_;rotate_left
   ·go_simp;rfl
   have HA:=Lh (bs4 HA.out (.int .i64 Xx) (.int .i64 Xy) (.int .i64 Xz) (.int .i64 Xg));have HB:=Lh (bb4 HB.out (Nat.le_trans (Nat.le_refl _) hge) (.int .i64 Xx) (.int .i64 Xy) (.int .i64 Xz) (.int .i64 Xg));clear sc0 sf0 sc1 sf1 sc2 sf2 sc3 sf3;refine hK.out _ _ (FF.out _ HB) (fun j_=>?_);clear hK K;refine pu_ 14 17 (h:=?_);refine done_ (by kernel_rfl) ?_;obtain⟨w4,hwn⟩:=nm_ (((((wj.setCell ⟨AB,0,none⟩ (.int .i64 Xx)).setCell ⟨AB,1,none⟩ (.int .i64 Xy)).setCell ⟨AB,2,none⟩ (.int .i64 Xz)).setCell ⟨AB,3,none⟩ (.int .i64 Xg)));rw[hwn]at HA HB⊢;clear hwn;replace hB:=Lh (bthen hB.out HB.out);have u3:w4.cell? ⟨AB,3,none⟩=some (.int .i64 Xg):=(blk_cell HA.out 3).trans rfl;have ul:AB<w4.heap.size:=blk_lt HA.out;clear HB hge j_ HCA HE x0 x1 x2 x3 xl y0 y1 y2 yl e0 e1 e2 e3 HA
   cases Xo with
   |false=>
    have HTJ:Hid (F (i+1)=(at_,be)):=Lh (by rw[HTI.out];simp);clear HTI;go_wp2
    go_roundw
    case rel=>exact⟨i+1,at_,be,br,by omega,by go_num,rfl,rfl,HTJ,hb0,hb1,hB⟩
    case measure=>simp[intOf];omega
   |true=>
    by_cases t8:k<16
    ·have d8:decide ((k:Int)<16)=true:=decide_eq_true (by omega);by_cases t0:at_<0
     ·have d0:decide (at_<0)=true:=decide_eq_true t0;have HTJ:Hid (F (i+1)=((i:Int),k)):=Lh (by rw[HTI.out];simp[t0,t8]);clear HTI t0;go_wp2
      go_roundw
      case rel=>exact⟨i+1,i,k,k,by omega,by go_num,rfl,rfl,HTJ,Lh (fun h=>by omega),Lh (fun _=>rfl),hB⟩
      case measure=>simp[intOf];omega
     ·have d0:decide (at_<0)=false:=decide_eq_false t0;obtain rfl:=hb1.out (by omega);by_cases t1:k<br
      ·have d1:decide ((k:Int)<(br:Int))=true:=decide_eq_true (by omega);have HTJ:Hid (F (i+1)=((i:Int),k)):=Lh (by rw[HTI.out];simp[t1,t8]);clear HTI t0;go_wp2
       go_roundw
       case rel=>exact⟨i+1,i,k,k,by omega,by go_num,rfl,rfl,HTJ,Lh (fun h=>by omega),Lh (fun _=>rfl),hB⟩
       case measure=>simp[intOf];omega
      ·have d1:decide ((k:Int)<(br:Int))=false:=decide_eq_false (by omega);have HTJ:Hid (F (i+1)=(at_,br)):=Lh (by rw[HTI.out];simp[t0,t1]);clear HTI;go_wp2
       go_roundw
       case rel=>exact⟨i+1,at_,br,br,by omega,by go_num,rfl,rfl,HTJ,hb0,hb1,hB⟩
       case measure=>simp[intOf];omega
    ·have d8:decide ((k:Int)<16)=false:=decide_eq_false (by omega);by_cases t9:Xg<0
     ·have d9:decide (Xg<0)=true:=decide_eq_true t9;by_cases t0:at_<0
      ·have d0:decide (at_<0)=true:=decide_eq_true t0;have HTJ:Hid (F (i+1)=((i:Int),k)):=Lh (by rw[HTI.out];simp[t0,t9]);clear HTI t0;go_wp2
       go_roundw
       case rel=>exact⟨i+1,i,k,k,by omega,by go_num,rfl,rfl,HTJ,Lh (fun h=>by omega),Lh (fun _=>rfl),hB⟩
       case measure=>simp[intOf];omega
      ·have d0:decide (at_<0)=false:=decide_eq_false t0;obtain rfl:=hb1.out (by omega);by_cases t1:k<br
       ·have d1:decide ((k:Int)<(br:Int))=true:=decide_eq_true (by omega);have HTJ:Hid (F (i+1)=((i:Int),k)):=Lh (by rw[HTI.out];simp[t1,t9]);clear HTI t0;go_wp2
        go_roundw
        case rel=>exact⟨i+1,i,k,k,by omega,by go_num,rfl,rfl,HTJ,Lh (fun h=>by omega),Lh (fun _=>rfl),hB⟩
        case measure=>simp[intOf];omega
       ·have d1:decide ((k:Int)<(br:Int))=false:=decide_eq_false (by omega);have HTJ:Hid (F (i+1)=(at_,br)):=Lh (by rw[HTI.out];simp[t0,t1]);clear HTI;go_wp2
        go_roundw
        case rel=>exact⟨i+1,at_,br,br,by omega,by go_num,rfl,rfl,HTJ,hb0,hb1,hB⟩
        case measure=>simp[intOf];omega
     ·have d9:decide (Xg<0)=false:=decide_eq_false t9;have HTJ:Hid (F (i+1)=(at_,be)):=Lh (by rw[HTI.out];simp[t8,t9]);clear HTI;go_wp2
      go_roundw
      case rel=>exact⟨i+1,at_,be,br,by omega,by go_num,rfl,rfl,HTJ,hb0,hb1,hB⟩
      case measure=>simp[intOf];omega
  ·obtain rfl:n=i:=by omega
   rw[hFi.out]at HR;have W9:=Lh (bthen W.out hB.out);by_cases t0:at_<0
   ·have d0:decide (0≤at_)=false:=decide_eq_false (by omega);have HR:=Lh (HR.trans (if_pos t0));obtain rfl:=hb0.out t0;have hm1:at_= -1:=by have:=HBD.out n;rw[hFi.out]at this;simp only at this;omega
    subst hm1;clear t0;go_wp2;exact bodyPost_ret (v:= .tuple #[.int .i64 (-1), .int .i64 16, .bool false]) (by simp[results,Tryz.results42,go_sem]) rfl ⟨by rw[HR.out];rfl,W9.out⟩
   ·have d0:decide (0≤at_)=true:=decide_eq_true (by omega);have HR:=Lh (HR.trans (if_neg t0));obtain rfl:=hb1.out (by omega);clear t0;go_wp2;exact bodyPost_ret (v:= .tuple #[.int .i64 at_, .int .i64 (br:Int), .bool true]) (by simp[results,Tryz.results42,go_sem]) rfl ⟨by rw[HR.out]<;>rfl,W9.out⟩
theorem numbers_calls (l:List Nat)(A B:Option Addr)(n c d:Nat)(w:World)(hA:RdNn w A l)(hB:RdNn w B l)(hn:l.length=n)(hnb:n≤140737488355328):
  Calls Tryz.prog 37 #[.slice A n c, .slice B n d] w fun e w'=>e= .returned (.bool true)∧Below w.heap.size w w':=by
 have HN:=Lh hn;have HA:=Lh hA;have HB:=Lh hB;clear hA hB hn;go_enter Tryz.func37,Tryz.ntmps37;go_wp2_with fail;go_loopw [5] (fun v5 wr=>∃i:Nat,i≤n∧v5= .int .i64 i∧Hid (Below w.heap.size w wr)) (fun i _=>n-(intOf i).toNat)
 case atStart=>exact⟨0,by omega,rfl,Lh (Below.refl _ _)⟩
 case round=>
  obtain⟨i,hi,rfl,hb⟩:=hrel;obtain⟨wq,hwq⟩:∃x:World,x=wr:=⟨_,rfl⟩;subst hwq;by_cases hlt:i<n
  ·obtain⟨x,hx⟩:∃x,l[i]?=some x:=⟨l[i]'(by rw[HN.out];exact hlt),List.getElem?_eq_getElem _⟩;obtain⟨a1,o1,rfl,la,e1⟩:=(HA.below hb.out) i x hx;obtain⟨a2,o2,rfl,lb,e2⟩:=(HB.below hb.out) i x hx;have ti:(i:Int)<(n:Int):=by omega
   clear hx;go_wp2_with fail
   go_quiet (fail)
   go_wp2
   go_roundw
   case rel=>exact⟨i+1,by omega,by go_num,Lh (pw_below_drewN hb.out _)⟩
   case measure=>simp[intOf];omega
  ·obtain rfl:n=i:=by omega
   go_wp2
   go_ret
   exact⟨rfl,hb.out⟩
theorem points76_calls (l:List P3)(A B:Option Addr)(n c d:Nat)(w:World)(hA:Rd w A l)(hB:Rd w B l)(hn:l.length=n)(hnb:n≤140737488355328):
  Calls Tryz.prog 78 #[.slice A n c, .slice B n d] w fun e w'=>e= .returned (.bool true)∧Below w.heap.size w w':=by
 have HN:=Lh hn;have HA:=Lh hA;have HB:=Lh hB;clear hA hB hn;go_enter Tryz.func78,Tryz.ntmps78;go_wp2_with fail;go_loopw [5] (fun v5 wr=>∃i:Nat,i≤n∧v5= .int .i64 i∧Hid (Below w.heap.size w wr)) (fun i _=>n-(intOf i).toNat)
 case atStart=>exact⟨0,by omega,rfl,Lh (Below.refl _ _)⟩
 case round=>
  obtain⟨i,hi,rfl,hb⟩:=hrel;obtain⟨wq,hwq⟩:∃x:World,x=wr:=⟨_,rfl⟩;subst hwq;by_cases hlt:i<n
  ·have hil:i<l.length:=by rw[HN.out];exact hlt
   obtain⟨a1,o1,rfl,la,e0,e1,e2⟩:=(HA.below hb.out).get i hil;obtain⟨a2,o2,rfl,lb,g0,g1,g2⟩:=(HB.below hb.out).get i hil;obtain⟨x,hx⟩:=nm_ (l[i]);rw[hx]at e0 e1 e2 g0 g1 g2;obtain⟨xx,xy,xz⟩:=x;simp only at e0 e1 e2 g0 g1 g2;have heq:eqP xx xy xz xx xy xz=true:=eqP_yes rfl;have ti:(i:Int)<(n:Int):=by omega
   clear hx hil;go_wp2_with fail
   go_quiet (fail)
   go_wp2
   go_roundw
   case rel=>exact⟨i+1,by omega,by go_num,Lh (pw_below_drewN hb.out _)⟩
   case measure=>simp[intOf];omega
  ·obtain rfl:n=i:=by omega
   go_wp2
   go_ret
   exact⟨rfl,hb.out⟩
/-- few: it says something; where it says yes, the list is short -/
theorem few_calls (l:List Cr)(A:Option Addr)(n c:Nat)(w:World)(hA:RdC w A l)(hn:l.length=n)(hnb:n≤140737488355328):
  Calls Tryz.prog 32 #[.slice A n c] w fun e w'=>∃b,e= .returned (.bool b)∧(b=true→n≤20)∧Below w.heap.size w w':=by
 have HN:=Lh hn;have HA:=Lh hA;clear hA hn;by_cases h20:20<n
 ·have d20:decide (20<(n:Int))=true:=decide_eq_true (by omega);go_enter Tryz.func32,Tryz.ntmps32;go_wp2
  go_ret
  exact⟨false,rfl,(fun h=>by cases h),Below.refl _ _⟩
 have d20:decide (20<(n:Int))=false:=decide_eq_false (by omega);go_enter Tryz.func32,Tryz.ntmps32;go_wp2_with fail;go_loopw [3] (fun v3 wr=>∃i:Nat,i≤n∧v3= .int .i64 i∧Hid (Below w.heap.size w wr)) (fun i _=>n-(intOf i).toNat)
 case atStart=>exact⟨0,by omega,rfl,Lh (Below.refl _ _)⟩
 case round=>
  obtain⟨i,hi,rfl,hb⟩:=hrel;obtain⟨wq,hwq⟩:∃x:World,x=wr:=⟨_,rfl⟩;subst hwq;by_cases hlt:i<n
  ·have hil:i<l.length:=by rw[HN.out];exact hlt
   obtain⟨b,o,A0,A1,A2,n0,n1,n2,c0,c1,c2,rfl,lb,e0,e1,e2,e3,hd⟩:=(HA.below hb.out).get i hil;have ti:(i:Int)<(n:Int):=by omega
   clear hd e3 hil;have out:∀b,(b=true→n≤20):=fun _ _=>by omega
   by_cases t0:40<n0
   ·have d0:decide (40<(n0:Int))=true:=decide_eq_true (by omega);go_wp2
    go_ret
    exact⟨false,rfl,out _,hb.out⟩
   have d0:decide (40<(n0:Int))=false:=decide_eq_false (by omega);by_cases t1:80<n1
   ·have d1:decide (80<(n1:Int))=true:=decide_eq_true (by omega);go_wp2
    go_ret
    exact⟨false,rfl,out _,hb.out⟩
   have d1:decide (80<(n1:Int))=false:=decide_eq_false (by omega);by_cases t2:16<n2
   ·have d2:decide (16<(n2:Int))=true:=decide_eq_true (by omega);go_wp2
    go_ret
    exact⟨false,rfl,out _,hb.out⟩
   have d2:decide (16<(n2:Int))=false:=decide_eq_false (by omega);go_wp2
   go_roundw
   case rel=>exact⟨i+1,by omega,by go_num,hb⟩
   case measure=>simp[intOf];omega
  ·obtain rfl:n=i:=by omega
   go_wp2
   go_ret
   exact⟨true,rfl,fun _=>by omega,hb.out⟩
/-- two values of one core -/
theorem cores36_calls {w:World}{va vb:Value}{c:Cr}(ha:CrV w va c)(hb:CrV w vb c)(hc:CrB c):Calls Tryz.prog 33 #[va,vb] w fun e w'=>e= .returned (.bool true)∧Below w.heap.size w w':=by
 unfold CrB at hc;obtain⟨A0,A1,A2,c0,c1,c2,rfl,p0,p1,p2,_⟩:=ha.out;obtain⟨B0,B1,B2,d0,d1,d2,rfl,q0,q1,q2,_⟩:=hb.out;have H0:=Lh (fun(W:World) (hW:Below w.heap.size w W)=>points76_calls c.p A0 B0 _ c0 d0 W (p0.1.below hW) (q0.1.below hW) rfl hc.1);have H1:=Lh (fun(W:World) (hW:Below w.heap.size w W)=>points76_calls c.a A1 B1 _ c1 d1 W (p1.1.below hW) (q1.1.below hW) rfl hc.2.1);have H2:=Lh (fun(W:World) (hW:Below w.heap.size w W)=>points76_calls c.e A2 B2 _ c2 d2 W (p2.1.below hW) (q2.1.below hW) rfl hc.2.2);obtain⟨n0,hn0⟩:=nm_ c.p.length;obtain⟨n1,hn1⟩:=nm_ c.a.length;obtain⟨n2,hn2⟩:=nm_ c.e.length;obtain⟨r,hr⟩:=nm_ c.r;rw[hn0]at H0;rw[hn1]at H1;rw[hn2]at H2;rw[hn0,hn1,hn2,hr];clear hn0 hn1 hn2 hr p0 p1 p2 q0 q1 q2 ha hb hc;have g0:=(Below.heap_alloc _ (.cells #[.slice B0 n0 d0, .slice B1 n1 d1, .slice B2 n2 d2, .int .i64 r] 35) _ (by simp)).trans (heap_alloc_new w (.cells #[.slice A0 n0 c0, .slice A1 n1 c1, .slice A2 n2 c2, .int .i64 r] 35));have g1:=heap_alloc_new (w.alloc (.cells #[.slice A0 n0 c0, .slice A1 n1 c1, .slice A2 n2 c2, .int .i64 r] 35)) (.cells #[.slice B0 n0 d0, .slice B1 n1 d1, .slice B2 n2 d2, .int .i64 r] 35);have gb:=((Below.refl _ w).alloc (Nat.le_refl _) (.cells #[.slice A0 n0 c0, .slice A1 n1 c1, .slice A2 n2 c2, .int .i64 r] 35)).alloc (by simp) (.cells #[.slice B0 n0 d0, .slice B1 n1 d1, .slice B2 n2 d2, .int .i64 r] 35);simp only[World.size_alloc]at g1;go_enter Tryz.func33,Tryz.ntmps33;go_wp2_with fail;obtain⟨w1,hw1⟩:=nm_ ((w.alloc (.cells #[.slice A0 n0 c0, .slice A1 n1 c1, .slice A2 n2 c2, .int .i64 r] 35)).alloc (.cells #[.slice B0 n0 d0, .slice B1 n1 d1, .slice B2 n2 d2, .int .i64 r] 35))
 (try rw[hw1]at g0 g1 gb⊢)
 have Z0:=Lh g0;have Z1:=Lh g1;have W:=Lh gb;clear g0 g1 gb hw1;obtain⟨x0,x1,x2,x3,xl⟩:=f4_ w.heap.size Z0.out;obtain⟨y0,y1,y2,y3,yl⟩:=f4_ (w.heap.size+1) Z1.out;go_wp2_with fail
 with_reducible refine(H0.out _ W.out).mono ?_
 rintro en w2 ⟨rfl,hb⟩;replace Z0:=up_ hb Z0;replace Z1:=up_ hb Z1;replace W:=Lh (bthen W.out hb);clear hb x0 x1 x2 x3 xl y0 y1 y2 y3 yl;obtain⟨x0,x1,x2,x3,xl⟩:=f4_ w.heap.size Z0.out;obtain⟨y0,y1,y2,y3,yl⟩:=f4_ (w.heap.size+1) Z1.out;go_wp2_with fail
 with_reducible refine(H1.out _ W.out).mono ?_
 rintro en w3 ⟨rfl,hb⟩;replace Z0:=up_ hb Z0;replace Z1:=up_ hb Z1;replace W:=Lh (bthen W.out hb);clear hb x0 x1 x2 x3 xl y0 y1 y2 y3 yl;obtain⟨x0,x1,x2,x3,xl⟩:=f4_ w.heap.size Z0.out;obtain⟨y0,y1,y2,y3,yl⟩:=f4_ (w.heap.size+1) Z1.out;go_wp2_with fail
 with_reducible refine(H2.out _ W.out).mono ?_
 rintro en w4 ⟨rfl,hb⟩;replace Z0:=up_ hb Z0;replace Z1:=up_ hb Z1;replace W:=Lh (bthen W.out hb);clear hb x0 x1 x2 x3 xl y0 y1 y2 y3 yl;go_wp2
 go_ret
 exact⟨rfl,W.out⟩
theorem app_cores {W:World}(ty:TypeId){d:Cr}{l:List Cr}{A:Option Addr}{n c:Nat}{A0 A1 A2:Option Addr}{n0 n1 n2 c0 c1 c2:Nat}(hd:CrV W (.agg #[.slice A0 n0 c0, .slice A1 n1 c1, .slice A2 n2 c2, .int .i64 d.r]) d)(hl:RdC W A l)(hn:l.length=n)(hb:n*80≤140737488351232)(o:Obj)(ho:o= .cells #[.slice A0 n0 c0, .slice A1 n1 c1, .slice A2 n2 c2, .int .i64 d.r] 35):
  ∃A' c' w',(Builtin.append_ #[42,42] ty #[.slice (some ⟨W.heap.size,0,none⟩) 1 1, .slice A n c]).run Tryz.prog (W.alloc o)= .ok (.slice A' (n+1) c') w'∧RdC w' A' (d::l)∧Below W.heap.size W w':=by
 subst ho;obtain⟨i0,hi,hz0,hz1,hz2⟩:=info_parts info36;have bz:=(Below.refl _ W).alloc (Nat.le_refl _) (.cells #[.slice A0 n0 c0, .slice A1 n1 c1, .slice A2 n2 c2, .int .i64 d.r] 35);have hown:=World.ownsRow_lit (base:=W.heap.size) (e:=35) (size:=4) W #[.slice A0 n0 c0, .slice A1 n1 c1, .slice A2 n2 c2, .int .i64 d.r] 1 (Nat.le_refl _) (by unfold maxLen;omega) rfl;obtain⟨w,hw⟩:=nm_ (W.alloc (.cells #[.slice A0 n0 c0, .slice A1 n1 c1, .slice A2 n2 c2, .int .i64 d.r] 35));have hsz:W.heap.size<w.heap.size:=by rw[←hw];simp
 rw[hw]at bz hown⊢;have row0:RowC W [.slice A0 n0 c0, .slice A1 n1 c1, .slice A2 n2 c2, .int .i64 d.r] [d]:=by
  have:=RowC.cons (news:=[]) (l:=[]) (w:=W) (fun i e he=>by simp at he) hd;simpa using this
 cases A with
 |none=>
  have h0:l=[]:=by
   cases l with
   |nil=>rfl
   |cons p l=>obtain⟨b,o',_,_,_,_,_,_,_,_,_,e,_⟩:=hl 0 p rfl;cases e
  subst h0;simp only[List.length_nil]at hn;subst hn;refine⟨some ⟨W.heap.size,0,none⟩,1,w,?_,?_,bz⟩
  ·simp[Builtin.append_,run_underlying Tryz.underlying42,sizeOf,typeInfo,hi,Builtin.lenOf,Builtin.firstCells,storeCells]
  ·exact(row0.below bz).rd hsz fun j u hj=>by
    have:=hown.cells (g:=W.heap.size) rfl j u hj
    rwa [add_at,Nat.zero_add]at this
 |some ad=>
  obtain⟨news,e1,e2,e3,e4⟩:∃news:List Value,news.length=n*4∧(∀j u,news[j]?=some u→w.cell? (ad.add j)=some u)∧(∀u∈news,u.oneCell'=true)∧RowC W news l:=by
   cases l with
   |nil=>
    simp only[List.length_nil]at hn;subst hn
    exact⟨[],rfl,fun j u hj=>by simp at hj,fun u hu=>by simp at hu,fun i d hd=>by simp at hd⟩
   |cons p l=>
    obtain⟨b,o',_,_,_,_,_,_,_,_,_,e,hlt,_⟩:=hl 0 p rfl;simp only[Option.some.injEq]at e;subst e;obtain⟨news,e1,e2,e3,e4⟩:=hl.news;exact⟨news,by rw[e1,hn],fun j u hj=>by rw[add_at];exact(bz.cell (p:=⟨b,o'+j,none⟩) hlt).trans (e2 j u hj),e3,e4⟩
  obtain⟨v',w',h0,h1,h2,h3,h4⟩:=Go.run_append_own_at (P:=Tryz.prog) w W.heap.size 42 ty 35 i0 _ 4 80 Tryz.underlying42 hi hz0 hz1 hz2 rfl (by omega) _ 1 _ hown ad n c news e1 e2 e3 (by unfold maxLen;omega) (by omega) (Nat.le_of_lt hsz)
  have hB:Below W.heap.size W w':=bz.grown h2 (Nat.le_of_lt hsz) (fun k hk=>by
   simp only[Value.ownBlock,Option.some.injEq]at hk
   omega)
  have hcons:=(e4.cons hd).below hB;have h1':=h1;rcases h1.2 with⟨_,hz⟩|⟨g,cap,cur,rfl,_,hg,_⟩
  ·omega
  ·refine⟨some ⟨g,0,none⟩,cap,w',?_,?_,hB⟩
   ·rw[h0,Nat.add_comm 1 n]
   ·exact hcons.rd (Array.getElem?_eq_some_iff.1 hg).1 fun j u hj=>by
     have:=h1'.cells (g:=g) rfl j u (by simpa using hj)
     rwa [add_at,Nat.zero_add]at this
end Go.Proofs.YtckdhahceelckaaGreat.G
namespace Go.Proofs.YtckdhahceelckaaGreat.G
open Go.RowKit Go.Proofs.YtckdhahceelckaaGreatW.PrintWords Go.Proofs.YtckdhahceelckaaGreatW.PrintLast Go.Proofs.YtckdhahceelckaaGreatW.PrintMore
def exP:Cr:=⟨[⟨0,0,0⟩],[],[],0⟩
theorem ex_castP:castF exP ⟨160,0,0⟩ exB=((1,(E1,8)),true):=by
 have hsh:short3 ⟨160,0,0⟩=⟨1,0,0⟩:=by
  exact short_b 160 (by decide) (by decide) (p3_of (by decide+kernel))
 have hok:castOk exP ⟨160,0,0⟩ exB=true:=(castOk_iff ..).2 ⟨mayOne (by unfold in3;decide) (by decide) (by decide),exB_may,ex_smay 10 0 (by decide) (by decide) (by decide) (by decide),ex_may 10 0 (by decide) (by decide) (by decide) (by decide) 16 (by decide) (by decide)⟩;have ht:∀k:Nat,k≤1→(apS (trailF exP ⟨160,0,0⟩ ((k:Int)+1)) exB).1=(E1,8-10*(k:Int)):=by
  intro k hk;have:=ex_trail 10 0 (by decide) (by decide) (by decide) (by decide) ⟨160,0,0⟩ rfl hsh ((k:Int)+1) (by omega) (by omega) (by omega);show(apS (trailF ⟨[⟨0,0,0⟩],[],[],0⟩ ⟨160,0,0⟩ ((k:Int)+1)) exB).1=_;rw[this];simp only[Prod.mk.injEq,true_and];omega
 unfold castF;rw[if_pos hok,show(apS exP exB).1=(E1,18) from by show(apS ⟨[⟨0,0,0⟩],[],[],0⟩ exB).1=_;rw[ex_first 0 (by decide) (by decide)];rfl];rw[show(16:Nat)=15+1 from rfl,castL_go (by decide) (ht 0 (by decide)) (by decide),show(15:Nat)=14+1 from rfl,castL_stop (ht 1 (by decide)) (by decide)];rfl
theorem ex_ray:rayF ⟨0,0,0⟩ ⟨160,0,0⟩ [exB]=((0,1),true):=by
 have h:rayAsk exP ⟨160,0,0⟩ exB=(1,true):=by unfold rayAsk;rw[ex_castP];rfl
 have hl:rayL exP ⟨160,0,0⟩ [exB]=(0,1):=by
  unfold rayL;show leastF 0 _ _ 1=_;rw[leastF];have e:(match[exB][0]? with|some d=>rayAsk exP ⟨160,0,0⟩ d|none=>(0,false))=(1,true):=h;simp only[leastF,e,List.getElem?_cons_zero,h];simp
 unfold rayF;rw[if_pos (show smay ⟨[⟨0,0,0⟩],[],[],0⟩ ⟨160,0,0⟩=true from ex_smay 10 0 (by decide) (by decide) (by decide) (by decide))];show(if(rayL exP ⟨160,0,0⟩ [exB]).1<0 then((-1,16),false)else(rayL exP ⟨160,0,0⟩ [exB],true))=_;rw[hl];rfl
end Go.Proofs.YtckdhahceelckaaGreat.G
namespace Go.Proofs.YtckdhahceelckaaGreat.G
open Go.RowKit Go.Proofs.YtckdhahceelckaaGreatW.PrintWords Go.Proofs.YtckdhahceelckaaGreatW.PrintLast Go.Proofs.YtckdhahceelckaaGreatW.PrintMore
attribute [local go_sem] max2_mx min2_mn max_two min_two max_three min_three max_four min_four
attribute [local go_sem high] eqA23 eqA40
theorem awake11_calls (w:World):Calls Tryz.prog 10 #[] w fun e w'=>e= .returned (.bool true)∧Below w.heap.size w w':=by
 go_enter Tryz.func10,Tryz.ntmps10;go_wp2_with fail;obtain⟨w4,hw4⟩:=nm_ (((((w.alloc (.cells #[.int .i64 0, .int .i64 0, .int .i64 0] 23)).alloc (.cells #[.slice (some ⟨w.heap.size,0,none⟩) 1 1, .slice none 0 0, .slice none 0 0, .int .i64 2] 35)).alloc (.cells #[.int .i64 20, .int .i64 0, .int .i64 0] 23)).alloc (.cells #[.slice (some ⟨w.heap.size+1+1,0,none⟩) 1 1, .slice none 0 0, .slice none 0 0, .int .i64 2] 35)));have I0:w4.heap[w.heap.size]?=some (.cells #[.int .i64 0, .int .i64 0, .int .i64 0] 23 (0,0)):=by rw[←hw4];exact(Below.heap_alloc _ _ _ (by simp;omega)).trans (three0 _ _ _ _)
 have I2:w4.heap[w.heap.size+1+1]?=some (.cells #[.int .i64 20, .int .i64 0, .int .i64 0] 23 (0,0)):=by rw[←hw4];exact(Below.heap_alloc _ _ _ (by simp)).trans (three2 _ _ _ _)
 have I3:w4.heap[w.heap.size+1+1+1]?=some (.cells #[.slice (some ⟨w.heap.size+1+1,0,none⟩) 1 1, .slice none 0 0, .slice none 0 0, .int .i64 2] 35 (0,0)):=by
  rw[←hw4];have:=heap_alloc_new (((w.alloc (.cells #[.int .i64 0, .int .i64 0, .int .i64 0] 23)).alloc (.cells #[.slice (some ⟨w.heap.size,0,none⟩) 1 1, .slice none 0 0, .slice none 0 0, .int .i64 2] 35)).alloc (.cells #[.int .i64 20, .int .i64 0, .int .i64 0] 23)) (.cells #[.slice (some ⟨w.heap.size+1+1,0,none⟩) 1 1, .slice none 0 0, .slice none 0 0, .int .i64 2] 35);simpa only[World.size_alloc]using this
 have IB:Below w.heap.size w w4:=by rw[←hw4];exact(((((Below.refl _ w).alloc (Nat.le_refl _) _).alloc (by simp) _).alloc (by simp;omega) _).alloc (by simp;omega) _)
 rw[hw4];clear hw4;have cA:CrV w4 (.agg #[.slice (some ⟨w.heap.size,0,none⟩) 1 1, .slice none 0 0, .slice none 0 0, .int .i64 2]) exA:=ball_core w4 w.heap.size 0 0 0 2 1 (Nat.le_refl _) I0;have cB:CrV w4 (.agg #[.slice (some ⟨w.heap.size+1+1,0,none⟩) 1 1, .slice none 0 0, .slice none 0 0, .int .i64 2]) exB:=ball_core w4 (w.heap.size+1+1) 20 0 0 2 1 (Nat.le_refl _) I2;have hcast:=cast_calls cA cB ⟨32,0,0⟩ (by unfold exA;simp);rw[ex_castA]at hcast
 with_reducible refine hcast.mono ?_
 rintro e w5 ⟨rfl,hb5⟩;have I3:=(hb5.block _ (blk_lt I3)).trans I3;have cB5:=cB.below hb5;have IB5:=bthen IB hb5;obtain⟨x0,x1,x2,x3,_⟩:=f4_ (w.heap.size+1+1+1) I3;have l5:=blk_lt I3;clear hcast cA cB I0 I2 I3 IB hb5;dsimp only;go_wp2_with fail;have J0:=(Below.heap_alloc (w5.alloc (.cells #[.int .i64 1048576, .int .i64 0, .int .i64 0, .int .i64 0] 60)) (.cells #[.slice (some ⟨w.heap.size+1+1,0,none⟩) 1 1, .slice none 0 0, .slice none 0 0, .int .i64 2] 35) _ (by simp)).trans (heap_alloc_new w5 (.cells #[.int .i64 1048576, .int .i64 0, .int .i64 0, .int .i64 0] 60));have J1:=heap_alloc_new (w5.alloc (.cells #[.int .i64 1048576, .int .i64 0, .int .i64 0, .int .i64 0] 60)) (.cells #[.slice (some ⟨w.heap.size+1+1,0,none⟩) 1 1, .slice none 0 0, .slice none 0 0, .int .i64 2] 35);have JB:=((Below.refl _ w5).alloc (Nat.le_refl _) (.cells #[.int .i64 1048576, .int .i64 0, .int .i64 0, .int .i64 0] 60)).alloc (by simp) (.cells #[.slice (some ⟨w.heap.size+1+1,0,none⟩) 1 1, .slice none 0 0, .slice none 0 0, .int .i64 2] 35);obtain⟨w6,hw6⟩:=nm_ ((w5.alloc (.cells #[.int .i64 1048576, .int .i64 0, .int .i64 0, .int .i64 0] 60)).alloc (.cells #[.slice (some ⟨w.heap.size+1+1,0,none⟩) 1 1, .slice none 0 0, .slice none 0 0, .int .i64 2] 35));rw[hw6]at J0 J1 JB
 (try rw[hw6])
 have hw6':=Lh hw6;simp only[World.size_alloc]at J1;have hl:=RdC_one J1 (cB5.below JB) rfl;have hray:=ray_calls ⟨0,0,0⟩ ⟨160,0,0⟩ [exB] (some ⟨w5.heap.size+1,0,none⟩) 1 1 w6 hl rfl (by decide);rw[ex_ray]at hray;clear hw6 x0 x1 x2 x3 l5 J1 cB5 hl
 with_reducible refine hray.mono ?_
 rintro e w7 ⟨rfl,hb7⟩;have J0:=(hb7.block _ (blk_lt J0)).trans J0;have IB7:=bthen (bthen IB5 JB) hb7;obtain⟨y0,y1,y2,y3,_⟩:=f4_ w5.heap.size J0;have e0:eqP 1048576 0 0 1048576 0 0=true:=by decide
 clear hray JB hb7 IB5 hw6' J0;dsimp only;go_wp2
 go_ret
 exact⟨by simp[eqP],IB7⟩
end Go.Proofs.YtckdhahceelckaaGreat.G
namespace Go.Proofs.YtckdhahceelckaaGreat.G
open Go.RowKit Go.Proofs.YtckdhahceelckaaGreatW.PrintWords Go.Proofs.YtckdhahceelckaaGreatW.PrintLast Go.Proofs.YtckdhahceelckaaGreatW.PrintMore
attribute [local go_sem] max2_mx min2_mn max_two min_two max_three min_three max_four min_four
attribute [local go_sem high] eqA23
theorem pick_calls (c n:Int)(hc1: -9223372036854775808≤c)(hc2:c≤9223372036854775807)(hn:0<n)(hn2:n≤4294967296)(w:World):
  Calls Tryz.prog 29 #[.int .i64 c, .int .i64 n] w fun e w'=>e= .returned (.int .i64 (pickF c n))∧w'=w:=by
 have hb:=pickF_bd c n hn;have hn0:n≠0:=by omega
 have hn1:n≠ -1:=by omega
 by_cases h:c<0
 ·have hd:decide (c<0)=true:=by simpa using h
  have e1:IntKind.i64.wrap (c+1)=c+1:=iw_id _ (by omega) (by omega);have e2:IntKind.i64.wrap (-(c+1))= -(c+1):=iw_id _ (by omega) (by omega);have e3:pickF c n=(-(c+1)).tmod n:=by unfold pickF;rw[if_pos h]
  have e4:IntKind.i64.wrap ((-(c+1)).tmod n)=(-(c+1)).tmod n:=iw_id _ (by rw[←e3];omega) (by rw[←e3];omega);rw[e3];go_enter Tryz.func29,Tryz.ntmps29;go_wp2
  go_ret
  exact⟨by show Ending.returned (Value.int .i64 (-(c+1).tmod n))=_;rw[Int.neg_tmod],rfl⟩
 ·have hd:decide (c<0)=false:=by simpa using h
  have e3:pickF c n=c.tmod n:=by unfold pickF;rw[if_neg h]
  have e4:IntKind.i64.wrap (c.tmod n)=c.tmod n:=iw_id _ (by rw[←e3];omega) (by rw[←e3];omega);rw[e3];go_enter Tryz.func29,Tryz.ntmps29;go_wp2
  go_ret
  exact⟨by show Ending.returned (Value.int .i64 (c%n))=_;rw[Int.tmod_eq_emod_of_nonneg (by omega)],rfl⟩
end Go.Proofs.YtckdhahceelckaaGreat.G
namespace Go.Proofs.YtckdhahceelckaaGreat.G
open Go.RowKit Go.Proofs.YtckdhahceelckaaGreatW.PrintWords Go.Proofs.YtckdhahceelckaaGreatW.PrintLast Go.Proofs.YtckdhahceelckaaGreatW.PrintMore
attribute [local go_sem] max2_mx min2_mn max_two min_two max_three min_three max_four min_four
/-- block g holds a pose -/
def Pk (w:World)(g:Nat)(t:TypeId)(p:P7):Prop:=w.heap[g]?=some (.cells (cP7 p) t (0,0))
end Go.Proofs.YtckdhahceelckaaGreat.G
