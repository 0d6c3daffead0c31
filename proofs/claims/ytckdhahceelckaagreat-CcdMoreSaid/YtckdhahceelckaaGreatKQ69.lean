/- What the laws of this claim lean on: contracts of functions and plain lemmas; no condition of its own (part 69: XZ5). -/
import Derived.Test.YtckdhahceelckaaGreatKQ44
import Derived.Test.YtckdhahceelckaaGreatKQ53
import Derived.Test.YtckdhahceelckaaGreatKQ68
set_option maxHeartbeats 16000000
set_option maxRecDepth 100000
set_option linter.unusedVariables false
set_option linter.unusedSimpArgs false
namespace Go.Proofs.YtckdhahceelckaaGreat.G
open Go.RowKit Go.Proofs.YtckdhahceelckaaGreatW.PrintWords Go.Proofs.YtckdhahceelckaaGreatW.PrintLast Go.Proofs.YtckdhahceelckaaGreatW.PrintMore
attribute [local go_sem] max2_mx min2_mn max_two min_two max_three min_three max_four min_four
attribute [local go_sem high] eqA23 eqA40
theorem RdC.drop {w:World}{b o:Nat}{l:List Cr}(h:RdC w (some ⟨b,o,none⟩) l)(i:Nat):RdC w (some ⟨b,o+i*4,none⟩) (l.drop i):=fun j d hd=>by
 rw[List.getElem?_drop]at hd;obtain⟨b',o',A0,A1,A2,n0,n1,n2,c0,c1,c2,e,hlt,h0,h1,h2,h3,h4⟩:=h (i+j) d hd;simp only[Option.some.injEq,Addr.mk.injEq,and_true]at e;obtain⟨rfl,rfl⟩:=e;have ee:o+(i+j)*4=o+i*4+j*4:=by omega
 rw[ee]at h0 h1 h2 h3;exact⟨b,o+i*4,A0,A1,A2,n0,n1,n2,c0,c1,c2,rfl,hlt,h0,h1,h2,h3,h4⟩
theorem RdC.take {w:World}{A:Option Addr}{l:List Cr}(h:RdC w A l)(k:Nat):RdC w A (l.take k):=fun i d hd=>by
 refine h i d ?_;rw[List.getElem?_take]at hd;split at hd
 ·exact hd
 ·cases hd
theorem ccdMore_calls {w:World}(f y:P3)(r:Int)(A:Option Addr)(n c:Nat)(A':Option Addr)(n' c':Nat)(ls:List RawS)(lq:List P7)(hf:pI64 f)(hy:pI64 y)(hr:i64 r)(hls:RdW w A ls)(hn:ls.length=n)(hlq:RdQ w A' lq)(hn':lq.length=n')(hb:n≤140737488355328)(hb':n'≤140737488355328):
  Calls Tryz.prog 8 #[.agg (cShot f y r A n c A' n' c')] w fun e w'=>e= .returned (.bool true)∧Below w.heap.size w w':=by
 have HMD:=Lh (fun(W:World) (h1:RdW W A ls) (h2:RdQ W A' lq)=>made_calls f y r A n c A' n' c' ls lq hf hy hr h1 hn h2 hn' hb hb');unfold MadeP at HMD;have HSO:=Lh (shot_ok f y r);have HLS:=Lh hls;have HLQ:=Lh hlq;clear hls hlq hn hn' hf hy hr hb hb';obtain⟨a,ha⟩:=nm_ (fromS f);obtain⟨b,hb⟩:=nm_ (toS f y);obtain⟨ra,hra⟩:=nm_ (radS r);rw[ha,hb,hra]at HMD HSO;clear ha hb hra;have HHO:=Lh (fun(vw:Value) (W:World) l A n c (hl:RdC W A l) (hn:l.length=n) (hnb:n≤140737488355328)=>hold_calls vw a b ra l A n c hl hn hnb HSO.out.a63 HSO.out.b63);have HMO:=Lh (fun l i h=>hold_more a b ra l i h);have HON:=Lh (fun d=>hold_one a b ra d);have HF1:Hid (∀l,(holdF a b ra l).2=holdK a b ra l):=Lh (fun _=>rfl);have HNIL:Hid (holdK a b ra []=16):=Lh (by unfold holdK;split<;>rfl);have HAW:=Lh awake18_calls;obtain⟨HF,hHF⟩:=nm_ (holdF a b ra);obtain⟨HK,hHK⟩:=nm_ (holdK a b ra);rw[hHF]at HHO HF1;rw[hHK]at HMO HON HF1 HNIL;clear hHF hHK;obtain⟨ax,ay,az⟩:=a;obtain⟨tx,ty,tz⟩:=b;obtain⟨fx,fy,fz⟩:=f;obtain⟨yx,yy,yz⟩:=y;have W:=Lh (Below.refl w.heap.size w);go_enter Tryz.func8,Tryz.ntmps8
 go_upto_region 1 with fail
 have bz:=((Below.refl w.heap.size w).alloc (Nat.le_refl _) (.cells #[.int .i64 fx, .int .i64 fy, .int .i64 fz, .int .i64 yx, .int .i64 yy, .int .i64 yz, .int .i64 r, .slice A n c, .slice A' n' c'] 47));have nz0:=heap_alloc_new w (.cells #[.int .i64 fx, .int .i64 fy, .int .i64 fz, .int .i64 yx, .int .i64 yy, .int .i64 yz, .int .i64 r, .slice A n c, .slice A' n' c'] 47);obtain⟨w1,hwz⟩:=nm_ ((w.alloc (.cells #[.int .i64 fx, .int .i64 fy, .int .i64 fz, .int .i64 yx, .int .i64 yy, .int .i64 yz, .int .i64 r, .slice A n c, .slice A' n' c'] 47)));rw[hwz]at bz nz0⊢;replace W:=Lh (bthen W.out bz);have S:=Lh nz0;clear hwz bz nz0;replace HLS:=Lh (HLS.below W.out);replace HLQ:=Lh (HLQ.below W.out);go_wp2_with fail
 with_reducible refine(HAW.out _).mono ?_
 rintro en w2 ⟨rfl,hb⟩;replace S:=up_ hb S;replace HLS:=Lh (HLS.below hb);replace HLQ:=Lh (HLQ.below hb);replace W:=Lh (bthen W.out hb);clear HAW;clear hb
 go_upto_region 2 with fail
 have s0:w2.cell? ⟨w.heap.size,0,none⟩=some (.int .i64 fx):=(blk_cell S.out 0).trans rfl;have s1:w2.cell? ⟨w.heap.size,1,none⟩=some (.int .i64 fy):=(blk_cell S.out 1).trans rfl;have s2:w2.cell? ⟨w.heap.size,2,none⟩=some (.int .i64 fz):=(blk_cell S.out 2).trans rfl;have s3:w2.cell? ⟨w.heap.size,3,none⟩=some (.int .i64 yx):=(blk_cell S.out 3).trans rfl;have s4:w2.cell? ⟨w.heap.size,4,none⟩=some (.int .i64 yy):=(blk_cell S.out 4).trans rfl;have s5:w2.cell? ⟨w.heap.size,5,none⟩=some (.int .i64 yz):=(blk_cell S.out 5).trans rfl;have s6:w2.cell? ⟨w.heap.size,6,none⟩=some (.int .i64 r):=(blk_cell S.out 6).trans rfl;have s7:w2.cell? ⟨w.heap.size,7,none⟩=some (.slice A n c):=(blk_cell S.out 7).trans rfl;have s8:w2.cell? ⟨w.heap.size,8,none⟩=some (.slice A' n' c'):=(blk_cell S.out 8).trans rfl;have sl:w.heap.size<w2.heap.size:=blk_lt S.out;go_wp2_with fail
 with_reducible refine(HMD.out _ HLS.out HLQ.out).mono ?_
 rintro en w3 ⟨Al,cl,l,rfl,hrd,hlc,hgd,hl3,hb⟩;replace S:=up_ hb S;replace W:=Lh (bthen W.out hb);obtain⟨NL,hNL⟩:=nm_ l.length;rw[hNL]at hlc hl3⊢;have HNL:=Lh hNL;have HRD:=Lh hrd;have HLC:=Lh hlc;have HGD:=Lh hgd;have HL3:=Lh hl3;clear hNL hrd hlc hgd hl3 hb HMD HLS HLQ s0 s1 s2 s3 s4 s5 s6 s7 s8 sl
 go_upto_region 3 with fail
 have bz:=(((Below.refl w3.heap.size w3).alloc (Nat.le_refl _) (.cells #[.int .i64 ax, .int .i64 ay, .int .i64 az] 27)).alloc (by simp) (.cells #[.int .i64 tx, .int .i64 ty, .int .i64 tz] 27));have nz0:=heap_alloc_new w3 (.cells #[.int .i64 ax, .int .i64 ay, .int .i64 az] 27);replace nz0:=(Below.heap_alloc _ (.cells #[.int .i64 tx, .int .i64 ty, .int .i64 tz] 27) _ (by simp<;>omega)).trans nz0;have nz1:=heap_alloc_new (w3.alloc (.cells #[.int .i64 ax, .int .i64 ay, .int .i64 az] 27)) (.cells #[.int .i64 tx, .int .i64 ty, .int .i64 tz] 27);simp only[World.size_alloc]at nz1;obtain⟨w4,hwz⟩:=nm_ (((w3.alloc (.cells #[.int .i64 ax, .int .i64 ay, .int .i64 az] 27)).alloc (.cells #[.int .i64 tx, .int .i64 ty, .int .i64 tz] 27)));rw[hwz]at bz nz0 nz1⊢;replace S:=up_ bz S;replace HRD:=Lh (HRD.below bz);replace W:=Lh (bthen W.out bz);have HPA:=Lh nz0;have HPB:=Lh nz1;clear hwz bz nz0 nz1
 go_upto_region 4 with fail
 have bz:=((Below.refl w4.heap.size w4).alloc (Nat.le_refl _) (.cells #[.bool false] 54));have nz0:=heap_alloc_new w4 (.cells #[.bool false] 54);obtain⟨w5,hwz⟩:=nm_ ((w4.alloc (.cells #[.bool false] 54)));rw[hwz]at bz nz0⊢;replace S:=up_ bz S;replace HPA:=up_ bz HPA;replace HPB:=up_ bz HPB;replace HRD:=Lh (HRD.below bz);replace W:=Lh (bthen W.out bz);have WK:=Lh nz0;clear hwz bz nz0;go_wp2_with fail;go_loopw [9,10,11,12,13,14] (fun v9 v10 v11 v12 v13 v14 wr=>∃i:Nat,i≤NL∧v10= .int .i64 i∧v9= .int .i64 (HK (l.take i):Nat)∧Hid (Below w5.heap.size w5 wr)) (fun _ i _ _ _ _ _=>NL-(intOf i).toNat)
 case atStart=>exact⟨0,by omega,rfl,by rw[List.take_zero,HNIL.out];rfl,Lh (Below.refl _ _)⟩
 case round=>
  obtain⟨i,hi,rfl,rfl,hB⟩:=hrel;obtain⟨wq,hwq⟩:∃x:World,x=wr:=⟨_,rfl⟩;subst hwq;by_cases hlt:i<NL
  ·have hil:i<l.length:=by rw[HNL.out];exact hlt
   have hlen:=HNL.out;have HMI:=Lh (HMO.out l i hil);have HO1:=Lh (HON.out l[i]);have hR:=HRD.rd.below hB.out;obtain⟨lb,lo,_,_,_,_,_,_,_,_,_,hAl,ll,-⟩:=hR.get i hil;subst hAl;have HR1:=Lh (show RdC wq (some ⟨lb,lo+i*4,none⟩) [l[i]] from by have:=(hR.drop i).take 1;rwa [List.drop_eq_getElem_cons hil,List.take_succ_cons,List.take_zero]at this);have HR2:=Lh (hR.take (i+1));have HL2:=Lh (show(l.take (i+1)).length=i+1 from by rw[List.length_take];omega);obtain⟨d,hd⟩:=nm_ (l[i]);rw[hd]at HMI HO1 HR1;have ti:(i:Int)<(NL:Int):=by omega
   have hic:i+1≤cl:=by have:=HLC.out;omega
   have hi3:i+1≤3:=by have:=HL3.out;omega
   have GPA:=(hB.block _ (blk_lt HPA.out)).trans HPA.out;have GPB:=(hB.block _ (blk_lt HPB.out)).trans HPB.out;obtain⟨x0,x1,x2,xl⟩:=f3_ w3.heap.size (GPA);obtain⟨k0,k1,k2,kl⟩:=f3_ (w3.heap.size+1) (GPB);clear hd hR GPA GPB hil hlen
   go_upto_region 8 with fail
   have e1:wrap64 ((i:Int)+1)=((i+1:Nat):Int):=by rw[w64_id _ (by omega) (by omega)];omega
   have l1:(0:Int)≤(i:Int)+1:=by omega
   have l2:(i:Int)+1≤(cl:Int):=by omega
   have l3:¬cl=i:=by omega
   have l4:0≤(i:Int)+1∧(i:Int)+1≤(cl:Int):=⟨l1,l2⟩;obtain⟨⟨⟨o1x,o1y,o1z⟩,o1k⟩,hO1⟩:∃R,HF [d]=R:=⟨_,rfl⟩;have HH1:=Lh (fun(vw:Value) (W:World) A c (hl:RdC W A [d])=>HHO.out vw W [d] A 1 c hl rfl (by decide));rw[hO1]at HH1;have HK1:=Lh (show HK [d]=o1k from by rw[←HF1.out,hO1]);clear hO1;have HB:=Lh ((Below.refl (wq.heap.size) wq).drew);refine start_ (n:=16) (S:=fun w'=>w'.cell? ⟨w3.heap.size,0,none⟩=some (.int .i64 ax)∧w'.cell? ⟨w3.heap.size,1,none⟩=some (.int .i64 ay)∧w'.cell? ⟨w3.heap.size,2,none⟩=some (.int .i64 az)∧w'.cell? ⟨w3.heap.size+1,0,none⟩=some (.int .i64 tx)∧w'.cell? ⟨w3.heap.size+1,1,none⟩=some (.int .i64 ty)∧w'.cell? ⟨w3.heap.size+1,2,none⟩=some (.int .i64 tz)) (ds:=[]) (MB_ 16 0) (by kernel_rfl) rfl rfl ⟨(HB.cell (p:=⟨w3.heap.size,0,none⟩) (xl)).trans x0,(HB.cell (p:=⟨w3.heap.size,1,none⟩) (xl)).trans x1,(HB.cell (p:=⟨w3.heap.size,2,none⟩) (xl)).trans x2,(HB.cell (p:=⟨w3.heap.size+1,0,none⟩) (kl)).trans k0,(HB.cell (p:=⟨w3.heap.size+1,1,none⟩) (kl)).trans k1,(HB.cell (p:=⟨w3.heap.size+1,2,none⟩) (kl)).trans k2⟩ (fun hE=>?_);obtain⟨wd,hwd⟩:=nm_ wq.drew;rw[hwd]at HB hE⊢;clear hwd;refine pure_ (i:=0) (N:=some 32) (v:=?_) (a':=?_) (MB_ 16 1) rfl rfl (by kernel_rfl) (fun _ _ _ h=>h) (Or.inl ⟨by rfl,?_⟩) ?_ ?_;rotate_left
   ·intro w';go_simp
    with_reducible rfl
   rotate_left
   ·simp only[Act.put,List.setIfInBounds_toArray,List.set_cons_zero,List.set_cons_succ,i64_w,i32_w];rfl
   refine pure_ (i:=3) (N:=some 35) (v:=?_) (a':=?_) (MB_ 16 9) rfl rfl (by kernel_rfl) (fun _ _ _ h=>h) (Or.inl ⟨by rfl,?_⟩) ?_ ?_;rotate_left
   ·intro w';go_simp
    with_reducible rfl
   rotate_left
   ·simp only[Act.put,List.setIfInBounds_toArray,List.set_cons_zero,List.set_cons_succ,i64_w,i32_w];rfl
   refine pure_ (i:=4) (N:=some 36) (v:=?_) (a':=?_) (MB_ 16 25) rfl rfl (by kernel_rfl) (fun _ _ _ h=>h) (Or.inl ⟨by rfl,?_⟩) ?_ ?_;rotate_left
   ·intro w';go_simp
    with_reducible rfl
   rotate_left
   ·simp only[Act.put,List.setIfInBounds_toArray,List.set_cons_zero,List.set_cons_succ,i64_w,i32_w];rfl
   refine pure_ (i:=5) (N:=some 37) (v:=?_) (a':=?_) (MB_ 16 57) rfl rfl (by kernel_rfl) (fun _ _ _ h=>h) (Or.inl ⟨by rfl,?_⟩) ?_ ?_;rotate_left
   ·intro w';go_simp
    with_reducible rfl
   rotate_left
   ·simp only[Act.put,List.setIfInBounds_toArray,List.set_cons_zero,List.set_cons_succ,i64_w,i32_w];rfl
   refine pure_ (i:=6) (N:=some 38) (v:=?_) (a':=?_) (MB_ 16 121) rfl rfl (by kernel_rfl) (fun _ _ _ h=>h) (Or.inl ⟨by rfl,?_⟩) ?_ ?_;rotate_left
   ·intro w';go_simp
    with_reducible rfl
   rotate_left
   ·simp only[Act.put,List.setIfInBounds_toArray,List.set_cons_zero,List.set_cons_succ,i64_w,i32_w];rfl
   refine pure_ (i:=7) (N:=some 39) (v:=?_) (a':=?_) (MB_ 16 249) rfl rfl (by kernel_rfl) (fun _ _ _ h=>h) (Or.inl ⟨by rfl,?_⟩) ?_ ?_;rotate_left
   ·intro w';go_simp
    with_reducible rfl
   rotate_left
   ·simp only[Act.put,List.setIfInBounds_toArray,List.set_cons_zero,List.set_cons_succ,i64_w,i32_w];rfl
   refine pure_ (i:=8) (N:=some 40) (v:=?_) (a':=?_) (MB_ 16 505) rfl rfl (by kernel_rfl) (fun _ _ _ h=>h) (Or.inl ⟨by rfl,?_⟩) ?_ ?_;rotate_left
   ·intro w';go_simp
    with_reducible rfl
   rotate_left
   ·simp only[Act.put,List.setIfInBounds_toArray,List.set_cons_zero,List.set_cons_succ,i64_w,i32_w];rfl
   refine take_ (i:=1) (N:=some 33) (v:=?_) (a':=?_) (MB_ 16 507) rfl rfl (by kernel_rfl) (fun _ _ _ h=>h) (Or.inl ⟨by rfl,?_⟩) hE ?_ ?_;rotate_left
   ·rintro w' ⟨s0,s1,s2,s3,s4,s5⟩;go_simp
    with_reducible rfl
   rotate_left
   ·simp only[Act.put,List.setIfInBounds_toArray,List.set_cons_zero,List.set_cons_succ,i64_w,i32_w];rfl
   refine take_ (i:=2) (N:=some 34) (v:=?_) (a':=?_) (MB_ 16 511) rfl rfl (by kernel_rfl) (fun _ _ _ h=>h) (Or.inl ⟨by rfl,?_⟩) hE ?_ ?_;rotate_left
   ·rintro w' ⟨s0,s1,s2,s3,s4,s5⟩;go_simp
    with_reducible rfl
   rotate_left
   ·simp only[Act.put,List.setIfInBounds_toArray,List.set_cons_zero,List.set_cons_succ,i64_w,i32_w];rfl
   refine join_ (σ:=Nat) 2 (MB_ 16 16383) (fun s=>[(11, .pointer (some ⟨s,0,none⟩)),(41, .tuple #[.agg #[.int .i64 o1x, .int .i64 o1y, .int .i64 o1z], .int .i64 (o1k:Int)]),(31, .tuple #[.agg #[.int .i64 o1x, .int .i64 o1y, .int .i64 o1z], .int .i64 (o1k:Int)]),(42, .agg #[.int .i64 o1x, .int .i64 o1y, .int .i64 o1z]),(43, .int .i64 (o1k:Int))]) (fun s w'=>wq.heap.size≤s∧w'.heap[s]?=some (.cells #[.int .i64 0, .int .i64 0, .int .i64 0] 27 (0,0))∧Below (wq.heap.size) wq w') ?_ ?_;rotate_left
   ·intro hCont;refine two_ (i:=9) (j:=13) (Ni:=some 41) (Nj:=some 11) (MB_ 16 1023) (MB_ 16 8703) rfl rfl rfl rfl (by kernel_rfl) (by decide) (by decide) (fun K hK=>?_) (fun K hK=>?_)
    ·skip
     refine gs_ Tryz.func17 #[.pointer (some ⟨w4.heap.size,0,none⟩), .agg #[.int .i64 ax, .int .i64 ay, .int .i64 az], .agg #[.int .i64 tx, .int .i64 ty, .int .i64 tz], .int .i64 ra, .slice (some ⟨lb,lo+i*4,none⟩) 1 (cl-i)] ?_
     with_reducible refine(HH1.out _ _ _ _ (HR1.out.below HB.out)).mono ?_
     rintro en w7 ⟨rfl,hb⟩;have HB:=tm_ HB hb;clear hb;refine⟨_,rfl,?_⟩;refine hK.out _ _ ⟨(HB.cell (p:=⟨w3.heap.size,0,none⟩) (xl)).trans x0,(HB.cell (p:=⟨w3.heap.size,1,none⟩) (xl)).trans x1,(HB.cell (p:=⟨w3.heap.size,2,none⟩) (xl)).trans x2,(HB.cell (p:=⟨w3.heap.size+1,0,none⟩) (kl)).trans k0,(HB.cell (p:=⟨w3.heap.size+1,1,none⟩) (kl)).trans k1,(HB.cell (p:=⟨w3.heap.size+1,2,none⟩) (kl)).trans k2⟩ (fun hE=>?_);clear hK K;refine norm_ (a':=?_) ?_ ?_;rotate_left
     ·show Act.put _ (some 41) _=_;simp only[Act.put,List.setIfInBounds_toArray,List.set_cons_zero,List.set_cons_succ,i64_w,i32_w];rfl
     refine pure_ (i:=10) (N:=some 31) (v:=?_) (a':=?_) (MB_ 16 2047) rfl rfl (by kernel_rfl) (fun _ _ _ h=>h) (Or.inl ⟨by rfl,?_⟩) ?_ ?_;rotate_left
     ·intro w';go_simp
      with_reducible rfl
     rotate_left
     ·simp only[Act.put,List.setIfInBounds_toArray,List.set_cons_zero,List.set_cons_succ,i64_w,i32_w];rfl
     refine pure_ (i:=11) (N:=some 42) (v:=?_) (a':=?_) (MB_ 16 4095) rfl rfl (by kernel_rfl) (fun _ _ _ h=>h) (Or.inl ⟨by rfl,?_⟩) ?_ ?_;rotate_left
     ·intro w';go_simp
      with_reducible rfl
     rotate_left
     ·simp only[Act.put,List.setIfInBounds_toArray,List.set_cons_zero,List.set_cons_succ,i64_w,i32_w];rfl
     refine pure_ (i:=12) (N:=some 43) (v:=?_) (a':=?_) (MB_ 16 8191) rfl rfl (by kernel_rfl) (fun _ _ _ h=>h) (Or.inl ⟨by rfl,?_⟩) ?_ ?_;rotate_left
     ·intro w';go_simp
      with_reducible rfl
     rotate_left
     ·simp only[Act.put,List.setIfInBounds_toArray,List.set_cons_zero,List.set_cons_succ,i64_w,i32_w];rfl
     refine one_ (i:=13) (N:=some 11) (MB_ 16 16383) rfl rfl (by kernel_rfl) (by decide) (fun K hK=>?_);refine va_ ?_;have HA:=Lh (ha_new HB.out (.cells #[.int .i64 0, .int .i64 0, .int .i64 0] 27));have hge:=HB.size;have HB:=Lh (HB.alloc (Nat.le_trans (Nat.le_refl _) HB.size) (.cells #[.int .i64 0, .int .i64 0, .int .i64 0] 27));refine hK.out _ _ ⟨(HB.cell (p:=⟨w3.heap.size,0,none⟩) (xl)).trans x0,(HB.cell (p:=⟨w3.heap.size,1,none⟩) (xl)).trans x1,(HB.cell (p:=⟨w3.heap.size,2,none⟩) (xl)).trans x2,(HB.cell (p:=⟨w3.heap.size+1,0,none⟩) (kl)).trans k0,(HB.cell (p:=⟨w3.heap.size+1,1,none⟩) (kl)).trans k1,(HB.cell (p:=⟨w3.heap.size+1,2,none⟩) (kl)).trans k2⟩ (fun hE=>?_);clear hK K;refine norm_ (a':=?_) ?_ ?_;rotate_left
     ·show Act.put _ (some 11) _=_;simp only[Act.put,List.setIfInBounds_toArray,List.set_cons_zero,List.set_cons_succ,i64_w,i32_w];rfl
     exact nz_ (hCont _ _ ⟨hge,HA.out,HB.out⟩)
    ·skip
     refine va_ ?_;have HA:=Lh (ha_new HB.out (.cells #[.int .i64 0, .int .i64 0, .int .i64 0] 27));have hge:=HB.size;have HB:=Lh (HB.alloc (Nat.le_trans (Nat.le_refl _) HB.size) (.cells #[.int .i64 0, .int .i64 0, .int .i64 0] 27));refine hK.out _ _ ⟨(HB.cell (p:=⟨w3.heap.size,0,none⟩) (xl)).trans x0,(HB.cell (p:=⟨w3.heap.size,1,none⟩) (xl)).trans x1,(HB.cell (p:=⟨w3.heap.size,2,none⟩) (xl)).trans x2,(HB.cell (p:=⟨w3.heap.size+1,0,none⟩) (kl)).trans k0,(HB.cell (p:=⟨w3.heap.size+1,1,none⟩) (kl)).trans k1,(HB.cell (p:=⟨w3.heap.size+1,2,none⟩) (kl)).trans k2⟩ (fun hE=>?_);clear hK K;refine norm_ (a':=?_) ?_ ?_;rotate_left
     ·show Act.put _ (some 11) _=_;simp only[Act.put,List.setIfInBounds_toArray,List.set_cons_zero,List.set_cons_succ,i64_w,i32_w];rfl
     refine one_ (i:=9) (N:=some 41) (MB_ 16 9215) rfl rfl (by kernel_rfl) (by decide) (fun K hK=>?_);refine gs_ Tryz.func17 #[.pointer (some ⟨w4.heap.size,0,none⟩), .agg #[.int .i64 ax, .int .i64 ay, .int .i64 az], .agg #[.int .i64 tx, .int .i64 ty, .int .i64 tz], .int .i64 ra, .slice (some ⟨lb,lo+i*4,none⟩) 1 (cl-i)] ?_
     with_reducible refine(HH1.out _ _ _ _ (HR1.out.below HB.out)).mono ?_
     rintro en w7 ⟨rfl,hb⟩;have HB:=tm_ HB hb;have HA:=up_ hb HA;clear hb;refine⟨_,rfl,?_⟩;refine hK.out _ _ ⟨(HB.cell (p:=⟨w3.heap.size,0,none⟩) (xl)).trans x0,(HB.cell (p:=⟨w3.heap.size,1,none⟩) (xl)).trans x1,(HB.cell (p:=⟨w3.heap.size,2,none⟩) (xl)).trans x2,(HB.cell (p:=⟨w3.heap.size+1,0,none⟩) (kl)).trans k0,(HB.cell (p:=⟨w3.heap.size+1,1,none⟩) (kl)).trans k1,(HB.cell (p:=⟨w3.heap.size+1,2,none⟩) (kl)).trans k2⟩ (fun hE=>?_);clear hK K;refine norm_ (a':=?_) ?_ ?_;rotate_left
     ·show Act.put _ (some 41) _=_;simp only[Act.put,List.setIfInBounds_toArray,List.set_cons_zero,List.set_cons_succ,i64_w,i32_w];rfl
     refine pure_ (i:=10) (N:=some 31) (v:=?_) (a':=?_) (MB_ 16 10239) rfl rfl (by kernel_rfl) (fun _ _ _ h=>h) (Or.inl ⟨by rfl,?_⟩) ?_ ?_;rotate_left
     ·intro w';go_simp
      with_reducible rfl
     rotate_left
     ·simp only[Act.put,List.setIfInBounds_toArray,List.set_cons_zero,List.set_cons_succ,i64_w,i32_w];rfl
     refine pure_ (i:=11) (N:=some 42) (v:=?_) (a':=?_) (MB_ 16 12287) rfl rfl (by kernel_rfl) (fun _ _ _ h=>h) (Or.inl ⟨by rfl,?_⟩) ?_ ?_;rotate_left
     ·intro w';go_simp
      with_reducible rfl
     rotate_left
     ·simp only[Act.put,List.setIfInBounds_toArray,List.set_cons_zero,List.set_cons_succ,i64_w,i32_w];rfl
     refine pure_ (i:=12) (N:=some 43) (v:=?_) (a':=?_) (MB_ 16 16383) rfl rfl (by kernel_rfl) (fun _ _ _ h=>h) (Or.inl ⟨by rfl,?_⟩) ?_ ?_;rotate_left
     ·intro w';go_simp
      with_reducible rfl
     rotate_left
     ·simp only[Act.put,List.setIfInBounds_toArray,List.set_cons_zero,List.set_cons_succ,i64_w,i32_w];rfl
     exact nz_ (hCont _ _ ⟨hge,HA.out,HB.out⟩)
   rintro AB wj ⟨hge,HA,HB⟩;have HA:=Lh HA;have HB:=Lh HB;have hE:wj.cell? ⟨w3.heap.size,0,none⟩=some (.int .i64 ax)∧wj.cell? ⟨w3.heap.size,1,none⟩=some (.int .i64 ay)∧wj.cell? ⟨w3.heap.size,2,none⟩=some (.int .i64 az)∧wj.cell? ⟨w3.heap.size+1,0,none⟩=some (.int .i64 tx)∧wj.cell? ⟨w3.heap.size+1,1,none⟩=some (.int .i64 ty)∧wj.cell? ⟨w3.heap.size+1,2,none⟩=some (.int .i64 tz):=⟨(HB.cell (p:=⟨w3.heap.size,0,none⟩) (xl)).trans x0,(HB.cell (p:=⟨w3.heap.size,1,none⟩) (xl)).trans x1,(HB.cell (p:=⟨w3.heap.size,2,none⟩) (xl)).trans x2,(HB.cell (p:=⟨w3.heap.size+1,0,none⟩) (kl)).trans k0,(HB.cell (p:=⟨w3.heap.size+1,1,none⟩) (kl)).trans k1,(HB.cell (p:=⟨w3.heap.size+1,2,none⟩) (kl)).trans k2⟩;refine norm_ (a':=?_) ?_ ?_;rotate_left
   ·simp only[putAll,Act.put,List.setIfInBounds_toArray,List.set_cons_zero,List.set_cons_succ];rfl
   refine one_ (i:=14) (N:=none) (MB_ 16 32767) rfl rfl (by kernel_rfl) (by decide) (fun K hK=>?_);have sc0:World.cell? _ ⟨AB,0,none⟩=some (.int .i64 0):=(blk_cell HA.out 0).trans rfl;have sf0:=blk_frozen HA.out 0;have sc1:World.cell? _ ⟨AB,1,none⟩=some (.int .i64 0):=(blk_cell HA.out 1).trans rfl;have sf1:=blk_frozen HA.out 1;have sc2:World.cell? _ ⟨AB,2,none⟩=some (.int .i64 0):=(blk_cell HA.out 2).trans rfl;have sf2:=blk_frozen HA.out 2;refine skip_ (w1:=?_) (by rfl) rfl ?_ ?_;rotate_left
   ·go_simp;rfl
   have HA:=Lh (bs3 HA.out (.int .i64 o1x) (.int .i64 o1y) (.int .i64 o1z));have HB:=Lh (bb3 HB.out (Nat.le_trans (Nat.le_refl _) hge) (.int .i64 o1x) (.int .i64 o1y) (.int .i64 o1z));clear sc0 sf0 sc1 sf1 sc2 sf2;refine hK.out _ _ ⟨(HB.cell (p:=⟨w3.heap.size,0,none⟩) (xl)).trans x0,(HB.cell (p:=⟨w3.heap.size,1,none⟩) (xl)).trans x1,(HB.cell (p:=⟨w3.heap.size,2,none⟩) (xl)).trans x2,(HB.cell (p:=⟨w3.heap.size+1,0,none⟩) (kl)).trans k0,(HB.cell (p:=⟨w3.heap.size+1,1,none⟩) (kl)).trans k1,(HB.cell (p:=⟨w3.heap.size+1,2,none⟩) (kl)).trans k2⟩ (fun hE=>?_);clear hK K;refine pure_ (i:=15) (N:=some 12) (v:=?_) (a':=?_) (MB_ 16 65535) rfl rfl (by kernel_rfl) (fun _ _ _ h=>h) (Or.inl ⟨by rfl,?_⟩) ?_ ?_;rotate_left
   ·intro w';go_simp
    with_reducible rfl
   rotate_left
   ·simp only[Act.put,List.setIfInBounds_toArray,List.set_cons_zero,List.set_cons_succ,i64_w,i32_w];rfl
   refine done_ (by kernel_rfl) ?_;obtain⟨w8q,hwn⟩:=nm_ ((((wj.setCell ⟨AB,0,none⟩ (.int .i64 o1x)).setCell ⟨AB,1,none⟩ (.int .i64 o1y)).setCell ⟨AB,2,none⟩ (.int .i64 o1z)));rw[hwn]at HA HB⊢;clear hwn;have hb:=HB.out;have hB2:=Lh (hB.trans (hb.mono hB.size));replace HR2:=Lh (HR2.below hb);clear hE HB HA hge hb HR1 HH1 x0 k0 x1 k1 x2 k2 xl kl;obtain⟨⟨⟨o2x,o2y,o2z⟩,M⟩,hO2⟩:∃R,HF (List.take (i+1) l)=R:=⟨_,rfl⟩;have HH2:=Lh (fun(vw:Value) (W:World) A c (hl:RdC W A (List.take (i+1) l))=>HHO.out vw W (List.take (i+1) l) A (i+1) c hl HL2.out (by omega));rw[hO2]at HH2;have HK2:=Lh (show HK (List.take (i+1) l)=M from by rw[←HF1.out,hO2]);clear hO2;have HMN:=Lh (show mn ((HK (List.take i l):Nat):Int) (o1k:Int)=(M:Int) from by rw[mn_min,←HK2.out,HMI.out,HK1.out])
   go_upto_region 10 with fail
   rw[HMN.out];have GPA:=(hB2.block _ (blk_lt HPA.out)).trans HPA.out;have GPB:=(hB2.block _ (blk_lt HPB.out)).trans HPB.out;obtain⟨x0,x1,x2,xl⟩:=f3_ w3.heap.size (GPA);obtain⟨k0,k1,k2,kl⟩:=f3_ (w3.heap.size+1) (GPB);clear GPA GPB;have HB:=Lh ((Below.refl (w8q.heap.size) w8q).drew);refine start_ (n:=15) (S:=fun w'=>w'.cell? ⟨w3.heap.size,0,none⟩=some (.int .i64 ax)∧w'.cell? ⟨w3.heap.size,1,none⟩=some (.int .i64 ay)∧w'.cell? ⟨w3.heap.size,2,none⟩=some (.int .i64 az)∧w'.cell? ⟨w3.heap.size+1,0,none⟩=some (.int .i64 tx)∧w'.cell? ⟨w3.heap.size+1,1,none⟩=some (.int .i64 ty)∧w'.cell? ⟨w3.heap.size+1,2,none⟩=some (.int .i64 tz)) (ds:=[]) (MB_ 15 0) (by kernel_rfl) rfl rfl ⟨(HB.cell (p:=⟨w3.heap.size,0,none⟩) (xl)).trans x0,(HB.cell (p:=⟨w3.heap.size,1,none⟩) (xl)).trans x1,(HB.cell (p:=⟨w3.heap.size,2,none⟩) (xl)).trans x2,(HB.cell (p:=⟨w3.heap.size+1,0,none⟩) (kl)).trans k0,(HB.cell (p:=⟨w3.heap.size+1,1,none⟩) (kl)).trans k1,(HB.cell (p:=⟨w3.heap.size+1,2,none⟩) (kl)).trans k2⟩ (fun hE=>?_);obtain⟨wd,hwd⟩:=nm_ w8q.drew;rw[hwd]at HB hE⊢;clear hwd;refine pure_ (i:=0) (N:=some 48) (v:=?_) (a':=?_) (MB_ 15 1) rfl rfl (by kernel_rfl) (fun _ _ _ h=>h) (Or.inl ⟨by rfl,?_⟩) ?_ ?_;rotate_left
   ·intro w';go_simp
    with_reducible rfl
   rotate_left
   ·simp only[Act.put,List.setIfInBounds_toArray,List.set_cons_zero,List.set_cons_succ,i64_w,i32_w];rfl
   refine pure_ (i:=3) (N:=some 51) (v:=?_) (a':=?_) (MB_ 15 9) rfl rfl (by kernel_rfl) (fun _ _ _ h=>h) (Or.inl ⟨by rfl,?_⟩) ?_ ?_;rotate_left
   ·intro w';go_simp
    with_reducible rfl
   rotate_left
   ·simp only[Act.put,List.setIfInBounds_toArray,List.set_cons_zero,List.set_cons_succ,i64_w,i32_w];rfl
   refine pure_ (i:=4) (N:=some 52) (v:=?_) (a':=?_) (MB_ 15 25) rfl rfl (by kernel_rfl) (fun _ _ _ h=>h) (Or.inl ⟨by rfl,?_⟩) ?_ ?_;rotate_left
   ·intro w';go_simp
    with_reducible rfl
   rotate_left
   ·simp only[Act.put,List.setIfInBounds_toArray,List.set_cons_zero,List.set_cons_succ,i64_w,i32_w];rfl
   refine pure_ (i:=5) (N:=some 53) (v:=?_) (a':=?_) (MB_ 15 57) rfl rfl (by kernel_rfl) (fun _ _ _ h=>h) (Or.inl ⟨by rfl,?_⟩) ?_ ?_;rotate_left
   ·intro w';go_simp
    with_reducible rfl
   rotate_left
   ·simp only[Act.put,List.setIfInBounds_toArray,List.set_cons_zero,List.set_cons_succ,i64_w,i32_w];rfl
   refine pure_ (i:=6) (N:=some 54) (v:=?_) (a':=?_) (MB_ 15 121) rfl rfl (by kernel_rfl) (fun _ _ _ h=>h) (Or.inl ⟨by rfl,?_⟩) ?_ ?_;rotate_left
   ·intro w';go_simp
    with_reducible rfl
   rotate_left
   ·simp only[Act.put,List.setIfInBounds_toArray,List.set_cons_zero,List.set_cons_succ,i64_w,i32_w];rfl
   refine pure_ (i:=7) (N:=some 55) (v:=?_) (a':=?_) (MB_ 15 249) rfl rfl (by kernel_rfl) (fun _ _ _ h=>h) (Or.inl ⟨by rfl,?_⟩) ?_ ?_;rotate_left
   ·intro w';go_simp
    with_reducible rfl
   rotate_left
   ·simp only[Act.put,List.setIfInBounds_toArray,List.set_cons_zero,List.set_cons_succ,i64_w,i32_w];rfl
   refine take_ (i:=1) (N:=some 49) (v:=?_) (a':=?_) (MB_ 15 251) rfl rfl (by kernel_rfl) (fun _ _ _ h=>h) (Or.inl ⟨by rfl,?_⟩) hE ?_ ?_;rotate_left
   ·rintro w' ⟨s0,s1,s2,s3,s4,s5⟩;go_simp
    with_reducible rfl
   rotate_left
   ·simp only[Act.put,List.setIfInBounds_toArray,List.set_cons_zero,List.set_cons_succ,i64_w,i32_w];rfl
   refine take_ (i:=2) (N:=some 50) (v:=?_) (a':=?_) (MB_ 15 255) rfl rfl (by kernel_rfl) (fun _ _ _ h=>h) (Or.inl ⟨by rfl,?_⟩) hE ?_ ?_;rotate_left
   ·rintro w' ⟨s0,s1,s2,s3,s4,s5⟩;go_simp
    with_reducible rfl
   rotate_left
   ·simp only[Act.put,List.setIfInBounds_toArray,List.set_cons_zero,List.set_cons_succ,i64_w,i32_w];rfl
   refine join_ (σ:=Nat) 2 (MB_ 15 8191) (fun s=>[(13, .pointer (some ⟨s,0,none⟩)),(56, .tuple #[.agg #[.int .i64 o2x, .int .i64 o2y, .int .i64 o2z], .int .i64 (M:Int)]),(47, .tuple #[.agg #[.int .i64 o2x, .int .i64 o2y, .int .i64 o2z], .int .i64 (M:Int)]),(57, .agg #[.int .i64 o2x, .int .i64 o2y, .int .i64 o2z]),(58, .int .i64 (M:Int))]) (fun s w'=>w8q.heap.size≤s∧w'.heap[s]?=some (.cells #[.int .i64 0, .int .i64 0, .int .i64 0] 27 (0,0))∧Below (w8q.heap.size) w8q w') ?_ ?_;rotate_left
   ·intro hCont;refine two_ (i:=8) (j:=12) (Ni:=some 56) (Nj:=some 13) (MB_ 15 511) (MB_ 15 4351) rfl rfl rfl rfl (by kernel_rfl) (by decide) (by decide) (fun K hK=>?_) (fun K hK=>?_)
    ·skip
     refine gs_ Tryz.func17 #[.pointer (some ⟨w4.heap.size,0,none⟩), .agg #[.int .i64 ax, .int .i64 ay, .int .i64 az], .agg #[.int .i64 tx, .int .i64 ty, .int .i64 tz], .int .i64 ra, .slice (some ⟨lb,lo,none⟩) (i+1) cl] ?_
     with_reducible refine(HH2.out _ _ _ _ (HR2.out.below HB.out)).mono ?_
     rintro en w7 ⟨rfl,hb⟩;have HB:=tm_ HB hb;clear hb;refine⟨_,rfl,?_⟩;refine hK.out _ _ ⟨(HB.cell (p:=⟨w3.heap.size,0,none⟩) (xl)).trans x0,(HB.cell (p:=⟨w3.heap.size,1,none⟩) (xl)).trans x1,(HB.cell (p:=⟨w3.heap.size,2,none⟩) (xl)).trans x2,(HB.cell (p:=⟨w3.heap.size+1,0,none⟩) (kl)).trans k0,(HB.cell (p:=⟨w3.heap.size+1,1,none⟩) (kl)).trans k1,(HB.cell (p:=⟨w3.heap.size+1,2,none⟩) (kl)).trans k2⟩ (fun hE=>?_);clear hK K;refine norm_ (a':=?_) ?_ ?_;rotate_left
     ·show Act.put _ (some 56) _=_;simp only[Act.put,List.setIfInBounds_toArray,List.set_cons_zero,List.set_cons_succ,i64_w,i32_w];rfl
     refine pure_ (i:=9) (N:=some 47) (v:=?_) (a':=?_) (MB_ 15 1023) rfl rfl (by kernel_rfl) (fun _ _ _ h=>h) (Or.inl ⟨by rfl,?_⟩) ?_ ?_;rotate_left
     ·intro w';go_simp
      with_reducible rfl
     rotate_left
     ·simp only[Act.put,List.setIfInBounds_toArray,List.set_cons_zero,List.set_cons_succ,i64_w,i32_w];rfl
     refine pure_ (i:=10) (N:=some 57) (v:=?_) (a':=?_) (MB_ 15 2047) rfl rfl (by kernel_rfl) (fun _ _ _ h=>h) (Or.inl ⟨by rfl,?_⟩) ?_ ?_;rotate_left
     ·intro w';go_simp
      with_reducible rfl
     rotate_left
     ·simp only[Act.put,List.setIfInBounds_toArray,List.set_cons_zero,List.set_cons_succ,i64_w,i32_w];rfl
     refine pure_ (i:=11) (N:=some 58) (v:=?_) (a':=?_) (MB_ 15 4095) rfl rfl (by kernel_rfl) (fun _ _ _ h=>h) (Or.inl ⟨by rfl,?_⟩) ?_ ?_;rotate_left
     ·intro w';go_simp
      with_reducible rfl
     rotate_left
     ·simp only[Act.put,List.setIfInBounds_toArray,List.set_cons_zero,List.set_cons_succ,i64_w,i32_w];rfl
     refine one_ (i:=12) (N:=some 13) (MB_ 15 8191) rfl rfl (by kernel_rfl) (by decide) (fun K hK=>?_);refine va_ ?_;have HA:=Lh (ha_new HB.out (.cells #[.int .i64 0, .int .i64 0, .int .i64 0] 27));have hge:=HB.size;have HB:=Lh (HB.alloc (Nat.le_trans (Nat.le_refl _) HB.size) (.cells #[.int .i64 0, .int .i64 0, .int .i64 0] 27));refine hK.out _ _ ⟨(HB.cell (p:=⟨w3.heap.size,0,none⟩) (xl)).trans x0,(HB.cell (p:=⟨w3.heap.size,1,none⟩) (xl)).trans x1,(HB.cell (p:=⟨w3.heap.size,2,none⟩) (xl)).trans x2,(HB.cell (p:=⟨w3.heap.size+1,0,none⟩) (kl)).trans k0,(HB.cell (p:=⟨w3.heap.size+1,1,none⟩) (kl)).trans k1,(HB.cell (p:=⟨w3.heap.size+1,2,none⟩) (kl)).trans k2⟩ (fun hE=>?_);clear hK K;refine norm_ (a':=?_) ?_ ?_;rotate_left
     ·show Act.put _ (some 13) _=_;simp only[Act.put,List.setIfInBounds_toArray,List.set_cons_zero,List.set_cons_succ,i64_w,i32_w];rfl
     exact nz_ (hCont _ _ ⟨hge,HA.out,HB.out⟩)
    ·skip
     refine va_ ?_;have HA:=Lh (ha_new HB.out (.cells #[.int .i64 0, .int .i64 0, .int .i64 0] 27));have hge:=HB.size;have HB:=Lh (HB.alloc (Nat.le_trans (Nat.le_refl _) HB.size) (.cells #[.int .i64 0, .int .i64 0, .int .i64 0] 27));refine hK.out _ _ ⟨(HB.cell (p:=⟨w3.heap.size,0,none⟩) (xl)).trans x0,(HB.cell (p:=⟨w3.heap.size,1,none⟩) (xl)).trans x1,(HB.cell (p:=⟨w3.heap.size,2,none⟩) (xl)).trans x2,(HB.cell (p:=⟨w3.heap.size+1,0,none⟩) (kl)).trans k0,(HB.cell (p:=⟨w3.heap.size+1,1,none⟩) (kl)).trans k1,(HB.cell (p:=⟨w3.heap.size+1,2,none⟩) (kl)).trans k2⟩ (fun hE=>?_);clear hK K;refine norm_ (a':=?_) ?_ ?_;rotate_left
     ·show Act.put _ (some 13) _=_;simp only[Act.put,List.setIfInBounds_toArray,List.set_cons_zero,List.set_cons_succ,i64_w,i32_w];rfl
     refine one_ (i:=8) (N:=some 56) (MB_ 15 4607) rfl rfl (by kernel_rfl) (by decide) (fun K hK=>?_);refine gs_ Tryz.func17 #[.pointer (some ⟨w4.heap.size,0,none⟩), .agg #[.int .i64 ax, .int .i64 ay, .int .i64 az], .agg #[.int .i64 tx, .int .i64 ty, .int .i64 tz], .int .i64 ra, .slice (some ⟨lb,lo,none⟩) (i+1) cl] ?_
     with_reducible refine(HH2.out _ _ _ _ (HR2.out.below HB.out)).mono ?_
     rintro en w7 ⟨rfl,hb⟩;have HB:=tm_ HB hb;have HA:=up_ hb HA;clear hb;refine⟨_,rfl,?_⟩;refine hK.out _ _ ⟨(HB.cell (p:=⟨w3.heap.size,0,none⟩) (xl)).trans x0,(HB.cell (p:=⟨w3.heap.size,1,none⟩) (xl)).trans x1,(HB.cell (p:=⟨w3.heap.size,2,none⟩) (xl)).trans x2,(HB.cell (p:=⟨w3.heap.size+1,0,none⟩) (kl)).trans k0,(HB.cell (p:=⟨w3.heap.size+1,1,none⟩) (kl)).trans k1,(HB.cell (p:=⟨w3.heap.size+1,2,none⟩) (kl)).trans k2⟩ (fun hE=>?_);clear hK K;refine norm_ (a':=?_) ?_ ?_;rotate_left
     ·show Act.put _ (some 56) _=_;simp only[Act.put,List.setIfInBounds_toArray,List.set_cons_zero,List.set_cons_succ,i64_w,i32_w];rfl
     refine pure_ (i:=9) (N:=some 47) (v:=?_) (a':=?_) (MB_ 15 5119) rfl rfl (by kernel_rfl) (fun _ _ _ h=>h) (Or.inl ⟨by rfl,?_⟩) ?_ ?_;rotate_left
     ·intro w';go_simp
      with_reducible rfl
     rotate_left
     ·simp only[Act.put,List.setIfInBounds_toArray,List.set_cons_zero,List.set_cons_succ,i64_w,i32_w];rfl
     refine pure_ (i:=10) (N:=some 57) (v:=?_) (a':=?_) (MB_ 15 6143) rfl rfl (by kernel_rfl) (fun _ _ _ h=>h) (Or.inl ⟨by rfl,?_⟩) ?_ ?_;rotate_left
     ·intro w';go_simp
      with_reducible rfl
     rotate_left
     ·simp only[Act.put,List.setIfInBounds_toArray,List.set_cons_zero,List.set_cons_succ,i64_w,i32_w];rfl
     refine pure_ (i:=11) (N:=some 58) (v:=?_) (a':=?_) (MB_ 15 8191) rfl rfl (by kernel_rfl) (fun _ _ _ h=>h) (Or.inl ⟨by rfl,?_⟩) ?_ ?_;rotate_left
     ·intro w';go_simp
      with_reducible rfl
     rotate_left
     ·simp only[Act.put,List.setIfInBounds_toArray,List.set_cons_zero,List.set_cons_succ,i64_w,i32_w];rfl
     exact nz_ (hCont _ _ ⟨hge,HA.out,HB.out⟩)
   rintro AB wj ⟨hge,HA,HB⟩;have HA:=Lh HA;have HB:=Lh HB;have hE:wj.cell? ⟨w3.heap.size,0,none⟩=some (.int .i64 ax)∧wj.cell? ⟨w3.heap.size,1,none⟩=some (.int .i64 ay)∧wj.cell? ⟨w3.heap.size,2,none⟩=some (.int .i64 az)∧wj.cell? ⟨w3.heap.size+1,0,none⟩=some (.int .i64 tx)∧wj.cell? ⟨w3.heap.size+1,1,none⟩=some (.int .i64 ty)∧wj.cell? ⟨w3.heap.size+1,2,none⟩=some (.int .i64 tz):=⟨(HB.cell (p:=⟨w3.heap.size,0,none⟩) (xl)).trans x0,(HB.cell (p:=⟨w3.heap.size,1,none⟩) (xl)).trans x1,(HB.cell (p:=⟨w3.heap.size,2,none⟩) (xl)).trans x2,(HB.cell (p:=⟨w3.heap.size+1,0,none⟩) (kl)).trans k0,(HB.cell (p:=⟨w3.heap.size+1,1,none⟩) (kl)).trans k1,(HB.cell (p:=⟨w3.heap.size+1,2,none⟩) (kl)).trans k2⟩;refine norm_ (a':=?_) ?_ ?_;rotate_left
   ·simp only[putAll,Act.put,List.setIfInBounds_toArray,List.set_cons_zero,List.set_cons_succ];rfl
   refine one_ (i:=13) (N:=none) (MB_ 15 16383) rfl rfl (by kernel_rfl) (by decide) (fun K hK=>?_);have sc0:World.cell? _ ⟨AB,0,none⟩=some (.int .i64 0):=(blk_cell HA.out 0).trans rfl;have sf0:=blk_frozen HA.out 0;have sc1:World.cell? _ ⟨AB,1,none⟩=some (.int .i64 0):=(blk_cell HA.out 1).trans rfl;have sf1:=blk_frozen HA.out 1;have sc2:World.cell? _ ⟨AB,2,none⟩=some (.int .i64 0):=(blk_cell HA.out 2).trans rfl;have sf2:=blk_frozen HA.out 2;refine skip_ (w1:=?_) (by rfl) rfl ?_ ?_;rotate_left
   ·go_simp;rfl
   have HA:=Lh (bs3 HA.out (.int .i64 o2x) (.int .i64 o2y) (.int .i64 o2z));have HB:=Lh (bb3 HB.out (Nat.le_trans (Nat.le_refl _) hge) (.int .i64 o2x) (.int .i64 o2y) (.int .i64 o2z));clear sc0 sf0 sc1 sf1 sc2 sf2;refine hK.out _ _ ⟨(HB.cell (p:=⟨w3.heap.size,0,none⟩) (xl)).trans x0,(HB.cell (p:=⟨w3.heap.size,1,none⟩) (xl)).trans x1,(HB.cell (p:=⟨w3.heap.size,2,none⟩) (xl)).trans x2,(HB.cell (p:=⟨w3.heap.size+1,0,none⟩) (kl)).trans k0,(HB.cell (p:=⟨w3.heap.size+1,1,none⟩) (kl)).trans k1,(HB.cell (p:=⟨w3.heap.size+1,2,none⟩) (kl)).trans k2⟩ (fun hE=>?_);clear hK K;refine pure_ (i:=14) (N:=some 14) (v:=?_) (a':=?_) (MB_ 15 32767) rfl rfl (by kernel_rfl) (fun _ _ _ h=>h) (Or.inl ⟨by rfl,?_⟩) ?_ ?_;rotate_left
   ·intro w';go_simp
    with_reducible rfl
   rotate_left
   ·simp only[Act.put,List.setIfInBounds_toArray,List.set_cons_zero,List.set_cons_succ,i64_w,i32_w];rfl
   refine done_ (by kernel_rfl) ?_;obtain⟨w10q,hwn⟩:=nm_ ((((wj.setCell ⟨AB,0,none⟩ (.int .i64 o2x)).setCell ⟨AB,1,none⟩ (.int .i64 o2y)).setCell ⟨AB,2,none⟩ (.int .i64 o2z)));rw[hwn]at HA HB⊢;clear hwn;have hb:=HB.out;have hB3:=Lh (hB2.trans (hb.mono hB2.size));clear hE HB HA hge hb HR2 HH2 x0 k0 x1 k1 x2 k2 xl kl l1 l2 l3 l4 e1;go_wp2
   go_roundw
   case rel=>exact⟨i+1,by omega,by go_num,by rw[HK2.out],hB3⟩
   case measure=>simp[intOf];omega
  ·obtain rfl:NL=i:=by omega
   have hb:=hB.out;replace S:=up_ hb S;replace HPA:=up_ hb HPA;replace HPB:=up_ hb HPB;replace WK:=up_ hb WK;replace HRD:=Lh (HRD.below hb);replace W:=Lh (bthen W.out hb);clear hb;obtain⟨o0,ol⟩:=f1_ w4.heap.size WK.out;go_wp2
   go_ret
   exact⟨rfl,W.out⟩
end Go.Proofs.YtckdhahceelckaaGreat.G
