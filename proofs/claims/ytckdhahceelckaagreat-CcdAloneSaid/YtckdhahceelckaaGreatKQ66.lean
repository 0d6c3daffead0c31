/- What the laws of this claim lean on: contracts of functions and plain lemmas; no condition of its own (part 66: XZ7). -/
import Derived.Test.YtckdhahceelckaaGreatKQ44
import Derived.Test.YtckdhahceelckaaGreatKQ45
import Derived.Test.YtckdhahceelckaaGreatKQ59
import Derived.Test.YtckdhahceelckaaGreatKQ63
set_option maxHeartbeats 16000000
set_option maxRecDepth 100000
set_option linter.unusedVariables false
set_option linter.unusedSimpArgs false
namespace Go.Proofs.YtckdhahceelckaaGreat.G
open Go.RowKit Go.Proofs.YtckdhahceelckaaGreatW.PrintWords Go.Proofs.YtckdhahceelckaaGreatW.PrintLast Go.Proofs.YtckdhahceelckaaGreatW.PrintMore
attribute [local go_sem] max2_mx min2_mn max_two min_two max_three min_three max_four min_four
attribute [local go_sem high] eqA23 eqA40
attribute [local go_sem high] eqA27
theorem ccdAlone_calls {w:World}(f y:P3)(r:Int)(A:Option Addr)(n c:Nat)(A':Option Addr)(n' c':Nat)(ls:List RawS)(lq:List P7)(bh:Int)(hf:pI64 f)(hy:pI64 y)(hr:i64 r)(hls:RdW w A ls)(hn:ls.length=n)(hlq:RdQ w A' lq)(hn':lq.length=n')(hb:n≤140737488355328)(hb':n'≤140737488355328)(hbh: -9223372036854775808≤bh∧bh≤9223372036854775807):
  Calls Tryz.prog 6 #[.agg (cShot f y r A n c A' n' c'), .int .i64 bh] w fun e w'=>e= .returned (.bool true)∧Below w.heap.size w w':=by
 have HPV:=Lh (fun W=>pick18_calls y.x 274877906944 hy.1.1 hy.1.2 (by decide) (by decide) W);have HPK:=Lh (fun W=>pick18_calls bh 1000 hbh.1 hbh.2 (by decide) (by decide) W);have hv1:=pickF_bd y.x 274877906944 (by decide);have hk1:=pickF_bd bh 1000 (by decide);obtain⟨qv,hqv⟩:=nm_ (pickF y.x 274877906944);obtain⟨qk,hqk⟩:=nm_ (pickF bh 1000);rw[hqv]at HPV hv1;rw[hqk]at HPK hk1;clear hqv hqk hbh;have HMD:=Lh (fun(W:World) (h1:RdW W A ls) (h2:RdQ W A' lq)=>made_calls f y r A n c A' n' c' ls lq hf hy hr h1 hn h2 hn' hb hb');unfold MadeP at HMD;have HSO:=Lh (shot_ok f y r);have HLS:=Lh hls;have HLQ:=Lh hlq;clear hls hlq hn hn' hf hy hr hb hb';obtain⟨a,ha⟩:=nm_ (fromS f);obtain⟨b,hb⟩:=nm_ (toS f y);obtain⟨ra,hra⟩:=nm_ (radS r);rw[ha,hb,hra]at HMD HSO;clear ha hb hra;have HSO2:Hid (ShotOk a ⟨a.x+qv,a.y,a.z⟩ ra):=Lh ⟨HSO.out.ha,by unfold in3;simp only;omega,HSO.out.r0,HSO.out.r1⟩;have HH0:=Lh (fun(vw:Value) (W:World)=>hold_calls (w:=W) vw a b ra [] none 0 0 (RdC.nil _ _) rfl (by decide) HSO.out.a63 HSO.out.b63);rw[hold_nil]at HH0;have HH2:=Lh (fun(vw:Value) (W:World) A c (hl:RdC W A [⟨[⟨(grP a).x-ra-9-qk,(grP a).y,(grP a).z⟩],[],[],5⟩])=>hold_calls (w:=W) vw a ⟨a.x+qv,a.y,a.z⟩ ra [⟨[⟨(grP a).x-ra-9-qk,(grP a).y,(grP a).z⟩],[],[],5⟩] A 1 c hl rfl (by decide) HSO2.out.a63 HSO2.out.b63);rw[alone_plain HSO2.out (by simp only;omega) rfl rfl hk1.1 hk1.2]at HH2;have HWAY:=Lh (fun W=>rwayB_calls (w:=W) a ⟨a.x+qv,a.y,a.z⟩ ra HSO2.out.a63 HSO2.out.b63);unfold WayPost at HWAY;rw[HSO2.out.may]at HWAY;have HI:=Lh (And.intro (in3_le (n:=4398046511104) (by decide) HSO2.out.ha:in3 1125899906842624 a) (in3_le (by decide) HSO2.out.hb:in3 1125899906842624 ⟨a.x+qv,a.y,a.z⟩));have HBC:Hid (ballC a ra=⟨[grP a],[],[],ra⟩):=Lh rfl;have hg:=HSO2.out.grA;have hax:=HSO2.out.ha;have hr0:=HSO2.out.r0;have hr1:=HSO2.out.r1;obtain⟨⟨px,py,pz⟩,hp⟩:∃p,grP a=p:=⟨_,rfl⟩;rw[hp]at HH2 HBC hg;simp only at HH2;have EW:=Lh (show wrap64 (wrap64 (wrap64 (px-ra)-9)-qk)=px-ra-9-qk from by unfold in3 at hg;simp only at hg;unfold wrap64;omega);have EV:=Lh (show wrap64 (a.x+qv)=a.x+qv from by unfold in3 at hax;unfold wrap64;omega);clear hp hg hax hr0 hr1 hv1 hk1;obtain⟨ax,ay,az⟩:=a;obtain⟨tx,ty,tz⟩:=b;obtain⟨fx,fy,fz⟩:=f;obtain⟨yx,yy,yz⟩:=y;simp only at EV HH2 HWAY HI HPV;have eo:eqP tx ty tz tx ty tz=true:=eqP_yes rfl;have eo2:eqP (ax+qv) ay az (ax+qv) ay az=true:=eqP_yes rfl;have HAW:=Lh awake18_calls;have W:=Lh (Below.refl w.heap.size w);go_enter Tryz.func6,Tryz.ntmps6
 go_upto_region 1 with fail
 have bz:=((Below.refl w.heap.size w).alloc (Nat.le_refl _) (.cells #[.int .i64 fx, .int .i64 fy, .int .i64 fz, .int .i64 yx, .int .i64 yy, .int .i64 yz, .int .i64 r, .slice A n c, .slice A' n' c'] 47));have nz0:=heap_alloc_new w (.cells #[.int .i64 fx, .int .i64 fy, .int .i64 fz, .int .i64 yx, .int .i64 yy, .int .i64 yz, .int .i64 r, .slice A n c, .slice A' n' c'] 47);obtain⟨w1,hwz⟩:=nm_ ((w.alloc (.cells #[.int .i64 fx, .int .i64 fy, .int .i64 fz, .int .i64 yx, .int .i64 yy, .int .i64 yz, .int .i64 r, .slice A n c, .slice A' n' c'] 47)));rw[hwz]at bz nz0⊢;replace W:=Lh (bthen W.out bz);have S:=Lh nz0;clear hwz bz nz0;replace HLS:=Lh (HLS.below W.out);replace HLQ:=Lh (HLQ.below W.out);go_wp2_with fail
 with_reducible refine(HAW.out _).mono ?_
 rintro en w2 ⟨rfl,hb⟩;replace S:=up_ hb S;replace HLS:=Lh (HLS.below hb);replace HLQ:=Lh (HLQ.below hb);replace W:=Lh (bthen W.out hb);clear HAW;clear hb
 go_upto_region 2 with fail
 have s0:w2.cell? ⟨w.heap.size,0,none⟩=some (.int .i64 fx):=(blk_cell S.out 0).trans rfl;have s1:w2.cell? ⟨w.heap.size,1,none⟩=some (.int .i64 fy):=(blk_cell S.out 1).trans rfl;have s2:w2.cell? ⟨w.heap.size,2,none⟩=some (.int .i64 fz):=(blk_cell S.out 2).trans rfl;have s3:w2.cell? ⟨w.heap.size,3,none⟩=some (.int .i64 yx):=(blk_cell S.out 3).trans rfl;have s4:w2.cell? ⟨w.heap.size,4,none⟩=some (.int .i64 yy):=(blk_cell S.out 4).trans rfl;have s5:w2.cell? ⟨w.heap.size,5,none⟩=some (.int .i64 yz):=(blk_cell S.out 5).trans rfl;have s6:w2.cell? ⟨w.heap.size,6,none⟩=some (.int .i64 r):=(blk_cell S.out 6).trans rfl;have s7:w2.cell? ⟨w.heap.size,7,none⟩=some (.slice A n c):=(blk_cell S.out 7).trans rfl;have s8:w2.cell? ⟨w.heap.size,8,none⟩=some (.slice A' n' c'):=(blk_cell S.out 8).trans rfl;have sl:w.heap.size<w2.heap.size:=blk_lt S.out;go_wp2_with fail
 with_reducible refine(HMD.out _ HLS.out HLQ.out).mono ?_
 rintro en w3 ⟨Al,cl,l,rfl,hrd,hlc,hgd,hl3,hb⟩;replace S:=up_ hb S;replace W:=Lh (bthen W.out hb);obtain⟨NL,hNL⟩:=nm_ l.length;rw[hNL]at hlc hl3⊢;have HNL:=Lh hNL;have HRD:=Lh hrd;have HLC:=Lh hlc;have HGD:=Lh hgd;have HL3:=Lh hl3;clear hNL hrd hlc hgd hl3 hb HMD HLS HLQ s0 s1 s2 s3 s4 s5 s6 s7 s8 sl;clear HRD HLC HGD HL3 HNL;have hs0:Hid (w.heap.size<w3.heap.size):=Lh (blk_lt S.out)
 go_upto_region 3 with fail
 have bz:=(((Below.refl w3.heap.size w3).alloc (Nat.le_refl _) (.cells #[.int .i64 ax, .int .i64 ay, .int .i64 az] 27)).alloc (by simp) (.cells #[.int .i64 tx, .int .i64 ty, .int .i64 tz] 27));have nz0:=heap_alloc_new w3 (.cells #[.int .i64 ax, .int .i64 ay, .int .i64 az] 27);replace nz0:=(Below.heap_alloc _ (.cells #[.int .i64 tx, .int .i64 ty, .int .i64 tz] 27) _ (by simp<;>omega)).trans nz0;have nz1:=heap_alloc_new (w3.alloc (.cells #[.int .i64 ax, .int .i64 ay, .int .i64 az] 27)) (.cells #[.int .i64 tx, .int .i64 ty, .int .i64 tz] 27);simp only[World.size_alloc]at nz1;obtain⟨w4,hwz⟩:=nm_ (((w3.alloc (.cells #[.int .i64 ax, .int .i64 ay, .int .i64 az] 27)).alloc (.cells #[.int .i64 tx, .int .i64 ty, .int .i64 tz] 27)));rw[hwz]at bz nz0 nz1⊢;replace S:=up_ bz S;replace W:=Lh (bthen W.out bz);have HPA:=Lh nz0;have HPB:=Lh nz1;clear hwz bz nz0 nz1;have hcl:Hid (w3.heap.size+1<w4.heap.size):=Lh (blk_lt HPB.out)
 skip
 go_upto_region 4 with fail
 have bz:=((Below.refl w4.heap.size w4).alloc (Nat.le_refl _) (.cells #[.bool false] 54));have nz0:=heap_alloc_new w4 (.cells #[.bool false] 54);obtain⟨w5,hwz⟩:=nm_ ((w4.alloc (.cells #[.bool false] 54)));rw[hwz]at bz nz0⊢;replace S:=up_ bz S;replace HPA:=up_ bz HPA;replace HPB:=up_ bz HPB;replace W:=Lh (bthen W.out bz);have WK:=Lh nz0;clear hwz bz nz0;obtain⟨x0,x1,x2,xl⟩:=f3_ w3.heap.size HPA.out;obtain⟨k0,k1,k2,kl⟩:=f3_ (w3.heap.size+1) HPB.out;go_wp2_with fail
 with_reducible refine(HH0.out _ _).mono ?_
 rintro en w6 ⟨rfl,hb⟩;replace S:=up_ hb S;replace HPA:=up_ hb HPA;replace HPB:=up_ hb HPB;replace WK:=up_ hb WK;replace W:=Lh (bthen W.out hb);clear HH0;clear hb x0 x1 x2 xl k0 k1 k2 kl
 go_upto_region 5 with fail
 have bz:=((Below.refl w6.heap.size w6).alloc (Nat.le_refl _) (.cells #[.int .i64 tx, .int .i64 ty, .int .i64 tz] 27));have nz0:=heap_alloc_new w6 (.cells #[.int .i64 tx, .int .i64 ty, .int .i64 tz] 27);obtain⟨w7,hwz⟩:=nm_ ((w6.alloc (.cells #[.int .i64 tx, .int .i64 ty, .int .i64 tz] 27)));rw[hwz]at bz nz0⊢;replace S:=up_ bz S;replace HPA:=up_ bz HPA;replace HPB:=up_ bz HPB;replace WK:=up_ bz WK;replace W:=Lh (bthen W.out bz);have O1:=Lh nz0;clear hwz bz nz0;obtain⟨o0,o1,o2,ol⟩:=f3_ w6.heap.size O1.out;obtain⟨k0,k1,k2,kl⟩:=f3_ (w3.heap.size+1) HPB.out
 go_upto_region 7 with fail
 clear o0 o1 o2 ol k0 k1 k2 kl O1;obtain⟨x0,x1,x2,xl⟩:=f3_ w3.heap.size HPA.out;have s0:w7.cell? ⟨w.heap.size,0,none⟩=some (.int .i64 fx):=(blk_cell S.out 0).trans rfl;have s1:w7.cell? ⟨w.heap.size,1,none⟩=some (.int .i64 fy):=(blk_cell S.out 1).trans rfl;have s2:w7.cell? ⟨w.heap.size,2,none⟩=some (.int .i64 fz):=(blk_cell S.out 2).trans rfl;have s3:w7.cell? ⟨w.heap.size,3,none⟩=some (.int .i64 yx):=(blk_cell S.out 3).trans rfl;have s4:w7.cell? ⟨w.heap.size,4,none⟩=some (.int .i64 yy):=(blk_cell S.out 4).trans rfl;have s5:w7.cell? ⟨w.heap.size,5,none⟩=some (.int .i64 yz):=(blk_cell S.out 5).trans rfl;have s6:w7.cell? ⟨w.heap.size,6,none⟩=some (.int .i64 r):=(blk_cell S.out 6).trans rfl;have s7:w7.cell? ⟨w.heap.size,7,none⟩=some (.slice A n c):=(blk_cell S.out 7).trans rfl;have s8:w7.cell? ⟨w.heap.size,8,none⟩=some (.slice A' n' c'):=(blk_cell S.out 8).trans rfl;have sl:w.heap.size<w7.heap.size:=blk_lt S.out;have HB:=Lh ((Below.refl (w7.heap.size) w7).drew);refine start_ (n:=13) (S:=fun w'=>w'.cell? ⟨w3.heap.size,0,none⟩=some (.int .i64 ax)∧w'.cell? ⟨w3.heap.size,1,none⟩=some (.int .i64 ay)∧w'.cell? ⟨w3.heap.size,2,none⟩=some (.int .i64 az)∧w'.cell? ⟨w.heap.size,3,none⟩=some (.int .i64 yx)) (ds:=[]) (MB_ 13 0) (by kernel_rfl) rfl rfl ⟨(HB.cell (p:=⟨w3.heap.size,0,none⟩) (xl)).trans x0,(HB.cell (p:=⟨w3.heap.size,1,none⟩) (xl)).trans x1,(HB.cell (p:=⟨w3.heap.size,2,none⟩) (xl)).trans x2,(HB.cell (p:=⟨w.heap.size,3,none⟩) (sl)).trans s3⟩ (fun hE=>?_);obtain⟨wd,hwd⟩:=nm_ w7.drew;rw[hwd]at HB hE⊢;clear hwd;refine pure_ (i:=0) (N:=some 49) (v:=?_) (a':=?_) (MB_ 13 1) rfl rfl (by kernel_rfl) (fun _ _ _ h=>h) (Or.inl ⟨by rfl,?_⟩) ?_ ?_;rotate_left
 ·intro w';go_simp
  with_reducible rfl
 rotate_left
 ·simp only[Act.put,List.setIfInBounds_toArray,List.set_cons_zero,List.set_cons_succ,i64_w,i32_w];rfl
 refine pure_ (i:=2) (N:=some 51) (v:=?_) (a':=?_) (MB_ 13 5) rfl rfl (by kernel_rfl) (fun _ _ _ h=>h) (Or.inl ⟨by rfl,?_⟩) ?_ ?_;rotate_left
 ·intro w';go_simp
  with_reducible rfl
 rotate_left
 ·simp only[Act.put,List.setIfInBounds_toArray,List.set_cons_zero,List.set_cons_succ,i64_w,i32_w];rfl
 refine pure_ (i:=3) (N:=some 52) (v:=?_) (a':=?_) (MB_ 13 13) rfl rfl (by kernel_rfl) (fun _ _ _ h=>h) (Or.inl ⟨by rfl,?_⟩) ?_ ?_;rotate_left
 ·intro w';go_simp
  with_reducible rfl
 rotate_left
 ·simp only[Act.put,List.setIfInBounds_toArray,List.set_cons_zero,List.set_cons_succ,i64_w,i32_w];rfl
 refine pure_ (i:=7) (N:=some 56) (v:=?_) (a':=?_) (MB_ 13 141) rfl rfl (by kernel_rfl) (fun _ _ _ h=>h) (Or.inl ⟨by rfl,?_⟩) ?_ ?_;rotate_left
 ·intro w';go_simp
  with_reducible rfl
 rotate_left
 ·simp only[Act.put,List.setIfInBounds_toArray,List.set_cons_zero,List.set_cons_succ,i64_w,i32_w];rfl
 refine pure_ (i:=9) (N:=some 58) (v:=?_) (a':=?_) (MB_ 13 653) rfl rfl (by kernel_rfl) (fun _ _ _ h=>h) (Or.inl ⟨by rfl,?_⟩) ?_ ?_;rotate_left
 ·intro w';go_simp
  with_reducible rfl
 rotate_left
 ·simp only[Act.put,List.setIfInBounds_toArray,List.set_cons_zero,List.set_cons_succ,i64_w,i32_w];rfl
 refine take_ (i:=1) (N:=some 50) (v:=?_) (a':=?_) (MB_ 13 655) rfl rfl (by kernel_rfl) (fun _ _ _ h=>h) (Or.inl ⟨by rfl,?_⟩) hE ?_ ?_;rotate_left
 ·rintro w' ⟨s0,s1,s2,s3⟩;go_simp
  with_reducible rfl
 rotate_left
 ·simp only[Act.put,List.setIfInBounds_toArray,List.set_cons_zero,List.set_cons_succ,i64_w,i32_w];rfl
 refine take_ (i:=4) (N:=some 53) (v:=?_) (a':=?_) (MB_ 13 671) rfl rfl (by kernel_rfl) (fun _ _ _ h=>h) (Or.inl ⟨by rfl,?_⟩) hE ?_ ?_;rotate_left
 ·rintro w' ⟨s0,s1,s2,s3⟩;go_simp
  with_reducible rfl
 rotate_left
 ·simp only[Act.put,List.setIfInBounds_toArray,List.set_cons_zero,List.set_cons_succ,i64_w,i32_w];rfl
 refine take_ (i:=8) (N:=some 57) (v:=?_) (a':=?_) (MB_ 13 927) rfl rfl (by kernel_rfl) (fun _ _ _ h=>h) (Or.inl ⟨by rfl,?_⟩) hE ?_ ?_;rotate_left
 ·rintro w' ⟨s0,s1,s2,s3⟩;go_simp
  with_reducible rfl
 rotate_left
 ·simp only[Act.put,List.setIfInBounds_toArray,List.set_cons_zero,List.set_cons_succ,i64_w,i32_w];rfl
 refine take_ (i:=10) (N:=some 59) (v:=?_) (a':=?_) (MB_ 13 1951) rfl rfl (by kernel_rfl) (fun _ _ _ h=>h) (Or.inl ⟨by rfl,?_⟩) hE ?_ ?_;rotate_left
 ·rintro w' ⟨s0,s1,s2,s3⟩;go_simp
  with_reducible rfl
 rotate_left
 ·simp only[Act.put,List.setIfInBounds_toArray,List.set_cons_zero,List.set_cons_succ,i64_w,i32_w];rfl
 refine one_ (i:=5) (N:=some 54) (MB_ 13 1983) rfl rfl (by kernel_rfl) (by decide) (fun K hK=>?_);refine gs_ Tryz.func23 #[.int .i64 yx, .int .i64 274877906944] ?_
 with_reducible refine(HPV.out _).mono ?_
 rintro en wz ⟨rfl,rfl⟩;refine⟨_,rfl,?_⟩;refine hK.out _ _ ⟨(HB.cell (p:=⟨w3.heap.size,0,none⟩) (xl)).trans x0,(HB.cell (p:=⟨w3.heap.size,1,none⟩) (xl)).trans x1,(HB.cell (p:=⟨w3.heap.size,2,none⟩) (xl)).trans x2,(HB.cell (p:=⟨w.heap.size,3,none⟩) (sl)).trans s3⟩ (fun hE=>?_);clear hK K;refine norm_ (a':=?_) ?_ ?_;rotate_left
 ·show Act.put _ (some 54) _=_;simp only[Act.put,List.setIfInBounds_toArray,List.set_cons_zero,List.set_cons_succ,i64_w,i32_w];rfl
 refine pure_ (i:=6) (N:=some 55) (v:=?_) (a':=?_) (MB_ 13 2047) rfl rfl (by kernel_rfl) (fun _ _ _ h=>h) (Or.inl ⟨by rfl,?_⟩) ?_ ?_;rotate_left
 ·intro w';go_simp
  with_reducible rfl
 rotate_left
 ·simp only[Act.put,List.setIfInBounds_toArray,List.set_cons_zero,List.set_cons_succ,i64_w,i32_w];rfl
 refine pure_ (i:=11) (N:=some 60) (v:=?_) (a':=?_) (MB_ 13 4095) rfl rfl (by kernel_rfl) (fun _ _ _ h=>h) (Or.inl ⟨by rfl,?_⟩) ?_ ?_;rotate_left
 ·intro w';go_simp
  with_reducible rfl
 rotate_left
 ·simp only[Act.put,List.setIfInBounds_toArray,List.set_cons_zero,List.set_cons_succ,i64_w,i32_w];rfl
 refine one_ (i:=12) (N:=none) (MB_ 13 8191) rfl rfl (by kernel_rfl) (by decide) (fun K hK=>?_);have SA:=up_ HB.out HPA;have SB:=up_ HB.out HPB;have SK:=up_ HB.out WK;have SS:=up_ HB.out S;have WB:=Lh (bthen W.out HB.out);have sc0:World.cell? _ ⟨w3.heap.size+1,0,none⟩=some (.int .i64 tx):=(blk_cell SB.out 0).trans rfl;have sf0:World.frozen? _ ⟨w3.heap.size+1,0,none⟩=false:=blk_frozen SB.out 0;have sc1:World.cell? _ ⟨w3.heap.size+1,1,none⟩=some (.int .i64 ty):=(blk_cell SB.out 1).trans rfl;have sf1:World.frozen? _ ⟨w3.heap.size+1,1,none⟩=false:=blk_frozen SB.out 1;have sc2:World.cell? _ ⟨w3.heap.size+1,2,none⟩=some (.int .i64 tz):=(blk_cell SB.out 2).trans rfl;have sf2:World.frozen? _ ⟨w3.heap.size+1,2,none⟩=false:=blk_frozen SB.out 2;refine skip_ (w1:=?_) (by rfl) rfl ?_ ?_;rotate_left
 ·go_simp;rfl
 have SA:=Lh ((bo3 (show w3.heap.size≠w3.heap.size+1 by omega) (.int .i64 (wrap64 (ax+qv))) (.int .i64 ay) (.int .i64 az)).trans SA.out);have SK:=Lh ((bo3 (show w4.heap.size≠w3.heap.size+1 by have:=hcl.out;omega) (.int .i64 (wrap64 (ax+qv))) (.int .i64 ay) (.int .i64 az)).trans SK.out);have SS:=Lh ((bo3 (show w.heap.size≠w3.heap.size+1 by have:=hs0.out;omega) (.int .i64 (wrap64 (ax+qv))) (.int .i64 ay) (.int .i64 az)).trans SS.out);have SB:=Lh (bs3 SB.out (.int .i64 (wrap64 (ax+qv))) (.int .i64 ay) (.int .i64 az));have WB:=Lh (bb3 WB.out (show w.heap.size≤w3.heap.size+1 by have:=hs0.out;omega) (.int .i64 (wrap64 (ax+qv))) (.int .i64 ay) (.int .i64 az));clear sc0 sf0 sc1 sf1 sc2 sf2;refine hK.out _ _ ⟨(blk_cell SA.out 0).trans rfl,(blk_cell SA.out 1).trans rfl,(blk_cell SA.out 2).trans rfl,(blk_cell SS.out 3).trans rfl⟩ (fun hE=>?_);clear hK K;refine done_ (by kernel_rfl) ?_;obtain⟨wv,hV⟩:=nm_ ((((wz.setCell ⟨w3.heap.size+1,0,none⟩ (.int .i64 (wrap64 (ax+qv)))).setCell ⟨w3.heap.size+1,1,none⟩ (.int .i64 ay)).setCell ⟨w3.heap.size+1,2,none⟩ (.int .i64 az)));rw[hV]at SA SB SK WB⊢;rw[EV.out]at SB;clear hV hE HB SS S HPA HPB WK W hs0 HPV EV x0 x1 x2 xl s0 s1 s2 s3 s4 s5 s6 s7 s8 sl;have HPA:=Lh SA.out;have HPB:=Lh SB.out;have WK:=Lh SK.out;have W:=Lh WB.out;clear SA SB SK WB
 go_upto_region 8 with fail
 obtain⟨x0,x1,x2,xl⟩:=f3_ w3.heap.size HPA.out;obtain⟨k0,k1,k2,kl⟩:=f3_ (w3.heap.size+1) HPB.out;go_wp2_with fail
 with_reducible refine(HWAY.out _).mono ?_
 rintro en w8 ⟨vb,yv,rfl,⟨B0,B1,B2,n0,n1,n2,d0,d1,d2,rb,rfl⟩,hvy,hb⟩;replace HPA:=up_ hb HPA;replace HPB:=up_ hb HPB;replace WK:=up_ hb WK;replace W:=Lh (bthen W.out hb);have hcv:=(hvy HI.out.1 HI.out.2).1;rw[HBC.out]at hcv;obtain⟨b0,o0,O,hO,rfl,lb,p0,p1,p2,hn0⟩:=hcv.first (by simp);obtain rfl:O=⟨px,py,pz⟩:=by simp only[List.cons.injEq]at hO;exact hO.1.symm
 simp only at p0 p1 p2;have hn0:(0:Int)<(n0:Int):=by omega
 obtain⟨yvx,yvy,yvz⟩:=yv;clear hb hvy hcv hO HI HBC HWAY x0 x1 x2 xl k0 k1 k2 kl
 go_upto_region 9 with fail
 have bz2:=((Below.refl _ w8).alloc (Nat.le_refl _) (.cells #[.slice (some ⟨b0,o0,none⟩) n0 d0, .slice B1 n1 d1, .slice B2 n2 d2, .int .i64 rb] 35)).alloc (by simp) (.cells #[.int .i64 yvx, .int .i64 yvy, .int .i64 yvz] 23);replace p0:=(bz2.cell (p:=⟨b0,_,none⟩) lb).trans p0;replace p1:=(bz2.cell (p:=⟨b0,_,none⟩) lb).trans p1;replace p2:=(bz2.cell (p:=⟨b0,_,none⟩) lb).trans p2;replace lb:=Nat.lt_of_lt_of_le lb bz2.size;clear bz2;have bz:=(((Below.refl w8.heap.size w8).alloc (Nat.le_refl _) (.cells #[.slice (some ⟨b0,o0,none⟩) n0 d0, .slice B1 n1 d1, .slice B2 n2 d2, .int .i64 rb] 35)).alloc (by simp) (.cells #[.int .i64 yvx, .int .i64 yvy, .int .i64 yvz] 23));have nz0:=heap_alloc_new w8 (.cells #[.slice (some ⟨b0,o0,none⟩) n0 d0, .slice B1 n1 d1, .slice B2 n2 d2, .int .i64 rb] 35);replace nz0:=(Below.heap_alloc _ (.cells #[.int .i64 yvx, .int .i64 yvy, .int .i64 yvz] 23) _ (by simp<;>omega)).trans nz0;obtain⟨w9,hwz⟩:=nm_ (((w8.alloc (.cells #[.slice (some ⟨b0,o0,none⟩) n0 d0, .slice B1 n1 d1, .slice B2 n2 d2, .int .i64 rb] 35)).alloc (.cells #[.int .i64 yvx, .int .i64 yvy, .int .i64 yvz] 23)));rw[hwz]at bz nz0 p0 p1 p2 lb⊢;replace HPA:=up_ bz HPA;replace HPB:=up_ bz HPB;replace WK:=up_ bz WK;replace W:=Lh (bthen W.out bz);have HB13:=Lh nz0;clear hwz bz nz0;obtain⟨c0,c1,c2,c3,cl⟩:=f4_ w8.heap.size HB13.out
 go_upto_region 10 with fail
 have bz:=((Below.refl w9.heap.size w9).alloc (Nat.le_refl _) (.cells #[.int .i64 px, .int .i64 py, .int .i64 pz] 23));have nz0:=heap_alloc_new w9 (.cells #[.int .i64 px, .int .i64 py, .int .i64 pz] 23);obtain⟨w10,hwz⟩:=nm_ ((w9.alloc (.cells #[.int .i64 px, .int .i64 py, .int .i64 pz] 23)));rw[hwz]at bz nz0⊢;replace HPA:=up_ bz HPA;replace HPB:=up_ bz HPB;replace WK:=up_ bz WK;replace HB13:=up_ bz HB13;replace W:=Lh (bthen W.out bz);have HP:=Lh nz0;clear hwz bz nz0 c0 c1 c2 c3 cl p0 p1 p2 lb hn0;clear HB13;obtain⟨p0,p1,p2,pl⟩:=f3_ w9.heap.size HP.out;have HB:=Lh ((Below.refl (w10.heap.size) w10).drew);refine start_ (n:=17) (S:=fun w'=>w'.cell? ⟨w9.heap.size,0,none⟩=some (.int .i64 px)∧w'.cell? ⟨w9.heap.size,1,none⟩=some (.int .i64 py)∧w'.cell? ⟨w9.heap.size,2,none⟩=some (.int .i64 pz)) (ds:=[]) (MB_ 17 0) (by kernel_rfl) rfl rfl ⟨(HB.cell (p:=⟨w9.heap.size,0,none⟩) (pl)).trans p0,(HB.cell (p:=⟨w9.heap.size,1,none⟩) (pl)).trans p1,(HB.cell (p:=⟨w9.heap.size,2,none⟩) (pl)).trans p2⟩ (fun hE=>?_);obtain⟨wd,hwd⟩:=nm_ w10.drew;rw[hwd]at HB hE⊢;clear hwd;refine pure_ (i:=0) (N:=some 73) (v:=?_) (a':=?_) (MB_ 17 1) rfl rfl (by kernel_rfl) (fun _ _ _ h=>h) (Or.inl ⟨by rfl,?_⟩) ?_ ?_;rotate_left
 ·intro w';go_simp
  with_reducible rfl
 rotate_left
 ·simp only[Act.put,List.setIfInBounds_toArray,List.set_cons_zero,List.set_cons_succ,i64_w,i32_w];rfl
 refine pure_ (i:=2) (N:=some 75) (v:=?_) (a':=?_) (MB_ 17 5) rfl rfl (by kernel_rfl) (fun _ _ _ h=>h) (Or.inl ⟨by rfl,?_⟩) ?_ ?_;rotate_left
 ·intro w';go_simp
  with_reducible rfl
 rotate_left
 ·simp only[Act.put,List.setIfInBounds_toArray,List.set_cons_zero,List.set_cons_succ,i64_w,i32_w];rfl
 refine pure_ (i:=5) (N:=some 78) (v:=?_) (a':=?_) (MB_ 17 37) rfl rfl (by kernel_rfl) (fun _ _ _ h=>h) (Or.inl ⟨by rfl,?_⟩) ?_ ?_;rotate_left
 ·intro w';go_simp
  with_reducible rfl
 rotate_left
 ·simp only[Act.put,List.setIfInBounds_toArray,List.set_cons_zero,List.set_cons_succ,i64_w,i32_w];rfl
 refine pure_ (i:=8) (N:=some 81) (v:=?_) (a':=?_) (MB_ 17 293) rfl rfl (by kernel_rfl) (fun _ _ _ h=>h) (Or.inl ⟨by rfl,?_⟩) ?_ ?_;rotate_left
 ·intro w';go_simp
  with_reducible rfl
 rotate_left
 ·simp only[Act.put,List.setIfInBounds_toArray,List.set_cons_zero,List.set_cons_succ,i64_w,i32_w];rfl
 refine pure_ (i:=10) (N:=some 83) (v:=?_) (a':=?_) (MB_ 17 1317) rfl rfl (by kernel_rfl) (fun _ _ _ h=>h) (Or.inl ⟨by rfl,?_⟩) ?_ ?_;rotate_left
 ·intro w';go_simp
  with_reducible rfl
 rotate_left
 ·simp only[Act.put,List.setIfInBounds_toArray,List.set_cons_zero,List.set_cons_succ,i64_w,i32_w];rfl
 refine take_ (i:=1) (N:=some 74) (v:=?_) (a':=?_) (MB_ 17 1319) rfl rfl (by kernel_rfl) (fun _ _ _ h=>h) (Or.inl ⟨by rfl,?_⟩) hE ?_ ?_;rotate_left
 ·rintro w' ⟨s0,s1,s2⟩;go_simp
  with_reducible rfl
 rotate_left
 ·simp only[Act.put,List.setIfInBounds_toArray,List.set_cons_zero,List.set_cons_succ,i64_w,i32_w];rfl
 refine pure_ (i:=3) (N:=some 76) (v:=?_) (a':=?_) (MB_ 17 1327) rfl rfl (by kernel_rfl) (fun _ _ _ h=>h) (Or.inl ⟨by rfl,?_⟩) ?_ ?_;rotate_left
 ·intro w';go_simp
  with_reducible rfl
 rotate_left
 ·simp only[Act.put,List.setIfInBounds_toArray,List.set_cons_zero,List.set_cons_succ,i64_w,i32_w];rfl
 refine pure_ (i:=4) (N:=some 77) (v:=?_) (a':=?_) (MB_ 17 1343) rfl rfl (by kernel_rfl) (fun _ _ _ h=>h) (Or.inl ⟨by rfl,?_⟩) ?_ ?_;rotate_left
 ·intro w';go_simp
  with_reducible rfl
 rotate_left
 ·simp only[Act.put,List.setIfInBounds_toArray,List.set_cons_zero,List.set_cons_succ,i64_w,i32_w];rfl
 refine take_ (i:=9) (N:=some 82) (v:=?_) (a':=?_) (MB_ 17 1855) rfl rfl (by kernel_rfl) (fun _ _ _ h=>h) (Or.inl ⟨by rfl,?_⟩) hE ?_ ?_;rotate_left
 ·rintro w' ⟨s0,s1,s2⟩;go_simp
  with_reducible rfl
 rotate_left
 ·simp only[Act.put,List.setIfInBounds_toArray,List.set_cons_zero,List.set_cons_succ,i64_w,i32_w];rfl
 refine take_ (i:=11) (N:=some 84) (v:=?_) (a':=?_) (MB_ 17 3903) rfl rfl (by kernel_rfl) (fun _ _ _ h=>h) (Or.inl ⟨by rfl,?_⟩) hE ?_ ?_;rotate_left
 ·rintro w' ⟨s0,s1,s2⟩;go_simp
  with_reducible rfl
 rotate_left
 ·simp only[Act.put,List.setIfInBounds_toArray,List.set_cons_zero,List.set_cons_succ,i64_w,i32_w];rfl
 refine join_ (σ:=Nat×Nat) 1 (MB_ 17 65535) (fun s=>[(79, .int .i64 qk),(80, .int .i64 (wrap64 (wrap64 (wrap64 (px-ra)-9)-qk))),(85, .agg #[.int .i64 (wrap64 (wrap64 (wrap64 (px-ra)-9)-qk)), .int .i64 py, .int .i64 pz]),(86, .slice (some ⟨s.1,0,none⟩) 1 1),(87, .agg #[.slice (some ⟨s.1,0,none⟩) 1 1, .slice none 0 0, .slice none 0 0, .int .i64 5]),(17, .pointer (some ⟨s.2,0,none⟩))]) (fun(s:Nat×Nat) w'=>match s with|(s1,s2)=>w10.heap.size≤s1∧w'.heap[s1]?=some (.cells #[.int .i64 (wrap64 (wrap64 (wrap64 (px-ra)-9)-qk)), .int .i64 py, .int .i64 pz] 23 (0,0))∧w10.heap.size≤s2∧w'.heap[s2]?=some (.cells #[.slice none 0 0, .slice none 0 0, .slice none 0 0, .int .i64 0] 35 (0,0))∧s1≠s2∧Below w10.heap.size w10 w') ?_ ?_;rotate_left
 ·intro hJ6_13_15;refine join_ (σ:=Nat×Nat) 2 (MB_ 17 32767) (fun s=>[(79, .int .i64 qk),(80, .int .i64 (wrap64 (wrap64 (wrap64 (px-ra)-9)-qk))),(85, .agg #[.int .i64 (wrap64 (wrap64 (wrap64 (px-ra)-9)-qk)), .int .i64 py, .int .i64 pz]),(86, .slice (some ⟨s.1,0,none⟩) 1 1),(87, .agg #[.slice (some ⟨s.1,0,none⟩) 1 1, .slice none 0 0, .slice none 0 0, .int .i64 5])]) (fun(s:Nat×Nat) w'=>match s with|(s1,s2)=>w10.heap.size≤s1∧w'.heap[s1]?=some (.cells #[.int .i64 (wrap64 (wrap64 (wrap64 (px-ra)-9)-qk)), .int .i64 py, .int .i64 pz] 23 (0,0))∧Below w10.heap.size w10 w') ?_ ?_;rotate_left
  ·intro hJ6_13;refine join_ (σ:=Nat×Nat) 3 (MB_ 17 40959) (fun s=>[(79, .int .i64 qk),(80, .int .i64 (wrap64 (wrap64 (wrap64 (px-ra)-9)-qk))),(85, .agg #[.int .i64 (wrap64 (wrap64 (wrap64 (px-ra)-9)-qk)), .int .i64 py, .int .i64 pz]),(17, .pointer (some ⟨s.2,0,none⟩))]) (fun(s:Nat×Nat) w'=>match s with|(s1,s2)=>w10.heap.size≤s2∧w'.heap[s2]?=some (.cells #[.slice none 0 0, .slice none 0 0, .slice none 0 0, .int .i64 0] 35 (0,0))∧Below w10.heap.size w10 w') ?_ ?_;rotate_left
   ·intro hJ6_15;refine join_ (σ:=Nat×Nat) 4 (MB_ 17 8191) (fun s=>[(79, .int .i64 qk),(80, .int .i64 (wrap64 (wrap64 (wrap64 (px-ra)-9)-qk))),(85, .agg #[.int .i64 (wrap64 (wrap64 (wrap64 (px-ra)-9)-qk)), .int .i64 py, .int .i64 pz])]) (fun(s:Nat×Nat) w'=>match s with|(s1,s2)=>Below w10.heap.size w10 w') ?_ ?_;rotate_left
    ·intro hJ6;refine join_ (σ:=Nat×Nat) 6 (MB_ 17 36671) (fun s=>[(17, .pointer (some ⟨s.2,0,none⟩))]) (fun(s:Nat×Nat) w'=>match s with|(s1,s2)=>w10.heap.size≤s2∧w'.heap[s2]?=some (.cells #[.slice none 0 0, .slice none 0 0, .slice none 0 0, .int .i64 0] 35 (0,0))∧Below w10.heap.size w10 w') ?_ ?_;rotate_left
     ·intro hJ15;refine two_ (i:=6) (j:=15) (Ni:=some 79) (Nj:=some 17) (MB_ 17 3967) (MB_ 17 36671) rfl rfl rfl rfl (by kernel_rfl) (by decide) (by decide) (fun K hK=>?_) (fun K hK=>?_)
      ·skip
       refine gs_ Tryz.func23 #[.int .i64 bh, .int .i64 1000] ?_
       with_reducible refine(HPK.out _).mono ?_
       rintro en wz ⟨rfl,rfl⟩;refine⟨_,rfl,?_⟩;refine hK.out _ _ ⟨(HB.cell (p:=⟨w9.heap.size,0,none⟩) (pl)).trans p0,(HB.cell (p:=⟨w9.heap.size,1,none⟩) (pl)).trans p1,(HB.cell (p:=⟨w9.heap.size,2,none⟩) (pl)).trans p2⟩ (fun hE=>?_);clear hK K;refine norm_ (a':=?_) ?_ ?_;rotate_left
       ·show Act.put _ (some 79) _=_;simp only[Act.put,List.setIfInBounds_toArray,List.set_cons_zero,List.set_cons_succ,i64_w,i32_w];rfl
       refine pure_ (i:=7) (N:=some 80) (v:=?_) (a':=?_) (MB_ 17 4095) rfl rfl (by kernel_rfl) (fun _ _ _ h=>h) (Or.inl ⟨by rfl,?_⟩) ?_ ?_;rotate_left
       ·intro w';go_simp
        with_reducible rfl
       rotate_left
       ·simp only[Act.put,List.setIfInBounds_toArray,List.set_cons_zero,List.set_cons_succ,i64_w,i32_w];rfl
       refine pure_ (i:=12) (N:=some 85) (v:=?_) (a':=?_) (MB_ 17 8191) rfl rfl (by kernel_rfl) (fun _ _ _ h=>h) (Or.inl ⟨by rfl,?_⟩) ?_ ?_;rotate_left
       ·intro w';go_simp
        with_reducible rfl
       rotate_left
       ·simp only[Act.put,List.setIfInBounds_toArray,List.set_cons_zero,List.set_cons_succ,i64_w,i32_w];rfl
       exact nw_ (hJ6 (0,0) _ HB.out)
      ·skip
       refine va_ ?_;have HC:=Lh (ha_new HB.out (.cells #[.slice none 0 0, .slice none 0 0, .slice none 0 0, .int .i64 0] 35));have gC:=HB.size;have HB:=Lh (HB.alloc (Nat.le_trans (Nat.le_refl _) HB.size) (.cells #[.slice none 0 0, .slice none 0 0, .slice none 0 0, .int .i64 0] 35));refine hK.out _ _ ⟨(HB.cell (p:=⟨w9.heap.size,0,none⟩) (pl)).trans p0,(HB.cell (p:=⟨w9.heap.size,1,none⟩) (pl)).trans p1,(HB.cell (p:=⟨w9.heap.size,2,none⟩) (pl)).trans p2⟩ (fun hE=>?_);clear hK K;refine norm_ (a':=?_) ?_ ?_;rotate_left
       ·show Act.put _ (some 17) _=_;simp only[Act.put,List.setIfInBounds_toArray,List.set_cons_zero,List.set_cons_succ,i64_w,i32_w];rfl
       exact nw_ (hJ15 (0,_) _ ⟨gC,HC.out,HB.out⟩)
     ·skip
      rintro⟨AS,AC⟩ wj ⟨gC,HC,HB⟩
      (try simp only at gC HC HB)
      have HC:=Lh HC;have HB:=Lh HB;have hE:wj.cell? ⟨w9.heap.size,0,none⟩=some (.int .i64 px)∧wj.cell? ⟨w9.heap.size,1,none⟩=some (.int .i64 py)∧wj.cell? ⟨w9.heap.size,2,none⟩=some (.int .i64 pz):=⟨(HB.cell (p:=⟨w9.heap.size,0,none⟩) (pl)).trans p0,(HB.cell (p:=⟨w9.heap.size,1,none⟩) (pl)).trans p1,(HB.cell (p:=⟨w9.heap.size,2,none⟩) (pl)).trans p2⟩;refine norm_ (a':=?_) ?_ ?_;rotate_left
      ·simp only[putAll,Act.put,List.setIfInBounds_toArray,List.set_cons_zero,List.set_cons_succ];rfl
      refine one_ (i:=6) (N:=some 79) (MB_ 17 36735) rfl rfl (by kernel_rfl) (by decide) (fun K hK=>?_);refine gs_ Tryz.func23 #[.int .i64 bh, .int .i64 1000] ?_
      with_reducible refine(HPK.out _).mono ?_
      rintro en wz ⟨rfl,rfl⟩;refine⟨_,rfl,?_⟩;refine hK.out _ _ ⟨(HB.cell (p:=⟨w9.heap.size,0,none⟩) (pl)).trans p0,(HB.cell (p:=⟨w9.heap.size,1,none⟩) (pl)).trans p1,(HB.cell (p:=⟨w9.heap.size,2,none⟩) (pl)).trans p2⟩ (fun hE=>?_);clear hK K;refine norm_ (a':=?_) ?_ ?_;rotate_left
      ·show Act.put _ (some 79) _=_;simp only[Act.put,List.setIfInBounds_toArray,List.set_cons_zero,List.set_cons_succ,i64_w,i32_w];rfl
      refine pure_ (i:=7) (N:=some 80) (v:=?_) (a':=?_) (MB_ 17 36863) rfl rfl (by kernel_rfl) (fun _ _ _ h=>h) (Or.inl ⟨by rfl,?_⟩) ?_ ?_;rotate_left
      ·intro w';go_simp
       with_reducible rfl
      rotate_left
      ·simp only[Act.put,List.setIfInBounds_toArray,List.set_cons_zero,List.set_cons_succ,i64_w,i32_w];rfl
      refine pure_ (i:=12) (N:=some 85) (v:=?_) (a':=?_) (MB_ 17 40959) rfl rfl (by kernel_rfl) (fun _ _ _ h=>h) (Or.inl ⟨by rfl,?_⟩) ?_ ?_;rotate_left
      ·intro w';go_simp
       with_reducible rfl
      rotate_left
      ·simp only[Act.put,List.setIfInBounds_toArray,List.set_cons_zero,List.set_cons_succ,i64_w,i32_w];rfl
      exact nw_ (hJ6_15 (0,_) _ ⟨gC,HC.out,HB.out⟩)
    ·skip
     rintro⟨AS,AC⟩ wj HB
     (try simp only at HB)
     have HB:=Lh HB;have hE:wj.cell? ⟨w9.heap.size,0,none⟩=some (.int .i64 px)∧wj.cell? ⟨w9.heap.size,1,none⟩=some (.int .i64 py)∧wj.cell? ⟨w9.heap.size,2,none⟩=some (.int .i64 pz):=⟨(HB.cell (p:=⟨w9.heap.size,0,none⟩) (pl)).trans p0,(HB.cell (p:=⟨w9.heap.size,1,none⟩) (pl)).trans p1,(HB.cell (p:=⟨w9.heap.size,2,none⟩) (pl)).trans p2⟩;refine norm_ (a':=?_) ?_ ?_;rotate_left
     ·simp only[putAll,Act.put,List.setIfInBounds_toArray,List.set_cons_zero,List.set_cons_succ];rfl
     refine two_ (i:=13) (j:=15) (Ni:=some 86) (Nj:=some 17) (MB_ 17 16383) (MB_ 17 40959) rfl rfl rfl rfl (by kernel_rfl) (by decide) (by decide) (fun K hK=>?_) (fun K hK=>?_)
     ·skip
      refine va_ ?_;have HS:=Lh (ha_new HB.out (.cells #[.int .i64 (wrap64 (wrap64 (wrap64 (px-ra)-9)-qk)), .int .i64 py, .int .i64 pz] 23));have gS:=HB.size;have HB:=Lh (HB.alloc (Nat.le_trans (Nat.le_refl _) HB.size) (.cells #[.int .i64 (wrap64 (wrap64 (wrap64 (px-ra)-9)-qk)), .int .i64 py, .int .i64 pz] 23));refine hK.out _ _ ⟨(HB.cell (p:=⟨w9.heap.size,0,none⟩) (pl)).trans p0,(HB.cell (p:=⟨w9.heap.size,1,none⟩) (pl)).trans p1,(HB.cell (p:=⟨w9.heap.size,2,none⟩) (pl)).trans p2⟩ (fun hE=>?_);clear hK K;refine norm_ (a':=?_) ?_ ?_;rotate_left
      ·show Act.put _ (some 86) _=_;simp only[Act.put,List.setIfInBounds_toArray,List.set_cons_zero,List.set_cons_succ,i64_w,i32_w];rfl
      refine pure_ (i:=14) (N:=some 87) (v:=?_) (a':=?_) (MB_ 17 32767) rfl rfl (by kernel_rfl) (fun _ _ _ h=>h) (Or.inl ⟨by rfl,?_⟩) ?_ ?_;rotate_left
      ·intro w';go_simp
       with_reducible rfl
      rotate_left
      ·simp only[Act.put,List.setIfInBounds_toArray,List.set_cons_zero,List.set_cons_succ,i64_w,i32_w];rfl
      exact nw_ (hJ6_13 (_,0) _ ⟨gS,HS.out,HB.out⟩)
     ·skip
      refine va_ ?_;have HC:=Lh (ha_new HB.out (.cells #[.slice none 0 0, .slice none 0 0, .slice none 0 0, .int .i64 0] 35));have gC:=HB.size;have HB:=Lh (HB.alloc (Nat.le_trans (Nat.le_refl _) HB.size) (.cells #[.slice none 0 0, .slice none 0 0, .slice none 0 0, .int .i64 0] 35));refine hK.out _ _ ⟨(HB.cell (p:=⟨w9.heap.size,0,none⟩) (pl)).trans p0,(HB.cell (p:=⟨w9.heap.size,1,none⟩) (pl)).trans p1,(HB.cell (p:=⟨w9.heap.size,2,none⟩) (pl)).trans p2⟩ (fun hE=>?_);clear hK K;refine norm_ (a':=?_) ?_ ?_;rotate_left
      ·show Act.put _ (some 17) _=_;simp only[Act.put,List.setIfInBounds_toArray,List.set_cons_zero,List.set_cons_succ,i64_w,i32_w];rfl
      exact nw_ (hJ6_15 (0,_) _ ⟨gC,HC.out,HB.out⟩)
   ·skip
    rintro⟨AS,AC⟩ wj ⟨gC,HC,HB⟩
    (try simp only at gC HC HB)
    have HC:=Lh HC;have HB:=Lh HB;have hE:wj.cell? ⟨w9.heap.size,0,none⟩=some (.int .i64 px)∧wj.cell? ⟨w9.heap.size,1,none⟩=some (.int .i64 py)∧wj.cell? ⟨w9.heap.size,2,none⟩=some (.int .i64 pz):=⟨(HB.cell (p:=⟨w9.heap.size,0,none⟩) (pl)).trans p0,(HB.cell (p:=⟨w9.heap.size,1,none⟩) (pl)).trans p1,(HB.cell (p:=⟨w9.heap.size,2,none⟩) (pl)).trans p2⟩;refine norm_ (a':=?_) ?_ ?_;rotate_left
    ·simp only[putAll,Act.put,List.setIfInBounds_toArray,List.set_cons_zero,List.set_cons_succ];rfl
    refine one_ (i:=13) (N:=some 86) (MB_ 17 49151) rfl rfl (by kernel_rfl) (by decide) (fun K hK=>?_);refine va_ ?_;have HS:=Lh (ha_new HB.out (.cells #[.int .i64 (wrap64 (wrap64 (wrap64 (px-ra)-9)-qk)), .int .i64 py, .int .i64 pz] 23));have gS:=HB.size;have hne:=Nat.ne_of_gt (blk_lt HC.out);have HC:=Lh ((Below.heap_alloc _ (.cells #[.int .i64 (wrap64 (wrap64 (wrap64 (px-ra)-9)-qk)), .int .i64 py, .int .i64 pz] 23) _ (blk_lt HC.out)).trans HC.out);have HB:=Lh (HB.alloc (Nat.le_trans (Nat.le_refl _) HB.size) (.cells #[.int .i64 (wrap64 (wrap64 (wrap64 (px-ra)-9)-qk)), .int .i64 py, .int .i64 pz] 23));refine hK.out _ _ ⟨(HB.cell (p:=⟨w9.heap.size,0,none⟩) (pl)).trans p0,(HB.cell (p:=⟨w9.heap.size,1,none⟩) (pl)).trans p1,(HB.cell (p:=⟨w9.heap.size,2,none⟩) (pl)).trans p2⟩ (fun hE=>?_);clear hK K;refine norm_ (a':=?_) ?_ ?_;rotate_left
    ·show Act.put _ (some 86) _=_;simp only[Act.put,List.setIfInBounds_toArray,List.set_cons_zero,List.set_cons_succ,i64_w,i32_w];rfl
    refine pure_ (i:=14) (N:=some 87) (v:=?_) (a':=?_) (MB_ 17 65535) rfl rfl (by kernel_rfl) (fun _ _ _ h=>h) (Or.inl ⟨by rfl,?_⟩) ?_ ?_;rotate_left
    ·intro w';go_simp
     with_reducible rfl
    rotate_left
    ·simp only[Act.put,List.setIfInBounds_toArray,List.set_cons_zero,List.set_cons_succ,i64_w,i32_w];rfl
    exact nw_ (hJ6_13_15 (_,_) _ ⟨gS,HS.out,gC,HC.out,hne,HB.out⟩)
  ·skip
   rintro⟨AS,AC⟩ wj ⟨gS,HS,HB⟩
   (try simp only at gS HS HB)
   have HS:=Lh HS;have HB:=Lh HB;have hE:wj.cell? ⟨w9.heap.size,0,none⟩=some (.int .i64 px)∧wj.cell? ⟨w9.heap.size,1,none⟩=some (.int .i64 py)∧wj.cell? ⟨w9.heap.size,2,none⟩=some (.int .i64 pz):=⟨(HB.cell (p:=⟨w9.heap.size,0,none⟩) (pl)).trans p0,(HB.cell (p:=⟨w9.heap.size,1,none⟩) (pl)).trans p1,(HB.cell (p:=⟨w9.heap.size,2,none⟩) (pl)).trans p2⟩;refine norm_ (a':=?_) ?_ ?_;rotate_left
   ·simp only[putAll,Act.put,List.setIfInBounds_toArray,List.set_cons_zero,List.set_cons_succ];rfl
   refine one_ (i:=15) (N:=some 17) (MB_ 17 65535) rfl rfl (by kernel_rfl) (by decide) (fun K hK=>?_);refine va_ ?_;have HC:=Lh (ha_new HB.out (.cells #[.slice none 0 0, .slice none 0 0, .slice none 0 0, .int .i64 0] 35));have gC:=HB.size;have hne:=Nat.ne_of_lt (blk_lt HS.out);have HS:=Lh ((Below.heap_alloc _ (.cells #[.slice none 0 0, .slice none 0 0, .slice none 0 0, .int .i64 0] 35) _ (blk_lt HS.out)).trans HS.out);have HB:=Lh (HB.alloc (Nat.le_trans (Nat.le_refl _) HB.size) (.cells #[.slice none 0 0, .slice none 0 0, .slice none 0 0, .int .i64 0] 35));refine hK.out _ _ ⟨(HB.cell (p:=⟨w9.heap.size,0,none⟩) (pl)).trans p0,(HB.cell (p:=⟨w9.heap.size,1,none⟩) (pl)).trans p1,(HB.cell (p:=⟨w9.heap.size,2,none⟩) (pl)).trans p2⟩ (fun hE=>?_);clear hK K;refine norm_ (a':=?_) ?_ ?_;rotate_left
   ·show Act.put _ (some 17) _=_;simp only[Act.put,List.setIfInBounds_toArray,List.set_cons_zero,List.set_cons_succ,i64_w,i32_w];rfl
   exact nw_ (hJ6_13_15 (_,_) _ ⟨gS,HS.out,gC,HC.out,hne,HB.out⟩)
 rintro⟨AS,AC⟩ wj ⟨gS,HS,gC,HC,hne,HB⟩
 (try simp only at gS HS gC HC hne HB)
 have HS:=Lh HS;have HC:=Lh HC;have HB:=Lh HB;have hE:wj.cell? ⟨w9.heap.size,0,none⟩=some (.int .i64 px)∧wj.cell? ⟨w9.heap.size,1,none⟩=some (.int .i64 py)∧wj.cell? ⟨w9.heap.size,2,none⟩=some (.int .i64 pz):=⟨(HB.cell (p:=⟨w9.heap.size,0,none⟩) (pl)).trans p0,(HB.cell (p:=⟨w9.heap.size,1,none⟩) (pl)).trans p1,(HB.cell (p:=⟨w9.heap.size,2,none⟩) (pl)).trans p2⟩;refine norm_ (a':=?_) ?_ ?_;rotate_left
 ·simp only[putAll,Act.put,List.setIfInBounds_toArray,List.set_cons_zero,List.set_cons_succ];rfl
 refine one_ (i:=16) (N:=none) (MB_ 17 131071) rfl rfl (by kernel_rfl) (by decide) (fun K hK=>?_);have sc0:World.cell? _ ⟨AC,0,none⟩=some (.slice none 0 0):=(blk_cell HC.out 0).trans rfl;have sf0:World.frozen? _ ⟨AC,0,none⟩=false:=blk_frozen HC.out 0;have sc1:World.cell? _ ⟨AC,1,none⟩=some (.slice none 0 0):=(blk_cell HC.out 1).trans rfl;have sf1:World.frozen? _ ⟨AC,1,none⟩=false:=blk_frozen HC.out 1;have sc2:World.cell? _ ⟨AC,2,none⟩=some (.slice none 0 0):=(blk_cell HC.out 2).trans rfl;have sf2:World.frozen? _ ⟨AC,2,none⟩=false:=blk_frozen HC.out 2;have sc3:World.cell? _ ⟨AC,3,none⟩=some (.int .i64 0):=(blk_cell HC.out 3).trans rfl;have sf3:World.frozen? _ ⟨AC,3,none⟩=false:=blk_frozen HC.out 3;refine skip_ (w1:=?_) (by rfl) rfl ?_ ?_;rotate_left
 ·go_simp;rfl
 have HS:=Lh ((bo4 (hne) (.slice (some ⟨AS,0,none⟩) 1 1) (.slice none 0 0) (.slice none 0 0) (.int .i64 5)).trans HS.out);have HC:=Lh (bs4 HC.out (.slice (some ⟨AS,0,none⟩) 1 1) (.slice none 0 0) (.slice none 0 0) (.int .i64 5));have HB:=Lh (bb4 HB.out (show w10.heap.size≤AC from gC) (.slice (some ⟨AS,0,none⟩) 1 1) (.slice none 0 0) (.slice none 0 0) (.int .i64 5));clear sc0 sf0 sc1 sf1 sc2 sf2 sc3 sf3;refine hK.out _ _ ⟨(HB.cell (p:=⟨w9.heap.size,0,none⟩) (pl)).trans p0,(HB.cell (p:=⟨w9.heap.size,1,none⟩) (pl)).trans p1,(HB.cell (p:=⟨w9.heap.size,2,none⟩) (pl)).trans p2⟩ (fun hE=>?_);clear hK K;refine done_ (by kernel_rfl) ?_;obtain⟨wy,hwn⟩:=nm_ (((((wj.setCell ⟨AC,0,none⟩ (.slice (some ⟨AS,0,none⟩) 1 1)).setCell ⟨AC,1,none⟩ (.slice none 0 0)).setCell ⟨AC,2,none⟩ (.slice none 0 0)).setCell ⟨AC,3,none⟩ (.int .i64 5)));rw[hwn]at HC HS HB⊢;rw[EW.out]at HS;have hb:=HB.out;have HCC:=HC;have HSS:=HS;replace HPA:=up_ hb HPA;replace HPB:=up_ hb HPB;replace WK:=up_ hb WK;replace HP:=up_ hb HP;replace W:=Lh (bthen W.out hb);clear hwn hE HB HC HS hb gC gS hne EW HPK p0 p1 p2 pl
 go_upto_region 11 with fail
 obtain⟨x0,x1,x2,xl⟩:=f3_ w3.heap.size HPA.out;obtain⟨k0,k1,k2,kl⟩:=f3_ (w3.heap.size+1) HPB.out;obtain⟨c0,c1,c2,c3,cl⟩:=f4_ AC HCC.out;go_wp2_with fail;have bz:=((Below.refl wy.heap.size wy).alloc (Nat.le_refl _) (.cells #[.slice (some ⟨AS,0,none⟩) 1 1, .slice none 0 0, .slice none 0 0, .int .i64 5] 35));have nz0:=heap_alloc_new wy (.cells #[.slice (some ⟨AS,0,none⟩) 1 1, .slice none 0 0, .slice none 0 0, .int .i64 5] 35);obtain⟨w11,hwz⟩:=nm_ ((wy.alloc (.cells #[.slice (some ⟨AS,0,none⟩) 1 1, .slice none 0 0, .slice none 0 0, .int .i64 5] 35)));rw[hwz]at bz nz0⊢;replace HPA:=up_ bz HPA;replace HPB:=up_ bz HPB;replace WK:=up_ bz WK;replace HCC:=up_ bz HCC;replace HSS:=up_ bz HSS;replace W:=Lh (bthen W.out bz);have LL:=Lh nz0;clear hwz bz nz0 x0 x1 x2 xl k0 k1 k2 kl c0 c1 c2 c3 cl;have cw:CrV w11 (.agg #[.slice (some ⟨AS,0,none⟩) 1 1, .slice none 0 0, .slice none 0 0, .int .i64 5]) ⟨[⟨px-ra-9-qk,py,pz⟩],[],[],5⟩:=ball_core w11 _ (px-ra-9-qk) py pz 5 1 (Nat.le_refl _) HSS.out;have hl:=RdC_one LL.out cw rfl;clear LL cw
 with_reducible refine(HH2.out _ w11 _ _ hl).mono ?_
 rintro en w12 ⟨rfl,hb⟩;replace HPA:=up_ hb HPA;replace HPB:=up_ hb HPB;replace WK:=up_ hb WK;replace HCC:=up_ hb HCC;replace HSS:=up_ hb HSS;replace W:=Lh (bthen W.out hb);clear hl HH2;clear hb
 go_upto_region 12 with fail
 have bz:=((Below.refl w12.heap.size w12).alloc (Nat.le_refl _) (.cells #[.int .i64 (ax+qv), .int .i64 ay, .int .i64 az] 27));have nz0:=heap_alloc_new w12 (.cells #[.int .i64 (ax+qv), .int .i64 ay, .int .i64 az] 27);obtain⟨w13,hwz⟩:=nm_ ((w12.alloc (.cells #[.int .i64 (ax+qv), .int .i64 ay, .int .i64 az] 27)));rw[hwz]at bz nz0⊢;replace HPA:=up_ bz HPA;replace HPB:=up_ bz HPB;replace WK:=up_ bz WK;replace HCC:=up_ bz HCC;replace HSS:=up_ bz HSS;replace W:=Lh (bthen W.out bz);have O2:=Lh nz0;clear hwz bz nz0;obtain⟨o0,o1,o2,ol⟩:=f3_ w12.heap.size O2.out;obtain⟨k0,k1,k2,kl⟩:=f3_ (w3.heap.size+1) HPB.out;obtain⟨u0,ul⟩:=f1_ w4.heap.size WK.out;go_wp2
 go_ret
 exact⟨rfl,W.out⟩
end Go.Proofs.YtckdhahceelckaaGreat.G
