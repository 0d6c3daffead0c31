/- What the laws of this claim lean on: contracts of functions and plain lemmas; no condition of its own (part 22: XV1, XR14, XR15, XV2, XV3, XV4, XG15, XG9, XV5, XV6, XM1, XV9). -/
import Derived.Test.YtckdhahceelckaaGreatKQ21
set_option maxHeartbeats 16000000
set_option maxRecDepth 100000
set_option linter.unusedVariables false
set_option linter.unusedSimpArgs false
namespace Go.Proofs.YtckdhahceelckaaGreat.G
open Go.RowKit Go.Proofs.YtckdhahceelckaaGreatW.PrintWords Go.Proofs.YtckdhahceelckaaGreatW.PrintLast Go.Proofs.YtckdhahceelckaaGreatW.PrintMore
attribute [local go_sem] max2_mx min2_mn max_two min_two max_three min_three max_four min_four
attribute [local go_sem high] eqA23
/-- is it nought? -/
def isz (p:P3):Bool:=eqP p.x p.y p.z 0 0 0
theorem with1_calls (x y z:Int)(w:World):Calls Tryz.prog 128 #[.agg #[.int .i64 x, .int .i64 y, .int .i64 z]] w fun e w'=>e= .returned (.bool (isz ⟨x,y,z⟩))∧Below w.heap.size w w':=by
 go_enter Tryz.func128,Tryz.ntmps128;go_wp2
 go_ret
 exact⟨rfl,(Below.refl _ w).alloc (Nat.le_refl _) _⟩
def idx0 (l:List P3):Int:=match l.findIdx? isz with|some k=>k|none=> -1
theorem idx0_some {l:List P3}{k:Nat}(h:l.findIdx? isz=some k):idx0 l=k:=by unfold idx0;rw[h]
theorem idx0_none {l:List P3}(h:l.findIdx? isz=none):idx0 l= -1:=by unfold idx0;rw[h]
theorem index0_calls (l:List P3)(A:Option Addr)(c:Nat)(w:World)(hr:Rd w A l)(hc:l.length≤c)(hm:l.length<9223372036854775807):
  Calls Tryz.prog 143 #[.slice A l.length c, .func (.func 128) #[] #[]] w fun e w'=>e= .returned (.int .i64 (idx0 l))∧Below w.heap.size w w':=by
 have HR:=Lh hr;clear hr;go_enter Tryz.func143,Tryz.ntmps143;go_wp2;go_loopw [5,8] (fun v5 v8 wr=>∃k:Nat,k≤l.length∧v8= .int .i64 k∧Hid (∀i,i<k→∀p,l[i]?=some p→isz p=false)∧Below w.heap.size w wr) (fun _ i _=>l.length-(intOf i).toNat)
 case atStart=>exact⟨0,Nat.zero_le _,rfl,fun i hi=>absurd hi (by omega),Below.refl _ _⟩
 case round=>
  obtain⟨k,hk,rfl,hno,hbr⟩:=hrel;by_cases hlt:k<l.length
  ·obtain⟨b,o,rfl,hbl,h1,h2,h3⟩:=HR.out.get k hlt;have e1:=(hbr.cell (p:=⟨b,o+k*3,none⟩) hbl).trans h1;have e2:=(hbr.cell (p:=⟨b,o+k*3+1,none⟩) hbl).trans h2;have e3:=(hbr.cell (p:=⟨b,o+k*3+2,none⟩) hbl).trans h3;clear h1 h2 h3;obtain⟨p,hp⟩:=nm_ (l[k]);rw[hp]at e1 e2 e3;have HP:=Lh hp;clear hp;obtain⟨px,py,pz⟩:=p;dsimp only at e1 e2 e3
   cases hf:isz ⟨px,py,pz⟩with
   |true=>
    go_wp2_with(go_at_call 128;refine(with1_calls _ _ _ _).mono ?_;rintro e w3 ⟨rfl,hb3⟩;rw[hf])
    go_ret
    refine⟨ret_int ?_,bthen hbr hb3⟩;have:l.findIdx? isz=some k:=by
     rw[List.findIdx?_eq_some_iff_getElem];refine⟨hlt,by rw[HP.out];exact hf,fun j hj=>?_⟩;rw[hno.out j hj _ (List.getElem?_eq_getElem (by omega))];simp
    exact(idx0_some this).symm
   |false=>
    go_wp2_with(go_at_call 128;refine(with1_calls _ _ _ _).mono ?_;rintro e w3 ⟨rfl,hb3⟩;rw[hf])
    go_roundw
    case rel=>
     refine⟨k+1,by omega,by go_num,fun i hi p' hp'=>?_,bthen hbr hb3⟩;by_cases e:i=k
     ·subst e;rw[List.getElem?_eq_getElem hlt,HP.out]at hp';cases hp';exact hf
     ·exact hno.out i (by omega) p' hp'
    case measure=>simp[intOf];omega
  ·obtain rfl:k=l.length:=by omega
   go_wp2
   go_ret
   refine⟨ret_int ?_,hbr⟩;have:l.findIdx? isz=none:=by
    rw[List.findIdx?_eq_none_iff];intro p hp;obtain⟨i,hi,rfl⟩:=List.mem_iff_getElem.1 hp;exact hno.out i hi _ (List.getElem?_eq_getElem hi)
   exact(idx0_none this).symm
theorem RdB.set4' {w:World}{A:Option Addr}{l:List P3}(h:RdB w A l){g:Nat}(hne:∀ad,A=some ad→ad.block≠g)(x y z u:Value):RdB (set4 w g x y z u) A l:=
 h.blk (by simp) fun ad e _=>heap_set4 w g ad.block (hne ad e) x y z u
/-- the state of Apart's loop: two cores, the answer's block, the best so far, the candidates -/
structure ASt (w W:World) (ca cb:Array Value) (OB:Nat) (o:P3×Int) (A:Option Addr) (C:List P3):Prop where
 below:Below w.heap.size w W
 z0:W.heap[w.heap.size]?=some (.cells ca 35 (0,0))
 z1:W.heap[w.heap.size+1]?=some (.cells cb 35 (0,0))
 z2:W.heap[w.heap.size+2]?=some (.cells #[.int .i64 0, .int .i64 0, .int .i64 0, .int .i64 0] 60 (0,0))
 ob:W.heap[OB]?=some (.cells #[.int .i64 o.1.x, .int .i64 o.1.y, .int .i64 o.1.z, .int .i64 o.2] 60 (0,0))
 rd:RdB W A C
 lo:w.heap.size+2<OB
 ne:∀ad,A=some ad→ad.block≠OB
theorem ASt.then {w W V:World}{ca cb:Array Value}{OB:Nat}{o:P3×Int}{A:Option Addr}{C:List P3}(h:ASt w W ca cb OB o A C)(hb:Below W.heap.size W V):ASt w V ca cb OB o A C:=
 ⟨bthen h.below hb,(hb.block _ (blk_lt h.z0)).trans h.z0,(hb.block _ (blk_lt h.z1)).trans h.z1,(hb.block _ (blk_lt h.z2)).trans h.z2,(hb.block _ (blk_lt h.ob)).trans h.ob,h.rd.below hb,h.lo,h.ne⟩
theorem ASt.put {w W:World}{ca cb:Array Value}{OB:Nat}{o:P3×Int}{A:Option Addr}{C:List P3}(h:ASt w W ca cb OB o A C)(x y z g:Int):ASt w (set4 W OB (.int .i64 x) (.int .i64 y) (.int .i64 z) (.int .i64 g)) ca cb OB (⟨x,y,z⟩,g) A C:=by
 have lo:=h.lo;exact⟨below_set4 h.below (by omega) _ _ _ _,(heap_set4 W OB _ (by omega) _ _ _ _).trans h.z0,(heap_set4 W OB _ (by omega) _ _ _ _).trans h.z1,(heap_set4 W OB _ (by omega) _ _ _ _).trans h.z2,blk4_set h.ob _ _ _ _,h.rd.set4' h.ne _ _ _ _,h.lo,h.ne⟩
theorem apart_noa (v0 v1 v2 v3 u0 u1 u2 u3:Value)(w:World)(ha:MaySays w (.agg #[v0,v1,v2,v3]) false):
  Calls Tryz.prog 19 #[.agg #[v0,v1,v2,v3], .agg #[u0,u1,u2,u3]] w fun e w'=>e= .returned (.tuple #[.agg #[.int .i64 0, .int .i64 0, .int .i64 0, .int .i64 0], .bool false])∧Below w.heap.size w w':=by
 have HA:=Lh ha;clear ha;have Hb0:=three1 w (.cells #[v0,v1,v2,v3] 35) (.cells #[u0,u1,u2,u3] 35) (.cells #[.int .i64 0, .int .i64 0, .int .i64 0, .int .i64 0] 60);have Hr0:=three2 w (.cells #[v0,v1,v2,v3] 35) (.cells #[u0,u1,u2,u3] 35) (.cells #[.int .i64 0, .int .i64 0, .int .i64 0, .int .i64 0] 60);have HW3:Below w.heap.size w (((w.alloc (.cells #[v0,v1,v2,v3] 35)).alloc (.cells #[u0,u1,u2,u3] 35)).alloc (.cells #[.int .i64 0, .int .i64 0, .int .i64 0, .int .i64 0] 60)):=(((Below.refl _ w).alloc (Nat.le_refl _) _).alloc (by simp) _).alloc (by simp;omega) _;have HB0:=Lh Hb0;have HR0:=Lh Hr0;clear Hb0 Hr0;go_enter Tryz.func19,Tryz.ntmps19;go_wp2_with fail;obtain⟨w3,hw3⟩:=nm_ (((w.alloc (.cells #[v0,v1,v2,v3] 35)).alloc (.cells #[u0,u1,u2,u3] 35)).alloc (.cells #[.int .i64 0, .int .i64 0, .int .i64 0, .int .i64 0] 60));rw[hw3]at HB0 HR0 HW3⊢;clear hw3;refine(HA.out _ HW3).mono ?_;rintro e w4 ⟨rfl,hb4⟩;have Hr4:=(hb4.block _ (blk_lt HR0.out)).trans HR0.out;have HW4:=bthen HW3 hb4;clear HB0 HR0 HW3 hb4;obtain⟨v0,v1,v2,v3,_⟩:=f4_ (w.heap.size+1+1) Hr4;obtain⟨f0,f1,f2,f3⟩:=z4_ (w.heap.size+1+1) Hr4;obtain⟨V,hV⟩:=nm_ (set4 w4 (w.heap.size+1+1) (.int .i64 0) (.int .i64 0) (.int .i64 0) (.int .i64 0));have HV:V.heap[w.heap.size+1+1]?=some (.cells #[.int .i64 0, .int .i64 0, .int .i64 0, .int .i64 0] 60 (0,0)):=by rw[←hV];exact blk4_set Hr4 _ _ _ _
 have HBV:Below w.heap.size w V:=by rw[←hV];exact below_set4 HW4 (by omega) _ _ _ _
 obtain⟨t0,t1,t2,t3,_⟩:=f4_ (w.heap.size+1+1) HV;go_wp2
 (try rw[hV])
 exact bodyPost_ret (v:= .tuple #[.agg #[.int .i64 0, .int .i64 0, .int .i64 0, .int .i64 0], .bool false]) (by simp[results,Tryz.results19,go_sem,t0,t1,t2,t3]) rfl ⟨rfl,HBV⟩
/-- Apart's whole answer -/
def apartS (p a e:List P3)(r:Int)(q b f:List P3)(s:Int):(P3×Int)×Bool:=if(mayF p a e r&&mayF q b f s)=true then(apartF p a e r q b f s,true)else((⟨0,0,0⟩,0),false)
theorem apart_all {w:World}{v u:Value}{p a e:List P3}{r:Int}{q b f:List P3}{s:Int}(hv:CoreV w v p a e r)(hu:CoreV w u q b f s)(R:(P3×Int)×Bool)(hR:apartS p a e r q b f s=R):
  Calls Tryz.prog 19 #[v,u] w fun en w'=>en= .returned (.tuple #[.agg #[.int .i64 R.1.1.x, .int .i64 R.1.1.y, .int .i64 R.1.1.z, .int .i64 R.1.2], .bool R.2])∧Below w.heap.size w w':=by
 subst hR;have ha:=may_all hv;have hb:=may_all hu;obtain⟨A0,A1,A2,c0,c1,c2,hve,_⟩:=hv.out;obtain⟨B0,B1,B2,d0,d1,d2,hue,_⟩:=hu.out;unfold apartS
 cases h1:mayF p a e r with
 |false=>
  rw[h1]at ha;subst hve hue
  exact apart_noa _ _ _ _ _ _ _ _ w ha
 |true=>
  cases h2:mayF q b f s with
  |false=>
   rw[h1]at ha;rw[h2]at hb;subst hve hue
   exact apart_nob _ _ _ _ _ _ _ _ w ha hb
  |true=>exact apart_calls p a e r q b f s v u w hv hu ((mayF_iff p a e r).1 h1) ((mayF_iff q b f s).1 h2) _ rfl
theorem scross_calls (x y z a b c:Int)(w:World):
  Calls Tryz.prog 81 #[.agg #[.int .i64 x, .int .i64 y, .int .i64 z], .agg #[.int .i64 a, .int .i64 b, .int .i64 c]] w fun e w'=>e= .returned (.agg #[.int .i64 (cross3 ⟨x,y,z⟩ ⟨a,b,c⟩).x, .int .i64 (cross3 ⟨x,y,z⟩ ⟨a,b,c⟩).y, .int .i64 (cross3 ⟨x,y,z⟩ ⟨a,b,c⟩).z])∧Below w.heap.size w w':=by
 go_enter Tryz.func81,Tryz.ntmps81;go_wp2;exact bodyPost_ret (v:= .agg #[.int .i64 (cross3 ⟨x,y,z⟩ ⟨a,b,c⟩).x, .int .i64 (cross3 ⟨x,y,z⟩ ⟨a,b,c⟩).y, .int .i64 (cross3 ⟨x,y,z⟩ ⟨a,b,c⟩).z]) (by simp[results,Tryz.results81,go_sem,cross3]) rfl ⟨rfl,(by repeat (first|exact Below.refl _ _|refine Below.setCell ?_ (by simp<;>omega) _|refine Below.alloc ?_ (by simp<;>omega) _|refine Below.drew ?_))⟩
theorem clip_calls (A:Option Addr)(n c:Nat)(w:World)(hc:n≤c)(hm:n<9223372036854775807)(ha:A=none→n=0):Calls Tryz.prog 129 #[.slice A n c] w fun e w'=>e= .returned (.slice A n n)∧w'=w:=by
 go_enter Tryz.func129,Tryz.ntmps129;go_wp2
 go_ret
 exact⟨rfl,rfl⟩
end Go.Proofs.YtckdhahceelckaaGreat.G
namespace Go.Proofs.YtckdhahceelckaaGreat.G
open Go.RowKit Go.Proofs.YtckdhahceelckaaGreatW.PrintWords Go.Proofs.YtckdhahceelckaaGreatW.PrintLast Go.Proofs.YtckdhahceelckaaGreatW.PrintMore
theorem cells3_cons (p:P3)(l:List P3):cells3 (p::l)= .int .i64 p.x:: .int .i64 p.y:: .int .i64 p.z::cells3 l:=by
 unfold cells3;simp
theorem cells3_set (l:List P3)(i:Nat)(h:i<l.length)(p:P3):(((cells3 l).set (i*3) (.int .i64 p.x)).set (i*3+1) (.int .i64 p.y)).set (i*3+2) (.int .i64 p.z)=cells3 (l.set i p):=by
 induction l generalizing i with
 |nil=>simp at h
 |cons q l ih=>
  cases i with
  |zero=>rw[List.set_cons_zero,cells3_cons,cells3_cons];simp
  |succ i=>
   rw[List.set_cons_succ,cells3_cons,cells3_cons,←ih i (by simpa using h)];have e0:(i+1)*3=i*3+3:=by omega
   rw[e0];simp
theorem OwnP.setAt {w:World}{base g n c:Nat}{l:List P3}(h:OwnP w base (.slice (some ⟨g,0,none⟩) n c) l)(i:Nat)(hi:i<l.length)(p:P3):
  OwnP (((w.setCell ⟨g,i*3,none⟩ (.int .i64 p.x)).setCell ⟨g,i*3+1,none⟩ (.int .i64 p.y)).setCell ⟨g,i*3+2,none⟩ (.int .i64 p.z)) base (.slice (some ⟨g,0,none⟩) n c) (l.set i p):=by
 obtain⟨hx,h2⟩:=h;rcases h2 with⟨e,_⟩|⟨g',cap,cur,e,hb,hg,hnc,hm,hsz,ht⟩
 ·cases e
 ·have e2:=e;injection e2 with e3 e4 e5
  injection e3 with e3
  injection e3 with e3
  subst e3;subst e5;have b:=blk_set (blk_set (blk_set hg (i*3) (.int .i64 p.x)) (i*3+1) (.int .i64 p.y)) (i*3+2) (.int .i64 p.z);refine⟨?_, .inr ⟨g,c,_,?_,hb,b,?_,hm,by simpa using hsz,?_⟩⟩
  ·show(cells3 (l.set i p)).length=_;rw[cells3_length,List.length_set]
  ·rw[e4,List.length_set]
  ·rw[List.length_set];exact hnc
  ·rw[List.length_set];simp only[Array.toList_setIfInBounds,List.take_set];rw[ht];exact cells3_set l i hi p
theorem OwnP.cut {w:World}{base g n c:Nat}{l:List P3}(h:OwnP w base (.slice (some ⟨g,0,none⟩) n c) l)(i:Nat)(hi:i≤l.length):OwnP w base (.slice (some ⟨g,0,none⟩) i c) (l.take i):=by
 obtain⟨hx,h2⟩:=h;rcases h2 with⟨e,_⟩|⟨g',cap,cur,e,hb,hg,hnc,hm,hsz,ht⟩
 ·cases e
 ·have e2:=e;injection e2 with e3 e4 e5
  injection e3 with e3
  injection e3 with e3
  subst e3;subst e5;have el:(l.take i).length=i:=by rw[List.length_take];omega
  refine⟨?_, .inr ⟨g,c,cur,?_,hb,hg,?_,hm,hsz,?_⟩⟩
  ·show(cells3 (l.take i)).length=_;rw[cells3_length]
  ·rw[el]
  ·rw[el];omega
  ·rw[el];have t:=congrArg (List.take (i*3)) ht;rw[List.take_take,Nat.min_eq_left (by omega)]at t;rw[t];have ca:cells3 l=cells3 (l.take i)++cells3 (l.drop i):=by rw[←cells3_append,List.take_append_drop]
   show List.take (i*3) (cells3 l)=cells3 (l.take i);rw[ca,List.take_append_of_le_length (by rw[cells3_length,el];exact Nat.le_refl _),List.take_of_length_le (by rw[cells3_length,el];exact Nat.le_refl _)]
theorem OwnP.setAbove {w:World}{base g n c:Nat}{l:List P3}(h:OwnP w base (.slice (some ⟨g,0,none⟩) n c) l)(o:Nat)(ho:l.length*3≤o)(u:Value):OwnP (w.setCell ⟨g,o,none⟩ u) base (.slice (some ⟨g,0,none⟩) n c) l:=by
 obtain⟨hx,h2⟩:=h;rcases h2 with⟨e,_⟩|⟨g',cap,cur,e,hb,hg,hnc,hm,hsz,ht⟩
 ·cases e
 ·have e2:=e;injection e2 with e3 e4 e5
  injection e3 with e3
  injection e3 with e3
  subst e3;refine⟨hx, .inr ⟨g,cap,_,e,hb,blk_set hg o u,hnc,hm,by simpa using hsz,?_⟩⟩;simp only[Array.toList_setIfInBounds];rw[List.take_set_of_le ho];exact ht
theorem OwnP.setsAbove {base g n c:Nat}{l:List P3}(vs:List Value):∀(w:World) (o:Nat),l.length*3≤o→OwnP w base (.slice (some ⟨g,0,none⟩) n c) l→OwnP (w.setCells g o vs) base (.slice (some ⟨g,0,none⟩) n c) l∧w.grownBy (w.setCells g o vs) (some g):=by
 induction vs with
 |nil=>intro w o _ h;exact⟨h,gb_refl _ _⟩
 |cons v r ih=>
  intro w o ho h;obtain⟨h1,h2⟩:=ih (w.setCell ⟨g,o,none⟩ v) (o+1) (by omega) (h.setAbove o ho v);refine⟨h1,?_⟩;have g1:=gb_set (gb_refl w (some g)) o v;exact⟨h2.os.trans g1.os,h2.tape.trans g1.tape,h2.output.trans g1.output,Nat.le_trans g1.size h2.size,fun j hj hk=>(h2.block j (Nat.lt_of_lt_of_le hj g1.size) hk).trans (g1.block j hj hk)⟩
theorem zero23 (w:World):(zeroValue 23).run Tryz.prog w= .ok (.agg #[.int .i64 0, .int .i64 0, .int .i64 0]) w:=by
 go_simp
theorem run_clear_pts (w:World)(base g n c i cc:Nat)(ty:TypeId)(l:List P3)(h:OwnP w base (.slice (some ⟨g,0,none⟩) n c) l)(hi:i<n):
  ∃w',(Builtin.clear_ #[24] ty #[.slice (some ⟨g,i*3,none⟩) (n-i) cc]).run Tryz.prog w= .ok (.tuple #[]) w'∧OwnP w' base (.slice (some ⟨g,0,none⟩) i c) (l.take i)∧w.grownBy w' (some g):=by
 have hc:=h;obtain⟨hx,h2⟩:=h;rcases h2 with⟨e,_⟩|⟨g',cap,cur,e,hb,hg,hnc,hm,hsz,ht⟩
 ·cases e
 ·have e2:=e;injection e2 with e3 e4 e5
  injection e3 with e3
  injection e3 with e3
  subst e3;have hcut:=hc.cut i (by omega);have el:(l.take i).length=i:=by rw[List.length_take];omega
  obtain⟨zs,hzs⟩:=nm_ ((Builtin.zeroCells #[.int .i64 0, .int .i64 0, .int .i64 0] (n-i)).toList);have zl:zs.length=(n-i)*3:=by rw[←hzs];simp[Builtin.zeroCells]
  have z1:∀v∈zs,v.oneCell'=true:=by
   intro v hv;rw[←hzs]at hv;simp only[Builtin.zeroCells,Array.toList_map,List.mem_map]at hv;obtain⟨k,_,rfl⟩:=hv;have:k%3=0∨k%3=1∨k%3=2:=by omega
   show(#[Value.int .i64 0,Value.int .i64 0,Value.int .i64 0][k%3]!).oneCell'=true;rcases this with h|h|h<;>rw[h]<;>rfl
  have hst:=run_storeCells_cells (P:=Tryz.prog) g (i*3) zs 0 w (fun j hj=>by
   rw[blk_cell hg]
   have:i*3+j<cur.size:=by
    have:=Nat.mul_le_mul_right 3 hnc
    rw[zl]at hj
    omega
   simp[this]) (fun j hj=>blk_frozen hg _) z1
  simp only[Nat.add_zero]at hst;obtain⟨o1,o2⟩:=OwnP.setsAbove zs w (i*3) (by rw[el];exact Nat.le_refl _) hcut;refine⟨w.setCells g (i*3) zs,?_,o1,o2⟩;obtain⟨m,hm'⟩:∃m,n-i=m+1:=⟨n-i-1,by omega⟩;rw[hm']at hzs⊢;have hcz:(Value.agg #[.int .i64 0, .int .i64 0, .int .i64 0]).cells=#[.int .i64 0, .int .i64 0, .int .i64 0]:=by simp[Value.cells]
  simp[Builtin.clear_,run_underlying Tryz.underlying24,zero23,hcz,hzs,hst]
end Go.Proofs.YtckdhahceelckaaGreat.G
namespace Go.Proofs.YtckdhahceelckaaGreat.G
open Go.RowKit Go.Proofs.YtckdhahceelckaaGreatW.PrintWords
/-- moved by grains -/
def plusI (y x:P3):P3:=⟨x.x+y.x,x.y+y.y,x.z+y.z⟩
theorem plusI_in {y x:P3}(hy:in3 1048576 y)(hx:in3 8388608 x):in3 16777216 (plusI y x):=by unfold in3 plusI at*;simp only;omega
theorem MayP.moved {p a e:List P3}{r:Int}(m:MayP p a e r){y:P3}(hy:in3 1048576 y)(hp:∀x∈p,in3 8388608 x):MayP (p.map (plusI y)) a e r where
 p0:=by have:=m.p0;simpa using this
 p1:=by rw[List.length_map];exact m.p1
 a1:=m.a1
 e1:=m.e1
 r0:=m.r0
 r1:=m.r1
 pf:=by
  rw[List.any_eq_false];intro x hx;obtain⟨z,hz,rfl⟩:=List.mem_map.1 hx;rw[(far3_iff _ _ (by decide) (by decide)).2 (plusI_in hy (hp z hz))];decide
 af:=m.af
 ef:=m.ef
theorem far_in {n:Int}(h0:0≤n)(h1:n≤9223372036854775807){l:List P3}(h:l.any (far3 n)=false):∀x∈l,in3 n x:=by
 intro x hx;rw[List.any_eq_false]at h;have:=h x hx;exact(far3_iff n x h0 h1).1 (by simpa using this)
theorem MayP.pts {p a e:List P3}{r:Int}(m:MayP p a e r):∃p0 pr,p=p0::pr∧∀x∈p0::pr,in3 16777216 x:=by
 obtain⟨p0,pr,rfl⟩:=List.exists_cons_of_ne_nil m.p0;exact⟨p0,pr,rfl,far_in (by decide) (by decide) m.pf⟩
end Go.Proofs.YtckdhahceelckaaGreat.G
namespace Go.Proofs.YtckdhahceelckaaGreat.G
open Go.RowKit Go.Proofs.YtckdhahceelckaaGreatW.PrintWords Go.Proofs.YtckdhahceelckaaGreatW.PrintLast Go.Proofs.YtckdhahceelckaaGreatW.PrintMore
attribute [local go_sem] max2_mx min2_mn max_two min_two max_three min_three max_four min_four
attribute [local go_sem high] eqA23
theorem gb_trans {w w1 w2:World}{k:Option Nat}(h:w.grownBy w1 k)(h2:w1.grownBy w2 k):w.grownBy w2 k:=
 ⟨h2.os.trans h.os,h2.tape.trans h.tape,h2.output.trans h.output,Nat.le_trans h.size h2.size,fun j hj hk=>(h2.block j (Nat.lt_of_lt_of_le hj h.size) hk).trans (h.block j hj hk)⟩
def nz (p:P3):Bool:= !isz p
theorem filter_keep (l lst:List P3)(i j:Nat)(hj:j<l.length)(hij:i<j)(hlen:lst.length=l.length)(ht:lst.take i=(l.take j).filter nz)(hd:lst.drop j=l.drop j)(h:isz l[j]=false):
  (lst.set i l[j]).take (i+1)=(l.take (j+1)).filter nz∧(lst.set i l[j]).drop (j+1)=l.drop (j+1):=by
 constructor
 ·rw[List.take_succ_eq_append_getElem hj,List.filter_append,←ht,List.take_succ_eq_append_getElem (by rw[List.length_set];omega),List.getElem_set_self,List.take_set_of_le (Nat.le_refl _)];simp[nz,h]
 ·rw[List.drop_set_of_lt (by omega)];have:=congrArg (List.drop 1) hd
  rwa [List.drop_drop,List.drop_drop]at this
theorem filter_drop (l lst:List P3)(i j:Nat)(hj:j<l.length)(ht:lst.take i=(l.take j).filter nz)(hd:lst.drop j=l.drop j)(h:isz l[j]=true):
  lst.take i=(l.take (j+1)).filter nz∧lst.drop (j+1)=l.drop (j+1):=by
 constructor
 ·rw[List.take_succ_eq_append_getElem hj,List.filter_append,←ht];simp[nz,h]
 ·have:=congrArg (List.drop 1) hd
  rwa [List.drop_drop,List.drop_drop]at this
theorem OwnP.fz {w:World}{base g n c:Nat}{l:List P3}(h:OwnP w base (.slice (some ⟨g,0,none⟩) n c) l):(∀o,w.frozen? ⟨g,o,none⟩=false)∧g<w.heap.size∧base≤g∧n=l.length∧n≤c∧c≤maxLen:=by
 obtain⟨hx,h2⟩:=h;rcases h2 with⟨e,_⟩|⟨g',cap,cur,e,hb,hg,hnc,hm,hsz,ht⟩
 ·cases e
 ·have e2:=e;injection e2 with e3 e4 e5
  injection e3 with e3
  injection e3 with e3
  subst e3;exact⟨fun o=>blk_frozen hg o,blk_lt hg,hb,e4,by omega,by omega⟩
theorem OwnP.at3 {w:World}{base g n c:Nat}{l:List P3}(h:OwnP w base (.slice (some ⟨g,0,none⟩) n c) l)(i:Nat)(hi:i<l.length):w.cell? ⟨g,i*3,none⟩=some (.int .i64 l[i].x)∧w.cell? ⟨g,i*3+1,none⟩=some (.int .i64 l[i].y)∧w.cell? ⟨g,i*3+2,none⟩=some (.int .i64 l[i].z):=by
 obtain⟨A',c',eA,_,hr,_⟩:=OwnP.rd h;injection eA with eA1 eA2 eA3
 subst eA1;obtain⟨b,o,eb,hbl,h1,h2,h3⟩:=hr.get i hi;simp only[Option.some.injEq,Addr.mk.injEq,and_true]at eb;obtain⟨rfl,rfl⟩:=eb;simp only[Nat.zero_add]at h1 h2 h3;exact⟨h1,h2,h3⟩
def DelPost (g c base:Nat)(l:List P3)(w:World)(e:Ending)(w':World):Prop:=∃m,e= .returned (.slice (some ⟨g,0,none⟩) m c)∧OwnP w' base (.slice (some ⟨g,0,none⟩) m c) (l.filter nz)∧w.grownBy w' (some g)
theorem delete_calls (l:List P3)(g n c base:Nat)(w:World)(h:OwnP w base (.slice (some ⟨g,0,none⟩) n c) l)(hl:n≤40000):
  Calls Tryz.prog 127 #[.slice (some ⟨g,0,none⟩) n c, .func (.func 128) #[] #[]] w (DelPost g c base l w):=by
 obtain⟨_,hgl,hbg,hn,hnc,hcm⟩:=h.fz
 have HI:=Lh (index0_calls l (some ⟨g,0,none⟩) c w (by
  obtain⟨A,c',e,_,hr,_⟩:=OwnP.rd h
  injection e with e1 _ _
  rw[e1];exact hr) (by omega) (by omega))
 have HO:=Lh h;rw[←hn]at HI;have HN:=Lh hn;clear h hn;go_enter Tryz.func127,Tryz.ntmps127;go_wp2_with fail
 with_reducible refine HI.out.mono ?_
 rintro e w1 ⟨rfl,hb⟩;have hO1:=HO.grown hb;have hG1:=gb_below (gb_refl w (some g)) hb
 cases hf:l.findIdx? isz with
 |none=>
  rw[idx0_none hf];have hfil:l.filter nz=l:=by
   rw[List.filter_eq_self];intro p hp;rw[List.findIdx?_eq_none_iff]at hf;unfold nz;rw[hf p hp];rfl
  clear HI hb;go_wp2
  go_ret
  exact⟨n,rfl,by rw[hfil];exact hO1,hG1⟩
 |some k=>
  rw[idx0_some hf];rw[List.findIdx?_eq_some_iff_getElem]at hf;obtain⟨hk,hz,hno⟩:=hf;have hst:l.take k=(l.take (k+1)).filter nz:=by
   rw[List.take_succ_eq_append_getElem hk,List.filter_append];have:(l.take k).filter nz=l.take k:=by
    rw[List.filter_eq_self];intro p hp;obtain⟨i,hi,rfl⟩:=List.mem_iff_getElem.1 hp;rw[List.length_take]at hi;rw[List.getElem_take];have:=hno i (by omega);unfold nz;cases e:isz l[i]
    ·rfl
    ·rw[e]at this;simp at this
   rw[this];simp[nz,hz]
  have hO1:=Lh hO1;have hG1:=Lh hG1;have hst:=Lh hst;have hkn:k<n:=by have:=HN.out;omega
  have e1:((k:Int) == -1)=false:=by simp
  clear HI hb hz hno;go_wp2_with fail;go_loopw [5,6] (fun v5 v6 wr=>∃(i j:Nat) (lst:List P3),v5= .int .i64 i∧v6= .int .i64 j∧j≤n∧i<j∧lst.length=n∧Hid (lst.take i=(l.take j).filter nz)∧Hid (lst.drop j=l.drop j)∧Hid (OwnP wr base (.slice (some ⟨g,0,none⟩) n c) lst)∧Hid (w.grownBy wr (some g))) (fun _ j _=>n-(intOf j).toNat)
  case atStart=>exact⟨k,k+1,l,rfl,rfl,Nat.succ_le_of_lt hkn,Nat.lt_succ_self k,HN.out.symm,hst,Lh rfl,hO1,hG1⟩
  case round=>
   clear hO1 hG1 hst;obtain⟨i,j,lst,rfl,rfl,hj,hij,hlen,hT,hD,hO,hG⟩:=hrel;by_cases hlt:j<n
   ·have hjl:j<lst.length:=by omega
    have hjl0:j<l.length:=by rw[←HN.out];exact hlt
    have hel:lst[j]=l[j]:=by
     have:=congrArg (fun t=>t[0]?) hD.out;simpa[List.getElem?_drop,hjl,hjl0]using this
    obtain⟨A',c',eA,_,hr,_⟩:=OwnP.rd hO.out;injection eA with eA1 eA2 eA3
    subst eA1;obtain⟨b,o,eb,hbl,h1,h2,h3⟩:=hr.get j hjl;simp only[Option.some.injEq,Addr.mk.injEq,and_true]at eb;obtain⟨rfl,rfl⟩:=eb;rw[hel]at h1 h2 h3;have HK:=Lh (fun(h:isz l[j]=false)=>filter_keep l lst i j hjl0 hij (by rw[hlen,HN.out]) hT.out hD.out h);have HDR:=Lh (fun(h:isz l[j]=true)=>filter_drop l lst i j hjl0 hT.out hD.out h);have HFZ:=Lh hO.out.fz;obtain⟨p,hp⟩:=nm_ (l[j]);rw[hp]at h1 h2 h3 HK HDR;obtain⟨px,py,pz⟩:=p;simp only[Nat.zero_add]at h1 h2 h3;clear hel eA2 eA3 hr hp
    cases hf:isz ⟨px,py,pz⟩with
    |true=>
     obtain⟨hT2,hD2⟩:=HDR.out hf;have hT2:=Lh hT2;have hD2:=Lh hD2;clear HK HDR;go_wp2_with(go_at_call 128;refine(with1_calls _ _ _ _).mono ?_;rintro e w3 ⟨rfl,hb3⟩;rw[hf])
     go_roundw
     case rel=>exact⟨i,j+1,lst,rfl,by go_num,by omega,by omega,hlen,hT2,hD2,Lh (hO.grown (bthen ((Below.refl _ wr).alloc (Nat.le_refl _) _) hb3)),Lh (gb_below hG.out (bthen ((Below.refl _ wr).alloc (Nat.le_refl _) _) hb3))⟩
     case measure=>simp[intOf];omega
    |false=>
     obtain⟨hT2,hD2⟩:=HK.out hf;have hT2:=Lh hT2;have hD2:=Lh hD2;clear HK HDR;have hli:i<lst.length:=by omega
     go_wp2_with(go_at_call 128;refine(with1_calls _ _ _ _).mono ?_;rintro e w3 ⟨rfl,hb3⟩;rw[hf];have hN3:=(hb3.block wr.heap.size (by simp)).trans (heap_alloc_new wr (.cells #[.int .i64 px, .int .i64 py, .int .i64 pz] 23));have b0:w3.cell? ⟨wr.heap.size,0,none⟩=some (.int .i64 px):=(blk_cell hN3 0).trans rfl;have b1:w3.cell? ⟨wr.heap.size,1,none⟩=some (.int .i64 py):=(blk_cell hN3 1).trans rfl;have b2:w3.cell? ⟨wr.heap.size,2,none⟩=some (.int .i64 pz):=(blk_cell hN3 2).trans rfl;have hW3:=Lh (bthen ((Below.refl _ wr).alloc (Nat.le_refl _) (.cells #[.int .i64 px, .int .i64 py, .int .i64 pz] 23)) hb3);have hO3:=Lh (hO.grown hW3.out);have⟨g0,g1,g2⟩:=hO3.out.at3 i hli;have F0:=hO3.out.fz.1 (i*3);have F1:=hO3.out.fz.1 (i*3+1);have F2:=hO3.out.fz.1 (i*3+2);clear hN3 hb3)
     go_roundw
     case rel=>exact⟨i+1,j+1,lst.set i ⟨px,py,pz⟩,by go_num,by go_num,by omega,by omega,by rw[List.length_set];exact hlen,hT2,hD2,Lh (hO3.out.setAt i hli ⟨px,py,pz⟩),Lh (gb_set (gb_set (gb_set (gb_below hG.out hW3.out) _ _) _ _) _ _)⟩
     case measure=>simp[intOf];omega
   ·obtain rfl:j=n:=by omega
    have hi:(i:Int)≤(j:Int):=by omega
    have hTT:lst.take i=l.filter nz:=by rw[hT.out,List.take_of_length_le (by rw[←HN.out];exact Nat.le_refl _)]
    obtain⟨w9,hrun,ho9,hg9⟩:=run_clear_pts wr base g j c i (c-i) 0 lst hO.out hij;rw[hTT]at ho9;go_wp2
    go_ret
    exact⟨i,rfl,ho9,gb_trans hG.out hg9⟩
end Go.Proofs.YtckdhahceelckaaGreat.G
namespace Go.Proofs.YtckdhahceelckaaGreat.G
open Go.RowKit Go.Proofs.YtckdhahceelckaaGreatW.PrintWords Go.Proofs.YtckdhahceelckaaGreatW.PrintLast Go.Proofs.YtckdhahceelckaaGreatW.PrintMore
/-- a core: points, axes, edges, radius -/
structure Cr where
 p:List P3
 a:List P3
 e:List P3
 r:Int
/-- a value speaks of a core -/
def CrV (w:World)(v:Value)(c:Cr):Prop:=CoreV w v c.p c.a c.e c.r
theorem CrV.below {w w1:World}{v:Value}{c:Cr}(h:CrV w v c)(hb:Below w.heap.size w w1):CrV w1 v c:=CoreV.below h hb
def Cr.may (c:Cr):Bool:=mayF c.p c.a c.e c.r
abbrev Cr0:Cr:=⟨[],[],[],0⟩
/-- narrow.Apart of any two -/
def apS (c d:Cr):(P3×Int)×Bool:=apartS c.p c.a c.e c.r d.p d.a d.e d.r
theorem apS_may (c d:Cr):(apS c d).2=(c.may&&d.may):=by
 unfold apS apartS Cr.may;split
 ·rename_i h;exact h.symm
 ·rename_i h;simpa using h
theorem apS_val {c d:Cr}(hc:c.may=true)(hd:d.may=true):apS c d=(apartF c.p c.a c.e c.r d.p d.a d.e d.r,true):=by
 unfold apS apartS Cr.may at*;rw[hc,hd];rfl
theorem Cr.mayP {c:Cr}(h:c.may=true):MayP c.p c.a c.e c.r:=(mayF_iff ..).1 h
theorem mayOne {x:P3}(h:in3 16777216 x){r:Int}(h0:0≤r)(h1:r≤65536):(⟨[x],[],[],r⟩:Cr).may=true:=
 (mayF_iff ..).2 ⟨by simp,by simp,by simp,by simp,h0,h1,by simpa using(far3_iff _ _ (by decide) (by decide)).2 h,rfl,rfl⟩
/-- may a way be? -/
def wayOk (y:P3):Bool:=decide (mx (mx y.x y.y) y.z≤4194304)&&decide (mn (mn y.x y.y) y.z≥ -4194304)
theorem wayOk_iff (y:P3):wayOk y=true↔in3 4194304 y:=by
 have a:=mx_facts y.x y.y;have b:=mx_facts (mx y.x y.y) y.z;have c:=mn_facts y.x y.y;have d:=mn_facts (mn y.x y.y) y.z;unfold wayOk in3;simp only[Bool.and_eq_true,decide_eq_true_eq];omega
def smay (c:Cr)(y:P3):Bool:=c.may&&decide (c.p.length≤16)&&wayOk y
theorem smay_iff (c:Cr)(y:P3):smay c y=true↔c.may=true∧c.p.length≤16∧in3 4194304 y:=by
 unfold smay;rw[Bool.and_eq_true,Bool.and_eq_true,decide_eq_true_eq,wayOk_iff,and_assoc]
/-- a part of the way -/
def partP (y:P3)(k:Int):P3:=⟨(y.x*k).tdiv 16,(y.y*k).tdiv 16,(y.z*k).tdiv 16⟩
def withF (l m:List P3):List P3:=((l++m).filter nz).take 128
def acrossF (y:P3)(l:List P3):List P3:=l.map fun e=>short3 (cross3 e (short3 y))
def trailF (c:Cr)(y:P3)(k:Int):Cr:=
 if smay c y=true∧0≤k∧k≤16 then⟨c.p++c.p.map (plusI (partP y k)),withF c.a (acrossF y c.e),withF c.e [short3 y],c.r⟩else Cr0
theorem trailF_yes {c:Cr}{y:P3}{k:Int}(h:smay c y=true)(h0:0≤k)(h1:k≤16):
  trailF c y k=⟨c.p++c.p.map (plusI (partP y k)),withF c.a (acrossF y c.e),withF c.e [short3 y],c.r⟩:=if_pos ⟨h,h0,h1⟩
theorem tdiv16 (x k:Int)(h0:0≤k)(h1:k≤16):(0≤x→0≤(x*k).tdiv 16∧(x*k).tdiv 16≤x)∧(x≤0→x≤(x*k).tdiv 16∧(x*k).tdiv 16≤0):=by
 constructor
 ·intro hx;have e0:=Int.mul_nonneg hx h0;have e1:=Int.mul_le_mul_of_nonneg_left h1 hx;rw[Int.tdiv_eq_ediv_of_nonneg e0];omega
 ·intro hx;have e0:=Int.mul_nonneg (show 0≤ -x by omega) h0;have e1:=Int.mul_le_mul_of_nonneg_left h1 (show 0≤ -x by omega);rw[Int.neg_mul]at e0 e1;rw[←Int.neg_neg (x*k),Int.neg_tdiv,Int.tdiv_eq_ediv_of_nonneg e0];omega
theorem partP_bd (y:P3)(k:Int)(h0:0≤k)(h1:k≤16)(B:Int)(hy:in3 B y)(hB:0≤B):in3 B (partP y k):=by
 have a:=tdiv16 y.x k h0 h1;have b:=tdiv16 y.y k h0 h1;have c:=tdiv16 y.z k h0 h1;unfold in3 partP at*;simp only;omega
theorem partP_16 (y:P3):partP y 16=y:=by
 unfold partP;simp
theorem withF_len (l m:List P3):(withF l m).length≤128:=by
 unfold withF;rw[List.length_take];exact Nat.min_le_left _ _
theorem withF_in {l m:List P3}{B:Int}(hl:∀x∈l,in3 B x)(hm:∀x∈m,in3 B x):∀x∈withF l m,in3 B x:=by
 intro x hx;have h:=List.mem_of_mem_take hx;rcases List.mem_append.1 (List.mem_filter.1 h).1 with h|h
 ·exact hl x h
 ·exact hm x h
theorem acrossF_in (y:P3)(l:List P3):∀x∈acrossF y l,in3 1048576 x:=by
 intro x hx;obtain⟨e,_,rfl⟩:=List.mem_map.1 hx;exact short3_in _
theorem any_far_of {l:List P3}{n:Int}(h0:0≤n)(h1:n≤9223372036854775807)(h:∀x∈l,in3 n x):l.any (far3 n)=false:=by
 rw[List.any_eq_false];intro x hx;rw[(far3_iff _ _ h0 h1).2 (h x hx)];simp
/-- what a core takes up on its way may be, where its last place may -/
theorem trail_may {c:Cr}{y:P3}(h:smay c y=true){k:Int}(h0:0≤k)(h1:k≤16)(hp:∀x∈c.p,in3 16777216 (plusI (partP y k) x)):(trailF c y k).may=true:=by
 rw[trailF_yes h h0 h1];obtain⟨hm,hl,hy⟩:=(smay_iff ..).1 h;have m:=Cr.mayP hm;refine(mayF_iff ..).2 ⟨?_,?_,withF_len _ _,withF_len _ _,m.r0,m.r1,?_,?_,?_⟩
 ·have:=m.p0;simp[this]
 ·simp only[List.length_append,List.length_map];omega
 ·refine any_far_of (by decide) (by decide) ?_;intro x hx;rcases List.mem_append.1 hx with hx|hx
  ·exact far_in (by decide) (by decide) m.pf x hx
  ·obtain⟨z,hz,rfl⟩:=List.mem_map.1 hx;exact hp z hz
 ·exact any_far_of (by decide) (by decide) (withF_in (far_in (by decide) (by decide) m.af) (acrossF_in _ _))
 ·refine any_far_of (by decide) (by decide) (withF_in (far_in (by decide) (by decide) m.ef) ?_);intro x hx;rw[List.mem_singleton]at hx;subst hx;exact short3_in _
/-- the search for the last free part -/
def castL (c:Cr)(y:P3)(d:Cr):Nat→Nat→P3×Int→Nat×(P3×Int)
 |0,k,x=>(k,x)
 |n+1,k,x=>if x.2<0 then(k,x)else if(apS (trailF c y ((k:Int)+1)) d).1.2<0 then(k,x)else castL c y d n (k+1) (apS (trailF c y ((k:Int)+1)) d).1
def castOk (c:Cr)(y:P3)(d:Cr):Bool:=(apS c d).2&&smay c y&&(apS (trailF c y 16) d).2
def castF (c:Cr)(y:P3)(d:Cr):(Nat×(P3×Int))×Bool:=
 if castOk c y d=true then(castL c y d 16 0 (apS c d).1,true)else((0,(⟨0,0,0⟩,0)),false)
theorem castOk_iff (c:Cr)(y:P3)(d:Cr):castOk c y d=true↔c.may=true∧d.may=true∧smay c y=true∧(trailF c y 16).may=true:=by
 unfold castOk;rw[apS_may,apS_may];simp only[Bool.and_eq_true];constructor
 ·rintro⟨⟨⟨a,b⟩,c⟩,d,e⟩;exact⟨a,b,c,d⟩
 ·rintro⟨a,b,c,d⟩;exact⟨⟨⟨a,b⟩,c⟩,d,b⟩
end Go.Proofs.YtckdhahceelckaaGreat.G
namespace Go.Proofs.YtckdhahceelckaaGreat.G
open Go.RowKit Go.Proofs.YtckdhahceelckaaGreatW.PrintWords Go.Proofs.YtckdhahceelckaaGreatW.PrintLast Go.Proofs.YtckdhahceelckaaGreatW.PrintMore
attribute [local go_sem] max2_mx min2_mn max_two min_two max_three min_three max_four min_four
attribute [local go_sem high] eqA23
theorem eqSn0 (d n c:Nat)(w:World):(Op.equalIn (d+1) 24 (.slice none n c) (.slice none 0 0)).run Tryz.prog w= .ok true w:=by
 simp[Op.equalIn,run_underlying Tryz.underlying24]
theorem eqSs0 (d n c:Nat)(ad:Addr)(w:World):(Op.equalIn (d+1) 24 (.slice (some ad) n c) (.slice none 0 0)).run Tryz.prog w= .ok false w:=by
 simp[Op.equalIn,run_underlying Tryz.underlying24]
theorem eqE (x y:Value)(w:World)(b:Bool)(hx:binOp .eql 24 x y=(do pure (.bool (←Op.equal 24 x y))))(h:∀d,(Op.equalIn (d+1) 24 x y).run Tryz.prog w= .ok b w):Sem.run Tryz.prog (binOp .eql 24 x y) w= .ok (.bool b) w:=by
 rw[hx,Sem.run_bind];unfold Op.equal Op.maxDepth;rw[h 9999];rfl
theorem eqSn (n c:Nat)(w:World):Sem.run Tryz.prog (binOp .eql 24 (.slice none n c) (.slice none 0 0)) w= .ok (.bool true) w:=eqE _ _ w true rfl fun d=>eqSn0 d n c w
theorem eqSs (n c:Nat)(ad:Addr)(w:World):Sem.run Tryz.prog (binOp .eql 24 (.slice (some ad) n c) (.slice none 0 0)) w= .ok (.bool false) w:=eqE _ _ w false rfl fun d=>eqSs0 d n c ad w
/-- a list of points of its own -/
def PtsPostB (l:List P3)(w:World)(e:Ending)(w':World):Prop:=∃A c,e= .returned (.slice A l.length c)∧l.length≤c∧RdB w' A l∧Below w.heap.size w w'∧(∀ad,A=some ad→w.heap.size≤ad.block)
attribute [local go_sem high] eqSn eqSs
end Go.Proofs.YtckdhahceelckaaGreat.G
namespace Go.Proofs.YtckdhahceelckaaGreat.G
open Go.RowKit Go.Proofs.YtckdhahceelckaaGreatW.PrintWords Go.Proofs.YtckdhahceelckaaGreatW.PrintLast Go.Proofs.YtckdhahceelckaaGreatW.PrintMore
attribute [local go_sem] max2_mx min2_mn max_two min_two max_three min_three max_four min_four
attribute [local go_sem high] eqA23
/-- a list of its own -/
def OwnPost (l:List P3)(w:World)(e:Ending)(w':World):Prop:=∃v,e= .returned v∧OwnP w' w.heap.size v l∧Below w.heap.size w w'
theorem concat_own (l0 l1:List P3)(n0 n1:Nat)(A0 A1:Option Addr)(c0 c1 g:Nat)(w:World)(hn0:l0.length=n0)(hn1:l1.length=n1)(hg0:w.cell? ⟨g,0,none⟩=some (.slice A0 n0 c0))(hg1:w.cell? ⟨g,1,none⟩=some (.slice A1 n1 c1))(h0:Rd w A0 l0)(h1:Rd w A1 l1)(hb0:n0≤40000)(hb1:n1≤40000):
  Calls Tryz.prog 107 #[.slice (some ⟨g,0,none⟩) 2 2] w (OwnPost (l0++l1) w):=by
 have H0:=Lh h0;have H1:=Lh h1;have N0:=Lh hn0;have N1:=Lh hn1;have hgl:=World.block_lt_of_cell? w _ hg0;have HG0:=Lh hg0;have HG1:=Lh hg1;clear h0 h1 hn0 hn1 hg0 hg1;go_enter Tryz.func107,Tryz.ntmps107;go_wp2;go_loopw [3,5,11] (fun v3 v5 v11 wr=>∃k:Nat,k≤2∧v11= .int .i64 k∧v3= .int .i64 (csz n0 n1 k)∧Below w.heap.size w wr) (fun _ _ i _=>2-(intOf i).toNat)
 case atStart=>exact⟨0,by omega,rfl,rfl,Below.refl _ _⟩
 case round=>
  obtain⟨k,hk,rfl,rfl,hbr⟩:=hrel;have e0:=(hbr.cell (p:=⟨g,0,none⟩) hgl).trans HG0.out;have e1:=(hbr.cell (p:=⟨g,1,none⟩) hgl).trans HG1.out;have hc:k=0∨k=1∨k=2:=by omega
  rcases hc with rfl|rfl|rfl
  ·simp only[csz,if_true];go_wp2
   go_roundw
   case rel=>exact⟨1,by omega,rfl,by simp[csz],hbr⟩
   case measure=>simp[intOf]
  ·simp only[csz,if_true,if_neg (show ¬(1:Nat)=0 by omega)];go_wp2
   go_roundw
   case rel=>exact⟨2,by omega,rfl,by simp[csz],hbr⟩
   case measure=>simp[intOf]
  ·simp only[csz,if_neg (show ¬(2:Nat)=0 by omega),if_neg (show ¬(2:Nat)=1 by omega)];clear e0 e1;go_wp2_with fail;have hgr:=grow_calls (n0+n1) wr (by omega);rw[Int.natCast_add]at hgr;refine hgr.mono ?_;rintro e w2 ⟨v,rfl,hv,hb2⟩;have hB2:Below w.heap.size w w2:=bthen hbr hb2;have hv0:OwnP w2 w.heap.size v []:=own_weaken hv hbr.size;clear hgr hv hb2;go_wp2;clear hbr;go_loopw [6,8,27] (fun v6 v8 v27 wr=>∃k:Nat,k≤2∧v27= .int .i64 k∧Hid (OwnP wr w.heap.size v6 (cpt l0 l1 k))∧Hid (Below w.heap.size w wr)) (fun _ _ i _=>2-(intOf i).toNat)
   case atStart=>exact⟨0,by omega,rfl,hv0,hB2⟩
   case round=>
    clear hv0 hB2;obtain⟨k,hk,rfl,hv,hbr⟩:=hrel;have hbr2:=hbr.out;have e0:=(hbr2.cell (p:=⟨g,0,none⟩) hgl).trans HG0.out;have e1:=(hbr2.cell (p:=⟨g,1,none⟩) hgl).trans HG1.out;have hc:k=0∨k=1∨k=2:=by omega
    rcases hc with rfl|rfl|rfl
    ·go_wp2_with(at_builtin;refine append_pts w.heap.size rfl _ _ rfl _ [] l0 A0 _ _ rfl rfl hv.out (H0.below hbr2) N0.out (by simp;omega) hbr2.size ?_;intro v2 w3 hv2 hg2)
     go_roundw
     case rel=>exact⟨1,by omega,rfl,hv2,hbr2.grown hg2 hbr2.size (fun k hk=>hv.base_ k hk)⟩
     case measure=>simp[intOf]
    ·go_wp2_with(at_builtin;refine append_pts w.heap.size rfl _ _ rfl _ l0 l1 A1 _ _ rfl rfl hv.out (H1.below hbr2) N1.out (by rw[N0.out];omega) hbr2.size ?_;intro v2 w3 hv2 hg2)
     go_roundw
     case rel=>exact⟨2,by omega,rfl,hv2,hbr2.grown hg2 hbr2.size (fun k hk=>hv.base_ k hk)⟩
     case measure=>simp[intOf]
    ·clear e0 e1;go_wp2
     go_ret
     exact⟨_,rfl,hv.out,hbr2⟩
/-- slices.DeleteFunc of a slice that is none -/
theorem delete_none (w:World):Calls Tryz.prog 127 #[.slice none 0 0, .func (.func 128) #[] #[]] w fun e w'=>e= .returned (.slice none 0 0)∧Below w.heap.size w w':=by
 have HI:=Lh (index0_calls [] none 0 w (Rd.nil _ _) (Nat.le_refl _) (by decide));have hx:idx0 []= -1:=rfl;rw[hx,List.length_nil]at HI;go_enter Tryz.func127,Tryz.ntmps127;go_wp2_with fail
 with_reducible refine HI.out.mono ?_
 rintro e w1 ⟨rfl,hb⟩;go_wp2
 go_ret
 exact⟨rfl,hb⟩
theorem OwnP.lenB {w:World}{base:Nat}{v:Value}{l:List P3}(h:OwnP w base v l):(v= .slice none 0 0∧l=[])∨∃g c,v= .slice (some ⟨g,0,none⟩) l.length c∧l.length≤c:=by
 obtain⟨hx,h2⟩:=h;rcases h2 with⟨e,hn⟩|⟨g',cap,cur,e,hb,hg,hnc,hm,hsz,ht⟩
 ·exact .inl ⟨e,List.eq_nil_of_length_eq_zero hn⟩
 ·exact .inr ⟨g',cap,e,hnc⟩
theorem delete_own (l:List P3)(base:Nat)(v:Value)(w:World)(h:OwnP w base v l)(hl:l.length≤40000)(hb:base≤w.heap.size):
  Calls Tryz.prog 127 #[v, .func (.func 128) #[] #[]] w fun e w'=>∃u,e= .returned u∧OwnP w' base u (l.filter nz)∧Below base w w':=by
 rcases h.lenB with⟨rfl,rfl⟩|⟨g,c,rfl,hc⟩
 ·refine(delete_none w).mono ?_;rintro e w' ⟨rfl,hb2⟩;exact⟨_,rfl,OwnP.nil _ _,hb2.mono hb⟩
 ·have hz:=h.fz;refine(delete_calls l g _ c base w h hl).mono ?_;rintro e w' ⟨m,rfl,ho,hg⟩;exact⟨_,rfl,ho,below_gb (Below.refl _ _) hg hz.2.2.1 hb⟩
theorem filter_len (l:List P3):(l.filter nz).length≤l.length:=List.length_filter_le _ _
theorem with_calls (l m:List P3)(n k:Nat)(A B:Option Addr)(c d:Nat)(w:World)(hn:l.length=n)(hk:m.length=k)(hA:Rd w A l)(hB:Rd w B m)(hn1:n≤10000)(hk1:k≤10000):
  Calls Tryz.prog 82 #[.slice A n c, .slice B k d] w (PtsPostB (withF l m) w):=by
 have HC:=Lh (concat_own l m n k A B c d w.heap.size (w.alloc (.cells #[.slice A n c, .slice B k d] 24)) hn hk (by simp) (by simp) (hA.alloc _) (hB.alloc _) (by omega) (by omega));have HL:Hid ((l++m).length≤20000):=Lh (by rw[List.length_append];omega);have HW:Hid (withF l m=((l++m).filter nz).take 128):=Lh rfl;obtain⟨L,hL⟩:=nm_ (l++m);rw[hL]at HC HL HW;clear hn hk hL hA hB;go_enter Tryz.func82,Tryz.ntmps82;go_wp2_with fail
 with_reducible refine HC.out.mono ?_
 rintro e w1 ⟨v,rfl,ho,hb⟩;have hsz:w.heap.size≤w1.heap.size:=by have:=hb.size;simp at this;omega
 have HB:=Lh (((Below.refl _ w).alloc (Nat.le_refl _) (.cells #[.slice A n c, .slice B k d] 24)).trans (hb.mono (by simp)));have HO:Hid (OwnP w1 w.heap.size v L):=Lh (own_weaken ho (by simp));clear hb ho HC;go_wp2_with fail
 with_reducible refine(delete_own L w.heap.size v w1 HO.out (by have:=HL.out;omega) hsz).mono ?_
 rintro e w2 ⟨u,rfl,ho,hb⟩;have HB:=Lh (HB.trans hb);have HF:=Lh (filter_len L);obtain⟨F,hF⟩:=nm_ (L.filter nz);rw[hF]at ho HW HF;have hsz2:w.heap.size≤w2.heap.size:=HB.size;have HO:=Lh ho;clear ho hb hF hsz;rcases HO.out.lenB with⟨rfl,rfl⟩|⟨g,cc,rfl,hcc⟩
 ·have hr:withF l m=[]:=by rw[HW.out];rfl
  have HRR:=Lh hr;clear hr;go_wp2_with(go_at_call 129;refine(clip_calls none 0 0 _ (Nat.le_refl _) (by decide) (fun _=>rfl)).mono ?_;rintro e w3 ⟨rfl,rfl⟩)
  go_ret
  rw[HRR.out];exact⟨none,0,rfl,Nat.le_refl _,RdB.nil _,HB.out,fun ad e=>by cases e⟩
 ·obtain⟨q,hq⟩:=nm_ F.length;have hq2:q≤20000:=by have:=HF.out;have:=HL.out;omega
  rw[hq]at HO hcc⊢;by_cases t:q≤128
  ·have hm:mn (q:Int) 128=(q:Int):=by unfold mn;split<;>omega
   have hr:withF l m=F:=by rw[HW.out,List.take_of_length_le (by omega)]
   have HRR:=Lh hr;have HQ:=Lh hq;clear hq hr;go_wp2_with(go_at_call 129;refine(clip_calls (some ⟨g,0,none⟩) q cc _ hcc (by omega) (fun e=>by cases e)).mono ?_;rintro e w3 ⟨rfl,rfl⟩)
   go_ret
   obtain⟨A',c',e,h1,h2,h3⟩:=HO.out.rdB2;injection e with e1 e2 e3
   subst e1;rw[HRR.out];exact⟨some ⟨g,0,none⟩,q,by rw[HQ.out];rfl,by rw[HQ.out];exact Nat.le_refl _,h2,HB.out,fun ad e=>by cases e;exact HO.out.fz.2.2.1⟩
  ·have hm:mn (q:Int) 128=((128:Nat):Int):=by unfold mn;split<;>omega
   have hr:(withF l m).length=128:=by rw[HW.out,List.length_take];omega
   have ho:=HO.out.cut 128 (by rw[hq];omega);rw[←HW.out]at ho;have HR:=Lh hr;have HOC:=Lh ho;clear hq hr ho;go_wp2_with(go_at_call 129;refine(clip_calls (some ⟨g,0,none⟩) 128 cc _ (by omega) (by omega) (fun e=>by cases e)).mono ?_;rintro e w3 ⟨rfl,rfl⟩)
   go_ret
   obtain⟨A',c',e,h1,h2,h3⟩:=HOC.out.rdB2;injection e with e1 e2 e3
   subst e1;exact⟨some ⟨g,0,none⟩,128,by rw[HR.out];rfl,by rw[HR.out];exact Nat.le_refl _,h2,HB.out,fun ad e=>by cases e;exact HOC.out.fz.2.2.1⟩
end Go.Proofs.YtckdhahceelckaaGreat.G
