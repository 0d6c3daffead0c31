/- What the laws of this claim lean on: contracts of functions and plain lemmas; no condition of its own (part 4: XN14, XN4, XG4). -/
import Derived.Test.YtckdhahceelckaaGreatKQ3
set_option maxHeartbeats 16000000
set_option maxRecDepth 100000
set_option linter.unusedVariables false
set_option linter.unusedSimpArgs false
namespace Go.Proofs.YtckdhahceelckaaGreat.G
open Go.RowKit Go.Proofs.YtckdhahceelckaaGreatW.PrintWords Go.Proofs.YtckdhahceelckaaGreatW.PrintLast Go.Proofs.YtckdhahceelckaaGreatW.PrintMore
attribute [local go_sem] max2_mx min2_mn max_two min_two max_three min_three max_four min_four
attribute [local go_sem high] eqA23
open Go.Shelf
attribute [local go_sem] Oper.semAt_some
/-- all ways that may tell two apart, as they are -/
def edgeW (ea eb:List P3):List P3:=ea.flatMap fun e=>eb.map fun f=>cross3 e f
def roundW (es:List P3)(p q:P3):List P3:=short3 (minus3 q p)::es.map fun e=>cross3 (short3 (cross3 e (short3 (minus3 q p)))) e
def pointW (pa pb es:List P3):List P3:=pa.flatMap fun p=>pb.flatMap fun q=>roundW es p q
def rawC (pa aa ea pb ab eb:List P3):List P3:=(aa++ab)++(edgeW ea eb++(if mn pa.length pb.length>2 then[]else pointW pa pb (ea++eb)))
theorem pre_mid {α:Type}{pre R l:List α}{x:α}(h:l=pre++x::R):pre++[x]<+:l:=⟨R,by rw[h];simp⟩
theorem take_mid {α:Type}(l:List α)(k:Nat)(h:k<l.length):l=l.take k++l[k]::l.drop (k+1):=by
  rw[←List.drop_eq_getElem_cons h,List.take_append_drop]
theorem edgeW_snoc (ea eb:List P3)(i:Nat)(h:i<ea.length):edgeW (ea.take (i+1)) eb=edgeW (ea.take i) eb++eb.map (fun f=>cross3 ea[i] f):=by
  unfold edgeW;rw[List.take_succ_eq_append_getElem h,List.flatMap_append];simp
theorem edgeW_mid (ea eb:List P3)(i:Nat)(h:i<ea.length)(j:Nat)(h':j<eb.length):edgeW ea eb=edgeW (ea.take i) eb++(eb.take j).map (fun f=>cross3 ea[i] f)++cross3 ea[i] eb[j]::((eb.drop (j+1)).map (fun f=>cross3 ea[i] f)++edgeW (ea.drop (i+1)) eb):=by
  have e1:edgeW ea eb=edgeW (ea.take i) eb++(eb.map (fun f=>cross3 ea[i] f)++edgeW (ea.drop (i+1)) eb):=by
    have:=take_mid ea i h
    conv=>lhs;rw[this]
    unfold edgeW;rw[List.flatMap_append,List.flatMap_cons]
  have e2:eb.map (fun f=>cross3 ea[i] f)=(eb.take j).map (fun f=>cross3 ea[i] f)++cross3 ea[i] eb[j]::(eb.drop (j+1)).map (fun f=>cross3 ea[i] f):=by
    conv=>lhs;rw[take_mid eb j h']
    rw[List.map_append,List.map_cons]
  rw[e1,e2];simp
theorem roundW_eq (es:List P3)(p q d:P3)(h:short3 (minus3 q p)=d):roundW es p q=d::es.map fun e=>cross3 (short3 (cross3 e d)) e:=by unfold roundW;rw[h]
theorem pointW_snoc (pa pb es:List P3)(i:Nat)(h:i<pa.length):pointW (pa.take (i+1)) pb es=pointW (pa.take i) pb es++pb.flatMap (fun q=>roundW es pa[i] q):=by
  unfold pointW;rw[List.take_succ_eq_append_getElem h,List.flatMap_append];simp
theorem flat_snoc (pb es:List P3)(p:P3)(j:Nat)(h:j<pb.length):(pb.take (j+1)).flatMap (fun q=>roundW es p q)=(pb.take j).flatMap (fun q=>roundW es p q)++roundW es p pb[j]:=by
  rw[List.take_succ_eq_append_getElem h,List.flatMap_append];simp
theorem pointW_mid (pa pb es:List P3)(i:Nat)(h:i<pa.length)(j:Nat)(h':j<pb.length):∃R,pointW pa pb es=pointW (pa.take i) pb es++(pb.take j).flatMap (fun q=>roundW es pa[i] q)++roundW es pa[i] pb[j]++R:=by
  refine⟨(pb.drop (j+1)).flatMap (fun q=>roundW es pa[i] q)++pointW (pa.drop (i+1)) pb es,?_⟩;have e1:pointW pa pb es=pointW (pa.take i) pb es++(pb.flatMap (fun q=>roundW es pa[i] q)++pointW (pa.drop (i+1)) pb es):=by
    have:=take_mid pa i h
    conv=>lhs;rw[this]
    unfold pointW;rw[List.flatMap_append,List.flatMap_cons]
  have e2:pb.flatMap (fun q=>roundW es pa[i] q)=(pb.take j).flatMap (fun q=>roundW es pa[i] q)++(roundW es pa[i] pb[j]++(pb.drop (j+1)).flatMap (fun q=>roundW es pa[i] q)):=by
    conv=>lhs;rw[take_mid pb j h']
    rw[List.flatMap_append,List.flatMap_cons]
  rw[e1,e2];simp only[List.append_assoc]
/-- every block of cells but two lies as it lay -/
def KpX (bo bf:Nat)(W W':World):Prop:=W.heap.size≤W'.heap.size∧∀k c t f,W.heap[k]?=some (.cells c t f)→k≠bo→k≠bf→W'.heap[k]?=W.heap[k]?
theorem KpX.refl (bo bf:Nat)(W:World):KpX bo bf W W:=⟨Nat.le_refl _,fun _ _ _ _ _ _ _=>rfl⟩
theorem KpX.trans {bo bf:Nat}{A B C:World}(h:KpX bo bf A B)(k:KpX bo bf B C):KpX bo bf A C:=
  ⟨Nat.le_trans h.1 k.1,fun i c t f hc h1 h2=>(k.2 i c t f ((h.2 i c t f hc h1 h2).trans hc) h1 h2).trans (h.2 i c t f hc h1 h2)⟩
theorem KpX.of_below {bo bf:Nat}{A B:World}(h:Below A.heap.size A B):KpX bo bf A B:=
  ⟨h.size,fun i c t f hc _ _=>h.block i (Array.getElem?_eq_some_iff.1 hc).1⟩
theorem KpX.putObj {bo bf:Nat}{W:World}{l:Nat}{o o':Obj}(hl:W.heap[l]?=some o)(ho:o.isCells=false):KpX bo bf W (W.putObj l o'):=
  ⟨by simp,fun i c t f hc _ _=>World.putObj_heap_other (fun e=>by subst e;rw[hl]at hc;cases hc;cases ho)⟩
theorem cells_of_cell {W:World}{b o:Nat}{v:Value}(h:W.cell? ⟨b,o,none⟩=some v):∃c t f,W.heap[b]?=some (.cells c t f):=by
  unfold World.cell? at h;split at h
  · rename_i c t f hb;exact⟨c,t,f,hb⟩
  · cases h
theorem KpX.cell {bo bf:Nat}{A B:World}(h:KpX bo bf A B){b o:Nat}{v:Value}(hc:A.cell? ⟨b,o,none⟩=some v)(h1:b≠bo)(h2:b≠bf):B.cell? ⟨b,o,none⟩=some v:=by
  obtain⟨c,t,f,hb⟩:=cells_of_cell hc;exact(World.cell?_of_block (a:=⟨b,o,none⟩) (h.2 b c t f hb h1 h2)).trans hc
/-- a slice that is read, apart from two blocks -/
def RdX (bo bf:Nat)(w:World)(A:Option Addr)(l:List P3):Prop:=Rd w A l∧(l≠[]→∀ad,A=some ad→ad.block≠bo∧ad.block≠bf)
theorem RdX.keep {bo bf:Nat}{w w':World}{A l}(h:RdX bo bf w A l)(hk:KpX bo bf w w'):RdX bo bf w' A l:=
  ⟨fun i p hp=>by
    obtain⟨b,o,hA,hlt,h1,h2,h3⟩:=h.1 i p hp
    obtain⟨n1,n2⟩:=h.2 (fun e0=>by rw[e0]at hp;simp at hp) _ hA
    exact⟨b,o,hA,Nat.lt_of_lt_of_le hlt hk.1,hk.cell h1 n1 n2,hk.cell h2 n1 n2,hk.cell h3 n1 n2⟩,h.2⟩
theorem abides_below {J:List P3→World→Prop}{B:Nat}(h:AbidesFrom B J){s:List P3}{W W':World}(hs:J s W)(hb:Below W.heap.size W W'):J s W':=
  h s W W' none hs ⟨hb.os,hb.tape,hb.output,hb.size,fun k hk _=>hb.block k hk⟩ (fun r e=>by cases e)
theorem heap_keep {bo bf:Nat}{W W':World}{g:Nat}{c:Array Value}{t:TypeId}{f:Nat×Nat}(h:W.heap[g]?=some (.cells c t f))(hk:KpX bo bf W W')(h1:g≠bo)(h2:g≠bf):W'.heap[g]?=some (.cells c t f):=(hk.2 g c t f h h1 h2).trans h
theorem C3.keep {bo bf:Nat}{W W':World}{g:Nat}{a b c:Value}(h:C3 W g a b c)(hk:KpX bo bf W W')(h1:g≠bo)(h2:g≠bf):C3 W' g a b c:=by
  obtain⟨cs,t,f,hb⟩:=cells_of_cell h.c0;have e:W'.heap[g]?=W.heap[g]?:=hk.2 g cs t f hb h1 h2;exact⟨(World.cell?_of_block (a:=⟨g,0,none⟩) e).trans h.c0,(World.cell?_of_block (a:=⟨g,1,none⟩) e).trans h.c1,(World.cell?_of_block (a:=⟨g,2,none⟩) e).trans h.c2,(World.frozen?_of_block (a:=⟨g,0,none⟩) e).trans h.f0,(World.frozen?_of_block (a:=⟨g,1,none⟩) e).trans h.f1,(World.frozen?_of_block (a:=⟨g,2,none⟩) e).trans h.f2⟩
structure Cut0 (T:Prop):Prop where
  out:T
theorem cut_ {T G:Prop}(h:Cut0 T→G)(t:T):G:=h ⟨t⟩
theorem ways1_in (n:Nat)(hn:3≤n)(l bo bf ga gb:Nat)(pa aa ea pb ab eb:List P3)(A0 A1 A2 B0 B1 B2:Option Addr)(c0 c1 c2 d0 d1 d2:Nat)(ra rb:Int)(J Jx:List P3→World→Prop)
    (W:World) (hJ:AbidesFrom W.heap.size J) (hJx:AbidesFrom W.heap.size Jx)
    (hY:∀pre x W1,J pre W1→pre.length<(rawC pa aa ea pb ab eb).length→YieldAt Fence.wide (n-1) Tryz.prog l #[.agg #[.int .i64 x.x, .int .i64 x.y, .int .i64 x.z]] W1 fun e W'=>
      (e= .returned (.bool true)∧J (pre++[x]) W'∧KpX bo bf W1 W')∨(e= .returned (.bool false)∧Jx (pre++[x]) W'))
    (hga:W.heap[ga]?=some (.cells #[.slice A0 pa.length c0, .slice A1 aa.length c1, .slice A2 ea.length c2, .int .i64 ra] 35 (0,0)))
    (hgb:W.heap[gb]?=some (.cells #[.slice B0 pb.length d0, .slice B1 ab.length d1, .slice B2 eb.length d2, .int .i64 rb] 35 (0,0)))
    (R0:Hid (RdX bo bf W A0 pa)) (R1:Hid (RdX bo bf W A1 aa)) (R2:Hid (RdX bo bf W A2 ea)) (S0:Hid (RdX bo bf W B0 pb)) (S1:Hid (RdX bo bf W B1 ab)) (S2:Hid (RdX bo bf W B2 eb)) (hl1:aa.length≤40000) (hl2:ab.length≤40000) (hl3:ea.length≤40000) (hl4:eb.length≤40000) (hl5:pa.length≤40000) (hl6:pb.length≤40000)
    (hga1:ga≠bo) (hga2:ga≠bf) (hgb1:gb≠bo) (hgb2:gb≠bf) (hbo:bo<W.heap.size) (hbf:bf<W.heap.size)
    (h0:J [] W):
    CallsIn Fence.wide n Tryz.prog 106 #[.func (.yield l) #[] #[], .pointer (some ⟨ga,0,none⟩), .pointer (some ⟨gb,0,none⟩)] W fun e W'=>(∃v,e= .returned v)∧
      ((∃ys,ys=rawC pa aa ea pb ab eb∧J ys W')∨(∃pre,pre<+:rawC pa aa ea pb ab eb∧Jx pre W')):=by
  refine callsIn_of_wp Tryz.func106 rfl trivial ?_ rfl;simp only[Tryz.ntmps106,List.size_toArray,List.length_cons,List.length_nil,Nat.reduceAdd,Nat.reduceSub,Array.replicate_succ,Array.replicate_zero,List.push_toArray,List.append_toArray,List.nil_append,List.cons_append]
  gi_wp2
  have HJ:=Lh hJ;have HJx:=Lh hJx
  have hY':∀pre x R W1,J pre W1→rawC pa aa ea pb ab eb=pre++x::R→YieldAt Fence.wide (n-1) Tryz.prog l #[.agg #[.int .i64 x.x, .int .i64 x.y, .int .i64 x.z]] W1 fun e W'=>
      (e= .returned (.bool true)∧J (pre++[x]) W'∧KpX bo bf W1 W')∨(e= .returned (.bool false)∧Jx (pre++[x]) W'):=
    fun pre x R W1 h1 h2=>hY pre x W1 h1 (by rw[h2];simp)
  have HY:=Lh hY';clear hY';have HA:=Lh hga;have HB:=Lh hgb;clear hJ hJx hY hga hgb;refine(wpIn_wide (n:=n)).2 (wp_scope_straight ((wpIn_wide (n:=n)).1 ?_));apply wpIn_seq_k;intro K hK;apply wpIn_label;refine hK _ _ ?_;clear hK K;apply wpIn_block;apply wpIn_loop_once;have a1:W.cell? ⟨ga,1,none⟩=some (.slice A1 aa.length c1):=(blk_cell HA.out 1).trans rfl;have a2:W.cell? ⟨gb,1,none⟩=some (.slice B1 ab.length d1):=(blk_cell HB.out 1).trans rfl
  gi_wp2_with fail
  refine⟨trivial,fun h=>(by cases h),?_⟩;refine((callsIn_wide (n:=n-1)).2 (concat_calls aa ab _ _ A1 B1 c1 d1 _ _ rfl rfl ?_ ?_ (R1.out.1.alloc _) (S1.out.1.alloc _) hl1 hl2)).mono ?_
  · simp
  · simp
  rintro e W1 ⟨A,c,rfl,hc,hrd,hb1,hbs⟩;have hB1:Below W.heap.size W W1:=((Below.refl _ W).alloc (Nat.le_refl _) _).trans (hb1.mono (by simp));have K1:Hid (KpX bo bf W W1):=KpX.of_below hB1;have RL:Hid (RdX bo bf W1 A (aa++ab)):=⟨hrd,fun _ ad e=>by have:=hbs ad e;simp at this;omega⟩;have h1:J [] W1:=abides_below HJ.out h0 hB1;clear a1 a2 hb1 hbs h0;obtain⟨L1,hL1⟩:=nm_ (aa++ab);rw[hL1]at hc hrd RL⊢;obtain⟨T1,hT1⟩:=nm_ (edgeW ea eb++(if mn pa.length pb.length>2 then[]else pointW pa pb (ea++eb)));have HRAW:Hid (rawC pa aa ea pb ab eb=L1++T1):=by show rawC .. =_;unfold rawC;rw[hL1,hT1]
  have HT1:=Lh hT1;clear hT1;have hl7:L1.length≤80000:=by rw[←hL1];simp;omega
  clear hL1 hrd
  gi_wp2
  gi_loopw [25] (fun v25 wr=>∃k:Nat,k≤L1.length∧v25= .int .i64 k∧J (L1.take k) wr∧Hid (KpX bo bf W1 wr)) (fun i _=>L1.length-(intOf i).toNat)
  case atStart=>exact⟨0,Nat.zero_le _,rfl,h1,KpX.refl _ _ _⟩
  case round=>
    clear h1;obtain⟨k,hk,rfl,hj,hkp⟩:=hrel;by_cases hlt:k<L1.length
    · obtain ⟨b, o, rfl, hbl, e1, e2, e3⟩ := (RL.out.keep hkp.out).1.get k hlt
      obtain⟨p,hp⟩:=nm_ (L1[k]);rw[hp]at e1 e2 e3;have HP:=Lh hp;clear hp;obtain⟨px,py,pz⟩:=p;dsimp only at e1 e2 e3;have HR1:rawC pa aa ea pb ab eb=L1.take k++⟨px,py,pz⟩::(L1.drop (k+1)++T1):=by rw[HRAW.out,←HP.out,←List.cons_append,←List.append_assoc,←take_mid L1 k hlt]
      have hbw:Below wr.heap.size wr (wr.alloc (.cells #[.int .i64 px, .int .i64 py, .int .i64 pz] 23)):=(Below.refl _ _).alloc (Nat.le_refl _) _;have hsz:W.heap.size≤wr.heap.size:=Nat.le_trans K1.out.1 hkp.out.1;have hj':=abides_below HJ.out hj hbw;obtain⟨fn,tmps,assign,body,hy,hR⟩:=HY.out _ ⟨px,py,pz⟩ (L1.drop (k+1)++T1) _ hj' HR1;dsimp only at hy
      gi_wp2
      refine⟨fun h=>(by cases h),hR.mono ?_⟩;rintro e W' (⟨rfl,hJ',hk'⟩|⟨rfl,hJx'⟩)
      · gi_wp2
        go_roundw
        case rel=>exact⟨k+1,by omega,by go_num,by rw[List.take_succ_eq_append_getElem hlt,HP.out];exact hJ',hkp.trans ((KpX.of_below hbw).trans hk')⟩
        case measure=>simp[intOf];omega
      · have HR2 := Lh HR1
        clear HR1
        gi_wp2
        rw[Exit.noGoto_normal]
        go_end0
        exact⟨⟨_,rfl⟩, .inr ⟨_,pre_mid HR2.out,hJx'⟩⟩
    · obtain rfl : k = L1.length := by omega
      rw[List.take_length]at hj;have KW:Hid (KpX bo bf W wr):=K1.trans hkp.out;have hga:=heap_keep HA.out KW.out hga1 hga2;have hgb:=heap_keep HB.out KW.out hgb1 hgb2;have a1:wr.cell? ⟨ga,2,none⟩=some (.slice A2 ea.length c2):=(blk_cell hga 2).trans rfl;clear hga hgb RL K1 hkp
      gi_wp2
      gi_loopw [37] (fun v37 w2=>∃i:Nat,i≤ea.length∧v37= .int .i64 i∧J (L1++edgeW (ea.take i) eb) w2∧Hid (KpX bo bf W w2)) (fun i _=>ea.length-(intOf i).toNat)
      case atStart=>exact⟨0,Nat.zero_le _,rfl,by simpa[edgeW]using hj,KW⟩
      case round=>
        clear hj KW a1;obtain⟨w2,rfl⟩:∃w2:World,w2=wr:=⟨_,rfl⟩;obtain⟨i,hi,rfl,hj,KW⟩:=hrel;by_cases hlt2:i<ea.length
        · obtain ⟨b, o, rfl, hbl, e1, e2, e3⟩ := (R2.out.keep KW.out).1.get i hlt2
          obtain⟨p,hp⟩:=nm_ (ea[i]);rw[hp]at e1 e2 e3;have HP:=Lh hp;clear hp;obtain⟨px,py,pz⟩:=p;dsimp only at e1 e2 e3;have hgb':=heap_keep HB.out KW.out hgb1 hgb2;have a2:w2.cell? ⟨gb,2,none⟩=some (.slice B2 eb.length d2):=(blk_cell hgb' 2).trans rfl;have hgl:=blk_lt hgb';have a3:(w2.alloc (.cells #[.int .i64 px, .int .i64 py, .int .i64 pz] 23)).cell? ⟨gb,2,none⟩=some (.slice B2 eb.length d2):=(World.cell?_alloc_lt _ _ _ hgl).trans a2;have hbw:Below w2.heap.size w2 (w2.alloc (.cells #[.int .i64 px, .int .i64 py, .int .i64 pz] 23)):=(Below.refl _ _).alloc (Nat.le_refl _) _;have hj1:=abides_below HJ.out hj hbw;have KW1:Hid (KpX bo bf W (w2.alloc (.cells #[.int .i64 px, .int .i64 py, .int .i64 pz] 23))):=KW.trans (KpX.of_below hbw);have C1:Hid (C3 (w2.alloc (.cells #[.int .i64 px, .int .i64 py, .int .i64 pz] 23)) w2.heap.size (.int .i64 px) (.int .i64 py) (.int .i64 pz)):=C3.new w2 _ _ _ 23;have hsz:W.heap.size≤w2.heap.size:=KW.out.1;clear hbw hgb' hj KW a2
          gi_wp2
          gi_loopw [44] (fun v44 w3=>∃j:Nat,j≤eb.length∧v44= .int .i64 j∧J (L1++(edgeW (ea.take i) eb++(eb.take j).map (fun f=>cross3 ⟨px,py,pz⟩ f))) w3∧Hid (KpX bo bf W w3)∧Hid (C3 w3 w2.heap.size (.int .i64 px) (.int .i64 py) (.int .i64 pz))) (fun j _=>eb.length-(intOf j).toNat)
          case atStart=>exact⟨0,Nat.zero_le _,rfl,by simpa using hj1,KW1,C1⟩
          case round=>
            clear hj1 KW1 C1 a3 e1 e2 e3;obtain⟨w3,rfl⟩:∃w3:World,w3=wr:=⟨_,rfl⟩;obtain⟨j,hjl,rfl,hj,KW,C1⟩:=hrel;by_cases hlt3:j<eb.length
            · obtain ⟨b2, o2, rfl, hbl2, e1, e2, e3⟩ := (S2.out.keep KW.out).1.get j hlt3
              obtain⟨q,hq⟩:=nm_ (eb[j]);rw[hq]at e1 e2 e3;have HQ:=Lh hq;clear hq;obtain⟨qx,qy,qz⟩:=q;dsimp only at e1 e2 e3;obtain⟨c10,c11,c12,_,_,_⟩:=(C1.alloc (.cells #[.int .i64 qx, .int .i64 qy, .int .i64 qz] 23));have HR1:rawC pa aa ea pb ab eb=(L1++(edgeW (ea.take i) eb++(eb.take j).map (fun f=>cross3 ⟨px,py,pz⟩ f)))++cross3 ⟨px,py,pz⟩ ⟨qx,qy,qz⟩::(((eb.drop (j+1)).map (fun f=>cross3 ⟨px,py,pz⟩ f)++edgeW (ea.drop (i+1)) eb)++(if mn pa.length pb.length>2 then[]else pointW pa pb (ea++eb))):=by
                rw[HRAW.out,←HT1.out,edgeW_mid ea eb i hlt2 j hlt3,HP.out,HQ.out];simp only[List.append_assoc,List.cons_append]
              have HR2:=Lh HR1;clear HR1;have hbw:Below w3.heap.size w3 (w3.alloc (.cells #[.int .i64 qx, .int .i64 qy, .int .i64 qz] 23)):=(Below.refl _ _).alloc (Nat.le_refl _) _
              gi_wp2_with fail
              refine⟨trivial,fun h=>(by cases h),?_⟩;refine((callsIn_wide (n:=n-1)).2 (cross_calls _ _ _ _ _ _ _)).mono ?_;rintro e w4 ⟨rfl,hb4⟩;have hb5:Below w3.heap.size w3 w4:=hbw.trans (hb4.mono hbw.size);have hj4:=abides_below HJ.out hj hb5;obtain⟨fn,tmps,assign,body,hy,hR⟩:=HY.out _ _ _ _ hj4 HR2.out;clear hb4 hbw c10 c11 c12 hj e1 e2 e3
              gi_wp2
              refine⟨fun h=>(by cases h),hR.mono ?_⟩;rintro e W' (⟨rfl,hJ',hk'⟩|⟨rfl,hJx'⟩)
              · gi_wp2
                go_roundw
                case rel=>
                  refine⟨j+1,by omega,by go_num,?_,KW.trans ((KpX.of_below hb5).trans hk'),(C1.below hb5).keep hk' (by omega) (by omega)⟩;rw[List.take_succ_eq_append_getElem hlt3,List.map_append,HQ.out];simpa[List.append_assoc]using hJ'
                case measure=>simp[intOf];omega
              · gi_wp2
                rw[Exit.noGoto_normal]
                go_end0
                exact⟨⟨_,rfl⟩, .inr ⟨_,pre_mid HR2.out,hJx'⟩⟩
            · obtain rfl : j = eb.length := by omega
              rw[List.take_length]at hj
              gi_wp2
              go_roundw
              case rel=>exact⟨i+1,by omega,by go_num,by rw[edgeW_snoc ea eb i hlt2,HP.out];exact hj,KW⟩
              case measure=>simp[intOf];omega
        · obtain rfl : i = ea.length := by omega
          rw[List.take_length]at hj;have hga':=heap_keep HA.out KW.out hga1 hga2;have hgb':=heap_keep HB.out KW.out hgb1 hgb2;have a0:w2.cell? ⟨ga,0,none⟩=some (.slice A0 pa.length c0):=(blk_cell hga' 0).trans rfl;have b0:w2.cell? ⟨gb,0,none⟩=some (.slice B0 pb.length d0):=(blk_cell hgb' 0).trans rfl;have a2:w2.cell? ⟨ga,2,none⟩=some (.slice A2 ea.length c2):=(blk_cell hga' 2).trans rfl;have b2:w2.cell? ⟨gb,2,none⟩=some (.slice B2 eb.length d2):=(blk_cell hgb' 2).trans rfl;have za:=blk_lt hga';have zb:=blk_lt hgb';clear hga' hgb';obtain⟨M,hM⟩:=nm_ (mn (pa.length:Int) (pb.length:Int));have HM:=Lh hM;by_cases hm:2<M
          · have ht : decide (2 < M) = true := by simpa using hm
            have hraw:Hid (rawC pa aa ea pb ab eb=L1++edgeW ea eb):=by show rawC .. =_;rw[HRAW.out,←HT1.out,HM.out,if_pos hm];simp
            gi_wp2
            rw[Exit.noGoto_normal]
            go_end0
            exact⟨⟨_,rfl⟩, .inl ⟨_,hraw.out.symm,hj⟩⟩
          · have ht : decide (2 < M) = false := by simpa using hm
            have ht':M≤2:=by omega
            have hraw:Hid (rawC pa aa ea pb ab eb=(L1++edgeW ea eb)++pointW pa pb (ea++eb)):=by show rawC .. =_;rw[HRAW.out,←HT1.out,HM.out,if_neg hm];simp
            clear HRAW HT1
            gi_wp2_with fail
            refine⟨trivial,fun h=>(by cases h),?_⟩;refine((callsIn_wide (n:=n-1)).2 (concat_calls ea eb _ _ A2 B2 c2 d2 _ _ rfl rfl ?_ ?_ ((R2.out.keep KW.out).1.alloc _) ((S2.out.keep KW.out).1.alloc _) hl3 hl4)).mono ?_
            · simp
            · simp
            rintro e w3 ⟨E,ce,rfl,hce,hrd,hb3,hbs⟩;have hB3:Below w2.heap.size w2 w3:=((Below.refl _ w2).alloc (Nat.le_refl _) _).trans (hb3.mono (by simp));have hsz:W.heap.size≤w2.heap.size:=KW.out.1;have KW3:Hid (KpX bo bf W w3):=KW.trans (KpX.of_below hB3);have RE:Hid (RdX bo bf w3 E (ea++eb)):=⟨hrd,fun _ ad e=>by have:=hbs ad e;simp at this;omega⟩;have hj3:J (L1++edgeW ea eb) w3:=abides_below HJ.out hj hB3;have a3:w3.cell? ⟨ga,0,none⟩=some (.slice A0 pa.length c0):=(hB3.cell (p:=⟨ga,0,none⟩) za).trans a0;obtain⟨es,hes⟩:=nm_ (ea++eb);rw[hes]at hce hrd RE⊢;have hl8:es.length≤80000:=by rw[←hes];simp;omega
            have HRAW:Hid (rawC pa aa ea pb ab eb=(L1++edgeW ea eb)++pointW pa pb es):=by rw[←hes];exact hraw.out
            obtain⟨L2,hL2⟩:=nm_ (L1++edgeW ea eb);rw[hL2]at hj3 HRAW;clear hB3 hb3 hbs hrd a0 b0 a2 b2 za zb hj KW hraw hes hL2 hM HM
            gi_wp2
            gi_loopw [73] (fun v73 w4=>∃i:Nat,i≤pa.length∧v73= .int .i64 i∧J (L2++pointW (pa.take i) pb es) w4∧Hid (KpX bo bf W w4)∧Hid (RdX bo bf w4 E es)) (fun i _=>pa.length-(intOf i).toNat)
            case atStart=>exact⟨0,Nat.zero_le _,rfl,by simpa[pointW]using hj3,KW3,RE⟩
            case round=>
              obtain⟨w4,rfl⟩:∃w4:World,w4=wr:=⟨_,rfl⟩;clear hj3 KW3 RE a3 hsz;obtain⟨i,hi,rfl,hj,KW,RE⟩:=hrel;by_cases hlt4:i<pa.length
              · obtain ⟨b, o, rfl, hbl, e1, e2, e3⟩ := (R0.out.keep KW.out).1.get i hlt4
                obtain⟨p,hp⟩:=nm_ (pa[i]);rw[hp]at e1 e2 e3;have HP:=Lh hp;clear hp;obtain⟨px,py,pz⟩:=p;dsimp only at e1 e2 e3;have hgb':=heap_keep HB.out KW.out hgb1 hgb2;have b2:w4.cell? ⟨gb,0,none⟩=some (.slice B0 pb.length d0):=(blk_cell hgb' 0).trans rfl;have hgl:=blk_lt hgb';have b3:(w4.alloc (.cells #[.int .i64 px, .int .i64 py, .int .i64 pz] 23)).cell? ⟨gb,0,none⟩=some (.slice B0 pb.length d0):=(World.cell?_alloc_lt _ _ _ hgl).trans b2;have hbw:Below w4.heap.size w4 (w4.alloc (.cells #[.int .i64 px, .int .i64 py, .int .i64 pz] 23)):=(Below.refl _ _).alloc (Nat.le_refl _) _;have hj1:=abides_below HJ.out hj hbw;have KW1:Hid (KpX bo bf W (w4.alloc (.cells #[.int .i64 px, .int .i64 py, .int .i64 pz] 23))):=KW.trans (KpX.of_below hbw);have RE1:Hid (RdX bo bf (w4.alloc (.cells #[.int .i64 px, .int .i64 py, .int .i64 pz] 23)) E es):=RE.out.keep (KpX.of_below hbw);have C1:Hid (C3 (w4.alloc (.cells #[.int .i64 px, .int .i64 py, .int .i64 pz] 23)) w4.heap.size (.int .i64 px) (.int .i64 py) (.int .i64 pz)):=C3.new w4 _ _ _ 23;have hsz:W.heap.size≤w4.heap.size:=KW.out.1;clear hbw hgb' hj KW b2 RE
                gi_wp2
                gi_loopw [80] (fun v80 w5=>∃j:Nat,j≤pb.length∧v80= .int .i64 j∧J (L2++(pointW (pa.take i) pb es++(pb.take j).flatMap (fun q=>roundW es ⟨px,py,pz⟩ q))) w5∧Hid (KpX bo bf W w5)∧Hid (RdX bo bf w5 E es)∧Hid (C3 w5 w4.heap.size (.int .i64 px) (.int .i64 py) (.int .i64 pz))) (fun j _=>pb.length-(intOf j).toNat)
                case atStart=>exact⟨0,Nat.zero_le _,rfl,by simpa using hj1,KW1,RE1,C1⟩
                case round=>
                  clear hj1 KW1 C1 RE1 b3 e1 e2 e3;obtain⟨w5,rfl⟩:∃w5:World,w5=wr:=⟨_,rfl⟩;obtain⟨j,hjl,rfl,hj,KW,RE,C1⟩:=hrel;by_cases hlt5:j<pb.length
                  · obtain ⟨b2, o2, rfl, hbl2, e1, e2, e3⟩ := (S0.out.keep KW.out).1.get j hlt5
                    obtain⟨q,hq⟩:=nm_ (pb[j]);rw[hq]at e1 e2 e3;have HQ:=Lh hq;clear hq;obtain⟨qx,qy,qz⟩:=q;dsimp only at e1 e2 e3;have hsz5:W.heap.size≤w5.heap.size:=KW.out.1;obtain⟨RR,hRR⟩:=pointW_mid pa pb es i hlt4 j hlt5;rw[HP.out,HQ.out]at hRR;obtain⟨P5,hP5⟩:=nm_ (L2++(pointW (pa.take i) pb es++(pb.take j).flatMap (fun q=>roundW es ⟨px,py,pz⟩ q)));have HRAW5:Hid (rawC pa aa ea pb ab eb=P5++(roundW es ⟨px,py,pz⟩ ⟨qx,qy,qz⟩++RR)):=by
                      show rawC .. =_;rw[HRAW.out,hRR,←hP5];simp only[List.append_assoc]
                    rw[hP5]at hj;have HP5:=Lh hP5;clear hRR hP5;have hbw:Below w5.heap.size w5 (w5.alloc (.cells #[.int .i64 qx, .int .i64 qy, .int .i64 qz] 23)):=(Below.refl _ _).alloc (Nat.le_refl _) _;obtain⟨c10,c11,c12,_,_,_⟩:=(C1.alloc (.cells #[.int .i64 qx, .int .i64 qy, .int .i64 qz] 23))
                    gi_wp2_with fail
                    refine⟨trivial,fun h=>(by cases h),?_⟩;refine((callsIn_wide (n:=n-1)).2 (minus_calls _ _ _ _ _ _ _)).mono ?_;rintro e w6 ⟨rfl,hb6⟩;clear c10 c11 c12 e1 e2 e3
                    gi_wp2_with fail
                    refine⟨trivial,fun h=>(by cases h),?_⟩;refine((callsIn_wide (n:=n-1)).2 (short_calls _ _ _ _)).mono ?_;rintro e w7 ⟨rfl,hb7⟩;have hb57:Below w5.heap.size w5 w7:=hbw.trans ((hb6.mono hbw.size).trans (hb7.mono (Nat.le_trans hbw.size hb6.size)));obtain⟨d,hd⟩:=nm_ (short3 (minus3 ⟨qx,qy,qz⟩ ⟨px,py,pz⟩));have hd':short3 ⟨(minus3 ⟨qx,qy,qz⟩ ⟨px,py,pz⟩).x,(minus3 ⟨qx,qy,qz⟩ ⟨px,py,pz⟩).y,(minus3 ⟨qx,qy,qz⟩ ⟨px,py,pz⟩).z⟩=d:=hd;rw[hd'];have HDD:=Lh hd;clear hd hd' hbw hb6 hb7;obtain⟨dx,dy,dz⟩:=d;dsimp only;have hbw2:Below w7.heap.size w7 (w7.alloc (.cells #[.int .i64 dx, .int .i64 dy, .int .i64 dz] 23)):=(Below.refl _ _).alloc (Nat.le_refl _) _;have hb58:Below w5.heap.size w5 (w7.alloc (.cells #[.int .i64 dx, .int .i64 dy, .int .i64 dz] 23)):=bthen hb57 hbw2;have hj8:=abides_below HJ.out hj hb58;have HR1:Hid (rawC pa aa ea pb ab eb=P5++⟨dx,dy,dz⟩::(es.map (fun e=>cross3 (short3 (cross3 e ⟨dx,dy,dz⟩)) e)++RR)):=by
                      show rawC .. =_;rw[HRAW5.out];unfold roundW;rw[HDD.out];rfl
                    obtain⟨fn,tmps,assign,body,hy,hR⟩:=HY.out _ ⟨dx,dy,dz⟩ _ _ hj8 HR1.out;dsimp only at hy;have D8:Hid (C3 (w7.alloc (.cells #[.int .i64 dx, .int .i64 dy, .int .i64 dz] 23)) w7.heap.size (.int .i64 dx) (.int .i64 dy) (.int .i64 dz)):=C3.new w7 _ _ _ 23;have hsz7:W.heap.size≤w7.heap.size:=Nat.le_trans hsz5 hb57.size
                    gi_wp2
                    refine⟨fun h=>(by cases h),hR.mono ?_⟩;rintro e W' (⟨rfl,hJ',hk'⟩|⟨rfl,hJx'⟩)
                    · have KX : Hid (KpX bo bf w5 W') := (KpX.of_below hb58).trans hk'
                      have KW9:Hid (KpX bo bf W W'):=KW.trans KX.out;have RE9:Hid (RdX bo bf W' E es):=RE.out.keep KX.out;have C9:Hid (C3 W' w4.heap.size (.int .i64 px) (.int .i64 py) (.int .i64 pz)):=C1.out.keep KX.out (by omega) (by omega);have D9:Hid (C3 W' w7.heap.size (.int .i64 dx) (.int .i64 dy) (.int .i64 dz)):=D8.out.keep hk' (by omega) (by omega);clear hj hj8 KX D8 C1 RE KW hb57 hbw2 hb58 hk' hy hR
                      gi_wp2
                      gi_loopw [94] (fun v94 w9=>∃m:Nat,m≤es.length∧v94= .int .i64 m∧J (P5++⟨dx,dy,dz⟩::(es.take m).map (fun e=>cross3 (short3 (cross3 e ⟨dx,dy,dz⟩)) e)) w9∧Hid (KpX bo bf W w9)∧Hid (RdX bo bf w9 E es)∧Hid (C3 w9 w4.heap.size (.int .i64 px) (.int .i64 py) (.int .i64 pz))∧Hid (C3 w9 w7.heap.size (.int .i64 dx) (.int .i64 dy) (.int .i64 dz))) (fun m _=>es.length-(intOf m).toNat)
                      case atStart=>exact⟨0,Nat.zero_le _,rfl,by simpa using hJ',KW9,RE9,C9,D9⟩
                      case round=>
                        clear hJ' KW9 RE9 C9 D9;obtain⟨w9,rfl⟩:∃w9:World,w9=wr:=⟨_,rfl⟩;obtain⟨m,hml,rfl,hj,KW,RE,C1,D1⟩:=hrel;by_cases hlt6:m<es.length
                        · obtain ⟨b3, o3, rfl, hbl3, e1, e2, e3⟩ := RE.out.1.get m hlt6
                          obtain⟨s,hs⟩:=nm_ (es[m]);rw[hs]at e1 e2 e3;have HSS:=Lh hs;clear hs;obtain⟨sx,sy,sz⟩:=s;dsimp only at e1 e2 e3;have HR1:Hid (rawC pa aa ea pb ab eb=(P5++⟨dx,dy,dz⟩::(es.take m).map (fun e=>cross3 (short3 (cross3 e ⟨dx,dy,dz⟩)) e))++cross3 (short3 (cross3 ⟨sx,sy,sz⟩ ⟨dx,dy,dz⟩)) ⟨sx,sy,sz⟩::((es.drop (m+1)).map (fun e=>cross3 (short3 (cross3 e ⟨dx,dy,dz⟩)) e)++RR)):=by
                            show rawC .. =_;rw[HRAW5.out,roundW_eq es _ _ _ HDD.out];have e2:es.map (fun e=>cross3 (short3 (cross3 e ⟨dx,dy,dz⟩)) e)=(es.take m).map (fun e=>cross3 (short3 (cross3 e ⟨dx,dy,dz⟩)) e)++cross3 (short3 (cross3 ⟨sx,sy,sz⟩ ⟨dx,dy,dz⟩)) ⟨sx,sy,sz⟩::(es.drop (m+1)).map (fun e=>cross3 (short3 (cross3 e ⟨dx,dy,dz⟩)) e):=by
                              conv=>lhs;rw[take_mid es m hlt6]
                              rw[List.map_append,List.map_cons,HSS.out]
                            rw[e2];simp only[List.append_assoc,List.cons_append]
                          have hbw:Below w9.heap.size w9 (w9.alloc (.cells #[.int .i64 sx, .int .i64 sy, .int .i64 sz] 23)):=(Below.refl _ _).alloc (Nat.le_refl _) _;have G1:Hid (C3 (w9.alloc (.cells #[.int .i64 sx, .int .i64 sy, .int .i64 sz] 23)) w7.heap.size (.int .i64 dx) (.int .i64 dy) (.int .i64 dz)):=D1.below hbw;have G2:Hid (C3 (w9.alloc (.cells #[.int .i64 sx, .int .i64 sy, .int .i64 sz] 23)) w9.heap.size (.int .i64 sx) (.int .i64 sy) (.int .i64 sz)):=C3.new w9 _ _ _ 23;have hj9:=abides_below HJ.out hj hbw;obtain⟨w10,hw10⟩:=nm_ (w9.alloc (.cells #[.int .i64 sx, .int .i64 sy, .int .i64 sz] 23));have hsz10:w10.heap.size=w9.heap.size+1:=by rw[←hw10];simp
                          gi_wp2
                          rw[hw10]at hbw G1 G2 hj9
                          (try simp only[hw10])
                          have KX10:Hid (KpX bo bf w9 w10):=KpX.of_below hbw;have KW10:Hid (KpX bo bf W w10):=KW.trans KX10.out;have RE10:Hid (RdX bo bf w10 (some ⟨b3,o3,none⟩) es):=RE.out.keep KX10.out;have C10:Hid (C3 w10 w4.heap.size (.int .i64 px) (.int .i64 py) (.int .i64 pz)):=C1.out.keep KX10.out (by have:=C1.out.lt;omega) (by have:=C1.out.lt;omega);have D10:Hid (C3 w10 w7.heap.size (.int .i64 dx) (.int .i64 dy) (.int .i64 dz)):=G1;have hsz9:W.heap.size≤w9.heap.size:=KW.out.1;clear hj KW RE C1 D1 e1 e2 e3 hbw KX10 hw10;have HJ9:=Lh hj9;clear hj9;have G1':=G1.drew;have G2':=G2.drew;clear G1 G2;have HB:Below w10.drew.heap.size w10.drew w10.drew:=Below.refl _ _;obtain⟨g10,g11,g12,_,_,_⟩:=G1'.below HB;obtain⟨g20,g21,g22,_,_,_⟩:=G2'.below HB;have hmix:Tryz.prog.follows .mixedOrders=true:=by kernel_rfl
                          obtain⟨c,hcc⟩:=nm_ (cross3 ⟨sx,sy,sz⟩ ⟨dx,dy,dz⟩);obtain⟨h,hhh⟩:=nm_ (short3 c);obtain⟨x,hxx⟩:=nm_ (cross3 h ⟨sx,sy,sz⟩);rw[hcc,hhh,hxx]at HR1;have hC1:Hid (∀w,CallsIn Fence.wide (n-1) Tryz.prog 108 #[.agg #[.int .i64 sx, .int .i64 sy, .int .i64 sz], .agg #[.int .i64 dx, .int .i64 dy, .int .i64 dz]] w fun e w'=>e= .returned (.agg #[.int .i64 c.x, .int .i64 c.y, .int .i64 c.z])∧Below w.heap.size w w'):=by
                            rw[←hcc];exact fun w=>(callsIn_wide (n:=n-1)).2 (cross_calls _ _ _ _ _ _ w)
                          have hC2:Hid (∀w,CallsIn Fence.wide (n-1) Tryz.prog 80 #[.agg #[.int .i64 c.x, .int .i64 c.y, .int .i64 c.z]] w fun e w'=>e= .returned (.agg #[.int .i64 h.x, .int .i64 h.y, .int .i64 h.z])∧Below w.heap.size w w'):=by
                            rw[←hhh];exact fun w=>(callsIn_wide (n:=n-1)).2 (short_calls _ _ _ w)
                          have hC3:Hid (∀w,CallsIn Fence.wide (n-1) Tryz.prog 108 #[.agg #[.int .i64 h.x, .int .i64 h.y, .int .i64 h.z], .agg #[.int .i64 sx, .int .i64 sy, .int .i64 sz]] w fun e w'=>e= .returned (.agg #[.int .i64 x.x, .int .i64 x.y, .int .i64 x.z])∧Below w.heap.size w w'):=by
                            rw[←hxx];exact fun w=>(callsIn_wide (n:=n-1)).2 (cross_calls _ _ _ _ _ _ w)
                          have HRN:Hid (∀w,J ((P5++⟨dx,dy,dz⟩::(es.take m).map (fun e=>cross3 (short3 (cross3 e ⟨dx,dy,dz⟩)) e))++[x]) w→J (P5++⟨dx,dy,dz⟩::(es.take (m+1)).map (fun e=>cross3 (short3 (cross3 e ⟨dx,dy,dz⟩)) e)) w):=by
                            intro w hw;rw[List.take_succ_eq_append_getElem hlt6,List.map_append,HSS.out,List.map_cons,List.map_nil,hcc,hhh,hxx];simpa[List.append_assoc]using hw
                          clear hcc hhh hxx HSS;obtain⟨c_x,c_y,c_z⟩:=c;obtain⟨h_x,h_y,h_z⟩:=h;obtain⟨xx,xy,xz⟩:=x;dsimp only at hC1 hC2 hC3;apply cut_
                          · intro END
                            gi_region_with_o (first
                              | (refine ⟨trivial, fun h => (by cases h), ?_⟩
                                 with_reducible refine CallsIn.mono (hC1.out _) ?_
                                 rintro e wa ⟨rfl,hb⟩
                                 have HB:=bthen HB hb
                                 obtain⟨g10,g11,g12,_,_,_⟩:=G1'.below HB
                                 obtain⟨g20,g21,g22,_,_,_⟩:=G2'.below HB)
                              | (refine ⟨trivial, fun h => (by cases h), ?_⟩
                                 with_reducible refine CallsIn.mono (hC2.out _) ?_
                                 rintro e wa ⟨rfl,hb⟩
                                 have HB:=bthen HB hb
                                 obtain⟨g10,g11,g12,_,_,_⟩:=G1'.below HB
                                 obtain⟨g20,g21,g22,_,_,_⟩:=G2'.below HB)
                              | (refine ⟨trivial, fun h => (by cases h), ?_⟩
                                 with_reducible refine CallsIn.mono (hC3.out _) ?_
                                 rintro e wa ⟨rfl,hb⟩
                                 have HB:=bthen HB hb
                                 have hb10:Below w10.heap.size w10 wa:=bthen ((Below.refl _ w10).drew) HB
                                 have hjA:=abides_below HJ.out HJ9.out hb10
                                 obtain⟨fn,tmps,assign,body,hy,hR⟩:=HY.out _ ⟨xx,xy,xz⟩ _ _ hjA HR1.out
                                 have hR2:=Lh hR
                                 clear hR
                                 dsimp only at hy)
                              | (refine ⟨fun h => (by cases h), hR2.mono ?_⟩
                                 intro e wz hez0
                                 obtain⟨b,rfl,hez⟩:∃b,e= .returned (.bool b)∧Hid (if b=true then J ((P5++⟨dx,dy,dz⟩::(es.take m).map (fun e=>cross3 (short3 (cross3 e ⟨dx,dy,dz⟩)) e))++[⟨xx,xy,xz⟩]) wz∧KpX bo bf wa wz else Jx ((P5++⟨dx,dy,dz⟩::(es.take m).map (fun e=>cross3 (short3 (cross3 e ⟨dx,dy,dz⟩)) e))++[⟨xx,xy,xz⟩]) wz):=by
                                   rcases hez0 with⟨rfl,h1⟩|⟨rfl,h1⟩
                                   · exact⟨true,rfl,h1⟩
                                   · exact⟨false,rfl,h1⟩
                                 clear hez0))
                            all_goals (
                              clear hy hR2 HB hb g10 g11 g12 g20 g21 g22
                              clear hjA
                              revert hez
                              revert b
                              revert wz
                              revert hb10
                              revert wa
                              exact END.out)
                          · clear hC1 hC2 hC3 G1' G2' g10 g11 g12 g20 g21 g22 HB
                            intro wa hb10 wz b hez;cases b
                            · have hez := hez.out
                              rw[if_neg (by decide)]at hez;have hJx':=Lh hez;clear hez
                              gi_wp2
                              rw[Exit.noGoto_normal]
                              go_end0
                              exact⟨⟨_,rfl⟩, .inr ⟨_,pre_mid HR1.out,hJx'.out⟩⟩
                            · have hez := hez.out
                              rw[if_pos rfl]at hez;have KA:Hid (KpX bo bf w10 wz):=(KpX.of_below hb10).trans hez.2;have KW12:Hid (KpX bo bf W wz):=KW10.trans KA.out;have RE12:Hid (RdX bo bf wz (some ⟨b3,o3,none⟩) es):=RE10.out.keep KA.out;have C12:Hid (C3 wz w4.heap.size (.int .i64 px) (.int .i64 py) (.int .i64 pz)):=C10.out.keep KA.out (by have:=C10.out.lt;omega) (by have:=C10.out.lt;omega);have D12:Hid (C3 wz w7.heap.size (.int .i64 dx) (.int .i64 dy) (.int .i64 dz)):=D10.out.keep KA.out (by omega) (by omega);have hJ':=Lh hez.1;clear hez
                              gi_wp2
                              go_roundw
                              case rel=>exact⟨m+1,by omega,by go_num,HRN.out _ hJ'.out,KW12,RE12,C12,D12⟩
                              case measure=>simp[intOf];omega
                        · obtain rfl : m = es.length := by omega
                          rw[List.take_length]at hj
                          gi_wp2
                          go_roundw
                          case rel=>
                            refine⟨j+1,by omega,by go_num,?_,KW,RE,C1⟩;rw[flat_snoc pb es _ j hlt5,HQ.out,roundW_eq es _ _ _ HDD.out];simpa[←HP5.out,List.append_assoc]using hj
                          case measure=>simp[intOf];omega
                    · gi_wp2
                      rw[Exit.noGoto_normal]
                      go_end0
                      exact⟨⟨_,rfl⟩, .inr ⟨_,pre_mid HR1.out,hJx'⟩⟩
                  · obtain rfl : j = pb.length := by omega
                    rw[List.take_length]at hj
                    gi_wp2
                    go_roundw
                    case rel=>exact⟨i+1,by omega,by go_num,by rw[pointW_snoc pa pb es i hlt4,HP.out];exact hj,KW,RE⟩
                    case measure=>simp[intOf];omega
              · obtain rfl : i = pa.length := by omega
                rw[List.take_length]at hj
                gi_wp2
                rw[Exit.noGoto_normal]
                go_end0
                exact⟨⟨_,rfl⟩, .inl ⟨_,HRAW.out.symm,hj⟩⟩
end Go.Proofs.YtckdhahceelckaaGreat.G
namespace Go.Proofs.YtckdhahceelckaaGreat.G
open Go.RowKit Go.Proofs.YtckdhahceelckaaGreatW.PrintWords Go.Proofs.YtckdhahceelckaaGreatW.PrintLast Go.Proofs.YtckdhahceelckaaGreatW.PrintMore
attribute [local go_sem] max2_mx min2_mn max_two min_two max_three min_three max_four min_four
attribute [local go_sem high] eqA23
theorem beyond1_calls (x y z n:Int)(B:Nat)(w:World)(hc:w.cell? ⟨B,0,none⟩=some (.int .i64 n))(hn1:0≤n)(hn2:n≤9223372036854775807):
  Calls Tryz.prog 144 #[.agg #[.int .i64 x, .int .i64 y, .int .i64 z], .pointer (some ⟨B,0,none⟩)] w fun e w'=>e= .returned (.bool (far3 n ⟨x,y,z⟩))∧Below w.heap.size w w':=by
 have hB:=World.block_lt_of_cell? w _ hc;have hc2:=(World.cell?_alloc_lt w (.cells #[.int .i64 x, .int .i64 y, .int .i64 z] 23) ⟨B,0,none⟩ hB).trans hc;have hw:wrap64 (-n)= -n:=w64_id _ (by omega) (by omega);unfold far3;rw[hw];clear hw;go_enter Tryz.func144,Tryz.ntmps144;go_wp2
 all_goals (go_ret;exact⟨by simp[*],((Below.refl _ _).alloc (Nat.le_refl _) _)⟩)
theorem beyondF_calls (n:Int)(w:World):
  Calls Tryz.prog 105 #[.int .i64 n] w fun e w'=>e= .returned (.func (.func 144) #[] #[.pointer (some ⟨w.heap.size,0,none⟩)])∧w.alloc (.cells #[.int .i64 n] 3)=w':=by
 go_enter Tryz.func105,Tryz.ntmps105;go_wp2
 go_ret
 exact⟨rfl,rfl⟩
def idxF (n:Int)(l:List P3):Int:=match l.findIdx? (far3 n)with|some i=>(i:Int)|none=> -1
theorem idxF_some {n l}{i:Nat}(h:l.findIdx? (far3 n)=some i):idxF n l=i:=by unfold idxF;rw[h]
theorem idxF_none {n l}(h:l.findIdx? (far3 n)=none):idxF n l= -1:=by unfold idxF;rw[h]
theorem idxF_any (n l):decide (0≤idxF n l)=l.any (far3 n):=by
 cases h:l.findIdx? (far3 n)with
 |none=>
  rw[idxF_none h];rw[List.findIdx?_eq_none_iff]at h;have:l.any (far3 n)=false:=by rw[List.any_eq_false];intro x hx;rw[h x hx];simp
  rw[this];rfl
 |some i=>
  rw[idxF_some h];rw[List.findIdx?_eq_some_iff_getElem]at h;obtain⟨hi,h1,_⟩:=h;have:l.any (far3 n)=true:=by rw[List.any_eq_true];exact⟨_,List.getElem_mem hi,h1⟩
  rw[this];simp
theorem index_calls (l:List P3)(A:Option Addr)(c:Nat)(n:Int)(B:Nat)(w:World)(hr:Rd w A l)(hc:l.length≤c)(hm:l.length<9223372036854775807)(hB:w.cell? ⟨B,0,none⟩=some (.int .i64 n))(hn1:0≤n)(hn2:n≤9223372036854775807):
  Calls Tryz.prog 143 #[.slice A l.length c, .func (.func 144) #[] #[.pointer (some ⟨B,0,none⟩)]] w fun e w'=>e= .returned (.int .i64 (idxF n l))∧Below w.heap.size w w':=by
 have hBl:=World.block_lt_of_cell? w _ hB;have HR:=Lh hr;clear hr;go_enter Tryz.func143,Tryz.ntmps143;go_wp2;go_loopw [5,8] (fun v5 v8 wr=>∃k:Nat,k≤l.length∧v8= .int .i64 k∧Hid (∀i,i<k→∀p,l[i]?=some p→far3 n p=false)∧Below w.heap.size w wr) (fun _ i _=>l.length-(intOf i).toNat)
 case atStart=>exact⟨0,Nat.zero_le _,rfl,fun i hi=>absurd hi (by omega),Below.refl _ _⟩
 case round=>
  obtain⟨k,hk,rfl,hno,hbr⟩:=hrel;by_cases hlt:k<l.length
  ·obtain⟨b,o,rfl,hbl,h1,h2,h3⟩:=HR.out.get k hlt;have e1:=(hbr.cell (p:=⟨b,o+k*3,none⟩) hbl).trans h1;have e2:=(hbr.cell (p:=⟨b,o+k*3+1,none⟩) hbl).trans h2;have e3:=(hbr.cell (p:=⟨b,o+k*3+2,none⟩) hbl).trans h3;have eB:=(hbr.cell (p:=⟨B,0,none⟩) hBl).trans hB;clear h1 h2 h3;obtain⟨p,hp⟩:=nm_ (l[k]);rw[hp]at e1 e2 e3;have HP:=Lh hp;clear hp;obtain⟨px,py,pz⟩:=p;dsimp only at e1 e2 e3
   cases hf:far3 n ⟨px,py,pz⟩with
   |true=>
    go_wp2_with(go_at_call 144;refine(beyond1_calls _ _ _ _ _ _ eB hn1 hn2).mono ?_;rintro e w3 ⟨rfl,hb3⟩;rw[hf])
    go_ret
    refine⟨ret_int ?_,bthen hbr hb3⟩;have:l.findIdx? (far3 n)=some k:=by
     rw[List.findIdx?_eq_some_iff_getElem];refine⟨hlt,by rw[HP.out];exact hf,fun j hj=>?_⟩;rw[hno.out j hj _ (List.getElem?_eq_getElem (by omega))];simp
    exact(idxF_some this).symm
   |false=>
    go_wp2_with(go_at_call 144;refine(beyond1_calls _ _ _ _ _ _ eB hn1 hn2).mono ?_;rintro e w3 ⟨rfl,hb3⟩;rw[hf])
    go_roundw
    case rel=>
     refine⟨k+1,by omega,by go_num,fun i hi p' hp'=>?_,bthen hbr hb3⟩;by_cases e:i=k
     ·subst e;rw[List.getElem?_eq_getElem hlt,HP.out]at hp';cases hp';exact hf
     ·exact hno.out i (by omega) p' hp'
    case measure=>simp[intOf];omega
  ·obtain rfl:k=l.length:=by omega
   go_wp2
   go_ret
   refine⟨ret_int ?_,hbr⟩;have:l.findIdx? (far3 n)=none:=by
    rw[List.findIdx?_eq_none_iff];intro x hx;obtain⟨i,hi,rfl⟩:=List.getElem_of_mem hx;exact hno.out i hi _ (List.getElem?_eq_getElem hi)
   exact(idxF_none this).symm
theorem contains_calls (l:List P3)(A:Option Addr)(c:Nat)(n:Int)(B:Nat)(w:World)(hr:Rd w A l)(hc:l.length≤c)(hm:l.length<9223372036854775807)(hB:w.cell? ⟨B,0,none⟩=some (.int .i64 n))(hn1:0≤n)(hn2:n≤9223372036854775807):
  Calls Tryz.prog 104 #[.slice A l.length c, .func (.func 144) #[] #[.pointer (some ⟨B,0,none⟩)]] w fun e w'=>e= .returned (.bool (l.any (far3 n)))∧Below w.heap.size w w':=by
 go_enter Tryz.func104,Tryz.ntmps104;go_wp2_with(go_at_call 143;refine(index_calls l _ _ n _ _ hr hc hm hB hn1 hn2).mono ?_;rintro e w3 ⟨rfl,hb3⟩)
 go_ret
 exact⟨by rw[←idxF_any];rfl,hb3⟩
end Go.Proofs.YtckdhahceelckaaGreat.G
namespace Go.Proofs.YtckdhahceelckaaGreat.G
open Go.RowKit
theorem minus3_eq (p q:P3)(hp:in3 1073741824 p)(hq:in3 1073741824 q):minus3 p q=⟨p.x-q.x,p.y-q.y,p.z-q.z⟩:=by
 unfold in3 at hp hq;unfold minus3;rw[w64_id _ (by omega) (by omega),w64_id _ (by omega) (by omega),w64_id _ (by omega) (by omega)]
theorem rawC_balls (p q:P3):rawC [p] [] [] [q] [] []=[short3 (minus3 q p)]:=by
 unfold rawC edgeW pointW roundW;rw[if_neg (by simp[YtckdhahceelckaaGreatW.PrintWords.mn])];rfl
end Go.Proofs.YtckdhahceelckaaGreat.G
