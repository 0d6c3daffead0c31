import Derived.Test.YtckdhahceelckaaXN12
import Derived.Outline
namespace Go.Proofs.Ytckdhahceelckaa.G
open Go.RowKit Go.Proofs.YtckdhahceelckaaW.PrintWords Go.Proofs.YtckdhahceelckaaW.PrintLast Go.Proofs.YtckdhahceelckaaW.PrintMore
attribute [local go_sem] max2_mx min2_mn max_two min_two max_three min_three max_four min_four
attribute [local go_sem high] eqA23
set_option linter.unusedVariables false
set_option linter.unusedSimpArgs false

def csz (n0 n1 k : Nat) : Nat := if k = 0 then 0 else if k = 1 then n0 else n0 + n1
def cpt (l0 l1 : List P3) (k : Nat) : List P3 := if k = 0 then [] else if k = 1 then l0 else l0 ++ l1
def PtsPost (l : List P3) (w : World) (e : Ending) (w' : World) : Prop := ∃ A c, e = .returned (.slice A l.length c) ∧ l.length ≤ c ∧ Rd w' A l ∧ Below w.heap.size w w' ∧ (∀ ad, A = some ad → w.heap.size ≤ ad.block)
set_option maxHeartbeats 2000000 in
set_option maxRecDepth 100000 in
theorem concat_calls (l0 l1 : List P3) (n0 n1 : Nat) (A0 A1 : Option Addr) (c0 c1 g : Nat) (w : World) (hn0 : l0.length = n0) (hn1 : l1.length = n1) (hg0 : w.cell? ⟨g, 0, none⟩ = some (.slice A0 n0 c0)) (hg1 : w.cell? ⟨g, 1, none⟩ = some (.slice A1 n1 c1)) (h0 : Rd w A0 l0) (h1 : Rd w A1 l1) (hb0 : n0 ≤ 40000) (hb1 : n1 ≤ 40000) :
    Calls Try.prog 116 #[.slice (some ⟨g, 0, none⟩) 2 2] w (PtsPost (l0 ++ l1) w) := by
  have H0 := Lib.hid h0
  have H1 := Lib.hid h1
  have N0 := Lib.hid hn0
  have N1 := Lib.hid hn1
  have hgl := World.block_lt_of_cell? w _ hg0
  have HG0 := Lib.hid hg0
  have HG1 := Lib.hid hg1
  clear h0 h1 hn0 hn1 hg0 hg1
  go_enter Try.func116, Try.ntmps116
  go_wp2
  go_loopw [3, 5, 11] (fun v3 v5 v11 wr => ∃ k : Nat, k ≤ 2 ∧ v11 = .int .i64 k ∧ v3 = .int .i64 (csz n0 n1 k) ∧ Below w.heap.size w wr) (fun _ _ i _ => 2 - (intOf i).toNat)
  case atStart => exact ⟨0, by omega, rfl, rfl, Below.refl _ _⟩
  case round =>
    obtain ⟨k, hk, rfl, rfl, hbr⟩ := hrel
    have e0 := (hbr.cell (p := ⟨g, 0, none⟩) hgl).trans HG0.out
    have e1 := (hbr.cell (p := ⟨g, 1, none⟩) hgl).trans HG1.out
    have hc : k = 0 ∨ k = 1 ∨ k = 2 := by omega
    rcases hc with rfl | rfl | rfl
    · simp only [csz, if_true]
      go_wp2
      go_roundw
      case rel => exact ⟨1, by omega, rfl, by simp [csz], hbr⟩
      case measure => simp [intOf]
    · simp only [csz, if_true, if_neg (show ¬ (1 : Nat) = 0 by omega)]
      go_wp2
      go_roundw
      case rel => exact ⟨2, by omega, rfl, by simp [csz], hbr⟩
      case measure => simp [intOf]
    · simp only [csz, if_neg (show ¬ (2 : Nat) = 0 by omega), if_neg (show ¬ (2 : Nat) = 1 by omega)]
      clear e0 e1
      go_wp2_with fail
      have hgr := grow_calls (n0 + n1) wr (by omega)
      rw [Int.natCast_add] at hgr
      refine hgr.mono ?_
      rintro e w2 ⟨v, rfl, hv, hb2⟩
      have hB2 : Below w.heap.size w w2 := bthen hbr hb2
      have hv0 : OwnP w2 w.heap.size v [] := own_weaken hv hbr.size
      clear hgr hv hb2
      go_wp2
      clear hbr
      go_loopw [6, 8, 27] (fun v6 v8 v27 wr => ∃ k : Nat, k ≤ 2 ∧ v27 = .int .i64 k ∧ Hid (OwnP wr w.heap.size v6 (cpt l0 l1 k)) ∧ Hid (Below w.heap.size w wr)) (fun _ _ i _ => 2 - (intOf i).toNat)
      case atStart => exact ⟨0, by omega, rfl, hv0, hB2⟩
      case round =>
        clear hv0 hB2
        obtain ⟨k, hk, rfl, hv, hbr⟩ := hrel
        have hbr2 := hbr.out
        have e0 := (hbr2.cell (p := ⟨g, 0, none⟩) hgl).trans HG0.out
        have e1 := (hbr2.cell (p := ⟨g, 1, none⟩) hgl).trans HG1.out
        have hc : k = 0 ∨ k = 1 ∨ k = 2 := by omega
        rcases hc with rfl | rfl | rfl
        · go_wp2_with (at_builtin; refine append_pts w.heap.size rfl _ _ rfl _ [] l0 A0 _ _ rfl rfl hv.out (H0.out.below hbr2) N0.out (by simp; omega) hbr2.size ?_; intro v2 w3 hv2 hg2)
          go_roundw
          case rel => exact ⟨1, by omega, rfl, hv2, hbr2.grown hg2 hbr2.size (fun k hk => hv.out.base_ k hk)⟩
          case measure => simp [intOf]
        · go_wp2_with (at_builtin; refine append_pts w.heap.size rfl _ _ rfl _ l0 l1 A1 _ _ rfl rfl hv.out (H1.out.below hbr2) N1.out (by rw [N0.out]; omega) hbr2.size ?_; intro v2 w3 hv2 hg2)
          go_roundw
          case rel => exact ⟨2, by omega, rfl, hv2, hbr2.grown hg2 hbr2.size (fun k hk => hv.out.base_ k hk)⟩
          case measure => simp [intOf]
        · clear e0 e1
          go_wp2
          go_ret
          obtain ⟨A, c, rfl, hlc, hrd, hbs⟩ := hv.out.rd
          exact ⟨A, c, rfl, hlc, hrd, hbr2, hbs⟩
end Go.Proofs.Ytckdhahceelckaa.G
