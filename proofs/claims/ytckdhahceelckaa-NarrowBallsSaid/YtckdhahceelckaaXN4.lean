import Derived.Test.YtckdhahceelckaaXN3
import Derived.Test.YtckdhahceelckaaXN1
import Derived.Outline
namespace Go.Proofs.Ytckdhahceelckaa.G
open Go.RowKit Go.Proofs.YtckdhahceelckaaW.PrintWords Go.Proofs.YtckdhahceelckaaW.PrintLast Go.Proofs.YtckdhahceelckaaW.PrintMore
attribute [local go_sem] max2_mx min2_mn max_two min_two max_three min_three max_four min_four
attribute [local go_sem high] eqA23
set_option linter.unusedVariables false
set_option linter.unusedSimpArgs false

theorem beyond1_calls (x y z n : Int) (B : Nat) (w : World) (hc : w.cell? ⟨B, 0, none⟩ = some (.int .i64 n)) (hn1 : 0 ≤ n) (hn2 : n ≤ 9223372036854775807) :
    Calls Try.prog 121 #[.agg #[.int .i64 x, .int .i64 y, .int .i64 z], .pointer (some ⟨B, 0, none⟩)] w fun e w' => e = .returned (.bool (far3 n ⟨x, y, z⟩)) ∧ Below w.heap.size w w' := by
  have hB := World.block_lt_of_cell? w _ hc
  have hc2 := (World.cell?_alloc_lt w (.cells #[.int .i64 x, .int .i64 y, .int .i64 z] 23) ⟨B, 0, none⟩ hB).trans hc
  have hw : wrap64 (-n) = -n := w64_id _ (by omega) (by omega)
  unfold far3
  rw [hw]
  clear hw
  go_enter Try.func121, Try.ntmps121
  go_wp2
  all_goals (go_ret; exact ⟨by simp [*], ((Below.refl _ _).alloc (Nat.le_refl _) _)⟩)

theorem beyondF_calls (n : Int) (w : World) :
    Calls Try.prog 65 #[.int .i64 n] w fun e w' => e = .returned (.func (.func 121) #[] #[.pointer (some ⟨w.heap.size, 0, none⟩)]) ∧ w.alloc (.cells #[.int .i64 n] 3) = w' := by
  go_enter Try.func65, Try.ntmps65
  go_wp2
  go_ret
  exact ⟨rfl, rfl⟩

def idxF (n : Int) (l : List P3) : Int := match l.findIdx? (far3 n) with | some i => (i : Int) | none => -1
theorem idxF_some {n l} {i : Nat} (h : l.findIdx? (far3 n) = some i) : idxF n l = i := by unfold idxF; rw [h]
theorem idxF_none {n l} (h : l.findIdx? (far3 n) = none) : idxF n l = -1 := by unfold idxF; rw [h]
theorem idxF_any (n l) : decide (0 ≤ idxF n l) = l.any (far3 n) := by
  cases h : l.findIdx? (far3 n) with
  | none =>
    rw [idxF_none h]
    rw [List.findIdx?_eq_none_iff] at h
    have : l.any (far3 n) = false := by rw [List.any_eq_false]; intro x hx; rw [h x hx]; simp
    rw [this]; rfl
  | some i =>
    rw [idxF_some h]
    rw [List.findIdx?_eq_some_iff_getElem] at h
    obtain ⟨hi, h1, _⟩ := h
    have : l.any (far3 n) = true := by rw [List.any_eq_true]; exact ⟨_, List.getElem_mem hi, h1⟩
    rw [this]; simp
set_option maxHeartbeats 1000000 in
theorem index_calls (l : List P3) (A : Option Addr) (c : Nat) (n : Int) (B : Nat) (w : World) (hr : Rd w A l) (hc : l.length ≤ c) (hm : l.length < 9223372036854775807) (hB : w.cell? ⟨B, 0, none⟩ = some (.int .i64 n)) (hn1 : 0 ≤ n) (hn2 : n ≤ 9223372036854775807) :
    Calls Try.prog 122 #[.slice A l.length c, .func (.func 121) #[] #[.pointer (some ⟨B, 0, none⟩)]] w fun e w' => e = .returned (.int .i64 (idxF n l)) ∧ Below w.heap.size w w' := by
  have hBl := World.block_lt_of_cell? w _ hB
  have HR := Lib.hid hr
  clear hr
  go_enter Try.func122, Try.ntmps122
  go_wp2
  go_loopw [5, 8] (fun v5 v8 wr => ∃ k : Nat, k ≤ l.length ∧ v8 = .int .i64 k ∧ Hid (∀ i, i < k → ∀ p, l[i]? = some p → far3 n p = false) ∧ Below w.heap.size w wr) (fun _ i _ => l.length - (intOf i).toNat)
  case atStart => exact ⟨0, Nat.zero_le _, rfl, fun i hi => absurd hi (by omega), Below.refl _ _⟩
  case round =>
    obtain ⟨k, hk, rfl, hno, hbr⟩ := hrel
    by_cases hlt : k < l.length
    · obtain ⟨b, o, rfl, hbl, h1, h2, h3⟩ := HR.out.get k hlt
      have e1 := (hbr.cell (p := ⟨b, o + k * 3, none⟩) hbl).trans h1
      have e2 := (hbr.cell (p := ⟨b, o + k * 3 + 1, none⟩) hbl).trans h2
      have e3 := (hbr.cell (p := ⟨b, o + k * 3 + 2, none⟩) hbl).trans h3
      have eB := (hbr.cell (p := ⟨B, 0, none⟩) hBl).trans hB
      clear h1 h2 h3
      obtain ⟨p, hp⟩ : ∃ p, l[k] = p := ⟨_, rfl⟩
      rw [hp] at e1 e2 e3
      have HP := Lib.hid hp
      clear hp
      obtain ⟨px, py, pz⟩ := p
      dsimp only at e1 e2 e3
      cases hf : far3 n ⟨px, py, pz⟩ with
      | true =>
        go_wp2_with (go_at_call 121; refine (beyond1_calls _ _ _ _ _ _ eB hn1 hn2).mono ?_; rintro e w3 ⟨rfl, hb3⟩; rw [hf])
        go_ret
        refine ⟨ret_int ?_, bthen hbr hb3⟩
        have : l.findIdx? (far3 n) = some k := by
          rw [List.findIdx?_eq_some_iff_getElem]
          refine ⟨hlt, by rw [HP.out]; exact hf, fun j hj => ?_⟩
          rw [hno.out j hj _ (List.getElem?_eq_getElem (by omega))]; simp
        exact (idxF_some this).symm
      | false =>
        go_wp2_with (go_at_call 121; refine (beyond1_calls _ _ _ _ _ _ eB hn1 hn2).mono ?_; rintro e w3 ⟨rfl, hb3⟩; rw [hf])
        go_roundw
        case rel =>
          refine ⟨k + 1, by omega, by go_num, fun i hi p' hp' => ?_, bthen hbr hb3⟩
          by_cases e : i = k
          · subst e
            rw [List.getElem?_eq_getElem hlt, HP.out] at hp'
            cases hp'; exact hf
          · exact hno.out i (by omega) p' hp'
        case measure => simp [intOf]; omega
    · obtain rfl : k = l.length := by omega
      go_wp2
      go_ret
      refine ⟨ret_int ?_, hbr⟩
      have : l.findIdx? (far3 n) = none := by
        rw [List.findIdx?_eq_none_iff]
        intro x hx
        obtain ⟨i, hi, rfl⟩ := List.getElem_of_mem hx
        exact hno.out i hi _ (List.getElem?_eq_getElem hi)
      exact (idxF_none this).symm

theorem contains_calls (l : List P3) (A : Option Addr) (c : Nat) (n : Int) (B : Nat) (w : World) (hr : Rd w A l) (hc : l.length ≤ c) (hm : l.length < 9223372036854775807) (hB : w.cell? ⟨B, 0, none⟩ = some (.int .i64 n)) (hn1 : 0 ≤ n) (hn2 : n ≤ 9223372036854775807) :
    Calls Try.prog 68 #[.slice A l.length c, .func (.func 121) #[] #[.pointer (some ⟨B, 0, none⟩)]] w fun e w' => e = .returned (.bool (l.any (far3 n))) ∧ Below w.heap.size w w' := by
  go_enter Try.func68, Try.ntmps68
  go_wp2_with (go_at_call 122; refine (index_calls l _ _ n _ _ hr hc hm hB hn1 hn2).mono ?_; rintro e w3 ⟨rfl, hb3⟩)
  go_ret
  exact ⟨by rw [← idxF_any]; rfl, hb3⟩
end Go.Proofs.Ytckdhahceelckaa.G
