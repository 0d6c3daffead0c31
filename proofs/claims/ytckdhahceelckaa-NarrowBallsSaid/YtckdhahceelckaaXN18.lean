import Derived.Test.YtckdhahceelckaaXN17
namespace Go.Proofs.Ytckdhahceelckaa.G
open Go.RowKit Go.Proofs.YtckdhahceelckaaW.PrintWords Go.Proofs.YtckdhahceelckaaW.PrintLast Go.Proofs.YtckdhahceelckaaW.PrintMore
attribute [local go_sem] max2_mx min2_mn max_two min_two max_three min_three max_four min_four
attribute [local go_sem high] eqA23
set_option linter.unusedVariables false
set_option linter.unusedSimpArgs false

theorem dbl_step (p : P3) (h : ¬ (far3 524288 p = true ∨ p = ⟨0, 0, 0⟩)) : dbl3 p = dbl3 (two3 p) := by rw [dbl3, dif_neg h]
theorem dbl_stop (p : P3) (h : far3 524288 p = true ∨ p = ⟨0, 0, 0⟩) : dbl3 p = p := by rw [dbl3, dif_pos h]
theorem long_ten : long3 (short3 (minus3 ⟨10, 0, 0⟩ ⟨0, 0, 0⟩)) = ⟨1048576, 0, 0⟩ := by
  have h1 : minus3 ⟨10, 0, 0⟩ ⟨0, 0, 0⟩ = ⟨10, 0, 0⟩ := by decide +kernel
  have h2 : halve3 ⟨10, 0, 0⟩ = ⟨10, 0, 0⟩ := by rw [halve3, dif_neg (by decide +kernel)]
  have h3 : halve3 ⟨1, 0, 0⟩ = ⟨1, 0, 0⟩ := by rw [halve3, dif_neg (by decide +kernel)]
  have b1 : bare3 ⟨10, 0, 0⟩ = ⟨1, 0, 0⟩ := by decide +kernel
  have b2 : bare3 ⟨1, 0, 0⟩ = ⟨1, 0, 0⟩ := by decide +kernel
  have s1 : short3 ⟨10, 0, 0⟩ = ⟨1, 0, 0⟩ := by unfold short3; rw [if_neg (by decide +kernel), b1, h3, b2]
  have s2 : short3 ⟨1, 0, 0⟩ = ⟨1, 0, 0⟩ := by unfold short3; rw [if_neg (by decide +kernel), b2, h3, b2]
  rw [h1, s1]
  unfold long3
  rw [s2]
  rw [dbl_step ⟨1, 0, 0⟩ (by decide +kernel), show two3 ⟨1, 0, 0⟩ = ⟨2, 0, 0⟩ from by decide +kernel]
  rw [dbl_step ⟨2, 0, 0⟩ (by decide +kernel), show two3 ⟨2, 0, 0⟩ = ⟨4, 0, 0⟩ from by decide +kernel]
  rw [dbl_step ⟨4, 0, 0⟩ (by decide +kernel), show two3 ⟨4, 0, 0⟩ = ⟨8, 0, 0⟩ from by decide +kernel]
  rw [dbl_step ⟨8, 0, 0⟩ (by decide +kernel), show two3 ⟨8, 0, 0⟩ = ⟨16, 0, 0⟩ from by decide +kernel]
  rw [dbl_step ⟨16, 0, 0⟩ (by decide +kernel), show two3 ⟨16, 0, 0⟩ = ⟨32, 0, 0⟩ from by decide +kernel]
  rw [dbl_step ⟨32, 0, 0⟩ (by decide +kernel), show two3 ⟨32, 0, 0⟩ = ⟨64, 0, 0⟩ from by decide +kernel]
  rw [dbl_step ⟨64, 0, 0⟩ (by decide +kernel), show two3 ⟨64, 0, 0⟩ = ⟨128, 0, 0⟩ from by decide +kernel]
  rw [dbl_step ⟨128, 0, 0⟩ (by decide +kernel), show two3 ⟨128, 0, 0⟩ = ⟨256, 0, 0⟩ from by decide +kernel]
  rw [dbl_step ⟨256, 0, 0⟩ (by decide +kernel), show two3 ⟨256, 0, 0⟩ = ⟨512, 0, 0⟩ from by decide +kernel]
  rw [dbl_step ⟨512, 0, 0⟩ (by decide +kernel), show two3 ⟨512, 0, 0⟩ = ⟨1024, 0, 0⟩ from by decide +kernel]
  rw [dbl_step ⟨1024, 0, 0⟩ (by decide +kernel), show two3 ⟨1024, 0, 0⟩ = ⟨2048, 0, 0⟩ from by decide +kernel]
  rw [dbl_step ⟨2048, 0, 0⟩ (by decide +kernel), show two3 ⟨2048, 0, 0⟩ = ⟨4096, 0, 0⟩ from by decide +kernel]
  rw [dbl_step ⟨4096, 0, 0⟩ (by decide +kernel), show two3 ⟨4096, 0, 0⟩ = ⟨8192, 0, 0⟩ from by decide +kernel]
  rw [dbl_step ⟨8192, 0, 0⟩ (by decide +kernel), show two3 ⟨8192, 0, 0⟩ = ⟨16384, 0, 0⟩ from by decide +kernel]
  rw [dbl_step ⟨16384, 0, 0⟩ (by decide +kernel), show two3 ⟨16384, 0, 0⟩ = ⟨32768, 0, 0⟩ from by decide +kernel]
  rw [dbl_step ⟨32768, 0, 0⟩ (by decide +kernel), show two3 ⟨32768, 0, 0⟩ = ⟨65536, 0, 0⟩ from by decide +kernel]
  rw [dbl_step ⟨65536, 0, 0⟩ (by decide +kernel), show two3 ⟨65536, 0, 0⟩ = ⟨131072, 0, 0⟩ from by decide +kernel]
  rw [dbl_step ⟨131072, 0, 0⟩ (by decide +kernel), show two3 ⟨131072, 0, 0⟩ = ⟨262144, 0, 0⟩ from by decide +kernel]
  rw [dbl_step ⟨262144, 0, 0⟩ (by decide +kernel), show two3 ⟨262144, 0, 0⟩ = ⟨524288, 0, 0⟩ from by decide +kernel]
  rw [dbl_step ⟨524288, 0, 0⟩ (by decide +kernel), show two3 ⟨524288, 0, 0⟩ = ⟨1048576, 0, 0⟩ from by decide +kernel]
  exact dbl_stop _ (by decide +kernel)
theorem awake_apart : apartF [⟨0, 0, 0⟩] [] [] 2 [⟨10, 0, 0⟩] [] [] 3 = (⟨1048576, 0, 0⟩, 5) := by
  have hf : fl3 ⟨1048576, 0, 0⟩ = 1048576 := by
    have h1 : (dotI ⟨1048576, 0, 0⟩ ⟨1048576, 0, 0⟩).toNat = 1048576 * 1048576 := by decide +kernel
    unfold fl3
    rw [h1, ← isq_unique (1048576 * 1048576) 1048576 (by decide +kernel) (by decide +kernel)]; rfl
  have hc : ce3 ⟨1048576, 0, 0⟩ = 1048576 := by unfold ce3; rw [hf]; decide +kernel
  have hr : rawC [⟨0, 0, 0⟩] [] [] [⟨10, 0, 0⟩] [] [] = [short3 (minus3 ⟨10, 0, 0⟩ ⟨0, 0, 0⟩)] := by
    unfold rawC edgeW pointW roundW
    rw [if_neg (by decide +kernel)]; rfl
  unfold apartF
  rw [hr]
  simp only [List.headD_cons, List.tail_cons, apF, List.foldl_cons, List.foldl_nil, apStep, long_ten]
  have g : gapsF ⟨1048576, 0, 0⟩ ⟨0, 0, 0⟩ [] 2 ⟨10, 0, 0⟩ [] 3 = (5, -15) := by
    unfold gapsF
    rw [hf, hc]
    decide +kernel
  rw [g]
  decide +kernel
theorem sz_one : sz3 ⟨1, 1, 0⟩ = (1, 2) := by decide +kernel
end Go.Proofs.Ytckdhahceelckaa.G
