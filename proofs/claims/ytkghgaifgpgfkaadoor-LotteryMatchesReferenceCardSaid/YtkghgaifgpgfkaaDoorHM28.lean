/- Lemmas and walks for lotteryMatchesReferenceCard_holds (part 28), without what it does not use. -/
import Derived.Test.YtkghgaifgpgfkaaDoorHM22
import Derived.Deep.AppendSrc
import Derived.Deep.RegionLaw
import Derived.Deep.Upon
import Derived.Laws.AppendOwn
section
namespace Go.Proofs.YtkghgaifgpgfkaaDoor.PL
open Go.RowKit Go.Proofs.YtkghgaifgpgfkaaDoorW.PrintWords Go.Proofs.YtkghgaifgpgfkaaDoorW.PrintLast Go.Proofs.YtkghgaifgpgfkaaDoorW.PrintMore
set_option linter.unusedVariables false
set_option linter.unusedSimpArgs false
theorem reps_append {α : Type} {R : α → List Value → Prop} {size : Nat} {xs ys : List α} {cs ds : List Value} (h : Reps R size xs cs) (g : Reps R size ys ds) : Reps R size (xs ++ ys) (cs ++ ds) := by
  refine ⟨by rw [List.length_append, h.1, g.1, List.length_append, Nat.add_mul], fun j q hq => ?_⟩
  by_cases hj : j < xs.length
  · rw [List.getElem?_append_left hj] at hq
    have := h.2 j q hq
    have hle : j * size + size ≤ cs.length := by rw [h.1, ← Nat.succ_mul]; exact Nat.mul_le_mul_right _ hj
    rw [List.drop_append_of_le_length (by omega), List.take_append_of_le_length (by rw [List.length_drop]; omega)]
    exact this
  · rw [List.getElem?_append_right (by omega)] at hq
    have := g.2 _ q hq
    have e : j * size = cs.length + (j - xs.length) * size := by
      rw [h.1, ← Nat.add_mul]; congr 1; omega
    rw [e, List.drop_append, List.drop_of_length_le (by omega), List.nil_append, show cs.length + (j - xs.length) * size - cs.length = (j - xs.length) * size by omega]
    exact this
section
variable {P : Program} {α : Type} (d : Kd α)
end
end Go.Proofs.YtkghgaifgpgfkaaDoor.PL
end
