/- Lemmas and walks for lotterySecretCard_holds (part 26), without what it does not use. -/
import Derived.Test.YtkghgaifgpgfkaaDoorHS25
section
namespace Go.Proofs.YtkghgaifgpgfkaaDoor.PL
open Go.RowKit Go.Proofs.YtkghgaifgpgfkaaDoorW.PrintWords Go.Proofs.YtkghgaifgpgfkaaDoorW.PrintLast Go.Proofs.YtkghgaifgpgfkaaDoorW.PrintMore
set_option linter.unusedVariables false
theorem mul_bound {x y : Int} (hx : 0 ≤ x) (hx' : x < 1073741789) (hy : 0 ≤ y) (hy' : y < 1073741789) : 0 ≤ x * y ∧ x * y ≤ 1152921504606846976 := by
  refine ⟨Int.mul_nonneg hx hy, ?_⟩
  have h1 : x * y ≤ 1073741788 * y := Int.mul_le_mul_of_nonneg_right (by omega) hy
  have h2 : 1073741788 * y ≤ 1073741788 * 1073741788 := Int.mul_le_mul_of_nonneg_left (by omega) (by omega)
  omega
theorem w64 {x : Int} (h0 : -9223372036854775808 ≤ x) (h1 : x ≤ 9223372036854775807) : wrap64 x = x := by unfold wrap64; omega
theorem tmod_pos' {x n : Int} (h : 0 ≤ x) : Int.tmod x n = x % n := by rw [Int.tmod_eq_emod_of_nonneg h]
theorem times_eq {x y : Int} (hx : 0 ≤ x) (hx' : x < 1073741789) (hy : 0 ≤ y) (hy' : y < 1073741789) : lottery_residue_times.f x y = some (x * y % 1073741789) := by
  have := mul_bound hx hx' hy hy'
  unfold lottery_residue_times.f
  rw [w64 (by omega) (by omega), tmod_pos' this.1]
theorem plus_eq {x y : Int} (hx : 0 ≤ x) (hx' : x < 1073741789) (hy : 0 ≤ y) (hy' : y < 1073741789) : lottery_residue_plus.f x y = some ((x + y) % 1073741789) := by
  unfold lottery_residue_plus.f
  rw [w64 (by omega) (by omega), tmod_pos' (by omega)]
end Go.Proofs.YtkghgaifgpgfkaaDoor.PL
end
