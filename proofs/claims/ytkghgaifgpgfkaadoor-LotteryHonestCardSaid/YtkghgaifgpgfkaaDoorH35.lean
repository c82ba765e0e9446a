/- Lemmas and walks for lotteryHonestCard_holds (part 35), without what it does not use. -/
import Derived.Test.YtkghgaifgpgfkaaDoorH12
section
namespace Go.Proofs.YtkghgaifgpgfkaaDoor.PL
open Go.RowKit Go.Proofs.YtkghgaifgpgfkaaDoorW.PrintWords Go.Proofs.YtkghgaifgpgfkaaDoorW.PrintLast Go.Proofs.YtkghgaifgpgfkaaDoorW.PrintMore
attribute [local go_sem] max2_int min2_int max_two min_two max_three min_three max_four min_four   -- for this text's walks alone
set_option linter.unusedVariables false
set_option linter.unusedSimpArgs false
def cohousinglaw22_residue.f (a0 : Int) : Option (Int) := some (Int.tmod (wrap64 (a0)) 1073741789)
set_option maxHeartbeats 8000000 in
set_option maxRecDepth 100000 in
theorem cohousinglaw22_residue.calls (a0 : Int) (r : Int) (w : World) (h : cohousinglaw22_residue.f a0 = some r) :
    Calls Tryd.prog 47 #[.int .u32 a0] w fun e w' => e = .returned (.int .i64 r) ∧ Drawn0 w w' := by
  have H : (some (Int.tmod (wrap64 (a0)) 1073741789)) = some r := h
  clear h
  obtain rfl := Option.some.inj H
  go_enter Tryd.func47, Tryd.ntmps47
  go_wp2
  go_ret
  exact ⟨by first | rfl | (simp; done) | (simp [*]; done), by repeat (first | exact Drawn0.refl _ | apply Drawn0.step)⟩
end Go.Proofs.YtkghgaifgpgfkaaDoor.PL
end
