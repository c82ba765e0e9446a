/- Lemmas and walks for lotteryMatchesReferenceCard_holds (part 45), without what it does not use. -/
import Derived.Test.YtkghgaifgpgfkaaDoorHM12
import Derived.Test.YtkghgaifgpgfkaaDoorHM33
import Derived.Test.YtkghgaifgpgfkaaDoorHM34
import Derived.Test.YtkghgaifgpgfkaaDoorHM13
section
namespace Go.Proofs.YtkghgaifgpgfkaaDoor.PL
open Go.RowKit Go.Proofs.YtkghgaifgpgfkaaDoorW.PrintWords Go.Proofs.YtkghgaifgpgfkaaDoorW.PrintLast Go.Proofs.YtkghgaifgpgfkaaDoorW.PrintMore
attribute [local go_sem] max2_int min2_int max_two min_two max_three min_three max_four min_four   -- for this text's walks alone
set_option linter.unusedVariables false
set_option linter.unusedSimpArgs false
mutual
def cohousinglaw22_LotteryLots.j0 : Nat → Int → Bool → List Int → Int → Bool → Option (Bool)
  | 0, _, _, _, _, _ => none
  | k + 1, x1, x5, x6, x7, x31 => if x31 = true then (if x5 = true then (if x7 = 1 then (some ((x6.length : Int) == 0)) else (some false)) else (some false)) else (if 65 ≤ 281474976710656 then (cohousinglaw22_LotteryLots.l0 k x1 x5 x6 x7 (List.replicate 65 false) x6 (x6.length : Int) 0) else (none))
def cohousinglaw22_LotteryLots.l0 : Nat → Int → Bool → List Int → Int → List Bool → List Int → Int → Int → Option (Bool)
  | 0, _, _, _, _, _, _, _, _ => none
  | k + 1, x1, x5, x6, x7, x8, x43, x44, x45 => if x45 < x44 then (if 0 ≤ x45 then (if x45 < (x43.length : Int) then (if (rd x43 x45) < 1 then (some false) else (if (rd x43 x45) > x1 then (some false) else (if 0 ≤ (rd x43 x45) then (if (rd x43 x45) < (x8.length : Int) then (if rdOf false x8 (rd x43 x45) = true then (some false) else (cohousinglaw22_LotteryLots.l0 k x1 x5 x6 x7 (x8.set ((rd x43 x45) : Int).toNat true) x43 x44 (wrap64 (x45 + 1)))) else (none)) else (none)))) else (none)) else (none)) else (if x5 = true then (if x7 = 0 then (some ((x6.length : Int) == x1)) else (some false)) else (some false))
end
end Go.Proofs.YtkghgaifgpgfkaaDoor.PL
end
