/- Lemmas and walks for lotteryHonestCard_holds (part 36), without what it does not use. -/
import Derived.Test.YtkghgaifgpgfkaaDoorH12
import Derived.Test.YtkghgaifgpgfkaaDoorH29
import Derived.Test.YtkghgaifgpgfkaaDoorH35
import Derived.Test.YtkghgaifgpgfkaaDoorH13
section
namespace Go.Proofs.YtkghgaifgpgfkaaDoor.PL
open Go.RowKit Go.Proofs.YtkghgaifgpgfkaaDoorW.PrintWords Go.Proofs.YtkghgaifgpgfkaaDoorW.PrintLast Go.Proofs.YtkghgaifgpgfkaaDoorW.PrintMore
attribute [local go_sem] max2_int min2_int max_two min_two max_three min_three max_four min_four   -- for this text's walks alone
set_option linter.unusedVariables false
set_option linter.unusedSimpArgs false
mutual
def cohousinglaw22_dealt.l0 : Nat → List (S58) → Int → List (S31) → List (S23) → List (S58) → Int → Int → Option ((List (S31)) × (List (S23)) × Bool)
  | 0, _, _, _, _, _, _, _ => none
  | k + 1, x0, x1, x7, x8, x17, x18, x19 => if x19 < x18 then (if 0 ≤ x19 then (if x19 < (x17.length : Int) then (cohousinglaw22_dealt.l1 k x0 x1 x7 x8 x19 ([] : List Int) 0 x17 x18 x19 ((rd_T58 x17 x19).f0) ((rd_T58 x17 x19).f1) ((rd_T58 x17 x19).f2) ((rd_T58 x17 x19).f3) ((rd_T58 x17 x19).f4) ((rd_T58 x17 x19).f5) ((rd_T58 x17 x19).f6)) else (none)) else (none)) else (some (x7, x8, true))
def cohousinglaw22_dealt.l1 : Nat → List (S58) → Int → List (S31) → List (S23) → Int → List Int → Int → List (S58) → Int → Int → Int → Int → List Int → Bool → Int → Int → Int → Option ((List (S31)) × (List (S23)) × Bool)
  | 0, _, _, _, _, _, _, _, _, _, _, _, _, _, _, _, _, _ => none
  | k + 1, x0, x1, x7, x8, x9, x11, x12, x17, x18, x19, x398000, x398001, x398002, x398003, x398004, x398005, x398006 => if x12 < (wrap64 (x1 - 1)) then (if x12 < (x398002.length : Int) then (if 0 ≤ x12 then ((cohousinglaw22_residue.f (rd x398002 x12)).bind fun t399 => ((some (([t399] : List Int) : List Int)).bind fun y400 => (if x11.length + y400.length < 17592186044416 then (cohousinglaw22_dealt.l1 k x0 x1 x7 x8 x9 (x11 ++ y400) (wrap64 (x12 + 1)) x17 x18 x19 x398000 x398001 x398002 x398003 x398004 x398005 x398006) else (none)))) else (none)) else ((some (([0] : List Int) : List Int)).bind fun y406 => (if x11.length + y406.length < 17592186044416 then (cohousinglaw22_dealt.l1 k x0 x1 x7 x8 x9 (x11 ++ y406) (wrap64 (x12 + 1)) x17 x18 x19 x398000 x398001 x398002 x398003 x398004 x398005 x398006) else (none)))) else ((cohousinglaw22_residue.f x398000).bind fun t412 => ((cohousinglaw22_residue.f x398001).bind fun t413 => ((lottery_Deal.f k (wrap64 (x9 + 1)) t412 t413 x11 (x0.length : Int)).bind fun bt415 => (if bt415.2.2.2 = 0 then (if (bt415.2.2.1.length : Int) = (x0.length : Int) then ((some (([(⟨bt415.1, bt415.2.1, bt415.2.2.1⟩ : S31)] : List (S31)) : List (S31))).bind fun y422 => (if x7.length + y422.length < 3518437208883 then ((some (([(⟨wrap64 (x9 + 1), t412, t413⟩ : S23)] : List (S23)) : List (S23))).bind fun y428 => (if x8.length + y428.length < 5864062014805 then (cohousinglaw22_dealt.l0 k x0 x1 (x7 ++ y422) (x8 ++ y428) x17 x18 (wrap64 (x19 + 1))) else (none))) else (none))) else (some (([] : List (S31)), ([] : List (S23)), false))) else (some (([] : List (S31)), ([] : List (S23)), false))))))
end
def cohousinglaw22_dealt.f (k : Nat) (l0 : List (S58)) (a1 : Int) : Option ((List (S31)) × (List (S23)) × Bool) := cohousinglaw22_dealt.l0 k l0 a1 ([] : List (S31)) ([] : List (S23)) l0 (l0.length : Int) 0
def cohousinglaw22_dealt.T14 : Bool × List (List Nat × List Nat) := (true, [([], []), ([0], [0]), ([], []), ([2], [2]), ([3], [3]), ([], []), ([5], [5]), ([6, 4], [6]), ([1, 4, 7], [1, 4, 7]), ([], []), ([9, 8, 7, 0, 1, 2, 3, 4, 5, 6, 7, 8, 9], [8, 9])])
def cohousinglaw22_dealt.B14 : List Nat := [0, 1, 0, 4, 12, 0, 32, 124, 255, 0, 1023]
theorem cohousinglaw22_dealt.tab14 : rtab .any (opsOf Tryd.f26 14) = cohousinglaw22_dealt.T14 := by kernel_rfl
theorem cohousinglaw22_dealt.bits14 : waitsOk cohousinglaw22_dealt.T14.2 cohousinglaw22_dealt.B14 = true := by kernel_rfl
def cohousinglaw22_dealt.T18 : Bool × List (List Nat × List Nat) := (true, [([], []), ([], []), ([1], [1]), ([0, 2], [0, 2]), ([], []), ([], []), ([5], [5]), ([4, 6, 3], [4, 6]), ([3, 7, 0, 1, 2, 3], [0, 3]), ([7, 8, 0, 1, 2, 3, 4, 5, 6, 7, 8], [4, 7])])
def cohousinglaw22_dealt.B18 : List Nat := [0, 0, 2, 7, 0, 0, 32, 127, 255, 511]
theorem cohousinglaw22_dealt.tab18 : rtab .any (opsOf Tryd.f26 18) = cohousinglaw22_dealt.T18 := by kernel_rfl
theorem cohousinglaw22_dealt.bits18 : waitsOk cohousinglaw22_dealt.T18.2 cohousinglaw22_dealt.B18 = true := by kernel_rfl
end Go.Proofs.YtkghgaifgpgfkaaDoor.PL
end
