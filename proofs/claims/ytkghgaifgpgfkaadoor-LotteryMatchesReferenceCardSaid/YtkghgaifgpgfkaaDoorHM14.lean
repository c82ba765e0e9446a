/- Lemmas and walks for lotteryMatchesReferenceCard_holds (part 14), without what it does not use. -/
import Derived.Test.YtkghgaifgpgfkaaDoorRows
import Derived.Test.YtkghgaifgpgfkaaDoorHM13
import Derived.WalkKit
import Derived.ProofKit
import Derived.OpenShut
import Derived.Deep.DeepHandedRow
import Derived.Lib.LaidTab
import Derived.Stop.LaidErr
section
namespace Go.Proofs.YtkghgaifgpgfkaaDoor.PL
open Go.RowKit
theorem own : ownKnob Tryd.prog.godebug = none := by kernel_rfl
theorem gTab : Tryd.prog.globalNamed "internal/strconv.uint64pow10" = some 0 := by kernel_rfl
theorem gTabType : (Tryd.prog.globals[0]?).map (·.type) = some 127 := by kernel_rfl
theorem cells127 : Tryd.prog.cellsOf 127 = 20 := by kernel_rfl
theorem cells29 : Tryd.prog.cellsOf 29 = 1 := by kernel_rfl
theorem table {W : World} (h : laidMetH Tryd.prog Rows.lotteryLotsRow.laid W) : TabW W := by
  have h1 : laidMet Tryd.prog Rows.lotteryLotsRow.laid W := h
  exact Lib.tabIs_of_head (rest := []) gTab gTabType Tryd.underlying127 Tryd.underlying29 cells29 cells127 (laidMet.tail (laidMet.tail h1))
def tabCells : List (DataW Unit) → Array Value
  | l => (l.map fun
    | .lit (.int k z) => Value.int k z
    | _ => undef).toArray
def aggCells : DataW Unit → Array Value
  | .agg l => tabCells l
  | _ => #[]
def setTab (c : Array Value) : Obj → Obj
  | .cells _ t frozen => .cells c t frozen
  | o => o
noncomputable def laidWorld (os : Os) : World :=
  { World.holding Tryd.prog os ⟨#[], #[], []⟩ with
    heap := ((((World.holding Tryd.prog os ⟨#[], #[], []⟩).heap.modify 0 (setTab (aggCells Rows.laid_internal_strconv_uint64pow10))).modify 1 (setTab (aggCells Rows.laid_math_bits_deBruijn32tab))).modify 2 (setTab (aggCells Rows.laid_math_bits_deBruijn64tab))) }
theorem laid_met (os : Os) (args : Array Value) : laidMet Tryd.prog Rows.lotteryLotsRow.laid ((laidWorld os).forCall (fun _ _ => 0) ⟨#[], args, []⟩).memory :=
  laidMet_of_run' 8 (by kernel_rfl) (by kernel_rfl)
end Go.Proofs.YtkghgaifgpgfkaaDoor.PL
end
