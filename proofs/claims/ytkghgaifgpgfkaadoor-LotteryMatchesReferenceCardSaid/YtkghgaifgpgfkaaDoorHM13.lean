/- Lemmas and walks for lotteryMatchesReferenceCard_holds (part 13), without what it does not use. -/
import Derived.Lib.AppendIntMem
import Derived.Test.YtkghgaifgpgfkaaDoorHM12
section
namespace Go.Proofs.YtkghgaifgpgfkaaDoor.PL
open Go.RowKit
def TabW (w : World) : Prop := Lib.TabIs Tryd.prog w "internal/strconv.uint64pow10" .u64 Lib.pow10Tab
theorem TabW.below {w w1 : World} (h : TabW w) (hb : Below w.heap.size w w1) : TabW w1 := Lib.tabBelow_of_tabIs h w1 hb
theorem TabW.under {w : World} (h : TabW w) : Lib.TabBelow Tryd.prog w.heap.size w "internal/strconv.uint64pow10" .u64 Lib.pow10Tab := Lib.tabBelow_of_tabIs h
end Go.Proofs.YtkghgaifgpgfkaaDoor.PL
end
