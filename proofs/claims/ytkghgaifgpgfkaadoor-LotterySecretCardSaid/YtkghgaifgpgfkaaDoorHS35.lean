/- Lemmas and walks for lotterySecretCard_holds (part 35), without what it does not use. -/
import Derived.Test.YtkghgaifgpgfkaaDoorHS32
import Derived.Test.YtkghgaifgpgfkaaDoorHS34
section
namespace Go.Proofs.YtkghgaifgpgfkaaDoor.PL
open Go.RowKit Go.Proofs.YtkghgaifgpgfkaaDoorW.PrintWords Go.Proofs.YtkghgaifgpgfkaaDoorW.PrintLast Go.Proofs.YtkghgaifgpgfkaaDoorW.PrintMore
open Go.Proofs.YtkghgaifgpgfkaaDoor.LotZ (F U pw inv pd thr Ok ev)
set_option linter.unusedVariables false
def gOf (l : List S47) : F → F := fun p => match l.find? (fun s => toF s.f0 == p) with
  | some s => toF s.f1
  | none => 0
theorem toF_inj {x y : Int} (h0 : 0 ≤ x) (h1 : x < 1073741789) (h2 : 0 ≤ y) (h3 : y < 1073741789) (h : toF x = toF y) : x = y := by
  have := congrArg ofF h
  rwa [ofF_toF h0 h1, ofF_toF h2 h3] at this
theorem gOf_at : ∀ {l : List S47}, (∀ s ∈ l, ptOK s = true) → (l.map (·.f0)).Nodup → ∀ s ∈ l, gOf l (toF s.f0) = toF s.f1
  | a :: l, hp, hn, s, hs => by
    simp only [List.map_cons, List.nodup_cons] at hn
    unfold gOf
    rw [List.find?_cons]
    by_cases he : toF a.f0 = toF s.f0
    · have e1 : (toF a.f0 == toF s.f0) = true := by simpa using he
      rw [e1]
      have ha := ptOK_lo (hp a List.mem_cons_self)
      have hs' := ptOK_lo (hp s hs)
      have e2 : a.f0 = s.f0 := toF_inj (by omega) (by omega) (by omega) (by omega) he
      rcases List.mem_cons.1 hs with rfl | hs
      · rfl
      · exact absurd (List.mem_map.2 ⟨s, hs, e2.symm⟩) hn.1
    · have e1 : (toF a.f0 == toF s.f0) = false := by simpa using he
      rw [e1]
      rcases List.mem_cons.1 hs with rfl | hs
      · exact absurd rfl he
      · exact gOf_at (fun t ht => hp t (List.mem_cons_of_mem _ ht)) hn.2 s hs
end Go.Proofs.YtkghgaifgpgfkaaDoor.PL
end
