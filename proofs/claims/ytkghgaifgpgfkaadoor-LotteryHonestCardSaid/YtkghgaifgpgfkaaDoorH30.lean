/- Lemmas and walks for lotteryHonestCard_holds (part 30), without what it does not use. -/
import Derived.Test.YtkghgaifgpgfkaaDoorH27
import Derived.Test.YtkghgaifgpgfkaaDoorH29
section
namespace Go.Proofs.YtkghgaifgpgfkaaDoor.PL
open Go.RowKit Go.Proofs.YtkghgaifgpgfkaaDoorW.PrintWords Go.Proofs.YtkghgaifgpgfkaaDoorW.PrintLast Go.Proofs.YtkghgaifgpgfkaaDoorW.PrintMore
open Go.Proofs.YtkghgaifgpgfkaaDoor.LotZ (F U pw inv pd thr Ok ev)
set_option linter.unusedVariables false
def un (s : S47) : F × F := (toF s.f0, toF s.f1)
theorem ptOK_lo {s : S47} (h : ptOK s = true) : 1 ≤ s.f0 ∧ s.f0 ≤ 16 ∧ 0 ≤ s.f1 ∧ s.f1 < 1073741789 := by
  simp only [ptOK, inR, isRes, Bool.and_eq_true, decide_eq_true_eq] at h
  omega
theorem sh_un {s : S47} (h : ptOK s = true) : sh (un s) = s := by
  have := ptOK_lo h
  unfold sh un
  rw [ofF_toF (by omega) (by omega), ofF_toF (by omega) (by omega)]
theorem map_sh_un {l : List S47} (h : ∀ s ∈ l, ptOK s = true) : (l.map un).map sh = l := by
  rw [List.map_map]
  refine (List.map_congr_left fun s hs => ?_).trans (List.map_id l)
  exact sh_un (h s hs)
structure RecV (l : List S47) : Prop where
  lo : 1 ≤ l.length
  hi : l.length ≤ 16
  pt : ∀ s ∈ l, ptOK s = true
  nd : (l.map (·.f0)).Nodup
def pts (l : List S47) : List F := l.map fun s => toF s.f0
theorem pts_un (l : List S47) : (l.map un).map (·.1) = pts l := by rw [List.map_map]; rfl
theorem RecV.ok {l : List S47} (h : RecV l) : Ok (pts l) := by
  refine List.pairwise_map.2 ?_
  have := List.pairwise_map.1 h.nd
  refine this.imp_of_mem fun {a b} ha hb hne => ?_
  have ga := ptOK_lo (h.pt a ha)
  have gb := ptOK_lo (h.pt b hb)
  exact U_diff (by omega) (by omega) (by omega) (by omega) hne
theorem bk_snd (zs : List Int) : (bk zs 0).map (·.2) = zs.reverse := by
  apply List.ext_getElem
  · simp [bk]
  · intro i h1 h2
    simp only [bk, List.map_map, List.getElem_map, List.getElem_range, Function.comp]
    rw [List.getElem_reverse]
    simp only [List.length_reverse] at h2
    rw [rd_get (by omega) (by omega)]
    simp
theorem horner_snd (x : Int) (l : List (Int × Int)) : horner x l = (l.map (·.2)).foldl (fun a c => plusW (timesW a x) c) 0 := by
  unfold horner
  rw [List.foldl_map]
theorem horner_F (x : F) : ∀ (c : List F) , ((c.map ofF).reverse).foldl (fun a c => plusW (timesW a (ofF x)) c) 0 = ofF (ev c x)
  | [] => ofF_zero.symm
  | a :: c => by
    rw [List.map_cons, List.reverse_cons, List.foldl_append, horner_F x c]
    simp only [List.foldl_cons, List.foldl_nil, timesW_F, plusW_F]
    congr 1
    show _ = a + x * ev c x
    grind
theorem at_F (c : List F) (x : F) : lottery_polynomial_at.f (c.map ofF) (ofF x) = some (ofF (ev c x)) := by
  unfold lottery_polynomial_at.f
  rw [horner_snd, bk_snd, horner_F]
end Go.Proofs.YtkghgaifgpgfkaaDoor.PL
end
