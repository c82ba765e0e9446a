/- Lemmas and walks for lotterySecretCard_holds (part 36), without what it does not use. -/
import Derived.Test.YtkghgaifgpgfkaaDoorHS35
section
namespace Go.Proofs.YtkghgaifgpgfkaaDoor.PL
open Go.RowKit Go.Proofs.YtkghgaifgpgfkaaDoorW.PrintWords Go.Proofs.YtkghgaifgpgfkaaDoorW.PrintLast Go.Proofs.YtkghgaifgpgfkaaDoorW.PrintMore
open Go.Proofs.YtkghgaifgpgfkaaDoor.LotZ (F U pw inv pd thr Ok ev)
set_option linter.unusedVariables false
theorem recV_turn {l : List S47} {a x y : Int} (h : RecV (l ++ [⟨a, x⟩])) (hy : isRes y = true) : RecV (l ++ [⟨a, y⟩]) := by
  refine ⟨by simp, by have := h.hi; simpa using this, fun s hs => ?_, by have := h.nd; simpa using this⟩
  rcases List.mem_append.1 hs with hs | hs
  · exact h.pt s (List.mem_append_left _ hs)
  · obtain rfl := List.mem_singleton.1 hs
    have := h.pt ⟨a, x⟩ (by simp)
    simp only [ptOK, Bool.and_eq_true] at this ⊢
    exact ⟨this.1, hy⟩
theorem secret_law {l : List S47} {a : Int} (h : RecV (l ++ [⟨a, 0⟩])) : ∃ A K : F, U K ∧ ∀ (x : Int), isRes x = true → ∀ k, 400 ≤ k → lottery_Recover.f k (l ++ [⟨a, x⟩]) = some (ofF (A + toF x * K), 0) := by
  have hok : Ok (pts l ++ [toF a]) := by have := h.ok; simpa [pts] using this
  have hp : ∀ s ∈ l, ptOK s = true := fun s hs => h.pt s (List.mem_append_left _ hs)
  have hnd : (l.map (·.f0)).Nodup := by have := h.nd; rw [List.map_append] at this; exact (List.nodup_append.1 this).1
  have hU : ∀ q ∈ pts l, U (toF a - q) := fun q hq => LotZ.U.neg ((List.pairwise_append.1 hok).2.2 q hq (toF a) (by simp))
  refine ⟨(0 - toF a) * thr (pts l) (fun p => gOf l p * inv (p - toF a)) 0, pd 0 (pts l) * inv (pd (toF a) (pts l)), ?_, fun x hx k hk => ?_⟩
  · refine (LotZ.pd_U fun q hq => ?_).mul (LotZ.pd_U hU).inv
    obtain ⟨s, hs, rfl⟩ := List.mem_map.1 hq
    have := ptOK_lo (hp s hs)
    have := U_diff (x := 0) (y := s.f0) (by omega) (by omega) (by omega) (by omega) (by omega)
    exact this
  · have hv := recV_turn h hx
    have hne : ∀ s ∈ l, toF s.f0 ≠ toF a := fun s hs e => by
      have := (hU (toF s.f0) (List.mem_map.2 ⟨s, hs, rfl⟩)).ne
      rw [e] at this
      exact this (by grind)
    have hg : ∀ s ∈ l ++ [⟨a, x⟩], (fun p : F => if p = toF a then toF x else gOf l p) (toF s.f0) = toF s.f1 := by
      intro s hs
      rcases List.mem_append.1 hs with hs | hs
      · show (if toF s.f0 = toF a then toF x else gOf l (toF s.f0)) = _
        rw [if_neg (hne s hs)]; exact gOf_at hp hnd s hs
      · obtain rfl := List.mem_singleton.1 hs
        show (if toF a = toF a then toF x else _) = _
        rw [if_pos rfl]
    have e : pts (l ++ [⟨a, x⟩]) = pts l ++ [toF a] := by simp [pts]
    have e2 : thr (pts (l ++ [⟨a, x⟩])) (fun p : F => if p = toF a then toF x else gOf l p) 0 = (0 - toF a) * thr (pts l) (fun p => gOf l p * inv (p - toF a)) 0 + toF x * (pd 0 (pts l) * inv (pd (toF a) (pts l))) := by
      rw [e, LotZ.thr_perm (List.perm_append_comm : (pts l ++ [toF a]).Perm ([toF a] ++ pts l))]
      show thr (toF a :: pts l) _ 0 = _
      rw [LotZ.thr, if_pos rfl, LotZ.thr_congr (l := pts l) (g := fun p => gOf l p * inv (p - toF a)) (fun p hp' => by
        obtain ⟨s, hs, rfl⟩ := List.mem_map.1 hp'
        rw [if_neg (hne s hs)])]
      generalize thr (pts l) (fun p => gOf l p * inv (p - toF a)) 0 = T
      generalize pd 0 (pts l) * inv (pd (toF a) (pts l)) = K
      grind
    rw [recover_ok (g := fun p : F => if p = toF a then toF x else gOf l p) hv hg hk, e2]
theorem secret_end {A K V : F} (h : U K) : A + ((V - (A + 0 * K)) * inv ((A + 1 * K) - (A + 0 * K))) * K = V := by
  rw [show (A + 1 * K) - (A + 0 * K) = K by grind]
  have := LotZ.inv_mul h
  grind
theorem secret_ne {A K : F} (h : U K) : ofF (A + 0 * K) ≠ ofF (A + 1 * K) := by
  intro e
  have := ofF_inj e
  exact h.ne (by grind)
end Go.Proofs.YtkghgaifgpgfkaaDoor.PL
end
