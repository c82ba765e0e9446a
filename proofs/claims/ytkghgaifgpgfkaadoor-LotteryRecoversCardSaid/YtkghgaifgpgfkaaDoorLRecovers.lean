/- LotteryRecovers: the plain law: enough shares of a deal, in any order, recover its value. -/
import Derived.Test.YtkghgaifgpgfkaaDoorLd
import Derived.Test.YtkghgaifgpgfkaaDoorPLx22
namespace Go.Proofs.YtkghgaifgpgfkaaDoor.PL
open Go.RowKit Go.Proofs.YtkghgaifgpgfkaaDoorW.PrintWords Go.Proofs.YtkghgaifgpgfkaaDoorW.PrintLast Go.Proofs.YtkghgaifgpgfkaaDoorW.PrintMore
open Go.Proofs.YtkghgaifgpgfkaaDoor.LotZ (F U pw inv pd thr Ok ev)
set_option linter.unusedVariables false
theorem take_out (rest : List S47) (p : Nat) (h : p < rest.length) : rest.Perm (rest.getD p ⟨0, 0⟩ :: (rest.take p ++ rest.drop (p + 1))) := by
  rw [List.getD_eq_getElem?_getD, List.getElem?_eq_getElem h, Option.getD_some]
  conv => lhs; rw [← List.take_append_drop p rest, List.drop_eq_getElem_cons h]
  exact List.perm_middle
/-- What some takes: some of the shares, each once, and enough of them if there are. -/
theorem someF_perm (n : Int) (picks : List Int) : ∀ (m i : Nat) (rest out : List S47), rest.length = m → ∃ left, (out ++ rest).Perm (someF n picks m i rest out ++ left) ∧ (left = [] ∨ n ≤ ((someF n picks m i rest out).length : Int))
  | 0, i, rest, out, h => by
    obtain rfl := List.eq_nil_of_length_eq_zero h
    exact ⟨[], List.Perm.refl _, .inl rfl⟩
  | m + 1, i, rest, out, h => by
    unfold someF
    by_cases hc : (out.length : Int) < n ∨ i < picks.length
    · rw [if_pos hc]
      simp only
      generalize hp : (if i < picks.length then (picks.getD i 0 % (rest.length : Int)).toNat else 0) = p
      have hlt : p < rest.length := by
        rw [← hp]
        split
        · have h1 := Int.emod_lt_of_pos (picks.getD i 0) (show (0 : Int) < rest.length by omega)
          have h2 := Int.emod_nonneg (picks.getD i 0) (show (rest.length : Int) ≠ 0 by omega)
          omega
        · omega
      obtain ⟨left, h1, h2⟩ := someF_perm n picks m (i + 1) (rest.take p ++ rest.drop (p + 1)) (out ++ [rest.getD p ⟨0, 0⟩]) (by rw [List.length_append, List.length_take, List.length_drop]; omega)
      refine ⟨left, List.Perm.trans ?_ h1, h2⟩
      rw [List.append_assoc]
      exact List.Perm.append_left out (take_out rest p hlt)
    · rw [if_neg hc]
      exact ⟨rest, List.Perm.refl _, .inr (by omega)⟩
theorem some_of_shares {c : List F} {n : Nat} (hn : n ≤ 16) (least : Int) (h1 : 1 ≤ least) (h2 : least ≤ n) (picks : List Int) :
    ∃ r, cohousinglaw22_some.f (sharesOf c n) least picks = some r ∧ RecV r ∧ (least ≤ (r.length : Int)) ∧ ∀ s ∈ r, ev c (toF s.f0) = toF s.f1 := by
  have hl := sharesOf_length c n
  refine ⟨_, by unfold cohousinglaw22_some.f; rw [if_pos (by omega)], ?_⟩
  obtain ⟨left, p, q⟩ := someF_perm least picks (sharesOf c n).length 0 (sharesOf c n) [] rfl
  rw [List.nil_append] at p
  generalize someF least picks (sharesOf c n).length 0 (sharesOf c n) [] = r at p q ⊢
  have hlen : r.length + left.length = n := by have := p.length_eq; rw [List.length_append] at this; omega
  have hle : least ≤ (r.length : Int) := by
    rcases q with rfl | q
    · simp at hlen; omega
    · exact q
  have hmem : ∀ s ∈ r, s ∈ sharesOf c n := fun s hs => p.mem_iff.2 (List.mem_append_left _ hs)
  refine ⟨⟨by omega, by omega, fun s hs => (shares_pt hn s (hmem s hs)).1, ?_⟩, hle, fun s hs => (shares_pt hn s (hmem s hs)).2.symm⟩
  have := (p.map (·.f0)).nodup_iff.1 (shares_nd c n)
  rw [List.map_append] at this
  exact (List.nodup_append.1 this).1
theorem LotteryRecovers_pure (who v salt : Int) (cs : List Int) (n : Int) (picks : List Int) : ∃ k, cohousinglaw22_LotteryRecovers.f k who v salt cs n picks = some true := by
  refine ⟨500, ?_⟩
  unfold cohousinglaw22_LotteryRecovers.f
  rw [show cohousinglaw22_head.f = some true from rfl, Option.bind_some]
  by_cases h : DealV who v salt cs n
  · rw [deal_ok h (by omega), Option.bind_some, if_pos rfl]
    by_cases hp : (picks.length : Int) > 16
    · rw [decide_eq_true hp]; rfl
    · rw [decide_eq_false hp]
      obtain ⟨⟨a1, a2⟩, ⟨b1, b2⟩, ⟨c1, c2⟩, d, e⟩ := h
      show ((cohousinglaw22_some.f (sharesOf ((v :: cs).map toF) n.toNat) (wrap64 ((cs.length : Int) + 1)) picks).bind _) = some true
      rw [w64 (by omega) (by omega)]
      obtain ⟨r, e1, hr, hle, hg⟩ := some_of_shares (c := (v :: cs).map toF) (n := n.toNat) (by omega) ((cs.length : Int) + 1) (by omega) (by omega) picks
      rw [e1, Option.bind_some, recover_ok hr hg (by decide), Option.bind_some, LotZ.thr_ev _ _ hr.ok (by simp [pts]; omega)]
      have hz : ofF (ev ((v :: cs).map toF) 0) = v := by
        simp only [List.map_cons, LotZ.ev]
        rw [show toF v + 0 * ev (cs.map toF) 0 = toF v by grind]
        simp only [isRes, Bool.and_eq_true, decide_eq_true_eq] at c1
        exact ofF_toF (by omega) (by omega)
      rw [hz, if_pos rfl, if_pos rfl, if_pos rfl, if_pos rfl]
      show some (((sharesOf ((v :: cs).map toF) n.toNat).length : Int) == n) = some true
      rw [sharesOf_length, Int.toNat_of_nonneg (by omega)]
      simp
  · rw [deal_bad h (by omega), Option.bind_some]
    rfl
end Go.Proofs.YtkghgaifgpgfkaaDoor.PL
