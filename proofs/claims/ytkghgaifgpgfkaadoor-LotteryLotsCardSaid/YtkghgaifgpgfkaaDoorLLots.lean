/- LotteryLots: the plain law. -/
import Derived.Test.YtkghgaifgpgfkaaDoorLa
import Derived.Test.YtkghgaifgpgfkaaDoorPLx28
namespace Go.Proofs.YtkghgaifgpgfkaaDoor.PL
open Go.RowKit Go.Proofs.YtkghgaifgpgfkaaDoorW.PrintWords Go.Proofs.YtkghgaifgpgfkaaDoorW.PrintLast Go.Proofs.YtkghgaifgpgfkaaDoorW.PrintMore
set_option linter.unusedVariables false
/-- 1, .., n -/
def upTo (n : Nat) : List Int := (List.range n).map fun i : Nat => (i : Int) + 1
theorem upTo_length (n : Nat) : (upTo n).length = n := by simp [upTo]
theorem upTo_succ (n : Nat) : upTo (n + 1) = upTo n ++ [(n : Int) + 1] := by simp [upTo, List.range_succ]
theorem rdOf_false (m : Nat) (q : Int) : rdOf false (List.replicate m false) q = false := by
  unfold rdOf
  rw [List.getD_eq_getElem?_getD, List.getElem?_replicate]
  split <;> rfl
theorem lots_shuffle (L : Nat) (hL : L < 1000) : ∀ (m : Nat) (k : Nat) (l : List Int) (x : Int), m < k → (m < L ∨ m = 0) → l.length = L → 0 ≤ x → x < 1073741789 → ∃ l', lottery_Lots.l1 k l x (m : Int) = some (l', 0) ∧ l'.Perm l
  | 0, k + 1, l, x, _, _, _, _, _ => by
    refine ⟨l, ?_, List.Perm.refl _⟩
    unfold lottery_Lots.l1
    rw [if_neg (by omega)]
  | m + 1, k + 1, l, x, hk, hm, hl, h0, h1 => by
    have hm' : m + 1 < L := by omega
    unfold lottery_Lots.l1
    rw [if_pos (by omega), times_eq h0 h1 (by omega) (by omega), Option.bind_some, plus_eq (res_lo _) (res_hi _) (by omega) (by omega), Option.bind_some]
    have g0 := res_lo (x * 48271 % 1073741789 + 11)
    have g1 := res_hi (x * 48271 % 1073741789 + 11)
    generalize (x * 48271 % 1073741789 + 11) % 1073741789 = t at g0 g1 ⊢
    have hw : wrap64 (((m + 1 : Nat) : Int) + 1) = ((m + 1 : Nat) : Int) + 1 := w64 (by omega) (by omega)
    have hw2 : wrap64 (((m + 1 : Nat) : Int) - 1) = (m : Int) := by rw [w64 (by omega) (by omega)]; omega
    have e0 : 0 ≤ t.tmod (((m + 1 : Nat) : Int) + 1) := by rw [tmod_pos' g0]; exact Int.emod_nonneg _ (by omega)
    have e1 : t.tmod (((m + 1 : Nat) : Int) + 1) < ((m + 1 : Nat) : Int) + 1 := by rw [tmod_pos' g0]; exact Int.emod_lt_of_pos _ (by omega)
    rw [hw, hw2]
    generalize t.tmod (((m + 1 : Nat) : Int) + 1) = j at e0 e1 ⊢
    rw [if_neg (by omega), if_pos e0, if_pos (by omega), if_pos (by omega), if_pos (by omega)]
    rw [rd_get e0 (by omega), rd_get (show (0 : Int) ≤ ((m + 1 : Nat) : Int) by omega) (by omega)]
    have hp := @List.set_set_perm _ l (((m + 1 : Nat) : Int)).toNat j.toNat (by omega) (by omega)
    refine (lots_shuffle L hL m k _ t ?_ ?_ ?_ g0 g1).imp fun l' h => ⟨h.1, h.2.trans hp⟩
    · omega
    · omega
    · rw [List.length_set, List.length_set]; exact hl
theorem lots_fill (n : Nat) (hn : n ≤ 64) (x : Int) (h0 : 0 ≤ x) (h1 : x < 1073741789) : ∀ (m i k : Nat), i + m = n → n + m + 2 < k → ∃ l, lottery_Lots.l0 k x (n : Int) (upTo i) (n : Int) (i : Int) = some (l, 0) ∧ l.Perm (upTo n)
  | 0, i, k + 1, hi, hk => by
    unfold lottery_Lots.l0
    rw [if_neg (by omega)]
    have hin : i = n := by omega
    subst hin
    by_cases hz : i = 0
    · subst hz
      have hw : wrap64 (((0 : Nat) : Int) - 1) = -1 := by unfold wrap64; omega
      rw [hw]
      cases k with
      | zero => omega
      | succ k =>
        unfold lottery_Lots.l1
        rw [if_neg (by omega)]
        exact ⟨_, rfl, List.Perm.refl _⟩
    · have hw : wrap64 ((i : Int) - 1) = ((i - 1 : Nat) : Int) := by rw [w64 (by omega) (by omega)]; omega
      rw [hw]
      obtain ⟨l', e, p⟩ := lots_shuffle i (by omega) (i - 1) k (upTo i) x (by omega) (by omega) (upTo_length i) h0 h1
      exact ⟨l', e, p⟩
  | m + 1, i, k + 1, hi, hk => by
    unfold lottery_Lots.l0
    have hw : wrap64 ((i : Int) + 1) = ((i + 1 : Nat) : Int) := by rw [w64 (by omega) (by omega)]; omega
    rw [if_pos (by omega), if_pos (by rw [upTo_length]; omega), hw]
    have := lots_fill n hn x h0 h1 m (i + 1) k (by omega) (by omega)
    rw [upTo_succ] at this
    exact this
theorem lots_ok (x : Int) (n : Nat) (hn : n ≤ 64) (h0 : 0 ≤ x) (h1 : x < 1073741789) : ∃ l, lottery_Lots.f 200 x (n : Int) = some (l, 0) ∧ l.Perm (upTo n) := by
  unfold lottery_Lots.f
  rw [isResidue_one, Option.bind_some]
  have hr : isRes x = true := by simp [isRes]; omega
  rw [hr, if_pos rfl, between_in, Option.bind_some]
  have hb : inR (n : Int) 0 64 = true := by simp [inR]; omega
  rw [hb]
  show ∃ l, lottery_Lots.l0 199 x (n : Int) [] (n : Int) 0 = some (l, 0) ∧ l.Perm (upTo n)
  have := lots_fill n hn x h0 h1 n 0 199 (by omega) (by omega)
  exact this
theorem lots_bad (x n : Int) (h : ¬ (0 ≤ x ∧ x < 1073741789 ∧ 0 ≤ n ∧ n ≤ 64)) : lottery_Lots.f 200 x n = some ([], 1) := by
  unfold lottery_Lots.f
  rw [isResidue_one, Option.bind_some]
  by_cases hr : isRes x = true
  · rw [if_pos hr, between_in, Option.bind_some]
    have hb : inR n 0 64 = false := by
      simp only [isRes, inR, Bool.and_eq_true, decide_eq_true_eq, Bool.and_eq_false_iff, decide_eq_false_iff_not] at *
      omega
    rw [hb]
    rfl
  · rw [if_neg hr]
    rfl
theorem lots_seen (n : Nat) (hn : n ≤ 64) (l : List Int) (hl : l.length = n) (hb : ∀ y ∈ l, 1 ≤ y ∧ y ≤ (n : Int)) (hnd : l.Nodup) : ∀ (m i k : Nat) (s : List Bool), i + m = n → m < k → s.length = 65 → (∀ j (hj : j < l.length), i ≤ j → rdOf false s l[j] = false) →
    cohousinglaw22_LotteryLots.l0 k (n : Int) true l 0 s l (l.length : Int) (i : Int) = some true
  | 0, i, k + 1, s, hi, hk, hs, hf => by
    unfold cohousinglaw22_LotteryLots.l0
    rw [if_neg (by omega), if_pos rfl, if_pos rfl, hl]
    simp
  | m + 1, i, k + 1, s, hi, hk, hs, hf => by
    have hil : i < l.length := by omega
    have hrd : rd l (i : Int) = l[i] := rd_get (by omega) (by omega)
    have hbi := hb l[i] (List.getElem_mem hil)
    have hw : wrap64 ((i : Int) + 1) = ((i + 1 : Nat) : Int) := by rw [w64 (by omega) (by omega)]; omega
    unfold cohousinglaw22_LotteryLots.l0
    rw [if_pos (by omega), if_pos (by omega), if_pos (by omega), hrd, if_neg (by omega), if_neg (by omega), if_pos (by omega), if_pos (by omega), if_neg (by rw [hf i hil (Nat.le_refl _)]; decide), hw]
    refine lots_seen n hn l hl hb hnd m (i + 1) k _ (by omega) (by omega) (by rw [List.length_set]; exact hs) fun j hj hij => ?_
    have h1 := hf j hj (by omega)
    have hbj := hb l[j] (List.getElem_mem hj)
    have hne : l[i] ≠ l[j] := fun e => by
      have := (List.getElem_inj hnd).1 e
      omega
    have hne2 : l[i].toNat ≠ l[j].toNat := by omega
    unfold rdOf at h1 ⊢
    rw [List.getD_eq_getElem?_getD] at h1 ⊢
    rw [List.getElem?_set_ne hne2]
    exact h1
theorem LotteryLots_pure (a0 a1 : Int) : ∃ k, cohousinglaw22_LotteryLots.f k a0 a1 = some true := by
  refine ⟨200, ?_⟩
  unfold cohousinglaw22_LotteryLots.f
  rw [show cohousinglaw22_head.f = some true from rfl, Option.bind_some]
  by_cases h : 0 ≤ a0 ∧ a0 < 1073741789 ∧ 0 ≤ a1 ∧ a1 ≤ 64
  · obtain ⟨n, rfl⟩ := Int.eq_ofNat_of_zero_le h.2.2.1
    obtain ⟨l, e, p⟩ := lots_ok a0 n (by omega) h.1 h.2.1
    rw [e, Option.bind_some, if_neg (by omega), if_neg (by omega), if_neg (by omega), decide_eq_false (by omega)]
    show cohousinglaw22_LotteryLots.l0 199 (n : Int) true l 0 (List.replicate 65 false) l (l.length : Int) 0 = some true
    have hlen : l.length = n := by rw [p.length_eq, upTo_length]
    refine lots_seen n (by omega) l hlen (fun y hy => ?_) (p.nodup_iff.2 ?_) n 0 199 _ (by omega) (by omega) (by simp) (fun j hj _ => ?_)
    · have := p.mem_iff.1 hy
      simp only [upTo, List.mem_map, List.mem_range] at this
      obtain ⟨q, hq, rfl⟩ := this
      omega
    · unfold upTo
      exact List.pairwise_map.2 (List.nodup_range.imp fun hne e => hne (by omega))
    · exact rdOf_false 65 _
  · rw [lots_bad a0 a1 h, Option.bind_some]
    have hj : cohousinglaw22_LotteryLots.j0 200 a1 true [] 1 true = some true := rfl
    by_cases h1 : a0 < 0
    · rw [if_pos h1]; exact hj
    · rw [if_neg h1]
      by_cases h2 : a0 ≥ 1073741789
      · rw [if_pos h2]; exact hj
      · rw [if_neg h2]
        by_cases h3 : a1 < 0
        · rw [if_pos h3]; exact hj
        · rw [if_neg h3, decide_eq_true (by omega)]; exact hj
end Go.Proofs.YtkghgaifgpgfkaaDoor.PL
