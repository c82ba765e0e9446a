/- Lemmas and walks for lotteryHonestCard_holds (part 31), without what it does not use. -/
import Derived.Test.YtkghgaifgpgfkaaDoorH30
section
namespace Go.Proofs.YtkghgaifgpgfkaaDoor.PL
open Go.RowKit Go.Proofs.YtkghgaifgpgfkaaDoorW.PrintWords Go.Proofs.YtkghgaifgpgfkaaDoorW.PrintLast Go.Proofs.YtkghgaifgpgfkaaDoorW.PrintMore
open Go.Proofs.YtkghgaifgpgfkaaDoor.LotZ (F U pw inv pd thr Ok ev)
set_option linter.unusedVariables false
theorem isRes_two (x y : Int) : lottery_isResidue.f [x, y] = some (isRes x && isRes y) := by simp [lottery_isResidue.f]
def sumS (a b c : Int) : Int := sumB (intsB [a, b, c])
theorem sum_ok {a b c : Int} (ha : i64B a = true) (hb : i64B b = true) (hc : i64B c = true) : lottery_sum.f a b c = some (sumS a b c) := by
  unfold lottery_sum.f digest_Ints.f
  rw [if_pos ⟨by simp, by simp [ha, hb, hc]⟩]
  rfl
def shareAt (c : List F) (i : Nat) : S47 := ⟨(i : Int) + 1, ofF (ev c (toF ((i : Int) + 1)))⟩
def sharesOf (c : List F) (n : Nat) : List S47 := (List.range n).map (shareAt c)
theorem sharesOf_succ (c : List F) (n : Nat) : sharesOf c (n + 1) = sharesOf c n ++ [shareAt c n] := by simp [sharesOf, List.range_succ]
theorem sharesOf_length (c : List F) (n : Nat) : (sharesOf c n).length = n := by simp [sharesOf]
theorem deal_l1 (c : List F) (n : Nat) (hn : n ≤ 16) (who sum : Int) : ∀ (m i k : Nat), i + m = n → m < k → lottery_Deal.l1 k (c.map ofF) (n : Int) (i : Int) who sum (sharesOf c i) = some (who, sum, sharesOf c n, 0)
  | 0, i, k + 1, hi, hk => by
    have hin : i = n := by omega
    subst hin
    rw [lottery_Deal.l1, if_neg (by omega)]
  | m + 1, i, k + 1, hi, hk => by
    have hw : wrap64 ((i : Int) + 1) = (i : Int) + 1 := w64 (by omega) (by omega)
    have hp : ofF (toF ((i : Int) + 1)) = (i : Int) + 1 := ofF_toF (by omega) (by omega)
    have hat := at_F c (toF ((i : Int) + 1))
    rw [hp] at hat
    rw [lottery_Deal.l1, if_pos (by omega), hw, hat, Option.bind_some, if_pos (by rw [sharesOf_length]; omega)]
    have := deal_l1 c n hn who sum m (i + 1) k (by omega) (by omega)
    rw [sharesOf_succ] at this
    exact this
theorem deal_l0 (v : Int) (cs : List Int) (hc : cs.length ≤ 16) (hv : isRes v = true) (hcs : cs.all isRes = true) (n : Nat) (hn : n ≤ 16) (who salt : Int) (h1 : i64B who = true) (h2 : i64B salt = true) : ∀ (m i k : Nat), i + m = cs.length → m + n + 1 < k →
    lottery_Deal.l0 k (n : Int) (v :: cs.take i) cs (cs.length : Int) (i : Int) who v salt = some (who, sumS who v salt, sharesOf ((v :: cs).map toF) n, 0)
  | 0, i, k + 1, hi, hk => by
    rw [lottery_Deal.l0, if_neg (by omega)]
    have hv' : i64B v = true := by
      simp only [isRes, i64B, Bool.and_eq_true, decide_eq_true_eq] at *
      omega
    rw [sum_ok h1 hv' h2, Option.bind_some, List.take_of_length_le (by omega)]
    have e : v :: cs = ((v :: cs).map toF).map ofF := by
      rw [List.map_map]
      refine ((List.map_congr_left fun x hx => ?_).trans (List.map_id _)).symm
      have hx' : isRes x = true := by
        rcases List.mem_cons.1 hx with rfl | hx
        · exact hv
        · exact List.all_eq_true.1 hcs x hx
      simp only [isRes, Bool.and_eq_true, decide_eq_true_eq] at hx'
      exact ofF_toF (by omega) (by omega)
    conv => lhs; rw [e]
    exact deal_l1 _ n hn who _ n 0 k (by omega) (by omega)
  | m + 1, i, k + 1, hi, hk => by
    have hw : wrap64 ((i : Int) + 1) = ((i + 1 : Nat) : Int) := by rw [w64 (by omega) (by omega)]; omega
    have hil : i < cs.length := by omega
    rw [lottery_Deal.l0, if_pos (by omega), if_pos (by omega), if_pos (by omega), if_pos (by rw [List.length_cons, List.length_take]; omega), hw]
    have := deal_l0 v cs hc hv hcs n hn who salt h1 h2 m (i + 1) k (by omega) (by omega)
    have hrd : rd cs (i : Int) = cs[i] := rd_get (by omega) (by omega)
    rw [List.take_succ_eq_append_getElem hil, ← hrd] at this
    exact this
def DealV (who v salt : Int) (cs : List Int) (n : Int) : Prop := (1 ≤ n ∧ n ≤ 16) ∧ (1 ≤ who ∧ who ≤ n) ∧ (isRes v = true ∧ isRes salt = true) ∧ cs.all isRes = true ∧ (cs.length : Int) < n
theorem deal_ok {who v salt : Int} {cs : List Int} {n : Int} (h : DealV who v salt cs n) {k : Nat} (hk : 50 ≤ k) : lottery_Deal.f k who v salt cs n = some (who, sumS who v salt, sharesOf ((v :: cs).map toF) n.toNat, 0) := by
  obtain ⟨⟨a1, a2⟩, ⟨b1, b2⟩, ⟨c1, c2⟩, d, e⟩ := h
  obtain ⟨k, rfl⟩ : ∃ k', k = k' + 1 := ⟨k - 1, by omega⟩
  have x1 : inR n 1 16 = true := by simp only [inR, Bool.and_eq_true, decide_eq_true_eq]; omega
  have x2 : inR who 1 n = true := by simp only [inR, Bool.and_eq_true, decide_eq_true_eq]; omega
  unfold lottery_Deal.f
  rw [between_in, Option.bind_some, if_pos x1, between_in, Option.bind_some, if_pos x2, isRes_two, Option.bind_some, c1, c2, if_pos (by decide), lottery_isResidue.f, Option.bind_some, if_pos d, decide_eq_false (by omega)]
  rw [lottery_Deal.j0, if_neg (by decide)]
  have hs : i64B salt = true := by
    simp only [isRes, i64B, Bool.and_eq_true, decide_eq_true_eq] at *
    omega
  have := deal_l0 v cs (by omega) c1 d n.toNat (by omega) who salt (by simp only [i64B, Bool.and_eq_true, decide_eq_true_eq]; omega) hs cs.length 0 k (by omega) (by omega)
  rw [Int.toNat_of_nonneg (by omega)] at this
  exact this
theorem shares_pt {c : List F} {n : Nat} (hn : n ≤ 16) : ∀ s ∈ sharesOf c n, ptOK s = true ∧ toF s.f1 = ev c (toF s.f0) := by
  intro s hs
  simp only [sharesOf, List.mem_map, List.mem_range] at hs
  obtain ⟨i, hi, rfl⟩ := hs
  refine ⟨?_, toF_ofF _⟩
  have h1 := ofF_lo (ev c (toF ((i : Int) + 1)))
  have h2 := ofF_hi (ev c (toF ((i : Int) + 1)))
  show ((decide ((1 : Int) ≤ (i : Int) + 1) && decide ((i : Int) + 1 ≤ 16)) && (decide (0 ≤ ofF (ev c (toF ((i : Int) + 1)))) && decide (ofF (ev c (toF ((i : Int) + 1))) ≤ 1073741788))) = true
  rw [decide_eq_true (show (1 : Int) ≤ (i : Int) + 1 by omega), decide_eq_true (show (i : Int) + 1 ≤ 16 by omega), decide_eq_true h1, decide_eq_true (show ofF (ev c (toF ((i : Int) + 1))) ≤ 1073741788 by omega)]
  rfl
theorem shares_nd (c : List F) (n : Nat) : ((sharesOf c n).map (·.f0)).Nodup := by
  unfold sharesOf
  rw [List.map_map]
  exact List.pairwise_map.2 (List.nodup_range.imp fun hne e => hne (by simp only [Function.comp, shareAt] at e; omega))
end Go.Proofs.YtkghgaifgpgfkaaDoor.PL
end
