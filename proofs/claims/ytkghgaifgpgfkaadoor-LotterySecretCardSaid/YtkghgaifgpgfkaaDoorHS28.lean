/- Lemmas and walks for lotterySecretCard_holds (part 28), without what it does not use. -/
import Derived.Test.YtkghgaifgpgfkaaDoorHS26
import Derived.Test.YtkghgaifgpgfkaaDoorHS27
section
namespace Go.Proofs.YtkghgaifgpgfkaaDoor.PL
open Go.RowKit Go.Proofs.YtkghgaifgpgfkaaDoorW.PrintWords Go.Proofs.YtkghgaifgpgfkaaDoorW.PrintLast Go.Proofs.YtkghgaifgpgfkaaDoorW.PrintMore
open Go.Proofs.YtkghgaifgpgfkaaDoor.LotZ (F U pw inv pd thr Ok ev)
set_option linter.unusedVariables false
def ofF (a : F) : Int := (a.val : Int)
def toF (x : Int) : F := Fin.ofNat 1073741789 x.toNat
theorem ofF_lo (a : F) : 0 ≤ ofF a := by unfold ofF; omega
theorem ofF_hi (a : F) : ofF a < 1073741789 := by unfold ofF; have := a.isLt; omega
theorem ofF_toF {x : Int} (h0 : 0 ≤ x) (h1 : x < 1073741789) : ofF (toF x) = x := by
  unfold ofF toF
  rw [Fin.val_ofNat, Nat.mod_eq_of_lt (by omega)]
  omega
theorem ofF_inj {a b : F} (h : ofF a = ofF b) : a = b := by
  unfold ofF at h
  exact Fin.ext (by omega)
theorem toF_ofF (a : F) : toF (ofF a) = a := ofF_inj (ofF_toF (ofF_lo a) (ofF_hi a))
theorem ofF_mul (a b : F) : ofF a * ofF b % 1073741789 = ofF (a * b) := by
  unfold ofF
  rw [Fin.val_mul, ← Int.natCast_mul]
  generalize a.val * b.val = m
  omega
theorem ofF_add (a b : F) : (ofF a + ofF b) % 1073741789 = ofF (a + b) := by
  unfold ofF
  rw [Fin.val_add]
  omega
theorem ofF_sub (a b : F) : (ofF a + 1073741789 - ofF b) % 1073741789 = ofF (a - b) := by
  unfold ofF
  have e : (a - b).val = (1073741789 - b.val + a.val) % 1073741789 := rfl
  rw [e]
  have := b.isLt
  have := a.isLt
  omega
theorem times_F (a b : F) : lottery_residue_times.f (ofF a) (ofF b) = some (ofF (a * b)) := by
  rw [times_eq (ofF_lo a) (ofF_hi a) (ofF_lo b) (ofF_hi b), ofF_mul]
theorem timesW_F (a b : F) : timesW (ofF a) (ofF b) = ofF (a * b) := Option.some.inj (times_F a b)
theorem plus_F (a b : F) : lottery_residue_plus.f (ofF a) (ofF b) = some (ofF (a + b)) := by
  rw [plus_eq (ofF_lo a) (ofF_hi a) (ofF_lo b) (ofF_hi b), ofF_add]
theorem plusW_F (a b : F) : plusW (ofF a) (ofF b) = ofF (a + b) := Option.some.inj (plus_F a b)
theorem minus_F (a b : F) : lottery_residue_minus.f (ofF a) (ofF b) = some (ofF (a - b)) := by
  have h1 := ofF_lo a; have h2 := ofF_hi a; have h3 := ofF_lo b; have h4 := ofF_hi b
  unfold lottery_residue_minus.f
  rw [w64 (x := ofF a + 1073741789) (by omega) (by omega), w64 (by omega) (by omega), tmod_pos' (by omega), ofF_sub]
def pf : Nat → F → Nat → F → F
  | 0, _, _, acc => acc
  | k + 1, a, n, acc => if 0 < n then pf k (a * a) (n / 2) (if n % 2 = 1 then acc * a else acc) else acc
theorem pw_two (a : F) (m : Nat) : pw (a * a) m = pw a (2 * m) := by
  rw [LotZ.pw_mul]
  congr 1
  show a * a = pw a 1 * a
  show a * a = 1 * a * a
  grind
theorem pf_eq : ∀ (k : Nat) (a : F) (n : Nat) (acc : F), n < 2 ^ k → pf k a n acc = acc * pw a n
  | 0, a, n, acc, h => by
    obtain rfl : n = 0 := by simpa using h
    show acc = acc * 1
    grind
  | k + 1, a, n, acc, h => by
    unfold pf
    by_cases hn : 0 < n
    · rw [if_pos hn, pf_eq k (a * a) (n / 2) _ (by rw [Nat.pow_succ] at h; omega), pw_two]
      by_cases ho : n % 2 = 1
      · rw [if_pos ho]
        have e : n = 2 * (n / 2) + 1 := by omega
        have : pw a n = pw a (2 * (n / 2)) * a := by
          conv => lhs; rw [e]
          exact LotZ.pw_succ _ _
        rw [this]; grind
      · rw [if_neg ho]
        have e : 2 * (n / 2) = n := by omega
        rw [e]
    · obtain rfl : n = 0 := by omega
      rw [if_neg hn]
      show acc = acc * 1
      grind
theorem U_of_pf {a : F} (h : pf 30 a 1073741788 1 = 1) : U a := by
  rw [pf_eq 30 a 1073741788 1 (by decide)] at h
  unfold LotZ.U
  rw [← h]
  generalize pw a 1073741788 = b
  grind
theorem U_table : ∀ n : Fin 16, pf 30 (toF ((n.val : Int) + 1)) 1073741788 1 = 1 := of_decide_eq_true (by kernel_rfl)
theorem U_small {x : Int} (h0 : 1 ≤ x) (h1 : x ≤ 16) : U (toF x) := by
  have := U_table ⟨(x - 1).toNat, by omega⟩
  have e : (((⟨(x - 1).toNat, by omega⟩ : Fin 16).val : Int) + 1) = x := by
    show (((x - 1).toNat : Nat) : Int) + 1 = x
    omega
  rw [e] at this
  exact U_of_pf this
theorem toF_sub {x y : Int} (h0 : 0 ≤ x) (h1 : x < 1073741789) (h2 : 0 ≤ y) (h3 : y ≤ x) : toF x - toF y = toF (x - y) := by
  apply ofF_inj
  rw [← ofF_sub, ofF_toF h0 h1, ofF_toF h2 (by omega), ofF_toF (by omega) (by omega)]
  omega
theorem U_diff {x y : Int} (h0 : 0 ≤ x) (h1 : x ≤ 16) (h2 : 0 ≤ y) (h3 : y ≤ 16) (hne : x ≠ y) : U (toF x - toF y) := by
  by_cases h : y ≤ x
  · rw [toF_sub h0 (by omega) h2 h]
    exact U_small (by omega) (by omega)
  · refine LotZ.U.neg ?_
    rw [toF_sub h2 (by omega) h0 (by omega)]
    exact U_small (by omega) (by omega)
theorem inverse_l0 : ∀ (k : Nat) (n : Nat) (a acc : F), n < 2 ^ k → ∀ k', k < k' → n < 9223372036854775807 → lottery_residue_inverse.l0 k' (ofF a) (ofF acc) (n : Int) = some (ofF (pf k a n acc))
  | k, 0, a, acc, _, k' + 1, _, _ => by
    unfold lottery_residue_inverse.l0
    rw [if_neg (by omega)]
    cases k <;> rfl
  | 0, n + 1, a, acc, h, _, _, _ => by
    have : n + 1 < 1 := h
    omega
  | k + 1, n + 1, a, acc, h, k' + 1, hk, hs => by
    unfold lottery_residue_inverse.l0
    have hw : wrap64 (((n + 1 : Nat) : Int).tdiv 2) = (((n + 1) / 2 : Nat) : Int) := by
      rw [Int.tdiv_eq_ediv_of_nonneg (by omega), w64 (by omega) (by omega)]
      omega
    rw [if_pos (by omega), tmod_pos' (by omega), hw, times_F, times_F]
    simp only [Option.bind_some]
    have hlt : (n + 1) / 2 < 2 ^ k := by rw [Nat.pow_succ] at h; omega
    by_cases ho : (n + 1) % 2 = 1
    · rw [if_pos (by omega), inverse_l0 k ((n + 1) / 2) (a * a) (acc * a) hlt k' (by omega) (by omega)]
      congr 2
      show _ = pf (k + 1) a (n + 1) acc
      rw [pf, if_pos (Nat.succ_pos n), if_pos ho]
    · rw [if_neg (by omega), inverse_l0 k ((n + 1) / 2) (a * a) acc hlt k' (by omega) (by omega)]
      congr 2
      show _ = pf (k + 1) a (n + 1) acc
      rw [pf, if_pos (Nat.succ_pos n), if_neg ho]
theorem ofF_one : ofF 1 = 1 := by decide
theorem ofF_zero : ofF 0 = 0 := by decide
theorem one_mul_F (b : F) : 1 * b = b := by grind
theorem pf_inv (a : F) : pf 30 a 1073741787 1 = inv a := (pf_eq 30 a 1073741787 1 (by decide)).trans (one_mul_F _)
theorem inverse_F (a : F) (k : Nat) (hk : 30 < k) : lottery_residue_inverse.f k (ofF a) = some (ofF (inv a)) := by
  have h := inverse_l0 30 1073741787 a 1 (by decide) k hk (by omega)
  rw [ofF_one, pf_inv] at h
  exact h
end Go.Proofs.YtkghgaifgpgfkaaDoor.PL
end
