/- Lemmas and walks for lotteryMatchesReferenceCard_holds (part 48), without what it does not use. -/
import Derived.Test.YtkghgaifgpgfkaaDoorHM23
import Derived.Test.YtkghgaifgpgfkaaDoorHM13
import Derived.Test.YtkghgaifgpgfkaaDoorHM25
import Derived.Test.YtkghgaifgpgfkaaDoorHM27
import Derived.Test.YtkghgaifgpgfkaaDoorHM28
import Derived.Test.YtkghgaifgpgfkaaDoorHM29
import Derived.Test.YtkghgaifgpgfkaaDoorHM31
import Derived.Deep.RegionHeld3
import Derived.Test.YtkghgaifgpgfkaaDoorHM34
import Derived.Test.YtkghgaifgpgfkaaDoorHM37
import Derived.Test.YtkghgaifgpgfkaaDoorHM38
import Derived.Test.YtkghgaifgpgfkaaDoorHM39
import Derived.Test.YtkghgaifgpgfkaaDoorHM41
import Derived.Test.YtkghgaifgpgfkaaDoorHM42
import Derived.Test.YtkghgaifgpgfkaaDoorHM43
import Derived.Test.YtkghgaifgpgfkaaDoorHM44
import Derived.Test.YtkghgaifgpgfkaaDoorHM45
import Derived.Test.YtkghgaifgpgfkaaDoorHM47
section
namespace Go.Proofs.YtkghgaifgpgfkaaDoor.PL
open Go.RowKit Go.Proofs.YtkghgaifgpgfkaaDoorW.PrintWords Go.Proofs.YtkghgaifgpgfkaaDoorW.PrintLast Go.Proofs.YtkghgaifgpgfkaaDoorW.PrintMore
set_option linter.unusedVariables false
theorem mul_bound {x y : Int} (hx : 0 ≤ x) (hx' : x < 1073741789) (hy : 0 ≤ y) (hy' : y < 1073741789) : 0 ≤ x * y ∧ x * y ≤ 1152921504606846976 := by
  refine ⟨Int.mul_nonneg hx hy, ?_⟩
  have h1 : x * y ≤ 1073741788 * y := Int.mul_le_mul_of_nonneg_right (by omega) hy
  have h2 : 1073741788 * y ≤ 1073741788 * 1073741788 := Int.mul_le_mul_of_nonneg_left (by omega) (by omega)
  omega
theorem w64 {x : Int} (h0 : -9223372036854775808 ≤ x) (h1 : x ≤ 9223372036854775807) : wrap64 x = x := by unfold wrap64; omega
theorem tmod_pos' {x n : Int} (h : 0 ≤ x) : Int.tmod x n = x % n := by rw [Int.tmod_eq_emod_of_nonneg h]
theorem times_eq {x y : Int} (hx : 0 ≤ x) (hx' : x < 1073741789) (hy : 0 ≤ y) (hy' : y < 1073741789) : lottery_residue_times.f x y = some (x * y % 1073741789) := by
  have := mul_bound hx hx' hy hy'
  unfold lottery_residue_times.f
  rw [w64 (by omega) (by omega), tmod_pos' this.1]
theorem plus_eq {x y : Int} (hx : 0 ≤ x) (hx' : x < 1073741789) (hy : 0 ≤ y) (hy' : y < 1073741789) : lottery_residue_plus.f x y = some ((x + y) % 1073741789) := by
  unfold lottery_residue_plus.f
  rw [w64 (by omega) (by omega), tmod_pos' (by omega)]
theorem res_lo (x : Int) : 0 ≤ x % 1073741789 := Int.emod_nonneg _ (by decide)
theorem res_hi (x : Int) : x % 1073741789 < 1073741789 := Int.emod_lt_of_pos _ (by decide)
theorem rd_get {l : List Int} {i : Int} (h0 : 0 ≤ i) (h1 : i < l.length) : rd l i = l[i.toNat]'(by omega) := by
  simp [rd, List.getD_eq_getElem?_getD, List.getElem?_eq_getElem (show i.toNat < l.length by omega)]
end Go.Proofs.YtkghgaifgpgfkaaDoor.PL
end
section
namespace Go.Proofs.YtkghgaifgpgfkaaDoor.LotZ
set_option linter.unusedVariables false
abbrev F := Fin 1073741789
def pw (a : F) : Nat → F
  | 0 => 1
  | n + 1 => pw a n * a
theorem pw_zero (a : F) : pw a 0 = 1 := rfl
theorem pw_succ (a : F) (n : Nat) : pw a (n + 1) = pw a n * a := rfl
theorem pw_add (a : F) (m n : Nat) : pw a (m + n) = pw a m * pw a n := by
  induction n with
  | zero => rw [Nat.add_zero, pw_zero]; grind
  | succ n ih => rw [← Nat.add_assoc, pw_succ, pw_succ, ih]; grind
theorem pw_mul (a : F) (m n : Nat) : pw a (m * n) = pw (pw a m) n := by
  induction n with
  | zero => rw [Nat.mul_zero, pw_zero, pw_zero]
  | succ n ih => rw [Nat.mul_succ, pw_add, pw_succ, ih]
theorem pw_prod (a b : F) (n : Nat) : pw (a * b) n = pw a n * pw b n := by
  induction n with
  | zero => rw [pw_zero, pw_zero, pw_zero]; grind
  | succ n ih => rw [pw_succ, pw_succ, pw_succ, ih]; grind
theorem pw_one (n : Nat) : pw 1 n = 1 := by
  induction n with
  | zero => rfl
  | succ n ih => rw [pw_succ, ih]; grind
def U (a : F) : Prop := pw a 1073741788 = 1
def inv (a : F) : F := pw a 1073741787
theorem U.mul {a b : F} (h : U a) (k : U b) : U (a * b) := by
  unfold U at *; rw [pw_prod, h, k]; grind
theorem U.inv {a : F} (h : U a) : U (inv a) := by
  unfold U LotZ.inv at *; rw [← pw_mul, Nat.mul_comm, pw_mul, h, pw_one]
theorem U.one : U 1 := pw_one _
theorem inv_prod (a b : F) : inv (a * b) = inv a * inv b := pw_prod _ _ _
theorem inv_one : inv 1 = 1 := pw_one _
def pd (x : F) : List F → F
  | [] => 1
  | q :: l => (x - q) * pd x l
theorem pd_append (x : F) (l m : List F) : pd x (l ++ m) = pd x l * pd x m := by
  induction l with
  | nil => simp only [List.nil_append, pd]; grind
  | cons q l ih => simp only [List.cons_append, pd, ih]; grind
def thr : List F → (F → F) → F → F
  | [], _, _ => 0
  | a :: l, g, x => g a * (pd x l * inv (pd a l)) + (x - a) * thr l (fun p => g p * inv (p - a)) x
theorem thr_congr {x : F} : ∀ {l : List F} {f g : F → F}, (∀ p ∈ l, f p = g p) → thr l f x = thr l g x
  | [], _, _, _ => rfl
  | a :: l, f, g, h => by
    simp only [thr]
    rw [h a List.mem_cons_self, thr_congr (l := l) (f := fun p => f p * inv (p - a)) (g := fun p => g p * inv (p - a)) (fun p hp => by rw [h p (List.mem_cons_of_mem _ hp)])]
def Ok (l : List F) : Prop := l.Pairwise fun a b => U (a - b)
theorem neg_one_sq : pw (0 - 1 : F) 2 = 1 := by decide
theorem neg_one_U : U (0 - 1 : F) := by
  have h := pw_mul (0 - 1 : F) 2 536870894
  rw [neg_one_sq, pw_one] at h
  exact h
theorem U.neg {a b : F} (h : U (a - b)) : U (b - a) := by
  have h1 : U (0 - 1 : F) := neg_one_U
  have := h1.mul h
  rw [show b - a = (0 - 1) * (a - b) by grind]
  exact this
theorem Ok.perm {l m : List F} (h : l.Perm m) (hl : Ok l) : Ok m := h.pairwise hl (fun h => U.neg h)
def ev : List F → F → F
  | [], _ => 0
  | c :: l, t => c + t * ev l t
end Go.Proofs.YtkghgaifgpgfkaaDoor.LotZ
end
section
namespace Go.Proofs.YtkghgaifgpgfkaaDoor.PL
open Go.RowKit Go.Proofs.YtkghgaifgpgfkaaDoorW.PrintWords Go.Proofs.YtkghgaifgpgfkaaDoorW.PrintLast Go.Proofs.YtkghgaifgpgfkaaDoorW.PrintMore
open Go.Proofs.YtkghgaifgpgfkaaDoor.LotZ (F U pw inv pd thr Ok ev)
set_option linter.unusedVariables false
def ofF (a : F) : Int := (a.val : Int)
def toF (x : Int) : F := Fin.ofNat 1073741789 x.toNat
theorem ofF_lo (a : F) : 0 ≤ ofF a := by unfold ofF; omega
theorem ofF_hi (a : F) : ofF a < 1073741789 := by unfold ofF; have := a.isLt; omega
theorem ofF_toF {x : Int} (h0 : 0 ≤ x) (h1 : x < 1073741789) : ofF (toF x) = x := by
  unfold ofF toF
  rw [Fin.val_ofNat, Nat.mod_eq_of_lt (by omega)]
  omega
theorem ofF_inj {a b : F} (h : ofF a = ofF b) : a = b := by
  unfold ofF at h
  exact Fin.ext (by omega)
theorem ofF_mul (a b : F) : ofF a * ofF b % 1073741789 = ofF (a * b) := by
  unfold ofF
  rw [Fin.val_mul, ← Int.natCast_mul]
  generalize a.val * b.val = m
  omega
theorem ofF_add (a b : F) : (ofF a + ofF b) % 1073741789 = ofF (a + b) := by
  unfold ofF
  rw [Fin.val_add]
  omega
theorem ofF_sub (a b : F) : (ofF a + 1073741789 - ofF b) % 1073741789 = ofF (a - b) := by
  unfold ofF
  have e : (a - b).val = (1073741789 - b.val + a.val) % 1073741789 := rfl
  rw [e]
  have := b.isLt
  have := a.isLt
  omega
theorem times_F (a b : F) : lottery_residue_times.f (ofF a) (ofF b) = some (ofF (a * b)) := by
  rw [times_eq (ofF_lo a) (ofF_hi a) (ofF_lo b) (ofF_hi b), ofF_mul]
theorem timesW_F (a b : F) : timesW (ofF a) (ofF b) = ofF (a * b) := Option.some.inj (times_F a b)
theorem plus_F (a b : F) : lottery_residue_plus.f (ofF a) (ofF b) = some (ofF (a + b)) := by
  rw [plus_eq (ofF_lo a) (ofF_hi a) (ofF_lo b) (ofF_hi b), ofF_add]
theorem plusW_F (a b : F) : plusW (ofF a) (ofF b) = ofF (a + b) := Option.some.inj (plus_F a b)
theorem minus_F (a b : F) : lottery_residue_minus.f (ofF a) (ofF b) = some (ofF (a - b)) := by
  have h1 := ofF_lo a; have h2 := ofF_hi a; have h3 := ofF_lo b; have h4 := ofF_hi b
  unfold lottery_residue_minus.f
  rw [w64 (x := ofF a + 1073741789) (by omega) (by omega), w64 (by omega) (by omega), tmod_pos' (by omega), ofF_sub]
def pf : Nat → F → Nat → F → F
  | 0, _, _, acc => acc
  | k + 1, a, n, acc => if 0 < n then pf k (a * a) (n / 2) (if n % 2 = 1 then acc * a else acc) else acc
theorem pw_two (a : F) (m : Nat) : pw (a * a) m = pw a (2 * m) := by
  rw [LotZ.pw_mul]
  congr 1
  show a * a = pw a 1 * a
  show a * a = 1 * a * a
  grind
theorem pf_eq : ∀ (k : Nat) (a : F) (n : Nat) (acc : F), n < 2 ^ k → pf k a n acc = acc * pw a n
  | 0, a, n, acc, h => by
    obtain rfl : n = 0 := by simpa using h
    show acc = acc * 1
    grind
  | k + 1, a, n, acc, h => by
    unfold pf
    by_cases hn : 0 < n
    · rw [if_pos hn, pf_eq k (a * a) (n / 2) _ (by rw [Nat.pow_succ] at h; omega), pw_two]
      by_cases ho : n % 2 = 1
      · rw [if_pos ho]
        have e : n = 2 * (n / 2) + 1 := by omega
        have : pw a n = pw a (2 * (n / 2)) * a := by
          conv => lhs; rw [e]
          exact LotZ.pw_succ _ _
        rw [this]; grind
      · rw [if_neg ho]
        have e : 2 * (n / 2) = n := by omega
        rw [e]
    · obtain rfl : n = 0 := by omega
      rw [if_neg hn]
      show acc = acc * 1
      grind
theorem U_of_pf {a : F} (h : pf 30 a 1073741788 1 = 1) : U a := by
  rw [pf_eq 30 a 1073741788 1 (by decide)] at h
  unfold LotZ.U
  rw [← h]
  generalize pw a 1073741788 = b
  grind
theorem U_table : ∀ n : Fin 16, pf 30 (toF ((n.val : Int) + 1)) 1073741788 1 = 1 := of_decide_eq_true (by kernel_rfl)
theorem U_small {x : Int} (h0 : 1 ≤ x) (h1 : x ≤ 16) : U (toF x) := by
  have := U_table ⟨(x - 1).toNat, by omega⟩
  have e : (((⟨(x - 1).toNat, by omega⟩ : Fin 16).val : Int) + 1) = x := by
    show (((x - 1).toNat : Nat) : Int) + 1 = x
    omega
  rw [e] at this
  exact U_of_pf this
theorem toF_sub {x y : Int} (h0 : 0 ≤ x) (h1 : x < 1073741789) (h2 : 0 ≤ y) (h3 : y ≤ x) : toF x - toF y = toF (x - y) := by
  apply ofF_inj
  rw [← ofF_sub, ofF_toF h0 h1, ofF_toF h2 (by omega), ofF_toF (by omega) (by omega)]
  omega
theorem U_diff {x y : Int} (h0 : 0 ≤ x) (h1 : x ≤ 16) (h2 : 0 ≤ y) (h3 : y ≤ 16) (hne : x ≠ y) : U (toF x - toF y) := by
  by_cases h : y ≤ x
  · rw [toF_sub h0 (by omega) h2 h]
    exact U_small (by omega) (by omega)
  · refine LotZ.U.neg ?_
    rw [toF_sub h2 (by omega) h0 (by omega)]
    exact U_small (by omega) (by omega)
theorem inverse_l0 : ∀ (k : Nat) (n : Nat) (a acc : F), n < 2 ^ k → ∀ k', k < k' → n < 9223372036854775807 → lottery_residue_inverse.l0 k' (ofF a) (ofF acc) (n : Int) = some (ofF (pf k a n acc))
  | k, 0, a, acc, _, k' + 1, _, _ => by
    unfold lottery_residue_inverse.l0
    rw [if_neg (by omega)]
    cases k <;> rfl
  | 0, n + 1, a, acc, h, _, _, _ => by
    have : n + 1 < 1 := h
    omega
  | k + 1, n + 1, a, acc, h, k' + 1, hk, hs => by
    unfold lottery_residue_inverse.l0
    have hw : wrap64 (((n + 1 : Nat) : Int).tdiv 2) = (((n + 1) / 2 : Nat) : Int) := by
      rw [Int.tdiv_eq_ediv_of_nonneg (by omega), w64 (by omega) (by omega)]
      omega
    rw [if_pos (by omega), tmod_pos' (by omega), hw, times_F, times_F]
    simp only [Option.bind_some]
    have hlt : (n + 1) / 2 < 2 ^ k := by rw [Nat.pow_succ] at h; omega
    by_cases ho : (n + 1) % 2 = 1
    · rw [if_pos (by omega), inverse_l0 k ((n + 1) / 2) (a * a) (acc * a) hlt k' (by omega) (by omega)]
      congr 2
      show _ = pf (k + 1) a (n + 1) acc
      rw [pf, if_pos (Nat.succ_pos n), if_pos ho]
    · rw [if_neg (by omega), inverse_l0 k ((n + 1) / 2) (a * a) acc hlt k' (by omega) (by omega)]
      congr 2
      show _ = pf (k + 1) a (n + 1) acc
      rw [pf, if_pos (Nat.succ_pos n), if_neg ho]
theorem ofF_one : ofF 1 = 1 := by decide
theorem ofF_zero : ofF 0 = 0 := by decide
theorem one_mul_F (b : F) : 1 * b = b := by grind
theorem pf_inv (a : F) : pf 30 a 1073741787 1 = inv a := (pf_eq 30 a 1073741787 1 (by decide)).trans (one_mul_F _)
theorem inverse_F (a : F) (k : Nat) (hk : 30 < k) : lottery_residue_inverse.f k (ofF a) = some (ofF (inv a)) := by
  have h := inverse_l0 30 1073741787 a 1 (by decide) k hk (by omega)
  rw [ofF_one, pf_inv] at h
  exact h
end Go.Proofs.YtkghgaifgpgfkaaDoor.PL
end
section
namespace Go.Proofs.YtkghgaifgpgfkaaDoor.PL
open Go.RowKit Go.Proofs.YtkghgaifgpgfkaaDoorW.PrintWords Go.Proofs.YtkghgaifgpgfkaaDoorW.PrintLast Go.Proofs.YtkghgaifgpgfkaaDoorW.PrintMore
open Go.Proofs.YtkghgaifgpgfkaaDoor.LotZ (F U pw inv pd thr Ok ev)
set_option linter.unusedVariables false
def sh (p : F × F) : S47 := ⟨ofF p.1, ofF p.2⟩
def skip (i : Nat) : Nat → List (F × F) → List (F × F)
  | _, [] => []
  | j, p :: r => if j = i then skip i (j + 1) r else p :: skip i (j + 1) r
theorem foldl_times : ∀ (l : List F) (v : F), (l.map ofF).foldl timesW (ofF v) = ofF (l.foldl (· * ·) v)
  | [], v => rfl
  | a :: l, v => by
    simp only [List.map_cons, List.foldl_cons, timesW_F]
    exact foldl_times l _
theorem foldl_plus : ∀ (l : List F) (v : F), (l.map ofF).foldl plusW (ofF v) = ofF (l.foldl (· + ·) v)
  | [], v => rfl
  | a :: l, v => by
    simp only [List.map_cons, List.foldl_cons, plusW_F]
    exact foldl_plus l _
theorem rd_sh (L : List (F × F)) (i : Nat) (h : i < L.length) : rd_T47 (L.map sh) (i : Int) = sh L[i] := by
  rw [rd47_at (L.map sh) i (by simpa using h), List.getElem_map]
def part (X a v : F) (os : List (F × F)) : F := (os.map fun p => X - p.1).foldl (· * ·) v * inv ((os.map fun p => a - p.1).foldl (· * ·) 1)
theorem inner_ok (L : List (F × F)) (hL : L.length ≤ 16) (X a v : F) (parts : List Int) (hparts : parts.length ≤ 16) (i : Nat) (hi : i < L.length) : ∀ (r : List (F × F)) (j : Nat) (k' : Nat) (os : List (F × F)), L.drop j = r → j ≤ L.length → os.length ≤ j → 30 < k' →
    lottery_through.l1 (k' + r.length + 1) (L.map sh) (ofF X) parts (i : Int) (os.map fun p => ofF (X - p.1)) (os.map fun p => ofF (a - p.1)) (L.map sh) (L.length : Int) (i : Int) (L.map sh) (L.length : Int) (j : Int) (ofF a) (ofF v) =
    lottery_through.l0 k' (L.map sh) (ofF X) (parts ++ [ofF (part X a v (os ++ skip i j r))]) (L.map sh) (L.length : Int) ((i + 1 : Nat) : Int)
  | [], j, k', os, hr, hj, hos, hk => by
    have hjl : j = L.length := by
      have := congrArg List.length hr
      simp at this
      omega
    rw [show k' + ([] : List (F × F)).length + 1 = k' + 1 from rfl, lottery_through.l1]
    have e1 : (os.map fun p => ofF (X - p.1)) = (os.map fun p => X - p.1).map ofF := by simp
    have e2 : (os.map fun p => ofF (a - p.1)) = (os.map fun p => a - p.1).map ofF := by simp
    have hw : wrap64 ((i : Int) + 1) = ((i + 1 : Nat) : Int) := by rw [w64 (by omega) (by omega)]; omega
    rw [if_neg (by omega), e1, e2, fold_times.f, fold_times.f, foldl_times, show (1 : Int) = ofF 1 from ofF_one.symm, foldl_times]
    simp only [Option.bind_some]
    rw [inverse_F _ k' hk, Option.bind_some, times_F, Option.bind_some, if_pos (by omega), ofF_one, hw]
    simp only [skip, List.append_nil]
    rfl
  | p :: r, j, k', os, hr, hj, hos, hk => by
    have hjl : j < L.length := by
      have := congrArg List.length hr
      simp at this
      omega
    have hp : L[j] = p ∧ L.drop (j + 1) = r := by
      rw [List.drop_eq_getElem_cons hjl] at hr
      injection hr with h1 h2
      exact ⟨h1, h2⟩
    have hw : wrap64 ((j : Int) + 1) = ((j + 1 : Nat) : Int) := by rw [w64 (by omega) (by omega)]; omega
    rw [show k' + (p :: r).length + 1 = (k' + r.length + 1) + 1 from rfl, lottery_through.l1]
    rw [if_pos (by omega), if_pos (by omega), if_pos (by rw [List.length_map]; omega), rd_sh L j hjl, hp.1, hw]
    by_cases hji : j = i
    · rw [if_pos (by omega)]
      rw [inner_ok L hL X a v parts hparts i hi r (j + 1) k' os hp.2 (by omega) (by omega) hk]
      simp only [skip, if_pos hji]
    · rw [if_neg (by omega)]
      show (lottery_residue_minus.f (ofF X) (ofF p.1)).bind _ = _
      rw [minus_F, Option.bind_some, if_pos (by rw [List.length_map]; omega)]
      show (lottery_residue_minus.f (ofF a) (ofF p.1)).bind _ = _
      rw [minus_F, Option.bind_some, if_pos (by rw [List.length_map]; omega)]
      have := inner_ok L hL X a v parts hparts i hi r (j + 1) k' (os ++ [p]) hp.2 (by omega) (by simp; omega) hk
      simp only [List.map_append, List.map_cons, List.map_nil] at this
      rw [this]
      simp only [skip, if_neg hji, List.append_assoc, List.singleton_append]
theorem skip_all (i : Nat) : ∀ (r : List (F × F)) (j : Nat), i < j → skip i j r = r
  | [], _, _ => rfl
  | p :: r, j, h => by
    simp only [skip]
    rw [if_neg (by omega), skip_all i r (j + 1) (by omega)]
theorem skip_mid : ∀ (done : List (F × F)) (p : F × F) (rest : List (F × F)) (j : Nat), skip (j + done.length) j (done ++ p :: rest) = done ++ rest
  | [], p, rest, j => by
    simp only [List.nil_append, skip, List.length_nil, Nat.add_zero, if_true]
    exact skip_all j rest (j + 1) (by omega)
  | q :: done, p, rest, j => by
    simp only [List.cons_append, skip, List.length_cons]
    rw [if_neg (by omega), show j + (done.length + 1) = (j + 1) + done.length by omega, skip_mid done p rest (j + 1)]
def ts (X : F) : List (F × F) → List (F × F) → List F
  | _, [] => []
  | done, p :: rest => part X p.1 p.2 (done ++ rest) :: ts X (done ++ [p]) rest
theorem outer_ok (X : F) : ∀ (rest done : List (F × F)) (parts : List F) (k : Nat), done.length + rest.length ≤ 16 → parts.length ≤ done.length → rest.length * (done.length + rest.length + 3) + 40 < k →
    lottery_through.l0 k ((done ++ rest).map sh) (ofF X) (parts.map ofF) ((done ++ rest).map sh) ((done ++ rest).length : Int) (done.length : Int) = some (ofF ((parts ++ ts X done rest).foldl (· + ·) 0))
  | [], done, parts, k + 1, h, hp, hk => by
    rw [lottery_through.l0, if_neg (by simp), fold_plus.f, show (0 : Int) = ofF 0 from ofF_zero.symm, foldl_plus]
    simp only [Option.bind_some, ts, List.append_nil]
  | p :: rest, done, parts, k + 1, h, hp, hk => by
    have hlen : (done ++ p :: rest).length = done.length + rest.length + 1 := by simp; omega
    rw [lottery_through.l0, if_pos (by rw [hlen]; omega), if_pos (by omega), if_pos (by rw [List.length_map, hlen]; omega), rd_sh _ done.length (by rw [hlen]; omega)]
    have hget : (done ++ p :: rest)[done.length]'(by rw [hlen]; omega) = p := by simp
    rw [hget]
    simp only [List.length_cons] at h hk
    have hk2 : (done.length + rest.length + 1) + 31 < k := by
      have : (rest.length + 1) * (done.length + (rest.length + 1) + 3) = rest.length * (done.length + (rest.length + 1) + 3) + (done.length + (rest.length + 1) + 3) := by rw [Nat.succ_mul]
      omega
    obtain ⟨k', rfl⟩ : ∃ k', k = k' + (done ++ p :: rest).length + 1 := ⟨k - (done.length + rest.length + 1) - 1, by rw [hlen]; omega⟩
    have hin := inner_ok (done ++ p :: rest) (by rw [hlen]; omega) X p.1 p.2 (parts.map ofF) (by rw [List.length_map]; omega) done.length (by rw [hlen]; omega) (done ++ p :: rest) 0 k' [] rfl (by omega) (by simp) (by rw [hlen] at hk2; omega)
    simp only [List.map_nil, List.nil_append] at hin
    have hsk := skip_mid done p rest 0
    rw [Nat.zero_add] at hsk
    rw [hsk] at hin
    rw [show ((done ++ p :: rest).map sh).length = (done ++ p :: rest).length from List.length_map _]
    refine Eq.trans hin ?_
    have e1 : (parts.map ofF ++ [ofF (part X p.1 p.2 (done ++ rest))]) = (parts ++ [part X p.1 p.2 (done ++ rest)]).map ofF := by simp
    have e2 : done ++ p :: rest = (done ++ [p]) ++ rest := by simp
    have e3 : ((done.length + 1 : Nat) : Int) = ((done ++ [p]).length : Int) := by simp
    rw [e1, e3]
    have hrec := outer_ok X rest (done ++ [p]) (parts ++ [part X p.1 p.2 (done ++ rest)]) k' (by simp; omega) (by simp; omega) (by
      rw [hlen] at hk
      simp only [List.length_append, List.length_singleton]
      have : (rest.length + 1) * (done.length + (rest.length + 1) + 3) = rest.length * (done.length + 1 + rest.length + 3) + (done.length + (rest.length + 1) + 3) := by rw [Nat.succ_mul]; congr 2; omega
      omega)
    rw [← e2] at hrec
    rw [hrec]
    simp only [ts, List.append_assoc, List.singleton_append]
theorem foldl_add : ∀ (l : List F) (a : F), l.foldl (· + ·) a = a + l.foldl (· + ·) 0
  | [], a => by simp only [List.foldl_nil]; grind
  | b :: l, a => by
    simp only [List.foldl_cons]
    rw [foldl_add l (a + b), foldl_add l (0 + b)]
    grind
theorem foldl_mul : ∀ (l : List (F × F)) (x v : F), (l.map fun p => x - p.1).foldl (· * ·) v = v * pd x (l.map (·.1))
  | [], x, v => by simp only [List.map_nil, List.foldl_nil, LotZ.pd]; grind
  | p :: l, x, v => by
    simp only [List.map_cons, List.foldl_cons, LotZ.pd]
    rw [foldl_mul l x (v * (x - p.1))]
    grind
theorem part_eq (X a v : F) (os : List (F × F)) : part X a v os = v * pd X (os.map (·.1)) * inv (pd a (os.map (·.1))) := by
  unfold part
  rw [foldl_mul, foldl_mul]
  congr 2
  exact one_mul_F _
theorem ts_sum (X : F) (g : F → F) : ∀ (rest done : List (F × F)), (∀ p ∈ rest, g p.1 = p.2) → (ts X done rest).foldl (· + ·) 0 = pd X (done.map (·.1)) * thr (rest.map (·.1)) (fun p => g p * inv (pd p (done.map (·.1)))) X
  | [], done, _ => by simp only [ts, List.foldl_nil, List.map_nil, LotZ.thr]; grind
  | p :: rest, done, h => by
    simp only [ts, List.foldl_cons, List.map_cons, LotZ.thr]
    rw [foldl_add, ts_sum X g rest (done ++ [p]) (fun q hq => h q (List.mem_cons_of_mem _ hq)), part_eq, h p List.mem_cons_self]
    simp only [List.map_append, List.map_cons, List.map_nil, LotZ.pd_append, LotZ.inv_prod]
    rw [LotZ.thr_congr (l := rest.map (·.1)) (f := fun q => g q * (inv (pd q (done.map (·.1))) * inv (pd q [p.1]))) (g := fun q => g q * inv (pd q (done.map (·.1))) * inv (q - p.1)) (fun q _ => by
      show _ * (_ * inv ((q - p.1) * 1)) = _
      rw [show (q - p.1) * 1 = q - p.1 by grind]
      grind)]
    show _ = _ * (_ * (pd X (rest.map (·.1)) * inv (pd p.1 (rest.map (·.1)))) + _)
    rw [show pd X [p.1] = X - p.1 by simp only [LotZ.pd]; grind]
    grind
theorem through_ok (L : List (F × F)) (hL : L.length ≤ 16) (X : F) (g : F → F) (hg : ∀ p ∈ L, g p.1 = p.2) (k : Nat) (hk : 400 ≤ k) : lottery_through.f k (L.map sh) (ofF X) = some (ofF (thr (L.map (·.1)) g X)) := by
  unfold lottery_through.f
  have h1 : L.length * (L.length + 3) ≤ 16 * 19 := Nat.mul_le_mul (by omega) (by omega)
  have := outer_ok X L [] [] k (by simpa using hL) (by simp) (by simp only [List.length_nil, Nat.zero_add]; omega)
  simp only [List.nil_append, List.map_nil, List.length_nil] at this
  rw [List.length_map]
  refine Eq.trans this ?_
  congr 2
  rw [ts_sum X g L [] hg]
  simp only [List.map_nil, LotZ.pd]
  rw [LotZ.thr_congr (g := g) (fun p _ => by rw [LotZ.inv_one]; grind)]
  exact one_mul_F _
end Go.Proofs.YtkghgaifgpgfkaaDoor.PL
end
section
namespace Go.Proofs.YtkghgaifgpgfkaaDoor.PL
open Go.RowKit Go.Proofs.YtkghgaifgpgfkaaDoorW.PrintWords Go.Proofs.YtkghgaifgpgfkaaDoorW.PrintLast Go.Proofs.YtkghgaifgpgfkaaDoorW.PrintMore
open Go.Proofs.YtkghgaifgpgfkaaDoor.LotZ (F U pw inv pd thr Ok ev)
set_option linter.unusedVariables false
def un (s : S47) : F × F := (toF s.f0, toF s.f1)
theorem ptOK_lo {s : S47} (h : ptOK s = true) : 1 ≤ s.f0 ∧ s.f0 ≤ 16 ∧ 0 ≤ s.f1 ∧ s.f1 < 1073741789 := by
  simp only [ptOK, inR, isRes, Bool.and_eq_true, decide_eq_true_eq] at h
  omega
theorem sh_un {s : S47} (h : ptOK s = true) : sh (un s) = s := by
  have := ptOK_lo h
  unfold sh un
  rw [ofF_toF (by omega) (by omega), ofF_toF (by omega) (by omega)]
theorem map_sh_un {l : List S47} (h : ∀ s ∈ l, ptOK s = true) : (l.map un).map sh = l := by
  rw [List.map_map]
  refine (List.map_congr_left fun s hs => ?_).trans (List.map_id l)
  exact sh_un (h s hs)
theorem recOK_of : ∀ (l : List S47) (seen : List Int), (∀ s ∈ l, ptOK s = true) → (l.map (·.f0)).Nodup → (∀ x ∈ seen, x ∉ l.map (·.f0)) → recOK seen l = true
  | [], _, _, _, _ => rfl
  | s :: l, seen, hp, hn, hs => by
    simp only [List.map_cons, List.nodup_cons] at hn
    have h2 : seen.contains s.f0 = false := by
      simp only [List.contains_eq_mem, decide_eq_false_iff_not]
      intro hm
      exact hs _ hm (by simp)
    unfold recOK
    rw [hp s List.mem_cons_self, h2, recOK_of l (seen ++ [s.f0]) (fun t ht => hp t (List.mem_cons_of_mem _ ht)) hn.2 (fun x hx => ?_)]
    · rfl
    · rcases List.mem_append.1 hx with hx | hx
      · intro hm
        exact hs x hx (by simp only [List.map_cons]; exact List.mem_cons_of_mem _ hm)
      · rw [List.mem_singleton.1 hx]; exact hn.1
theorem recOK_inv : ∀ (l : List S47) (seen : List Int), recOK seen l = true → (∀ s ∈ l, ptOK s = true) ∧ (l.map (·.f0)).Nodup ∧ (∀ x ∈ seen, x ∉ l.map (·.f0))
  | [], _, _ => ⟨by simp, List.nodup_nil, by simp⟩
  | s :: l, seen, h => by
    unfold recOK at h
    simp only [Bool.and_eq_true, Bool.not_eq_true'] at h
    obtain ⟨⟨h1, h2⟩, h3⟩ := h
    obtain ⟨g1, g2, g3⟩ := recOK_inv l _ h3
    simp only [List.contains_eq_mem, decide_eq_false_iff_not] at h2
    refine ⟨fun t ht => ?_, ?_, fun x hx hm => ?_⟩
    · rcases List.mem_cons.1 ht with rfl | ht
      · exact h1
      · exact g1 t ht
    · simp only [List.map_cons, List.nodup_cons]
      exact ⟨g3 _ (by simp), g2⟩
    · simp only [List.map_cons] at hm
      rcases List.mem_cons.1 hm with e | hm
      · rw [e] at hx; exact h2 hx
      · exact g3 x (by simp [hx]) hm
structure RecV (l : List S47) : Prop where
  lo : 1 ≤ l.length
  hi : l.length ≤ 16
  pt : ∀ s ∈ l, ptOK s = true
  nd : (l.map (·.f0)).Nodup
def pts (l : List S47) : List F := l.map fun s => toF s.f0
theorem pts_un (l : List S47) : (l.map un).map (·.1) = pts l := by rw [List.map_map]; rfl
theorem RecV.ok {l : List S47} (h : RecV l) : Ok (pts l) := by
  refine List.pairwise_map.2 ?_
  have := List.pairwise_map.1 h.nd
  refine this.imp_of_mem fun {a b} ha hb hne => ?_
  have ga := ptOK_lo (h.pt a ha)
  have gb := ptOK_lo (h.pt b hb)
  exact U_diff (by omega) (by omega) (by omega) (by omega) hne
theorem recover_ok {l : List S47} (h : RecV l) {g : F → F} (hg : ∀ s ∈ l, g (toF s.f0) = toF s.f1) {k : Nat} (hk : 400 ≤ k) : lottery_Recover.f k l = some (ofF (thr (pts l) g 0), 0) := by
  unfold lottery_Recover.f
  have hin : inR (l.length : Int) 1 16 = true := by
    have := h.lo; have := h.hi
    simp only [inR, Bool.and_eq_true, decide_eq_true_eq]; omega
  rw [if_pos hin, if_pos (recOK_of l [] h.pt h.nd (by simp))]
  have := through_ok (l.map un) (by rw [List.length_map]; exact h.hi) 0 g (fun p hp => by
    obtain ⟨s, hs, rfl⟩ := List.mem_map.1 hp
    exact hg s hs) k hk
  rw [map_sh_un h.pt, ofF_zero, pts_un] at this
  rw [this, Option.bind_some]
theorem recover_bad {l : List S47} (h : ¬ RecV l) (k : Nat) : lottery_Recover.f k l = some (0, 1) := by
  unfold lottery_Recover.f
  by_cases hin : inR (l.length : Int) 1 16 = true
  · rw [if_pos hin]
    by_cases hr : recOK [] l = true
    · exfalso
      obtain ⟨g1, g2, _⟩ := recOK_inv l [] hr
      simp only [inR, Bool.and_eq_true, decide_eq_true_eq] at hin
      exact h ⟨by omega, by omega, g1, g2⟩
    · rw [if_neg hr]
  · rw [if_neg hin]
theorem bk_snd (zs : List Int) : (bk zs 0).map (·.2) = zs.reverse := by
  apply List.ext_getElem
  · simp [bk]
  · intro i h1 h2
    simp only [bk, List.map_map, List.getElem_map, List.getElem_range, Function.comp]
    rw [List.getElem_reverse]
    simp only [List.length_reverse] at h2
    rw [rd_get (by omega) (by omega)]
    simp
theorem horner_snd (x : Int) (l : List (Int × Int)) : horner x l = (l.map (·.2)).foldl (fun a c => plusW (timesW a x) c) 0 := by
  unfold horner
  rw [List.foldl_map]
theorem horner_F (x : F) : ∀ (c : List F) , ((c.map ofF).reverse).foldl (fun a c => plusW (timesW a (ofF x)) c) 0 = ofF (ev c x)
  | [] => ofF_zero.symm
  | a :: c => by
    rw [List.map_cons, List.reverse_cons, List.foldl_append, horner_F x c]
    simp only [List.foldl_cons, List.foldl_nil, timesW_F, plusW_F]
    congr 1
    show _ = a + x * ev c x
    grind
theorem at_F (c : List F) (x : F) : lottery_polynomial_at.f (c.map ofF) (ofF x) = some (ofF (ev c x)) := by
  unfold lottery_polynomial_at.f
  rw [horner_snd, bk_snd, horner_F]
end Go.Proofs.YtkghgaifgpgfkaaDoor.PL
end
section
namespace Go.Proofs.YtkghgaifgpgfkaaDoor.PL
open Go.RowKit Go.Proofs.YtkghgaifgpgfkaaDoorW.PrintWords Go.Proofs.YtkghgaifgpgfkaaDoorW.PrintLast Go.Proofs.YtkghgaifgpgfkaaDoorW.PrintMore
open Go.Proofs.YtkghgaifgpgfkaaDoor.LotZ (F U pw inv pd thr Ok ev)
set_option linter.unusedVariables false
theorem isRes_two (x y : Int) : lottery_isResidue.f [x, y] = some (isRes x && isRes y) := by simp [lottery_isResidue.f]
def sumS (a b c : Int) : Int := sumB (intsB [a, b, c])
theorem sum_ok {a b c : Int} (ha : i64B a = true) (hb : i64B b = true) (hc : i64B c = true) : lottery_sum.f a b c = some (sumS a b c) := by
  unfold lottery_sum.f digest_Ints.f
  rw [if_pos ⟨by simp, by simp [ha, hb, hc]⟩]
  rfl
def shareAt (c : List F) (i : Nat) : S47 := ⟨(i : Int) + 1, ofF (ev c (toF ((i : Int) + 1)))⟩
def sharesOf (c : List F) (n : Nat) : List S47 := (List.range n).map (shareAt c)
theorem sharesOf_succ (c : List F) (n : Nat) : sharesOf c (n + 1) = sharesOf c n ++ [shareAt c n] := by simp [sharesOf, List.range_succ]
theorem sharesOf_length (c : List F) (n : Nat) : (sharesOf c n).length = n := by simp [sharesOf]
theorem deal_l1 (c : List F) (n : Nat) (hn : n ≤ 16) (who sum : Int) : ∀ (m i k : Nat), i + m = n → m < k → lottery_Deal.l1 k (c.map ofF) (n : Int) (i : Int) who sum (sharesOf c i) = some (who, sum, sharesOf c n, 0)
  | 0, i, k + 1, hi, hk => by
    have hin : i = n := by omega
    subst hin
    rw [lottery_Deal.l1, if_neg (by omega)]
  | m + 1, i, k + 1, hi, hk => by
    have hw : wrap64 ((i : Int) + 1) = (i : Int) + 1 := w64 (by omega) (by omega)
    have hp : ofF (toF ((i : Int) + 1)) = (i : Int) + 1 := ofF_toF (by omega) (by omega)
    have hat := at_F c (toF ((i : Int) + 1))
    rw [hp] at hat
    rw [lottery_Deal.l1, if_pos (by omega), hw, hat, Option.bind_some, if_pos (by rw [sharesOf_length]; omega)]
    have := deal_l1 c n hn who sum m (i + 1) k (by omega) (by omega)
    rw [sharesOf_succ] at this
    exact this
theorem deal_l0 (v : Int) (cs : List Int) (hc : cs.length ≤ 16) (hv : isRes v = true) (hcs : cs.all isRes = true) (n : Nat) (hn : n ≤ 16) (who salt : Int) (h1 : i64B who = true) (h2 : i64B salt = true) : ∀ (m i k : Nat), i + m = cs.length → m + n + 1 < k →
    lottery_Deal.l0 k (n : Int) (v :: cs.take i) cs (cs.length : Int) (i : Int) who v salt = some (who, sumS who v salt, sharesOf ((v :: cs).map toF) n, 0)
  | 0, i, k + 1, hi, hk => by
    rw [lottery_Deal.l0, if_neg (by omega)]
    have hv' : i64B v = true := by
      simp only [isRes, i64B, Bool.and_eq_true, decide_eq_true_eq] at *
      omega
    rw [sum_ok h1 hv' h2, Option.bind_some, List.take_of_length_le (by omega)]
    have e : v :: cs = ((v :: cs).map toF).map ofF := by
      rw [List.map_map]
      refine ((List.map_congr_left fun x hx => ?_).trans (List.map_id _)).symm
      have hx' : isRes x = true := by
        rcases List.mem_cons.1 hx with rfl | hx
        · exact hv
        · exact List.all_eq_true.1 hcs x hx
      simp only [isRes, Bool.and_eq_true, decide_eq_true_eq] at hx'
      exact ofF_toF (by omega) (by omega)
    conv => lhs; rw [e]
    exact deal_l1 _ n hn who _ n 0 k (by omega) (by omega)
  | m + 1, i, k + 1, hi, hk => by
    have hw : wrap64 ((i : Int) + 1) = ((i + 1 : Nat) : Int) := by rw [w64 (by omega) (by omega)]; omega
    have hil : i < cs.length := by omega
    rw [lottery_Deal.l0, if_pos (by omega), if_pos (by omega), if_pos (by omega), if_pos (by rw [List.length_cons, List.length_take]; omega), hw]
    have := deal_l0 v cs hc hv hcs n hn who salt h1 h2 m (i + 1) k (by omega) (by omega)
    have hrd : rd cs (i : Int) = cs[i] := rd_get (by omega) (by omega)
    rw [List.take_succ_eq_append_getElem hil, ← hrd] at this
    exact this
def DealV (who v salt : Int) (cs : List Int) (n : Int) : Prop := (1 ≤ n ∧ n ≤ 16) ∧ (1 ≤ who ∧ who ≤ n) ∧ (isRes v = true ∧ isRes salt = true) ∧ cs.all isRes = true ∧ (cs.length : Int) < n
theorem deal_ok {who v salt : Int} {cs : List Int} {n : Int} (h : DealV who v salt cs n) {k : Nat} (hk : 50 ≤ k) : lottery_Deal.f k who v salt cs n = some (who, sumS who v salt, sharesOf ((v :: cs).map toF) n.toNat, 0) := by
  obtain ⟨⟨a1, a2⟩, ⟨b1, b2⟩, ⟨c1, c2⟩, d, e⟩ := h
  obtain ⟨k, rfl⟩ : ∃ k', k = k' + 1 := ⟨k - 1, by omega⟩
  have x1 : inR n 1 16 = true := by simp only [inR, Bool.and_eq_true, decide_eq_true_eq]; omega
  have x2 : inR who 1 n = true := by simp only [inR, Bool.and_eq_true, decide_eq_true_eq]; omega
  unfold lottery_Deal.f
  rw [between_in, Option.bind_some, if_pos x1, between_in, Option.bind_some, if_pos x2, isRes_two, Option.bind_some, c1, c2, if_pos (by decide), lottery_isResidue.f, Option.bind_some, if_pos d, decide_eq_false (by omega)]
  rw [lottery_Deal.j0, if_neg (by decide)]
  have hs : i64B salt = true := by
    simp only [isRes, i64B, Bool.and_eq_true, decide_eq_true_eq] at *
    omega
  have := deal_l0 v cs (by omega) c1 d n.toNat (by omega) who salt (by simp only [i64B, Bool.and_eq_true, decide_eq_true_eq]; omega) hs cs.length 0 k (by omega) (by omega)
  rw [Int.toNat_of_nonneg (by omega)] at this
  exact this
theorem deal_bad {who v salt : Int} {cs : List Int} {n : Int} (h : ¬ DealV who v salt cs n) {k : Nat} (hk : 50 ≤ k) : lottery_Deal.f k who v salt cs n = some (0, 0, [], 1) := by
  obtain ⟨k, rfl⟩ : ∃ k', k = k' + 1 := ⟨k - 1, by omega⟩
  have hj : lottery_Deal.j0 (k + 1) cs n true who v salt = some (0, 0, [], 1) := by rw [lottery_Deal.j0, if_pos rfl]
  unfold lottery_Deal.f
  rw [between_in, Option.bind_some]
  by_cases x1 : inR n 1 16 = true
  · rw [if_pos x1, between_in, Option.bind_some]
    by_cases x2 : inR who 1 n = true
    · rw [if_pos x2, isRes_two, Option.bind_some]
      by_cases x3 : (isRes v && isRes salt) = true
      · rw [if_pos x3, lottery_isResidue.f, Option.bind_some]
        by_cases x4 : cs.all isRes = true
        · rw [if_pos x4]
          have : decide ((cs.length : Int) ≥ n) = true := by
            refine decide_eq_true ?_
            refine Int.not_lt.1 fun hlt => h ⟨?_, ?_, ?_, x4, hlt⟩
            · simp only [inR, Bool.and_eq_true, decide_eq_true_eq] at x1; exact x1
            · simp only [inR, Bool.and_eq_true, decide_eq_true_eq] at x2; exact x2
            · simpa using x3
          rw [this, hj]
        · rw [if_neg x4, hj]
      · rw [if_neg x3, hj]
    · rw [if_neg x2, hj]
  · rw [if_neg x1, hj]
end Go.Proofs.YtkghgaifgpgfkaaDoor.PL
end
section
namespace Go.Proofs.YtkghgaifgpgfkaaDoor.PL
open Go.RowKit Go.Proofs.YtkghgaifgpgfkaaDoorW.PrintWords Go.Proofs.YtkghgaifgpgfkaaDoorW.PrintLast Go.Proofs.YtkghgaifgpgfkaaDoorW.PrintMore
open Go.Proofs.YtkghgaifgpgfkaaDoor.LotZ (F U pw inv pd thr Ok ev)
set_option linter.unusedVariables false
def shOK (j : Nat) (s : S47) : Bool := s.f0 == (j : Int) + 1 && isRes s.f1
def sharesOK : Nat → List S47 → Bool
  | _, [] => true
  | j, s :: l => shOK j s && sharesOK (j + 1) l
def plOK (n i : Nat) (p : S31) : Bool := p.f0 == (i : Int) + 1 && ((p.f2.length == n) && sharesOK 0 p.f2)
def pledgesOK (n : Nat) : Nat → List S31 → Bool
  | _, [] => true
  | i, p :: l => plOK n i p && pledgesOK n (i + 1) l
theorem pl1_ok (x0 x7 : List S31) (x8 : Int) (i : Nat) (hi : i < 1000) (shs : List S47) (hs : shs.length < 1000) : ∀ (r : List S47) (j k' : Nat), shs.drop j = r → j ≤ shs.length → lottery_pledges.l1 (k' + r.length + 1) x0 x7 x8 (i : Int) shs (shs.length : Int) (j : Int) = if sharesOK j r = true then lottery_pledges.l0 k' x0 x7 x8 ((i + 1 : Nat) : Int) else some false
  | [], j, k', hr, hj => by
    have hjl : j = shs.length := by
      have := congrArg List.length hr
      simp at this
      omega
    have hw : wrap64 ((i : Int) + 1) = ((i + 1 : Nat) : Int) := by rw [w64 (by omega) (by omega)]; omega
    rw [show k' + ([] : List S47).length + 1 = k' + 1 from rfl, lottery_pledges.l1, if_neg (by omega), hw]
    rfl
  | s :: r, j, k', hr, hj => by
    have hjl : j < shs.length := by
      have := congrArg List.length hr
      simp at this
      omega
    have hp : shs[j] = s ∧ shs.drop (j + 1) = r := by
      rw [List.drop_eq_getElem_cons hjl] at hr
      injection hr with h1 h2
      exact ⟨h1, h2⟩
    have hw : wrap64 ((j : Int) + 1) = (j : Int) + 1 := w64 (by omega) (by omega)
    have hw2 : wrap64 ((j : Int) + 1) = ((j + 1 : Nat) : Int) := by rw [hw]; omega
    rw [show k' + (s :: r).length + 1 = (k' + r.length + 1) + 1 from rfl, lottery_pledges.l1, if_pos (by omega), if_pos (by omega), if_pos (by omega), rd47_at shs j hjl, hp.1]
    by_cases h1 : s.f0 = (j : Int) + 1
    · rw [if_pos (by rw [hw]; exact h1), isResidue_one, Option.bind_some]
      by_cases h2 : isRes s.f1 = true
      · rw [if_pos h2, hw2, pl1_ok x0 x7 x8 i hi shs hs r (j + 1) k' hp.2 (by omega)]
        have : sharesOK j (s :: r) = sharesOK (j + 1) r := by simp only [sharesOK, shOK, h1, h2, beq_self_eq_true, Bool.and_self, Bool.true_and]
        rw [this]
      · rw [if_neg h2]
        have : sharesOK j (s :: r) = false := by simp only [sharesOK, shOK, Bool.not_eq_true] at *; rw [h2]; simp
        rw [this]; rfl
    · rw [if_neg (by rw [hw]; exact h1)]
      have : sharesOK j (s :: r) = false := by
        have : (s.f0 == (j : Int) + 1) = false := by simpa using h1
        simp only [sharesOK, shOK, this, Bool.false_and]
      rw [this]; rfl
theorem pl0_ok (l : List S31) (hl : l.length ≤ 20) : ∀ (rest : List S31) (i k : Nat), l.drop i = rest → i ≤ l.length → rest.length * (l.length + 3) < k → lottery_pledges.l0 k l l (l.length : Int) (i : Int) = some (pledgesOK l.length i rest && inR (l.length : Int) 1 16)
  | [], i, k + 1, hr, hi, hk => by
    have hil : i = l.length := by
      have := congrArg List.length hr
      simp at this
      omega
    rw [lottery_pledges.l0, if_neg (by omega), between_in, Option.bind_some]
    simp only [pledgesOK, Bool.true_and]
  | p :: rest, i, k, hr, hi, hk => by
    have hil : i < l.length := by
      have := congrArg List.length hr
      simp at this
      omega
    have hp : l[i] = p ∧ l.drop (i + 1) = rest := by
      rw [List.drop_eq_getElem_cons hil] at hr
      injection hr with h1 h2
      exact ⟨h1, h2⟩
    have hk2 : rest.length * (l.length + 3) + (l.length + 3) < k := by
      simp only [List.length_cons] at hk
      rw [Nat.succ_mul] at hk
      exact hk
    obtain ⟨k', rfl⟩ : ∃ k', k = (k' + l.length + 1) + 1 + 1 := ⟨k - l.length - 3, by omega⟩
    have hw : wrap64 ((i : Int) + 1) = (i : Int) + 1 := w64 (by omega) (by omega)
    rw [lottery_pledges.l0, if_pos (by omega), if_pos (by omega), if_pos (by omega), rd31_at l i hil, hp.1, hw]
    by_cases h1 : p.f0 = (i : Int) + 1
    · have e1 : (p.f0 == (i : Int) + 1) = true := by simpa using h1
      rw [if_pos h1]
      by_cases h2 : p.f2.length = l.length
      · have e2 : (p.f2.length == l.length) = true := by simpa using h2
        have e3 : ((p.f2.length : Int) != (l.length : Int)) = false := by simp [h2]
        rw [lottery_pledges.j1, e3, if_neg (by decide)]
        have hq := pl1_ok l l (l.length : Int) i (by omega) p.f2 (by omega) p.f2 0 k' rfl (by omega)
        rw [h2] at hq ⊢
        rw [show ((0 : Nat) : Int) = 0 from rfl] at hq
        rw [hq]
        have e4 : pledgesOK l.length i (p :: rest) = (sharesOK 0 p.f2 && pledgesOK l.length (i + 1) rest) := by simp only [pledgesOK, plOK, e1, e2, Bool.true_and]
        rw [e4]
        by_cases h3 : sharesOK 0 p.f2 = true
        · rw [if_pos h3, h3, Bool.true_and]
          exact pl0_ok l hl rest (i + 1) k' hp.2 (by omega) (by omega)
        · rw [if_neg h3]
          rw [Bool.not_eq_true] at h3
          rw [h3]; rfl
      · have e2 : (p.f2.length == l.length) = false := by simpa using h2
        have e3 : ((p.f2.length : Int) != (l.length : Int)) = true := by
          have : (p.f2.length : Int) ≠ (l.length : Int) := by omega
          simpa using this
        rw [lottery_pledges.j1, e3, if_pos rfl]
        simp only [pledgesOK, plOK, e1, e2, Bool.true_and, Bool.false_and]
    · have e1 : (p.f0 == (i : Int) + 1) = false := by simpa using h1
      rw [if_neg h1, lottery_pledges.j1, if_pos rfl]
      simp only [pledgesOK, plOK, e1, Bool.false_and]
theorem pledges_ok (l : List S31) (hl : l.length ≤ 20) (k : Nat) (hk : 500 ≤ k) : lottery_pledges.f k l = some (pledgesOK l.length 0 l && inR (l.length : Int) 1 16) := by
  unfold lottery_pledges.f
  have : l.length * (l.length + 3) ≤ 20 * 23 := Nat.mul_le_mul hl (by omega)
  exact pl0_ok l hl l 0 k rfl (by omega) (by omega)
def gOf (l : List S47) : F → F := fun p => match l.find? (fun s => toF s.f0 == p) with
  | some s => toF s.f1
  | none => 0
theorem toF_inj {x y : Int} (h0 : 0 ≤ x) (h1 : x < 1073741789) (h2 : 0 ≤ y) (h3 : y < 1073741789) (h : toF x = toF y) : x = y := by
  have := congrArg ofF h
  rwa [ofF_toF h0 h1, ofF_toF h2 h3] at this
theorem gOf_at : ∀ {l : List S47}, (∀ s ∈ l, ptOK s = true) → (l.map (·.f0)).Nodup → ∀ s ∈ l, gOf l (toF s.f0) = toF s.f1
  | a :: l, hp, hn, s, hs => by
    simp only [List.map_cons, List.nodup_cons] at hn
    unfold gOf
    rw [List.find?_cons]
    by_cases he : toF a.f0 = toF s.f0
    · have e1 : (toF a.f0 == toF s.f0) = true := by simpa using he
      rw [e1]
      have ha := ptOK_lo (hp a List.mem_cons_self)
      have hs' := ptOK_lo (hp s hs)
      have e2 : a.f0 = s.f0 := toF_inj (by omega) (by omega) (by omega) (by omega) he
      rcases List.mem_cons.1 hs with rfl | hs
      · rfl
      · exact absurd (List.mem_map.2 ⟨s, hs, e2.symm⟩) hn.1
    · have e1 : (toF a.f0 == toF s.f0) = false := by simpa using he
      rw [e1]
      rcases List.mem_cons.1 hs with rfl | hs
      · exact absurd rfl he
      · exact gOf_at (fun t ht => hp t (List.mem_cons_of_mem _ ht)) hn.2 s hs
def onPoly (first rest : List S47) : Bool := rest.all fun s => ofF (thr (pts first) (gOf first) (toF s.f0)) == s.f1
def valF (shs : List S47) (need : Nat) : Int × Bool :=
  if onPoly (shs.take need) (shs.drop need) = true then (ofF (thr (pts (shs.take need)) (gOf (shs.take need)) 0), true) else (0, false)
theorem value_l0 (first : List S47) (hf : RecV first) (shs : List S47) (hs : ∀ s ∈ shs, ptOK s = true) (hlen : shs.length < 1000) : ∀ (r : List S47) (j k : Nat), shs.drop j = r → j ≤ shs.length → 400 + r.length < k →
    lottery_value.l0 k first shs (shs.length : Int) (j : Int) = some (if onPoly first r = true then (ofF (thr (pts first) (gOf first) 0), true) else (0, false))
  | r, j, 0, _, _, hk => by omega
  | [], j, k + 1, hr, hj, hk => by
    have hjl : j = shs.length := by
      have := congrArg List.length hr
      simp at this
      omega
    have ht := through_ok (first.map un) (by rw [List.length_map]; exact hf.hi) 0 (gOf first) (fun p hp => by
      obtain ⟨s, hs, rfl⟩ := List.mem_map.1 hp
      exact gOf_at hf.pt hf.nd s hs) k (by simp at hk; omega)
    rw [map_sh_un hf.pt, ofF_zero, pts_un] at ht
    rw [lottery_value.l0, if_neg (by omega), ht, Option.bind_some]
    rfl
  | s :: r, j, k + 1, hr, hj, hk => by
    have hjl : j < shs.length := by
      have := congrArg List.length hr
      simp at this
      omega
    have hp : shs[j] = s ∧ shs.drop (j + 1) = r := by
      rw [List.drop_eq_getElem_cons hjl] at hr
      injection hr with h1 h2
      exact ⟨h1, h2⟩
    have hsm : s ∈ shs := hp.1 ▸ List.getElem_mem hjl
    have hs0 := ptOK_lo (hs s hsm)
    have ht := through_ok (first.map un) (by rw [List.length_map]; exact hf.hi) (toF s.f0) (gOf first) (fun p hp => by
      obtain ⟨s, hs, rfl⟩ := List.mem_map.1 hp
      exact gOf_at hf.pt hf.nd s hs) k (by simp at hk; omega)
    rw [map_sh_un hf.pt, ofF_toF (by omega) (by omega), pts_un] at ht
    have hw2 : wrap64 ((j : Int) + 1) = ((j + 1 : Nat) : Int) := by rw [w64 (by omega) (by omega)]; omega
    rw [lottery_value.l0, if_pos (by omega), if_pos (by omega), if_pos (by omega), rd47_at shs j hjl, hp.1, ht, Option.bind_some, hw2]
    by_cases h1 : ofF (thr (pts first) (gOf first) (toF s.f0)) = s.f1
    · have e1 : (ofF (thr (pts first) (gOf first) (toF s.f0)) == s.f1) = true := by simpa using h1
      rw [if_pos h1, value_l0 first hf shs hs hlen r (j + 1) k hp.2 (by omega) (by simp at hk; omega)]
      have : onPoly first (s :: r) = onPoly first r := by simp only [onPoly, List.all_cons, e1, Bool.true_and]
      rw [this]
    · have e1 : (ofF (thr (pts first) (gOf first) (toF s.f0)) == s.f1) = false := by simpa using h1
      rw [if_neg h1]
      have : onPoly first (s :: r) = false := by simp only [onPoly, List.all_cons, e1, Bool.false_and]
      rw [this]
      rfl
theorem value_ok (a b : Int) (shs : List S47) (hv : RecV shs) (need : Nat) (h1 : 1 ≤ need) (h2 : need ≤ shs.length) (k : Nat) (hk : 450 ≤ k) : lottery_value.f k a b shs (need : Int) = some (valF shs need) := by
  unfold lottery_value.f
  have hl := hv.hi
  rw [if_pos (by omega), if_pos (by omega), Option.bind_some, Int.toNat_natCast]
  have hf : RecV (shs.take need) := by
    refine ⟨by rw [List.length_take]; omega, by rw [List.length_take]; omega, fun s hs => hv.pt s (List.mem_of_mem_take hs), ?_⟩
    have := hv.nd
    rw [← List.take_append_drop need shs, List.map_append] at this
    exact (List.nodup_append.1 this).1
  have hd : (shs.drop need).length ≤ 16 := by rw [List.length_drop]; omega
  exact value_l0 (shs.take need) hf (shs.drop need) (fun s hs => hv.pt s (List.mem_of_mem_drop hs)) (by omega) (shs.drop need) 0 k rfl (by omega) (by omega)
theorem sharesOK_pt : ∀ (l : List S47) (j : Nat), sharesOK j l = true → j + l.length ≤ 16 → (∀ s ∈ l, ptOK s = true) ∧ (∀ (i : Nat) (h : i < l.length), l[i].f0 = ((j + i : Nat) : Int) + 1)
  | [], j, _, _ => ⟨by simp, fun i h => absurd h (by simp)⟩
  | s :: l, j, h, hl => by
    simp only [sharesOK, shOK, Bool.and_eq_true, beq_iff_eq] at h
    obtain ⟨⟨h1, h2⟩, h3⟩ := h
    simp only [List.length_cons] at hl
    obtain ⟨g1, g2⟩ := sharesOK_pt l (j + 1) h3 (by omega)
    refine ⟨fun t ht => ?_, fun i hi => ?_⟩
    · rcases List.mem_cons.1 ht with rfl | ht
      · simp only [ptOK, inR, h2, Bool.and_true, Bool.and_eq_true, decide_eq_true_eq]
        omega
      · exact g1 t ht
    · cases i with
      | zero => simpa using h1
      | succ i =>
        have := g2 i (by simpa using hi)
        simp only [List.getElem_cons_succ]
        rw [this]; omega
theorem sharesOK_rec {l : List S47} (h : sharesOK 0 l = true) (h0 : 1 ≤ l.length) (h1 : l.length ≤ 16) : RecV l := by
  obtain ⟨g1, g2⟩ := sharesOK_pt l 0 h (by omega)
  refine ⟨h0, h1, g1, ?_⟩
  refine List.pairwise_map.2 (List.pairwise_iff_getElem.2 fun i j hi hj hij e => ?_)
  rw [g2 i hi, g2 j hj] at e
  omega
theorem pledgesOK_mem {n : Nat} : ∀ {l : List S31} {i : Nat}, pledgesOK n i l = true → ∀ p ∈ l, p.f2.length = n ∧ sharesOK 0 p.f2 = true
  | p :: l, i, h, q, hq => by
    simp only [pledgesOK, plOK, Bool.and_eq_true, beq_iff_eq] at h
    rcases List.mem_cons.1 hq with rfl | hq
    · exact h.1.2
    · exact pledgesOK_mem h.2 q hq
def stepP (need : Nat) (opened : List S23) (st : DrawSt) (p : S31) : DrawSt :=
  let v := valF p.f2 need
  match byF opened p.f0 with
  | none => ⟨plusW st.seed v.1, st.right, if v.2 = true then st.cheats else addC st.cheats p.f0⟩
  | some s =>
    if (sumS s.f0 s.f1 s.f2 == p.f1) = true then ⟨plusW st.seed v.1, st.right + 1, if (v.2 && s.f1 == v.1) = true then st.cheats else addC st.cheats p.f0⟩
    else ⟨plusW st.seed v.1, st.right, addC st.cheats p.f0⟩
def S23ok (s : S23) : Prop := i64B s.f0 = true ∧ i64B s.f1 = true ∧ i64B s.f2 = true
theorem byF_mem : ∀ {l : List S23} {x : Int} {s : S23}, byF l x = some s → s ∈ l ∧ s.f0 = x
  | t :: l, x, s, h => by
    unfold byF at h
    cases hb : byF l x with
    | some u =>
      simp only [hb] at h
      have := byF_mem hb
      simp_all
    | none =>
      simp only [hb] at h
      split at h <;> simp_all
theorem step_ok {need : Nat} {opened : List S23} (ho : ∀ s ∈ opened, S23ok s) (st : DrawSt) {p : S31} (hp : RecV p.f2) (h1 : 1 ≤ need) (h2 : need ≤ p.f2.length) {k : Nat} (hk : 450 ≤ k) : drawStep k (need : Int) opened st p = some (stepP need opened st p) := by
  unfold drawStep stepP
  rw [value_ok _ _ _ hp need h1 h2 k hk, Option.bind_some]
  cases hb : byF opened p.f0 with
  | none => rfl
  | some s =>
    obtain ⟨a, b, c⟩ := ho s (byF_mem hb).1
    simp only []
    rw [sum_ok a b c, Option.bind_some]
    split <;> rfl
theorem all_ok {need : Nat} {opened : List S23} (ho : ∀ s ∈ opened, S23ok s) (h1 : 1 ≤ need) {k : Nat} (hk : 450 ≤ k) : ∀ {l : List S31}, (∀ p ∈ l, RecV p.f2 ∧ need ≤ p.f2.length) → ∀ st, drawAll k (need : Int) opened st l = some (l.foldl (stepP need opened) st)
  | [], _, st => rfl
  | p :: l, hl, st => by
    unfold drawAll
    have hp := hl p List.mem_cons_self
    rw [step_ok ho st hp.1 h1 hp.2 hk, Option.bind_some, all_ok ho h1 hk (fun q hq => hl q (List.mem_cons_of_mem _ hq))]
    rfl
def drawP (l : List S31) (need : Int) (opened : List S23) : Int × List Int × Int :=
  if (pledgesOK l.length 0 l && inR (l.length : Int) 1 16 && inR need 1 (l.length : Int)) = true then
    if openOK (l.length : Int) [] opened = true then
      let st := l.foldl (stepP need.toNat opened) ⟨0, 0, []⟩
      if st.right < need then (0, [], 33) else (st.seed, st.cheats.mergeSort fun x y => decide (x ≤ y), 0)
    else (0, [], 1)
  else (0, [], 1)
theorem draw_ok {l : List S31} (hl : l.length ≤ 20) (hw : ∀ p ∈ l, i64B p.f0 = true) {need : Int} {opened : List S23} (ho : ∀ s ∈ opened, S23ok s) {k : Nat} (hk : 500 ≤ k) : lottery_Draw.f k l need opened = some (drawP l need opened) := by
  unfold lottery_Draw.f drawP
  have e1 : (decide (l.length < 17592186044416) && (l.all (fun p => i64B p.f0) && opened.all (fun s => i64B s.f0))) = true := by
    simp only [Bool.and_eq_true, decide_eq_true_eq, List.all_eq_true]
    exact ⟨by omega, hw, fun s hs => (ho s hs).1⟩
  rw [if_pos e1, pledges_ok l hl k hk, Option.bind_some]
  by_cases h1 : (pledgesOK l.length 0 l && inR (l.length : Int) 1 16 && inR need 1 (l.length : Int)) = true
  · rw [if_pos h1, if_pos h1]
    by_cases h2 : openOK (l.length : Int) [] opened = true
    · rw [if_pos h2, if_pos h2]
      simp only [Bool.and_eq_true] at h1
      obtain ⟨⟨g1, g2⟩, g3⟩ := h1
      simp only [inR, Bool.and_eq_true, decide_eq_true_eq] at g2 g3
      have hall := all_ok (need := need.toNat) ho (by omega) (k := k) (by omega) (l := l) (fun p hp => by
        obtain ⟨a, b⟩ := pledgesOK_mem g1 p hp
        exact ⟨sharesOK_rec b (by omega) (by omega), by omega⟩) ⟨0, 0, []⟩
      rw [Int.toNat_of_nonneg (by omega)] at hall
      rw [hall, Option.bind_some]
      simp only []
      split <;> rfl
    · rw [if_neg h2, if_neg h2]
  · rw [if_neg h1, if_neg h1]
end Go.Proofs.YtkghgaifgpgfkaaDoor.PL
end
section
namespace Go.Proofs.YtkghgaifgpgfkaaDoor.PL
open Go.RowKit Go.Proofs.YtkghgaifgpgfkaaDoorW.PrintWords Go.Proofs.YtkghgaifgpgfkaaDoorW.PrintLast Go.Proofs.YtkghgaifgpgfkaaDoorW.PrintMore
open Go.Proofs.YtkghgaifgpgfkaaDoor.LotZ (F U pw inv pd thr Ok ev)
set_option linter.unusedVariables false
set_option linter.unusedSimpArgs false
theorem tmodw_F (a b : F) : Int.tmod (wrap64 (ofF a * ofF b)) 1073741789 = ofF (a * b) := timesW_F a b
theorem power_l0 : ∀ (k : Nat) (n : Nat) (a acc : F), n < 2 ^ k → ∀ k', k < k' → n < 9223372036854775807 → cohousingref22_Power.l0 k' (ofF a) (n : Int) (ofF acc) = some (ofF (pf k a n acc))
  | k, 0, a, acc, _, k' + 1, _, _ => by
    unfold cohousingref22_Power.l0
    rw [if_neg (by omega)]
    cases k <;> rfl
  | 0, n + 1, a, acc, h, _, _, _ => by
    have : n + 1 < 1 := h
    omega
  | k + 1, n + 1, a, acc, h, k' + 1, hk, hs => by
    unfold cohousingref22_Power.l0
    have hw : wrap64 (((n + 1 : Nat) : Int).tdiv 2) = (((n + 1) / 2 : Nat) : Int) := by
      rw [Int.tdiv_eq_ediv_of_nonneg (by omega), w64 (by omega) (by omega)]
      omega
    rw [if_pos (by omega), tmod_pos' (by omega), hw, tmodw_F, tmodw_F]
    have hlt : (n + 1) / 2 < 2 ^ k := by rw [Nat.pow_succ] at h; omega
    by_cases ho : (n + 1) % 2 = 1
    · rw [if_pos (by omega), power_l0 k ((n + 1) / 2) (a * a) (acc * a) hlt k' (by omega) (by omega)]
      congr 2
      show _ = pf (k + 1) a (n + 1) acc
      rw [pf, if_pos (Nat.succ_pos n), if_pos ho]
    · rw [if_neg (by omega), power_l0 k ((n + 1) / 2) (a * a) acc hlt k' (by omega) (by omega)]
      congr 2
      show _ = pf (k + 1) a (n + 1) acc
      rw [pf, if_pos (Nat.succ_pos n), if_neg ho]
theorem power_F (a : F) (k : Nat) (hk : 30 < k) : cohousingref22_Power.f k (ofF a) 1073741787 = some (ofF (inv a)) := by
  have h := power_l0 30 1073741787 a 1 (by decide) k hk (by omega)
  rw [ofF_one, pf_inv] at h
  exact h
theorem over_F (a b : F) (k : Nat) (hk : 30 < k) : cohousingref22_Over.f k (ofF a) (ofF b) = some (ofF (a * inv b)) := by
  unfold cohousingref22_Over.f
  rw [power_F b k hk, Option.bind_some, tmodw_F]
theorem less_F (a b : F) : cohousingref22_Less.f (ofF a) (ofF b) = some (ofF (a - b)) := by
  have h1 := ofF_lo a; have h2 := ofF_hi a; have h3 := ofF_lo b; have h4 := ofF_hi b
  unfold cohousingref22_Less.f
  rw [w64 (x := ofF a - ofF b) (by omega) (by omega), w64 (by omega) (by omega), tmod_pos' (by omega), ← ofF_sub]
  congr 2
  omega
theorem residueR_no {v : Int} (h : isRes v = false) : cohousingref22_Residue.f v = some false := by
  unfold cohousingref22_Residue.f
  by_cases h0 : v ≥ 0
  · rw [if_pos h0]
    simp only [isRes, Bool.and_eq_false_iff, decide_eq_false_iff_not] at h
    rw [decide_eq_false (by omega)]
  · rw [if_neg h0]
theorem residueR_yes {v : Int} (h : isRes v = true) : cohousingref22_Residue.f v = some true := by
  simp only [isRes, Bool.and_eq_true, decide_eq_true_eq] at h
  unfold cohousingref22_Residue.f
  rw [if_pos (by omega), decide_eq_true (by omega)]
end Go.Proofs.YtkghgaifgpgfkaaDoor.PL
end
section
namespace Go.Proofs.YtkghgaifgpgfkaaDoor.PL
open Go.RowKit Go.Proofs.YtkghgaifgpgfkaaDoorW.PrintWords Go.Proofs.YtkghgaifgpgfkaaDoorW.PrintLast Go.Proofs.YtkghgaifgpgfkaaDoorW.PrintMore
open Go.Proofs.YtkghgaifgpgfkaaDoor.LotZ (F U pw inv pd thr Ok ev)
set_option linter.unusedVariables false
set_option linter.unusedSimpArgs false
theorem strOf_one (x : Nat) : strOfNums [(x : Int)] = ⟨[UInt8.ofNat x].toArray⟩ := by simp [strOfNums]
theorem decDigits_more {u : Nat} (h : ¬ u < 10) : Lib.decDigits u = Lib.decDigits (u / 10) ++ [UInt8.ofNat (48 + u % 10)] := by
  conv => lhs; rw [Lib.decDigits, dif_neg h]
theorem decLen {u : Nat} (h : u < 9223372036854775808) : (Lib.decDigits u).length ≤ 21 := by
  have := Lib.itoa_length_le (u : Int) (by omega) (by omega)
  rwa [Lib.itoa_nonneg] at this
theorem decimal_ok : ∀ (k u : Nat), u < 10 ^ (k + 1) → u < 9223372036854775808 → cohousingref06_Decimal.f (k + 1) (u : Int) = some ⟨(Lib.decDigits u).toArray⟩
  | k, u, h, hs => by
    unfold cohousingref06_Decimal.f
    rw [if_neg (by omega)]
    by_cases h10 : u < 10
    · rw [if_pos (by omega), w64 (by omega) (by omega), Lib.decDigits_one h10, show ((48 : Int) + (u : Int)) % 256 = ((48 + u : Nat) : Int) by omega, strOf_one]
    · rw [if_neg (by omega)]
      have hw : wrap64 (Int.tdiv (u : Int) 10) = ((u / 10 : Nat) : Int) := by
        rw [Int.tdiv_eq_ediv_of_nonneg (by omega), w64 (by omega) (by omega)]; omega
      obtain ⟨k, rfl⟩ : ∃ k', k = k' + 1 := by
        refine ⟨k - 1, ?_⟩
        rcases k with _ | k
        · exact absurd h (by simpa using h10)
        · rfl
      have hd := decLen (u := u / 10) (by omega)
      have hm : wrap64 (48 + Int.tmod (u : Int) 10) % 256 = ((48 + u % 10 : Nat) : Int) := by
        rw [tmod_pos' (by omega), w64 (by omega) (by omega)]; omega
      rw [hw, decimal_ok k (u / 10) (by rw [Nat.pow_succ] at h; omega) (by omega), Option.bind_some, Option.bind_some, hm, strOf_one, if_pos (by
        show (Lib.decDigits (u / 10)).toArray.size + [UInt8.ofNat (48 + u % 10)].toArray.size ≤ _
        simp; omega), decDigits_more h10]
      congr 1
theorem refSum_l0 (l : List Int) (hl : l.length < 9223372036854775807) : ∀ (d : Nat) (k i : Nat) (h : Int), i + d = l.length → d < k → cohousingref06_Sum.l0 k l h (i : Int) = some ((l.drop i).foldl hashStep h)
  | 0, k + 1, i, h, e, _ => by
    have : i = l.length := by omega
    subst this
    simp [cohousingref06_Sum.l0]
  | d + 1, k + 1, i, h, e, hk => by
    have hlt : i < l.length := by omega
    unfold cohousingref06_Sum.l0
    rw [if_pos (by omega), if_pos (by omega)]
    have ew : wrap64 ((i : Int) + 1) = ((i + 1 : Nat) : Int) := by unfold wrap64; omega
    rw [ew, refSum_l0 l hl d k (i + 1) _ (by omega) (by omega), List.drop_eq_getElem_cons hlt, List.foldl_cons, rd_at l i hlt]
    rfl
theorem refSum_eq (l : List Int) (hl : l.length < 9223372036854775807) (k : Nat) (hk : l.length < k) : cohousingref06_Sum.f k l = some (sumB l) := by
  unfold cohousingref06_Sum.f sumB
  have := refSum_l0 l hl l.length k 0 14695981039346656037 (by omega) hk
  simpa using this
theorem bytesOf_dec (l : List UInt8) : bytesOf ⟨l.toArray⟩ = bytesI l := rfl
theorem refInts_l0 (l : List Int) (hl : l.length ≤ 100) (hb : ∀ x ∈ l, 0 ≤ x ∧ x ≤ 9223372036854775807) : ∀ (d : Nat) (k i : Nat) (acc : List Int), i + d = l.length → acc.length ≤ 22 * i → d + 2300 < k → cohousingref06_Ints.l0 k l acc (i : Int) = some (sumB (acc ++ intsB (l.drop i)))
  | 0, k + 1, i, acc, e, ha, hk => by
    have : i = l.length := by omega
    subst this
    unfold cohousingref06_Ints.l0
    rw [if_neg (by omega), refSum_eq acc (by omega) k (by omega)]
    simp [intsB]
  | d + 1, k + 1, i, acc, e, ha, hk => by
    have hlt : i < l.length := by omega
    have hx := hb _ (List.getElem_mem hlt)
    obtain ⟨u, hu⟩ : ∃ u : Nat, l[i] = (u : Int) := ⟨(l[i]).toNat, by omega⟩
    rw [hu] at hx
    unfold cohousingref06_Ints.l0
    obtain ⟨k2, rfl⟩ : ∃ k2, k = k2 + 1 := ⟨k - 1, by omega⟩
    have hdl := decLen (u := u) (by omega)
    have h19 : (10 : Nat) ^ 19 = 10000000000000000000 := by decide
    have hpow : u < 10 ^ (k2 + 1) := Nat.lt_of_lt_of_le (show u < 10 ^ 19 by rw [h19]; omega) (Nat.pow_le_pow_right (by decide) (by omega))
    clear h19
    rw [if_pos (by omega), if_pos (by omega), rd_at l i hlt, hu, decimal_ok k2 u hpow (by omega), Option.bind_some, if_pos (by
      show acc.length + (Lib.decDigits u).toArray.size < _
      simp; omega), Option.bind_some, bytesOf_dec, if_pos (by
      simp only [List.length_append, bytesI, List.length_map]; omega)]
    have ew : wrap64 ((i : Int) + 1) = ((i + 1 : Nat) : Int) := by unfold wrap64; omega
    rw [ew, refInts_l0 l hl hb d (k2 + 1) (i + 1) _ (by omega) (by simp only [List.length_append, bytesI, List.length_map, List.length_singleton]; omega) (by omega), List.drop_eq_getElem_cons hlt]
    congr 2
    simp only [intsB, List.flatMap_cons, numeral, hu, Lib.itoa_nonneg, List.append_assoc]
theorem refSum_ok {a b c : Int} (ha : 0 ≤ a ∧ a ≤ 9223372036854775807) (hb : 0 ≤ b ∧ b ≤ 9223372036854775807) (hc : 0 ≤ c ∧ c ≤ 9223372036854775807) (k : Nat) (hk : 2400 < k) : cohousingref22_Sum.f k a b c = some (sumS a b c) := by
  unfold cohousingref22_Sum.f cohousingref06_Ints.f
  have := refInts_l0 [a, b, c] (by simp) (by
    intro x hx
    simp only [List.mem_cons, List.not_mem_nil, or_false] at hx
    rcases hx with rfl | rfl | rfl <;> assumption) 3 k 0 [] rfl (by simp) (by omega)
  simp only [List.nil_append, List.drop_zero] at this
  show (cohousingref06_Ints.l0 k [a, b, c] [] ((0 : Nat) : Int)).bind _ = _
  rw [this]
  rfl
theorem in_eq (n lo hi : Int) : cohousingref22_in.f n lo hi = some (inR n lo hi) := by
  unfold cohousingref22_in.f inR
  by_cases h : lo ≤ n <;> simp [h]
theorem residueR_eq (x : Int) : cohousingref22_Residue.f x = some (isRes x) := by
  cases h : isRes x with
  | true => exact residueR_yes h
  | false => exact residueR_no h
theorem residues_l0 (l : List Int) (hl : l.length ≤ 1000) : ∀ (d k i : Nat), i + d = l.length → d < k → cohousingref22_Residues.l0 k l (i : Int) = some ((l.drop i).all isRes)
  | 0, k + 1, i, e, _ => by
    have : i = l.length := by omega
    subst this
    simp [cohousingref22_Residues.l0]
  | d + 1, k + 1, i, e, hk => by
    have hlt : i < l.length := by omega
    unfold cohousingref22_Residues.l0
    have ew : wrap64 ((i : Int) + 1) = ((i + 1 : Nat) : Int) := by unfold wrap64; omega
    rw [if_pos (by omega), if_pos (by omega), rd_at l i hlt, residueR_eq, Option.bind_some, ew, residues_l0 l hl d k (i + 1) (by omega) (by omega), List.drop_eq_getElem_cons hlt, List.all_cons]
    cases isRes l[i] <;> rfl
theorem residues_eq (l : List Int) (hl : l.length ≤ 1000) (k : Nat) (hk : l.length < k) : cohousingref22_Residues.f k l = some (l.all isRes) := by
  have := residues_l0 l hl l.length k 0 (by omega) hk
  rw [List.drop_zero] at this
  exact this
def hzF (l : List F) (x acc : F) : F := l.reverse.foldl (fun a c => a * x + c) acc
theorem hzF_ev (x : F) : ∀ c : List F, hzF c x 0 = ev c x
  | [] => rfl
  | a :: c => by
    unfold hzF
    rw [List.reverse_cons, List.foldl_append]
    have := hzF_ev x c
    unfold hzF at this
    rw [this]
    simp only [List.foldl_cons, List.foldl_nil]
    show _ = a + x * ev c x
    grind
theorem stepF (a x c : F) : Int.tmod (wrap64 (wrap64 (ofF a * ofF x) + ofF c)) 1073741789 = ofF (a * x + c) := by
  have h1 := ofF_lo a; have h2 := ofF_hi a; have h3 := ofF_lo x; have h4 := ofF_hi x; have h5 := ofF_lo c; have h6 := ofF_hi c
  have hm := mul_bound h1 h2 h3 h4
  rw [w64 (x := ofF a * ofF x) (by omega) (by omega), w64 (by omega) (by omega), tmod_pos' (by omega), ← ofF_add, ← ofF_mul]
  generalize ofF a * ofF x = m
  omega
theorem refAt_l0 (c : List F) (hc : c.length < 1000) (x : F) : ∀ (i k : Nat) (acc : F), i ≤ c.length → i < k → cohousingref22_At.l0 k (c.map ofF) (ofF x) (ofF acc) ((i : Int) - 1) = some (ofF (hzF (c.take i) x acc))
  | 0, k + 1, acc, _, _ => by
    unfold cohousingref22_At.l0
    rw [if_neg (by omega)]
    rfl
  | i + 1, k + 1, acc, hi, hk => by
    unfold cohousingref22_At.l0
    have e : ((i + 1 : Nat) : Int) - 1 = (i : Int) := by omega
    rw [e, if_pos (by omega), if_pos (by omega), if_pos (by rw [List.length_map]; omega), w64 (x := (i : Int) - 1) (by omega) (by omega)]
    have hr : rd (c.map ofF) (i : Int) = ofF (c[i]'(by omega)) := by rw [rd_at _ i (by rw [List.length_map]; omega), List.getElem_map]
    rw [hr, stepF, refAt_l0 c hc x i k _ (by omega) (by omega), List.take_succ_eq_append_getElem (by omega)]
    simp only [hzF, List.reverse_append, List.reverse_cons, List.reverse_nil, List.nil_append, List.singleton_append, List.foldl_cons]
theorem refAt_F (c : List F) (hc : c.length < 1000) (x : F) (k : Nat) (hk : c.length < k) : cohousingref22_At.f k (c.map ofF) (ofF x) = some (ofF (ev c x)) := by
  unfold cohousingref22_At.f
  rw [w64 (by rw [List.length_map]; omega) (by rw [List.length_map]; omega), List.length_map]
  have := refAt_l0 c hc x c.length k 0 (Nat.le_refl _) hk
  rw [ofF_zero, List.take_length, hzF_ev] at this
  exact this
theorem refDeal_l0 (c : List F) (hc : c.length < 100) (n : Nat) (hn : n ≤ 16) (who sum : Int) : ∀ (m i k : Nat), i + m = n → m + 100 < k → cohousingref22_Deal.l0 k (n : Int) (c.map ofF) ((i : Int) + 1) who sum (sharesOf c i) = some (who, sum, sharesOf c n, 0)
  | 0, i, k + 1, e, _ => by
    obtain rfl : i = n := by omega
    unfold cohousingref22_Deal.l0
    rw [if_neg (by omega)]
  | m + 1, i, k + 1, e, hk => by
    unfold cohousingref22_Deal.l0
    have hx : ofF (toF ((i : Int) + 1)) = (i : Int) + 1 := ofF_toF (by omega) (by omega)
    have ha := refAt_F c (by omega) (toF ((i : Int) + 1)) k (by omega)
    rw [hx] at ha
    have ew : wrap64 ((i : Int) + 1 + 1) = ((i + 1 : Nat) : Int) + 1 := by rw [w64 (by omega) (by omega)]; omega
    rw [if_pos (by omega), ha, Option.bind_some, if_pos (by rw [sharesOf_length]; omega), ew]
    have := refDeal_l0 c hc n hn who sum m (i + 1) k (by omega) (by omega)
    rw [sharesOf_succ] at this
    exact this
theorem map_ofF_toF {l : List Int} (h : l.all isRes = true) : (l.map toF).map ofF = l := by
  rw [List.map_map]
  refine (List.map_congr_left fun x hx => ?_).trans (List.map_id _)
  have hx' := List.all_eq_true.1 h x hx
  simp only [isRes, Bool.and_eq_true, decide_eq_true_eq] at hx'
  exact ofF_toF (by omega) (by omega)
theorem refDeal_ok {who v salt : Int} {cs : List Int} {n : Int} (h : DealV who v salt cs n) {k : Nat} (hk : 3000 ≤ k) : cohousingref22_Deal.f k who v salt cs n = some (who, sumS who v salt, sharesOf ((v :: cs).map toF) n.toNat, 0) := by
  obtain ⟨⟨a1, a2⟩, ⟨b1, b2⟩, ⟨c1, c2⟩, d, e⟩ := h
  obtain ⟨k, rfl⟩ : ∃ k', k = k' + 1 := ⟨k - 1, by omega⟩
  have x1 : inR n 1 16 = true := by simp only [inR, Bool.and_eq_true, decide_eq_true_eq]; omega
  have x2 : inR who 1 n = true := by simp only [inR, Bool.and_eq_true, decide_eq_true_eq]; omega
  unfold cohousingref22_Deal.f
  rw [in_eq, Option.bind_some, if_pos x1, in_eq, Option.bind_some, if_pos x2, residueR_eq, Option.bind_some, if_pos c1, residueR_eq, Option.bind_some, if_pos c2, residues_eq cs (by omega) _ (by omega), Option.bind_some, if_pos d, decide_eq_false (by omega), cohousingref22_Deal.j0, if_neg (by decide)]
  have hall : (v :: cs).all isRes = true := by rw [List.all_cons, c1, d]; rfl
  have hv := c1; have hs := c2
  simp only [isRes, Bool.and_eq_true, decide_eq_true_eq] at hv hs
  rw [Option.bind_some, if_pos (by simp; omega), refSum_ok (by omega) (by omega) (by omega) k (by omega), Option.bind_some]
  have := refDeal_l0 ((v :: cs).map toF) (by simp; omega) n.toNat (by omega) who (sumS who v salt) n.toNat 0 k (by omega) (by omega)
  rw [map_ofF_toF hall, Int.toNat_of_nonneg (by omega)] at this
  exact this
theorem refDeal_bad {who v salt : Int} {cs : List Int} {n : Int} (h : ¬ DealV who v salt cs n) (hl : cs.length ≤ 100) {k : Nat} (hk : 3000 ≤ k) : cohousingref22_Deal.f k who v salt cs n = some (0, 0, [], 1) := by
  obtain ⟨k, rfl⟩ : ∃ k', k = k' + 1 := ⟨k - 1, by omega⟩
  have hj : ∀ a b c, cohousingref22_Deal.j0 (k + 1) cs n true a b c = some (0, 0, [], 1) := fun a b c => by rw [cohousingref22_Deal.j0, if_pos rfl]
  unfold cohousingref22_Deal.f
  rw [in_eq, Option.bind_some]
  by_cases x1 : inR n 1 16 = true
  · rw [if_pos x1, in_eq, Option.bind_some]
    by_cases x2 : inR who 1 n = true
    · rw [if_pos x2, residueR_eq, Option.bind_some]
      by_cases c1 : isRes v = true
      · rw [if_pos c1, residueR_eq, Option.bind_some]
        by_cases c2 : isRes salt = true
        · rw [if_pos c2, residues_eq cs (by omega) _ (by omega), Option.bind_some]
          by_cases d : cs.all isRes = true
          · rw [if_pos d]
            by_cases e : (cs.length : Int) ≥ n
            · rw [decide_eq_true e]; exact hj _ _ _
            · exfalso
              simp only [inR, Bool.and_eq_true, decide_eq_true_eq] at x1 x2
              exact h ⟨x1, x2, ⟨c1, c2⟩, d, by omega⟩
          · rw [if_neg d]; exact hj _ _ _
        · rw [if_neg c2]; exact hj _ _ _
      · rw [if_neg c1]; exact hj _ _ _
    · rw [if_neg x2]; exact hj _ _ _
  · rw [if_neg x1]; exact hj _ _ _
theorem refThrough_l1 (L : List (F × F)) (hL : L.length ≤ 16) (X a v acc : F) (i : Nat) (hi : i < L.length) (hia : L[i] = (a, v)) : ∀ (r : List (F × F)) (j k' : Nat) (t b : F), L.drop j = r → j ≤ L.length → 40 < k' →
    cohousingref22_Through.l1 (k' + r.length + 1) (L.map sh) (ofF X) (ofF acc) (i : Int) (ofF t) (ofF b) (j : Int) =
    cohousingref22_Through.l0 k' (L.map sh) (ofF X) (ofF (acc + ((skip i j r).map fun p => X - p.1).foldl (· * ·) t * inv (((skip i j r).map fun p => a - p.1).foldl (· * ·) b))) ((i + 1 : Nat) : Int)
  | [], j, k', t, b, hr, hj, hk => by
    have hjl : j = L.length := by
      have := congrArg List.length hr
      simp at this
      omega
    rw [show k' + ([] : List (F × F)).length + 1 = k' + 1 from rfl, cohousingref22_Through.l1]
    have hw : wrap64 ((i : Int) + 1) = ((i + 1 : Nat) : Int) := by rw [w64 (by omega) (by omega)]; omega
    rw [if_neg (by rw [List.length_map]; omega), over_F t b k' (by omega), Option.bind_some, hw]
    have e1 := ofF_lo acc; have e2 := ofF_hi acc; have e3 := ofF_lo (t * inv b); have e4 := ofF_hi (t * inv b)
    rw [w64 (by omega) (by omega), tmod_pos' (by omega), ofF_add]
    rfl
  | p :: r, j, k', t, b, hr, hj, hk => by
    have hjl : j < L.length := by
      have := congrArg List.length hr
      simp at this
      omega
    have hp : L[j] = p ∧ L.drop (j + 1) = r := by
      rw [List.drop_eq_getElem_cons hjl] at hr
      injection hr with h1 h2
      exact ⟨h1, h2⟩
    have hw : wrap64 ((j : Int) + 1) = ((j + 1 : Nat) : Int) := by rw [w64 (by omega) (by omega)]; omega
    rw [show k' + (p :: r).length + 1 = (k' + r.length + 1) + 1 from rfl, cohousingref22_Through.l1]
    rw [if_pos (by rw [List.length_map]; omega), hw]
    by_cases hji : j = i
    · rw [if_pos (by omega), refThrough_l1 L hL X a v acc i hi hia r (j + 1) k' t b hp.2 (by omega) hk]
      simp only [skip, if_pos hji]
    · rw [if_neg (by omega), if_pos (by omega), rd_sh L j hjl, hp.1]
      show (cohousingref22_Less.f (ofF X) (ofF p.1)).bind _ = _
      rw [less_F, Option.bind_some, if_pos (by omega), if_pos (by rw [List.length_map]; omega), rd_sh L i hi, hia]
      show (cohousingref22_Less.f (ofF a) (ofF p.1)).bind _ = _
      rw [less_F, Option.bind_some, tmodw_F, tmodw_F, refThrough_l1 L hL X a v acc i hi hia r (j + 1) k' _ _ hp.2 (by omega) hk]
      simp only [skip, if_neg hji, List.map_cons, List.foldl_cons]
theorem refThrough_l0 (X : F) : ∀ (rest done : List (F × F)) (acc : F) (k : Nat), done.length + rest.length ≤ 16 → rest.length * (done.length + rest.length + 3) + 60 < k →
    cohousingref22_Through.l0 k ((done ++ rest).map sh) (ofF X) (ofF acc) (done.length : Int) = some (ofF ((ts X done rest).foldl (· + ·) acc))
  | [], done, acc, k + 1, h, hk => by
    rw [cohousingref22_Through.l0, if_neg (by simp)]
    rfl
  | p :: rest, done, acc, k + 1, h, hk => by
    have hlen : (done ++ p :: rest).length = done.length + rest.length + 1 := by simp; omega
    rw [cohousingref22_Through.l0, if_pos (by rw [List.length_map, hlen]; omega), if_pos (by omega), rd_sh _ done.length (by rw [hlen]; omega)]
    have hget : (done ++ p :: rest)[done.length]'(by rw [hlen]; omega) = p := by simp
    rw [hget]
    simp only [List.length_cons] at h hk
    have hk2 : (done.length + rest.length + 1) + 51 < k := by
      have : (rest.length + 1) * (done.length + (rest.length + 1) + 3) = rest.length * (done.length + (rest.length + 1) + 3) + (done.length + (rest.length + 1) + 3) := by rw [Nat.succ_mul]
      omega
    obtain ⟨k', rfl⟩ : ∃ k', k = k' + (done ++ p :: rest).length + 1 := ⟨k - (done.length + rest.length + 1) - 1, by rw [hlen]; omega⟩
    have hin := refThrough_l1 (done ++ p :: rest) (by rw [hlen]; omega) X p.1 p.2 acc done.length (by rw [hlen]; omega) hget (done ++ p :: rest) 0 k' p.2 1 rfl (by omega) (by rw [hlen] at hk2; omega)
    have hsk := skip_mid done p rest 0
    rw [Nat.zero_add] at hsk
    rw [hsk, ofF_one] at hin
    refine Eq.trans hin ?_
    have e2 : done ++ p :: rest = (done ++ [p]) ++ rest := by simp
    have e3 : ((done.length + 1 : Nat) : Int) = ((done ++ [p]).length : Int) := by simp
    have hrec := refThrough_l0 X rest (done ++ [p]) (acc + part X p.1 p.2 (done ++ rest)) k' (by simp; omega) (by
      rw [hlen] at hk
      simp only [List.length_append, List.length_singleton]
      have : (rest.length + 1) * (done.length + (rest.length + 1) + 3) = rest.length * (done.length + 1 + rest.length + 3) + (done.length + (rest.length + 1) + 3) := by rw [Nat.succ_mul]; congr 2; omega
      omega)
    rw [← e2, ← e3] at hrec
    refine Eq.trans hrec ?_
    simp only [ts, List.foldl_cons]
theorem refThrough_ok (L : List (F × F)) (hL : L.length ≤ 16) (X : F) (g : F → F) (hg : ∀ p ∈ L, g p.1 = p.2) (k : Nat) (hk : 400 ≤ k) : cohousingref22_Through.f k (L.map sh) (ofF X) = some (ofF (thr (L.map (·.1)) g X)) := by
  unfold cohousingref22_Through.f
  have h1 : L.length * (L.length + 3) ≤ 16 * 19 := Nat.mul_le_mul (by omega) (by omega)
  have := refThrough_l0 X L [] 0 k (by simpa using hL) (by simp only [List.length_nil, Nat.zero_add]; omega)
  simp only [List.nil_append, List.length_nil, ofF_zero] at this
  refine Eq.trans this ?_
  congr 2
  rw [ts_sum X g L [] hg]
  simp only [List.map_nil, LotZ.pd]
  rw [LotZ.thr_congr (g := g) (fun p _ => by rw [LotZ.inv_one]; grind)]
  exact one_mul_F _
end Go.Proofs.YtkghgaifgpgfkaaDoor.PL
end
section
namespace Go.Proofs.YtkghgaifgpgfkaaDoor.PL
open Go.RowKit Go.Proofs.YtkghgaifgpgfkaaDoorW.PrintWords Go.Proofs.YtkghgaifgpgfkaaDoorW.PrintLast Go.Proofs.YtkghgaifgpgfkaaDoorW.PrintMore
open Go.Proofs.YtkghgaifgpgfkaaDoor.LotZ (F U pw inv pd thr Ok ev)
set_option linter.unusedVariables false
def cnt (b : Nat → Bool) : Nat → List S58 → Int
  | _, [] => 0
  | s, _ :: l => (if b s = true then 1 else 0) + cnt b (s + 1) l
end Go.Proofs.YtkghgaifgpgfkaaDoor.PL
end
section
namespace Go.Proofs.YtkghgaifgpgfkaaDoor.PL
open Go.RowKit Go.Proofs.YtkghgaifgpgfkaaDoorW.PrintWords Go.Proofs.YtkghgaifgpgfkaaDoorW.PrintLast Go.Proofs.YtkghgaifgpgfkaaDoorW.PrintMore
open Go.Proofs.YtkghgaifgpgfkaaDoor.LotZ (F U pw inv pd thr Ok ev)
set_option linter.unusedVariables false
set_option linter.unusedSimpArgs false
theorem ptsAt_get (l : List S47) (i j : Nat) (hj : j < i) (hi : i ≤ l.length) : (ptsAt l i)[j]'(by simp [ptsAt]; omega) = (l[j]'(by omega)).f0 := by
  simp [ptsAt]
theorem ptsAt_length (l : List S47) (i : Nat) (hi : i ≤ l.length) : (ptsAt l i).length = i := by simp [ptsAt]; omega
theorem refRec_l1 (l : List S47) (hl : l.length ≤ 16) (i : Nat) (hi : i < l.length) : ∀ (d j k' : Nat), j + d = i →
    cohousingref22_Recover.l1 (k' + d + 1) l (i : Int) (j : Int) = if ((ptsAt l i).drop j).contains (l[i]).f0 = true then some (0, 1) else cohousingref22_Recover.l0 k' l ((i + 1 : Nat) : Int)
  | 0, j, k', e => by
    obtain rfl : j = i := by omega
    have hw : wrap64 ((j : Int) + 1) = ((j + 1 : Nat) : Int) := by rw [w64 (by omega) (by omega)]; omega
    rw [show k' + 0 + 1 = k' + 1 from rfl, cohousingref22_Recover.l1, if_neg (by omega), hw, List.drop_of_length_le (by rw [ptsAt_length l j (by omega)]; omega)]
    rw [if_neg (by simp)]
  | d + 1, j, k', e => by
    have hw : wrap64 ((j : Int) + 1) = ((j + 1 : Nat) : Int) := by rw [w64 (by omega) (by omega)]; omega
    rw [show k' + (d + 1) + 1 = (k' + d + 1) + 1 by omega, cohousingref22_Recover.l1, if_pos (by omega), if_pos (by omega), if_pos (by omega), if_pos (by omega), if_pos (by omega), rd47_at l j (by omega), rd47_at l i hi, hw, refRec_l1 l hl i hi d (j + 1) k' (by omega)]
    rw [List.drop_eq_getElem_cons (i := j) (by rw [ptsAt_length l i (by omega)]; omega), ptsAt_get l i j (by omega) (by omega), List.contains_cons]
    by_cases h : (l[j]'(by omega)).f0 = (l[i]).f0
    · rw [if_pos h, if_pos (by rw [h]; simp)]
    · rw [if_neg h]
      have : ((l[i]).f0 == (l[j]'(by omega)).f0) = false := by simpa using fun e => h e.symm
      rw [this, Bool.false_or]
theorem refRec_l0 (l : List S47) (hl : l.length ≤ 16) (T : Int) (hT : recOK [] l = true → ∀ k, 400 ≤ k → cohousingref22_Through.f k l 0 = some T) : ∀ (m i k : Nat), i + m = l.length → recOK [] l = recOK (ptsAt l i) (l.drop i) → m * 20 + 401 < k →
    cohousingref22_Recover.l0 k l (i : Int) = if recOK [] l = true then some (T, 0) else some (0, 1)
  | 0, i, k + 1, e, hr, hk => by
    obtain rfl : i = l.length := by omega
    rw [List.drop_length] at hr
    have hr' : recOK [] l = true := hr
    rw [cohousingref22_Recover.l0, if_neg (by omega), hT hr' k (by omega), Option.bind_some, if_pos hr']
  | m + 1, i, k + 1, e, hr, hk => by
    have hi : i < l.length := by omega
    obtain ⟨k2, rfl⟩ : ∃ k2, k = k2 + 1 := ⟨k - 1, by omega⟩
    have hE := recOK_at l i hi (ptsAt l i)
    rw [rd47_at l i hi] at hE
    rw [cohousingref22_Recover.l0, if_pos (by omega), if_pos (by omega), rd47_at l i hi, in_eq, Option.bind_some]
    by_cases h1 : inR (l[i]).f0 1 16 = true
    · rw [if_pos h1, residueR_eq, Option.bind_some, cohousingref22_Recover.j1]
      cases h2 : isRes (l[i]).f1 with
      | false =>
        have : recOK [] l = false := by rw [hr, hE, ptOK, h1, h2]; rfl
        rw [if_pos (by rfl), if_neg (by rw [this]; decide)]
      | true =>
        rw [if_neg (by decide)]
        obtain ⟨k', rfl⟩ : ∃ k', k2 = k' + i + 1 := ⟨k2 - i - 1, by omega⟩
        have h3 := refRec_l1 l hl i hi i 0 k' (by omega)
        rw [List.drop_zero] at h3
        refine Eq.trans h3 ?_
        cases h4 : (ptsAt l i).contains (l[i]).f0 with
        | true =>
          have : recOK [] l = false := by rw [hr, hE, ptOK, h1, h2, h4]; rfl
          rw [if_pos rfl, if_neg (by rw [this]; decide)]
        | false =>
          rw [if_neg (by decide)]
          refine refRec_l0 l hl T hT m (i + 1) k' (by omega) ?_ (by omega)
          rw [hr, hE, ptOK, h1, h2, h4, ptsAt_succ l i hi, rd47_at l i hi]
          rfl
    · rw [if_neg h1, cohousingref22_Recover.j1, if_pos rfl]
      have : recOK [] l = false := by rw [hr, hE, ptOK, show inR (l[i]).f0 1 16 = false by simpa using h1]; rfl
      rw [if_neg (by rw [this]; decide)]
theorem refThrough_at {l : List S47} (hp : ∀ s ∈ l, ptOK s = true) (hl : l.length ≤ 16) {g : F → F} (hg : ∀ s ∈ l, g (toF s.f0) = toF s.f1) (X : F) (k : Nat) (hk : 400 ≤ k) : cohousingref22_Through.f k l (ofF X) = some (ofF (thr (pts l) g X)) := by
  have := refThrough_ok (l.map un) (by rw [List.length_map]; exact hl) X g (fun p hp => by
    obtain ⟨s, hs, rfl⟩ := List.mem_map.1 hp
    exact hg s hs) k hk
  rw [map_sh_un hp, pts_un] at this
  exact this
theorem refRecover_eq (l : List S47) (hl : l.length ≤ 20) (k : Nat) (hk : 1000 ≤ k) : cohousingref22_Recover.f k l = lottery_Recover.f k l := by
  unfold cohousingref22_Recover.f lottery_Recover.f
  rw [in_eq, Option.bind_some]
  by_cases h : inR (l.length : Int) 1 16 = true
  · rw [if_pos h, if_pos h]
    have hin := h
    simp only [inR, Bool.and_eq_true, decide_eq_true_eq] at hin
    by_cases hr : recOK [] l = true
    · obtain ⟨g1, g2, _⟩ := recOK_inv l [] hr
      have hv : RecV l := ⟨by omega, by omega, g1, g2⟩
      have hg := gOf_at g1 g2
      have h0 := refRec_l0 l (by omega) (ofF (thr (pts l) (gOf l) 0)) (fun _ k' hk' => by
        have := refThrough_at g1 (by omega) hg 0 k' hk'
        rwa [ofF_zero] at this) l.length 0 k (by omega) (by simp [ptsAt]) (by omega)
      have h1 := recover_ok hv hg (k := k) (by omega)
      unfold lottery_Recover.f at h1
      rw [if_pos h] at h1
      rw [h1]
      rw [if_pos hr] at h0
      exact h0
    · have h0 := refRec_l0 l (by omega) 0 (fun h => absurd h hr) l.length 0 k (by omega) (by simp [ptsAt]) (by omega)
      rw [if_neg hr] at h0
      rw [if_neg hr]
      exact h0
  · rw [if_neg h, if_neg h]
theorem refPl_l1 (l : List S31) (hl : l.length ≤ 16) (i : Nat) (hi : i < l.length) (hn : (l[i]).f2.length = l.length) : ∀ (r : List S47) (j k' : Nat), (l[i]).f2.drop j = r → j ≤ l.length →
    cohousingref22_pledges.l1 (k' + r.length + 1) l (i : Int) (j : Int) = if sharesOK j r = true then cohousingref22_pledges.l0 k' l ((i + 1 : Nat) : Int) else some false
  | [], j, k', e, hj => by
    have hjl : j = l.length := by
      have := congrArg List.length e
      simp at this
      omega
    have hw : wrap64 ((i : Int) + 1) = ((i + 1 : Nat) : Int) := by rw [w64 (by omega) (by omega)]; omega
    rw [show k' + ([] : List S47).length + 1 = k' + 1 from rfl, cohousingref22_pledges.l1, if_neg (by omega), hw, if_pos (show sharesOK j [] = true from rfl)]
  | s :: r, j, k', e, hj => by
    have hjl : j < (l[i]).f2.length := by
      have := congrArg List.length e
      simp at this
      omega
    have hp : (l[i]).f2[j] = s ∧ (l[i]).f2.drop (j + 1) = r := by
      rw [List.drop_eq_getElem_cons hjl] at e
      injection e with h1 h2
      exact ⟨h1, h2⟩
    have hw : wrap64 ((j : Int) + 1) = ((j + 1 : Nat) : Int) := by rw [w64 (by omega) (by omega)]; omega
    rw [show k' + (s :: r).length + 1 = (k' + r.length + 1) + 1 from rfl, cohousingref22_pledges.l1, if_pos (by omega), if_pos (by omega), if_pos (by omega), if_pos (by omega), rd31_at l i hi, if_pos (by omega), rd47_at _ j hjl, hp.1, hw]
    have hS : sharesOK j (s :: r) = (shOK j s && sharesOK (j + 1) r) := rfl
    rw [hS, shOK]
    by_cases h1 : s.f0 = (j : Int) + 1
    · have e1 : (s.f0 == (j : Int) + 1) = true := by simpa using h1
      have h1' : s.f0 = ((j + 1 : Nat) : Int) := by omega
      rw [if_pos h1', residueR_eq, Option.bind_some, e1, Bool.true_and]
      cases h2 : isRes s.f1 with
      | true =>
        rw [if_pos rfl, Bool.true_and]
        exact refPl_l1 l hl i hi hn r (j + 1) k' hp.2 (by omega)
      | false => rw [if_neg (by decide), Bool.false_and, if_neg (by decide)]
    · have e1 : (s.f0 == (j : Int) + 1) = false := by simpa using h1
      have h1' : ¬ s.f0 = ((j + 1 : Nat) : Int) := by omega
      rw [if_neg h1', e1, Bool.false_and, Bool.false_and, if_neg (by decide)]
theorem refPl_l0 (l : List S31) (hl : l.length ≤ 16) : ∀ (m i k : Nat), i + m = l.length → m * (l.length + 4) < k → cohousingref22_pledges.l0 k l (i : Int) = some (pledgesOK l.length i (l.drop i))
  | 0, i, k + 1, e, _ => by
    obtain rfl : i = l.length := by omega
    rw [cohousingref22_pledges.l0, if_neg (by omega), List.drop_length]
    rfl
  | m + 1, i, k + 1, e, hk => by
    have hi : i < l.length := by omega
    have hk2 : l.length + 3 + m * (l.length + 4) < k := by rw [Nat.succ_mul] at hk; omega
    obtain ⟨k2, rfl⟩ : ∃ k2, k = k2 + 1 := ⟨k - 1, by omega⟩
    have hw : wrap64 ((i : Int) + 1) = ((i + 1 : Nat) : Int) := by rw [w64 (by omega) (by omega)]; omega
    rw [cohousingref22_pledges.l0, if_pos (by omega), if_pos (by omega), rd31_at l i hi, hw, List.drop_eq_getElem_cons hi]
    have hP : pledgesOK l.length i (l[i] :: l.drop (i + 1)) = (plOK l.length i l[i] && pledgesOK l.length (i + 1) (l.drop (i + 1))) := rfl
    rw [hP, plOK]
    by_cases h1 : (l[i]).f0 = (i : Int) + 1
    · have e1 : ((l[i]).f0 == (i : Int) + 1) = true := by simpa using h1
      have h1' : (l[i]).f0 = ((i + 1 : Nat) : Int) := by omega
      rw [if_pos h1', e1, Bool.true_and, cohousingref22_pledges.j1]
      by_cases h2 : (l[i]).f2.length = l.length
      · have e2 : (((l[i]).f2.length : Int) != (l.length : Int)) = false := by rw [h2]; simp
        have e3 : ((l[i]).f2.length == l.length) = true := by simpa using h2
        rw [e2, if_neg (by decide), e3, Bool.true_and]
        obtain ⟨k', rfl⟩ : ∃ k', k2 = k' + (l[i]).f2.length + 1 := ⟨k2 - l.length - 1, by omega⟩
        refine Eq.trans (refPl_l1 l hl i hi h2 (l[i]).f2 0 k' rfl (by omega)) ?_
        cases h3 : sharesOK 0 (l[i]).f2 with
        | true => rw [if_pos rfl, Bool.true_and]; exact refPl_l0 l hl m (i + 1) k' (by omega) (by omega)
        | false => rw [if_neg (by decide), Bool.false_and]
      · have e2 : (((l[i]).f2.length : Int) != (l.length : Int)) = true := by simp; omega
        have e3 : ((l[i]).f2.length == l.length) = false := by simpa using h2
        rw [e2, if_pos rfl, e3]
        rfl
    · have e1 : ((l[i]).f0 == (i : Int) + 1) = false := by simpa using h1
      have h1' : ¬ (l[i]).f0 = ((i + 1 : Nat) : Int) := by omega
      rw [if_neg h1', cohousingref22_pledges.j1, if_pos rfl, e1]
      rfl
theorem refPledges_eq (l : List S31) (k : Nat) (hk : 500 ≤ k) : cohousingref22_pledges.f k l = some (pledgesOK l.length 0 l && inR (l.length : Int) 1 16) := by
  unfold cohousingref22_pledges.f
  rw [in_eq, Option.bind_some]
  cases h : inR (l.length : Int) 1 16 with
  | true =>
    rw [if_pos rfl, Bool.and_true]
    simp only [inR, Bool.and_eq_true, decide_eq_true_eq] at h
    have : l.length * (l.length + 4) ≤ 16 * 20 := Nat.mul_le_mul (by omega) (by omega)
    exact refPl_l0 l (by omega) l.length 0 k (by omega) (by omega)
  | false => rw [if_neg (by decide), Bool.and_false]
theorem byF_snoc_isSome (l : List S23) (s : S23) (x : Int) : (byF (l ++ [s]) x).isSome = (decide (x = s.f0) || (byF l x).isSome) := by
  rw [byF_snoc]
  by_cases h : x = s.f0 <;> simp [h]
theorem byF_cons_isSome (l : List S23) (s : S23) (x : Int) : (byF (s :: l) x).isSome = ((s.f0 == x) || (byF l x).isSome) := by
  show (match byF l x with | some t => some t | none => if x = s.f0 then some s else none).isSome = _
  cases h : byF l x with
  | some t => simp
  | none =>
    by_cases e : x = s.f0
    · simp [e]
    · have : (s.f0 == x) = false := by simpa using fun e' => e e'.symm
      simp [e, this]
theorem refSec_l1 (l : List S23) (hl : l.length ≤ 20) (n : Int) (i : Nat) (hi : i < l.length) : ∀ (d j k' : Nat), j + d = i →
    cohousingref22_secrets.l1 (k' + d + 1) l n (i : Int) (j : Int) = if (byF ((l.take i).drop j) (l[i]).f0).isSome = true then some false else cohousingref22_secrets.l0 k' l n ((i + 1 : Nat) : Int)
  | 0, j, k', e => by
    obtain rfl : j = i := by omega
    have hw : wrap64 ((j : Int) + 1) = ((j + 1 : Nat) : Int) := by rw [w64 (by omega) (by omega)]; omega
    rw [show k' + 0 + 1 = k' + 1 from rfl, cohousingref22_secrets.l1, if_neg (by omega), hw, List.drop_of_length_le (by rw [List.length_take]; omega)]
    rfl
  | d + 1, j, k', e => by
    have hw : wrap64 ((j : Int) + 1) = ((j + 1 : Nat) : Int) := by rw [w64 (by omega) (by omega)]; omega
    have hj : j < (l.take i).length := by rw [List.length_take]; omega
    rw [show k' + (d + 1) + 1 = (k' + d + 1) + 1 by omega, cohousingref22_secrets.l1, if_pos (by omega), if_pos (by omega), if_pos (by omega), if_pos (by omega), if_pos (by omega), rd23_at l j (by omega), rd23_at l i hi, hw, refSec_l1 l hl n i hi d (j + 1) k' (by omega)]
    rw [List.drop_eq_getElem_cons hj, byF_cons_isSome, List.getElem_take]
    by_cases h : (l[j]'(by omega)).f0 = (l[i]).f0
    · rw [if_pos h, if_pos (by rw [h]; simp)]
    · rw [if_neg h]
      have : ((l[j]'(by omega)).f0 == (l[i]).f0) = false := by simpa using h
      rw [this, Bool.false_or]
theorem refSec_l0 (l : List S23) (hl : l.length ≤ 20) (n : Int) : ∀ (m i k : Nat), i + m = l.length → m * 25 < k → cohousingref22_secrets.l0 k l n (i : Int) = some (openOK n (l.take i) (l.drop i))
  | 0, i, k + 1, e, _ => by
    obtain rfl : i = l.length := by omega
    rw [cohousingref22_secrets.l0, if_neg (by omega), List.drop_length]
    rfl
  | m + 1, i, k + 1, e, hk => by
    have hi : i < l.length := by omega
    obtain ⟨k2, rfl⟩ : ∃ k2, k = k2 + 1 := ⟨k - 1, by omega⟩
    have hE := openOK_at n l i hi
    rw [rd23_at l i hi, secOK] at hE
    rw [cohousingref22_secrets.l0, if_pos (by omega), if_pos (by omega), rd23_at l i hi, in_eq, Option.bind_some, hE]
    cases h1 : inR (l[i]).f0 1 n with
    | false =>
      rw [if_neg (by decide), cohousingref22_secrets.j1, if_pos rfl, Bool.false_and, Bool.false_and, Bool.and_false]
    | true =>
      rw [if_pos rfl, residueR_eq, Option.bind_some, Bool.true_and]
      cases h2 : isRes (l[i]).f1 with
      | false => rw [if_neg (by decide), cohousingref22_secrets.j1, if_pos rfl, Bool.false_and, Bool.false_and, Bool.and_false]
      | true =>
        rw [if_pos rfl, residueR_eq, Option.bind_some, Bool.true_and, cohousingref22_secrets.j1]
        cases h3 : isRes (l[i]).f2 with
        | false => rw [if_pos (by rfl), Bool.false_and, Bool.and_false]
        | true =>
          rw [if_neg (by decide), Bool.true_and]
          obtain ⟨k', rfl⟩ : ∃ k', k2 = k' + i + 1 := ⟨k2 - i - 1, by omega⟩
          have h4 := refSec_l1 l hl n i hi i 0 k' (by omega)
          rw [List.drop_zero] at h4
          refine Eq.trans h4 ?_
          cases h5 : (byF (l.take i) (l[i]).f0).isSome with
          | true => rw [if_pos rfl]; rfl
          | false =>
            rw [if_neg (by decide)]
            exact refSec_l0 l hl n m (i + 1) k' (by omega) (by omega)
theorem refSecrets_eq (l : List S23) (hl : l.length ≤ 20) (n : Int) (k : Nat) (hk : 600 ≤ k) : cohousingref22_secrets.f k l n = some (openOK n [] l) := by
  have := refSec_l0 l hl n l.length 0 k (by omega) (by omega)
  rw [List.take_zero, List.drop_zero] at this
  exact this
theorem refValue_l0 (first : List S47) (hf : RecV first) (a b : Int) (shs : List S47) (hs : ∀ s ∈ shs, ptOK s = true) (hlen : shs.length < 1000) : ∀ (r : List S47) (j k : Nat), shs.drop j = r → j ≤ shs.length → 400 + r.length < k →
    cohousingref22_Value.l0 k first (j : Int) a b shs = some (if onPoly first r = true then (ofF (thr (pts first) (gOf first) 0), true) else (0, false))
  | [], j, k + 1, e, hj, hk => by
    have hjl : j = shs.length := by
      have := congrArg List.length e
      simp at this
      omega
    have := refThrough_at hf.pt hf.hi (gOf_at hf.pt hf.nd) 0 k (by simp at hk; omega)
    rw [ofF_zero] at this
    rw [cohousingref22_Value.l0, if_neg (by omega), this, Option.bind_some]
    rfl
  | s :: r, j, k + 1, e, hj, hk => by
    have hjl : j < shs.length := by
      have := congrArg List.length e
      simp at this
      omega
    have hp : shs[j] = s ∧ shs.drop (j + 1) = r := by
      rw [List.drop_eq_getElem_cons hjl] at e
      injection e with h1 h2
      exact ⟨h1, h2⟩
    have hw : wrap64 ((j : Int) + 1) = ((j + 1 : Nat) : Int) := by rw [w64 (by omega) (by omega)]; omega
    have hps := ptOK_lo (hs s (by rw [← hp.1]; exact List.getElem_mem hjl))
    have hth := refThrough_at hf.pt hf.hi (gOf_at hf.pt hf.nd) (toF s.f0) k (by simp at hk; omega)
    rw [ofF_toF (by omega) (by omega)] at hth
    rw [cohousingref22_Value.l0, if_pos (by omega), if_pos (by omega), rd47_at shs j hjl, hp.1, hth, Option.bind_some, hw, refValue_l0 first hf a b shs hs hlen r (j + 1) k hp.2 (by omega) (by simp at hk; omega)]
    have hO : onPoly first (s :: r) = ((ofF (thr (pts first) (gOf first) (toF s.f0)) == s.f1) && onPoly first r) := rfl
    rw [hO]
    by_cases h : ofF (thr (pts first) (gOf first) (toF s.f0)) = s.f1
    · rw [if_pos h, show (ofF (thr (pts first) (gOf first) (toF s.f0)) == s.f1) = true by simpa using h, Bool.true_and]
    · rw [if_neg h, show (ofF (thr (pts first) (gOf first) (toF s.f0)) == s.f1) = false by simpa using h, Bool.false_and, if_neg (by decide)]
theorem refValue_ok (a b : Int) (shs : List S47) (hv : RecV shs) (need : Nat) (h1 : 1 ≤ need) (h2 : need ≤ shs.length) (k : Nat) (hk : 450 ≤ k) : cohousingref22_Value.f k a b shs (need : Int) = some (valF shs need) := by
  have hf : RecV (shs.take need) := by
    refine ⟨by rw [List.length_take]; omega, by rw [List.length_take]; have := hv.hi; omega, fun s hs => hv.pt s (List.mem_of_mem_take hs), ?_⟩
    rw [List.map_take]
    exact hv.nd.sublist (List.take_sublist _ _)
  have hh := hv.hi
  unfold cohousingref22_Value.f
  rw [if_pos (by omega), if_pos (by omega), Int.toNat_natCast, refValue_l0 (shs.take need) hf a b shs hv.pt (by omega) (shs.drop need) need k rfl h2 (by rw [List.length_drop]; omega)]
  rfl
theorem openOK_inv (n : Int) : ∀ (l seen : List S23), openOK n seen l = true → (∀ t ∈ l, secOK n t = true ∧ (byF seen t.f0).isSome = false) ∧ (l.map (·.f0)).Nodup
  | [], _, _ => ⟨by simp, List.nodup_nil⟩
  | s :: l, seen, h => by
    simp only [openOK, Bool.and_eq_true, Bool.not_eq_true'] at h
    obtain ⟨h1, h2, h3⟩ := h
    obtain ⟨g1, g2⟩ := openOK_inv n l _ h3
    refine ⟨fun t ht => ?_, ?_⟩
    · rcases List.mem_cons.1 ht with rfl | ht
      · exact ⟨h2, h1⟩
      · have := g1 t ht
        rw [byF_snoc_isSome, Bool.or_eq_false_iff] at this
        exact ⟨this.1, this.2.2⟩
    · simp only [List.map_cons, List.nodup_cons]
      refine ⟨fun hm => ?_, g2⟩
      obtain ⟨t, ht, e⟩ := List.mem_map.1 hm
      have := (g1 t ht).2
      rw [byF_snoc_isSome, Bool.or_eq_false_iff] at this
      simp [e] at this
def innerF (x p1 v : Int) : List S23 → Int × Bool → Int × Bool
  | [], st => st
  | s :: l, st => innerF x p1 v l (if s.f0 = x then (if sumS s.f0 s.f1 s.f2 = p1 then (st.1 + 1, st.2 || (s.f1 != v)) else (st.1, true)) else st)
theorem innerF_none (x p1 v : Int) : ∀ (l : List S23) (st : Int × Bool), (∀ t ∈ l, t.f0 ≠ x) → innerF x p1 v l st = st
  | [], _, _ => rfl
  | s :: l, st, h => by
    rw [innerF, if_neg (h s List.mem_cons_self)]
    exact innerF_none x p1 v l st (fun t ht => h t (List.mem_cons_of_mem _ ht))
theorem byF_none_of : ∀ {l : List S23} {x : Int}, (∀ t ∈ l, t.f0 ≠ x) → byF l x = none
  | [], _, _ => rfl
  | s :: l, x, h => by
    rw [byF, byF_none_of (fun t ht => h t (List.mem_cons_of_mem _ ht))]
    simp only []
    rw [if_neg (fun e => h s List.mem_cons_self e.symm)]
theorem innerF_by (x p1 v : Int) : ∀ (l : List S23) (st : Int × Bool), (l.map (·.f0)).Nodup → innerF x p1 v l st = match byF l x with
    | none => st
    | some s => if sumS s.f0 s.f1 s.f2 = p1 then (st.1 + 1, st.2 || (s.f1 != v)) else (st.1, true)
  | [], st, _ => rfl
  | s :: l, st, h => by
    simp only [List.map_cons, List.nodup_cons] at h
    by_cases e : s.f0 = x
    · have hn : ∀ t ∈ l, t.f0 ≠ x := fun t ht e2 => h.1 (List.mem_map.2 ⟨t, ht, by rw [e2, e]⟩)
      rw [innerF, if_pos e, innerF_none x p1 v l _ hn, byF, byF_none_of hn]
      simp only []
      rw [if_pos e.symm]
    · rw [innerF, if_neg e, innerF_by x p1 v l st h.2, byF]
      cases byF l x with
      | some t => rfl
      | none =>
        simp only []
        rw [if_neg (fun e2 => e e2.symm)]
theorem secOK_lo {n : Int} {s : S23} (h : secOK n s = true) : 1 ≤ s.f0 ∧ s.f0 ≤ n ∧ 0 ≤ s.f1 ∧ s.f1 < 1073741789 ∧ 0 ≤ s.f2 ∧ s.f2 < 1073741789 := by
  simp only [secOK, inR, isRes, Bool.and_eq_true, decide_eq_true_eq] at h
  omega
theorem refDraw_l1 (l : List S31) (hl : l.length ≤ 16) (need : Int) (opened : List S23) (ho : opened.length ≤ 20) (hs : ∀ s ∈ opened, secOK (l.length : Int) s = true) (i : Nat) (hi : i < l.length) (seed v : Int) (cs : List Int) (hcs : cs.length ≤ 100) :
    ∀ (r : List S23) (j k' : Nat) (right : Int) (cheat : Bool), opened.drop j = r → 0 ≤ right → right + r.length ≤ 1000 → 2500 < k' →
    cohousingref22_Draw.l1 (k' + r.length + 1) l need opened seed right cs (i : Int) v cheat (j : Int) =
      (let st := innerF ((i : Int) + 1) (l[i]).f1 v r (right, cheat)
       cohousingref22_Draw.l0 k' l need opened seed st.1 (if st.2 = true then cs ++ [(i : Int) + 1] else cs) ((i + 1 : Nat) : Int))
  | [], j, k', right, cheat, e, h0, h1, hk => by
    have hjl : opened.length ≤ j := by
      have := congrArg List.length e
      simp at this
      omega
    have hw : wrap64 ((i : Int) + 1) = ((i + 1 : Nat) : Int) := by rw [w64 (by omega) (by omega)]; omega
    rw [show k' + ([] : List S23).length + 1 = k' + 1 from rfl, cohousingref22_Draw.l1, if_neg (by omega), hw]
    simp only [innerF]
    cases cheat with
    | true => rw [if_pos rfl, if_pos (by omega)]; exact congrArg (fun z => cohousingref22_Draw.l0 k' l need opened seed right (cs ++ [z]) ((i + 1 : Nat) : Int)) (show ((i + 1 : Nat) : Int) = (i : Int) + 1 by omega)
    | false => rw [if_neg (by decide)]; rfl
  | s :: r, j, k', right, cheat, e, h0, h1, hk => by
    have hjl : j < opened.length := by
      have := congrArg List.length e
      simp at this
      omega
    have hp : opened[j] = s ∧ opened.drop (j + 1) = r := by
      rw [List.drop_eq_getElem_cons hjl] at e
      injection e with h1 h2
      exact ⟨h1, h2⟩
    simp only [List.length_cons] at h1
    have hw : wrap64 ((j : Int) + 1) = ((j + 1 : Nat) : Int) := by rw [w64 (by omega) (by omega)]; omega
    have hwi : wrap64 ((i : Int) + 1) = (i : Int) + 1 := w64 (by omega) (by omega)
    have hwr : wrap64 (right + 1) = right + 1 := w64 (by omega) (by omega)
    have hso := secOK_lo (hs s (by rw [← hp.1]; exact List.getElem_mem hjl))
    have hrec := fun right cheat h0 h1 => refDraw_l1 l hl need opened ho hs i hi seed v cs hcs r (j + 1) k' right cheat hp.2 h0 h1 hk
    rw [show k' + (s :: r).length + 1 = (k' + r.length + 1) + 1 from rfl, cohousingref22_Draw.l1, if_pos (by omega), if_pos (by omega), rd23_at opened j hjl, hp.1, hw, hwi, hwr]
    simp only [innerF]
    by_cases hx : s.f0 = (i : Int) + 1
    · rw [if_pos hx, if_pos hx, refSum_ok (by omega) (by omega) (by omega) _ (by omega), Option.bind_some, if_pos (by omega), if_pos (by omega), rd31_at l i hi]
      by_cases hq : sumS s.f0 s.f1 s.f2 = (l[i]).f1
      · rw [if_pos hq, if_pos hq]
        cases cheat with
        | true => rw [if_pos rfl, hrec _ _ (by omega) (by omega)]; rfl
        | false => rw [if_neg (by decide), hrec _ _ (by omega) (by omega)]; rfl
      · rw [if_neg hq, if_neg hq]
        cases cheat with
        | true => rw [if_pos rfl, hrec _ _ (by omega) (by omega)]
        | false => rw [if_neg (by decide), hrec _ _ (by omega) (by omega)]
    · rw [if_neg hx, if_neg hx, hrec _ _ (by omega) (by omega)]
def endP (need : Int) (st : DrawSt) : Int × List Int × Int := if st.right < need then (0, [], 33) else (st.seed, st.cheats, 0)
theorem addC_new {cs : List Int} {i : Nat} (h : ∀ c ∈ cs, c ≤ (i : Int)) : addC cs ((i : Int) + 1) = cs ++ [(i : Int) + 1] := by
  unfold addC
  rw [if_neg]
  simp only [List.contains_eq_mem, decide_eq_true_eq]
  intro hm
  have := h _ hm
  omega
structure DrawAt (st : DrawSt) (i : Nat) : Prop where
  r0 : 0 ≤ st.right
  r1 : st.right ≤ i
  le : ∀ c ∈ st.cheats, c ≤ (i : Int)
  len : st.cheats.length ≤ i
  inc : st.cheats.Pairwise fun a b => a ≤ b
  s0 : 0 ≤ st.seed
  s1 : st.seed < 1073741789
theorem valF_res (shs : List S47) (need : Nat) : 0 ≤ (valF shs need).1 ∧ (valF shs need).1 < 1073741789 := by
  unfold valF
  split
  · exact ⟨ofF_lo _, ofF_hi _⟩
  · decide
theorem plusW_res {a b : Int} (ha : 0 ≤ a) (ha1 : a < 1073741789) (hb : 0 ≤ b) (hb1 : b < 1073741789) : 0 ≤ plusW a b ∧ plusW a b < 1073741789 := by
  have h := plus_eq ha ha1 hb hb1
  have h2 : plusW a b = (a + b) % 1073741789 := Option.some.inj h
  rw [h2]
  exact ⟨res_lo _, res_hi _⟩
theorem DrawAt.step {need : Nat} {opened : List S23} {st : DrawSt} {i : Nat} {p : S31} (h : DrawAt st i) (hp : p.f0 = (i : Int) + 1) : DrawAt (stepP need opened st p) (i + 1) := by
  have hv := valF_res p.f2 need
  have hs := plusW_res h.s0 h.s1 hv.1 hv.2
  have hadd : addC st.cheats p.f0 = st.cheats ++ [(i : Int) + 1] := by rw [hp]; exact addC_new h.le
  have k1 : ∀ c ∈ st.cheats, c ≤ ((i + 1 : Nat) : Int) := fun c hc => by have := h.le c hc; omega
  have k2 : ∀ c ∈ st.cheats ++ [(i : Int) + 1], c ≤ ((i + 1 : Nat) : Int) := fun c hc => by
    rcases List.mem_append.1 hc with hc | hc
    · exact k1 c hc
    · rw [List.mem_singleton.1 hc]; omega
  have k3 : (st.cheats ++ [(i : Int) + 1]).Pairwise fun a b => a ≤ b := by
    refine List.pairwise_append.2 ⟨h.inc, List.pairwise_singleton _ _, fun a ha b hb => ?_⟩
    rw [List.mem_singleton.1 hb]
    have := h.le a ha
    omega
  have k4 : (st.cheats ++ [(i : Int) + 1]).length ≤ i + 1 := by have := h.len; simp; omega
  have g0 := h.r0; have g1 := h.r1; have g2 := h.len
  unfold stepP
  simp only [hadd]
  cases byF opened p.f0 with
  | none =>
    simp only []
    cases (valF p.f2 need).2 with
    | true => exact ⟨h.r0, by show st.right ≤ _; omega, k1, by show st.cheats.length ≤ _; omega, h.inc, hs.1, hs.2⟩
    | false => exact ⟨h.r0, by show st.right ≤ _; omega, k2, k4, k3, hs.1, hs.2⟩
  | some s =>
    simp only []
    split
    · split
      · exact ⟨by show 0 ≤ st.right + 1; omega, by show st.right + 1 ≤ _; omega, k1, by show st.cheats.length ≤ _; omega, h.inc, hs.1, hs.2⟩
      · exact ⟨by show 0 ≤ st.right + 1; omega, by show st.right + 1 ≤ _; omega, k2, k4, k3, hs.1, hs.2⟩
    · exact ⟨h.r0, by show st.right ≤ _; omega, k2, k4, k3, hs.1, hs.2⟩
theorem refDraw_l0 (l : List S31) (hl : l.length ≤ 16) (hok : pledgesOK l.length 0 l = true) (need : Nat) (hn1 : 1 ≤ need) (hn2 : need ≤ l.length) (opened : List S23) (ho : opened.length ≤ 20) (hop : openOK (l.length : Int) [] opened = true) :
    ∀ (m i k : Nat) (st : DrawSt), i + m = l.length → pledgesOK l.length i (l.drop i) = true → DrawAt st i → m * 30 + 2600 < k →
    cohousingref22_Draw.l0 k l (need : Int) opened st.seed st.right st.cheats (i : Int) = some (endP need ((l.drop i).foldl (stepP need opened) st)) ∧ DrawAt ((l.drop i).foldl (stepP need opened) st) l.length
  | _, _, 0, _, _, _, _, hk => by omega
  | 0, i, k + 1, st, e, hpi, hst, _ => by
    obtain rfl : i = l.length := by omega
    rw [cohousingref22_Draw.l0, if_neg (by omega), List.drop_length]
    refine ⟨?_, hst⟩
    show _ = some (endP _ st)
    unfold endP
    split <;> rfl
  | m + 1, i, k + 1, st, e, hpi, hst, hk => by
    have hi : i < l.length := by omega
    rw [List.drop_eq_getElem_cons hi] at hpi ⊢
    have hmem := pledgesOK_mem hpi l[i] List.mem_cons_self
    simp only [pledgesOK, plOK, Bool.and_eq_true, beq_iff_eq] at hpi
    have hv : RecV (l[i]).f2 := sharesOK_rec hmem.2 (by omega) (by omega)
    have hp0 : (l[i]).f0 = (i : Int) + 1 := hpi.1.1
    obtain ⟨hsec, hnd⟩ := openOK_inv _ _ _ hop
    obtain ⟨k', rfl⟩ : ∃ k', k = k' + opened.length + 1 := ⟨k - opened.length - 1, by omega⟩
    have hval := refValue_ok (l[i]).f0 (l[i]).f1 (l[i]).f2 hv need hn1 (by omega) (k' + opened.length + 1) (by omega)
    have hvr := valF_res (l[i]).f2 need
    have hseed : Int.tmod (wrap64 (st.seed + (valF (l[i]).f2 need).1)) 1073741789 = plusW st.seed (valF (l[i]).f2 need).1 := rfl
    have h0 := hst.r0; have h1 := hst.r1; have h2 := hst.len
    have hin := refDraw_l1 l hl (need : Int) opened ho (fun s hs => (hsec s hs).1) i hi (plusW st.seed (valF (l[i]).f2 need).1) (valF (l[i]).f2 need).1 st.cheats (by omega) opened 0 k' st.right (!(valF (l[i]).f2 need).2) rfl h0 (by omega) (by omega)
    rw [cohousingref22_Draw.l0, if_pos (by omega), if_pos (by omega), rd31_at l i hi, hval, Option.bind_some, hseed]
    rw [show ((0 : Nat) : Int) = 0 from rfl] at hin
    rw [hin, innerF_by _ _ _ opened _ hnd]
    have hstep := hst.step (need := need) (opened := opened) hp0
    have hadd : addC st.cheats (l[i]).f0 = st.cheats ++ [(i : Int) + 1] := by rw [hp0]; exact addC_new hst.le
    have hrec := refDraw_l0 l hl hok need hn1 hn2 opened ho hop m (i + 1) k' (stepP need opened st l[i]) (by omega) hpi.2 hstep (by omega)
    rw [List.foldl_cons]
    refine ⟨Eq.trans ?_ hrec.1, hrec.2⟩
    unfold stepP
    rw [hadd, hp0]
    cases byF opened ((i : Int) + 1) with
    | none =>
      simp only []
      cases (valF (l[i]).f2 need).2 <;> rfl
    | some s =>
      simp only []
      by_cases hq : sumS s.f0 s.f1 s.f2 = (l[i]).f1
      · rw [if_pos hq, show (sumS s.f0 s.f1 s.f2 == (l[i]).f1) = true by simpa using hq]
        simp only [if_true]
        cases (valF (l[i]).f2 need).2 with
        | false => rfl
        | true =>
          simp only [Bool.not_true, Bool.false_or, Bool.true_and, bne]
          cases (s.f1 == (valF (l[i]).f2 need).1) <;> rfl
      · rw [if_neg hq, show (sumS s.f0 s.f1 s.f2 == (l[i]).f1) = false by simpa using hq]
        rfl
theorem refDraw_eq {l : List S31} (hl : l.length ≤ 20) {need : Int} {opened : List S23} (ho : opened.length ≤ 20) {k : Nat} (hk : 4000 ≤ k) : cohousingref22_Draw.f k l need opened = some (drawP l need opened) := by
  obtain ⟨k, rfl⟩ : ∃ k', k = k' + 1 := ⟨k - 1, by omega⟩
  unfold cohousingref22_Draw.f drawP
  rw [refPledges_eq l _ (by omega), Option.bind_some, refSecrets_eq opened ho _ _ (by omega), Option.bind_some]
  cases h1 : (pledgesOK l.length 0 l && inR (l.length : Int) 1 16) with
  | false =>
    rw [if_neg (by decide), Bool.false_and, if_neg (by decide), cohousingref22_Draw.j0, if_pos rfl]
  | true =>
    rw [if_pos rfl, Bool.true_and]
    cases h2 : openOK (l.length : Int) [] opened with
    | false =>
      rw [if_neg (by decide), cohousingref22_Draw.j0, if_pos rfl]
      split <;> rfl
    | true =>
      rw [if_pos rfl, in_eq, Option.bind_some, cohousingref22_Draw.j0]
      cases h3 : inR need 1 (l.length : Int) with
      | false => rw [if_pos (by rfl), if_neg (by decide)]
      | true =>
        rw [if_neg (by decide), if_pos rfl, if_pos rfl]
        simp only [Bool.and_eq_true] at h1
        obtain ⟨g1, g2⟩ := h1
        simp only [inR, Bool.and_eq_true, decide_eq_true_eq] at g2 h3
        have hd := refDraw_l0 l (by omega) g1 need.toNat (by omega) (by omega) opened ho h2 l.length 0 k ⟨0, 0, []⟩ (by omega) (by simpa using g1) ⟨by decide, by decide, by simp, by simp, List.Pairwise.nil, by decide, by decide⟩ (by omega)
        rw [Int.toNat_of_nonneg (by omega), List.drop_zero] at hd
        refine Eq.trans hd.1 ?_
        have hs : (l.foldl (stepP need.toNat opened) ⟨0, 0, []⟩).cheats.mergeSort (fun x y => decide (x ≤ y)) = (l.foldl (stepP need.toNat opened) ⟨0, 0, []⟩).cheats :=
          List.mergeSort_of_pairwise (hd.2.inc.imp fun h => by simpa using h)
        simp only [endP]
        rw [hs]
end Go.Proofs.YtkghgaifgpgfkaaDoor.PL
end
section
namespace Go.Proofs.YtkghgaifgpgfkaaDoor.PL
open Go.RowKit Go.Proofs.YtkghgaifgpgfkaaDoorW.PrintWords Go.Proofs.YtkghgaifgpgfkaaDoorW.PrintLast Go.Proofs.YtkghgaifgpgfkaaDoorW.PrintMore
set_option linter.unusedVariables false
def upTo (n : Nat) : List Int := (List.range n).map fun i : Nat => (i : Int) + 1
theorem upTo_length (n : Nat) : (upTo n).length = n := by simp [upTo]
theorem upTo_succ (n : Nat) : upTo (n + 1) = upTo n ++ [(n : Int) + 1] := by simp [upTo, List.range_succ]
theorem lots_shuffle (L : Nat) (hL : L < 1000) : ∀ (m : Nat) (k : Nat) (l : List Int) (x : Int), m < k → (m < L ∨ m = 0) → l.length = L → 0 ≤ x → x < 1073741789 → ∃ l', lottery_Lots.l1 k l x (m : Int) = some (l', 0) ∧ l'.Perm l
  | 0, k + 1, l, x, _, _, _, _, _ => by
    refine ⟨l, ?_, List.Perm.refl _⟩
    unfold lottery_Lots.l1
    rw [if_neg (by omega)]
  | m + 1, k + 1, l, x, hk, hm, hl, h0, h1 => by
    have hm' : m + 1 < L := by omega
    unfold lottery_Lots.l1
    rw [if_pos (by omega), times_eq h0 h1 (by omega) (by omega), Option.bind_some, plus_eq (res_lo _) (res_hi _) (by omega) (by omega), Option.bind_some]
    have g0 := res_lo (x * 48271 % 1073741789 + 11)
    have g1 := res_hi (x * 48271 % 1073741789 + 11)
    generalize (x * 48271 % 1073741789 + 11) % 1073741789 = t at g0 g1 ⊢
    have hw : wrap64 (((m + 1 : Nat) : Int) + 1) = ((m + 1 : Nat) : Int) + 1 := w64 (by omega) (by omega)
    have hw2 : wrap64 (((m + 1 : Nat) : Int) - 1) = (m : Int) := by rw [w64 (by omega) (by omega)]; omega
    have e0 : 0 ≤ t.tmod (((m + 1 : Nat) : Int) + 1) := by rw [tmod_pos' g0]; exact Int.emod_nonneg _ (by omega)
    have e1 : t.tmod (((m + 1 : Nat) : Int) + 1) < ((m + 1 : Nat) : Int) + 1 := by rw [tmod_pos' g0]; exact Int.emod_lt_of_pos _ (by omega)
    rw [hw, hw2]
    generalize t.tmod (((m + 1 : Nat) : Int) + 1) = j at e0 e1 ⊢
    rw [if_neg (by omega), if_pos e0, if_pos (by omega), if_pos (by omega), if_pos (by omega)]
    rw [rd_get e0 (by omega), rd_get (show (0 : Int) ≤ ((m + 1 : Nat) : Int) by omega) (by omega)]
    have hp := @List.set_set_perm _ l (((m + 1 : Nat) : Int)).toNat j.toNat (by omega) (by omega)
    refine (lots_shuffle L hL m k _ t ?_ ?_ ?_ g0 g1).imp fun l' h => ⟨h.1, h.2.trans hp⟩
    · omega
    · omega
    · rw [List.length_set, List.length_set]; exact hl
theorem lots_fill (n : Nat) (hn : n ≤ 64) (x : Int) (h0 : 0 ≤ x) (h1 : x < 1073741789) : ∀ (m i k : Nat), i + m = n → n + m + 2 < k → ∃ l, lottery_Lots.l0 k x (n : Int) (upTo i) (n : Int) (i : Int) = some (l, 0) ∧ l.Perm (upTo n)
  | 0, i, k + 1, hi, hk => by
    unfold lottery_Lots.l0
    rw [if_neg (by omega)]
    have hin : i = n := by omega
    subst hin
    by_cases hz : i = 0
    · subst hz
      have hw : wrap64 (((0 : Nat) : Int) - 1) = -1 := by unfold wrap64; omega
      rw [hw]
      cases k with
      | zero => omega
      | succ k =>
        unfold lottery_Lots.l1
        rw [if_neg (by omega)]
        exact ⟨_, rfl, List.Perm.refl _⟩
    · have hw : wrap64 ((i : Int) - 1) = ((i - 1 : Nat) : Int) := by rw [w64 (by omega) (by omega)]; omega
      rw [hw]
      obtain ⟨l', e, p⟩ := lots_shuffle i (by omega) (i - 1) k (upTo i) x (by omega) (by omega) (upTo_length i) h0 h1
      exact ⟨l', e, p⟩
  | m + 1, i, k + 1, hi, hk => by
    unfold lottery_Lots.l0
    have hw : wrap64 ((i : Int) + 1) = ((i + 1 : Nat) : Int) := by rw [w64 (by omega) (by omega)]; omega
    rw [if_pos (by omega), if_pos (by rw [upTo_length]; omega), hw]
    have := lots_fill n hn x h0 h1 m (i + 1) k (by omega) (by omega)
    rw [upTo_succ] at this
    exact this
theorem lots_ok (x : Int) (n : Nat) (hn : n ≤ 64) (h0 : 0 ≤ x) (h1 : x < 1073741789) : ∃ l, lottery_Lots.f 200 x (n : Int) = some (l, 0) ∧ l.Perm (upTo n) := by
  unfold lottery_Lots.f
  rw [isResidue_one, Option.bind_some]
  have hr : isRes x = true := by simp [isRes]; omega
  rw [hr, if_pos rfl, between_in, Option.bind_some]
  have hb : inR (n : Int) 0 64 = true := by simp [inR]; omega
  rw [hb]
  show ∃ l, lottery_Lots.l0 199 x (n : Int) [] (n : Int) 0 = some (l, 0) ∧ l.Perm (upTo n)
  have := lots_fill n hn x h0 h1 n 0 199 (by omega) (by omega)
  exact this
theorem lots_bad (x n : Int) (h : ¬ (0 ≤ x ∧ x < 1073741789 ∧ 0 ≤ n ∧ n ≤ 64)) : lottery_Lots.f 200 x n = some ([], 1) := by
  unfold lottery_Lots.f
  rw [isResidue_one, Option.bind_some]
  by_cases hr : isRes x = true
  · rw [if_pos hr, between_in, Option.bind_some]
    have hb : inR n 0 64 = false := by
      simp only [isRes, inR, Bool.and_eq_true, decide_eq_true_eq, Bool.and_eq_false_iff, decide_eq_false_iff_not] at *
      omega
    rw [hb]
    rfl
  · rw [if_neg hr]
    rfl
end Go.Proofs.YtkghgaifgpgfkaaDoor.PL
end
section
namespace Go.Proofs.YtkghgaifgpgfkaaDoor.PL
open Go.RowKit Go.Proofs.YtkghgaifgpgfkaaDoorW.PrintWords Go.Proofs.YtkghgaifgpgfkaaDoorW.PrintLast Go.Proofs.YtkghgaifgpgfkaaDoorW.PrintMore
open Go.Proofs.YtkghgaifgpgfkaaDoor.LotZ (F U pw inv pd thr Ok ev)
set_option linter.unusedVariables false
set_option linter.unusedSimpArgs false
theorem lots_step {x : Int} (h0 : 0 ≤ x) (h1 : x < 1073741789) : Int.tmod (wrap64 ((wrap64 (48271 * x)) + 11)) 1073741789 = (x * 48271 % 1073741789 + 11) % 1073741789 := by
  rw [w64 (x := 48271 * x) (by omega) (by omega), w64 (by omega) (by omega), tmod_pos' (by omega)]
  omega
theorem lots_l1_eq : ∀ (m k : Nat) (l : List Int) (x : Int), m < 1000 → (m < l.length ∨ m = 0) → 0 ≤ x → x < 1073741789 → lottery_Lots.l1 k l x (m : Int) = cohousingref22_Lots.l1 k l x (m : Int)
  | _, 0, _, _, _, _, _, _ => rfl
  | 0, k + 1, l, x, _, _, _, _ => by
    rw [lottery_Lots.l1, cohousingref22_Lots.l1, if_neg (by omega), if_neg (by omega)]
  | m + 1, k + 1, l, x, hm, hl, h0, h1 => by
    have hl' : m + 1 < l.length := by omega
    rw [lottery_Lots.l1, cohousingref22_Lots.l1, if_pos (by omega), if_pos (by omega), times_eq h0 h1 (by omega) (by omega), Option.bind_some, plus_eq (res_lo _) (res_hi _) (by omega) (by omega), Option.bind_some, lots_step h0 h1]
    have g0 := res_lo (x * 48271 % 1073741789 + 11)
    have g1 := res_hi (x * 48271 % 1073741789 + 11)
    generalize (x * 48271 % 1073741789 + 11) % 1073741789 = t at g0 g1 ⊢
    have hw : wrap64 (((m + 1 : Nat) : Int) + 1) = ((m + 1 : Nat) : Int) + 1 := w64 (by omega) (by omega)
    have hw2 : wrap64 (((m + 1 : Nat) : Int) - 1) = (m : Int) := by rw [w64 (by omega) (by omega)]; omega
    have e0 : 0 ≤ t.tmod (((m + 1 : Nat) : Int) + 1) := by rw [tmod_pos' g0]; exact Int.emod_nonneg _ (by omega)
    have e1 : t.tmod (((m + 1 : Nat) : Int) + 1) < ((m + 1 : Nat) : Int) + 1 := by rw [tmod_pos' g0]; exact Int.emod_lt_of_pos _ (by omega)
    rw [hw, hw2]
    generalize t.tmod (((m + 1 : Nat) : Int) + 1) = j at e0 e1 ⊢
    rw [if_neg (by omega), if_pos e0, if_pos (by omega), if_pos (by omega), if_pos (by omega), if_neg (by omega), if_pos (by omega), if_pos (by omega), if_pos e0, if_pos (by omega)]
    exact lots_l1_eq m k _ t (by omega) (by rw [List.length_set, List.length_set]; omega) g0 g1
theorem lots_l0_eq (n : Nat) (hn : n ≤ 64) (x : Int) (h0 : 0 ≤ x) (h1 : x < 1073741789) : ∀ (m i k : Nat) (l : List Int), i + m = n → l.length = i → lottery_Lots.l0 k x (n : Int) l (n : Int) (i : Int) = cohousingref22_Lots.l0 k x (n : Int) l ((i : Int) + 1)
  | _, _, 0, _, _, _ => rfl
  | 0, i, k + 1, l, e, hl => by
    obtain rfl : i = n := by omega
    rw [lottery_Lots.l0, cohousingref22_Lots.l0, if_neg (by omega), if_neg (by omega)]
    by_cases hz : i = 0
    · subst hz
      have hw : wrap64 (((0 : Nat) : Int) - 1) = -1 := by unfold wrap64; omega
      rw [hw]
      cases k with
      | zero => rfl
      | succ k => rw [lottery_Lots.l1, cohousingref22_Lots.l1, if_neg (by omega), if_neg (by omega)]
    · have hw : wrap64 ((i : Int) - 1) = ((i - 1 : Nat) : Int) := by rw [w64 (by omega) (by omega)]; omega
      rw [hw]
      exact lots_l1_eq (i - 1) k l x (by omega) (by omega) h0 h1
  | m + 1, i, k + 1, l, e, hl => by
    have hw : wrap64 ((i : Int) + 1) = (i : Int) + 1 := w64 (by omega) (by omega)
    have hw2 : wrap64 ((i : Int) + 1 + 1) = ((i + 1 : Nat) : Int) + 1 := by rw [w64 (by omega) (by omega)]; omega
    rw [lottery_Lots.l0, cohousingref22_Lots.l0, if_pos (by omega), if_pos (by omega), if_pos (by omega), if_pos (by omega), hw, hw2]
    exact lots_l0_eq n hn x h0 h1 m (i + 1) k (l ++ [(i : Int) + 1]) (by omega) (by simp; omega)
theorem lots_eq (x n : Int) (k : Nat) : lottery_Lots.f (k + 1) x n = cohousingref22_Lots.f (k + 1) x n := by
  unfold lottery_Lots.f cohousingref22_Lots.f
  rw [isResidue_one, Option.bind_some, residueR_eq, Option.bind_some]
  cases hr : isRes x with
  | false => rw [if_neg (by decide), if_neg (by decide)]; rfl
  | true =>
    rw [if_pos rfl, if_pos rfl, between_in, Option.bind_some, in_eq, Option.bind_some, lottery_Lots.j0, cohousingref22_Lots.j0]
    cases hb : inR n 0 64 with
    | false => rfl
    | true =>
      rw [if_neg (by decide), if_neg (by decide)]
      simp only [isRes, inR, Bool.and_eq_true, decide_eq_true_eq] at hr hb
      obtain ⟨m, rfl⟩ := Int.eq_ofNat_of_zero_le hb.1
      have := lots_l0_eq m (by omega) x (by omega) (by omega) m 0 k [] (by omega) rfl
      exact this
theorem lots_more (x n : Int) (r : List Int × Int) (h : lottery_Lots.f 200 x n = some r) : ∀ d, lottery_Lots.f (200 + d) x n = some r
  | 0 => h
  | d + 1 => lottery_Lots.mono x n (200 + d) r (lots_more x n r h d)
theorem lots_some (x n : Int) (k : Nat) (hk : 200 ≤ k) : ∃ r, lottery_Lots.f k x n = some r ∧ r.1.length ≤ 64 := by
  obtain ⟨d, rfl⟩ : ∃ d, k = 200 + d := ⟨k - 200, by omega⟩
  by_cases h : 0 ≤ x ∧ x < 1073741789 ∧ 0 ≤ n ∧ n ≤ 64
  · obtain ⟨m, rfl⟩ := Int.eq_ofNat_of_zero_le h.2.2.1
    obtain ⟨l, e, p⟩ := lots_ok x m (by omega) h.1 h.2.1
    exact ⟨_, lots_more _ _ _ e d, by show l.length ≤ 64; rw [p.length_eq, upTo_length]; omega⟩
  · exact ⟨_, lots_more _ _ _ (lots_bad x n h) d, by simp⟩
theorem ints_l0 (l : List Int) (hl : l.length ≤ 1000) : ∀ (m i k : Nat), i + m = l.length → m < k → cohousingref22_Ints.l0 k l l (i : Int) = some true
  | 0, i, k + 1, e, _ => by
    rw [cohousingref22_Ints.l0, if_neg (by omega)]
  | m + 1, i, k + 1, e, hk => by
    have hw : wrap64 ((i : Int) + 1) = ((i + 1 : Nat) : Int) := by rw [w64 (by omega) (by omega)]; omega
    rw [cohousingref22_Ints.l0, if_pos (by omega), if_pos (by omega), if_pos (by omega), if_pos rfl, hw]
    exact ints_l0 l hl m (i + 1) k (by omega) (by omega)
theorem ints_same (l : List Int) (hl : l.length ≤ 1000) (k : Nat) (hk : 1000 < k) : cohousingref22_Ints.f k l l = some true := by
  unfold cohousingref22_Ints.f
  rw [if_pos rfl]
  exact ints_l0 l hl l.length 0 k (by omega) (by omega)
theorem same_l0 (a b : Int) (l : List S47) (hl : l.length ≤ 1000) : ∀ (m i k : Nat), i + m = l.length → m < k → cohousingref22_SamePledge.l0 k (i : Int) a b l a b l = some true
  | 0, i, k + 1, e, _ => by
    rw [cohousingref22_SamePledge.l0, if_neg (by omega)]
  | m + 1, i, k + 1, e, hk => by
    have hw : wrap64 ((i : Int) + 1) = ((i + 1 : Nat) : Int) := by rw [w64 (by omega) (by omega)]; omega
    rw [cohousingref22_SamePledge.l0, if_pos (by omega), if_pos (by omega), if_pos (by omega), if_neg (by simp), hw]
    exact same_l0 a b l hl m (i + 1) k (by omega) (by omega)
theorem same_pledge (a b : Int) (l : List S47) (hl : l.length ≤ 1000) (k : Nat) (hk : 1001 < k) : cohousingref22_SamePledge.f k a b l a b l = some true := by
  obtain ⟨k, rfl⟩ : ∃ k', k = k' + 1 := ⟨k - 1, by omega⟩
  unfold cohousingref22_SamePledge.f
  rw [if_pos rfl, if_pos rfl, cohousingref22_SamePledge.j0, if_neg (by simp)]
  exact same_l0 a b l hl l.length 0 k (by omega) (by omega)
theorem addC_length (cs : List Int) (x : Int) : (addC cs x).length ≤ cs.length + 1 := by
  unfold addC
  split
  · omega
  · simp
theorem stepP_length (need : Nat) (opened : List S23) (st : DrawSt) (p : S31) : (stepP need opened st p).cheats.length ≤ st.cheats.length + 1 := by
  have h := addC_length st.cheats p.f0
  unfold stepP
  cases byF opened p.f0 with
  | none =>
    simp only []
    split
    · omega
    · exact h
  | some s =>
    simp only []
    split
    · show (if _ then st.cheats else addC st.cheats p.f0).length ≤ _
      split
      · omega
      · exact h
    · exact h
theorem fold_length (need : Nat) (opened : List S23) : ∀ (l : List S31) (st : DrawSt), (l.foldl (stepP need opened) st).cheats.length ≤ st.cheats.length + l.length
  | [], st => by simp
  | p :: l, st => by
    have h1 := stepP_length need opened st p
    have h2 := fold_length need opened l (stepP need opened st p)
    simp only [List.foldl_cons, List.length_cons]
    omega
theorem drawP_length (l : List S31) (need : Int) (opened : List S23) : (drawP l need opened).2.1.length ≤ l.length := by
  unfold drawP
  split
  · split
    · simp only []
      split
      · simp
      · have := fold_length need.toNat opened l ⟨0, 0, []⟩
        simp only [List.length_mergeSort]
        simpa using this
    · simp
  · simp
theorem deal_both (who v salt : Int) (cs : List Int) (n : Int) (hc : cs.length ≤ 20) (k : Nat) (hk : 3000 ≤ k) : ∃ a b l e, lottery_Deal.f k who v salt cs n = some (a, b, l, e) ∧ cohousingref22_Deal.f k who v salt cs n = some (a, b, l, e) ∧ l.length ≤ 16 := by
  by_cases h : DealV who v salt cs n
  · refine ⟨_, _, _, _, deal_ok h (by omega), refDeal_ok h hk, ?_⟩
    rw [sharesOf_length]
    have := h.1
    omega
  · exact ⟨_, _, _, _, deal_bad h (by omega), refDeal_bad h (by omega) hk, by simp⟩
theorem recover_both (l : List S47) (hl : l.length ≤ 20) (k : Nat) (hk : 1000 ≤ k) : ∃ a b, lottery_Recover.f k l = some (a, b) ∧ cohousingref22_Recover.f k l = some (a, b) := by
  rw [refRecover_eq l hl k hk]
  by_cases h : RecV l
  · exact ⟨_, _, recover_ok h (gOf_at h.pt h.nd) (by omega), recover_ok h (gOf_at h.pt h.nd) (by omega)⟩
  · exact ⟨_, _, recover_bad h k, recover_bad h k⟩
theorem matches_j0 (s0 s1 s2 : Int) (cs : List Int) (n : Int) (shares : List S47) (l : List S31) (need : Int) (opened : List S23) (h1 : cs.length ≤ 20) (h2 : shares.length ≤ 20) (h3 : l.length ≤ 20) (h4 : opened.length ≤ 20) (hw : ∀ p ∈ l, i64B p.f0 = true) (ho : ∀ s ∈ opened, S23ok s) (k : Nat) (hk : 5000 ≤ k) :
    cohousinglaw22_LotteryMatchesReference.j0 (k + 3) cs n shares l need opened true false s0 s1 s2 = some true := by
  obtain ⟨a, b, shs, e, d1, d2, d3⟩ := deal_both s0 s1 s2 cs n h1 (k + 2) (by omega)
  obtain ⟨ra, re, r1, r2⟩ := recover_both shares h2 (k + 1) (by omega)
  have w1 := draw_ok h3 hw (need := need) ho (k := k) (by omega)
  have w2 := refDraw_eq h3 (need := need) h4 (k := k) (by omega)
  have w3 := drawP_length l need opened
  obtain ⟨lo, l1, l2⟩ := lots_some s1 n k (by omega)
  have l3 : cohousingref22_Lots.f k s1 n = some lo := by
    obtain ⟨k', rfl⟩ : ∃ k', k = k' + 1 := ⟨k - 1, by omega⟩
    rw [← lots_eq]; exact l1
  rw [cohousinglaw22_LotteryMatchesReference.j0, if_neg (by decide), d1, Option.bind_some, d2, Option.bind_some, if_pos rfl, same_pledge a b shs (by omega) (k + 2) (by omega), Option.bind_some, if_pos rfl]
  rw [cohousinglaw22_LotteryMatchesReference.j1, r1, Option.bind_some, r2, Option.bind_some, if_pos (by simp), if_pos rfl]
  rw [cohousinglaw22_LotteryMatchesReference.j2, w1, Option.bind_some, w2, Option.bind_some, if_pos (by simp), if_pos rfl, ints_same _ (by omega) k (by omega), Option.bind_some, if_pos rfl, l1, Option.bind_some, l3, Option.bind_some, if_pos rfl, ints_same _ (by omega) k (by omega), Option.bind_some, if_pos rfl]
  simp
theorem LotteryMatchesReference_pure (s0 s1 s2 : Int) (cs : List Int) (n : Int) (shares : List S47) (l : List S31) (need : Int) (opened : List S23) (hw : ∀ p ∈ l, i64B p.f0 = true) (ho : ∀ s ∈ opened, S23ok s) :
    ∃ k, cohousinglaw22_LotteryMatchesReference.f k s0 s1 s2 cs n shares l need opened = some true := by
  refine ⟨5000 + 3, ?_⟩
  have hj : ∀ x, cohousinglaw22_LotteryMatchesReference.j0 (5000 + 3) cs n shares l need opened true true s0 s1 s2 = x → cohousinglaw22_LotteryMatchesReference.j0 (5000 + 3) cs n shares l need opened true true s0 s1 s2 = some true := fun _ _ => by
    rw [cohousinglaw22_LotteryMatchesReference.j0, if_pos rfl]
  unfold cohousinglaw22_LotteryMatchesReference.f
  rw [show cohousinglaw22_head.f = some true from rfl, Option.bind_some]
  by_cases h1 : (cs.length : Int) > 20
  · rw [if_pos h1]; exact hj _ rfl
  · rw [if_neg h1]
    by_cases h2 : (shares.length : Int) > 20
    · rw [if_pos h2]; exact hj _ rfl
    · rw [if_neg h2]
      by_cases h3 : (l.length : Int) > 20
      · rw [if_pos h3]; exact hj _ rfl
      · rw [if_neg h3]
        by_cases h4 : (opened.length : Int) > 20
        · rw [decide_eq_true h4]; exact hj _ rfl
        · rw [decide_eq_false h4]
          exact matches_j0 s0 s1 s2 cs n shares l need opened (by omega) (by omega) (by omega) (by omega) hw ho 5000 (by omega)
end Go.Proofs.YtkghgaifgpgfkaaDoor.PL
end
