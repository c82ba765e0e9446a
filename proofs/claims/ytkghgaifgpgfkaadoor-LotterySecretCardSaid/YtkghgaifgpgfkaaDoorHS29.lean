/- Lemmas and walks for lotterySecretCard_holds (part 29), without what it does not use. -/
import Derived.Test.YtkghgaifgpgfkaaDoorHS28
section
namespace Go.Proofs.YtkghgaifgpgfkaaDoor.PL
open Go.RowKit Go.Proofs.YtkghgaifgpgfkaaDoorW.PrintWords Go.Proofs.YtkghgaifgpgfkaaDoorW.PrintLast Go.Proofs.YtkghgaifgpgfkaaDoorW.PrintMore
open Go.Proofs.YtkghgaifgpgfkaaDoor.LotZ (F U pw inv pd thr Ok ev)
set_option linter.unusedVariables false
def sh (p : F × F) : S47 := ⟨ofF p.1, ofF p.2⟩
def skip (i : Nat) : Nat → List (F × F) → List (F × F)
  | _, [] => []
  | j, p :: r => if j = i then skip i (j + 1) r else p :: skip i (j + 1) r
theorem foldl_times : ∀ (l : List F) (v : F), (l.map ofF).foldl timesW (ofF v) = ofF (l.foldl (· * ·) v)
  | [], v => rfl
  | a :: l, v => by
    simp only [List.map_cons, List.foldl_cons, timesW_F]
    exact foldl_times l _
theorem foldl_plus : ∀ (l : List F) (v : F), (l.map ofF).foldl plusW (ofF v) = ofF (l.foldl (· + ·) v)
  | [], v => rfl
  | a :: l, v => by
    simp only [List.map_cons, List.foldl_cons, plusW_F]
    exact foldl_plus l _
theorem rd_sh (L : List (F × F)) (i : Nat) (h : i < L.length) : rd_T47 (L.map sh) (i : Int) = sh L[i] := by
  rw [rd47_at (L.map sh) i (by simpa using h), List.getElem_map]
def part (X a v : F) (os : List (F × F)) : F := (os.map fun p => X - p.1).foldl (· * ·) v * inv ((os.map fun p => a - p.1).foldl (· * ·) 1)
theorem inner_ok (L : List (F × F)) (hL : L.length ≤ 16) (X a v : F) (parts : List Int) (hparts : parts.length ≤ 16) (i : Nat) (hi : i < L.length) : ∀ (r : List (F × F)) (j : Nat) (k' : Nat) (os : List (F × F)), L.drop j = r → j ≤ L.length → os.length ≤ j → 30 < k' →
    lottery_through.l1 (k' + r.length + 1) (L.map sh) (ofF X) parts (i : Int) (os.map fun p => ofF (X - p.1)) (os.map fun p => ofF (a - p.1)) (L.map sh) (L.length : Int) (i : Int) (L.map sh) (L.length : Int) (j : Int) (ofF a) (ofF v) =
    lottery_through.l0 k' (L.map sh) (ofF X) (parts ++ [ofF (part X a v (os ++ skip i j r))]) (L.map sh) (L.length : Int) ((i + 1 : Nat) : Int)
  | [], j, k', os, hr, hj, hos, hk => by
    have hjl : j = L.length := by
      have := congrArg List.length hr
      simp at this
      omega
    rw [show k' + ([] : List (F × F)).length + 1 = k' + 1 from rfl, lottery_through.l1]
    have e1 : (os.map fun p => ofF (X - p.1)) = (os.map fun p => X - p.1).map ofF := by simp
    have e2 : (os.map fun p => ofF (a - p.1)) = (os.map fun p => a - p.1).map ofF := by simp
    have hw : wrap64 ((i : Int) + 1) = ((i + 1 : Nat) : Int) := by rw [w64 (by omega) (by omega)]; omega
    rw [if_neg (by omega), e1, e2, fold_times.f, fold_times.f, foldl_times, show (1 : Int) = ofF 1 from ofF_one.symm, foldl_times]
    simp only [Option.bind_some]
    rw [inverse_F _ k' hk, Option.bind_some, times_F, Option.bind_some, if_pos (by omega), ofF_one, hw]
    simp only [skip, List.append_nil]
    rfl
  | p :: r, j, k', os, hr, hj, hos, hk => by
    have hjl : j < L.length := by
      have := congrArg List.length hr
      simp at this
      omega
    have hp : L[j] = p ∧ L.drop (j + 1) = r := by
      rw [List.drop_eq_getElem_cons hjl] at hr
      injection hr with h1 h2
      exact ⟨h1, h2⟩
    have hw : wrap64 ((j : Int) + 1) = ((j + 1 : Nat) : Int) := by rw [w64 (by omega) (by omega)]; omega
    rw [show k' + (p :: r).length + 1 = (k' + r.length + 1) + 1 from rfl, lottery_through.l1]
    rw [if_pos (by omega), if_pos (by omega), if_pos (by rw [List.length_map]; omega), rd_sh L j hjl, hp.1, hw]
    by_cases hji : j = i
    · rw [if_pos (by omega)]
      rw [inner_ok L hL X a v parts hparts i hi r (j + 1) k' os hp.2 (by omega) (by omega) hk]
      simp only [skip, if_pos hji]
    · rw [if_neg (by omega)]
      show (lottery_residue_minus.f (ofF X) (ofF p.1)).bind _ = _
      rw [minus_F, Option.bind_some, if_pos (by rw [List.length_map]; omega)]
      show (lottery_residue_minus.f (ofF a) (ofF p.1)).bind _ = _
      rw [minus_F, Option.bind_some, if_pos (by rw [List.length_map]; omega)]
      have := inner_ok L hL X a v parts hparts i hi r (j + 1) k' (os ++ [p]) hp.2 (by omega) (by simp; omega) hk
      simp only [List.map_append, List.map_cons, List.map_nil] at this
      rw [this]
      simp only [skip, if_neg hji, List.append_assoc, List.singleton_append]
theorem skip_all (i : Nat) : ∀ (r : List (F × F)) (j : Nat), i < j → skip i j r = r
  | [], _, _ => rfl
  | p :: r, j, h => by
    simp only [skip]
    rw [if_neg (by omega), skip_all i r (j + 1) (by omega)]
theorem skip_mid : ∀ (done : List (F × F)) (p : F × F) (rest : List (F × F)) (j : Nat), skip (j + done.length) j (done ++ p :: rest) = done ++ rest
  | [], p, rest, j => by
    simp only [List.nil_append, skip, List.length_nil, Nat.add_zero, if_true]
    exact skip_all j rest (j + 1) (by omega)
  | q :: done, p, rest, j => by
    simp only [List.cons_append, skip, List.length_cons]
    rw [if_neg (by omega), show j + (done.length + 1) = (j + 1) + done.length by omega, skip_mid done p rest (j + 1)]
def ts (X : F) : List (F × F) → List (F × F) → List F
  | _, [] => []
  | done, p :: rest => part X p.1 p.2 (done ++ rest) :: ts X (done ++ [p]) rest
theorem outer_ok (X : F) : ∀ (rest done : List (F × F)) (parts : List F) (k : Nat), done.length + rest.length ≤ 16 → parts.length ≤ done.length → rest.length * (done.length + rest.length + 3) + 40 < k →
    lottery_through.l0 k ((done ++ rest).map sh) (ofF X) (parts.map ofF) ((done ++ rest).map sh) ((done ++ rest).length : Int) (done.length : Int) = some (ofF ((parts ++ ts X done rest).foldl (· + ·) 0))
  | [], done, parts, k + 1, h, hp, hk => by
    rw [lottery_through.l0, if_neg (by simp), fold_plus.f, show (0 : Int) = ofF 0 from ofF_zero.symm, foldl_plus]
    simp only [Option.bind_some, ts, List.append_nil]
  | p :: rest, done, parts, k + 1, h, hp, hk => by
    have hlen : (done ++ p :: rest).length = done.length + rest.length + 1 := by simp; omega
    rw [lottery_through.l0, if_pos (by rw [hlen]; omega), if_pos (by omega), if_pos (by rw [List.length_map, hlen]; omega), rd_sh _ done.length (by rw [hlen]; omega)]
    have hget : (done ++ p :: rest)[done.length]'(by rw [hlen]; omega) = p := by simp
    rw [hget]
    simp only [List.length_cons] at h hk
    have hk2 : (done.length + rest.length + 1) + 31 < k := by
      have : (rest.length + 1) * (done.length + (rest.length + 1) + 3) = rest.length * (done.length + (rest.length + 1) + 3) + (done.length + (rest.length + 1) + 3) := by rw [Nat.succ_mul]
      omega
    obtain ⟨k', rfl⟩ : ∃ k', k = k' + (done ++ p :: rest).length + 1 := ⟨k - (done.length + rest.length + 1) - 1, by rw [hlen]; omega⟩
    have hin := inner_ok (done ++ p :: rest) (by rw [hlen]; omega) X p.1 p.2 (parts.map ofF) (by rw [List.length_map]; omega) done.length (by rw [hlen]; omega) (done ++ p :: rest) 0 k' [] rfl (by omega) (by simp) (by rw [hlen] at hk2; omega)
    simp only [List.map_nil, List.nil_append] at hin
    have hsk := skip_mid done p rest 0
    rw [Nat.zero_add] at hsk
    rw [hsk] at hin
    rw [show ((done ++ p :: rest).map sh).length = (done ++ p :: rest).length from List.length_map _]
    refine Eq.trans hin ?_
    have e1 : (parts.map ofF ++ [ofF (part X p.1 p.2 (done ++ rest))]) = (parts ++ [part X p.1 p.2 (done ++ rest)]).map ofF := by simp
    have e2 : done ++ p :: rest = (done ++ [p]) ++ rest := by simp
    have e3 : ((done.length + 1 : Nat) : Int) = ((done ++ [p]).length : Int) := by simp
    rw [e1, e3]
    have hrec := outer_ok X rest (done ++ [p]) (parts ++ [part X p.1 p.2 (done ++ rest)]) k' (by simp; omega) (by simp; omega) (by
      rw [hlen] at hk
      simp only [List.length_append, List.length_singleton]
      have : (rest.length + 1) * (done.length + (rest.length + 1) + 3) = rest.length * (done.length + 1 + rest.length + 3) + (done.length + (rest.length + 1) + 3) := by rw [Nat.succ_mul]; congr 2; omega
      omega)
    rw [← e2] at hrec
    rw [hrec]
    simp only [ts, List.append_assoc, List.singleton_append]
theorem foldl_add : ∀ (l : List F) (a : F), l.foldl (· + ·) a = a + l.foldl (· + ·) 0
  | [], a => by simp only [List.foldl_nil]; grind
  | b :: l, a => by
    simp only [List.foldl_cons]
    rw [foldl_add l (a + b), foldl_add l (0 + b)]
    grind
theorem foldl_mul : ∀ (l : List (F × F)) (x v : F), (l.map fun p => x - p.1).foldl (· * ·) v = v * pd x (l.map (·.1))
  | [], x, v => by simp only [List.map_nil, List.foldl_nil, LotZ.pd]; grind
  | p :: l, x, v => by
    simp only [List.map_cons, List.foldl_cons, LotZ.pd]
    rw [foldl_mul l x (v * (x - p.1))]
    grind
theorem part_eq (X a v : F) (os : List (F × F)) : part X a v os = v * pd X (os.map (·.1)) * inv (pd a (os.map (·.1))) := by
  unfold part
  rw [foldl_mul, foldl_mul]
  congr 2
  exact one_mul_F _
theorem ts_sum (X : F) (g : F → F) : ∀ (rest done : List (F × F)), (∀ p ∈ rest, g p.1 = p.2) → (ts X done rest).foldl (· + ·) 0 = pd X (done.map (·.1)) * thr (rest.map (·.1)) (fun p => g p * inv (pd p (done.map (·.1)))) X
  | [], done, _ => by simp only [ts, List.foldl_nil, List.map_nil, LotZ.thr]; grind
  | p :: rest, done, h => by
    simp only [ts, List.foldl_cons, List.map_cons, LotZ.thr]
    rw [foldl_add, ts_sum X g rest (done ++ [p]) (fun q hq => h q (List.mem_cons_of_mem _ hq)), part_eq, h p List.mem_cons_self]
    simp only [List.map_append, List.map_cons, List.map_nil, LotZ.pd_append, LotZ.inv_prod]
    rw [LotZ.thr_congr (l := rest.map (·.1)) (f := fun q => g q * (inv (pd q (done.map (·.1))) * inv (pd q [p.1]))) (g := fun q => g q * inv (pd q (done.map (·.1))) * inv (q - p.1)) (fun q _ => by
      show _ * (_ * inv ((q - p.1) * 1)) = _
      rw [show (q - p.1) * 1 = q - p.1 by grind]
      grind)]
    show _ = _ * (_ * (pd X (rest.map (·.1)) * inv (pd p.1 (rest.map (·.1)))) + _)
    rw [show pd X [p.1] = X - p.1 by simp only [LotZ.pd]; grind]
    grind
theorem through_ok (L : List (F × F)) (hL : L.length ≤ 16) (X : F) (g : F → F) (hg : ∀ p ∈ L, g p.1 = p.2) (k : Nat) (hk : 400 ≤ k) : lottery_through.f k (L.map sh) (ofF X) = some (ofF (thr (L.map (·.1)) g X)) := by
  unfold lottery_through.f
  have h1 : L.length * (L.length + 3) ≤ 16 * 19 := Nat.mul_le_mul (by omega) (by omega)
  have := outer_ok X L [] [] k (by simpa using hL) (by simp) (by simp only [List.length_nil, Nat.zero_add]; omega)
  simp only [List.nil_append, List.map_nil, List.length_nil] at this
  rw [List.length_map]
  refine Eq.trans this ?_
  congr 2
  rw [ts_sum X g L [] hg]
  simp only [List.map_nil, LotZ.pd]
  rw [LotZ.thr_congr (g := g) (fun p _ => by rw [LotZ.inv_one]; grind)]
  exact one_mul_F _
end Go.Proofs.YtkghgaifgpgfkaaDoor.PL
end
