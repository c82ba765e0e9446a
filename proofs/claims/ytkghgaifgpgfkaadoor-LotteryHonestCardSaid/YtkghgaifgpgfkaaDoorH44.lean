/- Lemmas and walks for lotteryHonestCard_holds (part 44), without what it does not use. -/
import Derived.Test.YtkghgaifgpgfkaaDoorH38
import Derived.Test.YtkghgaifgpgfkaaDoorH43
section
namespace Go.Proofs.YtkghgaifgpgfkaaDoor.PL
open Go.RowKit Go.Proofs.YtkghgaifgpgfkaaDoorW.PrintWords Go.Proofs.YtkghgaifgpgfkaaDoorW.PrintLast Go.Proofs.YtkghgaifgpgfkaaDoorW.PrintMore
open Go.Proofs.YtkghgaifgpgfkaaDoor.LotZ (F U pw inv pd thr Ok ev)
set_option linter.unusedVariables false
def dop (l : List S58) : Nat → List S23 → List S23
  | 0, acc => acc
  | m + 1, acc => dop l m (if (rd_T58 l (m : Int)).f3 = true then acc ++ [secOf m (rd_T58 l (m : Int))] else acc)
def dsum (l : List S58) : Nat → Int → Int
  | 0, a => a
  | m + 1, a => dsum l m (plusW a (valOf (rd_T58 l (m : Int))))
theorem byF_dop (l : List S58) : ∀ (m : Nat) (acc : List S23) (i : Nat), (∀ t ∈ acc, (m : Int) + 1 ≤ t.f0) → byF (dop l m acc) ((i : Int) + 1) = if i < m then (if (rd_T58 l (i : Int)).f3 = true then some (secOf i (rd_T58 l (i : Int))) else none) else byF acc ((i : Int) + 1)
  | 0, acc, i, _ => by rw [if_neg (by omega)]; rfl
  | m + 1, acc, i, h => by
    have hacc : byF acc ((m : Int) + 1) = none := byF_out (fun t ht e => by have := h t ht; omega)
    have h' : ∀ t ∈ (if (rd_T58 l (m : Int)).f3 = true then acc ++ [secOf m (rd_T58 l (m : Int))] else acc), (m : Int) + 1 ≤ t.f0 := by
      intro t ht
      split at ht
      · rcases List.mem_append.1 ht with ht | ht
        · have := h t ht; omega
        · rw [List.mem_singleton.1 ht]
          exact Int.le_refl _
      · have := h t ht; omega
    show byF (dop l m _) _ = _
    rw [byF_dop l m _ i h']
    by_cases hi : i < m
    · rw [if_pos hi, if_pos (show i < m + 1 by omega)]
    · rw [if_neg hi]
      by_cases hm : i = m
      · subst hm
        rw [if_pos (show i < i + 1 by omega)]
        cases h3 : (rd_T58 l (i : Int)).f3 with
        | true =>
          rw [if_pos rfl, if_pos rfl, byF_snoc]
          exact if_pos (show (i : Int) + 1 = (secOf i (rd_T58 l (i : Int))).f0 from rfl)
        | false =>
          rw [if_neg (by decide), if_neg (by decide), hacc]
      · rw [if_neg (show ¬ i < m + 1 by omega)]
        cases h3 : (rd_T58 l (m : Int)).f3 with
        | true =>
          rw [if_pos rfl, byF_snoc]
          exact if_neg (fun e => hm (by have : (i : Int) + 1 = (m : Int) + 1 := e; omega))
        | false => rw [if_neg (by decide)]
theorem dop_mem (l : List S58) : ∀ (m : Nat) (acc : List S23), ∀ t ∈ dop l m acc, t ∈ acc ∨ ∃ i, i < m ∧ t = secOf i (rd_T58 l (i : Int))
  | 0, acc, t, h => .inl h
  | m + 1, acc, t, h => by
    rcases dop_mem l m _ t h with h | ⟨i, hi, e⟩
    · split at h
      · rcases List.mem_append.1 h with h | h
        · exact .inl h
        · exact .inr ⟨m, by omega, List.mem_singleton.1 h⟩
      · exact .inl h
    · exact .inr ⟨i, by omega, e⟩
theorem dop_nd (l : List S58) : ∀ (m : Nat) (acc : List S23), (∀ t ∈ acc, (m : Int) + 1 ≤ t.f0) → (acc.map (·.f0)).Nodup → ((dop l m acc).map (·.f0)).Nodup
  | 0, acc, _, h => h
  | m + 1, acc, h, hn => by
    refine dop_nd l m _ (fun t ht => ?_) ?_
    · split at ht
      · rcases List.mem_append.1 ht with ht | ht
        · have := h t ht; omega
        · rw [List.mem_singleton.1 ht]
          exact Int.le_refl _
      · have := h t ht; omega
    · split
      · rw [List.map_append, List.nodup_append]
        refine ⟨hn, by simp, fun a ha b hb e => ?_⟩
        obtain ⟨t, ht, rfl⟩ := List.mem_map.1 ha
        have := h t ht
        simp only [List.map_cons, List.map_nil, List.mem_singleton] at hb
        rw [hb] at e
        have : t.f0 = (m : Int) + 1 := e
        omega
      · exact hn
def cntN (b : Nat → Bool) : Nat → Int
  | 0 => 0
  | m + 1 => cntN b m + (if b m = true then 1 else 0)
theorem cnt_N (b : Nat → Bool) : ∀ (l : List S58) (s : Nat), cnt b s l = cntN b (s + l.length) - cntN b s
  | [], s => by simp [cnt]
  | x :: l, s => by
    simp only [cnt, cnt_N b l (s + 1), List.length_cons]
    rw [show s + 1 + l.length = s + (l.length + 1) by omega]
    simp only [cntN]
    omega
theorem dop_len (l : List S58) : ∀ (m : Nat) (acc : List S23), ((dop l m acc).length : Int) = acc.length + cntN (fun j => (rd_T58 l (j : Int)).f3) m
  | 0, acc => by simp [dop, cntN]
  | m + 1, acc => by
    show ((dop l m _).length : Int) = _
    rw [dop_len l m]
    simp only [cntN]
    split
    · simp only [List.length_append, List.length_singleton]
      omega
    · omega
theorem opens_of (opened : List S23) (b : Nat → Bool) : ∀ (l : List S58) (s : Nat), (∀ (i : Nat) (h : i < l.length), byF opened (((s + i : Nat) : Int) + 1) = if b (s + i) = true then some (secOf (s + i) l[i]) else none) → Opens opened b s l
  | [], _, _ => trivial
  | x :: l, s, h => by
    refine ⟨?_, opens_of opened b l (s + 1) fun i hi => ?_⟩
    · have := h 0 (by simp)
      simpa using this
    · have := h (i + 1) (by simpa using hi)
      rw [show s + (i + 1) = s + 1 + i by omega] at this
      simpa using this
theorem rd23_secs : ∀ (l : List S58) (s i : Nat) (h : i < l.length), (secs s l)[i]'(by rw [secs_length]; exact h) = secOf (s + i) l[i]
  | x :: l, s, 0, _ => rfl
  | x :: l, s, i + 1, h => by
    simp only [secs, List.getElem_cons_succ]
    rw [rd23_secs l (s + 1) i (by simpa using h), show s + 1 + i = s + (i + 1) by omega]
def fv (x : S58) : F := toF (valOf x)
theorem fv_val (x : S58) : ofF (fv x) = valOf x := ofF_toF (res_lo _) (res_hi _)
theorem fold_vals (l : List S58) : (l.map valOf).foldl plusW 0 = ofF ((l.map fv).foldl (· + ·) 0) := by
  have e : l.map valOf = (l.map fv).map ofF := by rw [List.map_map]; exact List.map_congr_left fun x _ => (fv_val x).symm
  rw [e, show (0 : Int) = ofF 0 from ofF_zero.symm, foldl_plus]
theorem dsum_eq (l : List S58) : ∀ (m : Nat) (a : F), m ≤ l.length → dsum l m (ofF a) = ofF (a + ((l.take m).map fv).foldl (· + ·) 0)
  | 0, a, _ => by
    show ofF a = ofF (a + 0)
    congr 1
    grind
  | m + 1, a, h => by
    have hm : m < l.length := by omega
    show dsum l m (plusW (ofF a) (valOf (rd_T58 l (m : Int)))) = _
    rw [← fv_val, plusW_F, dsum_eq l m _ (by omega), List.take_succ_eq_append_getElem hm, List.map_append, List.foldl_append, rd58_at l m hm]
    congr 1
    simp only [List.map_cons, List.map_nil, List.foldl_cons, List.foldl_nil]
    grind
theorem honest_l0 (l : List S58) (hl : l.length ≤ 16) (need : Int) (P : List S31) (k : Nat) : ∀ (m : Nat) (sum : Int) (acc : List S23), m ≤ l.length → acc.length + m ≤ 16 →
    cohousinglaw22_LotteryHonest.l0 (k + m) l need true P (secs 0 l) sum acc ((m : Int) - 1) = cohousinglaw22_LotteryHonest.l0 k l need true P (secs 0 l) (dsum l m sum) (dop l m acc) (-1)
  | 0, sum, acc, _, _ => rfl
  | m + 1, sum, acc, hm, ha => by
    have hS : (secs 0 l).length = l.length := secs_length l 0
    have hi : ((m + 1 : Nat) : Int) - 1 = (m : Int) := by omega
    have hw : wrap64 ((m : Int) - 1) = (m : Int) - 1 := w64 (by omega) (by omega)
    have hrd : rd_T23 (secs 0 l) (m : Int) = secOf m (rd_T58 l (m : Int)) := by
      rw [rd23_at (secs 0 l) m (by omega), rd23_secs l 0 m (by omega), rd58_at l m (by omega), Nat.zero_add]
    rw [hi, show k + (m + 1) = (k + m) + 1 from rfl, cohousinglaw22_LotteryHonest.l0, if_pos (by omega), if_pos (by omega), if_pos (by omega), if_pos (by omega), hrd, hw]
    have e1 : Int.tmod (wrap64 (sum + (secOf m (rd_T58 l (m : Int))).f1)) 1073741789 = plusW sum (valOf (rd_T58 l (m : Int))) := rfl
    rw [e1]
    show _ = cohousinglaw22_LotteryHonest.l0 k l need true P (secs 0 l) (dsum l m (plusW sum (valOf (rd_T58 l (m : Int))))) (dop l m (if (rd_T58 l (m : Int)).f3 = true then acc ++ [secOf m (rd_T58 l (m : Int))] else acc)) (-1)
    cases h3 : (rd_T58 l (m : Int)).f3 with
    | true =>
      rw [if_pos rfl, if_pos (by omega), if_pos rfl]
      exact honest_l0 l hl need P k m _ _ (by omega) (by simp; omega)
    | false =>
      rw [if_neg (by decide), if_neg (by decide)]
      exact honest_l0 l hl need P k m _ _ (by omega) (by omega)
theorem secs_nd : ∀ (l : List S58) (s : Nat), ((secs s l).map (·.f0)).Nodup
  | [], _ => List.nodup_nil
  | x :: l, s => by
    simp only [secs, List.map_cons, List.nodup_cons]
    refine ⟨fun hm => ?_, secs_nd l (s + 1)⟩
    obtain ⟨t, ht, e⟩ := List.mem_map.1 hm
    have := secs_ge l (s + 1) t ht
    have e' : t.f0 = (s : Int) + 1 := e
    omega
theorem secs_mem : ∀ (l : List S58) (s : Nat), ∀ t ∈ secs s l, ∃ i x, i < s + l.length ∧ t = secOf i x
  | x :: l, s, t, h => by
    simp only [secs, List.mem_cons] at h
    simp only [List.length_cons]
    rcases h with rfl | h
    · exact ⟨s, x, by omega, rfl⟩
    · obtain ⟨i, y, hi, e⟩ := secs_mem l (s + 1) t h
      exact ⟨i, y, by omega, e⟩
theorem secOf_i64 (i : Nat) (hi : i < 100) (x : S58) : S23ok (secOf i x) := by
  have h0 := res_lo x.f0; have h1 := res_hi x.f0; have h2 := res_lo x.f1; have h3 := res_hi x.f1
  refine ⟨?_, ?_, ?_⟩
  · show i64B ((i : Int) + 1) = true
    simp only [i64B, Bool.and_eq_true, decide_eq_true_eq]; omega
  · show i64B (x.f0 % 1073741789) = true
    simp only [i64B, Bool.and_eq_true, decide_eq_true_eq]; omega
  · show i64B (x.f1 % 1073741789) = true
    simp only [i64B, Bool.and_eq_true, decide_eq_true_eq]; omega
theorem pls_who (n m : Nat) : ∀ (l : List S58) (s : Nat), s + l.length < 100 → ∀ p ∈ pls n m s l, i64B p.f0 = true
  | x :: l, s, hs, p, h => by
    simp only [pls, List.mem_cons] at h
    simp only [List.length_cons] at hs
    rcases h with rfl | h
    · show i64B ((s : Int) + 1) = true
      simp only [i64B, Bool.and_eq_true, decide_eq_true_eq]; omega
    · exact pls_who n m l (s + 1) (by omega) p h
theorem drawP_honest (l : List S58) (hl : l.length ≤ 16) (m : Nat) (hm : m < l.length) (opened : List S23) (b : Nat → Bool) (h1 : openOK (l.length : Int) [] opened = true) (h2 : Opens opened b 0 l) :
    drawP (pls l.length m 0 l) ((m + 1 : Nat) : Int) opened = if cnt b 0 l < ((m + 1 : Nat) : Int) then (0, [], 33) else (ofF ((l.map fv).foldl (· + ·) 0), [], 0) := by
  have hp := pls_length l.length m l 0
  unfold drawP
  rw [hp]
  have hc : (pledgesOK l.length 0 (pls l.length m 0 l) && inR (l.length : Int) 1 16 && inR ((m + 1 : Nat) : Int) 1 (l.length : Int)) = true := by
    rw [pls_ok l.length m hl l 0]
    simp only [inR, Bool.true_and, Bool.and_eq_true, decide_eq_true_eq]
    omega
  rw [if_pos hc, if_pos h1, Int.toNat_natCast, fold_honest l.length m hl hm opened b l 0 0 0 h2, fold_vals]
  simp only [Int.zero_add, List.mergeSort_nil]
theorem LotteryHonest_pure (l : List S58) (need : Int) (ho : ∀ x ∈ l, S58ok x) : ∃ k, cohousinglaw22_LotteryHonest.f k l need = some true := by
  refine ⟨2000, ?_⟩
  unfold cohousinglaw22_LotteryHonest.f
  rw [show cohousinglaw22_head.f = some true from rfl, Option.bind_some]
  have hj : cohousinglaw22_LotteryHonest.j0 2000 l need true true = some true := rfl
  by_cases g1 : (l.length : Int) < 1
  · rw [if_pos g1, hj]
  rw [if_neg g1]
  by_cases g2 : (l.length : Int) > 16
  · rw [if_pos g2, hj]
  rw [if_neg g2]
  by_cases g3 : need < 1
  · rw [if_pos g3, hj]
  rw [if_neg g3]
  by_cases g4 : need > (l.length : Int)
  · rw [decide_eq_true g4, hj]
  rw [decide_eq_false g4]
  obtain ⟨m, rfl⟩ : ∃ m : Nat, need = ((m + 1 : Nat) : Int) := ⟨(need - 1).toNat, by omega⟩
  have hm : m < l.length := by omega
  have hl : l.length ≤ 16 := by omega
  show cohousinglaw22_LotteryHonest.j0 (1999 + 1) l _ true false = some true
  rw [cohousinglaw22_LotteryHonest.j0, if_neg (by decide), dealt_ok l hl m hm ho 1999 (by omega), Option.bind_some, if_pos rfl]
  have hw : wrap64 ((l.length : Int) - 1) = (l.length : Int) - 1 := w64 (by omega) (by omega)
  obtain ⟨k, hk⟩ : ∃ k, 1999 = (k + 1) + l.length := ⟨1998 - l.length, by omega⟩
  have hk2 : 1900 < k := by omega
  show cohousinglaw22_LotteryHonest.l0 1999 l _ true (pls l.length m 0 l) (secs 0 l) 0 [] (wrap64 ((l.length : Int) - 1)) = some true
  rw [hw, hk, honest_l0 l hl _ _ (k + 1) l.length 0 [] (Nat.le_refl _) (by simp; omega), cohousinglaw22_LotteryHonest.l0, if_neg (by decide)]
  have hP := pls_length l.length m l 0
  have hwho := pls_who l.length m l 0 (by omega)
  have hmem : ∀ t ∈ dop l l.length [], ∃ i, i < l.length ∧ t = secOf i (rd_T58 l (i : Int)) := fun t ht => by
    rcases dop_mem l l.length [] t ht with h | h
    · cases h
    · exact h
  have hs1 : ∀ t ∈ secs 0 l, S23ok t := fun t ht => by
    obtain ⟨i, x, hi, rfl⟩ := secs_mem l 0 t ht
    exact secOf_i64 i (by omega) x
  have hs2 : ∀ t ∈ dop l l.length [], S23ok t := fun t ht => by
    obtain ⟨i, hi, rfl⟩ := hmem t ht
    exact secOf_i64 i (by omega) _
  rw [draw_ok (by omega) hwho hs1 (by omega), Option.bind_some, draw_ok (by omega) hwho hs2 (by omega), Option.bind_some]
  have o1 : openOK (l.length : Int) [] (secs 0 l) = true := openOK_of _ _ _ (fun t ht => by
    obtain ⟨i, x, hi, rfl⟩ := secs_mem l 0 t ht
    exact secOf_ok (by omega) x) (secs_nd l 0) (by simp)
  have o2 : openOK (l.length : Int) [] (dop l l.length []) = true := openOK_of _ _ _ (fun t ht => by
    obtain ⟨i, hi, rfl⟩ := hmem t ht
    exact secOf_ok hi _) (dop_nd l l.length [] (by simp) List.nodup_nil) (by simp)
  have p1 : Opens (secs 0 l) (fun _ => true) 0 l := opens_all l 0 [] (by simp)
  have p2 : Opens (dop l l.length []) (fun j => (rd_T58 l (j : Int)).f3) 0 l := opens_of _ _ l 0 fun i hi => by
    rw [Nat.zero_add, byF_dop l l.length [] i (by simp), if_pos hi]
    simp only [rd58_at l i hi]
  have c1 : cnt (fun _ => true) 0 l = (l.length : Int) := cnt_all l 0
  have c2 : cnt (fun j => (rd_T58 l (j : Int)).f3) 0 l = ((dop l l.length []).length : Int) := by
    rw [cnt_N, dop_len]
    simp [cntN]
  rw [drawP_honest l hl m hm _ _ o1 p1, drawP_honest l hl m hm _ _ o2 p2, c1, c2, if_neg (show ¬ (l.length : Int) < ((m + 1 : Nat) : Int) by omega)]
  have hsum : dsum l l.length 0 = ofF ((l.map fv).foldl (· + ·) 0) := by
    have := dsum_eq l l.length 0 (Nat.le_refl _)
    rw [ofF_zero, List.take_of_length_le (Nat.le_refl _)] at this
    rw [this]
    congr 1
    grind
  rw [hsum, if_pos rfl, if_pos rfl]
  obtain ⟨k, rfl⟩ : ∃ k', k = k' + 1 := ⟨k - 1, by omega⟩
  rw [cohousinglaw22_LotteryHonest.j2, if_neg (by show ¬ ((([] : List Int).length : Int) != 0) = true; decide)]
  by_cases hlt : ((dop l l.length []).length : Int) < ((m + 1 : Nat) : Int)
  · rw [if_pos hlt, if_pos hlt, if_pos rfl]
    rfl
  · rw [if_neg hlt, if_neg hlt, if_pos rfl, if_pos rfl, if_pos rfl]
    rfl
end Go.Proofs.YtkghgaifgpgfkaaDoor.PL
end
