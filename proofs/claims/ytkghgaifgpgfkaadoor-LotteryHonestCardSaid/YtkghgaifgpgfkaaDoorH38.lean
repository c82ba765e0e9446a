/- Lemmas and walks for lotteryHonestCard_holds (part 38), without what it does not use. -/
import Derived.Test.YtkghgaifgpgfkaaDoorH37
section
namespace Go.Proofs.YtkghgaifgpgfkaaDoor.PL
open Go.RowKit Go.Proofs.YtkghgaifgpgfkaaDoorW.PrintWords Go.Proofs.YtkghgaifgpgfkaaDoorW.PrintLast Go.Proofs.YtkghgaifgpgfkaaDoorW.PrintMore
open Go.Proofs.YtkghgaifgpgfkaaDoor.LotZ (F U pw inv pd thr Ok ev)
set_option linter.unusedVariables false
theorem sharesOK_of : ∀ (l : List S47) (j : Nat), (∀ (i : Nat) (h : i < l.length), shOK (j + i) l[i] = true) → sharesOK j l = true
  | [], _, _ => rfl
  | s :: l, j, h => by
    unfold sharesOK
    rw [Bool.and_eq_true]
    refine ⟨h 0 (by simp), sharesOK_of l (j + 1) fun i hi => ?_⟩
    have := h (i + 1) (by simpa using hi)
    rw [show j + (i + 1) = j + 1 + i by omega] at this
    simpa using this
theorem sharesOf_ok (c : List F) (n : Nat) (hn : n ≤ 16) : sharesOK 0 (sharesOf c n) = true := by
  refine sharesOK_of _ 0 fun i hi => ?_
  have hi' : i < n := by rw [sharesOf_length] at hi; exact hi
  have e : (sharesOf c n)[i] = shareAt c i := by simp [sharesOf]
  have hp := ptOK_lo (shares_pt hn ((sharesOf c n)[i]) (List.getElem_mem hi)).1
  rw [e] at hp ⊢
  have h2 : isRes (shareAt c i).f1 = true := by simp only [isRes, Bool.and_eq_true, decide_eq_true_eq]; omega
  unfold shOK
  rw [h2, Nat.zero_add]
  show ((((i : Int) + 1) == (i : Int) + 1) && true) = true
  simp
theorem pls_ok (n m : Nat) (hn : n ≤ 16) : ∀ (l : List S58) (s : Nat), pledgesOK n s (pls n m s l) = true
  | [], _ => rfl
  | x :: l, s => by
    have e1 : (plOf n m s x).f0 = (s : Int) + 1 := rfl
    have e2 : (plOf n m s x).f2 = sharesOf (polyOf m x) n := rfl
    simp only [pls, pledgesOK, plOK, e1, e2, sharesOf_length, sharesOf_ok _ n hn, pls_ok n m hn l (s + 1), beq_self_eq_true, Bool.and_self]
def valOf (x : S58) : Int := x.f0 % 1073741789
theorem poly_zero (m : Nat) (x : S58) : ofF (ev (polyOf m x) 0) = valOf x := by
  unfold polyOf valOf
  simp only [List.map_cons, LotZ.ev]
  rw [show toF (x.f0 % 1073741789) + 0 * ev ((coefsOf x m).map toF) 0 = toF (x.f0 % 1073741789) by grind]
  exact ofF_toF (res_lo _) (res_hi _)
def Opens (opened : List S23) (b : Nat → Bool) : Nat → List S58 → Prop
  | _, [] => True
  | s, x :: l => byF opened ((s : Int) + 1) = (if b s = true then some (secOf s x) else none) ∧ Opens opened b (s + 1) l
def cnt (b : Nat → Bool) : Nat → List S58 → Int
  | _, [] => 0
  | s, _ :: l => (if b s = true then 1 else 0) + cnt b (s + 1) l
theorem fold_honest (n m : Nat) (hn : n ≤ 16) (hm : m < n) (opened : List S23) (b : Nat → Bool) : ∀ (l : List S58) (s : Nat) (seed right : Int), Opens opened b s l →
    (pls n m s l).foldl (stepP (m + 1) opened) ⟨seed, right, []⟩ = ⟨(l.map valOf).foldl plusW seed, right + cnt b s l, []⟩
  | [], s, seed, right, _ => by
    simp only [pls, List.foldl_nil, List.map_nil, cnt, Int.add_zero]
  | x :: l, s, seed, right, h => by
    obtain ⟨h1, h2⟩ := h
    have hv : valF (plOf n m s x).f2 (m + 1) = (valOf x, true) := by
      show valF (sharesOf (polyOf m x) n) (m + 1) = _
      rw [valF_honest hn (by omega) (by omega) (by simp [polyOf, coefsOf_length]), poly_zero]
    have hstep : stepP (m + 1) opened ⟨seed, right, []⟩ (plOf n m s x) = ⟨plusW seed (valOf x), right + (if b s = true then 1 else 0), []⟩ := by
      unfold stepP
      rw [hv, show (plOf n m s x).f0 = (s : Int) + 1 from rfl, h1]
      by_cases hb : b s = true
      · rw [if_pos hb, if_pos hb]
        simp only []
        have e1 : (sumS (secOf s x).f0 (secOf s x).f1 (secOf s x).f2 == (plOf n m s x).f1) = true := by
          show (sumS ((s : Int) + 1) (x.f0 % 1073741789) (x.f1 % 1073741789) == sumS ((s : Int) + 1) (x.f0 % 1073741789) (x.f1 % 1073741789)) = true
          simp
        have e2 : (true && (secOf s x).f1 == valOf x) = true := by
          show (true && (x.f0 % 1073741789 == x.f0 % 1073741789)) = true
          simp
        rw [if_pos e1, if_pos e2]
      · rw [if_neg hb, if_neg hb]
        simp only [if_true, Int.add_zero]
    simp only [pls, List.foldl_cons, List.map_cons, cnt]
    rw [hstep, fold_honest n m hn hm opened b l (s + 1) _ _ h2, Int.add_assoc]
theorem byF_out {x : Int} : ∀ {l : List S23}, (∀ t ∈ l, t.f0 ≠ x) → byF l x = none
  | [], _ => rfl
  | t :: l, h => by
    unfold byF
    rw [byF_out (fun u hu => h u (List.mem_cons_of_mem _ hu))]
    simp only []
    rw [if_neg (fun e => h t List.mem_cons_self e.symm)]
theorem secs_ge : ∀ (l : List S58) (s : Nat), ∀ t ∈ secs s l, (s : Int) + 1 ≤ t.f0 ∧ t.f0 ≤ (s : Int) + l.length
  | [], _, t, h => by simp [secs] at h
  | x :: l, s, t, h => by
    simp only [secs, List.mem_cons] at h
    simp only [List.length_cons]
    rcases h with rfl | h
    · show (s : Int) + 1 ≤ (s : Int) + 1 ∧ (s : Int) + 1 ≤ _
      omega
    · have := secs_ge l (s + 1) t h
      omega
theorem opens_all : ∀ (l : List S58) (s : Nat) (front : List S23), (∀ t ∈ front, t.f0 ≤ (s : Int)) → Opens (front ++ secs s l) (fun _ => true) s l
  | [], _, _, _ => trivial
  | x :: l, s, front, h => by
    refine ⟨?_, ?_⟩
    · rw [if_pos rfl]
      have e : front ++ secs s (x :: l) = (front ++ [secOf s x]) ++ secs (s + 1) l := by simp [secs]
      rw [e]
      have hout : byF (secs (s + 1) l) ((s : Int) + 1) = none := byF_out (fun t ht e => by have := secs_ge l (s + 1) t ht; omega)
      have key : ∀ (a c : List S23) (y : Int), byF c y = none → byF (a ++ c) y = byF a y := by
        intro a c y hc
        induction a with
        | nil => simpa [byF] using hc
        | cons t a ih => simp only [List.cons_append, byF, ih]
      rw [key _ _ _ hout, byF_snoc]
      exact if_pos (show (s : Int) + 1 = (secOf s x).f0 from rfl)
    · have e : front ++ secs s (x :: l) = (front ++ [secOf s x]) ++ secs (s + 1) l := by simp [secs]
      rw [e]
      refine opens_all l (s + 1) _ fun t ht => ?_
      rcases List.mem_append.1 ht with ht | ht
      · have := h t ht; omega
      · rw [List.mem_singleton.1 ht]
        show (s : Int) + 1 ≤ _
        omega
theorem cnt_all : ∀ (l : List S58) (s : Nat), cnt (fun _ => true) s l = (l.length : Int)
  | [], _ => rfl
  | x :: l, s => by simp only [cnt, cnt_all l (s + 1), if_true, List.length_cons]; omega
theorem openOK_of (n : Int) : ∀ (l seen : List S23), (∀ t ∈ l, secOK n t = true) → (l.map (·.f0)).Nodup → (∀ x ∈ seen, ∀ t ∈ l, x.f0 ≠ t.f0) → openOK n seen l = true
  | [], _, _, _, _ => rfl
  | t :: l, seen, h1, h2, h3 => by
    simp only [List.map_cons, List.nodup_cons] at h2
    unfold openOK
    have e1 : (byF seen t.f0).isSome = false := by
      rw [byF_out (fun u hu e => h3 u hu t List.mem_cons_self e)]; rfl
    rw [e1, h1 t List.mem_cons_self, openOK_of n l (seen ++ [t]) (fun u hu => h1 u (List.mem_cons_of_mem _ hu)) h2.2 (fun u hu v hv e => ?_)]
    · rfl
    · rcases List.mem_append.1 hu with hu | hu
      · exact h3 u hu v (List.mem_cons_of_mem _ hv) e
      · rw [List.mem_singleton.1 hu] at e
        exact h2.1 (e ▸ List.mem_map.2 ⟨v, hv, rfl⟩)
theorem secOf_ok {n i : Nat} (h : i < n) (x : S58) : secOK (n : Int) (secOf i x) = true := by
  have h0 := res_lo x.f0; have h1 := res_hi x.f0; have h2 := res_lo x.f1; have h3 := res_hi x.f1
  show (inR ((i : Int) + 1) 1 (n : Int) && (isRes (x.f0 % 1073741789) && isRes (x.f1 % 1073741789))) = true
  simp only [inR, isRes, Bool.and_eq_true, decide_eq_true_eq]
  omega
end Go.Proofs.YtkghgaifgpgfkaaDoor.PL
end
