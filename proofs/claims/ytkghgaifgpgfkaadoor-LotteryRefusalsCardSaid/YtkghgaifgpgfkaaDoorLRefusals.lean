/- LotteryRefusals: the plain law: who opens what changes neither the seed nor who of the others is named. -/
import Derived.Test.YtkghgaifgpgfkaaDoorLw
import Derived.Test.YtkghgaifgpgfkaaDoorPLx27
namespace Go.Proofs.YtkghgaifgpgfkaaDoor.PL
open Go.RowKit Go.Proofs.YtkghgaifgpgfkaaDoorW.PrintWords Go.Proofs.YtkghgaifgpgfkaaDoorW.PrintLast Go.Proofs.YtkghgaifgpgfkaaDoorW.PrintMore
set_option linter.unusedVariables false
theorem stepP_seed (need : Nat) (opened : List S23) (st : DrawSt) (p : S31) : (stepP need opened st p).seed = plusW st.seed (valF p.f2 need).1 := by
  unfold stepP
  cases byF opened p.f0 with
  | none => rfl
  | some s => simp only []; split <;> rfl
theorem foldP_seed (need : Nat) (one two : List S23) : ∀ (l : List S31) (a b : DrawSt), a.seed = b.seed → (l.foldl (stepP need one) a).seed = (l.foldl (stepP need two) b).seed
  | [], a, b, h => h
  | p :: l, a, b, h => by
    simp only [List.foldl_cons]
    exact foldP_seed need one two l _ _ (by rw [stepP_seed, stepP_seed, h])
theorem addC_other {ch : List Int} {x y : Int} (h : y ≠ x) : y ∈ addC ch x ↔ y ∈ ch := by
  unfold addC
  split
  · rfl
  · simp [h]
theorem stepP_other (need : Nat) (opened : List S23) (st : DrawSt) (p : S31) {who : Int} (h : who ≠ p.f0) : who ∈ (stepP need opened st p).cheats ↔ who ∈ st.cheats := by
  unfold stepP
  cases byF opened p.f0 with
  | none => simp only []; split <;> simp [addC_other h]
  | some s =>
    simp only []
    split
    · simp only []; split <;> simp [addC_other h]
    · exact addC_other h
theorem addC_self (ch : List Int) (x : Int) : x ∈ addC ch x := by
  unfold addC
  split
  · rename_i h; simpa using h
  · simp
theorem stepP_none (need : Nat) (opened : List S23) (st : DrawSt) (p : S31) (h : byF opened p.f0 = none) : p.f0 ∈ (stepP need opened st p).cheats ↔ (p.f0 ∈ st.cheats ∨ (valF p.f2 need).2 = false) := by
  unfold stepP
  rw [h]
  simp only []
  cases hv : (valF p.f2 need).2 with
  | true => simp
  | false => simp [addC_self]
theorem foldP_cheats (need : Nat) (one two : List S23) (who : Int) (h1 : byF one who = none) (h2 : byF two who = none) : ∀ (l : List S31) (a b : DrawSt), (who ∈ a.cheats ↔ who ∈ b.cheats) → (who ∈ (l.foldl (stepP need one) a).cheats ↔ who ∈ (l.foldl (stepP need two) b).cheats)
  | [], a, b, h => h
  | p :: l, a, b, h => by
    simp only [List.foldl_cons]
    refine foldP_cheats need one two who h1 h2 l _ _ ?_
    by_cases e : who = p.f0
    · subst e
      rw [stepP_none need one a p h1, stepP_none need two b p h2, h]
    · rw [stepP_other need one a p e, stepP_other need two b p e, h]
theorem byF_none {x : Int} : ∀ {l : List S23}, (l.any fun s => s.f0 == x) = false → byF l x = none
  | [], _ => rfl
  | s :: l, h => by
    simp only [List.any_cons, Bool.or_eq_false_iff, beq_eq_false_iff_ne] at h
    unfold byF
    rw [byF_none h.2]
    simp only []
    rw [if_neg (fun e => h.1 e.symm)]
theorem wrapS {j : Nat} (h : j < 9223372036854775000) : wrap64 ((j : Int) + 1) = ((j + 1 : Nat) : Int) := by rw [w64 (by omega) (by omega)]; omega
theorem drop_len {α : Type} {l r : List α} {j : Nat} (h : l.drop j = r) (hj : j ≤ l.length) : j + r.length = l.length := by
  have := congrArg List.length h
  simp at this
  omega
theorem drop_step {α : Type} {l r : List α} {s : α} {j : Nat} (h : l.drop j = s :: r) : ∃ hj : j < l.length, l[j] = s ∧ l.drop (j + 1) = r := by
  have hj : j < l.length := by
    have := congrArg List.length h
    simp at this
    omega
  rw [List.drop_eq_getElem_cons hj] at h
  injection h with h1 h2
  exact ⟨hj, h1, h2⟩
section
variable (x0 : List S31) (x2 x3 : List S23) (x9 : Bool) (x10 x13 : Int) (x11 x14 : List Int) (who : Int) (x18 x19 : Bool)
theorem lr1 (h : x2.length < 1000) : ∀ (r : List S23) (j k' : Nat) (x17 : Bool), x2.drop j = r → j ≤ x2.length →
    cohousinglaw22_LotteryRefusals.l1 (k' + r.length + 1) x0 x2 x3 x9 x10 x11 x13 x14 who x17 x18 x19 x2 (x2.length : Int) (j : Int) = cohousinglaw22_LotteryRefusals.l2 k' x0 x2 x3 x9 x10 x11 x13 x14 who (x17 || r.any fun s => s.f0 == who) x18 x19 x3 (x3.length : Int) 0
  | [], j, k', x17, hr, hj => by
    have := drop_len hr hj
    rw [show k' + ([] : List S23).length + 1 = k' + 1 from rfl, cohousinglaw22_LotteryRefusals.l1, if_neg (by simp at this; omega)]
    simp
  | s :: r, j, k', x17, hr, hj => by
    obtain ⟨hl, e1, e2⟩ := drop_step hr
    rw [show k' + (s :: r).length + 1 = (k' + r.length + 1) + 1 from rfl, cohousinglaw22_LotteryRefusals.l1, if_pos (by omega), if_pos (by omega), if_pos (by omega), rd23_at x2 j hl, e1, wrapS (by omega)]
    cases x17 with
    | true => rw [if_pos rfl, lr1 h r (j + 1) k' true e2 (by omega)]; simp
    | false => rw [if_neg (by decide), lr1 h r (j + 1) k' _ e2 (by omega)]; simp
theorem lr2 (x17 : Bool) (h : x3.length < 1000) : ∀ (r : List S23) (j k' : Nat) (x17 : Bool), x3.drop j = r → j ≤ x3.length →
    cohousinglaw22_LotteryRefusals.l2 (k' + r.length + 1) x0 x2 x3 x9 x10 x11 x13 x14 who x17 x18 x19 x3 (x3.length : Int) (j : Int) = cohousinglaw22_LotteryRefusals.l3 k' x0 x2 x3 x9 x10 x11 x13 x14 who (x17 || r.any fun s => s.f0 == who) x18 x19 x11 (x11.length : Int) 0
  | [], j, k', x17, hr, hj => by
    have := drop_len hr hj
    rw [show k' + ([] : List S23).length + 1 = k' + 1 from rfl, cohousinglaw22_LotteryRefusals.l2, if_neg (by simp at this; omega)]
    simp
  | s :: r, j, k', x17, hr, hj => by
    obtain ⟨hl, e1, e2⟩ := drop_step hr
    rw [show k' + (s :: r).length + 1 = (k' + r.length + 1) + 1 from rfl, cohousinglaw22_LotteryRefusals.l2, if_pos (by omega), if_pos (by omega), if_pos (by omega), rd23_at x3 j hl, e1, wrapS (by omega)]
    cases x17 with
    | true => rw [if_pos rfl, lr2 x17 h r (j + 1) k' true e2 (by omega)]; simp
    | false => rw [if_neg (by decide), lr2 x17 h r (j + 1) k' _ e2 (by omega)]; simp
theorem lr3 (x17 : Bool) (h : x11.length < 1000) : ∀ (r : List Int) (j k' : Nat) (x18 : Bool), x11.drop j = r → j ≤ x11.length →
    cohousinglaw22_LotteryRefusals.l3 (k' + r.length + 1) x0 x2 x3 x9 x10 x11 x13 x14 who x17 x18 x19 x11 (x11.length : Int) (j : Int) = cohousinglaw22_LotteryRefusals.l4 k' x0 x2 x3 x9 x10 x11 x13 x14 who x17 (x18 || r.any fun s => s == who) x19 x14 (x14.length : Int) 0
  | [], j, k', x18, hr, hj => by
    have := drop_len hr hj
    rw [show k' + ([] : List Int).length + 1 = k' + 1 from rfl, cohousinglaw22_LotteryRefusals.l3, if_neg (by simp at this; omega)]
    simp
  | s :: r, j, k', x18, hr, hj => by
    obtain ⟨hl, e1, e2⟩ := drop_step hr
    have hrd : rd x11 (j : Int) = s := by rw [rd_get (by omega) (by omega)]; simpa using e1
    rw [show k' + (s :: r).length + 1 = (k' + r.length + 1) + 1 from rfl, cohousinglaw22_LotteryRefusals.l3, if_pos (by omega), if_pos (by omega), if_pos (by omega), hrd, wrapS (by omega)]
    cases x18 with
    | true => rw [if_pos rfl, lr3 x17 h r (j + 1) k' true e2 (by omega)]; simp
    | false => rw [if_neg (by decide), lr3 x17 h r (j + 1) k' _ e2 (by omega)]; simp
theorem lr4 (x17 : Bool) (n : Nat) (hn : n < 1000) (hwho : who = (n : Int)) (h : x14.length < 1000) : ∀ (r : List Int) (j k' : Nat) (x19 : Bool), x14.drop j = r → j ≤ x14.length →
    cohousinglaw22_LotteryRefusals.l4 (k' + r.length + 1) x0 x2 x3 x9 x10 x11 x13 x14 who x17 x18 x19 x14 (x14.length : Int) (j : Int) = cohousinglaw22_LotteryRefusals.l0 k' x0 x2 x3 (x9 && (x17 || (x18 == (x19 || r.any fun s => s == who)))) x10 x11 x13 x14 ((n + 1 : Nat) : Int)
  | [], j, k', x19, hr, hj => by
    have := drop_len hr hj
    rw [show k' + ([] : List Int).length + 1 = k' + 1 from rfl, cohousinglaw22_LotteryRefusals.l4, if_neg (by simp at this; omega), hwho, wrapS (by omega)]
    cases x9 <;> cases x17 <;> simp
  | s :: r, j, k', x19, hr, hj => by
    obtain ⟨hl, e1, e2⟩ := drop_step hr
    have hrd : rd x14 (j : Int) = s := by rw [rd_get (by omega) (by omega)]; simpa using e1
    rw [show k' + (s :: r).length + 1 = (k' + r.length + 1) + 1 from rfl, cohousinglaw22_LotteryRefusals.l4, if_pos (by omega), if_pos (by omega), if_pos (by omega), hrd, wrapS (by omega)]
    cases x19 with
    | true => rw [if_pos rfl, lr4 x17 n hn hwho h r (j + 1) k' true e2 (by omega)]; simp
    | false => rw [if_neg (by decide), lr4 x17 n hn hwho h r (j + 1) k' _ e2 (by omega)]; simp
end
theorem lr0 (x0 : List S31) (x2 x3 : List S23) (x10 x13 : Int) (x11 x14 : List Int) (h0 : x0.length < 900) (h2 : x2.length < 1000) (h3 : x3.length < 1000) (h11 : x11.length < 1000) (h14 : x14.length < 1000) (hs : x10 = x13) (C : Nat) (hC : x14.length + x11.length + x3.length + x2.length + 5 ≤ C)
    (hc : ∀ who : Int, (x2.any fun s => s.f0 == who) = false → (x3.any fun s => s.f0 == who) = false → (x11.any fun s => s == who) = (x14.any fun s => s == who)) :
    ∀ (m n k : Nat), n + m = x0.length + 1 → m * C + 1 < k → cohousinglaw22_LotteryRefusals.l0 k x0 x2 x3 true x10 x11 x13 x14 (n : Int) = some true := by
  intro m
  induction m with
  | zero =>
    intro n k hn hk
    obtain ⟨k, rfl⟩ : ∃ k', k = k' + 1 := ⟨k - 1, by omega⟩
    rw [cohousinglaw22_LotteryRefusals.l0, if_neg (by omega), if_pos rfl, hs]
    simp
  | succ m ih =>
    intro n k hn hk
    have hm4 : (m + 1) * C = m * C + C := Nat.succ_mul m C
    rw [hm4] at hk
    obtain ⟨k', rfl⟩ : ∃ k', k = ((((k' + x14.length + 1) + x11.length + 1) + x3.length + 1) + x2.length + 1) + 1 := ⟨k - x14.length - x11.length - x3.length - x2.length - 5, by omega⟩
    rw [cohousinglaw22_LotteryRefusals.l0, if_pos (by omega)]
    have e1 := lr1 x0 x2 x3 true x10 x13 x11 x14 (n : Int) false false h2 x2 0 (((k' + x14.length + 1) + x11.length + 1) + x3.length + 1) false rfl (by omega)
    have e2 := lr2 x0 x2 x3 true x10 x13 x11 x14 (n : Int) false false false h3 x3 0 ((k' + x14.length + 1) + x11.length + 1) (false || x2.any fun s => s.f0 == (n : Int)) rfl (by omega)
    have e3 := lr3 x0 x2 x3 true x10 x13 x11 x14 (n : Int) false ((false || x2.any fun s => s.f0 == (n : Int)) || x3.any fun s => s.f0 == (n : Int)) h11 x11 0 (k' + x14.length + 1) false rfl (by omega)
    have e4 := lr4 x0 x2 x3 true x10 x13 x11 x14 (n : Int) (false || x11.any fun s => s == (n : Int)) ((false || x2.any fun s => s.f0 == (n : Int)) || x3.any fun s => s.f0 == (n : Int)) n (by omega) rfl h14 x14 0 k' false rfl (by omega)
    refine Eq.trans e1 (Eq.trans e2 (Eq.trans e3 (Eq.trans e4 ?_)))
    have hb : (true && (((false || x2.any fun s => s.f0 == (n : Int)) || x3.any fun s => s.f0 == (n : Int)) || ((false || x11.any fun s => s == (n : Int)) == (false || x14.any fun s => s == (n : Int))))) = true := by
      cases g1 : (x2.any fun s => s.f0 == (n : Int)) with
      | true => simp
      | false =>
        cases g2 : (x3.any fun s => s.f0 == (n : Int)) with
        | true => simp
        | false => rw [hc _ g1 g2]; simp
    rw [hb]
    have hn2 : n + 1 + m = x0.length + 1 := by omega
    have hk3 : m * C + 1 < k' := by omega
    exact ih (n + 1) k' hn2 hk3
theorem stepP_len (need : Nat) (opened : List S23) (st : DrawSt) (p : S31) : (stepP need opened st p).cheats.length ≤ st.cheats.length + 1 := by
  have ha : (addC st.cheats p.f0).length ≤ st.cheats.length + 1 := by unfold addC; split <;> simp
  unfold stepP
  cases byF opened p.f0 with
  | none => simp only []; split <;> omega
  | some s => simp only []; split <;> (simp only []; first | omega | (split <;> omega))
theorem foldP_len (need : Nat) (opened : List S23) : ∀ (l : List S31) (st : DrawSt), (l.foldl (stepP need opened) st).cheats.length ≤ st.cheats.length + l.length
  | [], st => by simp
  | p :: l, st => by
    simp only [List.foldl_cons, List.length_cons]
    have := foldP_len need opened l (stepP need opened st p)
    have := stepP_len need opened st p
    omega
theorem drawP_0 {l : List S31} {need : Int} {opened : List S23} (h : (drawP l need opened).2.2 = 0) : (drawP l need opened).1 = (l.foldl (stepP need.toNat opened) ⟨0, 0, []⟩).seed ∧ (drawP l need opened).2.1 = (l.foldl (stepP need.toNat opened) ⟨0, 0, []⟩).cheats.mergeSort fun x y => decide (x ≤ y) := by
  unfold drawP at h ⊢
  split at h
  · rename_i h1
    rw [if_pos h1]
    split at h
    · rename_i h2
      rw [if_pos h2]
      simp only [] at h ⊢
      split at h
      · cases h
      · rename_i h3
        rw [if_neg h3]
        exact ⟨rfl, rfl⟩
    · cases h
  · cases h
theorem any_mem (l : List Int) (x : Int) : (l.any fun s => s == x) = decide (x ∈ l) := by
  induction l with
  | nil => simp
  | cons a l ih =>
    rw [List.any_cons, ih, Bool.eq_iff_iff]
    simp only [Bool.or_eq_true, beq_iff_eq, decide_eq_true_eq, List.mem_cons]
    exact ⟨fun h => h.imp Eq.symm id, fun h => h.imp Eq.symm id⟩
theorem LotteryRefusals_pure (l : List S31) (need : Int) (one two : List S23) (hl : ∀ p ∈ l, i64B p.f0 = true) (h1 : ∀ s ∈ one, S23ok s) (h2 : ∀ s ∈ two, S23ok s) : ∃ k, cohousinglaw22_LotteryRefusals.f k l need one two = some true := by
  refine ⟨200000, ?_⟩
  unfold cohousinglaw22_LotteryRefusals.f
  rw [show cohousinglaw22_head.f = some true from rfl, Option.bind_some]
  have hj : cohousinglaw22_LotteryRefusals.j0 200000 l need one two true true = some true := rfl
  by_cases g1 : (l.length : Int) > 16
  · rw [if_pos g1, hj]
  · rw [if_neg g1]
    by_cases g2 : (one.length : Int) > 16
    · rw [if_pos g2, hj]
    · rw [if_neg g2]
      by_cases g3 : (two.length : Int) > 16
      · rw [decide_eq_true g3, hj]
      · rw [decide_eq_false g3, show (200000 : Nat) = 199998 + 1 + 1 from rfl, cohousinglaw22_LotteryRefusals.j0, if_neg (by decide), draw_ok (by omega) hl h1 (by omega), Option.bind_some, draw_ok (by omega) hl h2 (by omega), Option.bind_some]
        by_cases e1 : (drawP l need one).2.2 = 0
        · rw [if_pos e1]
          by_cases e2 : (drawP l need two).2.2 = 0
          · have : ((drawP l need two).2.2 != 0) = false := by simp [e2]
            rw [this, cohousinglaw22_LotteryRefusals.j1, if_neg (by decide)]
            obtain ⟨a1, a2⟩ := drawP_0 e1
            obtain ⟨b1, b2⟩ := drawP_0 e2
            have l1 := foldP_len need.toNat one l ⟨0, 0, []⟩
            have l2 := foldP_len need.toNat two l ⟨0, 0, []⟩
            simp only [List.length_nil] at l1 l2
            refine lr0 l one two _ _ _ _ (by omega) (by omega) (by omega) (by rw [a2, List.length_mergeSort]; omega) (by rw [b2, List.length_mergeSort]; omega) ?_ 200 (by rw [a2, b2, List.length_mergeSort, List.length_mergeSort]; omega) (fun who q1 q2 => ?_) l.length 1 _ (by omega) (by omega)
            · rw [a1, b1]
              exact foldP_seed _ _ _ l _ _ rfl
            · rw [a2, b2, any_mem, any_mem]
              have := foldP_cheats need.toNat one two who (byF_none q1) (byF_none q2) l ⟨0, 0, []⟩ ⟨0, 0, []⟩ Iff.rfl
              simp only [List.mem_mergeSort]
              exact decide_eq_decide.2 this
          · have : ((drawP l need two).2.2 != 0) = true := by simpa using e2
            rw [this, cohousinglaw22_LotteryRefusals.j1, if_pos rfl]
        · rw [if_neg e1, cohousinglaw22_LotteryRefusals.j1, if_pos rfl]
end Go.Proofs.YtkghgaifgpgfkaaDoor.PL
