/- Lemmas and walks for lotteryHonestCard_holds (part 34), without what it does not use. -/
import Derived.Test.YtkghgaifgpgfkaaDoorH31
import Derived.Test.YtkghgaifgpgfkaaDoorH33
section
namespace Go.Proofs.YtkghgaifgpgfkaaDoor.PL
open Go.RowKit Go.Proofs.YtkghgaifgpgfkaaDoorW.PrintWords Go.Proofs.YtkghgaifgpgfkaaDoorW.PrintLast Go.Proofs.YtkghgaifgpgfkaaDoorW.PrintMore
open Go.Proofs.YtkghgaifgpgfkaaDoor.LotZ (F U pw inv pd thr Ok ev)
set_option linter.unusedVariables false
def shOK (j : Nat) (s : S47) : Bool := s.f0 == (j : Int) + 1 && isRes s.f1
def sharesOK : Nat → List S47 → Bool
  | _, [] => true
  | j, s :: l => shOK j s && sharesOK (j + 1) l
def plOK (n i : Nat) (p : S31) : Bool := p.f0 == (i : Int) + 1 && ((p.f2.length == n) && sharesOK 0 p.f2)
def pledgesOK (n : Nat) : Nat → List S31 → Bool
  | _, [] => true
  | i, p :: l => plOK n i p && pledgesOK n (i + 1) l
theorem pl1_ok (x0 x7 : List S31) (x8 : Int) (i : Nat) (hi : i < 1000) (shs : List S47) (hs : shs.length < 1000) : ∀ (r : List S47) (j k' : Nat), shs.drop j = r → j ≤ shs.length → lottery_pledges.l1 (k' + r.length + 1) x0 x7 x8 (i : Int) shs (shs.length : Int) (j : Int) = if sharesOK j r = true then lottery_pledges.l0 k' x0 x7 x8 ((i + 1 : Nat) : Int) else some false
  | [], j, k', hr, hj => by
    have hjl : j = shs.length := by
      have := congrArg List.length hr
      simp at this
      omega
    have hw : wrap64 ((i : Int) + 1) = ((i + 1 : Nat) : Int) := by rw [w64 (by omega) (by omega)]; omega
    rw [show k' + ([] : List S47).length + 1 = k' + 1 from rfl, lottery_pledges.l1, if_neg (by omega), hw]
    rfl
  | s :: r, j, k', hr, hj => by
    have hjl : j < shs.length := by
      have := congrArg List.length hr
      simp at this
      omega
    have hp : shs[j] = s ∧ shs.drop (j + 1) = r := by
      rw [List.drop_eq_getElem_cons hjl] at hr
      injection hr with h1 h2
      exact ⟨h1, h2⟩
    have hw : wrap64 ((j : Int) + 1) = (j : Int) + 1 := w64 (by omega) (by omega)
    have hw2 : wrap64 ((j : Int) + 1) = ((j + 1 : Nat) : Int) := by rw [hw]; omega
    rw [show k' + (s :: r).length + 1 = (k' + r.length + 1) + 1 from rfl, lottery_pledges.l1, if_pos (by omega), if_pos (by omega), if_pos (by omega), rd47_at shs j hjl, hp.1]
    by_cases h1 : s.f0 = (j : Int) + 1
    · rw [if_pos (by rw [hw]; exact h1), isResidue_one, Option.bind_some]
      by_cases h2 : isRes s.f1 = true
      · rw [if_pos h2, hw2, pl1_ok x0 x7 x8 i hi shs hs r (j + 1) k' hp.2 (by omega)]
        have : sharesOK j (s :: r) = sharesOK (j + 1) r := by simp only [sharesOK, shOK, h1, h2, beq_self_eq_true, Bool.and_self, Bool.true_and]
        rw [this]
      · rw [if_neg h2]
        have : sharesOK j (s :: r) = false := by simp only [sharesOK, shOK, Bool.not_eq_true] at *; rw [h2]; simp
        rw [this]; rfl
    · rw [if_neg (by rw [hw]; exact h1)]
      have : sharesOK j (s :: r) = false := by
        have : (s.f0 == (j : Int) + 1) = false := by simpa using h1
        simp only [sharesOK, shOK, this, Bool.false_and]
      rw [this]; rfl
theorem pl0_ok (l : List S31) (hl : l.length ≤ 20) : ∀ (rest : List S31) (i k : Nat), l.drop i = rest → i ≤ l.length → rest.length * (l.length + 3) < k → lottery_pledges.l0 k l l (l.length : Int) (i : Int) = some (pledgesOK l.length i rest && inR (l.length : Int) 1 16)
  | [], i, k + 1, hr, hi, hk => by
    have hil : i = l.length := by
      have := congrArg List.length hr
      simp at this
      omega
    rw [lottery_pledges.l0, if_neg (by omega), between_in, Option.bind_some]
    simp only [pledgesOK, Bool.true_and]
  | p :: rest, i, k, hr, hi, hk => by
    have hil : i < l.length := by
      have := congrArg List.length hr
      simp at this
      omega
    have hp : l[i] = p ∧ l.drop (i + 1) = rest := by
      rw [List.drop_eq_getElem_cons hil] at hr
      injection hr with h1 h2
      exact ⟨h1, h2⟩
    have hk2 : rest.length * (l.length + 3) + (l.length + 3) < k := by
      simp only [List.length_cons] at hk
      rw [Nat.succ_mul] at hk
      exact hk
    obtain ⟨k', rfl⟩ : ∃ k', k = (k' + l.length + 1) + 1 + 1 := ⟨k - l.length - 3, by omega⟩
    have hw : wrap64 ((i : Int) + 1) = (i : Int) + 1 := w64 (by omega) (by omega)
    rw [lottery_pledges.l0, if_pos (by omega), if_pos (by omega), if_pos (by omega), rd31_at l i hil, hp.1, hw]
    by_cases h1 : p.f0 = (i : Int) + 1
    · have e1 : (p.f0 == (i : Int) + 1) = true := by simpa using h1
      rw [if_pos h1]
      by_cases h2 : p.f2.length = l.length
      · have e2 : (p.f2.length == l.length) = true := by simpa using h2
        have e3 : ((p.f2.length : Int) != (l.length : Int)) = false := by simp [h2]
        rw [lottery_pledges.j1, e3, if_neg (by decide)]
        have hq := pl1_ok l l (l.length : Int) i (by omega) p.f2 (by omega) p.f2 0 k' rfl (by omega)
        rw [h2] at hq ⊢
        rw [show ((0 : Nat) : Int) = 0 from rfl] at hq
        rw [hq]
        have e4 : pledgesOK l.length i (p :: rest) = (sharesOK 0 p.f2 && pledgesOK l.length (i + 1) rest) := by simp only [pledgesOK, plOK, e1, e2, Bool.true_and]
        rw [e4]
        by_cases h3 : sharesOK 0 p.f2 = true
        · rw [if_pos h3, h3, Bool.true_and]
          exact pl0_ok l hl rest (i + 1) k' hp.2 (by omega) (by omega)
        · rw [if_neg h3]
          rw [Bool.not_eq_true] at h3
          rw [h3]; rfl
      · have e2 : (p.f2.length == l.length) = false := by simpa using h2
        have e3 : ((p.f2.length : Int) != (l.length : Int)) = true := by
          have : (p.f2.length : Int) ≠ (l.length : Int) := by omega
          simpa using this
        rw [lottery_pledges.j1, e3, if_pos rfl]
        simp only [pledgesOK, plOK, e1, e2, Bool.true_and, Bool.false_and]
    · have e1 : (p.f0 == (i : Int) + 1) = false := by simpa using h1
      rw [if_neg h1, lottery_pledges.j1, if_pos rfl]
      simp only [pledgesOK, plOK, e1, Bool.false_and]
theorem pledges_ok (l : List S31) (hl : l.length ≤ 20) (k : Nat) (hk : 500 ≤ k) : lottery_pledges.f k l = some (pledgesOK l.length 0 l && inR (l.length : Int) 1 16) := by
  unfold lottery_pledges.f
  have : l.length * (l.length + 3) ≤ 20 * 23 := Nat.mul_le_mul hl (by omega)
  exact pl0_ok l hl l 0 k rfl (by omega) (by omega)
def gOf (l : List S47) : F → F := fun p => match l.find? (fun s => toF s.f0 == p) with
  | some s => toF s.f1
  | none => 0
theorem toF_inj {x y : Int} (h0 : 0 ≤ x) (h1 : x < 1073741789) (h2 : 0 ≤ y) (h3 : y < 1073741789) (h : toF x = toF y) : x = y := by
  have := congrArg ofF h
  rwa [ofF_toF h0 h1, ofF_toF h2 h3] at this
theorem gOf_at : ∀ {l : List S47}, (∀ s ∈ l, ptOK s = true) → (l.map (·.f0)).Nodup → ∀ s ∈ l, gOf l (toF s.f0) = toF s.f1
  | a :: l, hp, hn, s, hs => by
    simp only [List.map_cons, List.nodup_cons] at hn
    unfold gOf
    rw [List.find?_cons]
    by_cases he : toF a.f0 = toF s.f0
    · have e1 : (toF a.f0 == toF s.f0) = true := by simpa using he
      rw [e1]
      have ha := ptOK_lo (hp a List.mem_cons_self)
      have hs' := ptOK_lo (hp s hs)
      have e2 : a.f0 = s.f0 := toF_inj (by omega) (by omega) (by omega) (by omega) he
      rcases List.mem_cons.1 hs with rfl | hs
      · rfl
      · exact absurd (List.mem_map.2 ⟨s, hs, e2.symm⟩) hn.1
    · have e1 : (toF a.f0 == toF s.f0) = false := by simpa using he
      rw [e1]
      rcases List.mem_cons.1 hs with rfl | hs
      · exact absurd rfl he
      · exact gOf_at (fun t ht => hp t (List.mem_cons_of_mem _ ht)) hn.2 s hs
def onPoly (first rest : List S47) : Bool := rest.all fun s => ofF (thr (pts first) (gOf first) (toF s.f0)) == s.f1
def valF (shs : List S47) (need : Nat) : Int × Bool :=
  if onPoly (shs.take need) (shs.drop need) = true then (ofF (thr (pts (shs.take need)) (gOf (shs.take need)) 0), true) else (0, false)
theorem value_l0 (first : List S47) (hf : RecV first) (shs : List S47) (hs : ∀ s ∈ shs, ptOK s = true) (hlen : shs.length < 1000) : ∀ (r : List S47) (j k : Nat), shs.drop j = r → j ≤ shs.length → 400 + r.length < k →
    lottery_value.l0 k first shs (shs.length : Int) (j : Int) = some (if onPoly first r = true then (ofF (thr (pts first) (gOf first) 0), true) else (0, false))
  | r, j, 0, _, _, hk => by omega
  | [], j, k + 1, hr, hj, hk => by
    have hjl : j = shs.length := by
      have := congrArg List.length hr
      simp at this
      omega
    have ht := through_ok (first.map un) (by rw [List.length_map]; exact hf.hi) 0 (gOf first) (fun p hp => by
      obtain ⟨s, hs, rfl⟩ := List.mem_map.1 hp
      exact gOf_at hf.pt hf.nd s hs) k (by simp at hk; omega)
    rw [map_sh_un hf.pt, ofF_zero, pts_un] at ht
    rw [lottery_value.l0, if_neg (by omega), ht, Option.bind_some]
    rfl
  | s :: r, j, k + 1, hr, hj, hk => by
    have hjl : j < shs.length := by
      have := congrArg List.length hr
      simp at this
      omega
    have hp : shs[j] = s ∧ shs.drop (j + 1) = r := by
      rw [List.drop_eq_getElem_cons hjl] at hr
      injection hr with h1 h2
      exact ⟨h1, h2⟩
    have hsm : s ∈ shs := hp.1 ▸ List.getElem_mem hjl
    have hs0 := ptOK_lo (hs s hsm)
    have ht := through_ok (first.map un) (by rw [List.length_map]; exact hf.hi) (toF s.f0) (gOf first) (fun p hp => by
      obtain ⟨s, hs, rfl⟩ := List.mem_map.1 hp
      exact gOf_at hf.pt hf.nd s hs) k (by simp at hk; omega)
    rw [map_sh_un hf.pt, ofF_toF (by omega) (by omega), pts_un] at ht
    have hw2 : wrap64 ((j : Int) + 1) = ((j + 1 : Nat) : Int) := by rw [w64 (by omega) (by omega)]; omega
    rw [lottery_value.l0, if_pos (by omega), if_pos (by omega), if_pos (by omega), rd47_at shs j hjl, hp.1, ht, Option.bind_some, hw2]
    by_cases h1 : ofF (thr (pts first) (gOf first) (toF s.f0)) = s.f1
    · have e1 : (ofF (thr (pts first) (gOf first) (toF s.f0)) == s.f1) = true := by simpa using h1
      rw [if_pos h1, value_l0 first hf shs hs hlen r (j + 1) k hp.2 (by omega) (by simp at hk; omega)]
      have : onPoly first (s :: r) = onPoly first r := by simp only [onPoly, List.all_cons, e1, Bool.true_and]
      rw [this]
    · have e1 : (ofF (thr (pts first) (gOf first) (toF s.f0)) == s.f1) = false := by simpa using h1
      rw [if_neg h1]
      have : onPoly first (s :: r) = false := by simp only [onPoly, List.all_cons, e1, Bool.false_and]
      rw [this]
      rfl
theorem value_ok (a b : Int) (shs : List S47) (hv : RecV shs) (need : Nat) (h1 : 1 ≤ need) (h2 : need ≤ shs.length) (k : Nat) (hk : 450 ≤ k) : lottery_value.f k a b shs (need : Int) = some (valF shs need) := by
  unfold lottery_value.f
  have hl := hv.hi
  rw [if_pos (by omega), if_pos (by omega), Option.bind_some, Int.toNat_natCast]
  have hf : RecV (shs.take need) := by
    refine ⟨by rw [List.length_take]; omega, by rw [List.length_take]; omega, fun s hs => hv.pt s (List.mem_of_mem_take hs), ?_⟩
    have := hv.nd
    rw [← List.take_append_drop need shs, List.map_append] at this
    exact (List.nodup_append.1 this).1
  have hd : (shs.drop need).length ≤ 16 := by rw [List.length_drop]; omega
  exact value_l0 (shs.take need) hf (shs.drop need) (fun s hs => hv.pt s (List.mem_of_mem_drop hs)) (by omega) (shs.drop need) 0 k rfl (by omega) (by omega)
theorem sharesOK_pt : ∀ (l : List S47) (j : Nat), sharesOK j l = true → j + l.length ≤ 16 → (∀ s ∈ l, ptOK s = true) ∧ (∀ (i : Nat) (h : i < l.length), l[i].f0 = ((j + i : Nat) : Int) + 1)
  | [], j, _, _ => ⟨by simp, fun i h => absurd h (by simp)⟩
  | s :: l, j, h, hl => by
    simp only [sharesOK, shOK, Bool.and_eq_true, beq_iff_eq] at h
    obtain ⟨⟨h1, h2⟩, h3⟩ := h
    simp only [List.length_cons] at hl
    obtain ⟨g1, g2⟩ := sharesOK_pt l (j + 1) h3 (by omega)
    refine ⟨fun t ht => ?_, fun i hi => ?_⟩
    · rcases List.mem_cons.1 ht with rfl | ht
      · simp only [ptOK, inR, h2, Bool.and_true, Bool.and_eq_true, decide_eq_true_eq]
        omega
      · exact g1 t ht
    · cases i with
      | zero => simpa using h1
      | succ i =>
        have := g2 i (by simpa using hi)
        simp only [List.getElem_cons_succ]
        rw [this]; omega
theorem sharesOK_rec {l : List S47} (h : sharesOK 0 l = true) (h0 : 1 ≤ l.length) (h1 : l.length ≤ 16) : RecV l := by
  obtain ⟨g1, g2⟩ := sharesOK_pt l 0 h (by omega)
  refine ⟨h0, h1, g1, ?_⟩
  refine List.pairwise_map.2 (List.pairwise_iff_getElem.2 fun i j hi hj hij e => ?_)
  rw [g2 i hi, g2 j hj] at e
  omega
theorem pledgesOK_mem {n : Nat} : ∀ {l : List S31} {i : Nat}, pledgesOK n i l = true → ∀ p ∈ l, p.f2.length = n ∧ sharesOK 0 p.f2 = true
  | p :: l, i, h, q, hq => by
    simp only [pledgesOK, plOK, Bool.and_eq_true, beq_iff_eq] at h
    rcases List.mem_cons.1 hq with rfl | hq
    · exact h.1.2
    · exact pledgesOK_mem h.2 q hq
def stepP (need : Nat) (opened : List S23) (st : DrawSt) (p : S31) : DrawSt :=
  let v := valF p.f2 need
  match byF opened p.f0 with
  | none => ⟨plusW st.seed v.1, st.right, if v.2 = true then st.cheats else addC st.cheats p.f0⟩
  | some s =>
    if (sumS s.f0 s.f1 s.f2 == p.f1) = true then ⟨plusW st.seed v.1, st.right + 1, if (v.2 && s.f1 == v.1) = true then st.cheats else addC st.cheats p.f0⟩
    else ⟨plusW st.seed v.1, st.right, addC st.cheats p.f0⟩
def S23ok (s : S23) : Prop := i64B s.f0 = true ∧ i64B s.f1 = true ∧ i64B s.f2 = true
theorem byF_mem : ∀ {l : List S23} {x : Int} {s : S23}, byF l x = some s → s ∈ l ∧ s.f0 = x
  | t :: l, x, s, h => by
    unfold byF at h
    cases hb : byF l x with
    | some u =>
      simp only [hb] at h
      have := byF_mem hb
      simp_all
    | none =>
      simp only [hb] at h
      split at h <;> simp_all
theorem step_ok {need : Nat} {opened : List S23} (ho : ∀ s ∈ opened, S23ok s) (st : DrawSt) {p : S31} (hp : RecV p.f2) (h1 : 1 ≤ need) (h2 : need ≤ p.f2.length) {k : Nat} (hk : 450 ≤ k) : drawStep k (need : Int) opened st p = some (stepP need opened st p) := by
  unfold drawStep stepP
  rw [value_ok _ _ _ hp need h1 h2 k hk, Option.bind_some]
  cases hb : byF opened p.f0 with
  | none => rfl
  | some s =>
    obtain ⟨a, b, c⟩ := ho s (byF_mem hb).1
    simp only []
    rw [sum_ok a b c, Option.bind_some]
    split <;> rfl
theorem all_ok {need : Nat} {opened : List S23} (ho : ∀ s ∈ opened, S23ok s) (h1 : 1 ≤ need) {k : Nat} (hk : 450 ≤ k) : ∀ {l : List S31}, (∀ p ∈ l, RecV p.f2 ∧ need ≤ p.f2.length) → ∀ st, drawAll k (need : Int) opened st l = some (l.foldl (stepP need opened) st)
  | [], _, st => rfl
  | p :: l, hl, st => by
    unfold drawAll
    have hp := hl p List.mem_cons_self
    rw [step_ok ho st hp.1 h1 hp.2 hk, Option.bind_some, all_ok ho h1 hk (fun q hq => hl q (List.mem_cons_of_mem _ hq))]
    rfl
def drawP (l : List S31) (need : Int) (opened : List S23) : Int × List Int × Int :=
  if (pledgesOK l.length 0 l && inR (l.length : Int) 1 16 && inR need 1 (l.length : Int)) = true then
    if openOK (l.length : Int) [] opened = true then
      let st := l.foldl (stepP need.toNat opened) ⟨0, 0, []⟩
      if st.right < need then (0, [], 33) else (st.seed, st.cheats.mergeSort fun x y => decide (x ≤ y), 0)
    else (0, [], 1)
  else (0, [], 1)
theorem draw_ok {l : List S31} (hl : l.length ≤ 20) (hw : ∀ p ∈ l, i64B p.f0 = true) {need : Int} {opened : List S23} (ho : ∀ s ∈ opened, S23ok s) {k : Nat} (hk : 500 ≤ k) : lottery_Draw.f k l need opened = some (drawP l need opened) := by
  unfold lottery_Draw.f drawP
  have e1 : (decide (l.length < 17592186044416) && (l.all (fun p => i64B p.f0) && opened.all (fun s => i64B s.f0))) = true := by
    simp only [Bool.and_eq_true, decide_eq_true_eq, List.all_eq_true]
    exact ⟨by omega, hw, fun s hs => (ho s hs).1⟩
  rw [if_pos e1, pledges_ok l hl k hk, Option.bind_some]
  by_cases h1 : (pledgesOK l.length 0 l && inR (l.length : Int) 1 16 && inR need 1 (l.length : Int)) = true
  · rw [if_pos h1, if_pos h1]
    by_cases h2 : openOK (l.length : Int) [] opened = true
    · rw [if_pos h2, if_pos h2]
      simp only [Bool.and_eq_true] at h1
      obtain ⟨⟨g1, g2⟩, g3⟩ := h1
      simp only [inR, Bool.and_eq_true, decide_eq_true_eq] at g2 g3
      have hall := all_ok (need := need.toNat) ho (by omega) (k := k) (by omega) (l := l) (fun p hp => by
        obtain ⟨a, b⟩ := pledgesOK_mem g1 p hp
        exact ⟨sharesOK_rec b (by omega) (by omega), by omega⟩) ⟨0, 0, []⟩
      rw [Int.toNat_of_nonneg (by omega)] at hall
      rw [hall, Option.bind_some]
      simp only []
      split <;> rfl
    · rw [if_neg h2, if_neg h2]
  · rw [if_neg h1, if_neg h1]
end Go.Proofs.YtkghgaifgpgfkaaDoor.PL
end
