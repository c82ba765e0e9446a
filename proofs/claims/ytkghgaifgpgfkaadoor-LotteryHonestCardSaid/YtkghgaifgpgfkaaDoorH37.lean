/- Lemmas and walks for lotteryHonestCard_holds (part 37), without what it does not use. -/
import Derived.Test.YtkghgaifgpgfkaaDoorH34
import Derived.Test.YtkghgaifgpgfkaaDoorH36
section
namespace Go.Proofs.YtkghgaifgpgfkaaDoor.PL
open Go.RowKit Go.Proofs.YtkghgaifgpgfkaaDoorW.PrintWords Go.Proofs.YtkghgaifgpgfkaaDoorW.PrintLast Go.Proofs.YtkghgaifgpgfkaaDoorW.PrintMore
open Go.Proofs.YtkghgaifgpgfkaaDoor.LotZ (F U pw inv pd thr Ok ev)
set_option linter.unusedVariables false
def u32B (n : Int) : Prop := 0 ≤ n ∧ n ≤ 4294967295
def S58ok (s : S58) : Prop := u32B s.f0 ∧ u32B s.f1 ∧ ∀ x ∈ s.f2, u32B x
theorem residue_ok {x : Int} (h : u32B x) : cohousinglaw22_residue.f x = some (x % 1073741789) := by
  unfold cohousinglaw22_residue.f
  rw [w64 (by have := h.1; omega) (by have := h.2; omega), tmod_pos' h.1]
def coefAt (x : S58) (j : Nat) : Int := if j < x.f2.length then rd x.f2 (j : Int) % 1073741789 else 0
def coefsOf (x : S58) (m : Nat) : List Int := (List.range m).map (coefAt x)
theorem coefsOf_succ (x : S58) (m : Nat) : coefsOf x (m + 1) = coefsOf x m ++ [coefAt x m] := by simp [coefsOf, List.range_succ]
theorem coefsOf_length (x : S58) (m : Nat) : (coefsOf x m).length = m := by simp [coefsOf]
theorem coefs_res (x : S58) (m : Nat) : (coefsOf x m).all isRes = true := by
  rw [List.all_eq_true]
  intro c hc
  simp only [coefsOf, List.mem_map] at hc
  obtain ⟨j, _, rfl⟩ := hc
  unfold coefAt
  split
  · have := res_lo (rd x.f2 (j : Int)); have := res_hi (rd x.f2 (j : Int))
    simp only [isRes, Bool.and_eq_true, decide_eq_true_eq]; omega
  · decide
def secOf (i : Nat) (x : S58) : S23 := ⟨(i : Int) + 1, x.f0 % 1073741789, x.f1 % 1073741789⟩
def polyOf (m : Nat) (x : S58) : List F := (x.f0 % 1073741789 :: coefsOf x m).map toF
def plOf (n m i : Nat) (x : S58) : S31 := ⟨(i : Int) + 1, sumS ((i : Int) + 1) (x.f0 % 1073741789) (x.f1 % 1073741789), sharesOf (polyOf m x) n⟩
def pls (n m : Nat) : Nat → List S58 → List S31
  | _, [] => []
  | i, x :: l => plOf n m i x :: pls n m (i + 1) l
def secs : Nat → List S58 → List S23
  | _, [] => []
  | i, x :: l => secOf i x :: secs (i + 1) l
theorem deal_player {n m i : Nat} (hn : n ≤ 16) (hm : m < n) (hi : i < n) (x : S58) {k : Nat} (hk : 50 ≤ k) : lottery_Deal.f k ((i : Int) + 1) (x.f0 % 1073741789) (x.f1 % 1073741789) (coefsOf x m) (n : Int) = some ((plOf n m i x).f0, (plOf n m i x).f1, (plOf n m i x).f2, 0) := by
  have h0 := res_lo x.f0; have h1 := res_hi x.f0; have h2 := res_lo x.f1; have h3 := res_hi x.f1
  rw [deal_ok (n := (n : Int)) ⟨⟨by omega, by omega⟩, ⟨by omega, by omega⟩, ⟨by simp only [isRes, Bool.and_eq_true, decide_eq_true_eq]; omega, by simp only [isRes, Bool.and_eq_true, decide_eq_true_eq]; omega⟩, coefs_res x m, by rw [coefsOf_length]; omega⟩ hk, Int.toNat_natCast]
  rfl
theorem dealt_l1 (l : List S58) (hl : l.length ≤ 16) (m : Nat) (hm : m < l.length) (p7 : List S31) (s8 : List S23) (hp : p7.length ≤ 16) (hs : s8.length ≤ 16) (i : Nat) (hi : i < l.length) (x : S58) (hx : S58ok x) : ∀ (d j k : Nat), j + d = m → d + 60 < k →
    cohousinglaw22_dealt.l1 k l ((m + 1 : Nat) : Int) p7 s8 (i : Int) (coefsOf x j) (j : Int) l (l.length : Int) (i : Int) x.f0 x.f1 x.f2 x.f3 x.f4 x.f5 x.f6 = cohousinglaw22_dealt.l0 (k - d - 1) l ((m + 1 : Nat) : Int) (p7 ++ [plOf l.length m i x]) (s8 ++ [secOf i x]) l (l.length : Int) ((i + 1 : Nat) : Int)
  | 0, j, k + 1, hj, hk => by
    have hjm : j = m := by omega
    subst hjm
    have hw : wrap64 (((j + 1 : Nat) : Int) - 1) = (j : Int) := by rw [w64 (by omega) (by omega)]; omega
    have hw2 : wrap64 ((i : Int) + 1) = (i : Int) + 1 := w64 (by omega) (by omega)
    rw [cohousinglaw22_dealt.l1, hw, if_neg (by omega), residue_ok hx.1, Option.bind_some, residue_ok hx.2.1, Option.bind_some, hw2, deal_player hl hm hi x (by omega), Option.bind_some]
    simp only [if_true, Option.bind_some]
    rw [if_pos (by show ((sharesOf _ _).length : Int) = _; rw [sharesOf_length]), if_pos (by simp; omega), if_pos (by simp; omega)]
    rfl
  | d + 1, j, k + 1, hj, hk => by
    have hw : wrap64 (((m + 1 : Nat) : Int) - 1) = (m : Int) := by rw [w64 (by omega) (by omega)]; omega
    have hw2 : wrap64 ((j : Int) + 1) = ((j + 1 : Nat) : Int) := by rw [w64 (by omega) (by omega)]; omega
    have hrec := dealt_l1 l hl m hm p7 s8 hp hs i hi x hx d (j + 1) k (by omega) (by omega)
    rw [coefsOf_succ] at hrec
    rw [cohousinglaw22_dealt.l1, hw, if_pos (by omega), hw2, show k + 1 - (d + 1) - 1 = k - d - 1 by omega, ← hrec]
    by_cases hc : j < x.f2.length
    · rw [if_pos (by omega), if_pos (by omega), residue_ok (hx.2.2 _ (by rw [rd_get (by omega) (by omega)]; exact List.getElem_mem _)), Option.bind_some, Option.bind_some, if_pos (by rw [coefsOf_length]; simp; omega)]
      have : coefAt x j = rd x.f2 (j : Int) % 1073741789 := by unfold coefAt; rw [if_pos hc]
      rw [this]
    · rw [if_neg (by omega), Option.bind_some, if_pos (by rw [coefsOf_length]; simp; omega)]
      have : coefAt x j = 0 := by unfold coefAt; rw [if_neg hc]
      rw [this]
theorem pls_snoc (n m : Nat) : ∀ (l : List S58) (s : Nat) (x : S58), pls n m s (l ++ [x]) = pls n m s l ++ [plOf n m (s + l.length) x]
  | [], s, x => rfl
  | y :: l, s, x => by
    simp only [List.cons_append, pls, pls_snoc n m l (s + 1) x, List.length_cons]
    rw [show s + 1 + l.length = s + (l.length + 1) by omega]
theorem secs_snoc : ∀ (l : List S58) (s : Nat) (x : S58), secs s (l ++ [x]) = secs s l ++ [secOf (s + l.length) x]
  | [], s, x => rfl
  | y :: l, s, x => by
    simp only [List.cons_append, secs, secs_snoc l (s + 1) x, List.length_cons]
    rw [show s + 1 + l.length = s + (l.length + 1) by omega]
theorem pls_length (n m : Nat) : ∀ (l : List S58) (s : Nat), (pls n m s l).length = l.length
  | [], _ => rfl
  | x :: l, s => by simp only [pls, List.length_cons, pls_length n m l (s + 1)]
theorem secs_length : ∀ (l : List S58) (s : Nat), (secs s l).length = l.length
  | [], _ => rfl
  | x :: l, s => by simp only [secs, List.length_cons, secs_length l (s + 1)]
theorem rd58_at (l : List S58) (i : Nat) (h : i < l.length) : rd_T58 l (i : Int) = l[i] := by simp [rd_T58, List.getD_eq_getElem?_getD, List.getElem?_eq_getElem h]
theorem dealt_l0 (l : List S58) (hl : l.length ≤ 16) (m : Nat) (hm : m < l.length) (ho : ∀ x ∈ l, S58ok x) : ∀ (r : List S58) (i k : Nat), l.drop i = r → i ≤ l.length → r.length * 20 + 100 < k →
    cohousinglaw22_dealt.l0 k l ((m + 1 : Nat) : Int) (pls l.length m 0 (l.take i)) (secs 0 (l.take i)) l (l.length : Int) (i : Int) = some (pls l.length m 0 l, secs 0 l, true) := by
  intro r
  induction r with
  | nil =>
    intro i k hr hi hk
    obtain ⟨k, rfl⟩ : ∃ k', k = k' + 1 := ⟨k - 1, by omega⟩
    have hil : i = l.length := by
      have := congrArg List.length hr
      simp at this
      omega
    rw [cohousinglaw22_dealt.l0, if_neg (by omega), List.take_of_length_le (by omega)]
  | cons x r ih =>
    intro i k hr hi hk
    obtain ⟨k, rfl⟩ : ∃ k', k = k' + 1 := ⟨k - 1, by omega⟩
    have hil : i < l.length := by
      have := congrArg List.length hr
      simp at this
      omega
    have hp : l[i] = x ∧ l.drop (i + 1) = r := by
      rw [List.drop_eq_getElem_cons hil] at hr
      injection hr with h1 h2
      exact ⟨h1, h2⟩
    simp only [List.length_cons] at hk
    rw [cohousinglaw22_dealt.l0, if_pos (by omega), if_pos (by omega), if_pos (by omega), rd58_at l i hil, hp.1]
    have h1 := dealt_l1 l hl m hm (pls l.length m 0 (l.take i)) (secs 0 (l.take i)) (by rw [pls_length, List.length_take]; omega) (by rw [secs_length, List.length_take]; omega) i hil x (ho x (hp.1 ▸ List.getElem_mem hil)) m 0 k (by omega) (by omega)
    refine Eq.trans h1 ?_
    have h2 := ih (i + 1) (k - m - 1) hp.2 (by omega) (by omega)
    rw [List.take_succ_eq_append_getElem hil, pls_snoc, secs_snoc, hp.1, List.length_take, show 0 + min i l.length = i by omega] at h2
    exact h2
theorem dealt_ok (l : List S58) (hl : l.length ≤ 16) (m : Nat) (hm : m < l.length) (ho : ∀ x ∈ l, S58ok x) (k : Nat) (hk : 500 ≤ k) : cohousinglaw22_dealt.f k l ((m + 1 : Nat) : Int) = some (pls l.length m 0 l, secs 0 l, true) := by
  unfold cohousinglaw22_dealt.f
  exact dealt_l0 l hl m hm ho l 0 k rfl (by omega) (by omega)
theorem valF_honest {c : List F} {n need : Nat} (hn : n ≤ 16) (h1 : 1 ≤ need) (h2 : need ≤ n) (hc : c.length = need) : valF (sharesOf c n) need = (ofF (ev c 0), true) := by
  have hlen := sharesOf_length c n
  have hmem : ∀ s ∈ (sharesOf c n).take need, s ∈ sharesOf c n := fun s hs => List.mem_of_mem_take hs
  have hf : RecV ((sharesOf c n).take need) := by
    refine ⟨by rw [List.length_take]; omega, by rw [List.length_take]; omega, fun s hs => (shares_pt hn s (hmem s hs)).1, ?_⟩
    have := shares_nd c n
    rw [← List.take_append_drop need (sharesOf c n), List.map_append] at this
    exact (List.nodup_append.1 this).1
  have hthr : ∀ X, thr (pts ((sharesOf c n).take need)) (gOf ((sharesOf c n).take need)) X = ev c X := by
    intro X
    rw [LotZ.thr_congr (g := ev c) (fun p hp => by
      obtain ⟨s, hs, rfl⟩ := List.mem_map.1 hp
      rw [gOf_at hf.pt hf.nd s hs, (shares_pt hn s (hmem s hs)).2])]
    exact LotZ.thr_ev _ _ hf.ok (by simp only [pts, List.length_map, List.length_take]; omega)
  unfold valF
  have hon : onPoly ((sharesOf c n).take need) ((sharesOf c n).drop need) = true := by
    unfold onPoly
    rw [List.all_eq_true]
    intro s hs
    have hs' := shares_pt hn s (List.mem_of_mem_drop hs)
    have hb := ptOK_lo hs'.1
    rw [hthr, ← hs'.2, ofF_toF (by omega) (by omega)]
    simp
  rw [if_pos hon, hthr]
end Go.Proofs.YtkghgaifgpgfkaaDoor.PL
end
