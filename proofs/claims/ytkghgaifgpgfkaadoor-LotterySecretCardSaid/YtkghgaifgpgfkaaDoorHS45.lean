/- Lemmas and walks for lotterySecretCard_holds (part 45), without what it does not use. -/
import Derived.Test.YtkghgaifgpgfkaaDoorHS36
import Derived.Test.YtkghgaifgpgfkaaDoorHS41
import Derived.Test.YtkghgaifgpgfkaaDoorHS44
section
namespace Go.Proofs.YtkghgaifgpgfkaaDoor.PL
open Go.RowKit Go.Proofs.YtkghgaifgpgfkaaDoorW.PrintWords Go.Proofs.YtkghgaifgpgfkaaDoorW.PrintLast Go.Proofs.YtkghgaifgpgfkaaDoorW.PrintMore
open Go.Proofs.YtkghgaifgpgfkaaDoor.LotZ (F U pw inv pd thr Ok ev)
set_option linter.unusedVariables false
set_option linter.unusedSimpArgs false
theorem tmodw_F (a b : F) : Int.tmod (wrap64 (ofF a * ofF b)) 1073741789 = ofF (a * b) := timesW_F a b
theorem power_l0 : ∀ (k : Nat) (n : Nat) (a acc : F), n < 2 ^ k → ∀ k', k < k' → n < 9223372036854775807 → cohousingref22_Power.l0 k' (ofF a) (n : Int) (ofF acc) = some (ofF (pf k a n acc))
  | k, 0, a, acc, _, k' + 1, _, _ => by
    unfold cohousingref22_Power.l0
    rw [if_neg (by omega)]
    cases k <;> rfl
  | 0, n + 1, a, acc, h, _, _, _ => by
    have : n + 1 < 1 := h
    omega
  | k + 1, n + 1, a, acc, h, k' + 1, hk, hs => by
    unfold cohousingref22_Power.l0
    have hw : wrap64 (((n + 1 : Nat) : Int).tdiv 2) = (((n + 1) / 2 : Nat) : Int) := by
      rw [Int.tdiv_eq_ediv_of_nonneg (by omega), w64 (by omega) (by omega)]
      omega
    rw [if_pos (by omega), tmod_pos' (by omega), hw, tmodw_F, tmodw_F]
    have hlt : (n + 1) / 2 < 2 ^ k := by rw [Nat.pow_succ] at h; omega
    by_cases ho : (n + 1) % 2 = 1
    · rw [if_pos (by omega), power_l0 k ((n + 1) / 2) (a * a) (acc * a) hlt k' (by omega) (by omega)]
      congr 2
      show _ = pf (k + 1) a (n + 1) acc
      rw [pf, if_pos (Nat.succ_pos n), if_pos ho]
    · rw [if_neg (by omega), power_l0 k ((n + 1) / 2) (a * a) acc hlt k' (by omega) (by omega)]
      congr 2
      show _ = pf (k + 1) a (n + 1) acc
      rw [pf, if_pos (Nat.succ_pos n), if_neg ho]
theorem power_F (a : F) (k : Nat) (hk : 30 < k) : cohousingref22_Power.f k (ofF a) 1073741787 = some (ofF (inv a)) := by
  have h := power_l0 30 1073741787 a 1 (by decide) k hk (by omega)
  rw [ofF_one, pf_inv] at h
  exact h
theorem over_F (a b : F) (k : Nat) (hk : 30 < k) : cohousingref22_Over.f k (ofF a) (ofF b) = some (ofF (a * inv b)) := by
  unfold cohousingref22_Over.f
  rw [power_F b k hk, Option.bind_some, tmodw_F]
theorem less_F (a b : F) : cohousingref22_Less.f (ofF a) (ofF b) = some (ofF (a - b)) := by
  have h1 := ofF_lo a; have h2 := ofF_hi a; have h3 := ofF_lo b; have h4 := ofF_hi b
  unfold cohousingref22_Less.f
  rw [w64 (x := ofF a - ofF b) (by omega) (by omega), w64 (by omega) (by omega), tmod_pos' (by omega), ← ofF_sub]
  congr 2
  omega
theorem residueR_no {v : Int} (h : isRes v = false) : cohousingref22_Residue.f v = some false := by
  unfold cohousingref22_Residue.f
  by_cases h0 : v ≥ 0
  · rw [if_pos h0]
    simp only [isRes, Bool.and_eq_false_iff, decide_eq_false_iff_not] at h
    rw [decide_eq_false (by omega)]
  · rw [if_neg h0]
theorem residueR_yes {v : Int} (h : isRes v = true) : cohousingref22_Residue.f v = some true := by
  simp only [isRes, Bool.and_eq_true, decide_eq_true_eq] at h
  unfold cohousingref22_Residue.f
  rw [if_pos (by omega), decide_eq_true (by omega)]
theorem cell_at (w : World) (x y : Value) (t u : TypeId) : ((w.alloc (.cells #[x] t)).alloc (.cells #[y] u)).cell? ⟨w.heap.size + 1, 0, none⟩ = some y := by
  have := (cell_new_l (w.alloc (.cells #[x] t)) y u).1
  rwa [World.size_alloc] at this
theorem with22_all (k : Nat) (x a : Int) (l : List S47) (A : Option Addr) (c : Nat) (r1 r2 : Int) (w wn : World) (h1 : wn.cell? ⟨w.heap.size, 0, none⟩ = some (.slice A l.length c)) (h2 : wn.cell? ⟨w.heap.size + 1, 0, none⟩ = some (.int .i64 a)) (hB : Below w.heap.size w wn)
    (hr : Kd.C k47 w A l.length l) (hm : l.length * 16 ≤ 140737488351232) (h : lottery_Recover.f k (l ++ [⟨a, x⟩]) = some (r1, r2)) :
    Calls Tryd.prog 22 #[.int .i64 x, .pointer (some ⟨w.heap.size, 0, none⟩), .pointer (some ⟨w.heap.size + 1, 0, none⟩)] wn fun e w' => e = .returned (.tuple #[.int .i64 r1, .int .i64 r2]) ∧ Below w.heap.size w w' ∧ w'.cell? ⟨w.heap.size, 0, none⟩ = some (.slice A l.length c) ∧ w'.cell? ⟨w.heap.size + 1, 0, none⟩ = some (.int .i64 a) :=
  (with22.calls k x a l A c _ _ r1 r2 wn h1 h2 (Kd.C_below hr hB) hm h).mono fun e w' ⟨he, hb⟩ =>
    ⟨he, hB.trans (hb.mono hB.size), (hb.cell (World.block_lt_of_cell? wn _ h1)).trans h1, (hb.cell (World.block_lt_of_cell? wn _ h2)).trans h2⟩
set_option maxRecDepth 100000 in
set_option maxHeartbeats 4000000 in
theorem secret_bad (A : Option Addr) (c : Nat) (l : List S47) (a v : Int) (w : World) (hT : TabW w) (hr : Kd.C k47 w A l.length l) (hc : l.length ≤ c) (hm : l.length * 16 ≤ 140737488351232) (hb : ¬ RecV (l ++ [⟨a, 0⟩])) :
    Calls Tryd.prog 5 #[.slice A l.length c, .int .i64 a, .int .i64 v] w fun e w' => e = .returned (.bool true) ∧ Below w.heap.size w w' := by
  have hb1 : ¬ RecV (l ++ [⟨a, 1⟩]) := fun h => hb (recV_turn h (by decide))
  have H0 := Aside0.mk (recover_bad hb 500)
  have H1 := Aside0.mk (recover_bad hb1 500)
  have HT := Aside0.mk hT
  have HR := Aside0.mk hr
  clear hb hb1 hT hr
  go_enter Tryd.func5, Tryd.ntmps5
  go_wp2_with (go_at_call 10; refine (cohousinglaw22_head.calls true _ ?hTT rfl).mono ?_; (case hTT => exact TabW.below HT.out (((Below.refl _ _).alloc (Nat.le_refl _) _).alloc (by simp) _)); rintro e wh ⟨rfl, hbh⟩; have hB1 : Below w.heap.size w wh := (((Below.refl _ _).alloc (Nat.le_refl _) _).alloc (by simp) _).trans (hbh.mono (by simp; omega)); have hp1 : wh.cell? ⟨w.heap.size, 0, none⟩ = some (.slice A l.length c) := (hbh.cell (p := ⟨w.heap.size, 0, none⟩) (by simp; omega)).trans (cell_alloc_l _ (cell_new_l w _ _).1); have hp2 : wh.cell? ⟨w.heap.size + 1, 0, none⟩ = some (.int .i64 a) := (hbh.cell (p := ⟨w.heap.size + 1, 0, none⟩) (by simp)).trans (cell_at w _ _ _ _); clear hbh; have HB1 := Aside0.mk hB1; clear hB1)
  go_wp2_with (go_at_call 22; (with_reducible refine (with22_all 500 0 a l A c 0 1 w wh hp1 hp2 HB1.out HR.out hm H0.out).mono ?_); clear hp1 hp2; rintro e w2 ⟨rfl, hB2, hp1, hp2⟩; have HB2 := Aside0.mk hB2; clear hB2)
  go_wp2_with (go_at_call 22; (with_reducible refine (with22_all 500 1 a l A c 0 1 w w2 hp1 hp2 HB2.out HR.out hm H1.out).mono ?_); clear hp1 hp2; rintro e w3 ⟨rfl, hB3, hp1, hp2⟩; have HB3 := Aside0.mk hB3; clear hB3)
  go_ret
  exact ⟨rfl, HB3.out⟩
set_option maxRecDepth 100000 in
set_option maxHeartbeats 4000000 in
theorem secret_out (A : Option Addr) (c : Nat) (l : List S47) (a v z0 z1 : Int) (w : World) (hT : TabW w) (hr : Kd.C k47 w A l.length l) (hc : l.length ≤ c) (hm : l.length * 16 ≤ 140737488351232) (h0 : lottery_Recover.f 500 (l ++ [⟨a, 0⟩]) = some (z0, 0)) (h1 : lottery_Recover.f 500 (l ++ [⟨a, 1⟩]) = some (z1, 0)) (hv : isRes v = false) :
    Calls Tryd.prog 5 #[.slice A l.length c, .int .i64 a, .int .i64 v] w fun e w' => e = .returned (.bool true) ∧ Below w.heap.size w w' := by
  have H0 := Aside0.mk h0
  have H1 := Aside0.mk h1
  have HV := Aside0.mk (residueR_no hv)
  have HT := Aside0.mk hT
  have HR := Aside0.mk hr
  clear h0 h1 hT hr hv
  go_enter Tryd.func5, Tryd.ntmps5
  go_wp2_with (go_at_call 10; refine (cohousinglaw22_head.calls true _ ?hTT rfl).mono ?_; (case hTT => exact TabW.below HT.out (((Below.refl _ _).alloc (Nat.le_refl _) _).alloc (by simp) _)); rintro e wh ⟨rfl, hbh⟩; have hB1 : Below w.heap.size w wh := (((Below.refl _ _).alloc (Nat.le_refl _) _).alloc (by simp) _).trans (hbh.mono (by simp; omega)); have hp1 : wh.cell? ⟨w.heap.size, 0, none⟩ = some (.slice A l.length c) := (hbh.cell (p := ⟨w.heap.size, 0, none⟩) (by simp; omega)).trans (cell_alloc_l _ (cell_new_l w _ _).1); have hp2 : wh.cell? ⟨w.heap.size + 1, 0, none⟩ = some (.int .i64 a) := (hbh.cell (p := ⟨w.heap.size + 1, 0, none⟩) (by simp)).trans (cell_at w _ _ _ _); clear hbh; have HB1 := Aside0.mk hB1; clear hB1)
  go_wp2_with (go_at_call 22; (with_reducible refine (with22_all 500 0 a l A c z0 0 w wh hp1 hp2 HB1.out HR.out hm H0.out).mono ?_); clear hp1 hp2; rintro e w2 ⟨rfl, hB2, hp1, hp2⟩; have HB2 := Aside0.mk hB2; clear hB2)
  go_wp2_with (go_at_call 22; (with_reducible refine (with22_all 500 1 a l A c z1 0 w w2 hp1 hp2 HB2.out HR.out hm H1.out).mono ?_); clear hp1 hp2; rintro e w3 ⟨rfl, hB3, hp1, hp2⟩; have HB3 := Aside0.mk hB3; clear hB3)
  go_wp2_with (go_at_call 23; (with_reducible refine (cohousingref22_Residue.calls v false _ HV.out).mono ?_); rintro e w4 ⟨rfl, ⟨nd, rfl⟩⟩)
  go_ret
  exact ⟨rfl, pw_below_drewN HB3.out _⟩
set_option maxRecDepth 100000 in
set_option maxHeartbeats 4000000 in
theorem secret_in (A : Option Addr) (c : Nat) (l : List S47) (a v z0 z1 d0 d1 q : Int) (w : World) (hT : TabW w) (hr : Kd.C k47 w A l.length l) (hc : l.length ≤ c) (hm : l.length * 16 ≤ 140737488351232) (h0 : lottery_Recover.f 500 (l ++ [⟨a, 0⟩]) = some (z0, 0)) (h1 : lottery_Recover.f 500 (l ++ [⟨a, 1⟩]) = some (z1, 0))
    (hv : isRes v = true) (hz0 : isRes z0 = true) (hz1 : isRes z1 = true) (hne : (z0 == z1) = false) (hd0 : cohousingref22_Less.f v z0 = some d0) (hd1 : cohousingref22_Less.f z1 z0 = some d1) (hq : cohousingref22_Over.f 500 d0 d1 = some q) (h2 : lottery_Recover.f 500 (l ++ [⟨a, q⟩]) = some (v, 0)) :
    Calls Tryd.prog 5 #[.slice A l.length c, .int .i64 a, .int .i64 v] w fun e w' => e = .returned (.bool true) ∧ Below w.heap.size w w' := by
  have H0 := Aside0.mk h0
  have H1 := Aside0.mk h1
  have H2 := Aside0.mk h2
  have HV := Aside0.mk (residueR_yes hv)
  have HZ0 := Aside0.mk (residueR_yes hz0)
  have HZ1 := Aside0.mk (residueR_yes hz1)
  have HD0 := Aside0.mk hd0
  have HD1 := Aside0.mk hd1
  have HQ := Aside0.mk hq
  have HT := Aside0.mk hT
  have HR := Aside0.mk hr
  clear h0 h1 h2 hT hr hv hz0 hz1 hd0 hd1 hq
  go_enter Tryd.func5, Tryd.ntmps5
  go_wp2_with (go_at_call 10; refine (cohousinglaw22_head.calls true _ ?hTT rfl).mono ?_; (case hTT => exact TabW.below HT.out (((Below.refl _ _).alloc (Nat.le_refl _) _).alloc (by simp) _)); rintro e wh ⟨rfl, hbh⟩; have hB1 : Below w.heap.size w wh := (((Below.refl _ _).alloc (Nat.le_refl _) _).alloc (by simp) _).trans (hbh.mono (by simp; omega)); have hp1 : wh.cell? ⟨w.heap.size, 0, none⟩ = some (.slice A l.length c) := (hbh.cell (p := ⟨w.heap.size, 0, none⟩) (by simp; omega)).trans (cell_alloc_l _ (cell_new_l w _ _).1); have hp2 : wh.cell? ⟨w.heap.size + 1, 0, none⟩ = some (.int .i64 a) := (hbh.cell (p := ⟨w.heap.size + 1, 0, none⟩) (by simp)).trans (cell_at w _ _ _ _); clear hbh; have HB1 := Aside0.mk hB1; clear hB1)
  go_wp2_with (go_at_call 22; (with_reducible refine (with22_all 500 0 a l A c z0 0 w wh hp1 hp2 HB1.out HR.out hm H0.out).mono ?_); clear hp1 hp2; rintro e w2 ⟨rfl, hB2, hp1, hp2⟩; have HB2 := Aside0.mk hB2; clear hB2)
  go_wp2_with (go_at_call 22; (with_reducible refine (with22_all 500 1 a l A c z1 0 w w2 hp1 hp2 HB2.out HR.out hm H1.out).mono ?_); clear hp1 hp2; rintro e w3 ⟨rfl, hB3, hp1, hp2⟩; have HB3 := Aside0.mk hB3; clear hB3)
  go_wp2_with (first | (go_at_call 23; (with_reducible refine (cohousingref22_Residue.calls v true _ HV.out).mono ?_); rintro e w4 ⟨rfl, ⟨nd, rfl⟩⟩) | (go_at_call 23; (with_reducible refine (cohousingref22_Residue.calls z0 true _ HZ0.out).mono ?_); rintro e w4 ⟨rfl, ⟨nd, rfl⟩⟩) | (go_at_call 23; (with_reducible refine (cohousingref22_Residue.calls z1 true _ HZ1.out).mono ?_); rintro e w4 ⟨rfl, ⟨nd, rfl⟩⟩) | (go_at_call 25; (with_reducible refine (cohousingref22_Less.calls v z0 d0 _ HD0.out).mono ?_); rintro e w4 ⟨rfl, ⟨nd, rfl⟩⟩) | (go_at_call 25; (with_reducible refine (cohousingref22_Less.calls z1 z0 d1 _ HD1.out).mono ?_); rintro e w4 ⟨rfl, ⟨nd, rfl⟩⟩) | (go_at_call 24; (with_reducible refine (cohousingref22_Over.calls 500 d0 d1 q _ HQ.out).mono ?_); rintro e w4 ⟨rfl, ⟨nd, rfl⟩⟩) | (go_at_call 22; (with_reducible refine (with22_all 500 q a l A c v 0 w _ ?q1 ?q2 ?q3 HR.out hm H2.out).mono ?_); (case q1 => exact hp1); (case q2 => exact hp2); (case q3 => exact pw_below_drewN HB3.out _); clear hp1 hp2; rintro e w5 ⟨rfl, hB5, hp1, hp2⟩; have HB5 := Aside0.mk hB5; clear hB5))
  go_ret
  exact ⟨rfl, HB5.out⟩
theorem LotterySecret_calls (A : Option Addr) (c : Nat) (l : List S47) (a v : Int) (w : World) (hT : TabW w) (hr : Kd.C k47 w A l.length l) (hc : l.length ≤ c) (hm : l.length * 16 ≤ 140737488351232) :
    Calls Tryd.prog 5 #[.slice A l.length c, .int .i64 a, .int .i64 v] w fun e w' => e = .returned (.bool true) ∧ Below w.heap.size w w' := by
  by_cases hb : RecV (l ++ [⟨a, 0⟩])
  · obtain ⟨P, K, hU, hx⟩ := secret_law hb
    have h0 := hx 0 (by decide) 500 (by decide)
    have h1 := hx 1 (by decide) 500 (by decide)
    have e0 : toF 0 = 0 := by decide
    have e1 : toF 1 = 1 := by decide
    rw [e0] at h0
    rw [e1] at h1
    cases hv : isRes v with
    | false => exact secret_out A c l a v _ _ w hT hr hc hm h0 h1 hv
    | true =>
      have hres : ∀ z : F, isRes (ofF z) = true := fun z => by
        have := ofF_lo z; have := ofF_hi z
        simp only [isRes, Bool.and_eq_true, decide_eq_true_eq]; omega
      have hvF : ofF (toF v) = v := by
        simp only [isRes, Bool.and_eq_true, decide_eq_true_eq] at hv
        exact ofF_toF (by omega) (by omega)
      have hd0 := less_F (toF v) (P + 0 * K)
      rw [hvF] at hd0
      have h2 := hx (ofF ((toF v - (P + 0 * K)) * inv ((P + 1 * K) - (P + 0 * K)))) (hres _) 500 (by decide)
      rw [toF_ofF, secret_end hU, hvF] at h2
      exact secret_in A c l a v _ _ _ _ _ w hT hr hc hm h0 h1 hv (hres _) (hres _) (by simpa using secret_ne hU) hd0 (less_F _ _) (over_F _ _ 500 (by decide)) h2
  · exact secret_bad A c l a v w hT hr hc hm hb
end Go.Proofs.YtkghgaifgpgfkaaDoor.PL
end
