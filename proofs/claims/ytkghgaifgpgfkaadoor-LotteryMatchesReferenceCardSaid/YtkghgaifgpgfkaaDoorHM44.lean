/- Lemmas and walks for lotteryMatchesReferenceCard_holds (part 44), without what it does not use. -/
import Derived.Test.YtkghgaifgpgfkaaDoorHM12
import Derived.Test.YtkghgaifgpgfkaaDoorHM36
import Derived.Test.YtkghgaifgpgfkaaDoorHM42
import Derived.Test.YtkghgaifgpgfkaaDoorHM43
section
namespace Go.Proofs.YtkghgaifgpgfkaaDoor.PL
open Go.RowKit Go.Proofs.YtkghgaifgpgfkaaDoorW.PrintWords Go.Proofs.YtkghgaifgpgfkaaDoorW.PrintLast Go.Proofs.YtkghgaifgpgfkaaDoorW.PrintMore
attribute [local go_sem] max2_int min2_int max_two min_two max_three min_three max_four min_four   -- for this text's walks alone
set_option linter.unusedVariables false
set_option linter.unusedSimpArgs false
mutual
def cohousingref22_Draw.j0 : Nat → List (S31) → Int → List (S23) → Bool → Option (Int × List Int × Int)
  | 0, _, _, _, _ => none
  | k + 1, x0, x1, x2, x38 => if x38 = true then (some (0, ([] : List Int), 1)) else (cohousingref22_Draw.l0 k x0 x1 x2 0 0 ([] : List Int) 0)
def cohousingref22_Draw.l0 : Nat → List (S31) → Int → List (S23) → Int → Int → List Int → Int → Option (Int × List Int × Int)
  | 0, _, _, _, _, _, _, _ => none
  | k + 1, x0, x1, x2, x11, x12, x13, x14 => if x14 < (x0.length : Int) then (if 0 ≤ x14 then ((cohousingref22_Value.f k ((rd_T31 x0 x14).f0) ((rd_T31 x0 x14).f1) ((rd_T31 x0 x14).f2) x1).bind fun bt280 => (cohousingref22_Draw.l1 k x0 x1 x2 (Int.tmod (wrap64 (x11 + bt280.1)) 1073741789) x12 x13 x14 bt280.1 (!bt280.2) 0)) else (none)) else (if x12 < x1 then (some (0, ([] : List Int), 33)) else (some (x11, x13, 0)))
def cohousingref22_Draw.l1 : Nat → List (S31) → Int → List (S23) → Int → Int → List Int → Int → Int → Bool → Int → Option (Int × List Int × Int)
  | 0, _, _, _, _, _, _, _, _, _, _ => none
  | k + 1, x0, x1, x2, x11, x12, x13, x14, x15, x17, x18 => if x18 < (x2.length : Int) then (if 0 ≤ x18 then (if ((rd_T23 x2 x18).f0) = (wrap64 (x14 + 1)) then ((cohousingref22_Sum.f k ((rd_T23 x2 x18).f0) ((rd_T23 x2 x18).f1) ((rd_T23 x2 x18).f2)).bind fun t287 => (if 0 ≤ x14 then (if x14 < (x0.length : Int) then (if t287 = ((rd_T31 x0 x14).f1) then (if x17 = true then (cohousingref22_Draw.l1 k x0 x1 x2 x11 (wrap64 (x12 + 1)) x13 x14 x15 true (wrap64 (x18 + 1))) else (cohousingref22_Draw.l1 k x0 x1 x2 x11 (wrap64 (x12 + 1)) x13 x14 x15 (((rd_T23 x2 x18).f1) != x15) (wrap64 (x18 + 1)))) else (if x17 = true then (cohousingref22_Draw.l1 k x0 x1 x2 x11 x12 x13 x14 x15 true (wrap64 (x18 + 1))) else (cohousingref22_Draw.l1 k x0 x1 x2 x11 x12 x13 x14 x15 true (wrap64 (x18 + 1))))) else (none)) else (none))) else (cohousingref22_Draw.l1 k x0 x1 x2 x11 x12 x13 x14 x15 x17 (wrap64 (x18 + 1)))) else (none)) else (if x17 = true then (if x13.length < 17592186044416 then (cohousingref22_Draw.l0 k x0 x1 x2 x11 x12 (x13 ++ [wrap64 (x14 + 1)]) (wrap64 (x14 + 1))) else (none)) else (cohousingref22_Draw.l0 k x0 x1 x2 x11 x12 x13 (wrap64 (x14 + 1))))
end
def cohousingref22_Draw.f (k : Nat) (l0 : List (S31)) (a1 : Int) (l2 : List (S23)) : Option (Int × List Int × Int) := (cohousingref22_pledges.f k l0).bind fun t276 => ((cohousingref22_secrets.f k l2 (l0.length : Int)).bind fun t277 => (if t276 = true then (if t277 = true then ((cohousingref22_in.f a1 1 (l0.length : Int)).bind fun t278 => (cohousingref22_Draw.j0 k l0 a1 l2 (!t278))) else (cohousingref22_Draw.j0 k l0 a1 l2 true)) else (cohousingref22_Draw.j0 k l0 a1 l2 true)))
set_option maxHeartbeats 8000000 in
set_option maxRecDepth 100000 in
theorem cohousingref22_Draw.calls (k : Nat) (A0 : Option Addr) (c0 : Nat) (l0 : List (S31)) (a1 : Int) (A2 : Option Addr) (c2 : Nat) (l2 : List (S23)) (r1 : Int) (r2 : List Int) (r3 : Int) (w : World) (hr0 : Kd.C k31 w A0 l0.length l0) (hc0 : l0.length ≤ c0) (hr2 : Kd.C k23 w A2 l2.length l2) (hc2 : l2.length ≤ c2) (h : cohousingref22_Draw.f k l0 a1 l2 = some (r1, r2, r3)) :
    Calls Tryd.prog 17 #[.slice A0 l0.length c0, .int .i64 a1, .slice A2 l2.length c2] w fun e w' => ∃ v1_ : Value, e = .returned (.tuple #[.int .i64 r1, v1_, .int .i64 r3]) ∧ Kd.R (Kd.int .i64) 3 w' w.heap.size (fun _ => True) v1_ r2 ∧ Below w.heap.size w w' := by
  have hu31 := Tryd.underlying31
  have hu23 := Tryd.underlying23
  have HR0 := Aside0.mk hr0
  have HC0 := Aside0.mk hc0
  clear hr0 hc0
  have HR2 := Aside0.mk hr2
  have HC2 := Aside0.mk hc2
  clear hr2 hc2
  have HB := Aside0.mk (Below.refl w.heap.size w)
  have H : ((cohousingref22_pledges.f k l0).bind fun t276 => ((cohousingref22_secrets.f k l2 (l0.length : Int)).bind fun t277 => (if t276 = true then (if t277 = true then ((cohousingref22_in.f a1 1 (l0.length : Int)).bind fun t278 => (cohousingref22_Draw.j0 k l0 a1 l2 (!t278))) else (cohousingref22_Draw.j0 k l0 a1 l2 true)) else (cohousingref22_Draw.j0 k l0 a1 l2 true)))) = some (r1, r2, r3) := h
  clear h
  replace H := Option.bind_eq_some_iff.mp H
  obtain ⟨t276, A40, H⟩ := H
  replace H : ((cohousingref22_secrets.f k l2 (l0.length : Int)).bind fun t277 => (if t276 = true then (if t277 = true then ((cohousingref22_in.f a1 1 (l0.length : Int)).bind fun t278 => (cohousingref22_Draw.j0 k l0 a1 l2 (!t278))) else (cohousingref22_Draw.j0 k l0 a1 l2 true)) else (cohousingref22_Draw.j0 k l0 a1 l2 true))) = some (r1, r2, r3) := H
  have A4 := Aside0.mk A40
  clear A40
  replace H := Option.bind_eq_some_iff.mp H
  obtain ⟨t277, A50, H⟩ := H
  replace H : (if t276 = true then (if t277 = true then ((cohousingref22_in.f a1 1 (l0.length : Int)).bind fun t278 => (cohousingref22_Draw.j0 k l0 a1 l2 (!t278))) else (cohousingref22_Draw.j0 k l0 a1 l2 true)) else (cohousingref22_Draw.j0 k l0 a1 l2 true)) = some (r1, r2, r3) := H
  have A5 := Aside0.mk A50
  clear A50
  have HC6 := Aside0.mk H
  clear H
  go_enter Tryd.func17, Tryd.ntmps17
  go_upto_region 3 with (first | ((with_reducible refine gate_callee (f := 42) rfl ?_); refine goesL_ (some 21) rfl rfl Tryd.func42 (by kernel_rfl) rfl #[.slice A0 l0.length c0] rfl (by (try simp only [List.map_toArray, List.map_cons, List.map_nil]); first | done | rfl | (simp only [List.length_drop, List.length_take]; rfl)) ?_; (with_reducible refine (cohousingref22_pledges.calls k _ _ l0 t276 _ ?side1 ?side2 A4.out).mono ?_); (case side1 => repeat (first | exact HR0.out | (with_reducible refine Kd.C_alloc ?_ _) | (with_reducible refine Kd.C_drewN ?_ _) | (with_reducible refine Kd.C_drew ?_))); (case side2 => exact HC0.out); rintro e w' ⟨rfl, ⟨nd, rfl⟩⟩; refine ⟨_, rfl, ?_⟩) | ((with_reducible refine gate_callee (f := 43) rfl ?_); refine goesL_ (some 25) rfl rfl Tryd.func43 (by kernel_rfl) rfl #[.slice A2 l2.length c2, .int .i64 (l0.length : Int)] rfl (by (try simp only [List.map_toArray, List.map_cons, List.map_nil]); first | done | rfl | (simp only [List.length_drop, List.length_take]; rfl)) ?_; (with_reducible refine (cohousingref22_secrets.calls k _ _ l2 (l0.length : Int) t277 _ ?side1 ?side2 A5.out).mono ?_); (case side1 => repeat (first | exact HR2.out | (with_reducible refine Kd.C_alloc ?_ _) | (with_reducible refine Kd.C_drewN ?_ _) | (with_reducible refine Kd.C_drew ?_))); (case side2 => exact HC2.out); rintro e w' ⟨rfl, ⟨nd, rfl⟩⟩; refine ⟨_, rfl, ?_⟩))
  (try simp only [Act.put, List.setIfInBounds_toArray, List.set_cons_zero, List.set_cons_succ])
  go_cut [38] (fun v38 wc => ∃ (kq : Nat) (x38_5 : Bool), v38 = .bool x38_5 ∧ Aside0 (cohousingref22_Draw.j0 kq l0 a1 l2 x38_5 = some (r1, r2, r3)) ∧ Aside0 (kq ≤ k) ∧ Aside0 (Below w.heap.size w wc))
  case first =>
    have H := HC6.out
    clear HC6
    by_cases c7 : t276 = true
    · subst c7
      have H1 : (if t277 = true then ((cohousingref22_in.f a1 1 (l0.length : Int)).bind fun t278 => (cohousingref22_Draw.j0 k l0 a1 l2 (!t278))) else (cohousingref22_Draw.j0 k l0 a1 l2 true)) = some (r1, r2, r3) := by rw [if_pos rfl] at H; exact H
      clear H
      have H := H1
      clear H1
      by_cases c8 : t277 = true
      · subst c8
        have H1 : ((cohousingref22_in.f a1 1 (l0.length : Int)).bind fun t278 => (cohousingref22_Draw.j0 k l0 a1 l2 (!t278))) = some (r1, r2, r3) := by rw [if_pos rfl] at H; exact H
        clear H
        have H := H1
        clear H1
        replace H := Option.bind_eq_some_iff.mp H
        obtain ⟨t278, A90, H⟩ := H
        replace H : (cohousingref22_Draw.j0 k l0 a1 l2 (!t278)) = some (r1, r2, r3) := H
        have A9 := Aside0.mk A90
        clear A90
        have H' := Aside0.mk H
        clear H
        go_wp2_with (first | (go_at_call 33; (with_reducible refine (cohousingref22_in.calls a1 1 (l0.length : Int) t278 _ A9.out).mono ?_); rintro e w' ⟨rfl, ⟨nd, rfl⟩⟩))
        go_meet
        case rel => exact ⟨_, (!t278), (by first | rfl | (simp; done) | (simp [*]; done)), H', ⟨by first | omega | exact Nat.le_refl _⟩, ⟨by repeat (first | (with_reducible first | exact HB.out | apply below_alloc | apply pw_below_drewN | apply below_drew1) | exact HB.out)⟩⟩
      · replace c8 := Bool.eq_false_iff.mpr c8
        subst c8
        have H1 : (cohousingref22_Draw.j0 k l0 a1 l2 true) = some (r1, r2, r3) := by rw [if_neg (show ¬ (false = true) by decide)] at H; exact H
        clear H
        have H := H1
        clear H1
        have H' := Aside0.mk H
        clear H
        go_wp2
        go_meet
        case rel => exact ⟨_, (true), (by first | rfl | (simp; done) | (simp [*]; done)), H', ⟨by first | omega | exact Nat.le_refl _⟩, ⟨by repeat (first | (with_reducible first | exact HB.out | apply below_alloc | apply pw_below_drewN | apply below_drew1) | exact HB.out)⟩⟩
    · replace c7 := Bool.eq_false_iff.mpr c7
      subst c7
      have H1 : (cohousingref22_Draw.j0 k l0 a1 l2 true) = some (r1, r2, r3) := by rw [if_neg (show ¬ (false = true) by decide)] at H; exact H
      clear H
      have H := H1
      clear H1
      have H' := Aside0.mk H
      clear H
      go_wp2
      go_meet
      case rel => exact ⟨_, (true), (by first | rfl | (simp; done) | (simp [*]; done)), H', ⟨by first | omega | exact Nat.le_refl _⟩, ⟨by repeat (first | (with_reducible first | exact HB.out | apply below_alloc | apply pw_below_drewN | apply below_drew1) | exact HB.out)⟩⟩
  case rest =>
    clear HC6
    try clear c1
    try clear c2
    try clear p2
    try clear c4
    try clear c7
    try clear c8
    obtain ⟨kq, x38_5, rfl, HA, HJ5, HB⟩ := hcut
    cases kq with
    | zero => exact absurd HA.out (by simp [cohousingref22_Draw.j0])
    | succ kj5 =>
      have H := HA.out
      clear HA
      simp only [cohousingref22_Draw.j0] at H
      by_cases c10 : x38_5 = true
      · subst c10
        have H1 : (some (0, ([] : List Int), 1)) = some (r1, r2, r3) := by rw [if_pos rfl] at H; exact H
        clear H
        have H := H1
        clear H1
        simp only [Option.some.injEq, Prod.mk.injEq] at H
        obtain ⟨rfl, rfl, rfl⟩ := H
        go_wp2
        go_ret3
        exact ⟨_, by first | rfl | (simp [errW_none, errW_some] <;> rfl) | (simp [*, errW_none, errW_some] <;> rfl), by first | exact Kd.R_nil _ _ _ _ _ | exact Kd.N_nil _ _ _ _ _ | exact Kd.V_nil _ _ _ _ _ | exact Kd.Q_nil _ _ _ _ _ | exact Kd.S_nil _ _ _ _ _, by repeat (first | (with_reducible first | exact HB.out | apply below_alloc | apply pw_below_drewN | apply below_drew1) | exact HB.out)⟩
      · replace c10 := Bool.eq_false_iff.mpr c10
        subst c10
        have H1 : (cohousingref22_Draw.l0 kj5 l0 a1 l2 0 0 ([] : List Int) 0) = some (r1, r2, r3) := by rw [if_neg (show ¬ (false = true) by decide)] at H; exact H
        clear H
        have H := H1
        clear H1
        have H' := Aside0.mk H
        clear H
        go_wp2
        go_loopg [11, 12, 13, 14] kj5 (fun kq v11 v12 v13 v14 w' => ∃ (x11_2 : Int) (x12_2 : Int) (x13_2 : List Int) (x14_2 : Int), v11 = .int .i64 x11_2 ∧ v12 = .int .i64 x12_2 ∧ v14 = .int .i64 x14_2 ∧ Aside0 (cohousingref22_Draw.l0 kq l0 a1 l2 x11_2 x12_2 x13_2 x14_2 = some (r1, r2, r3)) ∧ Aside0 (kq ≤ kj5) ∧ Aside0 (Kd.R (Kd.int .i64) 3 w' w.heap.size (fun _ => True) v13 x13_2) ∧ Aside0 (Below w.heap.size w w'))
        case atStart => exact ⟨(0), (0), (([] : List Int)), (0), (by first | rfl | (simp; done) | (simp [*]; done)), (by first | rfl | (simp; done) | (simp [*]; done)), (by first | rfl | (simp; done) | (simp [*]; done)), H', ⟨Nat.le_refl _⟩, ⟨by first | exact Kd.R_nil _ _ _ _ _ | exact Kd.N_nil _ _ _ _ _ | exact Kd.V_nil _ _ _ _ _ | exact Kd.Q_nil _ _ _ _ _ | exact Kd.S_nil _ _ _ _ _⟩, ⟨by repeat (first | (with_reducible first | exact HB.out | apply below_alloc | apply pw_below_drewN | apply below_drew1) | exact HB.out)⟩⟩
        case round =>
          clear H'
          try clear c1
          try clear c2
          try clear p2
          try clear c4
          try clear c7
          try clear c8
          try clear c10
          try clear p2
          obtain ⟨x11_2, x12_2, x13_2, x14_2, rfl, rfl, rfl, HA, HK2, HO_13, HB⟩ := hrel
          cases gk with
          | zero => exact absurd HA.out (by simp [cohousingref22_Draw.l0])
          | succ k2 =>
            have H := HA.out
            clear HA
            simp only [cohousingref22_Draw.l0] at H
            by_cases c11 : x14_2 < (l0.length : Int)
            · rw [if_pos c11] at H
              have c11b0 : decide (x14_2 < (l0.length : Int)) = true := decide_eq_true c11
              clear c11
              by_cases c12 : 0 ≤ x14_2
              · rw [if_pos c12] at H
                have c12b0 : decide (0 ≤ x14_2) = true := decide_eq_true c12
                clear c12
                replace H := Option.bind_eq_some_iff.mp H
                obtain ⟨⟨t280, t281⟩, A130, H⟩ := H
                replace H : (cohousingref22_Draw.l1 k2 l0 a1 l2 (Int.tmod (wrap64 (x11_2 + t280)) 1073741789) x12_2 x13_2 x14_2 t280 (!t281) 0) = some (r1, r2, r3) := H
                have A13 := Aside0.mk A130
                clear A130
                have H' := Aside0.mk H
                clear H
                have p279 : 0 ≤ (x14_2 : Int) := of_decide_eq_true (by first | (with_reducible assumption) | assumption)
                have q279 : x14_2 < (l0.length : Int) := of_decide_eq_true (by first | (with_reducible assumption) | assumption)
                obtain ⟨ad279, A279_2, c279_2, e279, hx279_0, hx279_1, hx279_2, hl279_2, hi279_2⟩ := at_T31 HR0.out x14_2 p279 q279
                cases e279
                replace hx279_0 := (HB.out.cell (World.block_lt_of_cell? w _ hx279_0)).trans hx279_0
                replace hx279_1 := (HB.out.cell (World.block_lt_of_cell? w _ hx279_1)).trans hx279_1
                replace hx279_2 := (HB.out.cell (World.block_lt_of_cell? w _ hx279_2)).trans hx279_2
                have HR279_2 := Aside0.mk hi279_2
                have HC279_2 := Aside0.mk hl279_2
                clear hi279_2 hl279_2
                replace p279 := eq_true p279
                replace q279 := eq_true q279
                go_wp2_with (first | ((with_reducible refine gate_callee (f := 44) rfl ?_); refine goesL_ (some 51) rfl rfl Tryd.func44 (by kernel_rfl) rfl #[.agg #[.int .i64 ((rd_T31 l0 x14_2).f0), .int .u64 ((rd_T31 l0 x14_2).f1), .slice A279_2 ((rd_T31 l0 x14_2).f2).length c279_2], .int .i64 a1] rfl (by (try simp only [List.map_toArray, List.map_cons, List.map_nil]); first | done | rfl | (simp only [List.length_drop, List.length_take]; rfl)) ?_; (with_reducible refine (cohousingref22_Value.calls k2 ((rd_T31 l0 x14_2).f0) ((rd_T31 l0 x14_2).f1) _ _ ((rd_T31 l0 x14_2).f2) a1 t280 t281 _ ?side1 ?side2 A13.out).mono ?_); (case side1 => repeat (first | exact (Kd.C_below HR279_2.out HB.out) | (with_reducible refine Kd.C_alloc ?_ _) | (with_reducible refine Kd.C_drewN ?_ _) | (with_reducible refine Kd.C_drew ?_))); (case side2 => exact HC279_2.out); rintro e w14 ⟨rfl, hb⟩; refine ⟨_, rfl, ?_⟩; have n0_ := Aside0.mk (Kd.R_below (by (with_reducible repeat (first | apply Kd.R_alloc | apply Kd.R_drewN | apply Kd.R_drew)); exact HO_13.out) hb); have n1_ := Aside0.mk (below_step (by repeat (first | (with_reducible first | exact HB.out | apply below_alloc | apply pw_below_drewN | apply below_drew1) | exact HB.out)) hb); clear HO_13; clear HB; have HO_13 := n0_; have HB := n1_; clear n0_ n1_; (try clear hb); (try clear hb2); (try clear hk); (try clear hi)))
                go_loopg [12, 17, 18] k2 (fun kq v12 v17 v18 w' => ∃ (x12_3 : Int) (x17_3 : Bool) (x18_3 : Int), v12 = .int .i64 x12_3 ∧ v17 = .bool x17_3 ∧ v18 = .int .i64 x18_3 ∧ Aside0 (cohousingref22_Draw.l1 kq l0 a1 l2 (Int.tmod (wrap64 (x11_2 + t280)) 1073741789) x12_3 x13_2 x14_2 t280 x17_3 x18_3 = some (r1, r2, r3)) ∧ Aside0 (kq ≤ k2) ∧ Aside0 (Kd.R (Kd.int .i64) 3 w' w.heap.size (fun _ => True) u13 x13_2) ∧ Aside0 (Below w.heap.size w w'))
                case atStart => exact ⟨(x12_2), (!t281), (0), (by first | rfl | (simp; done) | (simp [*]; done)), (by first | rfl | (simp; done) | (simp [*]; done)), (by first | rfl | (simp; done) | (simp [*]; done)), H', ⟨Nat.le_refl _⟩, ⟨by (with_reducible repeat (first | apply Kd.R_alloc | apply Kd.R_drewN | apply Kd.R_drew)); exact HO_13.out⟩, ⟨by repeat (first | (with_reducible first | exact HB.out | apply below_alloc | apply pw_below_drewN | apply below_drew1) | exact HB.out)⟩⟩
                case round =>
                  clear H'
                  try clear c1
                  try clear c2
                  try clear p2
                  try clear q2
                  try clear hx2
                  try clear c4
                  try clear p6
                  try clear c7
                  try clear c8
                  try clear c10
                  try clear c11
                  try clear c11b0
                  try clear c12
                  try clear c12b0
                  try clear hx279_0
                  try clear hx279_1
                  try clear hx279_2
                  try clear p2
                  try clear p279
                  try clear q279
                  obtain ⟨x12_3, x17_3, x18_3, rfl, rfl, rfl, HA, HK3, HO_13, HB⟩ := hrel
                  cases gk with
                  | zero => exact absurd HA.out (by simp [cohousingref22_Draw.l1])
                  | succ k3 =>
                    have H := HA.out
                    clear HA
                    simp only [cohousingref22_Draw.l1] at H
                    by_cases c15 : x18_3 < (l2.length : Int)
                    · rw [if_pos c15] at H
                      have c15b0 : decide (x18_3 < (l2.length : Int)) = true := decide_eq_true c15
                      clear c15
                      by_cases c16 : 0 ≤ x18_3
                      · rw [if_pos c16] at H
                        have c16b0 : decide (0 ≤ x18_3) = true := decide_eq_true c16
                        clear c16
                        by_cases c17 : ((rd_T23 l2 x18_3).f0) = (wrap64 (x14_2 + 1))
                        · rw [if_pos c17] at H
                          have c17b0 : (((rd_T23 l2 x18_3).f0) == (wrap64 (x14_2 + 1))) = true := beq_iff_eq.mpr c17
                          have c17b1 : (((rd_T23 l2 x18_3).f0) != (wrap64 (x14_2 + 1))) = false := bne_eq_false_iff_eq.mpr c17
                          clear c17
                          replace H := Option.bind_eq_some_iff.mp H
                          obtain ⟨t287, A180, H⟩ := H
                          replace H : (if 0 ≤ x14_2 then (if x14_2 < (l0.length : Int) then (if t287 = ((rd_T31 l0 x14_2).f1) then (if x17_3 = true then (cohousingref22_Draw.l1 k3 l0 a1 l2 (Int.tmod (wrap64 (x11_2 + t280)) 1073741789) (wrap64 (x12_3 + 1)) x13_2 x14_2 t280 true (wrap64 (x18_3 + 1))) else (cohousingref22_Draw.l1 k3 l0 a1 l2 (Int.tmod (wrap64 (x11_2 + t280)) 1073741789) (wrap64 (x12_3 + 1)) x13_2 x14_2 t280 (((rd_T23 l2 x18_3).f1) != t280) (wrap64 (x18_3 + 1)))) else (if x17_3 = true then (cohousingref22_Draw.l1 k3 l0 a1 l2 (Int.tmod (wrap64 (x11_2 + t280)) 1073741789) x12_3 x13_2 x14_2 t280 true (wrap64 (x18_3 + 1))) else (cohousingref22_Draw.l1 k3 l0 a1 l2 (Int.tmod (wrap64 (x11_2 + t280)) 1073741789) x12_3 x13_2 x14_2 t280 true (wrap64 (x18_3 + 1))))) else (none)) else (none)) = some (r1, r2, r3) := H
                          have A18 := Aside0.mk A180
                          clear A180
                          by_cases c19 : 0 ≤ x14_2
                          · rw [if_pos c19] at H
                            have c19b0 : decide (0 ≤ x14_2) = true := decide_eq_true c19
                            clear c19
                            by_cases c20 : x14_2 < (l0.length : Int)
                            · rw [if_pos c20] at H
                              have c20b0 : decide (x14_2 < (l0.length : Int)) = true := decide_eq_true c20
                              clear c20
                              by_cases c21 : t287 = ((rd_T31 l0 x14_2).f1)
                              · rw [if_pos c21] at H
                                have c21b0 : (t287 == ((rd_T31 l0 x14_2).f1)) = true := beq_iff_eq.mpr c21
                                have c21b1 : (t287 != ((rd_T31 l0 x14_2).f1)) = false := bne_eq_false_iff_eq.mpr c21
                                clear c21
                                by_cases c22 : x17_3 = true
                                · subst c22
                                  have H1 : (cohousingref22_Draw.l1 k3 l0 a1 l2 (Int.tmod (wrap64 (x11_2 + t280)) 1073741789) (wrap64 (x12_3 + 1)) x13_2 x14_2 t280 true (wrap64 (x18_3 + 1))) = some (r1, r2, r3) := by rw [if_pos rfl] at H; exact H
                                  clear H
                                  have H := H1
                                  clear H1
                                  have H' := Aside0.mk H
                                  clear H
                                  have p285 : 0 ≤ (x18_3 : Int) := of_decide_eq_true (by first | (with_reducible assumption) | assumption)
                                  have q285 : x18_3 < (l2.length : Int) := of_decide_eq_true (by first | (with_reducible assumption) | assumption)
                                  obtain ⟨ad285, e285, hx285_0, hx285_1, hx285_2⟩ := at_T23 HR2.out x18_3 p285 q285
                                  cases e285
                                  replace hx285_0 := (HB.out.cell (World.block_lt_of_cell? w _ hx285_0)).trans hx285_0
                                  replace hx285_1 := (HB.out.cell (World.block_lt_of_cell? w _ hx285_1)).trans hx285_1
                                  replace hx285_2 := (HB.out.cell (World.block_lt_of_cell? w _ hx285_2)).trans hx285_2
                                  replace p285 := eq_true p285
                                  replace q285 := eq_true q285
                                  have p286 : 0 ≤ (x18_3 : Int) := of_decide_eq_true (by first | (with_reducible assumption) | assumption)
                                  have q286 : x18_3 < (l2.length : Int) := of_decide_eq_true (by first | (with_reducible assumption) | assumption)
                                  obtain ⟨ad286, e286, hx286_0, hx286_1, hx286_2⟩ := at_T23 HR2.out x18_3 p286 q286
                                  obtain rfl : ad285 = ad286 := (by injection e286)
                                  replace hx286_0 := (HB.out.cell (World.block_lt_of_cell? w _ hx286_0)).trans hx286_0
                                  replace hx286_1 := (HB.out.cell (World.block_lt_of_cell? w _ hx286_1)).trans hx286_1
                                  replace hx286_2 := (HB.out.cell (World.block_lt_of_cell? w _ hx286_2)).trans hx286_2
                                  replace p286 := eq_true p286
                                  replace q286 := eq_true q286
                                  go_wp2_with (first | ((with_reducible refine gate_callee (f := 28) rfl ?_); refine goesL_ (some 78) rfl rfl Tryd.func28 (by kernel_rfl) rfl #[.agg #[.int .i64 ((rd_T23 l2 x18_3).f0), .int .i64 ((rd_T23 l2 x18_3).f1), .int .i64 ((rd_T23 l2 x18_3).f2)]] rfl (by (try simp only [List.map_toArray, List.map_cons, List.map_nil]); first | done | rfl | (simp only [List.length_drop, List.length_take]; rfl)) ?_; (with_reducible refine (cohousingref22_Sum.calls k3 ((rd_T23 l2 x18_3).f0) ((rd_T23 l2 x18_3).f1) ((rd_T23 l2 x18_3).f2) t287 _ A18.out).mono ?_); rintro e w23 ⟨rfl, hb⟩; refine ⟨_, rfl, ?_⟩; have n0_ := Aside0.mk (Kd.R_below (by (with_reducible repeat (first | apply Kd.R_alloc | apply Kd.R_drewN | apply Kd.R_drew)); exact HO_13.out) hb); have n1_ := Aside0.mk (below_step (by repeat (first | (with_reducible first | exact HB.out | apply below_alloc | apply pw_below_drewN | apply below_drew1) | exact HB.out)) hb); clear HO_13; clear HB; have HO_13 := n0_; have HB := n1_; clear n0_ n1_; (try clear hb); (try clear hb2); (try clear hk); (try clear hi); have p288 : 0 ≤ (x14_2 : Int) := of_decide_eq_true (by first | (with_reducible assumption) | assumption); have q288 : x14_2 < (l0.length : Int) := of_decide_eq_true (by first | (with_reducible assumption) | assumption); obtain ⟨ad288, A288_2, c288_2, e288, hx288_0, hx288_1, hx288_2, hl288_2, hi288_2⟩ := at_T31 HR0.out x14_2 p288 q288; obtain rfl : ad279 = ad288 := (by injection e288); replace hx288_0 := (HB.out.cell (World.block_lt_of_cell? w _ hx288_0)).trans hx288_0; replace hx288_1 := (HB.out.cell (World.block_lt_of_cell? w _ hx288_1)).trans hx288_1; replace hx288_2 := (HB.out.cell (World.block_lt_of_cell? w _ hx288_2)).trans hx288_2; have HR288_2 := Aside0.mk hi288_2; have HC288_2 := Aside0.mk hl288_2; clear hi288_2 hl288_2; replace p288 := eq_true p288; replace q288 := eq_true q288))
                                  go_roundg k3
                                  case measure => have := HJ5.out; have := HK2.out; have := HK3.out; omega
                                  case rel => exact ⟨(wrap64 (x12_3 + 1)), (true), (wrap64 (x18_3 + 1)), (by first | rfl | (simp; done) | (simp [*]; done)), (by first | rfl | (simp; done) | (simp [*]; done)), (by first | rfl | (simp; done) | (simp [*]; done)), H', ⟨by have := HJ5.out; have := HK2.out; have := HK3.out; omega⟩, ⟨by (with_reducible repeat (first | apply Kd.R_alloc | apply Kd.R_drewN | apply Kd.R_drew)); exact HO_13.out⟩, ⟨by repeat (first | (with_reducible first | exact HB.out | apply below_alloc | apply pw_below_drewN | apply below_drew1) | exact HB.out)⟩⟩
                                · replace c22 := Bool.eq_false_iff.mpr c22
                                  subst c22
                                  have H1 : (cohousingref22_Draw.l1 k3 l0 a1 l2 (Int.tmod (wrap64 (x11_2 + t280)) 1073741789) (wrap64 (x12_3 + 1)) x13_2 x14_2 t280 (((rd_T23 l2 x18_3).f1) != t280) (wrap64 (x18_3 + 1))) = some (r1, r2, r3) := by rw [if_neg (show ¬ (false = true) by decide)] at H; exact H
                                  clear H
                                  have H := H1
                                  clear H1
                                  have H' := Aside0.mk H
                                  clear H
                                  have p285 : 0 ≤ (x18_3 : Int) := of_decide_eq_true (by first | (with_reducible assumption) | assumption)
                                  have q285 : x18_3 < (l2.length : Int) := of_decide_eq_true (by first | (with_reducible assumption) | assumption)
                                  obtain ⟨ad285, e285, hx285_0, hx285_1, hx285_2⟩ := at_T23 HR2.out x18_3 p285 q285
                                  cases e285
                                  replace hx285_0 := (HB.out.cell (World.block_lt_of_cell? w _ hx285_0)).trans hx285_0
                                  replace hx285_1 := (HB.out.cell (World.block_lt_of_cell? w _ hx285_1)).trans hx285_1
                                  replace hx285_2 := (HB.out.cell (World.block_lt_of_cell? w _ hx285_2)).trans hx285_2
                                  replace p285 := eq_true p285
                                  replace q285 := eq_true q285
                                  have p286 : 0 ≤ (x18_3 : Int) := of_decide_eq_true (by first | (with_reducible assumption) | assumption)
                                  have q286 : x18_3 < (l2.length : Int) := of_decide_eq_true (by first | (with_reducible assumption) | assumption)
                                  obtain ⟨ad286, e286, hx286_0, hx286_1, hx286_2⟩ := at_T23 HR2.out x18_3 p286 q286
                                  obtain rfl : ad285 = ad286 := (by injection e286)
                                  replace hx286_0 := (HB.out.cell (World.block_lt_of_cell? w _ hx286_0)).trans hx286_0
                                  replace hx286_1 := (HB.out.cell (World.block_lt_of_cell? w _ hx286_1)).trans hx286_1
                                  replace hx286_2 := (HB.out.cell (World.block_lt_of_cell? w _ hx286_2)).trans hx286_2
                                  replace p286 := eq_true p286
                                  replace q286 := eq_true q286
                                  go_wp2_with (first | ((with_reducible refine gate_callee (f := 28) rfl ?_); refine goesL_ (some 78) rfl rfl Tryd.func28 (by kernel_rfl) rfl #[.agg #[.int .i64 ((rd_T23 l2 x18_3).f0), .int .i64 ((rd_T23 l2 x18_3).f1), .int .i64 ((rd_T23 l2 x18_3).f2)]] rfl (by (try simp only [List.map_toArray, List.map_cons, List.map_nil]); first | done | rfl | (simp only [List.length_drop, List.length_take]; rfl)) ?_; (with_reducible refine (cohousingref22_Sum.calls k3 ((rd_T23 l2 x18_3).f0) ((rd_T23 l2 x18_3).f1) ((rd_T23 l2 x18_3).f2) t287 _ A18.out).mono ?_); rintro e w24 ⟨rfl, hb⟩; refine ⟨_, rfl, ?_⟩; have n0_ := Aside0.mk (Kd.R_below (by (with_reducible repeat (first | apply Kd.R_alloc | apply Kd.R_drewN | apply Kd.R_drew)); exact HO_13.out) hb); have n1_ := Aside0.mk (below_step (by repeat (first | (with_reducible first | exact HB.out | apply below_alloc | apply pw_below_drewN | apply below_drew1) | exact HB.out)) hb); clear HO_13; clear HB; have HO_13 := n0_; have HB := n1_; clear n0_ n1_; (try clear hb); (try clear hb2); (try clear hk); (try clear hi); have p288 : 0 ≤ (x14_2 : Int) := of_decide_eq_true (by first | (with_reducible assumption) | assumption); have q288 : x14_2 < (l0.length : Int) := of_decide_eq_true (by first | (with_reducible assumption) | assumption); obtain ⟨ad288, A288_2, c288_2, e288, hx288_0, hx288_1, hx288_2, hl288_2, hi288_2⟩ := at_T31 HR0.out x14_2 p288 q288; obtain rfl : ad279 = ad288 := (by injection e288); replace hx288_0 := (HB.out.cell (World.block_lt_of_cell? w _ hx288_0)).trans hx288_0; replace hx288_1 := (HB.out.cell (World.block_lt_of_cell? w _ hx288_1)).trans hx288_1; replace hx288_2 := (HB.out.cell (World.block_lt_of_cell? w _ hx288_2)).trans hx288_2; have HR288_2 := Aside0.mk hi288_2; have HC288_2 := Aside0.mk hl288_2; clear hi288_2 hl288_2; replace p288 := eq_true p288; replace q288 := eq_true q288; have p289 : 0 ≤ (x14_2 : Int) := of_decide_eq_true (by first | (with_reducible assumption) | assumption); have q289 : x14_2 < (l0.length : Int) := of_decide_eq_true (by first | (with_reducible assumption) | assumption); obtain ⟨ad289, A289_2, c289_2, e289, hx289_0, hx289_1, hx289_2, hl289_2, hi289_2⟩ := at_T31 HR0.out x14_2 p289 q289; obtain rfl : ad279 = ad289 := (by injection e289); replace hx289_0 := (HB.out.cell (World.block_lt_of_cell? w _ hx289_0)).trans hx289_0; replace hx289_1 := (HB.out.cell (World.block_lt_of_cell? w _ hx289_1)).trans hx289_1; replace hx289_2 := (HB.out.cell (World.block_lt_of_cell? w _ hx289_2)).trans hx289_2; have HR289_2 := Aside0.mk hi289_2; have HC289_2 := Aside0.mk hl289_2; clear hi289_2 hl289_2; replace p289 := eq_true p289; replace q289 := eq_true q289; have ea_ := Option.some.inj (hx288_2.symm.trans hx289_2); injection ea_ with ea_ en_ ec_; subst ea_; subst ec_; clear en_; have p290 : 0 ≤ (x18_3 : Int) := of_decide_eq_true (by first | (with_reducible assumption) | assumption); have q290 : x18_3 < (l2.length : Int) := of_decide_eq_true (by first | (with_reducible assumption) | assumption); obtain ⟨ad290, e290, hx290_0, hx290_1, hx290_2⟩ := at_T23 HR2.out x18_3 p290 q290; obtain rfl : ad285 = ad290 := (by injection e290); replace hx290_0 := (HB.out.cell (World.block_lt_of_cell? w _ hx290_0)).trans hx290_0; replace hx290_1 := (HB.out.cell (World.block_lt_of_cell? w _ hx290_1)).trans hx290_1; replace hx290_2 := (HB.out.cell (World.block_lt_of_cell? w _ hx290_2)).trans hx290_2; replace p290 := eq_true p290; replace q290 := eq_true q290))
                                  go_roundg k3
                                  case measure => have := HJ5.out; have := HK2.out; have := HK3.out; omega
                                  case rel => exact ⟨(wrap64 (x12_3 + 1)), ((((rd_T23 l2 x18_3).f1) != t280)), (wrap64 (x18_3 + 1)), (by first | rfl | (simp; done) | (simp [*]; done)), (by first | rfl | (simp; done) | (simp [*]; done)), (by first | rfl | (simp; done) | (simp [*]; done)), H', ⟨by have := HJ5.out; have := HK2.out; have := HK3.out; omega⟩, ⟨by (with_reducible repeat (first | apply Kd.R_alloc | apply Kd.R_drewN | apply Kd.R_drew)); exact HO_13.out⟩, ⟨by repeat (first | (with_reducible first | exact HB.out | apply below_alloc | apply pw_below_drewN | apply below_drew1) | exact HB.out)⟩⟩
                              · rw [if_neg c21] at H
                                have c21b0 : (t287 == ((rd_T31 l0 x14_2).f1)) = false := beq_eq_false_iff_ne.mpr c21
                                have c21b1 : (t287 != ((rd_T31 l0 x14_2).f1)) = true := bne_iff_ne.mpr c21
                                by_cases c25 : x17_3 = true
                                · subst c25
                                  have H1 : (cohousingref22_Draw.l1 k3 l0 a1 l2 (Int.tmod (wrap64 (x11_2 + t280)) 1073741789) x12_3 x13_2 x14_2 t280 true (wrap64 (x18_3 + 1))) = some (r1, r2, r3) := by rw [if_pos rfl] at H; exact H
                                  clear H
                                  have H := H1
                                  clear H1
                                  have H' := Aside0.mk H
                                  clear H
                                  have p285 : 0 ≤ (x18_3 : Int) := of_decide_eq_true (by first | (with_reducible assumption) | assumption)
                                  have q285 : x18_3 < (l2.length : Int) := of_decide_eq_true (by first | (with_reducible assumption) | assumption)
                                  obtain ⟨ad285, e285, hx285_0, hx285_1, hx285_2⟩ := at_T23 HR2.out x18_3 p285 q285
                                  cases e285
                                  replace hx285_0 := (HB.out.cell (World.block_lt_of_cell? w _ hx285_0)).trans hx285_0
                                  replace hx285_1 := (HB.out.cell (World.block_lt_of_cell? w _ hx285_1)).trans hx285_1
                                  replace hx285_2 := (HB.out.cell (World.block_lt_of_cell? w _ hx285_2)).trans hx285_2
                                  replace p285 := eq_true p285
                                  replace q285 := eq_true q285
                                  have p286 : 0 ≤ (x18_3 : Int) := of_decide_eq_true (by first | (with_reducible assumption) | assumption)
                                  have q286 : x18_3 < (l2.length : Int) := of_decide_eq_true (by first | (with_reducible assumption) | assumption)
                                  obtain ⟨ad286, e286, hx286_0, hx286_1, hx286_2⟩ := at_T23 HR2.out x18_3 p286 q286
                                  obtain rfl : ad285 = ad286 := (by injection e286)
                                  replace hx286_0 := (HB.out.cell (World.block_lt_of_cell? w _ hx286_0)).trans hx286_0
                                  replace hx286_1 := (HB.out.cell (World.block_lt_of_cell? w _ hx286_1)).trans hx286_1
                                  replace hx286_2 := (HB.out.cell (World.block_lt_of_cell? w _ hx286_2)).trans hx286_2
                                  replace p286 := eq_true p286
                                  replace q286 := eq_true q286
                                  go_wp2_with (first | ((with_reducible refine gate_callee (f := 28) rfl ?_); refine goesL_ (some 78) rfl rfl Tryd.func28 (by kernel_rfl) rfl #[.agg #[.int .i64 ((rd_T23 l2 x18_3).f0), .int .i64 ((rd_T23 l2 x18_3).f1), .int .i64 ((rd_T23 l2 x18_3).f2)]] rfl (by (try simp only [List.map_toArray, List.map_cons, List.map_nil]); first | done | rfl | (simp only [List.length_drop, List.length_take]; rfl)) ?_; (with_reducible refine (cohousingref22_Sum.calls k3 ((rd_T23 l2 x18_3).f0) ((rd_T23 l2 x18_3).f1) ((rd_T23 l2 x18_3).f2) t287 _ A18.out).mono ?_); rintro e w26 ⟨rfl, hb⟩; refine ⟨_, rfl, ?_⟩; have n0_ := Aside0.mk (Kd.R_below (by (with_reducible repeat (first | apply Kd.R_alloc | apply Kd.R_drewN | apply Kd.R_drew)); exact HO_13.out) hb); have n1_ := Aside0.mk (below_step (by repeat (first | (with_reducible first | exact HB.out | apply below_alloc | apply pw_below_drewN | apply below_drew1) | exact HB.out)) hb); clear HO_13; clear HB; have HO_13 := n0_; have HB := n1_; clear n0_ n1_; (try clear hb); (try clear hb2); (try clear hk); (try clear hi); have p288 : 0 ≤ (x14_2 : Int) := of_decide_eq_true (by first | (with_reducible assumption) | assumption); have q288 : x14_2 < (l0.length : Int) := of_decide_eq_true (by first | (with_reducible assumption) | assumption); obtain ⟨ad288, A288_2, c288_2, e288, hx288_0, hx288_1, hx288_2, hl288_2, hi288_2⟩ := at_T31 HR0.out x14_2 p288 q288; obtain rfl : ad279 = ad288 := (by injection e288); replace hx288_0 := (HB.out.cell (World.block_lt_of_cell? w _ hx288_0)).trans hx288_0; replace hx288_1 := (HB.out.cell (World.block_lt_of_cell? w _ hx288_1)).trans hx288_1; replace hx288_2 := (HB.out.cell (World.block_lt_of_cell? w _ hx288_2)).trans hx288_2; have HR288_2 := Aside0.mk hi288_2; have HC288_2 := Aside0.mk hl288_2; clear hi288_2 hl288_2; replace p288 := eq_true p288; replace q288 := eq_true q288))
                                  go_roundg k3
                                  case measure => have := HJ5.out; have := HK2.out; have := HK3.out; omega
                                  case rel => exact ⟨(x12_3), (true), (wrap64 (x18_3 + 1)), (by first | rfl | (simp; done) | (simp [*]; done)), (by first | rfl | (simp; done) | (simp [*]; done)), (by first | rfl | (simp; done) | (simp [*]; done)), H', ⟨by have := HJ5.out; have := HK2.out; have := HK3.out; omega⟩, ⟨by (with_reducible repeat (first | apply Kd.R_alloc | apply Kd.R_drewN | apply Kd.R_drew)); exact HO_13.out⟩, ⟨by repeat (first | (with_reducible first | exact HB.out | apply below_alloc | apply pw_below_drewN | apply below_drew1) | exact HB.out)⟩⟩
                                · replace c25 := Bool.eq_false_iff.mpr c25
                                  subst c25
                                  have H1 : (cohousingref22_Draw.l1 k3 l0 a1 l2 (Int.tmod (wrap64 (x11_2 + t280)) 1073741789) x12_3 x13_2 x14_2 t280 true (wrap64 (x18_3 + 1))) = some (r1, r2, r3) := by rw [if_neg (show ¬ (false = true) by decide)] at H; exact H
                                  clear H
                                  have H := H1
                                  clear H1
                                  have H' := Aside0.mk H
                                  clear H
                                  have p285 : 0 ≤ (x18_3 : Int) := of_decide_eq_true (by first | (with_reducible assumption) | assumption)
                                  have q285 : x18_3 < (l2.length : Int) := of_decide_eq_true (by first | (with_reducible assumption) | assumption)
                                  obtain ⟨ad285, e285, hx285_0, hx285_1, hx285_2⟩ := at_T23 HR2.out x18_3 p285 q285
                                  cases e285
                                  replace hx285_0 := (HB.out.cell (World.block_lt_of_cell? w _ hx285_0)).trans hx285_0
                                  replace hx285_1 := (HB.out.cell (World.block_lt_of_cell? w _ hx285_1)).trans hx285_1
                                  replace hx285_2 := (HB.out.cell (World.block_lt_of_cell? w _ hx285_2)).trans hx285_2
                                  replace p285 := eq_true p285
                                  replace q285 := eq_true q285
                                  have p286 : 0 ≤ (x18_3 : Int) := of_decide_eq_true (by first | (with_reducible assumption) | assumption)
                                  have q286 : x18_3 < (l2.length : Int) := of_decide_eq_true (by first | (with_reducible assumption) | assumption)
                                  obtain ⟨ad286, e286, hx286_0, hx286_1, hx286_2⟩ := at_T23 HR2.out x18_3 p286 q286
                                  obtain rfl : ad285 = ad286 := (by injection e286)
                                  replace hx286_0 := (HB.out.cell (World.block_lt_of_cell? w _ hx286_0)).trans hx286_0
                                  replace hx286_1 := (HB.out.cell (World.block_lt_of_cell? w _ hx286_1)).trans hx286_1
                                  replace hx286_2 := (HB.out.cell (World.block_lt_of_cell? w _ hx286_2)).trans hx286_2
                                  replace p286 := eq_true p286
                                  replace q286 := eq_true q286
                                  go_wp2_with (first | ((with_reducible refine gate_callee (f := 28) rfl ?_); refine goesL_ (some 78) rfl rfl Tryd.func28 (by kernel_rfl) rfl #[.agg #[.int .i64 ((rd_T23 l2 x18_3).f0), .int .i64 ((rd_T23 l2 x18_3).f1), .int .i64 ((rd_T23 l2 x18_3).f2)]] rfl (by (try simp only [List.map_toArray, List.map_cons, List.map_nil]); first | done | rfl | (simp only [List.length_drop, List.length_take]; rfl)) ?_; (with_reducible refine (cohousingref22_Sum.calls k3 ((rd_T23 l2 x18_3).f0) ((rd_T23 l2 x18_3).f1) ((rd_T23 l2 x18_3).f2) t287 _ A18.out).mono ?_); rintro e w27 ⟨rfl, hb⟩; refine ⟨_, rfl, ?_⟩; have n0_ := Aside0.mk (Kd.R_below (by (with_reducible repeat (first | apply Kd.R_alloc | apply Kd.R_drewN | apply Kd.R_drew)); exact HO_13.out) hb); have n1_ := Aside0.mk (below_step (by repeat (first | (with_reducible first | exact HB.out | apply below_alloc | apply pw_below_drewN | apply below_drew1) | exact HB.out)) hb); clear HO_13; clear HB; have HO_13 := n0_; have HB := n1_; clear n0_ n1_; (try clear hb); (try clear hb2); (try clear hk); (try clear hi); have p288 : 0 ≤ (x14_2 : Int) := of_decide_eq_true (by first | (with_reducible assumption) | assumption); have q288 : x14_2 < (l0.length : Int) := of_decide_eq_true (by first | (with_reducible assumption) | assumption); obtain ⟨ad288, A288_2, c288_2, e288, hx288_0, hx288_1, hx288_2, hl288_2, hi288_2⟩ := at_T31 HR0.out x14_2 p288 q288; obtain rfl : ad279 = ad288 := (by injection e288); replace hx288_0 := (HB.out.cell (World.block_lt_of_cell? w _ hx288_0)).trans hx288_0; replace hx288_1 := (HB.out.cell (World.block_lt_of_cell? w _ hx288_1)).trans hx288_1; replace hx288_2 := (HB.out.cell (World.block_lt_of_cell? w _ hx288_2)).trans hx288_2; have HR288_2 := Aside0.mk hi288_2; have HC288_2 := Aside0.mk hl288_2; clear hi288_2 hl288_2; replace p288 := eq_true p288; replace q288 := eq_true q288; have p291 : 0 ≤ (x14_2 : Int) := of_decide_eq_true (by first | (with_reducible assumption) | assumption); have q291 : x14_2 < (l0.length : Int) := of_decide_eq_true (by first | (with_reducible assumption) | assumption); obtain ⟨ad291, A291_2, c291_2, e291, hx291_0, hx291_1, hx291_2, hl291_2, hi291_2⟩ := at_T31 HR0.out x14_2 p291 q291; obtain rfl : ad279 = ad291 := (by injection e291); replace hx291_0 := (HB.out.cell (World.block_lt_of_cell? w _ hx291_0)).trans hx291_0; replace hx291_1 := (HB.out.cell (World.block_lt_of_cell? w _ hx291_1)).trans hx291_1; replace hx291_2 := (HB.out.cell (World.block_lt_of_cell? w _ hx291_2)).trans hx291_2; have HR291_2 := Aside0.mk hi291_2; have HC291_2 := Aside0.mk hl291_2; clear hi291_2 hl291_2; replace p291 := eq_true p291; replace q291 := eq_true q291; have ea_ := Option.some.inj (hx288_2.symm.trans hx291_2); injection ea_ with ea_ en_ ec_; subst ea_; subst ec_; clear en_))
                                  go_roundg k3
                                  case measure => have := HJ5.out; have := HK2.out; have := HK3.out; omega
                                  case rel => exact ⟨(x12_3), (true), (wrap64 (x18_3 + 1)), (by first | rfl | (simp; done) | (simp [*]; done)), (by first | rfl | (simp; done) | (simp [*]; done)), (by first | rfl | (simp; done) | (simp [*]; done)), H', ⟨by have := HJ5.out; have := HK2.out; have := HK3.out; omega⟩, ⟨by (with_reducible repeat (first | apply Kd.R_alloc | apply Kd.R_drewN | apply Kd.R_drew)); exact HO_13.out⟩, ⟨by repeat (first | (with_reducible first | exact HB.out | apply below_alloc | apply pw_below_drewN | apply below_drew1) | exact HB.out)⟩⟩
                            · rw [if_neg c20] at H
                              exact absurd H (by simp)
                          · rw [if_neg c19] at H
                            exact absurd H (by simp)
                        · rw [if_neg c17] at H
                          have c17b0 : (((rd_T23 l2 x18_3).f0) == (wrap64 (x14_2 + 1))) = false := beq_eq_false_iff_ne.mpr c17
                          have c17b1 : (((rd_T23 l2 x18_3).f0) != (wrap64 (x14_2 + 1))) = true := bne_iff_ne.mpr c17
                          have H' := Aside0.mk H
                          clear H
                          have p285 : 0 ≤ (x18_3 : Int) := of_decide_eq_true (by first | (with_reducible assumption) | assumption)
                          have q285 : x18_3 < (l2.length : Int) := of_decide_eq_true (by first | (with_reducible assumption) | assumption)
                          obtain ⟨ad285, e285, hx285_0, hx285_1, hx285_2⟩ := at_T23 HR2.out x18_3 p285 q285
                          cases e285
                          replace hx285_0 := (HB.out.cell (World.block_lt_of_cell? w _ hx285_0)).trans hx285_0
                          replace hx285_1 := (HB.out.cell (World.block_lt_of_cell? w _ hx285_1)).trans hx285_1
                          replace hx285_2 := (HB.out.cell (World.block_lt_of_cell? w _ hx285_2)).trans hx285_2
                          replace p285 := eq_true p285
                          replace q285 := eq_true q285
                          go_wp2
                          go_roundg k3
                          case measure => have := HJ5.out; have := HK2.out; have := HK3.out; omega
                          case rel => exact ⟨(x12_3), (x17_3), (wrap64 (x18_3 + 1)), (by first | rfl | (simp; done) | (simp [*]; done)), (by first | rfl | (simp; done) | (simp [*]; done)), (by first | rfl | (simp; done) | (simp [*]; done)), H', ⟨by have := HJ5.out; have := HK2.out; have := HK3.out; omega⟩, ⟨by (with_reducible repeat (first | apply Kd.R_alloc | apply Kd.R_drewN | apply Kd.R_drew)); exact HO_13.out⟩, ⟨by repeat (first | (with_reducible first | exact HB.out | apply below_alloc | apply pw_below_drewN | apply below_drew1) | exact HB.out)⟩⟩
                      · rw [if_neg c16] at H
                        exact absurd H (by simp)
                    · rw [if_neg c15] at H
                      have c15b0 : decide (x18_3 < (l2.length : Int)) = false := decide_eq_false c15
                      clear c15
                      by_cases c28 : x17_3 = true
                      · subst c28
                        have H1 : (if x13_2.length < 17592186044416 then (cohousingref22_Draw.l0 k3 l0 a1 l2 (Int.tmod (wrap64 (x11_2 + t280)) 1073741789) x12_3 (x13_2 ++ [wrap64 (x14_2 + 1)]) (wrap64 (x14_2 + 1))) else (none)) = some (r1, r2, r3) := by rw [if_pos rfl] at H; exact H
                        clear H
                        have H := H1
                        clear H1
                        by_cases c29 : x13_2.length < 17592186044416
                        · rw [if_pos c29] at H
                          have LMc29 := Aside0.mk c29
                          clear c29
                          obtain ⟨y282, hy282⟩ : ∃ y_ : List Int, y_ = (x13_2 ++ [wrap64 (x14_2 + 1)]) := ⟨_, rfl⟩
                          replace H : (cohousingref22_Draw.l0 k3 l0 a1 l2 (Int.tmod (wrap64 (x11_2 + t280)) 1073741789) x12_3 y282 (wrap64 (x14_2 + 1))) = some (r1, r2, r3) := by first | (rw [hy282]; with_reducible exact H) | (have H2_ := (Option.bind_some _ _).symm.trans H; rw [hy282]; with_reducible exact H2_) | (have H2_ := (Option.bind_some _ _).symm.trans H; with_reducible exact H2_) | with_reducible exact H | (rw [hy282]; exact H) | exact H
                          have Ny282 := Aside0.mk hy282
                          clear hy282
                          have H' := Aside0.mk H
                          clear H
                          go_wp2_with (first | ((with_reducible refine gate_builtin (b := .append) (xs := #[.tmp 108, .tmp 111]) rfl ?_); (try (refine gate_guard (by rfl) ?_; dsimp only)); at_builtin; refine Kd.R_append (Kd.int .i64) (w0 := w) w.heap.size rfl (.tmp 108) (.tmp 111) 24 3 (.int .i64 0) 8 rfl Tryd.underlying24 info3 rfl (by decide) (by omega) u13 x13_2 (wrap64 (x14_2 + 1)) [.int .i64 (wrap64 (x14_2 + 1))] (fun _ => True) (fun _ => False) rfl rfl ?aP (fun _ hk => hk.elim) ?aF ?aO ?aB ?aS ?aL ?_; (case aP => exact rfl); (case aB => exact (by repeat (first | (with_reducible first | exact HB.out | apply below_alloc | apply pw_below_drewN | apply below_drew1) | exact HB.out))); (case aF => exact (fun _ _ => trivial)); (case aO => exact (by (with_reducible repeat (first | apply Kd.R_alloc | apply Kd.R_drewN | apply Kd.R_drew)); exact HO_13.out)); (case aS => exact (below_size (by repeat (first | (with_reducible first | exact HB.out | apply below_alloc | apply pw_below_drewN | apply below_drew1) | exact HB.out)))); (case aL => have := LMc29.out; omega); intro v283 w30 ho hb hg hat; rw [← Ny282.out] at ho; have n0_ := Aside0.mk (hb); have n1_ := Aside0.mk (ho); clear HB; clear HO_13; have HB := n0_; have HO284 := n1_; clear n0_ n1_; clear ho hb hg hat))
                          go_roundg k3
                          case measure => have := HJ5.out; have := HK2.out; have := HK3.out; omega
                          case rel => exact ⟨((Int.tmod (wrap64 (x11_2 + t280)) 1073741789)), (x12_3), (y282), (wrap64 (x14_2 + 1)), (by first | rfl | (simp; done) | (simp [*]; done)), (by first | rfl | (simp; done) | (simp [*]; done)), (by first | rfl | (simp; done) | (simp [*]; done)), H', ⟨by have := HJ5.out; have := HK2.out; have := HK3.out; omega⟩, ⟨by (with_reducible repeat (first | apply Kd.R_alloc | apply Kd.R_drewN | apply Kd.R_drew)); exact HO284.out⟩, ⟨by repeat (first | (with_reducible first | exact HB.out | apply below_alloc | apply pw_below_drewN | apply below_drew1) | exact HB.out)⟩⟩
                        · rw [if_neg c29] at H
                          exact absurd H (by simp)
                      · replace c28 := Bool.eq_false_iff.mpr c28
                        subst c28
                        have H1 : (cohousingref22_Draw.l0 k3 l0 a1 l2 (Int.tmod (wrap64 (x11_2 + t280)) 1073741789) x12_3 x13_2 (wrap64 (x14_2 + 1))) = some (r1, r2, r3) := by rw [if_neg (show ¬ (false = true) by decide)] at H; exact H
                        clear H
                        have H := H1
                        clear H1
                        have H' := Aside0.mk H
                        clear H
                        go_wp2
                        go_roundg k3
                        case measure => have := HJ5.out; have := HK2.out; have := HK3.out; omega
                        case rel => exact ⟨((Int.tmod (wrap64 (x11_2 + t280)) 1073741789)), (x12_3), (x13_2), (wrap64 (x14_2 + 1)), (by first | rfl | (simp; done) | (simp [*]; done)), (by first | rfl | (simp; done) | (simp [*]; done)), (by first | rfl | (simp; done) | (simp [*]; done)), H', ⟨by have := HJ5.out; have := HK2.out; have := HK3.out; omega⟩, ⟨by (with_reducible repeat (first | apply Kd.R_alloc | apply Kd.R_drewN | apply Kd.R_drew)); exact HO_13.out⟩, ⟨by repeat (first | (with_reducible first | exact HB.out | apply below_alloc | apply pw_below_drewN | apply below_drew1) | exact HB.out)⟩⟩
              · rw [if_neg c12] at H
                exact absurd H (by simp)
            · rw [if_neg c11] at H
              have c11b0 : decide (x14_2 < (l0.length : Int)) = false := decide_eq_false c11
              clear c11
              by_cases c31 : x12_2 < a1
              · rw [if_pos c31] at H
                have c31b0 : decide (x12_2 < a1) = true := decide_eq_true c31
                clear c31
                simp only [Option.some.injEq, Prod.mk.injEq] at H
                obtain ⟨rfl, rfl, rfl⟩ := H
                go_wp2
                go_ret3
                exact ⟨_, by first | rfl | (simp [errW_none, errW_some] <;> rfl) | (simp [*, errW_none, errW_some] <;> rfl), by first | exact Kd.R_nil _ _ _ _ _ | exact Kd.N_nil _ _ _ _ _ | exact Kd.V_nil _ _ _ _ _ | exact Kd.Q_nil _ _ _ _ _ | exact Kd.S_nil _ _ _ _ _, by repeat (first | (with_reducible first | exact HB.out | apply below_alloc | apply pw_below_drewN | apply below_drew1) | exact HB.out)⟩
              · rw [if_neg c31] at H
                have c31b0 : decide (x12_2 < a1) = false := decide_eq_false c31
                clear c31
                simp only [Option.some.injEq, Prod.mk.injEq] at H
                obtain ⟨rfl, rfl, rfl⟩ := H
                go_wp2
                go_ret3
                exact ⟨_, by first | rfl | (simp [errW_none, errW_some] <;> rfl) | (simp [*, errW_none, errW_some] <;> rfl), by (with_reducible repeat (first | apply Kd.R_alloc | apply Kd.R_drewN | apply Kd.R_drew)); exact HO_13.out, by repeat (first | (with_reducible first | exact HB.out | apply below_alloc | apply pw_below_drewN | apply below_drew1) | exact HB.out)⟩
end Go.Proofs.YtkghgaifgpgfkaaDoor.PL
end
