/- Lemmas and walks for lotteryMatchesReferenceCard_holds (part 38), without what it does not use. -/
import Derived.Test.YtkghgaifgpgfkaaDoorHM12
import Derived.Test.YtkghgaifgpgfkaaDoorHM31
section
namespace Go.Proofs.YtkghgaifgpgfkaaDoor.PL
open Go.RowKit Go.Proofs.YtkghgaifgpgfkaaDoorW.PrintWords Go.Proofs.YtkghgaifgpgfkaaDoorW.PrintLast Go.Proofs.YtkghgaifgpgfkaaDoorW.PrintMore
attribute [local go_sem] max2_int min2_int max_two min_two max_three min_three max_four min_four   -- for this text's walks alone
set_option linter.unusedVariables false
set_option linter.unusedSimpArgs false
mutual
def cohousingref22_Through.l0 : Nat → List (S47) → Int → Int → Int → Option (Int)
  | 0, _, _, _, _ => none
  | k + 1, x0, x1, x5, x6 => if x6 < (x0.length : Int) then (if 0 ≤ x6 then (cohousingref22_Through.l1 k x0 x1 x5 x6 ((rd_T47 x0 x6).f1) 1 0) else (none)) else (some x5)
def cohousingref22_Through.l1 : Nat → List (S47) → Int → Int → Int → Int → Int → Int → Option (Int)
  | 0, _, _, _, _, _, _, _ => none
  | k + 1, x0, x1, x5, x6, x7, x8, x9 => if x9 < (x0.length : Int) then (if x9 = x6 then (cohousingref22_Through.l1 k x0 x1 x5 x6 x7 x8 (wrap64 (x9 + 1))) else (if 0 ≤ x9 then ((cohousingref22_Less.f x1 ((rd_T47 x0 x9).f0)).bind fun t239 => (if 0 ≤ x6 then (if x6 < (x0.length : Int) then ((cohousingref22_Less.f ((rd_T47 x0 x6).f0) ((rd_T47 x0 x9).f0)).bind fun t242 => (cohousingref22_Through.l1 k x0 x1 x5 x6 (Int.tmod (wrap64 (x7 * t239)) 1073741789) (Int.tmod (wrap64 (x8 * t242)) 1073741789) (wrap64 (x9 + 1)))) else (none)) else (none))) else (none))) else ((cohousingref22_Over.f k x7 x8).bind fun t237 => (cohousingref22_Through.l0 k x0 x1 (Int.tmod (wrap64 (x5 + t237)) 1073741789) (wrap64 (x6 + 1))))
end
def cohousingref22_Through.f (k : Nat) (l0 : List (S47)) (a1 : Int) : Option (Int) := cohousingref22_Through.l0 k l0 a1 0 0
set_option maxHeartbeats 8000000 in
set_option maxRecDepth 100000 in
theorem cohousingref22_Through.calls (k : Nat) (A0 : Option Addr) (c0 : Nat) (l0 : List (S47)) (a1 : Int) (r : Int) (w : World) (hr0 : Kd.C k47 w A0 l0.length l0) (hc0 : l0.length ≤ c0) (h : cohousingref22_Through.f k l0 a1 = some r) :
    Calls Tryd.prog 37 #[.slice A0 l0.length c0, .int .i64 a1] w fun e w' => e = .returned (.int .i64 r) ∧ Drawn0 w w' := by
  have HR0 := Aside0.mk hr0
  have HC0 := Aside0.mk hc0
  clear hr0 hc0
  have H : (cohousingref22_Through.l0 k l0 a1 0 0) = some r := h
  clear h
  have H' := Aside0.mk H
  clear H
  go_enter Tryd.func37, Tryd.ntmps37
  go_wp2
  repeat (go_quiet (fail); try go_wp2)
  go_loopg [5, 6] k (fun kq v5 v6 w' => ∃ (x5_1 : Int) (x6_1 : Int), v5 = .int .i64 x5_1 ∧ v6 = .int .i64 x6_1 ∧ Aside0 (cohousingref22_Through.l0 kq l0 a1 x5_1 x6_1 = some r) ∧ Aside0 (kq ≤ k) ∧ Drawn0 w w')
  case atStart => exact ⟨(0), (0), (by first | rfl | (simp; done) | (simp [*]; done)), (by first | rfl | (simp; done) | (simp [*]; done)), H', ⟨Nat.le_refl _⟩, by repeat (first | exact Drawn0.refl _ | apply Drawn0.step)⟩
  case round =>
    clear H'
    try clear p2
    obtain ⟨x5_1, x6_1, rfl, rfl, HA, HK1, ⟨m1, rfl⟩⟩ := hrel
    cases gk with
    | zero => exact absurd HA.out (by simp [cohousingref22_Through.l0])
    | succ k1 =>
      have H := HA.out
      clear HA
      simp only [cohousingref22_Through.l0] at H
      by_cases c3 : x6_1 < (l0.length : Int)
      · rw [if_pos c3] at H
        have c3b0 : decide (x6_1 < (l0.length : Int)) = true := decide_eq_true c3
        clear c3
        by_cases c4 : 0 ≤ x6_1
        · rw [if_pos c4] at H
          have c4b0 : decide (0 ≤ x6_1) = true := decide_eq_true c4
          clear c4
          have H' := Aside0.mk H
          clear H
          have p236 : 0 ≤ (x6_1 : Int) := of_decide_eq_true (by first | (with_reducible assumption) | assumption)
          have q236 : x6_1 < (l0.length : Int) := of_decide_eq_true (by first | (with_reducible assumption) | assumption)
          obtain ⟨ad236, e236, hx236_0, hx236_1⟩ := at_T47 HR0.out x6_1 p236 q236
          cases e236
          replace p236 := eq_true p236
          replace q236 := eq_true q236
          go_wp2
          repeat (go_quiet (fail); try go_wp2)
          go_loopg [7, 8, 9] k1 (fun kq v7 v8 v9 w' => ∃ (x7_2 : Int) (x8_2 : Int) (x9_2 : Int), v7 = .int .i64 x7_2 ∧ v8 = .int .i64 x8_2 ∧ v9 = .int .i64 x9_2 ∧ Aside0 (cohousingref22_Through.l1 kq l0 a1 x5_1 x6_1 x7_2 x8_2 x9_2 = some r) ∧ Aside0 (kq ≤ k1) ∧ Drawn0 w w')
          case atStart => exact ⟨((rd_T47 l0 x6_1).f1), (1), (0), (by first | rfl | (simp; done) | (simp [*]; done)), (by first | rfl | (simp; done) | (simp [*]; done)), (by first | rfl | (simp; done) | (simp [*]; done)), H', ⟨Nat.le_refl _⟩, by repeat (first | exact Drawn0.refl _ | apply Drawn0.step)⟩
          case round =>
            clear H'
            try clear p2
            try clear q2
            try clear hx2
            try clear c3
            try clear c3b0
            try clear c4
            try clear c4b0
            try clear hx236_0
            try clear hx236_1
            try clear p2
            try clear p236
            try clear q236
            obtain ⟨x7_2, x8_2, x9_2, rfl, rfl, rfl, HA, HK2, ⟨m2, rfl⟩⟩ := hrel
            cases gk with
            | zero => exact absurd HA.out (by simp [cohousingref22_Through.l1])
            | succ k2 =>
              have H := HA.out
              clear HA
              simp only [cohousingref22_Through.l1] at H
              by_cases c5 : x9_2 < (l0.length : Int)
              · rw [if_pos c5] at H
                have c5b0 : decide (x9_2 < (l0.length : Int)) = true := decide_eq_true c5
                clear c5
                by_cases c6 : x9_2 = x6_1
                · rw [if_pos c6] at H
                  have c6b0 : (x9_2 == x6_1) = true := beq_iff_eq.mpr c6
                  have c6b1 : (x9_2 != x6_1) = false := bne_eq_false_iff_eq.mpr c6
                  clear c6
                  have H' := Aside0.mk H
                  clear H
                  go_wp2
                  repeat (go_quiet (fail); try go_wp2)
                  go_roundg k2
                  case measure => have := HK1.out; have := HK2.out; omega
                  case rel => exact ⟨(x7_2), (x8_2), (wrap64 (x9_2 + 1)), (by first | rfl | (simp; done) | (simp [*]; done)), (by first | rfl | (simp; done) | (simp [*]; done)), (by first | rfl | (simp; done) | (simp [*]; done)), H', ⟨by have := HK1.out; have := HK2.out; omega⟩, by repeat (first | exact Drawn0.refl _ | apply Drawn0.step)⟩
                · rw [if_neg c6] at H
                  have c6b0 : (x9_2 == x6_1) = false := beq_eq_false_iff_ne.mpr c6
                  have c6b1 : (x9_2 != x6_1) = true := bne_iff_ne.mpr c6
                  by_cases c7 : 0 ≤ x9_2
                  · rw [if_pos c7] at H
                    have c7b0 : decide (0 ≤ x9_2) = true := decide_eq_true c7
                    clear c7
                    replace H := Option.bind_eq_some_iff.mp H
                    obtain ⟨t239, A80, H⟩ := H
                    replace H : (if 0 ≤ x6_1 then (if x6_1 < (l0.length : Int) then ((cohousingref22_Less.f ((rd_T47 l0 x6_1).f0) ((rd_T47 l0 x9_2).f0)).bind fun t242 => (cohousingref22_Through.l1 k2 l0 a1 x5_1 x6_1 (Int.tmod (wrap64 (x7_2 * t239)) 1073741789) (Int.tmod (wrap64 (x8_2 * t242)) 1073741789) (wrap64 (x9_2 + 1)))) else (none)) else (none)) = some r := H
                    have A8 := Aside0.mk A80
                    clear A80
                    by_cases c9 : 0 ≤ x6_1
                    · rw [if_pos c9] at H
                      have c9b0 : decide (0 ≤ x6_1) = true := decide_eq_true c9
                      clear c9
                      by_cases c10 : x6_1 < (l0.length : Int)
                      · rw [if_pos c10] at H
                        have c10b0 : decide (x6_1 < (l0.length : Int)) = true := decide_eq_true c10
                        clear c10
                        replace H := Option.bind_eq_some_iff.mp H
                        obtain ⟨t242, A110, H⟩ := H
                        replace H : (cohousingref22_Through.l1 k2 l0 a1 x5_1 x6_1 (Int.tmod (wrap64 (x7_2 * t239)) 1073741789) (Int.tmod (wrap64 (x8_2 * t242)) 1073741789) (wrap64 (x9_2 + 1))) = some r := H
                        have A11 := Aside0.mk A110
                        clear A110
                        have H' := Aside0.mk H
                        clear H
                        have p238 : 0 ≤ (x9_2 : Int) := of_decide_eq_true (by first | (with_reducible assumption) | assumption)
                        have q238 : x9_2 < (l0.length : Int) := of_decide_eq_true (by first | (with_reducible assumption) | assumption)
                        obtain ⟨ad238, e238, hx238_0, hx238_1⟩ := at_T47 HR0.out x9_2 p238 q238
                        obtain rfl : ad236 = ad238 := (by injection e238)
                        replace p238 := eq_true p238
                        replace q238 := eq_true q238
                        go_wp2_with (first | (go_at_call 25; (with_reducible refine (cohousingref22_Less.calls a1 ((rd_T47 l0 x9_2).f0) t239 _ A8.out).mono ?_); rintro e w' ⟨rfl, ⟨nd, rfl⟩⟩; (try first | exact ⟨rfl, _, World.drewN_drewN _ _ _⟩ | exact ⟨rfl, _, Eq.trans (World.drewN_drewN _ _ _) (congrArg (World.drewN _) (Nat.add_assoc _ _ _))⟩); have p240 : 0 ≤ (x6_1 : Int) := of_decide_eq_true (by first | (with_reducible assumption) | assumption); have q240 : x6_1 < (l0.length : Int) := of_decide_eq_true (by first | (with_reducible assumption) | assumption); obtain ⟨ad240, e240, hx240_0, hx240_1⟩ := at_T47 HR0.out x6_1 p240 q240; obtain rfl : ad236 = ad240 := (by injection e240); replace p240 := eq_true p240; replace q240 := eq_true q240; have p241 : 0 ≤ (x9_2 : Int) := of_decide_eq_true (by first | (with_reducible assumption) | assumption); have q241 : x9_2 < (l0.length : Int) := of_decide_eq_true (by first | (with_reducible assumption) | assumption); obtain ⟨ad241, e241, hx241_0, hx241_1⟩ := at_T47 HR0.out x9_2 p241 q241; obtain rfl : ad236 = ad241 := (by injection e241); replace p241 := eq_true p241; replace q241 := eq_true q241) | (go_at_call 25; (with_reducible refine (cohousingref22_Less.calls ((rd_T47 l0 x6_1).f0) ((rd_T47 l0 x9_2).f0) t242 _ A11.out).mono ?_); rintro e w' ⟨rfl, ⟨nd, rfl⟩⟩; (try first | exact ⟨rfl, _, World.drewN_drewN _ _ _⟩ | exact ⟨rfl, _, Eq.trans (World.drewN_drewN _ _ _) (congrArg (World.drewN _) (Nat.add_assoc _ _ _))⟩)))
                        repeat (go_quiet (first | (go_at_call 25; (with_reducible refine (cohousingref22_Less.calls a1 ((rd_T47 l0 x9_2).f0) t239 _ A8.out).mono ?_); rintro e w' ⟨rfl, ⟨nd, rfl⟩⟩; (try first | exact ⟨rfl, _, World.drewN_drewN _ _ _⟩ | exact ⟨rfl, _, Eq.trans (World.drewN_drewN _ _ _) (congrArg (World.drewN _) (Nat.add_assoc _ _ _))⟩); have p240 : 0 ≤ (x6_1 : Int) := of_decide_eq_true (by first | (with_reducible assumption) | assumption); have q240 : x6_1 < (l0.length : Int) := of_decide_eq_true (by first | (with_reducible assumption) | assumption); obtain ⟨ad240, e240, hx240_0, hx240_1⟩ := at_T47 HR0.out x6_1 p240 q240; obtain rfl : ad236 = ad240 := (by injection e240); replace p240 := eq_true p240; replace q240 := eq_true q240; have p241 : 0 ≤ (x9_2 : Int) := of_decide_eq_true (by first | (with_reducible assumption) | assumption); have q241 : x9_2 < (l0.length : Int) := of_decide_eq_true (by first | (with_reducible assumption) | assumption); obtain ⟨ad241, e241, hx241_0, hx241_1⟩ := at_T47 HR0.out x9_2 p241 q241; obtain rfl : ad236 = ad241 := (by injection e241); replace p241 := eq_true p241; replace q241 := eq_true q241) | (go_at_call 25; (with_reducible refine (cohousingref22_Less.calls ((rd_T47 l0 x6_1).f0) ((rd_T47 l0 x9_2).f0) t242 _ A11.out).mono ?_); rintro e w' ⟨rfl, ⟨nd, rfl⟩⟩; (try first | exact ⟨rfl, _, World.drewN_drewN _ _ _⟩ | exact ⟨rfl, _, Eq.trans (World.drewN_drewN _ _ _) (congrArg (World.drewN _) (Nat.add_assoc _ _ _))⟩))); try go_wp2_with (first | (go_at_call 25; (with_reducible refine (cohousingref22_Less.calls a1 ((rd_T47 l0 x9_2).f0) t239 _ A8.out).mono ?_); rintro e w' ⟨rfl, ⟨nd, rfl⟩⟩; (try first | exact ⟨rfl, _, World.drewN_drewN _ _ _⟩ | exact ⟨rfl, _, Eq.trans (World.drewN_drewN _ _ _) (congrArg (World.drewN _) (Nat.add_assoc _ _ _))⟩); have p240 : 0 ≤ (x6_1 : Int) := of_decide_eq_true (by first | (with_reducible assumption) | assumption); have q240 : x6_1 < (l0.length : Int) := of_decide_eq_true (by first | (with_reducible assumption) | assumption); obtain ⟨ad240, e240, hx240_0, hx240_1⟩ := at_T47 HR0.out x6_1 p240 q240; obtain rfl : ad236 = ad240 := (by injection e240); replace p240 := eq_true p240; replace q240 := eq_true q240; have p241 : 0 ≤ (x9_2 : Int) := of_decide_eq_true (by first | (with_reducible assumption) | assumption); have q241 : x9_2 < (l0.length : Int) := of_decide_eq_true (by first | (with_reducible assumption) | assumption); obtain ⟨ad241, e241, hx241_0, hx241_1⟩ := at_T47 HR0.out x9_2 p241 q241; obtain rfl : ad236 = ad241 := (by injection e241); replace p241 := eq_true p241; replace q241 := eq_true q241) | (go_at_call 25; (with_reducible refine (cohousingref22_Less.calls ((rd_T47 l0 x6_1).f0) ((rd_T47 l0 x9_2).f0) t242 _ A11.out).mono ?_); rintro e w' ⟨rfl, ⟨nd, rfl⟩⟩; (try first | exact ⟨rfl, _, World.drewN_drewN _ _ _⟩ | exact ⟨rfl, _, Eq.trans (World.drewN_drewN _ _ _) (congrArg (World.drewN _) (Nat.add_assoc _ _ _))⟩))))
                        go_roundg k2
                        case measure => have := HK1.out; have := HK2.out; omega
                        case rel => exact ⟨(Int.tmod (wrap64 (x7_2 * t239)) 1073741789), (Int.tmod (wrap64 (x8_2 * t242)) 1073741789), (wrap64 (x9_2 + 1)), (by first | rfl | (simp; done) | (simp [*]; done)), (by first | rfl | (simp; done) | (simp [*]; done)), (by first | rfl | (simp; done) | (simp [*]; done)), H', ⟨by have := HK1.out; have := HK2.out; omega⟩, by repeat (first | exact Drawn0.refl _ | apply Drawn0.step)⟩
                      · rw [if_neg c10] at H
                        exact absurd H (by simp)
                    · rw [if_neg c9] at H
                      exact absurd H (by simp)
                  · rw [if_neg c7] at H
                    exact absurd H (by simp)
              · rw [if_neg c5] at H
                have c5b0 : decide (x9_2 < (l0.length : Int)) = false := decide_eq_false c5
                clear c5
                replace H := Option.bind_eq_some_iff.mp H
                obtain ⟨t237, A120, H⟩ := H
                replace H : (cohousingref22_Through.l0 k2 l0 a1 (Int.tmod (wrap64 (x5_1 + t237)) 1073741789) (wrap64 (x6_1 + 1))) = some r := H
                have A12 := Aside0.mk A120
                clear A120
                have H' := Aside0.mk H
                clear H
                go_wp2_with (first | (go_at_call 24; (with_reducible refine (cohousingref22_Over.calls k2 x7_2 x8_2 t237 _ A12.out).mono ?_); rintro e w' ⟨rfl, ⟨nd, rfl⟩⟩; (try first | exact ⟨rfl, _, World.drewN_drewN _ _ _⟩ | exact ⟨rfl, _, Eq.trans (World.drewN_drewN _ _ _) (congrArg (World.drewN _) (Nat.add_assoc _ _ _))⟩)))
                repeat (go_quiet (first | (go_at_call 24; (with_reducible refine (cohousingref22_Over.calls k2 x7_2 x8_2 t237 _ A12.out).mono ?_); rintro e w' ⟨rfl, ⟨nd, rfl⟩⟩; (try first | exact ⟨rfl, _, World.drewN_drewN _ _ _⟩ | exact ⟨rfl, _, Eq.trans (World.drewN_drewN _ _ _) (congrArg (World.drewN _) (Nat.add_assoc _ _ _))⟩))); try go_wp2_with (first | (go_at_call 24; (with_reducible refine (cohousingref22_Over.calls k2 x7_2 x8_2 t237 _ A12.out).mono ?_); rintro e w' ⟨rfl, ⟨nd, rfl⟩⟩; (try first | exact ⟨rfl, _, World.drewN_drewN _ _ _⟩ | exact ⟨rfl, _, Eq.trans (World.drewN_drewN _ _ _) (congrArg (World.drewN _) (Nat.add_assoc _ _ _))⟩))))
                go_roundg k2
                case measure => have := HK1.out; have := HK2.out; omega
                case rel => exact ⟨(Int.tmod (wrap64 (x5_1 + t237)) 1073741789), (wrap64 (x6_1 + 1)), (by first | rfl | (simp; done) | (simp [*]; done)), (by first | rfl | (simp; done) | (simp [*]; done)), H', ⟨by have := HK1.out; have := HK2.out; omega⟩, by repeat (first | exact Drawn0.refl _ | apply Drawn0.step)⟩
        · rw [if_neg c4] at H
          exact absurd H (by simp)
      · rw [if_neg c3] at H
        have c3b0 : decide (x6_1 < (l0.length : Int)) = false := decide_eq_false c3
        clear c3
        obtain rfl := Option.some.inj H
        go_wp2
        repeat (go_quiet (fail); try go_wp2)
        go_ret
        exact ⟨by first | rfl | (simp; done) | (simp [*]; done), by repeat (first | exact Drawn0.refl _ | apply Drawn0.step)⟩
end Go.Proofs.YtkghgaifgpgfkaaDoor.PL
end
