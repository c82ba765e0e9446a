/- Lemmas and walks for lotteryMatchesReferenceCard_holds (part 42), without what it does not use. -/
import Derived.Test.YtkghgaifgpgfkaaDoorHM12
import Derived.Test.YtkghgaifgpgfkaaDoorHM29
import Derived.Test.YtkghgaifgpgfkaaDoorHM36
section
namespace Go.Proofs.YtkghgaifgpgfkaaDoor.PL
open Go.RowKit Go.Proofs.YtkghgaifgpgfkaaDoorW.PrintWords Go.Proofs.YtkghgaifgpgfkaaDoorW.PrintLast Go.Proofs.YtkghgaifgpgfkaaDoorW.PrintMore
attribute [local go_sem] max2_int min2_int max_two min_two max_three min_three max_four min_four   -- for this text's walks alone
set_option linter.unusedVariables false
set_option linter.unusedSimpArgs false
mutual
def cohousingref22_pledges.l0 : Nat → List (S31) → Int → Option (Bool)
  | 0, _, _ => none
  | k + 1, x0, x3 => if x3 < (x0.length : Int) then (if 0 ≤ x3 then (if ((rd_T31 x0 x3).f0) = (wrap64 (x3 + 1)) then (cohousingref22_pledges.j1 k x0 x3 ((((rd_T31 x0 x3).f2).length : Int) != (x0.length : Int))) else (cohousingref22_pledges.j1 k x0 x3 true)) else (none)) else (some true)
def cohousingref22_pledges.j1 : Nat → List (S31) → Int → Bool → Option (Bool)
  | 0, _, _, _ => none
  | k + 1, x0, x3, x33 => if x33 = true then (some false) else (cohousingref22_pledges.l1 k x0 x3 0)
def cohousingref22_pledges.l1 : Nat → List (S31) → Int → Int → Option (Bool)
  | 0, _, _, _ => none
  | k + 1, x0, x3, x4 => if x4 < (x0.length : Int) then (if 0 ≤ x3 then (if x3 < (x0.length : Int) then (if 0 ≤ x4 then (if x4 < (((rd_T31 x0 x3).f2).length : Int) then (if ((rd_T47 ((rd_T31 x0 x3).f2) x4).f0) = (wrap64 (x4 + 1)) then ((cohousingref22_Residue.f ((rd_T47 ((rd_T31 x0 x3).f2) x4).f1)).bind fun t258 => (if t258 = true then (cohousingref22_pledges.l1 k x0 x3 (wrap64 (x4 + 1))) else (some false))) else (some false)) else (none)) else (none)) else (none)) else (none)) else (cohousingref22_pledges.l0 k x0 (wrap64 (x3 + 1)))
end
def cohousingref22_pledges.f (k : Nat) (l0 : List (S31)) : Option (Bool) := (cohousingref22_in.f (l0.length : Int) 1 16).bind fun t251 => (if t251 = true then (cohousingref22_pledges.l0 k l0 0) else (some false))
set_option maxHeartbeats 8000000 in
set_option maxRecDepth 100000 in
theorem cohousingref22_pledges.calls (k : Nat) (A0 : Option Addr) (c0 : Nat) (l0 : List (S31)) (r : Bool) (w : World) (hr0 : Kd.C k31 w A0 l0.length l0) (hc0 : l0.length ≤ c0) (h : cohousingref22_pledges.f k l0 = some r) :
    Calls Tryd.prog 42 #[.slice A0 l0.length c0] w fun e w' => e = .returned (.bool r) ∧ Drawn0 w w' := by
  have HR0 := Aside0.mk hr0
  have HC0 := Aside0.mk hc0
  clear hr0 hc0
  have H : ((cohousingref22_in.f (l0.length : Int) 1 16).bind fun t251 => (if t251 = true then (cohousingref22_pledges.l0 k l0 0) else (some false))) = some r := h
  clear h
  replace H := Option.bind_eq_some_iff.mp H
  obtain ⟨t251, A20, H⟩ := H
  replace H : (if t251 = true then (cohousingref22_pledges.l0 k l0 0) else (some false)) = some r := H
  have A2 := Aside0.mk A20
  clear A20
  by_cases c3 : t251 = true
  · subst c3
    have H1 : (cohousingref22_pledges.l0 k l0 0) = some r := by rw [if_pos rfl] at H; exact H
    clear H
    have H := H1
    clear H1
    have H' := Aside0.mk H
    clear H
    go_enter Tryd.func42, Tryd.ntmps42
    go_wp2_with (first | ((with_reducible refine gate_callee (f := 33) rfl ?_); refine goesL_ (some 7) rfl rfl Tryd.func33 (by kernel_rfl) rfl #[.int .i64 (l0.length : Int), .int .i64 1, .int .i64 16] rfl (by (try simp only [List.map_toArray, List.map_cons, List.map_nil]); first | done | rfl | (simp only [List.length_drop, List.length_take]; rfl)) ?_; (with_reducible refine (cohousingref22_in.calls (l0.length : Int) 1 16 true _ A2.out).mono ?_); rintro e w' ⟨rfl, ⟨nd, rfl⟩⟩; refine ⟨_, rfl, ?_⟩))
    go_loopg [3] k (fun kq v3 w' => ∃ (x3_1 : Int), v3 = .int .i64 x3_1 ∧ Aside0 (cohousingref22_pledges.l0 kq l0 x3_1 = some r) ∧ Aside0 (kq ≤ k) ∧ Drawn0 w w')
    case atStart => exact ⟨(0), (by first | rfl | (simp; done) | (simp [*]; done)), H', ⟨Nat.le_refl _⟩, by repeat (first | exact Drawn0.refl _ | apply Drawn0.step)⟩
    case round =>
      clear H'
      try clear p2
      try clear c3
      obtain ⟨x3_1, rfl, HA, HK1, ⟨m1, rfl⟩⟩ := hrel
      cases gk with
      | zero => exact absurd HA.out (by simp [cohousingref22_pledges.l0])
      | succ k1 =>
        have H := HA.out
        clear HA
        simp only [cohousingref22_pledges.l0] at H
        by_cases c4 : x3_1 < (l0.length : Int)
        · rw [if_pos c4] at H
          have c4b0 : decide (x3_1 < (l0.length : Int)) = true := decide_eq_true c4
          clear c4
          have HC5 := Aside0.mk H
          clear H
          go_upto_region 6 with (fail)
          go_cut [33] (fun v33 wc => ∃ (kq : Nat) (x33_4 : Bool), v33 = .bool x33_4 ∧ Aside0 (cohousingref22_pledges.j1 kq l0 x3_1 x33_4 = some r) ∧ Aside0 (kq ≤ k1) ∧ Drawn0 w wc)
          case first =>
            have H := HC5.out
            clear HC5
            by_cases c6 : 0 ≤ x3_1
            · rw [if_pos c6] at H
              have c6b0 : decide (0 ≤ x3_1) = true := decide_eq_true c6
              clear c6
              (first | rw [c6b0] | (simp only [i64_w, i32_w]; rw [c6b0]) | skip)
              by_cases c7 : ((rd_T31 l0 x3_1).f0) = (wrap64 (x3_1 + 1))
              · rw [if_pos c7] at H
                have c7b0 : (((rd_T31 l0 x3_1).f0) == (wrap64 (x3_1 + 1))) = true := beq_iff_eq.mpr c7
                have c7b1 : (((rd_T31 l0 x3_1).f0) != (wrap64 (x3_1 + 1))) = false := bne_eq_false_iff_eq.mpr c7
                clear c7
                have H' := Aside0.mk H
                clear H
                have p252 : 0 ≤ (x3_1 : Int) := of_decide_eq_true (by first | (with_reducible assumption) | assumption)
                have q252 : x3_1 < (l0.length : Int) := of_decide_eq_true (by first | (with_reducible assumption) | assumption)
                obtain ⟨ad252, A252_2, c252_2, e252, hx252_0, hx252_1, hx252_2, hl252_2, hi252_2⟩ := at_T31 HR0.out x3_1 p252 q252
                cases e252
                have HR252_2 := Aside0.mk hi252_2
                have HC252_2 := Aside0.mk hl252_2
                clear hi252_2 hl252_2
                replace p252 := eq_true p252
                replace q252 := eq_true q252
                have p253 : 0 ≤ (x3_1 : Int) := of_decide_eq_true (by first | (with_reducible assumption) | assumption)
                have q253 : x3_1 < (l0.length : Int) := of_decide_eq_true (by first | (with_reducible assumption) | assumption)
                obtain ⟨ad253, A253_2, c253_2, e253, hx253_0, hx253_1, hx253_2, hl253_2, hi253_2⟩ := at_T31 HR0.out x3_1 p253 q253
                obtain rfl : ad252 = ad253 := (by injection e253)
                have HR253_2 := Aside0.mk hi253_2
                have HC253_2 := Aside0.mk hl253_2
                clear hi253_2 hl253_2
                replace p253 := eq_true p253
                replace q253 := eq_true q253
                have ea_ := Option.some.inj (hx252_2.symm.trans hx253_2)
                injection ea_ with ea_ en_ ec_
                subst ea_
                subst ec_
                clear en_
                go_wp2
                go_meet
                case rel => exact ⟨_, (((((rd_T31 l0 x3_1).f2).length : Int) != (l0.length : Int))), (by first | rfl | (simp; done) | (simp [*]; done)), H', ⟨by have := HK1.out; first | omega | exact Nat.le_refl _⟩, by repeat (first | exact Drawn0.refl _ | apply Drawn0.step)⟩
              · rw [if_neg c7] at H
                have c7b0 : (((rd_T31 l0 x3_1).f0) == (wrap64 (x3_1 + 1))) = false := beq_eq_false_iff_ne.mpr c7
                have c7b1 : (((rd_T31 l0 x3_1).f0) != (wrap64 (x3_1 + 1))) = true := bne_iff_ne.mpr c7
                have H' := Aside0.mk H
                clear H
                have p252 : 0 ≤ (x3_1 : Int) := of_decide_eq_true (by first | (with_reducible assumption) | assumption)
                have q252 : x3_1 < (l0.length : Int) := of_decide_eq_true (by first | (with_reducible assumption) | assumption)
                obtain ⟨ad252, A252_2, c252_2, e252, hx252_0, hx252_1, hx252_2, hl252_2, hi252_2⟩ := at_T31 HR0.out x3_1 p252 q252
                cases e252
                have HR252_2 := Aside0.mk hi252_2
                have HC252_2 := Aside0.mk hl252_2
                clear hi252_2 hl252_2
                replace p252 := eq_true p252
                replace q252 := eq_true q252
                go_wp2
                go_meet
                case rel => exact ⟨_, (true), (by first | rfl | (simp; done) | (simp [*]; done)), H', ⟨by have := HK1.out; first | omega | exact Nat.le_refl _⟩, by repeat (first | exact Drawn0.refl _ | apply Drawn0.step)⟩
            · rw [if_neg c6] at H
              exact absurd H (by simp)
          case rest =>
            clear HC5
            try clear c2
            try clear p2
            try clear q2
            try clear hx2
            try clear c3
            try clear c4
            try clear c4b0
            try clear c6
            try clear c6b0
            try clear p6
            try clear c7
            try clear c7b0
            try clear c7b1
            try clear hx252_0
            try clear hx252_1
            try clear hx252_2
            try clear hx253_0
            try clear hx253_1
            try clear hx253_2
            try clear p2
            try clear p252
            try clear p253
            try clear q252
            try clear q253
            obtain ⟨kq, x33_4, rfl, HA, HJ4, ⟨mc4, rfl⟩⟩ := hcut
            cases kq with
            | zero => exact absurd HA.out (by simp [cohousingref22_pledges.j1])
            | succ kj4 =>
              have H := HA.out
              clear HA
              simp only [cohousingref22_pledges.j1] at H
              by_cases c8 : x33_4 = true
              · subst c8
                have H1 : (some false) = some r := by rw [if_pos rfl] at H; exact H
                clear H
                have H := H1
                clear H1
                obtain rfl := Option.some.inj H
                go_wp2
                go_ret
                exact ⟨by first | rfl | (simp; done) | (simp [*]; done), by repeat (first | exact Drawn0.refl _ | apply Drawn0.step)⟩
              · replace c8 := Bool.eq_false_iff.mpr c8
                subst c8
                have H1 : (cohousingref22_pledges.l1 kj4 l0 x3_1 0) = some r := by rw [if_neg (show ¬ (false = true) by decide)] at H; exact H
                clear H
                have H := H1
                clear H1
                have H' := Aside0.mk H
                clear H
                go_wp2
                go_loopg [4] kj4 (fun kq v4 w' => ∃ (x4_3 : Int), v4 = .int .i64 x4_3 ∧ Aside0 (cohousingref22_pledges.l1 kq l0 x3_1 x4_3 = some r) ∧ Aside0 (kq ≤ kj4) ∧ Drawn0 w w')
                case atStart => exact ⟨(0), (by first | rfl | (simp; done) | (simp [*]; done)), H', ⟨Nat.le_refl _⟩, by repeat (first | exact Drawn0.refl _ | apply Drawn0.step)⟩
                case round =>
                  clear H'
                  try clear c2
                  try clear p2
                  try clear q2
                  try clear hx2
                  try clear c3
                  try clear c4
                  try clear c4b0
                  try clear c6
                  try clear c6b0
                  try clear p6
                  try clear c7
                  try clear c7b0
                  try clear c7b1
                  try clear c8
                  try clear hx252_0
                  try clear hx252_1
                  try clear hx252_2
                  try clear hx253_0
                  try clear hx253_1
                  try clear hx253_2
                  try clear p2
                  try clear p252
                  try clear p253
                  try clear p6
                  try clear q2
                  try clear q252
                  try clear q253
                  obtain ⟨x4_3, rfl, HA, HK3, ⟨m3, rfl⟩⟩ := hrel
                  cases gk with
                  | zero => exact absurd HA.out (by simp [cohousingref22_pledges.l1])
                  | succ k3 =>
                    have H := HA.out
                    clear HA
                    simp only [cohousingref22_pledges.l1] at H
                    by_cases c9 : x4_3 < (l0.length : Int)
                    · rw [if_pos c9] at H
                      have c9b0 : decide (x4_3 < (l0.length : Int)) = true := decide_eq_true c9
                      clear c9
                      by_cases c10 : 0 ≤ x3_1
                      · rw [if_pos c10] at H
                        have c10b0 : decide (0 ≤ x3_1) = true := decide_eq_true c10
                        clear c10
                        by_cases c11 : x3_1 < (l0.length : Int)
                        · rw [if_pos c11] at H
                          have c11b0 : decide (x3_1 < (l0.length : Int)) = true := decide_eq_true c11
                          clear c11
                          by_cases c12 : 0 ≤ x4_3
                          · rw [if_pos c12] at H
                            have c12b0 : decide (0 ≤ x4_3) = true := decide_eq_true c12
                            clear c12
                            by_cases c13 : x4_3 < (((rd_T31 l0 x3_1).f2).length : Int)
                            · rw [if_pos c13] at H
                              have c13b0 : decide (x4_3 < (((rd_T31 l0 x3_1).f2).length : Int)) = true := decide_eq_true c13
                              clear c13
                              by_cases c14 : ((rd_T47 ((rd_T31 l0 x3_1).f2) x4_3).f0) = (wrap64 (x4_3 + 1))
                              · rw [if_pos c14] at H
                                have c14b0 : (((rd_T47 ((rd_T31 l0 x3_1).f2) x4_3).f0) == (wrap64 (x4_3 + 1))) = true := beq_iff_eq.mpr c14
                                have c14b1 : (((rd_T47 ((rd_T31 l0 x3_1).f2) x4_3).f0) != (wrap64 (x4_3 + 1))) = false := bne_eq_false_iff_eq.mpr c14
                                clear c14
                                replace H := Option.bind_eq_some_iff.mp H
                                obtain ⟨t258, A150, H⟩ := H
                                replace H : (if t258 = true then (cohousingref22_pledges.l1 k3 l0 x3_1 (wrap64 (x4_3 + 1))) else (some false)) = some r := H
                                have A15 := Aside0.mk A150
                                clear A150
                                by_cases c16 : t258 = true
                                · subst c16
                                  have H1 : (cohousingref22_pledges.l1 k3 l0 x3_1 (wrap64 (x4_3 + 1))) = some r := by rw [if_pos rfl] at H; exact H
                                  clear H
                                  have H := H1
                                  clear H1
                                  have H' := Aside0.mk H
                                  clear H
                                  have p254 : 0 ≤ (x3_1 : Int) := of_decide_eq_true (by first | (with_reducible assumption) | assumption)
                                  have q254 : x3_1 < (l0.length : Int) := of_decide_eq_true (by first | (with_reducible assumption) | assumption)
                                  obtain ⟨ad254, A254_2, c254_2, e254, hx254_0, hx254_1, hx254_2, hl254_2, hi254_2⟩ := at_T31 HR0.out x3_1 p254 q254
                                  cases e254
                                  have HR254_2 := Aside0.mk hi254_2
                                  have HC254_2 := Aside0.mk hl254_2
                                  clear hi254_2 hl254_2
                                  replace p254 := eq_true p254
                                  replace q254 := eq_true q254
                                  have p255 : 0 ≤ (x4_3 : Int) := of_decide_eq_true (by first | (with_reducible assumption) | assumption)
                                  have q255 : x4_3 < (((rd_T31 l0 x3_1).f2).length : Int) := of_decide_eq_true (by first | (with_reducible assumption) | assumption)
                                  obtain ⟨ad255, e255, hx255_0, hx255_1⟩ := at_T47 HR254_2.out x4_3 p255 q255
                                  cases e255
                                  replace p255 := eq_true p255
                                  replace q255 := eq_true q255
                                  have p256 : 0 ≤ (x3_1 : Int) := of_decide_eq_true (by first | (with_reducible assumption) | assumption)
                                  have q256 : x3_1 < (l0.length : Int) := of_decide_eq_true (by first | (with_reducible assumption) | assumption)
                                  obtain ⟨ad256, A256_2, c256_2, e256, hx256_0, hx256_1, hx256_2, hl256_2, hi256_2⟩ := at_T31 HR0.out x3_1 p256 q256
                                  obtain rfl : ad254 = ad256 := (by injection e256)
                                  have HR256_2 := Aside0.mk hi256_2
                                  have HC256_2 := Aside0.mk hl256_2
                                  clear hi256_2 hl256_2
                                  replace p256 := eq_true p256
                                  replace q256 := eq_true q256
                                  have ea_ := Option.some.inj (hx254_2.symm.trans hx256_2)
                                  injection ea_ with ea_ en_ ec_
                                  subst ea_
                                  subst ec_
                                  clear en_
                                  have p257 : 0 ≤ (x4_3 : Int) := of_decide_eq_true (by first | (with_reducible assumption) | assumption)
                                  have q257 : x4_3 < (((rd_T31 l0 x3_1).f2).length : Int) := of_decide_eq_true (by first | (with_reducible assumption) | assumption)
                                  obtain ⟨ad257, e257, hx257_0, hx257_1⟩ := at_T47 HR256_2.out x4_3 p257 q257
                                  cases e257
                                  replace p257 := eq_true p257
                                  replace q257 := eq_true q257
                                  go_wp2_with (first | (go_at_call 23; (with_reducible refine (cohousingref22_Residue.calls ((rd_T47 ((rd_T31 l0 x3_1).f2) x4_3).f1) true _ A15.out).mono ?_); rintro e w' ⟨rfl, ⟨nd, rfl⟩⟩))
                                  go_roundg k3
                                  case measure => have := HK1.out; have := HJ4.out; have := HK3.out; omega
                                  case rel => exact ⟨(wrap64 (x4_3 + 1)), (by first | rfl | (simp; done) | (simp [*]; done)), H', ⟨by have := HK1.out; have := HJ4.out; have := HK3.out; omega⟩, by repeat (first | exact Drawn0.refl _ | apply Drawn0.step)⟩
                                · replace c16 := Bool.eq_false_iff.mpr c16
                                  subst c16
                                  have H1 : (some false) = some r := by rw [if_neg (show ¬ (false = true) by decide)] at H; exact H
                                  clear H
                                  have H := H1
                                  clear H1
                                  obtain rfl := Option.some.inj H
                                  have p254 : 0 ≤ (x3_1 : Int) := of_decide_eq_true (by first | (with_reducible assumption) | assumption)
                                  have q254 : x3_1 < (l0.length : Int) := of_decide_eq_true (by first | (with_reducible assumption) | assumption)
                                  obtain ⟨ad254, A254_2, c254_2, e254, hx254_0, hx254_1, hx254_2, hl254_2, hi254_2⟩ := at_T31 HR0.out x3_1 p254 q254
                                  cases e254
                                  have HR254_2 := Aside0.mk hi254_2
                                  have HC254_2 := Aside0.mk hl254_2
                                  clear hi254_2 hl254_2
                                  replace p254 := eq_true p254
                                  replace q254 := eq_true q254
                                  have p255 : 0 ≤ (x4_3 : Int) := of_decide_eq_true (by first | (with_reducible assumption) | assumption)
                                  have q255 : x4_3 < (((rd_T31 l0 x3_1).f2).length : Int) := of_decide_eq_true (by first | (with_reducible assumption) | assumption)
                                  obtain ⟨ad255, e255, hx255_0, hx255_1⟩ := at_T47 HR254_2.out x4_3 p255 q255
                                  cases e255
                                  replace p255 := eq_true p255
                                  replace q255 := eq_true q255
                                  have p256 : 0 ≤ (x3_1 : Int) := of_decide_eq_true (by first | (with_reducible assumption) | assumption)
                                  have q256 : x3_1 < (l0.length : Int) := of_decide_eq_true (by first | (with_reducible assumption) | assumption)
                                  obtain ⟨ad256, A256_2, c256_2, e256, hx256_0, hx256_1, hx256_2, hl256_2, hi256_2⟩ := at_T31 HR0.out x3_1 p256 q256
                                  obtain rfl : ad254 = ad256 := (by injection e256)
                                  have HR256_2 := Aside0.mk hi256_2
                                  have HC256_2 := Aside0.mk hl256_2
                                  clear hi256_2 hl256_2
                                  replace p256 := eq_true p256
                                  replace q256 := eq_true q256
                                  have ea_ := Option.some.inj (hx254_2.symm.trans hx256_2)
                                  injection ea_ with ea_ en_ ec_
                                  subst ea_
                                  subst ec_
                                  clear en_
                                  have p257 : 0 ≤ (x4_3 : Int) := of_decide_eq_true (by first | (with_reducible assumption) | assumption)
                                  have q257 : x4_3 < (((rd_T31 l0 x3_1).f2).length : Int) := of_decide_eq_true (by first | (with_reducible assumption) | assumption)
                                  obtain ⟨ad257, e257, hx257_0, hx257_1⟩ := at_T47 HR256_2.out x4_3 p257 q257
                                  cases e257
                                  replace p257 := eq_true p257
                                  replace q257 := eq_true q257
                                  go_wp2_with (first | (go_at_call 23; (with_reducible refine (cohousingref22_Residue.calls ((rd_T47 ((rd_T31 l0 x3_1).f2) x4_3).f1) false _ A15.out).mono ?_); rintro e w' ⟨rfl, ⟨nd, rfl⟩⟩))
                                  go_ret
                                  exact ⟨by first | rfl | (simp; done) | (simp [*]; done), by repeat (first | exact Drawn0.refl _ | apply Drawn0.step)⟩
                              · rw [if_neg c14] at H
                                have c14b0 : (((rd_T47 ((rd_T31 l0 x3_1).f2) x4_3).f0) == (wrap64 (x4_3 + 1))) = false := beq_eq_false_iff_ne.mpr c14
                                have c14b1 : (((rd_T47 ((rd_T31 l0 x3_1).f2) x4_3).f0) != (wrap64 (x4_3 + 1))) = true := bne_iff_ne.mpr c14
                                obtain rfl := Option.some.inj H
                                have p254 : 0 ≤ (x3_1 : Int) := of_decide_eq_true (by first | (with_reducible assumption) | assumption)
                                have q254 : x3_1 < (l0.length : Int) := of_decide_eq_true (by first | (with_reducible assumption) | assumption)
                                obtain ⟨ad254, A254_2, c254_2, e254, hx254_0, hx254_1, hx254_2, hl254_2, hi254_2⟩ := at_T31 HR0.out x3_1 p254 q254
                                cases e254
                                have HR254_2 := Aside0.mk hi254_2
                                have HC254_2 := Aside0.mk hl254_2
                                clear hi254_2 hl254_2
                                replace p254 := eq_true p254
                                replace q254 := eq_true q254
                                have p255 : 0 ≤ (x4_3 : Int) := of_decide_eq_true (by first | (with_reducible assumption) | assumption)
                                have q255 : x4_3 < (((rd_T31 l0 x3_1).f2).length : Int) := of_decide_eq_true (by first | (with_reducible assumption) | assumption)
                                obtain ⟨ad255, e255, hx255_0, hx255_1⟩ := at_T47 HR254_2.out x4_3 p255 q255
                                cases e255
                                replace p255 := eq_true p255
                                replace q255 := eq_true q255
                                go_wp2
                                go_ret
                                exact ⟨by first | rfl | (simp; done) | (simp [*]; done), by repeat (first | exact Drawn0.refl _ | apply Drawn0.step)⟩
                            · rw [if_neg c13] at H
                              exact absurd H (by simp)
                          · rw [if_neg c12] at H
                            exact absurd H (by simp)
                        · rw [if_neg c11] at H
                          exact absurd H (by simp)
                      · rw [if_neg c10] at H
                        exact absurd H (by simp)
                    · rw [if_neg c9] at H
                      have c9b0 : decide (x4_3 < (l0.length : Int)) = false := decide_eq_false c9
                      clear c9
                      have H' := Aside0.mk H
                      clear H
                      go_wp2
                      go_roundg k3
                      case measure => have := HK1.out; have := HJ4.out; have := HK3.out; omega
                      case rel => exact ⟨(wrap64 (x3_1 + 1)), (by first | rfl | (simp; done) | (simp [*]; done)), H', ⟨by have := HK1.out; have := HJ4.out; have := HK3.out; omega⟩, by repeat (first | exact Drawn0.refl _ | apply Drawn0.step)⟩
        · rw [if_neg c4] at H
          have c4b0 : decide (x3_1 < (l0.length : Int)) = false := decide_eq_false c4
          clear c4
          obtain rfl := Option.some.inj H
          go_wp2
          go_ret
          exact ⟨by first | rfl | (simp; done) | (simp [*]; done), by repeat (first | exact Drawn0.refl _ | apply Drawn0.step)⟩
  · replace c3 := Bool.eq_false_iff.mpr c3
    subst c3
    have H1 : (some false) = some r := by rw [if_neg (show ¬ (false = true) by decide)] at H; exact H
    clear H
    have H := H1
    clear H1
    obtain rfl := Option.some.inj H
    go_enter Tryd.func42, Tryd.ntmps42
    go_wp2_with (first | ((with_reducible refine gate_callee (f := 33) rfl ?_); refine goesL_ (some 7) rfl rfl Tryd.func33 (by kernel_rfl) rfl #[.int .i64 (l0.length : Int), .int .i64 1, .int .i64 16] rfl (by (try simp only [List.map_toArray, List.map_cons, List.map_nil]); first | done | rfl | (simp only [List.length_drop, List.length_take]; rfl)) ?_; (with_reducible refine (cohousingref22_in.calls (l0.length : Int) 1 16 false _ A2.out).mono ?_); rintro e w' ⟨rfl, ⟨nd, rfl⟩⟩; refine ⟨_, rfl, ?_⟩))
    go_ret
    exact ⟨by first | rfl | (simp; done) | (simp [*]; done), by repeat (first | exact Drawn0.refl _ | apply Drawn0.step)⟩
end Go.Proofs.YtkghgaifgpgfkaaDoor.PL
end
