/- Lemmas and walks for lotteryMatchesReferenceCard_holds (part 16), without what it does not use. -/
import Derived.Test.YtkghgaifgpgfkaaDoorHM15
section
namespace Go.Proofs.YtkghgaifgpgfkaaDoor.PL
open Go.RowKit Go.Proofs.YtkghgaifgpgfkaaDoorW.PrintWords Go.Proofs.YtkghgaifgpgfkaaDoorW.PrintLast Go.Proofs.YtkghgaifgpgfkaaDoorW.PrintMore
set_option linter.unusedVariables false
set_option linter.unusedSimpArgs false
theorem ret_int {k : IntKind} {a b : Int} (h : a = b) : Ending.returned (.int k a) = .returned (.int k b) := by rw [h]
theorem ret_bool {a b : Bool} (h : a = b) : Ending.returned (.bool a) = .returned (.bool b) := by rw [h]
def timesW (a b : Int) : Int := Int.tmod (wrap64 (a * b)) 1073741789
def plusW (a b : Int) : Int := Int.tmod (wrap64 (a + b)) 1073741789
theorem times_calls (a b : Int) (w : World) : Calls Tryd.prog 45 #[.int .i64 a, .int .i64 b] w fun e w' => e = .returned (.int .i64 (timesW a b)) ∧ Drawn0 w w' :=
  lottery_residue_times.calls a b _ w rfl
theorem plus_calls (a b : Int) (w : World) : Calls Tryd.prog 40 #[.int .i64 a, .int .i64 b] w fun e w' => e = .returned (.int .i64 (plusW a b)) ∧ Drawn0 w w' :=
  lottery_residue_plus.calls a b _ w rfl
theorem foldl_take_succ {β : Type} (f : β → Int → β) (a : β) (l : List Int) (i : Nat) (h : i < l.length) : (l.take (i + 1)).foldl f a = f ((l.take i).foldl f a) (rd l i) := by
  rw [List.take_succ_eq_append_getElem h, List.foldl_append]
  simp [rd, List.getD_eq_getElem?_getD, List.getElem?_eq_getElem h]
def fold_times.f (a0 : Int) (l1 : List Int) : Option (Int) := some (l1.foldl timesW a0)
set_option maxHeartbeats 1000000 in
theorem fold_times.calls (a0 : Int) (A1 : Option Addr) (c1 : Nat) (l1 : List Int) (r : Int) (w : World) (hr1 : Kd.C (Kd.int .i64) w A1 l1.length l1) (hc1 : l1.length ≤ c1) (h : fold_times.f a0 l1 = some r) :
    Calls Tryd.prog 54 #[.func (.func 45) #[] #[], .int .i64 a0, .slice A1 l1.length c1] w fun e w' => e = .returned (.int .i64 r) ∧ Drawn0 w w' := by
  have HR := Aside0.mk hr1
  clear hr1
  obtain rfl := Option.some.inj h
  clear h
  go_enter Tryd.func54, Tryd.ntmps54
  go_wp2
  go_loopg [1, 11] l1.length (fun kq v1 v11 w' => ∃ i : Nat, v11 = .int .i64 i ∧ v1 = .int .i64 ((l1.take i).foldl timesW a0) ∧ i ≤ l1.length ∧ Aside0 (kq = l1.length - i) ∧ Drawn0 w w')
  case atStart => exact ⟨0, rfl, rfl, Nat.zero_le _, ⟨rfl⟩, Drawn0.refl _⟩
  case round =>
    obtain ⟨i, rfl, rfl, hi, HK, ⟨m, rfl⟩⟩ := hrel
    by_cases hlt : i < l1.length
    · have hmx := Kd.C_max HR.out
      obtain ⟨ad, e1, hx⟩ := Kd.at_int HR.out (i : Int) (by omega) (by omega)
      cases e1
      rw [Int.toNat_natCast] at hx
      have HT := Aside0.mk (foldl_take_succ timesW a0 l1 i hlt)
      go_wp2_with (go_at_call 45; refine (times_calls _ _ _).mono ?_; rintro e w' ⟨rfl, ⟨nd, rfl⟩⟩)
      go_roundg (l1.length - (i + 1))
      case measure => have := HK.out; omega
      case rel => exact ⟨i + 1, by go_num, (by first | rw [HT.out] | skip), by omega, ⟨rfl⟩, by repeat (first | exact Drawn0.refl _ | apply Drawn0.step)⟩
    · have hii : i = l1.length := by omega
      subst hii
      go_wp2
      go_ret
      exact ⟨by first | rfl | simp, by repeat (first | exact Drawn0.refl _ | apply Drawn0.step)⟩
def fold_plus.f (a0 : Int) (l1 : List Int) : Option (Int) := some (l1.foldl plusW a0)
set_option maxHeartbeats 1000000 in
theorem fold_plus.calls (a0 : Int) (A1 : Option Addr) (c1 : Nat) (l1 : List Int) (r : Int) (w : World) (hr1 : Kd.C (Kd.int .i64) w A1 l1.length l1) (hc1 : l1.length ≤ c1) (h : fold_plus.f a0 l1 = some r) :
    Calls Tryd.prog 54 #[.func (.func 40) #[] #[], .int .i64 a0, .slice A1 l1.length c1] w fun e w' => e = .returned (.int .i64 r) ∧ Drawn0 w w' := by
  have HR := Aside0.mk hr1
  clear hr1
  obtain rfl := Option.some.inj h
  clear h
  go_enter Tryd.func54, Tryd.ntmps54
  go_wp2
  go_loopg [1, 11] l1.length (fun kq v1 v11 w' => ∃ i : Nat, v11 = .int .i64 i ∧ v1 = .int .i64 ((l1.take i).foldl plusW a0) ∧ i ≤ l1.length ∧ Aside0 (kq = l1.length - i) ∧ Drawn0 w w')
  case atStart => exact ⟨0, rfl, rfl, Nat.zero_le _, ⟨rfl⟩, Drawn0.refl _⟩
  case round =>
    obtain ⟨i, rfl, rfl, hi, HK, ⟨m, rfl⟩⟩ := hrel
    by_cases hlt : i < l1.length
    · have hmx := Kd.C_max HR.out
      obtain ⟨ad, e1, hx⟩ := Kd.at_int HR.out (i : Int) (by omega) (by omega)
      cases e1
      rw [Int.toNat_natCast] at hx
      have HT := Aside0.mk (foldl_take_succ plusW a0 l1 i hlt)
      go_wp2_with (go_at_call 40; refine (plus_calls _ _ _).mono ?_; rintro e w' ⟨rfl, ⟨nd, rfl⟩⟩)
      go_roundg (l1.length - (i + 1))
      case measure => have := HK.out; omega
      case rel => exact ⟨i + 1, by go_num, (by first | rw [HT.out] | skip), by omega, ⟨rfl⟩, by repeat (first | exact Drawn0.refl _ | apply Drawn0.step)⟩
    · have hii : i = l1.length := by omega
      subst hii
      go_wp2
      go_ret
      exact ⟨by first | rfl | simp, by repeat (first | exact Drawn0.refl _ | apply Drawn0.step)⟩
def isRes (n : Int) : Bool := decide (0 ≤ n) && decide (n ≤ 1073741788)
theorem between_res (n : Int) : lottery_between.f n 0 1073741788 = some (isRes n) := by
  unfold lottery_between.f isRes
  by_cases h : 0 ≤ n <;> simp [h]
set_option maxHeartbeats 1000000 in
theorem bad_calls (n : Int) (w : World) : Calls Tryd.prog 50 #[.int .i64 n] w fun e w' => e = .returned (.bool (!isRes n)) ∧ Drawn0 w w' := by
  go_enter Tryd.func50, Tryd.ntmps50
  go_wp2_with (go_at_call 29; refine (lottery_between.calls _ _ _ _ _ (between_res n)).mono ?_; rintro e w' ⟨rfl, ⟨nd, rfl⟩⟩)
  go_ret
  exact ⟨by first | rfl | simp, by repeat (first | exact Drawn0.refl _ | apply Drawn0.step)⟩
def badIdx : Nat → List Int → Int
  | _, [] => -1
  | i, x :: l => if isRes x = true then badIdx (i + 1) l else i
theorem badIdx_neg : ∀ (l : List Int) (i : Nat), decide (0 ≤ badIdx i l) = !l.all isRes
  | [], i => by simp [badIdx]
  | x :: l, i => by
    unfold badIdx
    by_cases h : isRes x = true
    · rw [if_pos h, badIdx_neg l]; simp [h]
    · rw [if_neg h]; simp [h]
theorem badIdx_at (l : List Int) (i : Nat) (h : i < l.length) : badIdx i (l.drop i) = if isRes (rd l i) = true then badIdx (i + 1) (l.drop (i + 1)) else (i : Int) := by
  rw [List.drop_eq_getElem_cons h]
  simp only [badIdx]
  simp [rd, List.getD_eq_getElem?_getD, List.getElem?_eq_getElem h]
set_option maxHeartbeats 1000000 in
theorem idx_calls (A0 : Option Addr) (c0 : Nat) (l0 : List Int) (w : World) (hr0 : Kd.C (Kd.int .i64) w A0 l0.length l0) :
    Calls Tryd.prog 60 #[.slice A0 l0.length c0, .func (.func 50) #[] #[]] w fun e w' => e = .returned (.int .i64 (badIdx 0 l0)) ∧ Drawn0 w w' := by
  have HR := Aside0.mk hr0
  clear hr0
  go_enter Tryd.func60, Tryd.ntmps60
  go_wp2
  go_loopg [5, 8] l0.length (fun kq v5 v8 w' => ∃ i : Nat, v8 = .int .i64 i ∧ i ≤ l0.length ∧ Aside0 (badIdx 0 l0 = badIdx i (l0.drop i)) ∧ Aside0 (kq = l0.length - i) ∧ Drawn0 w w')
  case atStart => exact ⟨0, rfl, Nat.zero_le _, ⟨by simp⟩, ⟨rfl⟩, Drawn0.refl _⟩
  case round =>
    obtain ⟨i, rfl, hi, HI, HK, ⟨m, rfl⟩⟩ := hrel
    by_cases hlt : i < l0.length
    · have hmx := Kd.C_max HR.out
      obtain ⟨ad, e1, hx⟩ := Kd.at_int HR.out (i : Int) (by omega) (by omega)
      cases e1
      rw [Int.toNat_natCast] at hx
      have HT := Aside0.mk (badIdx_at l0 i hlt)
      cases hb : isRes (rd l0 i) with
      | true =>
        have HB := Aside0.mk hb
        have hbc := bad_calls (rd l0 i)
        rw [hb] at hbc
        clear hb
        have HBC := Aside0.mk hbc
        clear hbc
        go_wp2_with (go_at_call 50; refine (HBC.out _).mono ?_; rintro e w' ⟨rfl, ⟨nd, rfl⟩⟩)
        go_roundg (l0.length - (i + 1))
        case measure => have := HK.out; omega
        case rel => exact ⟨i + 1, by go_num, by omega, ⟨by rw [HI.out, HT.out, if_pos HB.out]⟩, ⟨rfl⟩, by repeat (first | exact Drawn0.refl _ | apply Drawn0.step)⟩
      | false =>
        have HB := Aside0.mk hb
        have hbc := bad_calls (rd l0 i)
        rw [hb] at hbc
        clear hb
        have HBC := Aside0.mk hbc
        clear hbc
        go_wp2_with (go_at_call 50; refine (HBC.out _).mono ?_; rintro e w' ⟨rfl, ⟨nd, rfl⟩⟩)
        go_ret
        exact ⟨ret_int (by rw [HI.out, HT.out, if_neg (by rw [HB.out]; decide)]), by repeat (first | exact Drawn0.refl _ | apply Drawn0.step)⟩
    · have hii : i = l0.length := by omega
      subst hii
      go_wp2
      go_ret
      exact ⟨ret_int (by rw [HI.out]; simp [badIdx]), by repeat (first | exact Drawn0.refl _ | apply Drawn0.step)⟩
set_option maxHeartbeats 1000000 in
theorem contains_calls (A0 : Option Addr) (c0 : Nat) (l0 : List Int) (w : World) (hr0 : Kd.C (Kd.int .i64) w A0 l0.length l0) :
    Calls Tryd.prog 49 #[.slice A0 l0.length c0, .func (.func 50) #[] #[]] w fun e w' => e = .returned (.bool (!l0.all isRes)) ∧ Drawn0 w w' := by
  have HR := Aside0.mk hr0
  clear hr0
  go_enter Tryd.func49, Tryd.ntmps49
  go_wp2_with (go_at_call 60; refine (idx_calls _ _ _ _ HR.out).mono ?_; rintro e w' ⟨rfl, ⟨nd, rfl⟩⟩)
  go_ret
  exact ⟨ret_bool (badIdx_neg l0 0), by repeat (first | exact Drawn0.refl _ | apply Drawn0.step)⟩
def lottery_isResidue.f (l0 : List Int) : Option (Bool) := some (l0.all isRes)
set_option maxHeartbeats 1000000 in
theorem lottery_isResidue.calls (A0 : Option Addr) (c0 : Nat) (l0 : List Int) (r : Bool) (w : World) (hr0 : Kd.C (Kd.int .i64) w A0 l0.length l0) (hc0 : l0.length ≤ c0) (h : lottery_isResidue.f l0 = some r) :
    Calls Tryd.prog 30 #[.slice A0 l0.length c0] w fun e w' => e = .returned (.bool r) ∧ Drawn0 w w' := by
  have HR := Aside0.mk hr0
  clear hr0
  obtain rfl := Option.some.inj h
  clear h
  go_enter Tryd.func30, Tryd.ntmps30
  go_wp2_with (go_at_call 49; refine (contains_calls _ _ _ _ HR.out).mono ?_; rintro e w' ⟨rfl, ⟨nd, rfl⟩⟩)
  go_ret
  exact ⟨ret_bool (by simp), by repeat (first | exact Drawn0.refl _ | apply Drawn0.step)⟩
end Go.Proofs.YtkghgaifgpgfkaaDoor.PL
end
