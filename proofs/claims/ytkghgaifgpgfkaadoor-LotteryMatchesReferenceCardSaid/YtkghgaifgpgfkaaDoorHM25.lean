/- Lemmas and walks for lotteryMatchesReferenceCard_holds (part 25), without what it does not use. -/
import Derived.Test.YtkghgaifgpgfkaaDoorHM12
import Derived.Test.YtkghgaifgpgfkaaDoorHM15
import Derived.Test.YtkghgaifgpgfkaaDoorHM22
import Derived.Test.YtkghgaifgpgfkaaDoorHM16
import Derived.Test.YtkghgaifgpgfkaaDoorHM24
import Derived.Test.YtkghgaifgpgfkaaDoorHM13
section
namespace Go.Proofs.YtkghgaifgpgfkaaDoor.PL
open Go.RowKit Go.Proofs.YtkghgaifgpgfkaaDoorW.PrintWords Go.Proofs.YtkghgaifgpgfkaaDoorW.PrintLast Go.Proofs.YtkghgaifgpgfkaaDoorW.PrintMore
attribute [local go_sem] max2_int min2_int max_two min_two max_three min_three max_four min_four   -- for this text's walks alone
set_option linter.unusedVariables false
set_option linter.unusedSimpArgs false
mutual
def lottery_Deal.j0 : Nat → List Int → Int → Bool → Int → Int → Int → Option (Int × Int × (List (S47)) × Int)
  | 0, _, _, _, _, _, _ => none
  | k + 1, x1, x2, x42, x159000, x159001, x159002 => if x42 = true then (some (0, 0, ([] : List (S47)), 1)) else (lottery_Deal.l0 k x2 (([x159001] : List Int)) x1 (x1.length : Int) 0 x159000 x159001 x159002)
def lottery_Deal.l0 : Nat → Int → List Int → List Int → Int → Int → Int → Int → Int → Option (Int × Int × (List (S47)) × Int)
  | 0, _, _, _, _, _, _, _, _ => none
  | k + 1, x2, x8, x47, x48, x49, x159000, x159001, x159002 => if x49 < x48 then (if 0 ≤ x49 then (if x49 < (x47.length : Int) then (if x8.length < 17592186044416 then (lottery_Deal.l0 k x2 (x8 ++ [rd x47 x49]) x47 x48 (wrap64 (x49 + 1)) x159000 x159001 x159002) else (none)) else (none)) else (none)) else ((lottery_sum.f x159000 x159001 x159002).bind fun t174 => (lottery_Deal.l1 k x8 x2 0 x159000 t174 ([] : List (S47))))
def lottery_Deal.l1 : Nat → List Int → Int → Int → Int → Int → List (S47) → Option (Int × Int × (List (S47)) × Int)
  | 0, _, _, _, _, _, _ => none
  | k + 1, x8, x63, x64, x176000, x176001, x176002 => if x64 < x63 then ((lottery_polynomial_at.f x8 (wrap64 (x64 + 1))).bind fun t176 => (if x176002.length < 8796093022208 then (lottery_Deal.l1 k x8 x63 (wrap64 (x64 + 1)) x176000 x176001 (x176002 ++ [(⟨wrap64 (x64 + 1), t176⟩ : S47)])) else (none))) else (some (x176000, x176001, x176002, 0))
end
def lottery_Deal.f (k : Nat) (a0_0 : Int) (a0_1 : Int) (a0_2 : Int) (l1 : List Int) (a2 : Int) : Option (Int × Int × (List (S47)) × Int) := (lottery_between.f a2 1 16).bind fun t160 => (if t160 = true then ((lottery_between.f a0_0 1 a2).bind fun t161 => (if t161 = true then ((lottery_isResidue.f (([a0_1, a0_2] : List Int))).bind fun t165 => (if t165 = true then ((lottery_isResidue.f l1).bind fun t166 => (if t166 = true then (lottery_Deal.j0 k l1 a2 (decide ((l1.length : Int) ≥ a2)) a0_0 a0_1 a0_2) else (lottery_Deal.j0 k l1 a2 true a0_0 a0_1 a0_2))) else (lottery_Deal.j0 k l1 a2 true a0_0 a0_1 a0_2))) else (lottery_Deal.j0 k l1 a2 true a0_0 a0_1 a0_2))) else (lottery_Deal.j0 k l1 a2 true a0_0 a0_1 a0_2))
def lottery_Deal.T13 : Bool × List (List Nat × List Nat) := (true, [([], []), ([0], [0]), ([], []), ([2], [2]), ([], []), ([], []), ([5], [5]), ([4, 6], [4, 6]), ([3, 7], [3, 7]), ([8], [8]), ([1, 9, 7], [1, 9]), ([0, 1, 2, 3, 4, 5, 6, 7, 8, 9, 10], []), ([11, 10, 10, 0, 1, 2, 3, 4, 5, 6, 7, 8, 9, 10], [10, 11])])
def lottery_Deal.B13 : List Nat := [0, 1, 0, 4, 0, 0, 32, 112, 252, 508, 1023, 2047, 4095]
theorem lottery_Deal.tab13 : rtab .any (opsOf Tryd.f11 13) = lottery_Deal.T13 := by kernel_rfl
theorem lottery_Deal.bits13 : waitsOk lottery_Deal.T13.2 lottery_Deal.B13 = true := by kernel_rfl
set_option maxHeartbeats 8000000 in
set_option maxRecDepth 100000 in
theorem lottery_Deal.calls (k : Nat) (a0_0 : Int) (a0_1 : Int) (a0_2 : Int) (A1 : Option Addr) (c1 : Nat) (l1 : List Int) (a2 : Int) (r1 : Int) (r2 : Int) (r3 : List (S47)) (r4 : Int) (w : World) (hT : TabW w) (hr1 : Kd.C (Kd.int .i64) w A1 l1.length l1) (hc1 : l1.length ≤ c1) (h : lottery_Deal.f k a0_0 a0_1 a0_2 l1 a2 = some (r1, r2, r3, r4)) :
    Calls Tryd.prog 11 #[.agg #[.int .i64 a0_0, .int .i64 a0_1, .int .i64 a0_2], .slice A1 l1.length c1, .int .i64 a2] w fun e w' => ∃ v2_ : Value, e = .returned (.tuple #[.agg #[.int .i64 r1, .int .u64 r2, v2_], .int .i64 r4]) ∧ Kd.R k47 47 w' w.heap.size (fun _ => True) v2_ r3 ∧ Below w.heap.size w w' := by
  have hu23 := Tryd.underlying23
  have hu31 := Tryd.underlying31
  have hu47 := Tryd.underlying47
  have HTAB := Aside0.mk hT
  clear hT
  have HR1 := Aside0.mk hr1
  have HC1 := Aside0.mk hc1
  clear hr1 hc1
  have HB := Aside0.mk (Below.refl w.heap.size w)
  have H : ((lottery_between.f a2 1 16).bind fun t160 => (if t160 = true then ((lottery_between.f a0_0 1 a2).bind fun t161 => (if t161 = true then ((lottery_isResidue.f (([a0_1, a0_2] : List Int))).bind fun t165 => (if t165 = true then ((lottery_isResidue.f l1).bind fun t166 => (if t166 = true then (lottery_Deal.j0 k l1 a2 (decide ((l1.length : Int) ≥ a2)) a0_0 a0_1 a0_2) else (lottery_Deal.j0 k l1 a2 true a0_0 a0_1 a0_2))) else (lottery_Deal.j0 k l1 a2 true a0_0 a0_1 a0_2))) else (lottery_Deal.j0 k l1 a2 true a0_0 a0_1 a0_2))) else (lottery_Deal.j0 k l1 a2 true a0_0 a0_1 a0_2))) = some (r1, r2, r3, r4) := h
  clear h
  have HC4 := Aside0.mk H
  clear H
  go_enter Tryd.func11, Tryd.ntmps11
  go_upto_region 1 with (first | ((with_reducible refine gate_dst (N := 3) rfl ?_); (try (refine gate_guard (by rfl) ?_; dsimp only)); refine box_event ?hg (N := 3) ?hd (cs := #[.int .i64 a0_0, .int .i64 a0_1, .int .i64 a0_2]) (t := 23) ?hr ?_; (case hd => rfl); (case hg => rfl); (case hr => first | (go_simp; done) | (go_simp; rfl)); intro gb158 hg w5 hbox hb; have n0_ := Aside0.mk (below_step (by repeat (first | (with_reducible first | exact HB.out | apply below_alloc | apply pw_below_drewN | apply below_drew1) | exact HB.out)) hb); have n1_ := Aside0.mk (hbox); have n2_ := Aside0.mk ((by rw [hg]; exact (below_size (by repeat (first | (with_reducible first | exact HB.out | apply below_alloc | apply pw_below_drewN | apply below_drew1) | exact HB.out))) : w.heap.size ≤ gb158)); have n3_ := Aside0.mk ((by rw [hg]; exact (below_size (by repeat (first | (with_reducible first | exact HB.out | apply below_alloc | apply pw_below_drewN | apply below_drew1) | exact HB.out))) : w.heap.size ≤ gb158)); clear HB; have HB := n0_; have BK158 := n1_; have GW158 := n2_; have GE158 := n3_; clear n0_ n1_ n2_ n3_; clear hb hbox hg) | ((with_reducible refine gate_dst (N := 6) rfl ?_); (try (refine gate_guard (by rfl) ?_; dsimp only)); refine box_event ?hg (N := 6) ?hd (cs := #[.int .i64 0, .int .u64 0, .slice none 0 0]) (t := 31) ?hr ?_; (case hd => rfl); (case hg => rfl); (case hr => first | (go_simp; done) | (go_simp; rfl)); intro gb159 hg w6 hbox hb; have n0_ := Aside0.mk (blk_below (g := gb158) (o := .cells #[.int .i64 a0_0, .int .i64 a0_1, .int .i64 a0_2] 23 (0, 0)) (by (with_reducible repeat (first | refine blk_drewN ?_ _ | refine blk_drew ?_ | refine blk_alloc ?_ _)); exact BK158.out) hb); have n1_ := Aside0.mk (below_step (by repeat (first | (with_reducible first | exact HB.out | apply below_alloc | apply pw_below_drewN | apply below_drew1 | refine below_set ?_ GE158.out) | exact HB.out)) hb); have n2_ := Aside0.mk (hbox); have n3_ := Aside0.mk ((by rw [hg]; exact (below_size (by repeat (first | (with_reducible first | exact HB.out | apply below_alloc | apply pw_below_drewN | apply below_drew1 | refine below_set ?_ GE158.out) | exact HB.out))) : w.heap.size ≤ gb159)); have n4_ := Aside0.mk ((by rw [hg]; exact (below_size (by repeat (first | (with_reducible first | exact HB.out | apply below_alloc | apply pw_below_drewN | apply below_drew1 | refine below_set ?_ GE158.out) | exact HB.out))) : w.heap.size ≤ gb159)); have n5_ := Aside0.mk ((by rw [hg]; exact Nat.ne_of_lt (blk_lt (g := gb158) (o := .cells #[.int .i64 a0_0, .int .i64 a0_1, .int .i64 a0_2] 23 (0, 0)) (by (with_reducible repeat (first | refine blk_drewN ?_ _ | refine blk_drew ?_ | refine blk_alloc ?_ _)); exact BK158.out)) : gb158 ≠ gb159)); have n6_ := Aside0.mk ((by rw [hg]; exact Nat.ne_of_gt (blk_lt (g := gb158) (o := .cells #[.int .i64 a0_0, .int .i64 a0_1, .int .i64 a0_2] 23 (0, 0)) (by (with_reducible repeat (first | refine blk_drewN ?_ _ | refine blk_drew ?_ | refine blk_alloc ?_ _)); exact BK158.out)) : gb159 ≠ gb158)); clear BK158; clear HB; have BK158 := n0_; have HB := n1_; have BK159 := n2_; have GW159 := n3_; have GE159 := n4_; have NB158_159 := n5_; have NB159_158 := n6_; clear n0_ n1_ n2_ n3_ n4_ n5_ n6_; clear hb hbox hg))
  (try simp only [Act.put, List.setIfInBounds_toArray, List.set_cons_zero, List.set_cons_succ])
  go_cut [42] (fun v42 wc => ∃ (kq : Nat) (x42_3 : Bool), v42 = .bool x42_3 ∧ Aside0 (lottery_Deal.j0 kq l1 a2 x42_3 a0_0 a0_1 a0_2 = some (r1, r2, r3, r4)) ∧ Aside0 (kq ≤ k) ∧ Aside0 (wc.heap[gb158]? = some (.cells #[.int .i64 a0_0, .int .i64 a0_1, .int .i64 a0_2] 23 (0, 0))) ∧ Aside0 (wc.heap[gb159]? = some (.cells #[.int .i64 0, .int .u64 0, (.slice none 0 0)] 31 (0, 0))) ∧ Aside0 (Below w.heap.size w wc))
  case first =>
    have H := HC4.out
    clear HC4
    replace H := Option.bind_eq_some_iff.mp H
    obtain ⟨t160, A70, H⟩ := H
    replace H : (if t160 = true then ((lottery_between.f a0_0 1 a2).bind fun t161 => (if t161 = true then ((lottery_isResidue.f (([a0_1, a0_2] : List Int))).bind fun t165 => (if t165 = true then ((lottery_isResidue.f l1).bind fun t166 => (if t166 = true then (lottery_Deal.j0 k l1 a2 (decide ((l1.length : Int) ≥ a2)) a0_0 a0_1 a0_2) else (lottery_Deal.j0 k l1 a2 true a0_0 a0_1 a0_2))) else (lottery_Deal.j0 k l1 a2 true a0_0 a0_1 a0_2))) else (lottery_Deal.j0 k l1 a2 true a0_0 a0_1 a0_2))) else (lottery_Deal.j0 k l1 a2 true a0_0 a0_1 a0_2)) = some (r1, r2, r3, r4) := H
    have A7 := Aside0.mk A70
    clear A70
    by_cases c8 : t160 = true
    · subst c8
      have H1 : ((lottery_between.f a0_0 1 a2).bind fun t161 => (if t161 = true then ((lottery_isResidue.f (([a0_1, a0_2] : List Int))).bind fun t165 => (if t165 = true then ((lottery_isResidue.f l1).bind fun t166 => (if t166 = true then (lottery_Deal.j0 k l1 a2 (decide ((l1.length : Int) ≥ a2)) a0_0 a0_1 a0_2) else (lottery_Deal.j0 k l1 a2 true a0_0 a0_1 a0_2))) else (lottery_Deal.j0 k l1 a2 true a0_0 a0_1 a0_2))) else (lottery_Deal.j0 k l1 a2 true a0_0 a0_1 a0_2))) = some (r1, r2, r3, r4) := by rw [if_pos rfl] at H; exact H
      clear H
      have H := H1
      clear H1
      replace H := Option.bind_eq_some_iff.mp H
      obtain ⟨t161, A90, H⟩ := H
      replace H : (if t161 = true then ((lottery_isResidue.f (([a0_1, a0_2] : List Int))).bind fun t165 => (if t165 = true then ((lottery_isResidue.f l1).bind fun t166 => (if t166 = true then (lottery_Deal.j0 k l1 a2 (decide ((l1.length : Int) ≥ a2)) a0_0 a0_1 a0_2) else (lottery_Deal.j0 k l1 a2 true a0_0 a0_1 a0_2))) else (lottery_Deal.j0 k l1 a2 true a0_0 a0_1 a0_2))) else (lottery_Deal.j0 k l1 a2 true a0_0 a0_1 a0_2)) = some (r1, r2, r3, r4) := H
      have A9 := Aside0.mk A90
      clear A90
      by_cases c10 : t161 = true
      · subst c10
        have H1 : ((lottery_isResidue.f (([a0_1, a0_2] : List Int))).bind fun t165 => (if t165 = true then ((lottery_isResidue.f l1).bind fun t166 => (if t166 = true then (lottery_Deal.j0 k l1 a2 (decide ((l1.length : Int) ≥ a2)) a0_0 a0_1 a0_2) else (lottery_Deal.j0 k l1 a2 true a0_0 a0_1 a0_2))) else (lottery_Deal.j0 k l1 a2 true a0_0 a0_1 a0_2))) = some (r1, r2, r3, r4) := by rw [if_pos rfl] at H; exact H
        clear H
        have H := H1
        clear H1
        obtain ⟨y162, hy162⟩ : ∃ y_ : List Int, y_ = (([a0_1, a0_2] : List Int)) := ⟨_, rfl⟩
        replace H : ((lottery_isResidue.f y162).bind fun t165 => (if t165 = true then ((lottery_isResidue.f l1).bind fun t166 => (if t166 = true then (lottery_Deal.j0 k l1 a2 (decide ((l1.length : Int) ≥ a2)) a0_0 a0_1 a0_2) else (lottery_Deal.j0 k l1 a2 true a0_0 a0_1 a0_2))) else (lottery_Deal.j0 k l1 a2 true a0_0 a0_1 a0_2))) = some (r1, r2, r3, r4) := by first | (rw [hy162]; with_reducible exact H) | (have H2_ := (Option.bind_some _ _).symm.trans H; rw [hy162]; with_reducible exact H2_) | (have H2_ := (Option.bind_some _ _).symm.trans H; with_reducible exact H2_) | with_reducible exact H | (rw [hy162]; exact H) | exact H
        have Ny162 := Aside0.mk hy162
        clear hy162
        replace H := Option.bind_eq_some_iff.mp H
        obtain ⟨t165, A110, H⟩ := H
        replace H : (if t165 = true then ((lottery_isResidue.f l1).bind fun t166 => (if t166 = true then (lottery_Deal.j0 k l1 a2 (decide ((l1.length : Int) ≥ a2)) a0_0 a0_1 a0_2) else (lottery_Deal.j0 k l1 a2 true a0_0 a0_1 a0_2))) else (lottery_Deal.j0 k l1 a2 true a0_0 a0_1 a0_2)) = some (r1, r2, r3, r4) := H
        have A11 := Aside0.mk A110
        clear A110
        by_cases c12 : t165 = true
        · subst c12
          have H1 : ((lottery_isResidue.f l1).bind fun t166 => (if t166 = true then (lottery_Deal.j0 k l1 a2 (decide ((l1.length : Int) ≥ a2)) a0_0 a0_1 a0_2) else (lottery_Deal.j0 k l1 a2 true a0_0 a0_1 a0_2))) = some (r1, r2, r3, r4) := by rw [if_pos rfl] at H; exact H
          clear H
          have H := H1
          clear H1
          replace H := Option.bind_eq_some_iff.mp H
          obtain ⟨t166, A130, H⟩ := H
          replace H : (if t166 = true then (lottery_Deal.j0 k l1 a2 (decide ((l1.length : Int) ≥ a2)) a0_0 a0_1 a0_2) else (lottery_Deal.j0 k l1 a2 true a0_0 a0_1 a0_2)) = some (r1, r2, r3, r4) := H
          have A13 := Aside0.mk A130
          clear A130
          by_cases c14 : t166 = true
          · subst c14
            have H1 : (lottery_Deal.j0 k l1 a2 (decide ((l1.length : Int) ≥ a2)) a0_0 a0_1 a0_2) = some (r1, r2, r3, r4) := by rw [if_pos rfl] at H; exact H
            clear H
            have H := H1
            clear H1
            have H' := Aside0.mk H
            clear H
            go_wp2_with (first | ((with_reducible refine gate_callee (f := 29) rfl ?_); refine goesL_ (some 14) rfl rfl Tryd.func29 (by kernel_rfl) rfl #[.int .i64 a2, .int .i64 1, .int .i64 16] rfl (by (try simp only [List.map_toArray, List.map_cons, List.map_nil]); first | done | rfl | (simp only [List.length_drop, List.length_take]; rfl)) ?_; (with_reducible refine (lottery_between.calls a2 1 16 true _ A7.out).mono ?_); rintro e w' ⟨rfl, ⟨nd, rfl⟩⟩; refine ⟨_, rfl, ?_⟩; have hnb15 := NB158_159.out; have hnc15 := NB159_158.out; have hcz16_0 : w6.cell? ⟨gb158, 0, none⟩ = some (.int .i64 a0_0) := (blk_cell BK158.out 0).trans rfl; have hcz16_1 : w6.cell? ⟨gb158, 1, none⟩ = some (.int .i64 a0_1) := (blk_cell BK158.out 1).trans rfl; have hcz16_2 : w6.cell? ⟨gb158, 2, none⟩ = some (.int .i64 a0_2) := (blk_cell BK158.out 2).trans rfl; have hfz16_0 := blk_frozen BK158.out 0; have hfz16_1 := blk_frozen BK158.out 1; have hfz16_2 := blk_frozen BK158.out 2) | (go_at_call 29; (with_reducible refine (lottery_between.calls a0_0 1 a2 true _ A9.out).mono ?_); rintro e w' ⟨rfl, ⟨nd, rfl⟩⟩) | ((with_reducible refine gate_dst (N := 28) rfl ?_); (try (refine gate_guard (by rfl) ?_; dsimp only)); refine Kd.R_lit (Kd.int .i64) _ 3 ?hg (N := 28) ?hd (xs := ([a0_1, a0_2] : List Int)) (inner := [.int .i64 a0_1, .int .i64 a0_2]) (ok := fun _ => True) (okp := fun _ => True) ?hr ?hp (fun _ hk => hk) trivial (Below.refl _ _) (Nat.le_refl _) (by simp) ?_; (case hd => rfl); (case hg => rfl); (case hr => first | (go_simp; done) | (go_simp; rfl)); (case hp => exact (Reps.one (show Kd.M (Kd.int .i64) _ _ _ a0_1 [.int .i64 a0_1] from rfl) (Reps.one (show Kd.M (Kd.int .i64) _ _ _ a0_2 [.int .i64 a0_2] from rfl) (Reps.none _ _)))); intro v163 w17 ho18 hb hg_ hnew_; clear hg_ hnew_; (first | rw [← Ny162.out] at ho18 | (simp only [Int.reduceToNat] at ho18; rw [← Ny162.out] at ho18)); have n0_ := Aside0.mk (Kd.R_lower ho18 (below_size (by repeat (first | (with_reducible first | exact HB.out | apply below_alloc | apply pw_below_drewN | apply below_drew1 | refine below_set ?_ GE158.out | refine below_set ?_ GE159.out) | exact HB.out)))); have n1_ := Aside0.mk (blk_below (g := gb158) (o := .cells #[.int .i64 a0_0, .int .i64 a0_1, .int .i64 a0_2] 23 (0, 0)) (by (with_reducible repeat (first | refine blk_drewN ?_ _ | refine blk_drew ?_ | refine blk_alloc ?_ _)); exact BK158.out) hb); have n2_ := Aside0.mk (blk_below (g := gb159) (o := .cells #[.int .i64 0, .int .u64 0, .slice none 0 0] 31 (0, 0)) (by (with_reducible repeat (first | refine blk_drewN ?_ _ | refine blk_drew ?_ | refine blk_alloc ?_ _)); exact BK159.out) hb); have n3_ := Aside0.mk (below_step (by repeat (first | (with_reducible first | exact HB.out | apply below_alloc | apply pw_below_drewN | apply below_drew1 | refine below_set ?_ GE158.out | refine below_set ?_ GE159.out) | exact HB.out)) hb); clear BK158; clear BK159; clear HB; have HO164 := n0_; have BK158 := n1_; have BK159 := n2_; have HB := n3_; clear n0_ n1_ n2_ n3_; clear hb ho18; obtain ⟨Ao19, co19, eo19⟩ := Kd.R_slice HO164.out; subst eo19) | (go_at_call 30; (with_reducible refine (lottery_isResidue.calls _ _ y162 true _ ?side1 ?side2 A11.out).mono ?_); (case side1 => repeat (first | exact (Kd.R_reads' HO164.out).2.2 | (with_reducible refine Kd.C_alloc ?_ _) | (with_reducible refine Kd.C_drewN ?_ _) | (with_reducible refine Kd.C_drew ?_))); (case side2 => exact (Kd.R_reads' HO164.out).2.1); rintro e w' ⟨rfl, ⟨nd, rfl⟩⟩) | (go_at_call 30; (with_reducible refine (lottery_isResidue.calls _ _ l1 true _ ?side1 ?side2 A13.out).mono ?_); (case side1 => repeat (first | exact (Kd.C_below HR1.out (by repeat (first | (with_reducible first | exact HB.out | apply below_alloc | apply pw_below_drewN | apply below_drew1 | refine below_set ?_ GE158.out | refine below_set ?_ GE159.out) | exact HB.out))) | (with_reducible refine Kd.C_alloc ?_ _) | (with_reducible refine Kd.C_drewN ?_ _) | (with_reducible refine Kd.C_drew ?_))); (case side2 => exact HC1.out); rintro e w' ⟨rfl, ⟨nd, rfl⟩⟩))
            go_meet
            case rel => exact ⟨_, (decide ((l1.length : Int) ≥ a2)), (by first | rfl | (simp; done) | (simp [*]; done)), H', ⟨by first | omega | exact Nat.le_refl _⟩, ⟨by (with_reducible repeat (first | refine blk_drewN ?_ _ | refine blk_drew ?_ | refine blk_alloc ?_ _)); exact BK158.out⟩, ⟨by (with_reducible repeat (first | refine blk_drewN ?_ _ | refine blk_drew ?_ | refine blk_alloc ?_ _)); exact BK159.out⟩, ⟨by repeat (first | (with_reducible first | exact HB.out | apply below_alloc | apply pw_below_drewN | apply below_drew1 | refine below_set ?_ GE158.out | refine below_set ?_ GE159.out) | exact HB.out)⟩⟩
          · replace c14 := Bool.eq_false_iff.mpr c14
            subst c14
            have H1 : (lottery_Deal.j0 k l1 a2 true a0_0 a0_1 a0_2) = some (r1, r2, r3, r4) := by rw [if_neg (show ¬ (false = true) by decide)] at H; exact H
            clear H
            have H := H1
            clear H1
            have H' := Aside0.mk H
            clear H
            go_wp2_with (first | ((with_reducible refine gate_callee (f := 29) rfl ?_); refine goesL_ (some 14) rfl rfl Tryd.func29 (by kernel_rfl) rfl #[.int .i64 a2, .int .i64 1, .int .i64 16] rfl (by (try simp only [List.map_toArray, List.map_cons, List.map_nil]); first | done | rfl | (simp only [List.length_drop, List.length_take]; rfl)) ?_; (with_reducible refine (lottery_between.calls a2 1 16 true _ A7.out).mono ?_); rintro e w' ⟨rfl, ⟨nd, rfl⟩⟩; refine ⟨_, rfl, ?_⟩; have hnb20 := NB158_159.out; have hnc20 := NB159_158.out; have hcz21_0 : w6.cell? ⟨gb158, 0, none⟩ = some (.int .i64 a0_0) := (blk_cell BK158.out 0).trans rfl; have hcz21_1 : w6.cell? ⟨gb158, 1, none⟩ = some (.int .i64 a0_1) := (blk_cell BK158.out 1).trans rfl; have hcz21_2 : w6.cell? ⟨gb158, 2, none⟩ = some (.int .i64 a0_2) := (blk_cell BK158.out 2).trans rfl; have hfz21_0 := blk_frozen BK158.out 0; have hfz21_1 := blk_frozen BK158.out 1; have hfz21_2 := blk_frozen BK158.out 2) | (go_at_call 29; (with_reducible refine (lottery_between.calls a0_0 1 a2 true _ A9.out).mono ?_); rintro e w' ⟨rfl, ⟨nd, rfl⟩⟩) | ((with_reducible refine gate_dst (N := 28) rfl ?_); (try (refine gate_guard (by rfl) ?_; dsimp only)); refine Kd.R_lit (Kd.int .i64) _ 3 ?hg (N := 28) ?hd (xs := ([a0_1, a0_2] : List Int)) (inner := [.int .i64 a0_1, .int .i64 a0_2]) (ok := fun _ => True) (okp := fun _ => True) ?hr ?hp (fun _ hk => hk) trivial (Below.refl _ _) (Nat.le_refl _) (by simp) ?_; (case hd => rfl); (case hg => rfl); (case hr => first | (go_simp; done) | (go_simp; rfl)); (case hp => exact (Reps.one (show Kd.M (Kd.int .i64) _ _ _ a0_1 [.int .i64 a0_1] from rfl) (Reps.one (show Kd.M (Kd.int .i64) _ _ _ a0_2 [.int .i64 a0_2] from rfl) (Reps.none _ _)))); intro v163 w22 ho23 hb hg_ hnew_; clear hg_ hnew_; (first | rw [← Ny162.out] at ho23 | (simp only [Int.reduceToNat] at ho23; rw [← Ny162.out] at ho23)); have n0_ := Aside0.mk (Kd.R_lower ho23 (below_size (by repeat (first | (with_reducible first | exact HB.out | apply below_alloc | apply pw_below_drewN | apply below_drew1 | refine below_set ?_ GE158.out | refine below_set ?_ GE159.out) | exact HB.out)))); have n1_ := Aside0.mk (blk_below (g := gb158) (o := .cells #[.int .i64 a0_0, .int .i64 a0_1, .int .i64 a0_2] 23 (0, 0)) (by (with_reducible repeat (first | refine blk_drewN ?_ _ | refine blk_drew ?_ | refine blk_alloc ?_ _)); exact BK158.out) hb); have n2_ := Aside0.mk (blk_below (g := gb159) (o := .cells #[.int .i64 0, .int .u64 0, .slice none 0 0] 31 (0, 0)) (by (with_reducible repeat (first | refine blk_drewN ?_ _ | refine blk_drew ?_ | refine blk_alloc ?_ _)); exact BK159.out) hb); have n3_ := Aside0.mk (below_step (by repeat (first | (with_reducible first | exact HB.out | apply below_alloc | apply pw_below_drewN | apply below_drew1 | refine below_set ?_ GE158.out | refine below_set ?_ GE159.out) | exact HB.out)) hb); clear BK158; clear BK159; clear HB; have HO164 := n0_; have BK158 := n1_; have BK159 := n2_; have HB := n3_; clear n0_ n1_ n2_ n3_; clear hb ho23; obtain ⟨Ao24, co24, eo24⟩ := Kd.R_slice HO164.out; subst eo24) | (go_at_call 30; (with_reducible refine (lottery_isResidue.calls _ _ y162 true _ ?side1 ?side2 A11.out).mono ?_); (case side1 => repeat (first | exact (Kd.R_reads' HO164.out).2.2 | (with_reducible refine Kd.C_alloc ?_ _) | (with_reducible refine Kd.C_drewN ?_ _) | (with_reducible refine Kd.C_drew ?_))); (case side2 => exact (Kd.R_reads' HO164.out).2.1); rintro e w' ⟨rfl, ⟨nd, rfl⟩⟩) | (go_at_call 30; (with_reducible refine (lottery_isResidue.calls _ _ l1 false _ ?side1 ?side2 A13.out).mono ?_); (case side1 => repeat (first | exact (Kd.C_below HR1.out (by repeat (first | (with_reducible first | exact HB.out | apply below_alloc | apply pw_below_drewN | apply below_drew1 | refine below_set ?_ GE158.out | refine below_set ?_ GE159.out) | exact HB.out))) | (with_reducible refine Kd.C_alloc ?_ _) | (with_reducible refine Kd.C_drewN ?_ _) | (with_reducible refine Kd.C_drew ?_))); (case side2 => exact HC1.out); rintro e w' ⟨rfl, ⟨nd, rfl⟩⟩))
            go_meet
            case rel => exact ⟨_, (true), (by first | rfl | (simp; done) | (simp [*]; done)), H', ⟨by first | omega | exact Nat.le_refl _⟩, ⟨by (with_reducible repeat (first | refine blk_drewN ?_ _ | refine blk_drew ?_ | refine blk_alloc ?_ _)); exact BK158.out⟩, ⟨by (with_reducible repeat (first | refine blk_drewN ?_ _ | refine blk_drew ?_ | refine blk_alloc ?_ _)); exact BK159.out⟩, ⟨by repeat (first | (with_reducible first | exact HB.out | apply below_alloc | apply pw_below_drewN | apply below_drew1 | refine below_set ?_ GE158.out | refine below_set ?_ GE159.out) | exact HB.out)⟩⟩
        · replace c12 := Bool.eq_false_iff.mpr c12
          subst c12
          have H1 : (lottery_Deal.j0 k l1 a2 true a0_0 a0_1 a0_2) = some (r1, r2, r3, r4) := by rw [if_neg (show ¬ (false = true) by decide)] at H; exact H
          clear H
          have H := H1
          clear H1
          have H' := Aside0.mk H
          clear H
          go_wp2_with (first | ((with_reducible refine gate_callee (f := 29) rfl ?_); refine goesL_ (some 14) rfl rfl Tryd.func29 (by kernel_rfl) rfl #[.int .i64 a2, .int .i64 1, .int .i64 16] rfl (by (try simp only [List.map_toArray, List.map_cons, List.map_nil]); first | done | rfl | (simp only [List.length_drop, List.length_take]; rfl)) ?_; (with_reducible refine (lottery_between.calls a2 1 16 true _ A7.out).mono ?_); rintro e w' ⟨rfl, ⟨nd, rfl⟩⟩; refine ⟨_, rfl, ?_⟩; have hnb25 := NB158_159.out; have hnc25 := NB159_158.out; have hcz26_0 : w6.cell? ⟨gb158, 0, none⟩ = some (.int .i64 a0_0) := (blk_cell BK158.out 0).trans rfl; have hcz26_1 : w6.cell? ⟨gb158, 1, none⟩ = some (.int .i64 a0_1) := (blk_cell BK158.out 1).trans rfl; have hcz26_2 : w6.cell? ⟨gb158, 2, none⟩ = some (.int .i64 a0_2) := (blk_cell BK158.out 2).trans rfl; have hfz26_0 := blk_frozen BK158.out 0; have hfz26_1 := blk_frozen BK158.out 1; have hfz26_2 := blk_frozen BK158.out 2) | (go_at_call 29; (with_reducible refine (lottery_between.calls a0_0 1 a2 true _ A9.out).mono ?_); rintro e w' ⟨rfl, ⟨nd, rfl⟩⟩) | ((with_reducible refine gate_dst (N := 28) rfl ?_); (try (refine gate_guard (by rfl) ?_; dsimp only)); refine Kd.R_lit (Kd.int .i64) _ 3 ?hg (N := 28) ?hd (xs := ([a0_1, a0_2] : List Int)) (inner := [.int .i64 a0_1, .int .i64 a0_2]) (ok := fun _ => True) (okp := fun _ => True) ?hr ?hp (fun _ hk => hk) trivial (Below.refl _ _) (Nat.le_refl _) (by simp) ?_; (case hd => rfl); (case hg => rfl); (case hr => first | (go_simp; done) | (go_simp; rfl)); (case hp => exact (Reps.one (show Kd.M (Kd.int .i64) _ _ _ a0_1 [.int .i64 a0_1] from rfl) (Reps.one (show Kd.M (Kd.int .i64) _ _ _ a0_2 [.int .i64 a0_2] from rfl) (Reps.none _ _)))); intro v163 w27 ho28 hb hg_ hnew_; clear hg_ hnew_; (first | rw [← Ny162.out] at ho28 | (simp only [Int.reduceToNat] at ho28; rw [← Ny162.out] at ho28)); have n0_ := Aside0.mk (Kd.R_lower ho28 (below_size (by repeat (first | (with_reducible first | exact HB.out | apply below_alloc | apply pw_below_drewN | apply below_drew1 | refine below_set ?_ GE158.out | refine below_set ?_ GE159.out) | exact HB.out)))); have n1_ := Aside0.mk (blk_below (g := gb158) (o := .cells #[.int .i64 a0_0, .int .i64 a0_1, .int .i64 a0_2] 23 (0, 0)) (by (with_reducible repeat (first | refine blk_drewN ?_ _ | refine blk_drew ?_ | refine blk_alloc ?_ _)); exact BK158.out) hb); have n2_ := Aside0.mk (blk_below (g := gb159) (o := .cells #[.int .i64 0, .int .u64 0, .slice none 0 0] 31 (0, 0)) (by (with_reducible repeat (first | refine blk_drewN ?_ _ | refine blk_drew ?_ | refine blk_alloc ?_ _)); exact BK159.out) hb); have n3_ := Aside0.mk (below_step (by repeat (first | (with_reducible first | exact HB.out | apply below_alloc | apply pw_below_drewN | apply below_drew1 | refine below_set ?_ GE158.out | refine below_set ?_ GE159.out) | exact HB.out)) hb); clear BK158; clear BK159; clear HB; have HO164 := n0_; have BK158 := n1_; have BK159 := n2_; have HB := n3_; clear n0_ n1_ n2_ n3_; clear hb ho28; obtain ⟨Ao29, co29, eo29⟩ := Kd.R_slice HO164.out; subst eo29) | (go_at_call 30; (with_reducible refine (lottery_isResidue.calls _ _ y162 false _ ?side1 ?side2 A11.out).mono ?_); (case side1 => repeat (first | exact (Kd.R_reads' HO164.out).2.2 | (with_reducible refine Kd.C_alloc ?_ _) | (with_reducible refine Kd.C_drewN ?_ _) | (with_reducible refine Kd.C_drew ?_))); (case side2 => exact (Kd.R_reads' HO164.out).2.1); rintro e w' ⟨rfl, ⟨nd, rfl⟩⟩))
          go_meet
          case rel => exact ⟨_, (true), (by first | rfl | (simp; done) | (simp [*]; done)), H', ⟨by first | omega | exact Nat.le_refl _⟩, ⟨by (with_reducible repeat (first | refine blk_drewN ?_ _ | refine blk_drew ?_ | refine blk_alloc ?_ _)); exact BK158.out⟩, ⟨by (with_reducible repeat (first | refine blk_drewN ?_ _ | refine blk_drew ?_ | refine blk_alloc ?_ _)); exact BK159.out⟩, ⟨by repeat (first | (with_reducible first | exact HB.out | apply below_alloc | apply pw_below_drewN | apply below_drew1 | refine below_set ?_ GE158.out | refine below_set ?_ GE159.out) | exact HB.out)⟩⟩
      · replace c10 := Bool.eq_false_iff.mpr c10
        subst c10
        have H1 : (lottery_Deal.j0 k l1 a2 true a0_0 a0_1 a0_2) = some (r1, r2, r3, r4) := by rw [if_neg (show ¬ (false = true) by decide)] at H; exact H
        clear H
        have H := H1
        clear H1
        have H' := Aside0.mk H
        clear H
        go_wp2_with (first | ((with_reducible refine gate_callee (f := 29) rfl ?_); refine goesL_ (some 14) rfl rfl Tryd.func29 (by kernel_rfl) rfl #[.int .i64 a2, .int .i64 1, .int .i64 16] rfl (by (try simp only [List.map_toArray, List.map_cons, List.map_nil]); first | done | rfl | (simp only [List.length_drop, List.length_take]; rfl)) ?_; (with_reducible refine (lottery_between.calls a2 1 16 true _ A7.out).mono ?_); rintro e w' ⟨rfl, ⟨nd, rfl⟩⟩; refine ⟨_, rfl, ?_⟩; have hnb30 := NB158_159.out; have hnc30 := NB159_158.out; have hcz31_0 : w6.cell? ⟨gb158, 0, none⟩ = some (.int .i64 a0_0) := (blk_cell BK158.out 0).trans rfl; have hcz31_1 : w6.cell? ⟨gb158, 1, none⟩ = some (.int .i64 a0_1) := (blk_cell BK158.out 1).trans rfl; have hcz31_2 : w6.cell? ⟨gb158, 2, none⟩ = some (.int .i64 a0_2) := (blk_cell BK158.out 2).trans rfl; have hfz31_0 := blk_frozen BK158.out 0; have hfz31_1 := blk_frozen BK158.out 1; have hfz31_2 := blk_frozen BK158.out 2) | (go_at_call 29; (with_reducible refine (lottery_between.calls a0_0 1 a2 false _ A9.out).mono ?_); rintro e w' ⟨rfl, ⟨nd, rfl⟩⟩))
        go_meet
        case rel => exact ⟨_, (true), (by first | rfl | (simp; done) | (simp [*]; done)), H', ⟨by first | omega | exact Nat.le_refl _⟩, ⟨by (with_reducible repeat (first | refine blk_drewN ?_ _ | refine blk_drew ?_ | refine blk_alloc ?_ _)); exact BK158.out⟩, ⟨by (with_reducible repeat (first | refine blk_drewN ?_ _ | refine blk_drew ?_ | refine blk_alloc ?_ _)); exact BK159.out⟩, ⟨by repeat (first | (with_reducible first | exact HB.out | apply below_alloc | apply pw_below_drewN | apply below_drew1 | refine below_set ?_ GE158.out | refine below_set ?_ GE159.out) | exact HB.out)⟩⟩
    · replace c8 := Bool.eq_false_iff.mpr c8
      subst c8
      have H1 : (lottery_Deal.j0 k l1 a2 true a0_0 a0_1 a0_2) = some (r1, r2, r3, r4) := by rw [if_neg (show ¬ (false = true) by decide)] at H; exact H
      clear H
      have H := H1
      clear H1
      have H' := Aside0.mk H
      clear H
      go_wp2_with (first | ((with_reducible refine gate_callee (f := 29) rfl ?_); refine goesL_ (some 14) rfl rfl Tryd.func29 (by kernel_rfl) rfl #[.int .i64 a2, .int .i64 1, .int .i64 16] rfl (by (try simp only [List.map_toArray, List.map_cons, List.map_nil]); first | done | rfl | (simp only [List.length_drop, List.length_take]; rfl)) ?_; (with_reducible refine (lottery_between.calls a2 1 16 false _ A7.out).mono ?_); rintro e w' ⟨rfl, ⟨nd, rfl⟩⟩; refine ⟨_, rfl, ?_⟩))
      go_meet
      case rel => exact ⟨_, (true), (by first | rfl | (simp; done) | (simp [*]; done)), H', ⟨by first | omega | exact Nat.le_refl _⟩, ⟨by (with_reducible repeat (first | refine blk_drewN ?_ _ | refine blk_drew ?_ | refine blk_alloc ?_ _)); exact BK158.out⟩, ⟨by (with_reducible repeat (first | refine blk_drewN ?_ _ | refine blk_drew ?_ | refine blk_alloc ?_ _)); exact BK159.out⟩, ⟨by repeat (first | (with_reducible first | exact HB.out | apply below_alloc | apply pw_below_drewN | apply below_drew1 | refine below_set ?_ GE158.out | refine below_set ?_ GE159.out) | exact HB.out)⟩⟩
  case rest =>
    clear HC4
    try clear c1
    try clear c2
    try clear p2
    try clear c3
    try clear c8
    try clear c10
    try clear c11
    try clear c12
    try clear c14
    try clear c15
    try clear c20
    try clear c25
    try clear c29
    try clear c30
    try clear hcz16_0
    try clear hcz16_1
    try clear hcz16_2
    try clear hcz21_0
    try clear hcz21_1
    try clear hcz21_2
    try clear hcz26_0
    try clear hcz26_1
    try clear hcz26_2
    try clear hcz31_0
    try clear hcz31_1
    try clear hcz31_2
    try clear hfz16_0
    try clear hfz16_1
    try clear hfz16_2
    try clear hfz21_0
    try clear hfz21_1
    try clear hfz21_2
    try clear hfz26_0
    try clear hfz26_1
    try clear hfz26_2
    try clear hfz31_0
    try clear hfz31_1
    try clear hfz31_2
    obtain ⟨kq, x42_3, rfl, HA, HJ3, BK158, BK159, HB⟩ := hcut
    cases kq with
    | zero => exact absurd HA.out (by simp [lottery_Deal.j0])
    | succ kj3 =>
      have H := HA.out
      clear HA
      simp only [lottery_Deal.j0] at H
      by_cases c32 : x42_3 = true
      · subst c32
        have H1 : (some (0, 0, ([] : List (S47)), 1)) = some (r1, r2, r3, r4) := by rw [if_pos rfl] at H; exact H
        clear H
        have H := H1
        clear H1
        simp only [Option.some.injEq, Prod.mk.injEq] at H
        obtain ⟨rfl, rfl, rfl, rfl⟩ := H
        have hnb33 := NB159_158.out
        have hnc33 := NB158_159.out
        have hcz34_0 : wc.cell? ⟨gb159, 0, none⟩ = some (.int .i64 0) := (blk_cell BK159.out 0).trans rfl
        have hcz34_1 : wc.cell? ⟨gb159, 1, none⟩ = some (.int .u64 0) := (blk_cell BK159.out 1).trans rfl
        have hcz34_2 : wc.cell? ⟨gb159, 2, none⟩ = some (.slice none 0 0) := (blk_cell BK159.out 2).trans rfl
        have hfz34_0 := blk_frozen BK159.out 0
        have hfz34_1 := blk_frozen BK159.out 1
        have hfz34_2 := blk_frozen BK159.out 2
        go_wp2
        refine bodyPost_ret (results_ct rfl _ _ gb159 31 #[.int .i64 0, .int .u64 0, .slice none 0 0] (0, 0) _ rfl (by (with_reducible repeat (first | refine blk_drewN ?_ _ | refine blk_drew ?_ | refine blk_alloc ?_ _)); refine blk_put (cs := #[.int .i64 0, .int .u64 0, .slice none 0 0]) ?_ 2 _ rfl; (with_reducible repeat (first | refine blk_drewN ?_ _ | refine blk_drew ?_ | refine blk_alloc ?_ _)); refine blk_put (cs := #[.int .i64 0, .int .u64 0, .slice none 0 0]) ?_ 1 _ rfl; (with_reducible repeat (first | refine blk_drewN ?_ _ | refine blk_drew ?_ | refine blk_alloc ?_ _)); refine blk_put (cs := #[.int .i64 0, .int .u64 0, .slice none 0 0]) ?_ 0 _ rfl; (with_reducible repeat (first | refine blk_drewN ?_ _ | refine blk_drew ?_ | refine blk_alloc ?_ _)); exact BK159.out) Tryd.underlying31 rfl (by kernel_rfl)) rfl ?_
        exact ⟨_, by first | rfl | (simp [errW_none, errW_some] <;> rfl) | (simp [*, errW_none, errW_some] <;> rfl), by first | exact Kd.R_nil _ _ _ _ _ | exact Kd.N_nil _ _ _ _ _ | exact Kd.V_nil _ _ _ _ _ | exact Kd.Q_nil _ _ _ _ _ | exact Kd.S_nil _ _ _ _ _, by repeat (first | (with_reducible first | exact HB.out | apply below_alloc | apply pw_below_drewN | apply below_drew1 | refine below_set ?_ GE158.out | refine below_set ?_ GE159.out) | exact HB.out)⟩
      · replace c32 := Bool.eq_false_iff.mpr c32
        subst c32
        have H1 : (lottery_Deal.l0 kj3 a2 (([a0_1] : List Int)) l1 (l1.length : Int) 0 a0_0 a0_1 a0_2) = some (r1, r2, r3, r4) := by rw [if_neg (show ¬ (false = true) by decide)] at H; exact H
        clear H
        have H := H1
        clear H1
        obtain ⟨y167, hy167⟩ : ∃ y_ : List Int, y_ = (([a0_1] : List Int)) := ⟨_, rfl⟩
        replace H : (lottery_Deal.l0 kj3 a2 y167 l1 (l1.length : Int) 0 a0_0 a0_1 a0_2) = some (r1, r2, r3, r4) := by first | (rw [hy167]; with_reducible exact H) | (have H2_ := (Option.bind_some _ _).symm.trans H; rw [hy167]; with_reducible exact H2_) | (have H2_ := (Option.bind_some _ _).symm.trans H; with_reducible exact H2_) | with_reducible exact H | (rw [hy167]; exact H) | exact H
        have Ny167 := Aside0.mk hy167
        clear hy167
        have H' := Aside0.mk H
        clear H
        have hnb35 := NB158_159.out
        have hnc35 := NB159_158.out
        have hcz36_0 : wc.cell? ⟨gb158, 0, none⟩ = some (.int .i64 a0_0) := (blk_cell BK158.out 0).trans rfl
        have hcz36_1 : wc.cell? ⟨gb158, 1, none⟩ = some (.int .i64 a0_1) := (blk_cell BK158.out 1).trans rfl
        have hcz36_2 : wc.cell? ⟨gb158, 2, none⟩ = some (.int .i64 a0_2) := (blk_cell BK158.out 2).trans rfl
        have hfz36_0 := blk_frozen BK158.out 0
        have hfz36_1 := blk_frozen BK158.out 1
        have hfz36_2 := blk_frozen BK158.out 2
        go_wp2_with (first | ((with_reducible refine gate_dst (N := 46) rfl ?_); (try (refine gate_guard (by rfl) ?_; dsimp only)); refine Kd.R_lit (Kd.int .i64) _ 66 ?hg (N := 46) ?hd (xs := ([a0_1] : List Int)) (inner := [.int .i64 a0_1]) (ok := fun _ => True) (okp := fun _ => True) ?hr ?hp (fun _ hk => hk) trivial (Below.refl _ _) (Nat.le_refl _) (by simp) ?_; (case hd => rfl); (case hg => rfl); (case hr => first | (go_simp; done) | (go_simp; rfl)); (case hp => exact (Reps.one (show Kd.M (Kd.int .i64) _ _ _ a0_1 [.int .i64 a0_1] from rfl) (Reps.none _ _))); intro v168 w37 ho38 hb hg_ hnew_; clear hg_ hnew_; (first | rw [← Ny167.out] at ho38 | (simp only [Int.reduceToNat] at ho38; rw [← Ny167.out] at ho38)); have n0_ := Aside0.mk (Kd.R_lower ho38 (below_size (by repeat (first | (with_reducible first | exact HB.out | apply below_alloc | apply pw_below_drewN | apply below_drew1 | refine below_set ?_ GE158.out | refine below_set ?_ GE159.out) | exact HB.out)))); have n1_ := Aside0.mk (blk_below (g := gb158) (o := .cells #[.int .i64 a0_0, .int .i64 a0_1, .int .i64 a0_2] 23 (0, 0)) (by (with_reducible repeat (first | refine blk_drewN ?_ _ | refine blk_drew ?_ | refine blk_alloc ?_ _)); exact BK158.out) hb); have n2_ := Aside0.mk (blk_below (g := gb159) (o := .cells #[.int .i64 0, .int .u64 0, .slice none 0 0] 31 (0, 0)) (by (with_reducible repeat (first | refine blk_drewN ?_ _ | refine blk_drew ?_ | refine blk_alloc ?_ _)); exact BK159.out) hb); have n3_ := Aside0.mk (below_step (by repeat (first | (with_reducible first | exact HB.out | apply below_alloc | apply pw_below_drewN | apply below_drew1 | refine below_set ?_ GE158.out | refine below_set ?_ GE159.out) | exact HB.out)) hb); clear BK158; clear BK159; clear HB; have HO169 := n0_; have BK158 := n1_; have BK159 := n2_; have HB := n3_; clear n0_ n1_ n2_ n3_; clear hb ho38))
        go_loopg [8, 49] kj3 (fun kq v8 v49 w' => ∃ (x8_2 : List Int) (x49_2 : Int), v49 = .int .i64 x49_2 ∧ Aside0 (lottery_Deal.l0 kq a2 x8_2 l1 (l1.length : Int) x49_2 a0_0 a0_1 a0_2 = some (r1, r2, r3, r4)) ∧ Aside0 (kq ≤ kj3) ∧ Aside0 (Kd.R (Kd.int .i64) 66 w' w.heap.size (fun _ => True) v8 x8_2) ∧ Aside0 (w'.heap[gb158]? = some (.cells #[.int .i64 a0_0, .int .i64 a0_1, .int .i64 a0_2] 23 (0, 0))) ∧ Aside0 (w'.heap[gb159]? = some (.cells #[.int .i64 0, .int .u64 0, (.slice none 0 0)] 31 (0, 0))) ∧ Aside0 (Below w.heap.size w w'))
        case atStart => exact ⟨(y167), (0), (by first | rfl | (simp; done) | (simp [*]; done)), H', ⟨Nat.le_refl _⟩, ⟨by (with_reducible repeat (first | apply Kd.R_alloc | apply Kd.R_drewN | apply Kd.R_drew)); exact HO169.out⟩, ⟨by (with_reducible repeat (first | refine blk_drewN ?_ _ | refine blk_drew ?_ | refine blk_alloc ?_ _)); exact BK158.out⟩, ⟨by (with_reducible repeat (first | refine blk_drewN ?_ _ | refine blk_drew ?_ | refine blk_alloc ?_ _)); exact BK159.out⟩, ⟨by repeat (first | (with_reducible first | exact HB.out | apply below_alloc | apply pw_below_drewN | apply below_drew1 | refine below_set ?_ GE158.out | refine below_set ?_ GE159.out) | exact HB.out)⟩⟩
        case round =>
          clear H'
          try clear c1
          try clear c2
          try clear p2
          try clear c3
          try clear c8
          try clear c10
          try clear c11
          try clear c12
          try clear c14
          try clear c15
          try clear c20
          try clear c25
          try clear c29
          try clear c30
          try clear c32
          try clear c33
          try clear c35
          try clear hcz16_0
          try clear hcz16_1
          try clear hcz16_2
          try clear hcz21_0
          try clear hcz21_1
          try clear hcz21_2
          try clear hcz26_0
          try clear hcz26_1
          try clear hcz26_2
          try clear hcz31_0
          try clear hcz31_1
          try clear hcz31_2
          try clear hcz34_0
          try clear hcz34_1
          try clear hcz34_2
          try clear hcz36_0
          try clear hcz36_1
          try clear hcz36_2
          try clear hfz16_0
          try clear hfz16_1
          try clear hfz16_2
          try clear hfz21_0
          try clear hfz21_1
          try clear hfz21_2
          try clear hfz26_0
          try clear hfz26_1
          try clear hfz26_2
          try clear hfz31_0
          try clear hfz31_1
          try clear hfz31_2
          try clear hfz34_0
          try clear hfz34_1
          try clear hfz34_2
          try clear hfz36_0
          try clear hfz36_1
          try clear hfz36_2
          try clear p2
          obtain ⟨x8_2, x49_2, rfl, HA, HK2, HO_8, BK158, BK159, HB⟩ := hrel
          cases gk with
          | zero => exact absurd HA.out (by simp [lottery_Deal.l0])
          | succ k2 =>
            have H := HA.out
            clear HA
            simp only [lottery_Deal.l0] at H
            by_cases c39 : x49_2 < (l1.length : Int)
            · rw [if_pos c39] at H
              have c39b0 : decide (x49_2 < (l1.length : Int)) = true := decide_eq_true c39
              clear c39
              by_cases c40 : 0 ≤ x49_2
              · rw [if_pos c40] at H
                have c40b0 : decide (0 ≤ x49_2) = true := decide_eq_true c40
                clear c40
                by_cases c41 : x49_2 < (l1.length : Int)
                · rw [if_pos c41] at H
                  have c41b0 : decide (x49_2 < (l1.length : Int)) = true := decide_eq_true c41
                  clear c41
                  by_cases c42 : x8_2.length < 17592186044416
                  · rw [if_pos c42] at H
                    have LMc42 := Aside0.mk c42
                    clear c42
                    obtain ⟨y171, hy171⟩ : ∃ y_ : List Int, y_ = (x8_2 ++ [rd l1 x49_2]) := ⟨_, rfl⟩
                    replace H : (lottery_Deal.l0 k2 a2 y171 l1 (l1.length : Int) (wrap64 (x49_2 + 1)) a0_0 a0_1 a0_2) = some (r1, r2, r3, r4) := by first | (rw [hy171]; with_reducible exact H) | (have H2_ := (Option.bind_some _ _).symm.trans H; rw [hy171]; with_reducible exact H2_) | (have H2_ := (Option.bind_some _ _).symm.trans H; with_reducible exact H2_) | with_reducible exact H | (rw [hy171]; exact H) | exact H
                    have Ny171 := Aside0.mk hy171
                    clear hy171
                    have H' := Aside0.mk H
                    clear H
                    have p170 : 0 ≤ (x49_2 : Int) := of_decide_eq_true (by first | (with_reducible assumption) | assumption)
                    have q170 : x49_2 < (l1.length : Int) := of_decide_eq_true (by first | (with_reducible assumption) | assumption)
                    obtain ⟨ad170, e170, hx170_0⟩ := Kd.at_int HR1.out x49_2 p170 q170
                    cases e170
                    replace hx170_0 := (HB.out.cell (World.block_lt_of_cell? w _ hx170_0)).trans hx170_0
                    replace p170 := eq_true p170
                    replace q170 := eq_true q170
                    go_wp2_with (first | ((with_reducible refine gate_builtin (b := .append) (xs := #[.tmp 53, .tmp 55]) rfl ?_); (try (refine gate_guard (by rfl) ?_; dsimp only)); at_builtin; refine Kd.R_append (Kd.int .i64) (w0 := w) w.heap.size rfl (.tmp 53) (.tmp 55) 68 66 (.int .i64 0) 8 rfl Tryd.underlying68 info66 rfl (by decide) (by omega) u8 x8_2 (rd l1 x49_2) [.int .i64 (rd l1 x49_2)] (fun _ => True) (fun _ => False) rfl rfl ?aP (fun _ hk => hk.elim) ?aF ?aO ?aB ?aS ?aL ?_; (case aP => exact rfl); (case aB => exact (by repeat (first | (with_reducible first | exact HB.out | apply below_alloc | apply pw_below_drewN | apply below_drew1 | refine below_set ?_ GE158.out | refine below_set ?_ GE159.out) | exact HB.out))); (case aF => exact (fun _ _ => trivial)); (case aO => exact (by (with_reducible repeat (first | apply Kd.R_alloc | apply Kd.R_drewN | apply Kd.R_drew)); exact HO_8.out)); (case aS => exact (below_size (by repeat (first | (with_reducible first | exact HB.out | apply below_alloc | apply pw_below_drewN | apply below_drew1 | refine below_set ?_ GE158.out | refine below_set ?_ GE159.out) | exact HB.out)))); (case aL => have := LMc42.out; omega); intro v172 w43 ho hb hg hat; rw [← Ny171.out] at ho; have n0_ := Aside0.mk (blk_grown (g := gb158) (o := .cells #[.int .i64 a0_0, .int .i64 a0_1, .int .i64 a0_2] 23 (0, 0)) (by (with_reducible repeat (first | refine blk_drewN ?_ _ | refine blk_drew ?_ | refine blk_alloc ?_ _)); exact BK158.out) hg (Kd.R_ne HO_8.out BK158.out (by decide))); have n1_ := Aside0.mk (blk_grown (g := gb159) (o := .cells #[.int .i64 0, .int .u64 0, .slice none 0 0] 31 (0, 0)) (by (with_reducible repeat (first | refine blk_drewN ?_ _ | refine blk_drew ?_ | refine blk_alloc ?_ _)); exact BK159.out) hg (Kd.R_ne HO_8.out BK159.out (by decide))); have n2_ := Aside0.mk (hb); have n3_ := Aside0.mk (ho); clear BK158; clear BK159; clear HB; clear HO_8; have BK158 := n0_; have BK159 := n1_; have HB := n2_; have HO173 := n3_; clear n0_ n1_ n2_ n3_; clear ho hb hg hat))
                    go_roundg k2
                    case measure => have := HJ3.out; have := HK2.out; omega
                    case rel => exact ⟨(y171), (wrap64 (x49_2 + 1)), (by first | rfl | (simp; done) | (simp [*]; done)), H', ⟨by have := HJ3.out; have := HK2.out; omega⟩, ⟨by (with_reducible repeat (first | apply Kd.R_alloc | apply Kd.R_drewN | apply Kd.R_drew)); exact HO173.out⟩, ⟨by (with_reducible repeat (first | refine blk_drewN ?_ _ | refine blk_drew ?_ | refine blk_alloc ?_ _)); exact BK158.out⟩, ⟨by (with_reducible repeat (first | refine blk_drewN ?_ _ | refine blk_drew ?_ | refine blk_alloc ?_ _)); exact BK159.out⟩, ⟨by repeat (first | (with_reducible first | exact HB.out | apply below_alloc | apply pw_below_drewN | apply below_drew1 | refine below_set ?_ GE158.out | refine below_set ?_ GE159.out) | exact HB.out)⟩⟩
                  · rw [if_neg c42] at H
                    exact absurd H (by simp)
                · rw [if_neg c41] at H
                  exact absurd H (by simp)
              · rw [if_neg c40] at H
                exact absurd H (by simp)
            · rw [if_neg c39] at H
              have c39b0 : decide (x49_2 < (l1.length : Int)) = false := decide_eq_false c39
              clear c39
              replace H := Option.bind_eq_some_iff.mp H
              obtain ⟨t174, A440, H⟩ := H
              replace H : (lottery_Deal.l1 k2 x8_2 a2 0 a0_0 t174 ([] : List (S47))) = some (r1, r2, r3, r4) := H
              have A44 := Aside0.mk A440
              clear A440
              have H' := Aside0.mk H
              clear H
              try go_wp2
              have n0_ := Aside0.mk (Kd.R_drew HO_8.out)
              have n1_ := Aside0.mk (blk_drew BK158.out)
              have n2_ := Aside0.mk (blk_drew BK159.out)
              have n3_ := Aside0.mk (below_drew1 HB.out)
              clear HO_8
              clear BK158
              clear BK159
              clear HB
              have HO_8 := n0_
              have BK158 := n1_
              have BK159 := n2_
              have HB := n3_
              clear n0_ n1_ n2_ n3_
              refine start_ (n := 7) (S := fun w' => w'.cell? ⟨gb158, 0, none⟩ = some (.int .i64 a0_0) ∧ w'.cell? ⟨gb158, 1, none⟩ = some (.int .i64 a0_1) ∧ w'.cell? ⟨gb158, 2, none⟩ = some (.int .i64 a0_2)) (ds := []) #[false, false, false, false, false, false, false] (by kernel_rfl) rfl rfl ⟨(blk_cell BK158.out 0).trans rfl, (blk_cell BK158.out 1).trans rfl, (blk_cell BK158.out 2).trans rfl⟩ (fun hHeld => ?_)
              generalize wr.drew = w45 at HO_8 BK158 BK159 HB hHeld ⊢
              refine pure_ (i := 0) (N := some 58) (v := ?_) (a' := ?_) #[true, false, false, false, false, false, false] rfl rfl (by kernel_rfl) (fun _ _ _ h => h) (Or.inl ⟨by rfl, ?_⟩) ?_ ?_
              rotate_left
              · intro w'
                go_simp
                with_reducible rfl
              rotate_left
              · simp only [Act.put, List.setIfInBounds_toArray, List.set_cons_zero, List.set_cons_succ, i64_w, i32_w]
                rfl
              refine take_ (i := 1) (N := some 59) (v := ?_) (a' := ?_) #[true, true, false, false, false, false, false] rfl rfl (by kernel_rfl) (fun _ _ _ h => h) (Or.inl ⟨by rfl, ?_⟩) hHeld ?_ ?_
              rotate_left
              · rintro w' ⟨s0, s1, s2⟩
                go_simp
                with_reducible rfl
              rotate_left
              · simp only [Act.put, List.setIfInBounds_toArray, List.set_cons_zero, List.set_cons_succ, i64_w, i32_w]
                rfl
              refine take_ (i := 2) (N := some 60) (v := ?_) (a' := ?_) #[true, true, true, false, false, false, false] rfl rfl (by kernel_rfl) (fun _ _ _ h => h) (Or.inl ⟨by rfl, ?_⟩) hHeld ?_ ?_
              rotate_left
              · rintro w' ⟨s0, s1, s2⟩
                go_simp
                with_reducible rfl
              rotate_left
              · simp only [Act.put, List.setIfInBounds_toArray, List.set_cons_zero, List.set_cons_succ, i64_w, i32_w]
                rfl
              refine join_ (σ := Nat) 1 #[true, true, true, true, true, true, false] (fun s_ => [(61, .int .u64 t174), (11, .pointer (some ⟨s_, 0, none⟩)), (62, .agg #[.int .i64 a0_0, .int .u64 t174, .slice none 0 0])]) (fun s_ w' => (w'.cell? ⟨gb158, 0, none⟩ = some (.int .i64 a0_0) ∧ w'.cell? ⟨gb158, 1, none⟩ = some (.int .i64 a0_1) ∧ w'.cell? ⟨gb158, 2, none⟩ = some (.int .i64 a0_2)) ∧ (Kd.R (Kd.int .i64) 66 w' w.heap.size (fun _ => True) u8 x8_2) ∧ (w'.heap[gb158]? = some (.cells #[.int .i64 a0_0, .int .i64 a0_1, .int .i64 a0_2] 23 (0, 0))) ∧ (w'.heap[gb159]? = some (.cells #[.int .i64 0, .int .u64 0, .slice none 0 0] 31 (0, 0))) ∧ (w'.heap[s_]? = some (.cells #[.int .i64 0, .int .u64 0, .slice none 0 0] 31 (0, 0))) ∧ (w.heap.size ≤ s_) ∧ (w.heap.size ≤ s_) ∧ (gb158 ≠ s_) ∧ (s_ ≠ gb158) ∧ (gb159 ≠ s_) ∧ (s_ ≠ gb159) ∧ (Below w.heap.size w w')) ?_ ?_
              rotate_left
              · intro hCont
                refine two_ (i := 3) (j := 5) (Ni := some 61) (Nj := some 11) #[true, true, true, true, false, false, false] #[true, true, true, false, false, true, false] rfl rfl rfl rfl (by kernel_rfl) (by decide) (by decide) (fun K hK => ?_) (fun K hK => ?_)
                · skip
                  refine goes_ Tryd.func31 (by kernel_rfl) rfl #[.agg #[.int .i64 a0_0, .int .i64 a0_1, .int .i64 a0_2]] (by rfl) rfl rfl (by (try simp only [List.map_toArray, List.map_cons, List.map_nil]); first | done | rfl | (simp only [List.length_drop, List.length_take]; rfl)) ?_
                  with_reducible refine (lottery_sum.calls a0_0 a0_1 a0_2 t174 _ ?side1 A44.out).mono ?_
                  (case side1 => exact TabW.below HTAB.out (by repeat (first | (with_reducible first | exact HB.out | apply below_alloc | apply pw_below_drewN | apply below_drew1 | refine below_set ?_ GE158.out | refine below_set ?_ GE159.out) | exact HB.out)))
                  rintro e w46 ⟨rfl, hb⟩
                  refine ⟨_, rfl, ?_⟩
                  have n0_ := Aside0.mk (Kd.R_below (by (with_reducible repeat (first | apply Kd.R_alloc | apply Kd.R_drewN | apply Kd.R_drew)); exact HO_8.out) hb)
                  have n1_ := Aside0.mk (blk_below (g := gb158) (o := .cells #[.int .i64 a0_0, .int .i64 a0_1, .int .i64 a0_2] 23 (0, 0)) (by (with_reducible repeat (first | refine blk_drewN ?_ _ | refine blk_drew ?_ | refine blk_alloc ?_ _)); exact BK158.out) hb)
                  have n2_ := Aside0.mk (blk_below (g := gb159) (o := .cells #[.int .i64 0, .int .u64 0, .slice none 0 0] 31 (0, 0)) (by (with_reducible repeat (first | refine blk_drewN ?_ _ | refine blk_drew ?_ | refine blk_alloc ?_ _)); exact BK159.out) hb)
                  have n3_ := Aside0.mk (below_step (by repeat (first | (with_reducible first | exact HB.out | apply below_alloc | apply pw_below_drewN | apply below_drew1 | refine below_set ?_ GE158.out | refine below_set ?_ GE159.out) | exact HB.out)) hb)
                  clear HO_8
                  clear BK158
                  clear BK159
                  clear HB
                  have HO_8 := n0_
                  have BK158 := n1_
                  have BK159 := n2_
                  have HB := n3_
                  clear n0_ n1_ n2_ n3_
                  (try clear hb)
                  (try clear hb2)
                  (try clear hk)
                  (try clear hi)
                  refine hK.out _ _ ⟨(blk_cell BK158.out 0).trans rfl, (blk_cell BK158.out 1).trans rfl, (blk_cell BK158.out 2).trans rfl⟩ (fun hHeld => ?_)
                  clear hK K
                  refine norm_ (a' := ?_) ?_ ?_
                  rotate_left
                  · show Act.put _ (some 61) _ = _
                    simp only [Act.put, List.setIfInBounds_toArray, List.set_cons_zero, List.set_cons_succ, i64_w, i32_w]
                    rfl
                  refine pure_ (i := 4) (N := some 62) (v := ?_) (a' := ?_) #[true, true, true, true, true, false, false] rfl rfl (by kernel_rfl) (fun _ _ _ h => h) (Or.inl ⟨by rfl, ?_⟩) ?_ ?_
                  rotate_left
                  · intro w'
                    go_simp
                    with_reducible rfl
                  rotate_left
                  · simp only [Act.put, List.setIfInBounds_toArray, List.set_cons_zero, List.set_cons_succ, i64_w, i32_w]
                    rfl
                  refine one_ (i := 5) (N := some 11) #[true, true, true, true, true, true, false] rfl rfl (by kernel_rfl) (by decide) (fun K hK => ?_)
                  refine box_step ?hg (N := 11) ?hd (cs := #[.int .i64 0, .int .u64 0, .slice none 0 0]) (t := 31) ?hr ?_; (case hd => rfl); (case hg => rfl); (case hr => first | (go_simp; done) | (go_simp; rfl))
                  intro gb175 hg w47 hbox hb
                  have n0_ := Aside0.mk (Kd.R_below (by (with_reducible repeat (first | apply Kd.R_alloc | apply Kd.R_drewN | apply Kd.R_drew)); exact HO_8.out) hb)
                  have n1_ := Aside0.mk (blk_below (g := gb158) (o := .cells #[.int .i64 a0_0, .int .i64 a0_1, .int .i64 a0_2] 23 (0, 0)) (by (with_reducible repeat (first | refine blk_drewN ?_ _ | refine blk_drew ?_ | refine blk_alloc ?_ _)); exact BK158.out) hb)
                  have n2_ := Aside0.mk (blk_below (g := gb159) (o := .cells #[.int .i64 0, .int .u64 0, .slice none 0 0] 31 (0, 0)) (by (with_reducible repeat (first | refine blk_drewN ?_ _ | refine blk_drew ?_ | refine blk_alloc ?_ _)); exact BK159.out) hb)
                  have n3_ := Aside0.mk (below_step (by repeat (first | (with_reducible first | exact HB.out | apply below_alloc | apply pw_below_drewN | apply below_drew1 | refine below_set ?_ GE158.out | refine below_set ?_ GE159.out) | exact HB.out)) hb)
                  have n4_ := Aside0.mk (hbox)
                  have n5_ := Aside0.mk ((by rw [hg]; exact (below_size (by repeat (first | (with_reducible first | exact HB.out | apply below_alloc | apply pw_below_drewN | apply below_drew1 | refine below_set ?_ GE158.out | refine below_set ?_ GE159.out) | exact HB.out))) : w.heap.size ≤ gb175))
                  have n6_ := Aside0.mk ((by rw [hg]; exact (below_size (by repeat (first | (with_reducible first | exact HB.out | apply below_alloc | apply pw_below_drewN | apply below_drew1 | refine below_set ?_ GE158.out | refine below_set ?_ GE159.out) | exact HB.out))) : w.heap.size ≤ gb175))
                  have n7_ := Aside0.mk ((by rw [hg]; exact Nat.ne_of_lt (blk_lt (g := gb158) (o := .cells #[.int .i64 a0_0, .int .i64 a0_1, .int .i64 a0_2] 23 (0, 0)) (by (with_reducible repeat (first | refine blk_drewN ?_ _ | refine blk_drew ?_ | refine blk_alloc ?_ _)); exact BK158.out)) : gb158 ≠ gb175))
                  have n8_ := Aside0.mk ((by rw [hg]; exact Nat.ne_of_gt (blk_lt (g := gb158) (o := .cells #[.int .i64 a0_0, .int .i64 a0_1, .int .i64 a0_2] 23 (0, 0)) (by (with_reducible repeat (first | refine blk_drewN ?_ _ | refine blk_drew ?_ | refine blk_alloc ?_ _)); exact BK158.out)) : gb175 ≠ gb158))
                  have n9_ := Aside0.mk ((by rw [hg]; exact Nat.ne_of_lt (blk_lt (g := gb159) (o := .cells #[.int .i64 0, .int .u64 0, .slice none 0 0] 31 (0, 0)) (by (with_reducible repeat (first | refine blk_drewN ?_ _ | refine blk_drew ?_ | refine blk_alloc ?_ _)); exact BK159.out)) : gb159 ≠ gb175))
                  have n10_ := Aside0.mk ((by rw [hg]; exact Nat.ne_of_gt (blk_lt (g := gb159) (o := .cells #[.int .i64 0, .int .u64 0, .slice none 0 0] 31 (0, 0)) (by (with_reducible repeat (first | refine blk_drewN ?_ _ | refine blk_drew ?_ | refine blk_alloc ?_ _)); exact BK159.out)) : gb175 ≠ gb159))
                  clear HO_8
                  clear BK158
                  clear BK159
                  clear HB
                  have HO_8 := n0_
                  have BK158 := n1_
                  have BK159 := n2_
                  have HB := n3_
                  have BK175 := n4_
                  have GW175 := n5_
                  have GE175 := n6_
                  have NB158_175 := n7_
                  have NB175_158 := n8_
                  have NB159_175 := n9_
                  have NB175_159 := n10_
                  clear n0_ n1_ n2_ n3_ n4_ n5_ n6_ n7_ n8_ n9_ n10_
                  clear hb hbox hg
                  refine hK.out _ _ ⟨(blk_cell BK158.out 0).trans rfl, (blk_cell BK158.out 1).trans rfl, (blk_cell BK158.out 2).trans rfl⟩ (fun hHeld => ?_)
                  clear hK K
                  refine norm_ (a' := ?_) ?_ ?_
                  rotate_left
                  · show Act.put _ (some 11) _ = _
                    simp only [Act.put, List.setIfInBounds_toArray, List.set_cons_zero, List.set_cons_succ, i64_w, i32_w]
                    rfl
                  exact norm_ (by simp only [putAll, Act.put, List.setIfInBounds_toArray, List.set_cons_zero, List.set_cons_succ]) (hCont (gb175) _ ⟨hHeld, (by (with_reducible repeat (first | apply Kd.R_alloc | apply Kd.R_drewN | apply Kd.R_drew)); exact HO_8.out), (by (with_reducible repeat (first | refine blk_drewN ?_ _ | refine blk_drew ?_ | refine blk_alloc ?_ _)); exact BK158.out), (by (with_reducible repeat (first | refine blk_drewN ?_ _ | refine blk_drew ?_ | refine blk_alloc ?_ _)); exact BK159.out), (by (with_reducible repeat (first | refine blk_drewN ?_ _ | refine blk_drew ?_ | refine blk_alloc ?_ _)); exact BK175.out), GW175.out, GE175.out, NB158_175.out, NB175_158.out, NB159_175.out, NB175_159.out, (by repeat (first | (with_reducible first | exact HB.out | apply below_alloc | apply pw_below_drewN | apply below_drew1 | refine below_set ?_ GE158.out | refine below_set ?_ GE159.out | refine below_set ?_ GE175.out) | exact HB.out))⟩)
                · skip
                  refine box_step ?hg (N := 11) ?hd (cs := #[.int .i64 0, .int .u64 0, .slice none 0 0]) (t := 31) ?hr ?_; (case hd => rfl); (case hg => rfl); (case hr => first | (go_simp; done) | (go_simp; rfl))
                  intro gb175 hg w46 hbox hb
                  have n0_ := Aside0.mk (Kd.R_below (by (with_reducible repeat (first | apply Kd.R_alloc | apply Kd.R_drewN | apply Kd.R_drew)); exact HO_8.out) hb)
                  have n1_ := Aside0.mk (blk_below (g := gb158) (o := .cells #[.int .i64 a0_0, .int .i64 a0_1, .int .i64 a0_2] 23 (0, 0)) (by (with_reducible repeat (first | refine blk_drewN ?_ _ | refine blk_drew ?_ | refine blk_alloc ?_ _)); exact BK158.out) hb)
                  have n2_ := Aside0.mk (blk_below (g := gb159) (o := .cells #[.int .i64 0, .int .u64 0, .slice none 0 0] 31 (0, 0)) (by (with_reducible repeat (first | refine blk_drewN ?_ _ | refine blk_drew ?_ | refine blk_alloc ?_ _)); exact BK159.out) hb)
                  have n3_ := Aside0.mk (below_step (by repeat (first | (with_reducible first | exact HB.out | apply below_alloc | apply pw_below_drewN | apply below_drew1 | refine below_set ?_ GE158.out | refine below_set ?_ GE159.out) | exact HB.out)) hb)
                  have n4_ := Aside0.mk (hbox)
                  have n5_ := Aside0.mk ((by rw [hg]; exact (below_size (by repeat (first | (with_reducible first | exact HB.out | apply below_alloc | apply pw_below_drewN | apply below_drew1 | refine below_set ?_ GE158.out | refine below_set ?_ GE159.out) | exact HB.out))) : w.heap.size ≤ gb175))
                  have n6_ := Aside0.mk ((by rw [hg]; exact (below_size (by repeat (first | (with_reducible first | exact HB.out | apply below_alloc | apply pw_below_drewN | apply below_drew1 | refine below_set ?_ GE158.out | refine below_set ?_ GE159.out) | exact HB.out))) : w.heap.size ≤ gb175))
                  have n7_ := Aside0.mk ((by rw [hg]; exact Nat.ne_of_lt (blk_lt (g := gb158) (o := .cells #[.int .i64 a0_0, .int .i64 a0_1, .int .i64 a0_2] 23 (0, 0)) (by (with_reducible repeat (first | refine blk_drewN ?_ _ | refine blk_drew ?_ | refine blk_alloc ?_ _)); exact BK158.out)) : gb158 ≠ gb175))
                  have n8_ := Aside0.mk ((by rw [hg]; exact Nat.ne_of_gt (blk_lt (g := gb158) (o := .cells #[.int .i64 a0_0, .int .i64 a0_1, .int .i64 a0_2] 23 (0, 0)) (by (with_reducible repeat (first | refine blk_drewN ?_ _ | refine blk_drew ?_ | refine blk_alloc ?_ _)); exact BK158.out)) : gb175 ≠ gb158))
                  have n9_ := Aside0.mk ((by rw [hg]; exact Nat.ne_of_lt (blk_lt (g := gb159) (o := .cells #[.int .i64 0, .int .u64 0, .slice none 0 0] 31 (0, 0)) (by (with_reducible repeat (first | refine blk_drewN ?_ _ | refine blk_drew ?_ | refine blk_alloc ?_ _)); exact BK159.out)) : gb159 ≠ gb175))
                  have n10_ := Aside0.mk ((by rw [hg]; exact Nat.ne_of_gt (blk_lt (g := gb159) (o := .cells #[.int .i64 0, .int .u64 0, .slice none 0 0] 31 (0, 0)) (by (with_reducible repeat (first | refine blk_drewN ?_ _ | refine blk_drew ?_ | refine blk_alloc ?_ _)); exact BK159.out)) : gb175 ≠ gb159))
                  clear HO_8
                  clear BK158
                  clear BK159
                  clear HB
                  have HO_8 := n0_
                  have BK158 := n1_
                  have BK159 := n2_
                  have HB := n3_
                  have BK175 := n4_
                  have GW175 := n5_
                  have GE175 := n6_
                  have NB158_175 := n7_
                  have NB175_158 := n8_
                  have NB159_175 := n9_
                  have NB175_159 := n10_
                  clear n0_ n1_ n2_ n3_ n4_ n5_ n6_ n7_ n8_ n9_ n10_
                  clear hb hbox hg
                  refine hK.out _ _ ⟨(blk_cell BK158.out 0).trans rfl, (blk_cell BK158.out 1).trans rfl, (blk_cell BK158.out 2).trans rfl⟩ (fun hHeld => ?_)
                  clear hK K
                  refine norm_ (a' := ?_) ?_ ?_
                  rotate_left
                  · show Act.put _ (some 11) _ = _
                    simp only [Act.put, List.setIfInBounds_toArray, List.set_cons_zero, List.set_cons_succ, i64_w, i32_w]
                    rfl
                  refine one_ (i := 3) (N := some 61) #[true, true, true, true, false, true, false] rfl rfl (by kernel_rfl) (by decide) (fun K hK => ?_)
                  refine goes_ Tryd.func31 (by kernel_rfl) rfl #[.agg #[.int .i64 a0_0, .int .i64 a0_1, .int .i64 a0_2]] (by rfl) rfl rfl (by (try simp only [List.map_toArray, List.map_cons, List.map_nil]); first | done | rfl | (simp only [List.length_drop, List.length_take]; rfl)) ?_
                  with_reducible refine (lottery_sum.calls a0_0 a0_1 a0_2 t174 _ ?side1 A44.out).mono ?_
                  (case side1 => exact TabW.below HTAB.out (by repeat (first | (with_reducible first | exact HB.out | apply below_alloc | apply pw_below_drewN | apply below_drew1 | refine below_set ?_ GE158.out | refine below_set ?_ GE159.out | refine below_set ?_ GE175.out) | exact HB.out)))
                  rintro e w47 ⟨rfl, hb⟩
                  refine ⟨_, rfl, ?_⟩
                  have n0_ := Aside0.mk (Kd.R_below (by (with_reducible repeat (first | apply Kd.R_alloc | apply Kd.R_drewN | apply Kd.R_drew)); exact HO_8.out) hb)
                  have n1_ := Aside0.mk (blk_below (g := gb158) (o := .cells #[.int .i64 a0_0, .int .i64 a0_1, .int .i64 a0_2] 23 (0, 0)) (by (with_reducible repeat (first | refine blk_drewN ?_ _ | refine blk_drew ?_ | refine blk_alloc ?_ _)); exact BK158.out) hb)
                  have n2_ := Aside0.mk (blk_below (g := gb159) (o := .cells #[.int .i64 0, .int .u64 0, .slice none 0 0] 31 (0, 0)) (by (with_reducible repeat (first | refine blk_drewN ?_ _ | refine blk_drew ?_ | refine blk_alloc ?_ _)); exact BK159.out) hb)
                  have n3_ := Aside0.mk (blk_below (g := gb175) (o := .cells #[.int .i64 0, .int .u64 0, .slice none 0 0] 31 (0, 0)) (by (with_reducible repeat (first | refine blk_drewN ?_ _ | refine blk_drew ?_ | refine blk_alloc ?_ _)); exact BK175.out) hb)
                  have n4_ := Aside0.mk (below_step (by repeat (first | (with_reducible first | exact HB.out | apply below_alloc | apply pw_below_drewN | apply below_drew1 | refine below_set ?_ GE158.out | refine below_set ?_ GE159.out | refine below_set ?_ GE175.out) | exact HB.out)) hb)
                  clear HO_8
                  clear BK158
                  clear BK159
                  clear BK175
                  clear HB
                  have HO_8 := n0_
                  have BK158 := n1_
                  have BK159 := n2_
                  have BK175 := n3_
                  have HB := n4_
                  clear n0_ n1_ n2_ n3_ n4_
                  (try clear hb)
                  (try clear hb2)
                  (try clear hk)
                  (try clear hi)
                  refine hK.out _ _ ⟨(blk_cell BK158.out 0).trans rfl, (blk_cell BK158.out 1).trans rfl, (blk_cell BK158.out 2).trans rfl⟩ (fun hHeld => ?_)
                  clear hK K
                  refine norm_ (a' := ?_) ?_ ?_
                  rotate_left
                  · show Act.put _ (some 61) _ = _
                    simp only [Act.put, List.setIfInBounds_toArray, List.set_cons_zero, List.set_cons_succ, i64_w, i32_w]
                    rfl
                  refine pure_ (i := 4) (N := some 62) (v := ?_) (a' := ?_) #[true, true, true, true, true, true, false] rfl rfl (by kernel_rfl) (fun _ _ _ h => h) (Or.inl ⟨by rfl, ?_⟩) ?_ ?_
                  rotate_left
                  · intro w'
                    go_simp
                    with_reducible rfl
                  rotate_left
                  · simp only [Act.put, List.setIfInBounds_toArray, List.set_cons_zero, List.set_cons_succ, i64_w, i32_w]
                    rfl
                  exact norm_ (by simp only [putAll, Act.put, List.setIfInBounds_toArray, List.set_cons_zero, List.set_cons_succ]) (hCont (gb175) _ ⟨hHeld, (by (with_reducible repeat (first | apply Kd.R_alloc | apply Kd.R_drewN | apply Kd.R_drew)); exact HO_8.out), (by (with_reducible repeat (first | refine blk_drewN ?_ _ | refine blk_drew ?_ | refine blk_alloc ?_ _)); exact BK158.out), (by (with_reducible repeat (first | refine blk_drewN ?_ _ | refine blk_drew ?_ | refine blk_alloc ?_ _)); exact BK159.out), (by (with_reducible repeat (first | refine blk_drewN ?_ _ | refine blk_drew ?_ | refine blk_alloc ?_ _)); exact BK175.out), GW175.out, GE175.out, NB158_175.out, NB175_158.out, NB159_175.out, NB175_159.out, (by repeat (first | (with_reducible first | exact HB.out | apply below_alloc | apply pw_below_drewN | apply below_drew1 | refine below_set ?_ GE158.out | refine below_set ?_ GE159.out | refine below_set ?_ GE175.out) | exact HB.out))⟩)
              rintro gb175 w48 ⟨hS_, h0_, h1_, h2_, h3_, h4_, h5_, h6_, h7_, h8_, h9_, h10_⟩
              have n0_ : Aside0 (Kd.R (Kd.int .i64) 66 w48 w.heap.size (fun _ => True) u8 x8_2) := ⟨h0_⟩
              have n1_ : Aside0 (w48.heap[gb158]? = some (.cells #[.int .i64 a0_0, .int .i64 a0_1, .int .i64 a0_2] 23 (0, 0))) := ⟨h1_⟩
              have n2_ : Aside0 (w48.heap[gb159]? = some (.cells #[.int .i64 0, .int .u64 0, .slice none 0 0] 31 (0, 0))) := ⟨h2_⟩
              have n3_ : Aside0 (w48.heap[gb175]? = some (.cells #[.int .i64 0, .int .u64 0, .slice none 0 0] 31 (0, 0))) := ⟨h3_⟩
              have n4_ : Aside0 (w.heap.size ≤ gb175) := ⟨h4_⟩
              have n5_ : Aside0 (w.heap.size ≤ gb175) := ⟨h5_⟩
              have n6_ : Aside0 (gb158 ≠ gb175) := ⟨h6_⟩
              have n7_ : Aside0 (gb175 ≠ gb158) := ⟨h7_⟩
              have n8_ : Aside0 (gb159 ≠ gb175) := ⟨h8_⟩
              have n9_ : Aside0 (gb175 ≠ gb159) := ⟨h9_⟩
              have n10_ : Aside0 (Below w.heap.size w w48) := ⟨h10_⟩
              clear HO_8
              clear BK158
              clear BK159
              clear HB
              clear h0_ h1_ h2_ h3_ h4_ h5_ h6_ h7_ h8_ h9_ h10_
              have HO_8 := n0_
              have BK158 := n1_
              have BK159 := n2_
              have BK175 := n3_
              have GW175 := n4_
              have GE175 := n5_
              have NB158_175 := n6_
              have NB175_158 := n7_
              have NB159_175 := n8_
              have NB175_159 := n9_
              have HB := n10_
              clear n0_ n1_ n2_ n3_ n4_ n5_ n6_ n7_ n8_ n9_ n10_
              have hHeld : w48.cell? ⟨gb158, 0, none⟩ = some (.int .i64 a0_0) ∧ w48.cell? ⟨gb158, 1, none⟩ = some (.int .i64 a0_1) ∧ w48.cell? ⟨gb158, 2, none⟩ = some (.int .i64 a0_2) := hS_
              refine norm_ (a' := ?_) ?_ ?_
              rotate_left
              · simp only [putAll, Act.put, List.setIfInBounds_toArray, List.set_cons_zero, List.set_cons_succ]
                rfl
              refine one_ (i := 6) (N := none) #[true, true, true, true, true, true, true] rfl rfl (by kernel_rfl) (by decide) (fun K hK => ?_)
              have hs49 : w48.cell? ⟨gb175, 0, none⟩ = some (.int .i64 0) := (blk_cell BK175.out 0).trans rfl
              have hfs49 := blk_frozen BK175.out 0
              have hns49_0 := NB158_175.out
              have hns49_1 := NB159_175.out
              have hms49_0 := NB175_158.out
              have hms49_1 := NB175_159.out
              have hs50 : w48.cell? ⟨gb175, 1, none⟩ = some (.int .u64 0) := (blk_cell BK175.out 1).trans rfl
              have hfs50 := blk_frozen BK175.out 1
              have hns50_0 := NB158_175.out
              have hns50_1 := NB159_175.out
              have hms50_0 := NB175_158.out
              have hms50_1 := NB175_159.out
              have hs51 : w48.cell? ⟨gb175, 2, none⟩ = some (.slice none 0 0) := (blk_cell BK175.out 2).trans rfl
              have hfs51 := blk_frozen BK175.out 2
              have hns51_0 := NB158_175.out
              have hns51_1 := NB159_175.out
              have hms51_0 := NB175_158.out
              have hms51_1 := NB175_159.out
              refine skip_ (w1 := ?_) (by rfl) rfl ?_ ?_
              rotate_left
              · go_simp
                rfl
              refine hK.out _ _ ⟨((cell_far (p := ⟨gb175, _, none⟩) NB158_175.out _).trans (((cell_far (p := ⟨gb175, _, none⟩) NB158_175.out _).trans (((cell_far (p := ⟨gb175, _, none⟩) NB158_175.out _).trans (hHeld.1)))))), ((cell_far (p := ⟨gb175, _, none⟩) NB158_175.out _).trans (((cell_far (p := ⟨gb175, _, none⟩) NB158_175.out _).trans (((cell_far (p := ⟨gb175, _, none⟩) NB158_175.out _).trans (hHeld.2.1)))))), ((cell_far (p := ⟨gb175, _, none⟩) NB158_175.out _).trans (((cell_far (p := ⟨gb175, _, none⟩) NB158_175.out _).trans (((cell_far (p := ⟨gb175, _, none⟩) NB158_175.out _).trans (hHeld.2.2))))))⟩ (fun hHeld => ?_)
              clear hK K
              refine done_ (by kernel_rfl) ?_
              try go_wp2
              go_loopg [64] k2 (fun kq v64 w' => ∃ (x64_3 : Int) (x176002_3 : List (S47)) (u176002 : Value), v64 = .int .i64 x64_3 ∧ Aside0 (lottery_Deal.l1 kq x8_2 a2 x64_3 a0_0 t174 x176002_3 = some (r1, r2, r3, r4)) ∧ Aside0 (kq ≤ k2) ∧ Aside0 (Kd.R (Kd.int .i64) 66 w' w.heap.size (fun _ => True) u8 x8_2) ∧ Aside0 (Kd.R k47 47 w' w.heap.size (fun _ => True) u176002 x176002_3) ∧ Aside0 (w'.heap[gb158]? = some (.cells #[.int .i64 a0_0, .int .i64 a0_1, .int .i64 a0_2] 23 (0, 0))) ∧ Aside0 (w'.heap[gb159]? = some (.cells #[.int .i64 0, .int .u64 0, (.slice none 0 0)] 31 (0, 0))) ∧ Aside0 (w'.heap[gb175]? = some (.cells #[.int .i64 a0_0, .int .u64 t174, u176002] 31 (0, 0))) ∧ Aside0 (Below w.heap.size w w'))
              case atStart => exact ⟨(0), (([] : List (S47))), (.slice none 0 0), (by first | rfl | (simp; done) | (simp [*]; done)), H', ⟨Nat.le_refl _⟩, ⟨by (with_reducible repeat (first | apply Kd.R_alloc | apply Kd.R_drewN | apply Kd.R_drew)); exact Kd.R_mono (Kd.R_far (p := ⟨gb175, 2, none⟩) (Kd.R_far (p := ⟨gb175, 1, none⟩) (Kd.R_far (p := ⟨gb175, 0, none⟩) (Kd.R_types HO_8.out BK175.out (by decide)) (fun _ hk => hk.2) (.int .i64 a0_0)) (fun _ hk => hk.2) (.int .u64 t174)) (fun _ hk => hk.2) (.slice none 0 0)) (fun _ hk => trivial)⟩, ⟨by first | exact Kd.R_nil _ _ _ _ _ | exact Kd.N_nil _ _ _ _ _ | exact Kd.V_nil _ _ _ _ _ | exact Kd.Q_nil _ _ _ _ _ | exact Kd.S_nil _ _ _ _ _⟩, ⟨by (with_reducible repeat (first | refine blk_drewN ?_ _ | refine blk_drew ?_ | refine blk_alloc ?_ _)); refine blk_far ?_ NB158_175.out _; (with_reducible repeat (first | refine blk_drewN ?_ _ | refine blk_drew ?_ | refine blk_alloc ?_ _)); refine blk_far ?_ NB158_175.out _; (with_reducible repeat (first | refine blk_drewN ?_ _ | refine blk_drew ?_ | refine blk_alloc ?_ _)); refine blk_far ?_ NB158_175.out _; (with_reducible repeat (first | refine blk_drewN ?_ _ | refine blk_drew ?_ | refine blk_alloc ?_ _)); exact BK158.out⟩, ⟨by (with_reducible repeat (first | refine blk_drewN ?_ _ | refine blk_drew ?_ | refine blk_alloc ?_ _)); refine blk_far ?_ NB159_175.out _; (with_reducible repeat (first | refine blk_drewN ?_ _ | refine blk_drew ?_ | refine blk_alloc ?_ _)); refine blk_far ?_ NB159_175.out _; (with_reducible repeat (first | refine blk_drewN ?_ _ | refine blk_drew ?_ | refine blk_alloc ?_ _)); refine blk_far ?_ NB159_175.out _; (with_reducible repeat (first | refine blk_drewN ?_ _ | refine blk_drew ?_ | refine blk_alloc ?_ _)); exact BK159.out⟩, ⟨by (with_reducible repeat (first | refine blk_drewN ?_ _ | refine blk_drew ?_ | refine blk_alloc ?_ _)); refine blk_put (cs := #[.int .i64 a0_0, .int .u64 t174, .slice none 0 0]) ?_ 2 _ rfl; (with_reducible repeat (first | refine blk_drewN ?_ _ | refine blk_drew ?_ | refine blk_alloc ?_ _)); refine blk_put (cs := #[.int .i64 a0_0, .int .u64 0, .slice none 0 0]) ?_ 1 _ rfl; (with_reducible repeat (first | refine blk_drewN ?_ _ | refine blk_drew ?_ | refine blk_alloc ?_ _)); refine blk_put (cs := #[.int .i64 0, .int .u64 0, .slice none 0 0]) ?_ 0 _ rfl; (with_reducible repeat (first | refine blk_drewN ?_ _ | refine blk_drew ?_ | refine blk_alloc ?_ _)); exact BK175.out⟩, ⟨by repeat (first | (with_reducible first | exact HB.out | apply below_alloc | apply pw_below_drewN | apply below_drew1 | refine below_set ?_ GE158.out | refine below_set ?_ GE159.out | refine below_set ?_ GE175.out) | exact HB.out)⟩⟩
              case round =>
                clear H'
                try clear c1
                try clear p1
                try clear q1
                try clear hx1
                try clear c2
                try clear p2
                try clear c3
                try clear c4
                try clear p6
                try clear c8
                try clear c10
                try clear c11
                try clear c12
                try clear c14
                try clear c15
                try clear p17
                try clear q17
                try clear hx17
                try clear c20
                try clear c25
                try clear c29
                try clear c30
                try clear c31
                try clear c32
                try clear c33
                try clear c35
                try clear c39
                try clear c39b0
                try clear c40
                try clear c40b0
                try clear c41
                try clear c41b0
                try clear c42
                try clear hcz16_0
                try clear hcz16_1
                try clear hcz16_2
                try clear hcz21_0
                try clear hcz21_1
                try clear hcz21_2
                try clear hcz26_0
                try clear hcz26_1
                try clear hcz26_2
                try clear hcz31_0
                try clear hcz31_1
                try clear hcz31_2
                try clear hcz34_0
                try clear hcz34_1
                try clear hcz34_2
                try clear hcz36_0
                try clear hcz36_1
                try clear hcz36_2
                try clear hfz16_0
                try clear hfz16_1
                try clear hfz16_2
                try clear hfz21_0
                try clear hfz21_1
                try clear hfz21_2
                try clear hfz26_0
                try clear hfz26_1
                try clear hfz26_2
                try clear hfz31_0
                try clear hfz31_1
                try clear hfz31_2
                try clear hfz34_0
                try clear hfz34_1
                try clear hfz34_2
                try clear hfz36_0
                try clear hfz36_1
                try clear hfz36_2
                try clear hx170_0
                try clear p170
                try clear p2
                try clear q170
                obtain ⟨x64_3, x176002_3, u176002, rfl, HA, HK3, HO_8, HO_176002, BK158, BK159, BK175, HB⟩ := hrel
                cases gk with
                | zero => exact absurd HA.out (by simp [lottery_Deal.l1])
                | succ k3 =>
                  have H := HA.out
                  clear HA
                  simp only [lottery_Deal.l1] at H
                  by_cases c52 : x64_3 < a2
                  · rw [if_pos c52] at H
                    have c52b0 : decide (x64_3 < a2) = true := decide_eq_true c52
                    clear c52
                    replace H := Option.bind_eq_some_iff.mp H
                    obtain ⟨t176, A530, H⟩ := H
                    replace H : (if x176002_3.length < 8796093022208 then (lottery_Deal.l1 k3 x8_2 a2 (wrap64 (x64_3 + 1)) a0_0 t174 (x176002_3 ++ [(⟨wrap64 (x64_3 + 1), t176⟩ : S47)])) else (none)) = some (r1, r2, r3, r4) := H
                    have A53 := Aside0.mk A530
                    clear A530
                    by_cases c54 : x176002_3.length < 8796093022208
                    · rw [if_pos c54] at H
                      have LMc54 := Aside0.mk c54
                      clear c54
                      obtain ⟨y177, hy177⟩ : ∃ y_ : List (S47), y_ = (x176002_3 ++ [(⟨wrap64 (x64_3 + 1), t176⟩ : S47)]) := ⟨_, rfl⟩
                      replace H : (lottery_Deal.l1 k3 x8_2 a2 (wrap64 (x64_3 + 1)) a0_0 t174 y177) = some (r1, r2, r3, r4) := by first | (rw [hy177]; with_reducible exact H) | (have H2_ := (Option.bind_some _ _).symm.trans H; rw [hy177]; with_reducible exact H2_) | (have H2_ := (Option.bind_some _ _).symm.trans H; with_reducible exact H2_) | with_reducible exact H | (rw [hy177]; exact H) | exact H
                      have Ny177 := Aside0.mk hy177
                      clear hy177
                      have H' := Aside0.mk H
                      clear H
                      try go_wp2
                      have n0_ := Aside0.mk (Kd.R_drew HO_8.out)
                      have n1_ := Aside0.mk (Kd.R_drew HO_176002.out)
                      have n2_ := Aside0.mk (blk_drew BK158.out)
                      have n3_ := Aside0.mk (blk_drew BK159.out)
                      have n4_ := Aside0.mk (blk_drew BK175.out)
                      have n5_ := Aside0.mk (below_drew1 HB.out)
                      clear HO_8
                      clear HO_176002
                      clear BK158
                      clear BK159
                      clear BK175
                      clear HB
                      have HO_8 := n0_
                      have HO_176002 := n1_
                      have BK158 := n2_
                      have BK159 := n3_
                      have BK175 := n4_
                      have HB := n5_
                      clear n0_ n1_ n2_ n3_ n4_ n5_
                      obtain ⟨Ao56, co56, eo56⟩ := Kd.R_slice HO_8.out
                      (first | subst eo56 | (injection eo56 with f1_ f2_ f3_; have f4_ := f1_.symm; have f5_ := f3_.symm; clear f1_ f2_ f3_; subst f4_; subst f5_))
                      refine start_ (n := 13) (S := fun w' => w'.cell? ⟨gb175, 0, none⟩ = some (.int .i64 a0_0) ∧ w'.cell? ⟨gb175, 1, none⟩ = some (.int .u64 t174) ∧ w'.cell? ⟨gb175, 2, none⟩ = some (u176002)) (ds := [12]) #[false, false, false, false, false, false, false, false, false, false, false, false, false] (by kernel_rfl) rfl rfl ⟨(blk_cell BK175.out 0).trans rfl, (blk_cell BK175.out 1).trans rfl, (blk_cell BK175.out 2).trans rfl⟩ (fun hHeld => ?_); refine with_tabW lottery_Deal.tab13 lottery_Deal.bits13 (fun HT_ HW_ => ?_)
                      generalize wr.drew = w55 at HO_8 HO_176002 BK158 BK159 BK175 HB hHeld ⊢
                      refine pure_ (i := 0) (N := some 67) (v := ?_) (a' := ?_) #[true, false, false, false, false, false, false, false, false, false, false, false, false] rfl rfl (any_of HT_.out (by kernel_rfl)) (fun _ _ _ h => h) (Or.inl ⟨by rfl, ?_⟩) ?_ ?_
                      rotate_left
                      · intro w'
                        go_simp
                        with_reducible rfl
                      rotate_left
                      · simp only [Act.put, List.setIfInBounds_toArray, List.set_cons_zero, List.set_cons_succ, i64_w, i32_w]
                        rfl
                      refine pure_ (i := 2) (N := some 69) (v := ?_) (a' := ?_) #[true, false, true, false, false, false, false, false, false, false, false, false, false] rfl rfl (any_of HT_.out (by kernel_rfl)) (fun _ _ _ h => h) (Or.inl ⟨by rfl, ?_⟩) ?_ ?_
                      rotate_left
                      · intro w'
                        go_simp
                        with_reducible rfl
                      rotate_left
                      · simp only [Act.put, List.setIfInBounds_toArray, List.set_cons_zero, List.set_cons_succ, i64_w, i32_w]
                        rfl
                      refine pure_ (i := 3) (N := some 70) (v := ?_) (a' := ?_) #[true, false, true, true, false, false, false, false, false, false, false, false, false] rfl rfl (any_of HT_.out (by kernel_rfl)) (fun _ _ _ h => h) (Or.inl ⟨by rfl, ?_⟩) ?_ ?_
                      rotate_left
                      · intro w'
                        go_simp
                        with_reducible rfl
                      rotate_left
                      · simp only [Act.put, List.setIfInBounds_toArray, List.set_cons_zero, List.set_cons_succ, i64_w, i32_w]
                        rfl
                      refine pure_ (i := 4) (N := some 71) (v := ?_) (a' := ?_) #[true, false, true, true, true, false, false, false, false, false, false, false, false] rfl rfl (any_of HT_.out (by kernel_rfl)) (fun _ _ _ h => h) (Or.inl ⟨by rfl, ?_⟩) ?_ ?_
                      rotate_left
                      · intro w'
                        go_simp
                        with_reducible rfl
                      rotate_left
                      · simp only [Act.put, List.setIfInBounds_toArray, List.set_cons_zero, List.set_cons_succ, i64_w, i32_w]
                        rfl
                      refine pure_ (i := 5) (N := some 72) (v := ?_) (a' := ?_) #[true, false, true, true, true, true, false, false, false, false, false, false, false] rfl rfl (any_of HT_.out (by kernel_rfl)) (fun _ _ _ h => h) (Or.inl ⟨by rfl, ?_⟩) ?_ ?_
                      rotate_left
                      · intro w'
                        go_simp
                        with_reducible rfl
                      rotate_left
                      · simp only [Act.put, List.setIfInBounds_toArray, List.set_cons_zero, List.set_cons_succ, i64_w, i32_w]
                        rfl
                      refine pure_ (i := 6) (N := some 73) (v := ?_) (a' := ?_) #[true, false, true, true, true, true, true, false, false, false, false, false, false] rfl rfl (any_of HT_.out (by kernel_rfl)) (fun _ _ _ h => h) (Or.inl ⟨by rfl, ?_⟩) ?_ ?_
                      rotate_left
                      · intro w'
                        go_simp
                        with_reducible rfl
                      rotate_left
                      · simp only [Act.put, List.setIfInBounds_toArray, List.set_cons_zero, List.set_cons_succ, i64_w, i32_w]
                        rfl
                      refine take_ (i := 1) (N := some 68) (v := ?_) (a' := ?_) #[true, true, true, true, true, true, true, false, false, false, false, false, false] rfl rfl (take_ofW HT_.out HW_.out (by kernel_rfl)) (fun _ _ _ h => h) (Or.inl ⟨by rfl, ?_⟩) hHeld ?_ ?_
                      rotate_left
                      · rintro w' ⟨s0, s1, s2⟩
                        go_simp
                        with_reducible rfl
                      rotate_left
                      · simp only [Act.put, List.setIfInBounds_toArray, List.set_cons_zero, List.set_cons_succ, i64_w, i32_w]
                        rfl
                      refine one_ (i := 7) (N := some 74) #[true, true, true, true, true, true, true, true, false, false, false, false, false] rfl rfl (one_of HT_.out (by kernel_rfl)) (by decide) (fun K hK => ?_)
                      refine goes_ Tryd.func32 (by kernel_rfl) rfl #[.slice Ao56 x8_2.length co56, .int .i64 (wrap64 (x64_3 + 1))] (by rfl) rfl rfl (by (try simp only [List.map_toArray, List.map_cons, List.map_nil]); first | done | rfl | (simp only [List.length_drop, List.length_take]; rfl)) ?_
                      with_reducible refine (lottery_polynomial_at.calls _ _ x8_2 (wrap64 (x64_3 + 1)) t176 _ ?side1 ?side2 A53.out).mono ?_
                      (case side1 => repeat (first | exact (Kd.R_reads' HO_8.out).2.2 | (with_reducible refine Kd.C_alloc ?_ _) | (with_reducible refine Kd.C_drewN ?_ _) | (with_reducible refine Kd.C_drew ?_)))
                      (case side2 => exact (Kd.R_reads' HO_8.out).2.1)
                      rintro e w57 ⟨rfl, hb⟩
                      refine ⟨_, rfl, ?_⟩
                      have n0_ := Aside0.mk (Kd.R_below (by (with_reducible repeat (first | apply Kd.R_alloc | apply Kd.R_drewN | apply Kd.R_drew)); exact HO_8.out) hb)
                      have n1_ := Aside0.mk (Kd.R_below (by (with_reducible repeat (first | apply Kd.R_alloc | apply Kd.R_drewN | apply Kd.R_drew)); exact HO_176002.out) hb)
                      have n2_ := Aside0.mk (blk_below (g := gb158) (o := .cells #[.int .i64 a0_0, .int .i64 a0_1, .int .i64 a0_2] 23 (0, 0)) (by (with_reducible repeat (first | refine blk_drewN ?_ _ | refine blk_drew ?_ | refine blk_alloc ?_ _)); exact BK158.out) hb)
                      have n3_ := Aside0.mk (blk_below (g := gb159) (o := .cells #[.int .i64 0, .int .u64 0, .slice none 0 0] 31 (0, 0)) (by (with_reducible repeat (first | refine blk_drewN ?_ _ | refine blk_drew ?_ | refine blk_alloc ?_ _)); exact BK159.out) hb)
                      have n4_ := Aside0.mk (blk_below (g := gb175) (o := .cells #[.int .i64 a0_0, .int .u64 t174, u176002] 31 (0, 0)) (by (with_reducible repeat (first | refine blk_drewN ?_ _ | refine blk_drew ?_ | refine blk_alloc ?_ _)); exact BK175.out) hb)
                      have n5_ := Aside0.mk (below_step (by repeat (first | (with_reducible first | exact HB.out | apply below_alloc | apply pw_below_drewN | apply below_drew1 | refine below_set ?_ GE158.out | refine below_set ?_ GE159.out | refine below_set ?_ GE175.out) | exact HB.out)) hb)
                      clear HO_8
                      clear HO_176002
                      clear BK158
                      clear BK159
                      clear BK175
                      clear HB
                      have HO_8 := n0_
                      have HO_176002 := n1_
                      have BK158 := n2_
                      have BK159 := n3_
                      have BK175 := n4_
                      have HB := n5_
                      clear n0_ n1_ n2_ n3_ n4_ n5_
                      (try clear hb)
                      (try clear hb2)
                      (try clear hk)
                      (try clear hi)
                      refine hK.out _ _ ⟨(blk_cell BK175.out 0).trans rfl, (blk_cell BK175.out 1).trans rfl, (blk_cell BK175.out 2).trans rfl⟩ (fun hHeld => ?_)
                      clear hK K
                      refine norm_ (a' := ?_) ?_ ?_
                      rotate_left
                      · show Act.put _ (some 74) _ = _
                        simp only [Act.put, List.setIfInBounds_toArray, List.set_cons_zero, List.set_cons_succ, i64_w, i32_w]
                        rfl
                      refine pure_ (i := 8) (N := some 75) (v := ?_) (a' := ?_) #[true, true, true, true, true, true, true, true, true, false, false, false, false] rfl rfl (any_of HT_.out (by kernel_rfl)) (fun _ _ _ h => h) (Or.inl ⟨by rfl, ?_⟩) ?_ ?_
                      rotate_left
                      · intro w'
                        go_simp
                        with_reducible rfl
                      rotate_left
                      · simp only [Act.put, List.setIfInBounds_toArray, List.set_cons_zero, List.set_cons_succ, i64_w, i32_w]
                        rfl
                      refine one_ (i := 9) (N := some 76) #[true, true, true, true, true, true, true, true, true, true, false, false, false] rfl rfl (one_of HT_.out (by kernel_rfl)) (by decide) (fun K hK => ?_)
                      refine value_ (w1 := ?_) (v := ?_) (by rfl) rfl ?_ ?_
                      rotate_left 2
                      · go_simp
                        constructor
                        · rfl
                        · rfl
                      refine hK.out _ _ ⟨(blk_cell (blk_alloc BK175.out _) 0).trans rfl, (blk_cell (blk_alloc BK175.out _) 1).trans rfl, (blk_cell (blk_alloc BK175.out _) 2).trans rfl⟩ (fun hHeld => ?_)
                      clear hK K
                      refine norm_ (a' := ?_) ?_ ?_
                      rotate_left
                      · show Act.put _ (some 76) _ = _
                        simp only [Act.put, List.setIfInBounds_toArray, List.set_cons_zero, List.set_cons_succ, i64_w, i32_w]
                        rfl
                      refine one_ (i := 10) (N := some 77) #[true, true, true, true, true, true, true, true, true, true, true, false, false] rfl rfl (one_of HT_.out (by kernel_rfl)) (by decide) (fun K hK => ?_)
                      refine Kd.R_append_step k47 (w0 := w) w.heap.size (by rfl) (.tmp 68) (.tmp 76) 25 47 (.agg #[(.int .i64 0), (.int .i64 0)]) 16 rfl Tryd.underlying25 info47 rfl (by decide) (by omega) u176002 x176002_3 (⟨wrap64 (x64_3 + 1), t176⟩ : S47) [.int .i64 (wrap64 (x64_3 + 1)), .int .i64 t176] (fun _ => True) (fun _ => False) rfl rfl ?aP (fun _ hk => hk.elim) ?aF ?aO ?aB ?aS ?aL ?_
                      (case aP => exact k47_mkM _ _ _ (⟨wrap64 (x64_3 + 1), t176⟩ : S47))
                      (case aB => exact (by repeat (first | (with_reducible first | exact HB.out | apply below_alloc | apply pw_below_drewN | apply below_drew1 | refine below_set ?_ GE158.out | refine below_set ?_ GE159.out | refine below_set ?_ GE175.out) | exact HB.out)))
                      (case aF => exact (fun _ _ => trivial))
                      (case aO => exact (by (with_reducible repeat (first | apply Kd.R_alloc | apply Kd.R_drewN | apply Kd.R_drew)); exact HO_176002.out))
                      (case aS => exact (below_size (by repeat (first | (with_reducible first | exact HB.out | apply below_alloc | apply pw_below_drewN | apply below_drew1 | refine below_set ?_ GE158.out | refine below_set ?_ GE159.out | refine below_set ?_ GE175.out) | exact HB.out))))
                      (case aL => have := LMc54.out; omega)
                      intro v178 w58 ho hb hg hat
                      rw [← Ny177.out] at ho
                      have n0_ := Aside0.mk (Kd.R_over' (by (with_reducible repeat (first | apply Kd.R_alloc | apply Kd.R_drewN | apply Kd.R_drew)); exact HO_8.out) (Kd.R_typed (by (with_reducible repeat (first | apply Kd.R_alloc | apply Kd.R_drewN | apply Kd.R_drew)); exact HO_176002.out)) (by decide) hg)
                      have n1_ := Aside0.mk (blk_grown (g := gb158) (o := .cells #[.int .i64 a0_0, .int .i64 a0_1, .int .i64 a0_2] 23 (0, 0)) (by (with_reducible repeat (first | refine blk_drewN ?_ _ | refine blk_drew ?_ | refine blk_alloc ?_ _)); exact BK158.out) hg (Kd.R_ne HO_176002.out BK158.out (by decide)))
                      have n2_ := Aside0.mk (blk_grown (g := gb159) (o := .cells #[.int .i64 0, .int .u64 0, .slice none 0 0] 31 (0, 0)) (by (with_reducible repeat (first | refine blk_drewN ?_ _ | refine blk_drew ?_ | refine blk_alloc ?_ _)); exact BK159.out) hg (Kd.R_ne HO_176002.out BK159.out (by decide)))
                      have n3_ := Aside0.mk (blk_grown (g := gb175) (o := .cells #[.int .i64 a0_0, .int .u64 t174, u176002] 31 (0, 0)) (by (with_reducible repeat (first | refine blk_drewN ?_ _ | refine blk_drew ?_ | refine blk_alloc ?_ _)); exact BK175.out) hg (Kd.R_ne HO_176002.out BK175.out (by decide)))
                      have n4_ := Aside0.mk (hb)
                      have n5_ := Aside0.mk (ho)
                      clear HO_8
                      clear BK158
                      clear BK159
                      clear BK175
                      clear HB
                      clear HO_176002
                      have HO_8 := n0_
                      have BK158 := n1_
                      have BK159 := n2_
                      have BK175 := n3_
                      have HB := n4_
                      have HO179 := n5_
                      clear n0_ n1_ n2_ n3_ n4_ n5_
                      clear ho hb hg hat
                      obtain ⟨Ao59, co59, eo59⟩ := Kd.R_slice HO179.out
                      (first | subst eo59 | (injection eo59 with f1_ f2_ f3_; have f4_ := f1_.symm; have f5_ := f3_.symm; clear f1_ f2_ f3_; subst f4_; subst f5_))
                      refine hK.out _ _ ⟨(blk_cell BK175.out 0).trans rfl, (blk_cell BK175.out 1).trans rfl, (blk_cell BK175.out 2).trans rfl⟩ (fun hHeld => ?_)
                      clear hK K
                      refine norm_ (a' := ?_) ?_ ?_
                      rotate_left
                      · show Act.put _ (some 77) _ = _
                        simp only [Act.put, List.setIfInBounds_toArray, List.set_cons_zero, List.set_cons_succ, i64_w, i32_w]
                        rfl
                      refine pure_ (i := 11) (N := some 78) (v := ?_) (a' := ?_) #[true, true, true, true, true, true, true, true, true, true, true, true, false] rfl rfl (any_of HT_.out (by kernel_rfl)) (fun _ _ _ h => h) (Or.inl ⟨by rfl, ?_⟩) ?_ ?_
                      rotate_left
                      · intro w'
                        go_simp
                        with_reducible rfl
                      rotate_left
                      · simp only [Act.put, List.setIfInBounds_toArray, List.set_cons_zero, List.set_cons_succ, i64_w, i32_w]
                        rfl
                      refine last_ (i := 12) (N := none) #[true, true, true, true, true, true, true, true, true, true, true, true, true] rfl rfl (one_of HT_.out (by kernel_rfl)) (by decide) (fun K hK => ?_)
                      have hs60 : w58.cell? ⟨gb175, 2, none⟩ = some (u176002) := (blk_cell BK175.out 2).trans rfl
                      have hfs60 := blk_frozen BK175.out 2
                      have hns60_0 := NB158_175.out
                      have hns60_1 := NB159_175.out
                      have hms60_0 := NB175_158.out
                      have hms60_1 := NB175_159.out
                      refine skip_ (w1 := ?_) (by rfl) rfl ?_ ?_
                      rotate_left
                      · go_simp
                        rfl
                      refine hK.out _ _ ?_
                      clear hK K
                      refine done_ (done_of HT_.out (by kernel_rfl)) ?_
                      try go_wp2
                      go_roundg k3
                      case measure => have := HJ3.out; have := HK2.out; have := HK3.out; omega
                      case rel => exact ⟨(wrap64 (x64_3 + 1)), (y177), (.slice Ao59 y177.length co59), (by first | rfl | (simp; done) | (simp [*]; done)), H', ⟨by have := HJ3.out; have := HK2.out; have := HK3.out; omega⟩, ⟨by (with_reducible repeat (first | apply Kd.R_alloc | apply Kd.R_drewN | apply Kd.R_drew)); exact Kd.R_mono (Kd.R_far (p := ⟨gb175, 2, none⟩) (Kd.R_types HO_8.out BK175.out (by decide)) (fun _ hk => hk.2) (.slice Ao59 y177.length co59)) (fun _ hk => trivial)⟩, ⟨by (with_reducible repeat (first | apply Kd.R_alloc | apply Kd.R_drewN | apply Kd.R_drew)); exact Kd.R_mono (Kd.R_far (p := ⟨gb175, 2, none⟩) (Kd.R_types HO179.out BK175.out (by decide)) (fun _ hk => hk.2) (.slice Ao59 y177.length co59)) (fun _ hk => trivial)⟩, ⟨by (with_reducible repeat (first | refine blk_drewN ?_ _ | refine blk_drew ?_ | refine blk_alloc ?_ _)); refine blk_far ?_ NB158_175.out _; (with_reducible repeat (first | refine blk_drewN ?_ _ | refine blk_drew ?_ | refine blk_alloc ?_ _)); exact BK158.out⟩, ⟨by (with_reducible repeat (first | refine blk_drewN ?_ _ | refine blk_drew ?_ | refine blk_alloc ?_ _)); refine blk_far ?_ NB159_175.out _; (with_reducible repeat (first | refine blk_drewN ?_ _ | refine blk_drew ?_ | refine blk_alloc ?_ _)); exact BK159.out⟩, ⟨by (with_reducible repeat (first | refine blk_drewN ?_ _ | refine blk_drew ?_ | refine blk_alloc ?_ _)); refine blk_put (cs := #[.int .i64 a0_0, .int .u64 t174, u176002]) ?_ 2 _ rfl; (with_reducible repeat (first | refine blk_drewN ?_ _ | refine blk_drew ?_ | refine blk_alloc ?_ _)); exact BK175.out⟩, ⟨by repeat (first | (with_reducible first | exact HB.out | apply below_alloc | apply pw_below_drewN | apply below_drew1 | refine below_set ?_ GE158.out | refine below_set ?_ GE159.out | refine below_set ?_ GE175.out) | exact HB.out)⟩⟩
                    · rw [if_neg c54] at H
                      exact absurd H (by simp)
                  · rw [if_neg c52] at H
                    have c52b0 : decide (x64_3 < a2) = false := decide_eq_false c52
                    clear c52
                    simp only [Option.some.injEq, Prod.mk.injEq] at H
                    obtain ⟨rfl, rfl, rfl, rfl⟩ := H
                    have hnb61 := NB175_158.out
                    have hnc61 := NB158_175.out
                    have hnb62 := NB175_159.out
                    have hnc62 := NB159_175.out
                    have hcz63_0 : wr.cell? ⟨gb175, 0, none⟩ = some (.int .i64 a0_0) := (blk_cell BK175.out 0).trans rfl
                    have hcz63_1 : wr.cell? ⟨gb175, 1, none⟩ = some (.int .u64 t174) := (blk_cell BK175.out 1).trans rfl
                    have hcz63_2 : wr.cell? ⟨gb175, 2, none⟩ = some (u176002) := (blk_cell BK175.out 2).trans rfl
                    have hfz63_0 := blk_frozen BK175.out 0
                    have hfz63_1 := blk_frozen BK175.out 1
                    have hfz63_2 := blk_frozen BK175.out 2
                    have hnb64 := NB159_158.out
                    have hnc64 := NB158_159.out
                    have hcz65_0 : wr.cell? ⟨gb159, 0, none⟩ = some (.int .i64 0) := (blk_cell BK159.out 0).trans rfl
                    have hcz65_1 : wr.cell? ⟨gb159, 1, none⟩ = some (.int .u64 0) := (blk_cell BK159.out 1).trans rfl
                    have hcz65_2 : wr.cell? ⟨gb159, 2, none⟩ = some (.slice none 0 0) := (blk_cell BK159.out 2).trans rfl
                    have hfz65_0 := blk_frozen BK159.out 0
                    have hfz65_1 := blk_frozen BK159.out 1
                    have hfz65_2 := blk_frozen BK159.out 2
                    obtain ⟨Ao66, co66, eo66⟩ := Kd.R_slice HO_176002.out
                    subst eo66
                    go_wp2
                    refine bodyPost_ret (results_ct rfl _ _ gb159 31 #[.int .i64 a0_0, .int .u64 t174, .slice Ao66 x176002_3.length co66] (0, 0) _ rfl (by (with_reducible repeat (first | refine blk_drewN ?_ _ | refine blk_drew ?_ | refine blk_alloc ?_ _)); refine blk_put (cs := #[.int .i64 a0_0, .int .u64 t174, .slice none 0 0]) ?_ 2 _ rfl; (with_reducible repeat (first | refine blk_drewN ?_ _ | refine blk_drew ?_ | refine blk_alloc ?_ _)); refine blk_put (cs := #[.int .i64 a0_0, .int .u64 0, .slice none 0 0]) ?_ 1 _ rfl; (with_reducible repeat (first | refine blk_drewN ?_ _ | refine blk_drew ?_ | refine blk_alloc ?_ _)); refine blk_put (cs := #[.int .i64 0, .int .u64 0, .slice none 0 0]) ?_ 0 _ rfl; (with_reducible repeat (first | refine blk_drewN ?_ _ | refine blk_drew ?_ | refine blk_alloc ?_ _)); exact BK159.out) Tryd.underlying31 rfl (by kernel_rfl)) rfl ?_
                    exact ⟨_, by first | rfl | (simp [errW_none, errW_some] <;> rfl) | (simp [*, errW_none, errW_some] <;> rfl), by (with_reducible repeat (first | apply Kd.R_alloc | apply Kd.R_drewN | apply Kd.R_drew)); exact Kd.R_mono (Kd.R_far (p := ⟨gb159, 2, none⟩) (Kd.R_far (p := ⟨gb159, 1, none⟩) (Kd.R_far (p := ⟨gb159, 0, none⟩) (Kd.R_types HO_176002.out BK159.out (by decide)) (fun _ hk => hk.2) (.int .i64 a0_0)) (fun _ hk => hk.2) (.int .u64 t174)) (fun _ hk => hk.2) (.slice Ao66 x176002_3.length co66)) (fun _ hk => trivial), by repeat (first | (with_reducible first | exact HB.out | apply below_alloc | apply pw_below_drewN | apply below_drew1 | refine below_set ?_ GE158.out | refine below_set ?_ GE159.out | refine below_set ?_ GE175.out) | exact HB.out)⟩
end Go.Proofs.YtkghgaifgpgfkaaDoor.PL
end
