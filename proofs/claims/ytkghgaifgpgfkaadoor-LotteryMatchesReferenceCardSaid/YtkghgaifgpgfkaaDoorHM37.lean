/- Lemmas and walks for lotteryMatchesReferenceCard_holds (part 37), without what it does not use. -/
import Derived.Test.YtkghgaifgpgfkaaDoorHM12
import Derived.Test.YtkghgaifgpgfkaaDoorHM29
import Derived.Test.YtkghgaifgpgfkaaDoorHM36
section
namespace Go.Proofs.YtkghgaifgpgfkaaDoor.PL
open Go.RowKit Go.Proofs.YtkghgaifgpgfkaaDoorW.PrintWords Go.Proofs.YtkghgaifgpgfkaaDoorW.PrintLast Go.Proofs.YtkghgaifgpgfkaaDoorW.PrintMore
attribute [local go_sem] max2_int min2_int max_two min_two max_three min_three max_four min_four   -- for this text's walks alone
set_option linter.unusedVariables false
set_option linter.unusedSimpArgs false
mutual
def cohousingref22_Deal.j0 : Nat → List Int → Int → Bool → Int → Int → Int → Option (Int × Int × (List (S47)) × Int)
  | 0, _, _, _, _, _, _ => none
  | k + 1, x1, x2, x43, x213000, x213001, x213002 => if x43 = true then (some (0, 0, ([] : List (S47)), 1)) else ((some (([x213001] : List Int) : List Int)).bind fun y219 => (if y219.length + x1.length < 17592186044416 then ((cohousingref22_Sum.f k x213000 x213001 x213002).bind fun t225 => (cohousingref22_Deal.l0 k x2 (y219 ++ x1) 1 x213000 t225 ([] : List (S47)))) else (none)))
def cohousingref22_Deal.l0 : Nat → Int → List Int → Int → Int → Int → List (S47) → Option (Int × Int × (List (S47)) × Int)
  | 0, _, _, _, _, _, _ => none
  | k + 1, x2, x8, x10, x227000, x227001, x227002 => if x10 ≤ x2 then ((cohousingref22_At.f k x8 x10).bind fun t227 => (if x227002.length < 8796093022208 then (cohousingref22_Deal.l0 k x2 x8 (wrap64 (x10 + 1)) x227000 x227001 (x227002 ++ [(⟨x10, t227⟩ : S47)])) else (none))) else (some (x227000, x227001, x227002, 0))
end
def cohousingref22_Deal.f (k : Nat) (a0_0 : Int) (a0_1 : Int) (a0_2 : Int) (l1 : List Int) (a2 : Int) : Option (Int × Int × (List (S47)) × Int) := (cohousingref22_in.f a2 1 16).bind fun t214 => (if t214 = true then ((cohousingref22_in.f a0_0 1 a2).bind fun t215 => (if t215 = true then ((cohousingref22_Residue.f a0_1).bind fun t216 => (if t216 = true then ((cohousingref22_Residue.f a0_2).bind fun t217 => (if t217 = true then ((cohousingref22_Residues.f k l1).bind fun t218 => (if t218 = true then (cohousingref22_Deal.j0 k l1 a2 (decide ((l1.length : Int) ≥ a2)) a0_0 a0_1 a0_2) else (cohousingref22_Deal.j0 k l1 a2 true a0_0 a0_1 a0_2))) else (cohousingref22_Deal.j0 k l1 a2 true a0_0 a0_1 a0_2))) else (cohousingref22_Deal.j0 k l1 a2 true a0_0 a0_1 a0_2))) else (cohousingref22_Deal.j0 k l1 a2 true a0_0 a0_1 a0_2))) else (cohousingref22_Deal.j0 k l1 a2 true a0_0 a0_1 a0_2))
def cohousingref22_Deal.T8 : Bool × List (List Nat × List Nat) := (true, [([], []), ([0], [0]), ([], []), ([], []), ([], []), ([3, 4], [3, 4]), ([2, 5], [2, 5]), ([6], [6]), ([1, 7, 5], [1, 7]), ([0, 1, 2, 3, 4, 5, 6, 7, 8], []), ([9, 8, 8, 0, 1, 2, 3, 4, 5, 6, 7, 8], [8, 9])])
def cohousingref22_Deal.B8 : List Nat := [0, 1, 0, 0, 0, 24, 60, 124, 255, 511, 1023]
theorem cohousingref22_Deal.tab8 : rtab .any (opsOf Tryd.f12 8) = cohousingref22_Deal.T8 := by kernel_rfl
theorem cohousingref22_Deal.bits8 : waitsOk cohousingref22_Deal.T8.2 cohousingref22_Deal.B8 = true := by kernel_rfl
set_option maxHeartbeats 8000000 in
set_option maxRecDepth 100000 in
theorem cohousingref22_Deal.calls (k : Nat) (a0_0 : Int) (a0_1 : Int) (a0_2 : Int) (A1 : Option Addr) (c1 : Nat) (l1 : List Int) (a2 : Int) (r1 : Int) (r2 : Int) (r3 : List (S47)) (r4 : Int) (w : World) (hr1 : Kd.C (Kd.int .i64) w A1 l1.length l1) (hc1 : l1.length ≤ c1) (h : cohousingref22_Deal.f k a0_0 a0_1 a0_2 l1 a2 = some (r1, r2, r3, r4)) :
    Calls Tryd.prog 12 #[.agg #[.int .i64 a0_0, .int .i64 a0_1, .int .i64 a0_2], .slice A1 l1.length c1, .int .i64 a2] w fun e w' => ∃ v2_ : Value, e = .returned (.tuple #[.agg #[.int .i64 r1, .int .u64 r2, v2_], .int .i64 r4]) ∧ Kd.R k47 47 w' w.heap.size (fun _ => True) v2_ r3 ∧ Below w.heap.size w w' := by
  have hu23 := Tryd.underlying23
  have hu31 := Tryd.underlying31
  have hu47 := Tryd.underlying47
  have HR1 := Aside0.mk hr1
  have HC1 := Aside0.mk hc1
  clear hr1 hc1
  have HB := Aside0.mk (Below.refl w.heap.size w)
  have H : ((cohousingref22_in.f a2 1 16).bind fun t214 => (if t214 = true then ((cohousingref22_in.f a0_0 1 a2).bind fun t215 => (if t215 = true then ((cohousingref22_Residue.f a0_1).bind fun t216 => (if t216 = true then ((cohousingref22_Residue.f a0_2).bind fun t217 => (if t217 = true then ((cohousingref22_Residues.f k l1).bind fun t218 => (if t218 = true then (cohousingref22_Deal.j0 k l1 a2 (decide ((l1.length : Int) ≥ a2)) a0_0 a0_1 a0_2) else (cohousingref22_Deal.j0 k l1 a2 true a0_0 a0_1 a0_2))) else (cohousingref22_Deal.j0 k l1 a2 true a0_0 a0_1 a0_2))) else (cohousingref22_Deal.j0 k l1 a2 true a0_0 a0_1 a0_2))) else (cohousingref22_Deal.j0 k l1 a2 true a0_0 a0_1 a0_2))) else (cohousingref22_Deal.j0 k l1 a2 true a0_0 a0_1 a0_2))) = some (r1, r2, r3, r4) := h
  clear h
  have HC4 := Aside0.mk H
  clear H
  go_enter Tryd.func12, Tryd.ntmps12
  go_upto_region 1 with (first | ((with_reducible refine gate_dst (N := 3) rfl ?_); (try (refine gate_guard (by rfl) ?_; dsimp only)); refine box_event ?hg (N := 3) ?hd (cs := #[.int .i64 a0_0, .int .i64 a0_1, .int .i64 a0_2]) (t := 23) ?hr ?_; (case hd => rfl); (case hg => rfl); (case hr => first | (go_simp; done) | (go_simp; rfl)); intro gb212 hg w5 hbox hb; have n0_ := Aside0.mk (below_step (by repeat (first | (with_reducible first | exact HB.out | apply below_alloc | apply pw_below_drewN | apply below_drew1) | exact HB.out)) hb); have n1_ := Aside0.mk (hbox); have n2_ := Aside0.mk ((by rw [hg]; exact (below_size (by repeat (first | (with_reducible first | exact HB.out | apply below_alloc | apply pw_below_drewN | apply below_drew1) | exact HB.out))) : w.heap.size ≤ gb212)); have n3_ := Aside0.mk ((by rw [hg]; exact (below_size (by repeat (first | (with_reducible first | exact HB.out | apply below_alloc | apply pw_below_drewN | apply below_drew1) | exact HB.out))) : w.heap.size ≤ gb212)); clear HB; have HB := n0_; have BK212 := n1_; have GW212 := n2_; have GE212 := n3_; clear n0_ n1_ n2_ n3_; clear hb hbox hg) | ((with_reducible refine gate_dst (N := 6) rfl ?_); (try (refine gate_guard (by rfl) ?_; dsimp only)); refine box_event ?hg (N := 6) ?hd (cs := #[.int .i64 0, .int .u64 0, .slice none 0 0]) (t := 31) ?hr ?_; (case hd => rfl); (case hg => rfl); (case hr => first | (go_simp; done) | (go_simp; rfl)); intro gb213 hg w6 hbox hb; have n0_ := Aside0.mk (blk_below (g := gb212) (o := .cells #[.int .i64 a0_0, .int .i64 a0_1, .int .i64 a0_2] 23 (0, 0)) (by (with_reducible repeat (first | refine blk_drewN ?_ _ | refine blk_drew ?_ | refine blk_alloc ?_ _)); exact BK212.out) hb); have n1_ := Aside0.mk (below_step (by repeat (first | (with_reducible first | exact HB.out | apply below_alloc | apply pw_below_drewN | apply below_drew1 | refine below_set ?_ GE212.out) | exact HB.out)) hb); have n2_ := Aside0.mk (hbox); have n3_ := Aside0.mk ((by rw [hg]; exact (below_size (by repeat (first | (with_reducible first | exact HB.out | apply below_alloc | apply pw_below_drewN | apply below_drew1 | refine below_set ?_ GE212.out) | exact HB.out))) : w.heap.size ≤ gb213)); have n4_ := Aside0.mk ((by rw [hg]; exact (below_size (by repeat (first | (with_reducible first | exact HB.out | apply below_alloc | apply pw_below_drewN | apply below_drew1 | refine below_set ?_ GE212.out) | exact HB.out))) : w.heap.size ≤ gb213)); have n5_ := Aside0.mk ((by rw [hg]; exact Nat.ne_of_lt (blk_lt (g := gb212) (o := .cells #[.int .i64 a0_0, .int .i64 a0_1, .int .i64 a0_2] 23 (0, 0)) (by (with_reducible repeat (first | refine blk_drewN ?_ _ | refine blk_drew ?_ | refine blk_alloc ?_ _)); exact BK212.out)) : gb212 ≠ gb213)); have n6_ := Aside0.mk ((by rw [hg]; exact Nat.ne_of_gt (blk_lt (g := gb212) (o := .cells #[.int .i64 a0_0, .int .i64 a0_1, .int .i64 a0_2] 23 (0, 0)) (by (with_reducible repeat (first | refine blk_drewN ?_ _ | refine blk_drew ?_ | refine blk_alloc ?_ _)); exact BK212.out)) : gb213 ≠ gb212)); clear BK212; clear HB; have BK212 := n0_; have HB := n1_; have BK213 := n2_; have GW213 := n3_; have GE213 := n4_; have NB212_213 := n5_; have NB213_212 := n6_; clear n0_ n1_ n2_ n3_ n4_ n5_ n6_; clear hb hbox hg))
  (try simp only [Act.put, List.setIfInBounds_toArray, List.set_cons_zero, List.set_cons_succ])
  go_cut [43] (fun v43 wc => ∃ (kq : Nat) (x43_3 : Bool), v43 = .bool x43_3 ∧ Aside0 (cohousingref22_Deal.j0 kq l1 a2 x43_3 a0_0 a0_1 a0_2 = some (r1, r2, r3, r4)) ∧ Aside0 (kq ≤ k) ∧ Aside0 (wc.heap[gb212]? = some (.cells #[.int .i64 a0_0, .int .i64 a0_1, .int .i64 a0_2] 23 (0, 0))) ∧ Aside0 (wc.heap[gb213]? = some (.cells #[.int .i64 0, .int .u64 0, (.slice none 0 0)] 31 (0, 0))) ∧ Aside0 (Below w.heap.size w wc))
  case first =>
    have H := HC4.out
    clear HC4
    replace H := Option.bind_eq_some_iff.mp H
    obtain ⟨t214, A70, H⟩ := H
    replace H : (if t214 = true then ((cohousingref22_in.f a0_0 1 a2).bind fun t215 => (if t215 = true then ((cohousingref22_Residue.f a0_1).bind fun t216 => (if t216 = true then ((cohousingref22_Residue.f a0_2).bind fun t217 => (if t217 = true then ((cohousingref22_Residues.f k l1).bind fun t218 => (if t218 = true then (cohousingref22_Deal.j0 k l1 a2 (decide ((l1.length : Int) ≥ a2)) a0_0 a0_1 a0_2) else (cohousingref22_Deal.j0 k l1 a2 true a0_0 a0_1 a0_2))) else (cohousingref22_Deal.j0 k l1 a2 true a0_0 a0_1 a0_2))) else (cohousingref22_Deal.j0 k l1 a2 true a0_0 a0_1 a0_2))) else (cohousingref22_Deal.j0 k l1 a2 true a0_0 a0_1 a0_2))) else (cohousingref22_Deal.j0 k l1 a2 true a0_0 a0_1 a0_2)) = some (r1, r2, r3, r4) := H
    have A7 := Aside0.mk A70
    clear A70
    by_cases c8 : t214 = true
    · subst c8
      have H1 : ((cohousingref22_in.f a0_0 1 a2).bind fun t215 => (if t215 = true then ((cohousingref22_Residue.f a0_1).bind fun t216 => (if t216 = true then ((cohousingref22_Residue.f a0_2).bind fun t217 => (if t217 = true then ((cohousingref22_Residues.f k l1).bind fun t218 => (if t218 = true then (cohousingref22_Deal.j0 k l1 a2 (decide ((l1.length : Int) ≥ a2)) a0_0 a0_1 a0_2) else (cohousingref22_Deal.j0 k l1 a2 true a0_0 a0_1 a0_2))) else (cohousingref22_Deal.j0 k l1 a2 true a0_0 a0_1 a0_2))) else (cohousingref22_Deal.j0 k l1 a2 true a0_0 a0_1 a0_2))) else (cohousingref22_Deal.j0 k l1 a2 true a0_0 a0_1 a0_2))) = some (r1, r2, r3, r4) := by rw [if_pos rfl] at H; exact H
      clear H
      have H := H1
      clear H1
      replace H := Option.bind_eq_some_iff.mp H
      obtain ⟨t215, A90, H⟩ := H
      replace H : (if t215 = true then ((cohousingref22_Residue.f a0_1).bind fun t216 => (if t216 = true then ((cohousingref22_Residue.f a0_2).bind fun t217 => (if t217 = true then ((cohousingref22_Residues.f k l1).bind fun t218 => (if t218 = true then (cohousingref22_Deal.j0 k l1 a2 (decide ((l1.length : Int) ≥ a2)) a0_0 a0_1 a0_2) else (cohousingref22_Deal.j0 k l1 a2 true a0_0 a0_1 a0_2))) else (cohousingref22_Deal.j0 k l1 a2 true a0_0 a0_1 a0_2))) else (cohousingref22_Deal.j0 k l1 a2 true a0_0 a0_1 a0_2))) else (cohousingref22_Deal.j0 k l1 a2 true a0_0 a0_1 a0_2)) = some (r1, r2, r3, r4) := H
      have A9 := Aside0.mk A90
      clear A90
      by_cases c10 : t215 = true
      · subst c10
        have H1 : ((cohousingref22_Residue.f a0_1).bind fun t216 => (if t216 = true then ((cohousingref22_Residue.f a0_2).bind fun t217 => (if t217 = true then ((cohousingref22_Residues.f k l1).bind fun t218 => (if t218 = true then (cohousingref22_Deal.j0 k l1 a2 (decide ((l1.length : Int) ≥ a2)) a0_0 a0_1 a0_2) else (cohousingref22_Deal.j0 k l1 a2 true a0_0 a0_1 a0_2))) else (cohousingref22_Deal.j0 k l1 a2 true a0_0 a0_1 a0_2))) else (cohousingref22_Deal.j0 k l1 a2 true a0_0 a0_1 a0_2))) = some (r1, r2, r3, r4) := by rw [if_pos rfl] at H; exact H
        clear H
        have H := H1
        clear H1
        replace H := Option.bind_eq_some_iff.mp H
        obtain ⟨t216, A110, H⟩ := H
        replace H : (if t216 = true then ((cohousingref22_Residue.f a0_2).bind fun t217 => (if t217 = true then ((cohousingref22_Residues.f k l1).bind fun t218 => (if t218 = true then (cohousingref22_Deal.j0 k l1 a2 (decide ((l1.length : Int) ≥ a2)) a0_0 a0_1 a0_2) else (cohousingref22_Deal.j0 k l1 a2 true a0_0 a0_1 a0_2))) else (cohousingref22_Deal.j0 k l1 a2 true a0_0 a0_1 a0_2))) else (cohousingref22_Deal.j0 k l1 a2 true a0_0 a0_1 a0_2)) = some (r1, r2, r3, r4) := H
        have A11 := Aside0.mk A110
        clear A110
        by_cases c12 : t216 = true
        · subst c12
          have H1 : ((cohousingref22_Residue.f a0_2).bind fun t217 => (if t217 = true then ((cohousingref22_Residues.f k l1).bind fun t218 => (if t218 = true then (cohousingref22_Deal.j0 k l1 a2 (decide ((l1.length : Int) ≥ a2)) a0_0 a0_1 a0_2) else (cohousingref22_Deal.j0 k l1 a2 true a0_0 a0_1 a0_2))) else (cohousingref22_Deal.j0 k l1 a2 true a0_0 a0_1 a0_2))) = some (r1, r2, r3, r4) := by rw [if_pos rfl] at H; exact H
          clear H
          have H := H1
          clear H1
          replace H := Option.bind_eq_some_iff.mp H
          obtain ⟨t217, A130, H⟩ := H
          replace H : (if t217 = true then ((cohousingref22_Residues.f k l1).bind fun t218 => (if t218 = true then (cohousingref22_Deal.j0 k l1 a2 (decide ((l1.length : Int) ≥ a2)) a0_0 a0_1 a0_2) else (cohousingref22_Deal.j0 k l1 a2 true a0_0 a0_1 a0_2))) else (cohousingref22_Deal.j0 k l1 a2 true a0_0 a0_1 a0_2)) = some (r1, r2, r3, r4) := H
          have A13 := Aside0.mk A130
          clear A130
          by_cases c14 : t217 = true
          · subst c14
            have H1 : ((cohousingref22_Residues.f k l1).bind fun t218 => (if t218 = true then (cohousingref22_Deal.j0 k l1 a2 (decide ((l1.length : Int) ≥ a2)) a0_0 a0_1 a0_2) else (cohousingref22_Deal.j0 k l1 a2 true a0_0 a0_1 a0_2))) = some (r1, r2, r3, r4) := by rw [if_pos rfl] at H; exact H
            clear H
            have H := H1
            clear H1
            replace H := Option.bind_eq_some_iff.mp H
            obtain ⟨t218, A150, H⟩ := H
            replace H : (if t218 = true then (cohousingref22_Deal.j0 k l1 a2 (decide ((l1.length : Int) ≥ a2)) a0_0 a0_1 a0_2) else (cohousingref22_Deal.j0 k l1 a2 true a0_0 a0_1 a0_2)) = some (r1, r2, r3, r4) := H
            have A15 := Aside0.mk A150
            clear A150
            by_cases c16 : t218 = true
            · subst c16
              have H1 : (cohousingref22_Deal.j0 k l1 a2 (decide ((l1.length : Int) ≥ a2)) a0_0 a0_1 a0_2) = some (r1, r2, r3, r4) := by rw [if_pos rfl] at H; exact H
              clear H
              have H := H1
              clear H1
              have H' := Aside0.mk H
              clear H
              go_wp2_with (first | ((with_reducible refine gate_callee (f := 33) rfl ?_); refine goesL_ (some 12) rfl rfl Tryd.func33 (by kernel_rfl) rfl #[.int .i64 a2, .int .i64 1, .int .i64 16] rfl (by (try simp only [List.map_toArray, List.map_cons, List.map_nil]); first | done | rfl | (simp only [List.length_drop, List.length_take]; rfl)) ?_; (with_reducible refine (cohousingref22_in.calls a2 1 16 true _ A7.out).mono ?_); rintro e w' ⟨rfl, ⟨nd, rfl⟩⟩; refine ⟨_, rfl, ?_⟩; have hnb17 := NB212_213.out; have hnc17 := NB213_212.out; have hcz18_0 : w6.cell? ⟨gb212, 0, none⟩ = some (.int .i64 a0_0) := (blk_cell BK212.out 0).trans rfl; have hcz18_1 : w6.cell? ⟨gb212, 1, none⟩ = some (.int .i64 a0_1) := (blk_cell BK212.out 1).trans rfl; have hcz18_2 : w6.cell? ⟨gb212, 2, none⟩ = some (.int .i64 a0_2) := (blk_cell BK212.out 2).trans rfl; have hfz18_0 := blk_frozen BK212.out 0; have hfz18_1 := blk_frozen BK212.out 1; have hfz18_2 := blk_frozen BK212.out 2) | (go_at_call 33; (with_reducible refine (cohousingref22_in.calls a0_0 1 a2 true _ A9.out).mono ?_); rintro e w' ⟨rfl, ⟨nd, rfl⟩⟩) | (go_at_call 23; (with_reducible refine (cohousingref22_Residue.calls a0_1 true _ A11.out).mono ?_); rintro e w' ⟨rfl, ⟨nd, rfl⟩⟩) | (go_at_call 23; (with_reducible refine (cohousingref22_Residue.calls a0_2 true _ A13.out).mono ?_); rintro e w' ⟨rfl, ⟨nd, rfl⟩⟩) | (go_at_call 34; (with_reducible refine (cohousingref22_Residues.calls k _ _ l1 true _ ?side1 ?side2 A15.out).mono ?_); (case side1 => repeat (first | exact (Kd.C_below HR1.out (by repeat (first | (with_reducible first | exact HB.out | apply below_alloc | apply pw_below_drewN | apply below_drew1 | refine below_set ?_ GE212.out | refine below_set ?_ GE213.out) | exact HB.out))) | (with_reducible refine Kd.C_alloc ?_ _) | (with_reducible refine Kd.C_drewN ?_ _) | (with_reducible refine Kd.C_drew ?_))); (case side2 => exact HC1.out); rintro e w' ⟨rfl, ⟨nd, rfl⟩⟩))
              go_meet
              case rel => exact ⟨_, (decide ((l1.length : Int) ≥ a2)), (by first | rfl | (simp; done) | (simp [*]; done)), H', ⟨by first | omega | exact Nat.le_refl _⟩, ⟨by (with_reducible repeat (first | refine blk_drewN ?_ _ | refine blk_drew ?_ | refine blk_alloc ?_ _)); exact BK212.out⟩, ⟨by (with_reducible repeat (first | refine blk_drewN ?_ _ | refine blk_drew ?_ | refine blk_alloc ?_ _)); exact BK213.out⟩, ⟨by repeat (first | (with_reducible first | exact HB.out | apply below_alloc | apply pw_below_drewN | apply below_drew1 | refine below_set ?_ GE212.out | refine below_set ?_ GE213.out) | exact HB.out)⟩⟩
            · replace c16 := Bool.eq_false_iff.mpr c16
              subst c16
              have H1 : (cohousingref22_Deal.j0 k l1 a2 true a0_0 a0_1 a0_2) = some (r1, r2, r3, r4) := by rw [if_neg (show ¬ (false = true) by decide)] at H; exact H
              clear H
              have H := H1
              clear H1
              have H' := Aside0.mk H
              clear H
              go_wp2_with (first | ((with_reducible refine gate_callee (f := 33) rfl ?_); refine goesL_ (some 12) rfl rfl Tryd.func33 (by kernel_rfl) rfl #[.int .i64 a2, .int .i64 1, .int .i64 16] rfl (by (try simp only [List.map_toArray, List.map_cons, List.map_nil]); first | done | rfl | (simp only [List.length_drop, List.length_take]; rfl)) ?_; (with_reducible refine (cohousingref22_in.calls a2 1 16 true _ A7.out).mono ?_); rintro e w' ⟨rfl, ⟨nd, rfl⟩⟩; refine ⟨_, rfl, ?_⟩; have hnb19 := NB212_213.out; have hnc19 := NB213_212.out; have hcz20_0 : w6.cell? ⟨gb212, 0, none⟩ = some (.int .i64 a0_0) := (blk_cell BK212.out 0).trans rfl; have hcz20_1 : w6.cell? ⟨gb212, 1, none⟩ = some (.int .i64 a0_1) := (blk_cell BK212.out 1).trans rfl; have hcz20_2 : w6.cell? ⟨gb212, 2, none⟩ = some (.int .i64 a0_2) := (blk_cell BK212.out 2).trans rfl; have hfz20_0 := blk_frozen BK212.out 0; have hfz20_1 := blk_frozen BK212.out 1; have hfz20_2 := blk_frozen BK212.out 2) | (go_at_call 33; (with_reducible refine (cohousingref22_in.calls a0_0 1 a2 true _ A9.out).mono ?_); rintro e w' ⟨rfl, ⟨nd, rfl⟩⟩) | (go_at_call 23; (with_reducible refine (cohousingref22_Residue.calls a0_1 true _ A11.out).mono ?_); rintro e w' ⟨rfl, ⟨nd, rfl⟩⟩) | (go_at_call 23; (with_reducible refine (cohousingref22_Residue.calls a0_2 true _ A13.out).mono ?_); rintro e w' ⟨rfl, ⟨nd, rfl⟩⟩) | (go_at_call 34; (with_reducible refine (cohousingref22_Residues.calls k _ _ l1 false _ ?side1 ?side2 A15.out).mono ?_); (case side1 => repeat (first | exact (Kd.C_below HR1.out (by repeat (first | (with_reducible first | exact HB.out | apply below_alloc | apply pw_below_drewN | apply below_drew1 | refine below_set ?_ GE212.out | refine below_set ?_ GE213.out) | exact HB.out))) | (with_reducible refine Kd.C_alloc ?_ _) | (with_reducible refine Kd.C_drewN ?_ _) | (with_reducible refine Kd.C_drew ?_))); (case side2 => exact HC1.out); rintro e w' ⟨rfl, ⟨nd, rfl⟩⟩))
              go_meet
              case rel => exact ⟨_, (true), (by first | rfl | (simp; done) | (simp [*]; done)), H', ⟨by first | omega | exact Nat.le_refl _⟩, ⟨by (with_reducible repeat (first | refine blk_drewN ?_ _ | refine blk_drew ?_ | refine blk_alloc ?_ _)); exact BK212.out⟩, ⟨by (with_reducible repeat (first | refine blk_drewN ?_ _ | refine blk_drew ?_ | refine blk_alloc ?_ _)); exact BK213.out⟩, ⟨by repeat (first | (with_reducible first | exact HB.out | apply below_alloc | apply pw_below_drewN | apply below_drew1 | refine below_set ?_ GE212.out | refine below_set ?_ GE213.out) | exact HB.out)⟩⟩
          · replace c14 := Bool.eq_false_iff.mpr c14
            subst c14
            have H1 : (cohousingref22_Deal.j0 k l1 a2 true a0_0 a0_1 a0_2) = some (r1, r2, r3, r4) := by rw [if_neg (show ¬ (false = true) by decide)] at H; exact H
            clear H
            have H := H1
            clear H1
            have H' := Aside0.mk H
            clear H
            go_wp2_with (first | ((with_reducible refine gate_callee (f := 33) rfl ?_); refine goesL_ (some 12) rfl rfl Tryd.func33 (by kernel_rfl) rfl #[.int .i64 a2, .int .i64 1, .int .i64 16] rfl (by (try simp only [List.map_toArray, List.map_cons, List.map_nil]); first | done | rfl | (simp only [List.length_drop, List.length_take]; rfl)) ?_; (with_reducible refine (cohousingref22_in.calls a2 1 16 true _ A7.out).mono ?_); rintro e w' ⟨rfl, ⟨nd, rfl⟩⟩; refine ⟨_, rfl, ?_⟩; have hnb21 := NB212_213.out; have hnc21 := NB213_212.out; have hcz22_0 : w6.cell? ⟨gb212, 0, none⟩ = some (.int .i64 a0_0) := (blk_cell BK212.out 0).trans rfl; have hcz22_1 : w6.cell? ⟨gb212, 1, none⟩ = some (.int .i64 a0_1) := (blk_cell BK212.out 1).trans rfl; have hcz22_2 : w6.cell? ⟨gb212, 2, none⟩ = some (.int .i64 a0_2) := (blk_cell BK212.out 2).trans rfl; have hfz22_0 := blk_frozen BK212.out 0; have hfz22_1 := blk_frozen BK212.out 1; have hfz22_2 := blk_frozen BK212.out 2) | (go_at_call 33; (with_reducible refine (cohousingref22_in.calls a0_0 1 a2 true _ A9.out).mono ?_); rintro e w' ⟨rfl, ⟨nd, rfl⟩⟩) | (go_at_call 23; (with_reducible refine (cohousingref22_Residue.calls a0_1 true _ A11.out).mono ?_); rintro e w' ⟨rfl, ⟨nd, rfl⟩⟩) | (go_at_call 23; (with_reducible refine (cohousingref22_Residue.calls a0_2 false _ A13.out).mono ?_); rintro e w' ⟨rfl, ⟨nd, rfl⟩⟩))
            go_meet
            case rel => exact ⟨_, (true), (by first | rfl | (simp; done) | (simp [*]; done)), H', ⟨by first | omega | exact Nat.le_refl _⟩, ⟨by (with_reducible repeat (first | refine blk_drewN ?_ _ | refine blk_drew ?_ | refine blk_alloc ?_ _)); exact BK212.out⟩, ⟨by (with_reducible repeat (first | refine blk_drewN ?_ _ | refine blk_drew ?_ | refine blk_alloc ?_ _)); exact BK213.out⟩, ⟨by repeat (first | (with_reducible first | exact HB.out | apply below_alloc | apply pw_below_drewN | apply below_drew1 | refine below_set ?_ GE212.out | refine below_set ?_ GE213.out) | exact HB.out)⟩⟩
        · replace c12 := Bool.eq_false_iff.mpr c12
          subst c12
          have H1 : (cohousingref22_Deal.j0 k l1 a2 true a0_0 a0_1 a0_2) = some (r1, r2, r3, r4) := by rw [if_neg (show ¬ (false = true) by decide)] at H; exact H
          clear H
          have H := H1
          clear H1
          have H' := Aside0.mk H
          clear H
          go_wp2_with (first | ((with_reducible refine gate_callee (f := 33) rfl ?_); refine goesL_ (some 12) rfl rfl Tryd.func33 (by kernel_rfl) rfl #[.int .i64 a2, .int .i64 1, .int .i64 16] rfl (by (try simp only [List.map_toArray, List.map_cons, List.map_nil]); first | done | rfl | (simp only [List.length_drop, List.length_take]; rfl)) ?_; (with_reducible refine (cohousingref22_in.calls a2 1 16 true _ A7.out).mono ?_); rintro e w' ⟨rfl, ⟨nd, rfl⟩⟩; refine ⟨_, rfl, ?_⟩; have hnb23 := NB212_213.out; have hnc23 := NB213_212.out; have hcz24_0 : w6.cell? ⟨gb212, 0, none⟩ = some (.int .i64 a0_0) := (blk_cell BK212.out 0).trans rfl; have hcz24_1 : w6.cell? ⟨gb212, 1, none⟩ = some (.int .i64 a0_1) := (blk_cell BK212.out 1).trans rfl; have hcz24_2 : w6.cell? ⟨gb212, 2, none⟩ = some (.int .i64 a0_2) := (blk_cell BK212.out 2).trans rfl; have hfz24_0 := blk_frozen BK212.out 0; have hfz24_1 := blk_frozen BK212.out 1; have hfz24_2 := blk_frozen BK212.out 2) | (go_at_call 33; (with_reducible refine (cohousingref22_in.calls a0_0 1 a2 true _ A9.out).mono ?_); rintro e w' ⟨rfl, ⟨nd, rfl⟩⟩) | (go_at_call 23; (with_reducible refine (cohousingref22_Residue.calls a0_1 false _ A11.out).mono ?_); rintro e w' ⟨rfl, ⟨nd, rfl⟩⟩))
          go_meet
          case rel => exact ⟨_, (true), (by first | rfl | (simp; done) | (simp [*]; done)), H', ⟨by first | omega | exact Nat.le_refl _⟩, ⟨by (with_reducible repeat (first | refine blk_drewN ?_ _ | refine blk_drew ?_ | refine blk_alloc ?_ _)); exact BK212.out⟩, ⟨by (with_reducible repeat (first | refine blk_drewN ?_ _ | refine blk_drew ?_ | refine blk_alloc ?_ _)); exact BK213.out⟩, ⟨by repeat (first | (with_reducible first | exact HB.out | apply below_alloc | apply pw_below_drewN | apply below_drew1 | refine below_set ?_ GE212.out | refine below_set ?_ GE213.out) | exact HB.out)⟩⟩
      · replace c10 := Bool.eq_false_iff.mpr c10
        subst c10
        have H1 : (cohousingref22_Deal.j0 k l1 a2 true a0_0 a0_1 a0_2) = some (r1, r2, r3, r4) := by rw [if_neg (show ¬ (false = true) by decide)] at H; exact H
        clear H
        have H := H1
        clear H1
        have H' := Aside0.mk H
        clear H
        go_wp2_with (first | ((with_reducible refine gate_callee (f := 33) rfl ?_); refine goesL_ (some 12) rfl rfl Tryd.func33 (by kernel_rfl) rfl #[.int .i64 a2, .int .i64 1, .int .i64 16] rfl (by (try simp only [List.map_toArray, List.map_cons, List.map_nil]); first | done | rfl | (simp only [List.length_drop, List.length_take]; rfl)) ?_; (with_reducible refine (cohousingref22_in.calls a2 1 16 true _ A7.out).mono ?_); rintro e w' ⟨rfl, ⟨nd, rfl⟩⟩; refine ⟨_, rfl, ?_⟩; have hnb25 := NB212_213.out; have hnc25 := NB213_212.out; have hcz26_0 : w6.cell? ⟨gb212, 0, none⟩ = some (.int .i64 a0_0) := (blk_cell BK212.out 0).trans rfl; have hcz26_1 : w6.cell? ⟨gb212, 1, none⟩ = some (.int .i64 a0_1) := (blk_cell BK212.out 1).trans rfl; have hcz26_2 : w6.cell? ⟨gb212, 2, none⟩ = some (.int .i64 a0_2) := (blk_cell BK212.out 2).trans rfl; have hfz26_0 := blk_frozen BK212.out 0; have hfz26_1 := blk_frozen BK212.out 1; have hfz26_2 := blk_frozen BK212.out 2) | (go_at_call 33; (with_reducible refine (cohousingref22_in.calls a0_0 1 a2 false _ A9.out).mono ?_); rintro e w' ⟨rfl, ⟨nd, rfl⟩⟩))
        go_meet
        case rel => exact ⟨_, (true), (by first | rfl | (simp; done) | (simp [*]; done)), H', ⟨by first | omega | exact Nat.le_refl _⟩, ⟨by (with_reducible repeat (first | refine blk_drewN ?_ _ | refine blk_drew ?_ | refine blk_alloc ?_ _)); exact BK212.out⟩, ⟨by (with_reducible repeat (first | refine blk_drewN ?_ _ | refine blk_drew ?_ | refine blk_alloc ?_ _)); exact BK213.out⟩, ⟨by repeat (first | (with_reducible first | exact HB.out | apply below_alloc | apply pw_below_drewN | apply below_drew1 | refine below_set ?_ GE212.out | refine below_set ?_ GE213.out) | exact HB.out)⟩⟩
    · replace c8 := Bool.eq_false_iff.mpr c8
      subst c8
      have H1 : (cohousingref22_Deal.j0 k l1 a2 true a0_0 a0_1 a0_2) = some (r1, r2, r3, r4) := by rw [if_neg (show ¬ (false = true) by decide)] at H; exact H
      clear H
      have H := H1
      clear H1
      have H' := Aside0.mk H
      clear H
      go_wp2_with (first | ((with_reducible refine gate_callee (f := 33) rfl ?_); refine goesL_ (some 12) rfl rfl Tryd.func33 (by kernel_rfl) rfl #[.int .i64 a2, .int .i64 1, .int .i64 16] rfl (by (try simp only [List.map_toArray, List.map_cons, List.map_nil]); first | done | rfl | (simp only [List.length_drop, List.length_take]; rfl)) ?_; (with_reducible refine (cohousingref22_in.calls a2 1 16 false _ A7.out).mono ?_); rintro e w' ⟨rfl, ⟨nd, rfl⟩⟩; refine ⟨_, rfl, ?_⟩))
      go_meet
      case rel => exact ⟨_, (true), (by first | rfl | (simp; done) | (simp [*]; done)), H', ⟨by first | omega | exact Nat.le_refl _⟩, ⟨by (with_reducible repeat (first | refine blk_drewN ?_ _ | refine blk_drew ?_ | refine blk_alloc ?_ _)); exact BK212.out⟩, ⟨by (with_reducible repeat (first | refine blk_drewN ?_ _ | refine blk_drew ?_ | refine blk_alloc ?_ _)); exact BK213.out⟩, ⟨by repeat (first | (with_reducible first | exact HB.out | apply below_alloc | apply pw_below_drewN | apply below_drew1 | refine below_set ?_ GE212.out | refine below_set ?_ GE213.out) | exact HB.out)⟩⟩
  case rest =>
    clear HC4
    try clear c1
    try clear c2
    try clear p2
    try clear c3
    try clear c8
    try clear c10
    try clear c12
    try clear c14
    try clear c16
    try clear c17
    try clear c19
    try clear c21
    try clear c23
    try clear c25
    try clear hcz18_0
    try clear hcz18_1
    try clear hcz18_2
    try clear hcz20_0
    try clear hcz20_1
    try clear hcz20_2
    try clear hcz22_0
    try clear hcz22_1
    try clear hcz22_2
    try clear hcz24_0
    try clear hcz24_1
    try clear hcz24_2
    try clear hcz26_0
    try clear hcz26_1
    try clear hcz26_2
    try clear hfz18_0
    try clear hfz18_1
    try clear hfz18_2
    try clear hfz20_0
    try clear hfz20_1
    try clear hfz20_2
    try clear hfz22_0
    try clear hfz22_1
    try clear hfz22_2
    try clear hfz24_0
    try clear hfz24_1
    try clear hfz24_2
    try clear hfz26_0
    try clear hfz26_1
    try clear hfz26_2
    obtain ⟨kq, x43_3, rfl, HA, HJ3, BK212, BK213, HB⟩ := hcut
    cases kq with
    | zero => exact absurd HA.out (by simp [cohousingref22_Deal.j0])
    | succ kj3 =>
      have H := HA.out
      clear HA
      simp only [cohousingref22_Deal.j0] at H
      by_cases c27 : x43_3 = true
      · subst c27
        have H1 : (some (0, 0, ([] : List (S47)), 1)) = some (r1, r2, r3, r4) := by rw [if_pos rfl] at H; exact H
        clear H
        have H := H1
        clear H1
        simp only [Option.some.injEq, Prod.mk.injEq] at H
        obtain ⟨rfl, rfl, rfl, rfl⟩ := H
        have hnb28 := NB213_212.out
        have hnc28 := NB212_213.out
        have hcz29_0 : wc.cell? ⟨gb213, 0, none⟩ = some (.int .i64 0) := (blk_cell BK213.out 0).trans rfl
        have hcz29_1 : wc.cell? ⟨gb213, 1, none⟩ = some (.int .u64 0) := (blk_cell BK213.out 1).trans rfl
        have hcz29_2 : wc.cell? ⟨gb213, 2, none⟩ = some (.slice none 0 0) := (blk_cell BK213.out 2).trans rfl
        have hfz29_0 := blk_frozen BK213.out 0
        have hfz29_1 := blk_frozen BK213.out 1
        have hfz29_2 := blk_frozen BK213.out 2
        go_wp2
        refine bodyPost_ret (results_ct rfl _ _ gb213 31 #[.int .i64 0, .int .u64 0, .slice none 0 0] (0, 0) _ rfl (by (with_reducible repeat (first | refine blk_drewN ?_ _ | refine blk_drew ?_ | refine blk_alloc ?_ _)); refine blk_put (cs := #[.int .i64 0, .int .u64 0, .slice none 0 0]) ?_ 2 _ rfl; (with_reducible repeat (first | refine blk_drewN ?_ _ | refine blk_drew ?_ | refine blk_alloc ?_ _)); refine blk_put (cs := #[.int .i64 0, .int .u64 0, .slice none 0 0]) ?_ 1 _ rfl; (with_reducible repeat (first | refine blk_drewN ?_ _ | refine blk_drew ?_ | refine blk_alloc ?_ _)); refine blk_put (cs := #[.int .i64 0, .int .u64 0, .slice none 0 0]) ?_ 0 _ rfl; (with_reducible repeat (first | refine blk_drewN ?_ _ | refine blk_drew ?_ | refine blk_alloc ?_ _)); exact BK213.out) Tryd.underlying31 rfl (by kernel_rfl)) rfl ?_
        exact ⟨_, by first | rfl | (simp [errW_none, errW_some] <;> rfl) | (simp [*, errW_none, errW_some] <;> rfl), by first | exact Kd.R_nil _ _ _ _ _ | exact Kd.N_nil _ _ _ _ _ | exact Kd.V_nil _ _ _ _ _ | exact Kd.Q_nil _ _ _ _ _ | exact Kd.S_nil _ _ _ _ _, by repeat (first | (with_reducible first | exact HB.out | apply below_alloc | apply pw_below_drewN | apply below_drew1 | refine below_set ?_ GE212.out | refine below_set ?_ GE213.out) | exact HB.out)⟩
      · replace c27 := Bool.eq_false_iff.mpr c27
        subst c27
        have H1 : ((some (([a0_1] : List Int) : List Int)).bind fun y219 => (if y219.length + l1.length < 17592186044416 then ((cohousingref22_Sum.f kj3 a0_0 a0_1 a0_2).bind fun t225 => (cohousingref22_Deal.l0 kj3 a2 (y219 ++ l1) 1 a0_0 t225 ([] : List (S47)))) else (none))) = some (r1, r2, r3, r4) := by rw [if_neg (show ¬ (false = true) by decide)] at H; exact H
        clear H
        have H := H1
        clear H1
        obtain ⟨y219, hy219⟩ : ∃ y_ : List Int, y_ = (([a0_1] : List Int)) := ⟨_, rfl⟩
        replace H : (if y219.length + l1.length < 17592186044416 then ((cohousingref22_Sum.f kj3 a0_0 a0_1 a0_2).bind fun t225 => (cohousingref22_Deal.l0 kj3 a2 (y219 ++ l1) 1 a0_0 t225 ([] : List (S47)))) else (none)) = some (r1, r2, r3, r4) := by first | (rw [hy219]; with_reducible exact H) | (have H2_ := (Option.bind_some _ _).symm.trans H; rw [hy219]; with_reducible exact H2_) | (have H2_ := (Option.bind_some _ _).symm.trans H; with_reducible exact H2_) | with_reducible exact H | (rw [hy219]; exact H) | exact H
        have Ny219 := Aside0.mk hy219
        clear hy219
        by_cases c30 : y219.length + l1.length < 17592186044416
        · rw [if_pos c30] at H
          have LMc30 := Aside0.mk c30
          clear c30
          obtain ⟨y222, hy222⟩ : ∃ y_ : List Int, y_ = (y219 ++ l1) := ⟨_, rfl⟩
          replace H : ((cohousingref22_Sum.f kj3 a0_0 a0_1 a0_2).bind fun t225 => (cohousingref22_Deal.l0 kj3 a2 y222 1 a0_0 t225 ([] : List (S47)))) = some (r1, r2, r3, r4) := by first | (rw [hy222]; with_reducible exact H) | (have H2_ := (Option.bind_some _ _).symm.trans H; rw [hy222]; with_reducible exact H2_) | (have H2_ := (Option.bind_some _ _).symm.trans H; with_reducible exact H2_) | with_reducible exact H | (rw [hy222]; exact H) | exact H
          have Ny222 := Aside0.mk hy222
          clear hy222
          replace H := Option.bind_eq_some_iff.mp H
          obtain ⟨t225, A310, H⟩ := H
          replace H : (cohousingref22_Deal.l0 kj3 a2 y222 1 a0_0 t225 ([] : List (S47))) = some (r1, r2, r3, r4) := H
          have A31 := Aside0.mk A310
          clear A310
          have H' := Aside0.mk H
          clear H
          have hnb32 := NB212_213.out
          have hnc32 := NB213_212.out
          have hcz33_0 : wc.cell? ⟨gb212, 0, none⟩ = some (.int .i64 a0_0) := (blk_cell BK212.out 0).trans rfl
          have hcz33_1 : wc.cell? ⟨gb212, 1, none⟩ = some (.int .i64 a0_1) := (blk_cell BK212.out 1).trans rfl
          have hcz33_2 : wc.cell? ⟨gb212, 2, none⟩ = some (.int .i64 a0_2) := (blk_cell BK212.out 2).trans rfl
          have hfz33_0 := blk_frozen BK212.out 0
          have hfz33_1 := blk_frozen BK212.out 1
          have hfz33_2 := blk_frozen BK212.out 2
          try go_wp2_with (first | ((with_reducible refine gate_dst (N := 47) rfl ?_); (try (refine gate_guard (by rfl) ?_; dsimp only)); refine Kd.R_lit (Kd.int .i64) _ 3 ?hg (N := 47) ?hd (xs := ([a0_1] : List Int)) (inner := [.int .i64 a0_1]) (ok := fun _ => True) (okp := fun _ => True) ?hr ?hp (fun _ hk => hk) trivial (Below.refl _ _) (Nat.le_refl _) (by simp) ?_; (case hd => rfl); (case hg => rfl); (case hr => first | (go_simp; done) | (go_simp; rfl)); (case hp => exact (Reps.one (show Kd.M (Kd.int .i64) _ _ _ a0_1 [.int .i64 a0_1] from rfl) (Reps.none _ _))); intro v220 w34 ho35 hb hg_ hnew_; clear hg_ hnew_; (first | rw [← Ny219.out] at ho35 | (simp only [Int.reduceToNat] at ho35; rw [← Ny219.out] at ho35)); have n0_ := Aside0.mk (Kd.R_lower ho35 (below_size (by repeat (first | (with_reducible first | exact HB.out | apply below_alloc | apply pw_below_drewN | apply below_drew1 | refine below_set ?_ GE212.out | refine below_set ?_ GE213.out) | exact HB.out)))); have n1_ := Aside0.mk (blk_below (g := gb212) (o := .cells #[.int .i64 a0_0, .int .i64 a0_1, .int .i64 a0_2] 23 (0, 0)) (by (with_reducible repeat (first | refine blk_drewN ?_ _ | refine blk_drew ?_ | refine blk_alloc ?_ _)); exact BK212.out) hb); have n2_ := Aside0.mk (blk_below (g := gb213) (o := .cells #[.int .i64 0, .int .u64 0, .slice none 0 0] 31 (0, 0)) (by (with_reducible repeat (first | refine blk_drewN ?_ _ | refine blk_drew ?_ | refine blk_alloc ?_ _)); exact BK213.out) hb); have n3_ := Aside0.mk (below_step (by repeat (first | (with_reducible first | exact HB.out | apply below_alloc | apply pw_below_drewN | apply below_drew1 | refine below_set ?_ GE212.out | refine below_set ?_ GE213.out) | exact HB.out)) hb); clear BK212; clear BK213; clear HB; have HO221 := n0_; have BK212 := n1_; have BK213 := n2_; have HB := n3_; clear n0_ n1_ n2_ n3_; clear hb ho35) | ((with_reducible refine gate_builtin (b := .append) (xs := #[.tmp 47, .tmp 48]) rfl ?_); (try (refine gate_guard (by rfl) ?_; dsimp only)); at_builtin; refine Kd.R_append_rows (Kd.int .i64) (w0 := w) w.heap.size rfl (.tmp 47) (.tmp 48) 24 3 (.int .i64 0) 8 rfl Tryd.underlying24 info3 rfl (by decide) (by omega) v220 y219 l1 _ _ _ (fun _ => True) (fun _ => False) rfl rfl ?aO ?aR (fun _ _ h => h) (fun _ h => h.elim) ?aF ?aB ?aS ?aL ?_; (case aR => repeat (first | exact (Kd.C_below HR1.out HB.out) | (with_reducible refine Kd.C_alloc ?_ _) | (with_reducible refine Kd.C_drewN ?_ _) | (with_reducible refine Kd.C_drew ?_))); (case aB => exact (by repeat (first | (with_reducible first | exact HB.out | apply below_alloc | apply pw_below_drewN | apply below_drew1 | refine below_set ?_ GE212.out | refine below_set ?_ GE213.out) | exact HB.out))); (case aF => exact (fun _ _ => trivial)); (case aO => exact (by (with_reducible repeat (first | apply Kd.R_alloc | apply Kd.R_drewN | apply Kd.R_drew)); exact HO221.out)); (case aS => exact (below_size (by repeat (first | (with_reducible first | exact HB.out | apply below_alloc | apply pw_below_drewN | apply below_drew1 | refine below_set ?_ GE212.out | refine below_set ?_ GE213.out) | exact HB.out)))); (case aL => have := LMc30.out; omega); intro v223 w36 ho hb hg hat; rw [← Ny222.out] at ho; have n0_ := Aside0.mk (blk_grown (g := gb212) (o := .cells #[.int .i64 a0_0, .int .i64 a0_1, .int .i64 a0_2] 23 (0, 0)) (by (with_reducible repeat (first | refine blk_drewN ?_ _ | refine blk_drew ?_ | refine blk_alloc ?_ _)); exact BK212.out) hg (Kd.R_ne HO221.out BK212.out (by decide))); have n1_ := Aside0.mk (blk_grown (g := gb213) (o := .cells #[.int .i64 0, .int .u64 0, .slice none 0 0] 31 (0, 0)) (by (with_reducible repeat (first | refine blk_drewN ?_ _ | refine blk_drew ?_ | refine blk_alloc ?_ _)); exact BK213.out) hg (Kd.R_ne HO221.out BK213.out (by decide))); have n2_ := Aside0.mk (hb); have n3_ := Aside0.mk (ho); clear BK212; clear BK213; clear HB; clear HO221; have BK212 := n0_; have BK213 := n1_; have HB := n2_; have HO224 := n3_; clear n0_ n1_ n2_ n3_; clear ho hb hg hat))
          have n0_ := Aside0.mk (Kd.R_drew HO224.out)
          have n1_ := Aside0.mk (blk_drew BK212.out)
          have n2_ := Aside0.mk (blk_drew BK213.out)
          have n3_ := Aside0.mk (below_drew1 HB.out)
          clear HO224
          clear BK212
          clear BK213
          clear HB
          have HO224 := n0_
          have BK212 := n1_
          have BK213 := n2_
          have HB := n3_
          clear n0_ n1_ n2_ n3_
          refine start_ (n := 7) (S := fun w' => w'.cell? ⟨gb212, 0, none⟩ = some (.int .i64 a0_0) ∧ w'.cell? ⟨gb212, 1, none⟩ = some (.int .i64 a0_1) ∧ w'.cell? ⟨gb212, 2, none⟩ = some (.int .i64 a0_2)) (ds := []) #[false, false, false, false, false, false, false] (by kernel_rfl) rfl rfl ⟨(blk_cell BK212.out 0).trans rfl, (blk_cell BK212.out 1).trans rfl, (blk_cell BK212.out 2).trans rfl⟩ (fun hHeld => ?_)
          generalize w36.drew = w37 at HO224 BK212 BK213 HB hHeld ⊢
          refine pure_ (i := 0) (N := some 50) (v := ?_) (a' := ?_) #[true, false, false, false, false, false, false] rfl rfl (by kernel_rfl) (fun _ _ _ h => h) (Or.inl ⟨by rfl, ?_⟩) ?_ ?_
          rotate_left
          · intro w'
            go_simp
            with_reducible rfl
          rotate_left
          · simp only [Act.put, List.setIfInBounds_toArray, List.set_cons_zero, List.set_cons_succ, i64_w, i32_w]
            rfl
          refine take_ (i := 1) (N := some 51) (v := ?_) (a' := ?_) #[true, true, false, false, false, false, false] rfl rfl (by kernel_rfl) (fun _ _ _ h => h) (Or.inl ⟨by rfl, ?_⟩) hHeld ?_ ?_
          rotate_left
          · rintro w' ⟨s0, s1, s2⟩
            go_simp
            with_reducible rfl
          rotate_left
          · simp only [Act.put, List.setIfInBounds_toArray, List.set_cons_zero, List.set_cons_succ, i64_w, i32_w]
            rfl
          refine take_ (i := 2) (N := some 52) (v := ?_) (a' := ?_) #[true, true, true, false, false, false, false] rfl rfl (by kernel_rfl) (fun _ _ _ h => h) (Or.inl ⟨by rfl, ?_⟩) hHeld ?_ ?_
          rotate_left
          · rintro w' ⟨s0, s1, s2⟩
            go_simp
            with_reducible rfl
          rotate_left
          · simp only [Act.put, List.setIfInBounds_toArray, List.set_cons_zero, List.set_cons_succ, i64_w, i32_w]
            rfl
          refine join_ (σ := Nat) 1 #[true, true, true, true, true, true, false] (fun s_ => [(53, .int .u64 t225), (9, .pointer (some ⟨s_, 0, none⟩)), (54, .agg #[.int .i64 a0_0, .int .u64 t225, .slice none 0 0])]) (fun s_ w' => (w'.cell? ⟨gb212, 0, none⟩ = some (.int .i64 a0_0) ∧ w'.cell? ⟨gb212, 1, none⟩ = some (.int .i64 a0_1) ∧ w'.cell? ⟨gb212, 2, none⟩ = some (.int .i64 a0_2)) ∧ (Kd.R (Kd.int .i64) 3 w' w.heap.size (fun _ => True) v223 y222) ∧ (w'.heap[gb212]? = some (.cells #[.int .i64 a0_0, .int .i64 a0_1, .int .i64 a0_2] 23 (0, 0))) ∧ (w'.heap[gb213]? = some (.cells #[.int .i64 0, .int .u64 0, .slice none 0 0] 31 (0, 0))) ∧ (w'.heap[s_]? = some (.cells #[.int .i64 0, .int .u64 0, .slice none 0 0] 31 (0, 0))) ∧ (w.heap.size ≤ s_) ∧ (w.heap.size ≤ s_) ∧ (gb212 ≠ s_) ∧ (s_ ≠ gb212) ∧ (gb213 ≠ s_) ∧ (s_ ≠ gb213) ∧ (Below w.heap.size w w')) ?_ ?_
          rotate_left
          · intro hCont
            refine two_ (i := 3) (j := 5) (Ni := some 53) (Nj := some 9) #[true, true, true, true, false, false, false] #[true, true, true, false, false, true, false] rfl rfl rfl rfl (by kernel_rfl) (by decide) (by decide) (fun K hK => ?_) (fun K hK => ?_)
            · skip
              refine goes_ Tryd.func28 (by kernel_rfl) rfl #[.agg #[.int .i64 a0_0, .int .i64 a0_1, .int .i64 a0_2]] (by rfl) rfl rfl (by (try simp only [List.map_toArray, List.map_cons, List.map_nil]); first | done | rfl | (simp only [List.length_drop, List.length_take]; rfl)) ?_
              with_reducible refine (cohousingref22_Sum.calls kj3 a0_0 a0_1 a0_2 t225 _ A31.out).mono ?_
              rintro e w38 ⟨rfl, hb⟩
              refine ⟨_, rfl, ?_⟩
              have n0_ := Aside0.mk (Kd.R_below (by (with_reducible repeat (first | apply Kd.R_alloc | apply Kd.R_drewN | apply Kd.R_drew)); exact HO224.out) hb)
              have n1_ := Aside0.mk (blk_below (g := gb212) (o := .cells #[.int .i64 a0_0, .int .i64 a0_1, .int .i64 a0_2] 23 (0, 0)) (by (with_reducible repeat (first | refine blk_drewN ?_ _ | refine blk_drew ?_ | refine blk_alloc ?_ _)); exact BK212.out) hb)
              have n2_ := Aside0.mk (blk_below (g := gb213) (o := .cells #[.int .i64 0, .int .u64 0, .slice none 0 0] 31 (0, 0)) (by (with_reducible repeat (first | refine blk_drewN ?_ _ | refine blk_drew ?_ | refine blk_alloc ?_ _)); exact BK213.out) hb)
              have n3_ := Aside0.mk (below_step (by repeat (first | (with_reducible first | exact HB.out | apply below_alloc | apply pw_below_drewN | apply below_drew1 | refine below_set ?_ GE212.out | refine below_set ?_ GE213.out) | exact HB.out)) hb)
              clear HO224
              clear BK212
              clear BK213
              clear HB
              have HO224 := n0_
              have BK212 := n1_
              have BK213 := n2_
              have HB := n3_
              clear n0_ n1_ n2_ n3_
              (try clear hb)
              (try clear hb2)
              (try clear hk)
              (try clear hi)
              refine hK.out _ _ ⟨(blk_cell BK212.out 0).trans rfl, (blk_cell BK212.out 1).trans rfl, (blk_cell BK212.out 2).trans rfl⟩ (fun hHeld => ?_)
              clear hK K
              refine norm_ (a' := ?_) ?_ ?_
              rotate_left
              · show Act.put _ (some 53) _ = _
                simp only [Act.put, List.setIfInBounds_toArray, List.set_cons_zero, List.set_cons_succ, i64_w, i32_w]
                rfl
              refine pure_ (i := 4) (N := some 54) (v := ?_) (a' := ?_) #[true, true, true, true, true, false, false] rfl rfl (by kernel_rfl) (fun _ _ _ h => h) (Or.inl ⟨by rfl, ?_⟩) ?_ ?_
              rotate_left
              · intro w'
                go_simp
                with_reducible rfl
              rotate_left
              · simp only [Act.put, List.setIfInBounds_toArray, List.set_cons_zero, List.set_cons_succ, i64_w, i32_w]
                rfl
              refine one_ (i := 5) (N := some 9) #[true, true, true, true, true, true, false] rfl rfl (by kernel_rfl) (by decide) (fun K hK => ?_)
              refine box_step ?hg (N := 9) ?hd (cs := #[.int .i64 0, .int .u64 0, .slice none 0 0]) (t := 31) ?hr ?_; (case hd => rfl); (case hg => rfl); (case hr => first | (go_simp; done) | (go_simp; rfl))
              intro gb226 hg w39 hbox hb
              have n0_ := Aside0.mk (Kd.R_below (by (with_reducible repeat (first | apply Kd.R_alloc | apply Kd.R_drewN | apply Kd.R_drew)); exact HO224.out) hb)
              have n1_ := Aside0.mk (blk_below (g := gb212) (o := .cells #[.int .i64 a0_0, .int .i64 a0_1, .int .i64 a0_2] 23 (0, 0)) (by (with_reducible repeat (first | refine blk_drewN ?_ _ | refine blk_drew ?_ | refine blk_alloc ?_ _)); exact BK212.out) hb)
              have n2_ := Aside0.mk (blk_below (g := gb213) (o := .cells #[.int .i64 0, .int .u64 0, .slice none 0 0] 31 (0, 0)) (by (with_reducible repeat (first | refine blk_drewN ?_ _ | refine blk_drew ?_ | refine blk_alloc ?_ _)); exact BK213.out) hb)
              have n3_ := Aside0.mk (below_step (by repeat (first | (with_reducible first | exact HB.out | apply below_alloc | apply pw_below_drewN | apply below_drew1 | refine below_set ?_ GE212.out | refine below_set ?_ GE213.out) | exact HB.out)) hb)
              have n4_ := Aside0.mk (hbox)
              have n5_ := Aside0.mk ((by rw [hg]; exact (below_size (by repeat (first | (with_reducible first | exact HB.out | apply below_alloc | apply pw_below_drewN | apply below_drew1 | refine below_set ?_ GE212.out | refine below_set ?_ GE213.out) | exact HB.out))) : w.heap.size ≤ gb226))
              have n6_ := Aside0.mk ((by rw [hg]; exact (below_size (by repeat (first | (with_reducible first | exact HB.out | apply below_alloc | apply pw_below_drewN | apply below_drew1 | refine below_set ?_ GE212.out | refine below_set ?_ GE213.out) | exact HB.out))) : w.heap.size ≤ gb226))
              have n7_ := Aside0.mk ((by rw [hg]; exact Nat.ne_of_lt (blk_lt (g := gb212) (o := .cells #[.int .i64 a0_0, .int .i64 a0_1, .int .i64 a0_2] 23 (0, 0)) (by (with_reducible repeat (first | refine blk_drewN ?_ _ | refine blk_drew ?_ | refine blk_alloc ?_ _)); exact BK212.out)) : gb212 ≠ gb226))
              have n8_ := Aside0.mk ((by rw [hg]; exact Nat.ne_of_gt (blk_lt (g := gb212) (o := .cells #[.int .i64 a0_0, .int .i64 a0_1, .int .i64 a0_2] 23 (0, 0)) (by (with_reducible repeat (first | refine blk_drewN ?_ _ | refine blk_drew ?_ | refine blk_alloc ?_ _)); exact BK212.out)) : gb226 ≠ gb212))
              have n9_ := Aside0.mk ((by rw [hg]; exact Nat.ne_of_lt (blk_lt (g := gb213) (o := .cells #[.int .i64 0, .int .u64 0, .slice none 0 0] 31 (0, 0)) (by (with_reducible repeat (first | refine blk_drewN ?_ _ | refine blk_drew ?_ | refine blk_alloc ?_ _)); exact BK213.out)) : gb213 ≠ gb226))
              have n10_ := Aside0.mk ((by rw [hg]; exact Nat.ne_of_gt (blk_lt (g := gb213) (o := .cells #[.int .i64 0, .int .u64 0, .slice none 0 0] 31 (0, 0)) (by (with_reducible repeat (first | refine blk_drewN ?_ _ | refine blk_drew ?_ | refine blk_alloc ?_ _)); exact BK213.out)) : gb226 ≠ gb213))
              clear HO224
              clear BK212
              clear BK213
              clear HB
              have HO224 := n0_
              have BK212 := n1_
              have BK213 := n2_
              have HB := n3_
              have BK226 := n4_
              have GW226 := n5_
              have GE226 := n6_
              have NB212_226 := n7_
              have NB226_212 := n8_
              have NB213_226 := n9_
              have NB226_213 := n10_
              clear n0_ n1_ n2_ n3_ n4_ n5_ n6_ n7_ n8_ n9_ n10_
              clear hb hbox hg
              refine hK.out _ _ ⟨(blk_cell BK212.out 0).trans rfl, (blk_cell BK212.out 1).trans rfl, (blk_cell BK212.out 2).trans rfl⟩ (fun hHeld => ?_)
              clear hK K
              refine norm_ (a' := ?_) ?_ ?_
              rotate_left
              · show Act.put _ (some 9) _ = _
                simp only [Act.put, List.setIfInBounds_toArray, List.set_cons_zero, List.set_cons_succ, i64_w, i32_w]
                rfl
              exact norm_ (by simp only [putAll, Act.put, List.setIfInBounds_toArray, List.set_cons_zero, List.set_cons_succ]) (hCont (gb226) _ ⟨hHeld, (by (with_reducible repeat (first | apply Kd.R_alloc | apply Kd.R_drewN | apply Kd.R_drew)); exact HO224.out), (by (with_reducible repeat (first | refine blk_drewN ?_ _ | refine blk_drew ?_ | refine blk_alloc ?_ _)); exact BK212.out), (by (with_reducible repeat (first | refine blk_drewN ?_ _ | refine blk_drew ?_ | refine blk_alloc ?_ _)); exact BK213.out), (by (with_reducible repeat (first | refine blk_drewN ?_ _ | refine blk_drew ?_ | refine blk_alloc ?_ _)); exact BK226.out), GW226.out, GE226.out, NB212_226.out, NB226_212.out, NB213_226.out, NB226_213.out, (by repeat (first | (with_reducible first | exact HB.out | apply below_alloc | apply pw_below_drewN | apply below_drew1 | refine below_set ?_ GE212.out | refine below_set ?_ GE213.out | refine below_set ?_ GE226.out) | exact HB.out))⟩)
            · skip
              refine box_step ?hg (N := 9) ?hd (cs := #[.int .i64 0, .int .u64 0, .slice none 0 0]) (t := 31) ?hr ?_; (case hd => rfl); (case hg => rfl); (case hr => first | (go_simp; done) | (go_simp; rfl))
              intro gb226 hg w38 hbox hb
              have n0_ := Aside0.mk (Kd.R_below (by (with_reducible repeat (first | apply Kd.R_alloc | apply Kd.R_drewN | apply Kd.R_drew)); exact HO224.out) hb)
              have n1_ := Aside0.mk (blk_below (g := gb212) (o := .cells #[.int .i64 a0_0, .int .i64 a0_1, .int .i64 a0_2] 23 (0, 0)) (by (with_reducible repeat (first | refine blk_drewN ?_ _ | refine blk_drew ?_ | refine blk_alloc ?_ _)); exact BK212.out) hb)
              have n2_ := Aside0.mk (blk_below (g := gb213) (o := .cells #[.int .i64 0, .int .u64 0, .slice none 0 0] 31 (0, 0)) (by (with_reducible repeat (first | refine blk_drewN ?_ _ | refine blk_drew ?_ | refine blk_alloc ?_ _)); exact BK213.out) hb)
              have n3_ := Aside0.mk (below_step (by repeat (first | (with_reducible first | exact HB.out | apply below_alloc | apply pw_below_drewN | apply below_drew1 | refine below_set ?_ GE212.out | refine below_set ?_ GE213.out) | exact HB.out)) hb)
              have n4_ := Aside0.mk (hbox)
              have n5_ := Aside0.mk ((by rw [hg]; exact (below_size (by repeat (first | (with_reducible first | exact HB.out | apply below_alloc | apply pw_below_drewN | apply below_drew1 | refine below_set ?_ GE212.out | refine below_set ?_ GE213.out) | exact HB.out))) : w.heap.size ≤ gb226))
              have n6_ := Aside0.mk ((by rw [hg]; exact (below_size (by repeat (first | (with_reducible first | exact HB.out | apply below_alloc | apply pw_below_drewN | apply below_drew1 | refine below_set ?_ GE212.out | refine below_set ?_ GE213.out) | exact HB.out))) : w.heap.size ≤ gb226))
              have n7_ := Aside0.mk ((by rw [hg]; exact Nat.ne_of_lt (blk_lt (g := gb212) (o := .cells #[.int .i64 a0_0, .int .i64 a0_1, .int .i64 a0_2] 23 (0, 0)) (by (with_reducible repeat (first | refine blk_drewN ?_ _ | refine blk_drew ?_ | refine blk_alloc ?_ _)); exact BK212.out)) : gb212 ≠ gb226))
              have n8_ := Aside0.mk ((by rw [hg]; exact Nat.ne_of_gt (blk_lt (g := gb212) (o := .cells #[.int .i64 a0_0, .int .i64 a0_1, .int .i64 a0_2] 23 (0, 0)) (by (with_reducible repeat (first | refine blk_drewN ?_ _ | refine blk_drew ?_ | refine blk_alloc ?_ _)); exact BK212.out)) : gb226 ≠ gb212))
              have n9_ := Aside0.mk ((by rw [hg]; exact Nat.ne_of_lt (blk_lt (g := gb213) (o := .cells #[.int .i64 0, .int .u64 0, .slice none 0 0] 31 (0, 0)) (by (with_reducible repeat (first | refine blk_drewN ?_ _ | refine blk_drew ?_ | refine blk_alloc ?_ _)); exact BK213.out)) : gb213 ≠ gb226))
              have n10_ := Aside0.mk ((by rw [hg]; exact Nat.ne_of_gt (blk_lt (g := gb213) (o := .cells #[.int .i64 0, .int .u64 0, .slice none 0 0] 31 (0, 0)) (by (with_reducible repeat (first | refine blk_drewN ?_ _ | refine blk_drew ?_ | refine blk_alloc ?_ _)); exact BK213.out)) : gb226 ≠ gb213))
              clear HO224
              clear BK212
              clear BK213
              clear HB
              have HO224 := n0_
              have BK212 := n1_
              have BK213 := n2_
              have HB := n3_
              have BK226 := n4_
              have GW226 := n5_
              have GE226 := n6_
              have NB212_226 := n7_
              have NB226_212 := n8_
              have NB213_226 := n9_
              have NB226_213 := n10_
              clear n0_ n1_ n2_ n3_ n4_ n5_ n6_ n7_ n8_ n9_ n10_
              clear hb hbox hg
              refine hK.out _ _ ⟨(blk_cell BK212.out 0).trans rfl, (blk_cell BK212.out 1).trans rfl, (blk_cell BK212.out 2).trans rfl⟩ (fun hHeld => ?_)
              clear hK K
              refine norm_ (a' := ?_) ?_ ?_
              rotate_left
              · show Act.put _ (some 9) _ = _
                simp only [Act.put, List.setIfInBounds_toArray, List.set_cons_zero, List.set_cons_succ, i64_w, i32_w]
                rfl
              refine one_ (i := 3) (N := some 53) #[true, true, true, true, false, true, false] rfl rfl (by kernel_rfl) (by decide) (fun K hK => ?_)
              refine goes_ Tryd.func28 (by kernel_rfl) rfl #[.agg #[.int .i64 a0_0, .int .i64 a0_1, .int .i64 a0_2]] (by rfl) rfl rfl (by (try simp only [List.map_toArray, List.map_cons, List.map_nil]); first | done | rfl | (simp only [List.length_drop, List.length_take]; rfl)) ?_
              with_reducible refine (cohousingref22_Sum.calls kj3 a0_0 a0_1 a0_2 t225 _ A31.out).mono ?_
              rintro e w39 ⟨rfl, hb⟩
              refine ⟨_, rfl, ?_⟩
              have n0_ := Aside0.mk (Kd.R_below (by (with_reducible repeat (first | apply Kd.R_alloc | apply Kd.R_drewN | apply Kd.R_drew)); exact HO224.out) hb)
              have n1_ := Aside0.mk (blk_below (g := gb212) (o := .cells #[.int .i64 a0_0, .int .i64 a0_1, .int .i64 a0_2] 23 (0, 0)) (by (with_reducible repeat (first | refine blk_drewN ?_ _ | refine blk_drew ?_ | refine blk_alloc ?_ _)); exact BK212.out) hb)
              have n2_ := Aside0.mk (blk_below (g := gb213) (o := .cells #[.int .i64 0, .int .u64 0, .slice none 0 0] 31 (0, 0)) (by (with_reducible repeat (first | refine blk_drewN ?_ _ | refine blk_drew ?_ | refine blk_alloc ?_ _)); exact BK213.out) hb)
              have n3_ := Aside0.mk (blk_below (g := gb226) (o := .cells #[.int .i64 0, .int .u64 0, .slice none 0 0] 31 (0, 0)) (by (with_reducible repeat (first | refine blk_drewN ?_ _ | refine blk_drew ?_ | refine blk_alloc ?_ _)); exact BK226.out) hb)
              have n4_ := Aside0.mk (below_step (by repeat (first | (with_reducible first | exact HB.out | apply below_alloc | apply pw_below_drewN | apply below_drew1 | refine below_set ?_ GE212.out | refine below_set ?_ GE213.out | refine below_set ?_ GE226.out) | exact HB.out)) hb)
              clear HO224
              clear BK212
              clear BK213
              clear BK226
              clear HB
              have HO224 := n0_
              have BK212 := n1_
              have BK213 := n2_
              have BK226 := n3_
              have HB := n4_
              clear n0_ n1_ n2_ n3_ n4_
              (try clear hb)
              (try clear hb2)
              (try clear hk)
              (try clear hi)
              refine hK.out _ _ ⟨(blk_cell BK212.out 0).trans rfl, (blk_cell BK212.out 1).trans rfl, (blk_cell BK212.out 2).trans rfl⟩ (fun hHeld => ?_)
              clear hK K
              refine norm_ (a' := ?_) ?_ ?_
              rotate_left
              · show Act.put _ (some 53) _ = _
                simp only [Act.put, List.setIfInBounds_toArray, List.set_cons_zero, List.set_cons_succ, i64_w, i32_w]
                rfl
              refine pure_ (i := 4) (N := some 54) (v := ?_) (a' := ?_) #[true, true, true, true, true, true, false] rfl rfl (by kernel_rfl) (fun _ _ _ h => h) (Or.inl ⟨by rfl, ?_⟩) ?_ ?_
              rotate_left
              · intro w'
                go_simp
                with_reducible rfl
              rotate_left
              · simp only [Act.put, List.setIfInBounds_toArray, List.set_cons_zero, List.set_cons_succ, i64_w, i32_w]
                rfl
              exact norm_ (by simp only [putAll, Act.put, List.setIfInBounds_toArray, List.set_cons_zero, List.set_cons_succ]) (hCont (gb226) _ ⟨hHeld, (by (with_reducible repeat (first | apply Kd.R_alloc | apply Kd.R_drewN | apply Kd.R_drew)); exact HO224.out), (by (with_reducible repeat (first | refine blk_drewN ?_ _ | refine blk_drew ?_ | refine blk_alloc ?_ _)); exact BK212.out), (by (with_reducible repeat (first | refine blk_drewN ?_ _ | refine blk_drew ?_ | refine blk_alloc ?_ _)); exact BK213.out), (by (with_reducible repeat (first | refine blk_drewN ?_ _ | refine blk_drew ?_ | refine blk_alloc ?_ _)); exact BK226.out), GW226.out, GE226.out, NB212_226.out, NB226_212.out, NB213_226.out, NB226_213.out, (by repeat (first | (with_reducible first | exact HB.out | apply below_alloc | apply pw_below_drewN | apply below_drew1 | refine below_set ?_ GE212.out | refine below_set ?_ GE213.out | refine below_set ?_ GE226.out) | exact HB.out))⟩)
          rintro gb226 w40 ⟨hS_, h0_, h1_, h2_, h3_, h4_, h5_, h6_, h7_, h8_, h9_, h10_⟩
          have n0_ : Aside0 (Kd.R (Kd.int .i64) 3 w40 w.heap.size (fun _ => True) v223 y222) := ⟨h0_⟩
          have n1_ : Aside0 (w40.heap[gb212]? = some (.cells #[.int .i64 a0_0, .int .i64 a0_1, .int .i64 a0_2] 23 (0, 0))) := ⟨h1_⟩
          have n2_ : Aside0 (w40.heap[gb213]? = some (.cells #[.int .i64 0, .int .u64 0, .slice none 0 0] 31 (0, 0))) := ⟨h2_⟩
          have n3_ : Aside0 (w40.heap[gb226]? = some (.cells #[.int .i64 0, .int .u64 0, .slice none 0 0] 31 (0, 0))) := ⟨h3_⟩
          have n4_ : Aside0 (w.heap.size ≤ gb226) := ⟨h4_⟩
          have n5_ : Aside0 (w.heap.size ≤ gb226) := ⟨h5_⟩
          have n6_ : Aside0 (gb212 ≠ gb226) := ⟨h6_⟩
          have n7_ : Aside0 (gb226 ≠ gb212) := ⟨h7_⟩
          have n8_ : Aside0 (gb213 ≠ gb226) := ⟨h8_⟩
          have n9_ : Aside0 (gb226 ≠ gb213) := ⟨h9_⟩
          have n10_ : Aside0 (Below w.heap.size w w40) := ⟨h10_⟩
          clear HO224
          clear BK212
          clear BK213
          clear HB
          clear h0_ h1_ h2_ h3_ h4_ h5_ h6_ h7_ h8_ h9_ h10_
          have HO224 := n0_
          have BK212 := n1_
          have BK213 := n2_
          have BK226 := n3_
          have GW226 := n4_
          have GE226 := n5_
          have NB212_226 := n6_
          have NB226_212 := n7_
          have NB213_226 := n8_
          have NB226_213 := n9_
          have HB := n10_
          clear n0_ n1_ n2_ n3_ n4_ n5_ n6_ n7_ n8_ n9_ n10_
          have hHeld : w40.cell? ⟨gb212, 0, none⟩ = some (.int .i64 a0_0) ∧ w40.cell? ⟨gb212, 1, none⟩ = some (.int .i64 a0_1) ∧ w40.cell? ⟨gb212, 2, none⟩ = some (.int .i64 a0_2) := hS_
          refine norm_ (a' := ?_) ?_ ?_
          rotate_left
          · simp only [putAll, Act.put, List.setIfInBounds_toArray, List.set_cons_zero, List.set_cons_succ]
            rfl
          refine one_ (i := 6) (N := none) #[true, true, true, true, true, true, true] rfl rfl (by kernel_rfl) (by decide) (fun K hK => ?_)
          have hs41 : w40.cell? ⟨gb226, 0, none⟩ = some (.int .i64 0) := (blk_cell BK226.out 0).trans rfl
          have hfs41 := blk_frozen BK226.out 0
          have hns41_0 := NB212_226.out
          have hns41_1 := NB213_226.out
          have hms41_0 := NB226_212.out
          have hms41_1 := NB226_213.out
          have hs42 : w40.cell? ⟨gb226, 1, none⟩ = some (.int .u64 0) := (blk_cell BK226.out 1).trans rfl
          have hfs42 := blk_frozen BK226.out 1
          have hns42_0 := NB212_226.out
          have hns42_1 := NB213_226.out
          have hms42_0 := NB226_212.out
          have hms42_1 := NB226_213.out
          have hs43 : w40.cell? ⟨gb226, 2, none⟩ = some (.slice none 0 0) := (blk_cell BK226.out 2).trans rfl
          have hfs43 := blk_frozen BK226.out 2
          have hns43_0 := NB212_226.out
          have hns43_1 := NB213_226.out
          have hms43_0 := NB226_212.out
          have hms43_1 := NB226_213.out
          refine skip_ (w1 := ?_) (by rfl) rfl ?_ ?_
          rotate_left
          · go_simp
            rfl
          refine hK.out _ _ ⟨((cell_far (p := ⟨gb226, _, none⟩) NB212_226.out _).trans (((cell_far (p := ⟨gb226, _, none⟩) NB212_226.out _).trans (((cell_far (p := ⟨gb226, _, none⟩) NB212_226.out _).trans (hHeld.1)))))), ((cell_far (p := ⟨gb226, _, none⟩) NB212_226.out _).trans (((cell_far (p := ⟨gb226, _, none⟩) NB212_226.out _).trans (((cell_far (p := ⟨gb226, _, none⟩) NB212_226.out _).trans (hHeld.2.1)))))), ((cell_far (p := ⟨gb226, _, none⟩) NB212_226.out _).trans (((cell_far (p := ⟨gb226, _, none⟩) NB212_226.out _).trans (((cell_far (p := ⟨gb226, _, none⟩) NB212_226.out _).trans (hHeld.2.2))))))⟩ (fun hHeld => ?_)
          clear hK K
          refine done_ (by kernel_rfl) ?_
          try go_wp2
          go_loopg [10] kj3 (fun kq v10 w' => ∃ (x10_2 : Int) (x227002_2 : List (S47)) (u227002 : Value), v10 = .int .i64 x10_2 ∧ Aside0 (cohousingref22_Deal.l0 kq a2 y222 x10_2 a0_0 t225 x227002_2 = some (r1, r2, r3, r4)) ∧ Aside0 (kq ≤ kj3) ∧ Aside0 (Kd.R (Kd.int .i64) 3 w' w.heap.size (fun _ => True) v223 y222) ∧ Aside0 (Kd.R k47 47 w' w.heap.size (fun _ => True) u227002 x227002_2) ∧ Aside0 (w'.heap[gb212]? = some (.cells #[.int .i64 a0_0, .int .i64 a0_1, .int .i64 a0_2] 23 (0, 0))) ∧ Aside0 (w'.heap[gb213]? = some (.cells #[.int .i64 0, .int .u64 0, (.slice none 0 0)] 31 (0, 0))) ∧ Aside0 (w'.heap[gb226]? = some (.cells #[.int .i64 a0_0, .int .u64 t225, u227002] 31 (0, 0))) ∧ Aside0 (Below w.heap.size w w'))
          case atStart => exact ⟨(1), (([] : List (S47))), (.slice none 0 0), (by first | rfl | (simp; done) | (simp [*]; done)), H', ⟨Nat.le_refl _⟩, ⟨by (with_reducible repeat (first | apply Kd.R_alloc | apply Kd.R_drewN | apply Kd.R_drew)); exact Kd.R_mono (Kd.R_far (p := ⟨gb226, 2, none⟩) (Kd.R_far (p := ⟨gb226, 1, none⟩) (Kd.R_far (p := ⟨gb226, 0, none⟩) (Kd.R_types HO224.out BK226.out (by decide)) (fun _ hk => hk.2) (.int .i64 a0_0)) (fun _ hk => hk.2) (.int .u64 t225)) (fun _ hk => hk.2) (.slice none 0 0)) (fun _ hk => trivial)⟩, ⟨by first | exact Kd.R_nil _ _ _ _ _ | exact Kd.N_nil _ _ _ _ _ | exact Kd.V_nil _ _ _ _ _ | exact Kd.Q_nil _ _ _ _ _ | exact Kd.S_nil _ _ _ _ _⟩, ⟨by (with_reducible repeat (first | refine blk_drewN ?_ _ | refine blk_drew ?_ | refine blk_alloc ?_ _)); refine blk_far ?_ NB212_226.out _; (with_reducible repeat (first | refine blk_drewN ?_ _ | refine blk_drew ?_ | refine blk_alloc ?_ _)); refine blk_far ?_ NB212_226.out _; (with_reducible repeat (first | refine blk_drewN ?_ _ | refine blk_drew ?_ | refine blk_alloc ?_ _)); refine blk_far ?_ NB212_226.out _; (with_reducible repeat (first | refine blk_drewN ?_ _ | refine blk_drew ?_ | refine blk_alloc ?_ _)); exact BK212.out⟩, ⟨by (with_reducible repeat (first | refine blk_drewN ?_ _ | refine blk_drew ?_ | refine blk_alloc ?_ _)); refine blk_far ?_ NB213_226.out _; (with_reducible repeat (first | refine blk_drewN ?_ _ | refine blk_drew ?_ | refine blk_alloc ?_ _)); refine blk_far ?_ NB213_226.out _; (with_reducible repeat (first | refine blk_drewN ?_ _ | refine blk_drew ?_ | refine blk_alloc ?_ _)); refine blk_far ?_ NB213_226.out _; (with_reducible repeat (first | refine blk_drewN ?_ _ | refine blk_drew ?_ | refine blk_alloc ?_ _)); exact BK213.out⟩, ⟨by (with_reducible repeat (first | refine blk_drewN ?_ _ | refine blk_drew ?_ | refine blk_alloc ?_ _)); refine blk_put (cs := #[.int .i64 a0_0, .int .u64 t225, .slice none 0 0]) ?_ 2 _ rfl; (with_reducible repeat (first | refine blk_drewN ?_ _ | refine blk_drew ?_ | refine blk_alloc ?_ _)); refine blk_put (cs := #[.int .i64 a0_0, .int .u64 0, .slice none 0 0]) ?_ 1 _ rfl; (with_reducible repeat (first | refine blk_drewN ?_ _ | refine blk_drew ?_ | refine blk_alloc ?_ _)); refine blk_put (cs := #[.int .i64 0, .int .u64 0, .slice none 0 0]) ?_ 0 _ rfl; (with_reducible repeat (first | refine blk_drewN ?_ _ | refine blk_drew ?_ | refine blk_alloc ?_ _)); exact BK226.out⟩, ⟨by repeat (first | (with_reducible first | exact HB.out | apply below_alloc | apply pw_below_drewN | apply below_drew1 | refine below_set ?_ GE212.out | refine below_set ?_ GE213.out | refine below_set ?_ GE226.out) | exact HB.out)⟩⟩
          case round =>
            clear H'
            try clear c1
            try clear c2
            try clear p2
            try clear c3
            try clear c8
            try clear c10
            try clear c12
            try clear c14
            try clear c16
            try clear c17
            try clear c19
            try clear c21
            try clear c23
            try clear c25
            try clear c27
            try clear c28
            try clear c30
            try clear c32
            try clear c33
            try clear hcz18_0
            try clear hcz18_1
            try clear hcz18_2
            try clear hcz20_0
            try clear hcz20_1
            try clear hcz20_2
            try clear hcz22_0
            try clear hcz22_1
            try clear hcz22_2
            try clear hcz24_0
            try clear hcz24_1
            try clear hcz24_2
            try clear hcz26_0
            try clear hcz26_1
            try clear hcz26_2
            try clear hcz29_0
            try clear hcz29_1
            try clear hcz29_2
            try clear hcz33_0
            try clear hcz33_1
            try clear hcz33_2
            try clear hfz18_0
            try clear hfz18_1
            try clear hfz18_2
            try clear hfz20_0
            try clear hfz20_1
            try clear hfz20_2
            try clear hfz22_0
            try clear hfz22_1
            try clear hfz22_2
            try clear hfz24_0
            try clear hfz24_1
            try clear hfz24_2
            try clear hfz26_0
            try clear hfz26_1
            try clear hfz26_2
            try clear hfz29_0
            try clear hfz29_1
            try clear hfz29_2
            try clear hfz33_0
            try clear hfz33_1
            try clear hfz33_2
            try clear p2
            obtain ⟨x10_2, x227002_2, u227002, rfl, HA, HK2, HO_8, HO_227002, BK212, BK213, BK226, HB⟩ := hrel
            cases gk with
            | zero => exact absurd HA.out (by simp [cohousingref22_Deal.l0])
            | succ k2 =>
              have H := HA.out
              clear HA
              simp only [cohousingref22_Deal.l0] at H
              by_cases c44 : x10_2 ≤ a2
              · rw [if_pos c44] at H
                have c44b0 : decide (x10_2 ≤ a2) = true := decide_eq_true c44
                clear c44
                replace H := Option.bind_eq_some_iff.mp H
                obtain ⟨t227, A450, H⟩ := H
                replace H : (if x227002_2.length < 8796093022208 then (cohousingref22_Deal.l0 k2 a2 y222 (wrap64 (x10_2 + 1)) a0_0 t225 (x227002_2 ++ [(⟨x10_2, t227⟩ : S47)])) else (none)) = some (r1, r2, r3, r4) := H
                have A45 := Aside0.mk A450
                clear A450
                by_cases c46 : x227002_2.length < 8796093022208
                · rw [if_pos c46] at H
                  have LMc46 := Aside0.mk c46
                  clear c46
                  obtain ⟨y228, hy228⟩ : ∃ y_ : List (S47), y_ = (x227002_2 ++ [(⟨x10_2, t227⟩ : S47)]) := ⟨_, rfl⟩
                  replace H : (cohousingref22_Deal.l0 k2 a2 y222 (wrap64 (x10_2 + 1)) a0_0 t225 y228) = some (r1, r2, r3, r4) := by first | (rw [hy228]; with_reducible exact H) | (have H2_ := (Option.bind_some _ _).symm.trans H; rw [hy228]; with_reducible exact H2_) | (have H2_ := (Option.bind_some _ _).symm.trans H; with_reducible exact H2_) | with_reducible exact H | (rw [hy228]; exact H) | exact H
                  have Ny228 := Aside0.mk hy228
                  clear hy228
                  have H' := Aside0.mk H
                  clear H
                  try go_wp2
                  have n0_ := Aside0.mk (Kd.R_drew HO_8.out)
                  have n1_ := Aside0.mk (Kd.R_drew HO_227002.out)
                  have n2_ := Aside0.mk (blk_drew BK212.out)
                  have n3_ := Aside0.mk (blk_drew BK213.out)
                  have n4_ := Aside0.mk (blk_drew BK226.out)
                  have n5_ := Aside0.mk (below_drew1 HB.out)
                  clear HO_8
                  clear HO_227002
                  clear BK212
                  clear BK213
                  clear BK226
                  clear HB
                  have HO_8 := n0_
                  have HO_227002 := n1_
                  have BK212 := n2_
                  have BK213 := n3_
                  have BK226 := n4_
                  have HB := n5_
                  clear n0_ n1_ n2_ n3_ n4_ n5_
                  obtain ⟨Ao48, co48, eo48⟩ := Kd.R_slice HO_8.out
                  (first | subst eo48 | (injection eo48 with f1_ f2_ f3_; have f4_ := f1_.symm; have f5_ := f3_.symm; clear f1_ f2_ f3_; subst f4_; subst f5_))
                  refine start_ (n := 11) (S := fun w' => w'.cell? ⟨gb226, 0, none⟩ = some (.int .i64 a0_0) ∧ w'.cell? ⟨gb226, 1, none⟩ = some (.int .u64 t225) ∧ w'.cell? ⟨gb226, 2, none⟩ = some (u227002)) (ds := [10]) #[false, false, false, false, false, false, false, false, false, false, false] (by kernel_rfl) rfl rfl ⟨(blk_cell BK226.out 0).trans rfl, (blk_cell BK226.out 1).trans rfl, (blk_cell BK226.out 2).trans rfl⟩ (fun hHeld => ?_); refine with_tabW cohousingref22_Deal.tab8 cohousingref22_Deal.bits8 (fun HT_ HW_ => ?_)
                  generalize wr.drew = w47 at HO_8 HO_227002 BK212 BK213 BK226 HB hHeld ⊢
                  refine pure_ (i := 0) (N := some 60) (v := ?_) (a' := ?_) #[true, false, false, false, false, false, false, false, false, false, false] rfl rfl (any_of HT_.out (by kernel_rfl)) (fun _ _ _ h => h) (Or.inl ⟨by rfl, ?_⟩) ?_ ?_
                  rotate_left
                  · intro w'
                    go_simp
                    with_reducible rfl
                  rotate_left
                  · simp only [Act.put, List.setIfInBounds_toArray, List.set_cons_zero, List.set_cons_succ, i64_w, i32_w]
                    rfl
                  refine pure_ (i := 2) (N := some 62) (v := ?_) (a' := ?_) #[true, false, true, false, false, false, false, false, false, false, false] rfl rfl (any_of HT_.out (by kernel_rfl)) (fun _ _ _ h => h) (Or.inl ⟨by rfl, ?_⟩) ?_ ?_
                  rotate_left
                  · intro w'
                    go_simp
                    with_reducible rfl
                  rotate_left
                  · simp only [Act.put, List.setIfInBounds_toArray, List.set_cons_zero, List.set_cons_succ, i64_w, i32_w]
                    rfl
                  refine pure_ (i := 3) (N := some 63) (v := ?_) (a' := ?_) #[true, false, true, true, false, false, false, false, false, false, false] rfl rfl (any_of HT_.out (by kernel_rfl)) (fun _ _ _ h => h) (Or.inl ⟨by rfl, ?_⟩) ?_ ?_
                  rotate_left
                  · intro w'
                    go_simp
                    with_reducible rfl
                  rotate_left
                  · simp only [Act.put, List.setIfInBounds_toArray, List.set_cons_zero, List.set_cons_succ, i64_w, i32_w]
                    rfl
                  refine pure_ (i := 4) (N := some 64) (v := ?_) (a' := ?_) #[true, false, true, true, true, false, false, false, false, false, false] rfl rfl (any_of HT_.out (by kernel_rfl)) (fun _ _ _ h => h) (Or.inl ⟨by rfl, ?_⟩) ?_ ?_
                  rotate_left
                  · intro w'
                    go_simp
                    with_reducible rfl
                  rotate_left
                  · simp only [Act.put, List.setIfInBounds_toArray, List.set_cons_zero, List.set_cons_succ, i64_w, i32_w]
                    rfl
                  refine take_ (i := 1) (N := some 61) (v := ?_) (a' := ?_) #[true, true, true, true, true, false, false, false, false, false, false] rfl rfl (take_ofW HT_.out HW_.out (by kernel_rfl)) (fun _ _ _ h => h) (Or.inl ⟨by rfl, ?_⟩) hHeld ?_ ?_
                  rotate_left
                  · rintro w' ⟨s0, s1, s2⟩
                    go_simp
                    with_reducible rfl
                  rotate_left
                  · simp only [Act.put, List.setIfInBounds_toArray, List.set_cons_zero, List.set_cons_succ, i64_w, i32_w]
                    rfl
                  refine one_ (i := 5) (N := some 65) #[true, true, true, true, true, true, false, false, false, false, false] rfl rfl (one_of HT_.out (by kernel_rfl)) (by decide) (fun K hK => ?_)
                  refine goes_ Tryd.func35 (by kernel_rfl) rfl #[.slice Ao48 y222.length co48, .int .i64 x10_2] (by rfl) rfl rfl (by (try simp only [List.map_toArray, List.map_cons, List.map_nil]); first | done | rfl | (simp only [List.length_drop, List.length_take]; rfl)) ?_
                  with_reducible refine (cohousingref22_At.calls k2 _ _ y222 x10_2 t227 _ ?side1 ?side2 A45.out).mono ?_
                  (case side1 => repeat (first | exact (Kd.R_reads' HO_8.out).2.2 | (with_reducible refine Kd.C_alloc ?_ _) | (with_reducible refine Kd.C_drewN ?_ _) | (with_reducible refine Kd.C_drew ?_)))
                  (case side2 => exact (Kd.R_reads' HO_8.out).2.1)
                  rintro e w' ⟨rfl, ⟨nd, rfl⟩⟩
                  refine ⟨_, rfl, ?_⟩
                  refine hK.out _ _ ⟨(blk_cell BK226.out 0).trans rfl, (blk_cell BK226.out 1).trans rfl, (blk_cell BK226.out 2).trans rfl⟩ (fun hHeld => ?_)
                  clear hK K
                  refine norm_ (a' := ?_) ?_ ?_
                  rotate_left
                  · show Act.put _ (some 65) _ = _
                    simp only [Act.put, List.setIfInBounds_toArray, List.set_cons_zero, List.set_cons_succ, i64_w, i32_w]
                    rfl
                  refine pure_ (i := 6) (N := some 66) (v := ?_) (a' := ?_) #[true, true, true, true, true, true, true, false, false, false, false] rfl rfl (any_of HT_.out (by kernel_rfl)) (fun _ _ _ h => h) (Or.inl ⟨by rfl, ?_⟩) ?_ ?_
                  rotate_left
                  · intro w'
                    go_simp
                    with_reducible rfl
                  rotate_left
                  · simp only [Act.put, List.setIfInBounds_toArray, List.set_cons_zero, List.set_cons_succ, i64_w, i32_w]
                    rfl
                  refine one_ (i := 7) (N := some 67) #[true, true, true, true, true, true, true, true, false, false, false] rfl rfl (one_of HT_.out (by kernel_rfl)) (by decide) (fun K hK => ?_)
                  refine value_ (w1 := ?_) (v := ?_) (by rfl) rfl ?_ ?_
                  rotate_left 2
                  · go_simp
                    constructor
                    · rfl
                    · rfl
                  refine hK.out _ _ ⟨(blk_cell (blk_alloc BK226.out _) 0).trans rfl, (blk_cell (blk_alloc BK226.out _) 1).trans rfl, (blk_cell (blk_alloc BK226.out _) 2).trans rfl⟩ (fun hHeld => ?_)
                  clear hK K
                  refine norm_ (a' := ?_) ?_ ?_
                  rotate_left
                  · show Act.put _ (some 67) _ = _
                    simp only [Act.put, List.setIfInBounds_toArray, List.set_cons_zero, List.set_cons_succ, i64_w, i32_w]
                    rfl
                  refine one_ (i := 8) (N := some 68) #[true, true, true, true, true, true, true, true, true, false, false] rfl rfl (one_of HT_.out (by kernel_rfl)) (by decide) (fun K hK => ?_)
                  refine Kd.R_append_step k47 (w0 := w) w.heap.size (by rfl) (.tmp 61) (.tmp 67) 25 47 (.agg #[(.int .i64 0), (.int .i64 0)]) 16 rfl Tryd.underlying25 info47 rfl (by decide) (by omega) u227002 x227002_2 (⟨x10_2, t227⟩ : S47) [.int .i64 x10_2, .int .i64 t227] (fun _ => True) (fun _ => False) rfl rfl ?aP (fun _ hk => hk.elim) ?aF ?aO ?aB ?aS ?aL ?_
                  (case aP => exact k47_mkM _ _ _ (⟨x10_2, t227⟩ : S47))
                  (case aB => exact (by repeat (first | (with_reducible first | exact HB.out | apply below_alloc | apply pw_below_drewN | apply below_drew1 | refine below_set ?_ GE212.out | refine below_set ?_ GE213.out | refine below_set ?_ GE226.out) | exact HB.out)))
                  (case aF => exact (fun _ _ => trivial))
                  (case aO => exact (by (with_reducible repeat (first | apply Kd.R_alloc | apply Kd.R_drewN | apply Kd.R_drew)); exact HO_227002.out))
                  (case aS => exact (below_size (by repeat (first | (with_reducible first | exact HB.out | apply below_alloc | apply pw_below_drewN | apply below_drew1 | refine below_set ?_ GE212.out | refine below_set ?_ GE213.out | refine below_set ?_ GE226.out) | exact HB.out))))
                  (case aL => have := LMc46.out; omega)
                  intro v229 w49 ho hb hg hat
                  rw [← Ny228.out] at ho
                  have n0_ := Aside0.mk (Kd.R_over' (by (with_reducible repeat (first | apply Kd.R_alloc | apply Kd.R_drewN | apply Kd.R_drew)); exact HO_8.out) (Kd.R_typed (by (with_reducible repeat (first | apply Kd.R_alloc | apply Kd.R_drewN | apply Kd.R_drew)); exact HO_227002.out)) (by decide) hg)
                  have n1_ := Aside0.mk (blk_grown (g := gb212) (o := .cells #[.int .i64 a0_0, .int .i64 a0_1, .int .i64 a0_2] 23 (0, 0)) (by (with_reducible repeat (first | refine blk_drewN ?_ _ | refine blk_drew ?_ | refine blk_alloc ?_ _)); exact BK212.out) hg (Kd.R_ne HO_227002.out BK212.out (by decide)))
                  have n2_ := Aside0.mk (blk_grown (g := gb213) (o := .cells #[.int .i64 0, .int .u64 0, .slice none 0 0] 31 (0, 0)) (by (with_reducible repeat (first | refine blk_drewN ?_ _ | refine blk_drew ?_ | refine blk_alloc ?_ _)); exact BK213.out) hg (Kd.R_ne HO_227002.out BK213.out (by decide)))
                  have n3_ := Aside0.mk (blk_grown (g := gb226) (o := .cells #[.int .i64 a0_0, .int .u64 t225, u227002] 31 (0, 0)) (by (with_reducible repeat (first | refine blk_drewN ?_ _ | refine blk_drew ?_ | refine blk_alloc ?_ _)); exact BK226.out) hg (Kd.R_ne HO_227002.out BK226.out (by decide)))
                  have n4_ := Aside0.mk (hb)
                  have n5_ := Aside0.mk (ho)
                  clear HO_8
                  clear BK212
                  clear BK213
                  clear BK226
                  clear HB
                  clear HO_227002
                  have HO_8 := n0_
                  have BK212 := n1_
                  have BK213 := n2_
                  have BK226 := n3_
                  have HB := n4_
                  have HO230 := n5_
                  clear n0_ n1_ n2_ n3_ n4_ n5_
                  clear ho hb hg hat
                  obtain ⟨Ao50, co50, eo50⟩ := Kd.R_slice HO230.out
                  (first | subst eo50 | (injection eo50 with f1_ f2_ f3_; have f4_ := f1_.symm; have f5_ := f3_.symm; clear f1_ f2_ f3_; subst f4_; subst f5_))
                  refine hK.out _ _ ⟨(blk_cell BK226.out 0).trans rfl, (blk_cell BK226.out 1).trans rfl, (blk_cell BK226.out 2).trans rfl⟩ (fun hHeld => ?_)
                  clear hK K
                  refine norm_ (a' := ?_) ?_ ?_
                  rotate_left
                  · show Act.put _ (some 68) _ = _
                    simp only [Act.put, List.setIfInBounds_toArray, List.set_cons_zero, List.set_cons_succ, i64_w, i32_w]
                    rfl
                  refine pure_ (i := 9) (N := some 69) (v := ?_) (a' := ?_) #[true, true, true, true, true, true, true, true, true, true, false] rfl rfl (any_of HT_.out (by kernel_rfl)) (fun _ _ _ h => h) (Or.inl ⟨by rfl, ?_⟩) ?_ ?_
                  rotate_left
                  · intro w'
                    go_simp
                    with_reducible rfl
                  rotate_left
                  · simp only [Act.put, List.setIfInBounds_toArray, List.set_cons_zero, List.set_cons_succ, i64_w, i32_w]
                    rfl
                  refine last_ (i := 10) (N := none) #[true, true, true, true, true, true, true, true, true, true, true] rfl rfl (one_of HT_.out (by kernel_rfl)) (by decide) (fun K hK => ?_)
                  have hs51 : w49.cell? ⟨gb226, 2, none⟩ = some (u227002) := (blk_cell BK226.out 2).trans rfl
                  have hfs51 := blk_frozen BK226.out 2
                  have hns51_0 := NB212_226.out
                  have hns51_1 := NB213_226.out
                  have hms51_0 := NB226_212.out
                  have hms51_1 := NB226_213.out
                  refine skip_ (w1 := ?_) (by rfl) rfl ?_ ?_
                  rotate_left
                  · go_simp
                    rfl
                  refine hK.out _ _ ?_
                  clear hK K
                  refine done_ (done_of HT_.out (by kernel_rfl)) ?_
                  try go_wp2
                  go_roundg k2
                  case measure => have := HJ3.out; have := HK2.out; omega
                  case rel => exact ⟨(wrap64 (x10_2 + 1)), (y228), (.slice Ao50 y228.length co50), (by first | rfl | (simp; done) | (simp [*]; done)), H', ⟨by have := HJ3.out; have := HK2.out; omega⟩, ⟨by (with_reducible repeat (first | apply Kd.R_alloc | apply Kd.R_drewN | apply Kd.R_drew)); exact Kd.R_mono (Kd.R_far (p := ⟨gb226, 2, none⟩) (Kd.R_types HO_8.out BK226.out (by decide)) (fun _ hk => hk.2) (.slice Ao50 y228.length co50)) (fun _ hk => trivial)⟩, ⟨by (with_reducible repeat (first | apply Kd.R_alloc | apply Kd.R_drewN | apply Kd.R_drew)); exact Kd.R_mono (Kd.R_far (p := ⟨gb226, 2, none⟩) (Kd.R_types HO230.out BK226.out (by decide)) (fun _ hk => hk.2) (.slice Ao50 y228.length co50)) (fun _ hk => trivial)⟩, ⟨by (with_reducible repeat (first | refine blk_drewN ?_ _ | refine blk_drew ?_ | refine blk_alloc ?_ _)); refine blk_far ?_ NB212_226.out _; (with_reducible repeat (first | refine blk_drewN ?_ _ | refine blk_drew ?_ | refine blk_alloc ?_ _)); exact BK212.out⟩, ⟨by (with_reducible repeat (first | refine blk_drewN ?_ _ | refine blk_drew ?_ | refine blk_alloc ?_ _)); refine blk_far ?_ NB213_226.out _; (with_reducible repeat (first | refine blk_drewN ?_ _ | refine blk_drew ?_ | refine blk_alloc ?_ _)); exact BK213.out⟩, ⟨by (with_reducible repeat (first | refine blk_drewN ?_ _ | refine blk_drew ?_ | refine blk_alloc ?_ _)); refine blk_put (cs := #[.int .i64 a0_0, .int .u64 t225, u227002]) ?_ 2 _ rfl; (with_reducible repeat (first | refine blk_drewN ?_ _ | refine blk_drew ?_ | refine blk_alloc ?_ _)); exact BK226.out⟩, ⟨by repeat (first | (with_reducible first | exact HB.out | apply below_alloc | apply pw_below_drewN | apply below_drew1 | refine below_set ?_ GE212.out | refine below_set ?_ GE213.out | refine below_set ?_ GE226.out) | exact HB.out)⟩⟩
                · rw [if_neg c46] at H
                  exact absurd H (by simp)
              · rw [if_neg c44] at H
                have c44b0 : decide (x10_2 ≤ a2) = false := decide_eq_false c44
                clear c44
                simp only [Option.some.injEq, Prod.mk.injEq] at H
                obtain ⟨rfl, rfl, rfl, rfl⟩ := H
                have hnb52 := NB226_212.out
                have hnc52 := NB212_226.out
                have hnb53 := NB226_213.out
                have hnc53 := NB213_226.out
                have hcz54_0 : wr.cell? ⟨gb226, 0, none⟩ = some (.int .i64 a0_0) := (blk_cell BK226.out 0).trans rfl
                have hcz54_1 : wr.cell? ⟨gb226, 1, none⟩ = some (.int .u64 t225) := (blk_cell BK226.out 1).trans rfl
                have hcz54_2 : wr.cell? ⟨gb226, 2, none⟩ = some (u227002) := (blk_cell BK226.out 2).trans rfl
                have hfz54_0 := blk_frozen BK226.out 0
                have hfz54_1 := blk_frozen BK226.out 1
                have hfz54_2 := blk_frozen BK226.out 2
                have hnb55 := NB213_212.out
                have hnc55 := NB212_213.out
                have hcz56_0 : wr.cell? ⟨gb213, 0, none⟩ = some (.int .i64 0) := (blk_cell BK213.out 0).trans rfl
                have hcz56_1 : wr.cell? ⟨gb213, 1, none⟩ = some (.int .u64 0) := (blk_cell BK213.out 1).trans rfl
                have hcz56_2 : wr.cell? ⟨gb213, 2, none⟩ = some (.slice none 0 0) := (blk_cell BK213.out 2).trans rfl
                have hfz56_0 := blk_frozen BK213.out 0
                have hfz56_1 := blk_frozen BK213.out 1
                have hfz56_2 := blk_frozen BK213.out 2
                obtain ⟨Ao57, co57, eo57⟩ := Kd.R_slice HO_227002.out
                subst eo57
                go_wp2
                refine bodyPost_ret (results_ct rfl _ _ gb213 31 #[.int .i64 a0_0, .int .u64 t225, .slice Ao57 x227002_2.length co57] (0, 0) _ rfl (by (with_reducible repeat (first | refine blk_drewN ?_ _ | refine blk_drew ?_ | refine blk_alloc ?_ _)); refine blk_put (cs := #[.int .i64 a0_0, .int .u64 t225, .slice none 0 0]) ?_ 2 _ rfl; (with_reducible repeat (first | refine blk_drewN ?_ _ | refine blk_drew ?_ | refine blk_alloc ?_ _)); refine blk_put (cs := #[.int .i64 a0_0, .int .u64 0, .slice none 0 0]) ?_ 1 _ rfl; (with_reducible repeat (first | refine blk_drewN ?_ _ | refine blk_drew ?_ | refine blk_alloc ?_ _)); refine blk_put (cs := #[.int .i64 0, .int .u64 0, .slice none 0 0]) ?_ 0 _ rfl; (with_reducible repeat (first | refine blk_drewN ?_ _ | refine blk_drew ?_ | refine blk_alloc ?_ _)); exact BK213.out) Tryd.underlying31 rfl (by kernel_rfl)) rfl ?_
                exact ⟨_, by first | rfl | (simp [errW_none, errW_some] <;> rfl) | (simp [*, errW_none, errW_some] <;> rfl), by (with_reducible repeat (first | apply Kd.R_alloc | apply Kd.R_drewN | apply Kd.R_drew)); exact Kd.R_mono (Kd.R_far (p := ⟨gb213, 2, none⟩) (Kd.R_far (p := ⟨gb213, 1, none⟩) (Kd.R_far (p := ⟨gb213, 0, none⟩) (Kd.R_types HO_227002.out BK213.out (by decide)) (fun _ hk => hk.2) (.int .i64 a0_0)) (fun _ hk => hk.2) (.int .u64 t225)) (fun _ hk => hk.2) (.slice Ao57 x227002_2.length co57)) (fun _ hk => trivial), by repeat (first | (with_reducible first | exact HB.out | apply below_alloc | apply pw_below_drewN | apply below_drew1 | refine below_set ?_ GE212.out | refine below_set ?_ GE213.out | refine below_set ?_ GE226.out) | exact HB.out)⟩
        · rw [if_neg c30] at H
          exact absurd H (by simp)
end Go.Proofs.YtkghgaifgpgfkaaDoor.PL
end
