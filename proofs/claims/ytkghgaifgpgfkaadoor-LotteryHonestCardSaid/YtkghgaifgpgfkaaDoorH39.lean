/- Lemmas and walks for lotteryHonestCard_holds (part 39), without what it does not use. -/
import Derived.Test.YtkghgaifgpgfkaaDoorH36
section
namespace Go.Proofs.YtkghgaifgpgfkaaDoor.PL
open Go.RowKit Go.Proofs.YtkghgaifgpgfkaaDoorW.PrintWords Go.Proofs.YtkghgaifgpgfkaaDoorW.PrintLast Go.Proofs.YtkghgaifgpgfkaaDoorW.PrintMore
attribute [local go_sem] max2_int min2_int max_two min_two max_three min_three max_four min_four   -- for this text's walks alone
open Kd
set_option linter.unusedVariables false
set_option linter.unusedSimpArgs false
set_option maxHeartbeats 8000000 in
set_option maxRecDepth 100000 in
theorem cohousinglaw22_dealt.calls (k : Nat) (A0 : Option Addr) (c0 : Nat) (l0 : List (S58)) (a1 : Int) (r1 : List (S31)) (r2 : List (S23)) (r3 : Bool) (w : World) (hT : TabW w) (hr0 : Kd.C k58 w A0 l0.length l0) (hc0 : l0.length ≤ c0) (h : cohousinglaw22_dealt.f k l0 a1 = some (r1, r2, r3)) :
  Calls Tryd.prog 26 #[.slice A0 l0.length c0, .int .i64 a1] w fun e w' => ∃ v0_ v1_ : Value, e = .returned (.tuple #[v0_, v1_, .bool r3]) ∧ Kd.N k31 31 w' w.heap.size (fun k_ => (w.heap.size ≤ k_) ∧ some k_ ≠ (v1_ : Value).ownBlock) v0_ r1 ∧ Kd.R k23 23 w' w.heap.size (fun k_ => (w.heap.size ≤ k_)) v1_ r2 ∧ Below w.heap.size w w' := by
 have hu58 := Tryd.underlying58
 have hu23 := Tryd.underlying23
 have hu31 := Tryd.underlying31
 have HTAB := Aside0.mk hT
 clear hT
 have HR0 := Aside0.mk hr0
 have HC0 := Aside0.mk hc0
 clear hr0 hc0
 have HB := Aside0.mk (Below.refl w.heap.size w)
 have H : (cohousinglaw22_dealt.l0 k l0 a1 ([] : List (S31)) ([] : List (S23)) l0 (l0.length : Int) 0) = some (r1, r2, r3) := h
 clear h
 have H' := Aside0.mk H
 clear H
 go_enter Tryd.func26, Tryd.ntmps26
 go_wp2
 go_loopg [7, 8, 19] k (fun kq v7 v8 v19 w' => ∃ (x7_1 : List (S31)) (x8_1 : List (S23)) (x19_1 : Int), v19 = .int .i64 x19_1 ∧ Aside0 (cohousinglaw22_dealt.l0 kq l0 a1 x7_1 x8_1 l0 (l0.length : Int) x19_1 = some (r1, r2, r3)) ∧ Aside0 (kq ≤ k) ∧ Aside0 (Kd.N k31 31 w' w.heap.size (fun k_ => (w.heap.size ≤ k_) ∧ some k_ ≠ (v8 : Value).ownBlock) v7 x7_1) ∧ Aside0 (Kd.R k23 23 w' w.heap.size (fun k_ => (w.heap.size ≤ k_)) v8 x8_1) ∧ Aside0 (Below w.heap.size w w'))
 case atStart => exact ⟨(([] : List (S31))), (([] : List (S23))), (0), (by first | rfl | (simp; done) | (simp [*]; done)), H', ⟨Nat.le_refl _⟩, ⟨by first | exact Kd.S_nil _ _ _ _ _ | exact N_nil _ _ _ _ _ | exact Kd.V_nil _ _ _ _ _ | exact Kd.Q_nil _ _ _ _ _ | exact R_nil _ _ _ _ _⟩, ⟨by first | exact R_nil _ _ _ _ _ | exact N_nil _ _ _ _ _ | exact Kd.V_nil _ _ _ _ _ | exact Kd.Q_nil _ _ _ _ _ | exact Kd.S_nil _ _ _ _ _⟩, ⟨by repeat (first | (with_reducible first | exact HB.out | apply below_alloc | apply pw_below_drewN | apply below_drew1) | exact HB.out)⟩⟩
 case round =>
  clear H'
  try clear c2
  try clear p2
  obtain ⟨x7_1, x8_1, x19_1, rfl, HA, HK1, HO_7, HO_8, HB⟩ := hrel
  cases gk with
  | zero => exact absurd HA.out (by simp [cohousinglaw22_dealt.l0])
  | succ k1 =>
   have H := HA.out
   clear HA
   simp only [cohousinglaw22_dealt.l0] at H
   by_cases c3 : x19_1 < (l0.length : Int)
   ·rw [if_pos c3] at H
    have c3b0 : decide (x19_1 < (l0.length : Int)) = true := decide_eq_true c3
    clear c3
    by_cases c4 : 0 ≤ x19_1
    ·rw [if_pos c4] at H
     have c4b0 : decide (0 ≤ x19_1) = true := decide_eq_true c4
     clear c4
     by_cases c5 : x19_1 < (l0.length : Int)
     ·rw [if_pos c5] at H
      have c5b0 : decide (x19_1 < (l0.length : Int)) = true := decide_eq_true c5
      clear c5
      have H' := Aside0.mk H
      clear H
      have p396 : 0 ≤ (x19_1 : Int) := of_decide_eq_true (by first | (with_reducible assumption) | assumption)
      have q396 : x19_1 < (l0.length : Int) := of_decide_eq_true (by first | (with_reducible assumption) | assumption)
      obtain ⟨ad396, A396_2, c396_2, e396, hx396_0, hx396_1, hx396_2, hx396_3, hx396_4, hx396_5, hx396_6, hl396_2, hi396_2⟩ := at_T58 HR0.out x19_1 p396 q396
      cases e396
      replace hx396_0 := (HB.out.cell (World.block_lt_of_cell? w _ hx396_0)).trans hx396_0
      replace hx396_1 := (HB.out.cell (World.block_lt_of_cell? w _ hx396_1)).trans hx396_1
      replace hx396_2 := (HB.out.cell (World.block_lt_of_cell? w _ hx396_2)).trans hx396_2
      replace hx396_3 := (HB.out.cell (World.block_lt_of_cell? w _ hx396_3)).trans hx396_3
      replace hx396_4 := (HB.out.cell (World.block_lt_of_cell? w _ hx396_4)).trans hx396_4
      replace hx396_5 := (HB.out.cell (World.block_lt_of_cell? w _ hx396_5)).trans hx396_5
      replace hx396_6 := (HB.out.cell (World.block_lt_of_cell? w _ hx396_6)).trans hx396_6
      have HR396_2 := Aside0.mk hi396_2
      have HC396_2 := Aside0.mk hl396_2
      clear hi396_2 hl396_2
      replace p396 := eq_true p396
      replace q396 := eq_true q396
      go_wp2_with (first | ((with_reducible refine gate_dst (N := 10) rfl ?_); (try (refine gate_guard (by rfl) ?_; dsimp only)); refine box_event ?hg (N := 10) ?hd (cs := #[.int .u32 0, .int .u32 0, .slice none 0 0, .bool false, .int .i64 0, .int .i64 0, .int .i64 0]) (t := 58) ?hr ?_; (case hd => rfl); (case hg => rfl); (case hr => first | (go_simp; done) | (go_simp; rfl)); intro gb397 hg w6 hbox hb; have n0_ := Aside0.mk (N_below (N_elderB (by (with_reducible repeat (first | apply N_alloc | apply N_drewN | apply N_drew)); exact HO_7.out) gb397 (Nat.le_of_eq hg.symm)) hb); have n1_ := Aside0.mk (R_below (by (with_reducible repeat (first | apply R_alloc | apply R_drewN | apply R_drew)); exact HO_8.out) hb); have n2_ := Aside0.mk (below_step (by repeat (first | (with_reducible first | exact HB.out | apply below_alloc | apply pw_below_drewN | apply below_drew1) | exact HB.out)) hb); have n3_ := Aside0.mk (hbox); have n4_ := Aside0.mk ((by rw [hg]; exact (below_size (by repeat (first | (with_reducible first | exact HB.out | apply below_alloc | apply pw_below_drewN | apply below_drew1) | exact HB.out))) : w.heap.size ≤ gb397)); have n5_ := Aside0.mk ((by rw [hg]; exact (below_size (by repeat (first | (with_reducible first | exact HB.out | apply below_alloc | apply pw_below_drewN | apply below_drew1) | exact HB.out))) : w.heap.size ≤ gb397)); clear HO_7; clear HO_8; clear HB; have HO_7 := n0_; have HO_8 := n1_; have HB := n2_; have BK397 := n3_; have GW397 := n4_; have GE397 := n5_; clear n0_ n1_ n2_ n3_ n4_ n5_; clear hb hbox hg; have hcz7_0 : w6.cell? ⟨gb397, 0, none⟩ = some (.int .u32 0) := (blk_cell BK397.out 0).trans rfl; have hcz7_1 : w6.cell? ⟨gb397, 1, none⟩ = some (.int .u32 0) := (blk_cell BK397.out 1).trans rfl; have hcz7_2 : w6.cell? ⟨gb397, 2, none⟩ = some (.slice none 0 0) := (blk_cell BK397.out 2).trans rfl; have hcz7_3 : w6.cell? ⟨gb397, 3, none⟩ = some (.bool false) := (blk_cell BK397.out 3).trans rfl; have hcz7_4 : w6.cell? ⟨gb397, 4, none⟩ = some (.int .i64 0) := (blk_cell BK397.out 4).trans rfl; have hcz7_5 : w6.cell? ⟨gb397, 5, none⟩ = some (.int .i64 0) := (blk_cell BK397.out 5).trans rfl; have hcz7_6 : w6.cell? ⟨gb397, 6, none⟩ = some (.int .i64 0) := (blk_cell BK397.out 6).trans rfl; have hfz7_0 := blk_frozen BK397.out 0; have hfz7_1 := blk_frozen BK397.out 1; have hfz7_2 := blk_frozen BK397.out 2; have hfz7_3 := blk_frozen BK397.out 3; have hfz7_4 := blk_frozen BK397.out 4; have hfz7_5 := blk_frozen BK397.out 5; have hfz7_6 := blk_frozen BK397.out 6))
      go_loopg [11, 12] k1 (fun kq v11 v12 w' => ∃ (x11_2 : List Int) (x12_2 : Int), v12 = .int .i64 x12_2 ∧ Aside0 (cohousinglaw22_dealt.l1 kq l0 a1 x7_1 x8_1 x19_1 x11_2 x12_2 l0 (l0.length : Int) x19_1 (rd_T58 l0 x19_1).f0 (rd_T58 l0 x19_1).f1 (rd_T58 l0 x19_1).f2 (rd_T58 l0 x19_1).f3 (rd_T58 l0 x19_1).f4 (rd_T58 l0 x19_1).f5 (rd_T58 l0 x19_1).f6 = some (r1, r2, r3)) ∧ Aside0 (kq ≤ k1) ∧ Aside0 (Kd.N k31 31 w' w.heap.size (fun k_ => (w.heap.size ≤ k_) ∧ some k_ ≠ (u8 : Value).ownBlock ∧ some k_ ≠ (v11 : Value).ownBlock ∧ k_ ≠ gb397) u7 x7_1) ∧ Aside0 (Kd.R k23 23 w' w.heap.size (fun k_ => (w.heap.size ≤ k_)) u8 x8_1) ∧ Aside0 (Kd.R (Kd.int .i64) 3 w' w.heap.size (fun k_ => (w.heap.size ≤ k_)) v11 x11_2) ∧ Aside0 (w'.heap[gb397]? = some (.cells #[.int .u32 (rd_T58 l0 x19_1).f0, .int .u32 (rd_T58 l0 x19_1).f1, (.slice A396_2 (rd_T58 l0 x19_1).f2.length c396_2), .bool (rd_T58 l0 x19_1).f3, .int .i64 (rd_T58 l0 x19_1).f4, .int .i64 (rd_T58 l0 x19_1).f5, .int .i64 (rd_T58 l0 x19_1).f6] 58 (0, 0))) ∧ Aside0 (Below w.heap.size w w'))
      case atStart => exact ⟨(([] : List Int)), (0), (by first | rfl | (simp; done) | (simp [*]; done)), H', ⟨Nat.le_refl _⟩, ⟨by (with_reducible repeat (first | apply N_alloc | apply N_drewN | apply N_drew)); exact N_mono (N_far (p := ⟨gb397, 6, none⟩) (N_far (p := ⟨gb397, 5, none⟩) (N_far (p := ⟨gb397, 4, none⟩) (N_far (p := ⟨gb397, 3, none⟩) (N_far (p := ⟨gb397, 2, none⟩) (N_far (p := ⟨gb397, 1, none⟩) (N_far (p := ⟨gb397, 0, none⟩) (N_mono HO_7.out (fun k_ hk => (⟨hk, hk.2⟩ : _ ∧ k_ ≠ gb397))) (fun _ hk => hk.2) (.int .u32 (rd_T58 l0 x19_1).f0)) (fun _ hk => hk.2) (.int .u32 (rd_T58 l0 x19_1).f1)) (fun _ hk => hk.2) (.slice A396_2 (rd_T58 l0 x19_1).f2.length c396_2)) (fun _ hk => hk.2) (.bool (rd_T58 l0 x19_1).f3)) (fun _ hk => hk.2) (.int .i64 (rd_T58 l0 x19_1).f4)) (fun _ hk => hk.2) (.int .i64 (rd_T58 l0 x19_1).f5)) (fun _ hk => hk.2) (.int .i64 (rd_T58 l0 x19_1).f6)) (fun _ hk => ⟨hk.1.1.1, ⟨hk.1.1.2, ⟨(by simp [Value.ownBlock]), hk.1.2⟩⟩⟩)⟩, ⟨by (with_reducible repeat (first | apply R_alloc | apply R_drewN | apply R_drew)); exact R_mono (R_far (p := ⟨gb397, 6, none⟩) (R_far (p := ⟨gb397, 5, none⟩) (R_far (p := ⟨gb397, 4, none⟩) (R_far (p := ⟨gb397, 3, none⟩) (R_far (p := ⟨gb397, 2, none⟩) (R_far (p := ⟨gb397, 1, none⟩) (R_far (p := ⟨gb397, 0, none⟩) (R_types HO_8.out BK397.out (by decide)) (fun _ hk => hk.2) (.int .u32 (rd_T58 l0 x19_1).f0)) (fun _ hk => hk.2) (.int .u32 (rd_T58 l0 x19_1).f1)) (fun _ hk => hk.2) (.slice A396_2 (rd_T58 l0 x19_1).f2.length c396_2)) (fun _ hk => hk.2) (.bool (rd_T58 l0 x19_1).f3)) (fun _ hk => hk.2) (.int .i64 (rd_T58 l0 x19_1).f4)) (fun _ hk => hk.2) (.int .i64 (rd_T58 l0 x19_1).f5)) (fun _ hk => hk.2) (.int .i64 (rd_T58 l0 x19_1).f6)) (fun _ hk => hk.1)⟩, ⟨by first | exact R_nil _ _ _ _ _ | exact N_nil _ _ _ _ _ | exact Kd.V_nil _ _ _ _ _ | exact Kd.Q_nil _ _ _ _ _ | exact Kd.S_nil _ _ _ _ _⟩, ⟨by (with_reducible repeat (first | refine blk_drewN ?_ _ | refine blk_drew ?_ | refine blk_alloc ?_ _)); refine blk_put (cs := #[.int .u32 (rd_T58 l0 x19_1).f0, .int .u32 (rd_T58 l0 x19_1).f1, .slice A396_2 (rd_T58 l0 x19_1).f2.length c396_2, .bool (rd_T58 l0 x19_1).f3, .int .i64 (rd_T58 l0 x19_1).f4, .int .i64 (rd_T58 l0 x19_1).f5, .int .i64 0]) ?_ 6 _ rfl; (with_reducible repeat (first | refine blk_drewN ?_ _ | refine blk_drew ?_ | refine blk_alloc ?_ _)); refine blk_put (cs := #[.int .u32 (rd_T58 l0 x19_1).f0, .int .u32 (rd_T58 l0 x19_1).f1, .slice A396_2 (rd_T58 l0 x19_1).f2.length c396_2, .bool (rd_T58 l0 x19_1).f3, .int .i64 (rd_T58 l0 x19_1).f4, .int .i64 0, .int .i64 0]) ?_ 5 _ rfl; (with_reducible repeat (first | refine blk_drewN ?_ _ | refine blk_drew ?_ | refine blk_alloc ?_ _)); refine blk_put (cs := #[.int .u32 (rd_T58 l0 x19_1).f0, .int .u32 (rd_T58 l0 x19_1).f1, .slice A396_2 (rd_T58 l0 x19_1).f2.length c396_2, .bool (rd_T58 l0 x19_1).f3, .int .i64 0, .int .i64 0, .int .i64 0]) ?_ 4 _ rfl; (with_reducible repeat (first | refine blk_drewN ?_ _ | refine blk_drew ?_ | refine blk_alloc ?_ _)); refine blk_put (cs := #[.int .u32 (rd_T58 l0 x19_1).f0, .int .u32 (rd_T58 l0 x19_1).f1, .slice A396_2 (rd_T58 l0 x19_1).f2.length c396_2, .bool false, .int .i64 0, .int .i64 0, .int .i64 0]) ?_ 3 _ rfl; (with_reducible repeat (first | refine blk_drewN ?_ _ | refine blk_drew ?_ | refine blk_alloc ?_ _)); refine blk_put (cs := #[.int .u32 (rd_T58 l0 x19_1).f0, .int .u32 (rd_T58 l0 x19_1).f1, .slice none 0 0, .bool false, .int .i64 0, .int .i64 0, .int .i64 0]) ?_ 2 _ rfl; (with_reducible repeat (first | refine blk_drewN ?_ _ | refine blk_drew ?_ | refine blk_alloc ?_ _)); refine blk_put (cs := #[.int .u32 (rd_T58 l0 x19_1).f0, .int .u32 0, .slice none 0 0, .bool false, .int .i64 0, .int .i64 0, .int .i64 0]) ?_ 1 _ rfl; (with_reducible repeat (first | refine blk_drewN ?_ _ | refine blk_drew ?_ | refine blk_alloc ?_ _)); refine blk_put (cs := #[.int .u32 0, .int .u32 0, .slice none 0 0, .bool false, .int .i64 0, .int .i64 0, .int .i64 0]) ?_ 0 _ rfl; (with_reducible repeat (first | refine blk_drewN ?_ _ | refine blk_drew ?_ | refine blk_alloc ?_ _)); exact BK397.out⟩, ⟨by repeat (first | (with_reducible first | exact HB.out | apply below_alloc | apply pw_below_drewN | apply below_drew1 | refine below_set ?_ GE397.out) | exact HB.out)⟩⟩
      case round =>
       clear H'
       try clear c2
       try clear p2
       try clear c3
       try clear c3b0
       try clear p3
       try clear q3
       try clear hx3
       try clear c4
       try clear c4b0
       try clear c5
       try clear c5b0
       try clear hcz7_0
       try clear hcz7_1
       try clear hcz7_2
       try clear hcz7_3
       try clear hcz7_4
       try clear hcz7_5
       try clear hcz7_6
       try clear hfz7_0
       try clear hfz7_1
       try clear hfz7_2
       try clear hfz7_3
       try clear hfz7_4
       try clear hfz7_5
       try clear hfz7_6
       try clear hx396_0
       try clear hx396_1
       try clear hx396_2
       try clear hx396_3
       try clear hx396_4
       try clear hx396_5
       try clear hx396_6
       try clear p2
       try clear p396
       try clear q396
       obtain ⟨x11_2, x12_2, rfl, HA, HK2, HO_7, HO_8, HO_11, BK397, HB⟩ := hrel
       cases gk with
       | zero => exact absurd HA.out (by simp [cohousinglaw22_dealt.l1])
       | succ k2 =>
        have H := HA.out
        clear HA
        simp only [cohousinglaw22_dealt.l1] at H
        by_cases c8 : x12_2 < (wrap64 (a1 - 1))
        ·rw [if_pos c8] at H
         have c8b0 : decide (x12_2 < (wrap64 (a1 - 1))) = true := decide_eq_true c8
         clear c8
         by_cases c9 : x12_2 < ((rd_T58 l0 x19_1).f2.length : Int)
         ·rw [if_pos c9] at H
          have c9b0 : decide (x12_2 < ((rd_T58 l0 x19_1).f2.length : Int)) = true := decide_eq_true c9
          clear c9
          by_cases c10 : 0 ≤ x12_2
          ·rw [if_pos c10] at H
           have c10b0 : decide (0 ≤ x12_2) = true := decide_eq_true c10
           clear c10
           replace H := Option.bind_eq_some_iff.mp H
           obtain ⟨t399, A110, H⟩ := H
           replace H : ((some (([t399] : List Int) : List Int)).bind fun y400 => (if x11_2.length + y400.length < 17592186044416 then (cohousinglaw22_dealt.l1 k2 l0 a1 x7_1 x8_1 x19_1 (x11_2 ++ y400) (wrap64 (x12_2 + 1)) l0 (l0.length : Int) x19_1 (rd_T58 l0 x19_1).f0 (rd_T58 l0 x19_1).f1 (rd_T58 l0 x19_1).f2 (rd_T58 l0 x19_1).f3 (rd_T58 l0 x19_1).f4 (rd_T58 l0 x19_1).f5 (rd_T58 l0 x19_1).f6) else (none))) = some (r1, r2, r3) := H
           have A11 := Aside0.mk A110
           clear A110
           obtain ⟨y400, hy400⟩ : ∃ y_ : List Int, y_ = (([t399] : List Int)) := ⟨_, rfl⟩
           replace H : (if x11_2.length + y400.length < 17592186044416 then (cohousinglaw22_dealt.l1 k2 l0 a1 x7_1 x8_1 x19_1 (x11_2 ++ y400) (wrap64 (x12_2 + 1)) l0 (l0.length : Int) x19_1 (rd_T58 l0 x19_1).f0 (rd_T58 l0 x19_1).f1 (rd_T58 l0 x19_1).f2 (rd_T58 l0 x19_1).f3 (rd_T58 l0 x19_1).f4 (rd_T58 l0 x19_1).f5 (rd_T58 l0 x19_1).f6) else (none)) = some (r1, r2, r3) := by first | (rw [hy400]; with_reducible exact H) | (have H2_ := (Option.bind_some _ _).symm.trans H; rw [hy400]; with_reducible exact H2_) | (have H2_ := (Option.bind_some _ _).symm.trans H; with_reducible exact H2_) | with_reducible exact H | (rw [hy400]; exact H) | exact H
           have Ny400 := Aside0.mk hy400
           clear hy400
           by_cases c12 : x11_2.length + y400.length < 17592186044416
           ·rw [if_pos c12] at H
            have LMc12 := Aside0.mk c12
            clear c12
            obtain ⟨y403, hy403⟩ : ∃ y_ : List Int, y_ = (x11_2 ++ y400) := ⟨_, rfl⟩
            replace H : (cohousinglaw22_dealt.l1 k2 l0 a1 x7_1 x8_1 x19_1 y403 (wrap64 (x12_2 + 1)) l0 (l0.length : Int) x19_1 (rd_T58 l0 x19_1).f0 (rd_T58 l0 x19_1).f1 (rd_T58 l0 x19_1).f2 (rd_T58 l0 x19_1).f3 (rd_T58 l0 x19_1).f4 (rd_T58 l0 x19_1).f5 (rd_T58 l0 x19_1).f6) = some (r1, r2, r3) := by first | (rw [hy403]; with_reducible exact H) | (have H2_ := (Option.bind_some _ _).symm.trans H; rw [hy403]; with_reducible exact H2_) | (have H2_ := (Option.bind_some _ _).symm.trans H; with_reducible exact H2_) | with_reducible exact H | (rw [hy403]; exact H) | exact H
            have Ny403 := Aside0.mk hy403
            clear hy403
            have H' := Aside0.mk H
            clear H
            have hcz13_0 : wr.cell? ⟨gb397, 0, none⟩ = some (.int .u32 (rd_T58 l0 x19_1).f0) := (blk_cell BK397.out 0).trans rfl
            have hcz13_1 : wr.cell? ⟨gb397, 1, none⟩ = some (.int .u32 (rd_T58 l0 x19_1).f1) := (blk_cell BK397.out 1).trans rfl
            have hcz13_2 : wr.cell? ⟨gb397, 2, none⟩ = some (.slice A396_2 (rd_T58 l0 x19_1).f2.length c396_2) := (blk_cell BK397.out 2).trans rfl
            have hcz13_3 : wr.cell? ⟨gb397, 3, none⟩ = some (.bool (rd_T58 l0 x19_1).f3) := (blk_cell BK397.out 3).trans rfl
            have hcz13_4 : wr.cell? ⟨gb397, 4, none⟩ = some (.int .i64 (rd_T58 l0 x19_1).f4) := (blk_cell BK397.out 4).trans rfl
            have hcz13_5 : wr.cell? ⟨gb397, 5, none⟩ = some (.int .i64 (rd_T58 l0 x19_1).f5) := (blk_cell BK397.out 5).trans rfl
            have hcz13_6 : wr.cell? ⟨gb397, 6, none⟩ = some (.int .i64 (rd_T58 l0 x19_1).f6) := (blk_cell BK397.out 6).trans rfl
            have hfz13_0 := blk_frozen BK397.out 0
            have hfz13_1 := blk_frozen BK397.out 1
            have hfz13_2 := blk_frozen BK397.out 2
            have hfz13_3 := blk_frozen BK397.out 3
            have hfz13_4 := blk_frozen BK397.out 4
            have hfz13_5 := blk_frozen BK397.out 5
            have hfz13_6 := blk_frozen BK397.out 6
            have p398 : 0 ≤ (x12_2 : Int) := of_decide_eq_true (by first | (with_reducible assumption) | assumption)
            have q398 : x12_2 < ((rd_T58 l0 x19_1).f2.length : Int) := of_decide_eq_true (by first | (with_reducible assumption) | assumption)
            obtain ⟨ad398, e398, hx398_0⟩ := Kd.at_int HR396_2.out x12_2 p398 q398
            cases e398
            replace hx398_0 := (HB.out.cell (World.block_lt_of_cell? w _ hx398_0)).trans hx398_0
            replace p398 := eq_true p398
            replace q398 := eq_true q398
            go_wp2_with (first | ((with_reducible refine gate_callee (f := 47) rfl ?_); refine goesL_ (some 40) rfl rfl Tryd.func47 (by kernel_rfl) rfl #[.int .u32 (rd (rd_T58 l0 x19_1).f2 x12_2)] rfl (by (try simp only [List.map_toArray, List.map_cons, List.map_nil]); first | done | rfl | (simp only [List.length_drop, List.length_take]; rfl)) ?_; (with_reducible refine (cohousinglaw22_residue.calls (rd (rd_T58 l0 x19_1).f2 x12_2) t399 _ A11.out).mono ?_); rintro e w' ⟨rfl, ⟨nd, rfl⟩⟩; refine ⟨_, rfl, ?_⟩) | ((with_reducible refine gate_dst (N := 43) rfl ?_); (try (refine gate_guard (by rfl) ?_; dsimp only)); refine R_lit (Kd.int .i64) _ 3 ?hg (N := 43) ?hd (xs := ([t399] : List Int)) (inner := [.int .i64 t399]) (ok := fun _ => True) (okp := fun _ => True) ?hr ?hp (fun _ hk => hk) trivial (Below.refl _ _) (Nat.le_refl _) (by simp) ?_; (case hd => rfl); (case hg => rfl); (case hr => first | (go_simp; done) | (go_simp; rfl)); (case hp => exact (Reps.one (show Kd.M (Kd.int .i64) _ _ _ t399 [.int .i64 t399] from rfl) (Reps.none _ _))); intro v401 w14 ho15 hb hg_ hnew_; clear hg_ hnew_; (first | rw [← Ny400.out] at ho15 | (simp only [Int.reduceToNat] at ho15; rw [← Ny400.out] at ho15)); have n0_ := Aside0.mk (N_elder' (by (with_reducible repeat (first | apply N_alloc | apply N_drewN | apply N_drew)); exact HO_7.out) (R_base ho15) hb); have n1_ := Aside0.mk (R_below (by (with_reducible repeat (first | apply R_alloc | apply R_drewN | apply R_drew)); exact HO_8.out) hb); have n2_ := Aside0.mk (R_elder' (by (with_reducible repeat (first | apply R_alloc | apply R_drewN | apply R_drew)); exact HO_11.out) (R_base ho15) hb); have n3_ := Aside0.mk (R_lower (R_new' (R_newM (M := fun k_ => (w.heap.size ≤ k_)) ho15 (below_size (by repeat (first | (with_reducible first | exact HB.out | apply below_alloc | apply pw_below_drewN | apply below_drew1 | refine below_set ?_ GE397.out) | exact HB.out))) (fun k_ h_ => h_)) (R_lt (by (with_reducible repeat (first | apply R_alloc | apply R_drewN | apply R_drew)); exact HO_11.out))) (below_size (by repeat (first | (with_reducible first | exact HB.out | apply below_alloc | apply pw_below_drewN | apply below_drew1 | refine below_set ?_ GE397.out) | exact HB.out)))); have n4_ := Aside0.mk (blk_below (g := gb397) (o := .cells #[.int .u32 (rd_T58 l0 x19_1).f0, .int .u32 (rd_T58 l0 x19_1).f1, .slice (some ad398) (rd_T58 l0 x19_1).f2.length c396_2, .bool (rd_T58 l0 x19_1).f3, .int .i64 (rd_T58 l0 x19_1).f4, .int .i64 (rd_T58 l0 x19_1).f5, .int .i64 (rd_T58 l0 x19_1).f6] 58 (0, 0)) (by (with_reducible repeat (first | refine blk_drewN ?_ _ | refine blk_drew ?_ | refine blk_alloc ?_ _)); exact BK397.out) hb); have n5_ := Aside0.mk (below_step (by repeat (first | (with_reducible first | exact HB.out | apply below_alloc | apply pw_below_drewN | apply below_drew1 | refine below_set ?_ GE397.out) | exact HB.out)) hb); clear HO_7; clear HO_8; clear HO_11; clear BK397; clear HB; have HO_7 := n0_; have HO_8 := n1_; have HO_11 := n2_; have HO402 := n3_; have BK397 := n4_; have HB := n5_; clear n0_ n1_ n2_ n3_ n4_ n5_; clear hb ho15; obtain ⟨Ao17, co17, eo17⟩ := R_slice HO402.out; subst eo17) | ((with_reducible refine gate_builtin (b := .append) (xs := #[.tmp 41, .tmp 43]) rfl ?_); (try (refine gate_guard (by rfl) ?_; dsimp only)); at_builtin; refine R_append_rows (Kd.int .i64) (w0 := w) w.heap.size rfl (.tmp 41) (.tmp 43) 24 3 (.int .i64 0) 8 rfl Tryd.underlying24 info3 rfl (by decide) (by omega) u11 x11_2 y400 _ _ _ (fun k_ => (w.heap.size ≤ k_) ∧ some k_ ≠ (.slice Ao17 y400.length co17 : Value).ownBlock) (fun _ => False) rfl rfl ?aO ?aR (fun _ _ h => h) (fun _ h => h.elim) ?aF ?aB ?aS ?aL ?_; (case aR => repeat (first | exact (R_reads' HO402.out).2.2 | (with_reducible refine Kd.C_alloc ?_ _) | (with_reducible refine Kd.C_drewN ?_ _) | (with_reducible refine Kd.C_drew ?_))); (case aB => exact (by repeat (first | (with_reducible first | exact HB.out | apply below_alloc | apply pw_below_drewN | apply below_drew1 | refine below_set ?_ GE397.out) | exact HB.out))); (case aF => exact (fun k_ hk => ⟨(Nat.le_trans (below_size (by repeat (first | (with_reducible first | exact HB.out | apply below_alloc | apply pw_below_drewN | apply below_drew1 | refine below_set ?_ GE397.out) | exact HB.out))) hk), Kd.fresh' (R_lt (by (with_reducible repeat (first | apply R_alloc | apply R_drewN | apply R_drew)); exact HO402.out)) k_ hk⟩)); (case aO => exact (by (with_reducible repeat (first | apply R_alloc | apply R_drewN | apply R_drew)); exact HO_11.out)); (case aS => exact (below_size (by repeat (first | (with_reducible first | exact HB.out | apply below_alloc | apply pw_below_drewN | apply below_drew1 | refine below_set ?_ GE397.out) | exact HB.out)))); (case aL => have := LMc12.out; omega); intro v404 w16 ho hb hg hat; rw [← Ny403.out] at ho; have n0_ := Aside0.mk (N_afterv (ok := (fun k_ => (w.heap.size ≤ k_) ∧ some k_ ≠ (u8 : Value).ownBlock ∧ some k_ ≠ (.slice Ao17 y400.length co17 : Value).ownBlock ∧ k_ ≠ gb397)) (by (with_reducible repeat (first | apply N_alloc | apply N_drewN | apply N_drew)); exact N_mono HO_7.out (fun _ hk => ⟨⟨hk.1.1, ⟨hk.1.2.1, ⟨hk.2, hk.1.2.2.2⟩⟩⟩, hk.1.2.2.1⟩)) hg hat); have n1_ := Aside0.mk (R_over' (by (with_reducible repeat (first | apply R_alloc | apply R_drewN | apply R_drew)); exact HO_8.out) (R_typed (by (with_reducible repeat (first | apply R_alloc | apply R_drewN | apply R_drew)); exact HO_11.out)) (by decide) hg); have n2_ := Aside0.mk (blk_grown (g := gb397) (o := .cells #[.int .u32 (rd_T58 l0 x19_1).f0, .int .u32 (rd_T58 l0 x19_1).f1, .slice (some ad398) (rd_T58 l0 x19_1).f2.length c396_2, .bool (rd_T58 l0 x19_1).f3, .int .i64 (rd_T58 l0 x19_1).f4, .int .i64 (rd_T58 l0 x19_1).f5, .int .i64 (rd_T58 l0 x19_1).f6] 58 (0, 0)) (by (with_reducible repeat (first | refine blk_drewN ?_ _ | refine blk_drew ?_ | refine blk_alloc ?_ _)); exact BK397.out) hg (R_ne HO_11.out BK397.out (by decide))); have n3_ := Aside0.mk (R_after (ok := (fun k_ => (w.heap.size ≤ k_))) (by (with_reducible repeat (first | apply R_alloc | apply R_drewN | apply R_drew)); exact R_mono HO402.out (fun _ hk => ⟨hk.1.1, hk.2⟩)) hg hat); have n4_ := Aside0.mk (hb); have n5_ := Aside0.mk (ho); clear HO_7; clear HO_8; clear BK397; clear HO402; clear HB; clear HO_11; have HO_7 := n0_; have HO_8 := n1_; have BK397 := n2_; have HO402 := n3_; have HB := n4_; have HO405 := n5_; clear n0_ n1_ n2_ n3_ n4_ n5_; clear ho hb hg hat))
            go_roundg k2
            case measure => have := HK1.out; have := HK2.out; omega
            case rel => exact ⟨(y403), (wrap64 (x12_2 + 1)), (by first | rfl | (simp; done) | (simp [*]; done)), H', ⟨by have := HK1.out; have := HK2.out; omega⟩, ⟨by (with_reducible repeat (first | apply N_alloc | apply N_drewN | apply N_drew)); exact N_mono HO_7.out (fun _ hk => ⟨hk.1.1, ⟨hk.1.2.1, ⟨hk.2, hk.1.2.2.2⟩⟩⟩)⟩, ⟨by (with_reducible repeat (first | apply R_alloc | apply R_drewN | apply R_drew)); exact HO_8.out⟩, ⟨by (with_reducible repeat (first | apply R_alloc | apply R_drewN | apply R_drew)); exact R_mono HO405.out (fun _ hk => hk.1)⟩, ⟨by (with_reducible repeat (first | refine blk_drewN ?_ _ | refine blk_drew ?_ | refine blk_alloc ?_ _)); exact BK397.out⟩, ⟨by repeat (first | (with_reducible first | exact HB.out | apply below_alloc | apply pw_below_drewN | apply below_drew1 | refine below_set ?_ GE397.out) | exact HB.out)⟩⟩
           ·rw [if_neg c12] at H
            exact absurd H (by simp)
          ·rw [if_neg c10] at H
           exact absurd H (by simp)
         ·rw [if_neg c9] at H
          have c9b0 : decide (x12_2 < ((rd_T58 l0 x19_1).f2.length : Int)) = false := decide_eq_false c9
          clear c9
          obtain ⟨y406, hy406⟩ : ∃ y_ : List Int, y_ = (([0] : List Int)) := ⟨_, rfl⟩
          replace H : (if x11_2.length + y406.length < 17592186044416 then (cohousinglaw22_dealt.l1 k2 l0 a1 x7_1 x8_1 x19_1 (x11_2 ++ y406) (wrap64 (x12_2 + 1)) l0 (l0.length : Int) x19_1 (rd_T58 l0 x19_1).f0 (rd_T58 l0 x19_1).f1 (rd_T58 l0 x19_1).f2 (rd_T58 l0 x19_1).f3 (rd_T58 l0 x19_1).f4 (rd_T58 l0 x19_1).f5 (rd_T58 l0 x19_1).f6) else (none)) = some (r1, r2, r3) := by first | (rw [hy406]; with_reducible exact H) | (have H2_ := (Option.bind_some _ _).symm.trans H; rw [hy406]; with_reducible exact H2_) | (have H2_ := (Option.bind_some _ _).symm.trans H; with_reducible exact H2_) | with_reducible exact H | (rw [hy406]; exact H) | exact H
          have Ny406 := Aside0.mk hy406
          clear hy406
          by_cases c18 : x11_2.length + y406.length < 17592186044416
          ·rw [if_pos c18] at H
           have LMc18 := Aside0.mk c18
           clear c18
           obtain ⟨y409, hy409⟩ : ∃ y_ : List Int, y_ = (x11_2 ++ y406) := ⟨_, rfl⟩
           replace H : (cohousinglaw22_dealt.l1 k2 l0 a1 x7_1 x8_1 x19_1 y409 (wrap64 (x12_2 + 1)) l0 (l0.length : Int) x19_1 (rd_T58 l0 x19_1).f0 (rd_T58 l0 x19_1).f1 (rd_T58 l0 x19_1).f2 (rd_T58 l0 x19_1).f3 (rd_T58 l0 x19_1).f4 (rd_T58 l0 x19_1).f5 (rd_T58 l0 x19_1).f6) = some (r1, r2, r3) := by first | (rw [hy409]; with_reducible exact H) | (have H2_ := (Option.bind_some _ _).symm.trans H; rw [hy409]; with_reducible exact H2_) | (have H2_ := (Option.bind_some _ _).symm.trans H; with_reducible exact H2_) | with_reducible exact H | (rw [hy409]; exact H) | exact H
           have Ny409 := Aside0.mk hy409
           clear hy409
           have H' := Aside0.mk H
           clear H
           have hcz19_0 : wr.cell? ⟨gb397, 0, none⟩ = some (.int .u32 (rd_T58 l0 x19_1).f0) := (blk_cell BK397.out 0).trans rfl
           have hcz19_1 : wr.cell? ⟨gb397, 1, none⟩ = some (.int .u32 (rd_T58 l0 x19_1).f1) := (blk_cell BK397.out 1).trans rfl
           have hcz19_2 : wr.cell? ⟨gb397, 2, none⟩ = some (.slice A396_2 (rd_T58 l0 x19_1).f2.length c396_2) := (blk_cell BK397.out 2).trans rfl
           have hcz19_3 : wr.cell? ⟨gb397, 3, none⟩ = some (.bool (rd_T58 l0 x19_1).f3) := (blk_cell BK397.out 3).trans rfl
           have hcz19_4 : wr.cell? ⟨gb397, 4, none⟩ = some (.int .i64 (rd_T58 l0 x19_1).f4) := (blk_cell BK397.out 4).trans rfl
           have hcz19_5 : wr.cell? ⟨gb397, 5, none⟩ = some (.int .i64 (rd_T58 l0 x19_1).f5) := (blk_cell BK397.out 5).trans rfl
           have hcz19_6 : wr.cell? ⟨gb397, 6, none⟩ = some (.int .i64 (rd_T58 l0 x19_1).f6) := (blk_cell BK397.out 6).trans rfl
           have hfz19_0 := blk_frozen BK397.out 0
           have hfz19_1 := blk_frozen BK397.out 1
           have hfz19_2 := blk_frozen BK397.out 2
           have hfz19_3 := blk_frozen BK397.out 3
           have hfz19_4 := blk_frozen BK397.out 4
           have hfz19_5 := blk_frozen BK397.out 5
           have hfz19_6 := blk_frozen BK397.out 6
           go_wp2_with (first | ((with_reducible refine gate_dst (N := 43) rfl ?_); (try (refine gate_guard (by rfl) ?_; dsimp only)); refine R_lit (Kd.int .i64) _ 3 ?hg (N := 43) ?hd (xs := ([0] : List Int)) (inner := [.int .i64 0]) (ok := fun _ => True) (okp := fun _ => True) ?hr ?hp (fun _ hk => hk) trivial (Below.refl _ _) (Nat.le_refl _) (by simp) ?_; (case hd => rfl); (case hg => rfl); (case hr => first | (go_simp; done) | (go_simp; rfl)); (case hp => exact (Reps.one (show Kd.M (Kd.int .i64) _ _ _ 0 [.int .i64 0] from rfl) (Reps.none _ _))); intro v407 w20 ho21 hb hg_ hnew_; clear hg_ hnew_; (first | rw [← Ny406.out] at ho21 | (simp only [Int.reduceToNat] at ho21; rw [← Ny406.out] at ho21)); have n0_ := Aside0.mk (N_elder' (by (with_reducible repeat (first | apply N_alloc | apply N_drewN | apply N_drew)); exact HO_7.out) (R_base ho21) hb); have n1_ := Aside0.mk (R_below (by (with_reducible repeat (first | apply R_alloc | apply R_drewN | apply R_drew)); exact HO_8.out) hb); have n2_ := Aside0.mk (R_elder' (by (with_reducible repeat (first | apply R_alloc | apply R_drewN | apply R_drew)); exact HO_11.out) (R_base ho21) hb); have n3_ := Aside0.mk (R_lower (R_new' (R_newM (M := fun k_ => (w.heap.size ≤ k_)) ho21 (below_size (by repeat (first | (with_reducible first | exact HB.out | apply below_alloc | apply pw_below_drewN | apply below_drew1 | refine below_set ?_ GE397.out) | exact HB.out))) (fun k_ h_ => h_)) (R_lt (by (with_reducible repeat (first | apply R_alloc | apply R_drewN | apply R_drew)); exact HO_11.out))) (below_size (by repeat (first | (with_reducible first | exact HB.out | apply below_alloc | apply pw_below_drewN | apply below_drew1 | refine below_set ?_ GE397.out) | exact HB.out)))); have n4_ := Aside0.mk (blk_below (g := gb397) (o := .cells #[.int .u32 (rd_T58 l0 x19_1).f0, .int .u32 (rd_T58 l0 x19_1).f1, .slice A396_2 (rd_T58 l0 x19_1).f2.length c396_2, .bool (rd_T58 l0 x19_1).f3, .int .i64 (rd_T58 l0 x19_1).f4, .int .i64 (rd_T58 l0 x19_1).f5, .int .i64 (rd_T58 l0 x19_1).f6] 58 (0, 0)) (by (with_reducible repeat (first | refine blk_drewN ?_ _ | refine blk_drew ?_ | refine blk_alloc ?_ _)); exact BK397.out) hb); have n5_ := Aside0.mk (below_step (by repeat (first | (with_reducible first | exact HB.out | apply below_alloc | apply pw_below_drewN | apply below_drew1 | refine below_set ?_ GE397.out) | exact HB.out)) hb); clear HO_7; clear HO_8; clear HO_11; clear BK397; clear HB; have HO_7 := n0_; have HO_8 := n1_; have HO_11 := n2_; have HO408 := n3_; have BK397 := n4_; have HB := n5_; clear n0_ n1_ n2_ n3_ n4_ n5_; clear hb ho21; obtain ⟨Ao23, co23, eo23⟩ := R_slice HO408.out; subst eo23) | ((with_reducible refine gate_builtin (b := .append) (xs := #[.tmp 41, .tmp 43]) rfl ?_); (try (refine gate_guard (by rfl) ?_; dsimp only)); at_builtin; refine R_append_rows (Kd.int .i64) (w0 := w) w.heap.size rfl (.tmp 41) (.tmp 43) 24 3 (.int .i64 0) 8 rfl Tryd.underlying24 info3 rfl (by decide) (by omega) u11 x11_2 y406 _ _ _ (fun k_ => (w.heap.size ≤ k_) ∧ some k_ ≠ (.slice Ao23 y406.length co23 : Value).ownBlock) (fun _ => False) rfl rfl ?aO ?aR (fun _ _ h => h) (fun _ h => h.elim) ?aF ?aB ?aS ?aL ?_; (case aR => repeat (first | exact (R_reads' HO408.out).2.2 | (with_reducible refine Kd.C_alloc ?_ _) | (with_reducible refine Kd.C_drewN ?_ _) | (with_reducible refine Kd.C_drew ?_))); (case aB => exact (by repeat (first | (with_reducible first | exact HB.out | apply below_alloc | apply pw_below_drewN | apply below_drew1 | refine below_set ?_ GE397.out) | exact HB.out))); (case aF => exact (fun k_ hk => ⟨(Nat.le_trans (below_size (by repeat (first | (with_reducible first | exact HB.out | apply below_alloc | apply pw_below_drewN | apply below_drew1 | refine below_set ?_ GE397.out) | exact HB.out))) hk), Kd.fresh' (R_lt (by (with_reducible repeat (first | apply R_alloc | apply R_drewN | apply R_drew)); exact HO408.out)) k_ hk⟩)); (case aO => exact (by (with_reducible repeat (first | apply R_alloc | apply R_drewN | apply R_drew)); exact HO_11.out)); (case aS => exact (below_size (by repeat (first | (with_reducible first | exact HB.out | apply below_alloc | apply pw_below_drewN | apply below_drew1 | refine below_set ?_ GE397.out) | exact HB.out)))); (case aL => have := LMc18.out; omega); intro v410 w22 ho hb hg hat; rw [← Ny409.out] at ho; have n0_ := Aside0.mk (N_afterv (ok := (fun k_ => (w.heap.size ≤ k_) ∧ some k_ ≠ (u8 : Value).ownBlock ∧ some k_ ≠ (.slice Ao23 y406.length co23 : Value).ownBlock ∧ k_ ≠ gb397)) (by (with_reducible repeat (first | apply N_alloc | apply N_drewN | apply N_drew)); exact N_mono HO_7.out (fun _ hk => ⟨⟨hk.1.1, ⟨hk.1.2.1, ⟨hk.2, hk.1.2.2.2⟩⟩⟩, hk.1.2.2.1⟩)) hg hat); have n1_ := Aside0.mk (R_over' (by (with_reducible repeat (first | apply R_alloc | apply R_drewN | apply R_drew)); exact HO_8.out) (R_typed (by (with_reducible repeat (first | apply R_alloc | apply R_drewN | apply R_drew)); exact HO_11.out)) (by decide) hg); have n2_ := Aside0.mk (blk_grown (g := gb397) (o := .cells #[.int .u32 (rd_T58 l0 x19_1).f0, .int .u32 (rd_T58 l0 x19_1).f1, .slice A396_2 (rd_T58 l0 x19_1).f2.length c396_2, .bool (rd_T58 l0 x19_1).f3, .int .i64 (rd_T58 l0 x19_1).f4, .int .i64 (rd_T58 l0 x19_1).f5, .int .i64 (rd_T58 l0 x19_1).f6] 58 (0, 0)) (by (with_reducible repeat (first | refine blk_drewN ?_ _ | refine blk_drew ?_ | refine blk_alloc ?_ _)); exact BK397.out) hg (R_ne HO_11.out BK397.out (by decide))); have n3_ := Aside0.mk (R_after (ok := (fun k_ => (w.heap.size ≤ k_))) (by (with_reducible repeat (first | apply R_alloc | apply R_drewN | apply R_drew)); exact R_mono HO408.out (fun _ hk => ⟨hk.1.1, hk.2⟩)) hg hat); have n4_ := Aside0.mk (hb); have n5_ := Aside0.mk (ho); clear HO_7; clear HO_8; clear BK397; clear HO408; clear HB; clear HO_11; have HO_7 := n0_; have HO_8 := n1_; have BK397 := n2_; have HO408 := n3_; have HB := n4_; have HO411 := n5_; clear n0_ n1_ n2_ n3_ n4_ n5_; clear ho hb hg hat))
           go_roundg k2
           case measure => have := HK1.out; have := HK2.out; omega
           case rel => exact ⟨(y409), (wrap64 (x12_2 + 1)), (by first | rfl | (simp; done) | (simp [*]; done)), H', ⟨by have := HK1.out; have := HK2.out; omega⟩, ⟨by (with_reducible repeat (first | apply N_alloc | apply N_drewN | apply N_drew)); exact N_mono HO_7.out (fun _ hk => ⟨hk.1.1, ⟨hk.1.2.1, ⟨hk.2, hk.1.2.2.2⟩⟩⟩)⟩, ⟨by (with_reducible repeat (first | apply R_alloc | apply R_drewN | apply R_drew)); exact HO_8.out⟩, ⟨by (with_reducible repeat (first | apply R_alloc | apply R_drewN | apply R_drew)); exact R_mono HO411.out (fun _ hk => hk.1)⟩, ⟨by (with_reducible repeat (first | refine blk_drewN ?_ _ | refine blk_drew ?_ | refine blk_alloc ?_ _)); exact BK397.out⟩, ⟨by repeat (first | (with_reducible first | exact HB.out | apply below_alloc | apply pw_below_drewN | apply below_drew1 | refine below_set ?_ GE397.out) | exact HB.out)⟩⟩
          ·rw [if_neg c18] at H
           exact absurd H (by simp)
        ·rw [if_neg c8] at H
         have c8b0 : decide (x12_2 < (wrap64 (a1 - 1))) = false := decide_eq_false c8
         clear c8
         replace H := Option.bind_eq_some_iff.mp H
         obtain ⟨t412, A240, H⟩ := H
         replace H : ((cohousinglaw22_residue.f (rd_T58 l0 x19_1).f1).bind fun t413 => ((lottery_Deal.f k2 (wrap64 (x19_1 + 1)) t412 t413 x11_2 (l0.length : Int)).bind fun bt415 => (if bt415.2.2.2 = 0 then (if (bt415.2.2.1.length : Int) = (l0.length : Int) then ((some (([(⟨bt415.1, bt415.2.1, bt415.2.2.1⟩ : S31)] : List (S31)) : List (S31))).bind fun y422 => (if x7_1.length + y422.length < 3518437208883 then ((some (([(⟨wrap64 (x19_1 + 1), t412, t413⟩ : S23)] : List (S23)) : List (S23))).bind fun y428 => (if x8_1.length + y428.length < 5864062014805 then (cohousinglaw22_dealt.l0 k2 l0 a1 (x7_1 ++ y422) (x8_1 ++ y428) l0 (l0.length : Int) (wrap64 (x19_1 + 1))) else (none))) else (none))) else (some (([] : List (S31)), ([] : List (S23)), false))) else (some (([] : List (S31)), ([] : List (S23)), false))))) = some (r1, r2, r3) := H
         have A24 := Aside0.mk A240
         clear A240
         replace H := Option.bind_eq_some_iff.mp H
         obtain ⟨t413, A250, H⟩ := H
         replace H : ((lottery_Deal.f k2 (wrap64 (x19_1 + 1)) t412 t413 x11_2 (l0.length : Int)).bind fun bt415 => (if bt415.2.2.2 = 0 then (if (bt415.2.2.1.length : Int) = (l0.length : Int) then ((some (([(⟨bt415.1, bt415.2.1, bt415.2.2.1⟩ : S31)] : List (S31)) : List (S31))).bind fun y422 => (if x7_1.length + y422.length < 3518437208883 then ((some (([(⟨wrap64 (x19_1 + 1), t412, t413⟩ : S23)] : List (S23)) : List (S23))).bind fun y428 => (if x8_1.length + y428.length < 5864062014805 then (cohousinglaw22_dealt.l0 k2 l0 a1 (x7_1 ++ y422) (x8_1 ++ y428) l0 (l0.length : Int) (wrap64 (x19_1 + 1))) else (none))) else (none))) else (some (([] : List (S31)), ([] : List (S23)), false))) else (some (([] : List (S31)), ([] : List (S23)), false)))) = some (r1, r2, r3) := H
         have A25 := Aside0.mk A250
         clear A250
         replace H := Option.bind_eq_some_iff.mp H
         obtain ⟨⟨t415, t416, t417, t420⟩, A260, H⟩ := H
         replace H : (if t420 = 0 then (if (t417.length : Int) = (l0.length : Int) then ((some (([(⟨t415, t416, t417⟩ : S31)] : List (S31)) : List (S31))).bind fun y422 => (if x7_1.length + y422.length < 3518437208883 then ((some (([(⟨wrap64 (x19_1 + 1), t412, t413⟩ : S23)] : List (S23)) : List (S23))).bind fun y428 => (if x8_1.length + y428.length < 5864062014805 then (cohousinglaw22_dealt.l0 k2 l0 a1 (x7_1 ++ y422) (x8_1 ++ y428) l0 (l0.length : Int) (wrap64 (x19_1 + 1))) else (none))) else (none))) else (some (([] : List (S31)), ([] : List (S23)), false))) else (some (([] : List (S31)), ([] : List (S23)), false))) = some (r1, r2, r3) := H
         have A26 := Aside0.mk A260
         clear A260
         by_cases c27 : t420 = 0
         ·rw [if_pos c27] at H
          have c27b0 : (t420 == 0) = true := beq_iff_eq.mpr c27
          have c27b1 : (t420 != 0) = false := bne_eq_false_iff_eq.mpr c27
          clear c27
          by_cases c28 : (t417.length : Int) = (l0.length : Int)
          ·rw [if_pos c28] at H
           have c28b0 : ((t417.length : Int) == (l0.length : Int)) = true := beq_iff_eq.mpr c28
           have c28b1 : ((t417.length : Int) != (l0.length : Int)) = false := bne_eq_false_iff_eq.mpr c28
           have c28b2 : (t417.length == l0.length) = true := by first | simpa using c28 | (simp at c28 ⊢; omega)
           clear c28
           obtain ⟨y422, hy422⟩ : ∃ y_ : List (S31), y_ = (([(⟨t415, t416, t417⟩ : S31)] : List (S31))) := ⟨_, rfl⟩
           replace H : (if x7_1.length + y422.length < 3518437208883 then ((some (([(⟨wrap64 (x19_1 + 1), t412, t413⟩ : S23)] : List (S23)) : List (S23))).bind fun y428 => (if x8_1.length + y428.length < 5864062014805 then (cohousinglaw22_dealt.l0 k2 l0 a1 (x7_1 ++ y422) (x8_1 ++ y428) l0 (l0.length : Int) (wrap64 (x19_1 + 1))) else (none))) else (none)) = some (r1, r2, r3) := by first | (rw [hy422]; with_reducible exact H) | (have H2_ := (Option.bind_some _ _).symm.trans H; rw [hy422]; with_reducible exact H2_) | (have H2_ := (Option.bind_some _ _).symm.trans H; with_reducible exact H2_) | with_reducible exact H | (rw [hy422]; exact H) | exact H
           have Ny422 := Aside0.mk hy422
           clear hy422
           by_cases c29 : x7_1.length + y422.length < 3518437208883
           ·rw [if_pos c29] at H
            have LMc29 := Aside0.mk c29
            clear c29
            obtain ⟨y425, hy425⟩ : ∃ y_ : List (S31), y_ = (x7_1 ++ y422) := ⟨_, rfl⟩
            replace H : ((some (([(⟨wrap64 (x19_1 + 1), t412, t413⟩ : S23)] : List (S23)) : List (S23))).bind fun y428 => (if x8_1.length + y428.length < 5864062014805 then (cohousinglaw22_dealt.l0 k2 l0 a1 y425 (x8_1 ++ y428) l0 (l0.length : Int) (wrap64 (x19_1 + 1))) else (none))) = some (r1, r2, r3) := by first | (rw [hy425]; with_reducible exact H) | (have H2_ := (Option.bind_some _ _).symm.trans H; rw [hy425]; with_reducible exact H2_) | (have H2_ := (Option.bind_some _ _).symm.trans H; with_reducible exact H2_) | with_reducible exact H | (rw [hy425]; exact H) | exact H
            have Ny425 := Aside0.mk hy425
            clear hy425
            obtain ⟨y428, hy428⟩ : ∃ y_ : List (S23), y_ = (([(⟨wrap64 (x19_1 + 1), t412, t413⟩ : S23)] : List (S23))) := ⟨_, rfl⟩
            replace H : (if x8_1.length + y428.length < 5864062014805 then (cohousinglaw22_dealt.l0 k2 l0 a1 y425 (x8_1 ++ y428) l0 (l0.length : Int) (wrap64 (x19_1 + 1))) else (none)) = some (r1, r2, r3) := by first | (rw [hy428]; with_reducible exact H) | (have H2_ := (Option.bind_some _ _).symm.trans H; rw [hy428]; with_reducible exact H2_) | (have H2_ := (Option.bind_some _ _).symm.trans H; with_reducible exact H2_) | with_reducible exact H | (rw [hy428]; exact H) | exact H
            have Ny428 := Aside0.mk hy428
            clear hy428
            by_cases c30 : x8_1.length + y428.length < 5864062014805
            ·rw [if_pos c30] at H
             have LMc30 := Aside0.mk c30
             clear c30
             obtain ⟨y431, hy431⟩ : ∃ y_ : List (S23), y_ = (x8_1 ++ y428) := ⟨_, rfl⟩
             replace H : (cohousinglaw22_dealt.l0 k2 l0 a1 y425 y431 l0 (l0.length : Int) (wrap64 (x19_1 + 1))) = some (r1, r2, r3) := by first | (rw [hy431]; with_reducible exact H) | (have H2_ := (Option.bind_some _ _).symm.trans H; rw [hy431]; with_reducible exact H2_) | (have H2_ := (Option.bind_some _ _).symm.trans H; with_reducible exact H2_) | with_reducible exact H | (rw [hy431]; exact H) | exact H
             have Ny431 := Aside0.mk hy431
             clear hy431
             have H' := Aside0.mk H
             clear H
             try go_wp2
             have n0_ := Aside0.mk (N_drew HO_7.out)
             have n1_ := Aside0.mk (R_drew HO_8.out)
             have n2_ := Aside0.mk (R_drew HO_11.out)
             have n3_ := Aside0.mk (blk_drew BK397.out)
             have n4_ := Aside0.mk (below_drew1 HB.out)
             clear HO_7
             clear HO_8
             clear HO_11
             clear BK397
             clear HB
             have HO_7 := n0_
             have HO_8 := n1_
             have HO_11 := n2_
             have BK397 := n3_
             have HB := n4_
             clear n0_ n1_ n2_ n3_ n4_
             refine start_ (n := 11) (S := fun w' => w'.cell? ⟨gb397, 0, none⟩ = some (.int .u32 (rd_T58 l0 x19_1).f0) ∧ w'.cell? ⟨gb397, 1, none⟩ = some (.int .u32 (rd_T58 l0 x19_1).f1) ∧ w'.cell? ⟨gb397, 2, none⟩ = some (.slice A396_2 (rd_T58 l0 x19_1).f2.length c396_2) ∧ w'.cell? ⟨gb397, 3, none⟩ = some (.bool (rd_T58 l0 x19_1).f3) ∧ w'.cell? ⟨gb397, 4, none⟩ = some (.int .i64 (rd_T58 l0 x19_1).f4) ∧ w'.cell? ⟨gb397, 5, none⟩ = some (.int .i64 (rd_T58 l0 x19_1).f5) ∧ w'.cell? ⟨gb397, 6, none⟩ = some (.int .i64 (rd_T58 l0 x19_1).f6)) (ds := []) #[false, false, false, false, false, false, false, false, false, false, false] (by kernel_rfl) rfl rfl ⟨(blk_cell BK397.out 0).trans rfl, (blk_cell BK397.out 1).trans rfl, (blk_cell BK397.out 2).trans rfl, (blk_cell BK397.out 3).trans rfl, (blk_cell BK397.out 4).trans rfl, (blk_cell BK397.out 5).trans rfl, (blk_cell BK397.out 6).trans rfl⟩ (fun hHeld => ?_); refine with_tabW cohousinglaw22_dealt.tab14 cohousinglaw22_dealt.bits14 (fun HT_ HW_ => ?_)
             generalize wr.drew = w31 at HO_7 HO_8 HO_11 BK397 HB hHeld ⊢
             refine pure_ (i := 0) (N := some 45) (v := ?_) (a' := ?_) #[true, false, false, false, false, false, false, false, false, false, false] rfl rfl (any_of HT_.out (by kernel_rfl)) (fun _ _ _ h => h) (Or.inl ⟨by rfl, ?_⟩) ?_ ?_
             rotate_left
             ·intro w'
              go_simp
              with_reducible rfl
             rotate_left
             ·simp only [Act.put, List.setIfInBounds_toArray, List.set_cons_zero, List.set_cons_succ, i64_w, i32_w]
              rfl
             refine pure_ (i := 1) (N := some 46) (v := ?_) (a' := ?_) #[true, true, false, false, false, false, false, false, false, false, false] rfl rfl (any_of HT_.out (by kernel_rfl)) (fun _ _ _ h => h) (Or.inl ⟨by rfl, ?_⟩) ?_ ?_
             rotate_left
             ·intro w'
              go_simp
              with_reducible rfl
             rotate_left
             ·simp only [Act.put, List.setIfInBounds_toArray, List.set_cons_zero, List.set_cons_succ, i64_w, i32_w]
              rfl
             refine pure_ (i := 2) (N := some 47) (v := ?_) (a' := ?_) #[true, true, true, false, false, false, false, false, false, false, false] rfl rfl (any_of HT_.out (by kernel_rfl)) (fun _ _ _ h => h) (Or.inl ⟨by rfl, ?_⟩) ?_ ?_
             rotate_left
             ·intro w'
              go_simp
              with_reducible rfl
             rotate_left
             ·simp only [Act.put, List.setIfInBounds_toArray, List.set_cons_zero, List.set_cons_succ, i64_w, i32_w]
              rfl
             refine pure_ (i := 5) (N := some 50) (v := ?_) (a' := ?_) #[true, true, true, false, false, true, false, false, false, false, false] rfl rfl (any_of HT_.out (by kernel_rfl)) (fun _ _ _ h => h) (Or.inl ⟨by rfl, ?_⟩) ?_ ?_
             rotate_left
             ·intro w'
              go_simp
              with_reducible rfl
             rotate_left
             ·simp only [Act.put, List.setIfInBounds_toArray, List.set_cons_zero, List.set_cons_succ, i64_w, i32_w]
              rfl
             refine take_ (i := 3) (N := some 48) (v := ?_) (a' := ?_) #[true, true, true, true, false, true, false, false, false, false, false] rfl rfl (take_ofW HT_.out HW_.out (by kernel_rfl)) (fun _ _ _ h => h) (Or.inl ⟨by rfl, ?_⟩) hHeld ?_ ?_
             rotate_left
             ·rintro w' ⟨s0, s1, s2, s3, s4, s5, s6⟩
              go_simp
              with_reducible rfl
             rotate_left
             ·simp only [Act.put, List.setIfInBounds_toArray, List.set_cons_zero, List.set_cons_succ, i64_w, i32_w]
              rfl
             refine take_ (i := 6) (N := some 51) (v := ?_) (a' := ?_) #[true, true, true, true, false, true, true, false, false, false, false] rfl rfl (take_ofW HT_.out HW_.out (by kernel_rfl)) (fun _ _ _ h => h) (Or.inl ⟨by rfl, ?_⟩) hHeld ?_ ?_
             rotate_left
             ·rintro w' ⟨s0, s1, s2, s3, s4, s5, s6⟩
              go_simp
              with_reducible rfl
             rotate_left
             ·simp only [Act.put, List.setIfInBounds_toArray, List.set_cons_zero, List.set_cons_succ, i64_w, i32_w]
              rfl
             refine join_ (σ := Nat) 1 #[true, true, true, true, true, true, true, true, true, true, false] (fun s_ => [(49, .int .i64 t412), (52, .int .i64 t413), (14, .pointer (some ⟨s_, 0, none⟩)), (53, .agg #[.int .i64 (wrap64 (x19_1 + 1)), .int .i64 t412, .int .i64 t413])]) (fun s_ w' => (w'.cell? ⟨gb397, 0, none⟩ = some (.int .u32 (rd_T58 l0 x19_1).f0) ∧ w'.cell? ⟨gb397, 1, none⟩ = some (.int .u32 (rd_T58 l0 x19_1).f1) ∧ w'.cell? ⟨gb397, 2, none⟩ = some (.slice A396_2 (rd_T58 l0 x19_1).f2.length c396_2) ∧ w'.cell? ⟨gb397, 3, none⟩ = some (.bool (rd_T58 l0 x19_1).f3) ∧ w'.cell? ⟨gb397, 4, none⟩ = some (.int .i64 (rd_T58 l0 x19_1).f4) ∧ w'.cell? ⟨gb397, 5, none⟩ = some (.int .i64 (rd_T58 l0 x19_1).f5) ∧ w'.cell? ⟨gb397, 6, none⟩ = some (.int .i64 (rd_T58 l0 x19_1).f6)) ∧ (Kd.R (Kd.int .i64) 3 w' w.heap.size (fun k_ => (w.heap.size ≤ k_)) u11 x11_2) ∧ (Kd.N k31 31 w' w.heap.size (fun k_ => (w.heap.size ≤ k_) ∧ some k_ ≠ (u11 : Value).ownBlock ∧ some k_ ≠ (u8 : Value).ownBlock ∧ k_ ≠ gb397 ∧ k_ ≠ s_) u7 x7_1) ∧ (Kd.R k23 23 w' w.heap.size (fun k_ => (w.heap.size ≤ k_) ∧ k_ ≠ s_) u8 x8_1) ∧ (w'.heap[gb397]? = some (.cells #[.int .u32 (rd_T58 l0 x19_1).f0, .int .u32 (rd_T58 l0 x19_1).f1, .slice A396_2 (rd_T58 l0 x19_1).f2.length c396_2, .bool (rd_T58 l0 x19_1).f3, .int .i64 (rd_T58 l0 x19_1).f4, .int .i64 (rd_T58 l0 x19_1).f5, .int .i64 (rd_T58 l0 x19_1).f6] 58 (0, 0))) ∧ (w'.heap[s_]? = some (.cells #[.int .i64 0, .int .i64 0, .int .i64 0] 23 (0, 0))) ∧ (w.heap.size ≤ s_) ∧ (w.heap.size ≤ s_) ∧ (gb397 ≠ s_) ∧ (s_ ≠ gb397) ∧ (Below w.heap.size w w')) ?_ ?_
             rotate_left
             ·intro hCont
              refine two_ (i := 4) (j := 9) (Ni := some 49) (Nj := some 14) #[true, true, true, true, true, true, true, false, false, false, false] #[true, true, true, true, false, true, true, false, false, true, false] rfl rfl rfl rfl (two_of HT_.out (by kernel_rfl)) (by decide) (by decide) (fun K hK => ?_) (fun K hK => ?_)
              ·skip
               refine goes_ Tryd.func47 (by kernel_rfl) rfl #[.int .u32 (rd_T58 l0 x19_1).f0] (by rfl) rfl rfl (by (try simp only [List.map_toArray, List.map_cons, List.map_nil]); first | done | rfl | (simp only [List.length_drop, List.length_take]; rfl)) ?_
               with_reducible refine (cohousinglaw22_residue.calls (rd_T58 l0 x19_1).f0 t412 _ A24.out).mono ?_
               rintro e w' ⟨rfl, ⟨nd, rfl⟩⟩
               refine ⟨_, rfl, ?_⟩
               refine hK.out _ _ ⟨(blk_cell BK397.out 0).trans rfl, (blk_cell BK397.out 1).trans rfl, (blk_cell BK397.out 2).trans rfl, (blk_cell BK397.out 3).trans rfl, (blk_cell BK397.out 4).trans rfl, (blk_cell BK397.out 5).trans rfl, (blk_cell BK397.out 6).trans rfl⟩ (fun hHeld => ?_)
               clear hK K
               refine norm_ (a' := ?_) ?_ ?_
               rotate_left
               ·show Act.put _ (some 49) _ = _
                simp only [Act.put, List.setIfInBounds_toArray, List.set_cons_zero, List.set_cons_succ, i64_w, i32_w]
                rfl
               refine two_ (i := 7) (j := 9) (Ni := some 52) (Nj := some 14) #[true, true, true, true, true, true, true, true, false, false, false] #[true, true, true, true, true, true, true, false, false, true, false] rfl rfl rfl rfl (two_of HT_.out (by kernel_rfl)) (by decide) (by decide) (fun K hK => ?_) (fun K hK => ?_)
               ·skip
                refine goes_ Tryd.func47 (by kernel_rfl) rfl #[.int .u32 (rd_T58 l0 x19_1).f1] (by rfl) rfl rfl (by (try simp only [List.map_toArray, List.map_cons, List.map_nil]); first | done | rfl | (simp only [List.length_drop, List.length_take]; rfl)) ?_
                with_reducible refine (cohousinglaw22_residue.calls (rd_T58 l0 x19_1).f1 t413 _ A25.out).mono ?_
                rintro e w' ⟨rfl, ⟨nd, rfl⟩⟩
                refine ⟨_, rfl, ?_⟩
                refine hK.out _ _ ⟨(blk_cell BK397.out 0).trans rfl, (blk_cell BK397.out 1).trans rfl, (blk_cell BK397.out 2).trans rfl, (blk_cell BK397.out 3).trans rfl, (blk_cell BK397.out 4).trans rfl, (blk_cell BK397.out 5).trans rfl, (blk_cell BK397.out 6).trans rfl⟩ (fun hHeld => ?_)
                clear hK K
                refine norm_ (a' := ?_) ?_ ?_
                rotate_left
                ·show Act.put _ (some 52) _ = _
                 simp only [Act.put, List.setIfInBounds_toArray, List.set_cons_zero, List.set_cons_succ, i64_w, i32_w]
                 rfl
                refine pure_ (i := 8) (N := some 53) (v := ?_) (a' := ?_) #[true, true, true, true, true, true, true, true, true, false, false] rfl rfl (any_of HT_.out (by kernel_rfl)) (fun _ _ _ h => h) (Or.inl ⟨by rfl, ?_⟩) ?_ ?_
                rotate_left
                ·intro w'
                 go_simp
                 with_reducible rfl
                rotate_left
                ·simp only [Act.put, List.setIfInBounds_toArray, List.set_cons_zero, List.set_cons_succ, i64_w, i32_w]
                 rfl
                refine one_ (i := 9) (N := some 14) #[true, true, true, true, true, true, true, true, true, true, false] rfl rfl (one_of HT_.out (by kernel_rfl)) (by decide) (fun K hK => ?_)
                refine box_step ?hg (N := 14) ?hd (cs := #[.int .i64 0, .int .i64 0, .int .i64 0]) (t := 23) ?hr ?_; (case hd => rfl); (case hg => rfl); (case hr => first | (go_simp; done) | (go_simp; rfl))
                intro gb414 hg w32 hbox hb
                have n0_ := Aside0.mk (N_below (N_elderB (by (with_reducible repeat (first | apply N_alloc | apply N_drewN | apply N_drew)); exact HO_7.out) gb414 (Nat.le_of_eq hg.symm)) hb)
                have n1_ := Aside0.mk (R_below (R_elderB (by (with_reducible repeat (first | apply R_alloc | apply R_drewN | apply R_drew)); exact HO_8.out) gb414 (Nat.le_of_eq hg.symm)) hb)
                have n2_ := Aside0.mk (R_below (by (with_reducible repeat (first | apply R_alloc | apply R_drewN | apply R_drew)); exact HO_11.out) hb)
                have n3_ := Aside0.mk (blk_below (g := gb397) (o := .cells #[.int .u32 (rd_T58 l0 x19_1).f0, .int .u32 (rd_T58 l0 x19_1).f1, .slice A396_2 (rd_T58 l0 x19_1).f2.length c396_2, .bool (rd_T58 l0 x19_1).f3, .int .i64 (rd_T58 l0 x19_1).f4, .int .i64 (rd_T58 l0 x19_1).f5, .int .i64 (rd_T58 l0 x19_1).f6] 58 (0, 0)) (by (with_reducible repeat (first | refine blk_drewN ?_ _ | refine blk_drew ?_ | refine blk_alloc ?_ _)); exact BK397.out) hb)
                have n4_ := Aside0.mk (below_step (by repeat (first | (with_reducible first | exact HB.out | apply below_alloc | apply pw_below_drewN | apply below_drew1 | refine below_set ?_ GE397.out) | exact HB.out)) hb)
                have n5_ := Aside0.mk (hbox)
                have n6_ := Aside0.mk ((by rw [hg]; exact (below_size (by repeat (first | (with_reducible first | exact HB.out | apply below_alloc | apply pw_below_drewN | apply below_drew1 | refine below_set ?_ GE397.out) | exact HB.out))) : w.heap.size ≤ gb414))
                have n7_ := Aside0.mk ((by rw [hg]; exact (below_size (by repeat (first | (with_reducible first | exact HB.out | apply below_alloc | apply pw_below_drewN | apply below_drew1 | refine below_set ?_ GE397.out) | exact HB.out))) : w.heap.size ≤ gb414))
                have n8_ := Aside0.mk ((by rw [hg]; exact Nat.ne_of_lt (blk_lt (g := gb397) (o := .cells #[.int .u32 (rd_T58 l0 x19_1).f0, .int .u32 (rd_T58 l0 x19_1).f1, .slice A396_2 (rd_T58 l0 x19_1).f2.length c396_2, .bool (rd_T58 l0 x19_1).f3, .int .i64 (rd_T58 l0 x19_1).f4, .int .i64 (rd_T58 l0 x19_1).f5, .int .i64 (rd_T58 l0 x19_1).f6] 58 (0, 0)) (by (with_reducible repeat (first | refine blk_drewN ?_ _ | refine blk_drew ?_ | refine blk_alloc ?_ _)); exact BK397.out)) : gb397 ≠ gb414))
                have n9_ := Aside0.mk ((by rw [hg]; exact Nat.ne_of_gt (blk_lt (g := gb397) (o := .cells #[.int .u32 (rd_T58 l0 x19_1).f0, .int .u32 (rd_T58 l0 x19_1).f1, .slice A396_2 (rd_T58 l0 x19_1).f2.length c396_2, .bool (rd_T58 l0 x19_1).f3, .int .i64 (rd_T58 l0 x19_1).f4, .int .i64 (rd_T58 l0 x19_1).f5, .int .i64 (rd_T58 l0 x19_1).f6] 58 (0, 0)) (by (with_reducible repeat (first | refine blk_drewN ?_ _ | refine blk_drew ?_ | refine blk_alloc ?_ _)); exact BK397.out)) : gb414 ≠ gb397))
                clear HO_7
                clear HO_8
                clear HO_11
                clear BK397
                clear HB
                have HO_7 := n0_
                have HO_8 := n1_
                have HO_11 := n2_
                have BK397 := n3_
                have HB := n4_
                have BK414 := n5_
                have GW414 := n6_
                have GE414 := n7_
                have NB397_414 := n8_
                have NB414_397 := n9_
                clear n0_ n1_ n2_ n3_ n4_ n5_ n6_ n7_ n8_ n9_
                clear hb hbox hg
                refine hK.out _ _ ⟨(blk_cell BK397.out 0).trans rfl, (blk_cell BK397.out 1).trans rfl, (blk_cell BK397.out 2).trans rfl, (blk_cell BK397.out 3).trans rfl, (blk_cell BK397.out 4).trans rfl, (blk_cell BK397.out 5).trans rfl, (blk_cell BK397.out 6).trans rfl⟩ (fun hHeld => ?_)
                clear hK K
                refine norm_ (a' := ?_) ?_ ?_
                rotate_left
                ·show Act.put _ (some 14) _ = _
                 simp only [Act.put, List.setIfInBounds_toArray, List.set_cons_zero, List.set_cons_succ, i64_w, i32_w]
                 rfl
                exact norm_ (by simp only [putAll, Act.put, List.setIfInBounds_toArray, List.set_cons_zero, List.set_cons_succ]) (hCont (gb414) _ ⟨hHeld, (by (with_reducible repeat (first | apply R_alloc | apply R_drewN | apply R_drew)); exact HO_11.out), (by (with_reducible repeat (first | apply N_alloc | apply N_drewN | apply N_drew)); exact N_mono HO_7.out (fun _ hk => ⟨hk.1.1, ⟨hk.1.2.2.1, ⟨hk.1.2.1, ⟨hk.1.2.2.2, hk.2⟩⟩⟩⟩)), (by (with_reducible repeat (first | apply R_alloc | apply R_drewN | apply R_drew)); exact HO_8.out), (by (with_reducible repeat (first | refine blk_drewN ?_ _ | refine blk_drew ?_ | refine blk_alloc ?_ _)); exact BK397.out), (by (with_reducible repeat (first | refine blk_drewN ?_ _ | refine blk_drew ?_ | refine blk_alloc ?_ _)); exact BK414.out), GW414.out, GE414.out, NB397_414.out, NB414_397.out, (by repeat (first | (with_reducible first | exact HB.out | apply below_alloc | apply pw_below_drewN | apply below_drew1 | refine below_set ?_ GE397.out | refine below_set ?_ GE414.out) | exact HB.out))⟩)
               ·skip
                refine box_step ?hg (N := 14) ?hd (cs := #[.int .i64 0, .int .i64 0, .int .i64 0]) (t := 23) ?hr ?_; (case hd => rfl); (case hg => rfl); (case hr => first | (go_simp; done) | (go_simp; rfl))
                intro gb414 hg w32 hbox hb
                have n0_ := Aside0.mk (N_below (N_elderB (by (with_reducible repeat (first | apply N_alloc | apply N_drewN | apply N_drew)); exact HO_7.out) gb414 (Nat.le_of_eq hg.symm)) hb)
                have n1_ := Aside0.mk (R_below (R_elderB (by (with_reducible repeat (first | apply R_alloc | apply R_drewN | apply R_drew)); exact HO_8.out) gb414 (Nat.le_of_eq hg.symm)) hb)
                have n2_ := Aside0.mk (R_below (by (with_reducible repeat (first | apply R_alloc | apply R_drewN | apply R_drew)); exact HO_11.out) hb)
                have n3_ := Aside0.mk (blk_below (g := gb397) (o := .cells #[.int .u32 (rd_T58 l0 x19_1).f0, .int .u32 (rd_T58 l0 x19_1).f1, .slice A396_2 (rd_T58 l0 x19_1).f2.length c396_2, .bool (rd_T58 l0 x19_1).f3, .int .i64 (rd_T58 l0 x19_1).f4, .int .i64 (rd_T58 l0 x19_1).f5, .int .i64 (rd_T58 l0 x19_1).f6] 58 (0, 0)) (by (with_reducible repeat (first | refine blk_drewN ?_ _ | refine blk_drew ?_ | refine blk_alloc ?_ _)); exact BK397.out) hb)
                have n4_ := Aside0.mk (below_step (by repeat (first | (with_reducible first | exact HB.out | apply below_alloc | apply pw_below_drewN | apply below_drew1 | refine below_set ?_ GE397.out) | exact HB.out)) hb)
                have n5_ := Aside0.mk (hbox)
                have n6_ := Aside0.mk ((by rw [hg]; exact (below_size (by repeat (first | (with_reducible first | exact HB.out | apply below_alloc | apply pw_below_drewN | apply below_drew1 | refine below_set ?_ GE397.out) | exact HB.out))) : w.heap.size ≤ gb414))
                have n7_ := Aside0.mk ((by rw [hg]; exact (below_size (by repeat (first | (with_reducible first | exact HB.out | apply below_alloc | apply pw_below_drewN | apply below_drew1 | refine below_set ?_ GE397.out) | exact HB.out))) : w.heap.size ≤ gb414))
                have n8_ := Aside0.mk ((by rw [hg]; exact Nat.ne_of_lt (blk_lt (g := gb397) (o := .cells #[.int .u32 (rd_T58 l0 x19_1).f0, .int .u32 (rd_T58 l0 x19_1).f1, .slice A396_2 (rd_T58 l0 x19_1).f2.length c396_2, .bool (rd_T58 l0 x19_1).f3, .int .i64 (rd_T58 l0 x19_1).f4, .int .i64 (rd_T58 l0 x19_1).f5, .int .i64 (rd_T58 l0 x19_1).f6] 58 (0, 0)) (by (with_reducible repeat (first | refine blk_drewN ?_ _ | refine blk_drew ?_ | refine blk_alloc ?_ _)); exact BK397.out)) : gb397 ≠ gb414))
                have n9_ := Aside0.mk ((by rw [hg]; exact Nat.ne_of_gt (blk_lt (g := gb397) (o := .cells #[.int .u32 (rd_T58 l0 x19_1).f0, .int .u32 (rd_T58 l0 x19_1).f1, .slice A396_2 (rd_T58 l0 x19_1).f2.length c396_2, .bool (rd_T58 l0 x19_1).f3, .int .i64 (rd_T58 l0 x19_1).f4, .int .i64 (rd_T58 l0 x19_1).f5, .int .i64 (rd_T58 l0 x19_1).f6] 58 (0, 0)) (by (with_reducible repeat (first | refine blk_drewN ?_ _ | refine blk_drew ?_ | refine blk_alloc ?_ _)); exact BK397.out)) : gb414 ≠ gb397))
                clear HO_7
                clear HO_8
                clear HO_11
                clear BK397
                clear HB
                have HO_7 := n0_
                have HO_8 := n1_
                have HO_11 := n2_
                have BK397 := n3_
                have HB := n4_
                have BK414 := n5_
                have GW414 := n6_
                have GE414 := n7_
                have NB397_414 := n8_
                have NB414_397 := n9_
                clear n0_ n1_ n2_ n3_ n4_ n5_ n6_ n7_ n8_ n9_
                clear hb hbox hg
                refine hK.out _ _ ⟨(blk_cell BK397.out 0).trans rfl, (blk_cell BK397.out 1).trans rfl, (blk_cell BK397.out 2).trans rfl, (blk_cell BK397.out 3).trans rfl, (blk_cell BK397.out 4).trans rfl, (blk_cell BK397.out 5).trans rfl, (blk_cell BK397.out 6).trans rfl⟩ (fun hHeld => ?_)
                clear hK K
                refine norm_ (a' := ?_) ?_ ?_
                rotate_left
                ·show Act.put _ (some 14) _ = _
                 simp only [Act.put, List.setIfInBounds_toArray, List.set_cons_zero, List.set_cons_succ, i64_w, i32_w]
                 rfl
                refine one_ (i := 7) (N := some 52) #[true, true, true, true, true, true, true, true, false, true, false] rfl rfl (one_of HT_.out (by kernel_rfl)) (by decide) (fun K hK => ?_)
                refine goes_ Tryd.func47 (by kernel_rfl) rfl #[.int .u32 (rd_T58 l0 x19_1).f1] (by rfl) rfl rfl (by (try simp only [List.map_toArray, List.map_cons, List.map_nil]); first | done | rfl | (simp only [List.length_drop, List.length_take]; rfl)) ?_
                with_reducible refine (cohousinglaw22_residue.calls (rd_T58 l0 x19_1).f1 t413 _ A25.out).mono ?_
                rintro e w' ⟨rfl, ⟨nd, rfl⟩⟩
                refine ⟨_, rfl, ?_⟩
                refine hK.out _ _ ⟨(blk_cell BK397.out 0).trans rfl, (blk_cell BK397.out 1).trans rfl, (blk_cell BK397.out 2).trans rfl, (blk_cell BK397.out 3).trans rfl, (blk_cell BK397.out 4).trans rfl, (blk_cell BK397.out 5).trans rfl, (blk_cell BK397.out 6).trans rfl⟩ (fun hHeld => ?_)
                clear hK K
                refine norm_ (a' := ?_) ?_ ?_
                rotate_left
                ·show Act.put _ (some 52) _ = _
                 simp only [Act.put, List.setIfInBounds_toArray, List.set_cons_zero, List.set_cons_succ, i64_w, i32_w]
                 rfl
                refine pure_ (i := 8) (N := some 53) (v := ?_) (a' := ?_) #[true, true, true, true, true, true, true, true, true, true, false] rfl rfl (any_of HT_.out (by kernel_rfl)) (fun _ _ _ h => h) (Or.inl ⟨by rfl, ?_⟩) ?_ ?_
                rotate_left
                ·intro w'
                 go_simp
                 with_reducible rfl
                rotate_left
                ·simp only [Act.put, List.setIfInBounds_toArray, List.set_cons_zero, List.set_cons_succ, i64_w, i32_w]
                 rfl
                exact norm_ (by simp only [putAll, Act.put, List.setIfInBounds_toArray, List.set_cons_zero, List.set_cons_succ]) (hCont (gb414) _ ⟨hHeld, (by (with_reducible repeat (first | apply R_alloc | apply R_drewN | apply R_drew)); exact HO_11.out), (by (with_reducible repeat (first | apply N_alloc | apply N_drewN | apply N_drew)); exact N_mono HO_7.out (fun _ hk => ⟨hk.1.1, ⟨hk.1.2.2.1, ⟨hk.1.2.1, ⟨hk.1.2.2.2, hk.2⟩⟩⟩⟩)), (by (with_reducible repeat (first | apply R_alloc | apply R_drewN | apply R_drew)); exact HO_8.out), (by (with_reducible repeat (first | refine blk_drewN ?_ _ | refine blk_drew ?_ | refine blk_alloc ?_ _)); exact BK397.out), (by (with_reducible repeat (first | refine blk_drewN ?_ _ | refine blk_drew ?_ | refine blk_alloc ?_ _)); exact BK414.out), GW414.out, GE414.out, NB397_414.out, NB414_397.out, (by repeat (first | (with_reducible first | exact HB.out | apply below_alloc | apply pw_below_drewN | apply below_drew1 | refine below_set ?_ GE397.out | refine below_set ?_ GE414.out) | exact HB.out))⟩)
              ·skip
               refine box_step ?hg (N := 14) ?hd (cs := #[.int .i64 0, .int .i64 0, .int .i64 0]) (t := 23) ?hr ?_; (case hd => rfl); (case hg => rfl); (case hr => first | (go_simp; done) | (go_simp; rfl))
               intro gb414 hg w32 hbox hb
               have n0_ := Aside0.mk (N_below (N_elderB (by (with_reducible repeat (first | apply N_alloc | apply N_drewN | apply N_drew)); exact HO_7.out) gb414 (Nat.le_of_eq hg.symm)) hb)
               have n1_ := Aside0.mk (R_below (R_elderB (by (with_reducible repeat (first | apply R_alloc | apply R_drewN | apply R_drew)); exact HO_8.out) gb414 (Nat.le_of_eq hg.symm)) hb)
               have n2_ := Aside0.mk (R_below (by (with_reducible repeat (first | apply R_alloc | apply R_drewN | apply R_drew)); exact HO_11.out) hb)
               have n3_ := Aside0.mk (blk_below (g := gb397) (o := .cells #[.int .u32 (rd_T58 l0 x19_1).f0, .int .u32 (rd_T58 l0 x19_1).f1, .slice A396_2 (rd_T58 l0 x19_1).f2.length c396_2, .bool (rd_T58 l0 x19_1).f3, .int .i64 (rd_T58 l0 x19_1).f4, .int .i64 (rd_T58 l0 x19_1).f5, .int .i64 (rd_T58 l0 x19_1).f6] 58 (0, 0)) (by (with_reducible repeat (first | refine blk_drewN ?_ _ | refine blk_drew ?_ | refine blk_alloc ?_ _)); exact BK397.out) hb)
               have n4_ := Aside0.mk (below_step (by repeat (first | (with_reducible first | exact HB.out | apply below_alloc | apply pw_below_drewN | apply below_drew1 | refine below_set ?_ GE397.out) | exact HB.out)) hb)
               have n5_ := Aside0.mk (hbox)
               have n6_ := Aside0.mk ((by rw [hg]; exact (below_size (by repeat (first | (with_reducible first | exact HB.out | apply below_alloc | apply pw_below_drewN | apply below_drew1 | refine below_set ?_ GE397.out) | exact HB.out))) : w.heap.size ≤ gb414))
               have n7_ := Aside0.mk ((by rw [hg]; exact (below_size (by repeat (first | (with_reducible first | exact HB.out | apply below_alloc | apply pw_below_drewN | apply below_drew1 | refine below_set ?_ GE397.out) | exact HB.out))) : w.heap.size ≤ gb414))
               have n8_ := Aside0.mk ((by rw [hg]; exact Nat.ne_of_lt (blk_lt (g := gb397) (o := .cells #[.int .u32 (rd_T58 l0 x19_1).f0, .int .u32 (rd_T58 l0 x19_1).f1, .slice A396_2 (rd_T58 l0 x19_1).f2.length c396_2, .bool (rd_T58 l0 x19_1).f3, .int .i64 (rd_T58 l0 x19_1).f4, .int .i64 (rd_T58 l0 x19_1).f5, .int .i64 (rd_T58 l0 x19_1).f6] 58 (0, 0)) (by (with_reducible repeat (first | refine blk_drewN ?_ _ | refine blk_drew ?_ | refine blk_alloc ?_ _)); exact BK397.out)) : gb397 ≠ gb414))
               have n9_ := Aside0.mk ((by rw [hg]; exact Nat.ne_of_gt (blk_lt (g := gb397) (o := .cells #[.int .u32 (rd_T58 l0 x19_1).f0, .int .u32 (rd_T58 l0 x19_1).f1, .slice A396_2 (rd_T58 l0 x19_1).f2.length c396_2, .bool (rd_T58 l0 x19_1).f3, .int .i64 (rd_T58 l0 x19_1).f4, .int .i64 (rd_T58 l0 x19_1).f5, .int .i64 (rd_T58 l0 x19_1).f6] 58 (0, 0)) (by (with_reducible repeat (first | refine blk_drewN ?_ _ | refine blk_drew ?_ | refine blk_alloc ?_ _)); exact BK397.out)) : gb414 ≠ gb397))
               clear HO_7
               clear HO_8
               clear HO_11
               clear BK397
               clear HB
               have HO_7 := n0_
               have HO_8 := n1_
               have HO_11 := n2_
               have BK397 := n3_
               have HB := n4_
               have BK414 := n5_
               have GW414 := n6_
               have GE414 := n7_
               have NB397_414 := n8_
               have NB414_397 := n9_
               clear n0_ n1_ n2_ n3_ n4_ n5_ n6_ n7_ n8_ n9_
               clear hb hbox hg
               refine hK.out _ _ ⟨(blk_cell BK397.out 0).trans rfl, (blk_cell BK397.out 1).trans rfl, (blk_cell BK397.out 2).trans rfl, (blk_cell BK397.out 3).trans rfl, (blk_cell BK397.out 4).trans rfl, (blk_cell BK397.out 5).trans rfl, (blk_cell BK397.out 6).trans rfl⟩ (fun hHeld => ?_)
               clear hK K
               refine norm_ (a' := ?_) ?_ ?_
               rotate_left
               ·show Act.put _ (some 14) _ = _
                simp only [Act.put, List.setIfInBounds_toArray, List.set_cons_zero, List.set_cons_succ, i64_w, i32_w]
                rfl
               refine one_ (i := 4) (N := some 49) #[true, true, true, true, true, true, true, false, false, true, false] rfl rfl (one_of HT_.out (by kernel_rfl)) (by decide) (fun K hK => ?_)
               refine goes_ Tryd.func47 (by kernel_rfl) rfl #[.int .u32 (rd_T58 l0 x19_1).f0] (by rfl) rfl rfl (by (try simp only [List.map_toArray, List.map_cons, List.map_nil]); first | done | rfl | (simp only [List.length_drop, List.length_take]; rfl)) ?_
               with_reducible refine (cohousinglaw22_residue.calls (rd_T58 l0 x19_1).f0 t412 _ A24.out).mono ?_
               rintro e w' ⟨rfl, ⟨nd, rfl⟩⟩
               refine ⟨_, rfl, ?_⟩
               refine hK.out _ _ ⟨(blk_cell BK397.out 0).trans rfl, (blk_cell BK397.out 1).trans rfl, (blk_cell BK397.out 2).trans rfl, (blk_cell BK397.out 3).trans rfl, (blk_cell BK397.out 4).trans rfl, (blk_cell BK397.out 5).trans rfl, (blk_cell BK397.out 6).trans rfl⟩ (fun hHeld => ?_)
               clear hK K
               refine norm_ (a' := ?_) ?_ ?_
               rotate_left
               ·show Act.put _ (some 49) _ = _
                simp only [Act.put, List.setIfInBounds_toArray, List.set_cons_zero, List.set_cons_succ, i64_w, i32_w]
                rfl
               refine one_ (i := 7) (N := some 52) #[true, true, true, true, true, true, true, true, false, true, false] rfl rfl (one_of HT_.out (by kernel_rfl)) (by decide) (fun K hK => ?_)
               refine goes_ Tryd.func47 (by kernel_rfl) rfl #[.int .u32 (rd_T58 l0 x19_1).f1] (by rfl) rfl rfl (by (try simp only [List.map_toArray, List.map_cons, List.map_nil]); first | done | rfl | (simp only [List.length_drop, List.length_take]; rfl)) ?_
               with_reducible refine (cohousinglaw22_residue.calls (rd_T58 l0 x19_1).f1 t413 _ A25.out).mono ?_
               rintro e w' ⟨rfl, ⟨nd, rfl⟩⟩
               refine ⟨_, rfl, ?_⟩
               refine hK.out _ _ ⟨(blk_cell BK397.out 0).trans rfl, (blk_cell BK397.out 1).trans rfl, (blk_cell BK397.out 2).trans rfl, (blk_cell BK397.out 3).trans rfl, (blk_cell BK397.out 4).trans rfl, (blk_cell BK397.out 5).trans rfl, (blk_cell BK397.out 6).trans rfl⟩ (fun hHeld => ?_)
               clear hK K
               refine norm_ (a' := ?_) ?_ ?_
               rotate_left
               ·show Act.put _ (some 52) _ = _
                simp only [Act.put, List.setIfInBounds_toArray, List.set_cons_zero, List.set_cons_succ, i64_w, i32_w]
                rfl
               refine pure_ (i := 8) (N := some 53) (v := ?_) (a' := ?_) #[true, true, true, true, true, true, true, true, true, true, false] rfl rfl (any_of HT_.out (by kernel_rfl)) (fun _ _ _ h => h) (Or.inl ⟨by rfl, ?_⟩) ?_ ?_
               rotate_left
               ·intro w'
                go_simp
                with_reducible rfl
               rotate_left
               ·simp only [Act.put, List.setIfInBounds_toArray, List.set_cons_zero, List.set_cons_succ, i64_w, i32_w]
                rfl
               exact norm_ (by simp only [putAll, Act.put, List.setIfInBounds_toArray, List.set_cons_zero, List.set_cons_succ]) (hCont (gb414) _ ⟨hHeld, (by (with_reducible repeat (first | apply R_alloc | apply R_drewN | apply R_drew)); exact HO_11.out), (by (with_reducible repeat (first | apply N_alloc | apply N_drewN | apply N_drew)); exact N_mono HO_7.out (fun _ hk => ⟨hk.1.1, ⟨hk.1.2.2.1, ⟨hk.1.2.1, ⟨hk.1.2.2.2, hk.2⟩⟩⟩⟩)), (by (with_reducible repeat (first | apply R_alloc | apply R_drewN | apply R_drew)); exact HO_8.out), (by (with_reducible repeat (first | refine blk_drewN ?_ _ | refine blk_drew ?_ | refine blk_alloc ?_ _)); exact BK397.out), (by (with_reducible repeat (first | refine blk_drewN ?_ _ | refine blk_drew ?_ | refine blk_alloc ?_ _)); exact BK414.out), GW414.out, GE414.out, NB397_414.out, NB414_397.out, (by repeat (first | (with_reducible first | exact HB.out | apply below_alloc | apply pw_below_drewN | apply below_drew1 | refine below_set ?_ GE397.out | refine below_set ?_ GE414.out) | exact HB.out))⟩)
             rintro gb414 w33 ⟨hS_, h0_, h1_, h2_, h3_, h4_, h5_, h6_, h7_, h8_, h9_⟩
             have n0_ : Aside0 (Kd.R (Kd.int .i64) 3 w33 w.heap.size (fun k_ => (w.heap.size ≤ k_)) u11 x11_2) := ⟨h0_⟩
             have n1_ : Aside0 (Kd.N k31 31 w33 w.heap.size (fun k_ => (w.heap.size ≤ k_) ∧ some k_ ≠ (u11 : Value).ownBlock ∧ some k_ ≠ (u8 : Value).ownBlock ∧ k_ ≠ gb397 ∧ k_ ≠ gb414) u7 x7_1) := ⟨h1_⟩
             have n2_ : Aside0 (Kd.R k23 23 w33 w.heap.size (fun k_ => (w.heap.size ≤ k_) ∧ k_ ≠ gb414) u8 x8_1) := ⟨h2_⟩
             have n3_ : Aside0 (w33.heap[gb397]? = some (.cells #[.int .u32 (rd_T58 l0 x19_1).f0, .int .u32 (rd_T58 l0 x19_1).f1, .slice A396_2 (rd_T58 l0 x19_1).f2.length c396_2, .bool (rd_T58 l0 x19_1).f3, .int .i64 (rd_T58 l0 x19_1).f4, .int .i64 (rd_T58 l0 x19_1).f5, .int .i64 (rd_T58 l0 x19_1).f6] 58 (0, 0))) := ⟨h3_⟩
             have n4_ : Aside0 (w33.heap[gb414]? = some (.cells #[.int .i64 0, .int .i64 0, .int .i64 0] 23 (0, 0))) := ⟨h4_⟩
             have n5_ : Aside0 (w.heap.size ≤ gb414) := ⟨h5_⟩
             have n6_ : Aside0 (w.heap.size ≤ gb414) := ⟨h6_⟩
             have n7_ : Aside0 (gb397 ≠ gb414) := ⟨h7_⟩
             have n8_ : Aside0 (gb414 ≠ gb397) := ⟨h8_⟩
             have n9_ : Aside0 (Below w.heap.size w w33) := ⟨h9_⟩
             clear HO_7
             clear HO_8
             clear HO_11
             clear BK397
             clear HB
             clear h0_ h1_ h2_ h3_ h4_ h5_ h6_ h7_ h8_ h9_
             have HO_11 := n0_
             have HO_7 := n1_
             have HO_8 := n2_
             have BK397 := n3_
             have BK414 := n4_
             have GW414 := n5_
             have GE414 := n6_
             have NB397_414 := n7_
             have NB414_397 := n8_
             have HB := n9_
             clear n0_ n1_ n2_ n3_ n4_ n5_ n6_ n7_ n8_ n9_
             have hHeld : w33.cell? ⟨gb397, 0, none⟩ = some (.int .u32 (rd_T58 l0 x19_1).f0) ∧ w33.cell? ⟨gb397, 1, none⟩ = some (.int .u32 (rd_T58 l0 x19_1).f1) ∧ w33.cell? ⟨gb397, 2, none⟩ = some (.slice A396_2 (rd_T58 l0 x19_1).f2.length c396_2) ∧ w33.cell? ⟨gb397, 3, none⟩ = some (.bool (rd_T58 l0 x19_1).f3) ∧ w33.cell? ⟨gb397, 4, none⟩ = some (.int .i64 (rd_T58 l0 x19_1).f4) ∧ w33.cell? ⟨gb397, 5, none⟩ = some (.int .i64 (rd_T58 l0 x19_1).f5) ∧ w33.cell? ⟨gb397, 6, none⟩ = some (.int .i64 (rd_T58 l0 x19_1).f6) := hS_
             refine norm_ (a' := ?_) ?_ ?_
             rotate_left
             ·simp only [putAll, Act.put, List.setIfInBounds_toArray, List.set_cons_zero, List.set_cons_succ]
              rfl
             refine one_ (i := 10) (N := none) #[true, true, true, true, true, true, true, true, true, true, true] rfl rfl (one_of HT_.out (by kernel_rfl)) (by decide) (fun K hK => ?_)
             have hs34 : w33.cell? ⟨gb414, 0, none⟩ = some (.int .i64 0) := (blk_cell BK414.out 0).trans rfl
             have hfs34 := blk_frozen BK414.out 0
             have hns34_0 := NB397_414.out
             have hms34_0 := NB414_397.out
             have hs35 : w33.cell? ⟨gb414, 1, none⟩ = some (.int .i64 0) := (blk_cell BK414.out 1).trans rfl
             have hfs35 := blk_frozen BK414.out 1
             have hns35_0 := NB397_414.out
             have hms35_0 := NB414_397.out
             have hs36 : w33.cell? ⟨gb414, 2, none⟩ = some (.int .i64 0) := (blk_cell BK414.out 2).trans rfl
             have hfs36 := blk_frozen BK414.out 2
             have hns36_0 := NB397_414.out
             have hms36_0 := NB414_397.out
             refine skip_ (w1 := ?_) (by rfl) rfl ?_ ?_
             rotate_left
             ·go_simp
              rfl
             refine hK.out _ _ ⟨((cell_far (p := ⟨gb414, _, none⟩) NB397_414.out _).trans (((cell_far (p := ⟨gb414, _, none⟩) NB397_414.out _).trans (((cell_far (p := ⟨gb414, _, none⟩) NB397_414.out _).trans (hHeld.1)))))), ((cell_far (p := ⟨gb414, _, none⟩) NB397_414.out _).trans (((cell_far (p := ⟨gb414, _, none⟩) NB397_414.out _).trans (((cell_far (p := ⟨gb414, _, none⟩) NB397_414.out _).trans (hHeld.2.1)))))), ((cell_far (p := ⟨gb414, _, none⟩) NB397_414.out _).trans (((cell_far (p := ⟨gb414, _, none⟩) NB397_414.out _).trans (((cell_far (p := ⟨gb414, _, none⟩) NB397_414.out _).trans (hHeld.2.2.1)))))), ((cell_far (p := ⟨gb414, _, none⟩) NB397_414.out _).trans (((cell_far (p := ⟨gb414, _, none⟩) NB397_414.out _).trans (((cell_far (p := ⟨gb414, _, none⟩) NB397_414.out _).trans (hHeld.2.2.2.1)))))), ((cell_far (p := ⟨gb414, _, none⟩) NB397_414.out _).trans (((cell_far (p := ⟨gb414, _, none⟩) NB397_414.out _).trans (((cell_far (p := ⟨gb414, _, none⟩) NB397_414.out _).trans (hHeld.2.2.2.2.1)))))), ((cell_far (p := ⟨gb414, _, none⟩) NB397_414.out _).trans (((cell_far (p := ⟨gb414, _, none⟩) NB397_414.out _).trans (((cell_far (p := ⟨gb414, _, none⟩) NB397_414.out _).trans (hHeld.2.2.2.2.2.1)))))), ((cell_far (p := ⟨gb414, _, none⟩) NB397_414.out _).trans (((cell_far (p := ⟨gb414, _, none⟩) NB397_414.out _).trans (((cell_far (p := ⟨gb414, _, none⟩) NB397_414.out _).trans (hHeld.2.2.2.2.2.2))))))⟩ (fun hHeld => ?_)
             clear hK K
             refine done_ (done_of HT_.out (by kernel_rfl)) ?_
             have hnb37 := NB414_397.out
             have hnc37 := NB397_414.out
             have hcz38_0 : w33.cell? ⟨gb414, 0, none⟩ = some (.int .i64 0) := (blk_cell BK414.out 0).trans rfl
             have hcz38_1 : w33.cell? ⟨gb414, 1, none⟩ = some (.int .i64 0) := (blk_cell BK414.out 1).trans rfl
             have hcz38_2 : w33.cell? ⟨gb414, 2, none⟩ = some (.int .i64 0) := (blk_cell BK414.out 2).trans rfl
             have hfz38_0 := blk_frozen BK414.out 0
             have hfz38_1 := blk_frozen BK414.out 1
             have hfz38_2 := blk_frozen BK414.out 2
             obtain ⟨Ao39, co39, eo39⟩ := R_slice HO_11.out
             subst eo39
             try go_wp2_with (first | ((with_reducible refine gate_callee (f := 11) rfl ?_); refine goesL_ (some 59) rfl rfl Tryd.func11 (by kernel_rfl) rfl #[.agg #[.int .i64 (wrap64 (x19_1 + 1)), .int .i64 t412, .int .i64 t413], .slice Ao39 x11_2.length co39, .int .i64 (l0.length : Int)] rfl (by (try simp only [List.map_toArray, List.map_cons, List.map_nil]); first | done | rfl | (simp only [List.length_drop, List.length_take]; rfl)) ?_; (with_reducible refine (lottery_Deal.calls k2 (wrap64 (x19_1 + 1)) t412 t413 _ _ x11_2 (l0.length : Int) t415 t416 t417 t420 _ ?side3 ?side1 ?side2 A26.out).mono ?_); (case side1 => refine (R_reads' (e := 3) (base := w.heap.size) (ok := fun k_ => (w.heap.size ≤ k_)) (n := x11_2.length) (c := co39) ?_).2.2; exact (by (with_reducible repeat (first | apply R_alloc | apply R_drewN | apply R_drew)); exact (R_mono (R_far (p := ⟨gb414, 2, none⟩) (R_far (p := ⟨gb414, 1, none⟩) (R_far (p := ⟨gb414, 0, none⟩) (R_types HO_11.out BK414.out (by decide)) (fun _ hk => hk.2) (.int .i64 (wrap64 (x19_1 + 1)))) (fun _ hk => hk.2) (.int .i64 t412)) (fun _ hk => hk.2) (.int .i64 t413)) (fun _ h_ => h_.1)))); (case side2 => exact (R_reads' HO_11.out).2.1); (case side3 => exact TabW.below HTAB.out (by repeat (first | (with_reducible first | exact HB.out | apply below_alloc | apply pw_below_drewN | apply below_drew1 | refine below_set ?_ GE397.out | refine below_set ?_ GE414.out) | exact HB.out))); rintro e w40 ⟨v418, rfl, ho0, hb⟩; refine ⟨_, rfl, ?_⟩; have n0_ := Aside0.mk (N_elder' (by (with_reducible repeat (first | apply N_alloc | apply N_drewN | apply N_drew)); exact (N_mono (N_far (p := ⟨gb414, 2, none⟩) (N_far (p := ⟨gb414, 1, none⟩) (N_far (p := ⟨gb414, 0, none⟩) (N_mono HO_7.out (fun k_ hk => (⟨hk, hk.2.2.2.2⟩ : _ ∧ k_ ≠ gb414))) (fun _ hk => hk.2) (.int .i64 (wrap64 (x19_1 + 1)))) (fun _ hk => hk.2) (.int .i64 t412)) (fun _ hk => hk.2) (.int .i64 t413)) (fun _ h_ => h_.1))) (R_base ho0) hb); have n1_ := Aside0.mk (R_below (by (with_reducible repeat (first | apply R_alloc | apply R_drewN | apply R_drew)); exact (R_mono (R_far (p := ⟨gb414, 2, none⟩) (R_far (p := ⟨gb414, 1, none⟩) (R_far (p := ⟨gb414, 0, none⟩) (R_mono HO_8.out (fun k_ hk => (⟨hk, hk.2⟩ : _ ∧ k_ ≠ gb414))) (fun _ hk => hk.2) (.int .i64 (wrap64 (x19_1 + 1)))) (fun _ hk => hk.2) (.int .i64 t412)) (fun _ hk => hk.2) (.int .i64 t413)) (fun _ h_ => h_.1))) hb); have n2_ := Aside0.mk (R_below (by (with_reducible repeat (first | apply R_alloc | apply R_drewN | apply R_drew)); exact (R_mono (R_far (p := ⟨gb414, 2, none⟩) (R_far (p := ⟨gb414, 1, none⟩) (R_far (p := ⟨gb414, 0, none⟩) (R_types HO_11.out BK414.out (by decide)) (fun _ hk => hk.2) (.int .i64 (wrap64 (x19_1 + 1)))) (fun _ hk => hk.2) (.int .i64 t412)) (fun _ hk => hk.2) (.int .i64 t413)) (fun _ h_ => h_.1))) hb); have n3_ := Aside0.mk (R_lower (R_newM (M := fun k_ => (w.heap.size ≤ k_)) ho0 (below_size (by repeat (first | (with_reducible first | exact HB.out | apply below_alloc | apply pw_below_drewN | apply below_drew1 | refine below_set ?_ GE397.out | refine below_set ?_ GE414.out) | exact HB.out))) (fun k_ h_ => h_)) (below_size (by repeat (first | (with_reducible first | exact HB.out | apply below_alloc | apply pw_below_drewN | apply below_drew1 | refine below_set ?_ GE397.out | refine below_set ?_ GE414.out) | exact HB.out)))); have n4_ := Aside0.mk (blk_below (g := gb397) (o := .cells #[.int .u32 (rd_T58 l0 x19_1).f0, .int .u32 (rd_T58 l0 x19_1).f1, .slice A396_2 (rd_T58 l0 x19_1).f2.length c396_2, .bool (rd_T58 l0 x19_1).f3, .int .i64 (rd_T58 l0 x19_1).f4, .int .i64 (rd_T58 l0 x19_1).f5, .int .i64 (rd_T58 l0 x19_1).f6] 58 (0, 0)) (by (with_reducible repeat (first | refine blk_drewN ?_ _ | refine blk_drew ?_ | refine blk_alloc ?_ _)); refine blk_far ?_ NB397_414.out _; (with_reducible repeat (first | refine blk_drewN ?_ _ | refine blk_drew ?_ | refine blk_alloc ?_ _)); refine blk_far ?_ NB397_414.out _; (with_reducible repeat (first | refine blk_drewN ?_ _ | refine blk_drew ?_ | refine blk_alloc ?_ _)); refine blk_far ?_ NB397_414.out _; (with_reducible repeat (first | refine blk_drewN ?_ _ | refine blk_drew ?_ | refine blk_alloc ?_ _)); exact BK397.out) hb); have n5_ := Aside0.mk (blk_below (g := gb414) (o := .cells #[.int .i64 (wrap64 (x19_1 + 1)), .int .i64 t412, .int .i64 t413] 23 (0, 0)) (by (with_reducible repeat (first | refine blk_drewN ?_ _ | refine blk_drew ?_ | refine blk_alloc ?_ _)); refine blk_put (cs := #[.int .i64 (wrap64 (x19_1 + 1)), .int .i64 t412, .int .i64 0]) ?_ 2 _ rfl; (with_reducible repeat (first | refine blk_drewN ?_ _ | refine blk_drew ?_ | refine blk_alloc ?_ _)); refine blk_put (cs := #[.int .i64 (wrap64 (x19_1 + 1)), .int .i64 0, .int .i64 0]) ?_ 1 _ rfl; (with_reducible repeat (first | refine blk_drewN ?_ _ | refine blk_drew ?_ | refine blk_alloc ?_ _)); refine blk_put (cs := #[.int .i64 0, .int .i64 0, .int .i64 0]) ?_ 0 _ rfl; (with_reducible repeat (first | refine blk_drewN ?_ _ | refine blk_drew ?_ | refine blk_alloc ?_ _)); exact BK414.out) hb); have n6_ := Aside0.mk (below_step (by repeat (first | (with_reducible first | exact HB.out | apply below_alloc | apply pw_below_drewN | apply below_drew1 | refine below_set ?_ GE397.out | refine below_set ?_ GE414.out) | exact HB.out)) hb); clear HO_7; clear HO_8; clear HO_11; clear BK397; clear BK414; clear HB; have HO_7 := n0_; have HO_8 := n1_; have HO_11 := n2_; have HO419 := n3_; have BK397 := n4_; have BK414 := n5_; have HB := n6_; clear n0_ n1_ n2_ n3_ n4_ n5_ n6_; (try clear hb); (try clear hb2); (try clear hk); (try clear hi); (try clear ho0)) | ((with_reducible refine gate_dst (N := 15) rfl ?_); (try (refine gate_guard (by rfl) ?_; dsimp only)); refine box_event ?hg (N := 15) ?hd (cs := #[.int .i64 0, .int .u64 0, .slice none 0 0]) (t := 31) ?hr ?_; (case hd => rfl); (case hg => rfl); (case hr => first | (go_simp; done) | (go_simp; rfl)); intro gb421 hg w41 hbox hb; have n0_ := Aside0.mk (N_below (N_elderB (by (with_reducible repeat (first | apply N_alloc | apply N_drewN | apply N_drew)); exact HO_7.out) gb421 (Nat.le_of_eq hg.symm)) hb); have n1_ := Aside0.mk (R_below (by (with_reducible repeat (first | apply R_alloc | apply R_drewN | apply R_drew)); exact HO_8.out) hb); have n2_ := Aside0.mk (R_below (by (with_reducible repeat (first | apply R_alloc | apply R_drewN | apply R_drew)); exact HO_11.out) hb); have n3_ := Aside0.mk (R_below (by (with_reducible repeat (first | apply R_alloc | apply R_drewN | apply R_drew)); exact HO419.out) hb); have n4_ := Aside0.mk (blk_below (g := gb397) (o := .cells #[.int .u32 (rd_T58 l0 x19_1).f0, .int .u32 (rd_T58 l0 x19_1).f1, .slice A396_2 (rd_T58 l0 x19_1).f2.length c396_2, .bool (rd_T58 l0 x19_1).f3, .int .i64 (rd_T58 l0 x19_1).f4, .int .i64 (rd_T58 l0 x19_1).f5, .int .i64 (rd_T58 l0 x19_1).f6] 58 (0, 0)) (by (with_reducible repeat (first | refine blk_drewN ?_ _ | refine blk_drew ?_ | refine blk_alloc ?_ _)); exact BK397.out) hb); have n5_ := Aside0.mk (blk_below (g := gb414) (o := .cells #[.int .i64 (wrap64 (x19_1 + 1)), .int .i64 t412, .int .i64 t413] 23 (0, 0)) (by (with_reducible repeat (first | refine blk_drewN ?_ _ | refine blk_drew ?_ | refine blk_alloc ?_ _)); exact BK414.out) hb); have n6_ := Aside0.mk (below_step (by repeat (first | (with_reducible first | exact HB.out | apply below_alloc | apply pw_below_drewN | apply below_drew1 | refine below_set ?_ GE397.out | refine below_set ?_ GE414.out) | exact HB.out)) hb); have n7_ := Aside0.mk (hbox); have n8_ := Aside0.mk ((by rw [hg]; exact (below_size (by repeat (first | (with_reducible first | exact HB.out | apply below_alloc | apply pw_below_drewN | apply below_drew1 | refine below_set ?_ GE397.out | refine below_set ?_ GE414.out) | exact HB.out))) : w.heap.size ≤ gb421)); have n9_ := Aside0.mk ((by rw [hg]; exact (below_size (by repeat (first | (with_reducible first | exact HB.out | apply below_alloc | apply pw_below_drewN | apply below_drew1 | refine below_set ?_ GE397.out | refine below_set ?_ GE414.out) | exact HB.out))) : w.heap.size ≤ gb421)); have n10_ := Aside0.mk ((by rw [hg]; exact Nat.ne_of_lt (blk_lt (g := gb397) (o := .cells #[.int .u32 (rd_T58 l0 x19_1).f0, .int .u32 (rd_T58 l0 x19_1).f1, .slice A396_2 (rd_T58 l0 x19_1).f2.length c396_2, .bool (rd_T58 l0 x19_1).f3, .int .i64 (rd_T58 l0 x19_1).f4, .int .i64 (rd_T58 l0 x19_1).f5, .int .i64 (rd_T58 l0 x19_1).f6] 58 (0, 0)) (by (with_reducible repeat (first | refine blk_drewN ?_ _ | refine blk_drew ?_ | refine blk_alloc ?_ _)); exact BK397.out)) : gb397 ≠ gb421)); have n11_ := Aside0.mk ((by rw [hg]; exact Nat.ne_of_gt (blk_lt (g := gb397) (o := .cells #[.int .u32 (rd_T58 l0 x19_1).f0, .int .u32 (rd_T58 l0 x19_1).f1, .slice A396_2 (rd_T58 l0 x19_1).f2.length c396_2, .bool (rd_T58 l0 x19_1).f3, .int .i64 (rd_T58 l0 x19_1).f4, .int .i64 (rd_T58 l0 x19_1).f5, .int .i64 (rd_T58 l0 x19_1).f6] 58 (0, 0)) (by (with_reducible repeat (first | refine blk_drewN ?_ _ | refine blk_drew ?_ | refine blk_alloc ?_ _)); exact BK397.out)) : gb421 ≠ gb397)); have n12_ := Aside0.mk ((by rw [hg]; exact Nat.ne_of_lt (blk_lt (g := gb414) (o := .cells #[.int .i64 (wrap64 (x19_1 + 1)), .int .i64 t412, .int .i64 t413] 23 (0, 0)) (by (with_reducible repeat (first | refine blk_drewN ?_ _ | refine blk_drew ?_ | refine blk_alloc ?_ _)); exact BK414.out)) : gb414 ≠ gb421)); have n13_ := Aside0.mk ((by rw [hg]; exact Nat.ne_of_gt (blk_lt (g := gb414) (o := .cells #[.int .i64 (wrap64 (x19_1 + 1)), .int .i64 t412, .int .i64 t413] 23 (0, 0)) (by (with_reducible repeat (first | refine blk_drewN ?_ _ | refine blk_drew ?_ | refine blk_alloc ?_ _)); exact BK414.out)) : gb421 ≠ gb414)); clear HO_7; clear HO_8; clear HO_11; clear HO419; clear BK397; clear BK414; clear HB; have HO_7 := n0_; have HO_8 := n1_; have HO_11 := n2_; have HO419 := n3_; have BK397 := n4_; have BK414 := n5_; have HB := n6_; have BK421 := n7_; have GW421 := n8_; have GE421 := n9_; have NB397_421 := n10_; have NB421_397 := n11_; have NB414_421 := n12_; have NB421_414 := n13_; clear n0_ n1_ n2_ n3_ n4_ n5_ n6_ n7_ n8_ n9_ n10_ n11_ n12_ n13_; clear hb hbox hg; have hnb42 := NB421_397.out; have hnc42 := NB397_421.out; have hnb43 := NB421_414.out; have hnc43 := NB414_421.out; have hcz44_0 : w41.cell? ⟨gb421, 0, none⟩ = some (.int .i64 0) := (blk_cell BK421.out 0).trans rfl; have hcz44_1 : w41.cell? ⟨gb421, 1, none⟩ = some (.int .u64 0) := (blk_cell BK421.out 1).trans rfl; have hcz44_2 : w41.cell? ⟨gb421, 2, none⟩ = some (.slice none 0 0) := (blk_cell BK421.out 2).trans rfl; have hfz44_0 := blk_frozen BK421.out 0; have hfz44_1 := blk_frozen BK421.out 1; have hfz44_2 := blk_frozen BK421.out 2; obtain ⟨Ao45, co45, eo45⟩ := R_slice HO419.out; subst eo45; obtain ⟨Ao46, co46, eo46⟩ := N_slice HO_7.out; subst eo46; obtain ⟨Ao47, co47, eo47⟩ := R_slice HO_8.out; subst eo47))
             have n0_ : Aside0 (Kd.N k31 31 (((w41.setCell ⟨gb421, 0, none⟩ (.int .i64 t415)).setCell ⟨gb421, 1, none⟩ (.int .u64 t416)).setCell ⟨gb421, 2, none⟩ (.slice Ao45 t417.length co45)) w.heap.size (fun k_ => (w.heap.size ≤ k_) ∧ some k_ ≠ (.slice Ao47 x8_1.length co47 : Value).ownBlock ∧ some k_ ≠ (.slice Ao39 x11_2.length co39 : Value).ownBlock ∧ some k_ ≠ (.slice Ao45 t417.length co45 : Value).ownBlock ∧ k_ ≠ gb397 ∧ k_ ≠ gb414 ∧ k_ ≠ gb421) (.slice Ao46 x7_1.length co46) x7_1) := ⟨by (with_reducible repeat (first | apply N_alloc | apply N_drewN | apply N_drew)); exact N_mono (N_far (p := ⟨gb421, 2, none⟩) (N_far (p := ⟨gb421, 1, none⟩) (N_far (p := ⟨gb421, 0, none⟩) (N_mono HO_7.out (fun k_ hk => (⟨hk, hk.2⟩ : _ ∧ k_ ≠ gb421))) (fun _ hk => hk.2) (.int .i64 t415)) (fun _ hk => hk.2) (.int .u64 t416)) (fun _ hk => hk.2) (.slice Ao45 t417.length co45)) (fun _ hk => ⟨hk.1.1.1.1, ⟨hk.1.1.1.2.2.1, ⟨hk.1.1.1.2.1, ⟨hk.1.1.2, ⟨hk.1.1.1.2.2.2.1, ⟨hk.1.1.1.2.2.2.2, hk.1.2⟩⟩⟩⟩⟩⟩)⟩
             have n1_ : Aside0 (Kd.R k23 23 (((w41.setCell ⟨gb421, 0, none⟩ (.int .i64 t415)).setCell ⟨gb421, 1, none⟩ (.int .u64 t416)).setCell ⟨gb421, 2, none⟩ (.slice Ao45 t417.length co45)) w.heap.size (fun k_ => (w.heap.size ≤ k_) ∧ k_ ≠ gb414) (.slice Ao47 x8_1.length co47) x8_1) := ⟨by (with_reducible repeat (first | apply R_alloc | apply R_drewN | apply R_drew)); exact R_mono (R_far (p := ⟨gb421, 2, none⟩) (R_far (p := ⟨gb421, 1, none⟩) (R_far (p := ⟨gb421, 0, none⟩) (R_types HO_8.out BK421.out (by decide)) (fun _ hk => hk.2) (.int .i64 t415)) (fun _ hk => hk.2) (.int .u64 t416)) (fun _ hk => hk.2) (.slice Ao45 t417.length co45)) (fun _ hk => ⟨hk.1.1, hk.1.2⟩)⟩
             have n2_ : Aside0 (Kd.R (Kd.int .i64) 3 (((w41.setCell ⟨gb421, 0, none⟩ (.int .i64 t415)).setCell ⟨gb421, 1, none⟩ (.int .u64 t416)).setCell ⟨gb421, 2, none⟩ (.slice Ao45 t417.length co45)) w.heap.size (fun k_ => (w.heap.size ≤ k_)) (.slice Ao39 x11_2.length co39) x11_2) := ⟨by (with_reducible repeat (first | apply R_alloc | apply R_drewN | apply R_drew)); exact R_mono (R_far (p := ⟨gb421, 2, none⟩) (R_far (p := ⟨gb421, 1, none⟩) (R_far (p := ⟨gb421, 0, none⟩) (R_types HO_11.out BK421.out (by decide)) (fun _ hk => hk.2) (.int .i64 t415)) (fun _ hk => hk.2) (.int .u64 t416)) (fun _ hk => hk.2) (.slice Ao45 t417.length co45)) (fun _ hk => hk.1)⟩
             have n3_ : Aside0 (Kd.R k47 47 (((w41.setCell ⟨gb421, 0, none⟩ (.int .i64 t415)).setCell ⟨gb421, 1, none⟩ (.int .u64 t416)).setCell ⟨gb421, 2, none⟩ (.slice Ao45 t417.length co45)) w.heap.size (fun k_ => (w.heap.size ≤ k_)) (.slice Ao45 t417.length co45) t417) := ⟨by (with_reducible repeat (first | apply R_alloc | apply R_drewN | apply R_drew)); exact R_mono (R_far (p := ⟨gb421, 2, none⟩) (R_far (p := ⟨gb421, 1, none⟩) (R_far (p := ⟨gb421, 0, none⟩) (R_types HO419.out BK421.out (by decide)) (fun _ hk => hk.2) (.int .i64 t415)) (fun _ hk => hk.2) (.int .u64 t416)) (fun _ hk => hk.2) (.slice Ao45 t417.length co45)) (fun _ hk => hk.1.1)⟩
             have n4_ : Aside0 ((((w41.setCell ⟨gb421, 0, none⟩ (.int .i64 t415)).setCell ⟨gb421, 1, none⟩ (.int .u64 t416)).setCell ⟨gb421, 2, none⟩ (.slice Ao45 t417.length co45)).heap[gb397]? = some (.cells #[.int .u32 (rd_T58 l0 x19_1).f0, .int .u32 (rd_T58 l0 x19_1).f1, .slice A396_2 (rd_T58 l0 x19_1).f2.length c396_2, .bool (rd_T58 l0 x19_1).f3, .int .i64 (rd_T58 l0 x19_1).f4, .int .i64 (rd_T58 l0 x19_1).f5, .int .i64 (rd_T58 l0 x19_1).f6] 58 (0, 0))) := ⟨by (with_reducible repeat (first | refine blk_drewN ?_ _ | refine blk_drew ?_ | refine blk_alloc ?_ _)); refine blk_far ?_ NB397_421.out _; (with_reducible repeat (first | refine blk_drewN ?_ _ | refine blk_drew ?_ | refine blk_alloc ?_ _)); refine blk_far ?_ NB397_421.out _; (with_reducible repeat (first | refine blk_drewN ?_ _ | refine blk_drew ?_ | refine blk_alloc ?_ _)); refine blk_far ?_ NB397_421.out _; (with_reducible repeat (first | refine blk_drewN ?_ _ | refine blk_drew ?_ | refine blk_alloc ?_ _)); exact BK397.out⟩
             have n5_ : Aside0 ((((w41.setCell ⟨gb421, 0, none⟩ (.int .i64 t415)).setCell ⟨gb421, 1, none⟩ (.int .u64 t416)).setCell ⟨gb421, 2, none⟩ (.slice Ao45 t417.length co45)).heap[gb414]? = some (.cells #[.int .i64 (wrap64 (x19_1 + 1)), .int .i64 t412, .int .i64 t413] 23 (0, 0))) := ⟨by (with_reducible repeat (first | refine blk_drewN ?_ _ | refine blk_drew ?_ | refine blk_alloc ?_ _)); refine blk_far ?_ NB414_421.out _; (with_reducible repeat (first | refine blk_drewN ?_ _ | refine blk_drew ?_ | refine blk_alloc ?_ _)); refine blk_far ?_ NB414_421.out _; (with_reducible repeat (first | refine blk_drewN ?_ _ | refine blk_drew ?_ | refine blk_alloc ?_ _)); refine blk_far ?_ NB414_421.out _; (with_reducible repeat (first | refine blk_drewN ?_ _ | refine blk_drew ?_ | refine blk_alloc ?_ _)); exact BK414.out⟩
             have n6_ : Aside0 ((((w41.setCell ⟨gb421, 0, none⟩ (.int .i64 t415)).setCell ⟨gb421, 1, none⟩ (.int .u64 t416)).setCell ⟨gb421, 2, none⟩ (.slice Ao45 t417.length co45)).heap[gb421]? = some (.cells #[.int .i64 t415, .int .u64 t416, .slice Ao45 t417.length co45] 31 (0, 0))) := ⟨by (with_reducible repeat (first | refine blk_drewN ?_ _ | refine blk_drew ?_ | refine blk_alloc ?_ _)); refine blk_put (cs := #[.int .i64 t415, .int .u64 t416, .slice none 0 0]) ?_ 2 _ rfl; (with_reducible repeat (first | refine blk_drewN ?_ _ | refine blk_drew ?_ | refine blk_alloc ?_ _)); refine blk_put (cs := #[.int .i64 t415, .int .u64 0, .slice none 0 0]) ?_ 1 _ rfl; (with_reducible repeat (first | refine blk_drewN ?_ _ | refine blk_drew ?_ | refine blk_alloc ?_ _)); refine blk_put (cs := #[.int .i64 0, .int .u64 0, .slice none 0 0]) ?_ 0 _ rfl; (with_reducible repeat (first | refine blk_drewN ?_ _ | refine blk_drew ?_ | refine blk_alloc ?_ _)); exact BK421.out⟩
             have n7_ : Aside0 (Below w.heap.size w (((w41.setCell ⟨gb421, 0, none⟩ (.int .i64 t415)).setCell ⟨gb421, 1, none⟩ (.int .u64 t416)).setCell ⟨gb421, 2, none⟩ (.slice Ao45 t417.length co45))) := ⟨by repeat (first | (with_reducible first | exact HB.out | apply below_alloc | apply pw_below_drewN | apply below_drew1 | refine below_set ?_ GE397.out | refine below_set ?_ GE414.out | refine below_set ?_ GE421.out) | exact HB.out)⟩
             (try clear HO_7)
             (try clear HO_8)
             (try clear HO_11)
             (try clear HO419)
             (try clear BK397)
             (try clear BK414)
             (try clear BK421)
             (try clear HB)
             generalize (((w41.setCell ⟨gb421, 0, none⟩ (.int .i64 t415)).setCell ⟨gb421, 1, none⟩ (.int .u64 t416)).setCell ⟨gb421, 2, none⟩ (.slice Ao45 t417.length co45)) = w48 at n0_ n1_ n2_ n3_ n4_ n5_ n6_ n7_ ⊢
             have HO_7 := n0_
             have HO_8 := n1_
             have HO_11 := n2_
             have HO419 := n3_
             have BK397 := n4_
             have BK414 := n5_
             have BK421 := n6_
             have HB := n7_
             clear n0_ n1_ n2_ n3_ n4_ n5_ n6_ n7_
             have n0_ := Aside0.mk (N_drew HO_7.out)
             have n1_ := Aside0.mk (R_drew HO_8.out)
             have n2_ := Aside0.mk (R_drew HO_11.out)
             have n3_ := Aside0.mk (R_drew HO419.out)
             have n4_ := Aside0.mk (blk_drew BK397.out)
             have n5_ := Aside0.mk (blk_drew BK414.out)
             have n6_ := Aside0.mk (blk_drew BK421.out)
             have n7_ := Aside0.mk (below_drew1 HB.out)
             clear HO_7
             clear HO_8
             clear HO_11
             clear HO419
             clear BK397
             clear BK414
             clear BK421
             clear HB
             have HO_7 := n0_
             have HO_8 := n1_
             have HO_11 := n2_
             have HO419 := n3_
             have BK397 := n4_
             have BK414 := n5_
             have BK421 := n6_
             have HB := n7_
             clear n0_ n1_ n2_ n3_ n4_ n5_ n6_ n7_
             refine start_ (n := 10) (S := fun w' => w'.cell? ⟨gb421, 0, none⟩ = some (.int .i64 t415) ∧ w'.cell? ⟨gb421, 1, none⟩ = some (.int .u64 t416) ∧ w'.cell? ⟨gb421, 2, none⟩ = some (.slice Ao45 t417.length co45) ∧ w'.cell? ⟨gb414, 0, none⟩ = some (.int .i64 (wrap64 (x19_1 + 1))) ∧ w'.cell? ⟨gb414, 1, none⟩ = some (.int .i64 t412) ∧ w'.cell? ⟨gb414, 2, none⟩ = some (.int .i64 t413)) (ds := []) #[false, false, false, false, false, false, false, false, false, false] (by kernel_rfl) rfl rfl ⟨(blk_cell BK421.out 0).trans rfl, (blk_cell BK421.out 1).trans rfl, (blk_cell BK421.out 2).trans rfl, (blk_cell BK414.out 0).trans rfl, (blk_cell BK414.out 1).trans rfl, (blk_cell BK414.out 2).trans rfl⟩ (fun hHeld => ?_); refine with_tabW cohousinglaw22_dealt.tab18 cohousinglaw22_dealt.bits18 (fun HT_ HW_ => ?_)
             generalize w48.drew = w49 at HO_7 HO_8 HO_11 HO419 BK397 BK414 BK421 HB hHeld ⊢
             refine pure_ (i := 0) (N := some 72) (v := ?_) (a' := ?_) #[true, false, false, false, false, false, false, false, false, false] rfl rfl (any_of HT_.out (by kernel_rfl)) (fun _ _ _ h => h) (Or.inl ⟨by rfl, ?_⟩) ?_ ?_
             rotate_left
             ·intro w'
              go_simp
              with_reducible rfl
             rotate_left
             ·simp only [Act.put, List.setIfInBounds_toArray, List.set_cons_zero, List.set_cons_succ, i64_w, i32_w]
              rfl
             refine pure_ (i := 4) (N := some 76) (v := ?_) (a' := ?_) #[true, false, false, false, true, false, false, false, false, false] rfl rfl (any_of HT_.out (by kernel_rfl)) (fun _ _ _ h => h) (Or.inl ⟨by rfl, ?_⟩) ?_ ?_
             rotate_left
             ·intro w'
              go_simp
              with_reducible rfl
             rotate_left
             ·simp only [Act.put, List.setIfInBounds_toArray, List.set_cons_zero, List.set_cons_succ, i64_w, i32_w]
              rfl
             refine take_ (i := 1) (N := some 73) (v := ?_) (a' := ?_) #[true, true, false, false, true, false, false, false, false, false] rfl rfl (take_ofW HT_.out HW_.out (by kernel_rfl)) (fun _ _ _ h => h) (Or.inl ⟨by rfl, ?_⟩) hHeld ?_ ?_
             rotate_left
             ·rintro w' ⟨s0, s1, s2, s3, s4, s5⟩
              go_simp
              with_reducible rfl
             rotate_left
             ·simp only [Act.put, List.setIfInBounds_toArray, List.set_cons_zero, List.set_cons_succ, i64_w, i32_w]
              rfl
             refine take_ (i := 5) (N := some 77) (v := ?_) (a' := ?_) #[true, true, false, false, true, true, false, false, false, false] rfl rfl (take_ofW HT_.out HW_.out (by kernel_rfl)) (fun _ _ _ h => h) (Or.inl ⟨by rfl, ?_⟩) hHeld ?_ ?_
             rotate_left
             ·rintro w' ⟨s0, s1, s2, s3, s4, s5⟩
              go_simp
              with_reducible rfl
             rotate_left
             ·simp only [Act.put, List.setIfInBounds_toArray, List.set_cons_zero, List.set_cons_succ, i64_w, i32_w]
              rfl
             refine join_ (σ := Value × Value × Value) 3 #[true, true, true, true, true, true, true, false, false, false] (fun s_ => [(74, s_.1), (75, s_.2.1), (78, s_.2.2)]) (fun s_ w' => (w'.cell? ⟨gb421, 0, none⟩ = some (.int .i64 t415) ∧ w'.cell? ⟨gb421, 1, none⟩ = some (.int .u64 t416) ∧ w'.cell? ⟨gb421, 2, none⟩ = some (.slice Ao45 t417.length co45) ∧ w'.cell? ⟨gb414, 0, none⟩ = some (.int .i64 (wrap64 (x19_1 + 1))) ∧ w'.cell? ⟨gb414, 1, none⟩ = some (.int .i64 t412) ∧ w'.cell? ⟨gb414, 2, none⟩ = some (.int .i64 t413)) ∧ (Kd.N k31 31 w' w.heap.size (fun k_ => (w.heap.size ≤ k_) ∧ some k_ ≠ (s_.2.1 : Value).ownBlock ∧ some k_ ≠ (s_.2.2 : Value).ownBlock ∧ some k_ ≠ (.slice Ao39 x11_2.length co39 : Value).ownBlock ∧ some k_ ≠ (.slice Ao47 x8_1.length co47 : Value).ownBlock ∧ k_ ≠ gb397 ∧ k_ ≠ gb414 ∧ k_ ≠ gb421) s_.1 y422) ∧ (Kd.N k31 31 w' w.heap.size (fun k_ => (w.heap.size ≤ k_) ∧ some k_ ≠ (s_.2.2 : Value).ownBlock ∧ some k_ ≠ (.slice Ao39 x11_2.length co39 : Value).ownBlock ∧ some k_ ≠ (.slice Ao47 x8_1.length co47 : Value).ownBlock ∧ k_ ≠ gb397 ∧ k_ ≠ gb414 ∧ k_ ≠ gb421) s_.2.1 y425) ∧ (Kd.R k23 23 w' w.heap.size (fun k_ => (w.heap.size ≤ k_) ∧ some k_ ≠ (.slice Ao47 x8_1.length co47 : Value).ownBlock ∧ k_ ≠ gb414) s_.2.2 y428) ∧ (Kd.R (Kd.int .i64) 3 w' w.heap.size (fun k_ => (w.heap.size ≤ k_)) (.slice Ao39 x11_2.length co39) x11_2) ∧ (Kd.R k23 23 w' w.heap.size (fun k_ => (w.heap.size ≤ k_) ∧ some k_ ≠ (s_.2.2 : Value).ownBlock ∧ k_ ≠ gb414) (.slice Ao47 x8_1.length co47) x8_1) ∧ (w'.heap[gb397]? = some (.cells #[.int .u32 (rd_T58 l0 x19_1).f0, .int .u32 (rd_T58 l0 x19_1).f1, .slice A396_2 (rd_T58 l0 x19_1).f2.length c396_2, .bool (rd_T58 l0 x19_1).f3, .int .i64 (rd_T58 l0 x19_1).f4, .int .i64 (rd_T58 l0 x19_1).f5, .int .i64 (rd_T58 l0 x19_1).f6] 58 (0, 0))) ∧ (w'.heap[gb414]? = some (.cells #[.int .i64 (wrap64 (x19_1 + 1)), .int .i64 t412, .int .i64 t413] 23 (0, 0))) ∧ (w'.heap[gb421]? = some (.cells #[.int .i64 t415, .int .u64 t416, .slice Ao45 t417.length co45] 31 (0, 0))) ∧ (Below w.heap.size w w')) ?_ ?_
             rotate_left
             ·intro hCont
              refine two_ (i := 2) (j := 6) (Ni := some 74) (Nj := some 78) #[true, true, true, false, true, true, false, false, false, false] #[true, true, false, false, true, true, true, false, false, false] rfl rfl rfl rfl (two_of HT_.out (by kernel_rfl)) (by decide) (by decide) (fun K hK => ?_) (fun K hK => ?_)
              ·skip
               refine N_lit_step k31 _ 31 ?hg (N' := 74) ?hd (xs := ([(⟨t415, t416, t417⟩ : S31)] : List (S31))) (inner := [.int .i64 t415, .int .u64 t416, .slice Ao45 t417.length co45]) (ok := (fun k_ => (w.heap.size ≤ k_) ∧ some k_ ≠ (.slice Ao46 x7_1.length co46 : Value).ownBlock ∧ some k_ ≠ (.slice Ao47 x8_1.length co47 : Value).ownBlock ∧ some k_ ≠ (.slice Ao39 x11_2.length co39 : Value).ownBlock ∧ k_ ≠ gb397 ∧ k_ ≠ gb414 ∧ k_ ≠ gb421)) (okp := (fun k_ => (w.heap.size ≤ k_) ∧ some k_ ≠ (.slice Ao46 x7_1.length co46 : Value).ownBlock ∧ some k_ ≠ (.slice Ao47 x8_1.length co47 : Value).ownBlock ∧ some k_ ≠ (.slice Ao39 x11_2.length co39 : Value).ownBlock ∧ k_ ≠ gb397 ∧ k_ ≠ gb414 ∧ k_ ≠ gb421)) ?hr ?hp (fun _ hk => hk) ((show ∀ k_, w49.heap.size ≤ k_ → (fun k_ => (w.heap.size ≤ k_) ∧ some k_ ≠ (.slice Ao46 x7_1.length co46 : Value).ownBlock ∧ some k_ ≠ (.slice Ao47 x8_1.length co47 : Value).ownBlock ∧ some k_ ≠ (.slice Ao39 x11_2.length co39 : Value).ownBlock ∧ k_ ≠ gb397 ∧ k_ ≠ gb414 ∧ k_ ≠ gb421) k_ from fun k_ hk => ⟨(Nat.le_trans (below_size (by repeat (first | (with_reducible first | exact HB.out | apply below_alloc | apply pw_below_drewN | apply below_drew1 | refine below_set ?_ GE397.out | refine below_set ?_ GE414.out | refine below_set ?_ GE421.out) | exact HB.out))) hk), Kd.fresh' (N_lt (by (with_reducible repeat (first | apply N_alloc | apply N_drewN | apply N_drew)); exact HO_7.out)) k_ hk, Kd.fresh' (R_lt (by (with_reducible repeat (first | apply R_alloc | apply R_drewN | apply R_drew)); exact HO_8.out)) k_ hk, Kd.fresh' (R_lt (by (with_reducible repeat (first | apply R_alloc | apply R_drewN | apply R_drew)); exact HO_11.out)) k_ hk, Kd.freshB (g := gb397) (o := .cells #[.int .u32 (rd_T58 l0 x19_1).f0, .int .u32 (rd_T58 l0 x19_1).f1, .slice A396_2 (rd_T58 l0 x19_1).f2.length c396_2, .bool (rd_T58 l0 x19_1).f3, .int .i64 (rd_T58 l0 x19_1).f4, .int .i64 (rd_T58 l0 x19_1).f5, .int .i64 (rd_T58 l0 x19_1).f6] 58 (0, 0)) (by (with_reducible repeat (first | refine blk_drewN ?_ _ | refine blk_drew ?_ | refine blk_alloc ?_ _)); exact BK397.out) k_ hk, Kd.freshB (g := gb414) (o := .cells #[.int .i64 (wrap64 (x19_1 + 1)), .int .i64 t412, .int .i64 t413] 23 (0, 0)) (by (with_reducible repeat (first | refine blk_drewN ?_ _ | refine blk_drew ?_ | refine blk_alloc ?_ _)); exact BK414.out) k_ hk, Kd.freshB (g := gb421) (o := .cells #[.int .i64 t415, .int .u64 t416, .slice Ao45 t417.length co45] 31 (0, 0)) (by (with_reducible repeat (first | refine blk_drewN ?_ _ | refine blk_drew ?_ | refine blk_alloc ?_ _)); exact BK421.out) k_ hk⟩) _ (Nat.le_refl _)) (Below.refl _ _) (Nat.le_refl _) (by simp) ?_; (case hd => rfl); (case hg => rfl); (case hr => first | (go_simp; done) | (go_simp; rfl)); (case hp => exact (Reps.c3 (show Kd.FK k31 _ _ (⟨t415, t416, t417⟩ : S31) [.int .i64 t415, .int .u64 t416, .slice Ao45 t417.length co45] from (k31_mkF _ _ (⟨t415, t416, t417⟩ : S31) (R_reads' (R_mono (ok' := (fun k_ => (w.heap.size ≤ k_) ∧ some k_ ≠ (.slice Ao46 x7_1.length co46 : Value).ownBlock ∧ some k_ ≠ (.slice Ao47 x8_1.length co47 : Value).ownBlock ∧ some k_ ≠ (.slice Ao39 x11_2.length co39 : Value).ownBlock ∧ k_ ≠ gb397 ∧ k_ ≠ gb414 ∧ k_ ≠ gb421)) (R_types (R_types (R_types (R_apart' (R_apart' (R_apart' (HO419.out) (N_typed HO_7.out) (by decide)) (R_typed HO_8.out) (by decide)) (R_typed HO_11.out) (by decide)) BK397.out (by decide)) BK414.out (by decide)) BK421.out (by decide)) (fun k_ hk => ⟨hk.1.1.1.1.1.1, ⟨hk.1.1.1.1.1.2, ⟨hk.1.1.1.1.2, ⟨hk.1.1.1.2, ⟨hk.1.1.2, ⟨hk.1.2, hk.2⟩⟩⟩⟩⟩⟩))).2.1 (R_F (R_mono (ok' := (fun k_ => (w.heap.size ≤ k_) ∧ some k_ ≠ (.slice Ao46 x7_1.length co46 : Value).ownBlock ∧ some k_ ≠ (.slice Ao47 x8_1.length co47 : Value).ownBlock ∧ some k_ ≠ (.slice Ao39 x11_2.length co39 : Value).ownBlock ∧ k_ ≠ gb397 ∧ k_ ≠ gb414 ∧ k_ ≠ gb421)) (R_types (R_types (R_types (R_apart' (R_apart' (R_apart' (HO419.out) (N_typed HO_7.out) (by decide)) (R_typed HO_8.out) (by decide)) (R_typed HO_11.out) (by decide)) BK397.out (by decide)) BK414.out (by decide)) BK421.out (by decide)) (fun k_ hk => ⟨hk.1.1.1.1.1.1, ⟨hk.1.1.1.1.1.2, ⟨hk.1.1.1.1.2, ⟨hk.1.1.1.2, ⟨hk.1.1.2, ⟨hk.1.2, hk.2⟩⟩⟩⟩⟩⟩))))) (Reps.none _ _)))
               intro v423 w50 ho51 hb hg_ hnew_
               clear hg_ hnew_
               (first | rw [← Ny422.out] at ho51 | (simp only [Int.reduceToNat] at ho51; rw [← Ny422.out] at ho51))
               have n0_ := Aside0.mk (N_elder' (by (with_reducible repeat (first | apply N_alloc | apply N_drewN | apply N_drew)); exact HO_7.out) (N_base ho51) hb)
               have n1_ := Aside0.mk (R_below (by (with_reducible repeat (first | apply R_alloc | apply R_drewN | apply R_drew)); exact HO_8.out) hb)
               have n2_ := Aside0.mk (R_below (by (with_reducible repeat (first | apply R_alloc | apply R_drewN | apply R_drew)); exact HO_11.out) hb)
               have n3_ := Aside0.mk (N_lower ho51 (below_size (by repeat (first | (with_reducible first | exact HB.out | apply below_alloc | apply pw_below_drewN | apply below_drew1 | refine below_set ?_ GE397.out | refine below_set ?_ GE414.out | refine below_set ?_ GE421.out) | exact HB.out))))
               have n4_ := Aside0.mk (blk_below (g := gb397) (o := .cells #[.int .u32 (rd_T58 l0 x19_1).f0, .int .u32 (rd_T58 l0 x19_1).f1, .slice A396_2 (rd_T58 l0 x19_1).f2.length c396_2, .bool (rd_T58 l0 x19_1).f3, .int .i64 (rd_T58 l0 x19_1).f4, .int .i64 (rd_T58 l0 x19_1).f5, .int .i64 (rd_T58 l0 x19_1).f6] 58 (0, 0)) (by (with_reducible repeat (first | refine blk_drewN ?_ _ | refine blk_drew ?_ | refine blk_alloc ?_ _)); exact BK397.out) hb)
               have n5_ := Aside0.mk (blk_below (g := gb414) (o := .cells #[.int .i64 (wrap64 (x19_1 + 1)), .int .i64 t412, .int .i64 t413] 23 (0, 0)) (by (with_reducible repeat (first | refine blk_drewN ?_ _ | refine blk_drew ?_ | refine blk_alloc ?_ _)); exact BK414.out) hb)
               have n6_ := Aside0.mk (blk_below (g := gb421) (o := .cells #[.int .i64 t415, .int .u64 t416, .slice Ao45 t417.length co45] 31 (0, 0)) (by (with_reducible repeat (first | refine blk_drewN ?_ _ | refine blk_drew ?_ | refine blk_alloc ?_ _)); exact BK421.out) hb)
               have n7_ := Aside0.mk (below_step (by repeat (first | (with_reducible first | exact HB.out | apply below_alloc | apply pw_below_drewN | apply below_drew1 | refine below_set ?_ GE397.out | refine below_set ?_ GE414.out | refine below_set ?_ GE421.out) | exact HB.out)) hb)
               clear HO_7
               clear HO_8
               clear HO_11
               clear BK397
               clear BK414
               clear BK421
               clear HB
               clear HO419
               have HO_7 := n0_
               have HO_8 := n1_
               have HO_11 := n2_
               have HO424 := n3_
               have BK397 := n4_
               have BK414 := n5_
               have BK421 := n6_
               have HB := n7_
               clear n0_ n1_ n2_ n3_ n4_ n5_ n6_ n7_
               clear hb ho51
               obtain ⟨Ao53, co53, eo53⟩ := N_slice HO424.out
               (first | subst eo53 | (injection eo53 with f1_ f2_ f3_; have f4_ := f1_.symm; have f5_ := f3_.symm; clear f1_ f2_ f3_; subst f4_; subst f5_))
               refine hK.out _ _ ⟨(blk_cell BK421.out 0).trans rfl, (blk_cell BK421.out 1).trans rfl, (blk_cell BK421.out 2).trans rfl, (blk_cell BK414.out 0).trans rfl, (blk_cell BK414.out 1).trans rfl, (blk_cell BK414.out 2).trans rfl⟩ (fun hHeld => ?_)
               clear hK K
               refine norm_ (a' := ?_) ?_ ?_
               rotate_left
               ·show Act.put _ (some 74) _ = _
                simp only [Act.put, List.setIfInBounds_toArray, List.set_cons_zero, List.set_cons_succ, i64_w, i32_w]
                rfl
               refine two_ (i := 3) (j := 6) (Ni := some 75) (Nj := some 78) #[true, true, true, true, true, true, false, false, false, false] #[true, true, true, false, true, true, true, false, false, false] rfl rfl rfl rfl (two_of HT_.out (by kernel_rfl)) (by decide) (by decide) (fun K hK => ?_) (fun K hK => ?_)
               ·skip
                refine N_append_rows_step k31 (w0 := w) w.heap.size (by rfl) (.tmp 72) (.tmp 74) 26 31 (.agg #[(.int .i64 0), (.int .u64 0), (.slice none 0 0)]) 40 rfl Tryd.underlying26 info31 rfl (by decide) (by omega) (.slice Ao46 x7_1.length co46) x7_1 y422 _ _ _ (fun k_ => (w.heap.size ≤ k_) ∧ some k_ ≠ (.slice Ao47 x8_1.length co47 : Value).ownBlock ∧ some k_ ≠ (.slice Ao39 x11_2.length co39 : Value).ownBlock ∧ k_ ≠ gb397 ∧ k_ ≠ gb414 ∧ k_ ≠ gb421) (fun k_ => ((fun k_ => (w.heap.size ≤ k_) ∧ some k_ ≠ (.slice Ao47 x8_1.length co47 : Value).ownBlock ∧ some k_ ≠ (.slice Ao39 x11_2.length co39 : Value).ownBlock ∧ k_ ≠ gb397 ∧ k_ ≠ gb414 ∧ k_ ≠ gb421)) k_ ∧ some k_ ≠ (.slice Ao46 x7_1.length co46 : Value).ownBlock) rfl rfl ?aO ?aR (fun _ hk => hk) ?aF ?aB ?aS ?aL ?_
                (case aR => exact (by skip; exact N_F (N_mono (ok' := (fun k_ => ((fun k_ => (w.heap.size ≤ k_) ∧ some k_ ≠ (.slice Ao47 x8_1.length co47 : Value).ownBlock ∧ some k_ ≠ (.slice Ao39 x11_2.length co39 : Value).ownBlock ∧ k_ ≠ gb397 ∧ k_ ≠ gb414 ∧ k_ ≠ gb421)) k_ ∧ some k_ ≠ (.slice Ao46 x7_1.length co46 : Value).ownBlock)) (HO424.out) (fun k_ hk => ⟨⟨hk.1, ⟨hk.2.2.1, ⟨hk.2.2.2.1, ⟨hk.2.2.2.2.1, ⟨hk.2.2.2.2.2.1, hk.2.2.2.2.2.2⟩⟩⟩⟩⟩, hk.2.1⟩))))
                (case aB => exact (by repeat (first | (with_reducible first | exact HB.out | apply below_alloc | apply pw_below_drewN | apply below_drew1 | refine below_set ?_ GE397.out | refine below_set ?_ GE414.out | refine below_set ?_ GE421.out) | exact HB.out)))
                (case aF => exact (fun k_ hk => ⟨(Nat.le_trans (below_size (by repeat (first | (with_reducible first | exact HB.out | apply below_alloc | apply pw_below_drewN | apply below_drew1 | refine below_set ?_ GE397.out | refine below_set ?_ GE414.out | refine below_set ?_ GE421.out) | exact HB.out))) hk), Kd.fresh' (R_lt (by (with_reducible repeat (first | apply R_alloc | apply R_drewN | apply R_drew)); exact HO_8.out)) k_ hk, Kd.fresh' (R_lt (by (with_reducible repeat (first | apply R_alloc | apply R_drewN | apply R_drew)); exact HO_11.out)) k_ hk, Kd.freshB (g := gb397) (o := .cells #[.int .u32 (rd_T58 l0 x19_1).f0, .int .u32 (rd_T58 l0 x19_1).f1, .slice A396_2 (rd_T58 l0 x19_1).f2.length c396_2, .bool (rd_T58 l0 x19_1).f3, .int .i64 (rd_T58 l0 x19_1).f4, .int .i64 (rd_T58 l0 x19_1).f5, .int .i64 (rd_T58 l0 x19_1).f6] 58 (0, 0)) (by (with_reducible repeat (first | refine blk_drewN ?_ _ | refine blk_drew ?_ | refine blk_alloc ?_ _)); exact BK397.out) k_ hk, Kd.freshB (g := gb414) (o := .cells #[.int .i64 (wrap64 (x19_1 + 1)), .int .i64 t412, .int .i64 t413] 23 (0, 0)) (by (with_reducible repeat (first | refine blk_drewN ?_ _ | refine blk_drew ?_ | refine blk_alloc ?_ _)); exact BK414.out) k_ hk, Kd.freshB (g := gb421) (o := .cells #[.int .i64 t415, .int .u64 t416, .slice Ao45 t417.length co45] 31 (0, 0)) (by (with_reducible repeat (first | refine blk_drewN ?_ _ | refine blk_drew ?_ | refine blk_alloc ?_ _)); exact BK421.out) k_ hk⟩))
                (case aO => exact (by (with_reducible repeat (first | apply N_alloc | apply N_drewN | apply N_drew)); exact N_mono HO_7.out (fun _ hk => ⟨hk.1.1, ⟨hk.1.2.1, ⟨hk.1.2.2.1, ⟨hk.1.2.2.2.2.1, ⟨hk.1.2.2.2.2.2.1, hk.1.2.2.2.2.2.2⟩⟩⟩⟩⟩)))
                (case aS => exact (below_size (by repeat (first | (with_reducible first | exact HB.out | apply below_alloc | apply pw_below_drewN | apply below_drew1 | refine below_set ?_ GE397.out | refine below_set ?_ GE414.out | refine below_set ?_ GE421.out) | exact HB.out))))
                (case aL => have := LMc29.out; omega)
                intro v426 w52 ho hb hg hat
                rw [← Ny425.out] at ho
                have n0_ := Aside0.mk (R_over' (by (with_reducible repeat (first | apply R_alloc | apply R_drewN | apply R_drew)); exact HO_8.out) (N_typed (by (with_reducible repeat (first | apply N_alloc | apply N_drewN | apply N_drew)); exact HO_7.out)) (by decide) hg)
                have n1_ := Aside0.mk (R_over' (by (with_reducible repeat (first | apply R_alloc | apply R_drewN | apply R_drew)); exact HO_11.out) (N_typed (by (with_reducible repeat (first | apply N_alloc | apply N_drewN | apply N_drew)); exact HO_7.out)) (by decide) hg)
                have n2_ := Aside0.mk (blk_grown (g := gb397) (o := .cells #[.int .u32 (rd_T58 l0 x19_1).f0, .int .u32 (rd_T58 l0 x19_1).f1, .slice A396_2 (rd_T58 l0 x19_1).f2.length c396_2, .bool (rd_T58 l0 x19_1).f3, .int .i64 (rd_T58 l0 x19_1).f4, .int .i64 (rd_T58 l0 x19_1).f5, .int .i64 (rd_T58 l0 x19_1).f6] 58 (0, 0)) (by (with_reducible repeat (first | refine blk_drewN ?_ _ | refine blk_drew ?_ | refine blk_alloc ?_ _)); exact BK397.out) hg (N_ne HO_7.out BK397.out (by decide)))
                have n3_ := Aside0.mk (blk_grown (g := gb414) (o := .cells #[.int .i64 (wrap64 (x19_1 + 1)), .int .i64 t412, .int .i64 t413] 23 (0, 0)) (by (with_reducible repeat (first | refine blk_drewN ?_ _ | refine blk_drew ?_ | refine blk_alloc ?_ _)); exact BK414.out) hg (N_ne HO_7.out BK414.out (by decide)))
                have n4_ := Aside0.mk (blk_grown (g := gb421) (o := .cells #[.int .i64 t415, .int .u64 t416, .slice Ao45 t417.length co45] 31 (0, 0)) (by (with_reducible repeat (first | refine blk_drewN ?_ _ | refine blk_drew ?_ | refine blk_alloc ?_ _)); exact BK421.out) hg (N_away HO_7.out (fun _ hk => hk.1.2.2.2.2.2.2)))
                have n5_ := Aside0.mk (N_afterv (ok := (fun k_ => (w.heap.size ≤ k_) ∧ some k_ ≠ (.slice Ao47 x8_1.length co47 : Value).ownBlock ∧ some k_ ≠ (.slice Ao39 x11_2.length co39 : Value).ownBlock ∧ k_ ≠ gb397 ∧ k_ ≠ gb414 ∧ k_ ≠ gb421)) (by (with_reducible repeat (first | apply N_alloc | apply N_drewN | apply N_drew)); exact N_mono HO424.out (fun _ hk => ⟨⟨hk.1, ⟨hk.2.2.1, ⟨hk.2.2.2.1, ⟨hk.2.2.2.2.1, ⟨hk.2.2.2.2.2.1, hk.2.2.2.2.2.2⟩⟩⟩⟩⟩, hk.2.1⟩)) hg hat)
                have n6_ := Aside0.mk (hb)
                have n7_ := Aside0.mk (ho)
                clear HO_8
                clear HO_11
                clear BK397
                clear BK414
                clear BK421
                clear HO424
                clear HB
                clear HO_7
                have HO_8 := n0_
                have HO_11 := n1_
                have BK397 := n2_
                have BK414 := n3_
                have BK421 := n4_
                have HO424 := n5_
                have HB := n6_
                have HO427 := n7_
                clear n0_ n1_ n2_ n3_ n4_ n5_ n6_ n7_
                clear ho hb hg hat
                refine hK.out _ _ ⟨(blk_cell BK421.out 0).trans rfl, (blk_cell BK421.out 1).trans rfl, (blk_cell BK421.out 2).trans rfl, (blk_cell BK414.out 0).trans rfl, (blk_cell BK414.out 1).trans rfl, (blk_cell BK414.out 2).trans rfl⟩ (fun hHeld => ?_)
                clear hK K
                refine norm_ (a' := ?_) ?_ ?_
                rotate_left
                ·show Act.put _ (some 75) _ = _
                 simp only [Act.put, List.setIfInBounds_toArray, List.set_cons_zero, List.set_cons_succ, i64_w, i32_w]
                 rfl
                refine one_ (i := 6) (N := some 78) #[true, true, true, true, true, true, true, false, false, false] rfl rfl (one_of HT_.out (by kernel_rfl)) (by decide) (fun K hK => ?_)
                refine R_lit_step k23 _ 23 ?hg (N := 78) ?hd (xs := ([(⟨wrap64 (x19_1 + 1), t412, t413⟩ : S23)] : List (S23))) (inner := [.int .i64 (wrap64 (x19_1 + 1)), .int .i64 t412, .int .i64 t413]) (ok := fun _ => True) (okp := fun _ => True) ?hr ?hp (fun _ hk => hk) trivial (Below.refl _ _) (Nat.le_refl _) (by simp) ?_; (case hd => rfl); (case hg => rfl); (case hr => first | (go_simp; done) | (go_simp; rfl)); (case hp => exact (Reps.c3 (show Kd.M k23 _ _ _ (⟨wrap64 (x19_1 + 1), t412, t413⟩ : S23) [.int .i64 (wrap64 (x19_1 + 1)), .int .i64 t412, .int .i64 t413] from (k23_mkM _ _ _ (⟨wrap64 (x19_1 + 1), t412, t413⟩ : S23) )) (Reps.none _ _)))
                intro v429 w54 ho55 hb hg_ hnew_
                clear hg_ hnew_
                (first | rw [← Ny428.out] at ho55 | (simp only [Int.reduceToNat] at ho55; rw [← Ny428.out] at ho55))
                have n0_ := Aside0.mk (R_elder' (by (with_reducible repeat (first | apply R_alloc | apply R_drewN | apply R_drew)); exact HO_8.out) (R_base ho55) hb)
                have n1_ := Aside0.mk (R_below (by (with_reducible repeat (first | apply R_alloc | apply R_drewN | apply R_drew)); exact HO_11.out) hb)
                have n2_ := Aside0.mk (N_elder' (by (with_reducible repeat (first | apply N_alloc | apply N_drewN | apply N_drew)); exact HO424.out) (R_base ho55) hb)
                have n3_ := Aside0.mk (N_elder' (by (with_reducible repeat (first | apply N_alloc | apply N_drewN | apply N_drew)); exact HO427.out) (R_base ho55) hb)
                have n4_ := Aside0.mk (R_lower (R_newB (R_new' (R_newM (M := fun k_ => (w.heap.size ≤ k_)) ho55 (below_size (by repeat (first | (with_reducible first | exact HB.out | apply below_alloc | apply pw_below_drewN | apply below_drew1 | refine below_set ?_ GE397.out | refine below_set ?_ GE414.out | refine below_set ?_ GE421.out) | exact HB.out))) (fun k_ h_ => h_)) (R_lt (by (with_reducible repeat (first | apply R_alloc | apply R_drewN | apply R_drew)); exact HO_8.out))) (g := gb414) (o := .cells #[.int .i64 (wrap64 (x19_1 + 1)), .int .i64 t412, .int .i64 t413] 23 (0, 0)) (by (with_reducible repeat (first | refine blk_drewN ?_ _ | refine blk_drew ?_ | refine blk_alloc ?_ _)); exact BK414.out)) (below_size (by repeat (first | (with_reducible first | exact HB.out | apply below_alloc | apply pw_below_drewN | apply below_drew1 | refine below_set ?_ GE397.out | refine below_set ?_ GE414.out | refine below_set ?_ GE421.out) | exact HB.out))))
                have n5_ := Aside0.mk (blk_below (g := gb397) (o := .cells #[.int .u32 (rd_T58 l0 x19_1).f0, .int .u32 (rd_T58 l0 x19_1).f1, .slice A396_2 (rd_T58 l0 x19_1).f2.length c396_2, .bool (rd_T58 l0 x19_1).f3, .int .i64 (rd_T58 l0 x19_1).f4, .int .i64 (rd_T58 l0 x19_1).f5, .int .i64 (rd_T58 l0 x19_1).f6] 58 (0, 0)) (by (with_reducible repeat (first | refine blk_drewN ?_ _ | refine blk_drew ?_ | refine blk_alloc ?_ _)); exact BK397.out) hb)
                have n6_ := Aside0.mk (blk_below (g := gb414) (o := .cells #[.int .i64 (wrap64 (x19_1 + 1)), .int .i64 t412, .int .i64 t413] 23 (0, 0)) (by (with_reducible repeat (first | refine blk_drewN ?_ _ | refine blk_drew ?_ | refine blk_alloc ?_ _)); exact BK414.out) hb)
                have n7_ := Aside0.mk (blk_below (g := gb421) (o := .cells #[.int .i64 t415, .int .u64 t416, .slice Ao45 t417.length co45] 31 (0, 0)) (by (with_reducible repeat (first | refine blk_drewN ?_ _ | refine blk_drew ?_ | refine blk_alloc ?_ _)); exact BK421.out) hb)
                have n8_ := Aside0.mk (below_step (by repeat (first | (with_reducible first | exact HB.out | apply below_alloc | apply pw_below_drewN | apply below_drew1 | refine below_set ?_ GE397.out | refine below_set ?_ GE414.out | refine below_set ?_ GE421.out) | exact HB.out)) hb)
                clear HO_8
                clear HO_11
                clear HO424
                clear HO427
                clear BK397
                clear BK414
                clear BK421
                clear HB
                have HO_8 := n0_
                have HO_11 := n1_
                have HO424 := n2_
                have HO427 := n3_
                have HO430 := n4_
                have BK397 := n5_
                have BK414 := n6_
                have BK421 := n7_
                have HB := n8_
                clear n0_ n1_ n2_ n3_ n4_ n5_ n6_ n7_ n8_
                clear hb ho55
                refine hK.out _ _ ⟨(blk_cell BK421.out 0).trans rfl, (blk_cell BK421.out 1).trans rfl, (blk_cell BK421.out 2).trans rfl, (blk_cell BK414.out 0).trans rfl, (blk_cell BK414.out 1).trans rfl, (blk_cell BK414.out 2).trans rfl⟩ (fun hHeld => ?_)
                clear hK K
                refine norm_ (a' := ?_) ?_ ?_
                rotate_left
                ·show Act.put _ (some 78) _ = _
                 simp only [Act.put, List.setIfInBounds_toArray, List.set_cons_zero, List.set_cons_succ, i64_w, i32_w]
                 rfl
                exact norm_ (by simp only [putAll, Act.put, List.setIfInBounds_toArray, List.set_cons_zero, List.set_cons_succ]) (hCont (.slice Ao53 y422.length co53, v426, v429) _ ⟨hHeld, (by (with_reducible repeat (first | apply N_alloc | apply N_drewN | apply N_drew)); exact N_mono HO424.out (fun _ hk => ⟨hk.1.1.1, ⟨hk.1.2, ⟨hk.2, ⟨hk.1.1.2.2.1, ⟨hk.1.1.2.1, ⟨hk.1.1.2.2.2.1, ⟨hk.1.1.2.2.2.2.1, hk.1.1.2.2.2.2.2⟩⟩⟩⟩⟩⟩⟩)), (by (with_reducible repeat (first | apply N_alloc | apply N_drewN | apply N_drew)); exact N_mono HO427.out (fun _ hk => ⟨hk.1.1, ⟨hk.2, ⟨hk.1.2.2.1, ⟨hk.1.2.1, ⟨hk.1.2.2.2.1, ⟨hk.1.2.2.2.2.1, hk.1.2.2.2.2.2⟩⟩⟩⟩⟩⟩)), (by (with_reducible repeat (first | apply R_alloc | apply R_drewN | apply R_drew)); exact R_mono HO430.out (fun _ hk => ⟨hk.1.1.1, ⟨hk.1.2, hk.2⟩⟩)), (by (with_reducible repeat (first | apply R_alloc | apply R_drewN | apply R_drew)); exact HO_11.out), (by (with_reducible repeat (first | apply R_alloc | apply R_drewN | apply R_drew)); exact R_mono HO_8.out (fun _ hk => ⟨hk.1.1, ⟨hk.2, hk.1.2⟩⟩)), (by (with_reducible repeat (first | refine blk_drewN ?_ _ | refine blk_drew ?_ | refine blk_alloc ?_ _)); exact BK397.out), (by (with_reducible repeat (first | refine blk_drewN ?_ _ | refine blk_drew ?_ | refine blk_alloc ?_ _)); exact BK414.out), (by (with_reducible repeat (first | refine blk_drewN ?_ _ | refine blk_drew ?_ | refine blk_alloc ?_ _)); exact BK421.out), (by repeat (first | (with_reducible first | exact HB.out | apply below_alloc | apply pw_below_drewN | apply below_drew1 | refine below_set ?_ GE397.out | refine below_set ?_ GE414.out | refine below_set ?_ GE421.out) | exact HB.out))⟩)
               ·skip
                refine R_lit_step k23 _ 23 ?hg (N := 78) ?hd (xs := ([(⟨wrap64 (x19_1 + 1), t412, t413⟩ : S23)] : List (S23))) (inner := [.int .i64 (wrap64 (x19_1 + 1)), .int .i64 t412, .int .i64 t413]) (ok := fun _ => True) (okp := fun _ => True) ?hr ?hp (fun _ hk => hk) trivial (Below.refl _ _) (Nat.le_refl _) (by simp) ?_; (case hd => rfl); (case hg => rfl); (case hr => first | (go_simp; done) | (go_simp; rfl)); (case hp => exact (Reps.c3 (show Kd.M k23 _ _ _ (⟨wrap64 (x19_1 + 1), t412, t413⟩ : S23) [.int .i64 (wrap64 (x19_1 + 1)), .int .i64 t412, .int .i64 t413] from (k23_mkM _ _ _ (⟨wrap64 (x19_1 + 1), t412, t413⟩ : S23) )) (Reps.none _ _)))
                intro v429 w52 ho53 hb hg_ hnew_
                clear hg_ hnew_
                (first | rw [← Ny428.out] at ho53 | (simp only [Int.reduceToNat] at ho53; rw [← Ny428.out] at ho53))
                have n0_ := Aside0.mk (N_elder' (by (with_reducible repeat (first | apply N_alloc | apply N_drewN | apply N_drew)); exact HO_7.out) (R_base ho53) hb)
                have n1_ := Aside0.mk (R_elder' (by (with_reducible repeat (first | apply R_alloc | apply R_drewN | apply R_drew)); exact HO_8.out) (R_base ho53) hb)
                have n2_ := Aside0.mk (R_below (by (with_reducible repeat (first | apply R_alloc | apply R_drewN | apply R_drew)); exact HO_11.out) hb)
                have n3_ := Aside0.mk (N_elder' (by (with_reducible repeat (first | apply N_alloc | apply N_drewN | apply N_drew)); exact HO424.out) (R_base ho53) hb)
                have n4_ := Aside0.mk (R_lower (R_newB (R_new' (R_newM (M := fun k_ => (w.heap.size ≤ k_)) ho53 (below_size (by repeat (first | (with_reducible first | exact HB.out | apply below_alloc | apply pw_below_drewN | apply below_drew1 | refine below_set ?_ GE397.out | refine below_set ?_ GE414.out | refine below_set ?_ GE421.out) | exact HB.out))) (fun k_ h_ => h_)) (R_lt (by (with_reducible repeat (first | apply R_alloc | apply R_drewN | apply R_drew)); exact HO_8.out))) (g := gb414) (o := .cells #[.int .i64 (wrap64 (x19_1 + 1)), .int .i64 t412, .int .i64 t413] 23 (0, 0)) (by (with_reducible repeat (first | refine blk_drewN ?_ _ | refine blk_drew ?_ | refine blk_alloc ?_ _)); exact BK414.out)) (below_size (by repeat (first | (with_reducible first | exact HB.out | apply below_alloc | apply pw_below_drewN | apply below_drew1 | refine below_set ?_ GE397.out | refine below_set ?_ GE414.out | refine below_set ?_ GE421.out) | exact HB.out))))
                have n5_ := Aside0.mk (blk_below (g := gb397) (o := .cells #[.int .u32 (rd_T58 l0 x19_1).f0, .int .u32 (rd_T58 l0 x19_1).f1, .slice A396_2 (rd_T58 l0 x19_1).f2.length c396_2, .bool (rd_T58 l0 x19_1).f3, .int .i64 (rd_T58 l0 x19_1).f4, .int .i64 (rd_T58 l0 x19_1).f5, .int .i64 (rd_T58 l0 x19_1).f6] 58 (0, 0)) (by (with_reducible repeat (first | refine blk_drewN ?_ _ | refine blk_drew ?_ | refine blk_alloc ?_ _)); exact BK397.out) hb)
                have n6_ := Aside0.mk (blk_below (g := gb414) (o := .cells #[.int .i64 (wrap64 (x19_1 + 1)), .int .i64 t412, .int .i64 t413] 23 (0, 0)) (by (with_reducible repeat (first | refine blk_drewN ?_ _ | refine blk_drew ?_ | refine blk_alloc ?_ _)); exact BK414.out) hb)
                have n7_ := Aside0.mk (blk_below (g := gb421) (o := .cells #[.int .i64 t415, .int .u64 t416, .slice Ao45 t417.length co45] 31 (0, 0)) (by (with_reducible repeat (first | refine blk_drewN ?_ _ | refine blk_drew ?_ | refine blk_alloc ?_ _)); exact BK421.out) hb)
                have n8_ := Aside0.mk (below_step (by repeat (first | (with_reducible first | exact HB.out | apply below_alloc | apply pw_below_drewN | apply below_drew1 | refine below_set ?_ GE397.out | refine below_set ?_ GE414.out | refine below_set ?_ GE421.out) | exact HB.out)) hb)
                clear HO_7
                clear HO_8
                clear HO_11
                clear HO424
                clear BK397
                clear BK414
                clear BK421
                clear HB
                have HO_7 := n0_
                have HO_8 := n1_
                have HO_11 := n2_
                have HO424 := n3_
                have HO430 := n4_
                have BK397 := n5_
                have BK414 := n6_
                have BK421 := n7_
                have HB := n8_
                clear n0_ n1_ n2_ n3_ n4_ n5_ n6_ n7_ n8_
                clear hb ho53
                obtain ⟨Ao55, co55, eo55⟩ := N_slice HO424.out
                (first | subst eo55 | (injection eo55 with f1_ f2_ f3_; have f4_ := f1_.symm; have f5_ := f3_.symm; clear f1_ f2_ f3_; subst f4_; subst f5_))
                refine hK.out _ _ ⟨(blk_cell BK421.out 0).trans rfl, (blk_cell BK421.out 1).trans rfl, (blk_cell BK421.out 2).trans rfl, (blk_cell BK414.out 0).trans rfl, (blk_cell BK414.out 1).trans rfl, (blk_cell BK414.out 2).trans rfl⟩ (fun hHeld => ?_)
                clear hK K
                refine norm_ (a' := ?_) ?_ ?_
                rotate_left
                ·show Act.put _ (some 78) _ = _
                 simp only [Act.put, List.setIfInBounds_toArray, List.set_cons_zero, List.set_cons_succ, i64_w, i32_w]
                 rfl
                refine one_ (i := 3) (N := some 75) #[true, true, true, true, true, true, true, false, false, false] rfl rfl (one_of HT_.out (by kernel_rfl)) (by decide) (fun K hK => ?_)
                refine N_append_rows_step k31 (w0 := w) w.heap.size (by rfl) (.tmp 72) (.tmp 74) 26 31 (.agg #[(.int .i64 0), (.int .u64 0), (.slice none 0 0)]) 40 rfl Tryd.underlying26 info31 rfl (by decide) (by omega) (.slice Ao46 x7_1.length co46) x7_1 y422 _ _ _ (fun k_ => (w.heap.size ≤ k_) ∧ some k_ ≠ (.slice Ao47 x8_1.length co47 : Value).ownBlock ∧ some k_ ≠ (.slice Ao39 x11_2.length co39 : Value).ownBlock ∧ some k_ ≠ (v429 : Value).ownBlock ∧ k_ ≠ gb397 ∧ k_ ≠ gb414 ∧ k_ ≠ gb421) (fun k_ => ((fun k_ => (w.heap.size ≤ k_) ∧ some k_ ≠ (.slice Ao47 x8_1.length co47 : Value).ownBlock ∧ some k_ ≠ (.slice Ao39 x11_2.length co39 : Value).ownBlock ∧ some k_ ≠ (v429 : Value).ownBlock ∧ k_ ≠ gb397 ∧ k_ ≠ gb414 ∧ k_ ≠ gb421)) k_ ∧ some k_ ≠ (.slice Ao46 x7_1.length co46 : Value).ownBlock) rfl rfl ?aO ?aR (fun _ hk => hk) ?aF ?aB ?aS ?aL ?_
                (case aR => exact (by skip; exact N_F (N_mono (ok' := (fun k_ => ((fun k_ => (w.heap.size ≤ k_) ∧ some k_ ≠ (.slice Ao47 x8_1.length co47 : Value).ownBlock ∧ some k_ ≠ (.slice Ao39 x11_2.length co39 : Value).ownBlock ∧ some k_ ≠ (v429 : Value).ownBlock ∧ k_ ≠ gb397 ∧ k_ ≠ gb414 ∧ k_ ≠ gb421)) k_ ∧ some k_ ≠ (.slice Ao46 x7_1.length co46 : Value).ownBlock)) (HO424.out) (fun k_ hk => ⟨⟨hk.1.1, ⟨hk.1.2.2.1, ⟨hk.1.2.2.2.1, ⟨hk.2, ⟨hk.1.2.2.2.2.1, ⟨hk.1.2.2.2.2.2.1, hk.1.2.2.2.2.2.2⟩⟩⟩⟩⟩⟩, hk.1.2.1⟩))))
                (case aB => exact (by repeat (first | (with_reducible first | exact HB.out | apply below_alloc | apply pw_below_drewN | apply below_drew1 | refine below_set ?_ GE397.out | refine below_set ?_ GE414.out | refine below_set ?_ GE421.out) | exact HB.out)))
                (case aF => exact (fun k_ hk => ⟨(Nat.le_trans (below_size (by repeat (first | (with_reducible first | exact HB.out | apply below_alloc | apply pw_below_drewN | apply below_drew1 | refine below_set ?_ GE397.out | refine below_set ?_ GE414.out | refine below_set ?_ GE421.out) | exact HB.out))) hk), Kd.fresh' (R_lt (by (with_reducible repeat (first | apply R_alloc | apply R_drewN | apply R_drew)); exact HO_8.out)) k_ hk, Kd.fresh' (R_lt (by (with_reducible repeat (first | apply R_alloc | apply R_drewN | apply R_drew)); exact HO_11.out)) k_ hk, Kd.fresh' (R_lt (by (with_reducible repeat (first | apply R_alloc | apply R_drewN | apply R_drew)); exact HO430.out)) k_ hk, Kd.freshB (g := gb397) (o := .cells #[.int .u32 (rd_T58 l0 x19_1).f0, .int .u32 (rd_T58 l0 x19_1).f1, .slice A396_2 (rd_T58 l0 x19_1).f2.length c396_2, .bool (rd_T58 l0 x19_1).f3, .int .i64 (rd_T58 l0 x19_1).f4, .int .i64 (rd_T58 l0 x19_1).f5, .int .i64 (rd_T58 l0 x19_1).f6] 58 (0, 0)) (by (with_reducible repeat (first | refine blk_drewN ?_ _ | refine blk_drew ?_ | refine blk_alloc ?_ _)); exact BK397.out) k_ hk, Kd.freshB (g := gb414) (o := .cells #[.int .i64 (wrap64 (x19_1 + 1)), .int .i64 t412, .int .i64 t413] 23 (0, 0)) (by (with_reducible repeat (first | refine blk_drewN ?_ _ | refine blk_drew ?_ | refine blk_alloc ?_ _)); exact BK414.out) k_ hk, Kd.freshB (g := gb421) (o := .cells #[.int .i64 t415, .int .u64 t416, .slice Ao45 t417.length co45] 31 (0, 0)) (by (with_reducible repeat (first | refine blk_drewN ?_ _ | refine blk_drew ?_ | refine blk_alloc ?_ _)); exact BK421.out) k_ hk⟩))
                (case aO => exact (by (with_reducible repeat (first | apply N_alloc | apply N_drewN | apply N_drew)); exact N_mono HO_7.out (fun _ hk => ⟨hk.1.1.1, ⟨hk.1.1.2.1, ⟨hk.1.1.2.2.1, ⟨hk.2, ⟨hk.1.1.2.2.2.2.1, ⟨hk.1.1.2.2.2.2.2.1, hk.1.1.2.2.2.2.2.2⟩⟩⟩⟩⟩⟩)))
                (case aS => exact (below_size (by repeat (first | (with_reducible first | exact HB.out | apply below_alloc | apply pw_below_drewN | apply below_drew1 | refine below_set ?_ GE397.out | refine below_set ?_ GE414.out | refine below_set ?_ GE421.out) | exact HB.out))))
                (case aL => have := LMc29.out; omega)
                intro v426 w54 ho hb hg hat
                rw [← Ny425.out] at ho
                have n0_ := Aside0.mk (R_over' (by (with_reducible repeat (first | apply R_alloc | apply R_drewN | apply R_drew)); exact HO_8.out) (N_typed (by (with_reducible repeat (first | apply N_alloc | apply N_drewN | apply N_drew)); exact HO_7.out)) (by decide) hg)
                have n1_ := Aside0.mk (R_over' (by (with_reducible repeat (first | apply R_alloc | apply R_drewN | apply R_drew)); exact HO_11.out) (N_typed (by (with_reducible repeat (first | apply N_alloc | apply N_drewN | apply N_drew)); exact HO_7.out)) (by decide) hg)
                have n2_ := Aside0.mk (blk_grown (g := gb397) (o := .cells #[.int .u32 (rd_T58 l0 x19_1).f0, .int .u32 (rd_T58 l0 x19_1).f1, .slice A396_2 (rd_T58 l0 x19_1).f2.length c396_2, .bool (rd_T58 l0 x19_1).f3, .int .i64 (rd_T58 l0 x19_1).f4, .int .i64 (rd_T58 l0 x19_1).f5, .int .i64 (rd_T58 l0 x19_1).f6] 58 (0, 0)) (by (with_reducible repeat (first | refine blk_drewN ?_ _ | refine blk_drew ?_ | refine blk_alloc ?_ _)); exact BK397.out) hg (N_ne HO_7.out BK397.out (by decide)))
                have n3_ := Aside0.mk (blk_grown (g := gb414) (o := .cells #[.int .i64 (wrap64 (x19_1 + 1)), .int .i64 t412, .int .i64 t413] 23 (0, 0)) (by (with_reducible repeat (first | refine blk_drewN ?_ _ | refine blk_drew ?_ | refine blk_alloc ?_ _)); exact BK414.out) hg (N_ne HO_7.out BK414.out (by decide)))
                have n4_ := Aside0.mk (blk_grown (g := gb421) (o := .cells #[.int .i64 t415, .int .u64 t416, .slice Ao45 t417.length co45] 31 (0, 0)) (by (with_reducible repeat (first | refine blk_drewN ?_ _ | refine blk_drew ?_ | refine blk_alloc ?_ _)); exact BK421.out) hg (N_away HO_7.out (fun _ hk => hk.1.1.2.2.2.2.2.2)))
                have n5_ := Aside0.mk (N_afterv (ok := (fun k_ => (w.heap.size ≤ k_) ∧ some k_ ≠ (.slice Ao47 x8_1.length co47 : Value).ownBlock ∧ some k_ ≠ (.slice Ao39 x11_2.length co39 : Value).ownBlock ∧ some k_ ≠ (v429 : Value).ownBlock ∧ k_ ≠ gb397 ∧ k_ ≠ gb414 ∧ k_ ≠ gb421)) (by (with_reducible repeat (first | apply N_alloc | apply N_drewN | apply N_drew)); exact N_mono HO424.out (fun _ hk => ⟨⟨hk.1.1, ⟨hk.1.2.2.1, ⟨hk.1.2.2.2.1, ⟨hk.2, ⟨hk.1.2.2.2.2.1, ⟨hk.1.2.2.2.2.2.1, hk.1.2.2.2.2.2.2⟩⟩⟩⟩⟩⟩, hk.1.2.1⟩)) hg hat)
                have n6_ := Aside0.mk (R_over' (by (with_reducible repeat (first | apply R_alloc | apply R_drewN | apply R_drew)); exact HO430.out) (N_typed (by (with_reducible repeat (first | apply N_alloc | apply N_drewN | apply N_drew)); exact HO_7.out)) (by decide) hg)
                have n7_ := Aside0.mk (hb)
                have n8_ := Aside0.mk (ho)
                clear HO_8
                clear HO_11
                clear BK397
                clear BK414
                clear BK421
                clear HO424
                clear HO430
                clear HB
                clear HO_7
                have HO_8 := n0_
                have HO_11 := n1_
                have BK397 := n2_
                have BK414 := n3_
                have BK421 := n4_
                have HO424 := n5_
                have HO430 := n6_
                have HB := n7_
                have HO427 := n8_
                clear n0_ n1_ n2_ n3_ n4_ n5_ n6_ n7_ n8_
                clear ho hb hg hat
                refine hK.out _ _ ⟨(blk_cell BK421.out 0).trans rfl, (blk_cell BK421.out 1).trans rfl, (blk_cell BK421.out 2).trans rfl, (blk_cell BK414.out 0).trans rfl, (blk_cell BK414.out 1).trans rfl, (blk_cell BK414.out 2).trans rfl⟩ (fun hHeld => ?_)
                clear hK K
                refine norm_ (a' := ?_) ?_ ?_
                rotate_left
                ·show Act.put _ (some 75) _ = _
                 simp only [Act.put, List.setIfInBounds_toArray, List.set_cons_zero, List.set_cons_succ, i64_w, i32_w]
                 rfl
                exact norm_ (by simp only [putAll, Act.put, List.setIfInBounds_toArray, List.set_cons_zero, List.set_cons_succ]) (hCont (.slice Ao55 y422.length co55, v426, v429) _ ⟨hHeld, (by (with_reducible repeat (first | apply N_alloc | apply N_drewN | apply N_drew)); exact N_mono HO424.out (fun _ hk => ⟨hk.1.1, ⟨hk.2, ⟨hk.1.2.2.2.1, ⟨hk.1.2.2.1, ⟨hk.1.2.1, ⟨hk.1.2.2.2.2.1, ⟨hk.1.2.2.2.2.2.1, hk.1.2.2.2.2.2.2⟩⟩⟩⟩⟩⟩⟩)), (by (with_reducible repeat (first | apply N_alloc | apply N_drewN | apply N_drew)); exact N_mono HO427.out (fun _ hk => ⟨hk.1, ⟨hk.2.2.2.1, ⟨hk.2.2.1, ⟨hk.2.1, ⟨hk.2.2.2.2.1, ⟨hk.2.2.2.2.2.1, hk.2.2.2.2.2.2⟩⟩⟩⟩⟩⟩)), (by (with_reducible repeat (first | apply R_alloc | apply R_drewN | apply R_drew)); exact R_mono HO430.out (fun _ hk => ⟨hk.1.1.1, ⟨hk.1.2, hk.2⟩⟩)), (by (with_reducible repeat (first | apply R_alloc | apply R_drewN | apply R_drew)); exact HO_11.out), (by (with_reducible repeat (first | apply R_alloc | apply R_drewN | apply R_drew)); exact R_mono HO_8.out (fun _ hk => ⟨hk.1.1, ⟨hk.2, hk.1.2⟩⟩)), (by (with_reducible repeat (first | refine blk_drewN ?_ _ | refine blk_drew ?_ | refine blk_alloc ?_ _)); exact BK397.out), (by (with_reducible repeat (first | refine blk_drewN ?_ _ | refine blk_drew ?_ | refine blk_alloc ?_ _)); exact BK414.out), (by (with_reducible repeat (first | refine blk_drewN ?_ _ | refine blk_drew ?_ | refine blk_alloc ?_ _)); exact BK421.out), (by repeat (first | (with_reducible first | exact HB.out | apply below_alloc | apply pw_below_drewN | apply below_drew1 | refine below_set ?_ GE397.out | refine below_set ?_ GE414.out | refine below_set ?_ GE421.out) | exact HB.out))⟩)
              ·skip
               refine R_lit_step k23 _ 23 ?hg (N := 78) ?hd (xs := ([(⟨wrap64 (x19_1 + 1), t412, t413⟩ : S23)] : List (S23))) (inner := [.int .i64 (wrap64 (x19_1 + 1)), .int .i64 t412, .int .i64 t413]) (ok := fun _ => True) (okp := fun _ => True) ?hr ?hp (fun _ hk => hk) trivial (Below.refl _ _) (Nat.le_refl _) (by simp) ?_; (case hd => rfl); (case hg => rfl); (case hr => first | (go_simp; done) | (go_simp; rfl)); (case hp => exact (Reps.c3 (show Kd.M k23 _ _ _ (⟨wrap64 (x19_1 + 1), t412, t413⟩ : S23) [.int .i64 (wrap64 (x19_1 + 1)), .int .i64 t412, .int .i64 t413] from (k23_mkM _ _ _ (⟨wrap64 (x19_1 + 1), t412, t413⟩ : S23) )) (Reps.none _ _)))
               intro v429 w50 ho51 hb hg_ hnew_
               clear hg_ hnew_
               (first | rw [← Ny428.out] at ho51 | (simp only [Int.reduceToNat] at ho51; rw [← Ny428.out] at ho51))
               have n0_ := Aside0.mk (N_elder' (by (with_reducible repeat (first | apply N_alloc | apply N_drewN | apply N_drew)); exact HO_7.out) (R_base ho51) hb)
               have n1_ := Aside0.mk (R_elder' (by (with_reducible repeat (first | apply R_alloc | apply R_drewN | apply R_drew)); exact HO_8.out) (R_base ho51) hb)
               have n2_ := Aside0.mk (R_below (by (with_reducible repeat (first | apply R_alloc | apply R_drewN | apply R_drew)); exact HO_11.out) hb)
               have n3_ := Aside0.mk (R_below (by (with_reducible repeat (first | apply R_alloc | apply R_drewN | apply R_drew)); exact HO419.out) hb)
               have n4_ := Aside0.mk (R_lower (R_newB (R_new' (R_newM (M := fun k_ => (w.heap.size ≤ k_)) ho51 (below_size (by repeat (first | (with_reducible first | exact HB.out | apply below_alloc | apply pw_below_drewN | apply below_drew1 | refine below_set ?_ GE397.out | refine below_set ?_ GE414.out | refine below_set ?_ GE421.out) | exact HB.out))) (fun k_ h_ => h_)) (R_lt (by (with_reducible repeat (first | apply R_alloc | apply R_drewN | apply R_drew)); exact HO_8.out))) (g := gb414) (o := .cells #[.int .i64 (wrap64 (x19_1 + 1)), .int .i64 t412, .int .i64 t413] 23 (0, 0)) (by (with_reducible repeat (first | refine blk_drewN ?_ _ | refine blk_drew ?_ | refine blk_alloc ?_ _)); exact BK414.out)) (below_size (by repeat (first | (with_reducible first | exact HB.out | apply below_alloc | apply pw_below_drewN | apply below_drew1 | refine below_set ?_ GE397.out | refine below_set ?_ GE414.out | refine below_set ?_ GE421.out) | exact HB.out))))
               have n5_ := Aside0.mk (blk_below (g := gb397) (o := .cells #[.int .u32 (rd_T58 l0 x19_1).f0, .int .u32 (rd_T58 l0 x19_1).f1, .slice A396_2 (rd_T58 l0 x19_1).f2.length c396_2, .bool (rd_T58 l0 x19_1).f3, .int .i64 (rd_T58 l0 x19_1).f4, .int .i64 (rd_T58 l0 x19_1).f5, .int .i64 (rd_T58 l0 x19_1).f6] 58 (0, 0)) (by (with_reducible repeat (first | refine blk_drewN ?_ _ | refine blk_drew ?_ | refine blk_alloc ?_ _)); exact BK397.out) hb)
               have n6_ := Aside0.mk (blk_below (g := gb414) (o := .cells #[.int .i64 (wrap64 (x19_1 + 1)), .int .i64 t412, .int .i64 t413] 23 (0, 0)) (by (with_reducible repeat (first | refine blk_drewN ?_ _ | refine blk_drew ?_ | refine blk_alloc ?_ _)); exact BK414.out) hb)
               have n7_ := Aside0.mk (blk_below (g := gb421) (o := .cells #[.int .i64 t415, .int .u64 t416, .slice Ao45 t417.length co45] 31 (0, 0)) (by (with_reducible repeat (first | refine blk_drewN ?_ _ | refine blk_drew ?_ | refine blk_alloc ?_ _)); exact BK421.out) hb)
               have n8_ := Aside0.mk (below_step (by repeat (first | (with_reducible first | exact HB.out | apply below_alloc | apply pw_below_drewN | apply below_drew1 | refine below_set ?_ GE397.out | refine below_set ?_ GE414.out | refine below_set ?_ GE421.out) | exact HB.out)) hb)
               clear HO_7
               clear HO_8
               clear HO_11
               clear HO419
               clear BK397
               clear BK414
               clear BK421
               clear HB
               have HO_7 := n0_
               have HO_8 := n1_
               have HO_11 := n2_
               have HO419 := n3_
               have HO430 := n4_
               have BK397 := n5_
               have BK414 := n6_
               have BK421 := n7_
               have HB := n8_
               clear n0_ n1_ n2_ n3_ n4_ n5_ n6_ n7_ n8_
               clear hb ho51
               refine hK.out _ _ ⟨(blk_cell BK421.out 0).trans rfl, (blk_cell BK421.out 1).trans rfl, (blk_cell BK421.out 2).trans rfl, (blk_cell BK414.out 0).trans rfl, (blk_cell BK414.out 1).trans rfl, (blk_cell BK414.out 2).trans rfl⟩ (fun hHeld => ?_)
               clear hK K
               refine norm_ (a' := ?_) ?_ ?_
               rotate_left
               ·show Act.put _ (some 78) _ = _
                simp only [Act.put, List.setIfInBounds_toArray, List.set_cons_zero, List.set_cons_succ, i64_w, i32_w]
                rfl
               refine one_ (i := 2) (N := some 74) #[true, true, true, false, true, true, true, false, false, false] rfl rfl (one_of HT_.out (by kernel_rfl)) (by decide) (fun K hK => ?_)
               refine N_lit_step k31 _ 31 ?hg (N' := 74) ?hd (xs := ([(⟨t415, t416, t417⟩ : S31)] : List (S31))) (inner := [.int .i64 t415, .int .u64 t416, .slice Ao45 t417.length co45]) (ok := (fun k_ => (w.heap.size ≤ k_) ∧ some k_ ≠ (.slice Ao46 x7_1.length co46 : Value).ownBlock ∧ some k_ ≠ (.slice Ao47 x8_1.length co47 : Value).ownBlock ∧ some k_ ≠ (.slice Ao39 x11_2.length co39 : Value).ownBlock ∧ some k_ ≠ (v429 : Value).ownBlock ∧ k_ ≠ gb397 ∧ k_ ≠ gb414 ∧ k_ ≠ gb421)) (okp := (fun k_ => (w.heap.size ≤ k_) ∧ some k_ ≠ (.slice Ao46 x7_1.length co46 : Value).ownBlock ∧ some k_ ≠ (.slice Ao47 x8_1.length co47 : Value).ownBlock ∧ some k_ ≠ (.slice Ao39 x11_2.length co39 : Value).ownBlock ∧ some k_ ≠ (v429 : Value).ownBlock ∧ k_ ≠ gb397 ∧ k_ ≠ gb414 ∧ k_ ≠ gb421)) ?hr ?hp (fun _ hk => hk) ((show ∀ k_, w50.heap.size ≤ k_ → (fun k_ => (w.heap.size ≤ k_) ∧ some k_ ≠ (.slice Ao46 x7_1.length co46 : Value).ownBlock ∧ some k_ ≠ (.slice Ao47 x8_1.length co47 : Value).ownBlock ∧ some k_ ≠ (.slice Ao39 x11_2.length co39 : Value).ownBlock ∧ some k_ ≠ (v429 : Value).ownBlock ∧ k_ ≠ gb397 ∧ k_ ≠ gb414 ∧ k_ ≠ gb421) k_ from fun k_ hk => ⟨(Nat.le_trans (below_size (by repeat (first | (with_reducible first | exact HB.out | apply below_alloc | apply pw_below_drewN | apply below_drew1 | refine below_set ?_ GE397.out | refine below_set ?_ GE414.out | refine below_set ?_ GE421.out) | exact HB.out))) hk), Kd.fresh' (N_lt (by (with_reducible repeat (first | apply N_alloc | apply N_drewN | apply N_drew)); exact HO_7.out)) k_ hk, Kd.fresh' (R_lt (by (with_reducible repeat (first | apply R_alloc | apply R_drewN | apply R_drew)); exact HO_8.out)) k_ hk, Kd.fresh' (R_lt (by (with_reducible repeat (first | apply R_alloc | apply R_drewN | apply R_drew)); exact HO_11.out)) k_ hk, Kd.fresh' (R_lt (by (with_reducible repeat (first | apply R_alloc | apply R_drewN | apply R_drew)); exact HO430.out)) k_ hk, Kd.freshB (g := gb397) (o := .cells #[.int .u32 (rd_T58 l0 x19_1).f0, .int .u32 (rd_T58 l0 x19_1).f1, .slice A396_2 (rd_T58 l0 x19_1).f2.length c396_2, .bool (rd_T58 l0 x19_1).f3, .int .i64 (rd_T58 l0 x19_1).f4, .int .i64 (rd_T58 l0 x19_1).f5, .int .i64 (rd_T58 l0 x19_1).f6] 58 (0, 0)) (by (with_reducible repeat (first | refine blk_drewN ?_ _ | refine blk_drew ?_ | refine blk_alloc ?_ _)); exact BK397.out) k_ hk, Kd.freshB (g := gb414) (o := .cells #[.int .i64 (wrap64 (x19_1 + 1)), .int .i64 t412, .int .i64 t413] 23 (0, 0)) (by (with_reducible repeat (first | refine blk_drewN ?_ _ | refine blk_drew ?_ | refine blk_alloc ?_ _)); exact BK414.out) k_ hk, Kd.freshB (g := gb421) (o := .cells #[.int .i64 t415, .int .u64 t416, .slice Ao45 t417.length co45] 31 (0, 0)) (by (with_reducible repeat (first | refine blk_drewN ?_ _ | refine blk_drew ?_ | refine blk_alloc ?_ _)); exact BK421.out) k_ hk⟩) _ (Nat.le_refl _)) (Below.refl _ _) (Nat.le_refl _) (by simp) ?_; (case hd => rfl); (case hg => rfl); (case hr => first | (go_simp; done) | (go_simp; rfl)); (case hp => exact (Reps.c3 (show Kd.FK k31 _ _ (⟨t415, t416, t417⟩ : S31) [.int .i64 t415, .int .u64 t416, .slice Ao45 t417.length co45] from (k31_mkF _ _ (⟨t415, t416, t417⟩ : S31) (R_reads' (R_mono (ok' := (fun k_ => (w.heap.size ≤ k_) ∧ some k_ ≠ (.slice Ao46 x7_1.length co46 : Value).ownBlock ∧ some k_ ≠ (.slice Ao47 x8_1.length co47 : Value).ownBlock ∧ some k_ ≠ (.slice Ao39 x11_2.length co39 : Value).ownBlock ∧ some k_ ≠ (v429 : Value).ownBlock ∧ k_ ≠ gb397 ∧ k_ ≠ gb414 ∧ k_ ≠ gb421)) (R_types (R_types (R_types (R_apart' (R_apart' (R_apart' (R_apart' (HO419.out) (N_typed HO_7.out) (by decide)) (R_typed HO_8.out) (by decide)) (R_typed HO_11.out) (by decide)) (R_typed HO430.out) (by decide)) BK397.out (by decide)) BK414.out (by decide)) BK421.out (by decide)) (fun k_ hk => ⟨hk.1.1.1.1.1.1.1, ⟨hk.1.1.1.1.1.1.2, ⟨hk.1.1.1.1.1.2, ⟨hk.1.1.1.1.2, ⟨hk.1.1.1.2, ⟨hk.1.1.2, ⟨hk.1.2, hk.2⟩⟩⟩⟩⟩⟩⟩))).2.1 (R_F (R_mono (ok' := (fun k_ => (w.heap.size ≤ k_) ∧ some k_ ≠ (.slice Ao46 x7_1.length co46 : Value).ownBlock ∧ some k_ ≠ (.slice Ao47 x8_1.length co47 : Value).ownBlock ∧ some k_ ≠ (.slice Ao39 x11_2.length co39 : Value).ownBlock ∧ some k_ ≠ (v429 : Value).ownBlock ∧ k_ ≠ gb397 ∧ k_ ≠ gb414 ∧ k_ ≠ gb421)) (R_types (R_types (R_types (R_apart' (R_apart' (R_apart' (R_apart' (HO419.out) (N_typed HO_7.out) (by decide)) (R_typed HO_8.out) (by decide)) (R_typed HO_11.out) (by decide)) (R_typed HO430.out) (by decide)) BK397.out (by decide)) BK414.out (by decide)) BK421.out (by decide)) (fun k_ hk => ⟨hk.1.1.1.1.1.1.1, ⟨hk.1.1.1.1.1.1.2, ⟨hk.1.1.1.1.1.2, ⟨hk.1.1.1.1.2, ⟨hk.1.1.1.2, ⟨hk.1.1.2, ⟨hk.1.2, hk.2⟩⟩⟩⟩⟩⟩⟩))))) (Reps.none _ _)))
               intro v423 w52 ho53 hb hg_ hnew_
               clear hg_ hnew_
               (first | rw [← Ny422.out] at ho53 | (simp only [Int.reduceToNat] at ho53; rw [← Ny422.out] at ho53))
               have n0_ := Aside0.mk (N_elder' (by (with_reducible repeat (first | apply N_alloc | apply N_drewN | apply N_drew)); exact HO_7.out) (N_base ho53) hb)
               have n1_ := Aside0.mk (R_below (by (with_reducible repeat (first | apply R_alloc | apply R_drewN | apply R_drew)); exact HO_8.out) hb)
               have n2_ := Aside0.mk (R_below (by (with_reducible repeat (first | apply R_alloc | apply R_drewN | apply R_drew)); exact HO_11.out) hb)
               have n3_ := Aside0.mk (R_below (by (with_reducible repeat (first | apply R_alloc | apply R_drewN | apply R_drew)); exact HO430.out) hb)
               have n4_ := Aside0.mk (N_lower ho53 (below_size (by repeat (first | (with_reducible first | exact HB.out | apply below_alloc | apply pw_below_drewN | apply below_drew1 | refine below_set ?_ GE397.out | refine below_set ?_ GE414.out | refine below_set ?_ GE421.out) | exact HB.out))))
               have n5_ := Aside0.mk (blk_below (g := gb397) (o := .cells #[.int .u32 (rd_T58 l0 x19_1).f0, .int .u32 (rd_T58 l0 x19_1).f1, .slice A396_2 (rd_T58 l0 x19_1).f2.length c396_2, .bool (rd_T58 l0 x19_1).f3, .int .i64 (rd_T58 l0 x19_1).f4, .int .i64 (rd_T58 l0 x19_1).f5, .int .i64 (rd_T58 l0 x19_1).f6] 58 (0, 0)) (by (with_reducible repeat (first | refine blk_drewN ?_ _ | refine blk_drew ?_ | refine blk_alloc ?_ _)); exact BK397.out) hb)
               have n6_ := Aside0.mk (blk_below (g := gb414) (o := .cells #[.int .i64 (wrap64 (x19_1 + 1)), .int .i64 t412, .int .i64 t413] 23 (0, 0)) (by (with_reducible repeat (first | refine blk_drewN ?_ _ | refine blk_drew ?_ | refine blk_alloc ?_ _)); exact BK414.out) hb)
               have n7_ := Aside0.mk (blk_below (g := gb421) (o := .cells #[.int .i64 t415, .int .u64 t416, .slice Ao45 t417.length co45] 31 (0, 0)) (by (with_reducible repeat (first | refine blk_drewN ?_ _ | refine blk_drew ?_ | refine blk_alloc ?_ _)); exact BK421.out) hb)
               have n8_ := Aside0.mk (below_step (by repeat (first | (with_reducible first | exact HB.out | apply below_alloc | apply pw_below_drewN | apply below_drew1 | refine below_set ?_ GE397.out | refine below_set ?_ GE414.out | refine below_set ?_ GE421.out) | exact HB.out)) hb)
               clear HO_7
               clear HO_8
               clear HO_11
               clear HO430
               clear BK397
               clear BK414
               clear BK421
               clear HB
               clear HO419
               have HO_7 := n0_
               have HO_8 := n1_
               have HO_11 := n2_
               have HO430 := n3_
               have HO424 := n4_
               have BK397 := n5_
               have BK414 := n6_
               have BK421 := n7_
               have HB := n8_
               clear n0_ n1_ n2_ n3_ n4_ n5_ n6_ n7_ n8_
               clear hb ho53
               obtain ⟨Ao55, co55, eo55⟩ := N_slice HO424.out
               (first | subst eo55 | (injection eo55 with f1_ f2_ f3_; have f4_ := f1_.symm; have f5_ := f3_.symm; clear f1_ f2_ f3_; subst f4_; subst f5_))
               refine hK.out _ _ ⟨(blk_cell BK421.out 0).trans rfl, (blk_cell BK421.out 1).trans rfl, (blk_cell BK421.out 2).trans rfl, (blk_cell BK414.out 0).trans rfl, (blk_cell BK414.out 1).trans rfl, (blk_cell BK414.out 2).trans rfl⟩ (fun hHeld => ?_)
               clear hK K
               refine norm_ (a' := ?_) ?_ ?_
               rotate_left
               ·show Act.put _ (some 74) _ = _
                simp only [Act.put, List.setIfInBounds_toArray, List.set_cons_zero, List.set_cons_succ, i64_w, i32_w]
                rfl
               refine one_ (i := 3) (N := some 75) #[true, true, true, true, true, true, true, false, false, false] rfl rfl (one_of HT_.out (by kernel_rfl)) (by decide) (fun K hK => ?_)
               refine N_append_rows_step k31 (w0 := w) w.heap.size (by rfl) (.tmp 72) (.tmp 74) 26 31 (.agg #[(.int .i64 0), (.int .u64 0), (.slice none 0 0)]) 40 rfl Tryd.underlying26 info31 rfl (by decide) (by omega) (.slice Ao46 x7_1.length co46) x7_1 y422 _ _ _ (fun k_ => (w.heap.size ≤ k_) ∧ some k_ ≠ (.slice Ao47 x8_1.length co47 : Value).ownBlock ∧ some k_ ≠ (.slice Ao39 x11_2.length co39 : Value).ownBlock ∧ some k_ ≠ (v429 : Value).ownBlock ∧ k_ ≠ gb397 ∧ k_ ≠ gb414 ∧ k_ ≠ gb421) (fun k_ => ((fun k_ => (w.heap.size ≤ k_) ∧ some k_ ≠ (.slice Ao47 x8_1.length co47 : Value).ownBlock ∧ some k_ ≠ (.slice Ao39 x11_2.length co39 : Value).ownBlock ∧ some k_ ≠ (v429 : Value).ownBlock ∧ k_ ≠ gb397 ∧ k_ ≠ gb414 ∧ k_ ≠ gb421)) k_ ∧ some k_ ≠ (.slice Ao46 x7_1.length co46 : Value).ownBlock) rfl rfl ?aO ?aR (fun _ hk => hk) ?aF ?aB ?aS ?aL ?_
               (case aR => exact (by skip; exact N_F (N_mono (ok' := (fun k_ => ((fun k_ => (w.heap.size ≤ k_) ∧ some k_ ≠ (.slice Ao47 x8_1.length co47 : Value).ownBlock ∧ some k_ ≠ (.slice Ao39 x11_2.length co39 : Value).ownBlock ∧ some k_ ≠ (v429 : Value).ownBlock ∧ k_ ≠ gb397 ∧ k_ ≠ gb414 ∧ k_ ≠ gb421)) k_ ∧ some k_ ≠ (.slice Ao46 x7_1.length co46 : Value).ownBlock)) (HO424.out) (fun k_ hk => ⟨⟨hk.1, ⟨hk.2.2.1, ⟨hk.2.2.2.1, ⟨hk.2.2.2.2.1, ⟨hk.2.2.2.2.2.1, ⟨hk.2.2.2.2.2.2.1, hk.2.2.2.2.2.2.2⟩⟩⟩⟩⟩⟩, hk.2.1⟩))))
               (case aB => exact (by repeat (first | (with_reducible first | exact HB.out | apply below_alloc | apply pw_below_drewN | apply below_drew1 | refine below_set ?_ GE397.out | refine below_set ?_ GE414.out | refine below_set ?_ GE421.out) | exact HB.out)))
               (case aF => exact (fun k_ hk => ⟨(Nat.le_trans (below_size (by repeat (first | (with_reducible first | exact HB.out | apply below_alloc | apply pw_below_drewN | apply below_drew1 | refine below_set ?_ GE397.out | refine below_set ?_ GE414.out | refine below_set ?_ GE421.out) | exact HB.out))) hk), Kd.fresh' (R_lt (by (with_reducible repeat (first | apply R_alloc | apply R_drewN | apply R_drew)); exact HO_8.out)) k_ hk, Kd.fresh' (R_lt (by (with_reducible repeat (first | apply R_alloc | apply R_drewN | apply R_drew)); exact HO_11.out)) k_ hk, Kd.fresh' (R_lt (by (with_reducible repeat (first | apply R_alloc | apply R_drewN | apply R_drew)); exact HO430.out)) k_ hk, Kd.freshB (g := gb397) (o := .cells #[.int .u32 (rd_T58 l0 x19_1).f0, .int .u32 (rd_T58 l0 x19_1).f1, .slice A396_2 (rd_T58 l0 x19_1).f2.length c396_2, .bool (rd_T58 l0 x19_1).f3, .int .i64 (rd_T58 l0 x19_1).f4, .int .i64 (rd_T58 l0 x19_1).f5, .int .i64 (rd_T58 l0 x19_1).f6] 58 (0, 0)) (by (with_reducible repeat (first | refine blk_drewN ?_ _ | refine blk_drew ?_ | refine blk_alloc ?_ _)); exact BK397.out) k_ hk, Kd.freshB (g := gb414) (o := .cells #[.int .i64 (wrap64 (x19_1 + 1)), .int .i64 t412, .int .i64 t413] 23 (0, 0)) (by (with_reducible repeat (first | refine blk_drewN ?_ _ | refine blk_drew ?_ | refine blk_alloc ?_ _)); exact BK414.out) k_ hk, Kd.freshB (g := gb421) (o := .cells #[.int .i64 t415, .int .u64 t416, .slice Ao45 t417.length co45] 31 (0, 0)) (by (with_reducible repeat (first | refine blk_drewN ?_ _ | refine blk_drew ?_ | refine blk_alloc ?_ _)); exact BK421.out) k_ hk⟩))
               (case aO => exact (by (with_reducible repeat (first | apply N_alloc | apply N_drewN | apply N_drew)); exact N_mono HO_7.out (fun _ hk => ⟨hk.1.1.1, ⟨hk.1.1.2.1, ⟨hk.1.1.2.2.1, ⟨hk.1.2, ⟨hk.1.1.2.2.2.2.1, ⟨hk.1.1.2.2.2.2.2.1, hk.1.1.2.2.2.2.2.2⟩⟩⟩⟩⟩⟩)))
               (case aS => exact (below_size (by repeat (first | (with_reducible first | exact HB.out | apply below_alloc | apply pw_below_drewN | apply below_drew1 | refine below_set ?_ GE397.out | refine below_set ?_ GE414.out | refine below_set ?_ GE421.out) | exact HB.out))))
               (case aL => have := LMc29.out; omega)
               intro v426 w54 ho hb hg hat
               rw [← Ny425.out] at ho
               have n0_ := Aside0.mk (R_over' (by (with_reducible repeat (first | apply R_alloc | apply R_drewN | apply R_drew)); exact HO_8.out) (N_typed (by (with_reducible repeat (first | apply N_alloc | apply N_drewN | apply N_drew)); exact HO_7.out)) (by decide) hg)
               have n1_ := Aside0.mk (R_over' (by (with_reducible repeat (first | apply R_alloc | apply R_drewN | apply R_drew)); exact HO_11.out) (N_typed (by (with_reducible repeat (first | apply N_alloc | apply N_drewN | apply N_drew)); exact HO_7.out)) (by decide) hg)
               have n2_ := Aside0.mk (blk_grown (g := gb397) (o := .cells #[.int .u32 (rd_T58 l0 x19_1).f0, .int .u32 (rd_T58 l0 x19_1).f1, .slice A396_2 (rd_T58 l0 x19_1).f2.length c396_2, .bool (rd_T58 l0 x19_1).f3, .int .i64 (rd_T58 l0 x19_1).f4, .int .i64 (rd_T58 l0 x19_1).f5, .int .i64 (rd_T58 l0 x19_1).f6] 58 (0, 0)) (by (with_reducible repeat (first | refine blk_drewN ?_ _ | refine blk_drew ?_ | refine blk_alloc ?_ _)); exact BK397.out) hg (N_ne HO_7.out BK397.out (by decide)))
               have n3_ := Aside0.mk (blk_grown (g := gb414) (o := .cells #[.int .i64 (wrap64 (x19_1 + 1)), .int .i64 t412, .int .i64 t413] 23 (0, 0)) (by (with_reducible repeat (first | refine blk_drewN ?_ _ | refine blk_drew ?_ | refine blk_alloc ?_ _)); exact BK414.out) hg (N_ne HO_7.out BK414.out (by decide)))
               have n4_ := Aside0.mk (blk_grown (g := gb421) (o := .cells #[.int .i64 t415, .int .u64 t416, .slice Ao45 t417.length co45] 31 (0, 0)) (by (with_reducible repeat (first | refine blk_drewN ?_ _ | refine blk_drew ?_ | refine blk_alloc ?_ _)); exact BK421.out) hg (N_away HO_7.out (fun _ hk => hk.1.1.2.2.2.2.2.2)))
               have n5_ := Aside0.mk (R_over' (by (with_reducible repeat (first | apply R_alloc | apply R_drewN | apply R_drew)); exact HO430.out) (N_typed (by (with_reducible repeat (first | apply N_alloc | apply N_drewN | apply N_drew)); exact HO_7.out)) (by decide) hg)
               have n6_ := Aside0.mk (N_afterv (ok := (fun k_ => (w.heap.size ≤ k_) ∧ some k_ ≠ (.slice Ao47 x8_1.length co47 : Value).ownBlock ∧ some k_ ≠ (.slice Ao39 x11_2.length co39 : Value).ownBlock ∧ some k_ ≠ (v429 : Value).ownBlock ∧ k_ ≠ gb397 ∧ k_ ≠ gb414 ∧ k_ ≠ gb421)) (by (with_reducible repeat (first | apply N_alloc | apply N_drewN | apply N_drew)); exact N_mono HO424.out (fun _ hk => ⟨⟨hk.1, ⟨hk.2.2.1, ⟨hk.2.2.2.1, ⟨hk.2.2.2.2.1, ⟨hk.2.2.2.2.2.1, ⟨hk.2.2.2.2.2.2.1, hk.2.2.2.2.2.2.2⟩⟩⟩⟩⟩⟩, hk.2.1⟩)) hg hat)
               have n7_ := Aside0.mk (hb)
               have n8_ := Aside0.mk (ho)
               clear HO_8
               clear HO_11
               clear BK397
               clear BK414
               clear BK421
               clear HO430
               clear HO424
               clear HB
               clear HO_7
               have HO_8 := n0_
               have HO_11 := n1_
               have BK397 := n2_
               have BK414 := n3_
               have BK421 := n4_
               have HO430 := n5_
               have HO424 := n6_
               have HB := n7_
               have HO427 := n8_
               clear n0_ n1_ n2_ n3_ n4_ n5_ n6_ n7_ n8_
               clear ho hb hg hat
               refine hK.out _ _ ⟨(blk_cell BK421.out 0).trans rfl, (blk_cell BK421.out 1).trans rfl, (blk_cell BK421.out 2).trans rfl, (blk_cell BK414.out 0).trans rfl, (blk_cell BK414.out 1).trans rfl, (blk_cell BK414.out 2).trans rfl⟩ (fun hHeld => ?_)
               clear hK K
               refine norm_ (a' := ?_) ?_ ?_
               rotate_left
               ·show Act.put _ (some 75) _ = _
                simp only [Act.put, List.setIfInBounds_toArray, List.set_cons_zero, List.set_cons_succ, i64_w, i32_w]
                rfl
               exact norm_ (by simp only [putAll, Act.put, List.setIfInBounds_toArray, List.set_cons_zero, List.set_cons_succ]) (hCont (.slice Ao55 y422.length co55, v426, v429) _ ⟨hHeld, (by (with_reducible repeat (first | apply N_alloc | apply N_drewN | apply N_drew)); exact N_mono HO424.out (fun _ hk => ⟨hk.1.1, ⟨hk.2, ⟨hk.1.2.2.2.1, ⟨hk.1.2.2.1, ⟨hk.1.2.1, ⟨hk.1.2.2.2.2.1, ⟨hk.1.2.2.2.2.2.1, hk.1.2.2.2.2.2.2⟩⟩⟩⟩⟩⟩⟩)), (by (with_reducible repeat (first | apply N_alloc | apply N_drewN | apply N_drew)); exact N_mono HO427.out (fun _ hk => ⟨hk.1, ⟨hk.2.2.2.1, ⟨hk.2.2.1, ⟨hk.2.1, ⟨hk.2.2.2.2.1, ⟨hk.2.2.2.2.2.1, hk.2.2.2.2.2.2⟩⟩⟩⟩⟩⟩)), (by (with_reducible repeat (first | apply R_alloc | apply R_drewN | apply R_drew)); exact R_mono HO430.out (fun _ hk => ⟨hk.1.1.1, ⟨hk.1.2, hk.2⟩⟩)), (by (with_reducible repeat (first | apply R_alloc | apply R_drewN | apply R_drew)); exact HO_11.out), (by (with_reducible repeat (first | apply R_alloc | apply R_drewN | apply R_drew)); exact R_mono HO_8.out (fun _ hk => ⟨hk.1.1, ⟨hk.2, hk.1.2⟩⟩)), (by (with_reducible repeat (first | refine blk_drewN ?_ _ | refine blk_drew ?_ | refine blk_alloc ?_ _)); exact BK397.out), (by (with_reducible repeat (first | refine blk_drewN ?_ _ | refine blk_drew ?_ | refine blk_alloc ?_ _)); exact BK414.out), (by (with_reducible repeat (first | refine blk_drewN ?_ _ | refine blk_drew ?_ | refine blk_alloc ?_ _)); exact BK421.out), (by repeat (first | (with_reducible first | exact HB.out | apply below_alloc | apply pw_below_drewN | apply below_drew1 | refine below_set ?_ GE397.out | refine below_set ?_ GE414.out | refine below_set ?_ GE421.out) | exact HB.out))⟩)
             rintro ⟨v423, v426, v429⟩ w56 ⟨hS_, h0_, h1_, h2_, h3_, h4_, h5_, h6_, h7_, h8_⟩
             have n0_ : Aside0 (Kd.N k31 31 w56 w.heap.size (fun k_ => (w.heap.size ≤ k_) ∧ some k_ ≠ (v426 : Value).ownBlock ∧ some k_ ≠ (v429 : Value).ownBlock ∧ some k_ ≠ (.slice Ao39 x11_2.length co39 : Value).ownBlock ∧ some k_ ≠ (.slice Ao47 x8_1.length co47 : Value).ownBlock ∧ k_ ≠ gb397 ∧ k_ ≠ gb414 ∧ k_ ≠ gb421) v423 y422) := ⟨h0_⟩
             have n1_ : Aside0 (Kd.N k31 31 w56 w.heap.size (fun k_ => (w.heap.size ≤ k_) ∧ some k_ ≠ (v429 : Value).ownBlock ∧ some k_ ≠ (.slice Ao39 x11_2.length co39 : Value).ownBlock ∧ some k_ ≠ (.slice Ao47 x8_1.length co47 : Value).ownBlock ∧ k_ ≠ gb397 ∧ k_ ≠ gb414 ∧ k_ ≠ gb421) v426 y425) := ⟨h1_⟩
             have n2_ : Aside0 (Kd.R k23 23 w56 w.heap.size (fun k_ => (w.heap.size ≤ k_) ∧ some k_ ≠ (.slice Ao47 x8_1.length co47 : Value).ownBlock ∧ k_ ≠ gb414) v429 y428) := ⟨h2_⟩
             have n3_ : Aside0 (Kd.R (Kd.int .i64) 3 w56 w.heap.size (fun k_ => (w.heap.size ≤ k_)) (.slice Ao39 x11_2.length co39) x11_2) := ⟨h3_⟩
             have n4_ : Aside0 (Kd.R k23 23 w56 w.heap.size (fun k_ => (w.heap.size ≤ k_) ∧ some k_ ≠ (v429 : Value).ownBlock ∧ k_ ≠ gb414) (.slice Ao47 x8_1.length co47) x8_1) := ⟨h4_⟩
             have n5_ : Aside0 (w56.heap[gb397]? = some (.cells #[.int .u32 (rd_T58 l0 x19_1).f0, .int .u32 (rd_T58 l0 x19_1).f1, .slice A396_2 (rd_T58 l0 x19_1).f2.length c396_2, .bool (rd_T58 l0 x19_1).f3, .int .i64 (rd_T58 l0 x19_1).f4, .int .i64 (rd_T58 l0 x19_1).f5, .int .i64 (rd_T58 l0 x19_1).f6] 58 (0, 0))) := ⟨h5_⟩
             have n6_ : Aside0 (w56.heap[gb414]? = some (.cells #[.int .i64 (wrap64 (x19_1 + 1)), .int .i64 t412, .int .i64 t413] 23 (0, 0))) := ⟨h6_⟩
             have n7_ : Aside0 (w56.heap[gb421]? = some (.cells #[.int .i64 t415, .int .u64 t416, .slice Ao45 t417.length co45] 31 (0, 0))) := ⟨h7_⟩
             have n8_ : Aside0 (Below w.heap.size w w56) := ⟨h8_⟩
             clear HO_7
             clear HO_8
             clear HO_11
             clear HO419
             clear BK397
             clear BK414
             clear BK421
             clear HB
             clear h0_ h1_ h2_ h3_ h4_ h5_ h6_ h7_ h8_
             have HO424 := n0_
             have HO427 := n1_
             have HO430 := n2_
             have HO_11 := n3_
             have HO_8 := n4_
             have BK397 := n5_
             have BK414 := n6_
             have BK421 := n7_
             have HB := n8_
             clear n0_ n1_ n2_ n3_ n4_ n5_ n6_ n7_ n8_
             have hHeld : w56.cell? ⟨gb421, 0, none⟩ = some (.int .i64 t415) ∧ w56.cell? ⟨gb421, 1, none⟩ = some (.int .u64 t416) ∧ w56.cell? ⟨gb421, 2, none⟩ = some (.slice Ao45 t417.length co45) ∧ w56.cell? ⟨gb414, 0, none⟩ = some (.int .i64 (wrap64 (x19_1 + 1))) ∧ w56.cell? ⟨gb414, 1, none⟩ = some (.int .i64 t412) ∧ w56.cell? ⟨gb414, 2, none⟩ = some (.int .i64 t413) := hS_
             obtain ⟨Ao58, co58, eo58⟩ := R_slice HO430.out
             (first | subst eo58 | (injection eo58 with f1_ f2_ f3_; have f4_ := f1_.symm; have f5_ := f3_.symm; clear f1_ f2_ f3_; subst f4_; subst f5_))
             refine norm_ (a' := ?_) ?_ ?_
             rotate_left
             ·simp only [putAll, Act.put, List.setIfInBounds_toArray, List.set_cons_zero, List.set_cons_succ]
              rfl
             refine one_ (i := 7) (N := some 79) #[true, true, true, true, true, true, true, true, false, false] rfl rfl (one_of HT_.out (by kernel_rfl)) (by decide) (fun K hK => ?_)
             refine R_append_rows_step k23 (w0 := w) w.heap.size (by rfl) (.tmp 76) (.tmp 78) 27 23 (.agg #[(.int .i64 0), (.int .i64 0), (.int .i64 0)]) 24 rfl Tryd.underlying27 info23 rfl (by decide) (by omega) (.slice Ao47 x8_1.length co47) x8_1 y428 _ _ _ (fun k_ => (w.heap.size ≤ k_) ∧ some k_ ≠ (.slice Ao58 y428.length co58 : Value).ownBlock ∧ k_ ≠ gb414) (fun _ => False) rfl rfl ?aO ?aR (fun _ _ h => h) (fun _ h => h.elim) ?aF ?aB ?aS ?aL ?_
             (case aR => repeat (first | exact (R_reads' HO430.out).2.2 | (with_reducible refine Kd.C_alloc ?_ _) | (with_reducible refine Kd.C_drewN ?_ _) | (with_reducible refine Kd.C_drew ?_)))
             (case aB => exact (by repeat (first | (with_reducible first | exact HB.out | apply below_alloc | apply pw_below_drewN | apply below_drew1 | refine below_set ?_ GE397.out | refine below_set ?_ GE414.out | refine below_set ?_ GE421.out) | exact HB.out)))
             (case aF => exact (fun k_ hk => ⟨(Nat.le_trans (below_size (by repeat (first | (with_reducible first | exact HB.out | apply below_alloc | apply pw_below_drewN | apply below_drew1 | refine below_set ?_ GE397.out | refine below_set ?_ GE414.out | refine below_set ?_ GE421.out) | exact HB.out))) hk), Kd.fresh' (R_lt (by (with_reducible repeat (first | apply R_alloc | apply R_drewN | apply R_drew)); exact HO430.out)) k_ hk, Kd.freshB (g := gb414) (o := .cells #[.int .i64 (wrap64 (x19_1 + 1)), .int .i64 t412, .int .i64 t413] 23 (0, 0)) (by (with_reducible repeat (first | refine blk_drewN ?_ _ | refine blk_drew ?_ | refine blk_alloc ?_ _)); exact BK414.out) k_ hk⟩))
             (case aO => exact (by (with_reducible repeat (first | apply R_alloc | apply R_drewN | apply R_drew)); exact HO_8.out))
             (case aS => exact (below_size (by repeat (first | (with_reducible first | exact HB.out | apply below_alloc | apply pw_below_drewN | apply below_drew1 | refine below_set ?_ GE397.out | refine below_set ?_ GE414.out | refine below_set ?_ GE421.out) | exact HB.out))))
             (case aL => have := LMc30.out; omega)
             intro v432 w57 ho hb hg hat
             rw [← Ny431.out] at ho
             have n0_ := Aside0.mk (R_over' (by (with_reducible repeat (first | apply R_alloc | apply R_drewN | apply R_drew)); exact HO_11.out) (R_typed (by (with_reducible repeat (first | apply R_alloc | apply R_drewN | apply R_drew)); exact HO_8.out)) (by decide) hg)
             have n1_ := Aside0.mk (blk_grown (g := gb397) (o := .cells #[.int .u32 (rd_T58 l0 x19_1).f0, .int .u32 (rd_T58 l0 x19_1).f1, .slice A396_2 (rd_T58 l0 x19_1).f2.length c396_2, .bool (rd_T58 l0 x19_1).f3, .int .i64 (rd_T58 l0 x19_1).f4, .int .i64 (rd_T58 l0 x19_1).f5, .int .i64 (rd_T58 l0 x19_1).f6] 58 (0, 0)) (by (with_reducible repeat (first | refine blk_drewN ?_ _ | refine blk_drew ?_ | refine blk_alloc ?_ _)); exact BK397.out) hg (R_ne HO_8.out BK397.out (by decide)))
             have n2_ := Aside0.mk (blk_grown (g := gb414) (o := .cells #[.int .i64 (wrap64 (x19_1 + 1)), .int .i64 t412, .int .i64 t413] 23 (0, 0)) (by (with_reducible repeat (first | refine blk_drewN ?_ _ | refine blk_drew ?_ | refine blk_alloc ?_ _)); exact BK414.out) hg (R_away HO_8.out (fun _ hk => hk.2.2)))
             have n3_ := Aside0.mk (blk_grown (g := gb421) (o := .cells #[.int .i64 t415, .int .u64 t416, .slice Ao45 t417.length co45] 31 (0, 0)) (by (with_reducible repeat (first | refine blk_drewN ?_ _ | refine blk_drew ?_ | refine blk_alloc ?_ _)); exact BK421.out) hg (R_ne HO_8.out BK421.out (by decide)))
             have n4_ := Aside0.mk (N_afterv (ok := (fun k_ => (w.heap.size ≤ k_) ∧ some k_ ≠ (.slice Ao39 x11_2.length co39 : Value).ownBlock ∧ some k_ ≠ (v426 : Value).ownBlock ∧ some k_ ≠ (.slice Ao58 y428.length co58 : Value).ownBlock ∧ k_ ≠ gb397 ∧ k_ ≠ gb414 ∧ k_ ≠ gb421)) (by (with_reducible repeat (first | apply N_alloc | apply N_drewN | apply N_drew)); exact N_mono HO424.out (fun _ hk => ⟨⟨hk.1, ⟨hk.2.2.2.1, ⟨hk.2.1, ⟨hk.2.2.1, ⟨hk.2.2.2.2.2.1, ⟨hk.2.2.2.2.2.2.1, hk.2.2.2.2.2.2.2⟩⟩⟩⟩⟩⟩, hk.2.2.2.2.1⟩)) hg hat)
             have n5_ := Aside0.mk (N_afterv (ok := (fun k_ => (w.heap.size ≤ k_) ∧ some k_ ≠ (.slice Ao39 x11_2.length co39 : Value).ownBlock ∧ some k_ ≠ (.slice Ao58 y428.length co58 : Value).ownBlock ∧ k_ ≠ gb397 ∧ k_ ≠ gb414 ∧ k_ ≠ gb421)) (by (with_reducible repeat (first | apply N_alloc | apply N_drewN | apply N_drew)); exact N_mono HO427.out (fun _ hk => ⟨⟨hk.1, ⟨hk.2.2.1, ⟨hk.2.1, ⟨hk.2.2.2.2.1, ⟨hk.2.2.2.2.2.1, hk.2.2.2.2.2.2⟩⟩⟩⟩⟩, hk.2.2.2.1⟩)) hg hat)
             have n6_ := Aside0.mk (R_after (ok := (fun k_ => (w.heap.size ≤ k_) ∧ k_ ≠ gb414)) (by (with_reducible repeat (first | apply R_alloc | apply R_drewN | apply R_drew)); exact R_mono HO430.out (fun _ hk => ⟨⟨hk.1, hk.2.2⟩, hk.2.1⟩)) hg hat)
             have n7_ := Aside0.mk (hb)
             have n8_ := Aside0.mk (ho)
             clear HO_11
             clear BK397
             clear BK414
             clear BK421
             clear HO424
             clear HO427
             clear HO430
             clear HB
             clear HO_8
             have HO_11 := n0_
             have BK397 := n1_
             have BK414 := n2_
             have BK421 := n3_
             have HO424 := n4_
             have HO427 := n5_
             have HO430 := n6_
             have HB := n7_
             have HO433 := n8_
             clear n0_ n1_ n2_ n3_ n4_ n5_ n6_ n7_ n8_
             clear ho hb hg hat
             refine hK.out _ _ ⟨(blk_cell BK421.out 0).trans rfl, (blk_cell BK421.out 1).trans rfl, (blk_cell BK421.out 2).trans rfl, (blk_cell BK414.out 0).trans rfl, (blk_cell BK414.out 1).trans rfl, (blk_cell BK414.out 2).trans rfl⟩ (fun hHeld => ?_)
             clear hK K
             refine norm_ (a' := ?_) ?_ ?_
             rotate_left
             ·show Act.put _ (some 79) _ = _
              simp only [Act.put, List.setIfInBounds_toArray, List.set_cons_zero, List.set_cons_succ, i64_w, i32_w]
              rfl
             refine pure_ (i := 8) (N := some 7) (v := ?_) (a' := ?_) #[true, true, true, true, true, true, true, true, true, false] rfl rfl (any_of HT_.out (by kernel_rfl)) (fun _ _ _ h => h) (Or.inl ⟨by rfl, ?_⟩) ?_ ?_
             rotate_left
             ·intro w'
              go_simp
              with_reducible rfl
             rotate_left
             ·simp only [Act.put, List.setIfInBounds_toArray, List.set_cons_zero, List.set_cons_succ, i64_w, i32_w]
              rfl
             refine pure_ (i := 9) (N := some 8) (v := ?_) (a' := ?_) #[true, true, true, true, true, true, true, true, true, true] rfl rfl (any_of HT_.out (by kernel_rfl)) (fun _ _ _ h => h) (Or.inl ⟨by rfl, ?_⟩) ?_ ?_
             rotate_left
             ·intro w'
              go_simp
              with_reducible rfl
             rotate_left
             ·simp only [Act.put, List.setIfInBounds_toArray, List.set_cons_zero, List.set_cons_succ, i64_w, i32_w]
              rfl
             refine done_ (done_of HT_.out (by kernel_rfl)) ?_
             try go_wp2
             go_roundg k2
             case measure => have := HK1.out; have := HK2.out; omega
             case rel => exact ⟨(y425), (y431), (wrap64 (x19_1 + 1)), (by first | rfl | (simp; done) | (simp [*]; done)), H', ⟨by have := HK1.out; have := HK2.out; omega⟩, ⟨by (with_reducible repeat (first | apply N_alloc | apply N_drewN | apply N_drew)); exact N_mono HO427.out (fun _ hk => ⟨hk.1.1, hk.2⟩)⟩, ⟨by (with_reducible repeat (first | apply R_alloc | apply R_drewN | apply R_drew)); exact R_mono HO433.out (fun _ hk => hk.1)⟩, ⟨by repeat (first | (with_reducible first | exact HB.out | apply below_alloc | apply pw_below_drewN | apply below_drew1 | refine below_set ?_ GE397.out | refine below_set ?_ GE414.out | refine below_set ?_ GE421.out) | exact HB.out)⟩⟩
            ·rw [if_neg c30] at H
             exact absurd H (by simp)
           ·rw [if_neg c29] at H
            exact absurd H (by simp)
          ·rw [if_neg c28] at H
           have c28b0 : ((t417.length : Int) == (l0.length : Int)) = false := beq_eq_false_iff_ne.mpr c28
           have c28b1 : ((t417.length : Int) != (l0.length : Int)) = true := bne_iff_ne.mpr c28
           have c28b2 : (t417.length == l0.length) = false := by first | simpa using c28 | (simp at c28 ⊢; omega)
           simp only [Option.some.injEq, Prod.mk.injEq] at H
           obtain ⟨rfl, rfl, rfl⟩ := H
           try go_wp2
           have n0_ := Aside0.mk (N_drew HO_7.out)
           have n1_ := Aside0.mk (R_drew HO_8.out)
           have n2_ := Aside0.mk (R_drew HO_11.out)
           have n3_ := Aside0.mk (blk_drew BK397.out)
           have n4_ := Aside0.mk (below_drew1 HB.out)
           clear HO_7
           clear HO_8
           clear HO_11
           clear BK397
           clear HB
           have HO_7 := n0_
           have HO_8 := n1_
           have HO_11 := n2_
           have BK397 := n3_
           have HB := n4_
           clear n0_ n1_ n2_ n3_ n4_
           refine start_ (n := 11) (S := fun w' => w'.cell? ⟨gb397, 0, none⟩ = some (.int .u32 (rd_T58 l0 x19_1).f0) ∧ w'.cell? ⟨gb397, 1, none⟩ = some (.int .u32 (rd_T58 l0 x19_1).f1) ∧ w'.cell? ⟨gb397, 2, none⟩ = some (.slice A396_2 (rd_T58 l0 x19_1).f2.length c396_2) ∧ w'.cell? ⟨gb397, 3, none⟩ = some (.bool (rd_T58 l0 x19_1).f3) ∧ w'.cell? ⟨gb397, 4, none⟩ = some (.int .i64 (rd_T58 l0 x19_1).f4) ∧ w'.cell? ⟨gb397, 5, none⟩ = some (.int .i64 (rd_T58 l0 x19_1).f5) ∧ w'.cell? ⟨gb397, 6, none⟩ = some (.int .i64 (rd_T58 l0 x19_1).f6)) (ds := []) #[false, false, false, false, false, false, false, false, false, false, false] (by kernel_rfl) rfl rfl ⟨(blk_cell BK397.out 0).trans rfl, (blk_cell BK397.out 1).trans rfl, (blk_cell BK397.out 2).trans rfl, (blk_cell BK397.out 3).trans rfl, (blk_cell BK397.out 4).trans rfl, (blk_cell BK397.out 5).trans rfl, (blk_cell BK397.out 6).trans rfl⟩ (fun hHeld => ?_); refine with_tabW cohousinglaw22_dealt.tab14 cohousinglaw22_dealt.bits14 (fun HT_ HW_ => ?_)
           generalize wr.drew = w59 at HO_7 HO_8 HO_11 BK397 HB hHeld ⊢
           refine pure_ (i := 0) (N := some 45) (v := ?_) (a' := ?_) #[true, false, false, false, false, false, false, false, false, false, false] rfl rfl (any_of HT_.out (by kernel_rfl)) (fun _ _ _ h => h) (Or.inl ⟨by rfl, ?_⟩) ?_ ?_
           rotate_left
           ·intro w'
            go_simp
            with_reducible rfl
           rotate_left
           ·simp only [Act.put, List.setIfInBounds_toArray, List.set_cons_zero, List.set_cons_succ, i64_w, i32_w]
            rfl
           refine pure_ (i := 1) (N := some 46) (v := ?_) (a' := ?_) #[true, true, false, false, false, false, false, false, false, false, false] rfl rfl (any_of HT_.out (by kernel_rfl)) (fun _ _ _ h => h) (Or.inl ⟨by rfl, ?_⟩) ?_ ?_
           rotate_left
           ·intro w'
            go_simp
            with_reducible rfl
           rotate_left
           ·simp only [Act.put, List.setIfInBounds_toArray, List.set_cons_zero, List.set_cons_succ, i64_w, i32_w]
            rfl
           refine pure_ (i := 2) (N := some 47) (v := ?_) (a' := ?_) #[true, true, true, false, false, false, false, false, false, false, false] rfl rfl (any_of HT_.out (by kernel_rfl)) (fun _ _ _ h => h) (Or.inl ⟨by rfl, ?_⟩) ?_ ?_
           rotate_left
           ·intro w'
            go_simp
            with_reducible rfl
           rotate_left
           ·simp only [Act.put, List.setIfInBounds_toArray, List.set_cons_zero, List.set_cons_succ, i64_w, i32_w]
            rfl
           refine pure_ (i := 5) (N := some 50) (v := ?_) (a' := ?_) #[true, true, true, false, false, true, false, false, false, false, false] rfl rfl (any_of HT_.out (by kernel_rfl)) (fun _ _ _ h => h) (Or.inl ⟨by rfl, ?_⟩) ?_ ?_
           rotate_left
           ·intro w'
            go_simp
            with_reducible rfl
           rotate_left
           ·simp only [Act.put, List.setIfInBounds_toArray, List.set_cons_zero, List.set_cons_succ, i64_w, i32_w]
            rfl
           refine take_ (i := 3) (N := some 48) (v := ?_) (a' := ?_) #[true, true, true, true, false, true, false, false, false, false, false] rfl rfl (take_ofW HT_.out HW_.out (by kernel_rfl)) (fun _ _ _ h => h) (Or.inl ⟨by rfl, ?_⟩) hHeld ?_ ?_
           rotate_left
           ·rintro w' ⟨s0, s1, s2, s3, s4, s5, s6⟩
            go_simp
            with_reducible rfl
           rotate_left
           ·simp only [Act.put, List.setIfInBounds_toArray, List.set_cons_zero, List.set_cons_succ, i64_w, i32_w]
            rfl
           refine take_ (i := 6) (N := some 51) (v := ?_) (a' := ?_) #[true, true, true, true, false, true, true, false, false, false, false] rfl rfl (take_ofW HT_.out HW_.out (by kernel_rfl)) (fun _ _ _ h => h) (Or.inl ⟨by rfl, ?_⟩) hHeld ?_ ?_
           rotate_left
           ·rintro w' ⟨s0, s1, s2, s3, s4, s5, s6⟩
            go_simp
            with_reducible rfl
           rotate_left
           ·simp only [Act.put, List.setIfInBounds_toArray, List.set_cons_zero, List.set_cons_succ, i64_w, i32_w]
            rfl
           refine join_ (σ := Nat) 1 #[true, true, true, true, true, true, true, true, true, true, false] (fun s_ => [(49, .int .i64 t412), (52, .int .i64 t413), (14, .pointer (some ⟨s_, 0, none⟩)), (53, .agg #[.int .i64 (wrap64 (x19_1 + 1)), .int .i64 t412, .int .i64 t413])]) (fun s_ w' => (w'.cell? ⟨gb397, 0, none⟩ = some (.int .u32 (rd_T58 l0 x19_1).f0) ∧ w'.cell? ⟨gb397, 1, none⟩ = some (.int .u32 (rd_T58 l0 x19_1).f1) ∧ w'.cell? ⟨gb397, 2, none⟩ = some (.slice A396_2 (rd_T58 l0 x19_1).f2.length c396_2) ∧ w'.cell? ⟨gb397, 3, none⟩ = some (.bool (rd_T58 l0 x19_1).f3) ∧ w'.cell? ⟨gb397, 4, none⟩ = some (.int .i64 (rd_T58 l0 x19_1).f4) ∧ w'.cell? ⟨gb397, 5, none⟩ = some (.int .i64 (rd_T58 l0 x19_1).f5) ∧ w'.cell? ⟨gb397, 6, none⟩ = some (.int .i64 (rd_T58 l0 x19_1).f6)) ∧ (Kd.R (Kd.int .i64) 3 w' w.heap.size (fun k_ => (w.heap.size ≤ k_)) u11 x11_2) ∧ (Kd.N k31 31 w' w.heap.size (fun k_ => (w.heap.size ≤ k_) ∧ some k_ ≠ (u11 : Value).ownBlock ∧ some k_ ≠ (u8 : Value).ownBlock ∧ k_ ≠ gb397 ∧ k_ ≠ s_) u7 x7_1) ∧ (Kd.R k23 23 w' w.heap.size (fun k_ => (w.heap.size ≤ k_) ∧ k_ ≠ s_) u8 x8_1) ∧ (w'.heap[gb397]? = some (.cells #[.int .u32 (rd_T58 l0 x19_1).f0, .int .u32 (rd_T58 l0 x19_1).f1, .slice A396_2 (rd_T58 l0 x19_1).f2.length c396_2, .bool (rd_T58 l0 x19_1).f3, .int .i64 (rd_T58 l0 x19_1).f4, .int .i64 (rd_T58 l0 x19_1).f5, .int .i64 (rd_T58 l0 x19_1).f6] 58 (0, 0))) ∧ (w'.heap[s_]? = some (.cells #[.int .i64 0, .int .i64 0, .int .i64 0] 23 (0, 0))) ∧ (w.heap.size ≤ s_) ∧ (w.heap.size ≤ s_) ∧ (gb397 ≠ s_) ∧ (s_ ≠ gb397) ∧ (Below w.heap.size w w')) ?_ ?_
           rotate_left
           ·intro hCont
            refine two_ (i := 4) (j := 9) (Ni := some 49) (Nj := some 14) #[true, true, true, true, true, true, true, false, false, false, false] #[true, true, true, true, false, true, true, false, false, true, false] rfl rfl rfl rfl (two_of HT_.out (by kernel_rfl)) (by decide) (by decide) (fun K hK => ?_) (fun K hK => ?_)
            ·skip
             refine goes_ Tryd.func47 (by kernel_rfl) rfl #[.int .u32 (rd_T58 l0 x19_1).f0] (by rfl) rfl rfl (by (try simp only [List.map_toArray, List.map_cons, List.map_nil]); first | done | rfl | (simp only [List.length_drop, List.length_take]; rfl)) ?_
             with_reducible refine (cohousinglaw22_residue.calls (rd_T58 l0 x19_1).f0 t412 _ A24.out).mono ?_
             rintro e w' ⟨rfl, ⟨nd, rfl⟩⟩
             refine ⟨_, rfl, ?_⟩
             refine hK.out _ _ ⟨(blk_cell BK397.out 0).trans rfl, (blk_cell BK397.out 1).trans rfl, (blk_cell BK397.out 2).trans rfl, (blk_cell BK397.out 3).trans rfl, (blk_cell BK397.out 4).trans rfl, (blk_cell BK397.out 5).trans rfl, (blk_cell BK397.out 6).trans rfl⟩ (fun hHeld => ?_)
             clear hK K
             refine norm_ (a' := ?_) ?_ ?_
             rotate_left
             ·show Act.put _ (some 49) _ = _
              simp only [Act.put, List.setIfInBounds_toArray, List.set_cons_zero, List.set_cons_succ, i64_w, i32_w]
              rfl
             refine two_ (i := 7) (j := 9) (Ni := some 52) (Nj := some 14) #[true, true, true, true, true, true, true, true, false, false, false] #[true, true, true, true, true, true, true, false, false, true, false] rfl rfl rfl rfl (two_of HT_.out (by kernel_rfl)) (by decide) (by decide) (fun K hK => ?_) (fun K hK => ?_)
             ·skip
              refine goes_ Tryd.func47 (by kernel_rfl) rfl #[.int .u32 (rd_T58 l0 x19_1).f1] (by rfl) rfl rfl (by (try simp only [List.map_toArray, List.map_cons, List.map_nil]); first | done | rfl | (simp only [List.length_drop, List.length_take]; rfl)) ?_
              with_reducible refine (cohousinglaw22_residue.calls (rd_T58 l0 x19_1).f1 t413 _ A25.out).mono ?_
              rintro e w' ⟨rfl, ⟨nd, rfl⟩⟩
              refine ⟨_, rfl, ?_⟩
              refine hK.out _ _ ⟨(blk_cell BK397.out 0).trans rfl, (blk_cell BK397.out 1).trans rfl, (blk_cell BK397.out 2).trans rfl, (blk_cell BK397.out 3).trans rfl, (blk_cell BK397.out 4).trans rfl, (blk_cell BK397.out 5).trans rfl, (blk_cell BK397.out 6).trans rfl⟩ (fun hHeld => ?_)
              clear hK K
              refine norm_ (a' := ?_) ?_ ?_
              rotate_left
              ·show Act.put _ (some 52) _ = _
               simp only [Act.put, List.setIfInBounds_toArray, List.set_cons_zero, List.set_cons_succ, i64_w, i32_w]
               rfl
              refine pure_ (i := 8) (N := some 53) (v := ?_) (a' := ?_) #[true, true, true, true, true, true, true, true, true, false, false] rfl rfl (any_of HT_.out (by kernel_rfl)) (fun _ _ _ h => h) (Or.inl ⟨by rfl, ?_⟩) ?_ ?_
              rotate_left
              ·intro w'
               go_simp
               with_reducible rfl
              rotate_left
              ·simp only [Act.put, List.setIfInBounds_toArray, List.set_cons_zero, List.set_cons_succ, i64_w, i32_w]
               rfl
              refine one_ (i := 9) (N := some 14) #[true, true, true, true, true, true, true, true, true, true, false] rfl rfl (one_of HT_.out (by kernel_rfl)) (by decide) (fun K hK => ?_)
              refine box_step ?hg (N := 14) ?hd (cs := #[.int .i64 0, .int .i64 0, .int .i64 0]) (t := 23) ?hr ?_; (case hd => rfl); (case hg => rfl); (case hr => first | (go_simp; done) | (go_simp; rfl))
              intro gb414 hg w60 hbox hb
              have n0_ := Aside0.mk (N_below (N_elderB (by (with_reducible repeat (first | apply N_alloc | apply N_drewN | apply N_drew)); exact HO_7.out) gb414 (Nat.le_of_eq hg.symm)) hb)
              have n1_ := Aside0.mk (R_below (R_elderB (by (with_reducible repeat (first | apply R_alloc | apply R_drewN | apply R_drew)); exact HO_8.out) gb414 (Nat.le_of_eq hg.symm)) hb)
              have n2_ := Aside0.mk (R_below (by (with_reducible repeat (first | apply R_alloc | apply R_drewN | apply R_drew)); exact HO_11.out) hb)
              have n3_ := Aside0.mk (blk_below (g := gb397) (o := .cells #[.int .u32 (rd_T58 l0 x19_1).f0, .int .u32 (rd_T58 l0 x19_1).f1, .slice A396_2 (rd_T58 l0 x19_1).f2.length c396_2, .bool (rd_T58 l0 x19_1).f3, .int .i64 (rd_T58 l0 x19_1).f4, .int .i64 (rd_T58 l0 x19_1).f5, .int .i64 (rd_T58 l0 x19_1).f6] 58 (0, 0)) (by (with_reducible repeat (first | refine blk_drewN ?_ _ | refine blk_drew ?_ | refine blk_alloc ?_ _)); exact BK397.out) hb)
              have n4_ := Aside0.mk (below_step (by repeat (first | (with_reducible first | exact HB.out | apply below_alloc | apply pw_below_drewN | apply below_drew1 | refine below_set ?_ GE397.out) | exact HB.out)) hb)
              have n5_ := Aside0.mk (hbox)
              have n6_ := Aside0.mk ((by rw [hg]; exact (below_size (by repeat (first | (with_reducible first | exact HB.out | apply below_alloc | apply pw_below_drewN | apply below_drew1 | refine below_set ?_ GE397.out) | exact HB.out))) : w.heap.size ≤ gb414))
              have n7_ := Aside0.mk ((by rw [hg]; exact (below_size (by repeat (first | (with_reducible first | exact HB.out | apply below_alloc | apply pw_below_drewN | apply below_drew1 | refine below_set ?_ GE397.out) | exact HB.out))) : w.heap.size ≤ gb414))
              have n8_ := Aside0.mk ((by rw [hg]; exact Nat.ne_of_lt (blk_lt (g := gb397) (o := .cells #[.int .u32 (rd_T58 l0 x19_1).f0, .int .u32 (rd_T58 l0 x19_1).f1, .slice A396_2 (rd_T58 l0 x19_1).f2.length c396_2, .bool (rd_T58 l0 x19_1).f3, .int .i64 (rd_T58 l0 x19_1).f4, .int .i64 (rd_T58 l0 x19_1).f5, .int .i64 (rd_T58 l0 x19_1).f6] 58 (0, 0)) (by (with_reducible repeat (first | refine blk_drewN ?_ _ | refine blk_drew ?_ | refine blk_alloc ?_ _)); exact BK397.out)) : gb397 ≠ gb414))
              have n9_ := Aside0.mk ((by rw [hg]; exact Nat.ne_of_gt (blk_lt (g := gb397) (o := .cells #[.int .u32 (rd_T58 l0 x19_1).f0, .int .u32 (rd_T58 l0 x19_1).f1, .slice A396_2 (rd_T58 l0 x19_1).f2.length c396_2, .bool (rd_T58 l0 x19_1).f3, .int .i64 (rd_T58 l0 x19_1).f4, .int .i64 (rd_T58 l0 x19_1).f5, .int .i64 (rd_T58 l0 x19_1).f6] 58 (0, 0)) (by (with_reducible repeat (first | refine blk_drewN ?_ _ | refine blk_drew ?_ | refine blk_alloc ?_ _)); exact BK397.out)) : gb414 ≠ gb397))
              clear HO_7
              clear HO_8
              clear HO_11
              clear BK397
              clear HB
              have HO_7 := n0_
              have HO_8 := n1_
              have HO_11 := n2_
              have BK397 := n3_
              have HB := n4_
              have BK414 := n5_
              have GW414 := n6_
              have GE414 := n7_
              have NB397_414 := n8_
              have NB414_397 := n9_
              clear n0_ n1_ n2_ n3_ n4_ n5_ n6_ n7_ n8_ n9_
              clear hb hbox hg
              refine hK.out _ _ ⟨(blk_cell BK397.out 0).trans rfl, (blk_cell BK397.out 1).trans rfl, (blk_cell BK397.out 2).trans rfl, (blk_cell BK397.out 3).trans rfl, (blk_cell BK397.out 4).trans rfl, (blk_cell BK397.out 5).trans rfl, (blk_cell BK397.out 6).trans rfl⟩ (fun hHeld => ?_)
              clear hK K
              refine norm_ (a' := ?_) ?_ ?_
              rotate_left
              ·show Act.put _ (some 14) _ = _
               simp only [Act.put, List.setIfInBounds_toArray, List.set_cons_zero, List.set_cons_succ, i64_w, i32_w]
               rfl
              exact norm_ (by simp only [putAll, Act.put, List.setIfInBounds_toArray, List.set_cons_zero, List.set_cons_succ]) (hCont (gb414) _ ⟨hHeld, (by (with_reducible repeat (first | apply R_alloc | apply R_drewN | apply R_drew)); exact HO_11.out), (by (with_reducible repeat (first | apply N_alloc | apply N_drewN | apply N_drew)); exact N_mono HO_7.out (fun _ hk => ⟨hk.1.1, ⟨hk.1.2.2.1, ⟨hk.1.2.1, ⟨hk.1.2.2.2, hk.2⟩⟩⟩⟩)), (by (with_reducible repeat (first | apply R_alloc | apply R_drewN | apply R_drew)); exact HO_8.out), (by (with_reducible repeat (first | refine blk_drewN ?_ _ | refine blk_drew ?_ | refine blk_alloc ?_ _)); exact BK397.out), (by (with_reducible repeat (first | refine blk_drewN ?_ _ | refine blk_drew ?_ | refine blk_alloc ?_ _)); exact BK414.out), GW414.out, GE414.out, NB397_414.out, NB414_397.out, (by repeat (first | (with_reducible first | exact HB.out | apply below_alloc | apply pw_below_drewN | apply below_drew1 | refine below_set ?_ GE397.out | refine below_set ?_ GE414.out) | exact HB.out))⟩)
             ·skip
              refine box_step ?hg (N := 14) ?hd (cs := #[.int .i64 0, .int .i64 0, .int .i64 0]) (t := 23) ?hr ?_; (case hd => rfl); (case hg => rfl); (case hr => first | (go_simp; done) | (go_simp; rfl))
              intro gb414 hg w60 hbox hb
              have n0_ := Aside0.mk (N_below (N_elderB (by (with_reducible repeat (first | apply N_alloc | apply N_drewN | apply N_drew)); exact HO_7.out) gb414 (Nat.le_of_eq hg.symm)) hb)
              have n1_ := Aside0.mk (R_below (R_elderB (by (with_reducible repeat (first | apply R_alloc | apply R_drewN | apply R_drew)); exact HO_8.out) gb414 (Nat.le_of_eq hg.symm)) hb)
              have n2_ := Aside0.mk (R_below (by (with_reducible repeat (first | apply R_alloc | apply R_drewN | apply R_drew)); exact HO_11.out) hb)
              have n3_ := Aside0.mk (blk_below (g := gb397) (o := .cells #[.int .u32 (rd_T58 l0 x19_1).f0, .int .u32 (rd_T58 l0 x19_1).f1, .slice A396_2 (rd_T58 l0 x19_1).f2.length c396_2, .bool (rd_T58 l0 x19_1).f3, .int .i64 (rd_T58 l0 x19_1).f4, .int .i64 (rd_T58 l0 x19_1).f5, .int .i64 (rd_T58 l0 x19_1).f6] 58 (0, 0)) (by (with_reducible repeat (first | refine blk_drewN ?_ _ | refine blk_drew ?_ | refine blk_alloc ?_ _)); exact BK397.out) hb)
              have n4_ := Aside0.mk (below_step (by repeat (first | (with_reducible first | exact HB.out | apply below_alloc | apply pw_below_drewN | apply below_drew1 | refine below_set ?_ GE397.out) | exact HB.out)) hb)
              have n5_ := Aside0.mk (hbox)
              have n6_ := Aside0.mk ((by rw [hg]; exact (below_size (by repeat (first | (with_reducible first | exact HB.out | apply below_alloc | apply pw_below_drewN | apply below_drew1 | refine below_set ?_ GE397.out) | exact HB.out))) : w.heap.size ≤ gb414))
              have n7_ := Aside0.mk ((by rw [hg]; exact (below_size (by repeat (first | (with_reducible first | exact HB.out | apply below_alloc | apply pw_below_drewN | apply below_drew1 | refine below_set ?_ GE397.out) | exact HB.out))) : w.heap.size ≤ gb414))
              have n8_ := Aside0.mk ((by rw [hg]; exact Nat.ne_of_lt (blk_lt (g := gb397) (o := .cells #[.int .u32 (rd_T58 l0 x19_1).f0, .int .u32 (rd_T58 l0 x19_1).f1, .slice A396_2 (rd_T58 l0 x19_1).f2.length c396_2, .bool (rd_T58 l0 x19_1).f3, .int .i64 (rd_T58 l0 x19_1).f4, .int .i64 (rd_T58 l0 x19_1).f5, .int .i64 (rd_T58 l0 x19_1).f6] 58 (0, 0)) (by (with_reducible repeat (first | refine blk_drewN ?_ _ | refine blk_drew ?_ | refine blk_alloc ?_ _)); exact BK397.out)) : gb397 ≠ gb414))
              have n9_ := Aside0.mk ((by rw [hg]; exact Nat.ne_of_gt (blk_lt (g := gb397) (o := .cells #[.int .u32 (rd_T58 l0 x19_1).f0, .int .u32 (rd_T58 l0 x19_1).f1, .slice A396_2 (rd_T58 l0 x19_1).f2.length c396_2, .bool (rd_T58 l0 x19_1).f3, .int .i64 (rd_T58 l0 x19_1).f4, .int .i64 (rd_T58 l0 x19_1).f5, .int .i64 (rd_T58 l0 x19_1).f6] 58 (0, 0)) (by (with_reducible repeat (first | refine blk_drewN ?_ _ | refine blk_drew ?_ | refine blk_alloc ?_ _)); exact BK397.out)) : gb414 ≠ gb397))
              clear HO_7
              clear HO_8
              clear HO_11
              clear BK397
              clear HB
              have HO_7 := n0_
              have HO_8 := n1_
              have HO_11 := n2_
              have BK397 := n3_
              have HB := n4_
              have BK414 := n5_
              have GW414 := n6_
              have GE414 := n7_
              have NB397_414 := n8_
              have NB414_397 := n9_
              clear n0_ n1_ n2_ n3_ n4_ n5_ n6_ n7_ n8_ n9_
              clear hb hbox hg
              refine hK.out _ _ ⟨(blk_cell BK397.out 0).trans rfl, (blk_cell BK397.out 1).trans rfl, (blk_cell BK397.out 2).trans rfl, (blk_cell BK397.out 3).trans rfl, (blk_cell BK397.out 4).trans rfl, (blk_cell BK397.out 5).trans rfl, (blk_cell BK397.out 6).trans rfl⟩ (fun hHeld => ?_)
              clear hK K
              refine norm_ (a' := ?_) ?_ ?_
              rotate_left
              ·show Act.put _ (some 14) _ = _
               simp only [Act.put, List.setIfInBounds_toArray, List.set_cons_zero, List.set_cons_succ, i64_w, i32_w]
               rfl
              refine one_ (i := 7) (N := some 52) #[true, true, true, true, true, true, true, true, false, true, false] rfl rfl (one_of HT_.out (by kernel_rfl)) (by decide) (fun K hK => ?_)
              refine goes_ Tryd.func47 (by kernel_rfl) rfl #[.int .u32 (rd_T58 l0 x19_1).f1] (by rfl) rfl rfl (by (try simp only [List.map_toArray, List.map_cons, List.map_nil]); first | done | rfl | (simp only [List.length_drop, List.length_take]; rfl)) ?_
              with_reducible refine (cohousinglaw22_residue.calls (rd_T58 l0 x19_1).f1 t413 _ A25.out).mono ?_
              rintro e w' ⟨rfl, ⟨nd, rfl⟩⟩
              refine ⟨_, rfl, ?_⟩
              refine hK.out _ _ ⟨(blk_cell BK397.out 0).trans rfl, (blk_cell BK397.out 1).trans rfl, (blk_cell BK397.out 2).trans rfl, (blk_cell BK397.out 3).trans rfl, (blk_cell BK397.out 4).trans rfl, (blk_cell BK397.out 5).trans rfl, (blk_cell BK397.out 6).trans rfl⟩ (fun hHeld => ?_)
              clear hK K
              refine norm_ (a' := ?_) ?_ ?_
              rotate_left
              ·show Act.put _ (some 52) _ = _
               simp only [Act.put, List.setIfInBounds_toArray, List.set_cons_zero, List.set_cons_succ, i64_w, i32_w]
               rfl
              refine pure_ (i := 8) (N := some 53) (v := ?_) (a' := ?_) #[true, true, true, true, true, true, true, true, true, true, false] rfl rfl (any_of HT_.out (by kernel_rfl)) (fun _ _ _ h => h) (Or.inl ⟨by rfl, ?_⟩) ?_ ?_
              rotate_left
              ·intro w'
               go_simp
               with_reducible rfl
              rotate_left
              ·simp only [Act.put, List.setIfInBounds_toArray, List.set_cons_zero, List.set_cons_succ, i64_w, i32_w]
               rfl
              exact norm_ (by simp only [putAll, Act.put, List.setIfInBounds_toArray, List.set_cons_zero, List.set_cons_succ]) (hCont (gb414) _ ⟨hHeld, (by (with_reducible repeat (first | apply R_alloc | apply R_drewN | apply R_drew)); exact HO_11.out), (by (with_reducible repeat (first | apply N_alloc | apply N_drewN | apply N_drew)); exact N_mono HO_7.out (fun _ hk => ⟨hk.1.1, ⟨hk.1.2.2.1, ⟨hk.1.2.1, ⟨hk.1.2.2.2, hk.2⟩⟩⟩⟩)), (by (with_reducible repeat (first | apply R_alloc | apply R_drewN | apply R_drew)); exact HO_8.out), (by (with_reducible repeat (first | refine blk_drewN ?_ _ | refine blk_drew ?_ | refine blk_alloc ?_ _)); exact BK397.out), (by (with_reducible repeat (first | refine blk_drewN ?_ _ | refine blk_drew ?_ | refine blk_alloc ?_ _)); exact BK414.out), GW414.out, GE414.out, NB397_414.out, NB414_397.out, (by repeat (first | (with_reducible first | exact HB.out | apply below_alloc | apply pw_below_drewN | apply below_drew1 | refine below_set ?_ GE397.out | refine below_set ?_ GE414.out) | exact HB.out))⟩)
            ·skip
             refine box_step ?hg (N := 14) ?hd (cs := #[.int .i64 0, .int .i64 0, .int .i64 0]) (t := 23) ?hr ?_; (case hd => rfl); (case hg => rfl); (case hr => first | (go_simp; done) | (go_simp; rfl))
             intro gb414 hg w60 hbox hb
             have n0_ := Aside0.mk (N_below (N_elderB (by (with_reducible repeat (first | apply N_alloc | apply N_drewN | apply N_drew)); exact HO_7.out) gb414 (Nat.le_of_eq hg.symm)) hb)
             have n1_ := Aside0.mk (R_below (R_elderB (by (with_reducible repeat (first | apply R_alloc | apply R_drewN | apply R_drew)); exact HO_8.out) gb414 (Nat.le_of_eq hg.symm)) hb)
             have n2_ := Aside0.mk (R_below (by (with_reducible repeat (first | apply R_alloc | apply R_drewN | apply R_drew)); exact HO_11.out) hb)
             have n3_ := Aside0.mk (blk_below (g := gb397) (o := .cells #[.int .u32 (rd_T58 l0 x19_1).f0, .int .u32 (rd_T58 l0 x19_1).f1, .slice A396_2 (rd_T58 l0 x19_1).f2.length c396_2, .bool (rd_T58 l0 x19_1).f3, .int .i64 (rd_T58 l0 x19_1).f4, .int .i64 (rd_T58 l0 x19_1).f5, .int .i64 (rd_T58 l0 x19_1).f6] 58 (0, 0)) (by (with_reducible repeat (first | refine blk_drewN ?_ _ | refine blk_drew ?_ | refine blk_alloc ?_ _)); exact BK397.out) hb)
             have n4_ := Aside0.mk (below_step (by repeat (first | (with_reducible first | exact HB.out | apply below_alloc | apply pw_below_drewN | apply below_drew1 | refine below_set ?_ GE397.out) | exact HB.out)) hb)
             have n5_ := Aside0.mk (hbox)
             have n6_ := Aside0.mk ((by rw [hg]; exact (below_size (by repeat (first | (with_reducible first | exact HB.out | apply below_alloc | apply pw_below_drewN | apply below_drew1 | refine below_set ?_ GE397.out) | exact HB.out))) : w.heap.size ≤ gb414))
             have n7_ := Aside0.mk ((by rw [hg]; exact (below_size (by repeat (first | (with_reducible first | exact HB.out | apply below_alloc | apply pw_below_drewN | apply below_drew1 | refine below_set ?_ GE397.out) | exact HB.out))) : w.heap.size ≤ gb414))
             have n8_ := Aside0.mk ((by rw [hg]; exact Nat.ne_of_lt (blk_lt (g := gb397) (o := .cells #[.int .u32 (rd_T58 l0 x19_1).f0, .int .u32 (rd_T58 l0 x19_1).f1, .slice A396_2 (rd_T58 l0 x19_1).f2.length c396_2, .bool (rd_T58 l0 x19_1).f3, .int .i64 (rd_T58 l0 x19_1).f4, .int .i64 (rd_T58 l0 x19_1).f5, .int .i64 (rd_T58 l0 x19_1).f6] 58 (0, 0)) (by (with_reducible repeat (first | refine blk_drewN ?_ _ | refine blk_drew ?_ | refine blk_alloc ?_ _)); exact BK397.out)) : gb397 ≠ gb414))
             have n9_ := Aside0.mk ((by rw [hg]; exact Nat.ne_of_gt (blk_lt (g := gb397) (o := .cells #[.int .u32 (rd_T58 l0 x19_1).f0, .int .u32 (rd_T58 l0 x19_1).f1, .slice A396_2 (rd_T58 l0 x19_1).f2.length c396_2, .bool (rd_T58 l0 x19_1).f3, .int .i64 (rd_T58 l0 x19_1).f4, .int .i64 (rd_T58 l0 x19_1).f5, .int .i64 (rd_T58 l0 x19_1).f6] 58 (0, 0)) (by (with_reducible repeat (first | refine blk_drewN ?_ _ | refine blk_drew ?_ | refine blk_alloc ?_ _)); exact BK397.out)) : gb414 ≠ gb397))
             clear HO_7
             clear HO_8
             clear HO_11
             clear BK397
             clear HB
             have HO_7 := n0_
             have HO_8 := n1_
             have HO_11 := n2_
             have BK397 := n3_
             have HB := n4_
             have BK414 := n5_
             have GW414 := n6_
             have GE414 := n7_
             have NB397_414 := n8_
             have NB414_397 := n9_
             clear n0_ n1_ n2_ n3_ n4_ n5_ n6_ n7_ n8_ n9_
             clear hb hbox hg
             refine hK.out _ _ ⟨(blk_cell BK397.out 0).trans rfl, (blk_cell BK397.out 1).trans rfl, (blk_cell BK397.out 2).trans rfl, (blk_cell BK397.out 3).trans rfl, (blk_cell BK397.out 4).trans rfl, (blk_cell BK397.out 5).trans rfl, (blk_cell BK397.out 6).trans rfl⟩ (fun hHeld => ?_)
             clear hK K
             refine norm_ (a' := ?_) ?_ ?_
             rotate_left
             ·show Act.put _ (some 14) _ = _
              simp only [Act.put, List.setIfInBounds_toArray, List.set_cons_zero, List.set_cons_succ, i64_w, i32_w]
              rfl
             refine one_ (i := 4) (N := some 49) #[true, true, true, true, true, true, true, false, false, true, false] rfl rfl (one_of HT_.out (by kernel_rfl)) (by decide) (fun K hK => ?_)
             refine goes_ Tryd.func47 (by kernel_rfl) rfl #[.int .u32 (rd_T58 l0 x19_1).f0] (by rfl) rfl rfl (by (try simp only [List.map_toArray, List.map_cons, List.map_nil]); first | done | rfl | (simp only [List.length_drop, List.length_take]; rfl)) ?_
             with_reducible refine (cohousinglaw22_residue.calls (rd_T58 l0 x19_1).f0 t412 _ A24.out).mono ?_
             rintro e w' ⟨rfl, ⟨nd, rfl⟩⟩
             refine ⟨_, rfl, ?_⟩
             refine hK.out _ _ ⟨(blk_cell BK397.out 0).trans rfl, (blk_cell BK397.out 1).trans rfl, (blk_cell BK397.out 2).trans rfl, (blk_cell BK397.out 3).trans rfl, (blk_cell BK397.out 4).trans rfl, (blk_cell BK397.out 5).trans rfl, (blk_cell BK397.out 6).trans rfl⟩ (fun hHeld => ?_)
             clear hK K
             refine norm_ (a' := ?_) ?_ ?_
             rotate_left
             ·show Act.put _ (some 49) _ = _
              simp only [Act.put, List.setIfInBounds_toArray, List.set_cons_zero, List.set_cons_succ, i64_w, i32_w]
              rfl
             refine one_ (i := 7) (N := some 52) #[true, true, true, true, true, true, true, true, false, true, false] rfl rfl (one_of HT_.out (by kernel_rfl)) (by decide) (fun K hK => ?_)
             refine goes_ Tryd.func47 (by kernel_rfl) rfl #[.int .u32 (rd_T58 l0 x19_1).f1] (by rfl) rfl rfl (by (try simp only [List.map_toArray, List.map_cons, List.map_nil]); first | done | rfl | (simp only [List.length_drop, List.length_take]; rfl)) ?_
             with_reducible refine (cohousinglaw22_residue.calls (rd_T58 l0 x19_1).f1 t413 _ A25.out).mono ?_
             rintro e w' ⟨rfl, ⟨nd, rfl⟩⟩
             refine ⟨_, rfl, ?_⟩
             refine hK.out _ _ ⟨(blk_cell BK397.out 0).trans rfl, (blk_cell BK397.out 1).trans rfl, (blk_cell BK397.out 2).trans rfl, (blk_cell BK397.out 3).trans rfl, (blk_cell BK397.out 4).trans rfl, (blk_cell BK397.out 5).trans rfl, (blk_cell BK397.out 6).trans rfl⟩ (fun hHeld => ?_)
             clear hK K
             refine norm_ (a' := ?_) ?_ ?_
             rotate_left
             ·show Act.put _ (some 52) _ = _
              simp only [Act.put, List.setIfInBounds_toArray, List.set_cons_zero, List.set_cons_succ, i64_w, i32_w]
              rfl
             refine pure_ (i := 8) (N := some 53) (v := ?_) (a' := ?_) #[true, true, true, true, true, true, true, true, true, true, false] rfl rfl (any_of HT_.out (by kernel_rfl)) (fun _ _ _ h => h) (Or.inl ⟨by rfl, ?_⟩) ?_ ?_
             rotate_left
             ·intro w'
              go_simp
              with_reducible rfl
             rotate_left
             ·simp only [Act.put, List.setIfInBounds_toArray, List.set_cons_zero, List.set_cons_succ, i64_w, i32_w]
              rfl
             exact norm_ (by simp only [putAll, Act.put, List.setIfInBounds_toArray, List.set_cons_zero, List.set_cons_succ]) (hCont (gb414) _ ⟨hHeld, (by (with_reducible repeat (first | apply R_alloc | apply R_drewN | apply R_drew)); exact HO_11.out), (by (with_reducible repeat (first | apply N_alloc | apply N_drewN | apply N_drew)); exact N_mono HO_7.out (fun _ hk => ⟨hk.1.1, ⟨hk.1.2.2.1, ⟨hk.1.2.1, ⟨hk.1.2.2.2, hk.2⟩⟩⟩⟩)), (by (with_reducible repeat (first | apply R_alloc | apply R_drewN | apply R_drew)); exact HO_8.out), (by (with_reducible repeat (first | refine blk_drewN ?_ _ | refine blk_drew ?_ | refine blk_alloc ?_ _)); exact BK397.out), (by (with_reducible repeat (first | refine blk_drewN ?_ _ | refine blk_drew ?_ | refine blk_alloc ?_ _)); exact BK414.out), GW414.out, GE414.out, NB397_414.out, NB414_397.out, (by repeat (first | (with_reducible first | exact HB.out | apply below_alloc | apply pw_below_drewN | apply below_drew1 | refine below_set ?_ GE397.out | refine below_set ?_ GE414.out) | exact HB.out))⟩)
           rintro gb414 w61 ⟨hS_, h0_, h1_, h2_, h3_, h4_, h5_, h6_, h7_, h8_, h9_⟩
           have n0_ : Aside0 (Kd.R (Kd.int .i64) 3 w61 w.heap.size (fun k_ => (w.heap.size ≤ k_)) u11 x11_2) := ⟨h0_⟩
           have n1_ : Aside0 (Kd.N k31 31 w61 w.heap.size (fun k_ => (w.heap.size ≤ k_) ∧ some k_ ≠ (u11 : Value).ownBlock ∧ some k_ ≠ (u8 : Value).ownBlock ∧ k_ ≠ gb397 ∧ k_ ≠ gb414) u7 x7_1) := ⟨h1_⟩
           have n2_ : Aside0 (Kd.R k23 23 w61 w.heap.size (fun k_ => (w.heap.size ≤ k_) ∧ k_ ≠ gb414) u8 x8_1) := ⟨h2_⟩
           have n3_ : Aside0 (w61.heap[gb397]? = some (.cells #[.int .u32 (rd_T58 l0 x19_1).f0, .int .u32 (rd_T58 l0 x19_1).f1, .slice A396_2 (rd_T58 l0 x19_1).f2.length c396_2, .bool (rd_T58 l0 x19_1).f3, .int .i64 (rd_T58 l0 x19_1).f4, .int .i64 (rd_T58 l0 x19_1).f5, .int .i64 (rd_T58 l0 x19_1).f6] 58 (0, 0))) := ⟨h3_⟩
           have n4_ : Aside0 (w61.heap[gb414]? = some (.cells #[.int .i64 0, .int .i64 0, .int .i64 0] 23 (0, 0))) := ⟨h4_⟩
           have n5_ : Aside0 (w.heap.size ≤ gb414) := ⟨h5_⟩
           have n6_ : Aside0 (w.heap.size ≤ gb414) := ⟨h6_⟩
           have n7_ : Aside0 (gb397 ≠ gb414) := ⟨h7_⟩
           have n8_ : Aside0 (gb414 ≠ gb397) := ⟨h8_⟩
           have n9_ : Aside0 (Below w.heap.size w w61) := ⟨h9_⟩
           clear HO_7
           clear HO_8
           clear HO_11
           clear BK397
           clear HB
           clear h0_ h1_ h2_ h3_ h4_ h5_ h6_ h7_ h8_ h9_
           have HO_11 := n0_
           have HO_7 := n1_
           have HO_8 := n2_
           have BK397 := n3_
           have BK414 := n4_
           have GW414 := n5_
           have GE414 := n6_
           have NB397_414 := n7_
           have NB414_397 := n8_
           have HB := n9_
           clear n0_ n1_ n2_ n3_ n4_ n5_ n6_ n7_ n8_ n9_
           have hHeld : w61.cell? ⟨gb397, 0, none⟩ = some (.int .u32 (rd_T58 l0 x19_1).f0) ∧ w61.cell? ⟨gb397, 1, none⟩ = some (.int .u32 (rd_T58 l0 x19_1).f1) ∧ w61.cell? ⟨gb397, 2, none⟩ = some (.slice A396_2 (rd_T58 l0 x19_1).f2.length c396_2) ∧ w61.cell? ⟨gb397, 3, none⟩ = some (.bool (rd_T58 l0 x19_1).f3) ∧ w61.cell? ⟨gb397, 4, none⟩ = some (.int .i64 (rd_T58 l0 x19_1).f4) ∧ w61.cell? ⟨gb397, 5, none⟩ = some (.int .i64 (rd_T58 l0 x19_1).f5) ∧ w61.cell? ⟨gb397, 6, none⟩ = some (.int .i64 (rd_T58 l0 x19_1).f6) := hS_
           refine norm_ (a' := ?_) ?_ ?_
           rotate_left
           ·simp only [putAll, Act.put, List.setIfInBounds_toArray, List.set_cons_zero, List.set_cons_succ]
            rfl
           refine one_ (i := 10) (N := none) #[true, true, true, true, true, true, true, true, true, true, true] rfl rfl (one_of HT_.out (by kernel_rfl)) (by decide) (fun K hK => ?_)
           have hs62 : w61.cell? ⟨gb414, 0, none⟩ = some (.int .i64 0) := (blk_cell BK414.out 0).trans rfl
           have hfs62 := blk_frozen BK414.out 0
           have hns62_0 := NB397_414.out
           have hms62_0 := NB414_397.out
           have hs63 : w61.cell? ⟨gb414, 1, none⟩ = some (.int .i64 0) := (blk_cell BK414.out 1).trans rfl
           have hfs63 := blk_frozen BK414.out 1
           have hns63_0 := NB397_414.out
           have hms63_0 := NB414_397.out
           have hs64 : w61.cell? ⟨gb414, 2, none⟩ = some (.int .i64 0) := (blk_cell BK414.out 2).trans rfl
           have hfs64 := blk_frozen BK414.out 2
           have hns64_0 := NB397_414.out
           have hms64_0 := NB414_397.out
           refine skip_ (w1 := ?_) (by rfl) rfl ?_ ?_
           rotate_left
           ·go_simp
            rfl
           refine hK.out _ _ ⟨((cell_far (p := ⟨gb414, _, none⟩) NB397_414.out _).trans (((cell_far (p := ⟨gb414, _, none⟩) NB397_414.out _).trans (((cell_far (p := ⟨gb414, _, none⟩) NB397_414.out _).trans (hHeld.1)))))), ((cell_far (p := ⟨gb414, _, none⟩) NB397_414.out _).trans (((cell_far (p := ⟨gb414, _, none⟩) NB397_414.out _).trans (((cell_far (p := ⟨gb414, _, none⟩) NB397_414.out _).trans (hHeld.2.1)))))), ((cell_far (p := ⟨gb414, _, none⟩) NB397_414.out _).trans (((cell_far (p := ⟨gb414, _, none⟩) NB397_414.out _).trans (((cell_far (p := ⟨gb414, _, none⟩) NB397_414.out _).trans (hHeld.2.2.1)))))), ((cell_far (p := ⟨gb414, _, none⟩) NB397_414.out _).trans (((cell_far (p := ⟨gb414, _, none⟩) NB397_414.out _).trans (((cell_far (p := ⟨gb414, _, none⟩) NB397_414.out _).trans (hHeld.2.2.2.1)))))), ((cell_far (p := ⟨gb414, _, none⟩) NB397_414.out _).trans (((cell_far (p := ⟨gb414, _, none⟩) NB397_414.out _).trans (((cell_far (p := ⟨gb414, _, none⟩) NB397_414.out _).trans (hHeld.2.2.2.2.1)))))), ((cell_far (p := ⟨gb414, _, none⟩) NB397_414.out _).trans (((cell_far (p := ⟨gb414, _, none⟩) NB397_414.out _).trans (((cell_far (p := ⟨gb414, _, none⟩) NB397_414.out _).trans (hHeld.2.2.2.2.2.1)))))), ((cell_far (p := ⟨gb414, _, none⟩) NB397_414.out _).trans (((cell_far (p := ⟨gb414, _, none⟩) NB397_414.out _).trans (((cell_far (p := ⟨gb414, _, none⟩) NB397_414.out _).trans (hHeld.2.2.2.2.2.2))))))⟩ (fun hHeld => ?_)
           clear hK K
           refine done_ (done_of HT_.out (by kernel_rfl)) ?_
           have hnb65 := NB414_397.out
           have hnc65 := NB397_414.out
           have hcz66_0 : w61.cell? ⟨gb414, 0, none⟩ = some (.int .i64 0) := (blk_cell BK414.out 0).trans rfl
           have hcz66_1 : w61.cell? ⟨gb414, 1, none⟩ = some (.int .i64 0) := (blk_cell BK414.out 1).trans rfl
           have hcz66_2 : w61.cell? ⟨gb414, 2, none⟩ = some (.int .i64 0) := (blk_cell BK414.out 2).trans rfl
           have hfz66_0 := blk_frozen BK414.out 0
           have hfz66_1 := blk_frozen BK414.out 1
           have hfz66_2 := blk_frozen BK414.out 2
           obtain ⟨Ao67, co67, eo67⟩ := R_slice HO_11.out
           subst eo67
           try go_wp2_with (first | ((with_reducible refine gate_callee (f := 11) rfl ?_); refine goesL_ (some 59) rfl rfl Tryd.func11 (by kernel_rfl) rfl #[.agg #[.int .i64 (wrap64 (x19_1 + 1)), .int .i64 t412, .int .i64 t413], .slice Ao67 x11_2.length co67, .int .i64 (l0.length : Int)] rfl (by (try simp only [List.map_toArray, List.map_cons, List.map_nil]); first | done | rfl | (simp only [List.length_drop, List.length_take]; rfl)) ?_; (with_reducible refine (lottery_Deal.calls k2 (wrap64 (x19_1 + 1)) t412 t413 _ _ x11_2 (l0.length : Int) t415 t416 t417 t420 _ ?side3 ?side1 ?side2 A26.out).mono ?_); (case side1 => refine (R_reads' (e := 3) (base := w.heap.size) (ok := fun k_ => (w.heap.size ≤ k_)) (n := x11_2.length) (c := co67) ?_).2.2; exact (by (with_reducible repeat (first | apply R_alloc | apply R_drewN | apply R_drew)); exact (R_mono (R_far (p := ⟨gb414, 2, none⟩) (R_far (p := ⟨gb414, 1, none⟩) (R_far (p := ⟨gb414, 0, none⟩) (R_types HO_11.out BK414.out (by decide)) (fun _ hk => hk.2) (.int .i64 (wrap64 (x19_1 + 1)))) (fun _ hk => hk.2) (.int .i64 t412)) (fun _ hk => hk.2) (.int .i64 t413)) (fun _ h_ => h_.1)))); (case side2 => exact (R_reads' HO_11.out).2.1); (case side3 => exact TabW.below HTAB.out (by repeat (first | (with_reducible first | exact HB.out | apply below_alloc | apply pw_below_drewN | apply below_drew1 | refine below_set ?_ GE397.out | refine below_set ?_ GE414.out) | exact HB.out))); rintro e w68 ⟨v418, rfl, ho0, hb⟩; refine ⟨_, rfl, ?_⟩; have n0_ := Aside0.mk (N_elder' (by (with_reducible repeat (first | apply N_alloc | apply N_drewN | apply N_drew)); exact (N_mono (N_far (p := ⟨gb414, 2, none⟩) (N_far (p := ⟨gb414, 1, none⟩) (N_far (p := ⟨gb414, 0, none⟩) (N_mono HO_7.out (fun k_ hk => (⟨hk, hk.2.2.2.2⟩ : _ ∧ k_ ≠ gb414))) (fun _ hk => hk.2) (.int .i64 (wrap64 (x19_1 + 1)))) (fun _ hk => hk.2) (.int .i64 t412)) (fun _ hk => hk.2) (.int .i64 t413)) (fun _ h_ => h_.1))) (R_base ho0) hb); have n1_ := Aside0.mk (R_below (by (with_reducible repeat (first | apply R_alloc | apply R_drewN | apply R_drew)); exact (R_mono (R_far (p := ⟨gb414, 2, none⟩) (R_far (p := ⟨gb414, 1, none⟩) (R_far (p := ⟨gb414, 0, none⟩) (R_mono HO_8.out (fun k_ hk => (⟨hk, hk.2⟩ : _ ∧ k_ ≠ gb414))) (fun _ hk => hk.2) (.int .i64 (wrap64 (x19_1 + 1)))) (fun _ hk => hk.2) (.int .i64 t412)) (fun _ hk => hk.2) (.int .i64 t413)) (fun _ h_ => h_.1))) hb); have n2_ := Aside0.mk (R_below (by (with_reducible repeat (first | apply R_alloc | apply R_drewN | apply R_drew)); exact (R_mono (R_far (p := ⟨gb414, 2, none⟩) (R_far (p := ⟨gb414, 1, none⟩) (R_far (p := ⟨gb414, 0, none⟩) (R_types HO_11.out BK414.out (by decide)) (fun _ hk => hk.2) (.int .i64 (wrap64 (x19_1 + 1)))) (fun _ hk => hk.2) (.int .i64 t412)) (fun _ hk => hk.2) (.int .i64 t413)) (fun _ h_ => h_.1))) hb); have n3_ := Aside0.mk (R_lower (R_newM (M := fun k_ => (w.heap.size ≤ k_)) ho0 (below_size (by repeat (first | (with_reducible first | exact HB.out | apply below_alloc | apply pw_below_drewN | apply below_drew1 | refine below_set ?_ GE397.out | refine below_set ?_ GE414.out) | exact HB.out))) (fun k_ h_ => h_)) (below_size (by repeat (first | (with_reducible first | exact HB.out | apply below_alloc | apply pw_below_drewN | apply below_drew1 | refine below_set ?_ GE397.out | refine below_set ?_ GE414.out) | exact HB.out)))); have n4_ := Aside0.mk (blk_below (g := gb397) (o := .cells #[.int .u32 (rd_T58 l0 x19_1).f0, .int .u32 (rd_T58 l0 x19_1).f1, .slice A396_2 (rd_T58 l0 x19_1).f2.length c396_2, .bool (rd_T58 l0 x19_1).f3, .int .i64 (rd_T58 l0 x19_1).f4, .int .i64 (rd_T58 l0 x19_1).f5, .int .i64 (rd_T58 l0 x19_1).f6] 58 (0, 0)) (by (with_reducible repeat (first | refine blk_drewN ?_ _ | refine blk_drew ?_ | refine blk_alloc ?_ _)); refine blk_far ?_ NB397_414.out _; (with_reducible repeat (first | refine blk_drewN ?_ _ | refine blk_drew ?_ | refine blk_alloc ?_ _)); refine blk_far ?_ NB397_414.out _; (with_reducible repeat (first | refine blk_drewN ?_ _ | refine blk_drew ?_ | refine blk_alloc ?_ _)); refine blk_far ?_ NB397_414.out _; (with_reducible repeat (first | refine blk_drewN ?_ _ | refine blk_drew ?_ | refine blk_alloc ?_ _)); exact BK397.out) hb); have n5_ := Aside0.mk (blk_below (g := gb414) (o := .cells #[.int .i64 (wrap64 (x19_1 + 1)), .int .i64 t412, .int .i64 t413] 23 (0, 0)) (by (with_reducible repeat (first | refine blk_drewN ?_ _ | refine blk_drew ?_ | refine blk_alloc ?_ _)); refine blk_put (cs := #[.int .i64 (wrap64 (x19_1 + 1)), .int .i64 t412, .int .i64 0]) ?_ 2 _ rfl; (with_reducible repeat (first | refine blk_drewN ?_ _ | refine blk_drew ?_ | refine blk_alloc ?_ _)); refine blk_put (cs := #[.int .i64 (wrap64 (x19_1 + 1)), .int .i64 0, .int .i64 0]) ?_ 1 _ rfl; (with_reducible repeat (first | refine blk_drewN ?_ _ | refine blk_drew ?_ | refine blk_alloc ?_ _)); refine blk_put (cs := #[.int .i64 0, .int .i64 0, .int .i64 0]) ?_ 0 _ rfl; (with_reducible repeat (first | refine blk_drewN ?_ _ | refine blk_drew ?_ | refine blk_alloc ?_ _)); exact BK414.out) hb); have n6_ := Aside0.mk (below_step (by repeat (first | (with_reducible first | exact HB.out | apply below_alloc | apply pw_below_drewN | apply below_drew1 | refine below_set ?_ GE397.out | refine below_set ?_ GE414.out) | exact HB.out)) hb); clear HO_7; clear HO_8; clear HO_11; clear BK397; clear BK414; clear HB; have HO_7 := n0_; have HO_8 := n1_; have HO_11 := n2_; have HO419 := n3_; have BK397 := n4_; have BK414 := n5_; have HB := n6_; clear n0_ n1_ n2_ n3_ n4_ n5_ n6_; (try clear hb); (try clear hb2); (try clear hk); (try clear hi); (try clear ho0)) | ((with_reducible refine gate_dst (N := 15) rfl ?_); (try (refine gate_guard (by rfl) ?_; dsimp only)); refine box_event ?hg (N := 15) ?hd (cs := #[.int .i64 0, .int .u64 0, .slice none 0 0]) (t := 31) ?hr ?_; (case hd => rfl); (case hg => rfl); (case hr => first | (go_simp; done) | (go_simp; rfl)); intro gb421 hg w69 hbox hb; have n0_ := Aside0.mk (N_below (N_elderB (by (with_reducible repeat (first | apply N_alloc | apply N_drewN | apply N_drew)); exact HO_7.out) gb421 (Nat.le_of_eq hg.symm)) hb); have n1_ := Aside0.mk (R_below (by (with_reducible repeat (first | apply R_alloc | apply R_drewN | apply R_drew)); exact HO_8.out) hb); have n2_ := Aside0.mk (R_below (by (with_reducible repeat (first | apply R_alloc | apply R_drewN | apply R_drew)); exact HO_11.out) hb); have n3_ := Aside0.mk (R_below (by (with_reducible repeat (first | apply R_alloc | apply R_drewN | apply R_drew)); exact HO419.out) hb); have n4_ := Aside0.mk (blk_below (g := gb397) (o := .cells #[.int .u32 (rd_T58 l0 x19_1).f0, .int .u32 (rd_T58 l0 x19_1).f1, .slice A396_2 (rd_T58 l0 x19_1).f2.length c396_2, .bool (rd_T58 l0 x19_1).f3, .int .i64 (rd_T58 l0 x19_1).f4, .int .i64 (rd_T58 l0 x19_1).f5, .int .i64 (rd_T58 l0 x19_1).f6] 58 (0, 0)) (by (with_reducible repeat (first | refine blk_drewN ?_ _ | refine blk_drew ?_ | refine blk_alloc ?_ _)); exact BK397.out) hb); have n5_ := Aside0.mk (blk_below (g := gb414) (o := .cells #[.int .i64 (wrap64 (x19_1 + 1)), .int .i64 t412, .int .i64 t413] 23 (0, 0)) (by (with_reducible repeat (first | refine blk_drewN ?_ _ | refine blk_drew ?_ | refine blk_alloc ?_ _)); exact BK414.out) hb); have n6_ := Aside0.mk (below_step (by repeat (first | (with_reducible first | exact HB.out | apply below_alloc | apply pw_below_drewN | apply below_drew1 | refine below_set ?_ GE397.out | refine below_set ?_ GE414.out) | exact HB.out)) hb); have n7_ := Aside0.mk (hbox); have n8_ := Aside0.mk ((by rw [hg]; exact (below_size (by repeat (first | (with_reducible first | exact HB.out | apply below_alloc | apply pw_below_drewN | apply below_drew1 | refine below_set ?_ GE397.out | refine below_set ?_ GE414.out) | exact HB.out))) : w.heap.size ≤ gb421)); have n9_ := Aside0.mk ((by rw [hg]; exact (below_size (by repeat (first | (with_reducible first | exact HB.out | apply below_alloc | apply pw_below_drewN | apply below_drew1 | refine below_set ?_ GE397.out | refine below_set ?_ GE414.out) | exact HB.out))) : w.heap.size ≤ gb421)); have n10_ := Aside0.mk ((by rw [hg]; exact Nat.ne_of_lt (blk_lt (g := gb397) (o := .cells #[.int .u32 (rd_T58 l0 x19_1).f0, .int .u32 (rd_T58 l0 x19_1).f1, .slice A396_2 (rd_T58 l0 x19_1).f2.length c396_2, .bool (rd_T58 l0 x19_1).f3, .int .i64 (rd_T58 l0 x19_1).f4, .int .i64 (rd_T58 l0 x19_1).f5, .int .i64 (rd_T58 l0 x19_1).f6] 58 (0, 0)) (by (with_reducible repeat (first | refine blk_drewN ?_ _ | refine blk_drew ?_ | refine blk_alloc ?_ _)); exact BK397.out)) : gb397 ≠ gb421)); have n11_ := Aside0.mk ((by rw [hg]; exact Nat.ne_of_gt (blk_lt (g := gb397) (o := .cells #[.int .u32 (rd_T58 l0 x19_1).f0, .int .u32 (rd_T58 l0 x19_1).f1, .slice A396_2 (rd_T58 l0 x19_1).f2.length c396_2, .bool (rd_T58 l0 x19_1).f3, .int .i64 (rd_T58 l0 x19_1).f4, .int .i64 (rd_T58 l0 x19_1).f5, .int .i64 (rd_T58 l0 x19_1).f6] 58 (0, 0)) (by (with_reducible repeat (first | refine blk_drewN ?_ _ | refine blk_drew ?_ | refine blk_alloc ?_ _)); exact BK397.out)) : gb421 ≠ gb397)); have n12_ := Aside0.mk ((by rw [hg]; exact Nat.ne_of_lt (blk_lt (g := gb414) (o := .cells #[.int .i64 (wrap64 (x19_1 + 1)), .int .i64 t412, .int .i64 t413] 23 (0, 0)) (by (with_reducible repeat (first | refine blk_drewN ?_ _ | refine blk_drew ?_ | refine blk_alloc ?_ _)); exact BK414.out)) : gb414 ≠ gb421)); have n13_ := Aside0.mk ((by rw [hg]; exact Nat.ne_of_gt (blk_lt (g := gb414) (o := .cells #[.int .i64 (wrap64 (x19_1 + 1)), .int .i64 t412, .int .i64 t413] 23 (0, 0)) (by (with_reducible repeat (first | refine blk_drewN ?_ _ | refine blk_drew ?_ | refine blk_alloc ?_ _)); exact BK414.out)) : gb421 ≠ gb414)); clear HO_7; clear HO_8; clear HO_11; clear HO419; clear BK397; clear BK414; clear HB; have HO_7 := n0_; have HO_8 := n1_; have HO_11 := n2_; have HO419 := n3_; have BK397 := n4_; have BK414 := n5_; have HB := n6_; have BK421 := n7_; have GW421 := n8_; have GE421 := n9_; have NB397_421 := n10_; have NB421_397 := n11_; have NB414_421 := n12_; have NB421_414 := n13_; clear n0_ n1_ n2_ n3_ n4_ n5_ n6_ n7_ n8_ n9_ n10_ n11_ n12_ n13_; clear hb hbox hg; have hnb70 := NB421_397.out; have hnc70 := NB397_421.out; have hnb71 := NB421_414.out; have hnc71 := NB414_421.out; have hcz72_0 : w69.cell? ⟨gb421, 0, none⟩ = some (.int .i64 0) := (blk_cell BK421.out 0).trans rfl; have hcz72_1 : w69.cell? ⟨gb421, 1, none⟩ = some (.int .u64 0) := (blk_cell BK421.out 1).trans rfl; have hcz72_2 : w69.cell? ⟨gb421, 2, none⟩ = some (.slice none 0 0) := (blk_cell BK421.out 2).trans rfl; have hfz72_0 := blk_frozen BK421.out 0; have hfz72_1 := blk_frozen BK421.out 1; have hfz72_2 := blk_frozen BK421.out 2; obtain ⟨Ao73, co73, eo73⟩ := R_slice HO419.out; subst eo73))
           go_ret3
           exact ⟨_, _, by first | rfl | (simp [errW_none, errW_some] <;> rfl) | (simp [*, errW_none, errW_some] <;> rfl), by first | exact Kd.S_nil _ _ _ _ _ | exact N_nil _ _ _ _ _ | exact Kd.V_nil _ _ _ _ _ | exact Kd.Q_nil _ _ _ _ _ | exact R_nil _ _ _ _ _, by first | exact R_nil _ _ _ _ _ | exact N_nil _ _ _ _ _ | exact Kd.V_nil _ _ _ _ _ | exact Kd.Q_nil _ _ _ _ _ | exact Kd.S_nil _ _ _ _ _, by repeat (first | (with_reducible first | exact HB.out | apply below_alloc | apply pw_below_drewN | apply below_drew1 | refine below_set ?_ GE397.out | refine below_set ?_ GE414.out | refine below_set ?_ GE421.out) | exact HB.out)⟩
         ·rw [if_neg c27] at H
          have c27b0 : (t420 == 0) = false := beq_eq_false_iff_ne.mpr c27
          have c27b1 : (t420 != 0) = true := bne_iff_ne.mpr c27
          simp only [Option.some.injEq, Prod.mk.injEq] at H
          obtain ⟨rfl, rfl, rfl⟩ := H
          try go_wp2
          have n0_ := Aside0.mk (N_drew HO_7.out)
          have n1_ := Aside0.mk (R_drew HO_8.out)
          have n2_ := Aside0.mk (R_drew HO_11.out)
          have n3_ := Aside0.mk (blk_drew BK397.out)
          have n4_ := Aside0.mk (below_drew1 HB.out)
          clear HO_7
          clear HO_8
          clear HO_11
          clear BK397
          clear HB
          have HO_7 := n0_
          have HO_8 := n1_
          have HO_11 := n2_
          have BK397 := n3_
          have HB := n4_
          clear n0_ n1_ n2_ n3_ n4_
          refine start_ (n := 11) (S := fun w' => w'.cell? ⟨gb397, 0, none⟩ = some (.int .u32 (rd_T58 l0 x19_1).f0) ∧ w'.cell? ⟨gb397, 1, none⟩ = some (.int .u32 (rd_T58 l0 x19_1).f1) ∧ w'.cell? ⟨gb397, 2, none⟩ = some (.slice A396_2 (rd_T58 l0 x19_1).f2.length c396_2) ∧ w'.cell? ⟨gb397, 3, none⟩ = some (.bool (rd_T58 l0 x19_1).f3) ∧ w'.cell? ⟨gb397, 4, none⟩ = some (.int .i64 (rd_T58 l0 x19_1).f4) ∧ w'.cell? ⟨gb397, 5, none⟩ = some (.int .i64 (rd_T58 l0 x19_1).f5) ∧ w'.cell? ⟨gb397, 6, none⟩ = some (.int .i64 (rd_T58 l0 x19_1).f6)) (ds := []) #[false, false, false, false, false, false, false, false, false, false, false] (by kernel_rfl) rfl rfl ⟨(blk_cell BK397.out 0).trans rfl, (blk_cell BK397.out 1).trans rfl, (blk_cell BK397.out 2).trans rfl, (blk_cell BK397.out 3).trans rfl, (blk_cell BK397.out 4).trans rfl, (blk_cell BK397.out 5).trans rfl, (blk_cell BK397.out 6).trans rfl⟩ (fun hHeld => ?_); refine with_tabW cohousinglaw22_dealt.tab14 cohousinglaw22_dealt.bits14 (fun HT_ HW_ => ?_)
          generalize wr.drew = w74 at HO_7 HO_8 HO_11 BK397 HB hHeld ⊢
          refine pure_ (i := 0) (N := some 45) (v := ?_) (a' := ?_) #[true, false, false, false, false, false, false, false, false, false, false] rfl rfl (any_of HT_.out (by kernel_rfl)) (fun _ _ _ h => h) (Or.inl ⟨by rfl, ?_⟩) ?_ ?_
          rotate_left
          ·intro w'
           go_simp
           with_reducible rfl
          rotate_left
          ·simp only [Act.put, List.setIfInBounds_toArray, List.set_cons_zero, List.set_cons_succ, i64_w, i32_w]
           rfl
          refine pure_ (i := 1) (N := some 46) (v := ?_) (a' := ?_) #[true, true, false, false, false, false, false, false, false, false, false] rfl rfl (any_of HT_.out (by kernel_rfl)) (fun _ _ _ h => h) (Or.inl ⟨by rfl, ?_⟩) ?_ ?_
          rotate_left
          ·intro w'
           go_simp
           with_reducible rfl
          rotate_left
          ·simp only [Act.put, List.setIfInBounds_toArray, List.set_cons_zero, List.set_cons_succ, i64_w, i32_w]
           rfl
          refine pure_ (i := 2) (N := some 47) (v := ?_) (a' := ?_) #[true, true, true, false, false, false, false, false, false, false, false] rfl rfl (any_of HT_.out (by kernel_rfl)) (fun _ _ _ h => h) (Or.inl ⟨by rfl, ?_⟩) ?_ ?_
          rotate_left
          ·intro w'
           go_simp
           with_reducible rfl
          rotate_left
          ·simp only [Act.put, List.setIfInBounds_toArray, List.set_cons_zero, List.set_cons_succ, i64_w, i32_w]
           rfl
          refine pure_ (i := 5) (N := some 50) (v := ?_) (a' := ?_) #[true, true, true, false, false, true, false, false, false, false, false] rfl rfl (any_of HT_.out (by kernel_rfl)) (fun _ _ _ h => h) (Or.inl ⟨by rfl, ?_⟩) ?_ ?_
          rotate_left
          ·intro w'
           go_simp
           with_reducible rfl
          rotate_left
          ·simp only [Act.put, List.setIfInBounds_toArray, List.set_cons_zero, List.set_cons_succ, i64_w, i32_w]
           rfl
          refine take_ (i := 3) (N := some 48) (v := ?_) (a' := ?_) #[true, true, true, true, false, true, false, false, false, false, false] rfl rfl (take_ofW HT_.out HW_.out (by kernel_rfl)) (fun _ _ _ h => h) (Or.inl ⟨by rfl, ?_⟩) hHeld ?_ ?_
          rotate_left
          ·rintro w' ⟨s0, s1, s2, s3, s4, s5, s6⟩
           go_simp
           with_reducible rfl
          rotate_left
          ·simp only [Act.put, List.setIfInBounds_toArray, List.set_cons_zero, List.set_cons_succ, i64_w, i32_w]
           rfl
          refine take_ (i := 6) (N := some 51) (v := ?_) (a' := ?_) #[true, true, true, true, false, true, true, false, false, false, false] rfl rfl (take_ofW HT_.out HW_.out (by kernel_rfl)) (fun _ _ _ h => h) (Or.inl ⟨by rfl, ?_⟩) hHeld ?_ ?_
          rotate_left
          ·rintro w' ⟨s0, s1, s2, s3, s4, s5, s6⟩
           go_simp
           with_reducible rfl
          rotate_left
          ·simp only [Act.put, List.setIfInBounds_toArray, List.set_cons_zero, List.set_cons_succ, i64_w, i32_w]
           rfl
          refine join_ (σ := Nat) 1 #[true, true, true, true, true, true, true, true, true, true, false] (fun s_ => [(49, .int .i64 t412), (52, .int .i64 t413), (14, .pointer (some ⟨s_, 0, none⟩)), (53, .agg #[.int .i64 (wrap64 (x19_1 + 1)), .int .i64 t412, .int .i64 t413])]) (fun s_ w' => (w'.cell? ⟨gb397, 0, none⟩ = some (.int .u32 (rd_T58 l0 x19_1).f0) ∧ w'.cell? ⟨gb397, 1, none⟩ = some (.int .u32 (rd_T58 l0 x19_1).f1) ∧ w'.cell? ⟨gb397, 2, none⟩ = some (.slice A396_2 (rd_T58 l0 x19_1).f2.length c396_2) ∧ w'.cell? ⟨gb397, 3, none⟩ = some (.bool (rd_T58 l0 x19_1).f3) ∧ w'.cell? ⟨gb397, 4, none⟩ = some (.int .i64 (rd_T58 l0 x19_1).f4) ∧ w'.cell? ⟨gb397, 5, none⟩ = some (.int .i64 (rd_T58 l0 x19_1).f5) ∧ w'.cell? ⟨gb397, 6, none⟩ = some (.int .i64 (rd_T58 l0 x19_1).f6)) ∧ (Kd.R (Kd.int .i64) 3 w' w.heap.size (fun k_ => (w.heap.size ≤ k_)) u11 x11_2) ∧ (Kd.N k31 31 w' w.heap.size (fun k_ => (w.heap.size ≤ k_) ∧ some k_ ≠ (u11 : Value).ownBlock ∧ some k_ ≠ (u8 : Value).ownBlock ∧ k_ ≠ gb397 ∧ k_ ≠ s_) u7 x7_1) ∧ (Kd.R k23 23 w' w.heap.size (fun k_ => (w.heap.size ≤ k_) ∧ k_ ≠ s_) u8 x8_1) ∧ (w'.heap[gb397]? = some (.cells #[.int .u32 (rd_T58 l0 x19_1).f0, .int .u32 (rd_T58 l0 x19_1).f1, .slice A396_2 (rd_T58 l0 x19_1).f2.length c396_2, .bool (rd_T58 l0 x19_1).f3, .int .i64 (rd_T58 l0 x19_1).f4, .int .i64 (rd_T58 l0 x19_1).f5, .int .i64 (rd_T58 l0 x19_1).f6] 58 (0, 0))) ∧ (w'.heap[s_]? = some (.cells #[.int .i64 0, .int .i64 0, .int .i64 0] 23 (0, 0))) ∧ (w.heap.size ≤ s_) ∧ (w.heap.size ≤ s_) ∧ (gb397 ≠ s_) ∧ (s_ ≠ gb397) ∧ (Below w.heap.size w w')) ?_ ?_
          rotate_left
          ·intro hCont
           refine two_ (i := 4) (j := 9) (Ni := some 49) (Nj := some 14) #[true, true, true, true, true, true, true, false, false, false, false] #[true, true, true, true, false, true, true, false, false, true, false] rfl rfl rfl rfl (two_of HT_.out (by kernel_rfl)) (by decide) (by decide) (fun K hK => ?_) (fun K hK => ?_)
           ·skip
            refine goes_ Tryd.func47 (by kernel_rfl) rfl #[.int .u32 (rd_T58 l0 x19_1).f0] (by rfl) rfl rfl (by (try simp only [List.map_toArray, List.map_cons, List.map_nil]); first | done | rfl | (simp only [List.length_drop, List.length_take]; rfl)) ?_
            with_reducible refine (cohousinglaw22_residue.calls (rd_T58 l0 x19_1).f0 t412 _ A24.out).mono ?_
            rintro e w' ⟨rfl, ⟨nd, rfl⟩⟩
            refine ⟨_, rfl, ?_⟩
            refine hK.out _ _ ⟨(blk_cell BK397.out 0).trans rfl, (blk_cell BK397.out 1).trans rfl, (blk_cell BK397.out 2).trans rfl, (blk_cell BK397.out 3).trans rfl, (blk_cell BK397.out 4).trans rfl, (blk_cell BK397.out 5).trans rfl, (blk_cell BK397.out 6).trans rfl⟩ (fun hHeld => ?_)
            clear hK K
            refine norm_ (a' := ?_) ?_ ?_
            rotate_left
            ·show Act.put _ (some 49) _ = _
             simp only [Act.put, List.setIfInBounds_toArray, List.set_cons_zero, List.set_cons_succ, i64_w, i32_w]
             rfl
            refine two_ (i := 7) (j := 9) (Ni := some 52) (Nj := some 14) #[true, true, true, true, true, true, true, true, false, false, false] #[true, true, true, true, true, true, true, false, false, true, false] rfl rfl rfl rfl (two_of HT_.out (by kernel_rfl)) (by decide) (by decide) (fun K hK => ?_) (fun K hK => ?_)
            ·skip
             refine goes_ Tryd.func47 (by kernel_rfl) rfl #[.int .u32 (rd_T58 l0 x19_1).f1] (by rfl) rfl rfl (by (try simp only [List.map_toArray, List.map_cons, List.map_nil]); first | done | rfl | (simp only [List.length_drop, List.length_take]; rfl)) ?_
             with_reducible refine (cohousinglaw22_residue.calls (rd_T58 l0 x19_1).f1 t413 _ A25.out).mono ?_
             rintro e w' ⟨rfl, ⟨nd, rfl⟩⟩
             refine ⟨_, rfl, ?_⟩
             refine hK.out _ _ ⟨(blk_cell BK397.out 0).trans rfl, (blk_cell BK397.out 1).trans rfl, (blk_cell BK397.out 2).trans rfl, (blk_cell BK397.out 3).trans rfl, (blk_cell BK397.out 4).trans rfl, (blk_cell BK397.out 5).trans rfl, (blk_cell BK397.out 6).trans rfl⟩ (fun hHeld => ?_)
             clear hK K
             refine norm_ (a' := ?_) ?_ ?_
             rotate_left
             ·show Act.put _ (some 52) _ = _
              simp only [Act.put, List.setIfInBounds_toArray, List.set_cons_zero, List.set_cons_succ, i64_w, i32_w]
              rfl
             refine pure_ (i := 8) (N := some 53) (v := ?_) (a' := ?_) #[true, true, true, true, true, true, true, true, true, false, false] rfl rfl (any_of HT_.out (by kernel_rfl)) (fun _ _ _ h => h) (Or.inl ⟨by rfl, ?_⟩) ?_ ?_
             rotate_left
             ·intro w'
              go_simp
              with_reducible rfl
             rotate_left
             ·simp only [Act.put, List.setIfInBounds_toArray, List.set_cons_zero, List.set_cons_succ, i64_w, i32_w]
              rfl
             refine one_ (i := 9) (N := some 14) #[true, true, true, true, true, true, true, true, true, true, false] rfl rfl (one_of HT_.out (by kernel_rfl)) (by decide) (fun K hK => ?_)
             refine box_step ?hg (N := 14) ?hd (cs := #[.int .i64 0, .int .i64 0, .int .i64 0]) (t := 23) ?hr ?_; (case hd => rfl); (case hg => rfl); (case hr => first | (go_simp; done) | (go_simp; rfl))
             intro gb414 hg w75 hbox hb
             have n0_ := Aside0.mk (N_below (N_elderB (by (with_reducible repeat (first | apply N_alloc | apply N_drewN | apply N_drew)); exact HO_7.out) gb414 (Nat.le_of_eq hg.symm)) hb)
             have n1_ := Aside0.mk (R_below (R_elderB (by (with_reducible repeat (first | apply R_alloc | apply R_drewN | apply R_drew)); exact HO_8.out) gb414 (Nat.le_of_eq hg.symm)) hb)
             have n2_ := Aside0.mk (R_below (by (with_reducible repeat (first | apply R_alloc | apply R_drewN | apply R_drew)); exact HO_11.out) hb)
             have n3_ := Aside0.mk (blk_below (g := gb397) (o := .cells #[.int .u32 (rd_T58 l0 x19_1).f0, .int .u32 (rd_T58 l0 x19_1).f1, .slice A396_2 (rd_T58 l0 x19_1).f2.length c396_2, .bool (rd_T58 l0 x19_1).f3, .int .i64 (rd_T58 l0 x19_1).f4, .int .i64 (rd_T58 l0 x19_1).f5, .int .i64 (rd_T58 l0 x19_1).f6] 58 (0, 0)) (by (with_reducible repeat (first | refine blk_drewN ?_ _ | refine blk_drew ?_ | refine blk_alloc ?_ _)); exact BK397.out) hb)
             have n4_ := Aside0.mk (below_step (by repeat (first | (with_reducible first | exact HB.out | apply below_alloc | apply pw_below_drewN | apply below_drew1 | refine below_set ?_ GE397.out) | exact HB.out)) hb)
             have n5_ := Aside0.mk (hbox)
             have n6_ := Aside0.mk ((by rw [hg]; exact (below_size (by repeat (first | (with_reducible first | exact HB.out | apply below_alloc | apply pw_below_drewN | apply below_drew1 | refine below_set ?_ GE397.out) | exact HB.out))) : w.heap.size ≤ gb414))
             have n7_ := Aside0.mk ((by rw [hg]; exact (below_size (by repeat (first | (with_reducible first | exact HB.out | apply below_alloc | apply pw_below_drewN | apply below_drew1 | refine below_set ?_ GE397.out) | exact HB.out))) : w.heap.size ≤ gb414))
             have n8_ := Aside0.mk ((by rw [hg]; exact Nat.ne_of_lt (blk_lt (g := gb397) (o := .cells #[.int .u32 (rd_T58 l0 x19_1).f0, .int .u32 (rd_T58 l0 x19_1).f1, .slice A396_2 (rd_T58 l0 x19_1).f2.length c396_2, .bool (rd_T58 l0 x19_1).f3, .int .i64 (rd_T58 l0 x19_1).f4, .int .i64 (rd_T58 l0 x19_1).f5, .int .i64 (rd_T58 l0 x19_1).f6] 58 (0, 0)) (by (with_reducible repeat (first | refine blk_drewN ?_ _ | refine blk_drew ?_ | refine blk_alloc ?_ _)); exact BK397.out)) : gb397 ≠ gb414))
             have n9_ := Aside0.mk ((by rw [hg]; exact Nat.ne_of_gt (blk_lt (g := gb397) (o := .cells #[.int .u32 (rd_T58 l0 x19_1).f0, .int .u32 (rd_T58 l0 x19_1).f1, .slice A396_2 (rd_T58 l0 x19_1).f2.length c396_2, .bool (rd_T58 l0 x19_1).f3, .int .i64 (rd_T58 l0 x19_1).f4, .int .i64 (rd_T58 l0 x19_1).f5, .int .i64 (rd_T58 l0 x19_1).f6] 58 (0, 0)) (by (with_reducible repeat (first | refine blk_drewN ?_ _ | refine blk_drew ?_ | refine blk_alloc ?_ _)); exact BK397.out)) : gb414 ≠ gb397))
             clear HO_7
             clear HO_8
             clear HO_11
             clear BK397
             clear HB
             have HO_7 := n0_
             have HO_8 := n1_
             have HO_11 := n2_
             have BK397 := n3_
             have HB := n4_
             have BK414 := n5_
             have GW414 := n6_
             have GE414 := n7_
             have NB397_414 := n8_
             have NB414_397 := n9_
             clear n0_ n1_ n2_ n3_ n4_ n5_ n6_ n7_ n8_ n9_
             clear hb hbox hg
             refine hK.out _ _ ⟨(blk_cell BK397.out 0).trans rfl, (blk_cell BK397.out 1).trans rfl, (blk_cell BK397.out 2).trans rfl, (blk_cell BK397.out 3).trans rfl, (blk_cell BK397.out 4).trans rfl, (blk_cell BK397.out 5).trans rfl, (blk_cell BK397.out 6).trans rfl⟩ (fun hHeld => ?_)
             clear hK K
             refine norm_ (a' := ?_) ?_ ?_
             rotate_left
             ·show Act.put _ (some 14) _ = _
              simp only [Act.put, List.setIfInBounds_toArray, List.set_cons_zero, List.set_cons_succ, i64_w, i32_w]
              rfl
             exact norm_ (by simp only [putAll, Act.put, List.setIfInBounds_toArray, List.set_cons_zero, List.set_cons_succ]) (hCont (gb414) _ ⟨hHeld, (by (with_reducible repeat (first | apply R_alloc | apply R_drewN | apply R_drew)); exact HO_11.out), (by (with_reducible repeat (first | apply N_alloc | apply N_drewN | apply N_drew)); exact N_mono HO_7.out (fun _ hk => ⟨hk.1.1, ⟨hk.1.2.2.1, ⟨hk.1.2.1, ⟨hk.1.2.2.2, hk.2⟩⟩⟩⟩)), (by (with_reducible repeat (first | apply R_alloc | apply R_drewN | apply R_drew)); exact HO_8.out), (by (with_reducible repeat (first | refine blk_drewN ?_ _ | refine blk_drew ?_ | refine blk_alloc ?_ _)); exact BK397.out), (by (with_reducible repeat (first | refine blk_drewN ?_ _ | refine blk_drew ?_ | refine blk_alloc ?_ _)); exact BK414.out), GW414.out, GE414.out, NB397_414.out, NB414_397.out, (by repeat (first | (with_reducible first | exact HB.out | apply below_alloc | apply pw_below_drewN | apply below_drew1 | refine below_set ?_ GE397.out | refine below_set ?_ GE414.out) | exact HB.out))⟩)
            ·skip
             refine box_step ?hg (N := 14) ?hd (cs := #[.int .i64 0, .int .i64 0, .int .i64 0]) (t := 23) ?hr ?_; (case hd => rfl); (case hg => rfl); (case hr => first | (go_simp; done) | (go_simp; rfl))
             intro gb414 hg w75 hbox hb
             have n0_ := Aside0.mk (N_below (N_elderB (by (with_reducible repeat (first | apply N_alloc | apply N_drewN | apply N_drew)); exact HO_7.out) gb414 (Nat.le_of_eq hg.symm)) hb)
             have n1_ := Aside0.mk (R_below (R_elderB (by (with_reducible repeat (first | apply R_alloc | apply R_drewN | apply R_drew)); exact HO_8.out) gb414 (Nat.le_of_eq hg.symm)) hb)
             have n2_ := Aside0.mk (R_below (by (with_reducible repeat (first | apply R_alloc | apply R_drewN | apply R_drew)); exact HO_11.out) hb)
             have n3_ := Aside0.mk (blk_below (g := gb397) (o := .cells #[.int .u32 (rd_T58 l0 x19_1).f0, .int .u32 (rd_T58 l0 x19_1).f1, .slice A396_2 (rd_T58 l0 x19_1).f2.length c396_2, .bool (rd_T58 l0 x19_1).f3, .int .i64 (rd_T58 l0 x19_1).f4, .int .i64 (rd_T58 l0 x19_1).f5, .int .i64 (rd_T58 l0 x19_1).f6] 58 (0, 0)) (by (with_reducible repeat (first | refine blk_drewN ?_ _ | refine blk_drew ?_ | refine blk_alloc ?_ _)); exact BK397.out) hb)
             have n4_ := Aside0.mk (below_step (by repeat (first | (with_reducible first | exact HB.out | apply below_alloc | apply pw_below_drewN | apply below_drew1 | refine below_set ?_ GE397.out) | exact HB.out)) hb)
             have n5_ := Aside0.mk (hbox)
             have n6_ := Aside0.mk ((by rw [hg]; exact (below_size (by repeat (first | (with_reducible first | exact HB.out | apply below_alloc | apply pw_below_drewN | apply below_drew1 | refine below_set ?_ GE397.out) | exact HB.out))) : w.heap.size ≤ gb414))
             have n7_ := Aside0.mk ((by rw [hg]; exact (below_size (by repeat (first | (with_reducible first | exact HB.out | apply below_alloc | apply pw_below_drewN | apply below_drew1 | refine below_set ?_ GE397.out) | exact HB.out))) : w.heap.size ≤ gb414))
             have n8_ := Aside0.mk ((by rw [hg]; exact Nat.ne_of_lt (blk_lt (g := gb397) (o := .cells #[.int .u32 (rd_T58 l0 x19_1).f0, .int .u32 (rd_T58 l0 x19_1).f1, .slice A396_2 (rd_T58 l0 x19_1).f2.length c396_2, .bool (rd_T58 l0 x19_1).f3, .int .i64 (rd_T58 l0 x19_1).f4, .int .i64 (rd_T58 l0 x19_1).f5, .int .i64 (rd_T58 l0 x19_1).f6] 58 (0, 0)) (by (with_reducible repeat (first | refine blk_drewN ?_ _ | refine blk_drew ?_ | refine blk_alloc ?_ _)); exact BK397.out)) : gb397 ≠ gb414))
             have n9_ := Aside0.mk ((by rw [hg]; exact Nat.ne_of_gt (blk_lt (g := gb397) (o := .cells #[.int .u32 (rd_T58 l0 x19_1).f0, .int .u32 (rd_T58 l0 x19_1).f1, .slice A396_2 (rd_T58 l0 x19_1).f2.length c396_2, .bool (rd_T58 l0 x19_1).f3, .int .i64 (rd_T58 l0 x19_1).f4, .int .i64 (rd_T58 l0 x19_1).f5, .int .i64 (rd_T58 l0 x19_1).f6] 58 (0, 0)) (by (with_reducible repeat (first | refine blk_drewN ?_ _ | refine blk_drew ?_ | refine blk_alloc ?_ _)); exact BK397.out)) : gb414 ≠ gb397))
             clear HO_7
             clear HO_8
             clear HO_11
             clear BK397
             clear HB
             have HO_7 := n0_
             have HO_8 := n1_
             have HO_11 := n2_
             have BK397 := n3_
             have HB := n4_
             have BK414 := n5_
             have GW414 := n6_
             have GE414 := n7_
             have NB397_414 := n8_
             have NB414_397 := n9_
             clear n0_ n1_ n2_ n3_ n4_ n5_ n6_ n7_ n8_ n9_
             clear hb hbox hg
             refine hK.out _ _ ⟨(blk_cell BK397.out 0).trans rfl, (blk_cell BK397.out 1).trans rfl, (blk_cell BK397.out 2).trans rfl, (blk_cell BK397.out 3).trans rfl, (blk_cell BK397.out 4).trans rfl, (blk_cell BK397.out 5).trans rfl, (blk_cell BK397.out 6).trans rfl⟩ (fun hHeld => ?_)
             clear hK K
             refine norm_ (a' := ?_) ?_ ?_
             rotate_left
             ·show Act.put _ (some 14) _ = _
              simp only [Act.put, List.setIfInBounds_toArray, List.set_cons_zero, List.set_cons_succ, i64_w, i32_w]
              rfl
             refine one_ (i := 7) (N := some 52) #[true, true, true, true, true, true, true, true, false, true, false] rfl rfl (one_of HT_.out (by kernel_rfl)) (by decide) (fun K hK => ?_)
             refine goes_ Tryd.func47 (by kernel_rfl) rfl #[.int .u32 (rd_T58 l0 x19_1).f1] (by rfl) rfl rfl (by (try simp only [List.map_toArray, List.map_cons, List.map_nil]); first | done | rfl | (simp only [List.length_drop, List.length_take]; rfl)) ?_
             with_reducible refine (cohousinglaw22_residue.calls (rd_T58 l0 x19_1).f1 t413 _ A25.out).mono ?_
             rintro e w' ⟨rfl, ⟨nd, rfl⟩⟩
             refine ⟨_, rfl, ?_⟩
             refine hK.out _ _ ⟨(blk_cell BK397.out 0).trans rfl, (blk_cell BK397.out 1).trans rfl, (blk_cell BK397.out 2).trans rfl, (blk_cell BK397.out 3).trans rfl, (blk_cell BK397.out 4).trans rfl, (blk_cell BK397.out 5).trans rfl, (blk_cell BK397.out 6).trans rfl⟩ (fun hHeld => ?_)
             clear hK K
             refine norm_ (a' := ?_) ?_ ?_
             rotate_left
             ·show Act.put _ (some 52) _ = _
              simp only [Act.put, List.setIfInBounds_toArray, List.set_cons_zero, List.set_cons_succ, i64_w, i32_w]
              rfl
             refine pure_ (i := 8) (N := some 53) (v := ?_) (a' := ?_) #[true, true, true, true, true, true, true, true, true, true, false] rfl rfl (any_of HT_.out (by kernel_rfl)) (fun _ _ _ h => h) (Or.inl ⟨by rfl, ?_⟩) ?_ ?_
             rotate_left
             ·intro w'
              go_simp
              with_reducible rfl
             rotate_left
             ·simp only [Act.put, List.setIfInBounds_toArray, List.set_cons_zero, List.set_cons_succ, i64_w, i32_w]
              rfl
             exact norm_ (by simp only [putAll, Act.put, List.setIfInBounds_toArray, List.set_cons_zero, List.set_cons_succ]) (hCont (gb414) _ ⟨hHeld, (by (with_reducible repeat (first | apply R_alloc | apply R_drewN | apply R_drew)); exact HO_11.out), (by (with_reducible repeat (first | apply N_alloc | apply N_drewN | apply N_drew)); exact N_mono HO_7.out (fun _ hk => ⟨hk.1.1, ⟨hk.1.2.2.1, ⟨hk.1.2.1, ⟨hk.1.2.2.2, hk.2⟩⟩⟩⟩)), (by (with_reducible repeat (first | apply R_alloc | apply R_drewN | apply R_drew)); exact HO_8.out), (by (with_reducible repeat (first | refine blk_drewN ?_ _ | refine blk_drew ?_ | refine blk_alloc ?_ _)); exact BK397.out), (by (with_reducible repeat (first | refine blk_drewN ?_ _ | refine blk_drew ?_ | refine blk_alloc ?_ _)); exact BK414.out), GW414.out, GE414.out, NB397_414.out, NB414_397.out, (by repeat (first | (with_reducible first | exact HB.out | apply below_alloc | apply pw_below_drewN | apply below_drew1 | refine below_set ?_ GE397.out | refine below_set ?_ GE414.out) | exact HB.out))⟩)
           ·skip
            refine box_step ?hg (N := 14) ?hd (cs := #[.int .i64 0, .int .i64 0, .int .i64 0]) (t := 23) ?hr ?_; (case hd => rfl); (case hg => rfl); (case hr => first | (go_simp; done) | (go_simp; rfl))
            intro gb414 hg w75 hbox hb
            have n0_ := Aside0.mk (N_below (N_elderB (by (with_reducible repeat (first | apply N_alloc | apply N_drewN | apply N_drew)); exact HO_7.out) gb414 (Nat.le_of_eq hg.symm)) hb)
            have n1_ := Aside0.mk (R_below (R_elderB (by (with_reducible repeat (first | apply R_alloc | apply R_drewN | apply R_drew)); exact HO_8.out) gb414 (Nat.le_of_eq hg.symm)) hb)
            have n2_ := Aside0.mk (R_below (by (with_reducible repeat (first | apply R_alloc | apply R_drewN | apply R_drew)); exact HO_11.out) hb)
            have n3_ := Aside0.mk (blk_below (g := gb397) (o := .cells #[.int .u32 (rd_T58 l0 x19_1).f0, .int .u32 (rd_T58 l0 x19_1).f1, .slice A396_2 (rd_T58 l0 x19_1).f2.length c396_2, .bool (rd_T58 l0 x19_1).f3, .int .i64 (rd_T58 l0 x19_1).f4, .int .i64 (rd_T58 l0 x19_1).f5, .int .i64 (rd_T58 l0 x19_1).f6] 58 (0, 0)) (by (with_reducible repeat (first | refine blk_drewN ?_ _ | refine blk_drew ?_ | refine blk_alloc ?_ _)); exact BK397.out) hb)
            have n4_ := Aside0.mk (below_step (by repeat (first | (with_reducible first | exact HB.out | apply below_alloc | apply pw_below_drewN | apply below_drew1 | refine below_set ?_ GE397.out) | exact HB.out)) hb)
            have n5_ := Aside0.mk (hbox)
            have n6_ := Aside0.mk ((by rw [hg]; exact (below_size (by repeat (first | (with_reducible first | exact HB.out | apply below_alloc | apply pw_below_drewN | apply below_drew1 | refine below_set ?_ GE397.out) | exact HB.out))) : w.heap.size ≤ gb414))
            have n7_ := Aside0.mk ((by rw [hg]; exact (below_size (by repeat (first | (with_reducible first | exact HB.out | apply below_alloc | apply pw_below_drewN | apply below_drew1 | refine below_set ?_ GE397.out) | exact HB.out))) : w.heap.size ≤ gb414))
            have n8_ := Aside0.mk ((by rw [hg]; exact Nat.ne_of_lt (blk_lt (g := gb397) (o := .cells #[.int .u32 (rd_T58 l0 x19_1).f0, .int .u32 (rd_T58 l0 x19_1).f1, .slice A396_2 (rd_T58 l0 x19_1).f2.length c396_2, .bool (rd_T58 l0 x19_1).f3, .int .i64 (rd_T58 l0 x19_1).f4, .int .i64 (rd_T58 l0 x19_1).f5, .int .i64 (rd_T58 l0 x19_1).f6] 58 (0, 0)) (by (with_reducible repeat (first | refine blk_drewN ?_ _ | refine blk_drew ?_ | refine blk_alloc ?_ _)); exact BK397.out)) : gb397 ≠ gb414))
            have n9_ := Aside0.mk ((by rw [hg]; exact Nat.ne_of_gt (blk_lt (g := gb397) (o := .cells #[.int .u32 (rd_T58 l0 x19_1).f0, .int .u32 (rd_T58 l0 x19_1).f1, .slice A396_2 (rd_T58 l0 x19_1).f2.length c396_2, .bool (rd_T58 l0 x19_1).f3, .int .i64 (rd_T58 l0 x19_1).f4, .int .i64 (rd_T58 l0 x19_1).f5, .int .i64 (rd_T58 l0 x19_1).f6] 58 (0, 0)) (by (with_reducible repeat (first | refine blk_drewN ?_ _ | refine blk_drew ?_ | refine blk_alloc ?_ _)); exact BK397.out)) : gb414 ≠ gb397))
            clear HO_7
            clear HO_8
            clear HO_11
            clear BK397
            clear HB
            have HO_7 := n0_
            have HO_8 := n1_
            have HO_11 := n2_
            have BK397 := n3_
            have HB := n4_
            have BK414 := n5_
            have GW414 := n6_
            have GE414 := n7_
            have NB397_414 := n8_
            have NB414_397 := n9_
            clear n0_ n1_ n2_ n3_ n4_ n5_ n6_ n7_ n8_ n9_
            clear hb hbox hg
            refine hK.out _ _ ⟨(blk_cell BK397.out 0).trans rfl, (blk_cell BK397.out 1).trans rfl, (blk_cell BK397.out 2).trans rfl, (blk_cell BK397.out 3).trans rfl, (blk_cell BK397.out 4).trans rfl, (blk_cell BK397.out 5).trans rfl, (blk_cell BK397.out 6).trans rfl⟩ (fun hHeld => ?_)
            clear hK K
            refine norm_ (a' := ?_) ?_ ?_
            rotate_left
            ·show Act.put _ (some 14) _ = _
             simp only [Act.put, List.setIfInBounds_toArray, List.set_cons_zero, List.set_cons_succ, i64_w, i32_w]
             rfl
            refine one_ (i := 4) (N := some 49) #[true, true, true, true, true, true, true, false, false, true, false] rfl rfl (one_of HT_.out (by kernel_rfl)) (by decide) (fun K hK => ?_)
            refine goes_ Tryd.func47 (by kernel_rfl) rfl #[.int .u32 (rd_T58 l0 x19_1).f0] (by rfl) rfl rfl (by (try simp only [List.map_toArray, List.map_cons, List.map_nil]); first | done | rfl | (simp only [List.length_drop, List.length_take]; rfl)) ?_
            with_reducible refine (cohousinglaw22_residue.calls (rd_T58 l0 x19_1).f0 t412 _ A24.out).mono ?_
            rintro e w' ⟨rfl, ⟨nd, rfl⟩⟩
            refine ⟨_, rfl, ?_⟩
            refine hK.out _ _ ⟨(blk_cell BK397.out 0).trans rfl, (blk_cell BK397.out 1).trans rfl, (blk_cell BK397.out 2).trans rfl, (blk_cell BK397.out 3).trans rfl, (blk_cell BK397.out 4).trans rfl, (blk_cell BK397.out 5).trans rfl, (blk_cell BK397.out 6).trans rfl⟩ (fun hHeld => ?_)
            clear hK K
            refine norm_ (a' := ?_) ?_ ?_
            rotate_left
            ·show Act.put _ (some 49) _ = _
             simp only [Act.put, List.setIfInBounds_toArray, List.set_cons_zero, List.set_cons_succ, i64_w, i32_w]
             rfl
            refine one_ (i := 7) (N := some 52) #[true, true, true, true, true, true, true, true, false, true, false] rfl rfl (one_of HT_.out (by kernel_rfl)) (by decide) (fun K hK => ?_)
            refine goes_ Tryd.func47 (by kernel_rfl) rfl #[.int .u32 (rd_T58 l0 x19_1).f1] (by rfl) rfl rfl (by (try simp only [List.map_toArray, List.map_cons, List.map_nil]); first | done | rfl | (simp only [List.length_drop, List.length_take]; rfl)) ?_
            with_reducible refine (cohousinglaw22_residue.calls (rd_T58 l0 x19_1).f1 t413 _ A25.out).mono ?_
            rintro e w' ⟨rfl, ⟨nd, rfl⟩⟩
            refine ⟨_, rfl, ?_⟩
            refine hK.out _ _ ⟨(blk_cell BK397.out 0).trans rfl, (blk_cell BK397.out 1).trans rfl, (blk_cell BK397.out 2).trans rfl, (blk_cell BK397.out 3).trans rfl, (blk_cell BK397.out 4).trans rfl, (blk_cell BK397.out 5).trans rfl, (blk_cell BK397.out 6).trans rfl⟩ (fun hHeld => ?_)
            clear hK K
            refine norm_ (a' := ?_) ?_ ?_
            rotate_left
            ·show Act.put _ (some 52) _ = _
             simp only [Act.put, List.setIfInBounds_toArray, List.set_cons_zero, List.set_cons_succ, i64_w, i32_w]
             rfl
            refine pure_ (i := 8) (N := some 53) (v := ?_) (a' := ?_) #[true, true, true, true, true, true, true, true, true, true, false] rfl rfl (any_of HT_.out (by kernel_rfl)) (fun _ _ _ h => h) (Or.inl ⟨by rfl, ?_⟩) ?_ ?_
            rotate_left
            ·intro w'
             go_simp
             with_reducible rfl
            rotate_left
            ·simp only [Act.put, List.setIfInBounds_toArray, List.set_cons_zero, List.set_cons_succ, i64_w, i32_w]
             rfl
            exact norm_ (by simp only [putAll, Act.put, List.setIfInBounds_toArray, List.set_cons_zero, List.set_cons_succ]) (hCont (gb414) _ ⟨hHeld, (by (with_reducible repeat (first | apply R_alloc | apply R_drewN | apply R_drew)); exact HO_11.out), (by (with_reducible repeat (first | apply N_alloc | apply N_drewN | apply N_drew)); exact N_mono HO_7.out (fun _ hk => ⟨hk.1.1, ⟨hk.1.2.2.1, ⟨hk.1.2.1, ⟨hk.1.2.2.2, hk.2⟩⟩⟩⟩)), (by (with_reducible repeat (first | apply R_alloc | apply R_drewN | apply R_drew)); exact HO_8.out), (by (with_reducible repeat (first | refine blk_drewN ?_ _ | refine blk_drew ?_ | refine blk_alloc ?_ _)); exact BK397.out), (by (with_reducible repeat (first | refine blk_drewN ?_ _ | refine blk_drew ?_ | refine blk_alloc ?_ _)); exact BK414.out), GW414.out, GE414.out, NB397_414.out, NB414_397.out, (by repeat (first | (with_reducible first | exact HB.out | apply below_alloc | apply pw_below_drewN | apply below_drew1 | refine below_set ?_ GE397.out | refine below_set ?_ GE414.out) | exact HB.out))⟩)
          rintro gb414 w76 ⟨hS_, h0_, h1_, h2_, h3_, h4_, h5_, h6_, h7_, h8_, h9_⟩
          have n0_ : Aside0 (Kd.R (Kd.int .i64) 3 w76 w.heap.size (fun k_ => (w.heap.size ≤ k_)) u11 x11_2) := ⟨h0_⟩
          have n1_ : Aside0 (Kd.N k31 31 w76 w.heap.size (fun k_ => (w.heap.size ≤ k_) ∧ some k_ ≠ (u11 : Value).ownBlock ∧ some k_ ≠ (u8 : Value).ownBlock ∧ k_ ≠ gb397 ∧ k_ ≠ gb414) u7 x7_1) := ⟨h1_⟩
          have n2_ : Aside0 (Kd.R k23 23 w76 w.heap.size (fun k_ => (w.heap.size ≤ k_) ∧ k_ ≠ gb414) u8 x8_1) := ⟨h2_⟩
          have n3_ : Aside0 (w76.heap[gb397]? = some (.cells #[.int .u32 (rd_T58 l0 x19_1).f0, .int .u32 (rd_T58 l0 x19_1).f1, .slice A396_2 (rd_T58 l0 x19_1).f2.length c396_2, .bool (rd_T58 l0 x19_1).f3, .int .i64 (rd_T58 l0 x19_1).f4, .int .i64 (rd_T58 l0 x19_1).f5, .int .i64 (rd_T58 l0 x19_1).f6] 58 (0, 0))) := ⟨h3_⟩
          have n4_ : Aside0 (w76.heap[gb414]? = some (.cells #[.int .i64 0, .int .i64 0, .int .i64 0] 23 (0, 0))) := ⟨h4_⟩
          have n5_ : Aside0 (w.heap.size ≤ gb414) := ⟨h5_⟩
          have n6_ : Aside0 (w.heap.size ≤ gb414) := ⟨h6_⟩
          have n7_ : Aside0 (gb397 ≠ gb414) := ⟨h7_⟩
          have n8_ : Aside0 (gb414 ≠ gb397) := ⟨h8_⟩
          have n9_ : Aside0 (Below w.heap.size w w76) := ⟨h9_⟩
          clear HO_7
          clear HO_8
          clear HO_11
          clear BK397
          clear HB
          clear h0_ h1_ h2_ h3_ h4_ h5_ h6_ h7_ h8_ h9_
          have HO_11 := n0_
          have HO_7 := n1_
          have HO_8 := n2_
          have BK397 := n3_
          have BK414 := n4_
          have GW414 := n5_
          have GE414 := n6_
          have NB397_414 := n7_
          have NB414_397 := n8_
          have HB := n9_
          clear n0_ n1_ n2_ n3_ n4_ n5_ n6_ n7_ n8_ n9_
          have hHeld : w76.cell? ⟨gb397, 0, none⟩ = some (.int .u32 (rd_T58 l0 x19_1).f0) ∧ w76.cell? ⟨gb397, 1, none⟩ = some (.int .u32 (rd_T58 l0 x19_1).f1) ∧ w76.cell? ⟨gb397, 2, none⟩ = some (.slice A396_2 (rd_T58 l0 x19_1).f2.length c396_2) ∧ w76.cell? ⟨gb397, 3, none⟩ = some (.bool (rd_T58 l0 x19_1).f3) ∧ w76.cell? ⟨gb397, 4, none⟩ = some (.int .i64 (rd_T58 l0 x19_1).f4) ∧ w76.cell? ⟨gb397, 5, none⟩ = some (.int .i64 (rd_T58 l0 x19_1).f5) ∧ w76.cell? ⟨gb397, 6, none⟩ = some (.int .i64 (rd_T58 l0 x19_1).f6) := hS_
          refine norm_ (a' := ?_) ?_ ?_
          rotate_left
          ·simp only [putAll, Act.put, List.setIfInBounds_toArray, List.set_cons_zero, List.set_cons_succ]
           rfl
          refine one_ (i := 10) (N := none) #[true, true, true, true, true, true, true, true, true, true, true] rfl rfl (one_of HT_.out (by kernel_rfl)) (by decide) (fun K hK => ?_)
          have hs77 : w76.cell? ⟨gb414, 0, none⟩ = some (.int .i64 0) := (blk_cell BK414.out 0).trans rfl
          have hfs77 := blk_frozen BK414.out 0
          have hns77_0 := NB397_414.out
          have hms77_0 := NB414_397.out
          have hs78 : w76.cell? ⟨gb414, 1, none⟩ = some (.int .i64 0) := (blk_cell BK414.out 1).trans rfl
          have hfs78 := blk_frozen BK414.out 1
          have hns78_0 := NB397_414.out
          have hms78_0 := NB414_397.out
          have hs79 : w76.cell? ⟨gb414, 2, none⟩ = some (.int .i64 0) := (blk_cell BK414.out 2).trans rfl
          have hfs79 := blk_frozen BK414.out 2
          have hns79_0 := NB397_414.out
          have hms79_0 := NB414_397.out
          refine skip_ (w1 := ?_) (by rfl) rfl ?_ ?_
          rotate_left
          ·go_simp
           rfl
          refine hK.out _ _ ⟨((cell_far (p := ⟨gb414, _, none⟩) NB397_414.out _).trans (((cell_far (p := ⟨gb414, _, none⟩) NB397_414.out _).trans (((cell_far (p := ⟨gb414, _, none⟩) NB397_414.out _).trans (hHeld.1)))))), ((cell_far (p := ⟨gb414, _, none⟩) NB397_414.out _).trans (((cell_far (p := ⟨gb414, _, none⟩) NB397_414.out _).trans (((cell_far (p := ⟨gb414, _, none⟩) NB397_414.out _).trans (hHeld.2.1)))))), ((cell_far (p := ⟨gb414, _, none⟩) NB397_414.out _).trans (((cell_far (p := ⟨gb414, _, none⟩) NB397_414.out _).trans (((cell_far (p := ⟨gb414, _, none⟩) NB397_414.out _).trans (hHeld.2.2.1)))))), ((cell_far (p := ⟨gb414, _, none⟩) NB397_414.out _).trans (((cell_far (p := ⟨gb414, _, none⟩) NB397_414.out _).trans (((cell_far (p := ⟨gb414, _, none⟩) NB397_414.out _).trans (hHeld.2.2.2.1)))))), ((cell_far (p := ⟨gb414, _, none⟩) NB397_414.out _).trans (((cell_far (p := ⟨gb414, _, none⟩) NB397_414.out _).trans (((cell_far (p := ⟨gb414, _, none⟩) NB397_414.out _).trans (hHeld.2.2.2.2.1)))))), ((cell_far (p := ⟨gb414, _, none⟩) NB397_414.out _).trans (((cell_far (p := ⟨gb414, _, none⟩) NB397_414.out _).trans (((cell_far (p := ⟨gb414, _, none⟩) NB397_414.out _).trans (hHeld.2.2.2.2.2.1)))))), ((cell_far (p := ⟨gb414, _, none⟩) NB397_414.out _).trans (((cell_far (p := ⟨gb414, _, none⟩) NB397_414.out _).trans (((cell_far (p := ⟨gb414, _, none⟩) NB397_414.out _).trans (hHeld.2.2.2.2.2.2))))))⟩ (fun hHeld => ?_)
          clear hK K
          refine done_ (done_of HT_.out (by kernel_rfl)) ?_
          have hnb80 := NB414_397.out
          have hnc80 := NB397_414.out
          have hcz81_0 : w76.cell? ⟨gb414, 0, none⟩ = some (.int .i64 0) := (blk_cell BK414.out 0).trans rfl
          have hcz81_1 : w76.cell? ⟨gb414, 1, none⟩ = some (.int .i64 0) := (blk_cell BK414.out 1).trans rfl
          have hcz81_2 : w76.cell? ⟨gb414, 2, none⟩ = some (.int .i64 0) := (blk_cell BK414.out 2).trans rfl
          have hfz81_0 := blk_frozen BK414.out 0
          have hfz81_1 := blk_frozen BK414.out 1
          have hfz81_2 := blk_frozen BK414.out 2
          obtain ⟨Ao82, co82, eo82⟩ := R_slice HO_11.out
          subst eo82
          try go_wp2_with (first | ((with_reducible refine gate_callee (f := 11) rfl ?_); refine goesL_ (some 59) rfl rfl Tryd.func11 (by kernel_rfl) rfl #[.agg #[.int .i64 (wrap64 (x19_1 + 1)), .int .i64 t412, .int .i64 t413], .slice Ao82 x11_2.length co82, .int .i64 (l0.length : Int)] rfl (by (try simp only [List.map_toArray, List.map_cons, List.map_nil]); first | done | rfl | (simp only [List.length_drop, List.length_take]; rfl)) ?_; (with_reducible refine (lottery_Deal.calls k2 (wrap64 (x19_1 + 1)) t412 t413 _ _ x11_2 (l0.length : Int) t415 t416 t417 t420 _ ?side3 ?side1 ?side2 A26.out).mono ?_); (case side1 => refine (R_reads' (e := 3) (base := w.heap.size) (ok := fun k_ => (w.heap.size ≤ k_)) (n := x11_2.length) (c := co82) ?_).2.2; exact (by (with_reducible repeat (first | apply R_alloc | apply R_drewN | apply R_drew)); exact (R_mono (R_far (p := ⟨gb414, 2, none⟩) (R_far (p := ⟨gb414, 1, none⟩) (R_far (p := ⟨gb414, 0, none⟩) (R_types HO_11.out BK414.out (by decide)) (fun _ hk => hk.2) (.int .i64 (wrap64 (x19_1 + 1)))) (fun _ hk => hk.2) (.int .i64 t412)) (fun _ hk => hk.2) (.int .i64 t413)) (fun _ h_ => h_.1)))); (case side2 => exact (R_reads' HO_11.out).2.1); (case side3 => exact TabW.below HTAB.out (by repeat (first | (with_reducible first | exact HB.out | apply below_alloc | apply pw_below_drewN | apply below_drew1 | refine below_set ?_ GE397.out | refine below_set ?_ GE414.out) | exact HB.out))); rintro e w83 ⟨v418, rfl, ho0, hb⟩; refine ⟨_, rfl, ?_⟩; have n0_ := Aside0.mk (N_elder' (by (with_reducible repeat (first | apply N_alloc | apply N_drewN | apply N_drew)); exact (N_mono (N_far (p := ⟨gb414, 2, none⟩) (N_far (p := ⟨gb414, 1, none⟩) (N_far (p := ⟨gb414, 0, none⟩) (N_mono HO_7.out (fun k_ hk => (⟨hk, hk.2.2.2.2⟩ : _ ∧ k_ ≠ gb414))) (fun _ hk => hk.2) (.int .i64 (wrap64 (x19_1 + 1)))) (fun _ hk => hk.2) (.int .i64 t412)) (fun _ hk => hk.2) (.int .i64 t413)) (fun _ h_ => h_.1))) (R_base ho0) hb); have n1_ := Aside0.mk (R_below (by (with_reducible repeat (first | apply R_alloc | apply R_drewN | apply R_drew)); exact (R_mono (R_far (p := ⟨gb414, 2, none⟩) (R_far (p := ⟨gb414, 1, none⟩) (R_far (p := ⟨gb414, 0, none⟩) (R_mono HO_8.out (fun k_ hk => (⟨hk, hk.2⟩ : _ ∧ k_ ≠ gb414))) (fun _ hk => hk.2) (.int .i64 (wrap64 (x19_1 + 1)))) (fun _ hk => hk.2) (.int .i64 t412)) (fun _ hk => hk.2) (.int .i64 t413)) (fun _ h_ => h_.1))) hb); have n2_ := Aside0.mk (R_below (by (with_reducible repeat (first | apply R_alloc | apply R_drewN | apply R_drew)); exact (R_mono (R_far (p := ⟨gb414, 2, none⟩) (R_far (p := ⟨gb414, 1, none⟩) (R_far (p := ⟨gb414, 0, none⟩) (R_types HO_11.out BK414.out (by decide)) (fun _ hk => hk.2) (.int .i64 (wrap64 (x19_1 + 1)))) (fun _ hk => hk.2) (.int .i64 t412)) (fun _ hk => hk.2) (.int .i64 t413)) (fun _ h_ => h_.1))) hb); have n3_ := Aside0.mk (R_lower (R_newM (M := fun k_ => (w.heap.size ≤ k_)) ho0 (below_size (by repeat (first | (with_reducible first | exact HB.out | apply below_alloc | apply pw_below_drewN | apply below_drew1 | refine below_set ?_ GE397.out | refine below_set ?_ GE414.out) | exact HB.out))) (fun k_ h_ => h_)) (below_size (by repeat (first | (with_reducible first | exact HB.out | apply below_alloc | apply pw_below_drewN | apply below_drew1 | refine below_set ?_ GE397.out | refine below_set ?_ GE414.out) | exact HB.out)))); have n4_ := Aside0.mk (blk_below (g := gb397) (o := .cells #[.int .u32 (rd_T58 l0 x19_1).f0, .int .u32 (rd_T58 l0 x19_1).f1, .slice A396_2 (rd_T58 l0 x19_1).f2.length c396_2, .bool (rd_T58 l0 x19_1).f3, .int .i64 (rd_T58 l0 x19_1).f4, .int .i64 (rd_T58 l0 x19_1).f5, .int .i64 (rd_T58 l0 x19_1).f6] 58 (0, 0)) (by (with_reducible repeat (first | refine blk_drewN ?_ _ | refine blk_drew ?_ | refine blk_alloc ?_ _)); refine blk_far ?_ NB397_414.out _; (with_reducible repeat (first | refine blk_drewN ?_ _ | refine blk_drew ?_ | refine blk_alloc ?_ _)); refine blk_far ?_ NB397_414.out _; (with_reducible repeat (first | refine blk_drewN ?_ _ | refine blk_drew ?_ | refine blk_alloc ?_ _)); refine blk_far ?_ NB397_414.out _; (with_reducible repeat (first | refine blk_drewN ?_ _ | refine blk_drew ?_ | refine blk_alloc ?_ _)); exact BK397.out) hb); have n5_ := Aside0.mk (blk_below (g := gb414) (o := .cells #[.int .i64 (wrap64 (x19_1 + 1)), .int .i64 t412, .int .i64 t413] 23 (0, 0)) (by (with_reducible repeat (first | refine blk_drewN ?_ _ | refine blk_drew ?_ | refine blk_alloc ?_ _)); refine blk_put (cs := #[.int .i64 (wrap64 (x19_1 + 1)), .int .i64 t412, .int .i64 0]) ?_ 2 _ rfl; (with_reducible repeat (first | refine blk_drewN ?_ _ | refine blk_drew ?_ | refine blk_alloc ?_ _)); refine blk_put (cs := #[.int .i64 (wrap64 (x19_1 + 1)), .int .i64 0, .int .i64 0]) ?_ 1 _ rfl; (with_reducible repeat (first | refine blk_drewN ?_ _ | refine blk_drew ?_ | refine blk_alloc ?_ _)); refine blk_put (cs := #[.int .i64 0, .int .i64 0, .int .i64 0]) ?_ 0 _ rfl; (with_reducible repeat (first | refine blk_drewN ?_ _ | refine blk_drew ?_ | refine blk_alloc ?_ _)); exact BK414.out) hb); have n6_ := Aside0.mk (below_step (by repeat (first | (with_reducible first | exact HB.out | apply below_alloc | apply pw_below_drewN | apply below_drew1 | refine below_set ?_ GE397.out | refine below_set ?_ GE414.out) | exact HB.out)) hb); clear HO_7; clear HO_8; clear HO_11; clear BK397; clear BK414; clear HB; have HO_7 := n0_; have HO_8 := n1_; have HO_11 := n2_; have HO419 := n3_; have BK397 := n4_; have BK414 := n5_; have HB := n6_; clear n0_ n1_ n2_ n3_ n4_ n5_ n6_; (try clear hb); (try clear hb2); (try clear hk); (try clear hi); (try clear ho0)) | ((with_reducible refine gate_dst (N := 15) rfl ?_); (try (refine gate_guard (by rfl) ?_; dsimp only)); refine box_event ?hg (N := 15) ?hd (cs := #[.int .i64 0, .int .u64 0, .slice none 0 0]) (t := 31) ?hr ?_; (case hd => rfl); (case hg => rfl); (case hr => first | (go_simp; done) | (go_simp; rfl)); intro gb421 hg w84 hbox hb; have n0_ := Aside0.mk (N_below (N_elderB (by (with_reducible repeat (first | apply N_alloc | apply N_drewN | apply N_drew)); exact HO_7.out) gb421 (Nat.le_of_eq hg.symm)) hb); have n1_ := Aside0.mk (R_below (by (with_reducible repeat (first | apply R_alloc | apply R_drewN | apply R_drew)); exact HO_8.out) hb); have n2_ := Aside0.mk (R_below (by (with_reducible repeat (first | apply R_alloc | apply R_drewN | apply R_drew)); exact HO_11.out) hb); have n3_ := Aside0.mk (R_below (by (with_reducible repeat (first | apply R_alloc | apply R_drewN | apply R_drew)); exact HO419.out) hb); have n4_ := Aside0.mk (blk_below (g := gb397) (o := .cells #[.int .u32 (rd_T58 l0 x19_1).f0, .int .u32 (rd_T58 l0 x19_1).f1, .slice A396_2 (rd_T58 l0 x19_1).f2.length c396_2, .bool (rd_T58 l0 x19_1).f3, .int .i64 (rd_T58 l0 x19_1).f4, .int .i64 (rd_T58 l0 x19_1).f5, .int .i64 (rd_T58 l0 x19_1).f6] 58 (0, 0)) (by (with_reducible repeat (first | refine blk_drewN ?_ _ | refine blk_drew ?_ | refine blk_alloc ?_ _)); exact BK397.out) hb); have n5_ := Aside0.mk (blk_below (g := gb414) (o := .cells #[.int .i64 (wrap64 (x19_1 + 1)), .int .i64 t412, .int .i64 t413] 23 (0, 0)) (by (with_reducible repeat (first | refine blk_drewN ?_ _ | refine blk_drew ?_ | refine blk_alloc ?_ _)); exact BK414.out) hb); have n6_ := Aside0.mk (below_step (by repeat (first | (with_reducible first | exact HB.out | apply below_alloc | apply pw_below_drewN | apply below_drew1 | refine below_set ?_ GE397.out | refine below_set ?_ GE414.out) | exact HB.out)) hb); have n7_ := Aside0.mk (hbox); have n8_ := Aside0.mk ((by rw [hg]; exact (below_size (by repeat (first | (with_reducible first | exact HB.out | apply below_alloc | apply pw_below_drewN | apply below_drew1 | refine below_set ?_ GE397.out | refine below_set ?_ GE414.out) | exact HB.out))) : w.heap.size ≤ gb421)); have n9_ := Aside0.mk ((by rw [hg]; exact (below_size (by repeat (first | (with_reducible first | exact HB.out | apply below_alloc | apply pw_below_drewN | apply below_drew1 | refine below_set ?_ GE397.out | refine below_set ?_ GE414.out) | exact HB.out))) : w.heap.size ≤ gb421)); have n10_ := Aside0.mk ((by rw [hg]; exact Nat.ne_of_lt (blk_lt (g := gb397) (o := .cells #[.int .u32 (rd_T58 l0 x19_1).f0, .int .u32 (rd_T58 l0 x19_1).f1, .slice A396_2 (rd_T58 l0 x19_1).f2.length c396_2, .bool (rd_T58 l0 x19_1).f3, .int .i64 (rd_T58 l0 x19_1).f4, .int .i64 (rd_T58 l0 x19_1).f5, .int .i64 (rd_T58 l0 x19_1).f6] 58 (0, 0)) (by (with_reducible repeat (first | refine blk_drewN ?_ _ | refine blk_drew ?_ | refine blk_alloc ?_ _)); exact BK397.out)) : gb397 ≠ gb421)); have n11_ := Aside0.mk ((by rw [hg]; exact Nat.ne_of_gt (blk_lt (g := gb397) (o := .cells #[.int .u32 (rd_T58 l0 x19_1).f0, .int .u32 (rd_T58 l0 x19_1).f1, .slice A396_2 (rd_T58 l0 x19_1).f2.length c396_2, .bool (rd_T58 l0 x19_1).f3, .int .i64 (rd_T58 l0 x19_1).f4, .int .i64 (rd_T58 l0 x19_1).f5, .int .i64 (rd_T58 l0 x19_1).f6] 58 (0, 0)) (by (with_reducible repeat (first | refine blk_drewN ?_ _ | refine blk_drew ?_ | refine blk_alloc ?_ _)); exact BK397.out)) : gb421 ≠ gb397)); have n12_ := Aside0.mk ((by rw [hg]; exact Nat.ne_of_lt (blk_lt (g := gb414) (o := .cells #[.int .i64 (wrap64 (x19_1 + 1)), .int .i64 t412, .int .i64 t413] 23 (0, 0)) (by (with_reducible repeat (first | refine blk_drewN ?_ _ | refine blk_drew ?_ | refine blk_alloc ?_ _)); exact BK414.out)) : gb414 ≠ gb421)); have n13_ := Aside0.mk ((by rw [hg]; exact Nat.ne_of_gt (blk_lt (g := gb414) (o := .cells #[.int .i64 (wrap64 (x19_1 + 1)), .int .i64 t412, .int .i64 t413] 23 (0, 0)) (by (with_reducible repeat (first | refine blk_drewN ?_ _ | refine blk_drew ?_ | refine blk_alloc ?_ _)); exact BK414.out)) : gb421 ≠ gb414)); clear HO_7; clear HO_8; clear HO_11; clear HO419; clear BK397; clear BK414; clear HB; have HO_7 := n0_; have HO_8 := n1_; have HO_11 := n2_; have HO419 := n3_; have BK397 := n4_; have BK414 := n5_; have HB := n6_; have BK421 := n7_; have GW421 := n8_; have GE421 := n9_; have NB397_421 := n10_; have NB421_397 := n11_; have NB414_421 := n12_; have NB421_414 := n13_; clear n0_ n1_ n2_ n3_ n4_ n5_ n6_ n7_ n8_ n9_ n10_ n11_ n12_ n13_; clear hb hbox hg; have hnb85 := NB421_397.out; have hnc85 := NB397_421.out; have hnb86 := NB421_414.out; have hnc86 := NB414_421.out; have hcz87_0 : w84.cell? ⟨gb421, 0, none⟩ = some (.int .i64 0) := (blk_cell BK421.out 0).trans rfl; have hcz87_1 : w84.cell? ⟨gb421, 1, none⟩ = some (.int .u64 0) := (blk_cell BK421.out 1).trans rfl; have hcz87_2 : w84.cell? ⟨gb421, 2, none⟩ = some (.slice none 0 0) := (blk_cell BK421.out 2).trans rfl; have hfz87_0 := blk_frozen BK421.out 0; have hfz87_1 := blk_frozen BK421.out 1; have hfz87_2 := blk_frozen BK421.out 2; obtain ⟨Ao88, co88, eo88⟩ := R_slice HO419.out; subst eo88))
          go_ret3
          exact ⟨_, _, by first | rfl | (simp [errW_none, errW_some] <;> rfl) | (simp [*, errW_none, errW_some] <;> rfl), by first | exact Kd.S_nil _ _ _ _ _ | exact N_nil _ _ _ _ _ | exact Kd.V_nil _ _ _ _ _ | exact Kd.Q_nil _ _ _ _ _ | exact R_nil _ _ _ _ _, by first | exact R_nil _ _ _ _ _ | exact N_nil _ _ _ _ _ | exact Kd.V_nil _ _ _ _ _ | exact Kd.Q_nil _ _ _ _ _ | exact Kd.S_nil _ _ _ _ _, by repeat (first | (with_reducible first | exact HB.out | apply below_alloc | apply pw_below_drewN | apply below_drew1 | refine below_set ?_ GE397.out | refine below_set ?_ GE414.out | refine below_set ?_ GE421.out) | exact HB.out)⟩
     ·rw [if_neg c5] at H
      exact absurd H (by simp)
    ·rw [if_neg c4] at H
     exact absurd H (by simp)
   ·rw [if_neg c3] at H
    have c3b0 : decide (x19_1 < (l0.length : Int)) = false := decide_eq_false c3
    clear c3
    simp only [Option.some.injEq, Prod.mk.injEq] at H
    obtain ⟨rfl, rfl, rfl⟩ := H
    go_wp2
    go_ret3
    exact ⟨_, _, by first | rfl | (simp [errW_none, errW_some] <;> rfl) | (simp [*, errW_none, errW_some] <;> rfl), by (with_reducible repeat (first | apply N_alloc | apply N_drewN | apply N_drew)); exact HO_7.out, by (with_reducible repeat (first | apply R_alloc | apply R_drewN | apply R_drew)); exact HO_8.out, by repeat (first | (with_reducible first | exact HB.out | apply below_alloc | apply pw_below_drewN | apply below_drew1) | exact HB.out)⟩
end Go.Proofs.YtkghgaifgpgfkaaDoor.PL
end
