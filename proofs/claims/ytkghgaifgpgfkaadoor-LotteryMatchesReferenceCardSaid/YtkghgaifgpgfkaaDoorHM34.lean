/- Lemmas and walks for lotteryMatchesReferenceCard_holds (part 34), without what it does not use. -/
import Derived.Test.YtkghgaifgpgfkaaDoorHM25
import Derived.Test.YtkghgaifgpgfkaaDoorHM32
import Derived.Test.YtkghgaifgpgfkaaDoorHM33
import Derived.Test.YtkghgaifgpgfkaaDoorHM23
import Derived.Test.YtkghgaifgpgfkaaDoorHM27
import Derived.Test.YtkghgaifgpgfkaaDoorHM13
section
namespace Go.Proofs.YtkghgaifgpgfkaaDoor.PL
open Go.RowKit Go.Proofs.YtkghgaifgpgfkaaDoorW.PrintWords Go.Proofs.YtkghgaifgpgfkaaDoorW.PrintLast Go.Proofs.YtkghgaifgpgfkaaDoorW.PrintMore
set_option linter.unusedVariables false
set_option linter.unusedSimpArgs false
theorem C_lit {α : Type} {d : Kd α} (W : World) (g : Nat) (hg : g = W.heap.size) (xs : List α) (inner : List Value) (t : TypeId) (hr : Reps (d.K (W.alloc (.cells inner.toArray t))) d.sz xs inner) (hm : xs.length ≤ 9223372036854775807) : d.C (W.alloc (.cells inner.toArray t)) (some ⟨g, 0, none⟩) xs.length xs := by
  subst hg
  obtain ⟨A, c, he, _, h⟩ := OwnRow.reads (OwnRow.lit (e := t) W 0 hr (Nat.zero_le _) hm)
  cases he
  exact h
theorem head_e1 : lottery_Deal.f 100 1 5 7 [2] 3 = some (1, 15046678867995290286, [⟨1, 7⟩, ⟨2, 9⟩, ⟨3, 11⟩], 0) := by kernel_rfl
theorem head_e2 : lottery_Recover.f 100 [⟨3, 11⟩, ⟨2, 9⟩] = some (5, 0) := by kernel_rfl
theorem head_e3 : lottery_Lots.f 100 0 3 = some ([2, 1, 3], 0) := by kernel_rfl
theorem head_e4 : lottery_Recover.f 100 [⟨2, 1⟩, ⟨2, 1⟩] = some (0, 1) := by kernel_rfl
theorem head_e5 : lottery_Deal.f 100 1 9 7 [] 1 = some (1, 2775249917122662226, [⟨1, 9⟩], 0) := by kernel_rfl
theorem head_e6 : lottery_Draw.f 100 [⟨1, 2775249917122662226, [⟨1, 9⟩]⟩] 1 [⟨1, 9, 7⟩] = some (9, [], 0) := by
  have h : drawAll 100 1 [⟨1, 9, 7⟩] ⟨0, 0, []⟩ [⟨1, 2775249917122662226, [⟨1, 9⟩]⟩] = some ⟨9, 1, []⟩ := by kernel_rfl
  have h2 : lottery_pledges.f 100 [⟨1, 2775249917122662226, [⟨1, 9⟩]⟩] = some true := by kernel_rfl
  unfold lottery_Draw.f
  rw [if_pos (by kernel_rfl), h2]
  rw [Option.bind_some, if_pos (by kernel_rfl), if_pos (by kernel_rfl), h]
  simp
theorem head_e7 : lottery_Draw.f 100 [⟨1, 2775249917122662226, [⟨1, 9⟩]⟩] 1 [] = some (0, [], 33) := by kernel_rfl
theorem head_e8 : cohousingref22_Ints.f 100 [2, 1, 3] [2, 1, 3] = some true := by kernel_rfl
theorem k47_two (W : World) (x y : S47) : Reps (k47.K W) k47.sz [x, y] [.int .i64 x.f0, .int .i64 x.f1, .int .i64 y.f0, .int .i64 y.f1] :=
  Reps.snoc (Reps.snoc (Reps.none _ _) (k47_mk W x) rfl) (k47_mk W y) rfl
theorem k31_oneR (W : World) (x : S31) {A : Option Addr} {c : Nat} (l : x.f2.length ≤ c) (g : k47.C W A x.f2.length x.f2) : Reps (k31.K W) k31.sz [x] [.int .i64 x.f0, .int .u64 x.f1, .slice A x.f2.length c] :=
  Reps.snoc (Reps.none _ _) (k31_mk W x l g) rfl
theorem k23_oneR (W : World) (x : S23) : Reps (k23.K W) k23.sz [x] [.int .i64 x.f0, .int .i64 x.f1, .int .i64 x.f2] :=
  Reps.snoc (Reps.none _ _) (k23_mk W x) rfl
theorem C_none {α : Type} (d : Kd α) (W : World) (A : Option Addr) : d.C W A ([] : List α).length [] := ⟨rfl, by simp, fun h => by simp at h⟩
theorem bsz (W : World) (o : Obj) : (W.alloc o).heap.size = W.heap.size + 1 := by simp
theorem TabW.alloc {w : World} (h : TabW w) (o : Obj) : TabW (w.alloc o) := h.below (below_alloc (Below.refl _ _) o)
def cohousinglaw22_head.f  : Option (Bool) := some true
set_option maxRecDepth 100000 in
set_option maxHeartbeats 8000000 in
theorem cohousinglaw22_head.calls  (r : Bool) (w : World) (hT : TabW w) (h : cohousinglaw22_head.f  = some r) :
    Calls Tryd.prog 10 #[] w fun e w' => e = .returned (.bool r) ∧ Below w.heap.size w w' := by
  obtain rfl : true = r := Option.some.inj h
  clear h
  have HT := Aside0.mk hT
  clear hT
  have hu31 := Tryd.underlying31
  have hu47 := Tryd.underlying47
  have hu23 := Tryd.underlying23
  go_enter Tryd.func10, Tryd.ntmps10
  go_wp2_with fail
  refine (lottery_Deal.calls 100 1 5 7 _ _ [2] 3 _ _ _ _ _ (HT.out.alloc _) (C_one w 2 3 _ rfl) (Nat.le_refl _) head_e1).mono ?_
  rintro e w1 ⟨v1, rfl, hR1, hb1⟩
  obtain ⟨A1, c1, rfl, hl1, hC1⟩ := Kd.R_reads hR1
  have HT1 := Aside0.mk ((HT.out.alloc (.cells #[.int .i64 2] 3)).below hb1)
  have HB1 := Aside0.mk ((below_alloc (Below.refl w.heap.size w) (.cells #[.int .i64 2] 3)).trans (hb1.mono (by simp)))
  have HC1 := Aside0.mk hC1
  clear hb1 hR1 hC1 HT
  go_wp2_with fail
  have hP := (cells3_new w1 (.int .i64 1) (.int .u64 15046678867995290286) (.slice A1 3 c1) 31).2.2
  have hC := Kd.C_alloc HC1.out (.cells #[.int .i64 1, .int .u64 15046678867995290286, .slice A1 3 c1] 31)
  have hT := HT1.out.alloc (.cells #[.int .i64 1, .int .u64 15046678867995290286, .slice A1 3 c1] 31)
  have hB := below_alloc HB1.out (.cells #[.int .i64 1, .int .u64 15046678867995290286, .slice A1 3 c1] 31)
  have hS := bsz w1 (.cells #[.int .i64 1, .int .u64 15046678867995290286, .slice A1 3 c1] 31)
  clear HT1 HB1 HC1
  generalize w1.alloc (.cells #[.int .i64 1, .int .u64 15046678867995290286, .slice A1 3 c1] 31) = W1 at hP hC hT hB hS ⊢
  generalize w1.heap.size = b1 at hP hS ⊢
  refine (lottery_Recover.calls 100 _ _ [⟨3, 11⟩, ⟨2, 9⟩] 5 0 _ (C_lit (d := k47) W1 _ hS.symm ([⟨3, 11⟩, ⟨2, 9⟩] : List S47) _ 47 (k47_two _ ⟨3, 11⟩ ⟨2, 9⟩) (by decide)) (Nat.le_refl _) head_e2).mono ?_
  rintro e w2 ⟨rfl, hb2⟩
  have hbb := (below_alloc (Below.refl W1.heap.size W1) (.cells #[.int .i64 3, .int .i64 11, .int .i64 2, .int .i64 9] 47)).trans (hb2.mono (by simp))
  replace hP := pw_cell_below hbb hP
  replace hC := Kd.C_below hC hbb
  replace hT := hT.below hbb
  replace hB := hB.trans (hbb.mono hB.size)
  have HC := Aside0.mk hC
  have HT := Aside0.mk hT
  have HB := Aside0.mk hB
  have HP := Aside0.mk hP
  clear hbb hb2 hS hC hT hB hP
  go_wp2_with fail
  refine (lottery_Lots.calls 100 0 3 _ _ w2 head_e3).mono ?_
  rintro e w3 ⟨v3, rfl, hR3, hb3⟩
  obtain ⟨A3, c3, rfl, hl3, hC3⟩ := Kd.R_reads hR3
  have HC3 := Aside0.mk hC3
  have HP3 := Aside0.mk (pw_cell_below hb3 HP.out)
  have HQ3 := Aside0.mk (Kd.C_below HC.out hb3)
  have HT3 := Aside0.mk (HT.out.below hb3)
  have HB3 := Aside0.mk (HB.out.trans (hb3.mono HB.out.size))
  clear hb3 hC3 hR3 HP HC HT HB
  go_wp2_with fail
  refine (lottery_Recover.calls 100 _ _ [⟨2, 1⟩, ⟨2, 1⟩] 0 1 _ (C_lit (d := k47) w3 _ rfl ([⟨2, 1⟩, ⟨2, 1⟩] : List S47) _ 47 (k47_two _ ⟨2, 1⟩ ⟨2, 1⟩) (by decide)) (Nat.le_refl _) head_e4).mono ?_
  rintro e w4 ⟨rfl, hb4⟩
  have hbb := (below_alloc (Below.refl w3.heap.size w3) (.cells #[.int .i64 2, .int .i64 1, .int .i64 2, .int .i64 1] 47)).trans (hb4.mono (by simp))
  have HC4 := Aside0.mk (Kd.C_below HC3.out hbb)
  have HP4 := Aside0.mk (pw_cell_below hbb HP3.out)
  have HQ4 := Aside0.mk (Kd.C_below HQ3.out hbb)
  have HT4 := Aside0.mk (HT3.out.below hbb)
  have HB4 := Aside0.mk (HB3.out.trans (hbb.mono HB3.out.size))
  clear hb4 hbb HC3 HP3 HQ3 HT3 HB3
  go_wp2_with fail
  refine (lottery_Deal.calls 100 1 9 7 _ _ [] 1 _ _ _ _ w4 HT4.out (C_none _ _ _) (Nat.le_refl _) head_e5).mono ?_
  rintro e w5 ⟨v5, rfl, hR5, hb5⟩
  obtain ⟨A5, c5, rfl, hl5, hC5⟩ := Kd.R_reads hR5
  have HD5 := Aside0.mk hC5
  have HC5 := Aside0.mk (Kd.C_below HC4.out hb5)
  have HP5 := Aside0.mk (pw_cell_below hb5 HP4.out)
  have HQ5 := Aside0.mk (Kd.C_below HQ4.out hb5)
  have HT5 := Aside0.mk (HT4.out.below hb5)
  have HB5 := Aside0.mk (HB4.out.trans (hb5.mono HB4.out.size))
  clear hb5 hC5 hR5 HC4 HP4 HQ4 HT4 HB4
  obtain ⟨q0, q1, q2⟩ := cells3_new w5 (.int .i64 1) (.int .u64 2775249917122662226) (.slice A5 1 c5) 31
  go_upto_region 6 with (fail)
  have hC := Kd.C_alloc HC5.out (.cells #[.int .i64 1, .int .u64 2775249917122662226, .slice A5 1 c5] 31)
  have hD := Kd.C_alloc HD5.out (.cells #[.int .i64 1, .int .u64 2775249917122662226, .slice A5 1 c5] 31)
  have hQ := Kd.C_alloc HQ5.out (.cells #[.int .i64 1, .int .u64 2775249917122662226, .slice A5 1 c5] 31)
  have hT := HT5.out.alloc (.cells #[.int .i64 1, .int .u64 2775249917122662226, .slice A5 1 c5] 31)
  have hP := pw_cell_below (below_alloc (Below.refl w5.heap.size w5) (.cells #[.int .i64 1, .int .u64 2775249917122662226, .slice A5 1 c5] 31)) HP5.out
  have hB := below_alloc HB5.out (.cells #[.int .i64 1, .int .u64 2775249917122662226, .slice A5 1 c5] 31)
  clear HC5 HQ5 HT5 HP5 HB5 HD5
  generalize w5.alloc (.cells #[.int .i64 1, .int .u64 2775249917122662226, .slice A5 1 c5] 31) = W5 at q0 q1 q2 hP hC hD hQ hT hB ⊢
  generalize w5.heap.size = b5 at q0 q1 q2 ⊢
  have HC6 := Aside0.mk hC
  have HD6 := Aside0.mk hD
  have HQ6 := Aside0.mk hQ
  have HT6 := Aside0.mk hT
  have HP6 := Aside0.mk hP
  have HB6 := Aside0.mk hB
  clear hC hD hQ hT hP hB
  go_wp2_with fail
  have hbx := below_alloc (below_alloc (Below.refl W5.heap.size W5) (.cells #[.int .i64 1, .int .u64 2775249917122662226, .slice A5 1 c5] 31)) (.cells #[.int .i64 1, .int .i64 9, .int .i64 7] 23)
  have hr0 : Kd.C k31 ((W5.alloc (.cells #[.int .i64 1, .int .u64 2775249917122662226, .slice A5 1 c5] 31)).alloc (.cells #[.int .i64 1, .int .i64 9, .int .i64 7] 23)) (some ⟨W5.heap.size, 0, none⟩) ([⟨1, 2775249917122662226, [⟨1, 9⟩]⟩] : List S31).length [⟨1, 2775249917122662226, [⟨1, 9⟩]⟩] :=
    Kd.C_alloc (C_lit (d := k31) W5 _ rfl ([⟨1, 2775249917122662226, [⟨1, 9⟩]⟩] : List S31) _ 31 (k31_oneR _ ⟨1, 2775249917122662226, [⟨1, 9⟩]⟩ hl5 (Kd.C_alloc HD6.out _)) (by decide)) _
  have hr2 : Kd.C k23 ((W5.alloc (.cells #[.int .i64 1, .int .u64 2775249917122662226, .slice A5 1 c5] 31)).alloc (.cells #[.int .i64 1, .int .i64 9, .int .i64 7] 23)) (some ⟨W5.heap.size + 1, 0, none⟩) ([⟨1, 9, 7⟩] : List S23).length [⟨1, 9, 7⟩] :=
    C_lit (d := k23) _ _ (bsz _ _).symm ([⟨1, 9, 7⟩] : List S23) _ 23 (k23_oneR _ ⟨1, 9, 7⟩) (by decide)
  refine (lottery_Draw.calls 100 _ _ [⟨1, 2775249917122662226, [⟨1, 9⟩]⟩] 1 _ _ [⟨1, 9, 7⟩] 9 [] 0 _ ((HT6.out.alloc _).alloc _) hr0 (Nat.le_refl _) hr2 (Nat.le_refl _) head_e6).mono ?_
  rintro e w6 ⟨v6, rfl, hR6, hb6⟩
  have hbb := hbx.trans (hb6.mono hbx.size)
  obtain ⟨A6, c6, rfl, _, _⟩ := Kd.R_reads hR6
  have HC7 := Aside0.mk (Kd.C_below HC6.out hbb)
  have HD7 := Aside0.mk (Kd.C_below HD6.out hbb)
  have HP7 := Aside0.mk (pw_cell_below hbb HP6.out)
  have HQ7 := Aside0.mk (Kd.C_below HQ6.out hbb)
  have HT7 := Aside0.mk (HT6.out.below hbb)
  have HB7 := Aside0.mk (HB6.out.trans (hbb.mono HB6.out.size))
  replace q0 := pw_cell_below hbb q0
  replace q1 := pw_cell_below hbb q1
  replace q2 := pw_cell_below hbb q2
  clear hb6 hbb hbx hr0 hr2 hR6 HC6 HD6 HP6 HQ6 HT6 HB6
  go_wp2_with fail
  have hbx := below_alloc (Below.refl w6.heap.size w6) (.cells #[.int .i64 1, .int .u64 2775249917122662226, .slice A5 1 c5] 31)
  have hr0 : Kd.C k31 (w6.alloc (.cells #[.int .i64 1, .int .u64 2775249917122662226, .slice A5 1 c5] 31)) (some ⟨w6.heap.size, 0, none⟩) ([⟨1, 2775249917122662226, [⟨1, 9⟩]⟩] : List S31).length [⟨1, 2775249917122662226, [⟨1, 9⟩]⟩] :=
    C_lit (d := k31) w6 _ rfl ([⟨1, 2775249917122662226, [⟨1, 9⟩]⟩] : List S31) _ 31 (k31_oneR _ ⟨1, 2775249917122662226, [⟨1, 9⟩]⟩ hl5 (Kd.C_alloc HD7.out _)) (by decide)
  refine (lottery_Draw.calls 100 _ _ [⟨1, 2775249917122662226, [⟨1, 9⟩]⟩] 1 _ _ [] 0 [] 33 _ (HT7.out.alloc _) hr0 (Nat.le_refl _) (C_none _ _ _) (Nat.le_refl _) head_e7).mono ?_
  rintro e w7 ⟨v7, rfl, hR7, hb7⟩
  have hbb := hbx.trans (hb7.mono hbx.size)
  obtain ⟨A7, c7, rfl, _, _⟩ := Kd.R_reads hR7
  have HC8 := Aside0.mk (Kd.C_below HC7.out hbb)
  have HP8 := pw_cell_below hbb HP7.out
  have HB8 := Aside0.mk (HB7.out.trans (hbb.mono HB7.out.size))
  obtain ⟨ad1, e1, m0, m1⟩ := at_T47 (Kd.C_below HQ7.out hbb) 0 (by decide) (by decide)
  cases e1
  obtain ⟨ad2, e2, n0, n1⟩ := at_T47 (Kd.C_below HQ7.out hbb) 2 (by decide) (by decide)
  cases e2
  clear hb7 hbb hbx hr0 hR7 HC7 HD7 HP7 HQ7 HT7 HB7 q0 q1 q2
  go_upto_region 10 with (fail)
  have m0a : w7.cell? ad1 = some (.int .i64 1) := m0
  have m1a : w7.cell? ⟨ad1.block, ad1.off + 1, none⟩ = some (.int .i64 7) := m1
  have n0d : w7.cell? ⟨ad1.block, ad1.off + 4, none⟩ = some (.int .i64 3) := n0
  have n1d : w7.cell? ⟨ad1.block, ad1.off + 4 + 1, none⟩ = some (.int .i64 11) := n1
  clear m0 m1 n0 n1
  go_wp2_with fail
  have hlit : Kd.C (Kd.int .i64) (w7.alloc (.cells #[.int .i64 2, .int .i64 1, .int .i64 3] 3)) (some ⟨w7.heap.size, 0, none⟩) ([2, 1, 3] : List Int).length [2, 1, 3] :=
    C_lit (d := Kd.int .i64) w7 _ rfl ([2, 1, 3] : List Int) _ 3 (Kd.reps_scalar (enc := Value.int .i64) ([2, 1, 3] : List Int)) (by decide)
  refine (cohousingref22_Ints.calls 100 _ _ [2, 1, 3] _ _ [2, 1, 3] _ _ (Kd.C_alloc HC8.out _) hl3 hlit (Nat.le_refl _) head_e8).mono ?_
  rintro e w8 ⟨rfl, ⟨nd, rfl⟩⟩
  go_wp2
  go_ret
  exact ⟨rfl, pw_below_drewN (below_alloc HB8.out _) _⟩
end Go.Proofs.YtkghgaifgpgfkaaDoor.PL
end
