/- Lemmas and walks for lotterySecretCard_holds (part 41), without what it does not use. -/
import Derived.Test.YtkghgaifgpgfkaaDoorHS25
import Derived.Test.YtkghgaifgpgfkaaDoorHS37
import Derived.Test.YtkghgaifgpgfkaaDoorHS38
import Derived.Test.YtkghgaifgpgfkaaDoorHS40
import Derived.Deep.RegionHeld3
section
namespace Go.Proofs.YtkghgaifgpgfkaaDoor.PL
open Go.RowKit Go.Proofs.YtkghgaifgpgfkaaDoorW.PrintWords Go.Proofs.YtkghgaifgpgfkaaDoorW.PrintLast Go.Proofs.YtkghgaifgpgfkaaDoorW.PrintMore
set_option linter.unusedVariables false
set_option linter.unusedSimpArgs false
theorem R_empty47 (W : World) (base g : Nat) (hg : g = W.heap.size) (h : base ≤ W.heap.size) : Kd.R k47 47 (W.alloc (.cells #[] 47)) base (fun _ => True) (.slice (some ⟨g, 0, none⟩) 0 0) [] := by
  subst hg
  exact ⟨fun _ _ => trivial, [], ⟨rfl, .inr ⟨W.heap.size, _, _, rfl, h, heap_alloc_new W _, Nat.le_refl _, by simp [maxLen], rfl, rfl⟩⟩, Reps.none _ _⟩
theorem new_at (W : World) (o : Obj) (g : Nat) (hg : g = W.heap.size) : (W.alloc o).heap[g]? = some o := by subst hg; exact heap_alloc_new W o
theorem reads_at47 (w0 W : World) (g : Nat) (p : S47) (h : W.heap[g]? = some (.cells #[.int .i64 p.f0, .int .i64 p.f1] 47)) : ReadsRow (k47.K w0) 2 W (some ⟨g, 0, none⟩) 1 [p] := by
  refine ⟨rfl, by omega, fun _ => ⟨_, rfl, fun j q hj => ?_⟩⟩
  obtain rfl : j = 0 := by have := (List.getElem?_eq_some_iff.1 hj).1; simp at this; omega
  cases hj
  refine ⟨[.int .i64 p.f0, .int .i64 p.f1], rfl, k47_mk _ p, fun i u hi => ?_⟩
  rcases i with _ | _ | i
  · cases hi; simp [World.cell?, h, Addr.add]
  · cases hi; simp [World.cell?, h, Addr.add]
  · simp at hi
theorem keepS {w W : World} {b1 b2 : Nat} {u1 u2 : Value} (h1 : w.cell? ⟨b1, 0, none⟩ = some u1) (h2 : w.cell? ⟨b2, 0, none⟩ = some u2) (hB : Below w.heap.size w W) : W.cell? ⟨b1, 0, none⟩ = some u1 ∧ W.cell? ⟨b2, 0, none⟩ = some u2 ∧ Below w.heap.size w W :=
  ⟨(hB.cell (World.block_lt_of_cell? w _ h1)).trans h1, (hB.cell (World.block_lt_of_cell? w _ h2)).trans h2, hB⟩
set_option maxRecDepth 100000 in
set_option maxHeartbeats 4000000 in
theorem with22.calls (k : Nat) (x a : Int) (l : List S47) (A : Option Addr) (c b1 b2 : Nat) (r1 r2 : Int) (w : World) (h1 : w.cell? ⟨b1, 0, none⟩ = some (.slice A l.length c)) (h2 : w.cell? ⟨b2, 0, none⟩ = some (.int .i64 a))
    (hr : Kd.C k47 w A l.length l) (hm : l.length * 16 ≤ 140737488351232) (h : lottery_Recover.f k (l ++ [⟨a, x⟩]) = some (r1, r2)) :
    Calls Tryd.prog 22 #[.int .i64 x, .pointer (some ⟨b1, 0, none⟩), .pointer (some ⟨b2, 0, none⟩)] w fun e w' => e = .returned (.tuple #[.int .i64 r1, .int .i64 r2]) ∧ Below w.heap.size w w' := by
  have HR := Aside0.mk hr
  have H := Aside0.mk h
  have hb1 := World.block_lt_of_cell? w _ h1
  have hb2 := World.block_lt_of_cell? w _ h2
  clear hr h
  go_enter Tryd.func22, Tryd.ntmps22
  go_wp2_with fail
  go_region_held3 (fun W => W.cell? ⟨b1, 0, none⟩ = some (.slice A l.length c) ∧ W.cell? ⟨b2, 0, none⟩ = some (.int .i64 a) ∧ Below w.heap.size w W) ((refine keepS h1 h2 ?_; repeat (first | assumption | exact Below.refl _ _ | (with_reducible refine below_drew ?_) | (with_reducible refine below_alloc ?_ _)))) (first
    | (have hHd := ‹_ ∧ _ ∧ Below w.heap.size w _›; refine Kd.R_append_rows_step k47 (w0 := w) w.heap.size ?hw (.tmp 6) (.tmp 7) 25 47 (.agg #[.int .i64 0, .int .i64 0]) 16 rfl Tryd.underlying25 info47 rfl ?h00 ?h01 (.slice (some ⟨_, 0, none⟩) 0 0) [] l A l.length c (fun _ => True) (fun _ => False) rfl rfl ?aO (Rr := k47.K w) ?aR ?aK (fun _ hk => hk.elim) (fun _ _ => trivial) ?aB ?aS ?aL ?_; (case hw => simp [Region.wanted]); (case h00 => decide); (case h01 => decide); (case aO => repeat (first | exact R_empty47 _ _ _ (by simp) (by simp) | (with_reducible refine Kd.R_drew ?_) | (with_reducible refine Kd.R_alloc ?_ _))); (case aR => exact Go.Proofs.YtkghgaifgpgfkaaDoorW.PrintWords.ReadsRow.imp_ HR.out hHd.2.2 (fun _ _ hp => hp)); (case aK => exact (fun _ _ h => by rw [k47_open h]; exact k47_mkM _ _ _ _)); (case aB => exact hHd.2.2); (case aS => exact hHd.2.2.size); (case aL => simp; omega); intro v8 w8 ho8 hb8 hg8 hat8)
    | (have hHd := ‹_ ∧ _ ∧ Below w.heap.size w _›; refine Kd.R_append_rows_step k47 (w0 := w) w.heap.size ?hw (.tmp 8) (.tmp 12) 25 47 (.agg #[.int .i64 0, .int .i64 0]) 16 rfl Tryd.underlying25 info47 rfl ?h00 ?h01 v8 ([] ++ l) [⟨a, x⟩] _ 1 1 (fun _ => True) (fun _ => False) rfl rfl ?aO (Rr := k47.K w) ?aR ?aK (fun _ hk => hk.elim) (fun _ _ => trivial) ?aB ?aS ?aL ?_; (case hw => simp [Region.wanted]); (case h00 => decide); (case h01 => decide); (case aO => repeat (first | assumption | (with_reducible refine Kd.R_drew ?_) | (with_reducible refine Kd.R_alloc ?_ _))); (case aR => first | exact reads_at47 w _ _ ⟨a, x⟩ (new_at w8 _ _ (by simp)) | exact reads_at47 w _ _ ⟨a, x⟩ ((hg8.block _ (by first | (simp; done) | (simp; omega)) (by simp [Value.ownBlock])).trans (new_at (w.alloc _) _ _ (by simp))) | exact reads_at47 w _ _ ⟨a, x⟩ ((hg8.block _ (by first | (simp; done) | (simp; omega)) (by simp [Value.ownBlock])).trans ((Below.heap_alloc (w.alloc _) _ _ (by simp)).trans (new_at w _ _ (by simp))))); (case aK => exact (fun _ _ h => by rw [k47_open h]; exact k47_mkM _ _ _ _)); (case aB => exact hHd.2.2); (case aS => exact hHd.2.2.size); (case aL => simp; omega); intro v9 w9 ho9 hb9 hg9 hat9; obtain ⟨A9, c9, rfl, hc9, hC9⟩ := Kd.R_reads ho9)
    | (go_at_call 14; rw [show l.length + 1 = ([] ++ l ++ [(⟨a, x⟩ : S47)]).length from by simp]; (with_reducible refine (lottery_Recover.calls k A9 c9 ([] ++ l ++ [⟨a, x⟩]) r1 r2 _ ?cC ?cl H.out).mono ?_); (case cC => first | exact hC9 | exact Kd.C_drew hC9); (case cl => exact hc9); rintro e w10 ⟨rfl, hb10⟩; have hz10 := hb9.trans (hb10.mono hb9.size))
    )
  all_goals
    go_wp2
    go_ret2
    refine ⟨rfl, ?_⟩
    first | assumption | exact below_drew hz10
end Go.Proofs.YtkghgaifgpgfkaaDoor.PL
end
