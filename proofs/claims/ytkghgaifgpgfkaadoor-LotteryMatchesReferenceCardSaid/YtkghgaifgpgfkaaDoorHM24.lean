/- Lemmas and walks for lotteryMatchesReferenceCard_holds (part 24), without what it does not use. -/
import Derived.RangeFuncNested
import Derived.RangeFuncBound
import Derived.RangeFuncCalls
import Derived.RangeFuncLeaves
import Derived.RangeFuncFrom
import Derived.Shelf.Abstract
import Derived.Shelf.RegionOpen
import Derived.OwnWalkIn
import Derived.TacticsInMore
import Derived.LoopNIn
import Derived.LoopIn
import Derived.Test.YtkghgaifgpgfkaaDoorHM16
section
namespace Go.Proofs.YtkghgaifgpgfkaaDoor.PL
open Go.RowKit Go.Shelf Go.Proofs.YtkghgaifgpgfkaaDoorW.PrintWords Go.Proofs.YtkghgaifgpgfkaaDoorW.PrintLast Go.Proofs.YtkghgaifgpgfkaaDoorW.PrintMore
set_option linter.unusedVariables false
set_option linter.unusedSimpArgs false
attribute [local go_sem] Oper.semAt_some
theorem cell_new_l (W : World) (v : Value) (t : TypeId) : (W.alloc (.cells #[v] t)).cell? ⟨W.heap.size, 0, none⟩ = some v ∧ (W.alloc (.cells #[v] t)).frozen? ⟨W.heap.size, 0, none⟩ = false := by
  have h := World.alloc_heap_new W (.cells #[v] t)
  generalize W.alloc (.cells #[v] t) = W' at h ⊢
  constructor <;> simp [World.cell?, World.frozen?, h]
theorem cell_alloc_l {W : World} {a : Addr} {v : Value} (o : Obj) (h : W.cell? a = some v) : (W.alloc o).cell? a = some v := cell_kept h (World.grownBy_alloc W o none) (fun r e => by cases e)
theorem frozen_alloc_l {W : World} {a : Addr} {v : Value} (o : Obj) (h : W.cell? a = some v) (hf : W.frozen? a = false) : (W.alloc o).frozen? a = false := (frozen_kept h (World.grownBy_alloc W o none) (fun r e => by cases e)).trans hf
theorem keepsOthers_drewN (W : World) (m : Nat) : KeepsOthers W (W.drewN m) := ⟨Nat.le_refl _, fun _ _ h _ => h⟩
def bk (zs : List Int) (k : Nat) : List (Int × Int) := (List.range (zs.length - k)).map fun j => (((zs.length - 1 - j : Nat) : Int), rd zs ((zs.length - 1 - j : Nat) : Int))
theorem bk_succ (zs : List Int) (m : Nat) (h : m < zs.length) : bk zs m = bk zs (m + 1) ++ [((m : Int), rd zs (m : Int))] := by
  unfold bk
  have e : zs.length - m = (zs.length - (m + 1)) + 1 := by omega
  rw [e, List.range_succ, List.map_append]
  have e2 : zs.length - 1 - (zs.length - (m + 1)) = m := by omega
  simp [e2]
theorem bk_length (zs : List Int) (k : Nat) : (bk zs k).length = zs.length - k := by simp [bk]
def KpB (n₀ Bs : Nat) (W W' : World) : Prop := Below n₀ W W' ∧ W'.heap[Bs]? = W.heap[Bs]?
theorem KpB.t {n₀ Bs : Nat} {A B C : World} (h : KpB n₀ Bs A B) (k : KpB n₀ Bs B C) : KpB n₀ Bs A C := ⟨h.1.trans k.1, k.2.trans h.2⟩
theorem KpB.b {n₀ Bs : Nat} {w : World} (hn : n₀ ≤ w.heap.size) (hB : Bs < w.heap.size) (W : World) (l : Nat) (o o' : Obj) (hl : w.heap.size ≤ l) (h : W.heap[l]? = some o) (a : o.isCells = false) (b : o.isWalk = false) : KpB n₀ Bs W (W.putObj l o') :=
  ⟨belowK_b hn W l o o' hl h a b, (grownBy_putObj' W l o').block Bs (by have := (Array.getElem?_eq_some_iff.1 h).1; omega) (by intro e; cases e; omega)⟩
set_option maxRecDepth 100000 in
set_option maxHeartbeats 2000000 in
theorem back1_in (n : Nat) (hn : 1 ≤ n) (l Bs c : Nat) (A : Option Addr) (zs : List Int) (w0 : World) (hr : Kd.C (Kd.int .i64) w0 A zs.length zs) (J Jx : List (Int × Int) → World → Prop)
    (hY : ∀ pre x W, J pre W → pre.length < zs.length → YieldAt Fence.wide (n - 1) Tryd.prog l #[.int .i64 x.1, .int .i64 x.2] W fun e W' =>
      (e = .returned (.bool true) ∧ J (pre ++ [x]) W' ∧ KpB w0.heap.size Bs W W') ∨ (e = .returned (.bool false) ∧ Jx (pre ++ [x]) W'))
    (W : World) (hW : Below w0.heap.size w0 W) (hBs : W.cell? ⟨Bs, 0, none⟩ = some (.slice A zs.length c)) (h0 : J [] W) :
    CallsIn Fence.wide n Tryd.prog 63 #[.func (.yield l) #[] #[], .pointer (some ⟨Bs, 0, none⟩)] W fun e W' => (∃ v, e = .returned v) ∧
      ((∃ ys, ys = bk zs 0 ∧ J ys W') ∨ (∃ pre, True ∧ Jx pre W')) := by
  have HR := Aside0.mk hr
  have hmx := Kd.C_max hr
  clear hr
  refine callsIn_of_wp Tryd.func63 rfl trivial ?_ rfl
  simp only [Tryd.ntmps63, List.size_toArray, List.length_cons, List.length_nil, Nat.reduceAdd, Nat.reduceSub, Array.replicate_succ, Array.replicate_zero, List.push_toArray, List.append_toArray, List.nil_append, List.cons_append]
  gi_wp2
  gi_loopw [3] (fun i wr => ∃ k : Nat, k ≤ zs.length ∧ i = .int .i64 ((k : Int) - 1) ∧ J (bk zs k) wr ∧ KpB w0.heap.size Bs W wr)
    (fun i _ => (intOf i + 1).toNat)
  case atStart => exact ⟨zs.length, Nat.le_refl _, rfl, by simpa [bk] using h0, Below.refl _ _, rfl⟩
  case round =>
    obtain ⟨k, hk, rfl, hJs, hnx⟩ := hrel
    have hBr : wr.cell? ⟨Bs, 0, none⟩ = some (.slice A zs.length c) := (World.cell?_of_block (w := W) hnx.2).trans hBs
    have HN := Aside0.mk hnx
    clear hnx
    cases k with
    | zero =>
      gi_wp2
      go_end0
      exact ⟨⟨_, rfl⟩, .inl ⟨_, rfl, hJs⟩⟩
    | succ m =>
      have em : (((m + 1 : Nat) : Int) - 1) = (m : Int) := by omega
      rw [em]
      clear em
      obtain ⟨ad, e1, hx0⟩ := Kd.at_int (Kd.C_below HR.out (hW.trans HN.out.1)) (m : Int) (by omega) (by omega)
      cases e1
      rw [Int.toNat_natCast] at hx0
      obtain ⟨fn, tmps, assign, body, hy, hR⟩ := hY _ ((m : Int), rd zs (m : Int)) wr hJs (by rw [bk_length]; omega)
      dsimp only at hy
      gi_wp2
      refine hR.mono ?_
      rintro e W3 (⟨rfl, hJ3, hk3⟩ | ⟨rfl, hJx3⟩)
      · gi_wp2
        go_roundw
        case rel => exact ⟨m, by omega, by simp, by rw [bk_succ zs m (by omega)]; exact hJ3, HN.out.t hk3⟩
        case measure => simp [intOf]
      · gi_wp2
        refine bodyPost_ret (results_none rfl _ _ _) rfl ?_
        exact ⟨⟨_, rfl⟩, .inr ⟨_, trivial, hJx3⟩⟩
set_option maxHeartbeats 1000000 in
theorem backward_in (n : Nat) (a : Option Addr) (len cap : Nat) (w : World) :
    CallsIn Fence.wide n Tryd.prog 52 #[.slice a len cap] w fun e w' => e = .returned (.func (.func 63) #[] #[.pointer (some ⟨w.heap.size, 0, none⟩)]) ∧ w' = w.alloc (.cells #[.slice a len cap] 68) := by
  refine callsIn_of_wp Tryd.func52 rfl trivial ?_ rfl
  simp only [Tryd.ntmps52, List.size_toArray, List.length_cons, List.length_nil, Nat.reduceAdd, Nat.reduceSub, Array.replicate_succ, Array.replicate_zero, List.push_toArray, List.append_toArray, List.nil_append, List.cons_append]
  gi_wp2
  go_ret
  exact ⟨rfl, rfl⟩
theorem back_stops (n : Nat) (hn : 1 ≤ n) (Bs c : Nat) (A : Option Addr) (zs : List Int) (w0 w : World) (hr : Kd.C (Kd.int .i64) w0 A zs.length zs) (hb : Below w0.heap.size w0 w) (hBs : w.cell? ⟨Bs, 0, none⟩ = some (.slice A zs.length c)) :
    SeqStopsK Fence.wide n Tryd.prog 63 #[.pointer (some ⟨Bs, 0, none⟩)] (fun x : Int × Int => #[Value.int .i64 x.1, Value.int .i64 x.2]) (KpB w0.heap.size Bs) (fun ys => ys = bk zs 0) (fun _ => True) zs.length w := fun l J Jx W hW _ _ hY h0 =>
  (back1_in n hn l Bs c A zs w0 hr J Jx hY W (hb.trans (hW.mono hb.size)) ((hW.cell (p := ⟨Bs, 0, none⟩) (World.block_lt_of_cell? w _ hBs)).trans hBs) h0).mono fun e W' h => h
def horner (x : Int) (l : List (Int × Int)) : Int := l.foldl (fun a p => plusW (timesW a x) p.2) 0
theorem horner_snoc (x : Int) (l : List (Int × Int)) (p : Int × Int) : horner x (l ++ [p]) = plusW (timesW (horner x l) x) p.2 := by simp [horner, List.foldl_append]
def lottery_polynomial_at.f (l0 : List Int) (a1 : Int) : Option (Int) := some (horner a1 (bk l0 0))
set_option maxRecDepth 100000 in
set_option maxHeartbeats 2000000 in
theorem lottery_polynomial_at.calls (A0 : Option Addr) (c0_ : Nat) (l0 : List Int) (a1 : Int) (r : Int) (w : World) (hr0 : Kd.C (Kd.int .i64) w A0 l0.length l0) (hc0 : l0.length ≤ c0_) (h : lottery_polynomial_at.f l0 a1 = some r) :
    Calls Tryd.prog 32 #[.slice A0 l0.length c0_, .int .i64 a1] w fun e w' => e = .returned (.int .i64 r) ∧ Below w.heap.size w w' := by
  have HR := Aside0.mk hr0
  have hmx := Kd.C_max hr0
  clear hr0
  obtain rfl := Option.some.inj h
  clear h
  refine (callsIn_wide (n := 3)).1 ?_
  refine callsIn_of_wp_marks Tryd.func32 rfl trivial ?_ rfl
  simp only [Tryd.ntmps32, List.size_toArray, List.length_cons, List.length_nil, Nat.reduceAdd, Nat.reduceSub, Array.replicate_succ, Array.replicate_zero, List.push_toArray, List.append_toArray, List.nil_append, List.cons_append]
  gi_wp2_with (refine ⟨trivial, ?_⟩; gi_at_call 52; refine (backward_in _ _ _ _ _).mono ?_; rintro e w' ⟨rfl, rfl⟩)
  have c0 := cell_new_l w (.int .i64 a1) 66
  have c1 := cell_new_l (w.alloc (.cells #[.int .i64 a1] 66)) (.int .i64 0) 66
  have c2 := cell_new_l ((w.alloc (.cells #[.int .i64 a1] 66)).alloc (.cells #[.int .i64 0] 66)) (.slice A0 l0.length c0_) 68
  simp only [World.size_alloc] at c1 c2
  have hB0 : Below w.heap.size w (((w.alloc (.cells #[.int .i64 a1] 66)).alloc (.cells #[.int .i64 0] 66)).alloc (.cells #[.slice A0 l0.length c0_] 68)) := (((Below.refl _ w).alloc (Nat.le_refl _) _).alloc (by simp) _).alloc (by simp; omega) _
  refine wpIn_rangeFunc_ownF rfl (by omega) (gf := 63) (lb := #[.pointer (some ⟨w.heap.size + 1 + 1, 0, none⟩)]) rfl trivial (enters_of Tryd.func63 (by kernel_rfl) rfl)
    (back_stops 2 (by omega) (w.heap.size + 1 + 1) c0_ A0 l0 w _ HR.out hB0 c2.1) KpB.t (KpB.b (by simp; omega) (by simp)) (Below.refl _ _) (fun _ => rfl)
    (fun pre W => (W.cell? ⟨w.heap.size, 0, none⟩ = some (.int .i64 a1) ∧ W.cell? ⟨w.heap.size + 1, 0, none⟩ = some (.int .i64 (horner a1 pre)) ∧ W.frozen? ⟨w.heap.size + 1, 0, none⟩ = false) ∧ Below w.heap.size w W)
    (fun _ _ _ => False)
    (OwnFrom.and (Own.from (fun s A B row hs hg hr => ⟨cell_kept hs.1 hg hr, cell_kept hs.2.1 hg hr, (frozen_kept hs.2.1 hg hr).trans hs.2.2⟩) _) (ownFrom_below (Nat.le_refl _) (by simp; omega)))
    (fun _ _ _ _ _ hs _ _ => hs)
    ⟨⟨cell_alloc_l _ (cell_alloc_l _ c0.1), cell_alloc_l _ c1.1, frozen_alloc_l _ c1.1 c1.2⟩, hB0⟩
    (fun x => { tmps := #[.slice A0 l0.length c0_, .int .i64 a1, undef, .pointer (some ⟨w.heap.size, 0, none⟩), .int .i64 0, .pointer (some ⟨w.heap.size + 1, 0, none⟩), undef, .int .i64 x.2, .slice A0 l0.length c0_, .func (.func 63) #[] #[.pointer (some ⟨w.heap.size + 1 + 1, 0, none⟩)], .int .i64 x.1, .int .i64 x.2, undef, undef, undef, undef, undef, undef], defers := [] }) ?assign ?body ?done ?stop
  case assign =>
    intro l x W K hK
    gi_wp2
    exact hK
  case body =>
    rintro l pre x W ⟨⟨hx, hc, hf⟩, hB⟩ _
    gi_wp2_with (first | (refine ⟨trivial, ?_⟩; gi_at_call 45; refine (CallsIn.inRound l (callsIn_wide.2 (times_calls _ _ _))).mono ?_; rintro e w' ⟨rfl, ⟨nd, rfl⟩⟩) | (refine ⟨trivial, ?_⟩; gi_at_call 40; refine (CallsIn.inRound l (callsIn_wide.2 (plus_calls _ _ _))).mono ?_; rintro e w' ⟨rfl, ⟨nd, rfl⟩⟩))
    have hx' := (World.cell?_of_block (w := W) (a := ⟨w.heap.size, 0, none⟩) (Below.heap_setCell W ⟨w.heap.size + 1, 0, none⟩ (.int .i64 (plusW (timesW (horner a1 pre) a1) x.2)) w.heap.size (by simp))).trans hx
    refine ⟨(keepsOthers_drewN W _).trans (KeepsOthers.setCell _ _ _), ⟨(pw_below_drewN (Below.refl _ _) _).setCell (p := ⟨w.heap.size + 1, 0, none⟩) (by simp) _, Below.heap_setCell W _ _ _ (by simp)⟩, ⟨hx', ?_, ?_⟩, (pw_below_drewN hB _).setCell (p := ⟨w.heap.size + 1, 0, none⟩) (by simp) _⟩
    · rw [horner_snoc]
      exact World.cell?_setCell_same' (W.drewN _) _ _ (by show (W.cell? _).isSome = true; rw [hc]; rfl)
    · rw [World.frozen?_setCell]; exact hf
  case done =>
    rintro D ys W hD rfl ⟨⟨_, hc, _⟩, hB⟩ hK
    gi_wp2
    refine ⟨by simp, .inl ⟨_, _, rfl, run_takeDeferred hK, ?_⟩⟩
    exact ⟨_, results_tmp rfl _ _ _, rfl, hB.trans (belowK_b (w := w) (Nat.le_refl _) W D _ _ (by simp at hD; omega) hK rfl rfl)⟩
  case stop =>
    rintro D c pre W _ _ h _
    exact h.elim
end Go.Proofs.YtkghgaifgpgfkaaDoor.PL
end
