/- Lemmas and walks for lotteryMatchesReferenceCard_holds (part 27), without what it does not use. -/
import Derived.Test.YtkghgaifgpgfkaaDoorHM23
import Derived.Test.YtkghgaifgpgfkaaDoorHM17
import Derived.Sort.OwnSortedInts
import Derived.Test.YtkghgaifgpgfkaaDoorHM26
section
namespace Go.Proofs.YtkghgaifgpgfkaaDoor.PL
open Go.RowKit Go.Proofs.YtkghgaifgpgfkaaDoorW.PrintWords Go.Proofs.YtkghgaifgpgfkaaDoorW.PrintLast Go.Proofs.YtkghgaifgpgfkaaDoorW.PrintMore
set_option linter.unusedVariables false
set_option linter.unusedSimpArgs false
theorem isResidue_two (x y : Int) : lottery_isResidue.f [x, y] = some (isRes x && isRes y) := by simp [lottery_isResidue.f]
def v23 (s : S23) : Value := .agg #[.int .i64 s.f0, .int .i64 s.f1, .int .i64 s.f2]
def byF : List S23 → Int → Option S23
  | [], _ => none
  | s :: l, x => match byF l x with
    | some t => some t
    | none => if x = s.f0 then some s else none
def byM (l : List S23) : Int → Option Value := fun x => (byF l x).map v23
theorem byF_snoc (l : List S23) (s : S23) (x : Int) : byF (l ++ [s]) x = if x = s.f0 then some s else byF l x := by
  induction l with
  | nil => simp [byF]
  | cons t l ih =>
    simp only [List.cons_append, byF, ih]
    by_cases h : x = s.f0 <;> simp [h]
theorem byM_put (l : List S23) (s : S23) : putF (byM l) s.f0 (v23 s) = byM (l ++ [s]) := by
  funext x
  simp only [putF, byM, byF_snoc]
  by_cases h : x = s.f0 <;> simp [h]
def secOK (n : Int) (s : S23) : Bool := inR s.f0 1 n && (isRes s.f1 && isRes s.f2)
def openOK (n : Int) : List S23 → List S23 → Bool
  | _, [] => true
  | seen, s :: l => !(byF seen s.f0).isSome && (secOK n s && openOK n (seen ++ [s]) l)
theorem rd23_at (l : List S23) (i : Nat) (h : i < l.length) : rd_T23 l (i : Int) = l[i] := by simp [rd_T23, List.getD_eq_getElem?_getD, List.getElem?_eq_getElem h]
theorem rd31_at (l : List S31) (i : Nat) (h : i < l.length) : rd_T31 l (i : Int) = l[i] := by simp [rd_T31, List.getD_eq_getElem?_getD, List.getElem?_eq_getElem h]
theorem openOK_at (n : Int) (l : List S23) (i : Nat) (h : i < l.length) : openOK n (l.take i) (l.drop i) = (!(byF (l.take i) (rd_T23 l i).f0).isSome && (secOK n (rd_T23 l i) && openOK n (l.take (i + 1)) (l.drop (i + 1)))) := by
  rw [List.drop_eq_getElem_cons h, List.take_succ_eq_append_getElem h, rd23_at l i h]; rfl
structure DrawSt where
  seed : Int
  right : Int
  cheats : List Int
def addC (ch : List Int) (x : Int) : List Int := if ch.contains x = true then ch else ch ++ [x]
theorem addC_put (ch : List Int) (x : Int) : putF (seenF ch) x (.bool true) = seenF (addC ch x) := by
  unfold addC
  by_cases h : ch.contains x = true
  · rw [if_pos h]
    funext y
    by_cases e : y = x
    · subst e; simp only [putF, seenF, if_pos h, if_true]
    · simp [putF, e]
  · rw [if_neg h, seenF_put]
theorem addC_nodup (ch : List Int) (x : Int) (h : ch.Nodup) : (addC ch x).Nodup := by
  unfold addC
  by_cases hc : ch.contains x = true
  · rw [if_pos hc]; exact h
  · rw [if_neg hc, List.nodup_append]
    refine ⟨h, by simp, ?_⟩
    intro a ha b hb e
    simp at hb
    subst e hb
    exact hc (by simpa using ha)
def drawStep (k : Nat) (need : Int) (opened : List S23) (st : DrawSt) (p : S31) : Option DrawSt :=
  (lottery_value.f k p.f0 p.f1 p.f2 need).bind fun v =>
    match byF opened p.f0 with
    | none => some ⟨plusW st.seed v.1, st.right, if v.2 = true then st.cheats else addC st.cheats p.f0⟩
    | some s => (lottery_sum.f s.f0 s.f1 s.f2).bind fun h =>
      if (h == p.f1) = true then some ⟨plusW st.seed v.1, st.right + 1, if (v.2 && s.f1 == v.1) = true then st.cheats else addC st.cheats p.f0⟩
      else some ⟨plusW st.seed v.1, st.right, addC st.cheats p.f0⟩
def drawAll (k : Nat) (need : Int) (opened : List S23) : DrawSt → List S31 → Option DrawSt
  | st, [] => some st
  | st, p :: l => (drawStep k need opened st p).bind fun st => drawAll k need opened st l
def lottery_Draw.f (k : Nat) (l0 : List (S31)) (a1 : Int) (l2 : List (S23)) : Option (Int × List Int × Int) :=
  if (decide (l0.length < 17592186044416) && (l0.all (fun p => i64B p.f0) && l2.all (fun s => i64B s.f0))) = true then (lottery_pledges.f k l0).bind fun ok =>
    if (ok && inR a1 1 (l0.length : Int)) = true then
      if openOK (l0.length : Int) [] l2 = true then
        (drawAll k a1 l2 ⟨0, 0, []⟩ l0).bind fun st => if st.right < a1 then some (0, [], 33) else some (st.seed, st.cheats.mergeSort fun x y => decide (x ≤ y), 0)
      else some (0, [], 1)
    else some (0, [], 1)
  else none
theorem cells3_new (W : World) (a b c : Value) (t : TypeId) : (W.alloc (.cells #[a, b, c] t)).cell? ⟨W.heap.size, 0, none⟩ = some a ∧ (W.alloc (.cells #[a, b, c] t)).cell? ⟨W.heap.size, 1, none⟩ = some b ∧ (W.alloc (.cells #[a, b, c] t)).cell? ⟨W.heap.size, 2, none⟩ = some c := by
  have h := heap_alloc_new W (.cells #[a, b, c] t)
  generalize W.alloc (.cells #[a, b, c] t) = W' at h ⊢
  refine ⟨?_, ?_, ?_⟩ <;> simp [World.cell?, h]
theorem some3 {α β γ : Type} {a a' : α} {b b' : β} {c c' : γ} (h : some (a, b, c) = some (a', b', c')) : a = a' ∧ b = b' ∧ c = c' := by injection h with h; injection h with h1 h2; injection h2 with h2 h3; exact ⟨h1, h2, h3⟩
theorem C_two (W : World) (x y : Int) (t : TypeId) (g : Nat) (hg : g = W.heap.size) : Kd.C (Kd.int .i64) (W.alloc (.cells #[.int .i64 x, .int .i64 y] t)) (some ⟨g, 0, none⟩) [x, y].length [x, y] := by
  subst hg
  refine Kd.C_of_reads (d := (0 : Int)) (h1 := fun _ => rfl) ⟨rfl, by simp, fun _ => ⟨_, rfl, fun j hj => ?_⟩⟩
  have h := heap_alloc_new W (.cells #[.int .i64 x, .int .i64 y] t)
  generalize W.alloc (.cells #[.int .i64 x, .int .i64 y] t) = W' at h ⊢
  rw [add_plain]
  have hj2 : j = 0 ∨ j = 1 := by simp at hj; omega
  rcases hj2 with rfl | rfl <;> simp [World.cell?, h]
def lookB (l : List S23) (x : Int) : S23 := (byF l x).getD ⟨0, 0, 0⟩
theorem byM_getD (l : List S23) (x : Int) : (byM l x).getD (.agg #[.int .i64 0, .int .i64 0, .int .i64 0]) = v23 (lookB l x) := by
  unfold byM lookB
  cases byF l x <;> rfl
theorem byM_some (l : List S23) (x : Int) : (byM l x).isSome = (byF l x).isSome := by simp [byM]
structure NamesAt (ch xs : List Int) (left : Int → Bool) : Prop where
  nodup : xs.Nodup
  wf : ∀ x ∈ xs, (Lit.int .i64 x).wf = true
  mem : ∀ x, (Lit.int .i64 x).wf = true → ((left x = true ∨ x ∈ xs) ↔ x ∈ ch)
  apart : ∀ x, (Lit.int .i64 x).wf = true → left x = true → x ∉ xs
theorem NamesAt.start (ch : List Int) : NamesAt ch [] (fun x => (seenF ch x).isSome) where
  nodup := List.nodup_nil
  wf := by simp
  mem x _ := by simp [seenF]
  apart := by simp
theorem NamesAt.step {ch xs : List Int} {left : Int → Bool} (h : NamesAt ch xs left) {x : Int} (hx : (Lit.int .i64 x).wf = true) (hl : left x = true) : NamesAt ch (xs ++ [x]) (fun z => left z && !decide (z = x)) where
  nodup := by
    rw [List.nodup_append]
    refine ⟨h.nodup, by simp, ?_⟩
    intro a ha b hb e
    simp at hb
    subst e hb
    exact h.apart _ hx hl ha
  wf y hy := by
    rcases List.mem_append.1 hy with hy | hy
    · exact h.wf y hy
    · rw [List.mem_singleton.1 hy]; exact hx
  mem y hy := by
    rw [← h.mem y hy]
    by_cases e : y = x
    · subst e; simp [hl]
    · simp [e]
  apart y hy hly := by
    simp only [Bool.and_eq_true, Bool.not_eq_true', decide_eq_false_iff_not] at hly
    have := h.apart y hy hly.1
    simp [this, hly.2]
theorem NamesAt.perm {ch xs : List Int} {left : Int → Bool} (h : NamesAt ch xs left) (hl : ∀ x, (Lit.int .i64 x).wf = true → left x = false) (hn : ch.Nodup) (hw : ∀ x ∈ ch, (Lit.int .i64 x).wf = true) : xs.Perm ch := by
  refine (List.perm_ext_iff_of_nodup h.nodup hn).2 fun x => ⟨fun hx => (h.mem x (h.wf x hx)).1 (.inr hx), fun hx => ?_⟩
  rcases (h.mem x (hw x hx)).2 hx with hh | hh
  · rw [hl x (hw x hx)] at hh; cases hh
  · exact hh
theorem sort_of_perm {l l' : List Int} (h : l.Perm l') : l.mergeSort (fun x y => decide (x ≤ y)) = l'.mergeSort (fun x y => decide (x ≤ y)) := by
  have tr : ∀ a b c : Int, decide (a ≤ b) = true → decide (b ≤ c) = true → decide (a ≤ c) = true := fun a b c h1 h2 => by simp only [decide_eq_true_eq] at *; omega
  have tot : ∀ a b : Int, (decide (a ≤ b) || decide (b ≤ a)) = true := fun a b => by simp only [Bool.or_eq_true, decide_eq_true_eq]; omega
  refine List.Perm.eq_of_pairwise (le := fun a b => decide (a ≤ b) = true) (fun a b _ _ h1 h2 => ?_) (List.pairwise_mergeSort tr tot l) (List.pairwise_mergeSort tr tot l') (((List.mergeSort_perm l _).trans h).trans (List.mergeSort_perm l' _).symm)
  simp only [decide_eq_true_eq] at h1 h2
  omega
theorem drawStep_wf {k : Nat} {need : Int} {opened : List S23} {st st' : DrawSt} {p : S31} (h : drawStep k need opened st p = some st') : ∀ x ∈ st'.cheats, x ∈ st.cheats ∨ x = p.f0 := by
  have hadd : ∀ x ∈ addC st.cheats p.f0, x ∈ st.cheats ∨ x = p.f0 := by
    intro x hx
    unfold addC at hx
    split at hx
    · exact .inl hx
    · simpa using hx
  unfold drawStep at h
  obtain ⟨v, _, h⟩ := Option.bind_eq_some_iff.1 h
  intro x hx
  cases hb : byF opened p.f0 with
  | none =>
    simp only [hb] at h
    cases h
    simp only at hx
    split at hx
    · exact .inl hx
    · exact hadd x hx
  | some s =>
    simp only [hb] at h
    obtain ⟨g, _, h⟩ := Option.bind_eq_some_iff.1 h
    split at h
    · cases h
      simp only at hx
      split at hx
      · exact .inl hx
      · exact hadd x hx
    · cases h
      exact hadd x hx
theorem drawAll_sub {k : Nat} {need : Int} {opened : List S23} : ∀ {l : List S31} {st st' : DrawSt}, drawAll k need opened st l = some st' → ∀ x ∈ st'.cheats, x ∈ st.cheats ∨ ∃ p ∈ l, x = p.f0
  | [], st, st', h, x, hx => by cases h; exact .inl hx
  | p :: l, st, st', h, x, hx => by
    unfold drawAll at h
    obtain ⟨s1, h1, h2⟩ := Option.bind_eq_some_iff.1 h
    rcases drawAll_sub h2 x hx with h3 | ⟨q, hq, e⟩
    · rcases drawStep_wf h1 x h3 with h4 | h4
      · exact .inl h4
      · exact .inr ⟨p, List.mem_cons_self, h4⟩
    · exact .inr ⟨q, List.mem_cons_of_mem _ hq, e⟩
theorem drawAll_wf {k : Nat} {need : Int} {opened : List S23} {l : List S31} {st' : DrawSt} (hw : l.all (fun p => i64B p.f0) = true) (h : drawAll k need opened ⟨0, 0, []⟩ l = some st') : ∀ x ∈ st'.cheats, (Lit.int .i64 x).wf = true := by
  intro x hx
  rcases drawAll_sub h x hx with h1 | ⟨p, hp, rfl⟩
  · cases h1
  · have := List.all_eq_true.1 hw p hp
    simp only [i64B, Bool.and_eq_true, decide_eq_true_eq] at this
    exact WalkArith.wf_i64 (by omega)
set_option maxRecDepth 100000 in
set_option maxHeartbeats 8000000 in
theorem lottery_Draw.calls (k : Nat) (A0 : Option Addr) (c0 : Nat) (l0 : List (S31)) (a1 : Int) (A2 : Option Addr) (c2 : Nat) (l2 : List (S23)) (r1 : Int) (r2 : List Int) (r3 : Int) (w : World) (hT : TabW w) (hr0 : Kd.C k31 w A0 l0.length l0) (hc0 : l0.length ≤ c0) (hr2 : Kd.C k23 w A2 l2.length l2) (hc2 : l2.length ≤ c2) (h : lottery_Draw.f k l0 a1 l2 = some (r1, r2, r3)) :
    Calls Tryd.prog 16 #[.slice A0 l0.length c0, .int .i64 a1, .slice A2 l2.length c2] w fun e w' => ∃ v1_ : Value, e = .returned (.tuple #[.int .i64 r1, v1_, .int .i64 r3]) ∧ Kd.R (Kd.int .i64) 3 w' w.heap.size (fun _ => True) v1_ r2 ∧ Below w.heap.size w w' := by
  have HR0 := Aside0.mk hr0
  have HC0 := Aside0.mk hc0
  have HR2 := Aside0.mk hr2
  have HTAB := Aside0.mk hT
  have hm0 := Kd.C_max hr0
  have hm2 := Kd.C_max hr2
  clear hr0 hc0 hr2 hc2 hT
  have hmm := @run_makeMap Tryd.prog
  have hu23 := Tryd.underlying23
  have hu31 := Tryd.underlying31
  unfold lottery_Draw.f at h
  cases hwf : (decide (l0.length < 17592186044416) && (l0.all (fun p => i64B p.f0) && l2.all (fun s => i64B s.f0))) with
  | false => rw [hwf, if_neg (by decide)] at h; cases h
  | true =>
  rw [hwf, if_pos rfl] at h
  have HLN := Aside0.mk (of_decide_eq_true (Bool.and_eq_true _ _ ▸ hwf).1)
  have hwf := (Bool.and_eq_true _ _ ▸ hwf).2
  have HWF0 := Aside0.mk (Bool.and_eq_true _ _ ▸ hwf).1
  have HWF := Aside0.mk (Bool.and_eq_true _ _ ▸ hwf).2
  clear hwf
  obtain ⟨ok, hok, h⟩ := Option.bind_eq_some_iff.1 h
  have HOK := Aside0.mk hok
  clear hok
  have hbt := between_in a1 1 (l0.length : Int)
  have HBT := Aside0.mk hbt
  clear hbt
  have A38 := fun (b : Bool) => lottery_pledges.calls k A0 c0 l0 b
  cases ok with
  | false =>
    rw [Bool.false_and, if_neg (by decide)] at h
    obtain ⟨rfl, rfl, rfl⟩ := some3 h
    clear h A38
    go_enter Tryd.func16, Tryd.ntmps16
    go_wp2_with (go_at_call 38; refine (lottery_pledges.calls k _ _ l0 _ _ HR0.out HC0.out HOK.out).mono ?_; rintro e w' ⟨rfl, hb⟩)
    go_ret3
    exact ⟨_, rfl, Kd.R_nil _ _ _ _ _, hb⟩
  | true =>
    cases hin : inR a1 1 (l0.length : Int) with
    | false =>
      rw [hin, if_neg (by decide)] at h
      obtain ⟨rfl, rfl, rfl⟩ := some3 h
      clear h A38
      have hb := HBT.out
      rw [hin] at hb
      have HB := Aside0.mk hb
      clear hb hin HBT
      go_enter Tryd.func16, Tryd.ntmps16
      go_wp2_with (first | (go_at_call 38; refine (lottery_pledges.calls k _ _ l0 _ _ HR0.out HC0.out HOK.out).mono ?_; rintro e w' ⟨rfl, hb⟩) | (go_at_call 29; refine (lottery_between.calls _ _ _ _ _ HB.out).mono ?_; rintro e w' ⟨rfl, ⟨nd, rfl⟩⟩))
      go_ret3
      exact ⟨_, rfl, Kd.R_nil _ _ _ _ _, pw_below_drewN hb _⟩
    | true =>
      rw [hin, if_pos (by rfl)] at h
      have HH := Aside0.mk h
      clear h A38
      have hb := HBT.out
      rw [hin] at hb
      have HB29 := Aside0.mk hb
      have HIN := Aside0.mk hin
      clear hb hin HBT
      go_enter Tryd.func16, Tryd.ntmps16
      go_wp2_with (first | (go_at_call 38; refine (lottery_pledges.calls k _ _ l0 _ _ HR0.out HC0.out HOK.out).mono ?_; rintro e w' ⟨rfl, hb⟩) | (go_at_call 29; refine (lottery_between.calls _ _ _ _ _ HB29.out).mono ?_; rintro e w' ⟨rfl, ⟨nd, rfl⟩⟩))
      obtain ⟨hB1⟩ : Aside0 (Below w.heap.size w (w'.drewN nd)) := ⟨pw_below_drewN hb _⟩
      have hmb : w.heap.size ≤ w'.heap.size := hb.size
      have hIM := IMap.made Tryd.prog 3 (w'.drewN nd)
      have hBM := below_alloc hB1 (.map #[] 0)
      have hTOP : (w'.drewN nd).heap.size = w'.heap.size := rfl
      rw [hTOP] at hIM
      clear hTOP hb hB1
      generalize hmbe : w'.heap.size = mb at hmb hIM ⊢
      clear hmbe
      generalize (w'.drewN nd).alloc (.map #[] 0) = wm at hIM hBM ⊢
      have HIM := Aside0.mk hIM
      have HBM := Aside0.mk hBM
      clear hIM hBM
      go_loopw [39] (fun v39 wr => ∃ i : Nat, v39 = .int .i64 i ∧ i ≤ l2.length ∧ Aside0 (openOK (l0.length : Int) [] l2 = openOK (l0.length : Int) (l2.take i) (l2.drop i)) ∧ Aside0 (IMap Tryd.prog 3 wr mb i (byM (l2.take i))) ∧ Aside0 (Below w.heap.size w wr))
        (fun v39 _ => l2.length - (intOf v39).toNat)
      case atStart => exact ⟨0, rfl, Nat.zero_le _, ⟨by simp⟩, ⟨HIM.out⟩, HBM⟩
      case round =>
        obtain ⟨i, rfl, hi, HE, HM, HB⟩ := hrel
        by_cases hlt : i < l2.length
        · obtain ⟨ad, e1, hx0, hx1, hx2⟩ := at_T23 (Kd.C_below HR2.out HB.out) (i : Int) (by omega) (by omega)
          cases e1
          rw [Int.toNat_natCast] at hx0 hx1 hx2
          have hwf0 : i64B (rd_T23 l2 i).f0 = true := by
            rw [rd23_at l2 i hlt]
            exact List.all_eq_true.1 HWF.out _ (List.getElem_mem hlt)
          simp only [i64B, Bool.and_eq_true, decide_eq_true_eq] at hwf0
          have hwf : Aside0 ((Lit.int .i64 (rd_T23 l2 i).f0).wf = true) := ⟨WalkArith.wf_i64 (by omega)⟩
          clear hwf0
          have hE := openOK_at (l0.length : Int) l2 i hlt
          have hb1 := between_in (rd_T23 l2 i).f0 1 (l0.length : Int)
          have hb2 := isResidue_two (rd_T23 l2 i).f1 (rd_T23 l2 i).f2
          have hs := byM_some (l2.take i) (rd_T23 l2 i).f0
          cases g0 : (byF (l2.take i) (rd_T23 l2 i).f0).isSome with
          | true =>
            rw [g0] at hs
            have HS := Aside0.mk hs
            have HE1 := Aside0.mk (show openOK (l0.length : Int) [] l2 = false by rw [HE.out, hE, g0]; rfl)
            clear hb1 hb2 hE g0 HE hs
            have hh := HH.out
            rw [HE1.out, if_neg (by decide)] at hh
            obtain ⟨rfl, rfl, rfl⟩ := some3 hh
            clear hh HH
            go_wp2_with (first | (at_lookup; (refine wpList_imap_look_ok (kt := 3) (b := mb) (n := i) (f := byM (l2.take i)) rfl _ _ 76 23 rfl ?hmm Tryd.underlying3 Tryd.underlying76 (Tryd.zeroValue23 _) rfl _ rfl hwf.out (.agg #[.int .i64 (lookB (l2.take i) (rd_T23 l2 i).f0).f0, .int .i64 (lookB (l2.take i) (rd_T23 l2 i).f0).f1, .int .i64 (lookB (l2.take i) (rd_T23 l2 i).f0).f2]) (byM_getD _ _) true HS.out ?_); (case hmm => repeat (first | exact HM.out | refine IMap.alloc ?_ _ | refine IMap.drewN ?_ _ | refine IMap.setCell ?_ _ _))))
            go_ret3
            exact ⟨_, rfl, Kd.R_nil _ _ _ _ _, by repeat (first | exact HB.out | apply below_alloc | apply pw_below_drewN | (refine Below.setCell ?_ (by first | exact HB.out.size | (simp; exact HB.out.size) | (have := HB.out.size; simp; omega)) _))⟩
          | false =>
            rw [g0] at hs
            have HS := Aside0.mk hs
            clear hs
            cases g1 : inR (rd_T23 l2 i).f0 1 (l0.length : Int) with
            | false =>
              rw [g1] at hb1
              have H1 := Aside0.mk hb1
              have HE1 := Aside0.mk (show openOK (l0.length : Int) [] l2 = false by rw [HE.out, hE, g0, secOK, g1]; rfl)
              clear hb1 hb2 hE g0 g1 HE
              have hh := HH.out
              rw [HE1.out, if_neg (by decide)] at hh
              obtain ⟨rfl, rfl, rfl⟩ := some3 hh
              clear hh HH
              go_wp2_with (first | (at_lookup; (refine wpList_imap_look_ok (kt := 3) (b := mb) (n := i) (f := byM (l2.take i)) rfl _ _ 76 23 rfl ?hmm Tryd.underlying3 Tryd.underlying76 (Tryd.zeroValue23 _) rfl _ rfl hwf.out (.agg #[.int .i64 (lookB (l2.take i) (rd_T23 l2 i).f0).f0, .int .i64 (lookB (l2.take i) (rd_T23 l2 i).f0).f1, .int .i64 (lookB (l2.take i) (rd_T23 l2 i).f0).f2]) (byM_getD _ _) false HS.out ?_); (case hmm => repeat (first | exact HM.out | refine IMap.alloc ?_ _ | refine IMap.drewN ?_ _ | refine IMap.setCell ?_ _ _))) | (go_at_call 29; refine (lottery_between.calls _ _ _ _ _ H1.out).mono ?_; rintro e w' ⟨rfl, ⟨nd, rfl⟩⟩))
              go_ret3
              exact ⟨_, rfl, Kd.R_nil _ _ _ _ _, by repeat (first | exact HB.out | apply below_alloc | apply pw_below_drewN | (refine Below.setCell ?_ (by first | exact HB.out.size | (simp; exact HB.out.size) | (have := HB.out.size; simp; omega)) _))⟩
            | true =>
              rw [g1] at hb1
              have H1 := Aside0.mk hb1
              cases g2 : isRes (rd_T23 l2 i).f1 && isRes (rd_T23 l2 i).f2 with
              | false =>
                rw [g2] at hb2
                have H2 := Aside0.mk hb2
                have HE1 := Aside0.mk (show openOK (l0.length : Int) [] l2 = false by rw [HE.out, hE, g0, secOK, g1, g2]; rfl)
                clear hb1 hb2 hE g0 g1 g2 HE
                have hh := HH.out
                rw [HE1.out, if_neg (by decide)] at hh
                obtain ⟨rfl, rfl, rfl⟩ := some3 hh
                clear hh HH
                go_wp2_with (first | (at_lookup; (refine wpList_imap_look_ok (kt := 3) (b := mb) (n := i) (f := byM (l2.take i)) rfl _ _ 76 23 rfl ?hmm Tryd.underlying3 Tryd.underlying76 (Tryd.zeroValue23 _) rfl _ rfl hwf.out (.agg #[.int .i64 (lookB (l2.take i) (rd_T23 l2 i).f0).f0, .int .i64 (lookB (l2.take i) (rd_T23 l2 i).f0).f1, .int .i64 (lookB (l2.take i) (rd_T23 l2 i).f0).f2]) (byM_getD _ _) false HS.out ?_); (case hmm => repeat (first | exact HM.out | refine IMap.alloc ?_ _ | refine IMap.drewN ?_ _ | refine IMap.setCell ?_ _ _))) | (go_at_call 29; refine (lottery_between.calls _ _ _ _ _ H1.out).mono ?_; rintro e w' ⟨rfl, ⟨nd, rfl⟩⟩) | (go_at_call 30; refine (lottery_isResidue.calls _ _ [(rd_T23 l2 i).f1, (rd_T23 l2 i).f2] _ _ (C_two _ _ _ _ _ (by simp)) (by simp) H2.out).mono ?_; rintro e w' ⟨rfl, ⟨nd2, rfl⟩⟩))
                go_ret3
                exact ⟨_, rfl, Kd.R_nil _ _ _ _ _, by repeat (first | exact HB.out | apply below_alloc | apply pw_below_drewN | (refine Below.setCell ?_ (by first | exact HB.out.size | (simp; exact HB.out.size) | (have := HB.out.size; simp; omega)) _))⟩
              | true =>
                rw [g2] at hb2
                have H2 := Aside0.mk hb2
                have HE1 := Aside0.mk (show openOK (l0.length : Int) [] l2 = openOK (l0.length : Int) (l2.take (i + 1)) (l2.drop (i + 1)) by rw [HE.out, hE, g0, secOK, g1, g2]; rfl)
                have HP := Aside0.mk (show byM (l2.take (i + 1)) = putF (byM (l2.take i)) (rd_T23 l2 i).f0 (v23 (rd_T23 l2 i)) by rw [byM_put, List.take_succ_eq_append_getElem hlt, rd23_at l2 i hlt])
                clear hb1 hb2 hE g0 g1 g2 HE
                go_wp2_with (first | (at_lookup; (refine wpList_imap_look_ok (kt := 3) (b := mb) (n := i) (f := byM (l2.take i)) rfl _ _ 76 23 rfl ?hmm Tryd.underlying3 Tryd.underlying76 (Tryd.zeroValue23 _) rfl _ rfl hwf.out (.agg #[.int .i64 (lookB (l2.take i) (rd_T23 l2 i).f0).f0, .int .i64 (lookB (l2.take i) (rd_T23 l2 i).f0).f1, .int .i64 (lookB (l2.take i) (rd_T23 l2 i).f0).f2]) (byM_getD _ _) false HS.out ?_); (case hmm => repeat (first | exact HM.out | refine IMap.alloc ?_ _ | refine IMap.drewN ?_ _ | refine IMap.setCell ?_ _ _))) | (go_at_call 29; refine (lottery_between.calls _ _ _ _ _ H1.out).mono ?_; rintro e w' ⟨rfl, ⟨nd, rfl⟩⟩) | (go_at_call 30; refine (lottery_isResidue.calls _ _ [(rd_T23 l2 i).f1, (rd_T23 l2 i).f2] _ _ (C_two _ _ _ _ _ (by simp)) (by simp) H2.out).mono ?_; rintro e w' ⟨rfl, ⟨nd2, rfl⟩⟩) | (at_mapUpdate; (refine wpList_imap_update (kt := 3) (b := mb) (n := i) (f := byM (l2.take i)) rfl _ _ _ 76 23 rfl ?hmm Tryd.underlying3 Tryd.underlying76 ?hml rfl _ (v23 (rd_T23 l2 i)) rfl rfl hwf.out ?_); (case hmm => repeat (first | exact HM.out | refine IMap.alloc ?_ _ | refine IMap.drewN ?_ _ | refine IMap.setCell ?_ _ _)); (case hml => unfold maxLen; omega); intro w3 hm3 hg3))
                refine ⟨⟨i + 1, by go_num, by omega, HE1, ⟨?_⟩, ⟨?_⟩⟩, by simp [intOf]; omega⟩
                · rw [HP.out]; exact hm3
                · refine Below.grown ?_ hg3 (Below.size (B := w.heap.size) ?_) (fun k e => by cases e; exact hmb)
                  · repeat (first | exact HB.out | apply below_alloc | apply pw_below_drewN | (refine Below.setCell ?_ (by first | exact HB.out.size | (simp; exact HB.out.size) | (have := HB.out.size; simp; omega)) _))
                  · repeat (first | exact HB.out | apply below_alloc | apply pw_below_drewN | (refine Below.setCell ?_ (by first | exact HB.out.size | (simp; exact HB.out.size) | (have := HB.out.size; simp; omega)) _))
        · have hii : i = l2.length := by omega
          subst hii
          have hE := HE.out
          rw [List.drop_length] at hE
          have hh := HH.out
          rw [hE, if_pos (by rfl)] at hh
          obtain ⟨stf, hall, hend⟩ := Option.bind_eq_some_iff.1 hh
          have HALL := Aside0.mk hall
          have HALL0 := Aside0.mk hall
          have HEND := Aside0.mk hend
          have HMB := Aside0.mk (show IMap Tryd.prog 3 wr mb l2.length (byM l2) by simpa using HM.out)
          clear hE hh HH HE hall hend HM HIM HBM
          have hmlt := HMB.out.lt
          go_wp2
          have hmc : w.heap.size ≤ wr.heap.size := HB.out.size
          have hCH := IMap.made Tryd.prog 3 wr
          have hMB := HMB.out.alloc (.map #[] 0)
          have hBC := below_alloc HB.out (.map #[] 0)
          generalize wr.alloc (.map #[] 0) = wn at hCH hMB hBC ⊢
          generalize wr.heap.size = mc at hmc hCH hmlt ⊢
          have HNE := Aside0.mk (show mb ≠ mc by omega)
          have HCH := Aside0.mk hCH
          have HMB2 := Aside0.mk hMB
          have HBC := Aside0.mk hBC
          clear hCH hMB hBC HMB HB
          go_loopw [14, 15, 76] (fun v14 v15 v76 wr => ∃ (i : Nat) (st : DrawSt), v76 = .int .i64 i ∧ v14 = .int .i64 st.seed ∧ v15 = .int .i64 st.right ∧ i ≤ l0.length ∧ 0 ≤ st.right ∧ st.right ≤ i ∧ Aside0 (st.cheats.Nodup) ∧ Aside0 (drawAll k a1 l2 st (l0.drop i) = some stf) ∧ Aside0 (IMap Tryd.prog 3 wr mb l2.length (byM l2)) ∧ Aside0 (IMap Tryd.prog 3 wr mc i (seenF st.cheats)) ∧ Aside0 (Below w.heap.size w wr))
            (fun _ _ v76 _ => l0.length - (intOf v76).toNat)
          case atStart => exact ⟨0, ⟨0, 0, []⟩, rfl, rfl, rfl, Nat.zero_le _, Int.le_refl 0, Int.le_refl 0, ⟨List.nodup_nil⟩, ⟨by simpa using HALL.out⟩, HMB2, HCH, HBC⟩
          case round =>
            clear HALL HMB2 HCH HBC
            obtain ⟨i, st, rfl, rfl, rfl, hi, hr0, hr1, HND, HALL, HMB, HCH, HB⟩ := hrel
            by_cases hlt : i < l0.length
            · obtain ⟨ad, Ap, cp, e1, hx0, hx1, hx2, hlc, hCp⟩ := at_T31 (Kd.C_below HR0.out HB.out) (i : Int) (by omega) (by omega)
              cases e1
              rw [Int.toNat_natCast] at hx0 hx1 hx2
              have hwf0 : i64B (rd_T31 l0 i).f0 = true := by
                rw [rd31_at l0 i hlt]
                exact List.all_eq_true.1 HWF0.out _ (List.getElem_mem hlt)
              simp only [i64B, Bool.and_eq_true, decide_eq_true_eq] at hwf0
              have hwf : Aside0 ((Lit.int .i64 (rd_T31 l0 i).f0).wf = true) := ⟨WalkArith.wf_i64 (by omega)⟩
              clear hwf0
              have hA := HALL.out
              rw [List.drop_eq_getElem_cons hlt, ← rd31_at l0 i hlt, drawAll] at hA
              obtain ⟨st1, hstep, hrest⟩ := Option.bind_eq_some_iff.1 hA
              have HREST := Aside0.mk hrest
              clear hA HALL hrest
              unfold drawStep at hstep
              obtain ⟨⟨v, snd⟩, hval, hstep⟩ := Option.bind_eq_some_iff.1 hstep
              have HVAL := Aside0.mk hval
              have HCp := Aside0.mk hCp
              have HLc := Aside0.mk hlc
              clear hval hCp hlc
              go_wp2_with fail
              refine (lottery_value.calls k _ _ _ _ (rd_T31 l0 i).f2 _ _ _ _ (Kd.C_alloc HCp.out _) HLc.out HVAL.out).mono ?_
              rintro e w4 ⟨rfl, hb39⟩
              obtain ⟨q0, q1, q2⟩ := cells3_new wr (.int .i64 (rd_T31 l0 i).f0) (.int .u64 (rd_T31 l0 i).f1) (.slice Ap (rd_T31 l0 i).f2.length cp) 31
              replace q0 := pw_cell_below hb39 q0
              replace q1 := pw_cell_below hb39 q1
              replace q2 := pw_cell_below hb39 q2
              have hB4 := (below_alloc HB.out (.cells #[.int .i64 (rd_T31 l0 i).f0, .int .u64 (rd_T31 l0 i).f1, .slice Ap (rd_T31 l0 i).f2.length cp] 31)).trans (hb39.mono (below_alloc HB.out _).size)
              have HMB4 := Aside0.mk ((HMB.out.alloc _).below hb39)
              have HCH4 := Aside0.mk ((HCH.out.alloc _).below hb39)
              have HB4 := Aside0.mk hB4
              have hbp : w.heap.size ≤ wr.heap.size := HB.out.size
              clear hb39 hB4 HMB HCH HB HCp
              generalize wr.heap.size = bp at q0 q1 q2 hbp ⊢
              go_wp2_with fail
              refine (plus_calls _ _ _).mono ?_
              rintro e w5 ⟨rfl, ⟨nd5, rfl⟩⟩
              have p0 : (w4.drewN nd5).cell? ⟨bp, 0, none⟩ = _ := q0
              have p1 : (w4.drewN nd5).cell? ⟨bp, 1, none⟩ = _ := q1
              have p2 : (w4.drewN nd5).cell? ⟨bp, 2, none⟩ = _ := q2
              have hMB5 := HMB4.out.drewN nd5
              have hCH5 := HCH4.out.drewN nd5
              have hB5 := pw_below_drewN HB4.out nd5
              clear q0 q1 q2 HMB4 HCH4 HB4
              generalize w4.drewN nd5 = w5 at p0 p1 p2 hMB5 hCH5 hB5 ⊢
              have HMB4 := Aside0.mk hMB5
              have HCH4 := Aside0.mk hCH5
              have HB4 := Aside0.mk hB5
              clear hMB5 hCH5 hB5
              obtain ⟨ok, hok⟩ : ∃ ok, (byF l2 (rd_T31 l0 i).f0).isSome = ok := ⟨_, rfl⟩
              have HS := Aside0.mk ((byM_some l2 (rd_T31 l0 i).f0).trans hok)
              have HOKB := Aside0.mk hok
              clear hok
              have HSTEP := Aside0.mk hstep
              clear hstep
              go_wp2_with (first | (at_lookup; (refine wpList_imap_look_ok (kt := 3) (b := mb) (n := l2.length) (f := byM l2) rfl _ _ 76 23 rfl ?hmm Tryd.underlying3 Tryd.underlying76 (Tryd.zeroValue23 _) rfl _ rfl hwf.out (.agg #[.int .i64 (lookB l2 (rd_T31 l0 i).f0).f0, .int .i64 (lookB l2 (rd_T31 l0 i).f0).f1, .int .i64 (lookB l2 (rd_T31 l0 i).f0).f2]) (byM_getD _ _) ok HS.out ?_); (case hmm => repeat (first | exact HMB4.out | refine IMap.alloc ?_ _ | refine IMap.drewN ?_ _ | refine IMap.setCell ?_ _ _))))
              obtain ⟨s0, s1, s2⟩ := cells3_new w5 (.int .i64 (lookB l2 (rd_T31 l0 i).f0).f0) (.int .i64 (lookB l2 (rd_T31 l0 i).f0).f1) (.int .i64 (lookB l2 (rd_T31 l0 i).f0).f2) 23
              have hb5 := below_alloc (Below.refl w5.heap.size w5) (.cells #[.int .i64 (lookB l2 (rd_T31 l0 i).f0).f0, .int .i64 (lookB l2 (rd_T31 l0 i).f0).f1, .int .i64 (lookB l2 (rd_T31 l0 i).f0).f2] 23)
              replace p0 := pw_cell_below hb5 p0
              replace p1 := pw_cell_below hb5 p1
              replace p2 := pw_cell_below hb5 p2
              have hMB6 := HMB4.out.below hb5
              have hCH6 := HCH4.out.below hb5
              have hB6 := HB4.out.trans (hb5.mono HB4.out.size)
              have hbs : w.heap.size ≤ w5.heap.size := HB4.out.size
              clear hb5 HMB4 HCH4 HB4 HS
              generalize w5.alloc (.cells #[.int .i64 (lookB l2 (rd_T31 l0 i).f0).f0, .int .i64 (lookB l2 (rd_T31 l0 i).f0).f1, .int .i64 (lookB l2 (rd_T31 l0 i).f0).f2] 23) = w6 at s0 s1 s2 p0 p1 p2 hMB6 hCH6 hB6 ⊢
              generalize w5.heap.size = bs at s0 s1 s2 hbs ⊢
              cases ok with
              | false =>
                have hst := HSTEP.out
                have hno : byF l2 (rd_T31 l0 i).f0 = none := by simpa using HOKB.out
                rw [hno] at hst
                have HST := Aside0.mk (Option.some.inj hst)
                clear hst hno HSTEP HOKB
                go_quiet (fail)
                rename_i nq
                have HMB6 := Aside0.mk (hMB6.drewN nq)
                have HCH6 := Aside0.mk (hCH6.drewN nq)
                have HB6 := Aside0.mk (pw_below_drewN hB6 nq)
                replace p0 : (w6.drewN nq).cell? ⟨bp, 0, none⟩ = _ := p0
                clear hMB6 hCH6 hB6 s0 s1 s2 p1 p2
                generalize w6.drewN nq = w7 at p0 HMB6 HCH6 HB6 ⊢
                cases snd with
                | true =>
                  go_wp2
                  have hst := HST.out
                  rw [if_pos rfl] at hst
                  subst hst
                  exact ⟨⟨i + 1, ⟨plusW st.seed v, st.right, st.cheats⟩, by go_num, rfl, rfl, by omega, hr0, (by show st.right ≤ _; omega), HND, HREST, HMB6, ⟨HCH6.out.mono (by omega)⟩, HB6⟩, by simp [intOf]; omega⟩
                | false =>
                  go_wp2_with (first | (at_mapUpdate; (refine wpList_imap_update (kt := 3) (b := mc) (n := i) (f := seenF st.cheats) rfl _ _ _ 72 4 rfl ?hmm Tryd.underlying3 Tryd.underlying72 ?hml rfl _ (.bool true) rfl rfl hwf.out ?_); (case hmm => exact HCH6.out); (case hml => unfold maxLen; omega); intro w8 hm7 hg7))
                  have hst := HST.out
                  rw [if_neg (by decide)] at hst
                  subst hst
                  exact ⟨⟨i + 1, ⟨plusW st.seed v, st.right, addC st.cheats (rd_T31 l0 i).f0⟩, by go_num, rfl, rfl, by omega, hr0, (by show st.right ≤ _; omega), ⟨addC_nodup _ _ HND.out⟩, HREST, ⟨HMB6.out.other hg7 HNE.out⟩, ⟨by rw [← addC_put]; exact hm7⟩, ⟨HB6.out.grown hg7 HB6.out.size (fun q e => by cases e; exact hmc)⟩⟩, by simp [intOf]; omega⟩
              | true =>
                have hst := HSTEP.out
                obtain ⟨s, hs⟩ := Option.isSome_iff_exists.1 HOKB.out
                have hlk : lookB l2 (rd_T31 l0 i).f0 = s := by unfold lookB; rw [hs]; rfl
                rw [hs] at hst
                obtain ⟨hv, hsum, hst⟩ := Option.bind_eq_some_iff.1 hst
                rw [hlk] at s0 s1 s2 ⊢
                clear hlk hs HSTEP HOKB
                have HSUM := Aside0.mk hsum
                have HST := Aside0.mk hst
                have HMB6 := Aside0.mk hMB6
                have HCH6 := Aside0.mk hCH6
                have HB6 := Aside0.mk hB6
                clear hsum hst hMB6 hCH6 hB6
                go_region_held3 (fun w' => w'.cell? ⟨bs, 0, none⟩ = some (.int .i64 s.f0) ∧ w'.cell? ⟨bs, 1, none⟩ = some (.int .i64 s.f1) ∧ w'.cell? ⟨bs, 2, none⟩ = some (.int .i64 s.f2) ∧ w'.cell? ⟨bp, 1, none⟩ = some (.int .u64 (rd_T31 l0 i).f1)) (go_keep)
                  (first | (go_at_call 31; refine (lottery_sum.calls _ _ _ hv _ (HTAB.out.below (below_drew HB6.out)) HSUM.out).mono ?_; rintro e w8 ⟨rfl, hb31⟩; have k0 := pw_cell_below hb31 (a := ⟨bs, 0, none⟩) s0; have k1 := pw_cell_below hb31 (a := ⟨bs, 1, none⟩) s1; have k2 := pw_cell_below hb31 (a := ⟨bs, 2, none⟩) s2; have k3 := pw_cell_below hb31 (a := ⟨bp, 0, none⟩) p0; have k4 := pw_cell_below hb31 (a := ⟨bp, 1, none⟩) p1))
                have HMB8 := Aside0.mk (HMB6.out.drew.below hb31)
                have HCH8 := Aside0.mk (HCH6.out.drew.below hb31)
                have HB8 := Aside0.mk ((below_drew HB6.out).trans (hb31.mono HB6.out.size))
                clear HMB6 HCH6 HB6 hb31 hst s0 s1 s2 p0 p1 p2 k0 k2 k4 HSUM
                have hst := HST.out
                clear HST
                generalize (hv == (rd_T31 l0 i).f1) = fits at hst ⊢
                cases fits with
                | false =>
                  rw [if_neg (by decide)] at hst
                  obtain rfl := Option.some.inj hst
                  clear hst
                  cases snd with
                  | true =>
                    go_wp2_with (first | (at_mapUpdate; (refine wpList_imap_update (kt := 3) (b := mc) (n := i) (f := seenF st.cheats) rfl _ _ _ 72 4 rfl ?hmm Tryd.underlying3 Tryd.underlying72 ?hml rfl _ (.bool true) rfl rfl hwf.out ?_); (case hmm => exact HCH8.out); (case hml => unfold maxLen; omega); intro w9 hm7 hg7))
                    exact ⟨⟨i + 1, ⟨plusW st.seed v, st.right, addC st.cheats (rd_T31 l0 i).f0⟩, by go_num, rfl, rfl, by omega, (by show 0 ≤ st.right; omega), (by show st.right ≤ _; omega), ⟨addC_nodup _ _ HND.out⟩, HREST, ⟨HMB8.out.other hg7 HNE.out⟩, ⟨by rw [← addC_put]; exact hm7⟩, ⟨HB8.out.grown hg7 HB8.out.size (fun q e => by cases e; exact hmc)⟩⟩, by simp [intOf]; omega⟩
                  | false =>
                    go_wp2_with (first | (at_mapUpdate; (refine wpList_imap_update (kt := 3) (b := mc) (n := i) (f := seenF st.cheats) rfl _ _ _ 72 4 rfl ?hmm Tryd.underlying3 Tryd.underlying72 ?hml rfl _ (.bool true) rfl rfl hwf.out ?_); (case hmm => exact HCH8.out); (case hml => unfold maxLen; omega); intro w9 hm7 hg7))
                    exact ⟨⟨i + 1, ⟨plusW st.seed v, st.right, addC st.cheats (rd_T31 l0 i).f0⟩, by go_num, rfl, rfl, by omega, (by show 0 ≤ st.right; omega), (by show st.right ≤ _; omega), ⟨addC_nodup _ _ HND.out⟩, HREST, ⟨HMB8.out.other hg7 HNE.out⟩, ⟨by rw [← addC_put]; exact hm7⟩, ⟨HB8.out.grown hg7 HB8.out.size (fun q e => by cases e; exact hmc)⟩⟩, by simp [intOf]; omega⟩
                | true =>
                  rw [if_pos rfl] at hst
                  have hst2 := Option.some.inj hst
                  clear hst
                  cases snd with
                  | false =>
                    rw [if_neg (by simp)] at hst2
                    subst hst2
                    go_wp2_with (first | (at_mapUpdate; (refine wpList_imap_update (kt := 3) (b := mc) (n := i) (f := seenF st.cheats) rfl _ _ _ 72 4 rfl ?hmm Tryd.underlying3 Tryd.underlying72 ?hml rfl _ (.bool true) rfl rfl hwf.out ?_); (case hmm => exact HCH8.out); (case hml => unfold maxLen; omega); intro w9 hm7 hg7))
                    exact ⟨⟨i + 1, ⟨plusW st.seed v, st.right + 1, addC st.cheats (rd_T31 l0 i).f0⟩, by go_num, rfl, rfl, by omega, (by show 0 ≤ st.right + 1; omega), (by show st.right + 1 ≤ _; omega), ⟨addC_nodup _ _ HND.out⟩, HREST, ⟨HMB8.out.other hg7 HNE.out⟩, ⟨by rw [← addC_put]; exact hm7⟩, ⟨HB8.out.grown hg7 HB8.out.size (fun q e => by cases e; exact hmc)⟩⟩, by simp [intOf]; omega⟩
                  | true =>
                    by_cases hsv : s.f1 = v
                    · rw [if_pos (by simp [hsv])] at hst2
                      subst hst2
                      have hne : (s.f1 != v) = false := by simp [hsv]
                      clear hsv
                      go_wp2
                      exact ⟨⟨i + 1, ⟨plusW st.seed v, st.right + 1, st.cheats⟩, by go_num, rfl, rfl, by omega, (by show 0 ≤ st.right + 1; omega), (by show st.right + 1 ≤ _; omega), HND, HREST, HMB8, ⟨HCH8.out.mono (by omega)⟩, HB8⟩, by simp [intOf]; omega⟩
                    · rw [if_neg (by simp [hsv])] at hst2
                      subst hst2
                      have hne : (s.f1 != v) = true := by simp [hsv]
                      clear hsv
                      go_wp2_with (first | (at_mapUpdate; (refine wpList_imap_update (kt := 3) (b := mc) (n := i) (f := seenF st.cheats) rfl _ _ _ 72 4 rfl ?hmm Tryd.underlying3 Tryd.underlying72 ?hml rfl _ (.bool true) rfl rfl hwf.out ?_); (case hmm => exact HCH8.out); (case hml => unfold maxLen; omega); intro w9 hm7 hg7))
                      exact ⟨⟨i + 1, ⟨plusW st.seed v, st.right + 1, addC st.cheats (rd_T31 l0 i).f0⟩, by go_num, rfl, rfl, by omega, (by show 0 ≤ st.right + 1; omega), (by show st.right + 1 ≤ _; omega), ⟨addC_nodup _ _ HND.out⟩, HREST, ⟨HMB8.out.other hg7 HNE.out⟩, ⟨by rw [← addC_put]; exact hm7⟩, ⟨HB8.out.grown hg7 HB8.out.size (fun q e => by cases e; exact hmc)⟩⟩, by simp [intOf]; omega⟩
            · have hii : i = l0.length := by omega
              subst hii
              have hA := HALL.out
              rw [List.drop_length] at hA
              have hst := Option.some.inj hA
              subst hst
              have hE := HEND.out
              clear hA HALL HEND HMB
              by_cases hrt : st.right < a1
              · rw [if_pos hrt] at hE
                obtain ⟨rfl, rfl, rfl⟩ := some3 hE
                clear hE
                go_wp2
                go_ret3
                exact ⟨_, rfl, Kd.R_nil _ _ _ _ _, by repeat (first | exact HB.out | apply below_alloc | apply pw_below_drewN)⟩
              · rw [if_neg hrt] at hE
                obtain ⟨rfl, rfl, rfl⟩ := some3 hE
                clear hE
                have HWC := Aside0.mk (drawAll_wf HWF0.out HALL0.out)
                clear HALL0
                go_wp2_with (first | (at_range; (refine wpList_imap_range (kt := 3) (b := mc) (n := l0.length) (f := seenF st.cheats) rfl _ 72 4 rfl ?hmm Tryd.underlying3 Tryd.underlying72 rfl ?_); (case hmm => exact HCH.out); intro w8 cnt hir hcn hg8 hs8))
                try go_frame
                have hB8 := HB.out.grown hg8 HB.out.size (fun q e => by cases e)
                have hbr : w.heap.size ≤ wr.heap.size := HB.out.size
                clear hs8 hg8 HCH HB
                generalize wr.heap.size = rb at hir hbr ⊢
                have HIR := Aside0.mk hir
                have HCN := Aside0.mk hcn
                have HB8 := Aside0.mk hB8
                clear hir hcn hB8
                go_loopw [24] (fun v24 wr => ∃ (xs : List Int) (left : Int → Bool) (cnt : Nat), Aside0 (Kd.R (Kd.int .i64) 3 wr w.heap.size (fun _ => True) v24 xs) ∧ Aside0 (NamesAt st.cheats xs left) ∧ Aside0 (xs.length + cnt ≤ l0.length) ∧ Aside0 (IRange Tryd.prog 3 wr mc rb l0.length (seenF st.cheats) left cnt) ∧ Aside0 (Below w.heap.size w wr))
                  (fun _ wr => wr.rangeLeft mc rb)
                case atStart => exact ⟨[], _, cnt, ⟨Kd.R_nil _ _ _ _ _⟩, ⟨NamesAt.start _⟩, ⟨by have := HCN.out; simpa using this⟩, HIR, HB8⟩
                case round =>
                  clear HIR HCN HB8
                  obtain ⟨xs, left, cnt, HO, HNA, HCN, HIR, HB⟩ := hrel
                  obtain ⟨An, cn, rfl, _, _⟩ := Kd.R_reads HO.out
                  go_wp2_with (first | (at_next; refine wpList_imap_next (kt := 3) (b := mc) (n := l0.length) (f := seenF st.cheats) rfl _ rfl HIR.out Tryd.underlying3 rfl ?_ ?_))
                  · intro hc0 hl0
                    have HCL := Aside0.mk (show xs.length ≤ l0.length by have := HCN.out; omega)
                    have HPERM := Aside0.mk (HNA.out.perm hl0 HND.out HWC.out)
                    clear hc0 hl0 HIR HNA HCN
                    have HSORT := Aside0.mk (sort_of_perm HPERM.out)
                    have HLL := Aside0.mk (show xs.length < 4611686018427387904 by have := HPERM.out.length_eq; have := HLN.out; have := HCL.out; omega)
                    rcases (Kd.own_of_R HO.out).2 with ⟨hnil, hx0⟩ | ⟨g, cap, cur, hv, hbase, hblk, h1, h2, h3, h4⟩
                    · obtain rfl : xs = [] := by
                        injection hnil with _ hl _
                        exact List.length_eq_zero_iff.1 hl
                      cases hnil
                      go_wp2_with (first | (go_at_call 41; refine (Tryd.slices_Sort_int_none _ _ _).mono ?_; rintro e w10 ⟨rfl, rfl⟩))
                      go_ret3
                      refine ⟨_, rfl, ?_, HB.out⟩
                      rw [← HSORT.out, List.mergeSort_nil]
                      exact (show Kd.R (Kd.int .i64) 3 w10 w.heap.size (fun _ => True) (.slice none 0 0) [] from Kd.R_nil _ _ _ _ _)
                    · cases hv
                      have HH := holds_of_blockI hblk (by simpa [encs] using h4)
                      have HLT := Aside0.mk (Array.getElem?_eq_some_iff.1 hblk).1
                      go_wp2_with (first | (go_at_call 41; refine (Tryd.slices_Sort_int _ 0 _ xs _ HH HLT.out HLL.out).mono ?_; rintro e w10 ⟨rfl, n10, os10, rfl⟩))
                      go_ret3
                      refine ⟨_, rfl, ?_, HB.out.grown (grownBy_sortedI _) HB.out.size (fun q e => by cases e; exact hbase)⟩
                      rw [← HSORT.out]
                      refine Kd.R_of_own ?_ (fun _ _ => trivial)
                      rw [List.length_mergeSort]
                      exact ownsRow_sortedI (List.length_mergeSort _) hbase hblk h1 h2 h3
                  · intro x c w9 cnt9 hx hl hf hr9 hlt9 hg9 hs9 hen
                    have HNA2 := Aside0.mk (HNA.out.step hx hl)
                    have hm9 := HIR.out.left_eq
                    have HM9 := Aside0.mk hm9
                    have HO9 := Aside0.mk (Kd.R_mono (ok' := fun _ => True) (Kd.R_grown (Kd.R_bound HO.out) hg9 (fun k hk e => by
                      obtain ⟨_, _, _, q, _, cells, hc⟩ := hk
                      obtain ⟨m, s, q', c', hb⟩ := HIR.out.obj
                      cases e
                      rw [hb] at hc; cases hc)) (fun _ _ => trivial))
                    have HB9 := Aside0.mk (HB.out.grown hg9 HB.out.size (fun q e => by cases e; exact hbr))
                    have HR9 := Aside0.mk hr9
                    clear hs9 hx hl hf hg9 hr9 hm9 HB HIR HO HNA
                    go_wp2_with (first | ((with_reducible refine gate_builtin (b := .append) (xs := #[.tmp 135, .tmp 137]) rfl ?_); (try (refine gate_guard (by rfl) ?_; dsimp only)); at_builtin; refine Kd.R_append (Kd.int .i64) (w0 := w) w.heap.size rfl (.tmp 135) (.tmp 137) 24 3 (.int .i64 0) 8 rfl Tryd.underlying24 info3 rfl (by decide) (by omega) _ xs x [.int .i64 x] (fun _ => True) (fun _ => False) rfl rfl ?aP (fun _ hk => hk.elim) ?aF ?aO ?aB ?aS ?aL ?_; (case aP => exact rfl); (case aB => exact HB9.out); (case aF => exact (fun _ _ => trivial)); (case aO => exact HO9.out); (case aS => exact HB9.out.size); (case aL => have := HLN.out; have := HCN.out; omega); intro v3 w10 ho hb hg hat))
                    have hR10 := HR9.out.own hg (Kd.own_of_R HO9.out)
                    go_roundw
                    case rel => exact ⟨_, _, cnt9, ⟨ho⟩, HNA2, ⟨by have := HCN.out; simp; omega⟩, ⟨hR10⟩, ⟨hb⟩⟩
                    case measure => rw [hR10.left_eq, HM9.out]; exact hlt9
end Go.Proofs.YtkghgaifgpgfkaaDoor.PL
end
