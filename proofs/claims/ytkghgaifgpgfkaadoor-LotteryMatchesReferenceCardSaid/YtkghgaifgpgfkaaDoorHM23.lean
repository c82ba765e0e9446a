/- Lemmas and walks for lotteryMatchesReferenceCard_holds (part 23), without what it does not use. -/
import Derived.Test.YtkghgaifgpgfkaaDoorHM20
import Derived.Test.YtkghgaifgpgfkaaDoorHM22
section
namespace Go.Proofs.YtkghgaifgpgfkaaDoor.PL
open Go.RowKit Go.Proofs.YtkghgaifgpgfkaaDoorW.PrintWords Go.Proofs.YtkghgaifgpgfkaaDoorW.PrintLast Go.Proofs.YtkghgaifgpgfkaaDoorW.PrintMore
set_option linter.unusedVariables false
set_option linter.unusedSimpArgs false
def inR (n lo hi : Int) : Bool := decide (lo ≤ n) && decide (n ≤ hi)
theorem between_in (n lo hi : Int) : lottery_between.f n lo hi = some (inR n lo hi) := by
  unfold lottery_between.f inR
  by_cases h : lo ≤ n <;> simp [h]
theorem isResidue_one (x : Int) : lottery_isResidue.f [x] = some (isRes x) := by simp [lottery_isResidue.f]
def ptOK (s : S47) : Bool := inR s.f0 1 16 && isRes s.f1
def recOK : List Int → List S47 → Bool
  | _, [] => true
  | seen, s :: l => ptOK s && !seen.contains s.f0 && recOK (seen ++ [s.f0]) l
def seenF (seen : List Int) : Int → Option Value := fun y => if seen.contains y = true then some (.bool true) else none
theorem seenF_put (seen : List Int) (x : Int) : putF (seenF seen) x (.bool true) = seenF (seen ++ [x]) := by
  funext y
  by_cases h : y = x
  · subst h; simp [putF, seenF]
  · simp [putF, seenF, h]
def ptsAt (l : List S47) (i : Nat) : List Int := (l.take i).map (·.f0)
theorem rd47_at (l : List S47) (i : Nat) (h : i < l.length) : rd_T47 l (i : Int) = l[i] := by simp [rd_T47, List.getD_eq_getElem?_getD, List.getElem?_eq_getElem h]
theorem ptsAt_succ (l : List S47) (i : Nat) (h : i < l.length) : ptsAt l (i + 1) = ptsAt l i ++ [(rd_T47 l i).f0] := by
  rw [ptsAt, List.take_succ_eq_append_getElem h, List.map_append, rd47_at l i h]; rfl
theorem recOK_at (l : List S47) (i : Nat) (h : i < l.length) (seen : List Int) : recOK seen (l.drop i) = (ptOK (rd_T47 l i) && !seen.contains (rd_T47 l i).f0 && recOK (seen ++ [(rd_T47 l i).f0]) (l.drop (i + 1))) := by
  rw [List.drop_eq_getElem_cons h, rd47_at l i h]; rfl
def lottery_Recover.f (k : Nat) (l0 : List (S47)) : Option (Int × Int) :=
  if inR (l0.length : Int) 1 16 = true then (if recOK [] l0 = true then (lottery_through.f k l0 0).bind fun v => some (v, 0) else some (0, 1)) else some (0, 1)
theorem wf_of_in {n : Int} (h : inR n 1 16 = true) : (Lit.int .i64 n).wf = true := by
  simp only [inR, Bool.and_eq_true, decide_eq_true_eq] at h
  exact WalkArith.wf_i64 (by omega)
theorem C_one (W : World) (x : Int) (t : TypeId) (g : Nat) (hg : g = W.heap.size) : Kd.C (Kd.int .i64) (W.alloc (.cells #[.int .i64 x] t)) (some ⟨g, 0, none⟩) [x].length [x] := by
  subst hg
  refine Kd.C_of_reads (d := (0 : Int)) (h1 := fun _ => rfl) ⟨rfl, by simp, fun _ => ⟨_, rfl, fun j hj => ?_⟩⟩
  have hj0 : j = 0 := by simp at hj; omega
  subst hj0
  have h := heap_alloc_new W (.cells #[.int .i64 x] t)
  generalize W.alloc (.cells #[.int .i64 x] t) = W' at h ⊢
  rw [add_plain]
  simp [World.cell?, h]
set_option maxRecDepth 100000 in
set_option maxHeartbeats 4000000 in
theorem lottery_Recover.calls (k : Nat) (A0 : Option Addr) (c0 : Nat) (l0 : List (S47)) (r1 : Int) (r2 : Int) (w : World) (hr0 : Kd.C k47 w A0 l0.length l0) (hc0 : l0.length ≤ c0) (h : lottery_Recover.f k l0 = some (r1, r2)) :
    Calls Tryd.prog 14 #[.slice A0 l0.length c0] w fun e w' => e = .returned (.tuple #[.int .i64 r1, .int .i64 r2]) ∧ Below w.heap.size w w' := by
  have HR := Aside0.mk hr0
  have hmx := Kd.C_max hr0
  have HC0 := Aside0.mk hc0
  clear hr0 hc0
  have hmm := @run_makeMap Tryd.prog
  unfold lottery_Recover.f at h
  have hu47 := Tryd.underlying47
  cases hin : inR (l0.length : Int) 1 16 with
  | false =>
    rw [hin, if_neg (by decide)] at h
    obtain ⟨rfl, rfl⟩ := Prod.mk.inj (Option.some.inj h)
    have hb := between_in (l0.length : Int) 1 16
    rw [hin] at hb
    have HQ := Aside0.mk hb
    clear hb hin h
    go_enter Tryd.func14, Tryd.ntmps14
    go_wp2_with (go_at_call 29; refine (lottery_between.calls _ _ _ _ _ HQ.out).mono ?_; rintro e w' ⟨rfl, ⟨nd, rfl⟩⟩)
    go_ret2
    exact ⟨rfl, pw_below_drewN (Below.refl _ _) _⟩
  | true =>
    rw [hin, if_pos rfl] at h
    have hb := between_in (l0.length : Int) 1 16
    rw [hin] at hb
    have HQ := Aside0.mk hb
    have HH := Aside0.mk h
    clear hb hin h
    go_enter Tryd.func14, Tryd.ntmps14
    go_wp2_with (go_at_call 29; refine (lottery_between.calls _ _ _ _ _ HQ.out).mono ?_; rintro e w' ⟨rfl, ⟨nd, rfl⟩⟩)
    go_loopw [14] (fun v14 wr => ∃ i : Nat, v14 = .int .i64 i ∧ i ≤ l0.length ∧ Aside0 (recOK [] l0 = recOK (ptsAt l0 i) (l0.drop i)) ∧ Aside0 (IMap Tryd.prog 3 wr w.heap.size i (seenF (ptsAt l0 i))) ∧ Aside0 (Below w.heap.size w wr))
      (fun v14 _ => l0.length - (intOf v14).toNat)
    case atStart => exact ⟨0, rfl, Nat.zero_le _, ⟨by simp [ptsAt]⟩, ⟨IMap.made Tryd.prog 3 (w.drewN nd)⟩, ⟨below_alloc (pw_below_drewN (Below.refl _ _) _) _⟩⟩
    case round =>
      obtain ⟨i, rfl, hi, HE, HM, HB⟩ := hrel
      by_cases hlt : i < l0.length
      · obtain ⟨ad, e1, hx0, hx1⟩ := at_T47 (Kd.C_below HR.out HB.out) (i : Int) (by omega) (by omega)
        cases e1
        rw [Int.toNat_natCast] at hx0 hx1
        have hE := recOK_at l0 i hlt (ptsAt l0 i)
        have hb1 := between_in (rd_T47 l0 i).f0 1 16
        have hb2 := isResidue_one (rd_T47 l0 i).f1
        cases g1 : inR (rd_T47 l0 i).f0 1 16 with
        | false =>
          rw [g1] at hb1
          have HE1 := Aside0.mk (show recOK [] l0 = false by rw [HE.out, hE, ptOK, g1]; rfl)
          have H1 := Aside0.mk hb1
          clear hb1 hb2 hE g1 HE
          have hh := HH.out
          rw [HE1.out, if_neg (by decide)] at hh
          obtain ⟨rfl, rfl⟩ := Prod.mk.inj (Option.some.inj hh)
          clear hh HH
          go_wp2_with (go_at_call 29; refine (lottery_between.calls _ _ _ _ _ H1.out).mono ?_; rintro e w' ⟨rfl, ⟨nd, rfl⟩⟩)
          go_ret2
          exact ⟨rfl, (by repeat (first | exact HB.out | apply below_alloc | apply pw_below_drewN | (refine Below.setCell ?_ (by first | exact HB.out.size | (simp; exact HB.out.size)) _)))⟩
        | true =>
          rw [g1] at hb1
          have H1 := Aside0.mk hb1
          have hwf := Aside0.mk (wf_of_in g1)
          cases g2 : isRes (rd_T47 l0 i).f1 with
          | false =>
            rw [g2] at hb2
            have HE1 := Aside0.mk (show recOK [] l0 = false by rw [HE.out, hE, ptOK, g1, g2]; rfl)
            have H2 := Aside0.mk hb2
            clear hb1 hb2 hE g1 g2 HE
            have hh := HH.out
            rw [HE1.out, if_neg (by decide)] at hh
            obtain ⟨rfl, rfl⟩ := Prod.mk.inj (Option.some.inj hh)
            clear hh HH
            go_wp2_with (first | (go_at_call 29; refine (lottery_between.calls _ _ _ _ _ H1.out).mono ?_; rintro e w' ⟨rfl, ⟨nd, rfl⟩⟩) | (go_at_call 30; refine (lottery_isResidue.calls _ _ [(rd_T47 l0 i).f1] _ _ (C_one _ _ _ _ (by simp)) (by simp) H2.out).mono ?_; rintro e w' ⟨rfl, ⟨nd2, rfl⟩⟩))
            go_ret2
            exact ⟨rfl, (by repeat (first | exact HB.out | apply below_alloc | apply pw_below_drewN | (refine Below.setCell ?_ (by first | exact HB.out.size | (simp; exact HB.out.size)) _)))⟩
          | true =>
            rw [g2] at hb2
            have H2 := Aside0.mk hb2
            cases g3 : (ptsAt l0 i).contains (rd_T47 l0 i).f0 with
            | true =>
              have HS := Aside0.mk (show (seenF (ptsAt l0 i) (rd_T47 l0 i).f0).getD (.bool false) = .bool true by rw [seenF, g3]; rfl)
              have HE1 := Aside0.mk (show recOK [] l0 = false by rw [HE.out, hE, ptOK, g1, g2, g3]; rfl)
              clear hb1 hb2 hE g1 g2 g3 HE
              have hh := HH.out
              rw [HE1.out, if_neg (by decide)] at hh
              obtain ⟨rfl, rfl⟩ := Prod.mk.inj (Option.some.inj hh)
              clear hh HH
              go_wp2_with (first | (go_at_call 29; refine (lottery_between.calls _ _ _ _ _ H1.out).mono ?_; rintro e w' ⟨rfl, ⟨nd, rfl⟩⟩) | (go_at_call 30; refine (lottery_isResidue.calls _ _ [(rd_T47 l0 i).f1] _ _ (C_one _ _ _ _ (by simp)) (by simp) H2.out).mono ?_; rintro e w' ⟨rfl, ⟨nd2, rfl⟩⟩) | (at_lookup; refine gate_guard ?hgg ?_; (case hgg => rfl); (refine wpList_imap_look (kt := 3) (b := w.heap.size) (n := i) (f := seenF (ptsAt l0 i)) rfl _ _ 72 4 rfl ?hmm Tryd.underlying3 Tryd.underlying72 (Tryd.zeroValue4 _) rfl _ rfl hwf.out (.bool true) HS.out ?_); (case hmm => repeat (first | exact HM.out | refine IMap.alloc ?_ _ | refine IMap.drewN ?_ _ | refine IMap.setCell ?_ _ _))))
              go_ret2
              exact ⟨rfl, (by repeat (first | exact HB.out | apply below_alloc | apply pw_below_drewN | (refine Below.setCell ?_ (by first | exact HB.out.size | (simp; exact HB.out.size)) _)))⟩
            | false =>
              have HS := Aside0.mk (show (seenF (ptsAt l0 i) (rd_T47 l0 i).f0).getD (.bool false) = .bool false by rw [seenF, g3]; rfl)
              have HE1 := Aside0.mk (show recOK [] l0 = recOK (ptsAt l0 (i + 1)) (l0.drop (i + 1)) by rw [HE.out, hE, ptOK, g1, g2, g3, ptsAt_succ l0 i hlt]; rfl)
              have HP := Aside0.mk (ptsAt_succ l0 i hlt)
              clear hb1 hb2 hE g1 g2 g3 HE
              go_wp2_with (first | (go_at_call 29; refine (lottery_between.calls _ _ _ _ _ H1.out).mono ?_; rintro e w' ⟨rfl, ⟨nd, rfl⟩⟩) | (go_at_call 30; refine (lottery_isResidue.calls _ _ [(rd_T47 l0 i).f1] _ _ (C_one _ _ _ _ (by simp)) (by simp) H2.out).mono ?_; rintro e w' ⟨rfl, ⟨nd2, rfl⟩⟩) | (at_lookup; refine gate_guard ?hgg ?_; (case hgg => rfl); (refine wpList_imap_look (kt := 3) (b := w.heap.size) (n := i) (f := seenF (ptsAt l0 i)) rfl _ _ 72 4 rfl ?hmm Tryd.underlying3 Tryd.underlying72 (Tryd.zeroValue4 _) rfl _ rfl hwf.out (.bool false) HS.out ?_); (case hmm => repeat (first | exact HM.out | refine IMap.alloc ?_ _ | refine IMap.drewN ?_ _ | refine IMap.setCell ?_ _ _))) | (at_mapUpdate; refine wpList_imap_update (kt := 3) (b := w.heap.size) (n := i) (f := seenF (ptsAt l0 i)) rfl _ _ _ 72 4 rfl ?hmm Tryd.underlying3 Tryd.underlying72 ?hml rfl _ _ rfl rfl hwf.out ?_; (case hmm => repeat (first | exact HM.out | refine IMap.alloc ?_ _ | refine IMap.drewN ?_ _ | refine IMap.setCell ?_ _ _)); (case hml => unfold maxLen; omega); intro w3 hm3 hg3))
              refine ⟨⟨i + 1, by go_num, by omega, HE1, ⟨?_⟩, ⟨?_⟩⟩, by simp [intOf]; omega⟩
              · rw [HP.out, ← seenF_put]; exact hm3
              · refine Below.grown ?_ hg3 (Below.size (B := w.heap.size) ?_) (fun k e => by cases e; exact Nat.le_refl _)
                · repeat (first | exact HB.out | apply below_alloc | apply pw_below_drewN | (refine Below.setCell ?_ (by first | exact HB.out.size | (simp; exact HB.out.size)) _))
                · repeat (first | exact HB.out | apply below_alloc | apply pw_below_drewN | (refine Below.setCell ?_ (by first | exact HB.out.size | (simp; exact HB.out.size)) _))
      · have hii : i = l0.length := by omega
        subst hii
        have hE := HE.out
        rw [List.drop_length] at hE
        have hh := HH.out
        rw [hE, if_pos (by rfl)] at hh
        obtain ⟨v, hv, he⟩ := Option.bind_eq_some_iff.1 hh
        obtain ⟨rfl, rfl⟩ := Prod.mk.inj (Option.some.inj he)
        have HV := Aside0.mk hv
        clear hE hh HH hv he HE
        go_wp2_with (go_at_call 36; refine (lottery_through.calls k _ _ l0 0 _ _ (Kd.C_below HR.out HB.out) HC0.out HV.out).mono ?_; rintro e w' ⟨rfl, hb⟩)
        go_ret2
        exact ⟨rfl, HB.out.trans (hb.mono HB.out.size)⟩
end Go.Proofs.YtkghgaifgpgfkaaDoor.PL
end
