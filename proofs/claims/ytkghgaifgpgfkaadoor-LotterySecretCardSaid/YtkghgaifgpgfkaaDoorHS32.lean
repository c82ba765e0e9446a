/- Lemmas and walks for lotterySecretCard_holds (part 32), without what it does not use. -/
import Derived.Test.YtkghgaifgpgfkaaDoorHS29
import Derived.Test.YtkghgaifgpgfkaaDoorHS31
section
namespace Go.Proofs.YtkghgaifgpgfkaaDoor.PL
open Go.RowKit Go.Proofs.YtkghgaifgpgfkaaDoorW.PrintWords Go.Proofs.YtkghgaifgpgfkaaDoorW.PrintLast Go.Proofs.YtkghgaifgpgfkaaDoorW.PrintMore
open Go.Proofs.YtkghgaifgpgfkaaDoor.LotZ (F U pw inv pd thr Ok ev)
set_option linter.unusedVariables false
def un (s : S47) : F × F := (toF s.f0, toF s.f1)
theorem ptOK_lo {s : S47} (h : ptOK s = true) : 1 ≤ s.f0 ∧ s.f0 ≤ 16 ∧ 0 ≤ s.f1 ∧ s.f1 < 1073741789 := by
  simp only [ptOK, inR, isRes, Bool.and_eq_true, decide_eq_true_eq] at h
  omega
theorem sh_un {s : S47} (h : ptOK s = true) : sh (un s) = s := by
  have := ptOK_lo h
  unfold sh un
  rw [ofF_toF (by omega) (by omega), ofF_toF (by omega) (by omega)]
theorem map_sh_un {l : List S47} (h : ∀ s ∈ l, ptOK s = true) : (l.map un).map sh = l := by
  rw [List.map_map]
  refine (List.map_congr_left fun s hs => ?_).trans (List.map_id l)
  exact sh_un (h s hs)
theorem recOK_of : ∀ (l : List S47) (seen : List Int), (∀ s ∈ l, ptOK s = true) → (l.map (·.f0)).Nodup → (∀ x ∈ seen, x ∉ l.map (·.f0)) → recOK seen l = true
  | [], _, _, _, _ => rfl
  | s :: l, seen, hp, hn, hs => by
    simp only [List.map_cons, List.nodup_cons] at hn
    have h2 : seen.contains s.f0 = false := by
      simp only [List.contains_eq_mem, decide_eq_false_iff_not]
      intro hm
      exact hs _ hm (by simp)
    unfold recOK
    rw [hp s List.mem_cons_self, h2, recOK_of l (seen ++ [s.f0]) (fun t ht => hp t (List.mem_cons_of_mem _ ht)) hn.2 (fun x hx => ?_)]
    · rfl
    · rcases List.mem_append.1 hx with hx | hx
      · intro hm
        exact hs x hx (by simp only [List.map_cons]; exact List.mem_cons_of_mem _ hm)
      · rw [List.mem_singleton.1 hx]; exact hn.1
theorem recOK_inv : ∀ (l : List S47) (seen : List Int), recOK seen l = true → (∀ s ∈ l, ptOK s = true) ∧ (l.map (·.f0)).Nodup ∧ (∀ x ∈ seen, x ∉ l.map (·.f0))
  | [], _, _ => ⟨by simp, List.nodup_nil, by simp⟩
  | s :: l, seen, h => by
    unfold recOK at h
    simp only [Bool.and_eq_true, Bool.not_eq_true'] at h
    obtain ⟨⟨h1, h2⟩, h3⟩ := h
    obtain ⟨g1, g2, g3⟩ := recOK_inv l _ h3
    simp only [List.contains_eq_mem, decide_eq_false_iff_not] at h2
    refine ⟨fun t ht => ?_, ?_, fun x hx hm => ?_⟩
    · rcases List.mem_cons.1 ht with rfl | ht
      · exact h1
      · exact g1 t ht
    · simp only [List.map_cons, List.nodup_cons]
      exact ⟨g3 _ (by simp), g2⟩
    · simp only [List.map_cons] at hm
      rcases List.mem_cons.1 hm with e | hm
      · rw [e] at hx; exact h2 hx
      · exact g3 x (by simp [hx]) hm
structure RecV (l : List S47) : Prop where
  lo : 1 ≤ l.length
  hi : l.length ≤ 16
  pt : ∀ s ∈ l, ptOK s = true
  nd : (l.map (·.f0)).Nodup
def pts (l : List S47) : List F := l.map fun s => toF s.f0
theorem pts_un (l : List S47) : (l.map un).map (·.1) = pts l := by rw [List.map_map]; rfl
theorem RecV.ok {l : List S47} (h : RecV l) : Ok (pts l) := by
  refine List.pairwise_map.2 ?_
  have := List.pairwise_map.1 h.nd
  refine this.imp_of_mem fun {a b} ha hb hne => ?_
  have ga := ptOK_lo (h.pt a ha)
  have gb := ptOK_lo (h.pt b hb)
  exact U_diff (by omega) (by omega) (by omega) (by omega) hne
theorem recover_ok {l : List S47} (h : RecV l) {g : F → F} (hg : ∀ s ∈ l, g (toF s.f0) = toF s.f1) {k : Nat} (hk : 400 ≤ k) : lottery_Recover.f k l = some (ofF (thr (pts l) g 0), 0) := by
  unfold lottery_Recover.f
  have hin : inR (l.length : Int) 1 16 = true := by
    have := h.lo; have := h.hi
    simp only [inR, Bool.and_eq_true, decide_eq_true_eq]; omega
  rw [if_pos hin, if_pos (recOK_of l [] h.pt h.nd (by simp))]
  have := through_ok (l.map un) (by rw [List.length_map]; exact h.hi) 0 g (fun p hp => by
    obtain ⟨s, hs, rfl⟩ := List.mem_map.1 hp
    exact hg s hs) k hk
  rw [map_sh_un h.pt, ofF_zero, pts_un] at this
  rw [this, Option.bind_some]
theorem recover_bad {l : List S47} (h : ¬ RecV l) (k : Nat) : lottery_Recover.f k l = some (0, 1) := by
  unfold lottery_Recover.f
  by_cases hin : inR (l.length : Int) 1 16 = true
  · rw [if_pos hin]
    by_cases hr : recOK [] l = true
    · exfalso
      obtain ⟨g1, g2, _⟩ := recOK_inv l [] hr
      simp only [inR, Bool.and_eq_true, decide_eq_true_eq] at hin
      exact h ⟨by omega, by omega, g1, g2⟩
    · rw [if_neg hr]
  · rw [if_neg hin]
end Go.Proofs.YtkghgaifgpgfkaaDoor.PL
end
