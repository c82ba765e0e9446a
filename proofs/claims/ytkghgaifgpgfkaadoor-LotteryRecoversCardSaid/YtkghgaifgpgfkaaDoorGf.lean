/- The contract, proved by hand, of law22.some. -/
import Derived.Test.YtkghgaifgpgfkaaDoorGp
import Derived.Test.YtkghgaifgpgfkaaDoorPLx25
namespace Go.Proofs.YtkghgaifgpgfkaaDoor.PL
open Go.RowKit Go.Proofs.YtkghgaifgpgfkaaDoorW.PrintWords Go.Proofs.YtkghgaifgpgfkaaDoorW.PrintLast Go.Proofs.YtkghgaifgpgfkaaDoorW.PrintMore
set_option linter.unusedVariables false
set_option linter.unusedSimpArgs false
theorem k47_any {w w1 : World} {x : S47} {cs : List Value} (h : k47.K w x cs) : k47.K w1 x cs := by
  rw [k47_open h]; exact k47_mk _ _
theorem cut_head (A : Option Addr) (p : Nat) : (if p = 0 then A else A.map (fun (a : Addr) => a.add (0 * 2))) = A := by
  split
  · rfl
  · cases A with
    | none => rfl
    | some a => simp [Addr.add]
theorem pick_eq (x n : Int) (h0 : 0 < n) (h1 : n < 9223372036854775808) : cohousinglaw22_pick.f x n = some (x % n) := by
  unfold cohousinglaw22_pick.f
  rw [if_neg (by omega)]
  have h4 := Int.emod_nonneg x (show n ≠ 0 by omega)
  have h5 := Int.emod_lt_of_pos x h0
  have h6 : Int.tmod x n = x % n ∨ Int.tmod x n = x % n - n := by
    rw [Int.tmod_eq_emod]
    split
    · left; omega
    · right; omega
  by_cases hn : Int.tmod x n < 0
  · rw [if_pos hn]; congr 1; unfold wrap64; omega
  · rw [if_neg hn]; congr 1; omega
/-- The shares taken, in order: picks' choices first, then from the front, until there are n of them. -/
def someF (n : Int) (picks : List Int) : Nat → Nat → List S47 → List S47 → List S47
  | 0, _, _, out => out
  | m + 1, i, rest, out =>
    if (out.length : Int) < n ∨ i < picks.length then
      let p := if i < picks.length then (picks.getD i 0 % (rest.length : Int)).toNat else 0
      someF n picks m (i + 1) (rest.take p ++ rest.drop (p + 1)) (out ++ [rest.getD p ⟨0, 0⟩])
    else out
def cohousinglaw22_some.f (l0 : List (S47)) (a1 : Int) (l2 : List Int) : Option ((List (S47))) :=
  if l0.length ≤ 1000000 then some (someF a1 l2 l0.length 0 l0 []) else none
set_option maxRecDepth 100000 in
set_option maxHeartbeats 8000000 in
theorem cohousinglaw22_some.calls (A0 : Option Addr) (c0 : Nat) (l0 : List (S47)) (a1 : Int) (A2 : Option Addr) (c2 : Nat) (l2 : List Int) (r : List (S47)) (w : World) (hr0 : Kd.C k47 w A0 l0.length l0) (hc0 : l0.length ≤ c0) (hr2 : Kd.C (Kd.int .i64) w A2 l2.length l2) (hc2 : l2.length ≤ c2) (h : cohousinglaw22_some.f l0 a1 l2 = some r) :
    Calls Tryd.prog 21 #[.slice A0 l0.length c0, .int .i64 a1, .slice A2 l2.length c2] w fun e w' => ∃ v0_ : Value, e = .returned (v0_) ∧ Kd.R k47 47 w' w.heap.size (fun _ => True) v0_ r ∧ Below w.heap.size w w' := by
  have HR0 := Aside0.mk hr0
  have HR2 := Aside0.mk hr2
  have hm2 := Kd.C_max hr2
  unfold cohousinglaw22_some.f at h
  by_cases hlen : l0.length ≤ 1000000
  · rw [if_pos hlen] at h
    have HRES := Aside0.mk (Option.some.inj h)
    clear h hr0 hc0 hr2 hc2
    have hu47 := Tryd.underlying47
    go_enter Tryd.func21, Tryd.ntmps21
    go_wp2_with (first | (at_builtin; refine wpList_append_rows k47 (xs := []) (ys := l0) rfl _ _ 25 rfl 47 (.agg #[.int .i64 0, .int .i64 0]) 16 Tryd.underlying25 info47 rfl (by decide) (by decide) _ _ _ _ rfl rfl rfl rfl rfl ?hn1 ?hn2 ?hn3 ?_; (case hn1 => exact ⟨rfl, by simp, fun h => by simp at h⟩); (case hn2 => exact (by first | exact HR0.out | exact Kd.C_alloc HR0.out _)); (case hn3 => simp; omega); intro A7 c7 w1 hc7 hC7 hg7 _))
    simp only [List.nil_append] at hc7 hC7 ⊢
    have hB1 : Below w.heap.size w w1 := (below_alloc (Below.refl _ _) _).grown hg7 (by simp) (fun q e => by cases e)
    have HC7 := Aside0.mk hC7
    have HB1 := Aside0.mk hB1
    clear hC7 hB1 hg7
    go_loopw [7, 8, 9] (fun v7 v8 v9 wr => ∃ (i : Nat) (rest out : List S47) (A : Option Addr) (c : Nat), v9 = .int .i64 i ∧ v7 = .slice A rest.length c ∧ rest.length ≤ c ∧ Aside0 (i + rest.length = l0.length) ∧ Aside0 (out.length = i) ∧ Aside0 (someF a1 l2 rest.length i rest out = r) ∧ Aside0 (Kd.C k47 wr A rest.length rest) ∧ Aside0 (Kd.R k47 47 wr w.heap.size (fun _ => True) v8 out) ∧ Aside0 (∀ ad, A = some ad → 0 < rest.length → some ad.block ≠ v8.ownBlock) ∧ Aside0 (Below w.heap.size w wr))
      (fun _ _ v9 _ => l0.length - (intOf v9).toNat)
    case atStart => exact ⟨0, l0, [], A7, c7, rfl, rfl, hc7, ⟨by simp⟩, ⟨rfl⟩, HRES, HC7, ⟨Kd.R_nil _ _ _ _ _⟩, ⟨fun ad _ _ => by simp [Value.ownBlock]⟩, HB1⟩
    case round =>
      clear HC7 HB1 HRES hc7
      obtain ⟨i, rest, out, A, c, rfl, rfl, hc, HSUM, HOUT, HRES, HC, HO, HAP, HB⟩ := hrel
      have hile : i ≤ l0.length := by have := HSUM.out; omega
      have holt : out.length ≤ l0.length := by have := HOUT.out; omega
      obtain ⟨Ao, co, rfl, hlo, _⟩ := Kd.R_reads HO.out
      by_cases hpos : 0 < rest.length
      · obtain ⟨m, hm⟩ : ∃ m, rest.length = m + 1 := ⟨rest.length - 1, by omega⟩
        by_cases hcont : (out.length : Int) < a1 ∨ i < l2.length
        · have hS := HRES.out
          rw [hm, someF, if_pos hcont] at hS
          simp only [← hm] at hS
          obtain ⟨p, hp⟩ : ∃ p, p = (if i < l2.length then (l2.getD i 0 % (rest.length : Int)).toNat else 0) := ⟨_, rfl⟩
          rw [← hp] at hS
          have hplt : p < rest.length := by
            rw [hp]
            split
            · have := Int.emod_lt_of_pos (l2.getD i 0) (show (0 : Int) < rest.length by omega)
              have := Int.emod_nonneg (l2.getD i 0) (show (rest.length : Int) ≠ 0 by omega)
              omega
            · exact hpos
          have hl' : (rest.take p ++ rest.drop (p + 1)).length = m := by rw [List.length_append, List.length_take, List.length_drop]; omega
          have HM := Aside0.mk hm
          have hrl : rest.length ≤ l0.length := by have := HSUM.out; omega
          clear hm
          have HS := Aside0.mk hS
          have HL := Aside0.mk hl'
          clear hS hl' HRES
          obtain ⟨ad, e1, hx0, hx1⟩ := at_T47 HC.out (p : Int) (by omega) (by omega)
          cases e1
          rw [Int.toNat_natCast] at hx0 hx1
          by_cases hi : i < l2.length
          · rw [if_pos hi] at hp
            obtain ⟨ad2, e2, hy⟩ := Kd.at_int (Kd.C_below HR2.out HB.out) (i : Int) (by omega) (by omega)
            cases e2
            rw [Int.toNat_natCast] at hy
            have HPK := Aside0.mk (show cohousinglaw22_pick.f (rd l2 i) (rest.length : Int) = some (p : Int) by
              have hrd : rd l2 i = l2.getD i 0 := by simp [rd]
              rw [pick_eq _ _ (by omega) (by omega), hrd, hp, Int.toNat_of_nonneg (Int.emod_nonneg _ (by omega))])
            clear hp
            by_cases ho : (out.length : Int) < a1
            · skip
              go_upto_region 9 with (first | (go_at_call 27; refine (cohousinglaw22_pick.calls _ _ _ _ HPK.out).mono ?_; rintro e w2 ⟨rfl, ⟨nd, rfl⟩⟩))
              have hC2 := Kd.C_drewN HC.out nd
              have hO2 := Kd.R_drewN HO.out nd
              have hB2 := pw_below_drewN HB.out nd
              replace hx0 : (wr.drewN nd).cell? _ = _ := hx0
              replace hx1 : (wr.drewN nd).cell? _ = _ := hx1
              clear hy HC HO HB
              generalize wr.drewN nd = w2 at hC2 hO2 hB2 hx0 hx1 ⊢
              have HC := Aside0.mk hC2
              have HO := Aside0.mk hO2
              have HB := Aside0.mk hB2
              clear hC2 hO2 hB2
              go_upto_region 10 with (first | ((with_reducible refine gate_builtin (b := .append) (xs := #[.tmp 42, .tmp 47]) rfl ?_); (try (refine gate_guard (by rfl) ?_; dsimp only)); at_builtin; refine Kd.R_append k47 (w0 := w) w.heap.size rfl (.tmp 42) (.tmp 47) 25 47 (.agg #[.int .i64 0, .int .i64 0]) 16 rfl Tryd.underlying25 info47 rfl (by decide) (by omega) _ out (rd_T47 rest p) [.int .i64 (rd_T47 rest p).f0, .int .i64 (rd_T47 rest p).f1] (fun _ => True) (fun _ => False) rfl rfl ?aP (fun _ hk => hk.elim) ?aF ?aO ?aB ?aS ?aL ?_; (case aP => exact k47_mkM _ _ _ _); (case aB => exact HB.out); (case aF => exact (fun _ _ => trivial)); (case aO => exact HO.out); (case aS => exact HB.out.size); (case aL => omega); intro v3 w3 ho3 hb3 hg3 hat3))
              have hbR := C_block (d := k47) (by decide) HC.out hpos
              have HC3 := Aside0.mk (C_grown (d := k47) (fun h => k47_any h) HC.out hg3 (fun ad' e hp => HAP.out ad' e hp))
              have HO3 := Aside0.mk ho3
              have HB3 := Aside0.mk hb3
              have hAP3 : some ad.block ≠ v3.ownBlock ∧ ad.block < w3.heap.size := by
                have h1 := HAP.out ad rfl hpos
                have h2 := hbR ad rfl
                refine ⟨?_, Nat.lt_of_lt_of_le h2 hg3.size⟩
                rcases hat3 with h3 | ⟨b, h3, h4⟩
                · rw [h3]; exact h1
                · rw [h3]; intro h5; cases h5; omega
              have HAP3 := Aside0.mk hAP3
              have hpc : (p : Int) ≤ c := by omega
              have hp0 : (0 : Int) ≤ p := by omega
              have hp1 : (0 : Int) ≤ (p : Int) + 1 := by omega
              have hp2 : (p : Int) + 1 ≤ rest.length := by omega
              have hwr : IntKind.i64.wrap ((p : Int) + 1) = (p : Int) + 1 := by rw [i64_w]; unfold wrap64; omega
              have htn : ((p : Int) + 1).toNat = p + 1 := by omega
              clear hx0 hx1 HC HO HB hg3 hat3 ho3 hb3 hAP3 HAP hbR
              go_region_law (refine step_append_rows k47 (A1 := some ad) (A2 := if c = p + 1 then some ad else some (ad.add ((p + 1) * 2))) (xs := rest.take p) (ys := rest.drop (p + 1)) rfl _ _ 25 rfl 47 (.agg #[.int .i64 0, .int .i64 0]) 16 Tryd.underlying25 info47 rfl (by decide) (by decide) p (rest.length - (p + 1)) p (c - (p + 1)) ?hn1 ?hn2 ?hn3 ?hs ?hx ?hn4 ?hn5 ?hn6 ?_; (case hs => go_simp); (case hx => go_simp); (case hn1 => (rw [List.length_take]; omega)); (case hn2 => (rw [List.length_take]; omega)); (case hn3 => exact List.length_drop.symm); (case hn4 => exact Kd.C_take (Kd.C_drew HC3.out) (Nat.le_of_lt hplt)); (case hn5 => exact Kd.C_drop (k := k47) (c := c) (Kd.C_drew HC3.out) hplt hc); (case hn6 => (rw [List.length_take, List.length_drop]; omega)); intro A4 c4 w4 hc4 hC4 hg4 hat4)
              go_wp2
              have hl5 : (rest.take p ++ rest.drop (p + 1)).length + 1 = rest.length := by have := HL.out; have := HM.out; omega
              refine ⟨⟨i + 1, rest.take p ++ rest.drop (p + 1), out ++ [rd_T47 rest p], A4, c4, by go_num, by rw [List.length_append, List.length_take, List.length_drop], hc4, ⟨by have := HSUM.out; omega⟩, ⟨by have := HOUT.out; simp; omega⟩, ⟨?_⟩, ⟨hC4⟩, ⟨Kd.R_grown (Kd.R_drew HO3.out) hg4 (fun k _ => by simp)⟩, ⟨?_⟩, ⟨(below_drew HB3.out).grown hg4 HB3.out.size (fun q e => by cases e)⟩⟩, by have := HSUM.out; simp [intOf]; omega⟩
              · have h1 := HS.out
                rw [← HL.out] at h1
                have h2 : rd_T47 rest p = rest.getD p ⟨0, 0⟩ := by simp [rd_T47, z47]
                rw [h2]; exact h1
              · intro ad' e _
                rcases hat4 with h3 | ⟨ad2', h3, h4⟩
                · rw [h3] at e; cases e; exact HAP3.out.1
                · rw [h3] at e; cases e
                  intro h5
                  obtain ⟨inner, hown⟩ := Kd.R_own HO3.out
                  have := own_lt hown _ h5.symm
                  rw [h4] at this
                  exact Nat.lt_irrefl _ this
            · skip
              go_upto_region 9 with (first | (go_at_call 27; refine (cohousinglaw22_pick.calls _ _ _ _ HPK.out).mono ?_; rintro e w2 ⟨rfl, ⟨nd, rfl⟩⟩))
              have hC2 := Kd.C_drewN HC.out nd
              have hO2 := Kd.R_drewN HO.out nd
              have hB2 := pw_below_drewN HB.out nd
              replace hx0 : (wr.drewN nd).cell? _ = _ := hx0
              replace hx1 : (wr.drewN nd).cell? _ = _ := hx1
              clear hy HC HO HB
              generalize wr.drewN nd = w2 at hC2 hO2 hB2 hx0 hx1 ⊢
              have HC := Aside0.mk hC2
              have HO := Aside0.mk hO2
              have HB := Aside0.mk hB2
              clear hC2 hO2 hB2
              go_upto_region 10 with (first | ((with_reducible refine gate_builtin (b := .append) (xs := #[.tmp 42, .tmp 47]) rfl ?_); (try (refine gate_guard (by rfl) ?_; dsimp only)); at_builtin; refine Kd.R_append k47 (w0 := w) w.heap.size rfl (.tmp 42) (.tmp 47) 25 47 (.agg #[.int .i64 0, .int .i64 0]) 16 rfl Tryd.underlying25 info47 rfl (by decide) (by omega) _ out (rd_T47 rest p) [.int .i64 (rd_T47 rest p).f0, .int .i64 (rd_T47 rest p).f1] (fun _ => True) (fun _ => False) rfl rfl ?aP (fun _ hk => hk.elim) ?aF ?aO ?aB ?aS ?aL ?_; (case aP => exact k47_mkM _ _ _ _); (case aB => exact HB.out); (case aF => exact (fun _ _ => trivial)); (case aO => exact HO.out); (case aS => exact HB.out.size); (case aL => omega); intro v3 w3 ho3 hb3 hg3 hat3))
              have hbR := C_block (d := k47) (by decide) HC.out hpos
              have HC3 := Aside0.mk (C_grown (d := k47) (fun h => k47_any h) HC.out hg3 (fun ad' e hp => HAP.out ad' e hp))
              have HO3 := Aside0.mk ho3
              have HB3 := Aside0.mk hb3
              have hAP3 : some ad.block ≠ v3.ownBlock ∧ ad.block < w3.heap.size := by
                have h1 := HAP.out ad rfl hpos
                have h2 := hbR ad rfl
                refine ⟨?_, Nat.lt_of_lt_of_le h2 hg3.size⟩
                rcases hat3 with h3 | ⟨b, h3, h4⟩
                · rw [h3]; exact h1
                · rw [h3]; intro h5; cases h5; omega
              have HAP3 := Aside0.mk hAP3
              have hpc : (p : Int) ≤ c := by omega
              have hp0 : (0 : Int) ≤ p := by omega
              have hp1 : (0 : Int) ≤ (p : Int) + 1 := by omega
              have hp2 : (p : Int) + 1 ≤ rest.length := by omega
              have hwr : IntKind.i64.wrap ((p : Int) + 1) = (p : Int) + 1 := by rw [i64_w]; unfold wrap64; omega
              have htn : ((p : Int) + 1).toNat = p + 1 := by omega
              clear hx0 hx1 HC HO HB hg3 hat3 ho3 hb3 hAP3 HAP hbR
              go_region_law (refine step_append_rows k47 (A1 := some ad) (A2 := if c = p + 1 then some ad else some (ad.add ((p + 1) * 2))) (xs := rest.take p) (ys := rest.drop (p + 1)) rfl _ _ 25 rfl 47 (.agg #[.int .i64 0, .int .i64 0]) 16 Tryd.underlying25 info47 rfl (by decide) (by decide) p (rest.length - (p + 1)) p (c - (p + 1)) ?hn1 ?hn2 ?hn3 ?hs ?hx ?hn4 ?hn5 ?hn6 ?_; (case hs => go_simp); (case hx => go_simp); (case hn1 => (rw [List.length_take]; omega)); (case hn2 => (rw [List.length_take]; omega)); (case hn3 => exact List.length_drop.symm); (case hn4 => exact Kd.C_take (Kd.C_drew HC3.out) (Nat.le_of_lt hplt)); (case hn5 => exact Kd.C_drop (k := k47) (c := c) (Kd.C_drew HC3.out) hplt hc); (case hn6 => (rw [List.length_take, List.length_drop]; omega)); intro A4 c4 w4 hc4 hC4 hg4 hat4)
              go_wp2
              have hl5 : (rest.take p ++ rest.drop (p + 1)).length + 1 = rest.length := by have := HL.out; have := HM.out; omega
              refine ⟨⟨i + 1, rest.take p ++ rest.drop (p + 1), out ++ [rd_T47 rest p], A4, c4, by go_num, by rw [List.length_append, List.length_take, List.length_drop], hc4, ⟨by have := HSUM.out; omega⟩, ⟨by have := HOUT.out; simp; omega⟩, ⟨?_⟩, ⟨hC4⟩, ⟨Kd.R_grown (Kd.R_drew HO3.out) hg4 (fun k _ => by simp)⟩, ⟨?_⟩, ⟨(below_drew HB3.out).grown hg4 HB3.out.size (fun q e => by cases e)⟩⟩, by have := HSUM.out; simp [intOf]; omega⟩
              · have h1 := HS.out
                rw [← HL.out] at h1
                have h2 : rd_T47 rest p = rest.getD p ⟨0, 0⟩ := by simp [rd_T47, z47]
                rw [h2]; exact h1
              · intro ad' e _
                rcases hat4 with h3 | ⟨ad2', h3, h4⟩
                · rw [h3] at e; cases e; exact HAP3.out.1
                · rw [h3] at e; cases e
                  intro h5
                  obtain ⟨inner, hown⟩ := Kd.R_own HO3.out
                  have := own_lt hown _ h5.symm
                  rw [h4] at this
                  exact Nat.lt_irrefl _ this
          · rw [if_neg hi] at hp
            have ho : (out.length : Int) < a1 := by rcases hcont with h | h; exact h; exact absurd h hi
            clear hcont
            go_upto_region 9 with (fail)
            have hC2 := HC.out
            have hO2 := HO.out
            have hB2 := HB.out
            clear HC HO HB
            generalize wr = w2 at hC2 hO2 hB2 hx0 hx1 ⊢
            have HC := Aside0.mk hC2
            have HO := Aside0.mk hO2
            have HB := Aside0.mk hB2
            clear hC2 hO2 hB2
            rw [show (0 : Int) = (p : Int) by omega]
            clear hp
            go_upto_region 10 with (first | ((with_reducible refine gate_builtin (b := .append) (xs := #[.tmp 42, .tmp 47]) rfl ?_); (try (refine gate_guard (by rfl) ?_; dsimp only)); at_builtin; refine Kd.R_append k47 (w0 := w) w.heap.size rfl (.tmp 42) (.tmp 47) 25 47 (.agg #[.int .i64 0, .int .i64 0]) 16 rfl Tryd.underlying25 info47 rfl (by decide) (by omega) _ out (rd_T47 rest p) [.int .i64 (rd_T47 rest p).f0, .int .i64 (rd_T47 rest p).f1] (fun _ => True) (fun _ => False) rfl rfl ?aP (fun _ hk => hk.elim) ?aF ?aO ?aB ?aS ?aL ?_; (case aP => exact k47_mkM _ _ _ _); (case aB => exact HB.out); (case aF => exact (fun _ _ => trivial)); (case aO => exact HO.out); (case aS => exact HB.out.size); (case aL => omega); intro v3 w3 ho3 hb3 hg3 hat3))
            have hbR := C_block (d := k47) (by decide) HC.out hpos
            have HC3 := Aside0.mk (C_grown (d := k47) (fun h => k47_any h) HC.out hg3 (fun ad' e hp => HAP.out ad' e hp))
            have HO3 := Aside0.mk ho3
            have HB3 := Aside0.mk hb3
            have hAP3 : some ad.block ≠ v3.ownBlock ∧ ad.block < w3.heap.size := by
              have h1 := HAP.out ad rfl hpos
              have h2 := hbR ad rfl
              refine ⟨?_, Nat.lt_of_lt_of_le h2 hg3.size⟩
              rcases hat3 with h3 | ⟨b, h3, h4⟩
              · rw [h3]; exact h1
              · rw [h3]; intro h5; cases h5; omega
            have HAP3 := Aside0.mk hAP3
            have hpc : (p : Int) ≤ c := by omega
            have hp0 : (0 : Int) ≤ p := by omega
            have hp1 : (0 : Int) ≤ (p : Int) + 1 := by omega
            have hp2 : (p : Int) + 1 ≤ rest.length := by omega
            have hwr : IntKind.i64.wrap ((p : Int) + 1) = (p : Int) + 1 := by rw [i64_w]; unfold wrap64; omega
            have htn : ((p : Int) + 1).toNat = p + 1 := by omega
            clear hx0 hx1 HC HO HB hg3 hat3 ho3 hb3 hAP3 HAP hbR
            go_region_law (refine step_append_rows k47 (A1 := some ad) (A2 := if c = p + 1 then some ad else some (ad.add ((p + 1) * 2))) (xs := rest.take p) (ys := rest.drop (p + 1)) rfl _ _ 25 rfl 47 (.agg #[.int .i64 0, .int .i64 0]) 16 Tryd.underlying25 info47 rfl (by decide) (by decide) p (rest.length - (p + 1)) p (c - (p + 1)) ?hn1 ?hn2 ?hn3 ?hs ?hx ?hn4 ?hn5 ?hn6 ?_; (case hs => go_simp); (case hx => go_simp); (case hn1 => (rw [List.length_take]; omega)); (case hn2 => (rw [List.length_take]; omega)); (case hn3 => exact List.length_drop.symm); (case hn4 => exact Kd.C_take (Kd.C_drew HC3.out) (Nat.le_of_lt hplt)); (case hn5 => exact Kd.C_drop (k := k47) (c := c) (Kd.C_drew HC3.out) hplt hc); (case hn6 => (rw [List.length_take, List.length_drop]; omega)); intro A4 c4 w4 hc4 hC4 hg4 hat4)
            go_wp2
            have hl5 : (rest.take p ++ rest.drop (p + 1)).length + 1 = rest.length := by have := HL.out; have := HM.out; omega
            refine ⟨⟨i + 1, rest.take p ++ rest.drop (p + 1), out ++ [rd_T47 rest p], A4, c4, by go_num, by rw [List.length_append, List.length_take, List.length_drop], hc4, ⟨by have := HSUM.out; omega⟩, ⟨by have := HOUT.out; simp; omega⟩, ⟨?_⟩, ⟨hC4⟩, ⟨Kd.R_grown (Kd.R_drew HO3.out) hg4 (fun k _ => by simp)⟩, ⟨?_⟩, ⟨(below_drew HB3.out).grown hg4 HB3.out.size (fun q e => by cases e)⟩⟩, by have := HSUM.out; simp [intOf]; omega⟩
            · have h1 := HS.out
              rw [← HL.out] at h1
              have h2 : rd_T47 rest p = rest.getD p ⟨0, 0⟩ := by simp [rd_T47, z47]
              rw [h2]; exact h1
            · intro ad' e _
              rcases hat4 with h3 | ⟨ad2', h3, h4⟩
              · rw [h3] at e; cases e; exact HAP3.out.1
              · rw [h3] at e; cases e
                intro h5
                obtain ⟨inner, hown⟩ := Kd.R_own HO3.out
                have := own_lt hown _ h5.symm
                rw [h4] at this
                exact Nat.lt_irrefl _ this
        · have hS := HRES.out
          rw [hm, someF, if_neg hcont] at hS
          obtain rfl := hS
          have h1 : ¬ (out.length : Int) < a1 := fun h => hcont (.inl h)
          have h2 : ¬ i < l2.length := fun h => hcont (.inr h)
          clear hcont hm
          go_wp2
          go_ret
          exact ⟨_, rfl, HO.out, HB.out⟩
      · have hS := HRES.out
        obtain rfl : rest = [] := List.eq_nil_of_length_eq_zero (by omega)
        rw [List.length_nil, someF] at hS
        obtain rfl := hS
        go_wp2
        go_ret
        exact ⟨_, rfl, HO.out, HB.out⟩
  · rw [if_neg hlen] at h; cases h
end Go.Proofs.YtkghgaifgpgfkaaDoor.PL
