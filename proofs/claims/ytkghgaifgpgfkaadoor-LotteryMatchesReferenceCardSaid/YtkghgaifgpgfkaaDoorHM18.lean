/- Lemmas and walks for lotteryMatchesReferenceCard_holds (part 18), without what it does not use. -/
import Derived.Lib.ItoaLen
import Derived.Test.YtkghgaifgpgfkaaDoorHM15
import Derived.Test.YtkghgaifgpgfkaaDoorHM16
import Derived.Test.YtkghgaifgpgfkaaDoorHM13
import Derived.Test.YtkghgaifgpgfkaaDoorHM17
section
namespace Go.Proofs.YtkghgaifgpgfkaaDoor.PL
open Go.RowKit Go.Proofs.YtkghgaifgpgfkaaDoorW.PrintWords Go.Proofs.YtkghgaifgpgfkaaDoorW.PrintLast Go.Proofs.YtkghgaifgpgfkaaDoorW.PrintMore
set_option linter.unusedVariables false
set_option linter.unusedSimpArgs false
theorem rd_at (l : List Int) (i : Nat) (h : i < l.length) : rd l (i : Int) = l[i] := by simp [rd, List.getD_eq_getElem?_getD, List.getElem?_eq_getElem h]
def hashStep (h x : Int) : Int := IntKind.u64.wrap ((Go.bits .xor .u64 h (IntKind.u64.wrap x)) * 1099511628211)
def sumB (l : List Int) : Int := l.foldl hashStep 14695981039346656037
theorem digest_Sum_l0 (l : List Int) (hl : l.length < 9223372036854775807) : ∀ (d : Nat) (i : Nat) (h : Int), i + d = l.length → digest_Sum.l0 (d + 1) h l (l.length : Int) (i : Int) = some ((l.drop i).foldl hashStep h)
  | 0, i, h, e => by
    have : i = l.length := by omega
    subst this
    simp [digest_Sum.l0]
  | d + 1, i, h, e => by
    have hlt : i < l.length := by omega
    unfold digest_Sum.l0
    rw [if_pos (by omega), if_pos (by omega), if_pos (by omega)]
    have ew : wrap64 ((i : Int) + 1) = ((i + 1 : Nat) : Int) := by unfold wrap64; omega
    rw [ew, digest_Sum_l0 l hl d (i + 1) _ (by omega), List.drop_eq_getElem_cons hlt, List.foldl_cons, rd_at l i hlt]
    rfl
theorem digest_Sum_eq (l : List Int) (hl : l.length < 9223372036854775807) : digest_Sum.f (l.length + 1) l = some (sumB l) := by
  unfold digest_Sum.f sumB
  have := digest_Sum_l0 l hl l.length 0 14695981039346656037 (by omega)
  simpa using this
def bytesI (l : List UInt8) : List Int := l.map fun b => (b.toNat : Int)
theorem byteCells_nums (l : List UInt8) : Lib.byteCells l = nums .u8 (bytesI l) := by simp [Lib.byteCells, nums, bytesI]
def numeral (n : Int) : List Int := bytesI (Lib.itoa n) ++ [32]
def intsB (l : List Int) : List Int := l.flatMap numeral
def i64B (n : Int) : Bool := decide (-9223372036854775808 ≤ n) && decide (n ≤ 9223372036854775807)
def digest_Ints.f (l0 : List Int) : Option (Int) := if l0.length ≤ 1000000 ∧ l0.all i64B = true then some (sumB (intsB l0)) else none
theorem intsB_succ (l : List Int) (i : Nat) (h : i < l.length) : intsB (l.take (i + 1)) = intsB (l.take i) ++ bytesI (Lib.itoa (rd l i)) ++ [32] := by
  rw [List.take_succ_eq_append_getElem h, rd_at l i h, intsB, List.flatMap_append]
  simp [intsB, numeral]
theorem intsB_length (l : List Int) (h : l.all i64B = true) : (intsB l).length ≤ 22 * l.length := by
  induction l with
  | nil => simp [intsB]
  | cons x l ih =>
    simp only [List.all_cons, Bool.and_eq_true] at h
    have hx := h.1
    simp only [i64B, Bool.and_eq_true, decide_eq_true_eq] at hx
    have h1 := Lib.itoa_length_le x hx.1 hx.2
    have h2 := ih h.2
    simp only [intsB, List.flatMap_cons, List.length_append, numeral, bytesI, List.length_map, List.length_cons, List.length_nil] at h2 ⊢
    omega
theorem all_take (p : Int → Bool) (l : List Int) (i : Nat) (h : l.all p = true) : (l.take i).all p = true := by
  rw [List.all_eq_true] at h ⊢
  exact fun x hx => h x (List.mem_of_mem_take hx)
set_option maxHeartbeats 2000000 in
theorem digest_Ints.calls (A0 : Option Addr) (c0 : Nat) (l0 : List Int) (r : Int) (w : World) (hT : TabW w) (hr0 : Kd.C (Kd.int .i64) w A0 l0.length l0) (hc0 : l0.length ≤ c0) (h : digest_Ints.f l0 = some r) :
    Calls Tryd.prog 51 #[.slice A0 l0.length c0] w fun e w' => e = .returned (.int .u64 r) ∧ Below w.heap.size w w' := by
  have HR := Aside0.mk hr0
  have HTAB := Aside0.mk hT
  clear hr0 hT
  unfold digest_Ints.f at h
  by_cases hcond : l0.length ≤ 1000000 ∧ l0.all i64B = true
  · rw [if_pos hcond] at h
    obtain rfl := Option.some.inj h
    clear h
    obtain ⟨hlen, hall⟩ := hcond
    have HA := Aside0.mk hall
    clear hall
    go_enter Tryd.func51, Tryd.ntmps51
    go_wp2
    go_loopw [3, 8] (fun v3 v8 wr => ∃ i : Nat, v8 = .int .i64 i ∧ i ≤ l0.length ∧ Aside0 (wr.ownsRow w.heap.size 5 1 v3 (intsB (l0.take i)).length (nums .u8 (intsB (l0.take i)))) ∧ Aside0 (Below w.heap.size w wr))
      (fun _ v8 _ => l0.length - (intOf v8).toNat)
    case atStart => exact ⟨0, rfl, Nat.zero_le _, ⟨by simpa [intsB, nums] using own_nil _ _ _ _⟩, ⟨by repeat (first | exact Below.refl _ _ | apply pw_below_drewN | apply below_drew)⟩⟩
    case round =>
      obtain ⟨i, rfl, hi, HO, HB⟩ := hrel
      by_cases hlt : i < l0.length
      · obtain ⟨ad, e1, hx⟩ := Kd.at_int (Kd.C_below HR.out HB.out) (i : Int) (by omega) (by omega)
        cases e1
        rw [Int.toNat_natCast] at hx
        have hxr : i64B (rd l0 i) = true := by
          rw [rd_at l0 i hlt]
          exact List.all_eq_true.1 HA.out _ (List.getElem_mem hlt)
        simp only [i64B, Bool.and_eq_true, decide_eq_true_eq] at hxr
        have hL := Aside0.mk (intsB_length (l0.take i) (all_take _ _ _ HA.out))
        have HE := Aside0.mk (intsB_succ l0 i hlt)
        go_wp2_with fail
        refine (Tryd.strconv_AppendInt_10 w.heap.size _ (rd l0 i) hxr.1 hxr.2 _ _ wr HO.out HB.out.size ?_ (HTAB.out.under.on HB.out)).mono ?_
        · have h1 := hL.out
          have h2 : (l0.take i).length ≤ l0.length := by rw [List.length_take]; omega
          have h3 : 22 * (l0.take i).length ≤ 22 * 1000000 := by omega
          omega
        rintro e w2 ⟨v2, rfl, hown2, hB2, -⟩
        rw [byteCells_nums, ← nums_append] at hown2
        have hlen2 : (intsB (l0.take i)).length + (Lib.itoa (rd l0 i)).length = (intsB (l0.take i) ++ bytesI (Lib.itoa (rd l0 i))).length := by simp [bytesI]
        rw [hlen2] at hown2
        have hlim : (intsB (l0.take i) ++ bytesI (Lib.itoa (rd l0 i))).length + 1 ≤ 140737488355328 := by
          have h1 := hL.out
          have h2 : (l0.take i).length ≤ l0.length := by rw [List.length_take]; omega
          have h3 : 22 * (l0.take i).length ≤ 22 * 1000000 := by omega
          have h4 := Lib.itoa_length_le (rd l0 i) hxr.1 hxr.2
          simp only [List.length_append, bytesI, List.length_map]
          omega
        obtain ⟨ys, hys⟩ : ∃ ys, ys = intsB (l0.take i) ++ bytesI (Lib.itoa (rd l0 i)) := ⟨_, rfl⟩
        rw [← hys] at hown2 hlim
        have HY := Aside0.mk hys
        clear hys
        have HO2 := Aside0.mk hown2
        have HB2 := Aside0.mk (HB.out.trans hB2)
        clear hown2 hB2 HO HB
        go_wp2_with (at_builtin; refine print_append_num (w0 := w) w.heap.size rfl _ _ 97 5 .u8 1 rfl Tryd.underlying97 info5 (by decide) v2 ys 32 rfl rfl HO2.out HB2.out HB2.out.size (by omega) ?_; intro v3 w3 ho hb hg hat)
        refine ⟨⟨i + 1, by go_num, by omega, ⟨?_⟩, ⟨hb⟩⟩, by simp [intOf]; omega⟩
        rw [HE.out, ← HY.out]
        exact ho
      · have hii : i = l0.length := by omega
        subst hii
        obtain ⟨A, c, rfl, hrd⟩ := own_reads HO.out
        rw [List.take_length] at hrd
        have hc2 : (intsB l0).length ≤ c := by
          have h1 := HO.out
          rw [List.take_length] at h1
          rcases h1.2 with ⟨hv, hn⟩ | ⟨g, cap, cur, hv, -, -, hnc, -⟩
          · injection hv with _ hl _
            omega
          · injection hv with _ _ hc
            omega
        have hz := intsB_length l0 HA.out
        have hlim : (intsB l0).length < 9223372036854775807 := by
          have : 22 * l0.length ≤ 22 * 1000000 := by omega
          omega
        have HQ := Aside0.mk (digest_Sum_eq (intsB l0) hlim)
        go_wp2_with fail
        refine (digest_Sum.calls _ _ _ (intsB l0) _ _ (Kd.C_of_reads (d := (0 : Int)) (h1 := fun _ => rfl) hrd) hc2 HQ.out).mono ?_
        rintro e w' ⟨rfl, ⟨nd, rfl⟩⟩
        go_wp2
        go_ret
        exact ⟨rfl, pw_below_drewN HB.out _⟩
  · rw [if_neg hcond] at h
    cases h
end Go.Proofs.YtkghgaifgpgfkaaDoor.PL
end
