/- Lemmas and walks for lotteryHonestCard_holds (part 19), without what it does not use. -/
import Derived.Test.YtkghgaifgpgfkaaDoorH14
import Derived.Deep.Slices
import Derived.ChangeSame
import Derived.ChangeArms
import Derived.Carry
import Derived.Lib.SmallJoins
import Derived.Deep.Strs
import Derived.Test.YtkghgaifgpgfkaaDoorH18
section
namespace Go.Proofs.YtkghgaifgpgfkaaDoor.PL
open Go.ChangeShapes Go.WideShapes Go.RowKit Go.Proofs.YtkghgaifgpgfkaaDoorW.PrintWords Go.Proofs.YtkghgaifgpgfkaaDoorW.PrintLast Go.Proofs.YtkghgaifgpgfkaaDoorW.PrintMore
set_option linter.unusedVariables false
section
variable {H : Type} {enc : TypeId × Value → H} {P : Program} {W : World}
def OpenK {α : Type} (enc : TypeId × Value → H) (P : Program) (W : World) (t : TypeId) (d : Kd α) (ok : α → Prop) : Prop :=
  ∀ (base : Nat) (sp : Nat → Bool) (held : Bool) (fuel : Nat) (cs : List Value) (y : DataW H × List MemPlace), DataW.trod enc P W base sp held fuel t cs = some y → ∃ x, d.K W x cs ∧ ok x
theorem OpenK.int {t : TypeId} {k : IntKind} (ht : P.underlying t = some (.int k)) : OpenK enc P W t (Kd.int k) (fun n => (Lit.int k n).wf = true) := by
  intro base sp held fuel cs y h
  obtain ⟨n, hc, hx, hw⟩ := DataW.trod_int ht h
  exact ⟨n, hc, hw⟩
theorem OpenK.bool {t : TypeId} (ht : P.underlying t = some .bool) : OpenK enc P W t Kd.bool (fun _ => True) := by
  intro base sp held fuel cs y h
  obtain ⟨b, hc, _⟩ := DataW.trod_bool ht h
  exact ⟨b, hc, trivial⟩
theorem OpenK.slice {α : Type} [Inhabited α] {t e : TypeId} {d : Kd α} {ok : α → Prop} (ht : P.underlying t = some (.slice e)) (hc : P.cellsOf e = d.sz) (h : OpenK enc P W e d ok) : OpenK enc P W t (Kd.slice e d) (fun xs => ∀ x ∈ xs, ok x) := by
  intro base sp held fuel cs y hy
  rcases Go.Deep.open_slice ht hy with ⟨rfl, _⟩ | ⟨a, len, cap, m, n, D, Pl, rfl, hb, hl, hm, hmm, rfl, hx⟩
  · exact ⟨[], ⟨none, 0, rfl, Nat.le_refl _, ⟨rfl, by simp, fun h => by simp at h⟩⟩, by simp⟩
  · have hle : len ≤ m := by rw [hmm]; split <;> omega
    obtain ⟨X, hX⟩ := Go.Deep.choose_lt (α := α) (p := fun i x => ok x ∧ ∃ c, c.length = d.sz ∧ d.K W x c ∧ ∀ j u, c[j]? = some u → W.cell? (a.add (i * d.sz + j)) = some u) (n := len) (fun i hi => by
      obtain ⟨cs', h1, h2⟩ := hx i (by omega)
      obtain ⟨_, hlen, hcell⟩ := World.cells?_some h1
      obtain ⟨x, hk, ho⟩ := h _ _ _ _ _ _ h2
      refine ⟨x, ho, cs', by rw [hlen, hc], hk, fun j u hu => ?_⟩
      have hj : j < P.cellsOf e := by
        have := (List.getElem?_eq_some_iff.1 hu).1
        omega
      have := hcell j hj
      rw [add_add, hc, hu] at this
      exact this)
    refine ⟨(List.range len).map X, ⟨some a, cap, by simp, by simpa using hl, ⟨rfl, ?_, fun _ => ⟨a, rfl, fun j p hj => ?_⟩⟩⟩, fun x hx' => ?_⟩
    · unfold maxLen at hm
      simp only [List.length_map, List.length_range]
      omega
    · obtain ⟨hj1, rfl⟩ := List.getElem?_eq_some_iff.1 hj
      simp only [List.length_map, List.length_range] at hj1
      simp only [List.getElem_map, List.getElem_range]
      exact (hX j hj1).2
    · obtain ⟨i, hi, rfl⟩ := List.mem_map.1 hx'
      exact (hX i (List.mem_range.1 hi)).1
theorem OpenK.arg {α : Type} {t e : TypeId} {d : Kd α} {ok : List α → Prop} (h : OpenK enc P W t (Kd.slice e d) ok) {r : Reach} {b0 base : Nat} {sp : Nat → Bool} {held : Bool} {v : Value} {dd : DataW H} {ps : List MemPlace} {u : TypeId}
    (ht : P.underlying t = some (.slice u)) (hv : Value.okWide P W r b0 t v) (hd : DataW.Trod enc P W base sp held t v dd ps) : ∃ (A : Option Addr) (c : Nat) (xs : List α), v = .slice A xs.length c ∧ xs.length ≤ c ∧ d.C W A xs.length xs ∧ ok xs := by
  obtain ⟨A, l, c, rfl⟩ := okWide_slice ht hv
  obtain ⟨fuel, hf⟩ := hd
  obtain ⟨xs, ⟨A', c', hcs, hl, hC⟩, hok⟩ := h _ _ _ _ _ _ hf
  have : [Value.slice A l c] = [.slice A' xs.length c'] := hcs
  injection this with this _
  cases this
  exact ⟨A, c, xs, rfl, hl, hC, hok⟩
end
instance : Inhabited S47 := ⟨z47⟩
instance : Inhabited S31 := ⟨z31⟩
instance : Inhabited S23 := ⟨z23⟩
instance : Inhabited S58 := ⟨z58⟩
theorem i64_of_wf {n : Int} (h : (Lit.int .i64 n).wf = true) : i64B n = true := by
  have := bounds_i64 h
  simp only [i64B, Bool.and_eq_true, decide_eq_true_eq]
  omega
section
variable {H : Type} {enc : TypeId × Value → H} {W : World}
theorem cells3 : Tryd.prog.cellsOf 3 = 1 := by kernel_rfl
def S58fine (s : S58) : Prop := ((0 ≤ s.f0 ∧ s.f0 ≤ 4294967295) ∧ (0 ≤ s.f1 ∧ s.f1 ≤ 4294967295) ∧ ∀ x ∈ s.f2, 0 ≤ x ∧ x ≤ 4294967295) ∧ i64B s.f4 = true ∧ i64B s.f5 = true ∧ i64B s.f6 = true
theorem cells55 : Tryd.prog.cellsOf 55 = 1 := by kernel_rfl
theorem cells56 : Tryd.prog.cellsOf 56 = 1 := by kernel_rfl
theorem cells4 : Tryd.prog.cellsOf 4 = 1 := by kernel_rfl
theorem cells58 : Tryd.prog.cellsOf 58 = 7 := by kernel_rfl
set_option maxRecDepth 100000 in
theorem open58 : OpenK enc Tryd.prog W 58 k58 S58fine := by
  intro base sp held fuel cs y h
  obtain ⟨ys, n, -, -, hl, hlen, hf⟩ := DataW.trod_struct Tryd.underlying58 h
  rw [cells58] at hl
  match ys, hlen with
  | [y0, y1, y2, y3, y4, y5, y6], _ =>
    have h0 : DataW.trod enc Tryd.prog W base sp held n 55 ((cs.drop 0).take (Tryd.prog.cellsOf 55)) = some y0 := hf 0 _ rfl
    have h1 : DataW.trod enc Tryd.prog W base sp held n 55 ((cs.drop 1).take (Tryd.prog.cellsOf 55)) = some y1 := hf 1 _ rfl
    have h2 : DataW.trod enc Tryd.prog W base sp held n 56 ((cs.drop 2).take (Tryd.prog.cellsOf 56)) = some y2 := hf 2 _ rfl
    have h3 : DataW.trod enc Tryd.prog W base sp held n 4 ((cs.drop 3).take (Tryd.prog.cellsOf 4)) = some y3 := hf 3 _ rfl
    have h4 : DataW.trod enc Tryd.prog W base sp held n 3 ((cs.drop 4).take (Tryd.prog.cellsOf 3)) = some y4 := hf 4 _ rfl
    have h5 : DataW.trod enc Tryd.prog W base sp held n 3 ((cs.drop 5).take (Tryd.prog.cellsOf 3)) = some y5 := hf 5 _ rfl
    have h6 : DataW.trod enc Tryd.prog W base sp held n 3 ((cs.drop 6).take (Tryd.prog.cellsOf 3)) = some y6 := hf 6 _ rfl
    match cs, hl with
    | [a, b, c, d, e, f, g], _ =>
      rw [cells55] at h0 h1
      rw [cells56] at h2
      rw [cells4] at h3
      rw [cells3] at h4 h5 h6
      obtain ⟨z0, e0, -, w0⟩ := DataW.trod_int Tryd.underlying55 h0
      obtain ⟨z1, e1, -, w1⟩ := DataW.trod_int Tryd.underlying55 h1
      obtain ⟨xs, ⟨A, cc, e2, hle, hC⟩, hok⟩ := OpenK.slice (enc := enc) (W := W) Tryd.underlying56 cells55 (OpenK.int Tryd.underlying55) _ _ _ _ _ _ h2
      obtain ⟨z3, e3, -⟩ := DataW.trod_bool Tryd.underlying4 h3
      obtain ⟨z4, e4, -, w4⟩ := DataW.trod_int Tryd.underlying3 h4
      obtain ⟨z5, e5, -, w5⟩ := DataW.trod_int Tryd.underlying3 h5
      obtain ⟨z6, e6, -, w6⟩ := DataW.trod_int Tryd.underlying3 h6
      have e0' : a = .int .u32 z0 := by simpa using e0
      have e1' : b = .int .u32 z1 := by simpa using e1
      have e2' : c = .slice A xs.length cc := by simpa using e2
      have e3' : d = .bool z3 := by simpa using e3
      have e4' : e = .int .i64 z4 := by simpa using e4
      have e5' : f = .int .i64 z5 := by simpa using e5
      have e6' : g = .int .i64 z6 := by simpa using e6
      subst e0' e1' e2' e3' e4' e5' e6'
      exact ⟨⟨z0, z1, xs, z3, z4, z5, z6⟩, k58_mk W ⟨z0, z1, xs, z3, z4, z5, z6⟩ hle hC, ⟨bounds_u32 w0, bounds_u32 w1, fun x hx => bounds_u32 (hok x hx)⟩, i64_of_wf w4, i64_of_wf w5, i64_of_wf w6⟩
end
end Go.Proofs.YtkghgaifgpgfkaaDoor.PL
end
