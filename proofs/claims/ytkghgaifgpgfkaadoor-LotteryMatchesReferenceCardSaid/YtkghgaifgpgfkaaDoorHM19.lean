/- Lemmas and walks for lotteryMatchesReferenceCard_holds (part 19), without what it does not use. -/
import Derived.Test.YtkghgaifgpgfkaaDoorHM14
import Derived.Deep.Slices
import Derived.ChangeSame
import Derived.ChangeArms
import Derived.Carry
import Derived.Lib.SmallJoins
import Derived.Deep.Strs
import Derived.Test.YtkghgaifgpgfkaaDoorHM18
section
namespace Go.Proofs.YtkghgaifgpgfkaaDoor.PL
open Go.ChangeShapes Go.WideShapes Go.RowKit Go.Proofs.YtkghgaifgpgfkaaDoorW.PrintWords Go.Proofs.YtkghgaifgpgfkaaDoorW.PrintLast Go.Proofs.YtkghgaifgpgfkaaDoorW.PrintMore
set_option linter.unusedVariables false
section
variable {H : Type} {enc : TypeId × Value → H} {P : Program} {W : World}
def OpenK {α : Type} (enc : TypeId × Value → H) (P : Program) (W : World) (t : TypeId) (d : Kd α) (ok : α → Prop) : Prop :=
  ∀ (base : Nat) (sp : Nat → Bool) (held : Bool) (fuel : Nat) (cs : List Value) (y : DataW H × List MemPlace), DataW.trod enc P W base sp held fuel t cs = some y → ∃ x, d.K W x cs ∧ ok x
theorem OpenK.int {t : TypeId} {k : IntKind} (ht : P.underlying t = some (.int k)) : OpenK enc P W t (Kd.int k) (fun n => (Lit.int k n).wf = true) := by
  intro base sp held fuel cs y h
  obtain ⟨n, hc, hx, hw⟩ := DataW.trod_int ht h
  exact ⟨n, hc, hw⟩
theorem OpenK.bool {t : TypeId} (ht : P.underlying t = some .bool) : OpenK enc P W t Kd.bool (fun _ => True) := by
  intro base sp held fuel cs y h
  obtain ⟨b, hc, _⟩ := DataW.trod_bool ht h
  exact ⟨b, hc, trivial⟩
theorem OpenK.slice {α : Type} [Inhabited α] {t e : TypeId} {d : Kd α} {ok : α → Prop} (ht : P.underlying t = some (.slice e)) (hc : P.cellsOf e = d.sz) (h : OpenK enc P W e d ok) : OpenK enc P W t (Kd.slice e d) (fun xs => ∀ x ∈ xs, ok x) := by
  intro base sp held fuel cs y hy
  rcases Go.Deep.open_slice ht hy with ⟨rfl, _⟩ | ⟨a, len, cap, m, n, D, Pl, rfl, hb, hl, hm, hmm, rfl, hx⟩
  · exact ⟨[], ⟨none, 0, rfl, Nat.le_refl _, ⟨rfl, by simp, fun h => by simp at h⟩⟩, by simp⟩
  · have hle : len ≤ m := by rw [hmm]; split <;> omega
    obtain ⟨X, hX⟩ := Go.Deep.choose_lt (α := α) (p := fun i x => ok x ∧ ∃ c, c.length = d.sz ∧ d.K W x c ∧ ∀ j u, c[j]? = some u → W.cell? (a.add (i * d.sz + j)) = some u) (n := len) (fun i hi => by
      obtain ⟨cs', h1, h2⟩ := hx i (by omega)
      obtain ⟨_, hlen, hcell⟩ := World.cells?_some h1
      obtain ⟨x, hk, ho⟩ := h _ _ _ _ _ _ h2
      refine ⟨x, ho, cs', by rw [hlen, hc], hk, fun j u hu => ?_⟩
      have hj : j < P.cellsOf e := by
        have := (List.getElem?_eq_some_iff.1 hu).1
        omega
      have := hcell j hj
      rw [add_add, hc, hu] at this
      exact this)
    refine ⟨(List.range len).map X, ⟨some a, cap, by simp, by simpa using hl, ⟨rfl, ?_, fun _ => ⟨a, rfl, fun j p hj => ?_⟩⟩⟩, fun x hx' => ?_⟩
    · unfold maxLen at hm
      simp only [List.length_map, List.length_range]
      omega
    · obtain ⟨hj1, rfl⟩ := List.getElem?_eq_some_iff.1 hj
      simp only [List.length_map, List.length_range] at hj1
      simp only [List.getElem_map, List.getElem_range]
      exact (hX j hj1).2
    · obtain ⟨i, hi, rfl⟩ := List.mem_map.1 hx'
      exact (hX i (List.mem_range.1 hi)).1
theorem OpenK.arg {α : Type} {t e : TypeId} {d : Kd α} {ok : List α → Prop} (h : OpenK enc P W t (Kd.slice e d) ok) {r : Reach} {b0 base : Nat} {sp : Nat → Bool} {held : Bool} {v : Value} {dd : DataW H} {ps : List MemPlace} {u : TypeId}
    (ht : P.underlying t = some (.slice u)) (hv : Value.okWide P W r b0 t v) (hd : DataW.Trod enc P W base sp held t v dd ps) : ∃ (A : Option Addr) (c : Nat) (xs : List α), v = .slice A xs.length c ∧ xs.length ≤ c ∧ d.C W A xs.length xs ∧ ok xs := by
  obtain ⟨A, l, c, rfl⟩ := okWide_slice ht hv
  obtain ⟨fuel, hf⟩ := hd
  obtain ⟨xs, ⟨A', c', hcs, hl, hC⟩, hok⟩ := h _ _ _ _ _ _ hf
  have : [Value.slice A l c] = [.slice A' xs.length c'] := hcs
  injection this with this _
  cases this
  exact ⟨A, c, xs, rfl, hl, hC, hok⟩
end
instance : Inhabited S47 := ⟨z47⟩
instance : Inhabited S31 := ⟨z31⟩
instance : Inhabited S23 := ⟨z23⟩
instance : Inhabited S58 := ⟨z58⟩
theorem i64_of_wf {n : Int} (h : (Lit.int .i64 n).wf = true) : i64B n = true := by
  have := bounds_i64 h
  simp only [i64B, Bool.and_eq_true, decide_eq_true_eq]
  omega
def S47ok (s : S47) : Prop := i64B s.f0 = true ∧ i64B s.f1 = true
def S31ok (s : S31) : Prop := i64B s.f0 = true ∧ (Lit.int .u64 s.f1).wf = true ∧ ∀ t ∈ s.f2, S47ok t
def S23ok' (s : S23) : Prop := i64B s.f0 = true ∧ i64B s.f1 = true ∧ i64B s.f2 = true
section
variable {H : Type} {enc : TypeId × Value → H} {W : World}
theorem cells3 : Tryd.prog.cellsOf 3 = 1 := by kernel_rfl
theorem cells29' : Tryd.prog.cellsOf 29 = 1 := by kernel_rfl
theorem cells25 : Tryd.prog.cellsOf 25 = 1 := by kernel_rfl
theorem cells47 : Tryd.prog.cellsOf 47 = 2 := by kernel_rfl
theorem cells23 : Tryd.prog.cellsOf 23 = 3 := by kernel_rfl
theorem cells31 : Tryd.prog.cellsOf 31 = 3 := by kernel_rfl
set_option maxRecDepth 100000 in
theorem open47 : OpenK enc Tryd.prog W 47 k47 S47ok := by
  intro base sp held fuel cs y h
  obtain ⟨y0, y1, n, hx, hl, h0, h1⟩ := trod_struct2 Tryd.underlying47 h
  rw [cells47] at hl
  match cs, hl with
  | [a, b], _ =>
    rw [cells3] at h0 h1
    obtain ⟨z0, e0, -, w0⟩ := DataW.trod_int Tryd.underlying3 h0
    obtain ⟨z1, e1, -, w1⟩ := DataW.trod_int Tryd.underlying3 h1
    have e0' : a = .int .i64 z0 := by simpa using e0
    have e1' : b = .int .i64 z1 := by simpa using e1
    subst e0' e1'
    exact ⟨⟨z0, z1⟩, k47_mk W ⟨z0, z1⟩, i64_of_wf w0, i64_of_wf w1⟩
set_option maxRecDepth 100000 in
theorem open23 : OpenK enc Tryd.prog W 23 k23 S23ok' := by
  intro base sp held fuel cs y h
  obtain ⟨y0, y1, y2, n, hx, hl, h0, h1, h2⟩ := Go.Deep.trod_struct3 Tryd.underlying23 h
  rw [cells23] at hl
  match cs, hl with
  | [a, b, c], _ =>
    rw [cells3] at h0 h1 h2
    obtain ⟨z0, e0, -, w0⟩ := DataW.trod_int Tryd.underlying3 h0
    obtain ⟨z1, e1, -, w1⟩ := DataW.trod_int Tryd.underlying3 h1
    obtain ⟨z2, e2, -, w2⟩ := DataW.trod_int Tryd.underlying3 h2
    have e0' : a = .int .i64 z0 := by simpa using e0
    have e1' : b = .int .i64 z1 := by simpa using e1
    have e2' : c = .int .i64 z2 := by simpa using e2
    subst e0' e1' e2'
    exact ⟨⟨z0, z1, z2⟩, k23_mk W ⟨z0, z1, z2⟩, i64_of_wf w0, i64_of_wf w1, i64_of_wf w2⟩
set_option maxRecDepth 100000 in
theorem open31 : OpenK enc Tryd.prog W 31 k31 S31ok := by
  intro base sp held fuel cs y h
  obtain ⟨y0, y1, y2, n, hx, hl, h0, h1, h2⟩ := Go.Deep.trod_struct3 Tryd.underlying31 h
  rw [cells31] at hl
  match cs, hl with
  | [a, b, c], _ =>
    rw [cells3] at h0
    rw [cells29'] at h1
    rw [cells25] at h2
    obtain ⟨z0, e0, -, w0⟩ := DataW.trod_int Tryd.underlying3 h0
    obtain ⟨z1, e1, -, w1⟩ := DataW.trod_int Tryd.underlying29 h1
    obtain ⟨xs, ⟨A, cc, e2, hle, hC⟩, hok⟩ := OpenK.slice (enc := enc) (W := W) Tryd.underlying25 cells47 open47 _ _ _ _ _ _ h2
    have e0' : a = .int .i64 z0 := by simpa using e0
    have e1' : b = .int .u64 z1 := by simpa using e1
    have e2' : c = .slice A xs.length cc := by simpa using e2
    subst e0' e1' e2'
    exact ⟨⟨z0, z1, xs⟩, k31_mk W ⟨z0, z1, xs⟩ hle hC, i64_of_wf w0, w1, hok⟩
end
end Go.Proofs.YtkghgaifgpgfkaaDoor.PL
end
