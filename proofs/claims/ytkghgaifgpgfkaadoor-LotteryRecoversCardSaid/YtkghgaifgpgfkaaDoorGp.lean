/- append of one row that is read to another whose capacity is its length: nothing is appended, or a new row. -/
import Derived.Test.YtkghgaifgpgfkaaDoorPLx5
import Derived.Deep.AppendSrc
import Derived.Deep.RegionLaw
import Derived.Deep.Upon
import Derived.Laws.AppendOwn
namespace Go.Proofs.YtkghgaifgpgfkaaDoor.PL
open Go.RowKit Go.Proofs.YtkghgaifgpgfkaaDoorW.PrintWords Go.Proofs.YtkghgaifgpgfkaaDoorW.PrintLast Go.Proofs.YtkghgaifgpgfkaaDoorW.PrintMore
set_option linter.unusedVariables false
set_option linter.unusedSimpArgs false
theorem reps_append {α : Type} {R : α → List Value → Prop} {size : Nat} {xs ys : List α} {cs ds : List Value} (h : Reps R size xs cs) (g : Reps R size ys ds) : Reps R size (xs ++ ys) (cs ++ ds) := by
  refine ⟨by rw [List.length_append, h.1, g.1, List.length_append, Nat.add_mul], fun j q hq => ?_⟩
  by_cases hj : j < xs.length
  · rw [List.getElem?_append_left hj] at hq
    have := h.2 j q hq
    have hle : j * size + size ≤ cs.length := by rw [h.1, ← Nat.succ_mul]; exact Nat.mul_le_mul_right _ hj
    rw [List.drop_append_of_le_length (by omega), List.take_append_of_le_length (by rw [List.length_drop]; omega)]
    exact this
  · rw [List.getElem?_append_right (by omega)] at hq
    have := g.2 _ q hq
    have e : j * size = cs.length + (j - xs.length) * size := by
      rw [h.1, ← Nat.add_mul]; congr 1; omega
    rw [e, List.drop_append, List.drop_of_length_le (by omega), List.nil_append, show cs.length + (j - xs.length) * size - cs.length = (j - xs.length) * size by omega]
    exact this
theorem reps_one {α : Type} {d : Kd α} {w : World} {xs : List α} {cs : List Value} (h : Reps (d.K w) d.sz xs cs) (hsz : 0 < d.sz) : ∀ u ∈ cs, u.oneCell' = true := by
  intro u hu
  obtain ⟨i, hi, rfl⟩ := List.getElem_of_mem hu
  have hl := h.1
  have hj : i / d.sz < xs.length := by rw [Nat.div_lt_iff_lt_mul hsz]; omega
  have hk := h.2 (i / d.sz) _ (List.getElem?_eq_getElem hj)
  refine d.K_one hk _ ?_
  have hm : i = i / d.sz * d.sz + i % d.sz := by rw [Nat.mul_comm]; exact (Nat.div_add_mod i d.sz).symm
  have hlt := Nat.mod_lt i hsz
  refine List.mem_iff_getElem?.2 ⟨i % d.sz, ?_⟩
  rw [List.getElem?_take_of_lt hlt, List.getElem?_drop, ← hm]
  exact List.getElem?_eq_getElem hi
theorem add_block' (a : Addr) (k : Nat) : (a.add k).block = a.block := by
  unfold Addr.add
  split <;> rfl
theorem cell_lt' {w : World} {a : Addr} {v : Value} (h : w.cell? a = some v) : a.block < w.heap.size := by
  unfold World.cell? at h
  by_cases hl : a.block < w.heap.size
  · exact hl
  · rw [Array.getElem?_eq_none (by omega)] at h; cases h
/-- A row that is read stays as it was while another block is written. -/
theorem C_grown {α : Type} {d : Kd α} (hK : ∀ {w w1 : World} {x : α} {cs : List Value}, d.K w x cs → d.K w1 x cs) {w w1 : World} {A : Option Addr} {n : Nat} {xs : List α} {row : Option Nat} (h : d.C w A n xs) (hg : w.grownBy w1 row) (hne : ∀ ad, A = some ad → 0 < n → some ad.block ≠ row) : d.C w1 A n xs := by
  refine ⟨h.1, h.2.1, fun hp => ?_⟩
  obtain ⟨ad, e, hc⟩ := h.2.2 hp
  refine ⟨ad, e, fun j p hj => ?_⟩
  obtain ⟨c, hs, hr, hcell⟩ := hc j p hj
  refine ⟨c, hs, hK hr, fun i u hu => ?_⟩
  have h1 := hcell i u hu
  have h2 := cell_lt' h1
  have h3 := hne ad e hp
  rw [← add_block' ad (j * d.sz + i)] at h3
  unfold World.cell? at h1 ⊢
  rw [hg.block _ h2 h3]
  exact h1
theorem C_block {α : Type} {d : Kd α} {w : World} {A : Option Addr} {n : Nat} {xs : List α} (hsz : 0 < d.sz) (h : d.C w A n xs) (hp : 0 < n) : ∀ ad, A = some ad → ad.block < w.heap.size := by
  intro ad e
  obtain ⟨ad', e', hc⟩ := h.2.2 hp
  rw [e] at e'; cases e'
  have hl : 0 < xs.length := by rw [h.1]; exact hp
  obtain ⟨c, hs, _, hcell⟩ := hc 0 _ (List.getElem?_eq_getElem hl)
  have := cell_lt' (hcell 0 _ (List.getElem?_eq_getElem (by omega)))
  rw [add_block'] at this
  exact this
section
variable {P : Program} {α : Type} (d : Kd α)
theorem C_inner {w : World} {A : Option Addr} {xs : List α} (h : d.C w A xs.length xs) (c : Nat) : ∃ inner, Reps (d.K w) d.sz xs inner ∧ (∀ w' : World, w'.heap = w.heap → (Builtin.firstCells d.sz xs.length (.slice A xs.length c)).run P w' = .ok inner.toArray w') := by
  rcases Nat.eq_zero_or_pos xs.length with h0 | h0
  · obtain rfl := List.eq_nil_of_length_eq_zero h0
    refine ⟨[], Reps.none _ _, fun w' _ => ?_⟩
    cases A with
    | none => exact run_firstCells_none _ _ _ _ _
    | some ad => exact run_firstCells_some _ _ _ _ _ _ [] (by simp) (fun j v hv => by simp at hv)
  · obtain ⟨ad, rfl, _⟩ := h.2.2 h0
    obtain ⟨inner, hr, hc⟩ := ReadsRow.inner_ h
    refine ⟨inner, hr, fun w' he => run_firstCells_some _ _ _ _ _ _ inner hr.1 (fun j v hv => ?_)⟩
    have := hc j v hv
    unfold World.cell? at this ⊢
    rw [he]; exact this
theorem run_append_rows (w : World) (t ty e : TypeId) (i : TypeInfo) (z : Value) (bytes : Nat) (ht : P.underlying t = some (.slice e)) (hi : P.info? e = some i) (hz : i.zero = some z) (hsize : i.size = d.sz) (hby : i.bytes = bytes)
    (hzs : z.cells.size = d.sz) (hsz : 0 < d.sz) (hb0 : 0 < bytes) {A1 A2 : Option Addr} {xs ys : List α} (c2 : Nat) (h1 : d.C w A1 xs.length xs) (h2 : d.C w A2 ys.length ys) (hbytes : (xs.length + ys.length) * bytes ≤ 140737488355328) :
    ∃ (A' : Option Addr) (c' : Nat) (w' : World), (Builtin.append_ #[t, t] ty #[.slice A1 xs.length xs.length, .slice A2 ys.length c2]).run P w = .ok (.slice A' (xs ++ ys).length c') w' ∧ (xs ++ ys).length ≤ c' ∧ d.C w' A' (xs ++ ys).length (xs ++ ys) ∧ w.grownBy w' none ∧ (A' = A1 ∨ ∃ ad, A' = some ad ∧ ad.block = w.heap.size) := by
  obtain ⟨in1, hr1, hf1⟩ := C_inner (P := P) d h1 xs.length
  obtain ⟨in2, hr2, hf2⟩ := C_inner (P := P) d h2 c2
  have hm1 : xs.length + ys.length ≤ 140737488355328 := Nat.le_trans (Nat.le_mul_of_pos_right _ hb0) hbytes
  have hsrc : Src P i.size t (.slice A2 ys.length c2) ys.length in2 w := ⟨.inl ⟨e, ht⟩, fun _ => rfl, by rw [hsize]; exact hf2 w rfl, by rw [hsize]; exact hf2 w.drew rfl, by rw [hsize]; exact hr2.1, reps_one hr2 hsz⟩
  rcases Nat.eq_zero_or_pos ys.length with h0 | h0
  · obtain rfl := List.eq_nil_of_length_eq_zero h0
    have hin : in2 = [] := List.eq_nil_of_length_eq_zero (by simpa using hr2.1)
    subst hin
    have hrun := run_append_nothing (P := P) w t t ty e i ht hi A1 xs.length xs.length (Nat.le_refl _) _ hsrc
    exact ⟨A1, xs.length, w, by rw [List.append_nil]; exact hrun, by simp, by rw [List.append_nil]; exact h1, ⟨rfl, rfl, rfl, Nat.le_refl _, fun _ _ _ => rfl⟩, .inl rfl⟩
  · have hrun := run_append_grow_src (P := P) w t t ty e i z ht hi hz A1 xs.length xs.length in1 (by rw [hsize]; exact hf1 w.drew rfl) _ ys.length in2 hsrc (by omega) (by omega) (growslice_fits (by omega) (by rw [hby]; exact hbytes))
    have hge := grownCap_ge w (xs.length + ys.length) xs.length e
    have hcm : grownCap w (xs.length + ys.length) xs.length e ≤ maxLen := grownCap_le_maxLen w (xs.length + ys.length) xs.length e (by unfold maxLen; omega)
    have hlen : (in1 ++ in2).length = (xs.length + ys.length) * d.sz := by rw [List.length_append, hr1.1, hr2.1, Nat.add_mul]
    have hown : (w.drew.alloc (.cells ((in1 ++ in2).toArray ++ Builtin.zeroCells z.cells (grownCap w (xs.length + ys.length) xs.length e - (xs.length + ys.length))) e)).ownsRow 0 e d.sz
        (.slice (some ⟨w.heap.size, 0, none⟩) (xs.length + ys.length) (grownCap w (xs.length + ys.length) xs.length e)) (xs.length + ys.length) (in1 ++ in2) := by
      refine ⟨hlen, .inr ⟨w.heap.size, _, _, rfl, Nat.zero_le _, heap_alloc_new w.drew _, hge, hcm, ?_, ?_⟩⟩
      · simp only [Array.size_append, List.size_toArray, size_zeroCells, hzs, hlen, ← Nat.add_mul]
        congr 1
        omega
      · simp only [Array.toList_append, List.append_assoc]
        rw [← List.append_assoc, ← hlen]
        exact List.take_left
    have hg : w.grownBy (w.drew.alloc (.cells ((in1 ++ in2).toArray ++ Builtin.zeroCells z.cells (grownCap w (xs.length + ys.length) xs.length e - (xs.length + ys.length))) e)) none :=
      ⟨rfl, rfl, rfl, by simp, fun k hk _ => Go.heap_alloc_old w.drew _ hk⟩
    have hb : Below w.heap.size w (w.drew.alloc (.cells ((in1 ++ in2).toArray ++ Builtin.zeroCells z.cells (grownCap w (xs.length + ys.length) xs.length e - (xs.length + ys.length))) e)) :=
      (Below.refl w.heap.size w).grown hg (Nat.le_refl _) (fun k e => by cases e)
    obtain ⟨A', c', he, hrow⟩ := own_reads_row hown (reps_append (hr1.imp_ (fun _ _ hk => d.K_below hb hk)) (hr2.imp_ (fun _ _ hk => d.K_below hb hk))) (by simp)
    cases he
    refine ⟨_, _, _, by rw [List.length_append]; exact hrun, by rw [List.length_append]; exact hge, by rw [List.length_append]; exact hrow, hg, .inr ⟨_, rfl, rfl⟩⟩
theorem step_append_rows {ops : Array Oper} {o : Oper} {a : Act} {w : World} {K : Act → World → Prop} {Q : Exit → Act → World → Prop} {E : Prop} (hg : o.guard = none) (s x : Operand) (t : TypeId) (hop : o.op = Op.call { callee := Callee.builtin Builtin.append, args := #[s, x], argTypes := #[t, t] })
    (e : TypeId) (z : Value) (bytes : Nat) (ht : P.underlying t = some (.slice e)) (hinfo : (P.info? e).map (fun i => (i.zero, i.size, i.bytes)) = some (some z, d.sz, bytes)) (hzs : z.cells.size = d.sz) (hsz : 0 < d.sz) (hb0 : 0 < bytes)
    {A1 A2 : Option Addr} {xs ys : List α} (n1 n2 c1 c2 : Nat) (hn1 : n1 = xs.length) (hc1 : c1 = xs.length) (hn2 : n2 = ys.length) (hs : a.eval s = .slice A1 n1 c1) (hx : a.eval x = .slice A2 n2 c2)
    (h1 : d.C w A1 xs.length xs) (h2 : d.C w A2 ys.length ys) (hbytes : (xs.length + ys.length) * bytes ≤ 140737488355328)
    (hK : ∀ (A' : Option Addr) (c' : Nat) (w' : World), (xs ++ ys).length ≤ c' → d.C w' A' (xs ++ ys).length (xs ++ ys) → w.grownBy w' none → (A' = A1 ∨ ∃ ad, A' = some ad ∧ ad.block = w.heap.size) → K (a.put o.dst (.slice A' (xs ++ ys).length c')) w') :
    if Region.wanted o (yielded ops a.tmps) = true then Oper.wp P o a w K Q else E := by
  subst hn1 hc1 hn2
  have hw : Region.wanted o (yielded ops a.tmps) = true := by simp [Region.wanted, hg]
  rw [if_pos hw]
  obtain ⟨i, hi, hii⟩ := Option.map_eq_some_iff.1 hinfo
  injection hii with hi1 hi2
  injection hi2 with hi2 hi3
  obtain ⟨A', c', w', hrun, r1, r2, r3, r4⟩ := run_append_rows (P := P) d w t o.type e i z bytes ht hi hi1 hi2 hi3 hzs hsz hb0 c2 h1 h2 hbytes
  unfold Oper.wp
  simp [execOp, hop, resolve, invoke, builtin, hs, hx, hrun, Result.andThen]
  have hK' := hK A' c' w' r1 r2 r3 r4
  rw [List.length_append] at hK'
  exact hK'
theorem wpList_append_rows {ops : Array Oper} {rest : List Oper} {o : Oper} {a : Act} {w : World} {Q : Exit → Act → World → Prop} (hg : o.guard = none) (s x : Operand) (t : TypeId) (hop : o.op = Op.call { callee := Callee.builtin Builtin.append, args := #[s, x], argTypes := #[t, t] })
    (e : TypeId) (z : Value) (bytes : Nat) (ht : P.underlying t = some (.slice e)) (hinfo : (P.info? e).map (fun i => (i.zero, i.size, i.bytes)) = some (some z, d.sz, bytes)) (hzs : z.cells.size = d.sz) (hsz : 0 < d.sz) (hb0 : 0 < bytes)
    {A1 A2 : Option Addr} {xs ys : List α} (n1 n2 c1 c2 : Nat) (hn1 : n1 = xs.length) (hc1 : c1 = xs.length) (hn2 : n2 = ys.length) (hs : a.eval s = .slice A1 n1 c1) (hx : a.eval x = .slice A2 n2 c2)
    (h1 : d.C w A1 xs.length xs) (h2 : d.C w A2 ys.length ys) (hbytes : (xs.length + ys.length) * bytes ≤ 140737488355328)
    (hK : ∀ (A' : Option Addr) (c' : Nat) (w' : World), (xs ++ ys).length ≤ c' → d.C w' A' (xs ++ ys).length (xs ++ ys) → w.grownBy w' none → (A' = A1 ∨ ∃ ad, A' = some ad ∧ ad.block = w.heap.size) → wpList P ops Q rest (a.put o.dst (.slice A' (xs ++ ys).length c')) w') : wpList P ops Q (o :: rest) a w := by
  subst hn1 hc1 hn2
  refine wpList_plain hg fun K' hK' => ?_
  obtain ⟨i, hi, hii⟩ := Option.map_eq_some_iff.1 hinfo
  injection hii with hi1 hi2
  injection hi2 with hi2 hi3
  obtain ⟨A', c', w', hrun, r1, r2, r3, r4⟩ := run_append_rows (P := P) d w t o.type e i z bytes ht hi hi1 hi2 hi3 hzs hsz hb0 c2 h1 h2 hbytes
  unfold Oper.wp
  simp [execOp, hop, resolve, invoke, builtin, hs, hx, hrun, Result.andThen]
  have hq := hK A' c' w' r1 r2 r3 r4
  rw [List.length_append] at hq
  exact hK' _ _ hq
end
end Go.Proofs.YtkghgaifgpgfkaaDoor.PL
