/- Lemmas and walks for lotteryMatchesReferenceCard_holds (part 20), without what it does not use. -/
import Derived.Maps.Own
import Derived.Maps.OwnOps
import Derived.Maps.OwnSet
import Derived.Maps.Views
import Derived.Maps.RangeWalk
import Derived.Below
import Derived.Deep.Draws
import Derived.OwnWalk
section
namespace Go.Proofs.YtkghgaifgpgfkaaDoor.PL
open Go.RowKit Go.Maps
set_option linter.unusedVariables false
set_option linter.unusedSimpArgs false
def hvR (v : Value) : Option (DataW Value × List MemPlace) := some (.held v, [])
def IMap (P : Program) (kt : TypeId) (w : World) (b n : Nat) (f : Int → Option Value) : Prop :=
  ∃ D : DataW Value, w.ownsMap P kt hvR b n D ∧ ∀ x, (Lit.int .i64 x).wf = true → has D (.int .i64 x) = (f x).isSome ∧ ∀ z, D.atKey (.int .i64 x) (.held z) = .held ((f x).getD z)
section
variable {P : Program} {kt : TypeId} {w : World} {b n : Nat} {f : Int → Option Value}
theorem IMap.made (P : Program) (kt : TypeId) (w : World) : IMap P kt (w.alloc (.map #[] 0)) w.heap.size 0 (fun _ => none) :=
  ⟨.map [], World.ownsMap_made w P kt hvR, fun x _ => ⟨rfl, fun z => rfl⟩⟩
theorem IMap.mono (h : IMap P kt w b n f) {n' : Nat} (hn : n ≤ n') : IMap P kt w b n' f := let ⟨D, o, q⟩ := h; ⟨D, o.mono hn, q⟩
theorem IMap.lt (h : IMap P kt w b n f) : b < w.heap.size := let ⟨_, o, _⟩ := h; o.lt
theorem IMap.obj (h : IMap P kt w b n f) : ∃ es clock, w.heap[b]? = some (.map es clock) := let ⟨_, ⟨es, c, hb, _⟩, _⟩ := h; ⟨es, c, hb⟩
theorem IMap.move {w' : World} (h : IMap P kt w b n f) (e : w'.heap[b]? = w.heap[b]?) : IMap P kt w' b n f :=
  let ⟨D, ⟨es, c, hb, r⟩, q⟩ := h; ⟨D, ⟨es, c, e.trans hb, r⟩, q⟩
theorem IMap.alloc (h : IMap P kt w b n f) (o : Obj) : IMap P kt (w.alloc o) b n f := h.move (Below.heap_alloc w o b h.lt)
theorem IMap.drewN (h : IMap P kt w b n f) (m : Nat) : IMap P kt (w.drewN m) b n f := h.move rfl
theorem IMap.drew (h : IMap P kt w b n f) : IMap P kt w.drew b n f := h.move rfl
theorem IMap.setCell (h : IMap P kt w b n f) (a : Addr) (u : Value) : IMap P kt (w.setCell a u) b n f := by
  obtain ⟨es, c, hb⟩ := h.obj
  refine h.move ?_
  simp only [World.setCell, Array.getElem?_modify]
  split
  · rename_i e
    rw [e] at *
    rw [hb]; rfl
  · rfl
theorem IMap.below {w' : World} (h : IMap P kt w b n f) (hb : Below w.heap.size w w') : IMap P kt w' b n f := h.move (hb.block b h.lt)
theorem IMap.grown {w' : World} {row : Option Nat} (h : IMap P kt w b n f) (hg : w.grownBy w' row) (hr : ∀ k, row = some k → ∃ cs t fr, w.heap[k]? = some (.cells cs t fr)) : IMap P kt w' b n f :=
  h.move (hg.block b h.lt (fun e => by
    obtain ⟨es, c, hb⟩ := h.obj
    obtain ⟨cs, t, fr, hk⟩ := hr b e.symm
    rw [hb] at hk; cases hk))
theorem IMap.other {w' : World} {b' : Nat} (h : IMap P kt w b n f) (hg : w.grownBy w' (some b')) (hne : b ≠ b') : IMap P kt w' b n f := h.move (hg.block b h.lt (fun e => hne (Option.some.inj e)))
theorem IMap.own {w' : World} {row : Option Nat} {base : Nat} {e : TypeId} {size k : Nat} {v : Value} {xs : List Value} (h : IMap P kt w b n f) (hg : w.grownBy w' v.ownBlock) (ho : w.ownsRow base e size v k xs) : IMap P kt w' b n f :=
  h.grown hg (fun j hj => by
    rcases ho.2 with ⟨rfl, _⟩ | ⟨g, cap, cur, rfl, _, hh, _⟩
    · simp [Value.ownBlock] at hj
    · have : g = j := by simpa [Value.ownBlock] using hj
      subst this
      exact ⟨_, _, _, hh⟩)
theorem IMap.look {t e : TypeId} (h : IMap P kt w b n f) (hk : P.underlying kt = some (.int .i64)) (ht : P.underlying t = some (.map kt e)) {z : Value} (hz : (zeroValue e).run P w = .ok z w) {x : Int} (hx : (Lit.int .i64 x).wf = true) :
    (Instr.lookup t (.map (some b)) (.int .i64 x) false).run P w = .ok ((f x).getD z) w := by
  obtain ⟨D, ho, hD⟩ := h
  obtain ⟨v, ps, hrun, hv⟩ := ho.lookup (int_keyed hk) ht hz (zd := .held z) (zp := []) rfl (keyOf_int_mk hk hx)
  rw [(hD x hx).2 z] at hv
  simp only [hvR, Option.some.injEq, Prod.mk.injEq, DataW.held.injEq] at hv
  rw [hrun, hv.1]
theorem IMap.look_ok {t e : TypeId} (h : IMap P kt w b n f) (hk : P.underlying kt = some (.int .i64)) (ht : P.underlying t = some (.map kt e)) {z : Value} (hz : (zeroValue e).run P w = .ok z w) {x : Int} (hx : (Lit.int .i64 x).wf = true) :
    (Instr.lookup t (.map (some b)) (.int .i64 x) true).run P w = .ok (.tuple #[(f x).getD z, .bool (f x).isSome]) w := by
  obtain ⟨D, ho, hD⟩ := h
  obtain ⟨v, ps, hrun, hv⟩ := ho.look_ok (int_keyed hk) ht hz (zd := .held z) (zp := []) rfl (keyOf_int_mk hk hx)
  rw [(hD x hx).2 z] at hv
  simp only [hvR, Option.some.injEq, Prod.mk.injEq, DataW.held.injEq] at hv
  rw [hrun, hv.1, (hD x hx).1]
def putF (f : Int → Option Value) (x : Int) (v : Value) : Int → Option Value := fun y => if y = x then some v else f y
theorem IMap.put {w' : World} {D : DataW Value} (hD : ∀ x, (Lit.int .i64 x).wf = true → has D (.int .i64 x) = (f x).isSome ∧ ∀ z, D.atKey (.int .i64 x) (.held z) = .held ((f x).getD z)) (him : IsMap D)
    {x : Int} (v : Value) (ho : w'.ownsMap P kt hvR b n (D.put (.int .i64 x) (.held v))) : IMap P kt w' b n (putF f x v) := by
  refine ⟨_, ho, fun y hy => ?_⟩
  by_cases e : y = x
  · subst e
    have hkl : WideAt.IsKeyLit (.int .i64 y) := by simp [WideAt.IsKeyLit]
    exact ⟨by rw [has_put_same him hkl]; simp [putF], fun z => by rw [atKey_put_same him hkl]; simp [putF]⟩
  · have hne : (Lit.int .i64 y) ≠ .int .i64 x := by simpa using e
    exact ⟨by rw [has_put_other hne, (hD y hy).1]; simp [putF, e], fun z => by rw [atKey_put_other hne, (hD y hy).2]; simp [putF, e]⟩
theorem IMap.update {t e : TypeId} (h : IMap P kt w b n f) (hk : P.underlying kt = some (.int .i64)) (ht : P.underlying t = some (.map kt e)) (hn : n < maxLen) {x : Int} (v : Value) (hx : (Lit.int .i64 x).wf = true) :
    ∃ w', (Instr.mapUpdate t (.map (some b)) (.int .i64 x) v).run P w = .ok () w' ∧ IMap P kt w' b (n + 1) (putF f x v) ∧ w.grownBy w' (some b) := by
  obtain ⟨D, ho, hD⟩ := h
  obtain ⟨w', hrun, ho', hg⟩ := ho.update (int_keyed hk) ht hn (val := v) (d := .held v) (ps := []) (keyOf_int_mk hk hx) rfl
  exact ⟨w', hrun, IMap.put hD ho.isMap v ho', hg⟩
variable {ops : Array Oper} {rest : List Oper} {o : Oper} {a : Act} {Q : Exit → Act → World → Prop}
theorem wpList_imap_update (hg : o.guard = none) (m x v : Operand) (t e : TypeId) (hop : o.op = Op.mapUpdate t m x v) (h : IMap P kt w b n f) (hk : P.underlying kt = some (.int .i64)) (ht : P.underlying t = some (.map kt e)) (hn : n < maxLen)
    (hm : a.eval m = .map (some b)) (key : Int) (val : Value) (hx : a.eval x = .int .i64 key) (hv : a.eval v = val) (hw : (Lit.int .i64 key).wf = true)
    (hK : ∀ w', IMap P kt w' b (n + 1) (putF f key val) → w.grownBy w' (some b) → wpList P ops Q rest (a.put o.dst undef) w') : wpList P ops Q (o :: rest) a w := by
  refine wpList_plain hg fun K' hK' => ?_
  obtain ⟨w', hrun, r1, r2⟩ := h.update hk ht hn val hw
  unfold Oper.wp
  simp [execOp, hop, hm, hx, hv, hrun, Result.andThen]
  exact hK' _ _ (hK w' r1 r2)
theorem wpList_imap_look (hg : o.guard = none) (m x : Operand) (t e : TypeId) (hop : o.op = Op.lookup t m x false) (h : IMap P kt w b n f) (hk : P.underlying kt = some (.int .i64)) (ht : P.underlying t = some (.map kt e)) {z : Value} (hz : (zeroValue e).run P w = .ok z w)
    (hm : a.eval m = .map (some b)) (key : Int) (hx : a.eval x = .int .i64 key) (hw : (Lit.int .i64 key).wf = true) (v : Value) (hv : (f key).getD z = v)
    (hK : wpList P ops Q rest (a.put o.dst v) w) : wpList P ops Q (o :: rest) a w := by
  refine wpList_plain hg fun K' hK' => ?_
  have hrun := h.look hk ht hz hw
  rw [hv] at hrun
  unfold Oper.wp
  simp [execOp, hop, hm, hx, hrun, Result.andThen]
  exact hK' _ _ hK
theorem wpList_imap_look_ok (hg : o.guard = none) (m x : Operand) (t e : TypeId) (hop : o.op = Op.lookup t m x true) (h : IMap P kt w b n f) (hk : P.underlying kt = some (.int .i64)) (ht : P.underlying t = some (.map kt e)) {z : Value} (hz : (zeroValue e).run P w = .ok z w)
    (hm : a.eval m = .map (some b)) (key : Int) (hx : a.eval x = .int .i64 key) (hw : (Lit.int .i64 key).wf = true) (v : Value) (hv : (f key).getD z = v) (ok : Bool) (hok : (f key).isSome = ok)
    (hK : wpList P ops Q rest (a.put o.dst (.tuple #[v, .bool ok])) w) : wpList P ops Q (o :: rest) a w := by
  refine wpList_plain hg fun K' hK' => ?_
  have hrun := h.look_ok hk ht hz hw
  rw [hv, hok] at hrun
  unfold Oper.wp
  simp [execOp, hop, hm, hx, hrun, Result.andThen]
  exact hK' _ _ hK
def IRange (P : Program) (kt : TypeId) (w : World) (b r n : Nat) (f : Int → Option Value) (left : Int → Bool) (cnt : Nat) : Prop :=
  ∃ (D : DataW Value) (lf : Lit → Bool), w.ranges P kt hvR b r n D lf cnt ∧ (∀ x, (Lit.int .i64 x).wf = true → has D (.int .i64 x) = (f x).isSome ∧ ∀ z, D.atKey (.int .i64 x) (.held z) = .held ((f x).getD z)) ∧ ∀ x, (Lit.int .i64 x).wf = true → lf (.int .i64 x) = left x
theorem IRange.owns {r cnt : Nat} {left : Int → Bool} (h : IRange P kt w b r n f left cnt) : IMap P kt w b n f := let ⟨D, lf, hr, hD, _⟩ := h; ⟨D, hr.owns, hD⟩
theorem IRange.lt {r cnt : Nat} {left : Int → Bool} (h : IRange P kt w b r n f left cnt) : r < w.heap.size := let ⟨_, _, hr, _, _⟩ := h; hr.lt
theorem IRange.left_eq {r cnt : Nat} {left : Int → Bool} (h : IRange P kt w b r n f left cnt) : w.rangeLeft b r = cnt := let ⟨_, _, hr, _, _⟩ := h; hr.left_eq
theorem IRange.obj {r cnt : Nat} {left : Int → Bool} (h : IRange P kt w b r n f left cnt) : ∃ m s q c, w.heap[r]? = some (.mapIter m s q c) := by
  obtain ⟨_, _, ⟨_, _, _, _, _, _, _, _, _, hr, _⟩, _, _⟩ := h
  exact ⟨_, _, _, _, hr⟩
theorem IRange.move {w' : World} {r cnt : Nat} {left : Int → Bool} (h : IRange P kt w b r n f left cnt) (e : w'.heap[b]? = w.heap[b]?) (e2 : w'.heap[r]? = w.heap[r]?) : IRange P kt w' b r n f left cnt := by
  obtain ⟨D, lf, ⟨es, clock, since, seen, c0, hb, F, hs, hD, hr, q⟩, g1, g2⟩ := h
  exact ⟨D, lf, ⟨es, clock, since, seen, c0, e.trans hb, F, hs, hD, e2.trans hr, q⟩, g1, g2⟩
theorem IRange.alloc {r cnt : Nat} {left : Int → Bool} (h : IRange P kt w b r n f left cnt) (o : Obj) : IRange P kt (w.alloc o) b r n f left cnt :=
  h.move (Below.heap_alloc w o b h.owns.lt) (Below.heap_alloc w o r h.lt)
theorem IRange.below {w' : World} {r cnt : Nat} {left : Int → Bool} (h : IRange P kt w b r n f left cnt) (hb : Below w.heap.size w w') : IRange P kt w' b r n f left cnt := h.move (hb.block b h.owns.lt) (hb.block r h.lt)
theorem IRange.own {w' : World} {r cnt : Nat} {left : Int → Bool} {base : Nat} {e : TypeId} {size k : Nat} {v : Value} {xs : List Value} (h : IRange P kt w b r n f left cnt) (hg : w.grownBy w' v.ownBlock) (ho : w.ownsRow base e size v k xs) : IRange P kt w' b r n f left cnt := by
  have hne : ∀ j, v.ownBlock = some j → ∃ cs t fr, w.heap[j]? = some (.cells cs t fr) := fun j hj => by
    rcases ho.2 with ⟨rfl, _⟩ | ⟨g, cap, cur, rfl, _, hh, _⟩
    · simp [Value.ownBlock] at hj
    · have : g = j := by simpa [Value.ownBlock] using hj
      subst this
      exact ⟨_, _, _, hh⟩
  refine h.move (hg.block b h.owns.lt (fun e => ?_)) (hg.block r h.lt (fun e => ?_))
  · obtain ⟨es, c, hb⟩ := h.owns.obj
    obtain ⟨cs, t, fr, hk⟩ := hne b e.symm
    rw [hb] at hk; cases hk
  · obtain ⟨m, s, q, c, hb⟩ := h.obj
    obtain ⟨cs, t, fr, hk⟩ := hne r e.symm
    rw [hb] at hk; cases hk
theorem wpList_imap_range (hg : o.guard = none) (m : Operand) (t e : TypeId) (hop : o.op = Op.range t m) (h : IMap P kt w b n f) (hk : P.underlying kt = some (.int .i64)) (ht : P.underlying t = some (.map kt e)) (hm : a.eval m = .map (some b))
    (hK : ∀ w' cnt, IRange P kt w' b w.heap.size n f (fun x => (f x).isSome) cnt → cnt ≤ n → w.grownBy w' none → w'.heap.size = w.heap.size + 1 → wpList P ops Q rest (a.put o.dst (.pointer (some ⟨w.heap.size, 0, none⟩))) w') : wpList P ops Q (o :: rest) a w := by
  obtain ⟨D, ho, hD⟩ := h
  exact wpList_range_own w hg m t hop kt e (int_keyed hk) ht hvR b n D hm ho (fun w' r1 r2 r3 => hK w' _ ⟨D, has D, r1, hD, fun x hx => (hD x hx).1⟩ ho.size_le r2 r3)
theorem wpList_imap_next (hg : o.guard = none) (it : Operand) (hop : o.op = Op.next it false) {r cnt : Nat} {left : Int → Bool} (h : IRange P kt w b r n f left cnt) (hk : P.underlying kt = some (.int .i64)) (hit : a.eval it = .pointer (some ⟨r, 0, none⟩))
    (hDone : cnt = 0 → (∀ x, (Lit.int .i64 x).wf = true → left x = false) → wpList P ops Q rest (a.put o.dst (.tuple #[.bool false])) w)
    (hMore : ∀ (x : Int) (c : Value) (w' : World) (cnt' : Nat), (Lit.int .i64 x).wf = true → left x = true → f x = some c → IRange P kt w' b r n f (fun z => left z && !decide (z = x)) cnt' → cnt' < cnt →
      w.grownBy w' (some r) → w'.heap.size = w.heap.size → (Instr.entry (.pointer (some ⟨r, 0, none⟩))).run P w' = .ok (.tuple #[.int .i64 x, c]) w' → wpList P ops Q rest (a.put o.dst (.tuple #[.bool true, .int .i64 x, c])) w') : wpList P ops Q (o :: rest) a w := by
  obtain ⟨D, lf, hr, hD, hlf⟩ := h
  refine wpList_next_ranges w hg it hop kt (int_keyed hk) hvR (Value.int .i64) (fun c : Value => c) (fun key kl hkey => by obtain ⟨x, rfl, _⟩ := Maps.keyOf_int_inv hk hkey; exact ⟨x, rfl⟩) (fun v y _ => ⟨v, rfl⟩) b r n D lf cnt hit hr
    (fun h0 h1 => hDone h0 (fun x hx => by rw [← hlf x hx]; exact h1 _)) (fun x c kl y w' cnt' hkey hlk hv hat hrg hlt hgr hsz hen => ?_)
  obtain ⟨x', ex, rfl, hwx⟩ := Maps.keyOf_int_inv hk hkey
  cases ex
  have hl : left x = true := by rw [← hlf x hwx]; exact hlk
  have hy : y.1 = .held c := by simp only [hvR, Option.some.injEq] at hv; rw [← hv]
  have hfx : f x = some c := by
    cases hf : f x with
    | none =>
      have h1 := (hD x hwx).2 c
      have h2 := (hD x hwx).2 (.bool true)
      have h3 := (hD x hwx).2 (.bool false)
      rw [hat, hy, hf] at h2 h3
      simp only [Option.getD_none, DataW.held.injEq] at h2 h3
      rw [h2] at h3; cases h3
    | some d =>
      have h1 := (hD x hwx).2 c
      rw [hat, hy, hf] at h1
      simp only [Option.getD_some, DataW.held.injEq] at h1
      rw [h1]
  refine hMore x c w' cnt' hwx hl hfx ⟨D, _, hrg, hD, fun z hz => ?_⟩ hlt hgr hsz hen
  rw [hlf z hz]
  congr 1
  by_cases e : z = x
  · subst e; simp [Lit.sameKey]
  · rw [sameKey_ne (by simpa using e)]; simp [e]
end
end Go.Proofs.YtkghgaifgpgfkaaDoor.PL
end
