/- Lemmas and walks for lotteryHonestCard_holds (part 25), without what it does not use. -/
import Derived.Test.YtkghgaifgpgfkaaDoorH13
section
namespace Go.Proofs.YtkghgaifgpgfkaaDoor.LotZ
set_option linter.unusedVariables false
abbrev F := Fin 1073741789
def pw (a : F) : Nat → F
  | 0 => 1
  | n + 1 => pw a n * a
theorem pw_zero (a : F) : pw a 0 = 1 := rfl
theorem pw_succ (a : F) (n : Nat) : pw a (n + 1) = pw a n * a := rfl
theorem pw_add (a : F) (m n : Nat) : pw a (m + n) = pw a m * pw a n := by
  induction n with
  | zero => rw [Nat.add_zero, pw_zero]; grind
  | succ n ih => rw [← Nat.add_assoc, pw_succ, pw_succ, ih]; grind
theorem pw_mul (a : F) (m n : Nat) : pw a (m * n) = pw (pw a m) n := by
  induction n with
  | zero => rw [Nat.mul_zero, pw_zero, pw_zero]
  | succ n ih => rw [Nat.mul_succ, pw_add, pw_succ, ih]
theorem pw_prod (a b : F) (n : Nat) : pw (a * b) n = pw a n * pw b n := by
  induction n with
  | zero => rw [pw_zero, pw_zero, pw_zero]; grind
  | succ n ih => rw [pw_succ, pw_succ, pw_succ, ih]; grind
theorem pw_one (n : Nat) : pw 1 n = 1 := by
  induction n with
  | zero => rfl
  | succ n ih => rw [pw_succ, ih]; grind
def U (a : F) : Prop := pw a 1073741788 = 1
def inv (a : F) : F := pw a 1073741787
theorem inv_mul {a : F} (h : U a) : inv a * a = 1 := h
theorem mul_inv {a : F} (h : U a) : a * inv a = 1 := by rw [show a * inv a = inv a * a by grind]; exact h
theorem U.mul {a b : F} (h : U a) (k : U b) : U (a * b) := by
  unfold U at *; rw [pw_prod, h, k]; grind
theorem U.inv {a : F} (h : U a) : U (inv a) := by
  unfold U LotZ.inv at *; rw [← pw_mul, Nat.mul_comm, pw_mul, h, pw_one]
theorem U.one : U 1 := pw_one _
theorem inv_prod (a b : F) : inv (a * b) = inv a * inv b := pw_prod _ _ _
theorem inv_one : inv 1 = 1 := pw_one _
def pd (x : F) : List F → F
  | [] => 1
  | q :: l => (x - q) * pd x l
theorem pd_append (x : F) (l m : List F) : pd x (l ++ m) = pd x l * pd x m := by
  induction l with
  | nil => simp only [List.nil_append, pd]; grind
  | cons q l ih => simp only [List.cons_append, pd, ih]; grind
def thr : List F → (F → F) → F → F
  | [], _, _ => 0
  | a :: l, g, x => g a * (pd x l * inv (pd a l)) + (x - a) * thr l (fun p => g p * inv (p - a)) x
theorem thr_congr {x : F} : ∀ {l : List F} {f g : F → F}, (∀ p ∈ l, f p = g p) → thr l f x = thr l g x
  | [], _, _, _ => rfl
  | a :: l, f, g, h => by
    simp only [thr]
    rw [h a List.mem_cons_self, thr_congr (l := l) (f := fun p => f p * inv (p - a)) (g := fun p => g p * inv (p - a)) (fun p hp => by rw [h p (List.mem_cons_of_mem _ hp)])]
theorem thr_add {x : F} : ∀ (l : List F) (f g : F → F), thr l (fun p => f p + g p) x = thr l f x + thr l g x
  | [], _, _ => by simp only [thr]; grind
  | a :: l, f, g => by
    simp only [thr]
    rw [thr_congr (l := l) (f := fun p => (f p + g p) * inv (p - a)) (g := fun p => f p * inv (p - a) + g p * inv (p - a)) (fun p _ => by grind), thr_add l]
    grind
theorem thr_mul {x : F} (c : F) : ∀ (l : List F) (f : F → F), thr l (fun p => c * f p) x = c * thr l f x
  | [], _ => by simp only [thr]; grind
  | a :: l, f => by
    simp only [thr]
    rw [thr_congr (l := l) (f := fun p => c * f p * inv (p - a)) (g := fun p => c * (f p * inv (p - a))) (fun p _ => by grind), thr_mul c l]
    grind
theorem thr_swap {x : F} (a b : F) (l : List F) (g : F → F) : thr (a :: b :: l) g x = thr (b :: a :: l) g x := by
  simp only [thr, pd, inv_prod]
  rw [thr_congr (l := l) (f := fun p => g p * inv (p - a) * inv (p - b)) (g := fun p => g p * inv (p - b) * inv (p - a)) (fun p _ => by grind)]
  grind
def Ok (l : List F) : Prop := l.Pairwise fun a b => U (a - b)
theorem neg_one_sq : pw (0 - 1 : F) 2 = 1 := by decide
theorem neg_one_U : U (0 - 1 : F) := by
  have h := pw_mul (0 - 1 : F) 2 536870894
  rw [neg_one_sq, pw_one] at h
  exact h
theorem U.neg {a b : F} (h : U (a - b)) : U (b - a) := by
  have h1 : U (0 - 1 : F) := neg_one_U
  have := h1.mul h
  rw [show b - a = (0 - 1) * (a - b) by grind]
  exact this
theorem Ok.perm {l m : List F} (h : l.Perm m) (hl : Ok l) : Ok m := h.pairwise hl (fun h => U.neg h)
theorem thr_shift {x a : F} {l : List F} (h : ∀ p ∈ l, U (a - p)) (g : F → F) : thr (a :: l) (fun p => (p - a) * g p) x = (x - a) * thr l g x := by
  simp only [thr]
  rw [thr_congr (l := l) (f := fun p => (p - a) * g p * inv (p - a)) (g := g) (fun p hp => by
    have := mul_inv (U.neg (h p hp))
    grind)]
  grind
theorem tel (i p a b : F) : i * ((p - a) * 1) + (0 - i) * ((p - b) * 1) = i * (b - a) := by grind
theorem thr_one {x : F} : ∀ (n : Nat) (l : List F), l.length = n + 1 → Ok l → thr l (fun _ => 1) x = 1
  | 0, [a], _, _ => by simp only [thr, pd, inv_one]; grind
  | n + 1, a :: b :: l, hl, hok => by
    have hab : U (b - a) := U.neg ((List.pairwise_cons.1 hok).1 b List.mem_cons_self)
    have hi := inv_mul hab
    have h1 : thr (a :: b :: l) (fun p => (p - a) * (fun _ => (1 : F)) p) x = (x - a) * thr (b :: l) (fun _ => 1) x := thr_shift (fun p hp => (List.pairwise_cons.1 hok).1 p hp) (fun _ => 1)
    have hok2 : Ok (b :: a :: l) := hok.perm (List.Perm.swap b a l)
    have h2 : thr (b :: a :: l) (fun p => (p - b) * (fun _ => (1 : F)) p) x = (x - b) * thr (a :: l) (fun _ => 1) x := thr_shift (fun p hp => (List.pairwise_cons.1 hok2).1 p hp) (fun _ => 1)
    rw [thr_one n (b :: l) (by simpa using hl) (List.pairwise_cons.1 hok).2] at h1
    rw [thr_one n (a :: l) (by simpa using hl) (List.pairwise_cons.1 hok2).2, thr_swap] at h2
    have h3 : thr (a :: b :: l) (fun p => inv (b - a) * ((p - a) * 1) + (0 - inv (b - a)) * ((p - b) * 1)) x = inv (b - a) * ((x - a) * 1) + (0 - inv (b - a)) * ((x - b) * 1) := by
      rw [thr_add, thr_mul, thr_mul, h1, h2]
    rw [thr_congr (g := fun p => inv (b - a) * ((p - a) * 1) + (0 - inv (b - a)) * ((p - b) * 1)) (fun p _ => by rw [tel, hi]), h3, tel, hi]
def ev : List F → F → F
  | [], _ => 0
  | c :: l, t => c + t * ev l t
theorem ev_div (a : F) : ∀ c : List F, ∃ d : List F, d.length = c.length - 1 ∧ ∀ t, ev c t = ev c a + (t - a) * ev d t
  | [] => ⟨[], rfl, fun t => by simp only [ev]; grind⟩
  | c0 :: c => by
    obtain ⟨d, hd, h⟩ := ev_div a c
    cases c with
    | nil => exact ⟨[], rfl, fun t => by simp only [ev]; grind⟩
    | cons c1 c =>
      refine ⟨ev (c1 :: c) a :: d, by simp at hd ⊢; exact hd, fun t => ?_⟩
      have ht := h t
      have e1 : ev (c0 :: c1 :: c) t = c0 + t * ev (c1 :: c) t := rfl
      have e2 : ev (c0 :: c1 :: c) a = c0 + a * ev (c1 :: c) a := rfl
      have e3 : ev (ev (c1 :: c) a :: d) t = ev (c1 :: c) a + t * ev d t := rfl
      rw [e1, e2, e3, ht]
      grind
theorem thr_ev {x : F} : ∀ (l : List F) (c : List F), Ok l → c.length ≤ l.length → thr l (ev c) x = ev c x
  | [], c, _, h => by
    obtain rfl := List.eq_nil_of_length_eq_zero (by simpa using h)
    rfl
  | a :: l, c, hok, h => by
    obtain ⟨d, hd, hdiv⟩ := ev_div a c
    have h1 : thr (a :: l) (ev c) x = ev c a * thr (a :: l) (fun _ => 1) x + thr (a :: l) (fun p => (p - a) * ev d p) x := by
      rw [← thr_mul, ← thr_add]
      exact thr_congr (fun p _ => by rw [hdiv p]; grind)
    rw [h1, thr_one l.length (a :: l) rfl hok, thr_shift (fun p hp => (List.pairwise_cons.1 hok).1 p hp), thr_ev l d (List.pairwise_cons.1 hok).2 (by simp at h; omega), hdiv x]
    grind
end Go.Proofs.YtkghgaifgpgfkaaDoor.LotZ
end
