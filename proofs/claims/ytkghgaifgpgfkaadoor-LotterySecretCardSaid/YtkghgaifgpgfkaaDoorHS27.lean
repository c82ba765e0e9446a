/- Lemmas and walks for lotterySecretCard_holds (part 27), without what it does not use. -/
import Derived.Test.YtkghgaifgpgfkaaDoorHS14
section
namespace Go.Proofs.YtkghgaifgpgfkaaDoor.LotZ
set_option linter.unusedVariables false
abbrev F := Fin 1073741789
def pw (a : F) : Nat → F
  | 0 => 1
  | n + 1 => pw a n * a
theorem pw_zero (a : F) : pw a 0 = 1 := rfl
theorem pw_succ (a : F) (n : Nat) : pw a (n + 1) = pw a n * a := rfl
theorem pw_add (a : F) (m n : Nat) : pw a (m + n) = pw a m * pw a n := by
  induction n with
  | zero => rw [Nat.add_zero, pw_zero]; grind
  | succ n ih => rw [← Nat.add_assoc, pw_succ, pw_succ, ih]; grind
theorem pw_mul (a : F) (m n : Nat) : pw a (m * n) = pw (pw a m) n := by
  induction n with
  | zero => rw [Nat.mul_zero, pw_zero, pw_zero]
  | succ n ih => rw [Nat.mul_succ, pw_add, pw_succ, ih]
theorem pw_prod (a b : F) (n : Nat) : pw (a * b) n = pw a n * pw b n := by
  induction n with
  | zero => rw [pw_zero, pw_zero, pw_zero]; grind
  | succ n ih => rw [pw_succ, pw_succ, pw_succ, ih]; grind
theorem pw_one (n : Nat) : pw 1 n = 1 := by
  induction n with
  | zero => rfl
  | succ n ih => rw [pw_succ, ih]; grind
def U (a : F) : Prop := pw a 1073741788 = 1
def inv (a : F) : F := pw a 1073741787
theorem inv_mul {a : F} (h : U a) : inv a * a = 1 := h
theorem mul_inv {a : F} (h : U a) : a * inv a = 1 := by rw [show a * inv a = inv a * a by grind]; exact h
theorem U.mul {a b : F} (h : U a) (k : U b) : U (a * b) := by
  unfold U at *; rw [pw_prod, h, k]; grind
theorem U.inv {a : F} (h : U a) : U (inv a) := by
  unfold U LotZ.inv at *; rw [← pw_mul, Nat.mul_comm, pw_mul, h, pw_one]
theorem U.one : U 1 := pw_one _
theorem inv_prod (a b : F) : inv (a * b) = inv a * inv b := pw_prod _ _ _
theorem inv_one : inv 1 = 1 := pw_one _
theorem U.ne {a : F} (h : U a) : a ≠ 0 := by
  intro e
  have := mul_inv h
  rw [e] at this
  have h2 : (0 : F) = 1 := by rw [← this]; grind
  exact absurd h2 (by decide)
def pd (x : F) : List F → F
  | [] => 1
  | q :: l => (x - q) * pd x l
theorem pd_append (x : F) (l m : List F) : pd x (l ++ m) = pd x l * pd x m := by
  induction l with
  | nil => simp only [List.nil_append, pd]; grind
  | cons q l ih => simp only [List.cons_append, pd, ih]; grind
theorem pd_perm {x : F} {l m : List F} (h : l.Perm m) : pd x l = pd x m := by
  induction h with
  | nil => rfl
  | cons q _ ih => simp only [pd, ih]
  | swap a b l => simp only [pd]; grind
  | trans _ _ h1 h2 => rw [h1, h2]
def thr : List F → (F → F) → F → F
  | [], _, _ => 0
  | a :: l, g, x => g a * (pd x l * inv (pd a l)) + (x - a) * thr l (fun p => g p * inv (p - a)) x
theorem thr_congr {x : F} : ∀ {l : List F} {f g : F → F}, (∀ p ∈ l, f p = g p) → thr l f x = thr l g x
  | [], _, _, _ => rfl
  | a :: l, f, g, h => by
    simp only [thr]
    rw [h a List.mem_cons_self, thr_congr (l := l) (f := fun p => f p * inv (p - a)) (g := fun p => g p * inv (p - a)) (fun p hp => by rw [h p (List.mem_cons_of_mem _ hp)])]
theorem thr_swap {x : F} (a b : F) (l : List F) (g : F → F) : thr (a :: b :: l) g x = thr (b :: a :: l) g x := by
  simp only [thr, pd, inv_prod]
  rw [thr_congr (l := l) (f := fun p => g p * inv (p - a) * inv (p - b)) (g := fun p => g p * inv (p - b) * inv (p - a)) (fun p _ => by grind)]
  grind
theorem thr_perm {x : F} {l m : List F} (h : l.Perm m) : ∀ g : F → F, thr l g x = thr m g x := by
  induction h with
  | nil => intro g; rfl
  | cons q h ih => intro g; simp only [thr, ih, pd_perm h]
  | swap a b l => intro g; exact thr_swap b a l g
  | trans _ _ h1 h2 => intro g; rw [h1, h2]
def Ok (l : List F) : Prop := l.Pairwise fun a b => U (a - b)
theorem neg_one_sq : pw (0 - 1 : F) 2 = 1 := by decide
theorem neg_one_U : U (0 - 1 : F) := by
  have h := pw_mul (0 - 1 : F) 2 536870894
  rw [neg_one_sq, pw_one] at h
  exact h
theorem U.neg {a b : F} (h : U (a - b)) : U (b - a) := by
  have h1 : U (0 - 1 : F) := neg_one_U
  have := h1.mul h
  rw [show b - a = (0 - 1) * (a - b) by grind]
  exact this
theorem Ok.perm {l m : List F} (h : l.Perm m) (hl : Ok l) : Ok m := h.pairwise hl (fun h => U.neg h)
def ev : List F → F → F
  | [], _ => 0
  | c :: l, t => c + t * ev l t
theorem pd_U {x : F} : ∀ {l : List F}, (∀ q ∈ l, U (x - q)) → U (pd x l)
  | [], _ => U.one
  | q :: l, h => U.mul (h q List.mem_cons_self) (pd_U fun r hr => h r (List.mem_cons_of_mem _ hr))
end Go.Proofs.YtkghgaifgpgfkaaDoor.LotZ
end
