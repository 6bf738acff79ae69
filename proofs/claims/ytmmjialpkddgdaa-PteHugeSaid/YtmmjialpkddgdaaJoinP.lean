/- What both Joins answer, in plain Lean: over the eight decoded words. -/
import Derived.Test.YtmmjialpkddgdaaPte
set_option linter.unusedVariables false
namespace Go.Proofs.Ytmmjialpkddgdaa.Pte

/-- A decoded word: kind, number, write, accessed, dirty, huge, error. -/
abbrev Dec := Int × Int × Bool × Bool × Bool × Bool × Int
/-- The first error of the words from i on (m of them). -/
def errFrom (D : Nat → Dec) : Nat → Nat → Int
  | _, 0 => 0
  | i, m + 1 => if (D i).2.2.2.2.2.2 ≠ 0 then (D i).2.2.2.2.2.2 else errFrom D (i + 1) m
/-- Does one of the m entries from i on meet p. -/
def anyFrom (p : Nat → Bool) : Nat → Nat → Bool
  | _, 0 => false
  | i, m + 1 => p i || anyFrom p (i + 1) m
def badKind (D : Nat → Dec) (j : Nat) : Bool := !(decide ((D j).1 = 1)) || (D j).2.2.2.2.2.1
def badNumber (D : Nat → Dec) (j : Nat) : Bool := !(decide ((D j).2.1 = (D 0).2.1 + (j : Int)))
def badWrite (D : Nat → Dec) (j : Nat) : Bool := (D j).2.2.1 != (D 0).2.2.1
def joinP (D : Nat → Dec) : Int × Int :=
  if errFrom D 0 8 ≠ 0 then (0, errFrom D 0 8)
  else if anyFrom (badKind D) 0 8 = true then (0, 11)
  else if anyFrom (badNumber D) 0 8 = true then (0, 10)
  else if anyFrom (badWrite D) 0 8 = true then (0, 12)
  else enc 1 (D 0).2.1 (D 0).2.2.1 (anyFrom (fun j => (D j).2.2.2.1) 0 8) (anyFrom (fun j => (D j).2.2.2.2.1) 0 8) true
theorem err_step (D : Nat → Dec) (i m : Nat) (h : (D i).2.2.2.2.2.2 = 0) : errFrom D i (m + 1) = errFrom D (i + 1) m := by
  rw [errFrom, if_neg (by simp [h])]
theorem err_hit (D : Nat → Dec) (i m : Nat) (h : (D i).2.2.2.2.2.2 ≠ 0) : errFrom D i (m + 1) = (D i).2.2.2.2.2.2 := by
  rw [errFrom, if_pos h]
theorem any_step (p : Nat → Bool) (i m : Nat) (h : p i = false) : anyFrom p i (m + 1) = anyFrom p (i + 1) m := by
  rw [anyFrom, h]; rfl
theorem any_hit (p : Nat → Bool) (i m : Nat) (h : p i = true) : anyFrom p i (m + 1) = true := by
  rw [anyFrom, h]; rfl
end Go.Proofs.Ytmmjialpkddgdaa.Pte
