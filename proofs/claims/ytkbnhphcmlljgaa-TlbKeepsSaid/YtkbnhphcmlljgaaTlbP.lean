/- A translation cache as plain data: which pages an entry covers, when a cache is valid, and what its operations give. No program's step in sight. -/
import Derived.Test.YtkbnhphcmlljgaaPx0
import Derived.Test.YtkbnhphcmlljgaaPte
namespace Go.Proofs.Ytkbnhphcmlljgaa.TlbP
open Go.RowKit Go.Proofs.Ytkbnhphcmlljgaa.P Go.Proofs.Ytkbnhphcmlljgaa.Pte

abbrev E := S42
def inU (w : Int) : Bool := decide (0 ≤ w) && decide (w < 18446744073709551616)
def okw (x : E) : Bool := inU x.f2
def trOk (w : Int) : Bool := decide ((dec w).2.2.2.2.2.2 = 0) && decide ((dec w).1 = 1)
def trHuge (w : Int) : Bool := decide ((dec w).2.2.2.2.2.2 = 0) && (dec w).2.2.2.2.2.1
def spanP (w : Int) : Int := if trHuge w = true then 8 else 1
def overlapP (a b : E) : Bool := decide (a.f0 = b.f0) && (decide (a.f1 < wrap64 (b.f1 + spanP b.f2)) && decide (b.f1 < wrap64 (a.f1 + spanP a.f2)))
def coversP (x : E) (s p : Int) : Bool := decide (x.f0 = s) && (decide (x.f1 ≤ p) && decide (p < wrap64 (x.f1 + spanP x.f2)))
def placeP (s p : Int) : Int := if s < 0 ∨ 8 ≤ s ∨ p < 0 ∨ 512 ≤ p then 2 else 0
/-- The error of an entry behind others. -/
def entryErr (pre : List E) (x : E) : Int :=
  if placeP x.f0 x.f1 ≠ 0 then 2 else if trOk x.f2 = false ∨ (trHuge x.f2 = true ∧ Int.tmod x.f1 8 ≠ 0) then 3 else if pre.any (fun y => overlapP x y) = true then 7 else 0
def scan (pre : List E) : List E → Int
  | [] => 0
  | x :: rest => if entryErr pre x ≠ 0 then entryErr pre x else scan (pre ++ [x]) rest
def checkP (n : Int) (l : List E) : Int := if n < 1 ∨ 16 < n then 1 else if n < (l.length : Int) then 8 else scan [] l
/-- The place of the first element that meets p, or -1. -/
def idxOf (p : E → Bool) (l : List E) : Int := if l.any p = true then (l.findIdx p : Int) else -1
theorem idx_hit (p : E → Bool) (l : List E) (k : Nat) (h : k < l.length) (hp : p l[k] = true) (hn : ∀ j, j < k → ∀ hj : j < l.length, p l[j] = false) : idxOf p l = (k : Int) := by
  have ha : l.any p = true := List.any_eq_true.2 ⟨_, List.getElem_mem h, hp⟩
  unfold idxOf
  rw [if_pos ha]
  have h1 : l.findIdx p ≤ k := by
    rcases Nat.lt_or_ge k (l.findIdx p) with hlt | hge
    · exact absurd hp (by have := List.not_of_lt_findIdx hlt; simpa using this)
    · exact hge
  rcases Nat.lt_or_ge (l.findIdx p) k with hlt | hge
  · have hl : l.findIdx p < l.length := by omega
    have := hn _ hlt hl
    rw [List.findIdx_getElem (w := hl)] at this
    cases this
  · have : l.findIdx p = k := by omega
    rw [this]
theorem idx_miss (p : E → Bool) (l : List E) (hn : ∀ j, ∀ hj : j < l.length, p l[j] = false) : idxOf p l = -1 := by
  have ha : ¬ (l.any p = true) := by
    intro h
    obtain ⟨x, hx, hp⟩ := List.any_eq_true.1 h
    obtain ⟨j, hj, rfl⟩ := List.getElem_of_mem hx
    rw [hn j hj] at hp
    cases hp
  unfold idxOf
  rw [if_neg ha]
theorem idx_nonneg (p : E → Bool) (l : List E) : decide (0 ≤ idxOf p l) = l.any p := by
  unfold idxOf
  by_cases h : l.any p = true
  · rw [if_pos h, h]; simp
  · rw [if_neg h]
    have : l.any p = false := by simpa using h
    rw [this]; rfl
theorem rd_get (l : List E) (k : Nat) (h : k < l.length) : rd_T42 l (k : Int) = l[k] := by
  unfold rd_T42
  simp [h]
end Go.Proofs.Ytkbnhphcmlljgaa.TlbP
