/- The law TlbOnce, in plain Lean. -/
import Derived.Test.YtkbnhphcmlljgaaTlbInv
import Derived.Test.YtkbnhphcmlljgaaPx21
set_option linter.unusedVariables false
set_option linter.unusedSimpArgs false
namespace Go.Proofs.Ytkbnhphcmlljgaa.PureTlbOnce
open Go.RowKit Go.Proofs.Ytkbnhphcmlljgaa.P Go.Proofs.Ytkbnhphcmlljgaa.TlbP Go.Proofs.Ytkbnhphcmlljgaa.TlbRef Go.Proofs.YtkbnhphcmlljgaaW.PrintWords
/-- How many entries cover the page. -/
def many (l : List E) (s p : Int) : Nat := (l.filter (fun x => coversP x s p)).length
theorem many_one {n : Int} {l : List E} (h : GoodC n l) (s p : Int) : many l s p ≤ 1 := by
  obtain ⟨_, _, _, h4, h5⟩ := check_zero.1 h.1
  unfold many
  have hp := h5.sublist (List.filter_sublist (l := l) (p := fun x => coversP x s p))
  have hm := fun x (hx : x ∈ l.filter (fun x => coversP x s p)) => List.mem_filter.1 hx
  generalize l.filter (fun x => coversP x s p) = r at *
  match r, hp, hm with
  | [], _, _ => simp
  | [x], _, _ => simp
  | x :: y :: r, hp, hm =>
    have h1 := hm x (by simp)
    have h2 := hm y (by simp)
    have h3 := (List.pairwise_cons.1 hp).1 y (by simp)
    rw [covers_both (h4 y h2.1) (h4 x h1.1) h2.2 h1.2] at h3
    cases h3
theorem many_any (l : List E) (s p : Int) (h : many l s p ≤ 1) : (((many l s p : Nat) : Int) == 1) = (lookP l s p).2 := by
  rw [look_any]
  unfold many at *
  cases ha : l.any (fun x => coversP x s p) with
  | false =>
    rw [List.filter_eq_nil_iff.2 (fun x hx => by have := List.any_eq_false.1 ha x hx; simpa using this)]
    rfl
  | true =>
    obtain ⟨x, hx, hx2⟩ := List.any_eq_true.1 ha
    have := List.length_pos_of_mem (List.mem_filter (p := fun x => coversP x s p) |>.2 ⟨hx, hx2⟩)
    rw [show (l.filter (fun x => coversP x s p)).length = 1 by omega]
    rfl
theorem loop1 (n : Int) (l : List E) (s p : Int) (h : GoodC n l) : ∀ (m i k : Nat), i + m = l.length → m + 60 ≤ k → estoverslaw07_TlbOnce.l1 k ((many (l.take i) s p : Nat) : Int) (i : Int) s p n l = some true
  | 0, i, k, hi, hk => by
    obtain ⟨k, rfl⟩ : ∃ q, k = q + 1 := ⟨k - 1, by omega⟩
    obtain ⟨h1, h2, h3, h4, h5⟩ := check_zero.1 h.1
    have h6 := many_one h s p
    rw [estoverslaw07_TlbOnce.l1, if_neg (by omega), show i = l.length by omega, List.take_length, if_pos (by omega), pcovers_eq n l s p h.2 (by omega) k (by omega), Option.bind_some, if_pos h.1, if_pos (by rw [many_any l s p h6]; simp)]
    rfl
  | m + 1, i, k, hi, hk => by
    obtain ⟨k, rfl⟩ : ∃ q, k = q + 1 := ⟨k - 1, by omega⟩
    obtain ⟨h1, h2, h3, h4, h5⟩ := check_zero.1 h.1
    have hlt : i < l.length := by omega
    have ih := loop1 n l s p h m (i + 1) k (by omega) (by omega)
    have hm1 : many (l.take (i + 1)) s p = many (l.take i) s p + (if coversP l[i] s p = true then 1 else 0) := by
      unfold many
      rw [List.take_succ_eq_append_getElem hlt, List.filter_append, List.length_append]
      congr 1
      cases hc : coversP l[i] s p <;> simp [hc]
    have hm0 : many (l.take i) s p ≤ l.length := Nat.le_trans (List.length_filter_le _ _) (by rw [List.length_take]; omega)
    have hcut : (l.take (((i + 1 : Nat) : Int)).toNat).drop ((i : Int)).toNat = [l[i]] := by
      rw [Int.toNat_natCast, Int.toNat_natCast, List.take_succ_eq_append_getElem hlt, List.drop_append_of_le_length (by rw [List.length_take]; omega), List.drop_take_self]
      rfl
    have hone : checkP 1 [l[i]] = 0 := check_zero.2 ⟨by omega, by omega, by simp, fun x hx => by simp at hx; subst hx; exact h4 _ (List.getElem_mem hlt), List.pairwise_singleton _ _⟩
    have hcov := pcovers_eq 1 [l[i]] s p (fun x hx => by simp at hx; subst hx; exact h.2 _ (List.getElem_mem hlt)) (by simp) k (by simp; omega)
    rw [if_pos hone] at hcov
    rw [estoverslaw07_TlbOnce.l1, if_pos (by omega), if_pos (by omega), w64 (x := (i : Int) + 1) (by omega) (by omega), if_pos (by omega), if_pos (by omega), show (i : Int) + 1 = ((i + 1 : Nat) : Int) by omega, hcut, hcov, Option.bind_some]
    rw [look_any]
    simp only [List.any_cons, List.any_nil, Bool.or_false]
    rw [hm1] at ih
    cases hc : coversP l[i] s p with
    | true =>
      rw [if_pos rfl, w64 (by omega) (by omega)]
      rw [hc, if_pos rfl] at ih
      simpa using ih
    | false =>
      rw [if_neg (by simp)]
      rw [hc, if_neg (by simp)] at ih
      simpa using ih
theorem loop0 (n : Int) (x0 s p : Int) (x1 : List S49) (hx : ∀ o ∈ x1, inU o.f3 = true) (hm : x1.length ≤ 30) (hn : wrap64 (1 + (Int.tmod (wrap64 (x0)) 16)) = n) : ∀ (m i k : Nat) (l : List E), GoodC n l → i + m = x1.length → m + 200 ≤ k → estoverslaw07_TlbOnce.l0 k x0 x1 (i : Int) s p n l = some true
  | 0, i, k, l, h, hi, hk => by
    obtain ⟨k, rfl⟩ : ∃ q, k = q + 1 := ⟨k - 1, by omega⟩
    obtain ⟨h1, h2, h3, h4, h5⟩ := check_zero.1 h.1
    rw [estoverslaw07_TlbOnce.l0, if_neg (by omega)]
    exact loop1 n l s p h l.length 0 k (by omega) (by omega)
  | m + 1, i, k, l, h, hi, hk => by
    obtain ⟨k, rfl⟩ : ∃ q, k = q + 1 := ⟨k - 1, by omega⟩
    have hlt : i < x1.length := by omega
    have hrd : rd_T49 x1 (i : Int) = x1[i] := by
      unfold rd_T49
      simp [List.getD_eq_getElem?_getD, List.getElem?_eq_getElem hlt]
    have hw := hx _ (List.getElem_mem hlt)
    have hd := do_good (k := x1[i].f0) (s := x1[i].f1) (p := x1[i].f2) hw h
    rw [estoverslaw07_TlbOnce.l0, if_pos (by omega), if_pos (by omega), hrd, pdo_eq n l _ _ _ _ hw h.2, Option.bind_some]
    generalize doP n l x1[i].f0 x1[i].f1 x1[i].f2 x1[i].f3 = d at *
    obtain ⟨d0, d1, d2⟩ := d
    obtain ⟨rfl, hg⟩ := hd
    simp only at hg ⊢
    obtain ⟨h1, h2, h3, h4, h5⟩ := check_zero.1 hg.1
    rw [pcheck_eq d0 d1 hg.2, hg.1, Option.bind_some, if_pos rfl, hn, if_neg (by omega), w64 (by omega) (by omega)]
    exact loop0 d0 x0 s p x1 hx hm hn m (i + 1) k d1 hg (by omega) (by omega)
theorem main (x0 s p : Int) (x1 : List S49) (h0 : 0 ≤ x0 ∧ x0 ≤ 255) (hx : ∀ o ∈ x1, inU o.f3 = true) : estoverslaw07_TlbOnce.f 600 x0 x1 s p = some true := by
  unfold estoverslaw07_TlbOnce.f
  by_cases h : (x1.length : Int) > 30
  · rw [if_pos h]; rfl
  · rw [if_neg h]
    have e : wrap64 (1 + (Int.tmod (wrap64 (x0)) 16)) = 1 + x0 % 16 := by
      rw [w64 (x := x0) (by omega) (by omega), Int.tmod_eq_emod_of_nonneg h0.1, w64 (by omega) (by omega)]
    have hnew : tlb_New.f (1 + x0 % 16) = some (1 + x0 % 16, [], 0) := by
      unfold tlb_New.f
      rw [if_neg (by omega), if_neg (by omega)]
    rw [e, hnew, Option.bind_some]
    exact loop0 (1 + x0 % 16) x0 s p x1 hx (by omega) e x1.length 0 600 [] ⟨check_zero.2 ⟨by omega, by omega, by simp; omega, fun x hx => (nomatch hx), List.Pairwise.nil⟩, fun x hx => (nomatch hx)⟩ (by omega) (by omega)
end Go.Proofs.Ytkbnhphcmlljgaa.PureTlbOnce
