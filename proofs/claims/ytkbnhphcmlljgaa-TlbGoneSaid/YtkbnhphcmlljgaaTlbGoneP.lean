/- What a fill, an invalidation and a flush do to a valid cache (plain): the law TlbGone's arithmetic. -/
import Derived.Test.YtkbnhphcmlljgaaTlbInv
set_option linter.unusedVariables false
set_option linter.unusedSimpArgs false
namespace Go.Proofs.Ytkbnhphcmlljgaa.TlbRef
open Go.RowKit Go.Proofs.Ytkbnhphcmlljgaa.P Go.Proofs.Ytkbnhphcmlljgaa.TlbP Go.Proofs.Ytkbnhphcmlljgaa.Pte Go.Proofs.Ytkbnhphcmlljgaa.Hand Go.Proofs.YtkbnhphcmlljgaaW.PrintWords

theorem cover_self {s p w : Int} (hp : placeP s p = 0) (ht : trOk w = true) : coversP ⟨s, pageOf p w, w⟩ s p = true := by
  rw [covers_iff (page_valid hp ht)]
  obtain ⟨h1, h2, h3, h4⟩ := place_zero.1 hp
  refine ⟨rfl, ?_⟩
  show pageOf p w ≤ p ∧ p < pageOf p w + spanP w
  unfold pageOf spanP
  cases hh : trHuge w with
  | true =>
    rw [if_pos rfl, if_pos rfl, tm8 h3, w64 (by omega) (by omega)]
    omega
  | false =>
    rw [if_neg (by simp), if_neg (by simp)]
    omega
theorem look_last : ∀ (r : List E) (e : E) (s p : Int), (∀ y ∈ r, coversP y s p = false) → coversP e s p = true → lookP (r ++ [e]) s p = (e.f2, true)
  | [], e, s, p, _, h => by
    rw [List.nil_append, lookP, if_pos h]
  | y :: r, e, s, p, hr, h => by
    rw [List.cons_append, lookP, if_neg (by rw [hr y (by simp)]; simp)]
    exact look_last r e s p (fun z hz => hr z (by simp [hz])) h
/-- A cache that took a fill: the page is found with its word; an invalidation takes one entry away, and the page is not covered any more. -/
theorem fill_found {n : Int} {l : List E} {s p w : Int} (hw : inU w = true) (h : GoodC n l) (e : (fillP n l s p w).2.2 = 0) :
    ∃ F, fillP n l s p w = (n, F, 0) ∧ GoodC n F ∧ lookP F s p = (w, true) ∧ ∃ Y, invalP n F s p = (n, Y, 0) ∧ GoodC n Y ∧ (lookP Y s p).2 = false ∧ Y.length + 1 = F.length := by
  obtain ⟨f1, f2, hp, ht, f3⟩ := fill_good hw h e
  have hF : fillP n l s p w = (n, (fillP n l s p w).2.1, 0) := by
    rw [← e]
    refine Prod.ext f1 (Prod.ext rfl rfl)
  rw [f3] at f2 hF
  have hv := page_valid hp ht
  have hc := cover_self hp ht
  have hn : ∀ y ∈ shifted n (kept (fun y => overlapP ⟨s, pageOf p w, w⟩ y) l), coversP y s p = false := by
    intro y hy
    have hy1 := (shifted_sub _ _).subset hy
    have hy2 := List.mem_filter.1 hy1
    have hv2 := check_valid h.1 y hy2.1
    cases hcy : coversP y s p with
    | false => rfl
    | true =>
      have := covers_both hv hv2 hc hcy
      have h3 := hy2.2
      simp [this] at h3
  generalize shifted n (kept (fun y => overlapP ⟨s, pageOf p w, w⟩ y) l) = r at *
  refine ⟨r ++ [⟨s, pageOf p w, w⟩], hF, f2, look_last r _ s p hn hc, ?_⟩
  have hk : kept (fun y => coversP y s p) (r ++ [⟨s, pageOf p w, w⟩]) = r := by
    unfold kept
    rw [List.filter_append]
    have e1 : r.filter (fun x => !coversP x s p) = r := List.filter_eq_self.2 (fun y hy => by rw [hn y hy]; rfl)
    rw [e1]
    simp [hc]
  refine ⟨r, ?_, ⟨check_sub f2.1 (List.sublist_append_left _ _), fun x hx => f2.2 x (by simp [hx])⟩, ?_, by simp⟩
  · unfold invalP
    rw [if_neg (by simp [f2.1]), if_neg (by simp [hp]), hk]
  · rw [look_any, List.any_eq_false]
    intro y hy
    rw [hn y hy]
    simp
/-- The entries of other spaces. -/
def others (s : Int) (l : List E) : List E := kept (fun y => y.f0 == s) l
theorem flush_done {n : Int} {l : List E} {s : Int} (h : GoodC n l) (e : (flushP n l s).2.2 = 0) : flushP n l s = (n, others s l, 0) ∧ GoodC n (others s l) := by
  obtain ⟨f1, f2, f3⟩ := flush_good h e
  rw [f3] at f2
  refine ⟨?_, f2⟩
  rw [← e]
  refine Prod.ext f1 (Prod.ext f3 rfl)
theorem others_not (s p : Int) (l : List E) : (lookP (others s l) s p).2 = false := by
  rw [look_any, List.any_eq_false]
  intro y hy
  have := (List.mem_filter.1 hy).2
  have hne : y.f0 ≠ s := by simpa using this
  unfold coversP
  simp [hne]
theorem others_at (s : Int) (l : List E) (i : Nat) (hi : i < l.length) : others s (l.take (i + 1)) = if l[i].f0 = s then others s (l.take i) else others s (l.take i) ++ [l[i]] := by
  unfold others
  rw [kept_at _ l i hi]
  simp
theorem others_len (s : Int) (l : List E) : (others s l).length ≤ l.length := kept_len _ _
/-- The entry that comes next among the others. -/
theorem others_next (s : Int) (l : List E) (i : Nat) (hi : i < l.length) (hne : l[i].f0 ≠ s) : ∃ h : (others s (l.take i)).length < (others s l).length, (others s l)[(others s (l.take i)).length] = l[i] := by
  have e : others s l = others s (l.take i) ++ (l[i] :: others s (l.drop (i + 1))) := by
    unfold others kept
    conv => lhs; rw [← List.take_append_drop i l, List.drop_eq_getElem_cons hi, List.filter_append, List.filter_cons]
    rw [if_pos (by simpa using hne)]
  refine ⟨by rw [e]; simp, ?_⟩
  have h : (others s l)[(others s (l.take i)).length]? = some l[i] := by rw [e]; simp
  exact (List.getElem?_eq_some_iff.1 h).2
end Go.Proofs.Ytkbnhphcmlljgaa.TlbRef
