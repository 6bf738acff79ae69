/- Valid caches stay valid (plain): what check, fill, invalidate, flush and a call keep. -/
import Derived.Test.YtkbnhphcmlljgaaHandDo
import Derived.Test.YtkbnhphcmlljgaaTlbPl
set_option linter.unusedVariables false
set_option linter.unusedSimpArgs false
namespace Go.Proofs.Ytkbnhphcmlljgaa.TlbRef
open Go.RowKit Go.Proofs.Ytkbnhphcmlljgaa.P Go.Proofs.Ytkbnhphcmlljgaa.TlbP Go.Proofs.Ytkbnhphcmlljgaa.Pte Go.Proofs.Ytkbnhphcmlljgaa.Hand Go.Proofs.YtkbnhphcmlljgaaW.PrintWords

theorem scan_zero : ∀ (l pre : List E), scan pre l = 0 ↔ (∀ x ∈ l, oneP x = 0) ∧ (∀ x ∈ l, ∀ y ∈ pre, overlapP x y = false) ∧ l.Pairwise (fun a b => overlapP b a = false)
  | [], _ => by simp [scan]
  | x :: r, pre => by
    have ih := scan_zero r (pre ++ [x])
    have e : entryErr pre x = 0 ↔ oneP x = 0 ∧ ∀ y ∈ pre, overlapP x y = false := by
      rw [entry_one]
      by_cases h : oneP x = 0
      · rw [if_neg (by simp [h])]
        by_cases ha : pre.any (fun y => overlapP x y) = true
        · rw [if_pos ha]
          obtain ⟨y, hy, hy2⟩ := List.any_eq_true.1 ha
          refine ⟨fun h => absurd h (by decide), fun h' => ?_⟩
          rw [h'.2 y hy] at hy2; cases hy2
        · rw [if_neg ha]
          refine ⟨fun _ => ⟨h, fun y hy => ?_⟩, fun _ => rfl⟩
          have := List.any_eq_false.1 (by simpa using ha) y hy
          simpa using this
      · rw [if_pos h]
        exact ⟨fun h' => absurd h' h, fun h' => absurd h'.1 h⟩
    simp only [scan]
    by_cases h : entryErr pre x = 0
    · rw [if_neg (by simp [h]), ih]
      obtain ⟨e1, e2⟩ := e.1 h
      constructor
      · rintro ⟨h1, h2, h3⟩
        refine ⟨fun y hy => ?_, fun y hy z hz => ?_, List.pairwise_cons.2 ⟨fun y hy => h2 y hy x (by simp), h3⟩⟩
        · rcases List.mem_cons.1 hy with rfl | hy
          · exact e1
          · exact h1 y hy
        · rcases List.mem_cons.1 hy with rfl | hy
          · exact e2 z hz
          · exact h2 y hy z (by simp [hz])
      · rintro ⟨h1, h2, h3⟩
        obtain ⟨h4, h5⟩ := List.pairwise_cons.1 h3
        refine ⟨fun y hy => h1 y (by simp [hy]), fun y hy z hz => ?_, h5⟩
        rcases List.mem_append.1 hz with hz | hz
        · exact h2 y (by simp [hy]) z hz
        · simp at hz; subst hz; exact h4 y hy
    · rw [if_pos h]
      refine ⟨fun h' => absurd h' h, fun h' => absurd (e.2 ⟨h'.1 x (by simp), fun y hy => h'.2.1 x (by simp) y hy⟩) h⟩
theorem check_zero {n : Int} {l : List E} : checkP n l = 0 ↔ 1 ≤ n ∧ n ≤ 16 ∧ (l.length : Int) ≤ n ∧ (∀ x ∈ l, oneP x = 0) ∧ l.Pairwise (fun a b => overlapP b a = false) := by
  unfold checkP
  by_cases h : n < 1 ∨ 16 < n
  · rw [if_pos h]
    exact ⟨fun h' => absurd h' (by decide), fun h' => by omega⟩
  · rw [if_neg h]
    by_cases h2 : n < (l.length : Int)
    · rw [if_pos h2]
      exact ⟨fun h' => absurd h' (by decide), fun h' => by omega⟩
    · rw [if_neg h2, scan_zero]
      constructor
      · rintro ⟨h3, _, h4⟩; exact ⟨by omega, by omega, by omega, h3, h4⟩
      · rintro ⟨_, _, _, h3, h4⟩; exact ⟨h3, ⟨fun x _ y hy => (nomatch hy), h4⟩⟩
theorem check_sub {n : Int} {l r : List E} (h : checkP n l = 0) (hs : r.Sublist l) : checkP n r = 0 := by
  obtain ⟨h1, h2, h3, h4, h5⟩ := check_zero.1 h
  have := hs.length_le
  exact check_zero.2 ⟨h1, h2, by omega, fun x hx => h4 x (hs.subset hx), h5.sublist hs⟩
theorem kept_sub (q : E → Bool) (l : List E) : (kept q l).Sublist l := List.filter_sublist
theorem shifted_sub (n : Int) (r : List E) : (shifted n r).Sublist r := by
  unfold shifted
  split
  · exact List.drop_sublist _ _
  · exact List.Sublist.refl _
theorem all_sub {l r : List E} (h : ∀ x ∈ l, okw x = true) (hs : r.Sublist l) : ∀ x ∈ r, okw x = true := fun x hx => h x (hs.subset hx)
/-- A fill of a valid cache that is accepted. -/
theorem fill_new {n : Int} {l : List E} {s p w : Int} (h : checkP n l = 0) (hp : placeP s p = 0) (ht : trOk w = true) : checkP n (shifted n (kept (fun y => overlapP ⟨s, pageOf p w, w⟩ y) l) ++ [⟨s, pageOf p w, w⟩]) = 0 := by
  have vx := page_valid hp ht
  obtain ⟨h1, h2, h3, h4, h5⟩ := check_zero.1 h
  have hk := kept_sub (fun y => overlapP ⟨s, pageOf p w, w⟩ y) l
  have hs := shifted_sub n (kept (fun y => overlapP ⟨s, pageOf p w, w⟩ y) l)
  have hks := hs.trans hk
  have hlen : ((shifted n (kept (fun y => overlapP ⟨s, pageOf p w, w⟩ y) l)).length : Int) + 1 ≤ n := by
    have := hk.length_le
    unfold shifted
    split
    · rw [List.length_drop]; omega
    · omega
  refine check_zero.2 ⟨h1, h2, by rw [List.length_append, List.length_singleton]; omega, fun x hx => ?_, ?_⟩
  · rcases List.mem_append.1 hx with hx | hx
    · exact h4 x (hks.subset hx)
    · simp at hx; subst hx; exact vx
  · rw [List.pairwise_append]
    refine ⟨h5.sublist hks, List.pairwise_singleton _ _, fun a ha b hb => ?_⟩
    simp at hb; subst hb
    have := List.mem_filter.1 (hs.subset ha)
    simpa using this.2
/-- A call, in plain Lean. -/
def doP (n : Int) (l : List E) (k s p w : Int) : Int × List E × Int :=
  if k = 0 then (if (fillP n l s p w).2.2 = 0 then ((fillP n l s p w).1, (fillP n l s p w).2.1, 0) else (n, l, (fillP n l s p w).2.2))
  else if k = 1 then (if (invalP n l s p).2.2 = 0 then ((invalP n l s p).1, (invalP n l s p).2.1, 0) else (n, l, (invalP n l s p).2.2))
  else if k = 2 then (if (flushP n l s).2.2 = 0 then ((flushP n l s).1, (flushP n l s).2.1, 0) else (n, l, (flushP n l s).2.2))
  else (n, l, 0)
theorem pdo_eq (n : Int) (l : List E) (k s p w : Int) (hw : inU w = true) (hl : ∀ y ∈ l, okw y = true) : estoverslaw07_do.f n l k s p w = some (doP n l k s p w) := by
  unfold estoverslaw07_do.f doP
  rw [pfill_eq n l s p w hw hl, pinval_eq n l s p hl, pflush_eq n l s hl]
  simp only [Option.bind_some]
  repeat' split
  all_goals rfl
/-- A valid cache of the size n. -/
def GoodC (n : Int) (l : List E) : Prop := checkP n l = 0 ∧ ∀ x ∈ l, okw x = true
theorem fill_good {n : Int} {l : List E} {s p w : Int} (hw : inU w = true) (h : GoodC n l) (e : (fillP n l s p w).2.2 = 0) : (fillP n l s p w).1 = n ∧ GoodC n (fillP n l s p w).2.1 ∧ placeP s p = 0 ∧ trOk w = true ∧ (fillP n l s p w).2.1 = shifted n (kept (fun y => overlapP ⟨s, pageOf p w, w⟩ y) l) ++ [⟨s, pageOf p w, w⟩] := by
  obtain ⟨hc, hl⟩ := h
  unfold fillP at e ⊢
  rw [if_neg (by simp [hc])] at e ⊢
  by_cases hp : placeP s p = 0
  · rw [if_neg (by simp [hp])] at e ⊢
    cases ht : trOk w with
    | false => rw [if_pos ht] at e; exact absurd e (by decide)
    | true =>
      rw [if_neg (by simp [ht])]
      refine ⟨rfl, ⟨fill_new hc hp ht, fun x hx => ?_⟩, hp, rfl, rfl⟩
      rcases List.mem_append.1 hx with hx | hx
      · exact all_sub hl ((shifted_sub _ _).trans (kept_sub _ _)) x hx
      · simp at hx; subst hx; exact hw
  · rw [if_pos hp] at e; exact absurd e hp
theorem inval_good {n : Int} {l : List E} {s p : Int} (h : GoodC n l) (e : (invalP n l s p).2.2 = 0) : (invalP n l s p).1 = n ∧ GoodC n (invalP n l s p).2.1 ∧ (invalP n l s p).2.1 = kept (fun y => coversP y s p) l := by
  obtain ⟨hc, hl⟩ := h
  unfold invalP at e ⊢
  rw [if_neg (by simp [hc])] at e ⊢
  by_cases hp : placeP s p = 0
  · rw [if_neg (by simp [hp])]
    exact ⟨rfl, ⟨check_sub hc (kept_sub _ _), all_sub hl (kept_sub _ _)⟩, rfl⟩
  · rw [if_pos hp] at e; exact absurd e hp
theorem flush_good {n : Int} {l : List E} {s : Int} (h : GoodC n l) (e : (flushP n l s).2.2 = 0) : (flushP n l s).1 = n ∧ GoodC n (flushP n l s).2.1 ∧ (flushP n l s).2.1 = kept (fun y => y.f0 == s) l := by
  obtain ⟨hc, hl⟩ := h
  unfold flushP at e ⊢
  rw [if_neg (by simp [hc])] at e ⊢
  by_cases hp : placeP s 0 = 0
  · rw [if_neg (by simp [hp])]
    exact ⟨rfl, ⟨check_sub hc (kept_sub _ _), all_sub hl (kept_sub _ _)⟩, rfl⟩
  · rw [if_pos hp] at e; exact absurd e hp
theorem do_good {n : Int} {l : List E} {k s p w : Int} (hw : inU w = true) (h : GoodC n l) : (doP n l k s p w).1 = n ∧ GoodC n (doP n l k s p w).2.1 := by
  unfold doP
  by_cases h0 : k = 0
  · rw [if_pos h0]
    by_cases e : (fillP n l s p w).2.2 = 0
    · rw [if_pos e]; have := fill_good hw h e; exact ⟨this.1, this.2.1⟩
    · rw [if_neg e]; exact ⟨rfl, h⟩
  · rw [if_neg h0]
    by_cases h1 : k = 1
    · rw [if_pos h1]
      by_cases e : (invalP n l s p).2.2 = 0
      · rw [if_pos e]; have := inval_good h e; exact ⟨this.1, this.2.1⟩
      · rw [if_neg e]; exact ⟨rfl, h⟩
    · rw [if_neg h1]
      by_cases h2 : k = 2
      · rw [if_pos h2]
        by_cases e : (flushP n l s).2.2 = 0
        · rw [if_pos e]; have := flush_good h e; exact ⟨this.1, this.2.1⟩
        · rw [if_neg e]; exact ⟨rfl, h⟩
      · rw [if_neg h2]; exact ⟨rfl, h⟩
theorem covers_iff {x : E} (hx : oneP x = 0) (s p : Int) : (coversP x s p = true ↔ x.f0 = s ∧ x.f1 ≤ p ∧ p < x.f1 + spanP x.f2) := by
  obtain ⟨x0, x1, x2⟩ := span_valid hx
  unfold coversP
  rw [w64 (by omega) (by omega)]
  simp
/-- Two entries that cover one page overlap. -/
theorem covers_both {a b : E} (ha : oneP a = 0) (hb : oneP b = 0) {s p : Int} (h1 : coversP a s p = true) (h2 : coversP b s p = true) : overlapP a b = true := by
  have c1 := (covers_iff ha s p).1 h1
  have c2 := (covers_iff hb s p).1 h2
  exact (overlap_iff ha hb).2 ⟨by omega, by omega, by omega⟩
theorem look_any (l : List E) (s p : Int) : (lookP l s p).2 = l.any (fun x => coversP x s p) := by
  induction l with
  | nil => rfl
  | cons x r ih =>
    rw [lookP, List.any_cons]
    cases h : coversP x s p with
    | true => rw [if_pos rfl]; rfl
    | false => rw [if_neg (by simp)]; simpa using ih
end Go.Proofs.Ytkbnhphcmlljgaa.TlbRef
