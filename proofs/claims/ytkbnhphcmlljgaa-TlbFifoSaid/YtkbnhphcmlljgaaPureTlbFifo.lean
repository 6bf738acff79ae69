/- The law TlbFifo, in plain Lean. -/
import Derived.Test.YtkbnhphcmlljgaaTlbRefC
import Derived.Test.YtkbnhphcmlljgaaPx16
set_option linter.unusedVariables false
set_option linter.unusedSimpArgs false
namespace Go.Proofs.Ytkbnhphcmlljgaa.PureFifo
open Go.RowKit Go.Proofs.Ytkbnhphcmlljgaa.P Go.Proofs.Ytkbnhphcmlljgaa.Pte Go.Proofs.Ytkbnhphcmlljgaa.TlbP Go.Proofs.Ytkbnhphcmlljgaa.TlbRef Go.Proofs.YtkbnhphcmlljgaaW.PrintWords

/-- The entry of the page filled as number j. -/
def entF (l : List Int) (j : Nat) : E := ⟨2, l.getD j 0, 1 + 256 * (j : Int)⟩
theorem word_at (j : Nat) (h : j < 100) : dec (1 + 256 * (j : Int)) = (1, (j : Int), false, false, false, false, 0) := by
  have g : ok 1 (j : Int) false false false false := ⟨by omega, by omega, by simp [big]; omega, by simp [suits]⟩
  have := dec_word g
  rw [show word 1 (j : Int) false false false false = 1 + 256 * (j : Int) by simp [word, b2]] at this
  exact this
theorem ok_at (j : Nat) (h : j < 100) : trOk (1 + 256 * (j : Int)) = true ∧ trHuge (1 + 256 * (j : Int)) = false := by
  unfold trOk trHuge; rw [word_at j h]; simp
structure Pages (l : List Int) : Prop where
  len : l.length ≤ 40
  rng : ∀ j, j < l.length → 0 ≤ l.getD j 0 ∧ l.getD j 0 < 512
  dis : ∀ i j, i < l.length → j < l.length → i ≠ j → l.getD i 0 ≠ l.getD j 0
theorem ent_valid {l : List Int} (P : Pages l) (j : Nat) (h : j < l.length) : oneP (entF l j) = 0 := by
  have hj := P.rng j h
  have hk := P.len
  obtain ⟨h1, h2⟩ := ok_at j (by omega)
  unfold oneP entF
  have e : placeP 2 (l.getD j 0) = 0 := place_zero.2 (by omega)
  simp only [e, h1, h2]; simp
theorem ent_apart {l : List Int} (P : Pages l) (i j : Nat) (hi : i < l.length) (hj : j < l.length) (h : i ≠ j) : overlapP (entF l i) (entF l j) = false := by
  have hk := P.len
  have hd := P.dis i j hi hj h
  have e : ¬ overlapP (entF l i) (entF l j) = true := by
    rw [overlap_iff (ent_valid P i hi) (ent_valid P j hj)]
    have s1 : spanP (entF l i).f2 = 1 := by unfold spanP entF; simp only [(ok_at i (by omega)).2]; rfl
    have s2 : spanP (entF l j).f2 = 1 := by unfold spanP entF; simp only [(ok_at j (by omega)).2]; rfl
    rw [s1, s2]
    unfold entF
    simp only
    omega
  simpa using e
theorem scan_ok : ∀ (l pre : List E), (∀ x ∈ l, oneP x = 0) → (∀ x ∈ l, ∀ y ∈ pre, overlapP x y = false) → l.Pairwise (fun a b => overlapP b a = false) → scan pre l = 0
  | [], _, _, _, _ => rfl
  | x :: r, pre, h1, h2, h3 => by
    obtain ⟨h4, h5⟩ := List.pairwise_cons.1 h3
    have e : entryErr pre x = 0 := by
      rw [entry_one, h1 x (by simp)]
      have : pre.any (fun y => overlapP x y) = false := by
        rw [List.any_eq_false]
        intro y hy
        rw [h2 x (by simp) y hy]; simp
      rw [this]; simp
    simp only [scan]
    rw [if_neg (by simp [e])]
    refine scan_ok r _ (fun y hy => h1 y (by simp [hy])) (fun y hy z hz => ?_) h5
    rcases List.mem_append.1 hz with hz | hz
    · exact h2 y (by simp [hy]) z hz
    · simp at hz; subst hz; exact h4 y hy
/-- The cache behind i fills. -/
def S (n : Nat) (l : List Int) (i : Nat) : List E := ((List.range i).map (entF l)).drop (i - n)
theorem S_len (n : Nat) (l : List Int) (i : Nat) : (S n l i).length = min i n := by
  unfold S; rw [List.length_drop, List.length_map, List.length_range]; omega
theorem S_get (n : Nat) (l : List Int) (i k : Nat) (hk : k < (S n l i).length) : (S n l i)[k] = entF l (i - n + k) := by
  have h1 : i - n + k < i := by rw [S_len] at hk; omega
  have h : (S n l i)[k]? = some (entF l (i - n + k)) := by
    unfold S
    rw [List.getElem?_drop, List.getElem?_map, List.getElem?_range h1]
    rfl
  exact (List.getElem?_eq_some_iff.1 h).2
theorem S_mem {n : Nat} {l : List Int} {i : Nat} {x : E} (h : x ∈ S n l i) : ∃ j, j < i ∧ x = entF l j := by
  have := List.mem_of_mem_drop h
  obtain ⟨j, hj, rfl⟩ := List.mem_map.1 this
  exact ⟨j, List.mem_range.1 hj, rfl⟩
theorem S_check {n : Nat} {l : List Int} (P : Pages l) (h1 : 1 ≤ n) (h2 : n ≤ 16) (i : Nat) (hi : i ≤ l.length) : checkP n (S n l i) = 0 := by
  unfold checkP
  rw [if_neg (by omega), if_neg (by rw [S_len]; omega)]
  refine scan_ok _ _ (fun x hx => ?_) (fun x _ y hy => by cases hy) ?_
  · obtain ⟨j, hj, rfl⟩ := S_mem hx
    exact ent_valid P j (by omega)
  · unfold S
    refine List.Pairwise.drop ?_
    rw [List.pairwise_map]
    refine (List.pairwise_lt_range (n := i)).imp_of_mem ?_
    intro a b ha hb hab
    have := List.mem_range.1 ha
    have := List.mem_range.1 hb
    exact ent_apart P b a (by omega) (by omega) (by omega)
theorem S_okw {n : Nat} {l : List Int} (P : Pages l) (i : Nat) (hi : i ≤ l.length) : ∀ x ∈ S n l i, okw x = true := by
  intro x hx
  obtain ⟨j, hj, rfl⟩ := S_mem hx
  have := P.len
  unfold okw inU entF
  simp; omega
theorem S_fill {n : Nat} {l : List Int} (P : Pages l) (h1 : 1 ≤ n) (h2 : n ≤ 16) (i : Nat) (hi : i < l.length) : tlb_Fill.f n (S n l i) 2 (l.getD i 0) (1 + 256 * (i : Int)) = some ((n : Int), S n l (i + 1), 0) := by
  have hk := P.len
  have hr := P.rng i hi
  obtain ⟨t1, t2⟩ := ok_at i (by omega)
  unfold tlb_Fill.f
  rw [if_pos ⟨List.all_eq_true.2 (S_okw P i (by omega)), by unfold inU; simp; omega⟩]
  unfold fillP
  rw [if_neg (by rw [S_check P h1 h2 i (by omega)]; simp), if_neg (by rw [place_zero.2 (show 0 ≤ (2 : Int) ∧ (2 : Int) < 8 ∧ 0 ≤ l.getD i 0 ∧ l.getD i 0 < 512 by omega)]; simp), if_neg (by rw [t1]; simp)]
  have e1 : pageOf (l.getD i 0) (1 + 256 * (i : Int)) = l.getD i 0 := by unfold pageOf; rw [t2]; rfl
  rw [e1]
  have e2 : kept (fun y => overlapP ⟨2, l.getD i 0, 1 + 256 * (i : Int)⟩ y) (S n l i) = S n l i := by
    unfold kept
    rw [List.filter_eq_self]
    intro y hy
    obtain ⟨j, hj, rfl⟩ := S_mem hy
    have e : overlapP ⟨2, l.getD i 0, 1 + 256 * (i : Int)⟩ (entF l j) = false := ent_apart P i j hi (by omega) (by omega)
    show (!(overlapP ⟨2, l.getD i 0, 1 + 256 * (i : Int)⟩ (entF l j))) = true
    rw [e]; rfl
  rw [e2]
  congr 3
  unfold shifted
  rw [S_len]
  have hS : ∀ k, k ≤ i → ((List.range (i + 1)).map (entF l)).drop k = ((List.range i).map (entF l)).drop k ++ [entF l i] := by
    intro k hk
    rw [List.range_succ, List.map_append, List.drop_append_of_le_length (by rw [List.length_map, List.length_range]; omega)]
    rfl
  by_cases hf : ((min i n : Nat) : Int) = n
  · rw [if_pos hf]
    unfold S
    rw [hS (i + 1 - n) (by omega), List.drop_drop, show i - n + 1 = i + 1 - n by omega]
    rfl
  · rw [if_neg hf]
    unfold S
    rw [hS (i + 1 - n) (by omega), show i + 1 - n = i - n by omega]
    rfl
theorem w_at (j : Nat) (h : j < 100) : IntKind.u64.wrap (wrap64 (1 + wrap64 (256 * (j : Int)))) = 1 + 256 * (j : Int) := by
  rw [w64 (x := 256 * (j : Int)) (by omega) (by omega), w64 (by omega) (by omega)]
  simp [IntKind.wrap, IntKind.signed, IntKind.bits]; omega
theorem rd_is (l : List Int) (j : Nat) : rd l (j : Int) = l.getD j 0 := by simp [rd]
theorem loop3 {n : Nat} {l : List Int} (P : Pages l) (h1 : 1 ≤ n) (h2 : n ≤ 16) : ∀ (m i k : Nat), i + m = l.length → l.length - n ≤ i → m + 1 ≤ k → estoverslaw07_TlbFifo.l3 k l ((l.length - n : Nat) : Int) (i : Int) n (S n l l.length) = some true
  | 0, i, k, hi, hf, hk => by
    obtain ⟨k, rfl⟩ : ∃ q, k = q + 1 := ⟨k - 1, by omega⟩
    rw [estoverslaw07_TlbFifo.l3, if_neg (by omega)]; rfl
  | m + 1, i, k, hi, hf, hk => by
    have hl := P.len
    obtain ⟨k, rfl⟩ : ∃ q, k = q + 1 := ⟨k - 1, by omega⟩
    have ih := loop3 P h1 h2 m (i + 1) k (by omega) (by omega) (by omega)
    have e0 : wrap64 ((i : Int) - ((l.length - n : Nat) : Int)) = ((i - (l.length - n) : Nat) : Int) := by rw [w64 (by omega) (by omega)]; omega
    have hs : i - (l.length - n) < (S n l l.length).length := by rw [S_len]; omega
    have e1 : (S n l l.length)[i - (l.length - n)] = entF l i := by
      have h := S_get n l l.length (i - (l.length - n)) hs
      rw [show l.length - n + (i - (l.length - n)) = i by omega] at h
      exact h
    rw [estoverslaw07_TlbFifo.l3, if_pos (by omega), e0, if_pos (by omega), if_pos (by omega), if_pos (by omega), rd_get _ _ hs, e1, w_at i (by omega), rd_is, w64 (x := (i : Int) + 1) (by omega) (by omega), show (i : Int) + 1 = ((i + 1 : Nat) : Int) by omega, ih]
    simp [entF]
theorem loop2 {n : Nat} {l : List Int} (P : Pages l) (h1 : 1 ≤ n) (h2 : n ≤ 16) : ∀ (m i k : Nat), i + m = l.length → m + 60 ≤ k → estoverslaw07_TlbFifo.l2 k (n : Int) l (i : Int) n (S n l i) = some true
  | 0, i, k, hi, hk => by
    have hl := P.len
    obtain ⟨k, rfl⟩ : ∃ q, k = q + 1 := ⟨k - 1, by omega⟩
    have e0 : mx 0 (wrap64 ((l.length : Int) - (n : Int))) = ((l.length - n : Nat) : Int) := by
      rw [w64 (by omega) (by omega)]; unfold mx; split <;> omega
    have hi' : i = l.length := by omega
    subst hi'
    rw [estoverslaw07_TlbFifo.l2, if_neg (by omega), e0, w64 (by omega) (by omega), S_len, if_pos (by omega)]
    exact loop3 P h1 h2 (l.length - (l.length - n)) (l.length - n) k (by omega) (by omega) (by omega)
  | m + 1, i, k, hi, hk => by
    have hl := P.len
    obtain ⟨k, rfl⟩ : ∃ q, k = q + 1 := ⟨k - 1, by omega⟩
    have ih := loop2 P h1 h2 m (i + 1) k (by omega) (by omega)
    rw [estoverslaw07_TlbFifo.l2, if_pos (by omega), if_pos (by omega), rd_is, w_at i (by omega), S_fill P h1 h2 i (by omega), Option.bind_some]
    rw [w64 (by omega) (by omega), show (i : Int) + 1 = ((i + 1 : Nat) : Int) by omega]
    simpa using ih
theorem pages_nil : Pages [] := ⟨by simp, fun j h => by simp at h, fun i j h => by simp at h⟩
theorem getD_append (l : List Int) (p : Int) (j : Nat) : (l ++ [p]).getD j 0 = if j < l.length then l.getD j 0 else if j = l.length then p else 0 := by
  rw [List.getD_eq_getElem?_getD, List.getD_eq_getElem?_getD]
  by_cases h : j < l.length
  · rw [if_pos h, List.getElem?_append_left h]
  · rw [if_neg h, List.getElem?_append_right (by omega)]
    by_cases e : j = l.length
    · subst e; simp
    · rw [if_neg e, List.getElem?_eq_none (by simp; omega)]; rfl
theorem pages_add {l : List Int} (P : Pages l) (p : Int) (h0 : 0 ≤ p) (h1 : p < 512) (hl : l.length + 1 ≤ 40) (hn : ∀ t, t < l.length → l.getD t 0 ≠ p) : Pages (l ++ [p]) := by
  refine ⟨by simpa using hl, fun j hj => ?_, fun i j hi hj hij => ?_⟩
  · rw [getD_append]
    rw [List.length_append, List.length_singleton] at hj
    by_cases h : j < l.length
    · rw [if_pos h]; exact P.rng j h
    · rw [if_neg h, if_pos (by omega)]; exact ⟨h0, h1⟩
  · rw [List.length_append, List.length_singleton] at hi hj
    rw [getD_append, getD_append]
    by_cases a : i < l.length <;> by_cases b : j < l.length
    · rw [if_pos a, if_pos b]; exact P.dis i j a b hij
    · rw [if_pos a, if_neg b, if_pos (by omega)]; exact hn i a
    · rw [if_neg a, if_pos (by omega), if_pos b]; exact fun e => hn j b e.symm
    · exact absurd (show i = j by omega) hij
theorem loop1 {n : Nat} (x1 : List Int) (x6 : List Int) (i : Nat) (p : Int) (hx : x6.length ≤ 40) (F : Nat) (hi : i ≤ 100)
    (ih : (∀ t, t < x6.length → x6.getD t 0 ≠ p) → ∀ k, F ≤ k → estoverslaw07_TlbFifo.l0 k x1 (n : Int) (x6 ++ [p]) ((i + 1 : Nat) : Int) = some true) :
    ∀ (m j k : Nat), j + m = x6.length → (∀ t, t < j → x6.getD t 0 ≠ p) → F + m + 1 ≤ k → estoverslaw07_TlbFifo.l1 k x1 (n : Int) x6 (i : Int) p (j : Int) = some true
  | 0, j, k, hj, hn, hk => by
    obtain ⟨k, rfl⟩ : ∃ q, k = q + 1 := ⟨k - 1, by omega⟩
    rw [estoverslaw07_TlbFifo.l1, if_neg (by omega), if_pos (by omega), w64 (by omega) (by omega), show (i : Int) + 1 = ((i + 1 : Nat) : Int) by omega]
    exact ih (fun t ht => hn t (by omega)) k (by omega)
  | m + 1, j, k, hj, hn, hk => by
    obtain ⟨k, rfl⟩ : ∃ q, k = q + 1 := ⟨k - 1, by omega⟩
    rw [estoverslaw07_TlbFifo.l1, if_pos (by omega), if_pos (by omega), rd_is]
    by_cases h : x6.getD j 0 = p
    · rw [if_pos h]; rfl
    · rw [if_neg h, w64 (by omega) (by omega), show (j : Int) + 1 = ((j + 1 : Nat) : Int) by omega]
      exact loop1 x1 x6 i p hx F hi ih m (j + 1) k (by omega) (fun t ht => by
        by_cases e : t = j
        · subst e; exact h
        · exact hn t (by omega)) (by omega)
theorem loop0 {n : Nat} (h1 : 1 ≤ n) (h2 : n ≤ 16) (x1 : List Int) (hl : x1.length ≤ 40) (hw : ∀ x ∈ x1, 0 ≤ x ∧ x ≤ 65535) :
    ∀ (m i k : Nat) (x6 : List Int), i + m = x1.length → x6.length = i → Pages x6 → 120 + m * 60 ≤ k → estoverslaw07_TlbFifo.l0 k x1 (n : Int) x6 (i : Int) = some true
  | 0, i, k, x6, hi, hx, P, hk => by
    obtain ⟨k, rfl⟩ : ∃ q, k = q + 1 := ⟨k - 1, by omega⟩
    rw [estoverslaw07_TlbFifo.l0, if_neg (by omega)]
    have e : tlb_New.f (n : Int) = some ((n : Int), [], 0) := by
      unfold tlb_New.f
      rw [if_neg (by omega), if_neg (by omega)]
    rw [e, Option.bind_some]
    have := loop2 P h1 h2 x6.length 0 k (by omega) (by have := P.len; omega)
    simpa [S] using this
  | m + 1, i, k, x6, hi, hx, P, hk => by
    obtain ⟨k, rfl⟩ : ∃ q, k = q + 1 := ⟨k - 1, by omega⟩
    rw [estoverslaw07_TlbFifo.l0, if_pos (by omega), if_pos (by omega), rd_is]
    have hb := hw (x1.getD i 0) (by
      rw [List.getD_eq_getElem?_getD, List.getElem?_eq_getElem (show i < x1.length by omega)]
      exact List.getElem_mem _)
    rw [w64 (by omega) (by omega), Int.tmod_eq_emod_of_nonneg hb.1]
    have := loop1 (n := n) x1 x6 i (x1.getD i 0 % 512) P.len (120 + m * 60) (by omega) (fun hn k hk => loop0 h1 h2 x1 hl hw m (i + 1) k (x6 ++ [x1.getD i 0 % 512]) (by omega) (by simp [hx]) (pages_add P _ (by omega) (by omega) (by omega) hn) hk) x6.length 0 k (by omega) (fun t ht => absurd ht (Nat.not_lt_zero _)) (by have := P.len; omega)
    exact this
end Go.Proofs.Ytkbnhphcmlljgaa.PureFifo
namespace Go.Proofs.Ytkbnhphcmlljgaa.Pure
open Go.RowKit Go.Proofs.Ytkbnhphcmlljgaa.P Go.Proofs.Ytkbnhphcmlljgaa.TlbRef Go.Proofs.Ytkbnhphcmlljgaa.PureFifo
theorem TlbFifo : estoverslaw07_TlbFifo.Pure := by
  intro a0 l1 w0 _ _ w1
  refine ⟨120 + 40 * 60, ?_⟩
  unfold estoverslaw07_TlbFifo.f
  by_cases h : (l1.length : Int) > 40
  · rw [if_pos h]; rfl
  · rw [if_neg h]
    have b : 0 ≤ a0 ∧ a0 ≤ 255 := by simp [Lit.wf, IntKind.min, IntKind.max, IntKind.signed, IntKind.bits] at w0; omega
    rw [w64 (x := a0) (by omega) (by omega), Int.tmod_eq_emod_of_nonneg b.1, w64 (by omega) (by omega)]
    obtain ⟨n, hn⟩ : ∃ n : Nat, 1 + a0 % 16 = (n : Int) := ⟨(1 + a0 % 16).toNat, by omega⟩
    rw [hn]
    refine loop0 (by omega) (by omega) l1 (by omega) (fun x hx => ?_) l1.length 0 _ [] (by omega) rfl pages_nil (by omega)
    have := w1 x hx
    simp [Lit.wf, IntKind.min, IntKind.max, IntKind.signed, IntKind.bits] at this
    omega
end Go.Proofs.Ytkbnhphcmlljgaa.Pure
