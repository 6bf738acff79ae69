/- The reference's translation cache answers as the plain one: plain Lean, no program's step. -/
import Derived.Test.YtkbnhphcmlljgaaTlbPl
import Derived.Test.YtkbnhphcmlljgaaHandFill
import Derived.Test.YtkbnhphcmlljgaaPx7
import Derived.Test.YtkbnhphcmlljgaaPx8
import Derived.Test.YtkbnhphcmlljgaaPx9
import Derived.Test.YtkbnhphcmlljgaaPx10
import Derived.Test.YtkbnhphcmlljgaaPx11
set_option linter.unusedVariables false
set_option linter.unusedSimpArgs false
namespace Go.Proofs.Ytkbnhphcmlljgaa.TlbRef
open Go.RowKit Go.Proofs.Ytkbnhphcmlljgaa.P Go.Proofs.Ytkbnhphcmlljgaa.Pte Go.Proofs.Ytkbnhphcmlljgaa.TlbP Go.Proofs.YtkbnhphcmlljgaaW.PrintWords

theorem rform_eq (kd n : Int) (w a d h : Bool) (h0 : 0 ≤ kd) (h4 : kd ≤ 4) : estoversref05_form.f kd n w a d h = some (suits kd n w a d h) := by
  unfold estoversref05_form.f suits
  have : kd = 0 ∨ kd = 1 ∨ kd = 2 ∨ kd = 3 ∨ kd = 4 := by omega
  rcases this with rfl | rfl | rfl | rfl | rfl <;> simp <;> cases w <;> cases a <;> cases d <;> cases h <;> simp <;> rfl
theorem rbit_eq (b : Bool) (x : Int) : estoversref05_bit.f b x = some (x * b2 b) := by
  cases b <;> simp [estoversref05_bit.f, b2]
theorem renc_j1 (k : Nat) (kd n : Int) (w a d h : Bool) (h0 : 0 ≤ kd) (h4 : kd ≤ 4) : estoversref05_Encode.j1 (k + 1) (big kd n h) kd n w a d h = some (enc kd n w a d h) := by
  have hk : ¬ (kd < 0 ∨ 4 < kd) := by omega
  simp only [estoversref05_Encode.j1, enc, if_neg hk]
  cases hb : big kd n h with
  | true => simp
  | false =>
    obtain ⟨n0, n1, _⟩ := big_of kd n h hb
    simp only [rform_eq kd n w a d h h0 h4, Option.bind_some, rbit_eq, join5 kd n w a d h h0 h4 n0 n1]
    cases suits kd n w a d h <;> simp
theorem renc_j0 (k : Nat) (kd n : Int) (w a d h : Bool) (h0 : 0 ≤ kd) (h4 : kd ≤ 4) : estoversref05_Encode.j0 (k + 2) false kd n w a d h = some (enc kd n w a d h) := by
  simp only [estoversref05_Encode.j0, Bool.false_eq_true, if_false]
  have e := renc_j1 k kd n w a d h h0 h4
  split
  · rename_i h1; rw [show big kd n h = true by simp [big, h1]] at e; exact e
  · split
    · rename_i h1 h2; rw [show big kd n h = true by simp [big]; omega] at e; exact e
    · rename_i h1 h2
      have h1' : decide (n < 0) = false := by simpa using h1
      have h2' : decide (4294967295 < n) = false := by simpa using h2
      split
      · rename_i h3
        split
        · rename_i h5; rw [show big kd n h = decide (n > 4294967288) by simp only [big, h1', h2', h3, h5]; simp] at e; exact e
        · rename_i h5
          have h5' : h = false := by simpa using h5
          rw [show big kd n h = false by simp only [big, h1', h2', h5']; simp] at e; exact e
      · rename_i h3
        have h3' : decide (kd = 1) = false := by simpa using h3
        rw [show big kd n h = false by simp only [big, h1', h2', h3']; simp] at e; exact e
theorem rencode_eq (k : Nat) (kd n : Int) (w a d h : Bool) : estoversref05_Encode.f (k + 2) kd n w a d h = some (enc kd n w a d h) := by
  by_cases hk : kd < 0 ∨ 4 < kd
  · unfold estoversref05_Encode.f
    have e : ∀ b, b = true → estoversref05_Encode.j0 (k + 2) b kd n w a d h = some (0, 1) := by
      rintro b rfl; simp [estoversref05_Encode.j0]
    rw [show enc kd n w a d h = (0, 1) by simp only [enc, if_pos hk]]
    split
    · exact e _ rfl
    · exact e _ (by simp; omega)
  · have e := renc_j0 k kd n w a d h (by omega) (by omega)
    unfold estoversref05_Encode.f
    rw [if_neg (by omega), show decide (kd > 4) = false by simp; omega]
    exact e
theorem rdecode_eq (k : Nat) (x : Int) (h0 : 0 ≤ x) (h1 : x < 18446744073709551616) : estoversref05_Decode.f (k + 2) x = some (dec x) := by
  unfold estoversref05_Decode.f
  rw [wrap_kd x h0 h1, wrap_n x h0 h1, gbit8 x h0 h1, gbit16 x h0 h1, gbit32 x h0 h1, gbit64 x h0 h1, rencode_eq, Option.bind_some, pair_if]
  unfold dec
  split <;> rfl

theorem rtransl_eq (k : Nat) (w : Int) (h : inU w = true) : estoversref07_Translation.f (k + 2) w = some (trOk w, trHuge w) := by
  obtain ⟨h0, h1⟩ := inU_of h
  unfold estoversref07_Translation.f
  rw [rdecode_eq k w h0 h1, Option.bind_some]
  have hh := @huge_ok w
  unfold trOk trHuge at hh ⊢
  by_cases c : (dec w).2.2.2.2.2.2 = 0 <;> by_cases d : (dec w).1 = 1 <;> simp [c, d] at hh ⊢
  exact hh
theorem rspace_eq (s : Int) : estoversref07_space.f s = some (decide (0 ≤ s) && decide (s < 8)) := by
  unfold estoversref07_space.f; by_cases h : s ≥ 0 <;> simp [h] <;> omega
theorem rpage_eq (s : Int) : estoversref07_page.f s = some (decide (0 ≤ s) && decide (s < 512)) := by
  unfold estoversref07_page.f; by_cases h : s ≥ 0 <;> simp [h] <;> omega
theorem rone_j0 (k : Nat) (x : E) (h : inU x.f2 = true) (b : Bool) (hb : b = decide (placeP x.f0 x.f1 ≠ 0)) : estoversref07_one.j0 (k + 3) b x.f0 x.f1 x.f2 = some (oneP x) := by
  simp only [estoversref07_one.j0]
  rw [rtransl_eq k x.f2 h, Option.bind_some]
  subst hb
  unfold oneP
  by_cases a : placeP x.f0 x.f1 = 0
  · cases c : trOk x.f2 <;> cases d : trHuge x.f2 <;> by_cases f : Int.tmod x.f1 8 = 0 <;> simp [a, f]
  · simp [a]
theorem rone_eq (k : Nat) (x : E) (h : inU x.f2 = true) : estoversref07_one.f (k + 3) x.f0 x.f1 x.f2 = some (oneP x) := by
  unfold estoversref07_one.f
  rw [rspace_eq, Option.bind_some, rpage_eq]
  split
  · rename_i hs
    rw [Option.bind_some]
    refine rone_j0 k x h _ ?_
    simp at hs
    rw [Bool.eq_iff_iff]
    simp [place_zero]
    omega
  · rename_i hs
    refine rone_j0 k x h _ ?_
    simp at hs
    simp [place_zero]
    omega
/-- The group of a page. -/
def groupP (p : Int) : Int := wrap64 (p - Int.tmod p 8)
theorem group_is {p : Int} (h0 : 0 ≤ p) (h1 : p ≤ 9223372036854775807) : groupP p = p - p % 8 := by
  unfold groupP; rw [tm8 h0, w64 (by omega) (by omega)]
/-- Does an entry map a page? -/
def hitsP (x : E) (s p : Int) : Bool := decide (x.f0 = s) && (if trHuge x.f2 = true then decide (0 ≤ p) && decide (x.f1 = groupP p) else decide (x.f1 = p))
theorem rhits_eq (k : Nat) (x : E) (s p : Int) (h : inU x.f2 = true) : estoversref07_hits.f (k + 2) x.f0 x.f1 x.f2 s p = some (hitsP x s p) := by
  unfold estoversref07_hits.f hitsP estoversref07_group.f
  rw [rtransl_eq k x.f2 h, Option.bind_some]
  simp only [bd, groupP]
  by_cases a : x.f0 = s <;> by_cases b : trHuge x.f2 = true <;> by_cases c : 0 ≤ p <;> simp [a, b, c]
  all_goals congr
def bothQ (a b : E) (i : Int) : Bool := hitsP a b.f0 (wrap64 (groupP b.f1 + i)) && hitsP b b.f0 (wrap64 (groupP b.f1 + i))
def ovl (a b : E) : Nat → Bool
  | 0 => false
  | m + 1 => bothQ a b (7 - m) || ovl a b m
theorem ovl_iff (a b : E) : ∀ m : Nat, m ≤ 8 → (ovl a b m = true ↔ ∃ i : Int, 8 - (m : Int) ≤ i ∧ i < 8 ∧ bothQ a b i = true)
  | 0, _ => by simp [ovl]; intro i h1 h2; omega
  | m + 1, hm => by
    rw [ovl, Bool.or_eq_true, ovl_iff a b m (by omega)]
    constructor
    · rintro (h | ⟨i, h1, h2, h3⟩)
      · exact ⟨7 - m, by omega, by omega, h⟩
      · exact ⟨i, by omega, h2, h3⟩
    · rintro ⟨i, h1, h2, h3⟩
      by_cases e : i = 7 - m
      · subst e; exact .inl h3
      · exact .inr ⟨i, by omega, h2, h3⟩
theorem rover_step (k : Nat) (a b : E) (ha : okw a = true) (hb : okw b = true) (i : Int) (hi : i < 8) (r : Option Bool) (hr : estoversref07_overlaps.l0 (k + 2) (wrap64 (i + 1)) a.f0 a.f1 a.f2 b.f0 b.f1 b.f2 = r) :
    estoversref07_overlaps.l0 (k + 2 + 1) i a.f0 a.f1 a.f2 b.f0 b.f1 b.f2 = if bothQ a b i = true then some true else r := by
  rw [estoversref07_overlaps.l0, if_pos hi]
  unfold estoversref07_group.f
  rw [Option.bind_some, rhits_eq k a _ _ ha, Option.bind_some, Option.bind_some, rhits_eq k b _ _ hb, Option.bind_some, hr]
  unfold bothQ groupP
  generalize hitsP a b.f0 _ = u
  generalize hitsP b b.f0 _ = v
  cases u <;> cases v <;> simp
theorem rover_l0 (k : Nat) (a b : E) (ha : okw a = true) (hb : okw b = true) : ∀ m : Nat, m ≤ 8 → estoversref07_overlaps.l0 (k + m + 3) (8 - (m : Int)) a.f0 a.f1 a.f2 b.f0 b.f1 b.f2 = some (ovl a b m)
  | 0, _ => by
    rw [estoversref07_overlaps.l0, if_neg (by omega)]; rfl
  | m + 1, hm => by
    have ih := rover_l0 k a b ha hb m (by omega)
    have e1 : wrap64 (8 - ((m + 1 : Nat) : Int) + 1) = 8 - (m : Int) := by rw [w64 (by omega) (by omega)]; omega
    have e := rover_step (k + m + 1) a b ha hb (8 - ((m + 1 : Nat) : Int)) (by omega) (some (ovl a b m)) (by rw [e1]; exact ih)
    rw [show k + (m + 1) + 3 = k + m + 1 + 2 + 1 by omega, e, show (8 : Int) - ((m + 1 : Nat) : Int) = 7 - m by omega]
    rw [show ovl a b (m + 1) = (bothQ a b (7 - m) || ovl a b m) from rfl]
    cases bothQ a b (7 - m) <;> simp
theorem rover_eq' (k : Nat) (a b : E) (ha : okw a = true) (hb : okw b = true) : estoversref07_overlaps.f (k + 11) a.f0 a.f1 a.f2 b.f0 b.f1 b.f2 = some (ovl a b 8) := by
  have h := rover_l0 k a b ha hb 8 (by omega)
  unfold estoversref07_overlaps.f
  rw [show k + 8 + 3 = k + 11 by omega, show (8 : Int) - ((8 : Nat) : Int) = 0 by omega] at h
  exact h
theorem hits_iff {x : E} (hx : oneP x = 0) (s p : Int) (h1 : p ≤ 9223372036854775807) : (hitsP x s p = true ↔ x.f0 = s ∧ x.f1 ≤ p ∧ p < x.f1 + spanP x.f2) := by
  obtain ⟨x0, x1, x2⟩ := span_valid hx
  unfold hitsP
  rcases x2 with ⟨e, hh⟩ | ⟨e, hh, h8⟩
  · rw [hh, e]; simp; omega
  · rw [hh, e]
    by_cases hp : 0 ≤ p
    · rw [group_is hp h1]; simp [hp]; omega
    · simp [hp]; omega
theorem ovl_eq {a b : E} (ha : oneP a = 0) (hb : oneP b = 0) : ovl a b 8 = overlapP a b := by
  rw [Bool.eq_iff_iff, ovl_iff a b 8 (by omega), overlap_iff ha hb]
  obtain ⟨a0, a1, a2⟩ := span_valid ha
  obtain ⟨b0, b1, b2⟩ := span_valid hb
  have hg : groupP b.f1 = b.f1 - b.f1 % 8 := group_is b0 (by omega)
  constructor
  · rintro ⟨i, h1, h2, h3⟩
    unfold bothQ at h3
    rw [hg, w64 (by omega) (by omega), Bool.and_eq_true, hits_iff ha _ _ (by omega), hits_iff hb _ _ (by omega)] at h3
    omega
  · rintro ⟨h1, h2, h3⟩
    have key : ∀ i : Int, 0 ≤ i → i < 8 → a.f1 ≤ b.f1 - b.f1 % 8 + i → b.f1 - b.f1 % 8 + i < a.f1 + spanP a.f2 → b.f1 ≤ b.f1 - b.f1 % 8 + i → b.f1 - b.f1 % 8 + i < b.f1 + spanP b.f2 → ∃ i : Int, 8 - ((8 : Nat) : Int) ≤ i ∧ i < 8 ∧ bothQ a b i = true := by
      intro i i0 i1 e1 e2 e3 e4
      refine ⟨i, by omega, i1, ?_⟩
      unfold bothQ
      rw [hg, w64 (by omega) (by omega), Bool.and_eq_true, hits_iff ha _ _ (by omega), hits_iff hb _ _ (by omega)]
      exact ⟨⟨h1, e1, e2⟩, rfl, e3, e4⟩
    by_cases hlt : a.f1 ≤ b.f1
    · exact key (b.f1 % 8) (by omega) (by omega) (by omega) (by omega) (by omega) (by omega)
    · exact key (a.f1 - (b.f1 - b.f1 % 8)) (by omega) (by omega) (by omega) (by omega) (by omega) (by omega)
theorem rover_eq (k : Nat) (a b : E) (ha : okw a = true) (hb : okw b = true) (va : oneP a = 0) (vb : oneP b = 0) : estoversref07_overlaps.f (k + 11) a.f0 a.f1 a.f2 b.f0 b.f1 b.f2 = some (overlapP a b) := by
  rw [rover_eq' k a b ha hb, ovl_eq va vb]
theorem covers_hits {x : E} (hx : oneP x = 0) (s p : Int) (h1 : p ≤ 9223372036854775807) : coversP x s p = hitsP x s p := by
  rw [Bool.eq_iff_iff, hits_iff hx s p h1]
  obtain ⟨x0, x1, x2⟩ := span_valid hx
  unfold coversP
  rw [w64 (x := x.f1 + spanP x.f2) (by omega) (by omega)]
  simp

/-! ### Check -/
theorem over_any (pre : List E) (x : E) (hx : oneP x = 0) (hp : ∀ y ∈ pre, oneP y = 0) : pre.any (fun y => overlapP y x) = pre.any (fun y => overlapP x y) := by
  rw [Bool.eq_iff_iff, List.any_eq_true, List.any_eq_true]
  constructor <;> (rintro ⟨y, hy, h⟩; exact ⟨y, hy, by rw [overlap_symm (by first | exact hx | exact hp y hy) (by first | exact hx | exact hp y hy)]; exact h⟩)
/-- The inner loop: the entries from j on, ahead of i. -/
theorem rcheck_l1 (l : List E) (n : Int) (hl : ∀ x ∈ l, okw x = true) (hm : l.length ≤ 1000) (i : Nat) (hi : i < l.length) (hv : ∀ j (hj : j < l.length), j ≤ i → oneP l[j] = 0) (r : Option Int) (F : Nat) (hF : 11 ≤ F)
    (hr : ∀ k, F ≤ k → estoversref07_Check.l0 k ((i + 1 : Nat) : Int) n l = r) :
    ∀ (m j k : Nat), j + m = i → F + m + 1 ≤ k → estoversref07_Check.l1 k (i : Int) (j : Int) n l = if ((l.take i).drop j).any (fun y => overlapP y l[i]) = true then some 7 else r
  | 0, j, k, hj, hk => by
    obtain ⟨k, rfl⟩ : ∃ q, k = q + 1 := ⟨k - 1, by omega⟩
    rw [estoversref07_Check.l1, if_neg (by omega), w64 (by omega) (by omega), show (i : Int) + 1 = ((i + 1 : Nat) : Int) by omega, hr k (by omega)]
    rw [List.drop_eq_nil_of_le (by rw [List.length_take]; omega)]
    simp
  | m + 1, j, k, hj, hk => by
    obtain ⟨k, rfl⟩ : ∃ q, k = q + 1 := ⟨k - 1, by omega⟩
    have hjl : j < l.length := by omega
    have ih := rcheck_l1 l n hl hm i hi hv r F hF hr m (j + 1) k (by omega) (by omega)
    obtain ⟨q, rfl⟩ : ∃ q, k = q + 11 := ⟨k - 11, by omega⟩
    rw [estoversref07_Check.l1, if_pos (by omega), if_pos (by omega), if_pos (by omega), if_pos (by omega), if_pos (by omega), rd_get l j hjl, rd_get l i hi]
    rw [rover_eq q l[j] l[i] (hl _ (List.getElem_mem hjl)) (hl _ (List.getElem_mem hi)) (hv j hjl (by omega)) (hv i hi (by omega)), Option.bind_some, w64 (by omega) (by omega), show (j : Int) + 1 = ((j + 1 : Nat) : Int) by omega, ih]
    have e : (l.take i).drop j = l[j] :: (l.take i).drop (j + 1) := by
      rw [List.drop_eq_getElem_cons (by rw [List.length_take]; omega), List.getElem_take]
    rw [e, List.any_cons]
    cases overlapP l[j] l[i] <;> simp
theorem scan_at (l : List E) (i : Nat) (hi : i < l.length) : scan (l.take i) (l.drop i) = if entryErr (l.take i) l[i] ≠ 0 then entryErr (l.take i) l[i] else scan (l.take (i + 1)) (l.drop (i + 1)) := by
  rw [List.drop_eq_getElem_cons hi]
  simp only [scan]
  rw [List.take_succ_eq_append_getElem hi]
/-- The outer loop. -/
theorem rcheck_l0 (l : List E) (n : Int) (hl : ∀ x ∈ l, okw x = true) (hm : l.length ≤ 1000) :
    ∀ (m i : Nat), i + m = l.length → (∀ j (hj : j < l.length), j < i → oneP l[j] = 0) → ∀ k, 12 + m * (l.length + 3) ≤ k → estoversref07_Check.l0 k (i : Int) n l = some (scan (l.take i) (l.drop i))
  | 0, i, hi, hv, k, hk => by
    obtain ⟨k, rfl⟩ : ∃ q, k = q + 1 := ⟨k - 1, by omega⟩
    rw [estoversref07_Check.l0, if_neg (by omega), List.drop_eq_nil_of_le (by omega)]
    rfl
  | m + 1, i, hi, hv, k, hk => by
    have hil : i < l.length := by omega
    have ek : (m + 1) * (l.length + 3) = m * (l.length + 3) + (l.length + 3) := by rw [Nat.add_mul, Nat.one_mul]
    obtain ⟨k, rfl⟩ : ∃ q, k = q + 1 := ⟨k - 1, by omega⟩
    obtain ⟨q, rfl⟩ : ∃ q, k = q + 3 := ⟨k - 3, by omega⟩
    rw [estoversref07_Check.l0, if_pos (by omega), if_pos (by omega), rd_get l i hil, rone_eq q l[i] (hl _ (List.getElem_mem hil)), Option.bind_some, scan_at l i hil, entry_one]
    by_cases h1 : oneP l[i] = 0
    · rw [if_pos h1]
      have hv' : ∀ j (hj : j < l.length), j ≤ i → oneP l[j] = 0 := fun j hj hji => by
        by_cases e : j = i
        · subst e; exact h1
        · exact hv j hj (by omega)
      have ih := rcheck_l0 l n hl hm m (i + 1) (by omega) (fun j hj hji => hv' j hj (by omega))
      rw [show (0 : Int) = ((0 : Nat) : Int) from rfl, rcheck_l1 l n hl hm i hil hv' _ (12 + m * (l.length + 3)) (by omega) ih i 0 (q + 3) (by omega) (by omega), List.drop_zero]
      rw [over_any (l.take i) l[i] h1 (fun y hy => by
        obtain ⟨j, hj, rfl⟩ := List.getElem_of_mem hy
        rw [List.length_take] at hj
        rw [List.getElem_take]
        exact hv' j (by omega) (by omega))]
      simp only [h1, ne_eq, not_true_eq_false, if_false]
      cases (l.take i).any (fun y => overlapP l[i] y) <;> simp
    · rw [if_neg h1]
      simp [h1]
theorem rcheck_eq (l : List E) (n : Int) (hl : ∀ x ∈ l, okw x = true) (hm : l.length ≤ 1000) (k : Nat) (hk : 14 + l.length * (l.length + 3) ≤ k) : estoversref07_Check.f k n l = some (checkP n l) := by
  obtain ⟨k, rfl⟩ : ∃ q, k = q + 1 := ⟨k - 1, by omega⟩
  have h0 := rcheck_l0 l n hl hm l.length 0 (by omega) (fun j hj h => absurd h (Nat.not_lt_zero _)) k (by omega)
  rw [List.take_zero, List.drop_zero] at h0
  unfold estoversref07_Check.f checkP
  by_cases h1 : n < 1
  · rw [if_pos h1, if_pos (.inl h1)]; simp [estoversref07_Check.j0]
  · rw [if_neg h1]
    by_cases h2 : n > 16
    · rw [if_pos (.inr h2)]; simp [estoversref07_Check.j0, h2]
    · rw [if_neg (by omega)]
      simp only [estoversref07_Check.j0, h2, decide_false, Bool.false_eq_true, if_false]
      by_cases h3 : (l.length : Int) > n
      · rw [if_pos h3, if_pos (by omega)]
      · rw [if_neg h3, if_neg (by omega)]
        exact h0
end Go.Proofs.Ytkbnhphcmlljgaa.TlbRef
