/- Whether two cached entries cover a common page, whether one covers a page: the program's answers, and the closures that ask for them. -/
import Derived.Test.YtkbnhphcmlljgaaHandRow
import Derived.Test.YtkbnhphcmlljgaaPx4
import Derived.Test.YtkbnhphcmlljgaaPx5
set_option linter.unusedVariables false
set_option linter.unusedSimpArgs false
namespace Go.Proofs.Ytkbnhphcmlljgaa.Hand
open Go.RowKit Go.Proofs.Ytkbnhphcmlljgaa.P Go.Proofs.Ytkbnhphcmlljgaa.TlbP Go.Proofs.Ytkbnhphcmlljgaa.Pte Go.Proofs.YtkbnhphcmlljgaaW.PrintWords Go.Proofs.YtkbnhphcmlljgaaW.PrintLast Go.Shelf

theorem formed_eq (k : Nat) (kd n : Int) (w a d h : Bool) (h0 : 0 ≤ kd) (h4 : kd ≤ 4) : pte_formed.f (k + 1) kd n w a d h = some (suits kd n w a d h) := by
  unfold pte_formed.f suits
  have : kd = 0 ∨ kd = 1 ∨ kd = 2 ∨ kd = 3 ∨ kd = 4 := by omega
  rcases this with rfl | rfl | rfl | rfl | rfl <;> simp [pte_formed.j0] <;> cases w <;> cases a <;> cases d <;> cases h <;> simp <;> rfl

theorem flag_eq (b : Bool) (x : Int) : pte_flag.f b x = some (x * b2 b) := by
  cases b <;> simp [pte_flag.f, b2]

theorem enc_j1 (k : Nat) (kd n : Int) (w a d h : Bool) (h0 : 0 ≤ kd) (h4 : kd ≤ 4) : pte_Encode.j1 (k + 2) (big kd n h) kd n w a d h = some (enc kd n w a d h) := by
  have hk : ¬ (kd < 0 ∨ 4 < kd) := by omega
  simp only [pte_Encode.j1, enc, if_neg hk]
  cases hb : big kd n h with
  | true => simp
  | false =>
    obtain ⟨n0, n1, _⟩ := big_of kd n h hb
    simp only [formed_eq k kd n w a d h h0 h4, Option.bind_some, flag_eq, join5 kd n w a d h h0 h4 n0 n1]
    cases suits kd n w a d h <;> simp

theorem enc_j0 (k : Nat) (kd n : Int) (w a d h : Bool) (h0 : 0 ≤ kd) (h4 : kd ≤ 4) : pte_Encode.j0 (k + 3) kd n w a d h = some (enc kd n w a d h) := by
  simp only [pte_Encode.j0]
  have e := enc_j1 k kd n w a d h h0 h4
  split
  · rename_i h1; rw [show big kd n h = true by simp [big, h1]] at e; exact e
  · split
    · rename_i h1 h2; rw [show big kd n h = true by simp [big]; omega] at e; exact e
    · rename_i h1 h2
      have h1' : decide (n < 0) = false := by simpa using h1
      have h2' : decide (4294967295 < n) = false := by simpa using h2
      split
      · rename_i h3
        split
        · rename_i h5; rw [show big kd n h = decide (n > 4294967288) by simp only [big, h1', h2', h3, h5]; simp] at e; exact e
        · rename_i h5
          have h5' : h = false := by simpa using h5
          rw [show big kd n h = false by simp only [big, h1', h2', h5']; simp] at e; exact e
      · rename_i h3
        have h3' : decide (kd = 1) = false := by simpa using h3
        rw [show big kd n h = false by simp only [big, h1', h2', h3']; simp] at e; exact e

theorem encode_eq (k : Nat) (kd n : Int) (w a d h : Bool) : pte_Encode.f (k + 3) kd n w a d h = some (enc kd n w a d h) := by
  by_cases hk : kd < 0 ∨ 4 < kd
  · unfold pte_Encode.f
    rw [if_neg (by omega), if_neg (by omega), if_neg (by omega), if_neg (by omega), if_neg (by omega)]
    simp only [enc, if_pos hk]
  · have e := enc_j0 k kd n w a d h (by omega) (by omega)
    unfold pte_Encode.f
    repeat (split; · exact e)
    omega

theorem decode_eq (k : Nat) (x : Int) (h0 : 0 ≤ x) (h1 : x < 18446744073709551616) : pte_Decode.f (k + 3) x = some (dec x) := by
  unfold pte_Decode.f
  rw [wrap_kd x h0 h1, wrap_n x h0 h1, bit8 x h0 h1, bit16 x h0 h1, bit32 x h0 h1, bit64 x h0 h1, encode_eq, Option.bind_some, pair_if]
  unfold dec
  split <;> rfl


theorem inU_of {w : Int} (h : inU w = true) : 0 ≤ w ∧ w < 18446744073709551616 := by
  unfold inU at h; simpa using h
theorem transl_eq (k : Nat) (w : Int) (h : inU w = true) : tlb_translation.f (k + 3) w = some (trOk w, trHuge w) := by
  obtain ⟨h0, h1⟩ := inU_of h
  unfold tlb_translation.f trOk trHuge
  rw [decode_eq k w h0 h1, Option.bind_some]
  by_cases c : (dec w).2.2.2.2.2.2 = 0
  · simp [c]; rfl
  · simp [c]
theorem span_eq (k : Nat) (w : Int) (h : inU w = true) : tlb_span.f (k + 3) w = some (spanP w) := by
  unfold tlb_span.f spanP
  rw [transl_eq k w h, Option.bind_some]
  cases trHuge w <;> simp
theorem overlap_eq (k : Nat) (a b : E) (ha : okw a = true) (hb : okw b = true) : tlb_overlap.f (k + 3) a.f0 a.f1 a.f2 b.f0 b.f1 b.f2 = some (overlapP a b) := by
  unfold tlb_overlap.f overlapP
  rw [span_eq k b.f2 hb, span_eq k a.f2 ha]
  by_cases c : a.f0 = b.f0 <;> by_cases d : a.f1 < wrap64 (b.f1 + spanP b.f2) <;> simp [c, d]
theorem covers_eq (k : Nat) (x : E) (s p : Int) (hx : okw x = true) : tlb_covers.f (k + 3) x.f0 x.f1 x.f2 s p = some (coversP x s p) := by
  unfold tlb_covers.f coversP
  rw [span_eq k x.f2 hx]
  by_cases c : x.f0 = s <;> by_cases d : x.f1 ≤ p <;> simp [c, d]
theorem place_eq (s p : Int) : tlb_place.f s p = some (placeP s p) := by
  unfold tlb_place.f placeP
  by_cases a : s < 0 <;> by_cases b : 8 ≤ s <;> by_cases c : p < 0 <;> by_cases d : 512 ≤ p <;> simp [a, b, c, d]
theorem transl_calls (w : Int) (h : inU w = true) (W : World) : Calls Try.prog 31 #[.int .u64 w] W fun e W' => e = .returned (.tuple #[.bool (trOk w), .bool (trHuge w)]) ∧ Below W.heap.size W W' :=
  tlb_translation.calls 3 w _ _ W (transl_eq 0 w h)
theorem overlap_calls (a b : E) (ha : okw a = true) (hb : okw b = true) (W : World) : Calls Try.prog 34 #[encE a, encE b] W fun e W' => e = .returned (.bool (overlapP a b)) ∧ Below W.heap.size W W' :=
  tlb_overlap.calls 3 a.f0 a.f1 a.f2 b.f0 b.f1 b.f2 _ W (overlap_eq 0 a b ha hb)
theorem covers_calls (x : E) (s p : Int) (hx : okw x = true) (W : World) : Calls Try.prog 37 #[encE x, .int .i64 s, .int .i64 p] W fun e W' => e = .returned (.bool (coversP x s p)) ∧ Below W.heap.size W W' :=
  tlb_covers.calls 3 x.f0 x.f1 x.f2 s p _ W (covers_eq 0 x s p hx)
theorem place_calls (s p : Int) (W : World) : Calls Try.prog 30 #[.int .i64 s, .int .i64 p] W fun e W' => e = .returned (.int .i64 (placeP s p)) ∧ Drawn0 W W' :=
  tlb_place.calls s p _ W (place_eq s p)

theorem enters (g : FuncId) (fn : Func) (c : Code) (hf : Try.prog.funcs[g]? = some fn) (hn : (fn.name == "runtime.NumGoroutine") = false) (hb : fn.body = some c) : ∀ args w, (callFunc g args).run Try.prog w = .ok (.enter g args) w := enters_of hf hn hb

set_option maxHeartbeats 1000000 in
/-- The closure of Check: does the captured entry overlap? -/
theorem check1_pred (gb : Nat) (x : E) (hx : okw x = true) (B : Nat) (w0 : World) (hg : gb < B) (hb : w0.heap[gb]? = some (boxE x)) : Pred 33 #[.pointer (some ⟨gb, 0, none⟩)] (fun y => overlapP x y) B w0 := by
  intro y W hy hB hs
  have ho := overlap_calls x y hx hy
  have hblk : W.heap[gb]? = some (boxE x) := (hB.block gb hg).trans hb
  have c0 : W.cell? ⟨gb, 0, none⟩ = some (.int .i64 x.f0) := (blk_cell hblk 0).trans rfl
  have c1 : W.cell? ⟨gb, 1, none⟩ = some (.int .i64 x.f1) := (blk_cell hblk 1).trans rfl
  have c2 : W.cell? ⟨gb, 2, none⟩ = some (.int .u64 x.f2) := (blk_cell hblk 2).trans rfl
  have n1 : gb < W.heap.size := by omega
  have hu := Try.underlying42
  unfold encE at ho ⊢
  show Calls Try.prog 33 #[.agg #[.int .i64 y.f0, .int .i64 y.f1, .int .u64 y.f2], .pointer (some ⟨gb, 0, none⟩)] W _
  clear hblk hb hB hg hs hx hy
  go_enter Try.func33, Try.ntmps33
  go_wp2_with (go_at_call 34; refine (ho _).mono ?_; rintro e w' ⟨rfl, hb'⟩)
  go_ret
  exact ⟨rfl, below_then (below_alloc (Below.refl _ _) _) (below_alloc (Below.refl _ _) _).size hb'⟩
set_option maxHeartbeats 1000000 in
theorem fill1_pred (gb : Nat) (x : E) (hx : okw x = true) (B : Nat) (w0 : World) (hg : gb < B) (hb : w0.heap[gb]? = some (boxE x)) : Pred 40 #[.pointer (some ⟨gb, 0, none⟩)] (fun y => overlapP x y) B w0 := by
  intro y W hy hB hs
  have ho := overlap_calls x y hx hy
  have hblk : W.heap[gb]? = some (boxE x) := (hB.block gb hg).trans hb
  have c0 : W.cell? ⟨gb, 0, none⟩ = some (.int .i64 x.f0) := (blk_cell hblk 0).trans rfl
  have c1 : W.cell? ⟨gb, 1, none⟩ = some (.int .i64 x.f1) := (blk_cell hblk 1).trans rfl
  have c2 : W.cell? ⟨gb, 2, none⟩ = some (.int .u64 x.f2) := (blk_cell hblk 2).trans rfl
  have n1 : gb < W.heap.size := by omega
  have hu := Try.underlying42
  unfold encE at ho ⊢
  show Calls Try.prog 40 #[.agg #[.int .i64 y.f0, .int .i64 y.f1, .int .u64 y.f2], .pointer (some ⟨gb, 0, none⟩)] W _
  clear hblk hb hB hg hs hx hy
  go_enter Try.func40, Try.ntmps40
  go_wp2_with (go_at_call 34; refine (ho _).mono ?_; rintro e w' ⟨rfl, hb'⟩)
  go_ret
  exact ⟨rfl, below_then (below_alloc (Below.refl _ _) _) (below_alloc (Below.refl _ _) _).size hb'⟩
set_option maxHeartbeats 1000000 in
theorem inval1_pred (gs gp : Nat) (s p : Int) (B : Nat) (w0 : World) (hgs : gs < B) (hgp : gp < B) (hbs : w0.heap[gs]? = some (.cells #[.int .i64 s] 3 (0, 0))) (hbp : w0.heap[gp]? = some (.cells #[.int .i64 p] 3 (0, 0))) :
    Pred 45 #[.pointer (some ⟨gs, 0, none⟩), .pointer (some ⟨gp, 0, none⟩)] (fun y => coversP y s p) B w0 := by
  intro y W hy hB hs
  have ho := covers_calls y s p hy
  have c0 : W.cell? ⟨gs, 0, none⟩ = some (.int .i64 s) := (blk_cell ((hB.block gs hgs).trans hbs) 0).trans rfl
  have c1 : W.cell? ⟨gp, 0, none⟩ = some (.int .i64 p) := (blk_cell ((hB.block gp hgp).trans hbp) 0).trans rfl
  have n1 : gs < W.heap.size := by omega
  have n2 : gp < W.heap.size := by omega
  have hu := Try.underlying42
  unfold encE at ho ⊢
  show Calls Try.prog 45 #[.agg #[.int .i64 y.f0, .int .i64 y.f1, .int .u64 y.f2], .pointer (some ⟨gs, 0, none⟩), .pointer (some ⟨gp, 0, none⟩)] W _
  clear hbs hbp hB hgs hgp hs hy
  go_enter Try.func45, Try.ntmps45
  go_wp2_with (go_at_call 37; refine (ho _).mono ?_; rintro e w' ⟨rfl, hb'⟩)
  go_ret
  exact ⟨rfl, below_then (below_alloc (Below.refl _ _) _) (below_alloc (Below.refl _ _) _).size hb'⟩
set_option maxHeartbeats 1000000 in
theorem flush1_pred (gs : Nat) (s : Int) (B : Nat) (w0 : World) (hgs : gs < B) (hbs : w0.heap[gs]? = some (.cells #[.int .i64 s] 3 (0, 0))) :
    Pred 46 #[.pointer (some ⟨gs, 0, none⟩)] (fun y => y.f0 == s) B w0 := by
  intro y W hy hB hs
  have c0 : W.cell? ⟨gs, 0, none⟩ = some (.int .i64 s) := (blk_cell ((hB.block gs hgs).trans hbs) 0).trans rfl
  have n1 : gs < W.heap.size := by omega
  have hu := Try.underlying42
  unfold encE
  show Calls Try.prog 46 #[.agg #[.int .i64 y.f0, .int .i64 y.f1, .int .u64 y.f2], .pointer (some ⟨gs, 0, none⟩)] W _
  clear hbs hB hgs hs hy
  go_enter Try.func46, Try.ntmps46
  go_wp2
  go_ret
  exact ⟨rfl, below_alloc (Below.refl _ _) _⟩
end Go.Proofs.Ytkbnhphcmlljgaa.Hand
