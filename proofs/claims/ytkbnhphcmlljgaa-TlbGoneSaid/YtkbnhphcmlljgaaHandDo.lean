/- estoverslaw07.do: a call with the program. -/
import Derived.Test.YtkbnhphcmlljgaaHandRemove
set_option linter.unusedVariables false
set_option linter.unusedSimpArgs false
namespace Go.Proofs.Ytkbnhphcmlljgaa.Hand
open Go.RowKit Go.Proofs.Ytkbnhphcmlljgaa.P Go.Proofs.Ytkbnhphcmlljgaa.TlbP Go.Proofs.Ytkbnhphcmlljgaa.Pte Go.Proofs.YtkbnhphcmlljgaaW.PrintWords Go.Proofs.YtkbnhphcmlljgaaW.PrintLast Go.Shelf

theorem gate_load {P : Program} {ops : Array Oper} {rest : List Oper} {o : Oper} {a : Act} {Q : Exit → Act → World → Prop} {W : World} {t : TypeId} {p : Tmp} (_ho : o.op = .load t (.tmp p)) (h : wpList P ops Q (o :: rest) a W) : wpList P ops Q (o :: rest) a W := h
theorem setRow_far {W : World} {g g' : Nat} {cs : Array Value} {o : Obj} (h : W.heap[g]? = some o) (hne : g ≠ g') : (W.setRow g' cs).heap[g]? = some o := (setRow_other W g' g cs hne).trans h
/-- A value that leads to blocks from N on alone stays what it is when two older blocks are written. -/
theorem do_V {W w1 : World} {N a b : Nat} {A1 : Option Addr} {c1 : Nat} {r2 : List E} {cs cs' : Array Value} (F1 : Kd.F k42 w1 (fun k => N ≤ k) A1 r2.length r2) (hc : r2.length ≤ c1) (hN : W.heap.size ≤ N) (ha : a < N) (hb : b < N) : Kd.V k42 42 ((w1.setRow a cs).setRow b cs') W.heap.size (fun k => W.heap.size ≤ k) (.slice A1 r2.length c1) r2 := by
  refine ⟨A1, c1, rfl, hc, fun W' hW => F1 W' (fun k hk hlt => ?_)⟩
  have hka : k ≠ a := by have : N ≤ k := hk; omega
  have hkb : k ≠ b := by have : N ≤ k := hk; omega
  rw [hW k (Nat.le_trans hN hk) (by simpa [World.setRow] using hlt), setRow_other _ _ _ _ hkb, setRow_other _ _ _ _ hka]

set_option maxHeartbeats 4000000 in
set_option maxRecDepth 100000 in
theorem do_fill_ok (n : Int) (A : Option Addr) (c : Nat) (l : List E) (s p x r1 : Int) (r2 : List E) (W : World) (hC : Kd.C k42 W A l.length l) (hc : l.length ≤ c) (h : tlb_Fill.f n l s p x = some (r1, r2, 0)) :
    Calls Try.prog 28 #[.agg #[.int .i64 n, .slice A l.length c], .agg #[.int .i64 0, .int .i64 s, .int .i64 p, .int .u64 x]] W fun e w' => ∃ v1, e = .returned (.tuple #[.agg #[.int .i64 r1, v1], .int .i64 0]) ∧ Kd.V k42 42 w' W.heap.size (fun k => W.heap.size ≤ k) v1 r2 ∧ Below W.heap.size W w' := by
  have hu3 := Try.underlying24
  have hu4 := Try.underlying49
  have hf := fun W' (hb : Below W.heap.size W W') => tlb_Fill.calls n A c l s p x r1 r2 0 W' (Kd.C_below hC hb) hc h
  clear hC hc h
  generalize hm : l.length = m at *
  clear hm
  go_enter Try.func28, Try.ntmps28
  go_wp2_with (first | (go_at_call 22; refine (hf _ (below_alloc (below_alloc (below_alloc (below_alloc (Below.refl _ _) _) _) _) _)).mono ?_; rintro e w1 ⟨v1, rfl, V1, b1⟩; obtain ⟨A1, c1, rfl, hc1, F1⟩ := V1; have h0 := blk_below (new4_0 W (.cells #[.int .i64 n, .slice A m c] 24 (0, 0)) (.cells #[.int .i64 0, .int .i64 s, .int .i64 p, .int .u64 x] 49 (0, 0)) (.cells #[.int .i64 0, .slice none 0 0] 24 (0, 0)) (.cells #[.int .i64 n, .slice A m c] 24 (0, 0))) b1; have h1 := blk_below (new4_1 W (.cells #[.int .i64 n, .slice A m c] 24 (0, 0)) (.cells #[.int .i64 0, .int .i64 s, .int .i64 p, .int .u64 x] 49 (0, 0)) (.cells #[.int .i64 0, .slice none 0 0] 24 (0, 0)) (.cells #[.int .i64 n, .slice A m c] 24 (0, 0))) b1; have h2 := blk_below (new4_2 W (.cells #[.int .i64 n, .slice A m c] 24 (0, 0)) (.cells #[.int .i64 0, .int .i64 s, .int .i64 p, .int .u64 x] 49 (0, 0)) (.cells #[.int .i64 0, .slice none 0 0] 24 (0, 0)) (.cells #[.int .i64 n, .slice A m c] 24 (0, 0))) b1; have h3 := blk_below (new4_3 W (.cells #[.int .i64 n, .slice A m c] 24 (0, 0)) (.cells #[.int .i64 0, .int .i64 s, .int .i64 p, .int .u64 x] 49 (0, 0)) (.cells #[.int .i64 0, .slice none 0 0] 24 (0, 0)) (.cells #[.int .i64 n, .slice A m c] 24 (0, 0))) b1; have q0 := (blk_cell h0 0).trans rfl; have q1 := (blk_cell h0 1).trans rfl; have d1 := bthen b1 (below_alloc (below_alloc (below_alloc (below_alloc (Below.refl _ _) _) _) _) _) (le4 W _ _ _ _)) | ((with_reducible refine gate_store (p := 6) rfl ?_); refine wpList_store_row rfl 24 _ _ rfl (W.heap.size + 3) #[.int .i64 r1, .slice A1 r2.length c1] rfl rfl 24 _ h3 infoB rfl (twoB _ _ _ _) ?_) | ((with_reducible refine gate_load (p := 6) rfl ?_); refine wpList_load_row rfl 24 _ rfl (W.heap.size + 3) rfl 24 #[.int .i64 r1, .slice A1 r2.length c1] (0, 0) _ (setRow_same h3) hu3 rfl infoB ?_) | ((with_reducible refine gate_store (p := 4) rfl ?_); refine wpList_store_row rfl 24 _ _ rfl (W.heap.size + 2) #[.int .i64 r1, .slice A1 r2.length c1] rfl rfl 24 _ (setRow_far h2 (Nat.ne_of_lt (Nat.lt_succ_self _))) infoB rfl (twoB _ _ _ _) ?_))
  (try simp only [Exit.inBlock, Exit.then])
  refine bodyPost_ret (results_row_tmp rfl _ _ (W.heap.size + 2) 24 #[.int .i64 r1, .slice A1 r2.length c1] (0, 0) _ rfl (setRow_same (setRow_far h2 (Nat.ne_of_lt (Nat.lt_succ_self _)))) hu3 rfl infoB) rfl ?_
  exact ⟨_, rfl, do_V F1 hc1 (le4 W _ _ _ _) (by simp) (by simp), below_setRow' (below_setRow' d1 (Nat.le_add_right _ _) _) (Nat.le_add_right _ _) _⟩
set_option maxHeartbeats 4000000 in
set_option maxRecDepth 100000 in
theorem do_fill_err (n : Int) (A : Option Addr) (c : Nat) (l : List E) (s p x r1 e3 : Int) (r2 : List E) (W : World) (hC : Kd.C k42 W A l.length l) (hc : l.length ≤ c) (h : tlb_Fill.f n l s p x = some (r1, r2, e3)) (he : (e3 != 0) = true) :
    Calls Try.prog 28 #[.agg #[.int .i64 n, .slice A l.length c], .agg #[.int .i64 0, .int .i64 s, .int .i64 p, .int .u64 x]] W fun e w' => e = .returned (.tuple #[.agg #[.int .i64 n, .slice A l.length c], .int .i64 e3]) ∧ Below W.heap.size W w' := by
  have hu3 := Try.underlying24
  have hu4 := Try.underlying49
  have hf := fun W' (hb : Below W.heap.size W W') => tlb_Fill.calls n A c l s p x r1 r2 e3 W' (Kd.C_below hC hb) hc h
  clear hC hc h
  generalize hm : l.length = m at *
  clear hm
  go_enter Try.func28, Try.ntmps28
  go_wp2_with (first | (go_at_call 22; refine (hf _ (below_alloc (below_alloc (below_alloc (below_alloc (Below.refl _ _) _) _) _) _)).mono ?_; rintro e w1 ⟨v1, rfl, V1, b1⟩; obtain ⟨A1, c1, rfl, hc1, F1⟩ := V1; have h0 := blk_below (new4_0 W (.cells #[.int .i64 n, .slice A m c] 24 (0, 0)) (.cells #[.int .i64 0, .int .i64 s, .int .i64 p, .int .u64 x] 49 (0, 0)) (.cells #[.int .i64 0, .slice none 0 0] 24 (0, 0)) (.cells #[.int .i64 n, .slice A m c] 24 (0, 0))) b1; have h1 := blk_below (new4_1 W (.cells #[.int .i64 n, .slice A m c] 24 (0, 0)) (.cells #[.int .i64 0, .int .i64 s, .int .i64 p, .int .u64 x] 49 (0, 0)) (.cells #[.int .i64 0, .slice none 0 0] 24 (0, 0)) (.cells #[.int .i64 n, .slice A m c] 24 (0, 0))) b1; have h2 := blk_below (new4_2 W (.cells #[.int .i64 n, .slice A m c] 24 (0, 0)) (.cells #[.int .i64 0, .int .i64 s, .int .i64 p, .int .u64 x] 49 (0, 0)) (.cells #[.int .i64 0, .slice none 0 0] 24 (0, 0)) (.cells #[.int .i64 n, .slice A m c] 24 (0, 0))) b1; have h3 := blk_below (new4_3 W (.cells #[.int .i64 n, .slice A m c] 24 (0, 0)) (.cells #[.int .i64 0, .int .i64 s, .int .i64 p, .int .u64 x] 49 (0, 0)) (.cells #[.int .i64 0, .slice none 0 0] 24 (0, 0)) (.cells #[.int .i64 n, .slice A m c] 24 (0, 0))) b1; have q0 := (blk_cell h0 0).trans rfl; have q1 := (blk_cell h0 1).trans rfl; have d1 := bthen b1 (below_alloc (below_alloc (below_alloc (below_alloc (Below.refl _ _) _) _) _) _) (le4 W _ _ _ _)) | ((with_reducible refine gate_store (p := 6) rfl ?_); refine wpList_store_row rfl 24 _ _ rfl (W.heap.size + 3) #[.int .i64 r1, .slice A1 r2.length c1] rfl rfl 24 _ h3 infoB rfl (twoB _ _ _ _) ?_) | ((with_reducible refine gate_load (p := 2) rfl ?_); refine wpList_load_row rfl 24 _ rfl W.heap.size rfl 24 #[.int .i64 n, .slice A m c] (0, 0) _ (setRow_far h0 (Nat.ne_of_lt (Nat.lt_add_of_pos_right (Nat.succ_pos 2)))) hu3 rfl infoB ?_) | ((with_reducible refine gate_store (p := 4) rfl ?_); refine wpList_store_row rfl 24 _ _ rfl (W.heap.size + 2) #[.int .i64 n, .slice A m c] rfl rfl 24 _ (setRow_far h2 (Nat.ne_of_lt (Nat.lt_succ_self _))) infoB rfl (twoB _ _ _ _) ?_))
  (try simp only [Exit.inBlock, Exit.then])
  refine bodyPost_ret (results_row_tmp rfl _ _ (W.heap.size + 2) 24 #[.int .i64 n, .slice A m c] (0, 0) _ rfl (setRow_same (setRow_far h2 (Nat.ne_of_lt (Nat.lt_succ_self _)))) hu3 rfl infoB) rfl ?_
  exact ⟨rfl, below_setRow' (below_setRow' d1 (Nat.le_add_right _ _) _) (Nat.le_add_right _ _) _⟩
set_option maxHeartbeats 4000000 in
set_option maxRecDepth 100000 in
theorem do_inval_ok (n : Int) (A : Option Addr) (c : Nat) (l : List E) (s p x r1 : Int) (r2 : List E) (W : World) (hC : Kd.C k42 W A l.length l) (hc : l.length ≤ c) (h : tlb_Invalidate.f n l s p = some (r1, r2, 0)) :
    Calls Try.prog 28 #[.agg #[.int .i64 n, .slice A l.length c], .agg #[.int .i64 1, .int .i64 s, .int .i64 p, .int .u64 x]] W fun e w' => ∃ v1, e = .returned (.tuple #[.agg #[.int .i64 r1, v1], .int .i64 0]) ∧ Kd.V k42 42 w' W.heap.size (fun k => W.heap.size ≤ k) v1 r2 ∧ Below W.heap.size W w' := by
  have hu3 := Try.underlying24
  have hu4 := Try.underlying49
  have hf := fun W' (hb : Below W.heap.size W W') => tlb_Invalidate.calls n A c l s p r1 r2 0 W' (Kd.C_below hC hb) hc h
  clear hC hc h
  generalize hm : l.length = m at *
  clear hm
  go_enter Try.func28, Try.ntmps28
  go_wp2_with (first | (go_at_call 24; refine (hf _ (below_alloc (below_alloc (below_alloc (below_alloc (Below.refl _ _) _) _) _) _)).mono ?_; rintro e w1 ⟨v1, rfl, V1, b1⟩; obtain ⟨A1, c1, rfl, hc1, F1⟩ := V1; have h0 := blk_below (new4_0 W (.cells #[.int .i64 n, .slice A m c] 24 (0, 0)) (.cells #[.int .i64 1, .int .i64 s, .int .i64 p, .int .u64 x] 49 (0, 0)) (.cells #[.int .i64 0, .slice none 0 0] 24 (0, 0)) (.cells #[.int .i64 n, .slice A m c] 24 (0, 0))) b1; have h1 := blk_below (new4_1 W (.cells #[.int .i64 n, .slice A m c] 24 (0, 0)) (.cells #[.int .i64 1, .int .i64 s, .int .i64 p, .int .u64 x] 49 (0, 0)) (.cells #[.int .i64 0, .slice none 0 0] 24 (0, 0)) (.cells #[.int .i64 n, .slice A m c] 24 (0, 0))) b1; have h2 := blk_below (new4_2 W (.cells #[.int .i64 n, .slice A m c] 24 (0, 0)) (.cells #[.int .i64 1, .int .i64 s, .int .i64 p, .int .u64 x] 49 (0, 0)) (.cells #[.int .i64 0, .slice none 0 0] 24 (0, 0)) (.cells #[.int .i64 n, .slice A m c] 24 (0, 0))) b1; have h3 := blk_below (new4_3 W (.cells #[.int .i64 n, .slice A m c] 24 (0, 0)) (.cells #[.int .i64 1, .int .i64 s, .int .i64 p, .int .u64 x] 49 (0, 0)) (.cells #[.int .i64 0, .slice none 0 0] 24 (0, 0)) (.cells #[.int .i64 n, .slice A m c] 24 (0, 0))) b1; have q0 := (blk_cell h0 0).trans rfl; have q1 := (blk_cell h0 1).trans rfl; have d1 := bthen b1 (below_alloc (below_alloc (below_alloc (below_alloc (Below.refl _ _) _) _) _) _) (le4 W _ _ _ _)) | ((with_reducible refine gate_store (p := 6) rfl ?_); refine wpList_store_row rfl 24 _ _ rfl (W.heap.size + 3) #[.int .i64 r1, .slice A1 r2.length c1] rfl rfl 24 _ h3 infoB rfl (twoB _ _ _ _) ?_) | ((with_reducible refine gate_load (p := 6) rfl ?_); refine wpList_load_row rfl 24 _ rfl (W.heap.size + 3) rfl 24 #[.int .i64 r1, .slice A1 r2.length c1] (0, 0) _ (setRow_same h3) hu3 rfl infoB ?_) | ((with_reducible refine gate_store (p := 4) rfl ?_); refine wpList_store_row rfl 24 _ _ rfl (W.heap.size + 2) #[.int .i64 r1, .slice A1 r2.length c1] rfl rfl 24 _ (setRow_far h2 (Nat.ne_of_lt (Nat.lt_succ_self _))) infoB rfl (twoB _ _ _ _) ?_))
  (try simp only [Exit.inBlock, Exit.then])
  refine bodyPost_ret (results_row_tmp rfl _ _ (W.heap.size + 2) 24 #[.int .i64 r1, .slice A1 r2.length c1] (0, 0) _ rfl (setRow_same (setRow_far h2 (Nat.ne_of_lt (Nat.lt_succ_self _)))) hu3 rfl infoB) rfl ?_
  exact ⟨_, rfl, do_V F1 hc1 (le4 W _ _ _ _) (by simp) (by simp), below_setRow' (below_setRow' d1 (Nat.le_add_right _ _) _) (Nat.le_add_right _ _) _⟩
set_option maxHeartbeats 4000000 in
set_option maxRecDepth 100000 in
theorem do_inval_err (n : Int) (A : Option Addr) (c : Nat) (l : List E) (s p x r1 e3 : Int) (r2 : List E) (W : World) (hC : Kd.C k42 W A l.length l) (hc : l.length ≤ c) (h : tlb_Invalidate.f n l s p = some (r1, r2, e3)) (he : (e3 != 0) = true) :
    Calls Try.prog 28 #[.agg #[.int .i64 n, .slice A l.length c], .agg #[.int .i64 1, .int .i64 s, .int .i64 p, .int .u64 x]] W fun e w' => e = .returned (.tuple #[.agg #[.int .i64 n, .slice A l.length c], .int .i64 e3]) ∧ Below W.heap.size W w' := by
  have hu3 := Try.underlying24
  have hu4 := Try.underlying49
  have hf := fun W' (hb : Below W.heap.size W W') => tlb_Invalidate.calls n A c l s p r1 r2 e3 W' (Kd.C_below hC hb) hc h
  clear hC hc h
  generalize hm : l.length = m at *
  clear hm
  go_enter Try.func28, Try.ntmps28
  go_wp2_with (first | (go_at_call 24; refine (hf _ (below_alloc (below_alloc (below_alloc (below_alloc (Below.refl _ _) _) _) _) _)).mono ?_; rintro e w1 ⟨v1, rfl, V1, b1⟩; obtain ⟨A1, c1, rfl, hc1, F1⟩ := V1; have h0 := blk_below (new4_0 W (.cells #[.int .i64 n, .slice A m c] 24 (0, 0)) (.cells #[.int .i64 1, .int .i64 s, .int .i64 p, .int .u64 x] 49 (0, 0)) (.cells #[.int .i64 0, .slice none 0 0] 24 (0, 0)) (.cells #[.int .i64 n, .slice A m c] 24 (0, 0))) b1; have h1 := blk_below (new4_1 W (.cells #[.int .i64 n, .slice A m c] 24 (0, 0)) (.cells #[.int .i64 1, .int .i64 s, .int .i64 p, .int .u64 x] 49 (0, 0)) (.cells #[.int .i64 0, .slice none 0 0] 24 (0, 0)) (.cells #[.int .i64 n, .slice A m c] 24 (0, 0))) b1; have h2 := blk_below (new4_2 W (.cells #[.int .i64 n, .slice A m c] 24 (0, 0)) (.cells #[.int .i64 1, .int .i64 s, .int .i64 p, .int .u64 x] 49 (0, 0)) (.cells #[.int .i64 0, .slice none 0 0] 24 (0, 0)) (.cells #[.int .i64 n, .slice A m c] 24 (0, 0))) b1; have h3 := blk_below (new4_3 W (.cells #[.int .i64 n, .slice A m c] 24 (0, 0)) (.cells #[.int .i64 1, .int .i64 s, .int .i64 p, .int .u64 x] 49 (0, 0)) (.cells #[.int .i64 0, .slice none 0 0] 24 (0, 0)) (.cells #[.int .i64 n, .slice A m c] 24 (0, 0))) b1; have q0 := (blk_cell h0 0).trans rfl; have q1 := (blk_cell h0 1).trans rfl; have d1 := bthen b1 (below_alloc (below_alloc (below_alloc (below_alloc (Below.refl _ _) _) _) _) _) (le4 W _ _ _ _)) | ((with_reducible refine gate_store (p := 6) rfl ?_); refine wpList_store_row rfl 24 _ _ rfl (W.heap.size + 3) #[.int .i64 r1, .slice A1 r2.length c1] rfl rfl 24 _ h3 infoB rfl (twoB _ _ _ _) ?_) | ((with_reducible refine gate_load (p := 2) rfl ?_); refine wpList_load_row rfl 24 _ rfl W.heap.size rfl 24 #[.int .i64 n, .slice A m c] (0, 0) _ (setRow_far h0 (Nat.ne_of_lt (Nat.lt_add_of_pos_right (Nat.succ_pos 2)))) hu3 rfl infoB ?_) | ((with_reducible refine gate_store (p := 4) rfl ?_); refine wpList_store_row rfl 24 _ _ rfl (W.heap.size + 2) #[.int .i64 n, .slice A m c] rfl rfl 24 _ (setRow_far h2 (Nat.ne_of_lt (Nat.lt_succ_self _))) infoB rfl (twoB _ _ _ _) ?_))
  (try simp only [Exit.inBlock, Exit.then])
  refine bodyPost_ret (results_row_tmp rfl _ _ (W.heap.size + 2) 24 #[.int .i64 n, .slice A m c] (0, 0) _ rfl (setRow_same (setRow_far h2 (Nat.ne_of_lt (Nat.lt_succ_self _)))) hu3 rfl infoB) rfl ?_
  exact ⟨rfl, below_setRow' (below_setRow' d1 (Nat.le_add_right _ _) _) (Nat.le_add_right _ _) _⟩
set_option maxHeartbeats 4000000 in
set_option maxRecDepth 100000 in
theorem do_flush_ok (n : Int) (A : Option Addr) (c : Nat) (l : List E) (s p x r1 : Int) (r2 : List E) (W : World) (hC : Kd.C k42 W A l.length l) (hc : l.length ≤ c) (h : tlb_Flush.f n l s = some (r1, r2, 0)) :
    Calls Try.prog 28 #[.agg #[.int .i64 n, .slice A l.length c], .agg #[.int .i64 2, .int .i64 s, .int .i64 p, .int .u64 x]] W fun e w' => ∃ v1, e = .returned (.tuple #[.agg #[.int .i64 r1, v1], .int .i64 0]) ∧ Kd.V k42 42 w' W.heap.size (fun k => W.heap.size ≤ k) v1 r2 ∧ Below W.heap.size W w' := by
  have hu3 := Try.underlying24
  have hu4 := Try.underlying49
  have hf := fun W' (hb : Below W.heap.size W W') => tlb_Flush.calls n A c l s r1 r2 0 W' (Kd.C_below hC hb) hc h
  clear hC hc h
  generalize hm : l.length = m at *
  clear hm
  go_enter Try.func28, Try.ntmps28
  go_wp2_with (first | (go_at_call 26; refine (hf _ (below_alloc (below_alloc (below_alloc (below_alloc (Below.refl _ _) _) _) _) _)).mono ?_; rintro e w1 ⟨v1, rfl, V1, b1⟩; obtain ⟨A1, c1, rfl, hc1, F1⟩ := V1; have h0 := blk_below (new4_0 W (.cells #[.int .i64 n, .slice A m c] 24 (0, 0)) (.cells #[.int .i64 2, .int .i64 s, .int .i64 p, .int .u64 x] 49 (0, 0)) (.cells #[.int .i64 0, .slice none 0 0] 24 (0, 0)) (.cells #[.int .i64 n, .slice A m c] 24 (0, 0))) b1; have h1 := blk_below (new4_1 W (.cells #[.int .i64 n, .slice A m c] 24 (0, 0)) (.cells #[.int .i64 2, .int .i64 s, .int .i64 p, .int .u64 x] 49 (0, 0)) (.cells #[.int .i64 0, .slice none 0 0] 24 (0, 0)) (.cells #[.int .i64 n, .slice A m c] 24 (0, 0))) b1; have h2 := blk_below (new4_2 W (.cells #[.int .i64 n, .slice A m c] 24 (0, 0)) (.cells #[.int .i64 2, .int .i64 s, .int .i64 p, .int .u64 x] 49 (0, 0)) (.cells #[.int .i64 0, .slice none 0 0] 24 (0, 0)) (.cells #[.int .i64 n, .slice A m c] 24 (0, 0))) b1; have h3 := blk_below (new4_3 W (.cells #[.int .i64 n, .slice A m c] 24 (0, 0)) (.cells #[.int .i64 2, .int .i64 s, .int .i64 p, .int .u64 x] 49 (0, 0)) (.cells #[.int .i64 0, .slice none 0 0] 24 (0, 0)) (.cells #[.int .i64 n, .slice A m c] 24 (0, 0))) b1; have q0 := (blk_cell h0 0).trans rfl; have q1 := (blk_cell h0 1).trans rfl; have d1 := bthen b1 (below_alloc (below_alloc (below_alloc (below_alloc (Below.refl _ _) _) _) _) _) (le4 W _ _ _ _)) | ((with_reducible refine gate_store (p := 6) rfl ?_); refine wpList_store_row rfl 24 _ _ rfl (W.heap.size + 3) #[.int .i64 r1, .slice A1 r2.length c1] rfl rfl 24 _ h3 infoB rfl (twoB _ _ _ _) ?_) | ((with_reducible refine gate_load (p := 6) rfl ?_); refine wpList_load_row rfl 24 _ rfl (W.heap.size + 3) rfl 24 #[.int .i64 r1, .slice A1 r2.length c1] (0, 0) _ (setRow_same h3) hu3 rfl infoB ?_) | ((with_reducible refine gate_store (p := 4) rfl ?_); refine wpList_store_row rfl 24 _ _ rfl (W.heap.size + 2) #[.int .i64 r1, .slice A1 r2.length c1] rfl rfl 24 _ (setRow_far h2 (Nat.ne_of_lt (Nat.lt_succ_self _))) infoB rfl (twoB _ _ _ _) ?_))
  (try simp only [Exit.inBlock, Exit.then])
  refine bodyPost_ret (results_row_tmp rfl _ _ (W.heap.size + 2) 24 #[.int .i64 r1, .slice A1 r2.length c1] (0, 0) _ rfl (setRow_same (setRow_far h2 (Nat.ne_of_lt (Nat.lt_succ_self _)))) hu3 rfl infoB) rfl ?_
  exact ⟨_, rfl, do_V F1 hc1 (le4 W _ _ _ _) (by simp) (by simp), below_setRow' (below_setRow' d1 (Nat.le_add_right _ _) _) (Nat.le_add_right _ _) _⟩
set_option maxHeartbeats 4000000 in
set_option maxRecDepth 100000 in
theorem do_flush_err (n : Int) (A : Option Addr) (c : Nat) (l : List E) (s p x r1 e3 : Int) (r2 : List E) (W : World) (hC : Kd.C k42 W A l.length l) (hc : l.length ≤ c) (h : tlb_Flush.f n l s = some (r1, r2, e3)) (he : (e3 != 0) = true) :
    Calls Try.prog 28 #[.agg #[.int .i64 n, .slice A l.length c], .agg #[.int .i64 2, .int .i64 s, .int .i64 p, .int .u64 x]] W fun e w' => e = .returned (.tuple #[.agg #[.int .i64 n, .slice A l.length c], .int .i64 e3]) ∧ Below W.heap.size W w' := by
  have hu3 := Try.underlying24
  have hu4 := Try.underlying49
  have hf := fun W' (hb : Below W.heap.size W W') => tlb_Flush.calls n A c l s r1 r2 e3 W' (Kd.C_below hC hb) hc h
  clear hC hc h
  generalize hm : l.length = m at *
  clear hm
  go_enter Try.func28, Try.ntmps28
  go_wp2_with (first | (go_at_call 26; refine (hf _ (below_alloc (below_alloc (below_alloc (below_alloc (Below.refl _ _) _) _) _) _)).mono ?_; rintro e w1 ⟨v1, rfl, V1, b1⟩; obtain ⟨A1, c1, rfl, hc1, F1⟩ := V1; have h0 := blk_below (new4_0 W (.cells #[.int .i64 n, .slice A m c] 24 (0, 0)) (.cells #[.int .i64 2, .int .i64 s, .int .i64 p, .int .u64 x] 49 (0, 0)) (.cells #[.int .i64 0, .slice none 0 0] 24 (0, 0)) (.cells #[.int .i64 n, .slice A m c] 24 (0, 0))) b1; have h1 := blk_below (new4_1 W (.cells #[.int .i64 n, .slice A m c] 24 (0, 0)) (.cells #[.int .i64 2, .int .i64 s, .int .i64 p, .int .u64 x] 49 (0, 0)) (.cells #[.int .i64 0, .slice none 0 0] 24 (0, 0)) (.cells #[.int .i64 n, .slice A m c] 24 (0, 0))) b1; have h2 := blk_below (new4_2 W (.cells #[.int .i64 n, .slice A m c] 24 (0, 0)) (.cells #[.int .i64 2, .int .i64 s, .int .i64 p, .int .u64 x] 49 (0, 0)) (.cells #[.int .i64 0, .slice none 0 0] 24 (0, 0)) (.cells #[.int .i64 n, .slice A m c] 24 (0, 0))) b1; have h3 := blk_below (new4_3 W (.cells #[.int .i64 n, .slice A m c] 24 (0, 0)) (.cells #[.int .i64 2, .int .i64 s, .int .i64 p, .int .u64 x] 49 (0, 0)) (.cells #[.int .i64 0, .slice none 0 0] 24 (0, 0)) (.cells #[.int .i64 n, .slice A m c] 24 (0, 0))) b1; have q0 := (blk_cell h0 0).trans rfl; have q1 := (blk_cell h0 1).trans rfl; have d1 := bthen b1 (below_alloc (below_alloc (below_alloc (below_alloc (Below.refl _ _) _) _) _) _) (le4 W _ _ _ _)) | ((with_reducible refine gate_store (p := 6) rfl ?_); refine wpList_store_row rfl 24 _ _ rfl (W.heap.size + 3) #[.int .i64 r1, .slice A1 r2.length c1] rfl rfl 24 _ h3 infoB rfl (twoB _ _ _ _) ?_) | ((with_reducible refine gate_load (p := 2) rfl ?_); refine wpList_load_row rfl 24 _ rfl W.heap.size rfl 24 #[.int .i64 n, .slice A m c] (0, 0) _ (setRow_far h0 (Nat.ne_of_lt (Nat.lt_add_of_pos_right (Nat.succ_pos 2)))) hu3 rfl infoB ?_) | ((with_reducible refine gate_store (p := 4) rfl ?_); refine wpList_store_row rfl 24 _ _ rfl (W.heap.size + 2) #[.int .i64 n, .slice A m c] rfl rfl 24 _ (setRow_far h2 (Nat.ne_of_lt (Nat.lt_succ_self _))) infoB rfl (twoB _ _ _ _) ?_))
  (try simp only [Exit.inBlock, Exit.then])
  refine bodyPost_ret (results_row_tmp rfl _ _ (W.heap.size + 2) 24 #[.int .i64 n, .slice A m c] (0, 0) _ rfl (setRow_same (setRow_far h2 (Nat.ne_of_lt (Nat.lt_succ_self _)))) hu3 rfl infoB) rfl ?_
  exact ⟨rfl, below_setRow' (below_setRow' d1 (Nat.le_add_right _ _) _) (Nat.le_add_right _ _) _⟩
set_option maxHeartbeats 4000000 in
set_option maxRecDepth 100000 in
theorem do_other (n : Int) (A : Option Addr) (m c : Nat) (k s p x : Int) (W : World) (h0 : (k == 0) = false) (h1 : (k == 1) = false) (h2 : (k == 2) = false) :
    Calls Try.prog 28 #[.agg #[.int .i64 n, .slice A m c], .agg #[.int .i64 k, .int .i64 s, .int .i64 p, .int .u64 x]] W fun e w' => e = .returned (.tuple #[.agg #[.int .i64 n, .slice A m c], .int .i64 0]) ∧ Below W.heap.size W w' := by
  have hu3 := Try.underlying24
  have hu4 := Try.underlying49
  go_enter Try.func28, Try.ntmps28
  go_wp2
  (try simp only [Exit.inBlock, Exit.then])
  refine bodyPost_ret (results_row_tmp rfl _ _ (W.heap.size + 2) 24 #[.int .i64 n, .slice A m c] (0, 0) _ rfl (new4_2 W _ _ _ _) hu3 rfl infoB) rfl ?_
  exact ⟨rfl, (below_alloc (below_alloc (below_alloc (below_alloc (Below.refl _ _) _) _) _) _)⟩
end Go.Proofs.Ytkbnhphcmlljgaa.Hand
namespace Go.Proofs.Ytkbnhphcmlljgaa.P
open Go.RowKit Go.Proofs.Ytkbnhphcmlljgaa.TlbP Go.Proofs.Ytkbnhphcmlljgaa.Hand Go.Proofs.YtkbnhphcmlljgaaW.PrintWords
/-- What estoverslaw07.do answers. -/
def estoverslaw07_do.f (n : Int) (l : List S42) (k s p x : Int) : Option (Int × List S42 × Int) :=
  if k = 0 then ((tlb_Fill.f n l s p x).bind fun b => if b.2.2 = 0 then some (b.1, b.2.1, 0) else some (n, l, b.2.2))
  else if k = 1 then ((tlb_Invalidate.f n l s p).bind fun b => if b.2.2 = 0 then some (b.1, b.2.1, 0) else some (n, l, b.2.2))
  else if k = 2 then ((tlb_Flush.f n l s).bind fun b => if b.2.2 = 0 then some (b.1, b.2.1, 0) else some (n, l, b.2.2))
  else some (n, l, 0)
theorem keepV {w w' : World} {Q : Nat → Prop} {A : Option Addr} {c : Nat} {l : List S42} {B B' : Nat} (h : Kd.V k42 42 w B Q (.slice A l.length c) l) (hb : Below w.heap.size w w') : Kd.V k42 42 w' B' (fun k => Q k ∨ w.heap.size ≤ k) (.slice A l.length c) l := by
  obtain ⟨A1, c1, e, hc, hF⟩ := h
  refine ⟨A1, c1, e, hc, fun W' hW => hF W' (fun k hk hlt => ?_)⟩
  rw [hW k (.inl hk) (Nat.lt_of_lt_of_le hlt hb.size)]
  exact hb.block k hlt
theorem estoverslaw07_do.calls (a0_0 : Int) (P0_1_ : Nat → Prop) (A0_1 : Option Addr) (c0_1 : Nat) (l0_1 : List S42) (a1_0 a1_1 a1_2 a1_3 r1 : Int) (r2 : List S42) (r3 : Int) (w : World) (hs0_1 : Kd.V k42 42 w w.heap.size (fun k_ => P0_1_ k_) (.slice A0_1 l0_1.length c0_1) l0_1) (h : estoverslaw07_do.f a0_0 l0_1 a1_0 a1_1 a1_2 a1_3 = some (r1, r2, r3)) :
    Calls Try.prog 28 #[.agg #[.int .i64 a0_0, .slice A0_1 l0_1.length c0_1], .agg #[.int .i64 a1_0, .int .i64 a1_1, .int .i64 a1_2, .int .u64 a1_3]] w fun e w' => ∃ v1_ : Value, e = .returned (.tuple #[.agg #[.int .i64 r1, v1_], .int .i64 r3]) ∧ Kd.V k42 42 w' w.heap.size (fun k_ => (P0_1_ k_ ∨ w.heap.size ≤ k_)) v1_ r2 ∧ Below w.heap.size w w' := by
  have hC : Kd.C k42 w A0_1 l0_1.length l0_1 ∧ l0_1.length ≤ c0_1 := by
    obtain ⟨A1, c1, e, hc, hF⟩ := hs0_1
    injection e with e1 e2 e3
    subst e1; subst e3
    exact ⟨Kd.F_now hF, hc⟩
  obtain ⟨hC, hc⟩ := hC
  have good : ∀ v1 w', Kd.V k42 42 w' w.heap.size (fun k => w.heap.size ≤ k) v1 r2 → Kd.V k42 42 w' w.heap.size (fun k_ => (P0_1_ k_ ∨ w.heap.size ≤ k_)) v1 r2 := by
    rintro v1 w' ⟨A1, c1, e, hc1, hF⟩
    exact ⟨A1, c1, e, hc1, fun W' hW => hF W' (fun k hk => hW k (.inr hk))⟩
  unfold estoverslaw07_do.f at h
  by_cases h0 : a1_0 = 0
  · subst h0
    simp only [if_true] at h
    cases hq : tlb_Fill.f a0_0 l0_1 a1_1 a1_2 a1_3 with
    | none => rw [hq] at h; cases h
    | some b =>
      rw [hq, Option.bind_some] at h
      obtain ⟨b1, b2, b3⟩ := b
      by_cases hb : b3 = 0
      · subst hb
        simp only [if_true] at h
        injection h with h; injection h with e1 h; injection h with e2 e3
        subst e1; subst e2; subst e3
        refine (do_fill_ok a0_0 A0_1 c0_1 l0_1 a1_1 a1_2 a1_3 b1 b2 w hC hc hq).mono ?_
        rintro e w' ⟨v1, rfl, hV, hbl⟩
        exact ⟨v1, rfl, good _ _ hV, hbl⟩
      · simp only [if_neg hb] at h
        injection h with h; injection h with e1 h; injection h with e2 e3
        subst e1; subst e2; subst e3
        refine (do_fill_err a0_0 A0_1 c0_1 l0_1 a1_1 a1_2 a1_3 b1 b3 b2 w hC hc hq (bne_iff_ne.2 hb)).mono ?_
        rintro e w' ⟨rfl, hbl⟩
        exact ⟨_, rfl, keepV hs0_1 hbl, hbl⟩
  by_cases h1 : a1_0 = 1
  · subst h1
    simp only [Int.reduceEq, if_false, if_true] at h
    cases hq : tlb_Invalidate.f a0_0 l0_1 a1_1 a1_2 with
    | none => rw [hq] at h; cases h
    | some b =>
      rw [hq, Option.bind_some] at h
      obtain ⟨b1, b2, b3⟩ := b
      by_cases hb : b3 = 0
      · subst hb
        simp only [if_true] at h
        injection h with h; injection h with e1 h; injection h with e2 e3
        subst e1; subst e2; subst e3
        refine (do_inval_ok a0_0 A0_1 c0_1 l0_1 a1_1 a1_2 a1_3 b1 b2 w hC hc hq).mono ?_
        rintro e w' ⟨v1, rfl, hV, hbl⟩
        exact ⟨v1, rfl, good _ _ hV, hbl⟩
      · simp only [if_neg hb] at h
        injection h with h; injection h with e1 h; injection h with e2 e3
        subst e1; subst e2; subst e3
        refine (do_inval_err a0_0 A0_1 c0_1 l0_1 a1_1 a1_2 a1_3 b1 b3 b2 w hC hc hq (bne_iff_ne.2 hb)).mono ?_
        rintro e w' ⟨rfl, hbl⟩
        exact ⟨_, rfl, keepV hs0_1 hbl, hbl⟩
  by_cases h2 : a1_0 = 2
  · subst h2
    simp only [Int.reduceEq, if_false, if_true] at h
    cases hq : tlb_Flush.f a0_0 l0_1 a1_1 with
    | none => rw [hq] at h; cases h
    | some b =>
      rw [hq, Option.bind_some] at h
      obtain ⟨b1, b2, b3⟩ := b
      by_cases hb : b3 = 0
      · subst hb
        simp only [if_true] at h
        injection h with h; injection h with e1 h; injection h with e2 e3
        subst e1; subst e2; subst e3
        refine (do_flush_ok a0_0 A0_1 c0_1 l0_1 a1_1 a1_2 a1_3 b1 b2 w hC hc hq).mono ?_
        rintro e w' ⟨v1, rfl, hV, hbl⟩
        exact ⟨v1, rfl, good _ _ hV, hbl⟩
      · simp only [if_neg hb] at h
        injection h with h; injection h with e1 h; injection h with e2 e3
        subst e1; subst e2; subst e3
        refine (do_flush_err a0_0 A0_1 c0_1 l0_1 a1_1 a1_2 a1_3 b1 b3 b2 w hC hc hq (bne_iff_ne.2 hb)).mono ?_
        rintro e w' ⟨rfl, hbl⟩
        exact ⟨_, rfl, keepV hs0_1 hbl, hbl⟩
  rw [if_neg h0, if_neg h1, if_neg h2] at h
  injection h with h; injection h with e1 h; injection h with e2 e3
  subst e1; subst e2; subst e3
  refine (do_other a0_0 A0_1 l0_1.length c0_1 a1_0 a1_1 a1_2 a1_3 w (beq_eq_false_iff_ne.2 h0) (beq_eq_false_iff_ne.2 h1) (beq_eq_false_iff_ne.2 h2)).mono ?_
  rintro e w' ⟨rfl, hbl⟩
  exact ⟨_, rfl, keepV hs0_1 hbl, hbl⟩
end Go.Proofs.Ytkbnhphcmlljgaa.P
