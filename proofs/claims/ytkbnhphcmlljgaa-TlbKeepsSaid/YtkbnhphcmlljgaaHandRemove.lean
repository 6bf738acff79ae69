/- tlb.Invalidate and tlb.Flush. -/
import Derived.Test.YtkbnhphcmlljgaaHandFill
set_option linter.unusedVariables false
set_option linter.unusedSimpArgs false
namespace Go.Proofs.Ytkbnhphcmlljgaa.Hand
open Go.RowKit Go.Proofs.Ytkbnhphcmlljgaa.P Go.Proofs.Ytkbnhphcmlljgaa.TlbP Go.Proofs.Ytkbnhphcmlljgaa.Pte Go.Proofs.YtkbnhphcmlljgaaW.PrintWords Go.Proofs.YtkbnhphcmlljgaaW.PrintLast Go.Shelf

theorem le4 (W : World) (o0 o1 o2 o3 : Obj) : W.heap.size ≤ ((((W.alloc o0).alloc o1).alloc o2).alloc o3).heap.size := by simp; omega
theorem new4_0 (W : World) (o0 o1 o2 o3 : Obj) : ((((W.alloc o0).alloc o1).alloc o2).alloc o3).heap[W.heap.size]? = some o0 := by
  have h := blk_alloc (blk_alloc (blk_alloc (blk_new W o0) o1) o2) o3
  exact h
theorem new4_1 (W : World) (o0 o1 o2 o3 : Obj) : ((((W.alloc o0).alloc o1).alloc o2).alloc o3).heap[W.heap.size + 1]? = some o1 := by
  have h := blk_alloc (blk_alloc (blk_new (W.alloc o0) o1) o2) o3
  rwa [show (W.alloc o0).heap.size = W.heap.size + 1 by simp] at h
theorem new4_2 (W : World) (o0 o1 o2 o3 : Obj) : ((((W.alloc o0).alloc o1).alloc o2).alloc o3).heap[W.heap.size + 2]? = some o2 := by
  have h := blk_alloc (blk_new ((W.alloc o0).alloc o1) o2) o3
  rwa [show ((W.alloc o0).alloc o1).heap.size = W.heap.size + 2 by simp] at h
theorem new4_3 (W : World) (o0 o1 o2 o3 : Obj) : ((((W.alloc o0).alloc o1).alloc o2).alloc o3).heap[W.heap.size + 3]? = some o3 := by
  have h := blk_new (((W.alloc o0).alloc o1).alloc o2) o3
  rwa [show (((W.alloc o0).alloc o1).alloc o2).heap.size = W.heap.size + 3 by simp] at h
theorem le3 (W : World) (o0 o1 o2 : Obj) : W.heap.size ≤ (((W.alloc o0).alloc o1).alloc o2).heap.size := by simp; omega
theorem new3_0 (W : World) (o0 o1 o2 : Obj) : (((W.alloc o0).alloc o1).alloc o2).heap[W.heap.size]? = some o0 := by
  have h := blk_alloc (blk_alloc (blk_new W o0) o1) o2
  exact h
theorem new3_1 (W : World) (o0 o1 o2 : Obj) : (((W.alloc o0).alloc o1).alloc o2).heap[W.heap.size + 1]? = some o1 := by
  have h := blk_alloc (blk_new (W.alloc o0) o1) o2
  rwa [show (W.alloc o0).heap.size = W.heap.size + 1 by simp] at h
theorem new3_2 (W : World) (o0 o1 o2 : Obj) : (((W.alloc o0).alloc o1).alloc o2).heap[W.heap.size + 2]? = some o2 := by
  have h := blk_new ((W.alloc o0).alloc o1) o2
  rwa [show ((W.alloc o0).alloc o1).heap.size = W.heap.size + 2 by simp] at h

set_option maxHeartbeats 4000000 in
set_option maxRecDepth 100000 in
theorem inval_err1 (n : Int) (A : Option Addr) (m c : Nat) (s p e1 : Int) (W : World) (hck : ∀ W', Below W.heap.size W W' → Calls Try.prog 16 #[.agg #[.int .i64 n, .slice A m c]] W' fun e w' => e = .returned (.int .i64 e1) ∧ Below W'.heap.size W' w') (he : (e1 != 0) = true) :
    Calls Try.prog 24 #[.agg #[.int .i64 n, .slice A m c], .int .i64 s, .int .i64 p] W (Left W (0, [], e1)) := by
  have hu3 := Try.underlying24
  go_enter Try.func24, Try.ntmps24
  go_wp2_with (first | (go_at_call 16; refine (hck _ (below_alloc (below_alloc (below_alloc (below_alloc (Below.refl _ _) _) _) _) _)).mono ?_; rintro e w1 ⟨rfl, b1⟩; have h0 := blk_below (new4_0 W (.cells #[.int .i64 n, .slice A m c] 24 (0, 0)) (.cells #[.int .i64 s] 3 (0, 0)) (.cells #[.int .i64 p] 3 (0, 0)) (.cells #[.int .i64 0, .slice none 0 0] 24 (0, 0))) b1; have h1 := blk_below (new4_1 W (.cells #[.int .i64 n, .slice A m c] 24 (0, 0)) (.cells #[.int .i64 s] 3 (0, 0)) (.cells #[.int .i64 p] 3 (0, 0)) (.cells #[.int .i64 0, .slice none 0 0] 24 (0, 0))) b1; have h2 := blk_below (new4_2 W (.cells #[.int .i64 n, .slice A m c] 24 (0, 0)) (.cells #[.int .i64 s] 3 (0, 0)) (.cells #[.int .i64 p] 3 (0, 0)) (.cells #[.int .i64 0, .slice none 0 0] 24 (0, 0))) b1; have h3 := blk_below (new4_3 W (.cells #[.int .i64 n, .slice A m c] 24 (0, 0)) (.cells #[.int .i64 s] 3 (0, 0)) (.cells #[.int .i64 p] 3 (0, 0)) (.cells #[.int .i64 0, .slice none 0 0] 24 (0, 0))) b1; have q0 := (blk_cell h0 0).trans rfl; have q1 := (blk_cell h0 1).trans rfl; have q2 := (blk_cell h1 0).trans rfl; have q3 := (blk_cell h2 0).trans rfl; have d1 := bthen b1 (below_alloc (below_alloc (below_alloc (below_alloc (Below.refl _ _) _) _) _) _) (le4 W _ _ _ _ )) | ((with_reducible refine gate_store (p := 6) rfl ?_); refine wpList_store_row rfl 24 _ _ rfl (W.heap.size + 3) #[.int .i64 0, .slice none 0 0] rfl rfl 24 _ h3 infoB rfl (twoB _ _ _ _) ?_))
  (try simp only [Exit.inBlock, Exit.then])
  refine bodyPost_ret (results_row_tmp rfl _ _ (W.heap.size + 3) 24 #[.int .i64 0, .slice none 0 0] (0, 0) _ rfl (setRow_same h3) hu3 rfl infoB) rfl ?_
  exact ⟨_, rfl, nilV _ _ _, below_setRow' d1 (Nat.le_add_right _ _) _⟩
set_option maxHeartbeats 4000000 in
set_option maxRecDepth 100000 in
theorem inval_err2 (n : Int) (A : Option Addr) (m c : Nat) (s p : Int) (W : World) (hck : ∀ W', Below W.heap.size W W' → Calls Try.prog 16 #[.agg #[.int .i64 n, .slice A m c]] W' fun e w' => e = .returned (.int .i64 0) ∧ Below W'.heap.size W' w') (hp : placeP s p = 2) :
    Calls Try.prog 24 #[.agg #[.int .i64 n, .slice A m c], .int .i64 s, .int .i64 p] W (Left W (0, [], 2)) := by
  have hu3 := Try.underlying24
  have hpl := place_calls s p
  rw [hp] at hpl
  clear hp
  go_enter Try.func24, Try.ntmps24
  go_wp2_with (first | (go_at_call 16; refine (hck _ (below_alloc (below_alloc (below_alloc (below_alloc (Below.refl _ _) _) _) _) _)).mono ?_; rintro e w1 ⟨rfl, b1⟩; have h0 := blk_below (new4_0 W (.cells #[.int .i64 n, .slice A m c] 24 (0, 0)) (.cells #[.int .i64 s] 3 (0, 0)) (.cells #[.int .i64 p] 3 (0, 0)) (.cells #[.int .i64 0, .slice none 0 0] 24 (0, 0))) b1; have h1 := blk_below (new4_1 W (.cells #[.int .i64 n, .slice A m c] 24 (0, 0)) (.cells #[.int .i64 s] 3 (0, 0)) (.cells #[.int .i64 p] 3 (0, 0)) (.cells #[.int .i64 0, .slice none 0 0] 24 (0, 0))) b1; have h2 := blk_below (new4_2 W (.cells #[.int .i64 n, .slice A m c] 24 (0, 0)) (.cells #[.int .i64 s] 3 (0, 0)) (.cells #[.int .i64 p] 3 (0, 0)) (.cells #[.int .i64 0, .slice none 0 0] 24 (0, 0))) b1; have h3 := blk_below (new4_3 W (.cells #[.int .i64 n, .slice A m c] 24 (0, 0)) (.cells #[.int .i64 s] 3 (0, 0)) (.cells #[.int .i64 p] 3 (0, 0)) (.cells #[.int .i64 0, .slice none 0 0] 24 (0, 0))) b1; have q0 := (blk_cell h0 0).trans rfl; have q1 := (blk_cell h0 1).trans rfl; have q2 := (blk_cell h1 0).trans rfl; have q3 := (blk_cell h2 0).trans rfl; have d1 := bthen b1 (below_alloc (below_alloc (below_alloc (below_alloc (Below.refl _ _) _) _) _) _) (le4 W _ _ _ _ )) | (go_at_call 30; refine (hpl _).mono ?_; rintro e w2 ⟨rfl, ⟨⟨nq, rfl⟩⟩⟩) | ((with_reducible refine gate_store (p := 6) rfl ?_); refine wpList_store_row rfl 24 _ _ rfl (W.heap.size + 3) #[.int .i64 0, .slice none 0 0] rfl rfl 24 _ h3 infoB rfl (twoB _ _ _ _) ?_))
  (try simp only [Exit.inBlock, Exit.then])
  refine bodyPost_ret (results_row_tmp rfl _ _ (W.heap.size + 3) 24 #[.int .i64 0, .slice none 0 0] (0, 0) _ rfl (setRow_same (blk_drewN h3 nq)) hu3 rfl infoB) rfl ?_
  exact ⟨_, rfl, nilV _ _ _, below_setRow' (pw_below_drewN d1 nq) (Nat.le_add_right _ _) _⟩
set_option maxHeartbeats 4000000 in
set_option maxRecDepth 100000 in
theorem inval_main (n : Int) (A : Option Addr) (c : Nat) (l : List E) (hl : ∀ x ∈ l, okw x = true) (s p : Int) (W : World) (hC : Kd.C k42 W A l.length l) (hc : l.length ≤ c) (hck0 : checkP n l = 0) (hp : placeP s p = 0) :
    Calls Try.prog 24 #[.agg #[.int .i64 n, .slice A l.length c], .int .i64 s, .int .i64 p] W (Left W (n, kept (fun y => coversP y s p) l, 0)) := by
  have hu3 := Try.underlying24
  have hpl := place_calls s p
  rw [hp] at hpl
  have hck := fun W' (h : Below W.heap.size W W') => check_calls n A c l hl W' (Kd.C_below hC h) hc
  rw [hck0] at hck
  have hm := check_len hck0
  have hwo := fun (Wc : World) (hs : Wc.heap[W.heap.size + 1]? = some (.cells #[.int .i64 s] 3 (0, 0))) (hp : Wc.heap[W.heap.size + 2]? = some (.cells #[.int .i64 p] 3 (0, 0))) (h : Below W.heap.size W Wc) => without_calls (fun y => coversP y s p) 45 #[.pointer (some ⟨W.heap.size + 1, 0, none⟩), .pointer (some ⟨W.heap.size + 2, 0, none⟩)] (enters _ _ _ Try.func45 (by kernel_rfl) rfl) Wc (inval1_pred (W.heap.size + 1) (W.heap.size + 2) s p Wc.heap.size Wc (blk_lt hs) (blk_lt hp) hs hp) n A c l hl (Kd.C_below hC h) (by omega)
  unfold kept
  generalize hq : l.length = m at *
  generalize l.filter (fun y => !(coversP y s p)) = r at *
  clear hp hck0 hC hl hc hm hq
  go_enter Try.func24, Try.ntmps24
  go_wp2_with (first | (go_at_call 16; refine (hck _ (below_alloc (below_alloc (below_alloc (below_alloc (Below.refl _ _) _) _) _) _)).mono ?_; rintro e w1 ⟨rfl, b1⟩; have h0 := blk_below (new4_0 W (.cells #[.int .i64 n, .slice A m c] 24 (0, 0)) (.cells #[.int .i64 s] 3 (0, 0)) (.cells #[.int .i64 p] 3 (0, 0)) (.cells #[.int .i64 0, .slice none 0 0] 24 (0, 0))) b1; have h1 := blk_below (new4_1 W (.cells #[.int .i64 n, .slice A m c] 24 (0, 0)) (.cells #[.int .i64 s] 3 (0, 0)) (.cells #[.int .i64 p] 3 (0, 0)) (.cells #[.int .i64 0, .slice none 0 0] 24 (0, 0))) b1; have h2 := blk_below (new4_2 W (.cells #[.int .i64 n, .slice A m c] 24 (0, 0)) (.cells #[.int .i64 s] 3 (0, 0)) (.cells #[.int .i64 p] 3 (0, 0)) (.cells #[.int .i64 0, .slice none 0 0] 24 (0, 0))) b1; have h3 := blk_below (new4_3 W (.cells #[.int .i64 n, .slice A m c] 24 (0, 0)) (.cells #[.int .i64 s] 3 (0, 0)) (.cells #[.int .i64 p] 3 (0, 0)) (.cells #[.int .i64 0, .slice none 0 0] 24 (0, 0))) b1; have q0 := (blk_cell h0 0).trans rfl; have q1 := (blk_cell h0 1).trans rfl; have q2 := (blk_cell h1 0).trans rfl; have q3 := (blk_cell h2 0).trans rfl; have d1 := bthen b1 (below_alloc (below_alloc (below_alloc (below_alloc (Below.refl _ _) _) _) _) _) (le4 W _ _ _ _ )) | (go_at_call 30; refine (hpl _).mono ?_; rintro e w2 ⟨rfl, ⟨⟨nq, rfl⟩⟩⟩) | (go_at_call 39; refine (hwo _ (blk_drewN h1 nq) (blk_drewN h2 nq) (pw_below_drewN d1 nq)).mono ?_; rintro e w4 ⟨A', c', rfl, hR, b4⟩; have hr4 := blk_below (blk_drewN h3 nq) b4) | ((with_reducible refine gate_store (p := 6) rfl ?_); refine wpList_store_row rfl 24 _ _ rfl (W.heap.size + 3) #[.int .i64 n, .slice A' r.length c'] rfl rfl 24 _ hr4 infoB rfl (twoB _ _ _ _) ?_))
  (try simp only [Exit.inBlock, Exit.then])
  refine bodyPost_ret (results_row_tmp rfl _ _ (W.heap.size + 3) 24 #[.int .i64 n, .slice A' r.length c'] (0, 0) _ rfl (setRow_same hr4) hu3 rfl infoB) rfl ?_
  have hR' := Kd.R_mono (Kd.R_lower hR (pw_below_drewN d1 nq).size) (fun k (hk : _ ≤ k) => Nat.le_trans (pw_below_drewN d1 nq).size hk)
  exact ⟨_, rfl, Kd.Q_V (Q_setRow (Kd.Q_of_R hR') hr4 _), below_setRow' (bthen b4 (pw_below_drewN d1 nq) (pw_below_drewN d1 nq).size) (Nat.le_add_right _ _) _⟩
theorem inval_calls (n : Int) (A : Option Addr) (c : Nat) (l : List E) (hl : ∀ x ∈ l, okw x = true) (s p : Int) (W : World) (hC : Kd.C k42 W A l.length l) (hc : l.length ≤ c) :
    Calls Try.prog 24 #[.agg #[.int .i64 n, .slice A l.length c], .int .i64 s, .int .i64 p] W (Left W (invalP n l s p)) := by
  have hck := fun W' (h : Below W.heap.size W W') => check_calls n A c l hl W' (Kd.C_below hC h) hc
  unfold invalP
  by_cases h1 : checkP n l = 0
  · rw [if_neg (by simp [h1])]
    rw [h1] at hck
    by_cases h2 : placeP s p = 0
    · rw [if_neg (by simp [h2])]
      exact inval_main n A c l hl s p W hC hc h1 h2
    · rw [if_pos h2, place_two h2]
      exact inval_err2 n A l.length c s p W hck (place_two h2)
  · rw [if_pos h1]
    exact inval_err1 n A l.length c s p (checkP n l) W hck (bne_iff_ne.2 h1)

set_option maxHeartbeats 4000000 in
set_option maxRecDepth 100000 in
theorem flush_err1 (n : Int) (A : Option Addr) (m c : Nat) (s e1 : Int) (W : World) (hck : ∀ W', Below W.heap.size W W' → Calls Try.prog 16 #[.agg #[.int .i64 n, .slice A m c]] W' fun e w' => e = .returned (.int .i64 e1) ∧ Below W'.heap.size W' w') (he : (e1 != 0) = true) :
    Calls Try.prog 26 #[.agg #[.int .i64 n, .slice A m c], .int .i64 s] W (Left W (0, [], e1)) := by
  have hu3 := Try.underlying24
  go_enter Try.func26, Try.ntmps26
  go_wp2_with (first | (go_at_call 16; refine (hck _ (below_alloc (below_alloc (below_alloc (Below.refl _ _) _) _) _)).mono ?_; rintro e w1 ⟨rfl, b1⟩; have h0 := blk_below (new3_0 W (.cells #[.int .i64 n, .slice A m c] 24 (0, 0)) (.cells #[.int .i64 s] 3 (0, 0)) (.cells #[.int .i64 0, .slice none 0 0] 24 (0, 0))) b1; have h1 := blk_below (new3_1 W (.cells #[.int .i64 n, .slice A m c] 24 (0, 0)) (.cells #[.int .i64 s] 3 (0, 0)) (.cells #[.int .i64 0, .slice none 0 0] 24 (0, 0))) b1; have h2 := blk_below (new3_2 W (.cells #[.int .i64 n, .slice A m c] 24 (0, 0)) (.cells #[.int .i64 s] 3 (0, 0)) (.cells #[.int .i64 0, .slice none 0 0] 24 (0, 0))) b1; have q0 := (blk_cell h0 0).trans rfl; have q1 := (blk_cell h0 1).trans rfl; have q2 := (blk_cell h1 0).trans rfl; have d1 := bthen b1 (below_alloc (below_alloc (below_alloc (Below.refl _ _) _) _) _) (le3 W _ _ _ )) | ((with_reducible refine gate_store (p := 4) rfl ?_); refine wpList_store_row rfl 24 _ _ rfl (W.heap.size + 2) #[.int .i64 0, .slice none 0 0] rfl rfl 24 _ h2 infoB rfl (twoB _ _ _ _) ?_))
  (try simp only [Exit.inBlock, Exit.then])
  refine bodyPost_ret (results_row_tmp rfl _ _ (W.heap.size + 2) 24 #[.int .i64 0, .slice none 0 0] (0, 0) _ rfl (setRow_same h2) hu3 rfl infoB) rfl ?_
  exact ⟨_, rfl, nilV _ _ _, below_setRow' d1 (Nat.le_add_right _ _) _⟩
set_option maxHeartbeats 4000000 in
set_option maxRecDepth 100000 in
theorem flush_err2 (n : Int) (A : Option Addr) (m c : Nat) (s : Int) (W : World) (hck : ∀ W', Below W.heap.size W W' → Calls Try.prog 16 #[.agg #[.int .i64 n, .slice A m c]] W' fun e w' => e = .returned (.int .i64 0) ∧ Below W'.heap.size W' w') (hp : placeP s 0 = 2) :
    Calls Try.prog 26 #[.agg #[.int .i64 n, .slice A m c], .int .i64 s] W (Left W (0, [], 2)) := by
  have hu3 := Try.underlying24
  have hpl := place_calls s 0
  rw [hp] at hpl
  clear hp
  go_enter Try.func26, Try.ntmps26
  go_wp2_with (first | (go_at_call 16; refine (hck _ (below_alloc (below_alloc (below_alloc (Below.refl _ _) _) _) _)).mono ?_; rintro e w1 ⟨rfl, b1⟩; have h0 := blk_below (new3_0 W (.cells #[.int .i64 n, .slice A m c] 24 (0, 0)) (.cells #[.int .i64 s] 3 (0, 0)) (.cells #[.int .i64 0, .slice none 0 0] 24 (0, 0))) b1; have h1 := blk_below (new3_1 W (.cells #[.int .i64 n, .slice A m c] 24 (0, 0)) (.cells #[.int .i64 s] 3 (0, 0)) (.cells #[.int .i64 0, .slice none 0 0] 24 (0, 0))) b1; have h2 := blk_below (new3_2 W (.cells #[.int .i64 n, .slice A m c] 24 (0, 0)) (.cells #[.int .i64 s] 3 (0, 0)) (.cells #[.int .i64 0, .slice none 0 0] 24 (0, 0))) b1; have q0 := (blk_cell h0 0).trans rfl; have q1 := (blk_cell h0 1).trans rfl; have q2 := (blk_cell h1 0).trans rfl; have d1 := bthen b1 (below_alloc (below_alloc (below_alloc (Below.refl _ _) _) _) _) (le3 W _ _ _ )) | (go_at_call 30; refine (hpl _).mono ?_; rintro e w2 ⟨rfl, ⟨⟨nq, rfl⟩⟩⟩) | ((with_reducible refine gate_store (p := 4) rfl ?_); refine wpList_store_row rfl 24 _ _ rfl (W.heap.size + 2) #[.int .i64 0, .slice none 0 0] rfl rfl 24 _ h2 infoB rfl (twoB _ _ _ _) ?_))
  (try simp only [Exit.inBlock, Exit.then])
  refine bodyPost_ret (results_row_tmp rfl _ _ (W.heap.size + 2) 24 #[.int .i64 0, .slice none 0 0] (0, 0) _ rfl (setRow_same (blk_drewN h2 nq)) hu3 rfl infoB) rfl ?_
  exact ⟨_, rfl, nilV _ _ _, below_setRow' (pw_below_drewN d1 nq) (Nat.le_add_right _ _) _⟩
set_option maxHeartbeats 4000000 in
set_option maxRecDepth 100000 in
theorem flush_main (n : Int) (A : Option Addr) (c : Nat) (l : List E) (hl : ∀ x ∈ l, okw x = true) (s : Int) (W : World) (hC : Kd.C k42 W A l.length l) (hc : l.length ≤ c) (hck0 : checkP n l = 0) (hp : placeP s 0 = 0) :
    Calls Try.prog 26 #[.agg #[.int .i64 n, .slice A l.length c], .int .i64 s] W (Left W (n, kept (fun y => y.f0 == s) l, 0)) := by
  have hu3 := Try.underlying24
  have hpl := place_calls s 0
  rw [hp] at hpl
  have hck := fun W' (h : Below W.heap.size W W') => check_calls n A c l hl W' (Kd.C_below hC h) hc
  rw [hck0] at hck
  have hm := check_len hck0
  have hwo := fun (Wc : World) (hs : Wc.heap[W.heap.size + 1]? = some (.cells #[.int .i64 s] 3 (0, 0))) (h : Below W.heap.size W Wc) => without_calls (fun y => y.f0 == s) 46 #[.pointer (some ⟨W.heap.size + 1, 0, none⟩)] (enters _ _ _ Try.func46 (by kernel_rfl) rfl) Wc (flush1_pred (W.heap.size + 1) s Wc.heap.size Wc (blk_lt hs) hs) n A c l hl (Kd.C_below hC h) (by omega)
  unfold kept
  generalize hq : l.length = m at *
  generalize l.filter (fun y => !(y.f0 == s)) = r at *
  clear hp hck0 hC hl hc hm hq
  go_enter Try.func26, Try.ntmps26
  go_wp2_with (first | (go_at_call 16; refine (hck _ (below_alloc (below_alloc (below_alloc (Below.refl _ _) _) _) _)).mono ?_; rintro e w1 ⟨rfl, b1⟩; have h0 := blk_below (new3_0 W (.cells #[.int .i64 n, .slice A m c] 24 (0, 0)) (.cells #[.int .i64 s] 3 (0, 0)) (.cells #[.int .i64 0, .slice none 0 0] 24 (0, 0))) b1; have h1 := blk_below (new3_1 W (.cells #[.int .i64 n, .slice A m c] 24 (0, 0)) (.cells #[.int .i64 s] 3 (0, 0)) (.cells #[.int .i64 0, .slice none 0 0] 24 (0, 0))) b1; have h2 := blk_below (new3_2 W (.cells #[.int .i64 n, .slice A m c] 24 (0, 0)) (.cells #[.int .i64 s] 3 (0, 0)) (.cells #[.int .i64 0, .slice none 0 0] 24 (0, 0))) b1; have q0 := (blk_cell h0 0).trans rfl; have q1 := (blk_cell h0 1).trans rfl; have q2 := (blk_cell h1 0).trans rfl; have d1 := bthen b1 (below_alloc (below_alloc (below_alloc (Below.refl _ _) _) _) _) (le3 W _ _ _ )) | (go_at_call 30; refine (hpl _).mono ?_; rintro e w2 ⟨rfl, ⟨⟨nq, rfl⟩⟩⟩) | (go_at_call 39; refine (hwo _ (blk_drewN h1 nq) (pw_below_drewN d1 nq)).mono ?_; rintro e w4 ⟨A', c', rfl, hR, b4⟩; have hr4 := blk_below (blk_drewN h2 nq) b4) | ((with_reducible refine gate_store (p := 4) rfl ?_); refine wpList_store_row rfl 24 _ _ rfl (W.heap.size + 2) #[.int .i64 n, .slice A' r.length c'] rfl rfl 24 _ hr4 infoB rfl (twoB _ _ _ _) ?_))
  (try simp only [Exit.inBlock, Exit.then])
  refine bodyPost_ret (results_row_tmp rfl _ _ (W.heap.size + 2) 24 #[.int .i64 n, .slice A' r.length c'] (0, 0) _ rfl (setRow_same hr4) hu3 rfl infoB) rfl ?_
  have hR' := Kd.R_mono (Kd.R_lower hR (pw_below_drewN d1 nq).size) (fun k (hk : _ ≤ k) => Nat.le_trans (pw_below_drewN d1 nq).size hk)
  exact ⟨_, rfl, Kd.Q_V (Q_setRow (Kd.Q_of_R hR') hr4 _), below_setRow' (bthen b4 (pw_below_drewN d1 nq) (pw_below_drewN d1 nq).size) (Nat.le_add_right _ _) _⟩
theorem flush_calls (n : Int) (A : Option Addr) (c : Nat) (l : List E) (hl : ∀ x ∈ l, okw x = true) (s : Int) (W : World) (hC : Kd.C k42 W A l.length l) (hc : l.length ≤ c) :
    Calls Try.prog 26 #[.agg #[.int .i64 n, .slice A l.length c], .int .i64 s] W (Left W (flushP n l s)) := by
  have hck := fun W' (h : Below W.heap.size W W') => check_calls n A c l hl W' (Kd.C_below hC h) hc
  unfold flushP
  by_cases h1 : checkP n l = 0
  · rw [if_neg (by simp [h1])]
    rw [h1] at hck
    by_cases h2 : placeP s 0 = 0
    · rw [if_neg (by simp [h2])]
      exact flush_main n A c l hl s W hC hc h1 h2
    · rw [if_pos h2, place_two h2]
      exact flush_err2 n A l.length c s W hck (place_two h2)
  · rw [if_pos h1]
    exact flush_err1 n A l.length c s (checkP n l) W hck (bne_iff_ne.2 h1)
end Go.Proofs.Ytkbnhphcmlljgaa.Hand
namespace Go.Proofs.Ytkbnhphcmlljgaa.P
open Go.RowKit Go.Proofs.Ytkbnhphcmlljgaa.TlbP Go.Proofs.Ytkbnhphcmlljgaa.Hand Go.Proofs.YtkbnhphcmlljgaaW.PrintWords
/-- What tlb.Invalidate answers. -/
def tlb_Invalidate.f (n : Int) (l : List S42) (s p : Int) : Option (Int × List S42 × Int) := if l.all okw = true then some (invalP n l s p) else none
theorem tlb_Invalidate.calls (a0_0 : Int) (A0_1 : Option Addr) (c0_1 : Nat) (l0_1 : List S42) (a1 a2 r1 : Int) (r2 : List S42) (r3 : Int) (w : World) (hr0_1 : Kd.C k42 w A0_1 l0_1.length l0_1) (hc0_1 : l0_1.length ≤ c0_1) (h : tlb_Invalidate.f a0_0 l0_1 a1 a2 = some (r1, r2, r3)) :
    Calls Try.prog 24 #[.agg #[.int .i64 a0_0, .slice A0_1 l0_1.length c0_1], .int .i64 a1, .int .i64 a2] w fun e w' => ∃ v1_, e = .returned (.tuple #[.agg #[.int .i64 r1, v1_], .int .i64 r3]) ∧ Kd.V k42 42 w' w.heap.size (fun k_ => w.heap.size ≤ k_) v1_ r2 ∧ Below w.heap.size w w' := by
  unfold tlb_Invalidate.f at h
  split at h
  · rename_i hl
    have e := Option.some.inj h
    have := inval_calls a0_0 A0_1 c0_1 l0_1 (List.all_eq_true.1 hl) a1 a2 w hr0_1 hc0_1
    rw [e] at this
    exact this
  · cases h
/-- What tlb.Flush answers. -/
def tlb_Flush.f (n : Int) (l : List S42) (s : Int) : Option (Int × List S42 × Int) := if l.all okw = true then some (flushP n l s) else none
theorem tlb_Flush.calls (a0_0 : Int) (A0_1 : Option Addr) (c0_1 : Nat) (l0_1 : List S42) (a1 r1 : Int) (r2 : List S42) (r3 : Int) (w : World) (hr0_1 : Kd.C k42 w A0_1 l0_1.length l0_1) (hc0_1 : l0_1.length ≤ c0_1) (h : tlb_Flush.f a0_0 l0_1 a1 = some (r1, r2, r3)) :
    Calls Try.prog 26 #[.agg #[.int .i64 a0_0, .slice A0_1 l0_1.length c0_1], .int .i64 a1] w fun e w' => ∃ v1_, e = .returned (.tuple #[.agg #[.int .i64 r1, v1_], .int .i64 r3]) ∧ Kd.V k42 42 w' w.heap.size (fun k_ => w.heap.size ≤ k_) v1_ r2 ∧ Below w.heap.size w w' := by
  unfold tlb_Flush.f at h
  split at h
  · rename_i hl
    have e := Option.some.inj h
    have := flush_calls a0_0 A0_1 c0_1 l0_1 (List.all_eq_true.1 hl) a1 w hr0_1 hc0_1
    rw [e] at this
    exact this
  · cases h
end Go.Proofs.Ytkbnhphcmlljgaa.P
