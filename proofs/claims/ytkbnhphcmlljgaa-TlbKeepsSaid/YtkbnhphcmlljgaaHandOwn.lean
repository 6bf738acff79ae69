/- tlb.Fill, tlb.Invalidate and tlb.Flush: what they answer lies in memory of the call's own, and there is room in it. -/
import Derived.Test.YtkbnhphcmlljgaaHandRemove
set_option linter.unusedVariables false
set_option linter.unusedSimpArgs false
namespace Go.Proofs.Ytkbnhphcmlljgaa.OwnQ
open Go.RowKit Go.Proofs.Ytkbnhphcmlljgaa.P Go.Proofs.Ytkbnhphcmlljgaa.TlbP Go.Proofs.Ytkbnhphcmlljgaa.Pte Go.Proofs.Ytkbnhphcmlljgaa.Hand Go.Proofs.YtkbnhphcmlljgaaW.PrintWords Go.Proofs.YtkbnhphcmlljgaaW.PrintLast Go.Shelf

/-- A row whose elements may be written: its block lies from N on. -/
def Room (W : World) (N : Nat) (A : Option Addr) (len : Nat) : Prop := len = 0 ∨ ∃ g o cs, A = some ⟨g, o, none⟩ ∧ N ≤ g ∧ W.heap[g]? = some (.cells cs 42 (0, 0)) ∧ o + len * 3 ≤ cs.size
theorem nilQ (W : World) (B : Nat) : Kd.Q k42 42 W B (fun k => B ≤ k) (.slice none 0 0) ([] : List E) := Kd.Q_of_R (Kd.R_nil k42 42 W B _)
theorem room_of {W : World} {B : Nat} {ok : Nat → Prop} {A : Option Addr} {len c : Nat} {r : List E} (h : Kd.Q k42 42 W B ok (.slice A len c) r) : Room W B A len := by
  obtain ⟨_, inner, ⟨_, h2⟩, _⟩ := h
  rcases h2 with ⟨_, A0, hv, _⟩ | ⟨g, off, cap, cur, hv, hb, hh, hnc, _, hcs, _⟩
  · injection hv with _ hl _
    exact .inl hl
  · injection hv with ha hl hc
    refine .inr ⟨g, off * 3, cur, ha, hb, hh, ?_⟩
    have e : cur.size = (off + cap) * 3 := hcs
    rw [e, hl, Nat.add_mul]
    exact Nat.add_le_add_left (Nat.mul_le_mul_right _ hnc) _
def LeftQ (W : World) (r : Int × List E × Int) (e : Ending) (w' : World) : Prop := ∃ v1, e = .returned (.tuple #[.agg #[.int .i64 r.1, v1], .int .i64 r.2.2]) ∧ Kd.Q k42 42 w' W.heap.size (fun k => W.heap.size ≤ k) v1 r.2.1 ∧ Below W.heap.size W w'
/-- What is left, told without its content. -/
def LeftO (W : World) (e : Ending) (w' : World) : Prop := ∃ n A len c e3, e = .returned (.tuple #[.agg #[.int .i64 n, .slice A len c], .int .i64 e3]) ∧ Room w' W.heap.size A len ∧ (len : Int) ≤ 9223372036854775807 ∧ Below W.heap.size W w'
theorem left_O {W : World} {r : Int × List E × Int} {e : Ending} {w' : World} (h : LeftQ W r e w') : LeftO W e w' := by
  obtain ⟨v1, he, hQ, hb⟩ := h
  obtain ⟨A, c, hv, _⟩ := Kd.Q_slice hQ
  subst hv
  have hm := (Kd.Q_reads' hQ).2.2.2.1
  exact ⟨_, A, _, c, _, he, room_of hQ, by omega, hb⟩

set_option maxHeartbeats 4000000 in
set_option maxRecDepth 100000 in
theorem fill_err1 (n : Int) (A : Option Addr) (m c : Nat) (s p w e1 : Int) (W : World) (hck : ∀ W', Below W.heap.size W W' → Calls Try.prog 16 #[.agg #[.int .i64 n, .slice A m c]] W' fun e w' => e = .returned (.int .i64 e1) ∧ Below W'.heap.size W' w') (he : (e1 != 0) = true) :
    Calls Try.prog 22 #[.agg #[.int .i64 n, .slice A m c], .int .i64 s, .int .i64 p, .int .u64 w] W (LeftQ W (0, [], e1)) := by
  have hu3 := Try.underlying24
  go_enter Try.func22, Try.ntmps22
  go_wp2_with (first | (go_at_call 16; refine (hck _ (below_alloc (below_alloc (Below.refl _ _) _) _)).mono ?_; rintro e w1 ⟨rfl, b1⟩; have h1 := blk_below (pair_new W _ _) b1) | ((with_reducible refine gate_store (p := 8) rfl ?_); refine wpList_store_row rfl 24 _ _ rfl (W.heap.size + 1) #[.int .i64 0, .slice none 0 0] rfl rfl 24 _ h1 infoB rfl (twoB _ _ _ _) ?_))
  (try simp only [Exit.inBlock, Exit.then])
  refine bodyPost_ret (results_row_tmp rfl _ _ (W.heap.size + 1) 24 #[.int .i64 0, .slice none 0 0] (0, 0) _ rfl (setRow_same h1) hu3 rfl infoB) rfl ?_
  exact ⟨_, rfl, nilQ _ _, below_setRow' (bthen b1 (below_alloc (below_alloc (Below.refl _ _) _) _) (by simp; omega)) (by omega) _⟩

set_option maxHeartbeats 4000000 in
set_option maxRecDepth 100000 in
theorem fill_err2 (n : Int) (A : Option Addr) (m c : Nat) (s p w : Int) (W : World) (hck : ∀ W', Below W.heap.size W W' → Calls Try.prog 16 #[.agg #[.int .i64 n, .slice A m c]] W' fun e w' => e = .returned (.int .i64 0) ∧ Below W'.heap.size W' w') (hp : placeP s p = 2) :
    Calls Try.prog 22 #[.agg #[.int .i64 n, .slice A m c], .int .i64 s, .int .i64 p, .int .u64 w] W (LeftQ W (0, [], 2)) := by
  have hu3 := Try.underlying24
  have hpl := place_calls s p
  rw [hp] at hpl
  clear hp
  go_enter Try.func22, Try.ntmps22
  go_wp2_with (first | (go_at_call 16; refine (hck _ (below_alloc (below_alloc (Below.refl _ _) _) _)).mono ?_; rintro e w1 ⟨rfl, b1⟩; have h1 := blk_below (pair_new W _ _) b1; have h0 := blk_below (blk_alloc (blk_new W _) _) b1; have d1 := bthen b1 (below_alloc (below_alloc (Below.refl _ _) _) _) (two_le W _ _)) | (go_at_call 30; refine (hpl _).mono ?_; rintro e w2 ⟨rfl, ⟨⟨nq, rfl⟩⟩⟩) | ((with_reducible refine gate_store (p := 8) rfl ?_); refine wpList_store_row rfl 24 _ _ rfl (W.heap.size + 1) #[.int .i64 0, .slice none 0 0] rfl rfl 24 _ h1 infoB rfl (twoB _ _ _ _) ?_))
  (try simp only [Exit.inBlock, Exit.then])
  refine bodyPost_ret (results_row_tmp rfl _ _ (W.heap.size + 1) 24 #[.int .i64 0, .slice none 0 0] (0, 0) _ rfl (setRow_same (blk_drewN h1 nq)) hu3 rfl infoB) rfl ?_
  exact ⟨_, rfl, nilQ _ _, below_setRow' (pw_below_drewN d1 nq) (Nat.le_succ _) _⟩
set_option maxHeartbeats 4000000 in
set_option maxRecDepth 100000 in
theorem fill_err3 (n : Int) (A : Option Addr) (m c : Nat) (s p w : Int) (hw : inU w = true) (W : World) (hck : ∀ W', Below W.heap.size W W' → Calls Try.prog 16 #[.agg #[.int .i64 n, .slice A m c]] W' fun e w' => e = .returned (.int .i64 0) ∧ Below W'.heap.size W' w') (hp : placeP s p = 0) (ht : trOk w = false) :
    Calls Try.prog 22 #[.agg #[.int .i64 n, .slice A m c], .int .i64 s, .int .i64 p, .int .u64 w] W (LeftQ W (0, [], 3)) := by
  have hu3 := Try.underlying24
  have hpl := place_calls s p
  rw [hp] at hpl
  have htr := transl_calls w hw
  rw [ht] at htr
  clear hp ht hw
  go_enter Try.func22, Try.ntmps22
  go_wp2_with (first | (go_at_call 16; refine (hck _ (below_alloc (below_alloc (Below.refl _ _) _) _)).mono ?_; rintro e w1 ⟨rfl, b1⟩; have h1 := blk_below (pair_new W _ _) b1; have h0 := blk_below (blk_alloc (blk_new W _) _) b1; have d1 := bthen b1 (below_alloc (below_alloc (Below.refl _ _) _) _) (two_le W _ _)) | (go_at_call 30; refine (hpl _).mono ?_; rintro e w2 ⟨rfl, ⟨⟨nq, rfl⟩⟩⟩) | (go_at_call 31; refine (htr _).mono ?_; rintro e w3 ⟨rfl, b3⟩; have h3 := blk_below (blk_drewN h1 nq) b3; have d3 := bthen b3 (pw_below_drewN d1 nq) d1.size) | ((with_reducible refine gate_store (p := 8) rfl ?_); refine wpList_store_row rfl 24 _ _ rfl (W.heap.size + 1) #[.int .i64 0, .slice none 0 0] rfl rfl 24 _ h3 infoB rfl (twoB _ _ _ _) ?_))
  (try simp only [Exit.inBlock, Exit.then])
  refine bodyPost_ret (results_row_tmp rfl _ _ (W.heap.size + 1) 24 #[.int .i64 0, .slice none 0 0] (0, 0) _ rfl (setRow_same h3) hu3 rfl infoB) rfl ?_
  exact ⟨_, rfl, nilQ _ _, below_setRow' d3 (Nat.le_succ _) _⟩

set_option maxHeartbeats 4000000 in
set_option maxRecDepth 100000 in
theorem fill_main (n : Int) (A : Option Addr) (c : Nat) (l : List E) (hl : ∀ x ∈ l, okw x = true) (s p w : Int) (hw : inU w = true) (W : World) (hC : Kd.C k42 W A l.length l) (hc : l.length ≤ c) (hck0 : checkP n l = 0) (hp : placeP s p = 0) (ht : trOk w = true) :
    Calls Try.prog 22 #[.agg #[.int .i64 n, .slice A l.length c], .int .i64 s, .int .i64 p, .int .u64 w] W (LeftQ W (n, shifted n (kept (fun y => overlapP ⟨s, pageOf p w, w⟩ y) l) ++ [⟨s, pageOf p w, w⟩], 0)) := by
  have hu := Try.underlying42
  have hu2 := Try.underlying22
  have hu3 := Try.underlying24
  have hpl := place_calls s p
  rw [hp] at hpl
  have htr := transl_calls w hw
  rw [ht] at htr
  have hck := fun W' (h : Below W.heap.size W W') => check_calls n A c l hl W' (Kd.C_below hC h) hc
  rw [hck0] at hck
  have hm := check_len hck0
  have hwo := fun (Wc : World) (gx : Nat) (x : E) (hx : okw x = true) (hb : Wc.heap[gx]? = some (boxE x)) (h : Below W.heap.size W Wc) => without_calls (fun y => overlapP x y) 40 #[.pointer (some ⟨gx, 0, none⟩)] (enters _ _ _ Try.func40 (by kernel_rfl) rfl) Wc (fill1_pred gx x hx Wc.heap.size Wc (blk_lt hb) hb) n A c l hl (Kd.C_below hC h) (by omega)
  have HM := Lib.hid hm
  have HN1 : Hid (1 ≤ n) := Lib.hid (check_one hck0)
  generalize hq : l.length = m at *
  clear hp ht hck0 hC hl hc hm
  unfold pageOf kept
  cases hh : trHuge w with
  | true =>
    rw [hh] at htr
    simp only [if_true]
    have hwo' := fun Wc gx hb hd => hwo Wc gx (⟨s, wrap64 (p - Int.tmod p 8), w⟩ : E) hw hb hd
    have HLEN : Hid ((l.filter (fun y => !overlapP (⟨s, wrap64 (p - Int.tmod p 8), w⟩ : E) y)).length ≤ 16) := Lib.hid (Nat.le_trans (List.length_filter_le _ _) (by have := HM.out; omega))
    clear hwo
    generalize l.filter (fun y => !overlapP (⟨s, wrap64 (p - Int.tmod p 8), w⟩ : E) y) = r at *
    go_enter Try.func22, Try.ntmps22
    go_upto_region 14 with (first | (go_at_call 16; refine (hck _ (below_alloc (below_alloc (Below.refl _ _) _) _)).mono ?_; rintro e w1 ⟨rfl, b1⟩; have h1 := blk_below (pair_new W _ _) b1; have h0 := blk_below (blk_alloc (blk_new W _) _) b1; have d1 := bthen b1 (below_alloc (below_alloc (Below.refl _ _) _) _) (two_le W _ _)) | (go_at_call 30; refine (hpl _).mono ?_; rintro e w2 ⟨rfl, ⟨⟨nq, rfl⟩⟩⟩) | (go_at_call 31; refine (htr _).mono ?_; rintro e w3 ⟨rfl, b3⟩; have h3 := blk_below (blk_drewN h1 nq) b3; have hb3 := blk_below (blk_drewN h0 nq) b3; have d3 := bthen b3 (pw_below_drewN d1 nq) d1.size; have q0 := (blk_cell hb3 0).trans rfl; have q1 := (blk_cell hb3 1).trans rfl; have n3 := blk_lt hb3) | (go_at_call 39; refine (hwo' _ w3.heap.size (blk_new w3 (boxE (⟨s, wrap64 (p - Int.tmod p 8), w⟩ : E))) (below_alloc d3 _)).mono ?_; rintro e w4 ⟨A', c', rfl, hR, b4⟩))
    have hx4 := blk_below (blk_new w3 (boxE (⟨s, wrap64 (p - Int.tmod p 8), w⟩ : E))) b4
    have hr4 := blk_below (blk_alloc h3 (boxE (⟨s, wrap64 (p - Int.tmod p 8), w⟩ : E))) b4
    have d4 := bthen b4 (below_alloc d3 _) (below_alloc d3 _).size
    have hR' := Kd.R_mono (Kd.R_lower hR (below_alloc d3 (boxE (⟨s, wrap64 (p - Int.tmod p 8), w⟩ : E))).size) (fun k (hk : _ ≤ k) => Nat.le_trans (below_alloc d3 (boxE (⟨s, wrap64 (p - Int.tmod p 8), w⟩ : E))).size hk)
    have n15 : ¬ W.heap.size + 1 = w4.heap.size := Nat.ne_of_lt (blk_lt hr4)
    have l5 : W.heap.size ≤ w4.heap.size := d4.size
    have hb5 : (w4.alloc (.cells #[.int .i64 n, .slice A' r.length c'] 24 (0, 0))).heap[w4.heap.size]? = some (.cells #[.int .i64 n, .slice A' r.length c'] 24 (0, 0)) := blk_new w4 _
    refine absw (fun w' => w'.heap[w4.heap.size]? = some (.cells #[.int .i64 n, .slice A' r.length c'] 24 (0, 0)) ∧ w'.heap[w3.heap.size]? = some (boxE (⟨s, wrap64 (p - Int.tmod p 8), w⟩ : E)) ∧ w'.heap[W.heap.size + 1]? = some (.cells #[.int .i64 0, .slice none 0 0] 24 (0, 0)) ∧ k42.Q 42 w' W.heap.size (fun k => W.heap.size ≤ k) (.slice A' r.length c') r ∧ Below W.heap.size W w') ⟨hb5, blk_alloc hx4 _, blk_alloc hr4 _, Kd.Q_of_R (Kd.R_alloc hR' _), below_alloc d4 _⟩ ?_
    clear hb5 hx4 hr4 hR' hR d4 b4 d3 b3 h3 hb3 q0 q1 n3 h1 h0 d1 b1
    rintro w5 ⟨hb5, hx5, hr5, hQ5, d5⟩
    generalize w4.heap.size = g5 at *
    generalize w3.heap.size = g3 at *
    generalize hg1 : W.heap.size + 1 = g1 at *
    have e0 := (blk_cell hb5 0).trans rfl
    have e1 := (blk_cell hb5 1).trans rfl
    have e2 := blk_frozen hb5 1
    by_cases hf : (r.length : Int) = n
    · have HRR : Hid (shifted n r = r.drop 1) := Lib.hid (by unfold shifted; rw [if_pos hf])
      have hr1 : 1 ≤ r.length := by have := HN1.out; omega
      have HL6 : Hid (((r.drop 1).length + 1) * 24 ≤ 140737488355328) := Lib.hid (by have := HLEN.out; rw [List.length_drop]; omega)
      have hf2 : ((r.length : Int) == n) = true := beq_iff_eq.2 hf
      obtain ⟨i0, hi0, hs0⟩ := Option.map_eq_some_iff.1 infoT
      have hsl : ∀ W, (Instr.slice 22 (.slice A' r.length c') (some (.int .i64 1)) none none).run Try.prog W = .ok (.slice (if c' = 1 then A' else A'.map (·.add (1 * 3))) (r.length - 1) (c' - 1)) W := fun W' => cut_from (P := Try.prog) 22 42 .i64 hu2 hi0 3 hs0 A' r.length c' 1 (by omega) (by omega) W'
      have hQ6 : k42.Q 42 w5 W.heap.size (fun k => W.heap.size ≤ k) (.slice (if c' = 1 then A' else A'.map (·.add (1 * 3))) (r.length - 1) (c' - 1)) (r.drop 1) := Kd.Q_drop hQ5 hr1
      clear hi0 hs0 hf hr1 hQ5
      generalize (if c' = 1 then A' else A'.map (·.add (1 * 3))) = A6 at *
      go_upto_region 16 with fail
      have hne0 : (42 : Nat) ≠ 24 := by decide
      refine absw (fun w' => w'.heap[g5]? = some (.cells #[.int .i64 n, .slice A6 (r.drop 1).length (c' - 1)] 24 (0, 0)) ∧ w'.heap[g3]? = some (boxE (⟨s, wrap64 (p - Int.tmod p 8), w⟩ : E)) ∧ w'.heap[g1]? = some (.cells #[.int .i64 0, .slice none 0 0] 24 (0, 0)) ∧ Hid (k42.Q 42 w' W.heap.size (fun k => W.heap.size ≤ k) (.slice A6 (r.drop 1).length (c' - 1)) (r.drop 1)) ∧ Below W.heap.size W w') ⟨by rw [List.length_drop]; exact blk_put hb5 1 _ rfl, blk_far hx5 (p := ⟨g5, 1, none⟩) (blk_ne hx5 hb5 hne0) _, blk_far hr5 (p := ⟨g5, 1, none⟩) n15 _, Lib.hid (by rw [List.length_drop]; exact Kd.Q_set hQ6 hb5 tyE 1 _), d5.setCell (p := ⟨g5, 1, none⟩) l5 _⟩ ?_
      clear hb5 hx5 hr5 d5 hQ6 e0 e1 e2 hsl hf2 hne0
      rintro w6 ⟨hb6, hx6, hr6, HQ6, d6⟩
      generalize r.drop 1 = r6 at *
      generalize c' - 1 = c6 at *
      have hne42 : (42 : Nat) ≠ 24 := by decide
      have f0 := (blk_cell hb6 0).trans rfl
      have f1 := (blk_cell hb6 1).trans rfl
      have f2 := (blk_cell hx6 0).trans rfl
      have f3 := (blk_cell hx6 1).trans rfl
      have f4 := (blk_cell hx6 2).trans rfl
      have f5 := blk_lt hb6
      have f6 := blk_lt hx6
      go_wp2_with (first | ((with_reducible refine gate_builtin (b := .append) (xs := #[.tmp 60, .tmp 62]) rfl ?_); at_builtin; refine Kd.Q_append k42 (w0 := W) W.heap.size rfl (.tmp 60) (.tmp 62) 22 42 (.agg #[(.int .i64 0), (.int .i64 0), (.int .u64 0)]) 24 rfl hu2 infoZ rfl (Nat.succ_pos 2) (Nat.succ_pos 23) _ r6 (⟨s, wrap64 (p - Int.tmod p 8), w⟩ : E) (cellsE (⟨s, wrap64 (p - Int.tmod p 8), w⟩ : E)) (fun k => W.heap.size ≤ k) (fun _ => False) rfl rfl (k42_mkM _ _ _ _) (fun _ hk => hk.elim) (fun k hk => Nat.le_trans d6.size hk) HQ6.out d6 d6.size HL6.out ?_; intro v1 w7 hQ7 d7 g7 hat; obtain ⟨A7, c7, hv7, hc7⟩ := Kd.Q_slice hQ7; rw [List.length_append, List.length_singleton] at hv7; subst hv7; have hb5' := blk_grown hb6 g7 (Kd.Q_ne HQ6.out hb6 hne42); have hbr' := blk_grown hr6 g7 (Kd.Q_ne HQ6.out hr6 hne42); have e0 := (blk_cell hb5' 0).trans rfl; have e1 := (blk_cell hb5' 1).trans rfl; have e2 := blk_frozen hb5' 1) | ((with_reducible refine gate_store (p := 8) rfl ?_); refine wpList_store_row rfl 24 _ _ rfl g1 #[.int .i64 n, .slice A7 (r6.length + 1) c7] rfl rfl 24 _ (blk_far hbr' (p := ⟨g5, 1, none⟩) n15 _) infoB rfl (twoB _ _ _ _) ?_))
      (try simp only [Exit.inBlock, Exit.then])
      refine bodyPost_ret (results_row_tmp rfl _ _ g1 24 #[.int .i64 n, .slice A7 (r6.length + 1) c7] (0, 0) _ rfl (setRow_same (blk_far hbr' (p := ⟨g5, 1, none⟩) n15 _)) hu3 rfl infoB) rfl ?_
      rw [HRR.out]
      exact ⟨_, rfl, (Q_setRow (Kd.Q_set hQ7 hb5' tyE 1 _) (blk_far hbr' (p := ⟨g5, 1, none⟩) n15 _) _), below_setRow' (d7.setCell (p := ⟨g5, 1, none⟩) l5 _) (hg1 ▸ Nat.le_succ _) _⟩
    · have HRR : Hid (shifted n r = r) := Lib.hid (by unfold shifted; rw [if_neg hf])
      have HQ6 := Lib.hid hQ5
      have HL6 : Hid ((r.length + 1) * 24 ≤ 140737488355328) := Lib.hid (by have := HLEN.out; omega)
      have hf2 : ((r.length : Int) == n) = false := beq_eq_false_iff_ne.2 hf
      go_upto_region 16 with fail
      have hb6 := hb5
      have hx6 := hx5
      have hr6 := hr5
      have d6 := d5
      clear hb5 hx5 hr5 d5 hQ5 e0 e1 e2
      have hne42 : (42 : Nat) ≠ 24 := by decide
      have f0 := (blk_cell hb6 0).trans rfl
      have f1 := (blk_cell hb6 1).trans rfl
      have f2 := (blk_cell hx6 0).trans rfl
      have f3 := (blk_cell hx6 1).trans rfl
      have f4 := (blk_cell hx6 2).trans rfl
      have f5 := blk_lt hb6
      have f6 := blk_lt hx6
      go_wp2_with (first | ((with_reducible refine gate_builtin (b := .append) (xs := #[.tmp 60, .tmp 62]) rfl ?_); at_builtin; refine Kd.Q_append k42 (w0 := W) W.heap.size rfl (.tmp 60) (.tmp 62) 22 42 (.agg #[(.int .i64 0), (.int .i64 0), (.int .u64 0)]) 24 rfl hu2 infoZ rfl (Nat.succ_pos 2) (Nat.succ_pos 23) _ r (⟨s, wrap64 (p - Int.tmod p 8), w⟩ : E) (cellsE (⟨s, wrap64 (p - Int.tmod p 8), w⟩ : E)) (fun k => W.heap.size ≤ k) (fun _ => False) rfl rfl (k42_mkM _ _ _ _) (fun _ hk => hk.elim) (fun k hk => Nat.le_trans d6.size hk) HQ6.out d6 d6.size HL6.out ?_; intro v1 w7 hQ7 d7 g7 hat; obtain ⟨A7, c7, hv7, hc7⟩ := Kd.Q_slice hQ7; rw [List.length_append, List.length_singleton] at hv7; subst hv7; have hb5' := blk_grown hb6 g7 (Kd.Q_ne HQ6.out hb6 hne42); have hbr' := blk_grown hr6 g7 (Kd.Q_ne HQ6.out hr6 hne42); have e0 := (blk_cell hb5' 0).trans rfl; have e1 := (blk_cell hb5' 1).trans rfl; have e2 := blk_frozen hb5' 1) | ((with_reducible refine gate_store (p := 8) rfl ?_); refine wpList_store_row rfl 24 _ _ rfl g1 #[.int .i64 n, .slice A7 (r.length + 1) c7] rfl rfl 24 _ (blk_far hbr' (p := ⟨g5, 1, none⟩) n15 _) infoB rfl (twoB _ _ _ _) ?_))
      (try simp only [Exit.inBlock, Exit.then])
      refine bodyPost_ret (results_row_tmp rfl _ _ g1 24 #[.int .i64 n, .slice A7 (r.length + 1) c7] (0, 0) _ rfl (setRow_same (blk_far hbr' (p := ⟨g5, 1, none⟩) n15 _)) hu3 rfl infoB) rfl ?_
      rw [HRR.out]
      exact ⟨_, rfl, (Q_setRow (Kd.Q_set hQ7 hb5' tyE 1 _) (blk_far hbr' (p := ⟨g5, 1, none⟩) n15 _) _), below_setRow' (d7.setCell (p := ⟨g5, 1, none⟩) l5 _) (hg1 ▸ Nat.le_succ _) _⟩
  | false =>
    rw [hh] at htr
    simp only [Bool.false_eq_true, if_false]
    have hwo' := fun Wc gx hb hd => hwo Wc gx (⟨s, p, w⟩ : E) hw hb hd
    have HLEN : Hid ((l.filter (fun y => !overlapP (⟨s, p, w⟩ : E) y)).length ≤ 16) := Lib.hid (Nat.le_trans (List.length_filter_le _ _) (by have := HM.out; omega))
    clear hwo
    generalize l.filter (fun y => !overlapP (⟨s, p, w⟩ : E) y) = r at *
    go_enter Try.func22, Try.ntmps22
    go_upto_region 14 with (first | (go_at_call 16; refine (hck _ (below_alloc (below_alloc (Below.refl _ _) _) _)).mono ?_; rintro e w1 ⟨rfl, b1⟩; have h1 := blk_below (pair_new W _ _) b1; have h0 := blk_below (blk_alloc (blk_new W _) _) b1; have d1 := bthen b1 (below_alloc (below_alloc (Below.refl _ _) _) _) (two_le W _ _)) | (go_at_call 30; refine (hpl _).mono ?_; rintro e w2 ⟨rfl, ⟨⟨nq, rfl⟩⟩⟩) | (go_at_call 31; refine (htr _).mono ?_; rintro e w3 ⟨rfl, b3⟩; have h3 := blk_below (blk_drewN h1 nq) b3; have hb3 := blk_below (blk_drewN h0 nq) b3; have d3 := bthen b3 (pw_below_drewN d1 nq) d1.size; have q0 := (blk_cell hb3 0).trans rfl; have q1 := (blk_cell hb3 1).trans rfl; have n3 := blk_lt hb3) | (go_at_call 39; refine (hwo' _ w3.heap.size (blk_new w3 (boxE (⟨s, p, w⟩ : E))) (below_alloc d3 _)).mono ?_; rintro e w4 ⟨A', c', rfl, hR, b4⟩))
    have hx4 := blk_below (blk_new w3 (boxE (⟨s, p, w⟩ : E))) b4
    have hr4 := blk_below (blk_alloc h3 (boxE (⟨s, p, w⟩ : E))) b4
    have d4 := bthen b4 (below_alloc d3 _) (below_alloc d3 _).size
    have hR' := Kd.R_mono (Kd.R_lower hR (below_alloc d3 (boxE (⟨s, p, w⟩ : E))).size) (fun k (hk : _ ≤ k) => Nat.le_trans (below_alloc d3 (boxE (⟨s, p, w⟩ : E))).size hk)
    have n15 : ¬ W.heap.size + 1 = w4.heap.size := Nat.ne_of_lt (blk_lt hr4)
    have l5 : W.heap.size ≤ w4.heap.size := d4.size
    have hb5 : (w4.alloc (.cells #[.int .i64 n, .slice A' r.length c'] 24 (0, 0))).heap[w4.heap.size]? = some (.cells #[.int .i64 n, .slice A' r.length c'] 24 (0, 0)) := blk_new w4 _
    refine absw (fun w' => w'.heap[w4.heap.size]? = some (.cells #[.int .i64 n, .slice A' r.length c'] 24 (0, 0)) ∧ w'.heap[w3.heap.size]? = some (boxE (⟨s, p, w⟩ : E)) ∧ w'.heap[W.heap.size + 1]? = some (.cells #[.int .i64 0, .slice none 0 0] 24 (0, 0)) ∧ k42.Q 42 w' W.heap.size (fun k => W.heap.size ≤ k) (.slice A' r.length c') r ∧ Below W.heap.size W w') ⟨hb5, blk_alloc hx4 _, blk_alloc hr4 _, Kd.Q_of_R (Kd.R_alloc hR' _), below_alloc d4 _⟩ ?_
    clear hb5 hx4 hr4 hR' hR d4 b4 d3 b3 h3 hb3 q0 q1 n3 h1 h0 d1 b1
    rintro w5 ⟨hb5, hx5, hr5, hQ5, d5⟩
    generalize w4.heap.size = g5 at *
    generalize w3.heap.size = g3 at *
    generalize hg1 : W.heap.size + 1 = g1 at *
    have e0 := (blk_cell hb5 0).trans rfl
    have e1 := (blk_cell hb5 1).trans rfl
    have e2 := blk_frozen hb5 1
    by_cases hf : (r.length : Int) = n
    · have HRR : Hid (shifted n r = r.drop 1) := Lib.hid (by unfold shifted; rw [if_pos hf])
      have hr1 : 1 ≤ r.length := by have := HN1.out; omega
      have HL6 : Hid (((r.drop 1).length + 1) * 24 ≤ 140737488355328) := Lib.hid (by have := HLEN.out; rw [List.length_drop]; omega)
      have hf2 : ((r.length : Int) == n) = true := beq_iff_eq.2 hf
      obtain ⟨i0, hi0, hs0⟩ := Option.map_eq_some_iff.1 infoT
      have hsl : ∀ W, (Instr.slice 22 (.slice A' r.length c') (some (.int .i64 1)) none none).run Try.prog W = .ok (.slice (if c' = 1 then A' else A'.map (·.add (1 * 3))) (r.length - 1) (c' - 1)) W := fun W' => cut_from (P := Try.prog) 22 42 .i64 hu2 hi0 3 hs0 A' r.length c' 1 (by omega) (by omega) W'
      have hQ6 : k42.Q 42 w5 W.heap.size (fun k => W.heap.size ≤ k) (.slice (if c' = 1 then A' else A'.map (·.add (1 * 3))) (r.length - 1) (c' - 1)) (r.drop 1) := Kd.Q_drop hQ5 hr1
      clear hi0 hs0 hf hr1 hQ5
      generalize (if c' = 1 then A' else A'.map (·.add (1 * 3))) = A6 at *
      go_upto_region 16 with fail
      have hne0 : (42 : Nat) ≠ 24 := by decide
      refine absw (fun w' => w'.heap[g5]? = some (.cells #[.int .i64 n, .slice A6 (r.drop 1).length (c' - 1)] 24 (0, 0)) ∧ w'.heap[g3]? = some (boxE (⟨s, p, w⟩ : E)) ∧ w'.heap[g1]? = some (.cells #[.int .i64 0, .slice none 0 0] 24 (0, 0)) ∧ Hid (k42.Q 42 w' W.heap.size (fun k => W.heap.size ≤ k) (.slice A6 (r.drop 1).length (c' - 1)) (r.drop 1)) ∧ Below W.heap.size W w') ⟨by rw [List.length_drop]; exact blk_put hb5 1 _ rfl, blk_far hx5 (p := ⟨g5, 1, none⟩) (blk_ne hx5 hb5 hne0) _, blk_far hr5 (p := ⟨g5, 1, none⟩) n15 _, Lib.hid (by rw [List.length_drop]; exact Kd.Q_set hQ6 hb5 tyE 1 _), d5.setCell (p := ⟨g5, 1, none⟩) l5 _⟩ ?_
      clear hb5 hx5 hr5 d5 hQ6 e0 e1 e2 hsl hf2 hne0
      rintro w6 ⟨hb6, hx6, hr6, HQ6, d6⟩
      generalize r.drop 1 = r6 at *
      generalize c' - 1 = c6 at *
      have hne42 : (42 : Nat) ≠ 24 := by decide
      have f0 := (blk_cell hb6 0).trans rfl
      have f1 := (blk_cell hb6 1).trans rfl
      have f2 := (blk_cell hx6 0).trans rfl
      have f3 := (blk_cell hx6 1).trans rfl
      have f4 := (blk_cell hx6 2).trans rfl
      have f5 := blk_lt hb6
      have f6 := blk_lt hx6
      go_wp2_with (first | ((with_reducible refine gate_builtin (b := .append) (xs := #[.tmp 60, .tmp 62]) rfl ?_); at_builtin; refine Kd.Q_append k42 (w0 := W) W.heap.size rfl (.tmp 60) (.tmp 62) 22 42 (.agg #[(.int .i64 0), (.int .i64 0), (.int .u64 0)]) 24 rfl hu2 infoZ rfl (Nat.succ_pos 2) (Nat.succ_pos 23) _ r6 (⟨s, p, w⟩ : E) (cellsE (⟨s, p, w⟩ : E)) (fun k => W.heap.size ≤ k) (fun _ => False) rfl rfl (k42_mkM _ _ _ _) (fun _ hk => hk.elim) (fun k hk => Nat.le_trans d6.size hk) HQ6.out d6 d6.size HL6.out ?_; intro v1 w7 hQ7 d7 g7 hat; obtain ⟨A7, c7, hv7, hc7⟩ := Kd.Q_slice hQ7; rw [List.length_append, List.length_singleton] at hv7; subst hv7; have hb5' := blk_grown hb6 g7 (Kd.Q_ne HQ6.out hb6 hne42); have hbr' := blk_grown hr6 g7 (Kd.Q_ne HQ6.out hr6 hne42); have e0 := (blk_cell hb5' 0).trans rfl; have e1 := (blk_cell hb5' 1).trans rfl; have e2 := blk_frozen hb5' 1) | ((with_reducible refine gate_store (p := 8) rfl ?_); refine wpList_store_row rfl 24 _ _ rfl g1 #[.int .i64 n, .slice A7 (r6.length + 1) c7] rfl rfl 24 _ (blk_far hbr' (p := ⟨g5, 1, none⟩) n15 _) infoB rfl (twoB _ _ _ _) ?_))
      (try simp only [Exit.inBlock, Exit.then])
      refine bodyPost_ret (results_row_tmp rfl _ _ g1 24 #[.int .i64 n, .slice A7 (r6.length + 1) c7] (0, 0) _ rfl (setRow_same (blk_far hbr' (p := ⟨g5, 1, none⟩) n15 _)) hu3 rfl infoB) rfl ?_
      rw [HRR.out]
      exact ⟨_, rfl, (Q_setRow (Kd.Q_set hQ7 hb5' tyE 1 _) (blk_far hbr' (p := ⟨g5, 1, none⟩) n15 _) _), below_setRow' (d7.setCell (p := ⟨g5, 1, none⟩) l5 _) (hg1 ▸ Nat.le_succ _) _⟩
    · have HRR : Hid (shifted n r = r) := Lib.hid (by unfold shifted; rw [if_neg hf])
      have HQ6 := Lib.hid hQ5
      have HL6 : Hid ((r.length + 1) * 24 ≤ 140737488355328) := Lib.hid (by have := HLEN.out; omega)
      have hf2 : ((r.length : Int) == n) = false := beq_eq_false_iff_ne.2 hf
      go_upto_region 16 with fail
      have hb6 := hb5
      have hx6 := hx5
      have hr6 := hr5
      have d6 := d5
      clear hb5 hx5 hr5 d5 hQ5 e0 e1 e2
      have hne42 : (42 : Nat) ≠ 24 := by decide
      have f0 := (blk_cell hb6 0).trans rfl
      have f1 := (blk_cell hb6 1).trans rfl
      have f2 := (blk_cell hx6 0).trans rfl
      have f3 := (blk_cell hx6 1).trans rfl
      have f4 := (blk_cell hx6 2).trans rfl
      have f5 := blk_lt hb6
      have f6 := blk_lt hx6
      go_wp2_with (first | ((with_reducible refine gate_builtin (b := .append) (xs := #[.tmp 60, .tmp 62]) rfl ?_); at_builtin; refine Kd.Q_append k42 (w0 := W) W.heap.size rfl (.tmp 60) (.tmp 62) 22 42 (.agg #[(.int .i64 0), (.int .i64 0), (.int .u64 0)]) 24 rfl hu2 infoZ rfl (Nat.succ_pos 2) (Nat.succ_pos 23) _ r (⟨s, p, w⟩ : E) (cellsE (⟨s, p, w⟩ : E)) (fun k => W.heap.size ≤ k) (fun _ => False) rfl rfl (k42_mkM _ _ _ _) (fun _ hk => hk.elim) (fun k hk => Nat.le_trans d6.size hk) HQ6.out d6 d6.size HL6.out ?_; intro v1 w7 hQ7 d7 g7 hat; obtain ⟨A7, c7, hv7, hc7⟩ := Kd.Q_slice hQ7; rw [List.length_append, List.length_singleton] at hv7; subst hv7; have hb5' := blk_grown hb6 g7 (Kd.Q_ne HQ6.out hb6 hne42); have hbr' := blk_grown hr6 g7 (Kd.Q_ne HQ6.out hr6 hne42); have e0 := (blk_cell hb5' 0).trans rfl; have e1 := (blk_cell hb5' 1).trans rfl; have e2 := blk_frozen hb5' 1) | ((with_reducible refine gate_store (p := 8) rfl ?_); refine wpList_store_row rfl 24 _ _ rfl g1 #[.int .i64 n, .slice A7 (r.length + 1) c7] rfl rfl 24 _ (blk_far hbr' (p := ⟨g5, 1, none⟩) n15 _) infoB rfl (twoB _ _ _ _) ?_))
      (try simp only [Exit.inBlock, Exit.then])
      refine bodyPost_ret (results_row_tmp rfl _ _ g1 24 #[.int .i64 n, .slice A7 (r.length + 1) c7] (0, 0) _ rfl (setRow_same (blk_far hbr' (p := ⟨g5, 1, none⟩) n15 _)) hu3 rfl infoB) rfl ?_
      rw [HRR.out]
      exact ⟨_, rfl, (Q_setRow (Kd.Q_set hQ7 hb5' tyE 1 _) (blk_far hbr' (p := ⟨g5, 1, none⟩) n15 _) _), below_setRow' (d7.setCell (p := ⟨g5, 1, none⟩) l5 _) (hg1 ▸ Nat.le_succ _) _⟩

theorem fill_calls (n : Int) (A : Option Addr) (c : Nat) (l : List E) (hl : ∀ x ∈ l, okw x = true) (s p w : Int) (hw : inU w = true) (W : World) (hC : Kd.C k42 W A l.length l) (hc : l.length ≤ c) :
    Calls Try.prog 22 #[.agg #[.int .i64 n, .slice A l.length c], .int .i64 s, .int .i64 p, .int .u64 w] W (LeftQ W (fillP n l s p w)) := by
  have hck := fun W' (h : Below W.heap.size W W') => check_calls n A c l hl W' (Kd.C_below hC h) hc
  unfold fillP
  by_cases h1 : checkP n l = 0
  · rw [if_neg (by simp [h1])]
    rw [h1] at hck
    by_cases h2 : placeP s p = 0
    · rw [if_neg (by simp [h2])]
      cases h3 : trOk w with
      | true => rw [if_neg (by simp)]; exact fill_main n A c l hl s p w hw W hC hc h1 h2 h3
      | false => rw [if_pos rfl]; exact fill_err3 n A l.length c s p w hw W hck h2 h3
    · rw [if_pos h2, place_two h2]
      exact fill_err2 n A l.length c s p w W hck (place_two h2)
  · rw [if_pos h1]
    exact fill_err1 n A l.length c s p w (checkP n l) W hck (bne_iff_ne.2 h1)
set_option maxHeartbeats 4000000 in
set_option maxRecDepth 100000 in
theorem inval_err1 (n : Int) (A : Option Addr) (m c : Nat) (s p e1 : Int) (W : World) (hck : ∀ W', Below W.heap.size W W' → Calls Try.prog 16 #[.agg #[.int .i64 n, .slice A m c]] W' fun e w' => e = .returned (.int .i64 e1) ∧ Below W'.heap.size W' w') (he : (e1 != 0) = true) :
    Calls Try.prog 24 #[.agg #[.int .i64 n, .slice A m c], .int .i64 s, .int .i64 p] W (LeftQ W (0, [], e1)) := by
  have hu3 := Try.underlying24
  go_enter Try.func24, Try.ntmps24
  go_wp2_with (first | (go_at_call 16; refine (hck _ (below_alloc (below_alloc (below_alloc (below_alloc (Below.refl _ _) _) _) _) _)).mono ?_; rintro e w1 ⟨rfl, b1⟩; have h0 := blk_below (new4_0 W (.cells #[.int .i64 n, .slice A m c] 24 (0, 0)) (.cells #[.int .i64 s] 3 (0, 0)) (.cells #[.int .i64 p] 3 (0, 0)) (.cells #[.int .i64 0, .slice none 0 0] 24 (0, 0))) b1; have h1 := blk_below (new4_1 W (.cells #[.int .i64 n, .slice A m c] 24 (0, 0)) (.cells #[.int .i64 s] 3 (0, 0)) (.cells #[.int .i64 p] 3 (0, 0)) (.cells #[.int .i64 0, .slice none 0 0] 24 (0, 0))) b1; have h2 := blk_below (new4_2 W (.cells #[.int .i64 n, .slice A m c] 24 (0, 0)) (.cells #[.int .i64 s] 3 (0, 0)) (.cells #[.int .i64 p] 3 (0, 0)) (.cells #[.int .i64 0, .slice none 0 0] 24 (0, 0))) b1; have h3 := blk_below (new4_3 W (.cells #[.int .i64 n, .slice A m c] 24 (0, 0)) (.cells #[.int .i64 s] 3 (0, 0)) (.cells #[.int .i64 p] 3 (0, 0)) (.cells #[.int .i64 0, .slice none 0 0] 24 (0, 0))) b1; have q0 := (blk_cell h0 0).trans rfl; have q1 := (blk_cell h0 1).trans rfl; have q2 := (blk_cell h1 0).trans rfl; have q3 := (blk_cell h2 0).trans rfl; have d1 := bthen b1 (below_alloc (below_alloc (below_alloc (below_alloc (Below.refl _ _) _) _) _) _) (le4 W _ _ _ _ )) | ((with_reducible refine gate_store (p := 6) rfl ?_); refine wpList_store_row rfl 24 _ _ rfl (W.heap.size + 3) #[.int .i64 0, .slice none 0 0] rfl rfl 24 _ h3 infoB rfl (twoB _ _ _ _) ?_))
  (try simp only [Exit.inBlock, Exit.then])
  refine bodyPost_ret (results_row_tmp rfl _ _ (W.heap.size + 3) 24 #[.int .i64 0, .slice none 0 0] (0, 0) _ rfl (setRow_same h3) hu3 rfl infoB) rfl ?_
  exact ⟨_, rfl, nilQ _ _, below_setRow' d1 (Nat.le_add_right _ _) _⟩
set_option maxHeartbeats 4000000 in
set_option maxRecDepth 100000 in
theorem inval_err2 (n : Int) (A : Option Addr) (m c : Nat) (s p : Int) (W : World) (hck : ∀ W', Below W.heap.size W W' → Calls Try.prog 16 #[.agg #[.int .i64 n, .slice A m c]] W' fun e w' => e = .returned (.int .i64 0) ∧ Below W'.heap.size W' w') (hp : placeP s p = 2) :
    Calls Try.prog 24 #[.agg #[.int .i64 n, .slice A m c], .int .i64 s, .int .i64 p] W (LeftQ W (0, [], 2)) := by
  have hu3 := Try.underlying24
  have hpl := place_calls s p
  rw [hp] at hpl
  clear hp
  go_enter Try.func24, Try.ntmps24
  go_wp2_with (first | (go_at_call 16; refine (hck _ (below_alloc (below_alloc (below_alloc (below_alloc (Below.refl _ _) _) _) _) _)).mono ?_; rintro e w1 ⟨rfl, b1⟩; have h0 := blk_below (new4_0 W (.cells #[.int .i64 n, .slice A m c] 24 (0, 0)) (.cells #[.int .i64 s] 3 (0, 0)) (.cells #[.int .i64 p] 3 (0, 0)) (.cells #[.int .i64 0, .slice none 0 0] 24 (0, 0))) b1; have h1 := blk_below (new4_1 W (.cells #[.int .i64 n, .slice A m c] 24 (0, 0)) (.cells #[.int .i64 s] 3 (0, 0)) (.cells #[.int .i64 p] 3 (0, 0)) (.cells #[.int .i64 0, .slice none 0 0] 24 (0, 0))) b1; have h2 := blk_below (new4_2 W (.cells #[.int .i64 n, .slice A m c] 24 (0, 0)) (.cells #[.int .i64 s] 3 (0, 0)) (.cells #[.int .i64 p] 3 (0, 0)) (.cells #[.int .i64 0, .slice none 0 0] 24 (0, 0))) b1; have h3 := blk_below (new4_3 W (.cells #[.int .i64 n, .slice A m c] 24 (0, 0)) (.cells #[.int .i64 s] 3 (0, 0)) (.cells #[.int .i64 p] 3 (0, 0)) (.cells #[.int .i64 0, .slice none 0 0] 24 (0, 0))) b1; have q0 := (blk_cell h0 0).trans rfl; have q1 := (blk_cell h0 1).trans rfl; have q2 := (blk_cell h1 0).trans rfl; have q3 := (blk_cell h2 0).trans rfl; have d1 := bthen b1 (below_alloc (below_alloc (below_alloc (below_alloc (Below.refl _ _) _) _) _) _) (le4 W _ _ _ _ )) | (go_at_call 30; refine (hpl _).mono ?_; rintro e w2 ⟨rfl, ⟨⟨nq, rfl⟩⟩⟩) | ((with_reducible refine gate_store (p := 6) rfl ?_); refine wpList_store_row rfl 24 _ _ rfl (W.heap.size + 3) #[.int .i64 0, .slice none 0 0] rfl rfl 24 _ h3 infoB rfl (twoB _ _ _ _) ?_))
  (try simp only [Exit.inBlock, Exit.then])
  refine bodyPost_ret (results_row_tmp rfl _ _ (W.heap.size + 3) 24 #[.int .i64 0, .slice none 0 0] (0, 0) _ rfl (setRow_same (blk_drewN h3 nq)) hu3 rfl infoB) rfl ?_
  exact ⟨_, rfl, nilQ _ _, below_setRow' (pw_below_drewN d1 nq) (Nat.le_add_right _ _) _⟩
set_option maxHeartbeats 4000000 in
set_option maxRecDepth 100000 in
theorem inval_main (n : Int) (A : Option Addr) (c : Nat) (l : List E) (hl : ∀ x ∈ l, okw x = true) (s p : Int) (W : World) (hC : Kd.C k42 W A l.length l) (hc : l.length ≤ c) (hck0 : checkP n l = 0) (hp : placeP s p = 0) :
    Calls Try.prog 24 #[.agg #[.int .i64 n, .slice A l.length c], .int .i64 s, .int .i64 p] W (LeftQ W (n, kept (fun y => coversP y s p) l, 0)) := by
  have hu3 := Try.underlying24
  have hpl := place_calls s p
  rw [hp] at hpl
  have hck := fun W' (h : Below W.heap.size W W') => check_calls n A c l hl W' (Kd.C_below hC h) hc
  rw [hck0] at hck
  have hm := check_len hck0
  have hwo := fun (Wc : World) (hs : Wc.heap[W.heap.size + 1]? = some (.cells #[.int .i64 s] 3 (0, 0))) (hp : Wc.heap[W.heap.size + 2]? = some (.cells #[.int .i64 p] 3 (0, 0))) (h : Below W.heap.size W Wc) => without_calls (fun y => coversP y s p) 45 #[.pointer (some ⟨W.heap.size + 1, 0, none⟩), .pointer (some ⟨W.heap.size + 2, 0, none⟩)] (enters _ _ _ Try.func45 (by kernel_rfl) rfl) Wc (inval1_pred (W.heap.size + 1) (W.heap.size + 2) s p Wc.heap.size Wc (blk_lt hs) (blk_lt hp) hs hp) n A c l hl (Kd.C_below hC h) (by omega)
  unfold kept
  generalize hq : l.length = m at *
  generalize l.filter (fun y => !(coversP y s p)) = r at *
  clear hp hck0 hC hl hc hm hq
  go_enter Try.func24, Try.ntmps24
  go_wp2_with (first | (go_at_call 16; refine (hck _ (below_alloc (below_alloc (below_alloc (below_alloc (Below.refl _ _) _) _) _) _)).mono ?_; rintro e w1 ⟨rfl, b1⟩; have h0 := blk_below (new4_0 W (.cells #[.int .i64 n, .slice A m c] 24 (0, 0)) (.cells #[.int .i64 s] 3 (0, 0)) (.cells #[.int .i64 p] 3 (0, 0)) (.cells #[.int .i64 0, .slice none 0 0] 24 (0, 0))) b1; have h1 := blk_below (new4_1 W (.cells #[.int .i64 n, .slice A m c] 24 (0, 0)) (.cells #[.int .i64 s] 3 (0, 0)) (.cells #[.int .i64 p] 3 (0, 0)) (.cells #[.int .i64 0, .slice none 0 0] 24 (0, 0))) b1; have h2 := blk_below (new4_2 W (.cells #[.int .i64 n, .slice A m c] 24 (0, 0)) (.cells #[.int .i64 s] 3 (0, 0)) (.cells #[.int .i64 p] 3 (0, 0)) (.cells #[.int .i64 0, .slice none 0 0] 24 (0, 0))) b1; have h3 := blk_below (new4_3 W (.cells #[.int .i64 n, .slice A m c] 24 (0, 0)) (.cells #[.int .i64 s] 3 (0, 0)) (.cells #[.int .i64 p] 3 (0, 0)) (.cells #[.int .i64 0, .slice none 0 0] 24 (0, 0))) b1; have q0 := (blk_cell h0 0).trans rfl; have q1 := (blk_cell h0 1).trans rfl; have q2 := (blk_cell h1 0).trans rfl; have q3 := (blk_cell h2 0).trans rfl; have d1 := bthen b1 (below_alloc (below_alloc (below_alloc (below_alloc (Below.refl _ _) _) _) _) _) (le4 W _ _ _ _ )) | (go_at_call 30; refine (hpl _).mono ?_; rintro e w2 ⟨rfl, ⟨⟨nq, rfl⟩⟩⟩) | (go_at_call 39; refine (hwo _ (blk_drewN h1 nq) (blk_drewN h2 nq) (pw_below_drewN d1 nq)).mono ?_; rintro e w4 ⟨A', c', rfl, hR, b4⟩; have hr4 := blk_below (blk_drewN h3 nq) b4) | ((with_reducible refine gate_store (p := 6) rfl ?_); refine wpList_store_row rfl 24 _ _ rfl (W.heap.size + 3) #[.int .i64 n, .slice A' r.length c'] rfl rfl 24 _ hr4 infoB rfl (twoB _ _ _ _) ?_))
  (try simp only [Exit.inBlock, Exit.then])
  refine bodyPost_ret (results_row_tmp rfl _ _ (W.heap.size + 3) 24 #[.int .i64 n, .slice A' r.length c'] (0, 0) _ rfl (setRow_same hr4) hu3 rfl infoB) rfl ?_
  have hR' := Kd.R_mono (Kd.R_lower hR (pw_below_drewN d1 nq).size) (fun k (hk : _ ≤ k) => Nat.le_trans (pw_below_drewN d1 nq).size hk)
  exact ⟨_, rfl, (Q_setRow (Kd.Q_of_R hR') hr4 _), below_setRow' (bthen b4 (pw_below_drewN d1 nq) (pw_below_drewN d1 nq).size) (Nat.le_add_right _ _) _⟩
theorem inval_calls (n : Int) (A : Option Addr) (c : Nat) (l : List E) (hl : ∀ x ∈ l, okw x = true) (s p : Int) (W : World) (hC : Kd.C k42 W A l.length l) (hc : l.length ≤ c) :
    Calls Try.prog 24 #[.agg #[.int .i64 n, .slice A l.length c], .int .i64 s, .int .i64 p] W (LeftQ W (invalP n l s p)) := by
  have hck := fun W' (h : Below W.heap.size W W') => check_calls n A c l hl W' (Kd.C_below hC h) hc
  unfold invalP
  by_cases h1 : checkP n l = 0
  · rw [if_neg (by simp [h1])]
    rw [h1] at hck
    by_cases h2 : placeP s p = 0
    · rw [if_neg (by simp [h2])]
      exact inval_main n A c l hl s p W hC hc h1 h2
    · rw [if_pos h2, place_two h2]
      exact inval_err2 n A l.length c s p W hck (place_two h2)
  · rw [if_pos h1]
    exact inval_err1 n A l.length c s p (checkP n l) W hck (bne_iff_ne.2 h1)

set_option maxHeartbeats 4000000 in
set_option maxRecDepth 100000 in
theorem flush_err1 (n : Int) (A : Option Addr) (m c : Nat) (s e1 : Int) (W : World) (hck : ∀ W', Below W.heap.size W W' → Calls Try.prog 16 #[.agg #[.int .i64 n, .slice A m c]] W' fun e w' => e = .returned (.int .i64 e1) ∧ Below W'.heap.size W' w') (he : (e1 != 0) = true) :
    Calls Try.prog 26 #[.agg #[.int .i64 n, .slice A m c], .int .i64 s] W (LeftQ W (0, [], e1)) := by
  have hu3 := Try.underlying24
  go_enter Try.func26, Try.ntmps26
  go_wp2_with (first | (go_at_call 16; refine (hck _ (below_alloc (below_alloc (below_alloc (Below.refl _ _) _) _) _)).mono ?_; rintro e w1 ⟨rfl, b1⟩; have h0 := blk_below (new3_0 W (.cells #[.int .i64 n, .slice A m c] 24 (0, 0)) (.cells #[.int .i64 s] 3 (0, 0)) (.cells #[.int .i64 0, .slice none 0 0] 24 (0, 0))) b1; have h1 := blk_below (new3_1 W (.cells #[.int .i64 n, .slice A m c] 24 (0, 0)) (.cells #[.int .i64 s] 3 (0, 0)) (.cells #[.int .i64 0, .slice none 0 0] 24 (0, 0))) b1; have h2 := blk_below (new3_2 W (.cells #[.int .i64 n, .slice A m c] 24 (0, 0)) (.cells #[.int .i64 s] 3 (0, 0)) (.cells #[.int .i64 0, .slice none 0 0] 24 (0, 0))) b1; have q0 := (blk_cell h0 0).trans rfl; have q1 := (blk_cell h0 1).trans rfl; have q2 := (blk_cell h1 0).trans rfl; have d1 := bthen b1 (below_alloc (below_alloc (below_alloc (Below.refl _ _) _) _) _) (le3 W _ _ _ )) | ((with_reducible refine gate_store (p := 4) rfl ?_); refine wpList_store_row rfl 24 _ _ rfl (W.heap.size + 2) #[.int .i64 0, .slice none 0 0] rfl rfl 24 _ h2 infoB rfl (twoB _ _ _ _) ?_))
  (try simp only [Exit.inBlock, Exit.then])
  refine bodyPost_ret (results_row_tmp rfl _ _ (W.heap.size + 2) 24 #[.int .i64 0, .slice none 0 0] (0, 0) _ rfl (setRow_same h2) hu3 rfl infoB) rfl ?_
  exact ⟨_, rfl, nilQ _ _, below_setRow' d1 (Nat.le_add_right _ _) _⟩
set_option maxHeartbeats 4000000 in
set_option maxRecDepth 100000 in
theorem flush_err2 (n : Int) (A : Option Addr) (m c : Nat) (s : Int) (W : World) (hck : ∀ W', Below W.heap.size W W' → Calls Try.prog 16 #[.agg #[.int .i64 n, .slice A m c]] W' fun e w' => e = .returned (.int .i64 0) ∧ Below W'.heap.size W' w') (hp : placeP s 0 = 2) :
    Calls Try.prog 26 #[.agg #[.int .i64 n, .slice A m c], .int .i64 s] W (LeftQ W (0, [], 2)) := by
  have hu3 := Try.underlying24
  have hpl := place_calls s 0
  rw [hp] at hpl
  clear hp
  go_enter Try.func26, Try.ntmps26
  go_wp2_with (first | (go_at_call 16; refine (hck _ (below_alloc (below_alloc (below_alloc (Below.refl _ _) _) _) _)).mono ?_; rintro e w1 ⟨rfl, b1⟩; have h0 := blk_below (new3_0 W (.cells #[.int .i64 n, .slice A m c] 24 (0, 0)) (.cells #[.int .i64 s] 3 (0, 0)) (.cells #[.int .i64 0, .slice none 0 0] 24 (0, 0))) b1; have h1 := blk_below (new3_1 W (.cells #[.int .i64 n, .slice A m c] 24 (0, 0)) (.cells #[.int .i64 s] 3 (0, 0)) (.cells #[.int .i64 0, .slice none 0 0] 24 (0, 0))) b1; have h2 := blk_below (new3_2 W (.cells #[.int .i64 n, .slice A m c] 24 (0, 0)) (.cells #[.int .i64 s] 3 (0, 0)) (.cells #[.int .i64 0, .slice none 0 0] 24 (0, 0))) b1; have q0 := (blk_cell h0 0).trans rfl; have q1 := (blk_cell h0 1).trans rfl; have q2 := (blk_cell h1 0).trans rfl; have d1 := bthen b1 (below_alloc (below_alloc (below_alloc (Below.refl _ _) _) _) _) (le3 W _ _ _ )) | (go_at_call 30; refine (hpl _).mono ?_; rintro e w2 ⟨rfl, ⟨⟨nq, rfl⟩⟩⟩) | ((with_reducible refine gate_store (p := 4) rfl ?_); refine wpList_store_row rfl 24 _ _ rfl (W.heap.size + 2) #[.int .i64 0, .slice none 0 0] rfl rfl 24 _ h2 infoB rfl (twoB _ _ _ _) ?_))
  (try simp only [Exit.inBlock, Exit.then])
  refine bodyPost_ret (results_row_tmp rfl _ _ (W.heap.size + 2) 24 #[.int .i64 0, .slice none 0 0] (0, 0) _ rfl (setRow_same (blk_drewN h2 nq)) hu3 rfl infoB) rfl ?_
  exact ⟨_, rfl, nilQ _ _, below_setRow' (pw_below_drewN d1 nq) (Nat.le_add_right _ _) _⟩
set_option maxHeartbeats 4000000 in
set_option maxRecDepth 100000 in
theorem flush_main (n : Int) (A : Option Addr) (c : Nat) (l : List E) (hl : ∀ x ∈ l, okw x = true) (s : Int) (W : World) (hC : Kd.C k42 W A l.length l) (hc : l.length ≤ c) (hck0 : checkP n l = 0) (hp : placeP s 0 = 0) :
    Calls Try.prog 26 #[.agg #[.int .i64 n, .slice A l.length c], .int .i64 s] W (LeftQ W (n, kept (fun y => y.f0 == s) l, 0)) := by
  have hu3 := Try.underlying24
  have hpl := place_calls s 0
  rw [hp] at hpl
  have hck := fun W' (h : Below W.heap.size W W') => check_calls n A c l hl W' (Kd.C_below hC h) hc
  rw [hck0] at hck
  have hm := check_len hck0
  have hwo := fun (Wc : World) (hs : Wc.heap[W.heap.size + 1]? = some (.cells #[.int .i64 s] 3 (0, 0))) (h : Below W.heap.size W Wc) => without_calls (fun y => y.f0 == s) 46 #[.pointer (some ⟨W.heap.size + 1, 0, none⟩)] (enters _ _ _ Try.func46 (by kernel_rfl) rfl) Wc (flush1_pred (W.heap.size + 1) s Wc.heap.size Wc (blk_lt hs) hs) n A c l hl (Kd.C_below hC h) (by omega)
  unfold kept
  generalize hq : l.length = m at *
  generalize l.filter (fun y => !(y.f0 == s)) = r at *
  clear hp hck0 hC hl hc hm hq
  go_enter Try.func26, Try.ntmps26
  go_wp2_with (first | (go_at_call 16; refine (hck _ (below_alloc (below_alloc (below_alloc (Below.refl _ _) _) _) _)).mono ?_; rintro e w1 ⟨rfl, b1⟩; have h0 := blk_below (new3_0 W (.cells #[.int .i64 n, .slice A m c] 24 (0, 0)) (.cells #[.int .i64 s] 3 (0, 0)) (.cells #[.int .i64 0, .slice none 0 0] 24 (0, 0))) b1; have h1 := blk_below (new3_1 W (.cells #[.int .i64 n, .slice A m c] 24 (0, 0)) (.cells #[.int .i64 s] 3 (0, 0)) (.cells #[.int .i64 0, .slice none 0 0] 24 (0, 0))) b1; have h2 := blk_below (new3_2 W (.cells #[.int .i64 n, .slice A m c] 24 (0, 0)) (.cells #[.int .i64 s] 3 (0, 0)) (.cells #[.int .i64 0, .slice none 0 0] 24 (0, 0))) b1; have q0 := (blk_cell h0 0).trans rfl; have q1 := (blk_cell h0 1).trans rfl; have q2 := (blk_cell h1 0).trans rfl; have d1 := bthen b1 (below_alloc (below_alloc (below_alloc (Below.refl _ _) _) _) _) (le3 W _ _ _ )) | (go_at_call 30; refine (hpl _).mono ?_; rintro e w2 ⟨rfl, ⟨⟨nq, rfl⟩⟩⟩) | (go_at_call 39; refine (hwo _ (blk_drewN h1 nq) (pw_below_drewN d1 nq)).mono ?_; rintro e w4 ⟨A', c', rfl, hR, b4⟩; have hr4 := blk_below (blk_drewN h2 nq) b4) | ((with_reducible refine gate_store (p := 4) rfl ?_); refine wpList_store_row rfl 24 _ _ rfl (W.heap.size + 2) #[.int .i64 n, .slice A' r.length c'] rfl rfl 24 _ hr4 infoB rfl (twoB _ _ _ _) ?_))
  (try simp only [Exit.inBlock, Exit.then])
  refine bodyPost_ret (results_row_tmp rfl _ _ (W.heap.size + 2) 24 #[.int .i64 n, .slice A' r.length c'] (0, 0) _ rfl (setRow_same hr4) hu3 rfl infoB) rfl ?_
  have hR' := Kd.R_mono (Kd.R_lower hR (pw_below_drewN d1 nq).size) (fun k (hk : _ ≤ k) => Nat.le_trans (pw_below_drewN d1 nq).size hk)
  exact ⟨_, rfl, (Q_setRow (Kd.Q_of_R hR') hr4 _), below_setRow' (bthen b4 (pw_below_drewN d1 nq) (pw_below_drewN d1 nq).size) (Nat.le_add_right _ _) _⟩
theorem flush_calls (n : Int) (A : Option Addr) (c : Nat) (l : List E) (hl : ∀ x ∈ l, okw x = true) (s : Int) (W : World) (hC : Kd.C k42 W A l.length l) (hc : l.length ≤ c) :
    Calls Try.prog 26 #[.agg #[.int .i64 n, .slice A l.length c], .int .i64 s] W (LeftQ W (flushP n l s)) := by
  have hck := fun W' (h : Below W.heap.size W W') => check_calls n A c l hl W' (Kd.C_below hC h) hc
  unfold flushP
  by_cases h1 : checkP n l = 0
  · rw [if_neg (by simp [h1])]
    rw [h1] at hck
    by_cases h2 : placeP s 0 = 0
    · rw [if_neg (by simp [h2])]
      exact flush_main n A c l hl s W hC hc h1 h2
    · rw [if_pos h2, place_two h2]
      exact flush_err2 n A l.length c s W hck (place_two h2)
  · rw [if_pos h1]
    exact flush_err1 n A l.length c s (checkP n l) W hck (bne_iff_ne.2 h1)
end Go.Proofs.Ytkbnhphcmlljgaa.OwnQ
