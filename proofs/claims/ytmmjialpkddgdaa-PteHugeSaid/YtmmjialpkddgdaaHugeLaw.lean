/- The law PteHuge, walked. -/
import Derived.Test.YtmmjialpkddgdaaJoinLaw
set_option linter.unusedVariables false
set_option linter.unusedSimpArgs false
namespace Go.Proofs.Ytmmjialpkddgdaa.HandJoin
open Go.RowKit Go.Proofs.Ytmmjialpkddgdaa.PteCalls Go.Proofs.YtmmjialpkddgdaaW.PrintWords Go.Proofs.YtmmjialpkddgdaaW.PrintLast Go.Proofs.Ytmmjialpkddgdaa.Pte

theorem ok_part {n : Int} {w a d : Bool} (g : ok 1 n w a d true) (k : Nat) (hk : k < 8) : ok 1 (n + (k : Int)) w a d false := by
  have hb := big_of _ _ _ g.2.2.1
  have h3 := hb.2.2 rfl rfl
  refine ⟨by decide, by decide, ?_, by simp [suits]⟩
  simp [big]
  omega
theorem part_ok {n : Int} {w a d : Bool} (g : ok 1 n w a d true) (k : Nat) (hk : k < 8) : partP (word 1 n w a d true) (k : Int) = (word 1 (n + (k : Int)) w a d false, 0) := by
  have hb := big_of _ _ _ g.2.2.1
  unfold partP
  rw [dec_word g]
  have e : wrap64 (n + (k : Int)) = n + (k : Int) := by unfold wrap64; omega
  rw [if_neg (by simp), if_neg (by simp), if_neg (by omega)]
  show enc 1 (wrap64 (n + (k : Int))) w a d false = _
  rw [e]
  exact enc_ok (ok_part g k hk)
theorem any_false {p : Nat → Bool} : ∀ (m i : Nat), (∀ j, i ≤ j → j < i + m → p j = false) → anyFrom p i m = false
  | 0, i, h => rfl
  | m + 1, i, h => by
    rw [anyFrom, h i (Nat.le_refl _) (by omega), any_false m (i + 1) (fun j h1 h2 => h j (by omega) (by omega))]
    rfl
theorem any_const {p : Nat → Bool} {b : Bool} (h : ∀ j, j < 8 → p j = b) : anyFrom p 0 8 = b := by
  cases b with
  | false => exact any_false 8 0 (fun j _ hj => h j (by omega))
  | true => exact any_hit p 0 7 (h 0 (by decide))
theorem err_zero {D : Nat → Dec} : ∀ (m i : Nat), (∀ j, i ≤ j → j < i + m → (D j).2.2.2.2.2.2 = 0) → errFrom D i m = 0
  | 0, i, h => rfl
  | m + 1, i, h => by
    rw [err_step D i m (h i (Nat.le_refl _) (by omega))]
    exact err_zero m (i + 1) (fun j h1 h2 => h j (by omega) (by omega))
/-- The parts of a huge page, joined. -/
theorem join_parts {n : Int} {w a d : Bool} (g : ok 1 n w a d true) (x : Nat → Int) (hx : ∀ j, j < 8 → x j = word 1 (n + (j : Int)) w a d false) : joinP (fun j => dec (x j)) = (word 1 n w a d true, 0) := by
  have hd : ∀ j, j < 8 → dec (x j) = (1, n + (j : Int), w, a, d, false, 0) := fun j hj => by rw [hx j hj]; exact dec_word (ok_part g j hj)
  have h0 := hd 0 (by decide)
  rw [join_ok (D := fun j => dec (x j)) (a := a) (d := d) (err_zero 8 0 (fun j _ hj => by show (dec (x j)).2.2.2.2.2.2 = 0; rw [hd j (by omega)]))
    (any_false 8 0 (fun j _ hj => by simp [badKind, hd j (by omega)]))
    (any_false 8 0 (fun j _ hj => by simp [badNumber, hd j (by omega), h0]))
    (any_false 8 0 (fun j _ hj => by simp [badWrite, hd j (by omega), h0]))
    (any_const (fun j hj => by rw [hd j hj])) (any_const (fun j hj => by rw [hd j hj]))]
  rw [h0]
  show enc 1 (n + ((0 : Nat) : Int)) w a d true = _
  rw [show n + ((0 : Nat) : Int) = n by simp]
  exact enc_ok g

set_option maxHeartbeats 2000000 in
theorem huge_not (x : Int) (h0 : 0 ≤ x) (h1 : x < 18446744073709551616) (W : World) (hn : ¬ ∃ n w a d, ok 1 n w a d true ∧ x = word 1 n w a d true) : Calls Try.prog 11 #[.int .u64 x] W fun e W' => e = .returned (.bool true) ∧ Below W.heap.size W W' := by
  have hd := decode_calls x h0 h1
  rcases dec_cases x with ⟨kd, n, w, a, d, h, g, hx, e⟩ | e
  · have hp := Lib.hid (dec_form hd e)
    clear hd e
    by_cases hk : kd = 1
    · subst hk
      cases h with
      | true => exact absurd ⟨n, w, a, d, g, hx⟩ hn
      | false =>
        clear hn g hx
        go_enter Try.func11, Try.ntmps11
        go_wp2_with (first | (go_at_call 15; refine (hp.out _).mono ?_; rintro e w1 ⟨rfl, b1⟩; have B1 := Lib.hid b1; clear b1) | (go_at_call 14; refine (awake_calls _).mono ?_; rintro e w4 ⟨rfl, b4⟩; have B4 := Lib.hid b4; clear b4))
        go_ret
        exact ⟨rfl, bth B4.out (below_alloc B1.out _)⟩
    · have hk1 : (kd != 1) = true := bne_iff_ne.2 hk
      clear hn g hx hk
      go_enter Try.func11, Try.ntmps11
      go_wp2_with (first | (go_at_call 15; refine (hp.out _).mono ?_; rintro e w1 ⟨rfl, b1⟩; have B1 := Lib.hid b1; clear b1) | (go_at_call 14; refine (awake_calls _).mono ?_; rintro e w4 ⟨rfl, b4⟩; have B4 := Lib.hid b4; clear b4))
      go_ret
      exact ⟨rfl, bth B4.out (below_alloc B1.out _)⟩
  · have hp := Lib.hid (dec_form hd e)
    clear hd e hn
    go_enter Try.func11, Try.ntmps11
    go_wp2_with (first | (go_at_call 15; refine (hp.out _).mono ?_; rintro e w1 ⟨rfl, b1⟩; have B1 := Lib.hid b1; clear b1) | (go_at_call 14; refine (awake_calls _).mono ?_; rintro e w4 ⟨rfl, b4⟩; have B4 := Lib.hid b4; clear b4))
    go_ret
    exact ⟨rfl, bth B4.out (below_alloc B1.out _)⟩
theorem xx_set (p : Nat → Int) (k : Nat) (h : k < 8) : (XX (fun j => if j < k then p j else 0)).setIfInBounds k (.int .u64 (p k)) = XX (fun j => if j < k + 1 then p j else 0) := by
  rcases k8 h with rfl | rfl | rfl | rfl | rfl | rfl | rfl | rfl <;> simp [XX]

set_option maxHeartbeats 4000000 in
set_option maxRecDepth 100000 in
theorem huge_yes (n : Int) (w a d : Bool) (g : ok 1 n w a d true) (W : World) : Calls Try.prog 11 #[.int .u64 (word 1 n w a d true)] W fun e W' => e = .returned (.bool true) ∧ Below W.heap.size W W' := by
  have hu := Try.underlying23
  have hu3 := Try.underlying39
  have hb := big_of _ _ _ g.2.2.1
  have hn3 := hb.2.2 rfl rfl
  have hn0 := hb.1
  have hr := ok_range g
  have HD := Lib.hid (dec_form (decode_calls _ hr.1 (by omega)) (dec_word g))
  have HP : Hid (∀ (k : Nat), k < 8 → ∀ W, Calls Try.prog 17 #[.int .u64 (word 1 n w a d true), .int .i64 k] W fun e W' => e = .returned (.tuple #[.int .u64 (word 1 (n + (k : Int)) w a d false), .int .i64 0]) ∧ Below W.heap.size W W') := Lib.hid (fun k hk W => by
    have h := part_calls (word 1 n w a d true) (k : Int) hr.1 (by omega) W
    rw [part_ok g k hk] at h
    exact h)
  have HQ := Lib.hid (fun (k : Nat) (hk : k < 8) => dec_form (decode_calls _ (ok_range (ok_part g k hk)).1 (by have := (ok_range (ok_part g k hk)).2; omega)) (dec_word (ok_part g k hk)))
  have HJ : Hid (∀ W, Calls Try.prog 25 #[.agg (XX (fun j => if j < 8 then word 1 (n + (j : Int)) w a d false else 0))] W fun e W' => e = .returned (.tuple #[.int .u64 (word 1 n w a d true), .int .i64 0]) ∧ Below W.heap.size W W') := Lib.hid (fun W => by
    have h := join_calls (fun j => if j < 8 then word 1 (n + (j : Int)) w a d false else 0) (fun j => by
      show 0 ≤ (if j < 8 then word 1 (n + (j : Int)) w a d false else 0) ∧ (if j < 8 then word 1 (n + (j : Int)) w a d false else 0) < _
      by_cases hj : j < 8
      · rw [if_pos hj]; have := ok_range (ok_part g j hj); omega
      · rw [if_neg hj]; decide) W
    rw [join_parts g _ (fun j hj => if_pos hj)] at h
    exact h)
  have infoX : (Try.prog.info? 39).map (·.size) = some 8 := by kernel_rfl
  have HI := Lib.hid infoX
  clear infoX hr hb g
  obtain ⟨x, hx⟩ : ∃ x, x = word 1 n w a d true := ⟨_, rfl⟩
  rw [← hx] at HD HP HJ ⊢
  clear hx
  obtain ⟨pw, hpw⟩ : ∃ pw : Nat → Int, pw = fun k : Nat => word 1 (n + (k : Int)) w a d false := ⟨_, rfl⟩
  have HP' : Hid (∀ (k : Nat), k < 8 → ∀ W, Calls Try.prog 17 #[.int .u64 x, .int .i64 k] W fun e W' => e = .returned (.tuple #[.int .u64 (pw k), .int .i64 0]) ∧ Below W.heap.size W W') := Lib.hid (by rw [hpw]; exact HP.out)
  have HQ' : Hid (∀ (k : Nat), k < 8 → ∀ W, Calls Try.prog 15 #[.int .u64 (pw k)] W fun e W' => e = .returned (.tuple #[.agg #[.int .i64 1, .int .i64 (n + (k : Int)), .bool w, .bool a, .bool d, .bool false], .int .i64 0]) ∧ Below W.heap.size W W') := Lib.hid (by rw [hpw]; exact HQ.out)
  have HJ' : Hid (∀ W, Calls Try.prog 25 #[.agg (XX (fun j => if j < 8 then pw j else 0))] W fun e W' => e = .returned (.tuple #[.int .u64 x, .int .i64 0]) ∧ Below W.heap.size W W') := Lib.hid (by rw [hpw]; exact HJ.out)
  clear HP HQ HJ hpw
  go_enter Try.func11, Try.ntmps11
  go_upto_region 4 with (go_at_call 15; refine (HD.out _).mono ?_; rintro e w1 ⟨rfl, b1⟩)
  have B3 := blk_new w1 (.cells #[.int .i64 1, .int .i64 n, .bool w, .bool a, .bool d, .bool true] 23 (0, 0))
  have D1 := below_alloc b1 (.cells #[.int .i64 1, .int .i64 n, .bool w, .bool a, .bool d, .bool true] 23 (0, 0))
  refine absw (fun w' => w'.heap[w1.heap.size]? = some (.cells #[.int .i64 1, .int .i64 n, .bool w, .bool a, .bool d, .bool true] 23 (0, 0)) ∧ Below W.heap.size W w') ⟨B3, D1⟩ ?_
  have L3 := Lib.hid b1.size
  clear B3 D1
  generalize w1.heap.size = g3 at *
  clear b1
  rintro w2 ⟨b3, d2⟩
  have ZX : (XX (fun j => if j < 0 then pw j else 0)) = #[.int .u64 0, .int .u64 0, .int .u64 0, .int .u64 0, .int .u64 0, .int .u64 0, .int .u64 0, .int .u64 0] := rfl
  go_upto_region 5 with fail
  have B3 := blk_alloc b3 (.cells (XX (fun j => if j < 0 then pw j else 0)) 39 (0, 0))
  have B5 := blk_new w2 (.cells (XX (fun j => if j < 0 then pw j else 0)) 39 (0, 0))
  have D2 := below_alloc d2 (.cells (XX (fun j => if j < 0 then pw j else 0)) 39 (0, 0))
  refine absw (fun w' => w'.heap[g3]? = some (.cells #[.int .i64 1, .int .i64 n, .bool w, .bool a, .bool d, .bool true] 23 (0, 0)) ∧ w'.heap[w2.heap.size]? = some (.cells (XX (fun j => if j < 0 then pw j else 0)) 39 (0, 0)) ∧ Below W.heap.size W w') ⟨B3, B5, D2⟩ ?_
  have L5 := Lib.hid d2.size
  have N35 : ¬ g3 = w2.heap.size := Nat.ne_of_lt (blk_lt b3)
  have N53 : ¬ w2.heap.size = g3 := fun h => N35 h.symm
  clear B3 B5 D2 b3 d2 ZX
  generalize w2.heap.size = g5 at *
  rintro w3 ⟨b3, b5, d3⟩
  have H3 := Lib.hid b3
  have H5 := Lib.hid b5
  have D3 := Lib.hid d3
  clear b3 b5 d3
  go_wp2_with fail

  go_loopg [31] 8 (fun gg s31 wr => ∃ kk : Nat, kk ≤ 8 ∧ 8 - kk ≤ gg ∧ s31 = .int .i64 kk ∧ Hid (wr.heap[g3]? = some (.cells #[.int .i64 1, .int .i64 n, .bool w, .bool a, .bool d, .bool true] 23 (0, 0))) ∧ Hid (wr.heap[g5]? = some (.cells (XX (fun j => if j < kk then pw j else 0)) 39 (0, 0))) ∧ Hid (Below W.heap.size W wr))
  case atStart => exact ⟨0, by decide, by decide, rfl, H3, H5, D3⟩
  case round =>
    clear H3 H5 D3
    obtain ⟨kk, hk, hg, hs, H3, H5, BW⟩ := hrel
    subst hs
    by_cases hlt : kk < 8
    · have hk0 : (0 : Int) ≤ (kk : Int) := Int.natCast_nonneg _
      have hk1 : (kk : Int) < 8 := by omega
      have HC17 := Lib.hid (HP'.out kk hlt)
      have HC15 := Lib.hid (HQ'.out kk hlt)
      have HXS := Lib.hid (xx_set pw kk hlt)
      have HLT := Lib.hid hlt
      have HG := Lib.hid hg
      generalize pw kk = y at *
      clear hlt hg hk
      go_upto_region 10 with (first | (go_at_call 17; refine (HC17.out _).mono ?_; rintro e w4 ⟨rfl, b4⟩; have I3 := Lib.hid (blk_below H3.out b4); have I5 := Lib.hid (blk_below H5.out b4); have I0 := Lib.hid (bth b4 BW.out); clear b4) | (go_at_call 15; refine (HC15.out _).mono ?_; rintro e w5 ⟨rfl, b5⟩; have J3 := Lib.hid (blk_below I3.out b5); have J5 := Lib.hid (blk_below I5.out b5); have J0 := Lib.hid (bth b5 I0.out); clear b5))
      have B9 := blk_new w5 (.cells #[.int .i64 1, .int .i64 (n + (kk : Int)), .bool w, .bool a, .bool d, .bool false] 23 (0, 0))
      refine absw (fun w' => w'.heap[g3]? = some (.cells #[.int .i64 1, .int .i64 n, .bool w, .bool a, .bool d, .bool true] 23 (0, 0)) ∧ w'.heap[g5]? = some (.cells (XX (fun j => if j < kk then pw j else 0)) 39 (0, 0)) ∧ w'.heap[w5.heap.size]? = some (.cells #[.int .i64 1, .int .i64 (n + (kk : Int)), .bool w, .bool a, .bool d, .bool false] 23 (0, 0)) ∧ Below W.heap.size W w') ⟨blk_alloc J3.out _, blk_alloc J5.out _, B9, below_alloc J0.out _⟩ ?_
      have N39 : ¬ g3 = w5.heap.size := Nat.ne_of_lt (blk_lt J3.out)
      have N59 : ¬ g5 = w5.heap.size := Nat.ne_of_lt (blk_lt J5.out)
      clear B9 J3 J5 J0 I3 I5 I0 H3 H5 BW
      generalize w5.heap.size = g9 at *
      rintro w6 ⟨b3, b5, b9, d6⟩
      have H3 := Lib.hid b3
      have H5 := Lib.hid b5
      have H9 := Lib.hid b9
      have D6 := Lib.hid d6
      clear b3 b5 b9 d6

      go_upto_region 11 with ((with_reducible refine gate_load (p := 3) rfl ?_); refine wpList_load_row rfl 23 _ rfl g3 rfl 23 _ (0, 0) _ H3.out hu rfl infoE ?_)
      have B11 := blk_new w6 (.cells #[.int .i64 1, .int .i64 n, .bool w, .bool a, .bool d, .bool true] 23 (0, 0))
      refine absw (fun w' => w'.heap[g3]? = some (.cells #[.int .i64 1, .int .i64 n, .bool w, .bool a, .bool d, .bool true] 23 (0, 0)) ∧ w'.heap[g5]? = some (.cells (XX (fun j => if j < kk then pw j else 0)) 39 (0, 0)) ∧ w'.heap[g9]? = some (.cells #[.int .i64 1, .int .i64 (n + (kk : Int)), .bool w, .bool a, .bool d, .bool false] 23 (0, 0)) ∧ w'.heap[w6.heap.size]? = some (.cells #[.int .i64 1, .int .i64 n, .bool w, .bool a, .bool d, .bool true] 23 (0, 0)) ∧ Below W.heap.size W w') ⟨blk_alloc H3.out _, blk_alloc H5.out _, blk_alloc H9.out _, B11, below_alloc D6.out _⟩ ?_
      have N3b : ¬ g3 = w6.heap.size := Nat.ne_of_lt (blk_lt H3.out)
      have N5b : ¬ g5 = w6.heap.size := Nat.ne_of_lt (blk_lt H5.out)
      have N9b : ¬ g9 = w6.heap.size := Nat.ne_of_lt (blk_lt H9.out)
      have Lb := Lib.hid D6.out.size
      clear B11 H3 H5 H9 D6
      generalize w6.heap.size = g11 at *
      rintro w7 ⟨b3, b5, b9, b11, d7⟩
      have H3 := Lib.hid (blk_far (p := ⟨g11, 1, none⟩) (blk_far (p := ⟨g11, 5, none⟩) b3 N3b (.bool false)) N3b (.int .i64 (n + (kk : Int))))
      have H5 := Lib.hid (blk_far (p := ⟨g11, 1, none⟩) (blk_far (p := ⟨g11, 5, none⟩) b5 N5b (.bool false)) N5b (.int .i64 (n + (kk : Int))))
      have H9 := Lib.hid (blk_far (p := ⟨g11, 1, none⟩) (blk_far (p := ⟨g11, 5, none⟩) b9 N9b (.bool false)) N9b (.int .i64 (n + (kk : Int))))
      have H11 := Lib.hid (blk_set (blk_set b11 5 (.bool false)) 1 (.int .i64 (n + (kk : Int))))
      have D7 := Lib.hid ((d7.setCell (p := ⟨g11, 5, none⟩) Lb.out (.bool false)).setCell (p := ⟨g11, 1, none⟩) Lb.out (.int .i64 (n + (kk : Int))))
      have c1 : w7.cell? ⟨g11, 1, none⟩ = some (.int .i64 n) := (blk_cell b11 1).trans rfl
      have c5 : w7.cell? ⟨g11, 5, none⟩ = some (.bool true) := (blk_cell b11 5).trans rfl
      have f1 : w7.frozen? ⟨g11, 1, none⟩ = false := blk_frozen b11 1
      have f5 : w7.frozen? ⟨g11, 5, none⟩ = false := blk_frozen b11 5
      clear b3 b5 b9 b11 d7

      go_upto_region 13 with fail
      refine absw (fun w' => w'.heap[g3]? = some (.cells #[.int .i64 1, .int .i64 n, .bool w, .bool a, .bool d, .bool true] 23 (0, 0)) ∧ w'.heap[g5]? = some (.cells (XX (fun j => if j < kk then pw j else 0)) 39 (0, 0)) ∧ w'.heap[g9]? = some (.cells #[.int .i64 1, .int .i64 (n + (kk : Int)), .bool w, .bool a, .bool d, .bool false] 23 (0, 0)) ∧ w'.heap[g11]? = some (.cells #[.int .i64 1, .int .i64 (n + (kk : Int)), .bool w, .bool a, .bool d, .bool false] 23 (0, 0)) ∧ Below W.heap.size W w') ⟨H3.out, H5.out, H9.out, H11.out, D7.out⟩ ?_
      clear H3 H5 H9 H11 D7 c1 c5 f1 f5
      rintro w8 ⟨b3, b5, b9, b11, d8⟩
      have H3 := Lib.hid b3
      have H5 := Lib.hid b5
      have D8 := Lib.hid d8
      have p0 := (blk_cell b9 0).trans rfl
      have p1 := (blk_cell b9 1).trans rfl
      have p2 := (blk_cell b9 2).trans rfl
      have p3 := (blk_cell b9 3).trans rfl
      have p4 := (blk_cell b9 4).trans rfl
      have p5 := (blk_cell b9 5).trans rfl
      have q0 := (blk_cell b11 0).trans rfl
      have q1 := (blk_cell b11 1).trans rfl
      have q2 := (blk_cell b11 2).trans rfl
      have q3 := (blk_cell b11 3).trans rfl
      have q4 := (blk_cell b11 4).trans rfl
      have q5 := (blk_cell b11 5).trans rfl
      clear b3 b9 b11 d8
      have zc : w8.cell? ⟨g5, kk, none⟩ = some (.int .u64 ((fun j => if j < kk then pw j else 0) kk)) := (blk_cell b5 kk).trans (xx_at _ kk HLT.out)
      simp only [Nat.lt_irrefl, if_false] at zc
      have zf : w8.frozen? ⟨g5, kk, none⟩ = false := blk_frozen b5 kk
      clear b5

      go_upto_region 15 with fail
      clear p0 p1 p2 p3 p4 p5 q0 q1 q2 q3 q4 q5

      go_wp2_with fail
      go_roundg (8 - (kk + 1))
      case measure => have := HLT.out; have := HG.out; omega
      case rel => exact ⟨kk + 1, HLT.out, Nat.le_refl _, by go_num, Lib.hid (blk_far (p := ⟨g5, kk, none⟩) H3.out N35 _), Lib.hid (HXS.out ▸ blk_set H5.out kk _), Lib.hid (D8.out.setCell (p := ⟨g5, kk, none⟩) L5.out _)⟩
    · have e8 : kk = 8 := by omega
      subst e8
      clear hk hg hlt

      go_upto_region 18 with (first | ((with_reducible refine gate_load (p := 5) rfl ?_); refine wpList_load_row rfl 39 _ rfl g5 rfl 39 _ (0, 0) _ H5.out hu3 rfl HI.out ?_) | (go_at_call 25; refine (HJ'.out _).mono ?_; rintro e w9 ⟨rfl, b9⟩; have D9 := Lib.hid (bth b9 BW.out); clear b9))

      go_wp2_with (go_at_call 14; refine (awake_calls _).mono ?_; rintro e w4 ⟨rfl, b4⟩; have D10 := Lib.hid (bth b4 D9.out); clear b4)
      go_ret
      exact ⟨rfl, D10.out⟩
theorem huge_law (x : Int) (h0 : 0 ≤ x) (h1 : x < 18446744073709551616) (W : World) : Calls Try.prog 11 #[.int .u64 x] W fun e W' => e = .returned (.bool true) ∧ Below W.heap.size W W' := by
  by_cases h : ∃ n w a d, ok 1 n w a d true ∧ x = word 1 n w a d true
  · obtain ⟨n, w, a, d, g, rfl⟩ := h
    exact huge_yes n w a d g W
  · exact huge_not x h0 h1 W h
end Go.Proofs.Ytmmjialpkddgdaa.HandJoin
