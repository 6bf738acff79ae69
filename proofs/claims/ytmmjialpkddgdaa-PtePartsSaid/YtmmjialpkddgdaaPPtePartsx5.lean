-- PRINTED BY print.sh 35421559b90ae4d0a3588c463048766b98c2df88dd9212a6774a882060cdf62d: not written by this session
import Derived.Test.YtmmjialpkddgdaaPPtePartsx0
import Derived.Test.YtmmjialpkddgdaaPPtePartsx3
import Derived.Test.YtmmjialpkddgdaaPPtePartsx4
namespace Go.Proofs.Ytmmjialpkddgdaa.PPteParts
open Go.RowKit Go.Proofs.YtmmjialpkddgdaaW.PrintWords Go.Proofs.YtmmjialpkddgdaaW.PrintLast Go.Proofs.YtmmjialpkddgdaaW.PrintMore
attribute [local go_sem] max2_int min2_int max_two min_two max_three min_three max_four min_four   -- for this text's walks alone
set_option linter.unusedVariables false
set_option linter.unusedSimpArgs false

/-! ### estoversref05_Part: function 18 -/
def estoversref05_Part.j0 : Nat → Int → Bool → Int → Int → Bool → Bool → Bool → Bool → Option (Int × Int)
  | 0, _, _, _, _, _, _, _, _ => none
  | k + 1, x1, x23, x190000, x190001, x190002, x190003, x190004, x190005 => if x23 = true then (some (0, 11)) else (if x1 < 0 then (some (0, 2)) else (if x1 ≥ 8 then (some (0, 2)) else ((estoversref05_Encode.f k x190000 (wrap64 (x190001 + x1)) x190002 x190003 x190004 false).bind fun bt190 => (some (bt190.1, bt190.2)))))
def estoversref05_Part.f (k : Nat) (a0 : Int) (a1 : Int) : Option (Int × Int) := (estoversref05_Decode.f k a0).bind fun bt182 => (if bt182.2.2.2.2.2.2 = 0 then (if bt182.1 = 1 then (estoversref05_Part.j0 k a1 (!bt182.2.2.2.2.2.1) bt182.1 bt182.2.1 bt182.2.2.1 bt182.2.2.2.1 bt182.2.2.2.2.1 bt182.2.2.2.2.2.1) else (estoversref05_Part.j0 k a1 true bt182.1 bt182.2.1 bt182.2.2.1 bt182.2.2.2.1 bt182.2.2.2.2.1 bt182.2.2.2.2.2.1)) else (some (0, bt182.2.2.2.2.2.2)))
theorem estoversref05_Part.mono_l : ∀ k, (∀ y0 y1 y2 y3 y4 y5 y6 y7, LeO (estoversref05_Part.j0 k y0 y1 y2 y3 y4 y5 y6 y7) (estoversref05_Part.j0 (k + 1) y0 y1 y2 y3 y4 y5 y6 y7))
  | 0 => fun _ _ _ _ _ _ _ _ r h => by simp [estoversref05_Part.j0] at h
  | k + 1 => by
    have ih0 := estoversref05_Part.mono_l k
    · intro y0 y1 y2 y3 y4 y5 y6 y7
      unfold estoversref05_Part.j0
      repeat' first
      | (with_reducible exact ih0 _ _ _ _ _ _ _ _)
      | (with_reducible exact estoversref05_Decode.mono _ _)
      | (with_reducible exact estoversref05_Encode.mono _ _ _ _ _ _ _)
      | (with_reducible exact LeO.refl _)
      | (with_reducible exact LeO.none _)
      | (with_reducible refine LeO.ite ?_ ?_)
      | (with_reducible refine LeO.bind ?_ (fun _ => ?_))
      | exact ih0 _ _ _ _ _ _ _ _
      | exact estoversref05_Decode.mono _ _
      | exact estoversref05_Encode.mono _ _ _ _ _ _ _
      | exact LeO.none _
      | refine LeO.ite ?_ ?_
      | refine LeO.bind ?_ (fun _ => ?_)
theorem estoversref05_Part.mono : ∀ a0 a1 k, LeO (estoversref05_Part.f k a0 a1) (estoversref05_Part.f (k + 1) a0 a1) := by
  intro a0 a1 k
  have ih0 := estoversref05_Part.mono_l k
  unfold estoversref05_Part.f
  repeat' first
      | (with_reducible exact ih0 _ _ _ _ _ _ _ _)
      | (with_reducible exact estoversref05_Decode.mono _ _)
      | (with_reducible exact estoversref05_Encode.mono _ _ _ _ _ _ _)
      | (with_reducible exact LeO.refl _)
      | (with_reducible exact LeO.none _)
      | (with_reducible refine LeO.ite ?_ ?_)
      | (with_reducible refine LeO.bind ?_ (fun _ => ?_))
      | exact ih0 _ _ _ _ _ _ _ _
      | exact estoversref05_Decode.mono _ _
      | exact estoversref05_Encode.mono _ _ _ _ _ _ _
      | exact LeO.none _
      | refine LeO.ite ?_ ?_
      | refine LeO.bind ?_ (fun _ => ?_)
set_option maxHeartbeats 8000000 in
set_option maxRecDepth 100000 in
theorem estoversref05_Part.calls (k : Nat) (a0 : Int) (a1 : Int) (r1 : Int) (r2 : Int) (w : World) (h : estoversref05_Part.f k a0 a1 = some (r1, r2)) :
    Calls Try.prog 18 #[.int .u64 a0, .int .i64 a1] w fun e w' => e = .returned (.tuple #[.int .u64 r1, .int .i64 r2]) ∧ Below w.heap.size w w' := by
  have hu23 := Try.underlying23
  have HB := Aside0.mk (Below.refl w.heap.size w)
  have H : ((estoversref05_Decode.f k a0).bind fun bt182 => (if bt182.2.2.2.2.2.2 = 0 then (if bt182.1 = 1 then (estoversref05_Part.j0 k a1 (!bt182.2.2.2.2.2.1) bt182.1 bt182.2.1 bt182.2.2.1 bt182.2.2.2.1 bt182.2.2.2.2.1 bt182.2.2.2.2.2.1) else (estoversref05_Part.j0 k a1 true bt182.1 bt182.2.1 bt182.2.2.1 bt182.2.2.2.1 bt182.2.2.2.2.1 bt182.2.2.2.2.2.1)) else (some (0, bt182.2.2.2.2.2.2)))) = some (r1, r2) := h
  clear h
  replace H := Option.bind_eq_some_iff.mp H
  obtain ⟨⟨t182, t183, t184, t185, t186, t187, t188⟩, A30, H⟩ := H
  replace H : (if t188 = 0 then (if t182 = 1 then (estoversref05_Part.j0 k a1 (!t187) t182 t183 t184 t185 t186 t187) else (estoversref05_Part.j0 k a1 true t182 t183 t184 t185 t186 t187)) else (some (0, t188))) = some (r1, r2) := H
  have A3 := Aside0.mk A30
  clear A30
  by_cases c4 : t188 = 0
  · rw [if_pos c4] at H
    have c4b0 : (t188 == 0) = true := beq_iff_eq.mpr c4
    have c4b1 : (t188 != 0) = false := bne_eq_false_iff_eq.mpr c4
    clear c4
    have HC5 := Aside0.mk H
    clear H
    go_enter Try.func18, Try.ntmps18
    go_upto_region 4 with (first | ((with_reducible refine gate_callee (f := 16) rfl ?_); refine goesL_ (some 10) rfl rfl Try.func16 (by kernel_rfl) rfl #[.int .u64 a0] rfl (by (try simp only [List.map_toArray, List.map_cons, List.map_nil]); first | done | rfl | (simp only [List.length_drop, List.length_take]; rfl)) ?_; (with_reducible refine (estoversref05_Decode.calls k a0 t182 t183 t184 t185 t186 t187 t188 _ A3.out).mono ?_); rintro e w6 ⟨rfl, hb⟩; refine ⟨_, rfl, ?_⟩; have n0_ := Aside0.mk (below_step (by repeat (first | (with_reducible first | exact HB.out | apply below_alloc | apply pw_below_drewN | apply below_drew1) | exact HB.out)) hb); clear HB; have HB := n0_; clear n0_; (try clear hb); (try clear hb2); (try clear hk); (try clear hi)) | ((with_reducible refine gate_dst (N := 6) rfl ?_); refine box_event ?hg (N := 6) ?hd (cs := #[.int .i64 0, .int .i64 0, .bool false, .bool false, .bool false, .bool false]) (t := 23) ?hr ?_; (case hd => rfl); (case hg => rfl); (case hr => first | (go_simp; done) | (go_simp; rfl)); intro gb189 hg w7 hbox hb; have n0_ := Aside0.mk (below_step (by repeat (first | (with_reducible first | exact HB.out | apply below_alloc | apply pw_below_drewN | apply below_drew1) | exact HB.out)) hb); have n1_ := Aside0.mk (hbox); have n2_ := Aside0.mk ((by rw [hg]; exact (below_size (by repeat (first | (with_reducible first | exact HB.out | apply below_alloc | apply pw_below_drewN | apply below_drew1) | exact HB.out))) : w.heap.size ≤ gb189)); have n3_ := Aside0.mk ((by rw [hg]; exact (below_size (by repeat (first | (with_reducible first | exact HB.out | apply below_alloc | apply pw_below_drewN | apply below_drew1) | exact HB.out))) : w.heap.size ≤ gb189)); clear HB; have HB := n0_; have BK189 := n1_; have GW189 := n2_; have GE189 := n3_; clear n0_ n1_ n2_ n3_; clear hb hbox hg; have hcz8_0 : w7.cell? ⟨gb189, 0, none⟩ = some (.int .i64 0) := (blk_cell BK189.out 0).trans rfl; have hcz8_1 : w7.cell? ⟨gb189, 1, none⟩ = some (.int .i64 0) := (blk_cell BK189.out 1).trans rfl; have hcz8_2 : w7.cell? ⟨gb189, 2, none⟩ = some (.bool false) := (blk_cell BK189.out 2).trans rfl; have hcz8_3 : w7.cell? ⟨gb189, 3, none⟩ = some (.bool false) := (blk_cell BK189.out 3).trans rfl; have hcz8_4 : w7.cell? ⟨gb189, 4, none⟩ = some (.bool false) := (blk_cell BK189.out 4).trans rfl; have hcz8_5 : w7.cell? ⟨gb189, 5, none⟩ = some (.bool false) := (blk_cell BK189.out 5).trans rfl; have hfz8_0 := blk_frozen BK189.out 0; have hfz8_1 := blk_frozen BK189.out 1; have hfz8_2 := blk_frozen BK189.out 2; have hfz8_3 := blk_frozen BK189.out 3; have hfz8_4 := blk_frozen BK189.out 4; have hfz8_5 := blk_frozen BK189.out 5))
    (try simp only [Act.put, List.setIfInBounds_toArray, List.set_cons_zero, List.set_cons_succ])
    go_cut [23] (fun v23 wc => ∃ (kq : Nat) (x23_4 : Bool), v23 = .bool x23_4 ∧ Aside0 (estoversref05_Part.j0 kq a1 x23_4 t182 t183 t184 t185 t186 t187 = some (r1, r2)) ∧ Aside0 (kq ≤ k) ∧ Aside0 (wc.heap[gb189]? = some (.cells #[.int .i64 t182, .int .i64 t183, .bool t184, .bool t185, .bool t186, .bool t187] 23 (0, 0))) ∧ Aside0 (Below w.heap.size w wc))
    case first =>
      have H := HC5.out
      clear HC5
      by_cases c9 : t182 = 1
      · rw [if_pos c9] at H
        have c9b0 : (t182 == 1) = true := beq_iff_eq.mpr c9
        have c9b1 : (t182 != 1) = false := bne_eq_false_iff_eq.mpr c9
        clear c9
        (first | rw [c9b0] | (simp only [i64_w, i32_w]; rw [c9b0]) | skip)
        have H' := Aside0.mk H
        clear H
        have hcz10_0 : w7.cell? ⟨gb189, 0, none⟩ = some (.int .i64 0) := (blk_cell BK189.out 0).trans rfl
        have hcz10_1 : w7.cell? ⟨gb189, 1, none⟩ = some (.int .i64 0) := (blk_cell BK189.out 1).trans rfl
        have hcz10_2 : w7.cell? ⟨gb189, 2, none⟩ = some (.bool false) := (blk_cell BK189.out 2).trans rfl
        have hcz10_3 : w7.cell? ⟨gb189, 3, none⟩ = some (.bool false) := (blk_cell BK189.out 3).trans rfl
        have hcz10_4 : w7.cell? ⟨gb189, 4, none⟩ = some (.bool false) := (blk_cell BK189.out 4).trans rfl
        have hcz10_5 : w7.cell? ⟨gb189, 5, none⟩ = some (.bool false) := (blk_cell BK189.out 5).trans rfl
        have hfz10_0 := blk_frozen BK189.out 0
        have hfz10_1 := blk_frozen BK189.out 1
        have hfz10_2 := blk_frozen BK189.out 2
        have hfz10_3 := blk_frozen BK189.out 3
        have hfz10_4 := blk_frozen BK189.out 4
        have hfz10_5 := blk_frozen BK189.out 5
        go_wp2
        go_meet
        case rel => exact ⟨_, (!t187), (by first | rfl | (simp; done) | (simp [*]; done)), H', ⟨by first | omega | exact Nat.le_refl _⟩, ⟨by (with_reducible repeat (first | refine blk_drewN ?_ _ | refine blk_drew ?_ | refine blk_alloc ?_ _)); refine blk_put (cs := #[.int .i64 t182, .int .i64 t183, .bool t184, .bool t185, .bool t186, .bool false]) ?_ 5 _ rfl; (with_reducible repeat (first | refine blk_drewN ?_ _ | refine blk_drew ?_ | refine blk_alloc ?_ _)); refine blk_put (cs := #[.int .i64 t182, .int .i64 t183, .bool t184, .bool t185, .bool false, .bool false]) ?_ 4 _ rfl; (with_reducible repeat (first | refine blk_drewN ?_ _ | refine blk_drew ?_ | refine blk_alloc ?_ _)); refine blk_put (cs := #[.int .i64 t182, .int .i64 t183, .bool t184, .bool false, .bool false, .bool false]) ?_ 3 _ rfl; (with_reducible repeat (first | refine blk_drewN ?_ _ | refine blk_drew ?_ | refine blk_alloc ?_ _)); refine blk_put (cs := #[.int .i64 t182, .int .i64 t183, .bool false, .bool false, .bool false, .bool false]) ?_ 2 _ rfl; (with_reducible repeat (first | refine blk_drewN ?_ _ | refine blk_drew ?_ | refine blk_alloc ?_ _)); refine blk_put (cs := #[.int .i64 t182, .int .i64 0, .bool false, .bool false, .bool false, .bool false]) ?_ 1 _ rfl; (with_reducible repeat (first | refine blk_drewN ?_ _ | refine blk_drew ?_ | refine blk_alloc ?_ _)); refine blk_put (cs := #[.int .i64 0, .int .i64 0, .bool false, .bool false, .bool false, .bool false]) ?_ 0 _ rfl; (with_reducible repeat (first | refine blk_drewN ?_ _ | refine blk_drew ?_ | refine blk_alloc ?_ _)); exact BK189.out⟩, ⟨by repeat (first | (with_reducible first | exact HB.out | apply below_alloc | apply pw_below_drewN | apply below_drew1 | refine below_set ?_ GE189.out) | exact HB.out)⟩⟩
      · rw [if_neg c9] at H
        have c9b0 : (t182 == 1) = false := beq_eq_false_iff_ne.mpr c9
        have c9b1 : (t182 != 1) = true := bne_iff_ne.mpr c9
        (first | rw [c9b0] | (simp only [i64_w, i32_w]; rw [c9b0]) | skip)
        have H' := Aside0.mk H
        clear H
        have hcz11_0 : w7.cell? ⟨gb189, 0, none⟩ = some (.int .i64 0) := (blk_cell BK189.out 0).trans rfl
        have hcz11_1 : w7.cell? ⟨gb189, 1, none⟩ = some (.int .i64 0) := (blk_cell BK189.out 1).trans rfl
        have hcz11_2 : w7.cell? ⟨gb189, 2, none⟩ = some (.bool false) := (blk_cell BK189.out 2).trans rfl
        have hcz11_3 : w7.cell? ⟨gb189, 3, none⟩ = some (.bool false) := (blk_cell BK189.out 3).trans rfl
        have hcz11_4 : w7.cell? ⟨gb189, 4, none⟩ = some (.bool false) := (blk_cell BK189.out 4).trans rfl
        have hcz11_5 : w7.cell? ⟨gb189, 5, none⟩ = some (.bool false) := (blk_cell BK189.out 5).trans rfl
        have hfz11_0 := blk_frozen BK189.out 0
        have hfz11_1 := blk_frozen BK189.out 1
        have hfz11_2 := blk_frozen BK189.out 2
        have hfz11_3 := blk_frozen BK189.out 3
        have hfz11_4 := blk_frozen BK189.out 4
        have hfz11_5 := blk_frozen BK189.out 5
        go_wp2
        go_meet
        case rel => exact ⟨_, (true), (by first | rfl | (simp; done) | (simp [*]; done)), H', ⟨by first | omega | exact Nat.le_refl _⟩, ⟨by (with_reducible repeat (first | refine blk_drewN ?_ _ | refine blk_drew ?_ | refine blk_alloc ?_ _)); refine blk_put (cs := #[.int .i64 t182, .int .i64 t183, .bool t184, .bool t185, .bool t186, .bool false]) ?_ 5 _ rfl; (with_reducible repeat (first | refine blk_drewN ?_ _ | refine blk_drew ?_ | refine blk_alloc ?_ _)); refine blk_put (cs := #[.int .i64 t182, .int .i64 t183, .bool t184, .bool t185, .bool false, .bool false]) ?_ 4 _ rfl; (with_reducible repeat (first | refine blk_drewN ?_ _ | refine blk_drew ?_ | refine blk_alloc ?_ _)); refine blk_put (cs := #[.int .i64 t182, .int .i64 t183, .bool t184, .bool false, .bool false, .bool false]) ?_ 3 _ rfl; (with_reducible repeat (first | refine blk_drewN ?_ _ | refine blk_drew ?_ | refine blk_alloc ?_ _)); refine blk_put (cs := #[.int .i64 t182, .int .i64 t183, .bool false, .bool false, .bool false, .bool false]) ?_ 2 _ rfl; (with_reducible repeat (first | refine blk_drewN ?_ _ | refine blk_drew ?_ | refine blk_alloc ?_ _)); refine blk_put (cs := #[.int .i64 t182, .int .i64 0, .bool false, .bool false, .bool false, .bool false]) ?_ 1 _ rfl; (with_reducible repeat (first | refine blk_drewN ?_ _ | refine blk_drew ?_ | refine blk_alloc ?_ _)); refine blk_put (cs := #[.int .i64 0, .int .i64 0, .bool false, .bool false, .bool false, .bool false]) ?_ 0 _ rfl; (with_reducible repeat (first | refine blk_drewN ?_ _ | refine blk_drew ?_ | refine blk_alloc ?_ _)); exact BK189.out⟩, ⟨by repeat (first | (with_reducible first | exact HB.out | apply below_alloc | apply pw_below_drewN | apply below_drew1 | refine below_set ?_ GE189.out) | exact HB.out)⟩⟩
    case rest =>
      clear HC5
      try clear c1
      try clear p2
      try clear c4
      try clear c4b0
      try clear c4b1
      try clear c9
      try clear c9b0
      try clear c9b1
      try clear hcz10_0
      try clear hcz10_1
      try clear hcz10_2
      try clear hcz10_3
      try clear hcz10_4
      try clear hcz10_5
      try clear hcz11_0
      try clear hcz11_1
      try clear hcz11_2
      try clear hcz11_3
      try clear hcz11_4
      try clear hcz11_5
      try clear hcz8_0
      try clear hcz8_1
      try clear hcz8_2
      try clear hcz8_3
      try clear hcz8_4
      try clear hcz8_5
      try clear hfz10_0
      try clear hfz10_1
      try clear hfz10_2
      try clear hfz10_3
      try clear hfz10_4
      try clear hfz10_5
      try clear hfz11_0
      try clear hfz11_1
      try clear hfz11_2
      try clear hfz11_3
      try clear hfz11_4
      try clear hfz11_5
      try clear hfz8_0
      try clear hfz8_1
      try clear hfz8_2
      try clear hfz8_3
      try clear hfz8_4
      try clear hfz8_5
      obtain ⟨kq, x23_4, rfl, HA, HJ4, BK189, HB⟩ := hcut
      cases kq with
      | zero => exact absurd HA.out (by simp [estoversref05_Part.j0])
      | succ kj4 =>
        have H := HA.out
        clear HA
        simp only [estoversref05_Part.j0] at H
        by_cases c12 : x23_4 = true
        · subst c12
          have H1 : (some (0, 11)) = some (r1, r2) := by rw [if_pos rfl] at H; exact H
          clear H
          have H := H1
          clear H1
          simp only [Option.some.injEq, Prod.mk.injEq] at H
          obtain ⟨rfl, rfl⟩ := H
          go_wp2
          go_ret2
          exact ⟨by first | rfl | (simp [errW_none, errW_some] <;> rfl) | (simp [*, errW_none, errW_some] <;> rfl), by repeat (first | (with_reducible first | exact HB.out | apply below_alloc | apply pw_below_drewN | apply below_drew1 | refine below_set ?_ GE189.out) | exact HB.out)⟩
        · replace c12 := Bool.eq_false_iff.mpr c12
          subst c12
          have H1 : (if a1 < 0 then (some (0, 2)) else (if a1 ≥ 8 then (some (0, 2)) else ((estoversref05_Encode.f kj4 t182 (wrap64 (t183 + a1)) t184 t185 t186 false).bind fun bt190 => (some (bt190.1, bt190.2))))) = some (r1, r2) := by rw [if_neg (show ¬ (false = true) by decide)] at H; exact H
          clear H
          have H := H1
          clear H1
          by_cases c13 : a1 < 0
          · rw [if_pos c13] at H
            have c13b0 : decide (a1 < 0) = true := decide_eq_true c13
            clear c13
            simp only [Option.some.injEq, Prod.mk.injEq] at H
            obtain ⟨rfl, rfl⟩ := H
            go_wp2
            go_ret2
            exact ⟨by first | rfl | (simp [errW_none, errW_some] <;> rfl) | (simp [*, errW_none, errW_some] <;> rfl), by repeat (first | (with_reducible first | exact HB.out | apply below_alloc | apply pw_below_drewN | apply below_drew1 | refine below_set ?_ GE189.out) | exact HB.out)⟩
          · rw [if_neg c13] at H
            have c13b0 : decide (a1 < 0) = false := decide_eq_false c13
            clear c13
            by_cases c14 : a1 ≥ 8
            · rw [if_pos c14] at H
              have c14b0 : decide (8 ≤ a1) = true := decide_eq_true c14
              clear c14
              simp only [Option.some.injEq, Prod.mk.injEq] at H
              obtain ⟨rfl, rfl⟩ := H
              go_wp2
              go_ret2
              exact ⟨by first | rfl | (simp [errW_none, errW_some] <;> rfl) | (simp [*, errW_none, errW_some] <;> rfl), by repeat (first | (with_reducible first | exact HB.out | apply below_alloc | apply pw_below_drewN | apply below_drew1 | refine below_set ?_ GE189.out) | exact HB.out)⟩
            · rw [if_neg c14] at H
              have c14b0 : decide (8 ≤ a1) = false := decide_eq_false c14
              clear c14
              replace H := Option.bind_eq_some_iff.mp H
              obtain ⟨⟨t190, t191⟩, A150, H⟩ := H
              replace H : (some (t190, t191)) = some (r1, r2) := H
              have A15 := Aside0.mk A150
              clear A150
              simp only [Option.some.injEq, Prod.mk.injEq] at H
              obtain ⟨rfl, rfl⟩ := H
              have hcz16_0 : wc.cell? ⟨gb189, 0, none⟩ = some (.int .i64 t182) := (blk_cell BK189.out 0).trans rfl
              have hcz16_1 : wc.cell? ⟨gb189, 1, none⟩ = some (.int .i64 t183) := (blk_cell BK189.out 1).trans rfl
              have hcz16_2 : wc.cell? ⟨gb189, 2, none⟩ = some (.bool t184) := (blk_cell BK189.out 2).trans rfl
              have hcz16_3 : wc.cell? ⟨gb189, 3, none⟩ = some (.bool t185) := (blk_cell BK189.out 3).trans rfl
              have hcz16_4 : wc.cell? ⟨gb189, 4, none⟩ = some (.bool t186) := (blk_cell BK189.out 4).trans rfl
              have hcz16_5 : wc.cell? ⟨gb189, 5, none⟩ = some (.bool t187) := (blk_cell BK189.out 5).trans rfl
              have hfz16_0 := blk_frozen BK189.out 0
              have hfz16_1 := blk_frozen BK189.out 1
              have hfz16_2 := blk_frozen BK189.out 2
              have hfz16_3 := blk_frozen BK189.out 3
              have hfz16_4 := blk_frozen BK189.out 4
              have hfz16_5 := blk_frozen BK189.out 5
              go_wp2_with (first | ((with_reducible refine gate_callee (f := 13) rfl ?_); refine goesL_ (some 37) rfl rfl Try.func13 (by kernel_rfl) rfl #[.agg #[.int .i64 t182, .int .i64 (wrap64 (t183 + a1)), .bool t184, .bool t185, .bool t186, .bool false]] rfl (by (try simp only [List.map_toArray, List.map_cons, List.map_nil]); first | done | rfl | (simp only [List.length_drop, List.length_take]; rfl)) ?_; (with_reducible refine (estoversref05_Encode.calls kj4 t182 (wrap64 (t183 + a1)) t184 t185 t186 false t190 t191 _ A15.out).mono ?_); rintro e w17 ⟨rfl, hb⟩; refine ⟨_, rfl, ?_⟩; have n0_ := Aside0.mk (blk_below (g := gb189) (o := .cells #[.int .i64 t182, .int .i64 (wrap64 (t183 + a1)), .bool t184, .bool t185, .bool t186, .bool false] 23 (0, 0)) (by (with_reducible repeat (first | refine blk_drewN ?_ _ | refine blk_drew ?_ | refine blk_alloc ?_ _)); refine blk_put (cs := #[.int .i64 t182, .int .i64 t183, .bool t184, .bool t185, .bool t186, .bool false]) ?_ 1 _ rfl; (with_reducible repeat (first | refine blk_drewN ?_ _ | refine blk_drew ?_ | refine blk_alloc ?_ _)); refine blk_put (cs := #[.int .i64 t182, .int .i64 t183, .bool t184, .bool t185, .bool t186, .bool t187]) ?_ 5 _ rfl; (with_reducible repeat (first | refine blk_drewN ?_ _ | refine blk_drew ?_ | refine blk_alloc ?_ _)); exact BK189.out) hb); have n1_ := Aside0.mk (below_step (by repeat (first | (with_reducible first | exact HB.out | apply below_alloc | apply pw_below_drewN | apply below_drew1 | refine below_set ?_ GE189.out) | exact HB.out)) hb); clear BK189; clear HB; have BK189 := n0_; have HB := n1_; clear n0_ n1_; (try clear hb); (try clear hb2); (try clear hk); (try clear hi)))
              go_ret2
              exact ⟨by first | rfl | (simp [errW_none, errW_some] <;> rfl) | (simp [*, errW_none, errW_some] <;> rfl), by repeat (first | (with_reducible first | exact HB.out | apply below_alloc | apply pw_below_drewN | apply below_drew1 | refine below_set ?_ GE189.out) | exact HB.out)⟩
  · rw [if_neg c4] at H
    have c4b0 : (t188 == 0) = false := beq_eq_false_iff_ne.mpr c4
    have c4b1 : (t188 != 0) = true := bne_iff_ne.mpr c4
    simp only [Option.some.injEq, Prod.mk.injEq] at H
    obtain ⟨rfl, rfl⟩ := H
    go_enter Try.func18, Try.ntmps18
    go_wp2_with (first | ((with_reducible refine gate_callee (f := 16) rfl ?_); refine goesL_ (some 10) rfl rfl Try.func16 (by kernel_rfl) rfl #[.int .u64 a0] rfl (by (try simp only [List.map_toArray, List.map_cons, List.map_nil]); first | done | rfl | (simp only [List.length_drop, List.length_take]; rfl)) ?_; (with_reducible refine (estoversref05_Decode.calls k a0 t182 t183 t184 t185 t186 t187 t188 _ A3.out).mono ?_); rintro e w18 ⟨rfl, hb⟩; refine ⟨_, rfl, ?_⟩; have n0_ := Aside0.mk (below_step (by repeat (first | (with_reducible first | exact HB.out | apply below_alloc | apply pw_below_drewN | apply below_drew1) | exact HB.out)) hb); clear HB; have HB := n0_; clear n0_; (try clear hb); (try clear hb2); (try clear hk); (try clear hi)) | ((with_reducible refine gate_dst (N := 6) rfl ?_); refine box_event ?hg (N := 6) ?hd (cs := #[.int .i64 0, .int .i64 0, .bool false, .bool false, .bool false, .bool false]) (t := 23) ?hr ?_; (case hd => rfl); (case hg => rfl); (case hr => first | (go_simp; done) | (go_simp; rfl)); intro gb189 hg w19 hbox hb; have n0_ := Aside0.mk (below_step (by repeat (first | (with_reducible first | exact HB.out | apply below_alloc | apply pw_below_drewN | apply below_drew1) | exact HB.out)) hb); have n1_ := Aside0.mk (hbox); have n2_ := Aside0.mk ((by rw [hg]; exact (below_size (by repeat (first | (with_reducible first | exact HB.out | apply below_alloc | apply pw_below_drewN | apply below_drew1) | exact HB.out))) : w.heap.size ≤ gb189)); have n3_ := Aside0.mk ((by rw [hg]; exact (below_size (by repeat (first | (with_reducible first | exact HB.out | apply below_alloc | apply pw_below_drewN | apply below_drew1) | exact HB.out))) : w.heap.size ≤ gb189)); clear HB; have HB := n0_; have BK189 := n1_; have GW189 := n2_; have GE189 := n3_; clear n0_ n1_ n2_ n3_; clear hb hbox hg; have hcz20_0 : w19.cell? ⟨gb189, 0, none⟩ = some (.int .i64 0) := (blk_cell BK189.out 0).trans rfl; have hcz20_1 : w19.cell? ⟨gb189, 1, none⟩ = some (.int .i64 0) := (blk_cell BK189.out 1).trans rfl; have hcz20_2 : w19.cell? ⟨gb189, 2, none⟩ = some (.bool false) := (blk_cell BK189.out 2).trans rfl; have hcz20_3 : w19.cell? ⟨gb189, 3, none⟩ = some (.bool false) := (blk_cell BK189.out 3).trans rfl; have hcz20_4 : w19.cell? ⟨gb189, 4, none⟩ = some (.bool false) := (blk_cell BK189.out 4).trans rfl; have hcz20_5 : w19.cell? ⟨gb189, 5, none⟩ = some (.bool false) := (blk_cell BK189.out 5).trans rfl; have hfz20_0 := blk_frozen BK189.out 0; have hfz20_1 := blk_frozen BK189.out 1; have hfz20_2 := blk_frozen BK189.out 2; have hfz20_3 := blk_frozen BK189.out 3; have hfz20_4 := blk_frozen BK189.out 4; have hfz20_5 := blk_frozen BK189.out 5))
    go_ret2
    exact ⟨by first | rfl | (simp [errW_none, errW_some] <;> rfl) | (simp [*, errW_none, errW_some] <;> rfl), by repeat (first | (with_reducible first | exact HB.out | apply below_alloc | apply pw_below_drewN | apply below_drew1 | refine below_set ?_ GE189.out) | exact HB.out)⟩

/-! ### estoverslaw05_PteParts: function 5 -/
def estoverslaw05_PteParts.f (k : Nat) (a0 : Int) (a1 : Int) : Option (Bool) := (pte_Part.f k a0 a1).bind fun bt192 => ((estoversref05_Part.f k a0 a1).bind fun bt194 => (if bt192.1 = bt194.1 then (if bt192.2 = bt194.2 then ((estoverslaw05_awake.f k).bind fun t196 => (some t196)) else (some false)) else (some false)))
theorem estoverslaw05_PteParts.mono : ∀ a0 a1 k, LeO (estoverslaw05_PteParts.f k a0 a1) (estoverslaw05_PteParts.f (k + 1) a0 a1) := by
  intro a0 a1 k
  unfold estoverslaw05_PteParts.f
  repeat' first
      | (with_reducible exact estoverslaw05_awake.mono _)
      | (with_reducible exact estoversref05_Part.mono _ _ _)
      | (with_reducible exact pte_Part.mono _ _ _)
      | (with_reducible exact LeO.refl _)
      | (with_reducible exact LeO.none _)
      | (with_reducible refine LeO.ite ?_ ?_)
      | (with_reducible refine LeO.bind ?_ (fun _ => ?_))
      | exact estoverslaw05_awake.mono _
      | exact estoversref05_Part.mono _ _ _
      | exact pte_Part.mono _ _ _
      | exact LeO.none _
      | refine LeO.ite ?_ ?_
      | refine LeO.bind ?_ (fun _ => ?_)
set_option maxHeartbeats 8000000 in
set_option maxRecDepth 100000 in
theorem estoverslaw05_PteParts.calls (k : Nat) (a0 : Int) (a1 : Int) (r : Bool) (w : World) (h : estoverslaw05_PteParts.f k a0 a1 = some r) :
    Calls Try.prog 5 #[.int .u64 a0, .int .i64 a1] w fun e w' => e = .returned (.bool r) ∧ Below w.heap.size w w' := by
  have HB := Aside0.mk (Below.refl w.heap.size w)
  have H : ((pte_Part.f k a0 a1).bind fun bt192 => ((estoversref05_Part.f k a0 a1).bind fun bt194 => (if bt192.1 = bt194.1 then (if bt192.2 = bt194.2 then ((estoverslaw05_awake.f k).bind fun t196 => (some t196)) else (some false)) else (some false)))) = some r := h
  clear h
  replace H := Option.bind_eq_some_iff.mp H
  obtain ⟨⟨t192, t193⟩, A30, H⟩ := H
  replace H : ((estoversref05_Part.f k a0 a1).bind fun bt194 => (if t192 = bt194.1 then (if t193 = bt194.2 then ((estoverslaw05_awake.f k).bind fun t196 => (some t196)) else (some false)) else (some false))) = some r := H
  have A3 := Aside0.mk A30
  clear A30
  replace H := Option.bind_eq_some_iff.mp H
  obtain ⟨⟨t194, t195⟩, A40, H⟩ := H
  replace H : (if t192 = t194 then (if t193 = t195 then ((estoverslaw05_awake.f k).bind fun t196 => (some t196)) else (some false)) else (some false)) = some r := H
  have A4 := Aside0.mk A40
  clear A40
  by_cases c5 : t192 = t194
  · rw [if_pos c5] at H
    have c5b0 : (t192 == t194) = true := beq_iff_eq.mpr c5
    have c5b1 : (t192 != t194) = false := bne_eq_false_iff_eq.mpr c5
    clear c5
    by_cases c6 : t193 = t195
    · rw [if_pos c6] at H
      have c6b0 : (t193 == t195) = true := beq_iff_eq.mpr c6
      have c6b1 : (t193 != t195) = false := bne_eq_false_iff_eq.mpr c6
      clear c6
      replace H := Option.bind_eq_some_iff.mp H
      obtain ⟨t196, A70, H⟩ := H
      replace H : (some t196) = some r := H
      have A7 := Aside0.mk A70
      clear A70
      obtain rfl := Option.some.inj H
      go_enter Try.func5, Try.ntmps5
      go_wp2_with (first | ((with_reducible refine gate_callee (f := 17) rfl ?_); refine goesL_ (some 12) rfl rfl Try.func17 (by kernel_rfl) rfl #[.int .u64 a0, .int .i64 a1] rfl (by (try simp only [List.map_toArray, List.map_cons, List.map_nil]); first | done | rfl | (simp only [List.length_drop, List.length_take]; rfl)) ?_; (with_reducible refine (pte_Part.calls k a0 a1 t192 t193 _ A3.out).mono ?_); rintro e w8 ⟨rfl, hb⟩; refine ⟨_, rfl, ?_⟩; have n0_ := Aside0.mk (below_step (by repeat (first | (with_reducible first | exact HB.out | apply below_alloc | apply pw_below_drewN | apply below_drew1) | exact HB.out)) hb); clear HB; have HB := n0_; clear n0_; (try clear hb); (try clear hb2); (try clear hk); (try clear hi)) | ((with_reducible refine gate_callee (f := 18) rfl ?_); refine goesL_ (some 18) rfl rfl Try.func18 (by kernel_rfl) rfl #[.int .u64 a0, .int .i64 a1] rfl (by (try simp only [List.map_toArray, List.map_cons, List.map_nil]); first | done | rfl | (simp only [List.length_drop, List.length_take]; rfl)) ?_; (with_reducible refine (estoversref05_Part.calls k a0 a1 t194 t195 _ A4.out).mono ?_); rintro e w9 ⟨rfl, hb⟩; refine ⟨_, rfl, ?_⟩; have n0_ := Aside0.mk (below_step (by repeat (first | (with_reducible first | exact HB.out | apply below_alloc | apply pw_below_drewN | apply below_drew1) | exact HB.out)) hb); clear HB; have HB := n0_; clear n0_; (try clear hb); (try clear hb2); (try clear hk); (try clear hi)) | (go_at_call 14; (with_reducible refine (estoverslaw05_awake.calls k  t196 _ A7.out).mono ?_); rintro e w10 ⟨rfl, hb⟩; have n0_ := Aside0.mk (below_step (by repeat (first | (with_reducible first | exact HB.out | apply below_alloc | apply pw_below_drewN | apply below_drew1) | exact HB.out)) hb); clear HB; have HB := n0_; clear n0_; (try clear hb); (try clear hb2); (try clear hk); (try clear hi)))
      go_ret
      exact ⟨by first | rfl | (simp [errW_none, errW_some] <;> rfl) | (simp [*, errW_none, errW_some] <;> rfl), by repeat (first | (with_reducible first | exact HB.out | apply below_alloc | apply pw_below_drewN | apply below_drew1) | exact HB.out)⟩
    · rw [if_neg c6] at H
      have c6b0 : (t193 == t195) = false := beq_eq_false_iff_ne.mpr c6
      have c6b1 : (t193 != t195) = true := bne_iff_ne.mpr c6
      obtain rfl := Option.some.inj H
      go_enter Try.func5, Try.ntmps5
      go_wp2_with (first | ((with_reducible refine gate_callee (f := 17) rfl ?_); refine goesL_ (some 12) rfl rfl Try.func17 (by kernel_rfl) rfl #[.int .u64 a0, .int .i64 a1] rfl (by (try simp only [List.map_toArray, List.map_cons, List.map_nil]); first | done | rfl | (simp only [List.length_drop, List.length_take]; rfl)) ?_; (with_reducible refine (pte_Part.calls k a0 a1 t192 t193 _ A3.out).mono ?_); rintro e w11 ⟨rfl, hb⟩; refine ⟨_, rfl, ?_⟩; have n0_ := Aside0.mk (below_step (by repeat (first | (with_reducible first | exact HB.out | apply below_alloc | apply pw_below_drewN | apply below_drew1) | exact HB.out)) hb); clear HB; have HB := n0_; clear n0_; (try clear hb); (try clear hb2); (try clear hk); (try clear hi)) | ((with_reducible refine gate_callee (f := 18) rfl ?_); refine goesL_ (some 18) rfl rfl Try.func18 (by kernel_rfl) rfl #[.int .u64 a0, .int .i64 a1] rfl (by (try simp only [List.map_toArray, List.map_cons, List.map_nil]); first | done | rfl | (simp only [List.length_drop, List.length_take]; rfl)) ?_; (with_reducible refine (estoversref05_Part.calls k a0 a1 t194 t195 _ A4.out).mono ?_); rintro e w12 ⟨rfl, hb⟩; refine ⟨_, rfl, ?_⟩; have n0_ := Aside0.mk (below_step (by repeat (first | (with_reducible first | exact HB.out | apply below_alloc | apply pw_below_drewN | apply below_drew1) | exact HB.out)) hb); clear HB; have HB := n0_; clear n0_; (try clear hb); (try clear hb2); (try clear hk); (try clear hi)))
      go_ret
      exact ⟨by first | rfl | (simp [errW_none, errW_some] <;> rfl) | (simp [*, errW_none, errW_some] <;> rfl), by repeat (first | (with_reducible first | exact HB.out | apply below_alloc | apply pw_below_drewN | apply below_drew1) | exact HB.out)⟩
  · rw [if_neg c5] at H
    have c5b0 : (t192 == t194) = false := beq_eq_false_iff_ne.mpr c5
    have c5b1 : (t192 != t194) = true := bne_iff_ne.mpr c5
    obtain rfl := Option.some.inj H
    go_enter Try.func5, Try.ntmps5
    go_wp2_with (first | ((with_reducible refine gate_callee (f := 17) rfl ?_); refine goesL_ (some 12) rfl rfl Try.func17 (by kernel_rfl) rfl #[.int .u64 a0, .int .i64 a1] rfl (by (try simp only [List.map_toArray, List.map_cons, List.map_nil]); first | done | rfl | (simp only [List.length_drop, List.length_take]; rfl)) ?_; (with_reducible refine (pte_Part.calls k a0 a1 t192 t193 _ A3.out).mono ?_); rintro e w13 ⟨rfl, hb⟩; refine ⟨_, rfl, ?_⟩; have n0_ := Aside0.mk (below_step (by repeat (first | (with_reducible first | exact HB.out | apply below_alloc | apply pw_below_drewN | apply below_drew1) | exact HB.out)) hb); clear HB; have HB := n0_; clear n0_; (try clear hb); (try clear hb2); (try clear hk); (try clear hi)) | ((with_reducible refine gate_callee (f := 18) rfl ?_); refine goesL_ (some 18) rfl rfl Try.func18 (by kernel_rfl) rfl #[.int .u64 a0, .int .i64 a1] rfl (by (try simp only [List.map_toArray, List.map_cons, List.map_nil]); first | done | rfl | (simp only [List.length_drop, List.length_take]; rfl)) ?_; (with_reducible refine (estoversref05_Part.calls k a0 a1 t194 t195 _ A4.out).mono ?_); rintro e w14 ⟨rfl, hb⟩; refine ⟨_, rfl, ?_⟩; have n0_ := Aside0.mk (below_step (by repeat (first | (with_reducible first | exact HB.out | apply below_alloc | apply pw_below_drewN | apply below_drew1) | exact HB.out)) hb); clear HB; have HB := n0_; clear n0_; (try clear hb); (try clear hb2); (try clear hk); (try clear hi)))
    go_ret
    exact ⟨by first | rfl | (simp [errW_none, errW_some] <;> rfl) | (simp [*, errW_none, errW_some] <;> rfl), by repeat (first | (with_reducible first | exact HB.out | apply below_alloc | apply pw_below_drewN | apply below_drew1) | exact HB.out)⟩

/-- THE ONE PURE STATEMENT of estoverslaw05_PteParts: yours. -/
def estoverslaw05_PteParts.Pure : Prop := ∀ (a0 : Int) (a1 : Int), (Lit.int .u64 a0).wf = true → (Lit.int .i64 a1).wf = true → ∃ k, estoverslaw05_PteParts.f k a0 a1 = some true
theorem estoverslaw05_PteParts.walk (P : estoverslaw05_PteParts.Pure) (a0 : Int) (a1 : Int) (w : World) (w0 : (Lit.int .u64 a0).wf = true) (w1 : (Lit.int .i64 a1).wf = true) :
    Calls Try.prog 5 #[.int .u64 a0, .int .i64 a1] w fun e w' => e = .returned (.bool true) ∧ Below w.heap.size w w' := by
  obtain ⟨k, h⟩ := P a0 a1 w0 w1
  refine (estoverslaw05_PteParts.calls k a0 a1 true w h).mono ?_
  rintro e w' ⟨rfl, hd⟩
  exact ⟨rfl, hd⟩

end Go.Proofs.Ytmmjialpkddgdaa.PPteParts
