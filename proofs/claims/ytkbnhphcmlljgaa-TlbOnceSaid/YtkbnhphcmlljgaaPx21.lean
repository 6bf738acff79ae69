-- Made by wip/myprint (a turned copy of the kit's print) for this work: plain functions and their contracts. Lean checks it.
import Derived.Test.YtkbnhphcmlljgaaPx0
import Derived.Test.YtkbnhphcmlljgaaPx5
import Derived.Test.YtkbnhphcmlljgaaPx6
import Derived.Test.YtkbnhphcmlljgaaHandAwake
import Derived.Test.YtkbnhphcmlljgaaHandCheck
import Derived.Test.YtkbnhphcmlljgaaHandDo
namespace Go.Proofs.Ytkbnhphcmlljgaa.P
open Go.RowKit Go.Proofs.YtkbnhphcmlljgaaW.PrintWords Go.Proofs.YtkbnhphcmlljgaaW.PrintLast Go.Proofs.YtkbnhphcmlljgaaW.PrintMore
attribute [local go_sem] max2_int min2_int max_two min_two max_three min_three max_four min_four   -- for this text's walks alone
set_option linter.unusedVariables false
set_option linter.unusedSimpArgs false

/-! ### estoverslaw07_TlbOnce: function 9 -/
mutual
def estoverslaw07_TlbOnce.l0 : Nat → Int → List (S49) → Int → Int → Int → Int → List (S42) → Option (Bool)
  | 0, _, _, _, _, _, _, _ => none
  | k + 1, x0, x1, x9, x383000, x383001, x390000, x390001 => if x9 < (x1.length : Int) then (if 0 ≤ x9 then ((estoverslaw07_do.f x390000 x390001 ((rd_T49 x1 x9).f0) ((rd_T49 x1 x9).f1) ((rd_T49 x1 x9).f2) ((rd_T49 x1 x9).f3)).bind fun bt391 => ((tlb_Check.f bt391.1 bt391.2.1).bind fun t396 => (if t396 = 0 then (if (bt391.2.1.length : Int) > (wrap64 (1 + (Int.tmod (wrap64 (x0)) 16))) then (some false) else (estoverslaw07_TlbOnce.l0 k x0 x1 (wrap64 (x9 + 1)) x383000 x383001 bt391.1 bt391.2.1)) else (some false)))) else (none)) else (estoverslaw07_TlbOnce.l1 k 0 0 x383000 x383001 x390000 x390001)
def estoverslaw07_TlbOnce.l1 : Nat → Int → Int → Int → Int → Int → List (S42) → Option (Bool)
  | 0, _, _, _, _, _, _ => none
  | k + 1, x10, x11, x383000, x383001, x390000, x390001 => if x11 < (x390001.length : Int) then (if 0 ≤ x11 then (if x11 ≤ (wrap64 (x11 + 1)) then (if (wrap64 (x11 + 1)) ≤ (x390001.length : Int) then ((tlb_Covers.f k 1 ((x390001.take ((wrap64 (x11 + 1)) : Int).toNat).drop (x11 : Int).toNat) x383000 x383001).bind fun t403 => (if t403 = true then (estoverslaw07_TlbOnce.l1 k (wrap64 (x10 + 1)) (wrap64 (x11 + 1)) x383000 x383001 x390000 x390001) else (estoverslaw07_TlbOnce.l1 k x10 (wrap64 (x11 + 1)) x383000 x383001 x390000 x390001))) else (none)) else (none)) else (none)) else (if x10 ≤ 1 then ((tlb_Covers.f k x390000 x390001 x383000 x383001).bind fun t404 => (if ((x10 == 1) == t404) = true then ((estoverslaw07_awake.f).bind fun t405 => (some t405)) else (some false))) else (some false))
end
def estoverslaw07_TlbOnce.f (k : Nat) (a0 : Int) (l1 : List (S49)) (a2_0 : Int) (a2_1 : Int) : Option (Bool) := if (l1.length : Int) > 30 then ((estoverslaw07_awake.f).bind fun t383 => (some t383)) else ((tlb_New.f (wrap64 (1 + (Int.tmod (wrap64 (a0)) 16)))).bind fun bt384 => (estoverslaw07_TlbOnce.l0 k a0 l1 0 a2_0 a2_1 bt384.1 bt384.2.1))
theorem estoverslaw07_TlbOnce.mono_l : ∀ k, (∀ y0 y1 y2 y3 y4 y5 y6, LeO (estoverslaw07_TlbOnce.l0 k y0 y1 y2 y3 y4 y5 y6) (estoverslaw07_TlbOnce.l0 (k + 1) y0 y1 y2 y3 y4 y5 y6)) ∧ (∀ y0 y1 y2 y3 y4 y5, LeO (estoverslaw07_TlbOnce.l1 k y0 y1 y2 y3 y4 y5) (estoverslaw07_TlbOnce.l1 (k + 1) y0 y1 y2 y3 y4 y5))
  | 0 => ⟨fun _ _ _ _ _ _ _ r h => by simp [estoverslaw07_TlbOnce.l0] at h, fun _ _ _ _ _ _ r h => by simp [estoverslaw07_TlbOnce.l1] at h⟩
  | k + 1 => by
    obtain ⟨ih0, ih1⟩ := estoverslaw07_TlbOnce.mono_l k
    refine ⟨?_, ?_⟩
    · intro y0 y1 y2 y3 y4 y5 y6
      unfold estoverslaw07_TlbOnce.l0
      repeat' first
      | (with_reducible exact ih0 _ _ _ _ _ _ _)
      | (with_reducible exact ih1 _ _ _ _ _ _)
      | (with_reducible exact tlb_Covers.mono _ _ _ _ _)
      | (with_reducible exact LeO.refl _)
      | (with_reducible exact LeO.none _)
      | (with_reducible refine LeO.ite ?_ ?_)
      | (with_reducible refine LeO.bind ?_ (fun _ => ?_))
      | exact ih0 _ _ _ _ _ _ _
      | exact ih1 _ _ _ _ _ _
      | exact tlb_Covers.mono _ _ _ _ _
      | exact LeO.none _
      | refine LeO.ite ?_ ?_
      | refine LeO.bind ?_ (fun _ => ?_)
    · intro y0 y1 y2 y3 y4 y5
      unfold estoverslaw07_TlbOnce.l1
      repeat' first
      | (with_reducible exact ih0 _ _ _ _ _ _ _)
      | (with_reducible exact ih1 _ _ _ _ _ _)
      | (with_reducible exact tlb_Covers.mono _ _ _ _ _)
      | (with_reducible exact LeO.refl _)
      | (with_reducible exact LeO.none _)
      | (with_reducible refine LeO.ite ?_ ?_)
      | (with_reducible refine LeO.bind ?_ (fun _ => ?_))
      | exact ih0 _ _ _ _ _ _ _
      | exact ih1 _ _ _ _ _ _
      | exact tlb_Covers.mono _ _ _ _ _
      | exact LeO.none _
      | refine LeO.ite ?_ ?_
      | refine LeO.bind ?_ (fun _ => ?_)
theorem estoverslaw07_TlbOnce.mono : ∀ a0 a1 a2 a3 k, LeO (estoverslaw07_TlbOnce.f k a0 a1 a2 a3) (estoverslaw07_TlbOnce.f (k + 1) a0 a1 a2 a3) := by
  intro a0 a1 a2 a3 k
  obtain ⟨ih0, ih1⟩ := estoverslaw07_TlbOnce.mono_l k
  unfold estoverslaw07_TlbOnce.f
  repeat' first
      | (with_reducible exact ih0 _ _ _ _ _ _ _)
      | (with_reducible exact ih1 _ _ _ _ _ _)
      | (with_reducible exact tlb_Covers.mono _ _ _ _ _)
      | (with_reducible exact LeO.refl _)
      | (with_reducible exact LeO.none _)
      | (with_reducible refine LeO.ite ?_ ?_)
      | (with_reducible refine LeO.bind ?_ (fun _ => ?_))
      | exact ih0 _ _ _ _ _ _ _
      | exact ih1 _ _ _ _ _ _
      | exact tlb_Covers.mono _ _ _ _ _
      | exact LeO.none _
      | refine LeO.ite ?_ ?_
      | refine LeO.bind ?_ (fun _ => ?_)
def estoverslaw07_TlbOnce.T7 : Bool × List (List Nat × List Nat) := (true, [([], []), ([], []), ([], []), ([1, 2], [1, 2]), ([3], [3]), ([0, 4], [0, 4]), ([5], [5]), ([6], [6]), ([6], [6]), ([7, 5, 0, 1, 2, 3, 4, 5, 6, 7], [7])])
def estoverslaw07_TlbOnce.B7 : List Nat := [0, 0, 0, 6, 14, 31, 63, 127, 127, 255]
theorem estoverslaw07_TlbOnce.tab7 : rtab .any (opsOf Try.f9 7) = estoverslaw07_TlbOnce.T7 := by kernel_rfl
theorem estoverslaw07_TlbOnce.bits7 : waitsOk estoverslaw07_TlbOnce.T7.2 estoverslaw07_TlbOnce.B7 = true := by kernel_rfl
set_option maxHeartbeats 8000000 in
set_option maxRecDepth 100000 in
theorem estoverslaw07_TlbOnce.calls (k : Nat) (a0 : Int) (A1 : Option Addr) (c1 : Nat) (l1 : List (S49)) (a2_0 : Int) (a2_1 : Int) (r : Bool) (w : World) (hr1 : Kd.C k49 w A1 l1.length l1) (hc1 : l1.length ≤ c1) (h : estoverslaw07_TlbOnce.f k a0 l1 a2_0 a2_1 = some r) :
    Calls Try.prog 9 #[.int .u8 a0, .slice A1 l1.length c1, .agg #[.int .i64 a2_0, .int .i64 a2_1]] w fun e w' => e = .returned (.bool r) ∧ Below w.heap.size w w' := by
  have hu35 := Try.underlying35
  have hu24 := Try.underlying24
  have hu49 := Try.underlying49
  have HR1 := Aside0.mk hr1
  have HC1 := Aside0.mk hc1
  clear hr1 hc1
  have HB := Aside0.mk (Below.refl w.heap.size w)
  have H : (if (l1.length : Int) > 30 then ((estoverslaw07_awake.f).bind fun t383 => (some t383)) else ((tlb_New.f (wrap64 (1 + (Int.tmod (wrap64 (a0)) 16)))).bind fun bt384 => (estoverslaw07_TlbOnce.l0 k a0 l1 0 a2_0 a2_1 bt384.1 bt384.2.1))) = some r := h
  clear h
  by_cases c4 : (l1.length : Int) > 30
  · rw [if_pos c4] at H
    have c4b0 : decide (30 < (l1.length : Int)) = true := decide_eq_true c4
    have c4b1 : decide (30 < l1.length) = true := decide_eq_true (by omega)
    clear c4
    replace H := Option.bind_eq_some_iff.mp H
    obtain ⟨t383, A50, H⟩ := H
    replace H : (some t383) = some r := H
    have A5 := Aside0.mk A50
    clear A50
    obtain rfl := Option.some.inj H
    go_enter Try.func9, Try.ntmps9
    go_wp2_with (first | ((with_reducible refine gate_dst (N := 5) rfl ?_); (try (refine gate_guard (by rfl) ?_; dsimp only)); refine box_event ?hg (N := 5) ?hd (cs := #[.int .i64 a2_0, .int .i64 a2_1]) (t := 35) ?hr ?_; (case hd => rfl); (case hg => rfl); (case hr => first | (go_simp; done) | (go_simp; rfl)); intro gb382 hg w6 hbox hb; have n0_ := Aside0.mk (below_step (by repeat (first | (with_reducible first | exact HB.out | apply below_alloc | apply pw_below_drewN | apply below_drew1) | exact HB.out)) hb); have n1_ := Aside0.mk (hbox); have n2_ := Aside0.mk ((by rw [hg]; exact (below_size (by repeat (first | (with_reducible first | exact HB.out | apply below_alloc | apply pw_below_drewN | apply below_drew1) | exact HB.out))) : w.heap.size ≤ gb382)); have n3_ := Aside0.mk ((by rw [hg]; exact (below_size (by repeat (first | (with_reducible first | exact HB.out | apply below_alloc | apply pw_below_drewN | apply below_drew1) | exact HB.out))) : w.heap.size ≤ gb382)); clear HB; have HB := n0_; have BK382 := n1_; have GW382 := n2_; have GE382 := n3_; clear n0_ n1_ n2_ n3_; clear hb hbox hg) | ((with_reducible refine gate_callee (f := 13) rfl ?_); refine goesL_ (some 16) rfl rfl Try.func13 (by kernel_rfl) rfl #[] rfl (by (try simp only [List.map_toArray, List.map_cons, List.map_nil]); first | done | rfl | (simp only [List.length_drop, List.length_take]; rfl)) ?_; (with_reducible refine (estoverslaw07_awake.calls  t383 _ A5.out).mono ?_); rintro e w7 ⟨rfl, hb⟩; refine ⟨_, rfl, ?_⟩; have n0_ := Aside0.mk (blk_below (g := gb382) (o := .cells #[.int .i64 a2_0, .int .i64 a2_1] 35 (0, 0)) (by (with_reducible repeat (first | refine blk_drewN ?_ _ | refine blk_drew ?_ | refine blk_alloc ?_ _)); exact BK382.out) hb); have n1_ := Aside0.mk (below_step (by repeat (first | (with_reducible first | exact HB.out | apply below_alloc | apply pw_below_drewN | apply below_drew1 | refine below_set ?_ GE382.out) | exact HB.out)) hb); clear BK382; clear HB; have BK382 := n0_; have HB := n1_; clear n0_ n1_; (try clear hb); (try clear hb2); (try clear hk); (try clear hi)))
    go_ret
    exact ⟨by first | rfl | (simp [errW_none, errW_some] <;> rfl) | (simp [*, errW_none, errW_some] <;> rfl), by repeat (first | (with_reducible first | exact HB.out | apply below_alloc | apply pw_below_drewN | apply below_drew1 | refine below_set ?_ GE382.out) | exact HB.out)⟩
  · rw [if_neg c4] at H
    have c4b0 : decide (30 < (l1.length : Int)) = false := decide_eq_false c4
    have c4b1 : decide (30 < l1.length) = false := decide_eq_false (by omega)
    clear c4
    replace H := Option.bind_eq_some_iff.mp H
    obtain ⟨⟨t384, t385, t388⟩, A80, H⟩ := H
    replace H : (estoverslaw07_TlbOnce.l0 k a0 l1 0 a2_0 a2_1 t384 t385) = some r := H
    have A8 := Aside0.mk A80
    clear A80
    have H' := Aside0.mk H
    clear H
    go_enter Try.func9, Try.ntmps9
    go_wp2_with (first | ((with_reducible refine gate_dst (N := 5) rfl ?_); (try (refine gate_guard (by rfl) ?_; dsimp only)); refine box_event ?hg (N := 5) ?hd (cs := #[.int .i64 a2_0, .int .i64 a2_1]) (t := 35) ?hr ?_; (case hd => rfl); (case hg => rfl); (case hr => first | (go_simp; done) | (go_simp; rfl)); intro gb382 hg w9 hbox hb; have n0_ := Aside0.mk (below_step (by repeat (first | (with_reducible first | exact HB.out | apply below_alloc | apply pw_below_drewN | apply below_drew1) | exact HB.out)) hb); have n1_ := Aside0.mk (hbox); have n2_ := Aside0.mk ((by rw [hg]; exact (below_size (by repeat (first | (with_reducible first | exact HB.out | apply below_alloc | apply pw_below_drewN | apply below_drew1) | exact HB.out))) : w.heap.size ≤ gb382)); have n3_ := Aside0.mk ((by rw [hg]; exact (below_size (by repeat (first | (with_reducible first | exact HB.out | apply below_alloc | apply pw_below_drewN | apply below_drew1) | exact HB.out))) : w.heap.size ≤ gb382)); clear HB; have HB := n0_; have BK382 := n1_; have GW382 := n2_; have GE382 := n3_; clear n0_ n1_ n2_ n3_; clear hb hbox hg) | ((with_reducible refine gate_callee (f := 14) rfl ?_); refine goesL_ (some 22) rfl rfl Try.func14 (by kernel_rfl) rfl #[.int .i64 (wrap64 (1 + (Int.tmod (wrap64 (a0)) 16)))] rfl (by (try simp only [List.map_toArray, List.map_cons, List.map_nil]); first | done | rfl | (simp only [List.length_drop, List.length_take]; rfl)) ?_; (with_reducible refine (tlb_New.calls (wrap64 (1 + (Int.tmod (wrap64 (a0)) 16))) t384 t385 t388 _ A8.out).mono ?_); rintro e w10 ⟨v386, rfl, ho0, hb⟩; refine ⟨_, rfl, ?_⟩; have n0_ := Aside0.mk (Kd.R_lower ho0 (below_size (by repeat (first | (with_reducible first | exact HB.out | apply below_alloc | apply pw_below_drewN | apply below_drew1 | refine below_set ?_ GE382.out) | exact HB.out)))); have n1_ := Aside0.mk (blk_below (g := gb382) (o := .cells #[.int .i64 a2_0, .int .i64 a2_1] 35 (0, 0)) (by (with_reducible repeat (first | refine blk_drewN ?_ _ | refine blk_drew ?_ | refine blk_alloc ?_ _)); exact BK382.out) hb); have n2_ := Aside0.mk (below_step (by repeat (first | (with_reducible first | exact HB.out | apply below_alloc | apply pw_below_drewN | apply below_drew1 | refine below_set ?_ GE382.out) | exact HB.out)) hb); clear BK382; clear HB; have HO387 := n0_; have BK382 := n1_; have HB := n2_; clear n0_ n1_ n2_; (try clear hb); (try clear hb2); (try clear hk); (try clear hi); (try clear ho0)) | ((with_reducible refine gate_dst (N := 7) rfl ?_); (try (refine gate_guard (by rfl) ?_; dsimp only)); refine box_event ?hg (N := 7) ?hd (cs := #[.int .i64 0, .slice none 0 0]) (t := 24) ?hr ?_; (case hd => rfl); (case hg => rfl); (case hr => first | (go_simp; done) | (go_simp; rfl)); intro gb389 hg w11 hbox hb; have n0_ := Aside0.mk (Kd.R_below (by (with_reducible repeat (first | apply Kd.R_alloc | apply Kd.R_drewN | apply Kd.R_drew)); exact HO387.out) hb); have n1_ := Aside0.mk (blk_below (g := gb382) (o := .cells #[.int .i64 a2_0, .int .i64 a2_1] 35 (0, 0)) (by (with_reducible repeat (first | refine blk_drewN ?_ _ | refine blk_drew ?_ | refine blk_alloc ?_ _)); exact BK382.out) hb); have n2_ := Aside0.mk (below_step (by repeat (first | (with_reducible first | exact HB.out | apply below_alloc | apply pw_below_drewN | apply below_drew1 | refine below_set ?_ GE382.out) | exact HB.out)) hb); have n3_ := Aside0.mk (hbox); have n4_ := Aside0.mk ((by rw [hg]; exact (below_size (by repeat (first | (with_reducible first | exact HB.out | apply below_alloc | apply pw_below_drewN | apply below_drew1 | refine below_set ?_ GE382.out) | exact HB.out))) : w.heap.size ≤ gb389)); have n5_ := Aside0.mk ((by rw [hg]; exact (below_size (by repeat (first | (with_reducible first | exact HB.out | apply below_alloc | apply pw_below_drewN | apply below_drew1 | refine below_set ?_ GE382.out) | exact HB.out))) : w.heap.size ≤ gb389)); have n6_ := Aside0.mk ((by rw [hg]; exact Nat.ne_of_lt (blk_lt (g := gb382) (o := .cells #[.int .i64 a2_0, .int .i64 a2_1] 35 (0, 0)) (by (with_reducible repeat (first | refine blk_drewN ?_ _ | refine blk_drew ?_ | refine blk_alloc ?_ _)); exact BK382.out)) : gb382 ≠ gb389)); have n7_ := Aside0.mk ((by rw [hg]; exact Nat.ne_of_gt (blk_lt (g := gb382) (o := .cells #[.int .i64 a2_0, .int .i64 a2_1] 35 (0, 0)) (by (with_reducible repeat (first | refine blk_drewN ?_ _ | refine blk_drew ?_ | refine blk_alloc ?_ _)); exact BK382.out)) : gb389 ≠ gb382)); clear HO387; clear BK382; clear HB; have HO387 := n0_; have BK382 := n1_; have HB := n2_; have BK389 := n3_; have GW389 := n4_; have GE389 := n5_; have NB382_389 := n6_; have NB389_382 := n7_; clear n0_ n1_ n2_ n3_ n4_ n5_ n6_ n7_; clear hb hbox hg; have hnb12 := NB389_382.out; have hnc12 := NB382_389.out; have hcz13_0 : w11.cell? ⟨gb389, 0, none⟩ = some (.int .i64 0) := (blk_cell BK389.out 0).trans rfl; have hcz13_1 : w11.cell? ⟨gb389, 1, none⟩ = some (.slice none 0 0) := (blk_cell BK389.out 1).trans rfl; have hfz13_0 := blk_frozen BK389.out 0; have hfz13_1 := blk_frozen BK389.out 1; obtain ⟨Ao14, co14, eo14⟩ := Kd.R_slice HO387.out; subst eo14))
    go_loopg [9] k (fun kq v9 w' => ∃ (x9_1 : Int) (x390000_1 : Int) (x390001_1 : List (S42)) (u390001 : Value), v9 = .int .i64 x9_1 ∧ Aside0 (estoverslaw07_TlbOnce.l0 kq a0 l1 x9_1 a2_0 a2_1 x390000_1 x390001_1 = some r) ∧ Aside0 (kq ≤ k) ∧ Aside0 (Kd.V k42 42 w' w.heap.size (fun k_ => k_ ≠ gb382 ∧ k_ ≠ gb389) u390001 x390001_1) ∧ Aside0 (w'.heap[gb382]? = some (.cells #[.int .i64 a2_0, .int .i64 a2_1] 35 (0, 0))) ∧ Aside0 (w'.heap[gb389]? = some (.cells #[.int .i64 x390000_1, u390001] 24 (0, 0))) ∧ Aside0 (Below w.heap.size w w'))
    case atStart => exact ⟨(0), (t384), (t385), (.slice Ao14 t385.length co14), (by first | rfl | (simp; done) | (simp [*]; done)), H', ⟨Nat.le_refl _⟩, ⟨Kd.R_V (by (with_reducible repeat (first | apply Kd.R_alloc | apply Kd.R_drewN | apply Kd.R_drew)); exact Kd.R_mono (Kd.R_far (p := ⟨gb389, 1, none⟩) (Kd.R_far (p := ⟨gb389, 0, none⟩) (Kd.R_types (Kd.R_types (Kd.R_types HO387.out BK382.out (by decide)) BK389.out (by decide)) BK389.out (by decide)) (fun _ hk => hk.2) (.int .i64 t384)) (fun _ hk => hk.2) (.slice Ao14 t385.length co14)) (fun _ hk => ⟨hk.1.1.2, hk.1.2⟩))⟩, ⟨by (with_reducible repeat (first | refine blk_drewN ?_ _ | refine blk_drew ?_ | refine blk_alloc ?_ _)); refine blk_far ?_ NB382_389.out _; (with_reducible repeat (first | refine blk_drewN ?_ _ | refine blk_drew ?_ | refine blk_alloc ?_ _)); refine blk_far ?_ NB382_389.out _; (with_reducible repeat (first | refine blk_drewN ?_ _ | refine blk_drew ?_ | refine blk_alloc ?_ _)); exact BK382.out⟩, ⟨by (with_reducible repeat (first | refine blk_drewN ?_ _ | refine blk_drew ?_ | refine blk_alloc ?_ _)); refine blk_put (cs := #[.int .i64 t384, .slice none 0 0]) ?_ 1 _ rfl; (with_reducible repeat (first | refine blk_drewN ?_ _ | refine blk_drew ?_ | refine blk_alloc ?_ _)); refine blk_put (cs := #[.int .i64 0, .slice none 0 0]) ?_ 0 _ rfl; (with_reducible repeat (first | refine blk_drewN ?_ _ | refine blk_drew ?_ | refine blk_alloc ?_ _)); exact BK389.out⟩, ⟨by repeat (first | (with_reducible first | exact HB.out | apply below_alloc | apply pw_below_drewN | apply below_drew1 | refine below_set ?_ GE382.out | refine below_set ?_ GE389.out) | exact HB.out)⟩⟩
    case round =>
      clear H'
      try clear c1
      try clear p2
      try clear c4
      try clear c4b0
      try clear c4b1
      try clear p6
      try clear c9
      try clear c12
      try clear c13
      try clear c14
      try clear hcz13_0
      try clear hcz13_1
      try clear hfz13_0
      try clear hfz13_1
      obtain ⟨x9_1, x390000_1, x390001_1, u390001, rfl, HA, HK1, HO_390001, BK382, BK389, HB⟩ := hrel
      cases gk with
      | zero => exact absurd HA.out (by simp [estoverslaw07_TlbOnce.l0])
      | succ k1 =>
        have H := HA.out
        clear HA
        simp only [estoverslaw07_TlbOnce.l0] at H
        by_cases c15 : x9_1 < (l1.length : Int)
        · rw [if_pos c15] at H
          have c15b0 : decide (x9_1 < (l1.length : Int)) = true := decide_eq_true c15
          clear c15
          by_cases c16 : 0 ≤ x9_1
          · rw [if_pos c16] at H
            have c16b0 : decide (0 ≤ x9_1) = true := decide_eq_true c16
            clear c16
            replace H := Option.bind_eq_some_iff.mp H
            obtain ⟨⟨t391, t392, t395⟩, A170, H⟩ := H
            replace H : ((tlb_Check.f t391 t392).bind fun t396 => (if t396 = 0 then (if (t392.length : Int) > (wrap64 (1 + (Int.tmod (wrap64 (a0)) 16))) then (some false) else (estoverslaw07_TlbOnce.l0 k1 a0 l1 (wrap64 (x9_1 + 1)) a2_0 a2_1 t391 t392)) else (some false))) = some r := H
            have A17 := Aside0.mk A170
            clear A170
            replace H := Option.bind_eq_some_iff.mp H
            obtain ⟨t396, A180, H⟩ := H
            replace H : (if t396 = 0 then (if (t392.length : Int) > (wrap64 (1 + (Int.tmod (wrap64 (a0)) 16))) then (some false) else (estoverslaw07_TlbOnce.l0 k1 a0 l1 (wrap64 (x9_1 + 1)) a2_0 a2_1 t391 t392)) else (some false)) = some r := H
            have A18 := Aside0.mk A180
            clear A180
            by_cases c19 : t396 = 0
            · rw [if_pos c19] at H
              have c19b0 : (t396 == 0) = true := beq_iff_eq.mpr c19
              have c19b1 : (t396 != 0) = false := bne_eq_false_iff_eq.mpr c19
              clear c19
              by_cases c20 : (t392.length : Int) > (wrap64 (1 + (Int.tmod (wrap64 (a0)) 16)))
              · rw [if_pos c20] at H
                have c20b0 : decide ((wrap64 (1 + (Int.tmod (wrap64 (a0)) 16))) < (t392.length : Int)) = true := decide_eq_true c20
                clear c20
                obtain rfl := Option.some.inj H
                try go_wp2
                have n0_ := Aside0.mk (Kd.V_drew HO_390001.out)
                have n1_ := Aside0.mk (blk_drew BK382.out)
                have n2_ := Aside0.mk (blk_drew BK389.out)
                have n3_ := Aside0.mk (below_drew1 HB.out)
                clear HO_390001
                clear BK382
                clear BK389
                clear HB
                have HO_390001 := n0_
                have BK382 := n1_
                have BK389 := n2_
                have HB := n3_
                clear n0_ n1_ n2_ n3_
                have p390 : 0 ≤ (x9_1 : Int) := of_decide_eq_true (by first | (with_reducible assumption) | assumption)
                have q390 : x9_1 < (l1.length : Int) := of_decide_eq_true (by first | (with_reducible assumption) | assumption)
                obtain ⟨ad390, e390, hx390_0, hx390_1, hx390_2, hx390_3⟩ := at_T49 HR1.out x9_1 p390 q390
                have hw390_3 := hx390_3
                have hw390_2 := hx390_2
                have hw390_1 := hx390_1
                have hw390_0 := hx390_0
                cases e390
                replace hx390_0 := (HB.out.cell (World.block_lt_of_cell? w _ hx390_0)).trans hx390_0
                replace hx390_1 := (HB.out.cell (World.block_lt_of_cell? w _ hx390_1)).trans hx390_1
                replace hx390_2 := (HB.out.cell (World.block_lt_of_cell? w _ hx390_2)).trans hx390_2
                replace hx390_3 := (HB.out.cell (World.block_lt_of_cell? w _ hx390_3)).trans hx390_3
                replace p390 := eq_true p390
                replace q390 := eq_true q390
                obtain ⟨Ao22, co22, eo22⟩ := Kd.V_slice HO_390001.out
                (first | subst eo22 | (injection eo22 with f1_ f2_ f3_; have f4_ := f1_.symm; have f5_ := f3_.symm; clear f1_ f2_ f3_; subst f4_; subst f5_))
                refine start_ (n := 10) (S := fun w' => w'.cell? ⟨gb389, 0, none⟩ = some (.int .i64 x390000_1) ∧ w'.cell? ⟨gb389, 1, none⟩ = some (.slice Ao22 x390001_1.length co22) ∧ w'.cell? (ad390.add ((x9_1).toNat * 4)) = some (.int .i64 ((rd_T49 l1 x9_1).f0)) ∧ w'.cell? ⟨(ad390.add ((x9_1).toNat * 4)).block, (ad390.add ((x9_1).toNat * 4)).off + 1, none⟩ = some (.int .i64 ((rd_T49 l1 x9_1).f1)) ∧ w'.cell? ⟨(ad390.add ((x9_1).toNat * 4)).block, (ad390.add ((x9_1).toNat * 4)).off + 2, none⟩ = some (.int .i64 ((rd_T49 l1 x9_1).f2)) ∧ w'.cell? ⟨(ad390.add ((x9_1).toNat * 4)).block, (ad390.add ((x9_1).toNat * 4)).off + 3, none⟩ = some (.int .u64 ((rd_T49 l1 x9_1).f3))) (ds := [9]) #[false, false, false, false, false, false, false, false, false, false] (by kernel_rfl) rfl rfl ⟨(blk_cell BK389.out 0).trans rfl, (blk_cell BK389.out 1).trans rfl, ((HB.out.cell (World.block_lt_of_cell? w _ hw390_0)).trans hw390_0), ((HB.out.cell (World.block_lt_of_cell? w _ hw390_1)).trans hw390_1), ((HB.out.cell (World.block_lt_of_cell? w _ hw390_2)).trans hw390_2), ((HB.out.cell (World.block_lt_of_cell? w _ hw390_3)).trans hw390_3)⟩ (fun hHeld => ?_); refine with_tabW estoverslaw07_TlbOnce.tab7 estoverslaw07_TlbOnce.bits7 (fun HT_ HW_ => ?_)
                generalize wr.drew = w21 at HO_390001 BK382 BK389 HB hx390_0 hx390_1 hx390_2 hx390_3 hHeld ⊢
                refine pure_ (i := 1) (N := some 33) (v := ?_) (a' := ?_) #[false, true, false, false, false, false, false, false, false, false] rfl rfl (any_of HT_.out (by kernel_rfl)) (fun _ _ _ h => h) (Or.inl ⟨by rfl, ?_⟩) ?_ ?_
                rotate_left
                · intro w'
                  go_simp
                  with_reducible rfl
                rotate_left
                · simp only [Act.put, List.setIfInBounds_toArray, List.set_cons_zero, List.set_cons_succ, i64_w, i32_w]
                  rfl
                refine pure_ (i := 2) (N := some 34) (v := ?_) (a' := ?_) #[false, true, true, false, false, false, false, false, false, false] rfl rfl (any_of HT_.out (by kernel_rfl)) (fun _ _ _ h => h) (Or.inl ⟨by rfl, ?_⟩) ?_ ?_
                rotate_left
                · intro w'
                  go_simp
                  with_reducible rfl
                rotate_left
                · simp only [Act.put, List.setIfInBounds_toArray, List.set_cons_zero, List.set_cons_succ, i64_w, i32_w]
                  rfl
                refine pure_ (i := 3) (N := some 35) (v := ?_) (a' := ?_) #[false, true, true, true, false, false, false, false, false, false] rfl rfl (any_of HT_.out (by kernel_rfl)) (fun _ _ _ h => h) (Or.inl ⟨by rfl, ?_⟩) ?_ ?_
                rotate_left
                · intro w'
                  go_simp
                  with_reducible rfl
                rotate_left
                · simp only [Act.put, List.setIfInBounds_toArray, List.set_cons_zero, List.set_cons_succ, i64_w, i32_w]
                  rfl
                refine take_ (i := 0) (N := some 32) (v := ?_) (a' := ?_) #[true, true, true, true, false, false, false, false, false, false] rfl rfl (take_ofW HT_.out HW_.out (by kernel_rfl)) (fun _ _ _ h => h) (Or.inl ⟨by rfl, ?_⟩) hHeld ?_ ?_
                rotate_left
                · rintro w' ⟨s0, s1, s2, s3, s4, s5⟩
                  go_simp
                  with_reducible rfl
                rotate_left
                · simp only [Act.put, List.setIfInBounds_toArray, List.set_cons_zero, List.set_cons_succ, i64_w, i32_w]
                  rfl
                refine take_ (i := 4) (N := some 36) (v := ?_) (a' := ?_) #[true, true, true, true, true, false, false, false, false, false] rfl rfl (take_ofW HT_.out HW_.out (by kernel_rfl)) (fun _ _ _ h => h) (Or.inl ⟨by rfl, ?_⟩) hHeld ?_ ?_
                rotate_left
                · rintro w' ⟨s0, s1, s2, s3, s4, s5⟩
                  go_simp
                  with_reducible rfl
                rotate_left
                · simp only [Act.put, List.setIfInBounds_toArray, List.set_cons_zero, List.set_cons_succ, i64_w, i32_w]
                  rfl
                refine one_ (i := 5) (N := some 37) #[true, true, true, true, true, true, false, false, false, false] rfl rfl (one_of HT_.out (by kernel_rfl)) (by decide) (fun K hK => ?_)
                refine goes_ Try.func28 (by kernel_rfl) rfl #[.agg #[.int .i64 x390000_1, .slice Ao22 x390001_1.length co22], .agg #[.int .i64 ((rd_T49 l1 x9_1).f0), .int .i64 ((rd_T49 l1 x9_1).f1), .int .i64 ((rd_T49 l1 x9_1).f2), .int .u64 ((rd_T49 l1 x9_1).f3)]] (by rfl) rfl rfl (by (try simp only [List.map_toArray, List.map_cons, List.map_nil]); first | done | rfl | (simp only [List.length_drop, List.length_take]; rfl)) ?_
                with_reducible refine (estoverslaw07_do.calls x390000_1 (fun k_ => (k_ ≠ gb382 ∧ k_ ≠ gb389)) _ _ x390001_1 ((rd_T49 l1 x9_1).f0) ((rd_T49 l1 x9_1).f1) ((rd_T49 l1 x9_1).f2) ((rd_T49 l1 x9_1).f3) t391 t392 t395 _ ?side1 A17.out).mono ?_
                (case side1 => exact HO_390001.out)
                rintro e w23 ⟨v393, rfl, ho0, hb⟩
                refine ⟨_, rfl, ?_⟩
                have n0_ := Aside0.mk (Kd.V_below (by (with_reducible repeat (first | apply Kd.V_alloc | apply Kd.V_drewN | apply Kd.V_drew)); exact HO_390001.out) hb)
                have n1_ := Aside0.mk (Kd.V_lower (Kd.V_mono (ok' := fun k_ => k_ ≠ gb382 ∧ k_ ≠ gb389) ho0 (fun k_ hk_ => ⟨Or.elim hk_ (fun hs_ => hs_.1) (fun hn_ => (Kd.freshB (g := gb382) (o := .cells #[.int .i64 a2_0, .int .i64 a2_1] 35 (0, 0)) (by (with_reducible repeat (first | refine blk_drewN ?_ _ | refine blk_drew ?_ | refine blk_alloc ?_ _)); exact BK382.out) k_ hn_)), Or.elim hk_ (fun hs_ => hs_.2) (fun hn_ => (Kd.freshB (g := gb389) (o := .cells #[.int .i64 x390000_1, .slice Ao22 x390001_1.length co22] 24 (0, 0)) (by (with_reducible repeat (first | refine blk_drewN ?_ _ | refine blk_drew ?_ | refine blk_alloc ?_ _)); exact BK389.out) k_ hn_))⟩)) (below_size (by repeat (first | (with_reducible first | exact HB.out | apply below_alloc | apply pw_below_drewN | apply below_drew1 | refine below_set ?_ GE382.out | refine below_set ?_ GE389.out) | exact HB.out))))
                have n2_ := Aside0.mk (blk_below (g := gb382) (o := .cells #[.int .i64 a2_0, .int .i64 a2_1] 35 (0, 0)) (by (with_reducible repeat (first | refine blk_drewN ?_ _ | refine blk_drew ?_ | refine blk_alloc ?_ _)); exact BK382.out) hb)
                have n3_ := Aside0.mk (blk_below (g := gb389) (o := .cells #[.int .i64 x390000_1, .slice Ao22 x390001_1.length co22] 24 (0, 0)) (by (with_reducible repeat (first | refine blk_drewN ?_ _ | refine blk_drew ?_ | refine blk_alloc ?_ _)); exact BK389.out) hb)
                have n4_ := Aside0.mk (below_step (by repeat (first | (with_reducible first | exact HB.out | apply below_alloc | apply pw_below_drewN | apply below_drew1 | refine below_set ?_ GE382.out | refine below_set ?_ GE389.out) | exact HB.out)) hb)
                clear HO_390001
                clear BK382
                clear BK389
                clear HB
                have HO_390001 := n0_
                have HO394 := n1_
                have BK382 := n2_
                have BK389 := n3_
                have HB := n4_
                clear n0_ n1_ n2_ n3_ n4_
                (try clear hb)
                (try clear hb2)
                (try clear hk)
                (try clear hi)
                (try clear ho0)
                obtain ⟨Ao25, co25, eo25⟩ := Kd.V_slice HO394.out
                (first | subst eo25 | (injection eo25 with f1_ f2_ f3_; have f4_ := f1_.symm; have f5_ := f3_.symm; clear f1_ f2_ f3_; subst f4_; subst f5_))
                refine hK.out _ _ ⟨(blk_cell BK389.out 0).trans rfl, (blk_cell BK389.out 1).trans rfl, ((HB.out.cell (World.block_lt_of_cell? w _ hw390_0)).trans hw390_0), ((HB.out.cell (World.block_lt_of_cell? w _ hw390_1)).trans hw390_1), ((HB.out.cell (World.block_lt_of_cell? w _ hw390_2)).trans hw390_2), ((HB.out.cell (World.block_lt_of_cell? w _ hw390_3)).trans hw390_3)⟩ (fun hHeld => ?_)
                clear hK K
                refine norm_ (a' := ?_) ?_ ?_
                rotate_left
                · show Act.put _ (some 37) _ = _
                  simp only [Act.put, List.setIfInBounds_toArray, List.set_cons_zero, List.set_cons_succ, i64_w, i32_w]
                  rfl
                refine pure_ (i := 6) (N := some 31) (v := ?_) (a' := ?_) #[true, true, true, true, true, true, true, false, false, false] rfl rfl (any_of HT_.out (by kernel_rfl)) (fun _ _ _ h => h) (Or.inl ⟨by rfl, ?_⟩) ?_ ?_
                rotate_left
                · intro w'
                  go_simp
                  with_reducible rfl
                rotate_left
                · simp only [Act.put, List.setIfInBounds_toArray, List.set_cons_zero, List.set_cons_succ, i64_w, i32_w]
                  rfl
                refine pure_ (i := 7) (N := some 38) (v := ?_) (a' := ?_) #[true, true, true, true, true, true, true, true, false, false] rfl rfl (any_of HT_.out (by kernel_rfl)) (fun _ _ _ h => h) (Or.inl ⟨by rfl, ?_⟩) ?_ ?_
                rotate_left
                · intro w'
                  go_simp
                  with_reducible rfl
                rotate_left
                · simp only [Act.put, List.setIfInBounds_toArray, List.set_cons_zero, List.set_cons_succ, i64_w, i32_w]
                  rfl
                refine pure_ (i := 8) (N := some 39) (v := ?_) (a' := ?_) #[true, true, true, true, true, true, true, true, true, false] rfl rfl (any_of HT_.out (by kernel_rfl)) (fun _ _ _ h => h) (Or.inl ⟨by rfl, ?_⟩) ?_ ?_
                rotate_left
                · intro w'
                  go_simp
                  with_reducible rfl
                rotate_left
                · simp only [Act.put, List.setIfInBounds_toArray, List.set_cons_zero, List.set_cons_succ, i64_w, i32_w]
                  rfl
                refine last_ (i := 9) (N := none) #[true, true, true, true, true, true, true, true, true, true] rfl rfl (one_of HT_.out (by kernel_rfl)) (by decide) (fun K hK => ?_)
                have hs24 : w23.cell? ⟨gb389, 0, none⟩ = some (.int .i64 x390000_1) := (blk_cell BK389.out 0).trans rfl
                have hfs24 := blk_frozen BK389.out 0
                have hns24_0 := NB382_389.out
                have hms24_0 := NB389_382.out
                have hs26 : w23.cell? ⟨gb389, 1, none⟩ = some (.slice Ao22 x390001_1.length co22) := (blk_cell BK389.out 1).trans rfl
                have hfs26 := blk_frozen BK389.out 1
                have hns26_0 := NB382_389.out
                have hms26_0 := NB389_382.out
                refine skip_ (w1 := ?_) (by rfl) rfl ?_ ?_
                rotate_left
                · go_simp
                  rfl
                refine hK.out _ _ ?_
                clear hK K
                refine done_ (done_of HT_.out (by kernel_rfl)) ?_
                have hnb27 := NB389_382.out
                have hnc27 := NB382_389.out
                have hcz28_0 : w23.cell? ⟨gb389, 0, none⟩ = some (.int .i64 x390000_1) := (blk_cell BK389.out 0).trans rfl
                have hcz28_1 : w23.cell? ⟨gb389, 1, none⟩ = some (.slice Ao22 x390001_1.length co22) := (blk_cell BK389.out 1).trans rfl
                have hfz28_0 := blk_frozen BK389.out 0
                have hfz28_1 := blk_frozen BK389.out 1
                try go_wp2_with (first | ((with_reducible refine gate_callee (f := 16) rfl ?_); refine goesL_ (some 41) rfl rfl Try.func16 (by kernel_rfl) rfl #[.agg #[.int .i64 t391, .slice Ao25 t392.length co25]] rfl (by (try simp only [List.map_toArray, List.map_cons, List.map_nil]); first | done | rfl | (simp only [List.length_drop, List.length_take]; rfl)) ?_; (with_reducible refine (tlb_Check.calls t391 _ _ t392 t396 _ ?side1 ?side2 A18.out).mono ?_); (case side1 => refine (Kd.V_reads' (e := 42) (base := w.heap.size) (ok := fun k_ => (k_ ≠ gb382 ∧ k_ ≠ gb389)) (n := t392.length) (c := co25) ?_).2.2; exact (by (with_reducible repeat (first | apply Kd.V_alloc | apply Kd.V_drewN | apply Kd.V_drew)); exact (Kd.V_mono (Kd.V_far (p := ⟨gb389, 1, none⟩) (Kd.V_far (p := ⟨gb389, 0, none⟩) (Kd.V_mono HO394.out (fun k_ hk => (⟨hk, hk.2⟩ : _ ∧ k_ ≠ gb389))) (fun _ hk => hk.2) (.int .i64 t391)) (fun _ hk => hk.2) (.slice Ao25 t392.length co25)) (fun _ h_ => h_.1)))); (case side2 => exact (Kd.V_reads' HO394.out).2.1); rintro e w29 ⟨rfl, hb⟩; refine ⟨_, rfl, ?_⟩; have n0_ := Aside0.mk (Kd.V_below (by (with_reducible repeat (first | apply Kd.V_alloc | apply Kd.V_drewN | apply Kd.V_drew)); exact (Kd.V_mono (Kd.V_far (p := ⟨gb389, 1, none⟩) (Kd.V_far (p := ⟨gb389, 0, none⟩) (Kd.V_mono HO_390001.out (fun k_ hk => (⟨hk, hk.2⟩ : _ ∧ k_ ≠ gb389))) (fun _ hk => hk.2) (.int .i64 t391)) (fun _ hk => hk.2) (.slice Ao25 t392.length co25)) (fun _ h_ => h_.1))) hb); have n1_ := Aside0.mk (Kd.V_below (by (with_reducible repeat (first | apply Kd.V_alloc | apply Kd.V_drewN | apply Kd.V_drew)); exact (Kd.V_mono (Kd.V_far (p := ⟨gb389, 1, none⟩) (Kd.V_far (p := ⟨gb389, 0, none⟩) (Kd.V_mono HO394.out (fun k_ hk => (⟨hk, hk.2⟩ : _ ∧ k_ ≠ gb389))) (fun _ hk => hk.2) (.int .i64 t391)) (fun _ hk => hk.2) (.slice Ao25 t392.length co25)) (fun _ h_ => h_.1))) hb); have n2_ := Aside0.mk (blk_below (g := gb382) (o := .cells #[.int .i64 a2_0, .int .i64 a2_1] 35 (0, 0)) (by (with_reducible repeat (first | refine blk_drewN ?_ _ | refine blk_drew ?_ | refine blk_alloc ?_ _)); refine blk_far ?_ NB382_389.out _; (with_reducible repeat (first | refine blk_drewN ?_ _ | refine blk_drew ?_ | refine blk_alloc ?_ _)); refine blk_far ?_ NB382_389.out _; (with_reducible repeat (first | refine blk_drewN ?_ _ | refine blk_drew ?_ | refine blk_alloc ?_ _)); exact BK382.out) hb); have n3_ := Aside0.mk (blk_below (g := gb389) (o := .cells #[.int .i64 t391, .slice Ao25 t392.length co25] 24 (0, 0)) (by (with_reducible repeat (first | refine blk_drewN ?_ _ | refine blk_drew ?_ | refine blk_alloc ?_ _)); refine blk_put (cs := #[.int .i64 t391, .slice Ao22 x390001_1.length co22]) ?_ 1 _ rfl; (with_reducible repeat (first | refine blk_drewN ?_ _ | refine blk_drew ?_ | refine blk_alloc ?_ _)); refine blk_put (cs := #[.int .i64 x390000_1, .slice Ao22 x390001_1.length co22]) ?_ 0 _ rfl; (with_reducible repeat (first | refine blk_drewN ?_ _ | refine blk_drew ?_ | refine blk_alloc ?_ _)); exact BK389.out) hb); have n4_ := Aside0.mk (below_step (by repeat (first | (with_reducible first | exact HB.out | apply below_alloc | apply pw_below_drewN | apply below_drew1 | refine below_set ?_ GE382.out | refine below_set ?_ GE389.out) | exact HB.out)) hb); clear HO_390001; clear HO394; clear BK382; clear BK389; clear HB; have HO_390001 := n0_; have HO394 := n1_; have BK382 := n2_; have BK389 := n3_; have HB := n4_; clear n0_ n1_ n2_ n3_ n4_; (try clear hb); (try clear hb2); (try clear hk); (try clear hi); have hcz30_0 : w29.cell? ⟨gb389, 0, none⟩ = some (.int .i64 t391) := (blk_cell BK389.out 0).trans rfl; have hcz30_1 : w29.cell? ⟨gb389, 1, none⟩ = some (.slice Ao25 t392.length co25) := (blk_cell BK389.out 1).trans rfl; have hfz30_0 := blk_frozen BK389.out 0; have hfz30_1 := blk_frozen BK389.out 1))
                go_ret
                exact ⟨by first | rfl | (simp [errW_none, errW_some] <;> rfl) | (simp [*, errW_none, errW_some] <;> rfl), by repeat (first | (with_reducible first | exact HB.out | apply below_alloc | apply pw_below_drewN | apply below_drew1 | refine below_set ?_ GE382.out | refine below_set ?_ GE389.out) | exact HB.out)⟩
              · rw [if_neg c20] at H
                have c20b0 : decide ((wrap64 (1 + (Int.tmod (wrap64 (a0)) 16))) < (t392.length : Int)) = false := decide_eq_false c20
                clear c20
                have H' := Aside0.mk H
                clear H
                try go_wp2
                have n0_ := Aside0.mk (Kd.V_drew HO_390001.out)
                have n1_ := Aside0.mk (blk_drew BK382.out)
                have n2_ := Aside0.mk (blk_drew BK389.out)
                have n3_ := Aside0.mk (below_drew1 HB.out)
                clear HO_390001
                clear BK382
                clear BK389
                clear HB
                have HO_390001 := n0_
                have BK382 := n1_
                have BK389 := n2_
                have HB := n3_
                clear n0_ n1_ n2_ n3_
                have p390 : 0 ≤ (x9_1 : Int) := of_decide_eq_true (by first | (with_reducible assumption) | assumption)
                have q390 : x9_1 < (l1.length : Int) := of_decide_eq_true (by first | (with_reducible assumption) | assumption)
                obtain ⟨ad390, e390, hx390_0, hx390_1, hx390_2, hx390_3⟩ := at_T49 HR1.out x9_1 p390 q390
                have hw390_3 := hx390_3
                have hw390_2 := hx390_2
                have hw390_1 := hx390_1
                have hw390_0 := hx390_0
                cases e390
                replace hx390_0 := (HB.out.cell (World.block_lt_of_cell? w _ hx390_0)).trans hx390_0
                replace hx390_1 := (HB.out.cell (World.block_lt_of_cell? w _ hx390_1)).trans hx390_1
                replace hx390_2 := (HB.out.cell (World.block_lt_of_cell? w _ hx390_2)).trans hx390_2
                replace hx390_3 := (HB.out.cell (World.block_lt_of_cell? w _ hx390_3)).trans hx390_3
                replace p390 := eq_true p390
                replace q390 := eq_true q390
                obtain ⟨Ao32, co32, eo32⟩ := Kd.V_slice HO_390001.out
                (first | subst eo32 | (injection eo32 with f1_ f2_ f3_; have f4_ := f1_.symm; have f5_ := f3_.symm; clear f1_ f2_ f3_; subst f4_; subst f5_))
                refine start_ (n := 10) (S := fun w' => w'.cell? ⟨gb389, 0, none⟩ = some (.int .i64 x390000_1) ∧ w'.cell? ⟨gb389, 1, none⟩ = some (.slice Ao32 x390001_1.length co32) ∧ w'.cell? (ad390.add ((x9_1).toNat * 4)) = some (.int .i64 ((rd_T49 l1 x9_1).f0)) ∧ w'.cell? ⟨(ad390.add ((x9_1).toNat * 4)).block, (ad390.add ((x9_1).toNat * 4)).off + 1, none⟩ = some (.int .i64 ((rd_T49 l1 x9_1).f1)) ∧ w'.cell? ⟨(ad390.add ((x9_1).toNat * 4)).block, (ad390.add ((x9_1).toNat * 4)).off + 2, none⟩ = some (.int .i64 ((rd_T49 l1 x9_1).f2)) ∧ w'.cell? ⟨(ad390.add ((x9_1).toNat * 4)).block, (ad390.add ((x9_1).toNat * 4)).off + 3, none⟩ = some (.int .u64 ((rd_T49 l1 x9_1).f3))) (ds := [9]) #[false, false, false, false, false, false, false, false, false, false] (by kernel_rfl) rfl rfl ⟨(blk_cell BK389.out 0).trans rfl, (blk_cell BK389.out 1).trans rfl, ((HB.out.cell (World.block_lt_of_cell? w _ hw390_0)).trans hw390_0), ((HB.out.cell (World.block_lt_of_cell? w _ hw390_1)).trans hw390_1), ((HB.out.cell (World.block_lt_of_cell? w _ hw390_2)).trans hw390_2), ((HB.out.cell (World.block_lt_of_cell? w _ hw390_3)).trans hw390_3)⟩ (fun hHeld => ?_); refine with_tabW estoverslaw07_TlbOnce.tab7 estoverslaw07_TlbOnce.bits7 (fun HT_ HW_ => ?_)
                generalize wr.drew = w31 at HO_390001 BK382 BK389 HB hx390_0 hx390_1 hx390_2 hx390_3 hHeld ⊢
                refine pure_ (i := 1) (N := some 33) (v := ?_) (a' := ?_) #[false, true, false, false, false, false, false, false, false, false] rfl rfl (any_of HT_.out (by kernel_rfl)) (fun _ _ _ h => h) (Or.inl ⟨by rfl, ?_⟩) ?_ ?_
                rotate_left
                · intro w'
                  go_simp
                  with_reducible rfl
                rotate_left
                · simp only [Act.put, List.setIfInBounds_toArray, List.set_cons_zero, List.set_cons_succ, i64_w, i32_w]
                  rfl
                refine pure_ (i := 2) (N := some 34) (v := ?_) (a' := ?_) #[false, true, true, false, false, false, false, false, false, false] rfl rfl (any_of HT_.out (by kernel_rfl)) (fun _ _ _ h => h) (Or.inl ⟨by rfl, ?_⟩) ?_ ?_
                rotate_left
                · intro w'
                  go_simp
                  with_reducible rfl
                rotate_left
                · simp only [Act.put, List.setIfInBounds_toArray, List.set_cons_zero, List.set_cons_succ, i64_w, i32_w]
                  rfl
                refine pure_ (i := 3) (N := some 35) (v := ?_) (a' := ?_) #[false, true, true, true, false, false, false, false, false, false] rfl rfl (any_of HT_.out (by kernel_rfl)) (fun _ _ _ h => h) (Or.inl ⟨by rfl, ?_⟩) ?_ ?_
                rotate_left
                · intro w'
                  go_simp
                  with_reducible rfl
                rotate_left
                · simp only [Act.put, List.setIfInBounds_toArray, List.set_cons_zero, List.set_cons_succ, i64_w, i32_w]
                  rfl
                refine take_ (i := 0) (N := some 32) (v := ?_) (a' := ?_) #[true, true, true, true, false, false, false, false, false, false] rfl rfl (take_ofW HT_.out HW_.out (by kernel_rfl)) (fun _ _ _ h => h) (Or.inl ⟨by rfl, ?_⟩) hHeld ?_ ?_
                rotate_left
                · rintro w' ⟨s0, s1, s2, s3, s4, s5⟩
                  go_simp
                  with_reducible rfl
                rotate_left
                · simp only [Act.put, List.setIfInBounds_toArray, List.set_cons_zero, List.set_cons_succ, i64_w, i32_w]
                  rfl
                refine take_ (i := 4) (N := some 36) (v := ?_) (a' := ?_) #[true, true, true, true, true, false, false, false, false, false] rfl rfl (take_ofW HT_.out HW_.out (by kernel_rfl)) (fun _ _ _ h => h) (Or.inl ⟨by rfl, ?_⟩) hHeld ?_ ?_
                rotate_left
                · rintro w' ⟨s0, s1, s2, s3, s4, s5⟩
                  go_simp
                  with_reducible rfl
                rotate_left
                · simp only [Act.put, List.setIfInBounds_toArray, List.set_cons_zero, List.set_cons_succ, i64_w, i32_w]
                  rfl
                refine one_ (i := 5) (N := some 37) #[true, true, true, true, true, true, false, false, false, false] rfl rfl (one_of HT_.out (by kernel_rfl)) (by decide) (fun K hK => ?_)
                refine goes_ Try.func28 (by kernel_rfl) rfl #[.agg #[.int .i64 x390000_1, .slice Ao32 x390001_1.length co32], .agg #[.int .i64 ((rd_T49 l1 x9_1).f0), .int .i64 ((rd_T49 l1 x9_1).f1), .int .i64 ((rd_T49 l1 x9_1).f2), .int .u64 ((rd_T49 l1 x9_1).f3)]] (by rfl) rfl rfl (by (try simp only [List.map_toArray, List.map_cons, List.map_nil]); first | done | rfl | (simp only [List.length_drop, List.length_take]; rfl)) ?_
                with_reducible refine (estoverslaw07_do.calls x390000_1 (fun k_ => (k_ ≠ gb382 ∧ k_ ≠ gb389)) _ _ x390001_1 ((rd_T49 l1 x9_1).f0) ((rd_T49 l1 x9_1).f1) ((rd_T49 l1 x9_1).f2) ((rd_T49 l1 x9_1).f3) t391 t392 t395 _ ?side1 A17.out).mono ?_
                (case side1 => exact HO_390001.out)
                rintro e w33 ⟨v393, rfl, ho0, hb⟩
                refine ⟨_, rfl, ?_⟩
                have n0_ := Aside0.mk (Kd.V_below (by (with_reducible repeat (first | apply Kd.V_alloc | apply Kd.V_drewN | apply Kd.V_drew)); exact HO_390001.out) hb)
                have n1_ := Aside0.mk (Kd.V_lower (Kd.V_mono (ok' := fun k_ => k_ ≠ gb382 ∧ k_ ≠ gb389) ho0 (fun k_ hk_ => ⟨Or.elim hk_ (fun hs_ => hs_.1) (fun hn_ => (Kd.freshB (g := gb382) (o := .cells #[.int .i64 a2_0, .int .i64 a2_1] 35 (0, 0)) (by (with_reducible repeat (first | refine blk_drewN ?_ _ | refine blk_drew ?_ | refine blk_alloc ?_ _)); exact BK382.out) k_ hn_)), Or.elim hk_ (fun hs_ => hs_.2) (fun hn_ => (Kd.freshB (g := gb389) (o := .cells #[.int .i64 x390000_1, .slice Ao32 x390001_1.length co32] 24 (0, 0)) (by (with_reducible repeat (first | refine blk_drewN ?_ _ | refine blk_drew ?_ | refine blk_alloc ?_ _)); exact BK389.out) k_ hn_))⟩)) (below_size (by repeat (first | (with_reducible first | exact HB.out | apply below_alloc | apply pw_below_drewN | apply below_drew1 | refine below_set ?_ GE382.out | refine below_set ?_ GE389.out) | exact HB.out))))
                have n2_ := Aside0.mk (blk_below (g := gb382) (o := .cells #[.int .i64 a2_0, .int .i64 a2_1] 35 (0, 0)) (by (with_reducible repeat (first | refine blk_drewN ?_ _ | refine blk_drew ?_ | refine blk_alloc ?_ _)); exact BK382.out) hb)
                have n3_ := Aside0.mk (blk_below (g := gb389) (o := .cells #[.int .i64 x390000_1, .slice Ao32 x390001_1.length co32] 24 (0, 0)) (by (with_reducible repeat (first | refine blk_drewN ?_ _ | refine blk_drew ?_ | refine blk_alloc ?_ _)); exact BK389.out) hb)
                have n4_ := Aside0.mk (below_step (by repeat (first | (with_reducible first | exact HB.out | apply below_alloc | apply pw_below_drewN | apply below_drew1 | refine below_set ?_ GE382.out | refine below_set ?_ GE389.out) | exact HB.out)) hb)
                clear HO_390001
                clear BK382
                clear BK389
                clear HB
                have HO_390001 := n0_
                have HO394 := n1_
                have BK382 := n2_
                have BK389 := n3_
                have HB := n4_
                clear n0_ n1_ n2_ n3_ n4_
                (try clear hb)
                (try clear hb2)
                (try clear hk)
                (try clear hi)
                (try clear ho0)
                obtain ⟨Ao35, co35, eo35⟩ := Kd.V_slice HO394.out
                (first | subst eo35 | (injection eo35 with f1_ f2_ f3_; have f4_ := f1_.symm; have f5_ := f3_.symm; clear f1_ f2_ f3_; subst f4_; subst f5_))
                refine hK.out _ _ ⟨(blk_cell BK389.out 0).trans rfl, (blk_cell BK389.out 1).trans rfl, ((HB.out.cell (World.block_lt_of_cell? w _ hw390_0)).trans hw390_0), ((HB.out.cell (World.block_lt_of_cell? w _ hw390_1)).trans hw390_1), ((HB.out.cell (World.block_lt_of_cell? w _ hw390_2)).trans hw390_2), ((HB.out.cell (World.block_lt_of_cell? w _ hw390_3)).trans hw390_3)⟩ (fun hHeld => ?_)
                clear hK K
                refine norm_ (a' := ?_) ?_ ?_
                rotate_left
                · show Act.put _ (some 37) _ = _
                  simp only [Act.put, List.setIfInBounds_toArray, List.set_cons_zero, List.set_cons_succ, i64_w, i32_w]
                  rfl
                refine pure_ (i := 6) (N := some 31) (v := ?_) (a' := ?_) #[true, true, true, true, true, true, true, false, false, false] rfl rfl (any_of HT_.out (by kernel_rfl)) (fun _ _ _ h => h) (Or.inl ⟨by rfl, ?_⟩) ?_ ?_
                rotate_left
                · intro w'
                  go_simp
                  with_reducible rfl
                rotate_left
                · simp only [Act.put, List.setIfInBounds_toArray, List.set_cons_zero, List.set_cons_succ, i64_w, i32_w]
                  rfl
                refine pure_ (i := 7) (N := some 38) (v := ?_) (a' := ?_) #[true, true, true, true, true, true, true, true, false, false] rfl rfl (any_of HT_.out (by kernel_rfl)) (fun _ _ _ h => h) (Or.inl ⟨by rfl, ?_⟩) ?_ ?_
                rotate_left
                · intro w'
                  go_simp
                  with_reducible rfl
                rotate_left
                · simp only [Act.put, List.setIfInBounds_toArray, List.set_cons_zero, List.set_cons_succ, i64_w, i32_w]
                  rfl
                refine pure_ (i := 8) (N := some 39) (v := ?_) (a' := ?_) #[true, true, true, true, true, true, true, true, true, false] rfl rfl (any_of HT_.out (by kernel_rfl)) (fun _ _ _ h => h) (Or.inl ⟨by rfl, ?_⟩) ?_ ?_
                rotate_left
                · intro w'
                  go_simp
                  with_reducible rfl
                rotate_left
                · simp only [Act.put, List.setIfInBounds_toArray, List.set_cons_zero, List.set_cons_succ, i64_w, i32_w]
                  rfl
                refine last_ (i := 9) (N := none) #[true, true, true, true, true, true, true, true, true, true] rfl rfl (one_of HT_.out (by kernel_rfl)) (by decide) (fun K hK => ?_)
                have hs34 : w33.cell? ⟨gb389, 0, none⟩ = some (.int .i64 x390000_1) := (blk_cell BK389.out 0).trans rfl
                have hfs34 := blk_frozen BK389.out 0
                have hns34_0 := NB382_389.out
                have hms34_0 := NB389_382.out
                have hs36 : w33.cell? ⟨gb389, 1, none⟩ = some (.slice Ao32 x390001_1.length co32) := (blk_cell BK389.out 1).trans rfl
                have hfs36 := blk_frozen BK389.out 1
                have hns36_0 := NB382_389.out
                have hms36_0 := NB389_382.out
                refine skip_ (w1 := ?_) (by rfl) rfl ?_ ?_
                rotate_left
                · go_simp
                  rfl
                refine hK.out _ _ ?_
                clear hK K
                refine done_ (done_of HT_.out (by kernel_rfl)) ?_
                have hnb37 := NB389_382.out
                have hnc37 := NB382_389.out
                have hcz38_0 : w33.cell? ⟨gb389, 0, none⟩ = some (.int .i64 x390000_1) := (blk_cell BK389.out 0).trans rfl
                have hcz38_1 : w33.cell? ⟨gb389, 1, none⟩ = some (.slice Ao32 x390001_1.length co32) := (blk_cell BK389.out 1).trans rfl
                have hfz38_0 := blk_frozen BK389.out 0
                have hfz38_1 := blk_frozen BK389.out 1
                try go_wp2_with (first | ((with_reducible refine gate_callee (f := 16) rfl ?_); refine goesL_ (some 41) rfl rfl Try.func16 (by kernel_rfl) rfl #[.agg #[.int .i64 t391, .slice Ao35 t392.length co35]] rfl (by (try simp only [List.map_toArray, List.map_cons, List.map_nil]); first | done | rfl | (simp only [List.length_drop, List.length_take]; rfl)) ?_; (with_reducible refine (tlb_Check.calls t391 _ _ t392 t396 _ ?side1 ?side2 A18.out).mono ?_); (case side1 => refine (Kd.V_reads' (e := 42) (base := w.heap.size) (ok := fun k_ => (k_ ≠ gb382 ∧ k_ ≠ gb389)) (n := t392.length) (c := co35) ?_).2.2; exact (by (with_reducible repeat (first | apply Kd.V_alloc | apply Kd.V_drewN | apply Kd.V_drew)); exact (Kd.V_mono (Kd.V_far (p := ⟨gb389, 1, none⟩) (Kd.V_far (p := ⟨gb389, 0, none⟩) (Kd.V_mono HO394.out (fun k_ hk => (⟨hk, hk.2⟩ : _ ∧ k_ ≠ gb389))) (fun _ hk => hk.2) (.int .i64 t391)) (fun _ hk => hk.2) (.slice Ao35 t392.length co35)) (fun _ h_ => h_.1)))); (case side2 => exact (Kd.V_reads' HO394.out).2.1); rintro e w39 ⟨rfl, hb⟩; refine ⟨_, rfl, ?_⟩; have n0_ := Aside0.mk (Kd.V_below (by (with_reducible repeat (first | apply Kd.V_alloc | apply Kd.V_drewN | apply Kd.V_drew)); exact (Kd.V_mono (Kd.V_far (p := ⟨gb389, 1, none⟩) (Kd.V_far (p := ⟨gb389, 0, none⟩) (Kd.V_mono HO_390001.out (fun k_ hk => (⟨hk, hk.2⟩ : _ ∧ k_ ≠ gb389))) (fun _ hk => hk.2) (.int .i64 t391)) (fun _ hk => hk.2) (.slice Ao35 t392.length co35)) (fun _ h_ => h_.1))) hb); have n1_ := Aside0.mk (Kd.V_below (by (with_reducible repeat (first | apply Kd.V_alloc | apply Kd.V_drewN | apply Kd.V_drew)); exact (Kd.V_mono (Kd.V_far (p := ⟨gb389, 1, none⟩) (Kd.V_far (p := ⟨gb389, 0, none⟩) (Kd.V_mono HO394.out (fun k_ hk => (⟨hk, hk.2⟩ : _ ∧ k_ ≠ gb389))) (fun _ hk => hk.2) (.int .i64 t391)) (fun _ hk => hk.2) (.slice Ao35 t392.length co35)) (fun _ h_ => h_.1))) hb); have n2_ := Aside0.mk (blk_below (g := gb382) (o := .cells #[.int .i64 a2_0, .int .i64 a2_1] 35 (0, 0)) (by (with_reducible repeat (first | refine blk_drewN ?_ _ | refine blk_drew ?_ | refine blk_alloc ?_ _)); refine blk_far ?_ NB382_389.out _; (with_reducible repeat (first | refine blk_drewN ?_ _ | refine blk_drew ?_ | refine blk_alloc ?_ _)); refine blk_far ?_ NB382_389.out _; (with_reducible repeat (first | refine blk_drewN ?_ _ | refine blk_drew ?_ | refine blk_alloc ?_ _)); exact BK382.out) hb); have n3_ := Aside0.mk (blk_below (g := gb389) (o := .cells #[.int .i64 t391, .slice Ao35 t392.length co35] 24 (0, 0)) (by (with_reducible repeat (first | refine blk_drewN ?_ _ | refine blk_drew ?_ | refine blk_alloc ?_ _)); refine blk_put (cs := #[.int .i64 t391, .slice Ao32 x390001_1.length co32]) ?_ 1 _ rfl; (with_reducible repeat (first | refine blk_drewN ?_ _ | refine blk_drew ?_ | refine blk_alloc ?_ _)); refine blk_put (cs := #[.int .i64 x390000_1, .slice Ao32 x390001_1.length co32]) ?_ 0 _ rfl; (with_reducible repeat (first | refine blk_drewN ?_ _ | refine blk_drew ?_ | refine blk_alloc ?_ _)); exact BK389.out) hb); have n4_ := Aside0.mk (below_step (by repeat (first | (with_reducible first | exact HB.out | apply below_alloc | apply pw_below_drewN | apply below_drew1 | refine below_set ?_ GE382.out | refine below_set ?_ GE389.out) | exact HB.out)) hb); clear HO_390001; clear HO394; clear BK382; clear BK389; clear HB; have HO_390001 := n0_; have HO394 := n1_; have BK382 := n2_; have BK389 := n3_; have HB := n4_; clear n0_ n1_ n2_ n3_ n4_; (try clear hb); (try clear hb2); (try clear hk); (try clear hi); have hcz40_0 : w39.cell? ⟨gb389, 0, none⟩ = some (.int .i64 t391) := (blk_cell BK389.out 0).trans rfl; have hcz40_1 : w39.cell? ⟨gb389, 1, none⟩ = some (.slice Ao35 t392.length co35) := (blk_cell BK389.out 1).trans rfl; have hfz40_0 := blk_frozen BK389.out 0; have hfz40_1 := blk_frozen BK389.out 1))
                go_roundg k1
                case measure => have := HK1.out; omega
                case rel => exact ⟨(wrap64 (x9_1 + 1)), (t391), (t392), (.slice Ao35 t392.length co35), (by first | rfl | (simp; done) | (simp [*]; done)), H', ⟨by have := HK1.out; omega⟩, ⟨by (with_reducible repeat (first | apply Kd.V_alloc | apply Kd.V_drewN | apply Kd.V_drew)); exact HO394.out⟩, ⟨by (with_reducible repeat (first | refine blk_drewN ?_ _ | refine blk_drew ?_ | refine blk_alloc ?_ _)); exact BK382.out⟩, ⟨by (with_reducible repeat (first | refine blk_drewN ?_ _ | refine blk_drew ?_ | refine blk_alloc ?_ _)); exact BK389.out⟩, ⟨by repeat (first | (with_reducible first | exact HB.out | apply below_alloc | apply pw_below_drewN | apply below_drew1 | refine below_set ?_ GE382.out | refine below_set ?_ GE389.out) | exact HB.out)⟩⟩
            · rw [if_neg c19] at H
              have c19b0 : (t396 == 0) = false := beq_eq_false_iff_ne.mpr c19
              have c19b1 : (t396 != 0) = true := bne_iff_ne.mpr c19
              obtain rfl := Option.some.inj H
              try go_wp2
              have n0_ := Aside0.mk (Kd.V_drew HO_390001.out)
              have n1_ := Aside0.mk (blk_drew BK382.out)
              have n2_ := Aside0.mk (blk_drew BK389.out)
              have n3_ := Aside0.mk (below_drew1 HB.out)
              clear HO_390001
              clear BK382
              clear BK389
              clear HB
              have HO_390001 := n0_
              have BK382 := n1_
              have BK389 := n2_
              have HB := n3_
              clear n0_ n1_ n2_ n3_
              have p390 : 0 ≤ (x9_1 : Int) := of_decide_eq_true (by first | (with_reducible assumption) | assumption)
              have q390 : x9_1 < (l1.length : Int) := of_decide_eq_true (by first | (with_reducible assumption) | assumption)
              obtain ⟨ad390, e390, hx390_0, hx390_1, hx390_2, hx390_3⟩ := at_T49 HR1.out x9_1 p390 q390
              have hw390_3 := hx390_3
              have hw390_2 := hx390_2
              have hw390_1 := hx390_1
              have hw390_0 := hx390_0
              cases e390
              replace hx390_0 := (HB.out.cell (World.block_lt_of_cell? w _ hx390_0)).trans hx390_0
              replace hx390_1 := (HB.out.cell (World.block_lt_of_cell? w _ hx390_1)).trans hx390_1
              replace hx390_2 := (HB.out.cell (World.block_lt_of_cell? w _ hx390_2)).trans hx390_2
              replace hx390_3 := (HB.out.cell (World.block_lt_of_cell? w _ hx390_3)).trans hx390_3
              replace p390 := eq_true p390
              replace q390 := eq_true q390
              obtain ⟨Ao42, co42, eo42⟩ := Kd.V_slice HO_390001.out
              (first | subst eo42 | (injection eo42 with f1_ f2_ f3_; have f4_ := f1_.symm; have f5_ := f3_.symm; clear f1_ f2_ f3_; subst f4_; subst f5_))
              refine start_ (n := 10) (S := fun w' => w'.cell? ⟨gb389, 0, none⟩ = some (.int .i64 x390000_1) ∧ w'.cell? ⟨gb389, 1, none⟩ = some (.slice Ao42 x390001_1.length co42) ∧ w'.cell? (ad390.add ((x9_1).toNat * 4)) = some (.int .i64 ((rd_T49 l1 x9_1).f0)) ∧ w'.cell? ⟨(ad390.add ((x9_1).toNat * 4)).block, (ad390.add ((x9_1).toNat * 4)).off + 1, none⟩ = some (.int .i64 ((rd_T49 l1 x9_1).f1)) ∧ w'.cell? ⟨(ad390.add ((x9_1).toNat * 4)).block, (ad390.add ((x9_1).toNat * 4)).off + 2, none⟩ = some (.int .i64 ((rd_T49 l1 x9_1).f2)) ∧ w'.cell? ⟨(ad390.add ((x9_1).toNat * 4)).block, (ad390.add ((x9_1).toNat * 4)).off + 3, none⟩ = some (.int .u64 ((rd_T49 l1 x9_1).f3))) (ds := [9]) #[false, false, false, false, false, false, false, false, false, false] (by kernel_rfl) rfl rfl ⟨(blk_cell BK389.out 0).trans rfl, (blk_cell BK389.out 1).trans rfl, ((HB.out.cell (World.block_lt_of_cell? w _ hw390_0)).trans hw390_0), ((HB.out.cell (World.block_lt_of_cell? w _ hw390_1)).trans hw390_1), ((HB.out.cell (World.block_lt_of_cell? w _ hw390_2)).trans hw390_2), ((HB.out.cell (World.block_lt_of_cell? w _ hw390_3)).trans hw390_3)⟩ (fun hHeld => ?_); refine with_tabW estoverslaw07_TlbOnce.tab7 estoverslaw07_TlbOnce.bits7 (fun HT_ HW_ => ?_)
              generalize wr.drew = w41 at HO_390001 BK382 BK389 HB hx390_0 hx390_1 hx390_2 hx390_3 hHeld ⊢
              refine pure_ (i := 1) (N := some 33) (v := ?_) (a' := ?_) #[false, true, false, false, false, false, false, false, false, false] rfl rfl (any_of HT_.out (by kernel_rfl)) (fun _ _ _ h => h) (Or.inl ⟨by rfl, ?_⟩) ?_ ?_
              rotate_left
              · intro w'
                go_simp
                with_reducible rfl
              rotate_left
              · simp only [Act.put, List.setIfInBounds_toArray, List.set_cons_zero, List.set_cons_succ, i64_w, i32_w]
                rfl
              refine pure_ (i := 2) (N := some 34) (v := ?_) (a' := ?_) #[false, true, true, false, false, false, false, false, false, false] rfl rfl (any_of HT_.out (by kernel_rfl)) (fun _ _ _ h => h) (Or.inl ⟨by rfl, ?_⟩) ?_ ?_
              rotate_left
              · intro w'
                go_simp
                with_reducible rfl
              rotate_left
              · simp only [Act.put, List.setIfInBounds_toArray, List.set_cons_zero, List.set_cons_succ, i64_w, i32_w]
                rfl
              refine pure_ (i := 3) (N := some 35) (v := ?_) (a' := ?_) #[false, true, true, true, false, false, false, false, false, false] rfl rfl (any_of HT_.out (by kernel_rfl)) (fun _ _ _ h => h) (Or.inl ⟨by rfl, ?_⟩) ?_ ?_
              rotate_left
              · intro w'
                go_simp
                with_reducible rfl
              rotate_left
              · simp only [Act.put, List.setIfInBounds_toArray, List.set_cons_zero, List.set_cons_succ, i64_w, i32_w]
                rfl
              refine take_ (i := 0) (N := some 32) (v := ?_) (a' := ?_) #[true, true, true, true, false, false, false, false, false, false] rfl rfl (take_ofW HT_.out HW_.out (by kernel_rfl)) (fun _ _ _ h => h) (Or.inl ⟨by rfl, ?_⟩) hHeld ?_ ?_
              rotate_left
              · rintro w' ⟨s0, s1, s2, s3, s4, s5⟩
                go_simp
                with_reducible rfl
              rotate_left
              · simp only [Act.put, List.setIfInBounds_toArray, List.set_cons_zero, List.set_cons_succ, i64_w, i32_w]
                rfl
              refine take_ (i := 4) (N := some 36) (v := ?_) (a' := ?_) #[true, true, true, true, true, false, false, false, false, false] rfl rfl (take_ofW HT_.out HW_.out (by kernel_rfl)) (fun _ _ _ h => h) (Or.inl ⟨by rfl, ?_⟩) hHeld ?_ ?_
              rotate_left
              · rintro w' ⟨s0, s1, s2, s3, s4, s5⟩
                go_simp
                with_reducible rfl
              rotate_left
              · simp only [Act.put, List.setIfInBounds_toArray, List.set_cons_zero, List.set_cons_succ, i64_w, i32_w]
                rfl
              refine one_ (i := 5) (N := some 37) #[true, true, true, true, true, true, false, false, false, false] rfl rfl (one_of HT_.out (by kernel_rfl)) (by decide) (fun K hK => ?_)
              refine goes_ Try.func28 (by kernel_rfl) rfl #[.agg #[.int .i64 x390000_1, .slice Ao42 x390001_1.length co42], .agg #[.int .i64 ((rd_T49 l1 x9_1).f0), .int .i64 ((rd_T49 l1 x9_1).f1), .int .i64 ((rd_T49 l1 x9_1).f2), .int .u64 ((rd_T49 l1 x9_1).f3)]] (by rfl) rfl rfl (by (try simp only [List.map_toArray, List.map_cons, List.map_nil]); first | done | rfl | (simp only [List.length_drop, List.length_take]; rfl)) ?_
              with_reducible refine (estoverslaw07_do.calls x390000_1 (fun k_ => (k_ ≠ gb382 ∧ k_ ≠ gb389)) _ _ x390001_1 ((rd_T49 l1 x9_1).f0) ((rd_T49 l1 x9_1).f1) ((rd_T49 l1 x9_1).f2) ((rd_T49 l1 x9_1).f3) t391 t392 t395 _ ?side1 A17.out).mono ?_
              (case side1 => exact HO_390001.out)
              rintro e w43 ⟨v393, rfl, ho0, hb⟩
              refine ⟨_, rfl, ?_⟩
              have n0_ := Aside0.mk (Kd.V_below (by (with_reducible repeat (first | apply Kd.V_alloc | apply Kd.V_drewN | apply Kd.V_drew)); exact HO_390001.out) hb)
              have n1_ := Aside0.mk (Kd.V_lower (Kd.V_mono (ok' := fun k_ => k_ ≠ gb382 ∧ k_ ≠ gb389) ho0 (fun k_ hk_ => ⟨Or.elim hk_ (fun hs_ => hs_.1) (fun hn_ => (Kd.freshB (g := gb382) (o := .cells #[.int .i64 a2_0, .int .i64 a2_1] 35 (0, 0)) (by (with_reducible repeat (first | refine blk_drewN ?_ _ | refine blk_drew ?_ | refine blk_alloc ?_ _)); exact BK382.out) k_ hn_)), Or.elim hk_ (fun hs_ => hs_.2) (fun hn_ => (Kd.freshB (g := gb389) (o := .cells #[.int .i64 x390000_1, .slice Ao42 x390001_1.length co42] 24 (0, 0)) (by (with_reducible repeat (first | refine blk_drewN ?_ _ | refine blk_drew ?_ | refine blk_alloc ?_ _)); exact BK389.out) k_ hn_))⟩)) (below_size (by repeat (first | (with_reducible first | exact HB.out | apply below_alloc | apply pw_below_drewN | apply below_drew1 | refine below_set ?_ GE382.out | refine below_set ?_ GE389.out) | exact HB.out))))
              have n2_ := Aside0.mk (blk_below (g := gb382) (o := .cells #[.int .i64 a2_0, .int .i64 a2_1] 35 (0, 0)) (by (with_reducible repeat (first | refine blk_drewN ?_ _ | refine blk_drew ?_ | refine blk_alloc ?_ _)); exact BK382.out) hb)
              have n3_ := Aside0.mk (blk_below (g := gb389) (o := .cells #[.int .i64 x390000_1, .slice Ao42 x390001_1.length co42] 24 (0, 0)) (by (with_reducible repeat (first | refine blk_drewN ?_ _ | refine blk_drew ?_ | refine blk_alloc ?_ _)); exact BK389.out) hb)
              have n4_ := Aside0.mk (below_step (by repeat (first | (with_reducible first | exact HB.out | apply below_alloc | apply pw_below_drewN | apply below_drew1 | refine below_set ?_ GE382.out | refine below_set ?_ GE389.out) | exact HB.out)) hb)
              clear HO_390001
              clear BK382
              clear BK389
              clear HB
              have HO_390001 := n0_
              have HO394 := n1_
              have BK382 := n2_
              have BK389 := n3_
              have HB := n4_
              clear n0_ n1_ n2_ n3_ n4_
              (try clear hb)
              (try clear hb2)
              (try clear hk)
              (try clear hi)
              (try clear ho0)
              obtain ⟨Ao45, co45, eo45⟩ := Kd.V_slice HO394.out
              (first | subst eo45 | (injection eo45 with f1_ f2_ f3_; have f4_ := f1_.symm; have f5_ := f3_.symm; clear f1_ f2_ f3_; subst f4_; subst f5_))
              refine hK.out _ _ ⟨(blk_cell BK389.out 0).trans rfl, (blk_cell BK389.out 1).trans rfl, ((HB.out.cell (World.block_lt_of_cell? w _ hw390_0)).trans hw390_0), ((HB.out.cell (World.block_lt_of_cell? w _ hw390_1)).trans hw390_1), ((HB.out.cell (World.block_lt_of_cell? w _ hw390_2)).trans hw390_2), ((HB.out.cell (World.block_lt_of_cell? w _ hw390_3)).trans hw390_3)⟩ (fun hHeld => ?_)
              clear hK K
              refine norm_ (a' := ?_) ?_ ?_
              rotate_left
              · show Act.put _ (some 37) _ = _
                simp only [Act.put, List.setIfInBounds_toArray, List.set_cons_zero, List.set_cons_succ, i64_w, i32_w]
                rfl
              refine pure_ (i := 6) (N := some 31) (v := ?_) (a' := ?_) #[true, true, true, true, true, true, true, false, false, false] rfl rfl (any_of HT_.out (by kernel_rfl)) (fun _ _ _ h => h) (Or.inl ⟨by rfl, ?_⟩) ?_ ?_
              rotate_left
              · intro w'
                go_simp
                with_reducible rfl
              rotate_left
              · simp only [Act.put, List.setIfInBounds_toArray, List.set_cons_zero, List.set_cons_succ, i64_w, i32_w]
                rfl
              refine pure_ (i := 7) (N := some 38) (v := ?_) (a' := ?_) #[true, true, true, true, true, true, true, true, false, false] rfl rfl (any_of HT_.out (by kernel_rfl)) (fun _ _ _ h => h) (Or.inl ⟨by rfl, ?_⟩) ?_ ?_
              rotate_left
              · intro w'
                go_simp
                with_reducible rfl
              rotate_left
              · simp only [Act.put, List.setIfInBounds_toArray, List.set_cons_zero, List.set_cons_succ, i64_w, i32_w]
                rfl
              refine pure_ (i := 8) (N := some 39) (v := ?_) (a' := ?_) #[true, true, true, true, true, true, true, true, true, false] rfl rfl (any_of HT_.out (by kernel_rfl)) (fun _ _ _ h => h) (Or.inl ⟨by rfl, ?_⟩) ?_ ?_
              rotate_left
              · intro w'
                go_simp
                with_reducible rfl
              rotate_left
              · simp only [Act.put, List.setIfInBounds_toArray, List.set_cons_zero, List.set_cons_succ, i64_w, i32_w]
                rfl
              refine last_ (i := 9) (N := none) #[true, true, true, true, true, true, true, true, true, true] rfl rfl (one_of HT_.out (by kernel_rfl)) (by decide) (fun K hK => ?_)
              have hs44 : w43.cell? ⟨gb389, 0, none⟩ = some (.int .i64 x390000_1) := (blk_cell BK389.out 0).trans rfl
              have hfs44 := blk_frozen BK389.out 0
              have hns44_0 := NB382_389.out
              have hms44_0 := NB389_382.out
              have hs46 : w43.cell? ⟨gb389, 1, none⟩ = some (.slice Ao42 x390001_1.length co42) := (blk_cell BK389.out 1).trans rfl
              have hfs46 := blk_frozen BK389.out 1
              have hns46_0 := NB382_389.out
              have hms46_0 := NB389_382.out
              refine skip_ (w1 := ?_) (by rfl) rfl ?_ ?_
              rotate_left
              · go_simp
                rfl
              refine hK.out _ _ ?_
              clear hK K
              refine done_ (done_of HT_.out (by kernel_rfl)) ?_
              have hnb47 := NB389_382.out
              have hnc47 := NB382_389.out
              have hcz48_0 : w43.cell? ⟨gb389, 0, none⟩ = some (.int .i64 x390000_1) := (blk_cell BK389.out 0).trans rfl
              have hcz48_1 : w43.cell? ⟨gb389, 1, none⟩ = some (.slice Ao42 x390001_1.length co42) := (blk_cell BK389.out 1).trans rfl
              have hfz48_0 := blk_frozen BK389.out 0
              have hfz48_1 := blk_frozen BK389.out 1
              try go_wp2_with (first | ((with_reducible refine gate_callee (f := 16) rfl ?_); refine goesL_ (some 41) rfl rfl Try.func16 (by kernel_rfl) rfl #[.agg #[.int .i64 t391, .slice Ao45 t392.length co45]] rfl (by (try simp only [List.map_toArray, List.map_cons, List.map_nil]); first | done | rfl | (simp only [List.length_drop, List.length_take]; rfl)) ?_; (with_reducible refine (tlb_Check.calls t391 _ _ t392 t396 _ ?side1 ?side2 A18.out).mono ?_); (case side1 => refine (Kd.V_reads' (e := 42) (base := w.heap.size) (ok := fun k_ => (k_ ≠ gb382 ∧ k_ ≠ gb389)) (n := t392.length) (c := co45) ?_).2.2; exact (by (with_reducible repeat (first | apply Kd.V_alloc | apply Kd.V_drewN | apply Kd.V_drew)); exact (Kd.V_mono (Kd.V_far (p := ⟨gb389, 1, none⟩) (Kd.V_far (p := ⟨gb389, 0, none⟩) (Kd.V_mono HO394.out (fun k_ hk => (⟨hk, hk.2⟩ : _ ∧ k_ ≠ gb389))) (fun _ hk => hk.2) (.int .i64 t391)) (fun _ hk => hk.2) (.slice Ao45 t392.length co45)) (fun _ h_ => h_.1)))); (case side2 => exact (Kd.V_reads' HO394.out).2.1); rintro e w49 ⟨rfl, hb⟩; refine ⟨_, rfl, ?_⟩; have n0_ := Aside0.mk (Kd.V_below (by (with_reducible repeat (first | apply Kd.V_alloc | apply Kd.V_drewN | apply Kd.V_drew)); exact (Kd.V_mono (Kd.V_far (p := ⟨gb389, 1, none⟩) (Kd.V_far (p := ⟨gb389, 0, none⟩) (Kd.V_mono HO_390001.out (fun k_ hk => (⟨hk, hk.2⟩ : _ ∧ k_ ≠ gb389))) (fun _ hk => hk.2) (.int .i64 t391)) (fun _ hk => hk.2) (.slice Ao45 t392.length co45)) (fun _ h_ => h_.1))) hb); have n1_ := Aside0.mk (Kd.V_below (by (with_reducible repeat (first | apply Kd.V_alloc | apply Kd.V_drewN | apply Kd.V_drew)); exact (Kd.V_mono (Kd.V_far (p := ⟨gb389, 1, none⟩) (Kd.V_far (p := ⟨gb389, 0, none⟩) (Kd.V_mono HO394.out (fun k_ hk => (⟨hk, hk.2⟩ : _ ∧ k_ ≠ gb389))) (fun _ hk => hk.2) (.int .i64 t391)) (fun _ hk => hk.2) (.slice Ao45 t392.length co45)) (fun _ h_ => h_.1))) hb); have n2_ := Aside0.mk (blk_below (g := gb382) (o := .cells #[.int .i64 a2_0, .int .i64 a2_1] 35 (0, 0)) (by (with_reducible repeat (first | refine blk_drewN ?_ _ | refine blk_drew ?_ | refine blk_alloc ?_ _)); refine blk_far ?_ NB382_389.out _; (with_reducible repeat (first | refine blk_drewN ?_ _ | refine blk_drew ?_ | refine blk_alloc ?_ _)); refine blk_far ?_ NB382_389.out _; (with_reducible repeat (first | refine blk_drewN ?_ _ | refine blk_drew ?_ | refine blk_alloc ?_ _)); exact BK382.out) hb); have n3_ := Aside0.mk (blk_below (g := gb389) (o := .cells #[.int .i64 t391, .slice Ao45 t392.length co45] 24 (0, 0)) (by (with_reducible repeat (first | refine blk_drewN ?_ _ | refine blk_drew ?_ | refine blk_alloc ?_ _)); refine blk_put (cs := #[.int .i64 t391, .slice Ao42 x390001_1.length co42]) ?_ 1 _ rfl; (with_reducible repeat (first | refine blk_drewN ?_ _ | refine blk_drew ?_ | refine blk_alloc ?_ _)); refine blk_put (cs := #[.int .i64 x390000_1, .slice Ao42 x390001_1.length co42]) ?_ 0 _ rfl; (with_reducible repeat (first | refine blk_drewN ?_ _ | refine blk_drew ?_ | refine blk_alloc ?_ _)); exact BK389.out) hb); have n4_ := Aside0.mk (below_step (by repeat (first | (with_reducible first | exact HB.out | apply below_alloc | apply pw_below_drewN | apply below_drew1 | refine below_set ?_ GE382.out | refine below_set ?_ GE389.out) | exact HB.out)) hb); clear HO_390001; clear HO394; clear BK382; clear BK389; clear HB; have HO_390001 := n0_; have HO394 := n1_; have BK382 := n2_; have BK389 := n3_; have HB := n4_; clear n0_ n1_ n2_ n3_ n4_; (try clear hb); (try clear hb2); (try clear hk); (try clear hi)))
              go_ret
              exact ⟨by first | rfl | (simp [errW_none, errW_some] <;> rfl) | (simp [*, errW_none, errW_some] <;> rfl), by repeat (first | (with_reducible first | exact HB.out | apply below_alloc | apply pw_below_drewN | apply below_drew1 | refine below_set ?_ GE382.out | refine below_set ?_ GE389.out) | exact HB.out)⟩
          · rw [if_neg c16] at H
            exact absurd H (by simp)
        · rw [if_neg c15] at H
          have c15b0 : decide (x9_1 < (l1.length : Int)) = false := decide_eq_false c15
          clear c15
          have H' := Aside0.mk H
          clear H
          go_wp2
          go_loopg [10, 11] k1 (fun kq v10 v11 w' => ∃ (x10_2 : Int) (x11_2 : Int), v10 = .int .i64 x10_2 ∧ v11 = .int .i64 x11_2 ∧ Aside0 (estoverslaw07_TlbOnce.l1 kq x10_2 x11_2 a2_0 a2_1 x390000_1 x390001_1 = some r) ∧ Aside0 (kq ≤ k1) ∧ Aside0 (Kd.V k42 42 w' w.heap.size (fun k_ => k_ ≠ gb382 ∧ k_ ≠ gb389) u390001 x390001_1) ∧ Aside0 (w'.heap[gb382]? = some (.cells #[.int .i64 a2_0, .int .i64 a2_1] 35 (0, 0))) ∧ Aside0 (w'.heap[gb389]? = some (.cells #[.int .i64 x390000_1, u390001] 24 (0, 0))) ∧ Aside0 (Below w.heap.size w w'))
          case atStart => exact ⟨(0), (0), (by first | rfl | (simp; done) | (simp [*]; done)), (by first | rfl | (simp; done) | (simp [*]; done)), H', ⟨Nat.le_refl _⟩, ⟨by (with_reducible repeat (first | apply Kd.V_alloc | apply Kd.V_drewN | apply Kd.V_drew)); exact HO_390001.out⟩, ⟨by (with_reducible repeat (first | refine blk_drewN ?_ _ | refine blk_drew ?_ | refine blk_alloc ?_ _)); exact BK382.out⟩, ⟨by (with_reducible repeat (first | refine blk_drewN ?_ _ | refine blk_drew ?_ | refine blk_alloc ?_ _)); exact BK389.out⟩, ⟨by repeat (first | (with_reducible first | exact HB.out | apply below_alloc | apply pw_below_drewN | apply below_drew1 | refine below_set ?_ GE382.out | refine below_set ?_ GE389.out) | exact HB.out)⟩⟩
          case round =>
            clear H'
            try clear c1
            try clear c2
            try clear p2
            try clear c3
            try clear p3
            try clear q3
            try clear hx3
            try clear c4
            try clear c4b0
            try clear c4b1
            try clear p6
            try clear c9
            try clear c12
            try clear c13
            try clear c14
            try clear c15
            try clear c15b0
            try clear c16
            try clear c16b0
            try clear c19
            try clear c19b0
            try clear c19b1
            try clear c20
            try clear c20b0
            try clear c27
            try clear c28
            try clear c37
            try clear p39
            try clear q39
            try clear hx39
            try clear c47
            try clear hcz13_0
            try clear hcz13_1
            try clear hcz28_0
            try clear hcz28_1
            try clear hcz30_0
            try clear hcz30_1
            try clear hcz38_0
            try clear hcz38_1
            try clear hcz40_0
            try clear hcz40_1
            try clear hcz48_0
            try clear hcz48_1
            try clear hfz13_0
            try clear hfz13_1
            try clear hfz28_0
            try clear hfz28_1
            try clear hfz30_0
            try clear hfz30_1
            try clear hfz38_0
            try clear hfz38_1
            try clear hfz40_0
            try clear hfz40_1
            try clear hfz48_0
            try clear hfz48_1
            try clear hx390_0
            try clear hx390_1
            try clear hx390_2
            try clear hx390_3
            try clear p2
            try clear p390
            try clear p6
            try clear q390
            obtain ⟨x10_2, x11_2, rfl, rfl, HA, HK2, HO_390001, BK382, BK389, HB⟩ := hrel
            cases gk with
            | zero => exact absurd HA.out (by simp [estoverslaw07_TlbOnce.l1])
            | succ k2 =>
              have H := HA.out
              clear HA
              simp only [estoverslaw07_TlbOnce.l1] at H
              by_cases c50 : x11_2 < (x390001_1.length : Int)
              · rw [if_pos c50] at H
                have c50b0 : decide (x11_2 < (x390001_1.length : Int)) = true := decide_eq_true c50
                clear c50
                by_cases c51 : 0 ≤ x11_2
                · rw [if_pos c51] at H
                  have c51b0 := eq_true c51
                  have c51b1 : decide (0 ≤ x11_2) = true := decide_eq_true c51
                  clear c51
                  by_cases c52 : x11_2 ≤ (wrap64 (x11_2 + 1))
                  · rw [if_pos c52] at H
                    have c52b0 := eq_true c52
                    have c52b1 : decide (x11_2 ≤ (wrap64 (x11_2 + 1))) = true := decide_eq_true c52
                    by_cases c53 : (wrap64 (x11_2 + 1)) ≤ (x390001_1.length : Int)
                    · rw [if_pos c53] at H
                      have c53b0 := eq_true c53
                      have c53b1 : decide ((wrap64 (x11_2 + 1)) ≤ (x390001_1.length : Int)) = true := decide_eq_true c53
                      obtain ⟨y397, hy397⟩ : ∃ y_ : List (S42), y_ = ((x390001_1.take ((wrap64 (x11_2 + 1)) : Int).toNat).drop (x11_2 : Int).toNat) := ⟨_, rfl⟩
                      replace H : ((tlb_Covers.f k2 1 y397 a2_0 a2_1).bind fun t403 => (if t403 = true then (estoverslaw07_TlbOnce.l1 k2 (wrap64 (x10_2 + 1)) (wrap64 (x11_2 + 1)) a2_0 a2_1 x390000_1 x390001_1) else (estoverslaw07_TlbOnce.l1 k2 x10_2 (wrap64 (x11_2 + 1)) a2_0 a2_1 x390000_1 x390001_1))) = some r := by first | (rw [hy397]; with_reducible exact H) | (have H2_ := (Option.bind_some _ _).symm.trans H; rw [hy397]; with_reducible exact H2_) | (have H2_ := (Option.bind_some _ _).symm.trans H; with_reducible exact H2_) | with_reducible exact H | (rw [hy397]; exact H) | exact H
                      have Ny397 := Aside0.mk hy397
                      clear hy397
                      replace H := Option.bind_eq_some_iff.mp H
                      obtain ⟨t403, A540, H⟩ := H
                      replace H : (if t403 = true then (estoverslaw07_TlbOnce.l1 k2 (wrap64 (x10_2 + 1)) (wrap64 (x11_2 + 1)) a2_0 a2_1 x390000_1 x390001_1) else (estoverslaw07_TlbOnce.l1 k2 x10_2 (wrap64 (x11_2 + 1)) a2_0 a2_1 x390000_1 x390001_1)) = some r := H
                      have A54 := Aside0.mk A540
                      clear A540
                      by_cases c55 : t403 = true
                      · subst c55
                        have H1 : (estoverslaw07_TlbOnce.l1 k2 (wrap64 (x10_2 + 1)) (wrap64 (x11_2 + 1)) a2_0 a2_1 x390000_1 x390001_1) = some r := by rw [if_pos rfl] at H; exact H
                        clear H
                        have H := H1
                        clear H1
                        have H' := Aside0.mk H
                        clear H
                        have hnb56 := NB389_382.out
                        have hnc56 := NB382_389.out
                        have hcz57_0 : wr.cell? ⟨gb389, 0, none⟩ = some (.int .i64 x390000_1) := (blk_cell BK389.out 0).trans rfl
                        have hcz57_1 : wr.cell? ⟨gb389, 1, none⟩ = some (u390001) := (blk_cell BK389.out 1).trans rfl
                        have hfz57_0 := blk_frozen BK389.out 0
                        have hfz57_1 := blk_frozen BK389.out 1
                        obtain ⟨Ao58, co58, eo58⟩ := Kd.V_slice HO_390001.out
                        subst eo58
                        have q59 : ((wrap64 (x11_2 + 1)) : Int) ≤ ((x390001_1.length : Int) : Int) := of_decide_eq_true (by first | (with_reducible assumption) | assumption)
                        obtain ⟨i059, hi059, _, hsz59, _⟩ := info_parts info42
                        have hroom59 : x390001_1.length ≤ co58 := (Kd.V_reads' HO_390001.out).2.1
                        have hC59 : Kd.F k42 _ _ Ao58 x390001_1.length x390001_1 := (Kd.V_at (base := w.heap.size) HO_390001.out).2.2
                        have ql59 : (x11_2 : Int) ≤ ((wrap64 (x11_2 + 1)) : Int) := of_decide_eq_true (by first | (with_reducible assumption) | assumption)
                        have q059 : (0 : Int) ≤ (x11_2 : Int) := of_decide_eq_true (by first | (with_reducible assumption) | assumption)
                        have hcut59 := cut_mid (P := Try.prog) 22 42 .i64 .i64 Try.underlying22 hi059 3 hsz59 Ao58 x390001_1.length co58 x11_2 (wrap64 (x11_2 + 1)) q059 ql59 q59 hroom59
                        have hr59 := Kd.F_mid (lo := (x11_2 : Int).toNat) (hi := ((wrap64 (x11_2 + 1)) : Int).toNat) (c := co58) hC59 (by omega) (by omega) hroom59
                        obtain ⟨A59, hA59⟩ : ∃ A1, A1 = (if co58 = (x11_2 : Int).toNat then Ao58 else (Ao58 : Option Addr).map (·.add ((x11_2 : Int).toNat * 3))) := ⟨_, rfl⟩
                        obtain ⟨c59, hc59⟩ : ∃ c1, c1 = co58 - (x11_2 : Int).toNat := ⟨_, rfl⟩
                        have hy59 : y397.length = ((wrap64 (x11_2 + 1)) : Int).toNat - (x11_2 : Int).toNat := (by rw [Ny397.out, List.length_drop, List.length_take] <;> omega)
                        rw [show ((x390001_1).take ((wrap64 (x11_2 + 1)) : Int).toNat).drop (x11_2 : Int).toNat = y397 from Ny397.out.symm] at hr59
                        replace hr59 : Kd.F k42 _ _ A59 y397.length y397 := (by rw [hA59]; exact hr59)
                        rw [← hy59, ← hA59, ← hc59] at hcut59
                        have HO401 := Aside0.mk (show Kd.V k42 42 _ w.heap.size _ (.slice A59 y397.length c59) y397 from Kd.V_mk (by rw [hy59, hc59]; exact Nat.sub_le_sub_right (Nat.le_trans (by omega) hroom59) _) hr59)
                        have HC401 := Aside0.mk (show y397.length ≤ c59 from by rw [hy59, hc59]; exact Nat.sub_le_sub_right (Nat.le_trans (by omega) hroom59) _)
                        clear hr59 hC59 hroom59 hi059 hsz59 hc59
                        have KY59 := Aside0.mk hy59
                        have KA59 := Aside0.mk hA59
                        clear hy59 hA59
                        replace q59 := eq_true q59
                        go_wp2_with (first | ((with_reducible refine gate_dst (N := 12) rfl ?_); (try (refine gate_guard (by rfl) ?_; dsimp only)); refine box_event ?hg (N := 12) ?hd (cs := #[.int .i64 0, .slice none 0 0]) (t := 24) ?hr ?_; (case hd => rfl); (case hg => rfl); (case hr => first | (go_simp; done) | (go_simp; rfl)); intro gb402 hg w60 hbox hb; have n0_ := Aside0.mk (Kd.V_below (Kd.V_elderB (by (with_reducible repeat (first | apply Kd.V_alloc | apply Kd.V_drewN | apply Kd.V_drew)); exact HO_390001.out) gb402 (Nat.le_of_eq hg.symm)) hb); have n1_ := Aside0.mk (Kd.V_below (Kd.V_elderB (by (with_reducible repeat (first | apply Kd.V_alloc | apply Kd.V_drewN | apply Kd.V_drew)); exact HO401.out) gb402 (Nat.le_of_eq hg.symm)) hb); have n2_ := Aside0.mk (blk_below (g := gb382) (o := .cells #[.int .i64 a2_0, .int .i64 a2_1] 35 (0, 0)) (by (with_reducible repeat (first | refine blk_drewN ?_ _ | refine blk_drew ?_ | refine blk_alloc ?_ _)); exact BK382.out) hb); have n3_ := Aside0.mk (blk_below (g := gb389) (o := .cells #[.int .i64 x390000_1, .slice Ao58 x390001_1.length co58] 24 (0, 0)) (by (with_reducible repeat (first | refine blk_drewN ?_ _ | refine blk_drew ?_ | refine blk_alloc ?_ _)); exact BK389.out) hb); have n4_ := Aside0.mk (below_step (by repeat (first | (with_reducible first | exact HB.out | apply below_alloc | apply pw_below_drewN | apply below_drew1 | refine below_set ?_ GE382.out | refine below_set ?_ GE389.out) | exact HB.out)) hb); have n5_ := Aside0.mk (hbox); have n6_ := Aside0.mk ((by rw [hg]; exact (below_size (by repeat (first | (with_reducible first | exact HB.out | apply below_alloc | apply pw_below_drewN | apply below_drew1 | refine below_set ?_ GE382.out | refine below_set ?_ GE389.out) | exact HB.out))) : w.heap.size ≤ gb402)); have n7_ := Aside0.mk ((by rw [hg]; exact (below_size (by repeat (first | (with_reducible first | exact HB.out | apply below_alloc | apply pw_below_drewN | apply below_drew1 | refine below_set ?_ GE382.out | refine below_set ?_ GE389.out) | exact HB.out))) : w.heap.size ≤ gb402)); have n8_ := Aside0.mk ((by rw [hg]; exact Nat.ne_of_lt (blk_lt (g := gb382) (o := .cells #[.int .i64 a2_0, .int .i64 a2_1] 35 (0, 0)) (by (with_reducible repeat (first | refine blk_drewN ?_ _ | refine blk_drew ?_ | refine blk_alloc ?_ _)); exact BK382.out)) : gb382 ≠ gb402)); have n9_ := Aside0.mk ((by rw [hg]; exact Nat.ne_of_gt (blk_lt (g := gb382) (o := .cells #[.int .i64 a2_0, .int .i64 a2_1] 35 (0, 0)) (by (with_reducible repeat (first | refine blk_drewN ?_ _ | refine blk_drew ?_ | refine blk_alloc ?_ _)); exact BK382.out)) : gb402 ≠ gb382)); have n10_ := Aside0.mk ((by rw [hg]; exact Nat.ne_of_lt (blk_lt (g := gb389) (o := .cells #[.int .i64 x390000_1, .slice Ao58 x390001_1.length co58] 24 (0, 0)) (by (with_reducible repeat (first | refine blk_drewN ?_ _ | refine blk_drew ?_ | refine blk_alloc ?_ _)); exact BK389.out)) : gb389 ≠ gb402)); have n11_ := Aside0.mk ((by rw [hg]; exact Nat.ne_of_gt (blk_lt (g := gb389) (o := .cells #[.int .i64 x390000_1, .slice Ao58 x390001_1.length co58] 24 (0, 0)) (by (with_reducible repeat (first | refine blk_drewN ?_ _ | refine blk_drew ?_ | refine blk_alloc ?_ _)); exact BK389.out)) : gb402 ≠ gb389)); clear HO_390001; clear HO401; clear BK382; clear BK389; clear HB; have HO_390001 := n0_; have HO401 := n1_; have BK382 := n2_; have BK389 := n3_; have HB := n4_; have BK402 := n5_; have GW402 := n6_; have GE402 := n7_; have NB382_402 := n8_; have NB402_382 := n9_; have NB389_402 := n10_; have NB402_389 := n11_; clear n0_ n1_ n2_ n3_ n4_ n5_ n6_ n7_ n8_ n9_ n10_ n11_; clear hb hbox hg; have hnb61 := NB402_382.out; have hnc61 := NB382_402.out; have hnb62 := NB402_389.out; have hnc62 := NB389_402.out; have hcz63_0 : w60.cell? ⟨gb402, 0, none⟩ = some (.int .i64 0) := (blk_cell BK402.out 0).trans rfl; have hcz63_1 : w60.cell? ⟨gb402, 1, none⟩ = some (.slice none 0 0) := (blk_cell BK402.out 1).trans rfl; have hfz63_0 := blk_frozen BK402.out 0; have hfz63_1 := blk_frozen BK402.out 1; have hcz64_0 : w60.cell? ⟨gb382, 0, none⟩ = some (.int .i64 a2_0) := (blk_cell BK382.out 0).trans rfl; have hcz64_1 : w60.cell? ⟨gb382, 1, none⟩ = some (.int .i64 a2_1) := (blk_cell BK382.out 1).trans rfl; have hfz64_0 := blk_frozen BK382.out 0; have hfz64_1 := blk_frozen BK382.out 1) | ((with_reducible refine gate_callee (f := 21) rfl ?_); refine goesL_ (some 72) rfl rfl Try.func21 (by kernel_rfl) rfl #[.agg #[.int .i64 1, .slice A59 y397.length c59], .int .i64 a2_0, .int .i64 a2_1] rfl (by (try simp only [List.map_toArray, List.map_cons, List.map_nil]); first | done | rfl | (simp only [List.length_drop, List.length_take]; rfl)) ?_; (with_reducible refine (tlb_Covers.calls k2 1 _ _ y397 a2_0 a2_1 true _ ?side1 ?side2 A54.out).mono ?_); (case side1 => refine (Kd.V_reads' (e := 42) (base := w.heap.size) (ok := fun k_ => ((k_ ≠ gb382 ∧ k_ ≠ gb389) ∧ k_ ≠ gb402)) (n := y397.length) (c := c59) ?_).2.2; exact (by (with_reducible repeat (first | apply Kd.V_alloc | apply Kd.V_drewN | apply Kd.V_drew)); exact (Kd.V_mono (Kd.V_far (p := ⟨gb402, 1, none⟩) (Kd.V_far (p := ⟨gb402, 0, none⟩) (Kd.V_mono HO401.out (fun k_ hk => (⟨hk, hk.2⟩ : _ ∧ k_ ≠ gb402))) (fun _ hk => hk.2) (.int .i64 1)) (fun _ hk => hk.2) (.slice A59 y397.length c59)) (fun _ h_ => h_.1)))); (case side2 => exact (Kd.V_reads' HO401.out).2.1); rintro e w65 ⟨rfl, hb⟩; refine ⟨_, rfl, ?_⟩; have n0_ := Aside0.mk (Kd.V_below (by (with_reducible repeat (first | apply Kd.V_alloc | apply Kd.V_drewN | apply Kd.V_drew)); exact (Kd.V_mono (Kd.V_far (p := ⟨gb402, 1, none⟩) (Kd.V_far (p := ⟨gb402, 0, none⟩) (Kd.V_mono HO_390001.out (fun k_ hk => (⟨hk, hk.2⟩ : _ ∧ k_ ≠ gb402))) (fun _ hk => hk.2) (.int .i64 1)) (fun _ hk => hk.2) (.slice A59 y397.length c59)) (fun _ h_ => h_.1))) hb); have n1_ := Aside0.mk (Kd.V_below (by (with_reducible repeat (first | apply Kd.V_alloc | apply Kd.V_drewN | apply Kd.V_drew)); exact (Kd.V_mono (Kd.V_far (p := ⟨gb402, 1, none⟩) (Kd.V_far (p := ⟨gb402, 0, none⟩) (Kd.V_mono HO401.out (fun k_ hk => (⟨hk, hk.2⟩ : _ ∧ k_ ≠ gb402))) (fun _ hk => hk.2) (.int .i64 1)) (fun _ hk => hk.2) (.slice A59 y397.length c59)) (fun _ h_ => h_.1))) hb); have n2_ := Aside0.mk (blk_below (g := gb382) (o := .cells #[.int .i64 a2_0, .int .i64 a2_1] 35 (0, 0)) (by (with_reducible repeat (first | refine blk_drewN ?_ _ | refine blk_drew ?_ | refine blk_alloc ?_ _)); refine blk_far ?_ NB382_402.out _; (with_reducible repeat (first | refine blk_drewN ?_ _ | refine blk_drew ?_ | refine blk_alloc ?_ _)); refine blk_far ?_ NB382_402.out _; (with_reducible repeat (first | refine blk_drewN ?_ _ | refine blk_drew ?_ | refine blk_alloc ?_ _)); exact BK382.out) hb); have n3_ := Aside0.mk (blk_below (g := gb389) (o := .cells #[.int .i64 x390000_1, .slice Ao58 x390001_1.length co58] 24 (0, 0)) (by (with_reducible repeat (first | refine blk_drewN ?_ _ | refine blk_drew ?_ | refine blk_alloc ?_ _)); refine blk_far ?_ NB389_402.out _; (with_reducible repeat (first | refine blk_drewN ?_ _ | refine blk_drew ?_ | refine blk_alloc ?_ _)); refine blk_far ?_ NB389_402.out _; (with_reducible repeat (first | refine blk_drewN ?_ _ | refine blk_drew ?_ | refine blk_alloc ?_ _)); exact BK389.out) hb); have n4_ := Aside0.mk (blk_below (g := gb402) (o := .cells #[.int .i64 1, .slice A59 y397.length c59] 24 (0, 0)) (by (with_reducible repeat (first | refine blk_drewN ?_ _ | refine blk_drew ?_ | refine blk_alloc ?_ _)); refine blk_put (cs := #[.int .i64 1, .slice none 0 0]) ?_ 1 _ rfl; (with_reducible repeat (first | refine blk_drewN ?_ _ | refine blk_drew ?_ | refine blk_alloc ?_ _)); refine blk_put (cs := #[.int .i64 0, .slice none 0 0]) ?_ 0 _ rfl; (with_reducible repeat (first | refine blk_drewN ?_ _ | refine blk_drew ?_ | refine blk_alloc ?_ _)); exact BK402.out) hb); have n5_ := Aside0.mk (below_step (by repeat (first | (with_reducible first | exact HB.out | apply below_alloc | apply pw_below_drewN | apply below_drew1 | refine below_set ?_ GE382.out | refine below_set ?_ GE389.out | refine below_set ?_ GE402.out) | exact HB.out)) hb); clear HO_390001; clear HO401; clear BK382; clear BK389; clear BK402; clear HB; have HO_390001 := n0_; have HO401 := n1_; have BK382 := n2_; have BK389 := n3_; have BK402 := n4_; have HB := n5_; clear n0_ n1_ n2_ n3_ n4_ n5_; (try clear hb); (try clear hb2); (try clear hk); (try clear hi)))
                        go_roundg k2
                        case measure => have := HK1.out; have := HK2.out; omega
                        case rel => exact ⟨(wrap64 (x10_2 + 1)), (wrap64 (x11_2 + 1)), (by first | rfl | (simp; done) | (simp [*]; done)), (by first | rfl | (simp; done) | (simp [*]; done)), H', ⟨by have := HK1.out; have := HK2.out; omega⟩, ⟨by (with_reducible repeat (first | apply Kd.V_alloc | apply Kd.V_drewN | apply Kd.V_drew)); exact Kd.V_mono HO_390001.out (fun _ hk => ⟨hk.1.1, hk.1.2⟩)⟩, ⟨by (with_reducible repeat (first | refine blk_drewN ?_ _ | refine blk_drew ?_ | refine blk_alloc ?_ _)); exact BK382.out⟩, ⟨by (with_reducible repeat (first | refine blk_drewN ?_ _ | refine blk_drew ?_ | refine blk_alloc ?_ _)); exact BK389.out⟩, ⟨by repeat (first | (with_reducible first | exact HB.out | apply below_alloc | apply pw_below_drewN | apply below_drew1 | refine below_set ?_ GE382.out | refine below_set ?_ GE389.out | refine below_set ?_ GE402.out) | exact HB.out)⟩⟩
                      · replace c55 := Bool.eq_false_iff.mpr c55
                        subst c55
                        have H1 : (estoverslaw07_TlbOnce.l1 k2 x10_2 (wrap64 (x11_2 + 1)) a2_0 a2_1 x390000_1 x390001_1) = some r := by rw [if_neg (show ¬ (false = true) by decide)] at H; exact H
                        clear H
                        have H := H1
                        clear H1
                        have H' := Aside0.mk H
                        clear H
                        have hnb66 := NB389_382.out
                        have hnc66 := NB382_389.out
                        have hcz67_0 : wr.cell? ⟨gb389, 0, none⟩ = some (.int .i64 x390000_1) := (blk_cell BK389.out 0).trans rfl
                        have hcz67_1 : wr.cell? ⟨gb389, 1, none⟩ = some (u390001) := (blk_cell BK389.out 1).trans rfl
                        have hfz67_0 := blk_frozen BK389.out 0
                        have hfz67_1 := blk_frozen BK389.out 1
                        obtain ⟨Ao68, co68, eo68⟩ := Kd.V_slice HO_390001.out
                        subst eo68
                        have q69 : ((wrap64 (x11_2 + 1)) : Int) ≤ ((x390001_1.length : Int) : Int) := of_decide_eq_true (by first | (with_reducible assumption) | assumption)
                        obtain ⟨i069, hi069, _, hsz69, _⟩ := info_parts info42
                        have hroom69 : x390001_1.length ≤ co68 := (Kd.V_reads' HO_390001.out).2.1
                        have hC69 : Kd.F k42 _ _ Ao68 x390001_1.length x390001_1 := (Kd.V_at (base := w.heap.size) HO_390001.out).2.2
                        have ql69 : (x11_2 : Int) ≤ ((wrap64 (x11_2 + 1)) : Int) := of_decide_eq_true (by first | (with_reducible assumption) | assumption)
                        have q069 : (0 : Int) ≤ (x11_2 : Int) := of_decide_eq_true (by first | (with_reducible assumption) | assumption)
                        have hcut69 := cut_mid (P := Try.prog) 22 42 .i64 .i64 Try.underlying22 hi069 3 hsz69 Ao68 x390001_1.length co68 x11_2 (wrap64 (x11_2 + 1)) q069 ql69 q69 hroom69
                        have hr69 := Kd.F_mid (lo := (x11_2 : Int).toNat) (hi := ((wrap64 (x11_2 + 1)) : Int).toNat) (c := co68) hC69 (by omega) (by omega) hroom69
                        obtain ⟨A69, hA69⟩ : ∃ A1, A1 = (if co68 = (x11_2 : Int).toNat then Ao68 else (Ao68 : Option Addr).map (·.add ((x11_2 : Int).toNat * 3))) := ⟨_, rfl⟩
                        obtain ⟨c69, hc69⟩ : ∃ c1, c1 = co68 - (x11_2 : Int).toNat := ⟨_, rfl⟩
                        have hy69 : y397.length = ((wrap64 (x11_2 + 1)) : Int).toNat - (x11_2 : Int).toNat := (by rw [Ny397.out, List.length_drop, List.length_take] <;> omega)
                        rw [show ((x390001_1).take ((wrap64 (x11_2 + 1)) : Int).toNat).drop (x11_2 : Int).toNat = y397 from Ny397.out.symm] at hr69
                        replace hr69 : Kd.F k42 _ _ A69 y397.length y397 := (by rw [hA69]; exact hr69)
                        rw [← hy69, ← hA69, ← hc69] at hcut69
                        have HO401 := Aside0.mk (show Kd.V k42 42 _ w.heap.size _ (.slice A69 y397.length c69) y397 from Kd.V_mk (by rw [hy69, hc69]; exact Nat.sub_le_sub_right (Nat.le_trans (by omega) hroom69) _) hr69)
                        have HC401 := Aside0.mk (show y397.length ≤ c69 from by rw [hy69, hc69]; exact Nat.sub_le_sub_right (Nat.le_trans (by omega) hroom69) _)
                        clear hr69 hC69 hroom69 hi069 hsz69 hc69
                        have KY69 := Aside0.mk hy69
                        have KA69 := Aside0.mk hA69
                        clear hy69 hA69
                        replace q69 := eq_true q69
                        go_wp2_with (first | ((with_reducible refine gate_dst (N := 12) rfl ?_); (try (refine gate_guard (by rfl) ?_; dsimp only)); refine box_event ?hg (N := 12) ?hd (cs := #[.int .i64 0, .slice none 0 0]) (t := 24) ?hr ?_; (case hd => rfl); (case hg => rfl); (case hr => first | (go_simp; done) | (go_simp; rfl)); intro gb402 hg w70 hbox hb; have n0_ := Aside0.mk (Kd.V_below (Kd.V_elderB (by (with_reducible repeat (first | apply Kd.V_alloc | apply Kd.V_drewN | apply Kd.V_drew)); exact HO_390001.out) gb402 (Nat.le_of_eq hg.symm)) hb); have n1_ := Aside0.mk (Kd.V_below (Kd.V_elderB (by (with_reducible repeat (first | apply Kd.V_alloc | apply Kd.V_drewN | apply Kd.V_drew)); exact HO401.out) gb402 (Nat.le_of_eq hg.symm)) hb); have n2_ := Aside0.mk (blk_below (g := gb382) (o := .cells #[.int .i64 a2_0, .int .i64 a2_1] 35 (0, 0)) (by (with_reducible repeat (first | refine blk_drewN ?_ _ | refine blk_drew ?_ | refine blk_alloc ?_ _)); exact BK382.out) hb); have n3_ := Aside0.mk (blk_below (g := gb389) (o := .cells #[.int .i64 x390000_1, .slice Ao68 x390001_1.length co68] 24 (0, 0)) (by (with_reducible repeat (first | refine blk_drewN ?_ _ | refine blk_drew ?_ | refine blk_alloc ?_ _)); exact BK389.out) hb); have n4_ := Aside0.mk (below_step (by repeat (first | (with_reducible first | exact HB.out | apply below_alloc | apply pw_below_drewN | apply below_drew1 | refine below_set ?_ GE382.out | refine below_set ?_ GE389.out) | exact HB.out)) hb); have n5_ := Aside0.mk (hbox); have n6_ := Aside0.mk ((by rw [hg]; exact (below_size (by repeat (first | (with_reducible first | exact HB.out | apply below_alloc | apply pw_below_drewN | apply below_drew1 | refine below_set ?_ GE382.out | refine below_set ?_ GE389.out) | exact HB.out))) : w.heap.size ≤ gb402)); have n7_ := Aside0.mk ((by rw [hg]; exact (below_size (by repeat (first | (with_reducible first | exact HB.out | apply below_alloc | apply pw_below_drewN | apply below_drew1 | refine below_set ?_ GE382.out | refine below_set ?_ GE389.out) | exact HB.out))) : w.heap.size ≤ gb402)); have n8_ := Aside0.mk ((by rw [hg]; exact Nat.ne_of_lt (blk_lt (g := gb382) (o := .cells #[.int .i64 a2_0, .int .i64 a2_1] 35 (0, 0)) (by (with_reducible repeat (first | refine blk_drewN ?_ _ | refine blk_drew ?_ | refine blk_alloc ?_ _)); exact BK382.out)) : gb382 ≠ gb402)); have n9_ := Aside0.mk ((by rw [hg]; exact Nat.ne_of_gt (blk_lt (g := gb382) (o := .cells #[.int .i64 a2_0, .int .i64 a2_1] 35 (0, 0)) (by (with_reducible repeat (first | refine blk_drewN ?_ _ | refine blk_drew ?_ | refine blk_alloc ?_ _)); exact BK382.out)) : gb402 ≠ gb382)); have n10_ := Aside0.mk ((by rw [hg]; exact Nat.ne_of_lt (blk_lt (g := gb389) (o := .cells #[.int .i64 x390000_1, .slice Ao68 x390001_1.length co68] 24 (0, 0)) (by (with_reducible repeat (first | refine blk_drewN ?_ _ | refine blk_drew ?_ | refine blk_alloc ?_ _)); exact BK389.out)) : gb389 ≠ gb402)); have n11_ := Aside0.mk ((by rw [hg]; exact Nat.ne_of_gt (blk_lt (g := gb389) (o := .cells #[.int .i64 x390000_1, .slice Ao68 x390001_1.length co68] 24 (0, 0)) (by (with_reducible repeat (first | refine blk_drewN ?_ _ | refine blk_drew ?_ | refine blk_alloc ?_ _)); exact BK389.out)) : gb402 ≠ gb389)); clear HO_390001; clear HO401; clear BK382; clear BK389; clear HB; have HO_390001 := n0_; have HO401 := n1_; have BK382 := n2_; have BK389 := n3_; have HB := n4_; have BK402 := n5_; have GW402 := n6_; have GE402 := n7_; have NB382_402 := n8_; have NB402_382 := n9_; have NB389_402 := n10_; have NB402_389 := n11_; clear n0_ n1_ n2_ n3_ n4_ n5_ n6_ n7_ n8_ n9_ n10_ n11_; clear hb hbox hg; have hnb71 := NB402_382.out; have hnc71 := NB382_402.out; have hnb72 := NB402_389.out; have hnc72 := NB389_402.out; have hcz73_0 : w70.cell? ⟨gb402, 0, none⟩ = some (.int .i64 0) := (blk_cell BK402.out 0).trans rfl; have hcz73_1 : w70.cell? ⟨gb402, 1, none⟩ = some (.slice none 0 0) := (blk_cell BK402.out 1).trans rfl; have hfz73_0 := blk_frozen BK402.out 0; have hfz73_1 := blk_frozen BK402.out 1; have hcz74_0 : w70.cell? ⟨gb382, 0, none⟩ = some (.int .i64 a2_0) := (blk_cell BK382.out 0).trans rfl; have hcz74_1 : w70.cell? ⟨gb382, 1, none⟩ = some (.int .i64 a2_1) := (blk_cell BK382.out 1).trans rfl; have hfz74_0 := blk_frozen BK382.out 0; have hfz74_1 := blk_frozen BK382.out 1) | ((with_reducible refine gate_callee (f := 21) rfl ?_); refine goesL_ (some 72) rfl rfl Try.func21 (by kernel_rfl) rfl #[.agg #[.int .i64 1, .slice A69 y397.length c69], .int .i64 a2_0, .int .i64 a2_1] rfl (by (try simp only [List.map_toArray, List.map_cons, List.map_nil]); first | done | rfl | (simp only [List.length_drop, List.length_take]; rfl)) ?_; (with_reducible refine (tlb_Covers.calls k2 1 _ _ y397 a2_0 a2_1 false _ ?side1 ?side2 A54.out).mono ?_); (case side1 => refine (Kd.V_reads' (e := 42) (base := w.heap.size) (ok := fun k_ => ((k_ ≠ gb382 ∧ k_ ≠ gb389) ∧ k_ ≠ gb402)) (n := y397.length) (c := c69) ?_).2.2; exact (by (with_reducible repeat (first | apply Kd.V_alloc | apply Kd.V_drewN | apply Kd.V_drew)); exact (Kd.V_mono (Kd.V_far (p := ⟨gb402, 1, none⟩) (Kd.V_far (p := ⟨gb402, 0, none⟩) (Kd.V_mono HO401.out (fun k_ hk => (⟨hk, hk.2⟩ : _ ∧ k_ ≠ gb402))) (fun _ hk => hk.2) (.int .i64 1)) (fun _ hk => hk.2) (.slice A69 y397.length c69)) (fun _ h_ => h_.1)))); (case side2 => exact (Kd.V_reads' HO401.out).2.1); rintro e w75 ⟨rfl, hb⟩; refine ⟨_, rfl, ?_⟩; have n0_ := Aside0.mk (Kd.V_below (by (with_reducible repeat (first | apply Kd.V_alloc | apply Kd.V_drewN | apply Kd.V_drew)); exact (Kd.V_mono (Kd.V_far (p := ⟨gb402, 1, none⟩) (Kd.V_far (p := ⟨gb402, 0, none⟩) (Kd.V_mono HO_390001.out (fun k_ hk => (⟨hk, hk.2⟩ : _ ∧ k_ ≠ gb402))) (fun _ hk => hk.2) (.int .i64 1)) (fun _ hk => hk.2) (.slice A69 y397.length c69)) (fun _ h_ => h_.1))) hb); have n1_ := Aside0.mk (Kd.V_below (by (with_reducible repeat (first | apply Kd.V_alloc | apply Kd.V_drewN | apply Kd.V_drew)); exact (Kd.V_mono (Kd.V_far (p := ⟨gb402, 1, none⟩) (Kd.V_far (p := ⟨gb402, 0, none⟩) (Kd.V_mono HO401.out (fun k_ hk => (⟨hk, hk.2⟩ : _ ∧ k_ ≠ gb402))) (fun _ hk => hk.2) (.int .i64 1)) (fun _ hk => hk.2) (.slice A69 y397.length c69)) (fun _ h_ => h_.1))) hb); have n2_ := Aside0.mk (blk_below (g := gb382) (o := .cells #[.int .i64 a2_0, .int .i64 a2_1] 35 (0, 0)) (by (with_reducible repeat (first | refine blk_drewN ?_ _ | refine blk_drew ?_ | refine blk_alloc ?_ _)); refine blk_far ?_ NB382_402.out _; (with_reducible repeat (first | refine blk_drewN ?_ _ | refine blk_drew ?_ | refine blk_alloc ?_ _)); refine blk_far ?_ NB382_402.out _; (with_reducible repeat (first | refine blk_drewN ?_ _ | refine blk_drew ?_ | refine blk_alloc ?_ _)); exact BK382.out) hb); have n3_ := Aside0.mk (blk_below (g := gb389) (o := .cells #[.int .i64 x390000_1, .slice Ao68 x390001_1.length co68] 24 (0, 0)) (by (with_reducible repeat (first | refine blk_drewN ?_ _ | refine blk_drew ?_ | refine blk_alloc ?_ _)); refine blk_far ?_ NB389_402.out _; (with_reducible repeat (first | refine blk_drewN ?_ _ | refine blk_drew ?_ | refine blk_alloc ?_ _)); refine blk_far ?_ NB389_402.out _; (with_reducible repeat (first | refine blk_drewN ?_ _ | refine blk_drew ?_ | refine blk_alloc ?_ _)); exact BK389.out) hb); have n4_ := Aside0.mk (blk_below (g := gb402) (o := .cells #[.int .i64 1, .slice A69 y397.length c69] 24 (0, 0)) (by (with_reducible repeat (first | refine blk_drewN ?_ _ | refine blk_drew ?_ | refine blk_alloc ?_ _)); refine blk_put (cs := #[.int .i64 1, .slice none 0 0]) ?_ 1 _ rfl; (with_reducible repeat (first | refine blk_drewN ?_ _ | refine blk_drew ?_ | refine blk_alloc ?_ _)); refine blk_put (cs := #[.int .i64 0, .slice none 0 0]) ?_ 0 _ rfl; (with_reducible repeat (first | refine blk_drewN ?_ _ | refine blk_drew ?_ | refine blk_alloc ?_ _)); exact BK402.out) hb); have n5_ := Aside0.mk (below_step (by repeat (first | (with_reducible first | exact HB.out | apply below_alloc | apply pw_below_drewN | apply below_drew1 | refine below_set ?_ GE382.out | refine below_set ?_ GE389.out | refine below_set ?_ GE402.out) | exact HB.out)) hb); clear HO_390001; clear HO401; clear BK382; clear BK389; clear BK402; clear HB; have HO_390001 := n0_; have HO401 := n1_; have BK382 := n2_; have BK389 := n3_; have BK402 := n4_; have HB := n5_; clear n0_ n1_ n2_ n3_ n4_ n5_; (try clear hb); (try clear hb2); (try clear hk); (try clear hi)))
                        go_roundg k2
                        case measure => have := HK1.out; have := HK2.out; omega
                        case rel => exact ⟨(x10_2), (wrap64 (x11_2 + 1)), (by first | rfl | (simp; done) | (simp [*]; done)), (by first | rfl | (simp; done) | (simp [*]; done)), H', ⟨by have := HK1.out; have := HK2.out; omega⟩, ⟨by (with_reducible repeat (first | apply Kd.V_alloc | apply Kd.V_drewN | apply Kd.V_drew)); exact Kd.V_mono HO_390001.out (fun _ hk => ⟨hk.1.1, hk.1.2⟩)⟩, ⟨by (with_reducible repeat (first | refine blk_drewN ?_ _ | refine blk_drew ?_ | refine blk_alloc ?_ _)); exact BK382.out⟩, ⟨by (with_reducible repeat (first | refine blk_drewN ?_ _ | refine blk_drew ?_ | refine blk_alloc ?_ _)); exact BK389.out⟩, ⟨by repeat (first | (with_reducible first | exact HB.out | apply below_alloc | apply pw_below_drewN | apply below_drew1 | refine below_set ?_ GE382.out | refine below_set ?_ GE389.out | refine below_set ?_ GE402.out) | exact HB.out)⟩⟩
                    · rw [if_neg c53] at H
                      exact absurd H (by simp)
                  · rw [if_neg c52] at H
                    exact absurd H (by simp)
                · rw [if_neg c51] at H
                  exact absurd H (by simp)
              · rw [if_neg c50] at H
                have c50b0 : decide (x11_2 < (x390001_1.length : Int)) = false := decide_eq_false c50
                clear c50
                by_cases c76 : x10_2 ≤ 1
                · rw [if_pos c76] at H
                  have c76b0 : decide (x10_2 ≤ 1) = true := decide_eq_true c76
                  clear c76
                  replace H := Option.bind_eq_some_iff.mp H
                  obtain ⟨t404, A770, H⟩ := H
                  replace H : (if ((x10_2 == 1) == t404) = true then ((estoverslaw07_awake.f).bind fun t405 => (some t405)) else (some false)) = some r := H
                  have A77 := Aside0.mk A770
                  clear A770
                  by_cases c78 : ((x10_2 == 1) == t404) = true
                  · rw [if_pos c78] at H
                    have c78b0 : ((x10_2 == 1) == t404) = true := c78
                    (try (have c78b1 : decide ((x10_2 == 1) = t404) = true := by simpa using c78))
                    (try (have c78b2 : ((x10_2 == 1) == t404) = true := by simpa using c78))
                    clear c78
                    replace H := Option.bind_eq_some_iff.mp H
                    obtain ⟨t405, A790, H⟩ := H
                    replace H : (some t405) = some r := H
                    have A79 := Aside0.mk A790
                    clear A790
                    obtain rfl := Option.some.inj H
                    have hnb80 := NB389_382.out
                    have hnc80 := NB382_389.out
                    have hcz81_0 : wr.cell? ⟨gb389, 0, none⟩ = some (.int .i64 x390000_1) := (blk_cell BK389.out 0).trans rfl
                    have hcz81_1 : wr.cell? ⟨gb389, 1, none⟩ = some (u390001) := (blk_cell BK389.out 1).trans rfl
                    have hfz81_0 := blk_frozen BK389.out 0
                    have hfz81_1 := blk_frozen BK389.out 1
                    obtain ⟨Ao82, co82, eo82⟩ := Kd.V_slice HO_390001.out
                    subst eo82
                    have hcz83_0 : wr.cell? ⟨gb382, 0, none⟩ = some (.int .i64 a2_0) := (blk_cell BK382.out 0).trans rfl
                    have hcz83_1 : wr.cell? ⟨gb382, 1, none⟩ = some (.int .i64 a2_1) := (blk_cell BK382.out 1).trans rfl
                    have hfz83_0 := blk_frozen BK382.out 0
                    have hfz83_1 := blk_frozen BK382.out 1
                    go_wp2_with (first | (go_at_call 21; (with_reducible refine (tlb_Covers.calls k2 x390000_1 _ _ x390001_1 a2_0 a2_1 t404 _ ?side1 ?side2 A77.out).mono ?_); (case side1 => repeat (first | exact (Kd.V_reads' HO_390001.out).2.2 | (with_reducible refine Kd.C_alloc ?_ _) | (with_reducible refine Kd.C_drewN ?_ _) | (with_reducible refine Kd.C_drew ?_))); (case side2 => exact (Kd.V_reads' HO_390001.out).2.1); rintro e w84 ⟨rfl, hb⟩; have n0_ := Aside0.mk (Kd.V_below (by (with_reducible repeat (first | apply Kd.V_alloc | apply Kd.V_drewN | apply Kd.V_drew)); exact HO_390001.out) hb); have n1_ := Aside0.mk (blk_below (g := gb382) (o := .cells #[.int .i64 a2_0, .int .i64 a2_1] 35 (0, 0)) (by (with_reducible repeat (first | refine blk_drewN ?_ _ | refine blk_drew ?_ | refine blk_alloc ?_ _)); exact BK382.out) hb); have n2_ := Aside0.mk (blk_below (g := gb389) (o := .cells #[.int .i64 x390000_1, .slice Ao82 x390001_1.length co82] 24 (0, 0)) (by (with_reducible repeat (first | refine blk_drewN ?_ _ | refine blk_drew ?_ | refine blk_alloc ?_ _)); exact BK389.out) hb); have n3_ := Aside0.mk (below_step (by repeat (first | (with_reducible first | exact HB.out | apply below_alloc | apply pw_below_drewN | apply below_drew1 | refine below_set ?_ GE382.out | refine below_set ?_ GE389.out) | exact HB.out)) hb); clear HO_390001; clear BK382; clear BK389; clear HB; have HO_390001 := n0_; have BK382 := n1_; have BK389 := n2_; have HB := n3_; clear n0_ n1_ n2_ n3_; (try clear hb); (try clear hb2); (try clear hk); (try clear hi)) | (go_at_call 13; (with_reducible refine (estoverslaw07_awake.calls  t405 _ A79.out).mono ?_); rintro e w85 ⟨rfl, hb⟩; have n0_ := Aside0.mk (Kd.V_below (by (with_reducible repeat (first | apply Kd.V_alloc | apply Kd.V_drewN | apply Kd.V_drew)); exact HO_390001.out) hb); have n1_ := Aside0.mk (blk_below (g := gb382) (o := .cells #[.int .i64 a2_0, .int .i64 a2_1] 35 (0, 0)) (by (with_reducible repeat (first | refine blk_drewN ?_ _ | refine blk_drew ?_ | refine blk_alloc ?_ _)); exact BK382.out) hb); have n2_ := Aside0.mk (blk_below (g := gb389) (o := .cells #[.int .i64 x390000_1, .slice Ao82 x390001_1.length co82] 24 (0, 0)) (by (with_reducible repeat (first | refine blk_drewN ?_ _ | refine blk_drew ?_ | refine blk_alloc ?_ _)); exact BK389.out) hb); have n3_ := Aside0.mk (below_step (by repeat (first | (with_reducible first | exact HB.out | apply below_alloc | apply pw_below_drewN | apply below_drew1 | refine below_set ?_ GE382.out | refine below_set ?_ GE389.out) | exact HB.out)) hb); clear HO_390001; clear BK382; clear BK389; clear HB; have HO_390001 := n0_; have BK382 := n1_; have BK389 := n2_; have HB := n3_; clear n0_ n1_ n2_ n3_; (try clear hb); (try clear hb2); (try clear hk); (try clear hi)))
                    go_ret
                    exact ⟨by first | rfl | (simp [errW_none, errW_some] <;> rfl) | (simp [*, errW_none, errW_some] <;> rfl), by repeat (first | (with_reducible first | exact HB.out | apply below_alloc | apply pw_below_drewN | apply below_drew1 | refine below_set ?_ GE382.out | refine below_set ?_ GE389.out) | exact HB.out)⟩
                  · rw [if_neg c78] at H
                    have c78b0 : ((x10_2 == 1) == t404) = false := by simpa using c78
                    (try (have c78b1 : decide ((x10_2 == 1) = t404) = false := by simpa using c78))
                    (try (have c78b2 : ((x10_2 == 1) == t404) = false := by simpa using c78))
                    (try (have c78b3 : ¬ ((x10_2 == 1) = t404) := by simpa using c78))
                    clear c78
                    obtain rfl := Option.some.inj H
                    have hnb86 := NB389_382.out
                    have hnc86 := NB382_389.out
                    have hcz87_0 : wr.cell? ⟨gb389, 0, none⟩ = some (.int .i64 x390000_1) := (blk_cell BK389.out 0).trans rfl
                    have hcz87_1 : wr.cell? ⟨gb389, 1, none⟩ = some (u390001) := (blk_cell BK389.out 1).trans rfl
                    have hfz87_0 := blk_frozen BK389.out 0
                    have hfz87_1 := blk_frozen BK389.out 1
                    obtain ⟨Ao88, co88, eo88⟩ := Kd.V_slice HO_390001.out
                    subst eo88
                    have hcz89_0 : wr.cell? ⟨gb382, 0, none⟩ = some (.int .i64 a2_0) := (blk_cell BK382.out 0).trans rfl
                    have hcz89_1 : wr.cell? ⟨gb382, 1, none⟩ = some (.int .i64 a2_1) := (blk_cell BK382.out 1).trans rfl
                    have hfz89_0 := blk_frozen BK382.out 0
                    have hfz89_1 := blk_frozen BK382.out 1
                    go_wp2_with (first | (go_at_call 21; (with_reducible refine (tlb_Covers.calls k2 x390000_1 _ _ x390001_1 a2_0 a2_1 t404 _ ?side1 ?side2 A77.out).mono ?_); (case side1 => repeat (first | exact (Kd.V_reads' HO_390001.out).2.2 | (with_reducible refine Kd.C_alloc ?_ _) | (with_reducible refine Kd.C_drewN ?_ _) | (with_reducible refine Kd.C_drew ?_))); (case side2 => exact (Kd.V_reads' HO_390001.out).2.1); rintro e w90 ⟨rfl, hb⟩; have n0_ := Aside0.mk (Kd.V_below (by (with_reducible repeat (first | apply Kd.V_alloc | apply Kd.V_drewN | apply Kd.V_drew)); exact HO_390001.out) hb); have n1_ := Aside0.mk (blk_below (g := gb382) (o := .cells #[.int .i64 a2_0, .int .i64 a2_1] 35 (0, 0)) (by (with_reducible repeat (first | refine blk_drewN ?_ _ | refine blk_drew ?_ | refine blk_alloc ?_ _)); exact BK382.out) hb); have n2_ := Aside0.mk (blk_below (g := gb389) (o := .cells #[.int .i64 x390000_1, .slice Ao88 x390001_1.length co88] 24 (0, 0)) (by (with_reducible repeat (first | refine blk_drewN ?_ _ | refine blk_drew ?_ | refine blk_alloc ?_ _)); exact BK389.out) hb); have n3_ := Aside0.mk (below_step (by repeat (first | (with_reducible first | exact HB.out | apply below_alloc | apply pw_below_drewN | apply below_drew1 | refine below_set ?_ GE382.out | refine below_set ?_ GE389.out) | exact HB.out)) hb); clear HO_390001; clear BK382; clear BK389; clear HB; have HO_390001 := n0_; have BK382 := n1_; have BK389 := n2_; have HB := n3_; clear n0_ n1_ n2_ n3_; (try clear hb); (try clear hb2); (try clear hk); (try clear hi)))
                    go_ret
                    exact ⟨by first | rfl | (simp [errW_none, errW_some] <;> rfl) | (simp [*, errW_none, errW_some] <;> rfl), by repeat (first | (with_reducible first | exact HB.out | apply below_alloc | apply pw_below_drewN | apply below_drew1 | refine below_set ?_ GE382.out | refine below_set ?_ GE389.out) | exact HB.out)⟩
                · rw [if_neg c76] at H
                  have c76b0 : decide (x10_2 ≤ 1) = false := decide_eq_false c76
                  clear c76
                  obtain rfl := Option.some.inj H
                  have hnb91 := NB389_382.out
                  have hnc91 := NB382_389.out
                  have hcz92_0 : wr.cell? ⟨gb389, 0, none⟩ = some (.int .i64 x390000_1) := (blk_cell BK389.out 0).trans rfl
                  have hcz92_1 : wr.cell? ⟨gb389, 1, none⟩ = some (u390001) := (blk_cell BK389.out 1).trans rfl
                  have hfz92_0 := blk_frozen BK389.out 0
                  have hfz92_1 := blk_frozen BK389.out 1
                  obtain ⟨Ao93, co93, eo93⟩ := Kd.V_slice HO_390001.out
                  subst eo93
                  go_wp2
                  go_ret
                  exact ⟨by first | rfl | (simp [errW_none, errW_some] <;> rfl) | (simp [*, errW_none, errW_some] <;> rfl), by repeat (first | (with_reducible first | exact HB.out | apply below_alloc | apply pw_below_drewN | apply below_drew1 | refine below_set ?_ GE382.out | refine below_set ?_ GE389.out) | exact HB.out)⟩

end Go.Proofs.Ytkbnhphcmlljgaa.P
