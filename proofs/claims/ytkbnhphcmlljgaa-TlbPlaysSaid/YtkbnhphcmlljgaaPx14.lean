-- Made by wip/myprint (a turned copy of the kit's print) for this work: plain functions and their contracts. Lean checks it.
import Derived.Test.YtkbnhphcmlljgaaPx0
import Derived.Test.YtkbnhphcmlljgaaPx7
import Derived.Test.YtkbnhphcmlljgaaPx8
import Derived.Test.YtkbnhphcmlljgaaPx9
import Derived.Test.YtkbnhphcmlljgaaPx10
namespace Go.Proofs.Ytkbnhphcmlljgaa.P
open Go.RowKit Go.Proofs.YtkbnhphcmlljgaaW.PrintWords Go.Proofs.YtkbnhphcmlljgaaW.PrintLast Go.Proofs.YtkbnhphcmlljgaaW.PrintMore
attribute [local go_sem] max2_int min2_int max_two min_two max_three min_three max_four min_four   -- for this text's walks alone
set_option linter.unusedVariables false
set_option linter.unusedSimpArgs false

/-! ### estoversref07_Fill: function 23 -/
mutual
def estoversref07_Fill.j0 : Nat → Int → Int → Int → Bool → Int → List (S42) → Option (Int × (List (S42)) × Int)
  | 0, _, _, _, _, _, _ => none
  | k + 1, x1, x2, x3, x29, x218000, x218001 => if x29 = true then (some (0, ([] : List (S42)), 2)) else ((estoversref07_Translation.f k x3).bind fun bt222 => (if bt222.1 = true then (if bt222.2 = true then ((estoversref07_group.f x2).bind fun t225 => (estoversref07_Fill.j1 k x218000 x218001 x1 t225 x3)) else (estoversref07_Fill.j1 k x218000 x218001 x1 x2 x3)) else (some (0, ([] : List (S42)), 3))))
def estoversref07_Fill.j1 : Nat → Int → List (S42) → Int → Int → Int → Option (Int × (List (S42)) × Int)
  | 0, _, _, _, _, _ => none
  | k + 1, x218000, x218001, x225000, x225001, x225002 => estoversref07_Fill.l0 k ([] : List (S42)) 0 x218000 x218001 x225000 x225001 x225002
def estoversref07_Fill.l0 : Nat → List (S42) → Int → Int → List (S42) → Int → Int → Int → Option (Int × (List (S42)) × Int)
  | 0, _, _, _, _, _, _, _ => none
  | k + 1, x14, x15, x218000, x218001, x225000, x225001, x225002 => if x15 < (x218001.length : Int) then (if 0 ≤ x15 then ((estoversref07_overlaps.f k ((rd_T42 x218001 x15).f0) ((rd_T42 x218001 x15).f1) ((rd_T42 x218001 x15).f2) x225000 x225001 x225002).bind fun t227 => (if t227 = true then (estoversref07_Fill.l0 k x14 (wrap64 (x15 + 1)) x218000 x218001 x225000 x225001 x225002) else (if x14.length < 5864062014805 then (estoversref07_Fill.l0 k (x14 ++ [(⟨(rd_T42 x218001 x15).f0, (rd_T42 x218001 x15).f1, (rd_T42 x218001 x15).f2⟩ : S42)]) (wrap64 (x15 + 1)) x218000 x218001 x225000 x225001 x225002) else (none)))) else (none)) else (if (x14.length : Int) ≥ x218000 then (if 1 ≤ (x14.length : Int) then ((some (x14.drop (1 : Int).toNat : List (S42))).bind fun y232 => (if y232.length < 5864062014805 then (some (x218000, (y232 ++ [(⟨x225000, x225001, x225002⟩ : S42)]), 0)) else (none))) else (none)) else (if x14.length < 5864062014805 then (some (x218000, (x14 ++ [(⟨x225000, x225001, x225002⟩ : S42)]), 0)) else (none)))
end
def estoversref07_Fill.f (k : Nat) (a0_0 : Int) (l0_1 : List (S42)) (a1 : Int) (a2 : Int) (a3 : Int) : Option (Int × (List (S42)) × Int) := (estoversref07_Check.f k a0_0 l0_1).bind fun t219 => (if t219 = 0 then ((estoversref07_space.f a1).bind fun t220 => (if t220 = true then ((estoversref07_page.f a2).bind fun t221 => (estoversref07_Fill.j0 k a1 a2 a3 (!t221) a0_0 l0_1)) else (estoversref07_Fill.j0 k a1 a2 a3 true a0_0 l0_1))) else (some (0, ([] : List (S42)), t219)))
theorem estoversref07_Fill.mono_l : ∀ k, (∀ y0 y1 y2 y3 y4 y5, LeO (estoversref07_Fill.j0 k y0 y1 y2 y3 y4 y5) (estoversref07_Fill.j0 (k + 1) y0 y1 y2 y3 y4 y5)) ∧ (∀ y0 y1 y2 y3 y4, LeO (estoversref07_Fill.j1 k y0 y1 y2 y3 y4) (estoversref07_Fill.j1 (k + 1) y0 y1 y2 y3 y4)) ∧ (∀ y0 y1 y2 y3 y4 y5 y6, LeO (estoversref07_Fill.l0 k y0 y1 y2 y3 y4 y5 y6) (estoversref07_Fill.l0 (k + 1) y0 y1 y2 y3 y4 y5 y6))
  | 0 => ⟨fun _ _ _ _ _ _ r h => by simp [estoversref07_Fill.j0] at h, fun _ _ _ _ _ r h => by simp [estoversref07_Fill.j1] at h, fun _ _ _ _ _ _ _ r h => by simp [estoversref07_Fill.l0] at h⟩
  | k + 1 => by
    obtain ⟨ih0, ih1, ih2⟩ := estoversref07_Fill.mono_l k
    refine ⟨?_, ?_, ?_⟩
    · intro y0 y1 y2 y3 y4 y5
      unfold estoversref07_Fill.j0
      repeat' first
      | (with_reducible exact ih0 _ _ _ _ _ _)
      | (with_reducible exact ih1 _ _ _ _ _)
      | (with_reducible exact ih2 _ _ _ _ _ _ _)
      | (with_reducible exact estoversref07_Check.mono _ _ _)
      | (with_reducible exact estoversref07_Translation.mono _ _)
      | (with_reducible exact estoversref07_overlaps.mono _ _ _ _ _ _ _)
      | (with_reducible exact LeO.refl _)
      | (with_reducible exact LeO.none _)
      | (with_reducible refine LeO.ite ?_ ?_)
      | (with_reducible refine LeO.bind ?_ (fun _ => ?_))
      | exact ih0 _ _ _ _ _ _
      | exact ih1 _ _ _ _ _
      | exact ih2 _ _ _ _ _ _ _
      | exact estoversref07_Check.mono _ _ _
      | exact estoversref07_Translation.mono _ _
      | exact estoversref07_overlaps.mono _ _ _ _ _ _ _
      | exact LeO.none _
      | refine LeO.ite ?_ ?_
      | refine LeO.bind ?_ (fun _ => ?_)
    · intro y0 y1 y2 y3 y4
      unfold estoversref07_Fill.j1
      repeat' first
      | (with_reducible exact ih0 _ _ _ _ _ _)
      | (with_reducible exact ih1 _ _ _ _ _)
      | (with_reducible exact ih2 _ _ _ _ _ _ _)
      | (with_reducible exact estoversref07_Check.mono _ _ _)
      | (with_reducible exact estoversref07_Translation.mono _ _)
      | (with_reducible exact estoversref07_overlaps.mono _ _ _ _ _ _ _)
      | (with_reducible exact LeO.refl _)
      | (with_reducible exact LeO.none _)
      | (with_reducible refine LeO.ite ?_ ?_)
      | (with_reducible refine LeO.bind ?_ (fun _ => ?_))
      | exact ih0 _ _ _ _ _ _
      | exact ih1 _ _ _ _ _
      | exact ih2 _ _ _ _ _ _ _
      | exact estoversref07_Check.mono _ _ _
      | exact estoversref07_Translation.mono _ _
      | exact estoversref07_overlaps.mono _ _ _ _ _ _ _
      | exact LeO.none _
      | refine LeO.ite ?_ ?_
      | refine LeO.bind ?_ (fun _ => ?_)
    · intro y0 y1 y2 y3 y4 y5 y6
      unfold estoversref07_Fill.l0
      repeat' first
      | (with_reducible exact ih0 _ _ _ _ _ _)
      | (with_reducible exact ih1 _ _ _ _ _)
      | (with_reducible exact ih2 _ _ _ _ _ _ _)
      | (with_reducible exact estoversref07_Check.mono _ _ _)
      | (with_reducible exact estoversref07_Translation.mono _ _)
      | (with_reducible exact estoversref07_overlaps.mono _ _ _ _ _ _ _)
      | (with_reducible exact LeO.refl _)
      | (with_reducible exact LeO.none _)
      | (with_reducible refine LeO.ite ?_ ?_)
      | (with_reducible refine LeO.bind ?_ (fun _ => ?_))
      | exact ih0 _ _ _ _ _ _
      | exact ih1 _ _ _ _ _
      | exact ih2 _ _ _ _ _ _ _
      | exact estoversref07_Check.mono _ _ _
      | exact estoversref07_Translation.mono _ _
      | exact estoversref07_overlaps.mono _ _ _ _ _ _ _
      | exact LeO.none _
      | refine LeO.ite ?_ ?_
      | refine LeO.bind ?_ (fun _ => ?_)
theorem estoversref07_Fill.mono : ∀ a0 a1 a2 a3 a4 k, LeO (estoversref07_Fill.f k a0 a1 a2 a3 a4) (estoversref07_Fill.f (k + 1) a0 a1 a2 a3 a4) := by
  intro a0 a1 a2 a3 a4 k
  obtain ⟨ih0, ih1, ih2⟩ := estoversref07_Fill.mono_l k
  unfold estoversref07_Fill.f
  repeat' first
      | (with_reducible exact ih0 _ _ _ _ _ _)
      | (with_reducible exact ih1 _ _ _ _ _)
      | (with_reducible exact ih2 _ _ _ _ _ _ _)
      | (with_reducible exact estoversref07_Check.mono _ _ _)
      | (with_reducible exact estoversref07_Translation.mono _ _)
      | (with_reducible exact estoversref07_overlaps.mono _ _ _ _ _ _ _)
      | (with_reducible exact LeO.refl _)
      | (with_reducible exact LeO.none _)
      | (with_reducible refine LeO.ite ?_ ?_)
      | (with_reducible refine LeO.bind ?_ (fun _ => ?_))
      | exact ih0 _ _ _ _ _ _
      | exact ih1 _ _ _ _ _
      | exact ih2 _ _ _ _ _ _ _
      | exact estoversref07_Check.mono _ _ _
      | exact estoversref07_Translation.mono _ _
      | exact estoversref07_overlaps.mono _ _ _ _ _ _ _
      | exact LeO.none _
      | refine LeO.ite ?_ ?_
      | refine LeO.bind ?_ (fun _ => ?_)
def estoversref07_Fill.T16 : Bool × List (List Nat × List Nat) := (true, [([], []), ([0], [0]), ([], []), ([1, 2], [1, 2]), ([3], [3]), ([], []), ([4, 5], [4, 5]), ([6], [6])])
def estoversref07_Fill.B16 : List Nat := [0, 1, 0, 7, 15, 0, 63, 127]
theorem estoversref07_Fill.tab16 : rtab .any (opsOf Try.f23 16) = estoversref07_Fill.T16 := by kernel_rfl
theorem estoversref07_Fill.bits16 : waitsOk estoversref07_Fill.T16.2 estoversref07_Fill.B16 = true := by kernel_rfl
def estoversref07_Fill.T20 : Bool × List (List Nat × List Nat) := (true, [([], []), ([0], [0]), ([], []), ([], []), ([3], [3]), ([2, 4], [2, 4]), ([1, 5], [1, 5]), ([6, 5, 0, 1, 2, 3, 4, 5, 6], [6]), ([7, 0, 1, 2, 3, 4, 5, 6, 7], [])])
def estoversref07_Fill.B20 : List Nat := [0, 1, 0, 0, 8, 28, 63, 127, 255]
theorem estoversref07_Fill.tab20 : rtab .any (opsOf Try.f23 20) = estoversref07_Fill.T20 := by kernel_rfl
theorem estoversref07_Fill.bits20 : waitsOk estoversref07_Fill.T20.2 estoversref07_Fill.B20 = true := by kernel_rfl
set_option maxHeartbeats 8000000 in
set_option maxRecDepth 100000 in
theorem estoversref07_Fill.calls (k : Nat) (a0_0 : Int) (A0_1 : Option Addr) (c0_1 : Nat) (l0_1 : List (S42)) (a1 : Int) (a2 : Int) (a3 : Int) (r1 : Int) (r2 : List (S42)) (r3 : Int) (w : World) (hr0_1 : Kd.C k42 w A0_1 l0_1.length l0_1) (hc0_1 : l0_1.length ≤ c0_1) (h : estoversref07_Fill.f k a0_0 l0_1 a1 a2 a3 = some (r1, r2, r3)) :
    Calls Try.prog 23 #[.agg #[.int .i64 a0_0, .slice A0_1 l0_1.length c0_1], .int .i64 a1, .int .i64 a2, .int .u64 a3] w fun e w' => ∃ v1_ : Value, e = .returned (.tuple #[.agg #[.int .i64 r1, v1_], .int .i64 r3]) ∧ Kd.Q k42 42 w' w.heap.size (fun _ => True) v1_ r2 ∧ Below w.heap.size w w' := by
  have hu24 := Try.underlying24
  have hu42 := Try.underlying42
  have HR0_1 := Aside0.mk hr0_1
  have HC0_1 := Aside0.mk hc0_1
  clear hr0_1 hc0_1
  have HB := Aside0.mk (Below.refl w.heap.size w)
  have H : ((estoversref07_Check.f k a0_0 l0_1).bind fun t219 => (if t219 = 0 then ((estoversref07_space.f a1).bind fun t220 => (if t220 = true then ((estoversref07_page.f a2).bind fun t221 => (estoversref07_Fill.j0 k a1 a2 a3 (!t221) a0_0 l0_1)) else (estoversref07_Fill.j0 k a1 a2 a3 true a0_0 l0_1))) else (some (0, ([] : List (S42)), t219)))) = some (r1, r2, r3) := h
  clear h
  replace H := Option.bind_eq_some_iff.mp H
  obtain ⟨t219, A50, H⟩ := H
  replace H : (if t219 = 0 then ((estoversref07_space.f a1).bind fun t220 => (if t220 = true then ((estoversref07_page.f a2).bind fun t221 => (estoversref07_Fill.j0 k a1 a2 a3 (!t221) a0_0 l0_1)) else (estoversref07_Fill.j0 k a1 a2 a3 true a0_0 l0_1))) else (some (0, ([] : List (S42)), t219))) = some (r1, r2, r3) := H
  have A5 := Aside0.mk A50
  clear A50
  by_cases c6 : t219 = 0
  · rw [if_pos c6] at H
    have c6b0 : (t219 == 0) = true := beq_iff_eq.mpr c6
    have c6b1 : (t219 != 0) = false := bne_eq_false_iff_eq.mpr c6
    clear c6
    have HC7 := Aside0.mk H
    clear H
    go_enter Try.func23, Try.ntmps23
    go_upto_region 4 with (first | ((with_reducible refine gate_dst (N := 4) rfl ?_); refine box_event ?hg (N := 4) ?hd (cs := #[.int .i64 a0_0, .slice A0_1 l0_1.length c0_1]) (t := 24) ?hr ?_; (case hd => rfl); (case hg => rfl); (case hr => first | (go_simp; done) | (go_simp; rfl)); intro gb217 hg w8 hbox hb; have n0_ := Aside0.mk (below_step (by repeat (first | (with_reducible first | exact HB.out | apply below_alloc | apply pw_below_drewN | apply below_drew1) | exact HB.out)) hb); have n1_ := Aside0.mk (hbox); have n2_ := Aside0.mk ((by rw [hg]; exact (below_size (by repeat (first | (with_reducible first | exact HB.out | apply below_alloc | apply pw_below_drewN | apply below_drew1) | exact HB.out))) : w.heap.size ≤ gb217)); have n3_ := Aside0.mk ((by rw [hg]; exact (below_size (by repeat (first | (with_reducible first | exact HB.out | apply below_alloc | apply pw_below_drewN | apply below_drew1) | exact HB.out))) : w.heap.size ≤ gb217)); clear HB; have HB := n0_; have BK217 := n1_; have GW217 := n2_; have GE217 := n3_; clear n0_ n1_ n2_ n3_; clear hb hbox hg) | ((with_reducible refine gate_dst (N := 8) rfl ?_); refine box_event ?hg (N := 8) ?hd (cs := #[.int .i64 0, .slice none 0 0]) (t := 24) ?hr ?_; (case hd => rfl); (case hg => rfl); (case hr => first | (go_simp; done) | (go_simp; rfl)); intro gb218 hg w9 hbox hb; have n0_ := Aside0.mk (blk_below (g := gb217) (o := .cells #[.int .i64 a0_0, .slice A0_1 l0_1.length c0_1] 24 (0, 0)) (by (with_reducible repeat (first | refine blk_drewN ?_ _ | refine blk_drew ?_ | refine blk_alloc ?_ _)); exact BK217.out) hb); have n1_ := Aside0.mk (below_step (by repeat (first | (with_reducible first | exact HB.out | apply below_alloc | apply pw_below_drewN | apply below_drew1 | refine below_set ?_ GE217.out) | exact HB.out)) hb); have n2_ := Aside0.mk (hbox); have n3_ := Aside0.mk ((by rw [hg]; exact (below_size (by repeat (first | (with_reducible first | exact HB.out | apply below_alloc | apply pw_below_drewN | apply below_drew1 | refine below_set ?_ GE217.out) | exact HB.out))) : w.heap.size ≤ gb218)); have n4_ := Aside0.mk ((by rw [hg]; exact (below_size (by repeat (first | (with_reducible first | exact HB.out | apply below_alloc | apply pw_below_drewN | apply below_drew1 | refine below_set ?_ GE217.out) | exact HB.out))) : w.heap.size ≤ gb218)); have n5_ := Aside0.mk ((by rw [hg]; exact Nat.ne_of_lt (blk_lt (g := gb217) (o := .cells #[.int .i64 a0_0, .slice A0_1 l0_1.length c0_1] 24 (0, 0)) (by (with_reducible repeat (first | refine blk_drewN ?_ _ | refine blk_drew ?_ | refine blk_alloc ?_ _)); exact BK217.out)) : gb217 ≠ gb218)); have n6_ := Aside0.mk ((by rw [hg]; exact Nat.ne_of_gt (blk_lt (g := gb217) (o := .cells #[.int .i64 a0_0, .slice A0_1 l0_1.length c0_1] 24 (0, 0)) (by (with_reducible repeat (first | refine blk_drewN ?_ _ | refine blk_drew ?_ | refine blk_alloc ?_ _)); exact BK217.out)) : gb218 ≠ gb217)); clear BK217; clear HB; have BK217 := n0_; have HB := n1_; have BK218 := n2_; have GW218 := n3_; have GE218 := n4_; have NB217_218 := n5_; have NB218_217 := n6_; clear n0_ n1_ n2_ n3_ n4_ n5_ n6_; clear hb hbox hg; have hnb10 := NB217_218.out; have hnc10 := NB218_217.out; have hcz11_0 : w9.cell? ⟨gb217, 0, none⟩ = some (.int .i64 a0_0) := (blk_cell BK217.out 0).trans rfl; have hcz11_1 : w9.cell? ⟨gb217, 1, none⟩ = some (.slice A0_1 l0_1.length c0_1) := (blk_cell BK217.out 1).trans rfl; have hfz11_0 := blk_frozen BK217.out 0; have hfz11_1 := blk_frozen BK217.out 1) | ((with_reducible refine gate_callee (f := 17) rfl ?_); refine goesL_ (some 17) rfl rfl Try.func17 (by kernel_rfl) rfl #[.agg #[.int .i64 a0_0, .slice A0_1 l0_1.length c0_1]] rfl (by (try simp only [List.map_toArray, List.map_cons, List.map_nil]); first | done | rfl | (simp only [List.length_drop, List.length_take]; rfl)) ?_; (with_reducible refine (estoversref07_Check.calls k a0_0 _ _ l0_1 t219 _ ?side1 ?side2 A5.out).mono ?_); (case side1 => repeat (first | exact (Kd.C_below HR0_1.out HB.out) | (with_reducible refine Kd.C_alloc ?_ _) | (with_reducible refine Kd.C_drewN ?_ _) | (with_reducible refine Kd.C_drew ?_))); (case side2 => exact HC0_1.out); rintro e w12 ⟨rfl, hb⟩; refine ⟨_, rfl, ?_⟩; have n0_ := Aside0.mk (blk_below (g := gb217) (o := .cells #[.int .i64 a0_0, .slice A0_1 l0_1.length c0_1] 24 (0, 0)) (by (with_reducible repeat (first | refine blk_drewN ?_ _ | refine blk_drew ?_ | refine blk_alloc ?_ _)); exact BK217.out) hb); have n1_ := Aside0.mk (blk_below (g := gb218) (o := .cells #[.int .i64 0, .slice none 0 0] 24 (0, 0)) (by (with_reducible repeat (first | refine blk_drewN ?_ _ | refine blk_drew ?_ | refine blk_alloc ?_ _)); exact BK218.out) hb); have n2_ := Aside0.mk (below_step (by repeat (first | (with_reducible first | exact HB.out | apply below_alloc | apply pw_below_drewN | apply below_drew1 | refine below_set ?_ GE217.out | refine below_set ?_ GE218.out) | exact HB.out)) hb); clear BK217; clear BK218; clear HB; have BK217 := n0_; have BK218 := n1_; have HB := n2_; clear n0_ n1_ n2_; (try clear hb); (try clear hb2); (try clear hk); (try clear hi)))
    (try simp only [Act.put, List.setIfInBounds_toArray, List.set_cons_zero, List.set_cons_succ])
    go_cut [29] (fun v29 wc => ∃ (kq : Nat) (x29_6 : Bool), v29 = .bool x29_6 ∧ Aside0 (estoversref07_Fill.j0 kq a1 a2 a3 x29_6 a0_0 l0_1 = some (r1, r2, r3)) ∧ Aside0 (kq ≤ k) ∧ Aside0 (wc.heap[gb217]? = some (.cells #[.int .i64 a0_0, (.slice A0_1 l0_1.length c0_1)] 24 (0, 0))) ∧ Aside0 (wc.heap[gb218]? = some (.cells #[.int .i64 0, (.slice none 0 0)] 24 (0, 0))) ∧ Aside0 (Below w.heap.size w wc))
    case first =>
      have H := HC7.out
      clear HC7
      replace H := Option.bind_eq_some_iff.mp H
      obtain ⟨t220, A130, H⟩ := H
      replace H : (if t220 = true then ((estoversref07_page.f a2).bind fun t221 => (estoversref07_Fill.j0 k a1 a2 a3 (!t221) a0_0 l0_1)) else (estoversref07_Fill.j0 k a1 a2 a3 true a0_0 l0_1)) = some (r1, r2, r3) := H
      have A13 := Aside0.mk A130
      clear A130
      by_cases c14 : t220 = true
      · subst c14
        have H1 : ((estoversref07_page.f a2).bind fun t221 => (estoversref07_Fill.j0 k a1 a2 a3 (!t221) a0_0 l0_1)) = some (r1, r2, r3) := by rw [if_pos rfl] at H; exact H
        clear H
        have H := H1
        clear H1
        replace H := Option.bind_eq_some_iff.mp H
        obtain ⟨t221, A150, H⟩ := H
        replace H : (estoversref07_Fill.j0 k a1 a2 a3 (!t221) a0_0 l0_1) = some (r1, r2, r3) := H
        have A15 := Aside0.mk A150
        clear A150
        have H' := Aside0.mk H
        clear H
        go_wp2_with (first | ((with_reducible refine gate_callee (f := 41) rfl ?_); refine goesL_ (some 23) rfl rfl Try.func41 (by kernel_rfl) rfl #[.int .i64 a1] rfl (by (try simp only [List.map_toArray, List.map_cons, List.map_nil]); first | done | rfl | (simp only [List.length_drop, List.length_take]; rfl)) ?_; (with_reducible refine (estoversref07_space.calls a1 true _ A13.out).mono ?_); rintro e w' ⟨rfl, ⟨nd, rfl⟩⟩; refine ⟨_, rfl, ?_⟩) | (go_at_call 42; (with_reducible refine (estoversref07_page.calls a2 t221 _ A15.out).mono ?_); rintro e w' ⟨rfl, ⟨nd, rfl⟩⟩))
        go_meet
        case rel => exact ⟨_, (!t221), (by first | rfl | (simp; done) | (simp [*]; done)), H', ⟨by first | omega | exact Nat.le_refl _⟩, ⟨by (with_reducible repeat (first | refine blk_drewN ?_ _ | refine blk_drew ?_ | refine blk_alloc ?_ _)); exact BK217.out⟩, ⟨by (with_reducible repeat (first | refine blk_drewN ?_ _ | refine blk_drew ?_ | refine blk_alloc ?_ _)); exact BK218.out⟩, ⟨by repeat (first | (with_reducible first | exact HB.out | apply below_alloc | apply pw_below_drewN | apply below_drew1 | refine below_set ?_ GE217.out | refine below_set ?_ GE218.out) | exact HB.out)⟩⟩
      · replace c14 := Bool.eq_false_iff.mpr c14
        subst c14
        have H1 : (estoversref07_Fill.j0 k a1 a2 a3 true a0_0 l0_1) = some (r1, r2, r3) := by rw [if_neg (show ¬ (false = true) by decide)] at H; exact H
        clear H
        have H := H1
        clear H1
        have H' := Aside0.mk H
        clear H
        go_wp2_with (first | ((with_reducible refine gate_callee (f := 41) rfl ?_); refine goesL_ (some 23) rfl rfl Try.func41 (by kernel_rfl) rfl #[.int .i64 a1] rfl (by (try simp only [List.map_toArray, List.map_cons, List.map_nil]); first | done | rfl | (simp only [List.length_drop, List.length_take]; rfl)) ?_; (with_reducible refine (estoversref07_space.calls a1 false _ A13.out).mono ?_); rintro e w' ⟨rfl, ⟨nd, rfl⟩⟩; refine ⟨_, rfl, ?_⟩))
        go_meet
        case rel => exact ⟨_, (true), (by first | rfl | (simp; done) | (simp [*]; done)), H', ⟨by first | omega | exact Nat.le_refl _⟩, ⟨by (with_reducible repeat (first | refine blk_drewN ?_ _ | refine blk_drew ?_ | refine blk_alloc ?_ _)); exact BK217.out⟩, ⟨by (with_reducible repeat (first | refine blk_drewN ?_ _ | refine blk_drew ?_ | refine blk_alloc ?_ _)); exact BK218.out⟩, ⟨by repeat (first | (with_reducible first | exact HB.out | apply below_alloc | apply pw_below_drewN | apply below_drew1 | refine below_set ?_ GE217.out | refine below_set ?_ GE218.out) | exact HB.out)⟩⟩
    case rest =>
      clear HC7
      try clear c1
      try clear c2
      try clear p2
      try clear c4
      try clear c6
      try clear c6b0
      try clear c6b1
      try clear c10
      try clear c14
      try clear hcz11_0
      try clear hcz11_1
      try clear hfz11_0
      try clear hfz11_1
      obtain ⟨kq, x29_6, rfl, HA, HJ6, BK217, BK218, HB⟩ := hcut
      cases kq with
      | zero => exact absurd HA.out (by simp [estoversref07_Fill.j0])
      | succ kj6 =>
        have H := HA.out
        clear HA
        simp only [estoversref07_Fill.j0] at H
        by_cases c16 : x29_6 = true
        · subst c16
          have H1 : (some (0, ([] : List (S42)), 2)) = some (r1, r2, r3) := by rw [if_pos rfl] at H; exact H
          clear H
          have H := H1
          clear H1
          simp only [Option.some.injEq, Prod.mk.injEq] at H
          obtain ⟨rfl, rfl, rfl⟩ := H
          have hnb17 := NB218_217.out
          have hnc17 := NB217_218.out
          have hcz18_0 : wc.cell? ⟨gb218, 0, none⟩ = some (.int .i64 0) := (blk_cell BK218.out 0).trans rfl
          have hcz18_1 : wc.cell? ⟨gb218, 1, none⟩ = some (.slice none 0 0) := (blk_cell BK218.out 1).trans rfl
          have hfz18_0 := blk_frozen BK218.out 0
          have hfz18_1 := blk_frozen BK218.out 1
          go_wp2
          refine bodyPost_ret (results_ct rfl _ _ gb218 24 #[.int .i64 0, .slice none 0 0] (0, 0) _ rfl (by (with_reducible repeat (first | refine blk_drewN ?_ _ | refine blk_drew ?_ | refine blk_alloc ?_ _)); refine blk_put (cs := #[.int .i64 0, .slice none 0 0]) ?_ 1 _ rfl; (with_reducible repeat (first | refine blk_drewN ?_ _ | refine blk_drew ?_ | refine blk_alloc ?_ _)); refine blk_put (cs := #[.int .i64 0, .slice none 0 0]) ?_ 0 _ rfl; (with_reducible repeat (first | refine blk_drewN ?_ _ | refine blk_drew ?_ | refine blk_alloc ?_ _)); exact BK218.out) Try.underlying24 rfl (by kernel_rfl)) rfl ?_
          exact ⟨_, by first | rfl | (simp [errW_none, errW_some] <;> rfl) | (simp [*, errW_none, errW_some] <;> rfl), Kd.Q_of_R (by first | exact Kd.R_nil _ _ _ _ _ | exact Kd.N_nil _ _ _ _ _ | exact Kd.V_nil _ _ _ _ _ | exact Kd.Q_nil _ _ _ _ _ | exact Kd.S_nil _ _ _ _ _), by repeat (first | (with_reducible first | exact HB.out | apply below_alloc | apply pw_below_drewN | apply below_drew1 | refine below_set ?_ GE217.out | refine below_set ?_ GE218.out) | exact HB.out)⟩
        · replace c16 := Bool.eq_false_iff.mpr c16
          subst c16
          have H1 : ((estoversref07_Translation.f kj6 a3).bind fun bt222 => (if bt222.1 = true then (if bt222.2 = true then ((estoversref07_group.f a2).bind fun t225 => (estoversref07_Fill.j1 kj6 a0_0 l0_1 a1 t225 a3)) else (estoversref07_Fill.j1 kj6 a0_0 l0_1 a1 a2 a3)) else (some (0, ([] : List (S42)), 3)))) = some (r1, r2, r3) := by rw [if_neg (show ¬ (false = true) by decide)] at H; exact H
          clear H
          have H := H1
          clear H1
          replace H := Option.bind_eq_some_iff.mp H
          obtain ⟨⟨t222, t223⟩, A190, H⟩ := H
          replace H : (if t222 = true then (if t223 = true then ((estoversref07_group.f a2).bind fun t225 => (estoversref07_Fill.j1 kj6 a0_0 l0_1 a1 t225 a3)) else (estoversref07_Fill.j1 kj6 a0_0 l0_1 a1 a2 a3)) else (some (0, ([] : List (S42)), 3))) = some (r1, r2, r3) := H
          have A19 := Aside0.mk A190
          clear A190
          by_cases c20 : t222 = true
          · subst c20
            have H1 : (if t223 = true then ((estoversref07_group.f a2).bind fun t225 => (estoversref07_Fill.j1 kj6 a0_0 l0_1 a1 t225 a3)) else (estoversref07_Fill.j1 kj6 a0_0 l0_1 a1 a2 a3)) = some (r1, r2, r3) := by rw [if_pos rfl] at H; exact H
            clear H
            have H := H1
            clear H1
            have HC21 := Aside0.mk H
            clear H
            go_upto_if 43 with (first | ((with_reducible refine gate_callee (f := 43) rfl ?_); refine goesL_ (some 33) rfl rfl Try.func43 (by kernel_rfl) rfl #[.int .u64 a3] rfl (by (try simp only [List.map_toArray, List.map_cons, List.map_nil]); first | done | rfl | (simp only [List.length_drop, List.length_take]; rfl)) ?_; (with_reducible refine (estoversref07_Translation.calls kj6 a3 true t223 _ A19.out).mono ?_); rintro e w22 ⟨rfl, hb⟩; refine ⟨_, rfl, ?_⟩; have n0_ := Aside0.mk (blk_below (g := gb217) (o := .cells #[.int .i64 a0_0, .slice A0_1 l0_1.length c0_1] 24 (0, 0)) (by (with_reducible repeat (first | refine blk_drewN ?_ _ | refine blk_drew ?_ | refine blk_alloc ?_ _)); exact BK217.out) hb); have n1_ := Aside0.mk (blk_below (g := gb218) (o := .cells #[.int .i64 0, .slice none 0 0] 24 (0, 0)) (by (with_reducible repeat (first | refine blk_drewN ?_ _ | refine blk_drew ?_ | refine blk_alloc ?_ _)); exact BK218.out) hb); have n2_ := Aside0.mk (below_step (by repeat (first | (with_reducible first | exact HB.out | apply below_alloc | apply pw_below_drewN | apply below_drew1 | refine below_set ?_ GE217.out | refine below_set ?_ GE218.out) | exact HB.out)) hb); clear BK217; clear BK218; clear HB; have BK217 := n0_; have BK218 := n1_; have HB := n2_; clear n0_ n1_ n2_; (try clear hb); (try clear hb2); (try clear hk); (try clear hi)) | ((with_reducible refine gate_dst (N := 13) rfl ?_); refine box_event ?hg (N := 13) ?hd (cs := #[.int .i64 0, .int .i64 0, .int .u64 0]) (t := 42) ?hr ?_; (case hd => rfl); (case hg => rfl); (case hr => first | (go_simp; done) | (go_simp; rfl)); intro gb224 hg w23 hbox hb; have n0_ := Aside0.mk (blk_below (g := gb217) (o := .cells #[.int .i64 a0_0, .slice A0_1 l0_1.length c0_1] 24 (0, 0)) (by (with_reducible repeat (first | refine blk_drewN ?_ _ | refine blk_drew ?_ | refine blk_alloc ?_ _)); exact BK217.out) hb); have n1_ := Aside0.mk (blk_below (g := gb218) (o := .cells #[.int .i64 0, .slice none 0 0] 24 (0, 0)) (by (with_reducible repeat (first | refine blk_drewN ?_ _ | refine blk_drew ?_ | refine blk_alloc ?_ _)); exact BK218.out) hb); have n2_ := Aside0.mk (below_step (by repeat (first | (with_reducible first | exact HB.out | apply below_alloc | apply pw_below_drewN | apply below_drew1 | refine below_set ?_ GE217.out | refine below_set ?_ GE218.out) | exact HB.out)) hb); have n3_ := Aside0.mk (hbox); have n4_ := Aside0.mk ((by rw [hg]; exact (below_size (by repeat (first | (with_reducible first | exact HB.out | apply below_alloc | apply pw_below_drewN | apply below_drew1 | refine below_set ?_ GE217.out | refine below_set ?_ GE218.out) | exact HB.out))) : w.heap.size ≤ gb224)); have n5_ := Aside0.mk ((by rw [hg]; exact (below_size (by repeat (first | (with_reducible first | exact HB.out | apply below_alloc | apply pw_below_drewN | apply below_drew1 | refine below_set ?_ GE217.out | refine below_set ?_ GE218.out) | exact HB.out))) : w.heap.size ≤ gb224)); have n6_ := Aside0.mk ((by rw [hg]; exact Nat.ne_of_lt (blk_lt (g := gb217) (o := .cells #[.int .i64 a0_0, .slice A0_1 l0_1.length c0_1] 24 (0, 0)) (by (with_reducible repeat (first | refine blk_drewN ?_ _ | refine blk_drew ?_ | refine blk_alloc ?_ _)); exact BK217.out)) : gb217 ≠ gb224)); have n7_ := Aside0.mk ((by rw [hg]; exact Nat.ne_of_gt (blk_lt (g := gb217) (o := .cells #[.int .i64 a0_0, .slice A0_1 l0_1.length c0_1] 24 (0, 0)) (by (with_reducible repeat (first | refine blk_drewN ?_ _ | refine blk_drew ?_ | refine blk_alloc ?_ _)); exact BK217.out)) : gb224 ≠ gb217)); have n8_ := Aside0.mk ((by rw [hg]; exact Nat.ne_of_lt (blk_lt (g := gb218) (o := .cells #[.int .i64 0, .slice none 0 0] 24 (0, 0)) (by (with_reducible repeat (first | refine blk_drewN ?_ _ | refine blk_drew ?_ | refine blk_alloc ?_ _)); exact BK218.out)) : gb218 ≠ gb224)); have n9_ := Aside0.mk ((by rw [hg]; exact Nat.ne_of_gt (blk_lt (g := gb218) (o := .cells #[.int .i64 0, .slice none 0 0] 24 (0, 0)) (by (with_reducible repeat (first | refine blk_drewN ?_ _ | refine blk_drew ?_ | refine blk_alloc ?_ _)); exact BK218.out)) : gb224 ≠ gb218)); clear BK217; clear BK218; clear HB; have BK217 := n0_; have BK218 := n1_; have HB := n2_; have BK224 := n3_; have GW224 := n4_; have GE224 := n5_; have NB217_224 := n6_; have NB224_217 := n7_; have NB218_224 := n8_; have NB224_218 := n9_; clear n0_ n1_ n2_ n3_ n4_ n5_ n6_ n7_ n8_ n9_; clear hb hbox hg; have hnb24 := NB224_217.out; have hnc24 := NB217_224.out; have hnb25 := NB224_218.out; have hnc25 := NB218_224.out; have hcz26_0 : w23.cell? ⟨gb224, 0, none⟩ = some (.int .i64 0) := (blk_cell BK224.out 0).trans rfl; have hcz26_1 : w23.cell? ⟨gb224, 1, none⟩ = some (.int .i64 0) := (blk_cell BK224.out 1).trans rfl; have hcz26_2 : w23.cell? ⟨gb224, 2, none⟩ = some (.int .u64 0) := (blk_cell BK224.out 2).trans rfl; have hfz26_0 := blk_frozen BK224.out 0; have hfz26_1 := blk_frozen BK224.out 1; have hfz26_2 := blk_frozen BK224.out 2))
            (try simp only [Act.put, List.setIfInBounds_toArray, List.set_cons_zero, List.set_cons_succ])
            go_cut [] (fun wc => ∃ (kq : Nat) (x225001_20 : Int), Aside0 (estoversref07_Fill.j1 kq a0_0 l0_1 a1 x225001_20 a3 = some (r1, r2, r3)) ∧ Aside0 (kq ≤ kj6) ∧ Aside0 (wc.heap[gb217]? = some (.cells #[.int .i64 a0_0, (.slice A0_1 l0_1.length c0_1)] 24 (0, 0))) ∧ Aside0 (wc.heap[gb218]? = some (.cells #[.int .i64 0, (.slice none 0 0)] 24 (0, 0))) ∧ Aside0 (wc.heap[gb224]? = some (.cells #[.int .i64 a1, .int .i64 x225001_20, .int .u64 a3] 42 (0, 0))) ∧ Aside0 (Below w.heap.size w wc))
            case first =>
              have H := HC21.out
              clear HC21
              by_cases c27 : t223 = true
              · subst c27
                have H1 : ((estoversref07_group.f a2).bind fun t225 => (estoversref07_Fill.j1 kj6 a0_0 l0_1 a1 t225 a3)) = some (r1, r2, r3) := by rw [if_pos rfl] at H; exact H
                clear H
                have H := H1
                clear H1
                replace H := Option.bind_eq_some_iff.mp H
                obtain ⟨t225, A280, H⟩ := H
                replace H : (estoversref07_Fill.j1 kj6 a0_0 l0_1 a1 t225 a3) = some (r1, r2, r3) := H
                have A28 := Aside0.mk A280
                clear A280
                have H' := Aside0.mk H
                clear H
                go_wp2_with (first | ((with_reducible refine gate_callee (f := 44) rfl ?_); refine goesL_ (some 45) rfl rfl Try.func44 (by kernel_rfl) rfl #[.int .i64 a2] rfl (by (try simp only [List.map_toArray, List.map_cons, List.map_nil]); first | done | rfl | (simp only [List.length_drop, List.length_take]; rfl)) ?_; (with_reducible refine (estoversref07_group.calls a2 t225 _ A28.out).mono ?_); rintro e w' ⟨rfl, ⟨nd, rfl⟩⟩; refine ⟨_, rfl, ?_⟩; have hnb29 := NB224_217.out; have hnc29 := NB217_224.out; have hnb30 := NB224_218.out; have hnc30 := NB218_224.out; have hcz31_0 : w23.cell? ⟨gb224, 0, none⟩ = some (.int .i64 0) := (blk_cell BK224.out 0).trans rfl; have hcz31_1 : w23.cell? ⟨gb224, 1, none⟩ = some (.int .i64 0) := (blk_cell BK224.out 1).trans rfl; have hcz31_2 : w23.cell? ⟨gb224, 2, none⟩ = some (.int .u64 0) := (blk_cell BK224.out 2).trans rfl; have hfz31_0 := blk_frozen BK224.out 0; have hfz31_1 := blk_frozen BK224.out 1; have hfz31_2 := blk_frozen BK224.out 2))
                go_meet
                case rel => exact ⟨_, (t225), H', ⟨by have := HJ6.out; first | omega | exact Nat.le_refl _⟩, ⟨by (with_reducible repeat (first | refine blk_drewN ?_ _ | refine blk_drew ?_ | refine blk_alloc ?_ _)); refine blk_far ?_ NB217_224.out _; (with_reducible repeat (first | refine blk_drewN ?_ _ | refine blk_drew ?_ | refine blk_alloc ?_ _)); refine blk_far ?_ NB217_224.out _; (with_reducible repeat (first | refine blk_drewN ?_ _ | refine blk_drew ?_ | refine blk_alloc ?_ _)); refine blk_far ?_ NB217_224.out _; (with_reducible repeat (first | refine blk_drewN ?_ _ | refine blk_drew ?_ | refine blk_alloc ?_ _)); refine blk_far ?_ NB217_224.out _; (with_reducible repeat (first | refine blk_drewN ?_ _ | refine blk_drew ?_ | refine blk_alloc ?_ _)); exact BK217.out⟩, ⟨by (with_reducible repeat (first | refine blk_drewN ?_ _ | refine blk_drew ?_ | refine blk_alloc ?_ _)); refine blk_far ?_ NB218_224.out _; (with_reducible repeat (first | refine blk_drewN ?_ _ | refine blk_drew ?_ | refine blk_alloc ?_ _)); refine blk_far ?_ NB218_224.out _; (with_reducible repeat (first | refine blk_drewN ?_ _ | refine blk_drew ?_ | refine blk_alloc ?_ _)); refine blk_far ?_ NB218_224.out _; (with_reducible repeat (first | refine blk_drewN ?_ _ | refine blk_drew ?_ | refine blk_alloc ?_ _)); refine blk_far ?_ NB218_224.out _; (with_reducible repeat (first | refine blk_drewN ?_ _ | refine blk_drew ?_ | refine blk_alloc ?_ _)); exact BK218.out⟩, ⟨by (with_reducible repeat (first | refine blk_drewN ?_ _ | refine blk_drew ?_ | refine blk_alloc ?_ _)); refine blk_put (cs := #[.int .i64 a1, .int .i64 a2, .int .u64 a3]) ?_ 1 _ rfl; (with_reducible repeat (first | refine blk_drewN ?_ _ | refine blk_drew ?_ | refine blk_alloc ?_ _)); refine blk_put (cs := #[.int .i64 a1, .int .i64 a2, .int .u64 0]) ?_ 2 _ rfl; (with_reducible repeat (first | refine blk_drewN ?_ _ | refine blk_drew ?_ | refine blk_alloc ?_ _)); refine blk_put (cs := #[.int .i64 a1, .int .i64 0, .int .u64 0]) ?_ 1 _ rfl; (with_reducible repeat (first | refine blk_drewN ?_ _ | refine blk_drew ?_ | refine blk_alloc ?_ _)); refine blk_put (cs := #[.int .i64 0, .int .i64 0, .int .u64 0]) ?_ 0 _ rfl; (with_reducible repeat (first | refine blk_drewN ?_ _ | refine blk_drew ?_ | refine blk_alloc ?_ _)); exact BK224.out⟩, ⟨by repeat (first | (with_reducible first | exact HB.out | apply below_alloc | apply pw_below_drewN | apply below_drew1 | refine below_set ?_ GE217.out | refine below_set ?_ GE218.out | refine below_set ?_ GE224.out) | exact HB.out)⟩⟩
              · replace c27 := Bool.eq_false_iff.mpr c27
                subst c27
                have H1 : (estoversref07_Fill.j1 kj6 a0_0 l0_1 a1 a2 a3) = some (r1, r2, r3) := by rw [if_neg (show ¬ (false = true) by decide)] at H; exact H
                clear H
                have H := H1
                clear H1
                have H' := Aside0.mk H
                clear H
                go_wp2
                go_meet
                case rel => exact ⟨_, (a2), H', ⟨by have := HJ6.out; first | omega | exact Nat.le_refl _⟩, ⟨by (with_reducible repeat (first | refine blk_drewN ?_ _ | refine blk_drew ?_ | refine blk_alloc ?_ _)); refine blk_far ?_ NB217_224.out _; (with_reducible repeat (first | refine blk_drewN ?_ _ | refine blk_drew ?_ | refine blk_alloc ?_ _)); refine blk_far ?_ NB217_224.out _; (with_reducible repeat (first | refine blk_drewN ?_ _ | refine blk_drew ?_ | refine blk_alloc ?_ _)); refine blk_far ?_ NB217_224.out _; (with_reducible repeat (first | refine blk_drewN ?_ _ | refine blk_drew ?_ | refine blk_alloc ?_ _)); exact BK217.out⟩, ⟨by (with_reducible repeat (first | refine blk_drewN ?_ _ | refine blk_drew ?_ | refine blk_alloc ?_ _)); refine blk_far ?_ NB218_224.out _; (with_reducible repeat (first | refine blk_drewN ?_ _ | refine blk_drew ?_ | refine blk_alloc ?_ _)); refine blk_far ?_ NB218_224.out _; (with_reducible repeat (first | refine blk_drewN ?_ _ | refine blk_drew ?_ | refine blk_alloc ?_ _)); refine blk_far ?_ NB218_224.out _; (with_reducible repeat (first | refine blk_drewN ?_ _ | refine blk_drew ?_ | refine blk_alloc ?_ _)); exact BK218.out⟩, ⟨by (with_reducible repeat (first | refine blk_drewN ?_ _ | refine blk_drew ?_ | refine blk_alloc ?_ _)); refine blk_put (cs := #[.int .i64 a1, .int .i64 a2, .int .u64 0]) ?_ 2 _ rfl; (with_reducible repeat (first | refine blk_drewN ?_ _ | refine blk_drew ?_ | refine blk_alloc ?_ _)); refine blk_put (cs := #[.int .i64 a1, .int .i64 0, .int .u64 0]) ?_ 1 _ rfl; (with_reducible repeat (first | refine blk_drewN ?_ _ | refine blk_drew ?_ | refine blk_alloc ?_ _)); refine blk_put (cs := #[.int .i64 0, .int .i64 0, .int .u64 0]) ?_ 0 _ rfl; (with_reducible repeat (first | refine blk_drewN ?_ _ | refine blk_drew ?_ | refine blk_alloc ?_ _)); exact BK224.out⟩, ⟨by repeat (first | (with_reducible first | exact HB.out | apply below_alloc | apply pw_below_drewN | apply below_drew1 | refine below_set ?_ GE217.out | refine below_set ?_ GE218.out | refine below_set ?_ GE224.out) | exact HB.out)⟩⟩
            case rest =>
              clear HC21
              try clear c1
              try clear c2
              try clear p2
              try clear c3
              try clear c4
              try clear c6
              try clear c6b0
              try clear c6b1
              try clear c10
              try clear c14
              try clear c16
              try clear c17
              try clear c20
              try clear c23
              try clear c24
              try clear c25
              try clear c27
              try clear c29
              try clear c30
              try clear hcz11_0
              try clear hcz11_1
              try clear hcz18_0
              try clear hcz18_1
              try clear hcz26_0
              try clear hcz26_1
              try clear hcz26_2
              try clear hcz31_0
              try clear hcz31_1
              try clear hcz31_2
              try clear hfz11_0
              try clear hfz11_1
              try clear hfz18_0
              try clear hfz18_1
              try clear hfz26_0
              try clear hfz26_1
              try clear hfz26_2
              try clear hfz31_0
              try clear hfz31_1
              try clear hfz31_2
              try clear p2
              obtain ⟨kq, x225001_20, HA, HJ20, BK217, BK218, BK224, HB⟩ := hcut
              cases kq with
              | zero => exact absurd HA.out (by simp [estoversref07_Fill.j1])
              | succ kj20 =>
                have H := HA.out
                clear HA
                simp only [estoversref07_Fill.j1] at H
                have H' := Aside0.mk H
                clear H
                go_wp2
                go_loopg [14, 15] kj20 (fun kq v14 v15 w' => ∃ (x14_3 : List (S42)) (x15_3 : Int), v15 = .int .i64 x15_3 ∧ Aside0 (estoversref07_Fill.l0 kq x14_3 x15_3 a0_0 l0_1 a1 x225001_20 a3 = some (r1, r2, r3)) ∧ Aside0 (kq ≤ kj20) ∧ Aside0 (Kd.Q k42 42 w' w.heap.size (fun k_ => k_ ≠ gb224) v14 x14_3) ∧ Aside0 (w'.heap[gb217]? = some (.cells #[.int .i64 a0_0, (.slice A0_1 l0_1.length c0_1)] 24 (0, 0))) ∧ Aside0 (w'.heap[gb218]? = some (.cells #[.int .i64 0, (.slice none 0 0)] 24 (0, 0))) ∧ Aside0 (w'.heap[gb224]? = some (.cells #[.int .i64 a1, .int .i64 x225001_20, .int .u64 a3] 42 (0, 0))) ∧ Aside0 (Below w.heap.size w w'))
                case atStart => exact ⟨(([] : List (S42))), (0), (by first | rfl | (simp; done) | (simp [*]; done)), H', ⟨Nat.le_refl _⟩, ⟨Kd.Q_of_R (by first | exact Kd.R_nil _ _ _ _ _ | exact Kd.N_nil _ _ _ _ _ | exact Kd.V_nil _ _ _ _ _ | exact Kd.Q_nil _ _ _ _ _ | exact Kd.S_nil _ _ _ _ _)⟩, ⟨by (with_reducible repeat (first | refine blk_drewN ?_ _ | refine blk_drew ?_ | refine blk_alloc ?_ _)); exact BK217.out⟩, ⟨by (with_reducible repeat (first | refine blk_drewN ?_ _ | refine blk_drew ?_ | refine blk_alloc ?_ _)); exact BK218.out⟩, ⟨by (with_reducible repeat (first | refine blk_drewN ?_ _ | refine blk_drew ?_ | refine blk_alloc ?_ _)); exact BK224.out⟩, ⟨by repeat (first | (with_reducible first | exact HB.out | apply below_alloc | apply pw_below_drewN | apply below_drew1 | refine below_set ?_ GE217.out | refine below_set ?_ GE218.out | refine below_set ?_ GE224.out) | exact HB.out)⟩⟩
                case round =>
                  clear H'
                  try clear c1
                  try clear c2
                  try clear p2
                  try clear c3
                  try clear c4
                  try clear c6
                  try clear c6b0
                  try clear c6b1
                  try clear c10
                  try clear c14
                  try clear c16
                  try clear c17
                  try clear c20
                  try clear c23
                  try clear c24
                  try clear c25
                  try clear c27
                  try clear c29
                  try clear c30
                  try clear hcz11_0
                  try clear hcz11_1
                  try clear hcz18_0
                  try clear hcz18_1
                  try clear hcz26_0
                  try clear hcz26_1
                  try clear hcz26_2
                  try clear hcz31_0
                  try clear hcz31_1
                  try clear hcz31_2
                  try clear hfz11_0
                  try clear hfz11_1
                  try clear hfz18_0
                  try clear hfz18_1
                  try clear hfz26_0
                  try clear hfz26_1
                  try clear hfz26_2
                  try clear hfz31_0
                  try clear hfz31_1
                  try clear hfz31_2
                  try clear p2
                  obtain ⟨x14_3, x15_3, rfl, HA, HK3, HO_14, BK217, BK218, BK224, HB⟩ := hrel
                  cases gk with
                  | zero => exact absurd HA.out (by simp [estoversref07_Fill.l0])
                  | succ k3 =>
                    have H := HA.out
                    clear HA
                    simp only [estoversref07_Fill.l0] at H
                    by_cases c32 : x15_3 < (l0_1.length : Int)
                    · rw [if_pos c32] at H
                      have c32b0 : decide (x15_3 < (l0_1.length : Int)) = true := decide_eq_true c32
                      clear c32
                      by_cases c33 : 0 ≤ x15_3
                      · rw [if_pos c33] at H
                        have c33b0 : decide (0 ≤ x15_3) = true := decide_eq_true c33
                        clear c33
                        replace H := Option.bind_eq_some_iff.mp H
                        obtain ⟨t227, A340, H⟩ := H
                        replace H : (if t227 = true then (estoversref07_Fill.l0 k3 x14_3 (wrap64 (x15_3 + 1)) a0_0 l0_1 a1 x225001_20 a3) else (if x14_3.length < 5864062014805 then (estoversref07_Fill.l0 k3 (x14_3 ++ [(⟨(rd_T42 l0_1 x15_3).f0, (rd_T42 l0_1 x15_3).f1, (rd_T42 l0_1 x15_3).f2⟩ : S42)]) (wrap64 (x15_3 + 1)) a0_0 l0_1 a1 x225001_20 a3) else (none))) = some (r1, r2, r3) := H
                        have A34 := Aside0.mk A340
                        clear A340
                        by_cases c35 : t227 = true
                        · subst c35
                          have H1 : (estoversref07_Fill.l0 k3 x14_3 (wrap64 (x15_3 + 1)) a0_0 l0_1 a1 x225001_20 a3) = some (r1, r2, r3) := by rw [if_pos rfl] at H; exact H
                          clear H
                          have H := H1
                          clear H1
                          have H' := Aside0.mk H
                          clear H
                          have hnb36 := NB217_218.out
                          have hnc36 := NB218_217.out
                          have hnb37 := NB217_224.out
                          have hnc37 := NB224_217.out
                          have hcz38_0 : wr.cell? ⟨gb217, 0, none⟩ = some (.int .i64 a0_0) := (blk_cell BK217.out 0).trans rfl
                          have hcz38_1 : wr.cell? ⟨gb217, 1, none⟩ = some (.slice A0_1 l0_1.length c0_1) := (blk_cell BK217.out 1).trans rfl
                          have hfz38_0 := blk_frozen BK217.out 0
                          have hfz38_1 := blk_frozen BK217.out 1
                          try go_wp2
                          have n0_ := Aside0.mk (Kd.Q_drew HO_14.out)
                          have n1_ := Aside0.mk (blk_drew BK217.out)
                          have n2_ := Aside0.mk (blk_drew BK218.out)
                          have n3_ := Aside0.mk (blk_drew BK224.out)
                          have n4_ := Aside0.mk (below_drew1 HB.out)
                          clear HO_14
                          clear BK217
                          clear BK218
                          clear BK224
                          clear HB
                          have HO_14 := n0_
                          have BK217 := n1_
                          have BK218 := n2_
                          have BK224 := n3_
                          have HB := n4_
                          clear n0_ n1_ n2_ n3_ n4_
                          have p226 : 0 ≤ (x15_3 : Int) := of_decide_eq_true (by first | (with_reducible assumption) | assumption)
                          have q226 : x15_3 < (l0_1.length : Int) := of_decide_eq_true (by first | (with_reducible assumption) | assumption)
                          obtain ⟨ad226, e226, hx226_0, hx226_1, hx226_2⟩ := at_T42 HR0_1.out x15_3 p226 q226
                          have hw226_2 := hx226_2
                          have hw226_1 := hx226_1
                          have hw226_0 := hx226_0
                          cases e226
                          replace hx226_0 := (HB.out.cell (World.block_lt_of_cell? w _ hx226_0)).trans hx226_0
                          replace hx226_1 := (HB.out.cell (World.block_lt_of_cell? w _ hx226_1)).trans hx226_1
                          replace hx226_2 := (HB.out.cell (World.block_lt_of_cell? w _ hx226_2)).trans hx226_2
                          replace p226 := eq_true p226
                          replace q226 := eq_true q226
                          refine start_ (n := 8) (S := fun w' => w'.cell? ⟨gb217, 0, none⟩ = some (.int .i64 a0_0) ∧ w'.cell? ⟨gb217, 1, none⟩ = some (.slice (some ad226) l0_1.length c0_1) ∧ w'.cell? ⟨gb224, 0, none⟩ = some (.int .i64 a1) ∧ w'.cell? ⟨gb224, 1, none⟩ = some (.int .i64 x225001_20) ∧ w'.cell? ⟨gb224, 2, none⟩ = some (.int .u64 a3) ∧ w'.cell? (ad226.add ((x15_3).toNat * 3)) = some (.int .i64 ((rd_T42 l0_1 x15_3).f0)) ∧ w'.cell? ⟨(ad226.add ((x15_3).toNat * 3)).block, (ad226.add ((x15_3).toNat * 3)).off + 1, none⟩ = some (.int .i64 ((rd_T42 l0_1 x15_3).f1)) ∧ w'.cell? ⟨(ad226.add ((x15_3).toNat * 3)).block, (ad226.add ((x15_3).toNat * 3)).off + 2, none⟩ = some (.int .u64 ((rd_T42 l0_1 x15_3).f2))) (ds := []) #[false, false, false, false, false, false, false, false] (by kernel_rfl) rfl rfl ⟨(blk_cell BK217.out 0).trans rfl, (blk_cell BK217.out 1).trans rfl, (blk_cell BK224.out 0).trans rfl, (blk_cell BK224.out 1).trans rfl, (blk_cell BK224.out 2).trans rfl, ((HB.out.cell (World.block_lt_of_cell? w _ hw226_0)).trans hw226_0), ((HB.out.cell (World.block_lt_of_cell? w _ hw226_1)).trans hw226_1), ((HB.out.cell (World.block_lt_of_cell? w _ hw226_2)).trans hw226_2)⟩ (fun hHeld => ?_); refine with_tabW estoversref07_Fill.tab16 estoversref07_Fill.bits16 (fun HT_ HW_ => ?_)
                          generalize wr.drew = w39 at HO_14 BK217 BK218 BK224 HB hx226_0 hx226_1 hx226_2 hHeld ⊢
                          refine pure_ (i := 0) (N := some 54) (v := ?_) (a' := ?_) #[true, false, false, false, false, false, false, false] rfl rfl (any_of HT_.out (by kernel_rfl)) (fun _ _ _ h => h) (Or.inl ⟨by rfl, ?_⟩) ?_ ?_
                          rotate_left
                          · intro w'
                            go_simp
                            with_reducible rfl
                          rotate_left
                          · simp only [Act.put, List.setIfInBounds_toArray, List.set_cons_zero, List.set_cons_succ, i64_w, i32_w]
                            rfl
                          refine pure_ (i := 2) (N := some 56) (v := ?_) (a' := ?_) #[true, false, true, false, false, false, false, false] rfl rfl (any_of HT_.out (by kernel_rfl)) (fun _ _ _ h => h) (Or.inl ⟨by rfl, ?_⟩) ?_ ?_
                          rotate_left
                          · intro w'
                            go_simp
                            with_reducible rfl
                          rotate_left
                          · simp only [Act.put, List.setIfInBounds_toArray, List.set_cons_zero, List.set_cons_succ, i64_w, i32_w]
                            rfl
                          refine take_ (i := 1) (N := some 55) (v := ?_) (a' := ?_) #[true, true, true, false, false, false, false, false] rfl rfl (take_ofW HT_.out HW_.out (by kernel_rfl)) (fun _ _ _ h => h) (Or.inl ⟨by rfl, ?_⟩) hHeld ?_ ?_
                          rotate_left
                          · rintro w' ⟨s0, s1, s2, s3, s4, s5, s6, s7⟩
                            go_simp
                            with_reducible rfl
                          rotate_left
                          · simp only [Act.put, List.setIfInBounds_toArray, List.set_cons_zero, List.set_cons_succ, i64_w, i32_w]
                            rfl
                          refine pure_ (i := 3) (N := some 57) (v := ?_) (a' := ?_) #[true, true, true, true, false, false, false, false] rfl rfl (any_of HT_.out (by kernel_rfl)) (fun _ _ _ h => h) (Or.inl ⟨by rfl, ?_⟩) ?_ ?_
                          rotate_left
                          · intro w'
                            go_simp
                            with_reducible rfl
                          rotate_left
                          · simp only [Act.put, List.setIfInBounds_toArray, List.set_cons_zero, List.set_cons_succ, i64_w, i32_w]
                            rfl
                          refine take_ (i := 4) (N := some 58) (v := ?_) (a' := ?_) #[true, true, true, true, true, false, false, false] rfl rfl (take_ofW HT_.out HW_.out (by kernel_rfl)) (fun _ _ _ h => h) (Or.inl ⟨by rfl, ?_⟩) hHeld ?_ ?_
                          rotate_left
                          · rintro w' ⟨s0, s1, s2, s3, s4, s5, s6, s7⟩
                            go_simp
                            with_reducible rfl
                          rotate_left
                          · simp only [Act.put, List.setIfInBounds_toArray, List.set_cons_zero, List.set_cons_succ, i64_w, i32_w]
                            rfl
                          refine take_ (i := 5) (N := some 59) (v := ?_) (a' := ?_) #[true, true, true, true, true, true, false, false] rfl rfl (take_ofW HT_.out HW_.out (by kernel_rfl)) (fun _ _ _ h => h) (Or.inl ⟨by rfl, ?_⟩) hHeld ?_ ?_
                          rotate_left
                          · rintro w' ⟨s0, s1, s2, s3, s4, s5, s6, s7⟩
                            go_simp
                            with_reducible rfl
                          rotate_left
                          · simp only [Act.put, List.setIfInBounds_toArray, List.set_cons_zero, List.set_cons_succ, i64_w, i32_w]
                            rfl
                          refine one_ (i := 6) (N := some 60) #[true, true, true, true, true, true, true, false] rfl rfl (one_of HT_.out (by kernel_rfl)) (by decide) (fun K hK => ?_)
                          refine goes_ Try.func36 (by kernel_rfl) rfl #[.agg #[.int .i64 ((rd_T42 l0_1 x15_3).f0), .int .i64 ((rd_T42 l0_1 x15_3).f1), .int .u64 ((rd_T42 l0_1 x15_3).f2)], .agg #[.int .i64 a1, .int .i64 x225001_20, .int .u64 a3]] (by rfl) rfl rfl (by (try simp only [List.map_toArray, List.map_cons, List.map_nil]); first | done | rfl | (simp only [List.length_drop, List.length_take]; rfl)) ?_
                          with_reducible refine (estoversref07_overlaps.calls k3 ((rd_T42 l0_1 x15_3).f0) ((rd_T42 l0_1 x15_3).f1) ((rd_T42 l0_1 x15_3).f2) a1 x225001_20 a3 true _ A34.out).mono ?_
                          rintro e w40 ⟨rfl, hb⟩
                          refine ⟨_, rfl, ?_⟩
                          have n0_ := Aside0.mk (Kd.Q_below (by (with_reducible repeat (first | apply Kd.Q_alloc | apply Kd.Q_drewN | apply Kd.Q_drew)); exact HO_14.out) hb)
                          have n1_ := Aside0.mk (blk_below (g := gb217) (o := .cells #[.int .i64 a0_0, .slice (some ad226) l0_1.length c0_1] 24 (0, 0)) (by (with_reducible repeat (first | refine blk_drewN ?_ _ | refine blk_drew ?_ | refine blk_alloc ?_ _)); exact BK217.out) hb)
                          have n2_ := Aside0.mk (blk_below (g := gb218) (o := .cells #[.int .i64 0, .slice none 0 0] 24 (0, 0)) (by (with_reducible repeat (first | refine blk_drewN ?_ _ | refine blk_drew ?_ | refine blk_alloc ?_ _)); exact BK218.out) hb)
                          have n3_ := Aside0.mk (blk_below (g := gb224) (o := .cells #[.int .i64 a1, .int .i64 x225001_20, .int .u64 a3] 42 (0, 0)) (by (with_reducible repeat (first | refine blk_drewN ?_ _ | refine blk_drew ?_ | refine blk_alloc ?_ _)); exact BK224.out) hb)
                          have n4_ := Aside0.mk (below_step (by repeat (first | (with_reducible first | exact HB.out | apply below_alloc | apply pw_below_drewN | apply below_drew1 | refine below_set ?_ GE217.out | refine below_set ?_ GE218.out | refine below_set ?_ GE224.out) | exact HB.out)) hb)
                          clear HO_14
                          clear BK217
                          clear BK218
                          clear BK224
                          clear HB
                          have HO_14 := n0_
                          have BK217 := n1_
                          have BK218 := n2_
                          have BK224 := n3_
                          have HB := n4_
                          clear n0_ n1_ n2_ n3_ n4_
                          (try clear hb)
                          (try clear hb2)
                          (try clear hk)
                          (try clear hi)
                          refine hK.out _ _ ⟨(blk_cell BK217.out 0).trans rfl, (blk_cell BK217.out 1).trans rfl, (blk_cell BK224.out 0).trans rfl, (blk_cell BK224.out 1).trans rfl, (blk_cell BK224.out 2).trans rfl, ((HB.out.cell (World.block_lt_of_cell? w _ hw226_0)).trans hw226_0), ((HB.out.cell (World.block_lt_of_cell? w _ hw226_1)).trans hw226_1), ((HB.out.cell (World.block_lt_of_cell? w _ hw226_2)).trans hw226_2)⟩ (fun hHeld => ?_)
                          clear hK K
                          refine norm_ (a' := ?_) ?_ ?_
                          rotate_left
                          · show Act.put _ (some 60) _ = _
                            simp only [Act.put, List.setIfInBounds_toArray, List.set_cons_zero, List.set_cons_succ, i64_w, i32_w]
                            rfl
                          refine pure_ (i := 7) (N := some 61) (v := ?_) (a' := ?_) #[true, true, true, true, true, true, true, true] rfl rfl (any_of HT_.out (by kernel_rfl)) (fun _ _ _ h => h) (Or.inl ⟨by rfl, ?_⟩) ?_ ?_
                          rotate_left
                          · intro w'
                            go_simp
                            with_reducible rfl
                          rotate_left
                          · simp only [Act.put, List.setIfInBounds_toArray, List.set_cons_zero, List.set_cons_succ, i64_w, i32_w]
                            rfl
                          refine done_ (done_of HT_.out (by kernel_rfl)) ?_
                          try go_wp2
                          go_roundg k3
                          case measure => have := HJ6.out; have := HJ20.out; have := HK3.out; omega
                          case rel => exact ⟨(x14_3), (wrap64 (x15_3 + 1)), (by first | rfl | (simp; done) | (simp [*]; done)), H', ⟨by have := HJ6.out; have := HJ20.out; have := HK3.out; omega⟩, ⟨by (with_reducible repeat (first | apply Kd.Q_alloc | apply Kd.Q_drewN | apply Kd.Q_drew)); exact HO_14.out⟩, ⟨by (with_reducible repeat (first | refine blk_drewN ?_ _ | refine blk_drew ?_ | refine blk_alloc ?_ _)); exact BK217.out⟩, ⟨by (with_reducible repeat (first | refine blk_drewN ?_ _ | refine blk_drew ?_ | refine blk_alloc ?_ _)); exact BK218.out⟩, ⟨by (with_reducible repeat (first | refine blk_drewN ?_ _ | refine blk_drew ?_ | refine blk_alloc ?_ _)); exact BK224.out⟩, ⟨by repeat (first | (with_reducible first | exact HB.out | apply below_alloc | apply pw_below_drewN | apply below_drew1 | refine below_set ?_ GE217.out | refine below_set ?_ GE218.out | refine below_set ?_ GE224.out) | exact HB.out)⟩⟩
                        · replace c35 := Bool.eq_false_iff.mpr c35
                          subst c35
                          have H1 : (if x14_3.length < 5864062014805 then (estoversref07_Fill.l0 k3 (x14_3 ++ [(⟨(rd_T42 l0_1 x15_3).f0, (rd_T42 l0_1 x15_3).f1, (rd_T42 l0_1 x15_3).f2⟩ : S42)]) (wrap64 (x15_3 + 1)) a0_0 l0_1 a1 x225001_20 a3) else (none)) = some (r1, r2, r3) := by rw [if_neg (show ¬ (false = true) by decide)] at H; exact H
                          clear H
                          have H := H1
                          clear H1
                          by_cases c41 : x14_3.length < 5864062014805
                          · rw [if_pos c41] at H
                            have LMc41 := Aside0.mk c41
                            clear c41
                            obtain ⟨y229, hy229⟩ : ∃ y_ : List (S42), y_ = (x14_3 ++ [(⟨(rd_T42 l0_1 x15_3).f0, (rd_T42 l0_1 x15_3).f1, (rd_T42 l0_1 x15_3).f2⟩ : S42)]) := ⟨_, rfl⟩
                            replace H : (estoversref07_Fill.l0 k3 y229 (wrap64 (x15_3 + 1)) a0_0 l0_1 a1 x225001_20 a3) = some (r1, r2, r3) := by first | (rw [hy229]; with_reducible exact H) | (have H2_ := (Option.bind_some _ _).symm.trans H; rw [hy229]; with_reducible exact H2_) | (have H2_ := (Option.bind_some _ _).symm.trans H; with_reducible exact H2_) | with_reducible exact H | (rw [hy229]; exact H) | exact H
                            have Ny229 := Aside0.mk hy229
                            clear hy229
                            have H' := Aside0.mk H
                            clear H
                            have hnb42 := NB217_218.out
                            have hnc42 := NB218_217.out
                            have hnb43 := NB217_224.out
                            have hnc43 := NB224_217.out
                            have hcz44_0 : wr.cell? ⟨gb217, 0, none⟩ = some (.int .i64 a0_0) := (blk_cell BK217.out 0).trans rfl
                            have hcz44_1 : wr.cell? ⟨gb217, 1, none⟩ = some (.slice A0_1 l0_1.length c0_1) := (blk_cell BK217.out 1).trans rfl
                            have hfz44_0 := blk_frozen BK217.out 0
                            have hfz44_1 := blk_frozen BK217.out 1
                            try go_wp2
                            have n0_ := Aside0.mk (Kd.Q_drew HO_14.out)
                            have n1_ := Aside0.mk (blk_drew BK217.out)
                            have n2_ := Aside0.mk (blk_drew BK218.out)
                            have n3_ := Aside0.mk (blk_drew BK224.out)
                            have n4_ := Aside0.mk (below_drew1 HB.out)
                            clear HO_14
                            clear BK217
                            clear BK218
                            clear BK224
                            clear HB
                            have HO_14 := n0_
                            have BK217 := n1_
                            have BK218 := n2_
                            have BK224 := n3_
                            have HB := n4_
                            clear n0_ n1_ n2_ n3_ n4_
                            have p226 : 0 ≤ (x15_3 : Int) := of_decide_eq_true (by first | (with_reducible assumption) | assumption)
                            have q226 : x15_3 < (l0_1.length : Int) := of_decide_eq_true (by first | (with_reducible assumption) | assumption)
                            obtain ⟨ad226, e226, hx226_0, hx226_1, hx226_2⟩ := at_T42 HR0_1.out x15_3 p226 q226
                            have hw226_2 := hx226_2
                            have hw226_1 := hx226_1
                            have hw226_0 := hx226_0
                            cases e226
                            replace hx226_0 := (HB.out.cell (World.block_lt_of_cell? w _ hx226_0)).trans hx226_0
                            replace hx226_1 := (HB.out.cell (World.block_lt_of_cell? w _ hx226_1)).trans hx226_1
                            replace hx226_2 := (HB.out.cell (World.block_lt_of_cell? w _ hx226_2)).trans hx226_2
                            replace p226 := eq_true p226
                            replace q226 := eq_true q226
                            refine start_ (n := 8) (S := fun w' => w'.cell? ⟨gb217, 0, none⟩ = some (.int .i64 a0_0) ∧ w'.cell? ⟨gb217, 1, none⟩ = some (.slice (some ad226) l0_1.length c0_1) ∧ w'.cell? ⟨gb224, 0, none⟩ = some (.int .i64 a1) ∧ w'.cell? ⟨gb224, 1, none⟩ = some (.int .i64 x225001_20) ∧ w'.cell? ⟨gb224, 2, none⟩ = some (.int .u64 a3) ∧ w'.cell? (ad226.add ((x15_3).toNat * 3)) = some (.int .i64 ((rd_T42 l0_1 x15_3).f0)) ∧ w'.cell? ⟨(ad226.add ((x15_3).toNat * 3)).block, (ad226.add ((x15_3).toNat * 3)).off + 1, none⟩ = some (.int .i64 ((rd_T42 l0_1 x15_3).f1)) ∧ w'.cell? ⟨(ad226.add ((x15_3).toNat * 3)).block, (ad226.add ((x15_3).toNat * 3)).off + 2, none⟩ = some (.int .u64 ((rd_T42 l0_1 x15_3).f2))) (ds := []) #[false, false, false, false, false, false, false, false] (by kernel_rfl) rfl rfl ⟨(blk_cell BK217.out 0).trans rfl, (blk_cell BK217.out 1).trans rfl, (blk_cell BK224.out 0).trans rfl, (blk_cell BK224.out 1).trans rfl, (blk_cell BK224.out 2).trans rfl, ((HB.out.cell (World.block_lt_of_cell? w _ hw226_0)).trans hw226_0), ((HB.out.cell (World.block_lt_of_cell? w _ hw226_1)).trans hw226_1), ((HB.out.cell (World.block_lt_of_cell? w _ hw226_2)).trans hw226_2)⟩ (fun hHeld => ?_); refine with_tabW estoversref07_Fill.tab16 estoversref07_Fill.bits16 (fun HT_ HW_ => ?_)
                            generalize wr.drew = w45 at HO_14 BK217 BK218 BK224 HB hx226_0 hx226_1 hx226_2 hHeld ⊢
                            refine pure_ (i := 0) (N := some 54) (v := ?_) (a' := ?_) #[true, false, false, false, false, false, false, false] rfl rfl (any_of HT_.out (by kernel_rfl)) (fun _ _ _ h => h) (Or.inl ⟨by rfl, ?_⟩) ?_ ?_
                            rotate_left
                            · intro w'
                              go_simp
                              with_reducible rfl
                            rotate_left
                            · simp only [Act.put, List.setIfInBounds_toArray, List.set_cons_zero, List.set_cons_succ, i64_w, i32_w]
                              rfl
                            refine pure_ (i := 2) (N := some 56) (v := ?_) (a' := ?_) #[true, false, true, false, false, false, false, false] rfl rfl (any_of HT_.out (by kernel_rfl)) (fun _ _ _ h => h) (Or.inl ⟨by rfl, ?_⟩) ?_ ?_
                            rotate_left
                            · intro w'
                              go_simp
                              with_reducible rfl
                            rotate_left
                            · simp only [Act.put, List.setIfInBounds_toArray, List.set_cons_zero, List.set_cons_succ, i64_w, i32_w]
                              rfl
                            refine take_ (i := 1) (N := some 55) (v := ?_) (a' := ?_) #[true, true, true, false, false, false, false, false] rfl rfl (take_ofW HT_.out HW_.out (by kernel_rfl)) (fun _ _ _ h => h) (Or.inl ⟨by rfl, ?_⟩) hHeld ?_ ?_
                            rotate_left
                            · rintro w' ⟨s0, s1, s2, s3, s4, s5, s6, s7⟩
                              go_simp
                              with_reducible rfl
                            rotate_left
                            · simp only [Act.put, List.setIfInBounds_toArray, List.set_cons_zero, List.set_cons_succ, i64_w, i32_w]
                              rfl
                            refine pure_ (i := 3) (N := some 57) (v := ?_) (a' := ?_) #[true, true, true, true, false, false, false, false] rfl rfl (any_of HT_.out (by kernel_rfl)) (fun _ _ _ h => h) (Or.inl ⟨by rfl, ?_⟩) ?_ ?_
                            rotate_left
                            · intro w'
                              go_simp
                              with_reducible rfl
                            rotate_left
                            · simp only [Act.put, List.setIfInBounds_toArray, List.set_cons_zero, List.set_cons_succ, i64_w, i32_w]
                              rfl
                            refine take_ (i := 4) (N := some 58) (v := ?_) (a' := ?_) #[true, true, true, true, true, false, false, false] rfl rfl (take_ofW HT_.out HW_.out (by kernel_rfl)) (fun _ _ _ h => h) (Or.inl ⟨by rfl, ?_⟩) hHeld ?_ ?_
                            rotate_left
                            · rintro w' ⟨s0, s1, s2, s3, s4, s5, s6, s7⟩
                              go_simp
                              with_reducible rfl
                            rotate_left
                            · simp only [Act.put, List.setIfInBounds_toArray, List.set_cons_zero, List.set_cons_succ, i64_w, i32_w]
                              rfl
                            refine take_ (i := 5) (N := some 59) (v := ?_) (a' := ?_) #[true, true, true, true, true, true, false, false] rfl rfl (take_ofW HT_.out HW_.out (by kernel_rfl)) (fun _ _ _ h => h) (Or.inl ⟨by rfl, ?_⟩) hHeld ?_ ?_
                            rotate_left
                            · rintro w' ⟨s0, s1, s2, s3, s4, s5, s6, s7⟩
                              go_simp
                              with_reducible rfl
                            rotate_left
                            · simp only [Act.put, List.setIfInBounds_toArray, List.set_cons_zero, List.set_cons_succ, i64_w, i32_w]
                              rfl
                            refine one_ (i := 6) (N := some 60) #[true, true, true, true, true, true, true, false] rfl rfl (one_of HT_.out (by kernel_rfl)) (by decide) (fun K hK => ?_)
                            refine goes_ Try.func36 (by kernel_rfl) rfl #[.agg #[.int .i64 ((rd_T42 l0_1 x15_3).f0), .int .i64 ((rd_T42 l0_1 x15_3).f1), .int .u64 ((rd_T42 l0_1 x15_3).f2)], .agg #[.int .i64 a1, .int .i64 x225001_20, .int .u64 a3]] (by rfl) rfl rfl (by (try simp only [List.map_toArray, List.map_cons, List.map_nil]); first | done | rfl | (simp only [List.length_drop, List.length_take]; rfl)) ?_
                            with_reducible refine (estoversref07_overlaps.calls k3 ((rd_T42 l0_1 x15_3).f0) ((rd_T42 l0_1 x15_3).f1) ((rd_T42 l0_1 x15_3).f2) a1 x225001_20 a3 false _ A34.out).mono ?_
                            rintro e w46 ⟨rfl, hb⟩
                            refine ⟨_, rfl, ?_⟩
                            have n0_ := Aside0.mk (Kd.Q_below (by (with_reducible repeat (first | apply Kd.Q_alloc | apply Kd.Q_drewN | apply Kd.Q_drew)); exact HO_14.out) hb)
                            have n1_ := Aside0.mk (blk_below (g := gb217) (o := .cells #[.int .i64 a0_0, .slice (some ad226) l0_1.length c0_1] 24 (0, 0)) (by (with_reducible repeat (first | refine blk_drewN ?_ _ | refine blk_drew ?_ | refine blk_alloc ?_ _)); exact BK217.out) hb)
                            have n2_ := Aside0.mk (blk_below (g := gb218) (o := .cells #[.int .i64 0, .slice none 0 0] 24 (0, 0)) (by (with_reducible repeat (first | refine blk_drewN ?_ _ | refine blk_drew ?_ | refine blk_alloc ?_ _)); exact BK218.out) hb)
                            have n3_ := Aside0.mk (blk_below (g := gb224) (o := .cells #[.int .i64 a1, .int .i64 x225001_20, .int .u64 a3] 42 (0, 0)) (by (with_reducible repeat (first | refine blk_drewN ?_ _ | refine blk_drew ?_ | refine blk_alloc ?_ _)); exact BK224.out) hb)
                            have n4_ := Aside0.mk (below_step (by repeat (first | (with_reducible first | exact HB.out | apply below_alloc | apply pw_below_drewN | apply below_drew1 | refine below_set ?_ GE217.out | refine below_set ?_ GE218.out | refine below_set ?_ GE224.out) | exact HB.out)) hb)
                            clear HO_14
                            clear BK217
                            clear BK218
                            clear BK224
                            clear HB
                            have HO_14 := n0_
                            have BK217 := n1_
                            have BK218 := n2_
                            have BK224 := n3_
                            have HB := n4_
                            clear n0_ n1_ n2_ n3_ n4_
                            (try clear hb)
                            (try clear hb2)
                            (try clear hk)
                            (try clear hi)
                            refine hK.out _ _ ⟨(blk_cell BK217.out 0).trans rfl, (blk_cell BK217.out 1).trans rfl, (blk_cell BK224.out 0).trans rfl, (blk_cell BK224.out 1).trans rfl, (blk_cell BK224.out 2).trans rfl, ((HB.out.cell (World.block_lt_of_cell? w _ hw226_0)).trans hw226_0), ((HB.out.cell (World.block_lt_of_cell? w _ hw226_1)).trans hw226_1), ((HB.out.cell (World.block_lt_of_cell? w _ hw226_2)).trans hw226_2)⟩ (fun hHeld => ?_)
                            clear hK K
                            refine norm_ (a' := ?_) ?_ ?_
                            rotate_left
                            · show Act.put _ (some 60) _ = _
                              simp only [Act.put, List.setIfInBounds_toArray, List.set_cons_zero, List.set_cons_succ, i64_w, i32_w]
                              rfl
                            refine pure_ (i := 7) (N := some 61) (v := ?_) (a' := ?_) #[true, true, true, true, true, true, true, true] rfl rfl (any_of HT_.out (by kernel_rfl)) (fun _ _ _ h => h) (Or.inl ⟨by rfl, ?_⟩) ?_ ?_
                            rotate_left
                            · intro w'
                              go_simp
                              with_reducible rfl
                            rotate_left
                            · simp only [Act.put, List.setIfInBounds_toArray, List.set_cons_zero, List.set_cons_succ, i64_w, i32_w]
                              rfl
                            refine done_ (done_of HT_.out (by kernel_rfl)) ?_
                            have hcz47_0 : w46.cell? ⟨gb217, 0, none⟩ = some (.int .i64 a0_0) := (blk_cell BK217.out 0).trans rfl
                            have hcz47_1 : w46.cell? ⟨gb217, 1, none⟩ = some (.slice (some ad226) l0_1.length c0_1) := (blk_cell BK217.out 1).trans rfl
                            have hfz47_0 := blk_frozen BK217.out 0
                            have hfz47_1 := blk_frozen BK217.out 1
                            have p228 : 0 ≤ (x15_3 : Int) := of_decide_eq_true (by first | (with_reducible assumption) | assumption)
                            have q228 : x15_3 < (l0_1.length : Int) := of_decide_eq_true (by first | (with_reducible assumption) | assumption)
                            obtain ⟨ad228, e228, hx228_0, hx228_1, hx228_2⟩ := at_T42 HR0_1.out x15_3 p228 q228
                            obtain rfl : ad226 = ad228 := (by injection e228)
                            replace hx228_0 := (HB.out.cell (World.block_lt_of_cell? w _ hx228_0)).trans hx228_0
                            replace hx228_1 := (HB.out.cell (World.block_lt_of_cell? w _ hx228_1)).trans hx228_1
                            replace hx228_2 := (HB.out.cell (World.block_lt_of_cell? w _ hx228_2)).trans hx228_2
                            replace p228 := eq_true p228
                            replace q228 := eq_true q228
                            try go_wp2_with (first | ((with_reducible refine gate_builtin (b := .append) (xs := #[.tmp 62, .tmp 68]) rfl ?_); at_builtin; refine Kd.Q_append k42 (w0 := w) w.heap.size rfl (.tmp 62) (.tmp 68) 22 42 (.agg #[(.int .i64 0), (.int .i64 0), (.int .u64 0)]) 24 rfl Try.underlying22 info42 rfl (by decide) (by omega) u14 x14_3 (⟨(rd_T42 l0_1 x15_3).f0, (rd_T42 l0_1 x15_3).f1, (rd_T42 l0_1 x15_3).f2⟩ : S42) [.int .i64 ((rd_T42 l0_1 x15_3).f0), .int .i64 ((rd_T42 l0_1 x15_3).f1), .int .u64 ((rd_T42 l0_1 x15_3).f2)] (fun k_ => k_ ≠ gb224) (fun _ => False) rfl rfl ?aP (fun _ hk => hk.elim) ?aF ?aO ?aB ?aS ?aL ?_; (case aP => exact k42_mkM _ _ _ (⟨(rd_T42 l0_1 x15_3).f0, (rd_T42 l0_1 x15_3).f1, (rd_T42 l0_1 x15_3).f2⟩ : S42)); (case aB => exact (by repeat (first | (with_reducible first | exact HB.out | apply below_alloc | apply pw_below_drewN | apply below_drew1 | refine below_set ?_ GE217.out | refine below_set ?_ GE218.out | refine below_set ?_ GE224.out) | exact HB.out))); (case aF => exact (fun k_ hk => Kd.freshB (g := gb224) (o := .cells #[.int .i64 a1, .int .i64 x225001_20, .int .u64 a3] 42 (0, 0)) (by (with_reducible repeat (first | refine blk_drewN ?_ _ | refine blk_drew ?_ | refine blk_alloc ?_ _)); exact BK224.out) k_ hk)); (case aO => exact (by (with_reducible repeat (first | apply Kd.Q_alloc | apply Kd.Q_drewN | apply Kd.Q_drew)); exact HO_14.out)); (case aS => exact (below_size (by repeat (first | (with_reducible first | exact HB.out | apply below_alloc | apply pw_below_drewN | apply below_drew1 | refine below_set ?_ GE217.out | refine below_set ?_ GE218.out | refine below_set ?_ GE224.out) | exact HB.out)))); (case aL => have := LMc41.out; omega); intro v230 w48 ho hb hg hat; rw [← Ny229.out] at ho; have n0_ := Aside0.mk (blk_grown (g := gb217) (o := .cells #[.int .i64 a0_0, .slice (some ad226) l0_1.length c0_1] 24 (0, 0)) (by (with_reducible repeat (first | refine blk_drewN ?_ _ | refine blk_drew ?_ | refine blk_alloc ?_ _)); exact BK217.out) hg (Kd.Q_ne HO_14.out BK217.out (by decide))); have n1_ := Aside0.mk (blk_grown (g := gb218) (o := .cells #[.int .i64 0, .slice none 0 0] 24 (0, 0)) (by (with_reducible repeat (first | refine blk_drewN ?_ _ | refine blk_drew ?_ | refine blk_alloc ?_ _)); exact BK218.out) hg (Kd.Q_ne HO_14.out BK218.out (by decide))); have n2_ := Aside0.mk (blk_grown (g := gb224) (o := .cells #[.int .i64 a1, .int .i64 x225001_20, .int .u64 a3] 42 (0, 0)) (by (with_reducible repeat (first | refine blk_drewN ?_ _ | refine blk_drew ?_ | refine blk_alloc ?_ _)); exact BK224.out) hg (Kd.Q_away HO_14.out (fun _ hk => hk))); have n3_ := Aside0.mk (hb); have n4_ := Aside0.mk (ho); clear BK217; clear BK218; clear BK224; clear HB; clear HO_14; have BK217 := n0_; have BK218 := n1_; have BK224 := n2_; have HB := n3_; have HO231 := n4_; clear n0_ n1_ n2_ n3_ n4_; clear ho hb hg hat))
                            go_roundg k3
                            case measure => have := HJ6.out; have := HJ20.out; have := HK3.out; omega
                            case rel => exact ⟨(y229), (wrap64 (x15_3 + 1)), (by first | rfl | (simp; done) | (simp [*]; done)), H', ⟨by have := HJ6.out; have := HJ20.out; have := HK3.out; omega⟩, ⟨by (with_reducible repeat (first | apply Kd.Q_alloc | apply Kd.Q_drewN | apply Kd.Q_drew)); exact HO231.out⟩, ⟨by (with_reducible repeat (first | refine blk_drewN ?_ _ | refine blk_drew ?_ | refine blk_alloc ?_ _)); exact BK217.out⟩, ⟨by (with_reducible repeat (first | refine blk_drewN ?_ _ | refine blk_drew ?_ | refine blk_alloc ?_ _)); exact BK218.out⟩, ⟨by (with_reducible repeat (first | refine blk_drewN ?_ _ | refine blk_drew ?_ | refine blk_alloc ?_ _)); exact BK224.out⟩, ⟨by repeat (first | (with_reducible first | exact HB.out | apply below_alloc | apply pw_below_drewN | apply below_drew1 | refine below_set ?_ GE217.out | refine below_set ?_ GE218.out | refine below_set ?_ GE224.out) | exact HB.out)⟩⟩
                          · rw [if_neg c41] at H
                            exact absurd H (by simp)
                      · rw [if_neg c33] at H
                        exact absurd H (by simp)
                    · rw [if_neg c32] at H
                      have c32b0 : decide (x15_3 < (l0_1.length : Int)) = false := decide_eq_false c32
                      clear c32
                      by_cases c49 : (x14_3.length : Int) ≥ a0_0
                      · rw [if_pos c49] at H
                        have c49b0 : decide (a0_0 ≤ (x14_3.length : Int)) = true := decide_eq_true c49
                        clear c49
                        by_cases c50 : 1 ≤ (x14_3.length : Int)
                        · rw [if_pos c50] at H
                          have c50b0 := eq_true c50
                          have c50b1 : decide (1 ≤ (x14_3.length : Int)) = true := decide_eq_true c50
                          clear c50
                          obtain ⟨y232, hy232⟩ : ∃ y_ : List (S42), y_ = (x14_3.drop (1 : Int).toNat) := ⟨_, rfl⟩
                          replace H : (if y232.length < 5864062014805 then (some (a0_0, (y232 ++ [(⟨a1, x225001_20, a3⟩ : S42)]), 0)) else (none)) = some (r1, r2, r3) := by first | (rw [hy232]; with_reducible exact H) | (have H2_ := (Option.bind_some _ _).symm.trans H; rw [hy232]; with_reducible exact H2_) | (have H2_ := (Option.bind_some _ _).symm.trans H; with_reducible exact H2_) | with_reducible exact H | (rw [hy232]; exact H) | exact H
                          have Ny232 := Aside0.mk hy232
                          clear hy232
                          by_cases c51 : y232.length < 5864062014805
                          · rw [if_pos c51] at H
                            have LMc51 := Aside0.mk c51
                            clear c51
                            obtain ⟨y235, hy235⟩ : ∃ y_ : List (S42), y_ = (y232 ++ [(⟨a1, x225001_20, a3⟩ : S42)]) := ⟨_, rfl⟩
                            replace H : (some (a0_0, y235, 0)) = some (r1, r2, r3) := by first | (rw [hy235]; with_reducible exact H) | (have H2_ := (Option.bind_some _ _).symm.trans H; rw [hy235]; with_reducible exact H2_) | (have H2_ := (Option.bind_some _ _).symm.trans H; with_reducible exact H2_) | with_reducible exact H | (rw [hy235]; exact H) | exact H
                            have Ny235 := Aside0.mk hy235
                            clear hy235
                            simp only [Option.some.injEq, Prod.mk.injEq] at H
                            obtain ⟨rfl, rfl, rfl⟩ := H
                            have hnb52 := NB217_218.out
                            have hnc52 := NB218_217.out
                            have hnb53 := NB217_224.out
                            have hnc53 := NB224_217.out
                            have hcz54_0 : wr.cell? ⟨gb217, 0, none⟩ = some (.int .i64 a0_0) := (blk_cell BK217.out 0).trans rfl
                            have hcz54_1 : wr.cell? ⟨gb217, 1, none⟩ = some (.slice A0_1 l0_1.length c0_1) := (blk_cell BK217.out 1).trans rfl
                            have hfz54_0 := blk_frozen BK217.out 0
                            have hfz54_1 := blk_frozen BK217.out 1
                            obtain ⟨Ao55, co55, eo55, _⟩ := Kd.Q_slice HO_14.out
                            subst eo55
                            have q56 : (1 : Int) ≤ ((x14_3.length : Int) : Int) := of_decide_eq_true (by first | (with_reducible assumption) | assumption)
                            obtain ⟨i056, hi056, _, hsz56, _⟩ := info_parts info42
                            have hcut56 := cut_from (P := Try.prog) 22 42 .i64 Try.underlying22 hi056 3 hsz56 Ao55 x14_3.length co55 1 (by omega) q56
                            have hr56 := Kd.Q_drop (k := (1 : Int).toNat) HO_14.out (by omega)
                            obtain ⟨A56, hA56⟩ : ∃ A1, A1 = (if co55 = (1 : Int).toNat then Ao55 else (Ao55 : Option Addr).map (·.add ((1 : Int).toNat * 3))) := ⟨_, rfl⟩
                            obtain ⟨c56, hc56⟩ : ∃ c1, c1 = co55 - (1 : Int).toNat := ⟨_, rfl⟩
                            have hy56 : y232.length = x14_3.length - (1 : Int).toNat := (by rw [Ny232.out, List.length_drop])
                            rw [← Ny232.out] at hr56
                            rw [← hy56, ← hA56, ← hc56] at hcut56
                            replace hr56 : Kd.Q k42 42 wr w.heap.size (fun k_ => k_ ≠ gb224) (.slice A56 y232.length c56) y232 := (by rw [hA56, hc56, hy56]; exact hr56)
                            have HE56 : Aside0 ((Value.slice A56 y232.length c56).ownBlock = (.slice Ao55 x14_3.length co55 : Value).ownBlock) := ⟨by rw [hA56]; split <;> (cases (Ao55 : Option Addr) <;> rfl)⟩
                            clear hy56 hi056 hsz56 HO_14 hA56 hc56
                            have HO234 := Aside0.mk hr56
                            clear hr56
                            replace q56 := eq_true q56
                            try go_wp2
                            have n0_ := Aside0.mk (Kd.Q_drew HO234.out)
                            have n1_ := Aside0.mk (blk_drew BK217.out)
                            have n2_ := Aside0.mk (blk_drew BK218.out)
                            have n3_ := Aside0.mk (blk_drew BK224.out)
                            have n4_ := Aside0.mk (below_drew1 HB.out)
                            clear HO234
                            clear BK217
                            clear BK218
                            clear BK224
                            clear HB
                            have HO234 := n0_
                            have BK217 := n1_
                            have BK218 := n2_
                            have BK224 := n3_
                            have HB := n4_
                            clear n0_ n1_ n2_ n3_ n4_
                            refine start_ (n := 9) (S := fun w' => w'.cell? ⟨gb217, 0, none⟩ = some (.int .i64 a0_0) ∧ w'.cell? ⟨gb217, 1, none⟩ = some (.slice A0_1 l0_1.length c0_1) ∧ w'.cell? ⟨gb224, 0, none⟩ = some (.int .i64 a1) ∧ w'.cell? ⟨gb224, 1, none⟩ = some (.int .i64 x225001_20) ∧ w'.cell? ⟨gb224, 2, none⟩ = some (.int .u64 a3)) (ds := []) #[false, false, false, false, false, false, false, false, false] (by kernel_rfl) rfl rfl ⟨(blk_cell BK217.out 0).trans rfl, (blk_cell BK217.out 1).trans rfl, (blk_cell BK224.out 0).trans rfl, (blk_cell BK224.out 1).trans rfl, (blk_cell BK224.out 2).trans rfl⟩ (fun hHeld => ?_); refine with_tabW estoversref07_Fill.tab20 estoversref07_Fill.bits20 (fun HT_ HW_ => ?_)
                            generalize wr.drew = w57 at HO234 BK217 BK218 BK224 HB hHeld ⊢
                            refine pure_ (i := 0) (N := some 77) (v := ?_) (a' := ?_) #[true, false, false, false, false, false, false, false, false] rfl rfl (any_of HT_.out (by kernel_rfl)) (fun _ _ _ h => h) (Or.inl ⟨by rfl, ?_⟩) ?_ ?_
                            rotate_left
                            · intro w'
                              go_simp
                              with_reducible rfl
                            rotate_left
                            · simp only [Act.put, List.setIfInBounds_toArray, List.set_cons_zero, List.set_cons_succ, i64_w, i32_w]
                              rfl
                            refine pure_ (i := 2) (N := some 79) (v := ?_) (a' := ?_) #[true, false, true, false, false, false, false, false, false] rfl rfl (any_of HT_.out (by kernel_rfl)) (fun _ _ _ h => h) (Or.inl ⟨by rfl, ?_⟩) ?_ ?_
                            rotate_left
                            · intro w'
                              go_simp
                              with_reducible rfl
                            rotate_left
                            · simp only [Act.put, List.setIfInBounds_toArray, List.set_cons_zero, List.set_cons_succ, i64_w, i32_w]
                              rfl
                            refine take_ (i := 1) (N := some 78) (v := ?_) (a' := ?_) #[true, true, true, false, false, false, false, false, false] rfl rfl (take_ofW HT_.out HW_.out (by kernel_rfl)) (fun _ _ _ h => h) (Or.inl ⟨by rfl, ?_⟩) hHeld ?_ ?_
                            rotate_left
                            · rintro w' ⟨s0, s1, s2, s3, s4⟩
                              go_simp
                              with_reducible rfl
                            rotate_left
                            · simp only [Act.put, List.setIfInBounds_toArray, List.set_cons_zero, List.set_cons_succ, i64_w, i32_w]
                              rfl
                            refine take_ (i := 3) (N := some 80) (v := ?_) (a' := ?_) #[true, true, true, true, false, false, false, false, false] rfl rfl (take_ofW HT_.out HW_.out (by kernel_rfl)) (fun _ _ _ h => h) (Or.inl ⟨by rfl, ?_⟩) hHeld ?_ ?_
                            rotate_left
                            · rintro w' ⟨s0, s1, s2, s3, s4⟩
                              go_simp
                              with_reducible rfl
                            rotate_left
                            · simp only [Act.put, List.setIfInBounds_toArray, List.set_cons_zero, List.set_cons_succ, i64_w, i32_w]
                              rfl
                            refine one_ (i := 4) (N := some 81) #[true, true, true, true, true, false, false, false, false] rfl rfl (one_of HT_.out (by kernel_rfl)) (by decide) (fun K hK => ?_)
                            refine value_ (w1 := ?_) (v := ?_) (by rfl) rfl ?_ ?_
                            rotate_left 2
                            · go_simp
                              constructor
                              · rfl
                              · rfl
                            refine hK.out _ _ ⟨(blk_cell (blk_alloc BK217.out _) 0).trans rfl, (blk_cell (blk_alloc BK217.out _) 1).trans rfl, (blk_cell (blk_alloc BK224.out _) 0).trans rfl, (blk_cell (blk_alloc BK224.out _) 1).trans rfl, (blk_cell (blk_alloc BK224.out _) 2).trans rfl⟩ (fun hHeld => ?_)
                            clear hK K
                            refine norm_ (a' := ?_) ?_ ?_
                            rotate_left
                            · show Act.put _ (some 81) _ = _
                              simp only [Act.put, List.setIfInBounds_toArray, List.set_cons_zero, List.set_cons_succ, i64_w, i32_w]
                              rfl
                            refine one_ (i := 5) (N := some 82) #[true, true, true, true, true, true, false, false, false] rfl rfl (one_of HT_.out (by kernel_rfl)) (by decide) (fun K hK => ?_)
                            refine Kd.Q_append_step k42 (w0 := w) w.heap.size (by rfl) (.tmp 79) (.tmp 81) 22 42 (.agg #[(.int .i64 0), (.int .i64 0), (.int .u64 0)]) 24 rfl Try.underlying22 info42 rfl (by decide) (by omega) (.slice A56 y232.length c56) y232 (⟨a1, x225001_20, a3⟩ : S42) [.int .i64 a1, .int .i64 x225001_20, .int .u64 a3] (fun k_ => k_ ≠ gb224) (fun _ => False) rfl rfl ?aP (fun _ hk => hk.elim) ?aF ?aO ?aB ?aS ?aL ?_
                            (case aP => exact k42_mkM _ _ _ (⟨a1, x225001_20, a3⟩ : S42))
                            (case aB => exact (by repeat (first | (with_reducible first | exact HB.out | apply below_alloc | apply pw_below_drewN | apply below_drew1 | refine below_set ?_ GE217.out | refine below_set ?_ GE218.out | refine below_set ?_ GE224.out) | exact HB.out)))
                            (case aF => exact (fun k_ hk => Kd.freshB (g := gb224) (o := .cells #[.int .i64 a1, .int .i64 x225001_20, .int .u64 a3] 42 (0, 0)) (by (with_reducible repeat (first | refine blk_drewN ?_ _ | refine blk_drew ?_ | refine blk_alloc ?_ _)); exact BK224.out) k_ hk))
                            (case aO => exact (by (with_reducible repeat (first | apply Kd.Q_alloc | apply Kd.Q_drewN | apply Kd.Q_drew)); exact HO234.out))
                            (case aS => exact (below_size (by repeat (first | (with_reducible first | exact HB.out | apply below_alloc | apply pw_below_drewN | apply below_drew1 | refine below_set ?_ GE217.out | refine below_set ?_ GE218.out | refine below_set ?_ GE224.out) | exact HB.out))))
                            (case aL => have := LMc51.out; omega)
                            intro v236 w58 ho hb hg hat
                            rw [← Ny235.out] at ho
                            have n0_ := Aside0.mk (blk_grown (g := gb217) (o := .cells #[.int .i64 a0_0, .slice A0_1 l0_1.length c0_1] 24 (0, 0)) (by (with_reducible repeat (first | refine blk_drewN ?_ _ | refine blk_drew ?_ | refine blk_alloc ?_ _)); exact BK217.out) hg (Kd.Q_ne HO234.out BK217.out (by decide)))
                            have n1_ := Aside0.mk (blk_grown (g := gb218) (o := .cells #[.int .i64 0, .slice none 0 0] 24 (0, 0)) (by (with_reducible repeat (first | refine blk_drewN ?_ _ | refine blk_drew ?_ | refine blk_alloc ?_ _)); exact BK218.out) hg (Kd.Q_ne HO234.out BK218.out (by decide)))
                            have n2_ := Aside0.mk (blk_grown (g := gb224) (o := .cells #[.int .i64 a1, .int .i64 x225001_20, .int .u64 a3] 42 (0, 0)) (by (with_reducible repeat (first | refine blk_drewN ?_ _ | refine blk_drew ?_ | refine blk_alloc ?_ _)); exact BK224.out) hg (Kd.Q_away HO234.out (fun _ hk => hk)))
                            have n3_ := Aside0.mk (hb)
                            have n4_ := Aside0.mk (ho)
                            clear BK217
                            clear BK218
                            clear BK224
                            clear HB
                            clear HO234
                            have BK217 := n0_
                            have BK218 := n1_
                            have BK224 := n2_
                            have HB := n3_
                            have HO237 := n4_
                            clear n0_ n1_ n2_ n3_ n4_
                            clear ho hb hg hat
                            obtain ⟨Ao59, co59, eo59, _⟩ := Kd.Q_slice HO237.out
                            (first | subst eo59 | (injection eo59 with f1_ f2_ f3_; have f4_ := f1_.symm; have f5_ := f3_.symm; clear f1_ f2_ f3_; subst f4_; subst f5_))
                            refine hK.out _ _ ⟨(blk_cell BK217.out 0).trans rfl, (blk_cell BK217.out 1).trans rfl, (blk_cell BK224.out 0).trans rfl, (blk_cell BK224.out 1).trans rfl, (blk_cell BK224.out 2).trans rfl⟩ (fun hHeld => ?_)
                            clear hK K
                            refine norm_ (a' := ?_) ?_ ?_
                            rotate_left
                            · show Act.put _ (some 82) _ = _
                              simp only [Act.put, List.setIfInBounds_toArray, List.set_cons_zero, List.set_cons_succ, i64_w, i32_w]
                              rfl
                            refine pure_ (i := 6) (N := some 83) (v := ?_) (a' := ?_) #[true, true, true, true, true, true, true, false, false] rfl rfl (any_of HT_.out (by kernel_rfl)) (fun _ _ _ h => h) (Or.inl ⟨by rfl, ?_⟩) ?_ ?_
                            rotate_left
                            · intro w'
                              go_simp
                              with_reducible rfl
                            rotate_left
                            · simp only [Act.put, List.setIfInBounds_toArray, List.set_cons_zero, List.set_cons_succ, i64_w, i32_w]
                              rfl
                            refine one_ (i := 7) (N := none) #[true, true, true, true, true, true, true, true, false] rfl rfl (one_of HT_.out (by kernel_rfl)) (by decide) (fun K hK => ?_)
                            have hs60 : w58.cell? ⟨gb218, 0, none⟩ = some (.int .i64 0) := (blk_cell BK218.out 0).trans rfl
                            have hfs60 := blk_frozen BK218.out 0
                            have hns60_0 := NB217_218.out
                            have hns60_2 := NB224_218.out
                            have hms60_0 := NB218_217.out
                            have hms60_2 := NB218_224.out
                            have hs61 : w58.cell? ⟨gb218, 1, none⟩ = some (.slice none 0 0) := (blk_cell BK218.out 1).trans rfl
                            have hfs61 := blk_frozen BK218.out 1
                            have hns61_0 := NB217_218.out
                            have hns61_2 := NB224_218.out
                            have hms61_0 := NB218_217.out
                            have hms61_2 := NB218_224.out
                            refine skip_ (w1 := ?_) (by rfl) rfl ?_ ?_
                            rotate_left
                            · go_simp
                              rfl
                            refine hK.out _ _ ⟨((cell_far (p := ⟨gb218, _, none⟩) NB217_218.out _).trans (((cell_far (p := ⟨gb218, _, none⟩) NB217_218.out _).trans (hHeld.1)))), ((cell_far (p := ⟨gb218, _, none⟩) NB217_218.out _).trans (((cell_far (p := ⟨gb218, _, none⟩) NB217_218.out _).trans (hHeld.2.1)))), ((cell_far (p := ⟨gb218, _, none⟩) NB224_218.out _).trans (((cell_far (p := ⟨gb218, _, none⟩) NB224_218.out _).trans (hHeld.2.2.1)))), ((cell_far (p := ⟨gb218, _, none⟩) NB224_218.out _).trans (((cell_far (p := ⟨gb218, _, none⟩) NB224_218.out _).trans (hHeld.2.2.2.1)))), ((cell_far (p := ⟨gb218, _, none⟩) NB224_218.out _).trans (((cell_far (p := ⟨gb218, _, none⟩) NB224_218.out _).trans (hHeld.2.2.2.2))))⟩ (fun hHeld => ?_)
                            clear hK K
                            refine pure_ (i := 8) (N := some 9) (v := ?_) (a' := ?_) #[true, true, true, true, true, true, true, true, true] rfl rfl (any_of HT_.out (by kernel_rfl)) (fun _ _ _ h => h) (Or.inl ⟨by rfl, ?_⟩) ?_ ?_
                            rotate_left
                            · intro w'
                              go_simp
                              with_reducible rfl
                            rotate_left
                            · simp only [Act.put, List.setIfInBounds_toArray, List.set_cons_zero, List.set_cons_succ, i64_w, i32_w]
                              rfl
                            refine done_ (done_of HT_.out (by kernel_rfl)) ?_
                            try go_wp2
                            refine bodyPost_ret (results_ct rfl _ _ gb218 24 #[.int .i64 a0_0, .slice Ao59 y235.length co59] (0, 0) _ rfl (by (with_reducible repeat (first | refine blk_drewN ?_ _ | refine blk_drew ?_ | refine blk_alloc ?_ _)); refine blk_put (cs := #[.int .i64 a0_0, .slice none 0 0]) ?_ 1 _ rfl; (with_reducible repeat (first | refine blk_drewN ?_ _ | refine blk_drew ?_ | refine blk_alloc ?_ _)); refine blk_put (cs := #[.int .i64 0, .slice none 0 0]) ?_ 0 _ rfl; (with_reducible repeat (first | refine blk_drewN ?_ _ | refine blk_drew ?_ | refine blk_alloc ?_ _)); exact BK218.out) Try.underlying24 rfl (by kernel_rfl)) rfl ?_
                            exact ⟨_, by first | rfl | (simp [errW_none, errW_some] <;> rfl) | (simp [*, errW_none, errW_some] <;> rfl), by (with_reducible repeat (first | apply Kd.Q_alloc | apply Kd.Q_drewN | apply Kd.Q_drew)); exact Kd.Q_mono (Kd.Q_far (p := ⟨gb218, 1, none⟩) (Kd.Q_far (p := ⟨gb218, 0, none⟩) (Kd.Q_types HO237.out BK218.out (by decide)) (fun _ hk => hk.2) (.int .i64 a0_0)) (fun _ hk => hk.2) (.slice Ao59 y235.length co59)) (fun _ hk => trivial), by repeat (first | (with_reducible first | exact HB.out | apply below_alloc | apply pw_below_drewN | apply below_drew1 | refine below_set ?_ GE217.out | refine below_set ?_ GE218.out | refine below_set ?_ GE224.out) | exact HB.out)⟩
                          · rw [if_neg c51] at H
                            exact absurd H (by simp)
                        · rw [if_neg c50] at H
                          exact absurd H (by simp)
                      · rw [if_neg c49] at H
                        have c49b0 : decide (a0_0 ≤ (x14_3.length : Int)) = false := decide_eq_false c49
                        clear c49
                        by_cases c62 : x14_3.length < 5864062014805
                        · rw [if_pos c62] at H
                          have LMc62 := Aside0.mk c62
                          clear c62
                          obtain ⟨y238, hy238⟩ : ∃ y_ : List (S42), y_ = (x14_3 ++ [(⟨a1, x225001_20, a3⟩ : S42)]) := ⟨_, rfl⟩
                          replace H : (some (a0_0, y238, 0)) = some (r1, r2, r3) := by first | (rw [hy238]; with_reducible exact H) | (have H2_ := (Option.bind_some _ _).symm.trans H; rw [hy238]; with_reducible exact H2_) | (have H2_ := (Option.bind_some _ _).symm.trans H; with_reducible exact H2_) | with_reducible exact H | (rw [hy238]; exact H) | exact H
                          have Ny238 := Aside0.mk hy238
                          clear hy238
                          simp only [Option.some.injEq, Prod.mk.injEq] at H
                          obtain ⟨rfl, rfl, rfl⟩ := H
                          have hnb63 := NB217_218.out
                          have hnc63 := NB218_217.out
                          have hnb64 := NB217_224.out
                          have hnc64 := NB224_217.out
                          have hcz65_0 : wr.cell? ⟨gb217, 0, none⟩ = some (.int .i64 a0_0) := (blk_cell BK217.out 0).trans rfl
                          have hcz65_1 : wr.cell? ⟨gb217, 1, none⟩ = some (.slice A0_1 l0_1.length c0_1) := (blk_cell BK217.out 1).trans rfl
                          have hfz65_0 := blk_frozen BK217.out 0
                          have hfz65_1 := blk_frozen BK217.out 1
                          obtain ⟨Ao66, co66, eo66, _⟩ := Kd.Q_slice HO_14.out
                          subst eo66
                          try go_wp2
                          have n0_ := Aside0.mk (Kd.Q_drew HO_14.out)
                          have n1_ := Aside0.mk (blk_drew BK217.out)
                          have n2_ := Aside0.mk (blk_drew BK218.out)
                          have n3_ := Aside0.mk (blk_drew BK224.out)
                          have n4_ := Aside0.mk (below_drew1 HB.out)
                          clear HO_14
                          clear BK217
                          clear BK218
                          clear BK224
                          clear HB
                          have HO_14 := n0_
                          have BK217 := n1_
                          have BK218 := n2_
                          have BK224 := n3_
                          have HB := n4_
                          clear n0_ n1_ n2_ n3_ n4_
                          refine start_ (n := 9) (S := fun w' => w'.cell? ⟨gb217, 0, none⟩ = some (.int .i64 a0_0) ∧ w'.cell? ⟨gb217, 1, none⟩ = some (.slice A0_1 l0_1.length c0_1) ∧ w'.cell? ⟨gb224, 0, none⟩ = some (.int .i64 a1) ∧ w'.cell? ⟨gb224, 1, none⟩ = some (.int .i64 x225001_20) ∧ w'.cell? ⟨gb224, 2, none⟩ = some (.int .u64 a3)) (ds := []) #[false, false, false, false, false, false, false, false, false] (by kernel_rfl) rfl rfl ⟨(blk_cell BK217.out 0).trans rfl, (blk_cell BK217.out 1).trans rfl, (blk_cell BK224.out 0).trans rfl, (blk_cell BK224.out 1).trans rfl, (blk_cell BK224.out 2).trans rfl⟩ (fun hHeld => ?_); refine with_tabW estoversref07_Fill.tab20 estoversref07_Fill.bits20 (fun HT_ HW_ => ?_)
                          generalize wr.drew = w67 at HO_14 BK217 BK218 BK224 HB hHeld ⊢
                          refine pure_ (i := 0) (N := some 77) (v := ?_) (a' := ?_) #[true, false, false, false, false, false, false, false, false] rfl rfl (any_of HT_.out (by kernel_rfl)) (fun _ _ _ h => h) (Or.inl ⟨by rfl, ?_⟩) ?_ ?_
                          rotate_left
                          · intro w'
                            go_simp
                            with_reducible rfl
                          rotate_left
                          · simp only [Act.put, List.setIfInBounds_toArray, List.set_cons_zero, List.set_cons_succ, i64_w, i32_w]
                            rfl
                          refine pure_ (i := 2) (N := some 79) (v := ?_) (a' := ?_) #[true, false, true, false, false, false, false, false, false] rfl rfl (any_of HT_.out (by kernel_rfl)) (fun _ _ _ h => h) (Or.inl ⟨by rfl, ?_⟩) ?_ ?_
                          rotate_left
                          · intro w'
                            go_simp
                            with_reducible rfl
                          rotate_left
                          · simp only [Act.put, List.setIfInBounds_toArray, List.set_cons_zero, List.set_cons_succ, i64_w, i32_w]
                            rfl
                          refine take_ (i := 1) (N := some 78) (v := ?_) (a' := ?_) #[true, true, true, false, false, false, false, false, false] rfl rfl (take_ofW HT_.out HW_.out (by kernel_rfl)) (fun _ _ _ h => h) (Or.inl ⟨by rfl, ?_⟩) hHeld ?_ ?_
                          rotate_left
                          · rintro w' ⟨s0, s1, s2, s3, s4⟩
                            go_simp
                            with_reducible rfl
                          rotate_left
                          · simp only [Act.put, List.setIfInBounds_toArray, List.set_cons_zero, List.set_cons_succ, i64_w, i32_w]
                            rfl
                          refine take_ (i := 3) (N := some 80) (v := ?_) (a' := ?_) #[true, true, true, true, false, false, false, false, false] rfl rfl (take_ofW HT_.out HW_.out (by kernel_rfl)) (fun _ _ _ h => h) (Or.inl ⟨by rfl, ?_⟩) hHeld ?_ ?_
                          rotate_left
                          · rintro w' ⟨s0, s1, s2, s3, s4⟩
                            go_simp
                            with_reducible rfl
                          rotate_left
                          · simp only [Act.put, List.setIfInBounds_toArray, List.set_cons_zero, List.set_cons_succ, i64_w, i32_w]
                            rfl
                          refine one_ (i := 4) (N := some 81) #[true, true, true, true, true, false, false, false, false] rfl rfl (one_of HT_.out (by kernel_rfl)) (by decide) (fun K hK => ?_)
                          refine value_ (w1 := ?_) (v := ?_) (by rfl) rfl ?_ ?_
                          rotate_left 2
                          · go_simp
                            constructor
                            · rfl
                            · rfl
                          refine hK.out _ _ ⟨(blk_cell (blk_alloc BK217.out _) 0).trans rfl, (blk_cell (blk_alloc BK217.out _) 1).trans rfl, (blk_cell (blk_alloc BK224.out _) 0).trans rfl, (blk_cell (blk_alloc BK224.out _) 1).trans rfl, (blk_cell (blk_alloc BK224.out _) 2).trans rfl⟩ (fun hHeld => ?_)
                          clear hK K
                          refine norm_ (a' := ?_) ?_ ?_
                          rotate_left
                          · show Act.put _ (some 81) _ = _
                            simp only [Act.put, List.setIfInBounds_toArray, List.set_cons_zero, List.set_cons_succ, i64_w, i32_w]
                            rfl
                          refine one_ (i := 5) (N := some 82) #[true, true, true, true, true, true, false, false, false] rfl rfl (one_of HT_.out (by kernel_rfl)) (by decide) (fun K hK => ?_)
                          refine Kd.Q_append_step k42 (w0 := w) w.heap.size (by rfl) (.tmp 79) (.tmp 81) 22 42 (.agg #[(.int .i64 0), (.int .i64 0), (.int .u64 0)]) 24 rfl Try.underlying22 info42 rfl (by decide) (by omega) (.slice Ao66 x14_3.length co66) x14_3 (⟨a1, x225001_20, a3⟩ : S42) [.int .i64 a1, .int .i64 x225001_20, .int .u64 a3] (fun k_ => k_ ≠ gb224) (fun _ => False) rfl rfl ?aP (fun _ hk => hk.elim) ?aF ?aO ?aB ?aS ?aL ?_
                          (case aP => exact k42_mkM _ _ _ (⟨a1, x225001_20, a3⟩ : S42))
                          (case aB => exact (by repeat (first | (with_reducible first | exact HB.out | apply below_alloc | apply pw_below_drewN | apply below_drew1 | refine below_set ?_ GE217.out | refine below_set ?_ GE218.out | refine below_set ?_ GE224.out) | exact HB.out)))
                          (case aF => exact (fun k_ hk => Kd.freshB (g := gb224) (o := .cells #[.int .i64 a1, .int .i64 x225001_20, .int .u64 a3] 42 (0, 0)) (by (with_reducible repeat (first | refine blk_drewN ?_ _ | refine blk_drew ?_ | refine blk_alloc ?_ _)); exact BK224.out) k_ hk))
                          (case aO => exact (by (with_reducible repeat (first | apply Kd.Q_alloc | apply Kd.Q_drewN | apply Kd.Q_drew)); exact HO_14.out))
                          (case aS => exact (below_size (by repeat (first | (with_reducible first | exact HB.out | apply below_alloc | apply pw_below_drewN | apply below_drew1 | refine below_set ?_ GE217.out | refine below_set ?_ GE218.out | refine below_set ?_ GE224.out) | exact HB.out))))
                          (case aL => have := LMc62.out; omega)
                          intro v239 w68 ho hb hg hat
                          rw [← Ny238.out] at ho
                          have n0_ := Aside0.mk (blk_grown (g := gb217) (o := .cells #[.int .i64 a0_0, .slice A0_1 l0_1.length c0_1] 24 (0, 0)) (by (with_reducible repeat (first | refine blk_drewN ?_ _ | refine blk_drew ?_ | refine blk_alloc ?_ _)); exact BK217.out) hg (Kd.Q_ne HO_14.out BK217.out (by decide)))
                          have n1_ := Aside0.mk (blk_grown (g := gb218) (o := .cells #[.int .i64 0, .slice none 0 0] 24 (0, 0)) (by (with_reducible repeat (first | refine blk_drewN ?_ _ | refine blk_drew ?_ | refine blk_alloc ?_ _)); exact BK218.out) hg (Kd.Q_ne HO_14.out BK218.out (by decide)))
                          have n2_ := Aside0.mk (blk_grown (g := gb224) (o := .cells #[.int .i64 a1, .int .i64 x225001_20, .int .u64 a3] 42 (0, 0)) (by (with_reducible repeat (first | refine blk_drewN ?_ _ | refine blk_drew ?_ | refine blk_alloc ?_ _)); exact BK224.out) hg (Kd.Q_away HO_14.out (fun _ hk => hk)))
                          have n3_ := Aside0.mk (hb)
                          have n4_ := Aside0.mk (ho)
                          clear BK217
                          clear BK218
                          clear BK224
                          clear HB
                          clear HO_14
                          have BK217 := n0_
                          have BK218 := n1_
                          have BK224 := n2_
                          have HB := n3_
                          have HO240 := n4_
                          clear n0_ n1_ n2_ n3_ n4_
                          clear ho hb hg hat
                          obtain ⟨Ao69, co69, eo69, _⟩ := Kd.Q_slice HO240.out
                          (first | subst eo69 | (injection eo69 with f1_ f2_ f3_; have f4_ := f1_.symm; have f5_ := f3_.symm; clear f1_ f2_ f3_; subst f4_; subst f5_))
                          refine hK.out _ _ ⟨(blk_cell BK217.out 0).trans rfl, (blk_cell BK217.out 1).trans rfl, (blk_cell BK224.out 0).trans rfl, (blk_cell BK224.out 1).trans rfl, (blk_cell BK224.out 2).trans rfl⟩ (fun hHeld => ?_)
                          clear hK K
                          refine norm_ (a' := ?_) ?_ ?_
                          rotate_left
                          · show Act.put _ (some 82) _ = _
                            simp only [Act.put, List.setIfInBounds_toArray, List.set_cons_zero, List.set_cons_succ, i64_w, i32_w]
                            rfl
                          refine pure_ (i := 6) (N := some 83) (v := ?_) (a' := ?_) #[true, true, true, true, true, true, true, false, false] rfl rfl (any_of HT_.out (by kernel_rfl)) (fun _ _ _ h => h) (Or.inl ⟨by rfl, ?_⟩) ?_ ?_
                          rotate_left
                          · intro w'
                            go_simp
                            with_reducible rfl
                          rotate_left
                          · simp only [Act.put, List.setIfInBounds_toArray, List.set_cons_zero, List.set_cons_succ, i64_w, i32_w]
                            rfl
                          refine one_ (i := 7) (N := none) #[true, true, true, true, true, true, true, true, false] rfl rfl (one_of HT_.out (by kernel_rfl)) (by decide) (fun K hK => ?_)
                          have hs70 : w68.cell? ⟨gb218, 0, none⟩ = some (.int .i64 0) := (blk_cell BK218.out 0).trans rfl
                          have hfs70 := blk_frozen BK218.out 0
                          have hns70_0 := NB217_218.out
                          have hns70_2 := NB224_218.out
                          have hms70_0 := NB218_217.out
                          have hms70_2 := NB218_224.out
                          have hs71 : w68.cell? ⟨gb218, 1, none⟩ = some (.slice none 0 0) := (blk_cell BK218.out 1).trans rfl
                          have hfs71 := blk_frozen BK218.out 1
                          have hns71_0 := NB217_218.out
                          have hns71_2 := NB224_218.out
                          have hms71_0 := NB218_217.out
                          have hms71_2 := NB218_224.out
                          refine skip_ (w1 := ?_) (by rfl) rfl ?_ ?_
                          rotate_left
                          · go_simp
                            rfl
                          refine hK.out _ _ ⟨((cell_far (p := ⟨gb218, _, none⟩) NB217_218.out _).trans (((cell_far (p := ⟨gb218, _, none⟩) NB217_218.out _).trans (hHeld.1)))), ((cell_far (p := ⟨gb218, _, none⟩) NB217_218.out _).trans (((cell_far (p := ⟨gb218, _, none⟩) NB217_218.out _).trans (hHeld.2.1)))), ((cell_far (p := ⟨gb218, _, none⟩) NB224_218.out _).trans (((cell_far (p := ⟨gb218, _, none⟩) NB224_218.out _).trans (hHeld.2.2.1)))), ((cell_far (p := ⟨gb218, _, none⟩) NB224_218.out _).trans (((cell_far (p := ⟨gb218, _, none⟩) NB224_218.out _).trans (hHeld.2.2.2.1)))), ((cell_far (p := ⟨gb218, _, none⟩) NB224_218.out _).trans (((cell_far (p := ⟨gb218, _, none⟩) NB224_218.out _).trans (hHeld.2.2.2.2))))⟩ (fun hHeld => ?_)
                          clear hK K
                          refine pure_ (i := 8) (N := some 9) (v := ?_) (a' := ?_) #[true, true, true, true, true, true, true, true, true] rfl rfl (any_of HT_.out (by kernel_rfl)) (fun _ _ _ h => h) (Or.inl ⟨by rfl, ?_⟩) ?_ ?_
                          rotate_left
                          · intro w'
                            go_simp
                            with_reducible rfl
                          rotate_left
                          · simp only [Act.put, List.setIfInBounds_toArray, List.set_cons_zero, List.set_cons_succ, i64_w, i32_w]
                            rfl
                          refine done_ (done_of HT_.out (by kernel_rfl)) ?_
                          try go_wp2
                          refine bodyPost_ret (results_ct rfl _ _ gb218 24 #[.int .i64 a0_0, .slice Ao69 y238.length co69] (0, 0) _ rfl (by (with_reducible repeat (first | refine blk_drewN ?_ _ | refine blk_drew ?_ | refine blk_alloc ?_ _)); refine blk_put (cs := #[.int .i64 a0_0, .slice none 0 0]) ?_ 1 _ rfl; (with_reducible repeat (first | refine blk_drewN ?_ _ | refine blk_drew ?_ | refine blk_alloc ?_ _)); refine blk_put (cs := #[.int .i64 0, .slice none 0 0]) ?_ 0 _ rfl; (with_reducible repeat (first | refine blk_drewN ?_ _ | refine blk_drew ?_ | refine blk_alloc ?_ _)); exact BK218.out) Try.underlying24 rfl (by kernel_rfl)) rfl ?_
                          exact ⟨_, by first | rfl | (simp [errW_none, errW_some] <;> rfl) | (simp [*, errW_none, errW_some] <;> rfl), by (with_reducible repeat (first | apply Kd.Q_alloc | apply Kd.Q_drewN | apply Kd.Q_drew)); exact Kd.Q_mono (Kd.Q_far (p := ⟨gb218, 1, none⟩) (Kd.Q_far (p := ⟨gb218, 0, none⟩) (Kd.Q_types HO240.out BK218.out (by decide)) (fun _ hk => hk.2) (.int .i64 a0_0)) (fun _ hk => hk.2) (.slice Ao69 y238.length co69)) (fun _ hk => trivial), by repeat (first | (with_reducible first | exact HB.out | apply below_alloc | apply pw_below_drewN | apply below_drew1 | refine below_set ?_ GE217.out | refine below_set ?_ GE218.out | refine below_set ?_ GE224.out) | exact HB.out)⟩
                        · rw [if_neg c62] at H
                          exact absurd H (by simp)
          · replace c20 := Bool.eq_false_iff.mpr c20
            subst c20
            have H1 : (some (0, ([] : List (S42)), 3)) = some (r1, r2, r3) := by rw [if_neg (show ¬ (false = true) by decide)] at H; exact H
            clear H
            have H := H1
            clear H1
            simp only [Option.some.injEq, Prod.mk.injEq] at H
            obtain ⟨rfl, rfl, rfl⟩ := H
            go_wp2_with (first | ((with_reducible refine gate_callee (f := 43) rfl ?_); refine goesL_ (some 33) rfl rfl Try.func43 (by kernel_rfl) rfl #[.int .u64 a3] rfl (by (try simp only [List.map_toArray, List.map_cons, List.map_nil]); first | done | rfl | (simp only [List.length_drop, List.length_take]; rfl)) ?_; (with_reducible refine (estoversref07_Translation.calls kj6 a3 false t223 _ A19.out).mono ?_); rintro e w72 ⟨rfl, hb⟩; refine ⟨_, rfl, ?_⟩; have n0_ := Aside0.mk (blk_below (g := gb217) (o := .cells #[.int .i64 a0_0, .slice A0_1 l0_1.length c0_1] 24 (0, 0)) (by (with_reducible repeat (first | refine blk_drewN ?_ _ | refine blk_drew ?_ | refine blk_alloc ?_ _)); exact BK217.out) hb); have n1_ := Aside0.mk (blk_below (g := gb218) (o := .cells #[.int .i64 0, .slice none 0 0] 24 (0, 0)) (by (with_reducible repeat (first | refine blk_drewN ?_ _ | refine blk_drew ?_ | refine blk_alloc ?_ _)); exact BK218.out) hb); have n2_ := Aside0.mk (below_step (by repeat (first | (with_reducible first | exact HB.out | apply below_alloc | apply pw_below_drewN | apply below_drew1 | refine below_set ?_ GE217.out | refine below_set ?_ GE218.out) | exact HB.out)) hb); clear BK217; clear BK218; clear HB; have BK217 := n0_; have BK218 := n1_; have HB := n2_; clear n0_ n1_ n2_; (try clear hb); (try clear hb2); (try clear hk); (try clear hi); have hnb73 := NB218_217.out; have hnc73 := NB217_218.out; have hcz74_0 : w72.cell? ⟨gb218, 0, none⟩ = some (.int .i64 0) := (blk_cell BK218.out 0).trans rfl; have hcz74_1 : w72.cell? ⟨gb218, 1, none⟩ = some (.slice none 0 0) := (blk_cell BK218.out 1).trans rfl; have hfz74_0 := blk_frozen BK218.out 0; have hfz74_1 := blk_frozen BK218.out 1))
            refine bodyPost_ret (results_ct rfl _ _ gb218 24 #[.int .i64 0, .slice none 0 0] (0, 0) _ rfl (by (with_reducible repeat (first | refine blk_drewN ?_ _ | refine blk_drew ?_ | refine blk_alloc ?_ _)); refine blk_put (cs := #[.int .i64 0, .slice none 0 0]) ?_ 1 _ rfl; (with_reducible repeat (first | refine blk_drewN ?_ _ | refine blk_drew ?_ | refine blk_alloc ?_ _)); refine blk_put (cs := #[.int .i64 0, .slice none 0 0]) ?_ 0 _ rfl; (with_reducible repeat (first | refine blk_drewN ?_ _ | refine blk_drew ?_ | refine blk_alloc ?_ _)); exact BK218.out) Try.underlying24 rfl (by kernel_rfl)) rfl ?_
            exact ⟨_, by first | rfl | (simp [errW_none, errW_some] <;> rfl) | (simp [*, errW_none, errW_some] <;> rfl), Kd.Q_of_R (by first | exact Kd.R_nil _ _ _ _ _ | exact Kd.N_nil _ _ _ _ _ | exact Kd.V_nil _ _ _ _ _ | exact Kd.Q_nil _ _ _ _ _ | exact Kd.S_nil _ _ _ _ _), by repeat (first | (with_reducible first | exact HB.out | apply below_alloc | apply pw_below_drewN | apply below_drew1 | refine below_set ?_ GE217.out | refine below_set ?_ GE218.out) | exact HB.out)⟩
  · rw [if_neg c6] at H
    have c6b0 : (t219 == 0) = false := beq_eq_false_iff_ne.mpr c6
    have c6b1 : (t219 != 0) = true := bne_iff_ne.mpr c6
    simp only [Option.some.injEq, Prod.mk.injEq] at H
    obtain ⟨rfl, rfl, rfl⟩ := H
    go_enter Try.func23, Try.ntmps23
    go_wp2_with (first | ((with_reducible refine gate_dst (N := 4) rfl ?_); refine box_event ?hg (N := 4) ?hd (cs := #[.int .i64 a0_0, .slice A0_1 l0_1.length c0_1]) (t := 24) ?hr ?_; (case hd => rfl); (case hg => rfl); (case hr => first | (go_simp; done) | (go_simp; rfl)); intro gb217 hg w75 hbox hb; have n0_ := Aside0.mk (below_step (by repeat (first | (with_reducible first | exact HB.out | apply below_alloc | apply pw_below_drewN | apply below_drew1) | exact HB.out)) hb); have n1_ := Aside0.mk (hbox); have n2_ := Aside0.mk ((by rw [hg]; exact (below_size (by repeat (first | (with_reducible first | exact HB.out | apply below_alloc | apply pw_below_drewN | apply below_drew1) | exact HB.out))) : w.heap.size ≤ gb217)); have n3_ := Aside0.mk ((by rw [hg]; exact (below_size (by repeat (first | (with_reducible first | exact HB.out | apply below_alloc | apply pw_below_drewN | apply below_drew1) | exact HB.out))) : w.heap.size ≤ gb217)); clear HB; have HB := n0_; have BK217 := n1_; have GW217 := n2_; have GE217 := n3_; clear n0_ n1_ n2_ n3_; clear hb hbox hg) | ((with_reducible refine gate_dst (N := 8) rfl ?_); refine box_event ?hg (N := 8) ?hd (cs := #[.int .i64 0, .slice none 0 0]) (t := 24) ?hr ?_; (case hd => rfl); (case hg => rfl); (case hr => first | (go_simp; done) | (go_simp; rfl)); intro gb218 hg w76 hbox hb; have n0_ := Aside0.mk (blk_below (g := gb217) (o := .cells #[.int .i64 a0_0, .slice A0_1 l0_1.length c0_1] 24 (0, 0)) (by (with_reducible repeat (first | refine blk_drewN ?_ _ | refine blk_drew ?_ | refine blk_alloc ?_ _)); exact BK217.out) hb); have n1_ := Aside0.mk (below_step (by repeat (first | (with_reducible first | exact HB.out | apply below_alloc | apply pw_below_drewN | apply below_drew1 | refine below_set ?_ GE217.out) | exact HB.out)) hb); have n2_ := Aside0.mk (hbox); have n3_ := Aside0.mk ((by rw [hg]; exact (below_size (by repeat (first | (with_reducible first | exact HB.out | apply below_alloc | apply pw_below_drewN | apply below_drew1 | refine below_set ?_ GE217.out) | exact HB.out))) : w.heap.size ≤ gb218)); have n4_ := Aside0.mk ((by rw [hg]; exact (below_size (by repeat (first | (with_reducible first | exact HB.out | apply below_alloc | apply pw_below_drewN | apply below_drew1 | refine below_set ?_ GE217.out) | exact HB.out))) : w.heap.size ≤ gb218)); have n5_ := Aside0.mk ((by rw [hg]; exact Nat.ne_of_lt (blk_lt (g := gb217) (o := .cells #[.int .i64 a0_0, .slice A0_1 l0_1.length c0_1] 24 (0, 0)) (by (with_reducible repeat (first | refine blk_drewN ?_ _ | refine blk_drew ?_ | refine blk_alloc ?_ _)); exact BK217.out)) : gb217 ≠ gb218)); have n6_ := Aside0.mk ((by rw [hg]; exact Nat.ne_of_gt (blk_lt (g := gb217) (o := .cells #[.int .i64 a0_0, .slice A0_1 l0_1.length c0_1] 24 (0, 0)) (by (with_reducible repeat (first | refine blk_drewN ?_ _ | refine blk_drew ?_ | refine blk_alloc ?_ _)); exact BK217.out)) : gb218 ≠ gb217)); clear BK217; clear HB; have BK217 := n0_; have HB := n1_; have BK218 := n2_; have GW218 := n3_; have GE218 := n4_; have NB217_218 := n5_; have NB218_217 := n6_; clear n0_ n1_ n2_ n3_ n4_ n5_ n6_; clear hb hbox hg; have hnb77 := NB217_218.out; have hnc77 := NB218_217.out; have hcz78_0 : w76.cell? ⟨gb217, 0, none⟩ = some (.int .i64 a0_0) := (blk_cell BK217.out 0).trans rfl; have hcz78_1 : w76.cell? ⟨gb217, 1, none⟩ = some (.slice A0_1 l0_1.length c0_1) := (blk_cell BK217.out 1).trans rfl; have hfz78_0 := blk_frozen BK217.out 0; have hfz78_1 := blk_frozen BK217.out 1) | ((with_reducible refine gate_callee (f := 17) rfl ?_); refine goesL_ (some 17) rfl rfl Try.func17 (by kernel_rfl) rfl #[.agg #[.int .i64 a0_0, .slice A0_1 l0_1.length c0_1]] rfl (by (try simp only [List.map_toArray, List.map_cons, List.map_nil]); first | done | rfl | (simp only [List.length_drop, List.length_take]; rfl)) ?_; (with_reducible refine (estoversref07_Check.calls k a0_0 _ _ l0_1 t219 _ ?side1 ?side2 A5.out).mono ?_); (case side1 => repeat (first | exact (Kd.C_below HR0_1.out HB.out) | (with_reducible refine Kd.C_alloc ?_ _) | (with_reducible refine Kd.C_drewN ?_ _) | (with_reducible refine Kd.C_drew ?_))); (case side2 => exact HC0_1.out); rintro e w79 ⟨rfl, hb⟩; refine ⟨_, rfl, ?_⟩; have n0_ := Aside0.mk (blk_below (g := gb217) (o := .cells #[.int .i64 a0_0, .slice A0_1 l0_1.length c0_1] 24 (0, 0)) (by (with_reducible repeat (first | refine blk_drewN ?_ _ | refine blk_drew ?_ | refine blk_alloc ?_ _)); exact BK217.out) hb); have n1_ := Aside0.mk (blk_below (g := gb218) (o := .cells #[.int .i64 0, .slice none 0 0] 24 (0, 0)) (by (with_reducible repeat (first | refine blk_drewN ?_ _ | refine blk_drew ?_ | refine blk_alloc ?_ _)); exact BK218.out) hb); have n2_ := Aside0.mk (below_step (by repeat (first | (with_reducible first | exact HB.out | apply below_alloc | apply pw_below_drewN | apply below_drew1 | refine below_set ?_ GE217.out | refine below_set ?_ GE218.out) | exact HB.out)) hb); clear BK217; clear BK218; clear HB; have BK217 := n0_; have BK218 := n1_; have HB := n2_; clear n0_ n1_ n2_; (try clear hb); (try clear hb2); (try clear hk); (try clear hi); have hcz80_0 : w79.cell? ⟨gb218, 0, none⟩ = some (.int .i64 0) := (blk_cell BK218.out 0).trans rfl; have hcz80_1 : w79.cell? ⟨gb218, 1, none⟩ = some (.slice none 0 0) := (blk_cell BK218.out 1).trans rfl; have hfz80_0 := blk_frozen BK218.out 0; have hfz80_1 := blk_frozen BK218.out 1))
    refine bodyPost_ret (results_ct rfl _ _ gb218 24 #[.int .i64 0, .slice none 0 0] (0, 0) _ rfl (by (with_reducible repeat (first | refine blk_drewN ?_ _ | refine blk_drew ?_ | refine blk_alloc ?_ _)); refine blk_put (cs := #[.int .i64 0, .slice none 0 0]) ?_ 1 _ rfl; (with_reducible repeat (first | refine blk_drewN ?_ _ | refine blk_drew ?_ | refine blk_alloc ?_ _)); refine blk_put (cs := #[.int .i64 0, .slice none 0 0]) ?_ 0 _ rfl; (with_reducible repeat (first | refine blk_drewN ?_ _ | refine blk_drew ?_ | refine blk_alloc ?_ _)); exact BK218.out) Try.underlying24 rfl (by kernel_rfl)) rfl ?_
    exact ⟨_, by first | rfl | (simp [errW_none, errW_some] <;> rfl) | (simp [*, errW_none, errW_some] <;> rfl), Kd.Q_of_R (by first | exact Kd.R_nil _ _ _ _ _ | exact Kd.N_nil _ _ _ _ _ | exact Kd.V_nil _ _ _ _ _ | exact Kd.Q_nil _ _ _ _ _ | exact Kd.S_nil _ _ _ _ _), by repeat (first | (with_reducible first | exact HB.out | apply below_alloc | apply pw_below_drewN | apply below_drew1 | refine below_set ?_ GE217.out | refine below_set ?_ GE218.out) | exact HB.out)⟩

end Go.Proofs.Ytkbnhphcmlljgaa.P
