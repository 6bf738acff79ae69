-- Made by wip/myprint (a turned copy of the kit's print) for this work: plain functions and their contracts. Lean checks it.
import Derived.Test.YtkbnhphcmlljgaaPx0
import Derived.Test.YtkbnhphcmlljgaaPx1
import Derived.Test.YtkbnhphcmlljgaaPx5
import Derived.Test.YtkbnhphcmlljgaaHandAwake
import Derived.Test.YtkbnhphcmlljgaaHandFill
namespace Go.Proofs.Ytkbnhphcmlljgaa.P
open Go.RowKit Go.Proofs.YtkbnhphcmlljgaaW.PrintWords Go.Proofs.YtkbnhphcmlljgaaW.PrintLast Go.Proofs.YtkbnhphcmlljgaaW.PrintMore
attribute [local go_sem] max2_int min2_int max_two min_two max_three min_three max_four min_four   -- for this text's walks alone
set_option linter.unusedVariables false
set_option linter.unusedSimpArgs false

attribute [local go_sem high] eqA42
/-! ### estoverslaw07_TlbFifo: function 6 -/
mutual
def estoverslaw07_TlbFifo.l0 : Nat → List Int → Int → List Int → Int → Option (Bool)
  | 0, _, _, _, _ => none
  | k + 1, x1, x5, x6, x7 => if x7 < (x1.length : Int) then (if 0 ≤ x7 then (estoverslaw07_TlbFifo.l1 k x1 x5 x6 x7 (Int.tmod (wrap64 (rd x1 x7)) 512) 0) else (none)) else ((tlb_New.f x5).bind fun bt266 => (estoverslaw07_TlbFifo.l2 k x5 x6 0 bt266.1 bt266.2.1))
def estoverslaw07_TlbFifo.l1 : Nat → List Int → Int → List Int → Int → Int → Int → Option (Bool)
  | 0, _, _, _, _, _, _ => none
  | k + 1, x1, x5, x6, x7, x8, x9 => if x9 < (x6.length : Int) then (if 0 ≤ x9 then (if (rd x6 x9) = x8 then ((estoverslaw07_awake.f).bind fun t262 => (some t262)) else (estoverslaw07_TlbFifo.l1 k x1 x5 x6 x7 x8 (wrap64 (x9 + 1)))) else (none)) else (if x6.length < 17592186044416 then (estoverslaw07_TlbFifo.l0 k x1 x5 (x6 ++ [x8]) (wrap64 (x7 + 1))) else (none))
def estoverslaw07_TlbFifo.l2 : Nat → Int → List Int → Int → Int → List (S42) → Option (Bool)
  | 0, _, _, _, _, _ => none
  | k + 1, x5, x6, x12, x272000, x272001 => if x12 < (x6.length : Int) then (if 0 ≤ x12 then ((tlb_Fill.f x272000 x272001 2 (rd x6 x12) (IntKind.u64.wrap (wrap64 (1 + (wrap64 (256 * x12)))))).bind fun bt273 => (if bt273.2.2 = 0 then (estoverslaw07_TlbFifo.l2 k x5 x6 (wrap64 (x12 + 1)) bt273.1 bt273.2.1) else (some false))) else (none)) else (if (x272001.length : Int) = (wrap64 ((x6.length : Int) - (mx 0 (wrap64 ((x6.length : Int) - x5))))) then (estoverslaw07_TlbFifo.l3 k x6 (mx 0 (wrap64 ((x6.length : Int) - x5))) (mx 0 (wrap64 ((x6.length : Int) - x5))) x272000 x272001) else (some false))
def estoverslaw07_TlbFifo.l3 : Nat → List Int → Int → Int → Int → List (S42) → Option (Bool)
  | 0, _, _, _, _, _ => none
  | k + 1, x6, x15, x16, x272000, x272001 => if x16 < (x6.length : Int) then (if 0 ≤ (wrap64 (x16 - x15)) then (if (wrap64 (x16 - x15)) < (x272001.length : Int) then (if 0 ≤ x16 then (if (!(((rd_T42 x272001 (wrap64 (x16 - x15))).f0) == 2) || (!(((rd_T42 x272001 (wrap64 (x16 - x15))).f1) == (rd x6 x16)) || (!(((rd_T42 x272001 (wrap64 (x16 - x15))).f2) == (IntKind.u64.wrap (wrap64 (1 + (wrap64 (256 * x16))))))))) = true then (some false) else (estoverslaw07_TlbFifo.l3 k x6 x15 (wrap64 (x16 + 1)) x272000 x272001)) else (none)) else (none)) else (none)) else ((estoverslaw07_awake.f).bind fun t281 => (some t281))
end
def estoverslaw07_TlbFifo.f (k : Nat) (a0 : Int) (l1 : List Int) : Option (Bool) := if (l1.length : Int) > 40 then ((estoverslaw07_awake.f).bind fun t259 => (some t259)) else (estoverslaw07_TlbFifo.l0 k l1 (wrap64 (1 + (Int.tmod (wrap64 (a0)) 16))) ([] : List Int) 0)
theorem estoverslaw07_TlbFifo.mono_l : ∀ k, (∀ y0 y1 y2 y3, LeO (estoverslaw07_TlbFifo.l0 k y0 y1 y2 y3) (estoverslaw07_TlbFifo.l0 (k + 1) y0 y1 y2 y3)) ∧ (∀ y0 y1 y2 y3 y4 y5, LeO (estoverslaw07_TlbFifo.l1 k y0 y1 y2 y3 y4 y5) (estoverslaw07_TlbFifo.l1 (k + 1) y0 y1 y2 y3 y4 y5)) ∧ (∀ y0 y1 y2 y3 y4, LeO (estoverslaw07_TlbFifo.l2 k y0 y1 y2 y3 y4) (estoverslaw07_TlbFifo.l2 (k + 1) y0 y1 y2 y3 y4)) ∧ (∀ y0 y1 y2 y3 y4, LeO (estoverslaw07_TlbFifo.l3 k y0 y1 y2 y3 y4) (estoverslaw07_TlbFifo.l3 (k + 1) y0 y1 y2 y3 y4))
  | 0 => ⟨fun _ _ _ _ r h => by simp [estoverslaw07_TlbFifo.l0] at h, fun _ _ _ _ _ _ r h => by simp [estoverslaw07_TlbFifo.l1] at h, fun _ _ _ _ _ r h => by simp [estoverslaw07_TlbFifo.l2] at h, fun _ _ _ _ _ r h => by simp [estoverslaw07_TlbFifo.l3] at h⟩
  | k + 1 => by
    obtain ⟨ih0, ih1, ih2, ih3⟩ := estoverslaw07_TlbFifo.mono_l k
    refine ⟨?_, ?_, ?_, ?_⟩
    · intro y0 y1 y2 y3
      unfold estoverslaw07_TlbFifo.l0
      repeat' first
      | (with_reducible exact ih0 _ _ _ _)
      | (with_reducible exact ih1 _ _ _ _ _ _)
      | (with_reducible exact ih2 _ _ _ _ _)
      | (with_reducible exact ih3 _ _ _ _ _)
      | (with_reducible exact LeO.refl _)
      | (with_reducible exact LeO.none _)
      | (with_reducible refine LeO.ite ?_ ?_)
      | (with_reducible refine LeO.bind ?_ (fun _ => ?_))
      | exact ih0 _ _ _ _
      | exact ih1 _ _ _ _ _ _
      | exact ih2 _ _ _ _ _
      | exact ih3 _ _ _ _ _
      | exact LeO.none _
      | refine LeO.ite ?_ ?_
      | refine LeO.bind ?_ (fun _ => ?_)
    · intro y0 y1 y2 y3 y4 y5
      unfold estoverslaw07_TlbFifo.l1
      repeat' first
      | (with_reducible exact ih0 _ _ _ _)
      | (with_reducible exact ih1 _ _ _ _ _ _)
      | (with_reducible exact ih2 _ _ _ _ _)
      | (with_reducible exact ih3 _ _ _ _ _)
      | (with_reducible exact LeO.refl _)
      | (with_reducible exact LeO.none _)
      | (with_reducible refine LeO.ite ?_ ?_)
      | (with_reducible refine LeO.bind ?_ (fun _ => ?_))
      | exact ih0 _ _ _ _
      | exact ih1 _ _ _ _ _ _
      | exact ih2 _ _ _ _ _
      | exact ih3 _ _ _ _ _
      | exact LeO.none _
      | refine LeO.ite ?_ ?_
      | refine LeO.bind ?_ (fun _ => ?_)
    · intro y0 y1 y2 y3 y4
      unfold estoverslaw07_TlbFifo.l2
      repeat' first
      | (with_reducible exact ih0 _ _ _ _)
      | (with_reducible exact ih1 _ _ _ _ _ _)
      | (with_reducible exact ih2 _ _ _ _ _)
      | (with_reducible exact ih3 _ _ _ _ _)
      | (with_reducible exact LeO.refl _)
      | (with_reducible exact LeO.none _)
      | (with_reducible refine LeO.ite ?_ ?_)
      | (with_reducible refine LeO.bind ?_ (fun _ => ?_))
      | exact ih0 _ _ _ _
      | exact ih1 _ _ _ _ _ _
      | exact ih2 _ _ _ _ _
      | exact ih3 _ _ _ _ _
      | exact LeO.none _
      | refine LeO.ite ?_ ?_
      | refine LeO.bind ?_ (fun _ => ?_)
    · intro y0 y1 y2 y3 y4
      unfold estoverslaw07_TlbFifo.l3
      repeat' first
      | (with_reducible exact ih0 _ _ _ _)
      | (with_reducible exact ih1 _ _ _ _ _ _)
      | (with_reducible exact ih2 _ _ _ _ _)
      | (with_reducible exact ih3 _ _ _ _ _)
      | (with_reducible exact LeO.refl _)
      | (with_reducible exact LeO.none _)
      | (with_reducible refine LeO.ite ?_ ?_)
      | (with_reducible refine LeO.bind ?_ (fun _ => ?_))
      | exact ih0 _ _ _ _
      | exact ih1 _ _ _ _ _ _
      | exact ih2 _ _ _ _ _
      | exact ih3 _ _ _ _ _
      | exact LeO.none _
      | refine LeO.ite ?_ ?_
      | refine LeO.bind ?_ (fun _ => ?_)
theorem estoverslaw07_TlbFifo.mono : ∀ a0 a1 k, LeO (estoverslaw07_TlbFifo.f k a0 a1) (estoverslaw07_TlbFifo.f (k + 1) a0 a1) := by
  intro a0 a1 k
  obtain ⟨ih0, ih1, ih2, ih3⟩ := estoverslaw07_TlbFifo.mono_l k
  unfold estoverslaw07_TlbFifo.f
  repeat' first
      | (with_reducible exact ih0 _ _ _ _)
      | (with_reducible exact ih1 _ _ _ _ _ _)
      | (with_reducible exact ih2 _ _ _ _ _)
      | (with_reducible exact ih3 _ _ _ _ _)
      | (with_reducible exact LeO.refl _)
      | (with_reducible exact LeO.none _)
      | (with_reducible refine LeO.ite ?_ ?_)
      | (with_reducible refine LeO.bind ?_ (fun _ => ?_))
      | exact ih0 _ _ _ _
      | exact ih1 _ _ _ _ _ _
      | exact ih2 _ _ _ _ _
      | exact ih3 _ _ _ _ _
      | exact LeO.none _
      | refine LeO.ite ?_ ?_
      | refine LeO.bind ?_ (fun _ => ?_)
def estoverslaw07_TlbFifo.T19 : Bool × List (List Nat × List Nat) := (true, [([], []), ([], []), ([], []), ([1, 2], [1, 2]), ([3], [3]), ([], []), ([5], [5]), ([6], [6]), ([7], [7]), ([0, 4, 8], [0, 4, 8]), ([9], [9]), ([10], [10]), ([10], [10]), ([], []), ([13, 11, 9, 0, 1, 2, 3, 4, 5, 6, 7, 8, 9, 10, 11, 13], [11, 13]), ([12, 14, 0, 1, 2, 3, 4, 5, 6, 7, 8, 9, 10, 11, 12, 13, 14], [12])])
def estoverslaw07_TlbFifo.B19 : List Nat := [0, 0, 0, 6, 14, 0, 32, 96, 224, 511, 1023, 2047, 2047, 0, 12287, 32767]
theorem estoverslaw07_TlbFifo.tab19 : rtab .any (opsOf Try.f6 19) = estoverslaw07_TlbFifo.T19 := by kernel_rfl
theorem estoverslaw07_TlbFifo.bits19 : waitsOk estoverslaw07_TlbFifo.T19.2 estoverslaw07_TlbFifo.B19 = true := by kernel_rfl
def estoverslaw07_TlbFifo.T29 : Bool × List (List Nat × List Nat) := (true, [([], []), ([0], [0]), ([], []), ([], []), ([2, 3], [2, 3]), ([1, 4], [1, 4]), ([5], [5]), ([], []), ([], []), ([7, 8], [7, 8]), ([9], [9]), ([], []), ([11], [11]), ([12], [12]), ([13], [13]), ([10, 14], [10, 14]), ([6, 15], [6, 15])])
def estoverslaw07_TlbFifo.B29 : List Nat := [0, 1, 0, 0, 12, 31, 63, 0, 0, 384, 896, 0, 2048, 6144, 14336, 32640, 65535]
theorem estoverslaw07_TlbFifo.tab29 : rtab .any (opsOf Try.f6 29) = estoverslaw07_TlbFifo.T29 := by kernel_rfl
theorem estoverslaw07_TlbFifo.bits29 : waitsOk estoverslaw07_TlbFifo.T29.2 estoverslaw07_TlbFifo.B29 = true := by kernel_rfl
set_option maxHeartbeats 8000000 in
set_option maxRecDepth 100000 in
theorem estoverslaw07_TlbFifo.calls (k : Nat) (a0 : Int) (A1 : Option Addr) (c1 : Nat) (l1 : List Int) (r : Bool) (w : World) (hr1 : Kd.C (Kd.int .u16) w A1 l1.length l1) (hc1 : l1.length ≤ c1) (h : estoverslaw07_TlbFifo.f k a0 l1 = some r) :
    Calls Try.prog 6 #[.int .u8 a0, .slice A1 l1.length c1] w fun e w' => e = .returned (.bool r) ∧ Below w.heap.size w w' := by
  have hu24 := Try.underlying24
  have hu42 := Try.underlying42
  have HR1 := Aside0.mk hr1
  have HC1 := Aside0.mk hc1
  clear hr1 hc1
  have HB := Aside0.mk (Below.refl w.heap.size w)
  have H : (if (l1.length : Int) > 40 then ((estoverslaw07_awake.f).bind fun t259 => (some t259)) else (estoverslaw07_TlbFifo.l0 k l1 (wrap64 (1 + (Int.tmod (wrap64 (a0)) 16))) ([] : List Int) 0)) = some r := h
  clear h
  by_cases c3 : (l1.length : Int) > 40
  · rw [if_pos c3] at H
    have c3b0 : decide (40 < (l1.length : Int)) = true := decide_eq_true c3
    have c3b1 : decide (40 < l1.length) = true := decide_eq_true (by omega)
    clear c3
    replace H := Option.bind_eq_some_iff.mp H
    obtain ⟨t259, A40, H⟩ := H
    replace H : (some t259) = some r := H
    have A4 := Aside0.mk A40
    clear A40
    obtain rfl := Option.some.inj H
    go_enter Try.func6, Try.ntmps6
    go_wp2_with (first | ((with_reducible refine gate_callee (f := 13) rfl ?_); refine goesL_ (some 20) rfl rfl Try.func13 (by kernel_rfl) rfl #[] rfl (by (try simp only [List.map_toArray, List.map_cons, List.map_nil]); first | done | rfl | (simp only [List.length_drop, List.length_take]; rfl)) ?_; (with_reducible refine (estoverslaw07_awake.calls  t259 _ A4.out).mono ?_); rintro e w5 ⟨rfl, hb⟩; refine ⟨_, rfl, ?_⟩; have n0_ := Aside0.mk (below_step (by repeat (first | (with_reducible first | exact HB.out | apply below_alloc | apply pw_below_drewN | apply below_drew1) | exact HB.out)) hb); clear HB; have HB := n0_; clear n0_; (try clear hb); (try clear hb2); (try clear hk); (try clear hi)))
    go_ret
    exact ⟨by first | rfl | (simp [errW_none, errW_some] <;> rfl) | (simp [*, errW_none, errW_some] <;> rfl), by repeat (first | (with_reducible first | exact HB.out | apply below_alloc | apply pw_below_drewN | apply below_drew1) | exact HB.out)⟩
  · rw [if_neg c3] at H
    have c3b0 : decide (40 < (l1.length : Int)) = false := decide_eq_false c3
    have c3b1 : decide (40 < l1.length) = false := decide_eq_false (by omega)
    clear c3
    have H' := Aside0.mk H
    clear H
    go_enter Try.func6, Try.ntmps6
    go_wp2
    go_loopg [6, 7] k (fun kq v6 v7 w' => ∃ (x6_1 : List Int) (x7_1 : Int), v7 = .int .i64 x7_1 ∧ Aside0 (estoverslaw07_TlbFifo.l0 kq l1 (wrap64 (1 + (Int.tmod (wrap64 (a0)) 16))) x6_1 x7_1 = some r) ∧ Aside0 (kq ≤ k) ∧ Aside0 (Kd.R (Kd.int .i64) 3 w' w.heap.size (fun _ => True) v6 x6_1) ∧ Aside0 (Below w.heap.size w w'))
    case atStart => exact ⟨(([] : List Int)), (0), (by first | rfl | (simp; done) | (simp [*]; done)), H', ⟨Nat.le_refl _⟩, ⟨by first | exact Kd.R_nil _ _ _ _ _ | exact Kd.N_nil _ _ _ _ _ | exact Kd.V_nil _ _ _ _ _ | exact Kd.Q_nil _ _ _ _ _ | exact Kd.S_nil _ _ _ _ _⟩, ⟨by repeat (first | (with_reducible first | exact HB.out | apply below_alloc | apply pw_below_drewN | apply below_drew1) | exact HB.out)⟩⟩
    case round =>
      clear H'
      try clear c1
      try clear p2
      try clear c3
      try clear c3b0
      try clear c3b1
      obtain ⟨x6_1, x7_1, rfl, HA, HK1, HO_6, HB⟩ := hrel
      cases gk with
      | zero => exact absurd HA.out (by simp [estoverslaw07_TlbFifo.l0])
      | succ k1 =>
        have H := HA.out
        clear HA
        simp only [estoverslaw07_TlbFifo.l0] at H
        by_cases c6 : x7_1 < (l1.length : Int)
        · rw [if_pos c6] at H
          have c6b0 : decide (x7_1 < (l1.length : Int)) = true := decide_eq_true c6
          clear c6
          by_cases c7 : 0 ≤ x7_1
          · rw [if_pos c7] at H
            have c7b0 : decide (0 ≤ x7_1) = true := decide_eq_true c7
            clear c7
            have H' := Aside0.mk H
            clear H
            have p260 : 0 ≤ (x7_1 : Int) := of_decide_eq_true (by first | (with_reducible assumption) | assumption)
            have q260 : x7_1 < (l1.length : Int) := of_decide_eq_true (by first | (with_reducible assumption) | assumption)
            obtain ⟨ad260, e260, hx260_0⟩ := Kd.at_int HR1.out x7_1 p260 q260
            cases e260
            replace hx260_0 := (HB.out.cell (World.block_lt_of_cell? w _ hx260_0)).trans hx260_0
            replace p260 := eq_true p260
            replace q260 := eq_true q260
            go_wp2
            go_loopg [9] k1 (fun kq v9 w' => ∃ (x9_2 : Int), v9 = .int .i64 x9_2 ∧ Aside0 (estoverslaw07_TlbFifo.l1 kq l1 (wrap64 (1 + (Int.tmod (wrap64 (a0)) 16))) x6_1 x7_1 (Int.tmod (wrap64 (rd l1 x7_1)) 512) x9_2 = some r) ∧ Aside0 (kq ≤ k1) ∧ Aside0 (Kd.R (Kd.int .i64) 3 w' w.heap.size (fun _ => True) u6 x6_1) ∧ Aside0 (Below w.heap.size w w'))
            case atStart => exact ⟨(0), (by first | rfl | (simp; done) | (simp [*]; done)), H', ⟨Nat.le_refl _⟩, ⟨by (with_reducible repeat (first | apply Kd.R_alloc | apply Kd.R_drewN | apply Kd.R_drew)); exact HO_6.out⟩, ⟨by repeat (first | (with_reducible first | exact HB.out | apply below_alloc | apply pw_below_drewN | apply below_drew1) | exact HB.out)⟩⟩
            case round =>
              clear H'
              try clear c1
              try clear p2
              try clear q2
              try clear hx2
              try clear c3
              try clear c3b0
              try clear c3b1
              try clear c6
              try clear c6b0
              try clear p6
              try clear c7
              try clear c7b0
              try clear hx260_0
              try clear p2
              try clear p260
              try clear q260
              obtain ⟨x9_2, rfl, HA, HK2, HO_6, HB⟩ := hrel
              cases gk with
              | zero => exact absurd HA.out (by simp [estoverslaw07_TlbFifo.l1])
              | succ k2 =>
                have H := HA.out
                clear HA
                simp only [estoverslaw07_TlbFifo.l1] at H
                by_cases c8 : x9_2 < (x6_1.length : Int)
                · rw [if_pos c8] at H
                  have c8b0 : decide (x9_2 < (x6_1.length : Int)) = true := decide_eq_true c8
                  clear c8
                  by_cases c9 : 0 ≤ x9_2
                  · rw [if_pos c9] at H
                    have c9b0 : decide (0 ≤ x9_2) = true := decide_eq_true c9
                    clear c9
                    by_cases c10 : (rd x6_1 x9_2) = (Int.tmod (wrap64 (rd l1 x7_1)) 512)
                    · rw [if_pos c10] at H
                      have c10b0 : ((rd x6_1 x9_2) == (Int.tmod (wrap64 (rd l1 x7_1)) 512)) = true := beq_iff_eq.mpr c10
                      have c10b1 : ((rd x6_1 x9_2) != (Int.tmod (wrap64 (rd l1 x7_1)) 512)) = false := bne_eq_false_iff_eq.mpr c10
                      clear c10
                      replace H := Option.bind_eq_some_iff.mp H
                      obtain ⟨t262, A110, H⟩ := H
                      replace H : (some t262) = some r := H
                      have A11 := Aside0.mk A110
                      clear A110
                      obtain rfl := Option.some.inj H
                      obtain ⟨Ao12, co12, eo12⟩ := Kd.R_slice HO_6.out
                      subst eo12
                      have p261 : 0 ≤ (x9_2 : Int) := of_decide_eq_true (by first | (with_reducible assumption) | assumption)
                      have q261 : x9_2 < (x6_1.length : Int) := of_decide_eq_true (by first | (with_reducible assumption) | assumption)
                      obtain ⟨ad261, e261, hx261_0⟩ := Kd.at_int (Kd.R_reads' HO_6.out).2.2 x9_2 p261 q261
                      cases e261
                      replace p261 := eq_true p261
                      replace q261 := eq_true q261
                      go_wp2_with (first | ((with_reducible refine gate_callee (f := 13) rfl ?_); refine goesL_ (some 49) rfl rfl Try.func13 (by kernel_rfl) rfl #[] rfl (by (try simp only [List.map_toArray, List.map_cons, List.map_nil]); first | done | rfl | (simp only [List.length_drop, List.length_take]; rfl)) ?_; (with_reducible refine (estoverslaw07_awake.calls  t262 _ A11.out).mono ?_); rintro e w13 ⟨rfl, hb⟩; refine ⟨_, rfl, ?_⟩; have n0_ := Aside0.mk (Kd.R_below (by (with_reducible repeat (first | apply Kd.R_alloc | apply Kd.R_drewN | apply Kd.R_drew)); exact HO_6.out) hb); have n1_ := Aside0.mk (below_step (by repeat (first | (with_reducible first | exact HB.out | apply below_alloc | apply pw_below_drewN | apply below_drew1) | exact HB.out)) hb); clear HO_6; clear HB; have HO_6 := n0_; have HB := n1_; clear n0_ n1_; (try clear hb); (try clear hb2); (try clear hk); (try clear hi)))
                      go_ret
                      exact ⟨by first | rfl | (simp [errW_none, errW_some] <;> rfl) | (simp [*, errW_none, errW_some] <;> rfl), by repeat (first | (with_reducible first | exact HB.out | apply below_alloc | apply pw_below_drewN | apply below_drew1) | exact HB.out)⟩
                    · rw [if_neg c10] at H
                      have c10b0 : ((rd x6_1 x9_2) == (Int.tmod (wrap64 (rd l1 x7_1)) 512)) = false := beq_eq_false_iff_ne.mpr c10
                      have c10b1 : ((rd x6_1 x9_2) != (Int.tmod (wrap64 (rd l1 x7_1)) 512)) = true := bne_iff_ne.mpr c10
                      have H' := Aside0.mk H
                      clear H
                      obtain ⟨Ao14, co14, eo14⟩ := Kd.R_slice HO_6.out
                      subst eo14
                      have p261 : 0 ≤ (x9_2 : Int) := of_decide_eq_true (by first | (with_reducible assumption) | assumption)
                      have q261 : x9_2 < (x6_1.length : Int) := of_decide_eq_true (by first | (with_reducible assumption) | assumption)
                      obtain ⟨ad261, e261, hx261_0⟩ := Kd.at_int (Kd.R_reads' HO_6.out).2.2 x9_2 p261 q261
                      cases e261
                      replace p261 := eq_true p261
                      replace q261 := eq_true q261
                      go_wp2
                      go_roundg k2
                      case measure => have := HK1.out; have := HK2.out; omega
                      case rel => exact ⟨(wrap64 (x9_2 + 1)), (by first | rfl | (simp; done) | (simp [*]; done)), H', ⟨by have := HK1.out; have := HK2.out; omega⟩, ⟨by (with_reducible repeat (first | apply Kd.R_alloc | apply Kd.R_drewN | apply Kd.R_drew)); exact HO_6.out⟩, ⟨by repeat (first | (with_reducible first | exact HB.out | apply below_alloc | apply pw_below_drewN | apply below_drew1) | exact HB.out)⟩⟩
                  · rw [if_neg c9] at H
                    exact absurd H (by simp)
                · rw [if_neg c8] at H
                  have c8b0 : decide (x9_2 < (x6_1.length : Int)) = false := decide_eq_false c8
                  clear c8
                  by_cases c15 : x6_1.length < 17592186044416
                  · rw [if_pos c15] at H
                    have LMc15 := Aside0.mk c15
                    clear c15
                    obtain ⟨y263, hy263⟩ : ∃ y_ : List Int, y_ = (x6_1 ++ [(Int.tmod (wrap64 (rd l1 x7_1)) 512)]) := ⟨_, rfl⟩
                    replace H : (estoverslaw07_TlbFifo.l0 k2 l1 (wrap64 (1 + (Int.tmod (wrap64 (a0)) 16))) y263 (wrap64 (x7_1 + 1))) = some r := by first | (rw [hy263]; with_reducible exact H) | (have H2_ := (Option.bind_some _ _).symm.trans H; rw [hy263]; with_reducible exact H2_) | (have H2_ := (Option.bind_some _ _).symm.trans H; with_reducible exact H2_) | with_reducible exact H | (rw [hy263]; exact H) | exact H
                    have Ny263 := Aside0.mk hy263
                    clear hy263
                    have H' := Aside0.mk H
                    clear H
                    obtain ⟨Ao16, co16, eo16⟩ := Kd.R_slice HO_6.out
                    subst eo16
                    go_wp2_with (first | ((with_reducible refine gate_builtin (b := .append) (xs := #[.tmp 50, .tmp 52]) rfl ?_); at_builtin; refine Kd.R_append (Kd.int .i64) (w0 := w) w.heap.size rfl (.tmp 50) (.tmp 52) 39 3 (.int .i64 0) 8 rfl Try.underlying39 info3 rfl (by decide) (by omega) (.slice Ao16 x6_1.length co16) x6_1 (Int.tmod (wrap64 (rd l1 x7_1)) 512) [.int .i64 (Int.tmod (wrap64 (rd l1 x7_1)) 512)] (fun _ => True) (fun _ => False) rfl rfl ?aP (fun _ hk => hk.elim) ?aF ?aO ?aB ?aS ?aL ?_; (case aP => exact rfl); (case aB => exact (by repeat (first | (with_reducible first | exact HB.out | apply below_alloc | apply pw_below_drewN | apply below_drew1) | exact HB.out))); (case aF => exact (fun _ _ => trivial)); (case aO => exact (by (with_reducible repeat (first | apply Kd.R_alloc | apply Kd.R_drewN | apply Kd.R_drew)); exact HO_6.out)); (case aS => exact (below_size (by repeat (first | (with_reducible first | exact HB.out | apply below_alloc | apply pw_below_drewN | apply below_drew1) | exact HB.out)))); (case aL => have := LMc15.out; omega); intro v264 w17 ho hb hg hat; rw [← Ny263.out] at ho; have n0_ := Aside0.mk (hb); have n1_ := Aside0.mk (ho); clear HB; clear HO_6; have HB := n0_; have HO265 := n1_; clear n0_ n1_; clear ho hb hg hat))
                    go_roundg k2
                    case measure => have := HK1.out; have := HK2.out; omega
                    case rel => exact ⟨(y263), (wrap64 (x7_1 + 1)), (by first | rfl | (simp; done) | (simp [*]; done)), H', ⟨by have := HK1.out; have := HK2.out; omega⟩, ⟨by (with_reducible repeat (first | apply Kd.R_alloc | apply Kd.R_drewN | apply Kd.R_drew)); exact HO265.out⟩, ⟨by repeat (first | (with_reducible first | exact HB.out | apply below_alloc | apply pw_below_drewN | apply below_drew1) | exact HB.out)⟩⟩
                  · rw [if_neg c15] at H
                    exact absurd H (by simp)
          · rw [if_neg c7] at H
            exact absurd H (by simp)
        · rw [if_neg c6] at H
          have c6b0 : decide (x7_1 < (l1.length : Int)) = false := decide_eq_false c6
          clear c6
          replace H := Option.bind_eq_some_iff.mp H
          obtain ⟨⟨t266, t267, t270⟩, A180, H⟩ := H
          replace H : (estoverslaw07_TlbFifo.l2 k1 (wrap64 (1 + (Int.tmod (wrap64 (a0)) 16))) x6_1 0 t266 t267) = some r := H
          have A18 := Aside0.mk A180
          clear A180
          have H' := Aside0.mk H
          clear H
          go_wp2_with (first | ((with_reducible refine gate_callee (f := 14) rfl ?_); refine goesL_ (some 56) rfl rfl Try.func14 (by kernel_rfl) rfl #[.int .i64 (wrap64 (1 + (Int.tmod (wrap64 (a0)) 16)))] rfl (by (try simp only [List.map_toArray, List.map_cons, List.map_nil]); first | done | rfl | (simp only [List.length_drop, List.length_take]; rfl)) ?_; (with_reducible refine (tlb_New.calls (wrap64 (1 + (Int.tmod (wrap64 (a0)) 16))) t266 t267 t270 _ A18.out).mono ?_); rintro e w19 ⟨v268, rfl, ho0, hb⟩; refine ⟨_, rfl, ?_⟩; have n0_ := Aside0.mk (Kd.R_below (by (with_reducible repeat (first | apply Kd.R_alloc | apply Kd.R_drewN | apply Kd.R_drew)); exact HO_6.out) hb); have n1_ := Aside0.mk (Kd.R_lower ho0 (below_size (by repeat (first | (with_reducible first | exact HB.out | apply below_alloc | apply pw_below_drewN | apply below_drew1) | exact HB.out)))); have n2_ := Aside0.mk (below_step (by repeat (first | (with_reducible first | exact HB.out | apply below_alloc | apply pw_below_drewN | apply below_drew1) | exact HB.out)) hb); clear HO_6; clear HB; have HO_6 := n0_; have HO269 := n1_; have HB := n2_; clear n0_ n1_ n2_; (try clear hb); (try clear hb2); (try clear hk); (try clear hi); (try clear ho0)) | ((with_reducible refine gate_dst (N := 10) rfl ?_); refine box_event ?hg (N := 10) ?hd (cs := #[.int .i64 0, .slice none 0 0]) (t := 24) ?hr ?_; (case hd => rfl); (case hg => rfl); (case hr => first | (go_simp; done) | (go_simp; rfl)); intro gb271 hg w20 hbox hb; have n0_ := Aside0.mk (Kd.R_below (by (with_reducible repeat (first | apply Kd.R_alloc | apply Kd.R_drewN | apply Kd.R_drew)); exact HO_6.out) hb); have n1_ := Aside0.mk (Kd.R_below (by (with_reducible repeat (first | apply Kd.R_alloc | apply Kd.R_drewN | apply Kd.R_drew)); exact HO269.out) hb); have n2_ := Aside0.mk (below_step (by repeat (first | (with_reducible first | exact HB.out | apply below_alloc | apply pw_below_drewN | apply below_drew1) | exact HB.out)) hb); have n3_ := Aside0.mk (hbox); have n4_ := Aside0.mk ((by rw [hg]; exact (below_size (by repeat (first | (with_reducible first | exact HB.out | apply below_alloc | apply pw_below_drewN | apply below_drew1) | exact HB.out))) : w.heap.size ≤ gb271)); have n5_ := Aside0.mk ((by rw [hg]; exact (below_size (by repeat (first | (with_reducible first | exact HB.out | apply below_alloc | apply pw_below_drewN | apply below_drew1) | exact HB.out))) : w.heap.size ≤ gb271)); clear HO_6; clear HO269; clear HB; have HO_6 := n0_; have HO269 := n1_; have HB := n2_; have BK271 := n3_; have GW271 := n4_; have GE271 := n5_; clear n0_ n1_ n2_ n3_ n4_ n5_; clear hb hbox hg; have hcz21_0 : w20.cell? ⟨gb271, 0, none⟩ = some (.int .i64 0) := (blk_cell BK271.out 0).trans rfl; have hcz21_1 : w20.cell? ⟨gb271, 1, none⟩ = some (.slice none 0 0) := (blk_cell BK271.out 1).trans rfl; have hfz21_0 := blk_frozen BK271.out 0; have hfz21_1 := blk_frozen BK271.out 1; obtain ⟨Ao22, co22, eo22⟩ := Kd.R_slice HO269.out; subst eo22))
          go_loopg [12] k1 (fun kq v12 w' => ∃ (x12_2 : Int) (x272000_2 : Int) (x272001_2 : List (S42)) (u272001 : Value), v12 = .int .i64 x12_2 ∧ Aside0 (estoverslaw07_TlbFifo.l2 kq (wrap64 (1 + (Int.tmod (wrap64 (a0)) 16))) x6_1 x12_2 x272000_2 x272001_2 = some r) ∧ Aside0 (kq ≤ k1) ∧ Aside0 (Kd.R (Kd.int .i64) 3 w' w.heap.size (fun _ => True) u6 x6_1) ∧ Aside0 (Kd.V k42 42 w' w.heap.size (fun k_ => some k_ ≠ (u6 : Value).ownBlock ∧ k_ ≠ gb271) u272001 x272001_2) ∧ Aside0 (w'.heap[gb271]? = some (.cells #[.int .i64 x272000_2, u272001] 24 (0, 0))) ∧ Aside0 (Below w.heap.size w w'))
          case atStart => exact ⟨(0), (t266), (t267), (.slice Ao22 t267.length co22), (by first | rfl | (simp; done) | (simp [*]; done)), H', ⟨Nat.le_refl _⟩, ⟨by (with_reducible repeat (first | apply Kd.R_alloc | apply Kd.R_drewN | apply Kd.R_drew)); exact Kd.R_mono (Kd.R_far (p := ⟨gb271, 1, none⟩) (Kd.R_far (p := ⟨gb271, 0, none⟩) (Kd.R_types HO_6.out BK271.out (by decide)) (fun _ hk => hk.2) (.int .i64 t266)) (fun _ hk => hk.2) (.slice Ao22 t267.length co22)) (fun _ hk => trivial)⟩, ⟨Kd.R_V (by (with_reducible repeat (first | apply Kd.R_alloc | apply Kd.R_drewN | apply Kd.R_drew)); exact Kd.R_mono (Kd.R_far (p := ⟨gb271, 1, none⟩) (Kd.R_far (p := ⟨gb271, 0, none⟩) (Kd.R_types (Kd.R_types (Kd.R_apart' HO269.out (Kd.R_typed HO_6.out) (by decide)) BK271.out (by decide)) BK271.out (by decide)) (fun _ hk => hk.2) (.int .i64 t266)) (fun _ hk => hk.2) (.slice Ao22 t267.length co22)) (fun _ hk => ⟨hk.1.1.2, hk.1.2⟩))⟩, ⟨by (with_reducible repeat (first | refine blk_drewN ?_ _ | refine blk_drew ?_ | refine blk_alloc ?_ _)); refine blk_put (cs := #[.int .i64 t266, .slice none 0 0]) ?_ 1 _ rfl; (with_reducible repeat (first | refine blk_drewN ?_ _ | refine blk_drew ?_ | refine blk_alloc ?_ _)); refine blk_put (cs := #[.int .i64 0, .slice none 0 0]) ?_ 0 _ rfl; (with_reducible repeat (first | refine blk_drewN ?_ _ | refine blk_drew ?_ | refine blk_alloc ?_ _)); exact BK271.out⟩, ⟨by repeat (first | (with_reducible first | exact HB.out | apply below_alloc | apply pw_below_drewN | apply below_drew1 | refine below_set ?_ GE271.out) | exact HB.out)⟩⟩
          case round =>
            clear H'
            try clear c1
            try clear p2
            try clear q2
            try clear hx2
            try clear c3
            try clear c3b0
            try clear c3b1
            try clear c6
            try clear c6b0
            try clear p6
            try clear c7
            try clear c7b0
            try clear c8
            try clear c8b0
            try clear c9
            try clear c9b0
            try clear c10
            try clear c10b0
            try clear c10b1
            try clear c13
            try clear c14
            try clear c15
            try clear hcz21_0
            try clear hcz21_1
            try clear hfz21_0
            try clear hfz21_1
            try clear hx260_0
            try clear hx261_0
            try clear p2
            try clear p260
            try clear p261
            try clear p6
            try clear q2
            try clear q260
            try clear q261
            obtain ⟨x12_2, x272000_2, x272001_2, u272001, rfl, HA, HK2, HO_6, HO_272001, BK271, HB⟩ := hrel
            cases gk with
            | zero => exact absurd HA.out (by simp [estoverslaw07_TlbFifo.l2])
            | succ k2 =>
              have H := HA.out
              clear HA
              simp only [estoverslaw07_TlbFifo.l2] at H
              by_cases c23 : x12_2 < (x6_1.length : Int)
              · rw [if_pos c23] at H
                have c23b0 : decide (x12_2 < (x6_1.length : Int)) = true := decide_eq_true c23
                clear c23
                by_cases c24 : 0 ≤ x12_2
                · rw [if_pos c24] at H
                  have c24b0 : decide (0 ≤ x12_2) = true := decide_eq_true c24
                  clear c24
                  replace H := Option.bind_eq_some_iff.mp H
                  obtain ⟨⟨t273, t274, t277⟩, A250, H⟩ := H
                  replace H : (if t277 = 0 then (estoverslaw07_TlbFifo.l2 k2 (wrap64 (1 + (Int.tmod (wrap64 (a0)) 16))) x6_1 (wrap64 (x12_2 + 1)) t273 t274) else (some false)) = some r := H
                  have A25 := Aside0.mk A250
                  clear A250
                  by_cases c26 : t277 = 0
                  · rw [if_pos c26] at H
                    have c26b0 : (t277 == 0) = true := beq_iff_eq.mpr c26
                    have c26b1 : (t277 != 0) = false := bne_eq_false_iff_eq.mpr c26
                    clear c26
                    have H' := Aside0.mk H
                    clear H
                    obtain ⟨Ao27, co27, eo27⟩ := Kd.R_slice HO_6.out
                    subst eo27
                    obtain ⟨Ao28, co28, eo28⟩ := Kd.V_slice HO_272001.out
                    subst eo28
                    try go_wp2
                    have n0_ := Aside0.mk (Kd.R_drew HO_6.out)
                    have n1_ := Aside0.mk (Kd.V_drew HO_272001.out)
                    have n2_ := Aside0.mk (blk_drew BK271.out)
                    have n3_ := Aside0.mk (below_drew1 HB.out)
                    clear HO_6
                    clear HO_272001
                    clear BK271
                    clear HB
                    have HO_6 := n0_
                    have HO_272001 := n1_
                    have BK271 := n2_
                    have HB := n3_
                    clear n0_ n1_ n2_ n3_
                    have p272 : 0 ≤ (x12_2 : Int) := of_decide_eq_true (by first | (with_reducible assumption) | assumption)
                    have q272 : x12_2 < (x6_1.length : Int) := of_decide_eq_true (by first | (with_reducible assumption) | assumption)
                    obtain ⟨ad272, e272, hx272_0⟩ := Kd.at_int (Kd.R_reads' HO_6.out).2.2 x12_2 p272 q272
                    cases e272
                    replace p272 := eq_true p272
                    replace q272 := eq_true q272
                    refine start_ (n := 16) (S := fun w' => w'.cell? ⟨gb271, 0, none⟩ = some (.int .i64 x272000_2) ∧ w'.cell? ⟨gb271, 1, none⟩ = some (.slice Ao28 x272001_2.length co28) ∧ w'.cell? (ad272.add (x12_2).toNat) = some (.int .i64 (rd x6_1 x12_2))) (ds := []) #[false, false, false, false, false, false, false, false, false, false, false, false, false, false, false, false] (by kernel_rfl) rfl rfl ⟨(blk_cell BK271.out 0).trans rfl, (blk_cell BK271.out 1).trans rfl, hx272_0⟩ (fun hHeld => ?_); refine with_tabW estoverslaw07_TlbFifo.tab19 estoverslaw07_TlbFifo.bits19 (fun HT_ HW_ => ?_)
                    generalize wr.drew = w29 at HO_6 HO_272001 BK271 HB hx272_0 hHeld ⊢
                    refine pure_ (i := 1) (N := some 67) (v := ?_) (a' := ?_) #[false, true, false, false, false, false, false, false, false, false, false, false, false, false, false, false] rfl rfl (any_of HT_.out (by kernel_rfl)) (fun _ _ _ h => h) (Or.inl ⟨by rfl, ?_⟩) ?_ ?_
                    rotate_left
                    · intro w'
                      go_simp
                      with_reducible rfl
                    rotate_left
                    · simp only [Act.put, List.setIfInBounds_toArray, List.set_cons_zero, List.set_cons_succ, i64_w, i32_w]
                      rfl
                    refine pure_ (i := 2) (N := some 68) (v := ?_) (a' := ?_) #[false, true, true, false, false, false, false, false, false, false, false, false, false, false, false, false] rfl rfl (any_of HT_.out (by kernel_rfl)) (fun _ _ _ h => h) (Or.inl ⟨by rfl, ?_⟩) ?_ ?_
                    rotate_left
                    · intro w'
                      go_simp
                      with_reducible rfl
                    rotate_left
                    · simp only [Act.put, List.setIfInBounds_toArray, List.set_cons_zero, List.set_cons_succ, i64_w, i32_w]
                      rfl
                    refine pure_ (i := 3) (N := some 69) (v := ?_) (a' := ?_) #[false, true, true, true, false, false, false, false, false, false, false, false, false, false, false, false] rfl rfl (any_of HT_.out (by kernel_rfl)) (fun _ _ _ h => h) (Or.inl ⟨by rfl, ?_⟩) ?_ ?_
                    rotate_left
                    · intro w'
                      go_simp
                      with_reducible rfl
                    rotate_left
                    · simp only [Act.put, List.setIfInBounds_toArray, List.set_cons_zero, List.set_cons_succ, i64_w, i32_w]
                      rfl
                    refine pure_ (i := 5) (N := some 71) (v := ?_) (a' := ?_) #[false, true, true, true, false, true, false, false, false, false, false, false, false, false, false, false] rfl rfl (any_of HT_.out (by kernel_rfl)) (fun _ _ _ h => h) (Or.inl ⟨by rfl, ?_⟩) ?_ ?_
                    rotate_left
                    · intro w'
                      go_simp
                      with_reducible rfl
                    rotate_left
                    · simp only [Act.put, List.setIfInBounds_toArray, List.set_cons_zero, List.set_cons_succ, i64_w, i32_w]
                      rfl
                    refine pure_ (i := 6) (N := some 72) (v := ?_) (a' := ?_) #[false, true, true, true, false, true, true, false, false, false, false, false, false, false, false, false] rfl rfl (any_of HT_.out (by kernel_rfl)) (fun _ _ _ h => h) (Or.inl ⟨by rfl, ?_⟩) ?_ ?_
                    rotate_left
                    · intro w'
                      go_simp
                      with_reducible rfl
                    rotate_left
                    · simp only [Act.put, List.setIfInBounds_toArray, List.set_cons_zero, List.set_cons_succ, i64_w, i32_w]
                      rfl
                    refine pure_ (i := 7) (N := some 73) (v := ?_) (a' := ?_) #[false, true, true, true, false, true, true, true, false, false, false, false, false, false, false, false] rfl rfl (any_of HT_.out (by kernel_rfl)) (fun _ _ _ h => h) (Or.inl ⟨by rfl, ?_⟩) ?_ ?_
                    rotate_left
                    · intro w'
                      go_simp
                      with_reducible rfl
                    rotate_left
                    · simp only [Act.put, List.setIfInBounds_toArray, List.set_cons_zero, List.set_cons_succ, i64_w, i32_w]
                      rfl
                    refine pure_ (i := 8) (N := some 74) (v := ?_) (a' := ?_) #[false, true, true, true, false, true, true, true, true, false, false, false, false, false, false, false] rfl rfl (any_of HT_.out (by kernel_rfl)) (fun _ _ _ h => h) (Or.inl ⟨by rfl, ?_⟩) ?_ ?_
                    rotate_left
                    · intro w'
                      go_simp
                      with_reducible rfl
                    rotate_left
                    · simp only [Act.put, List.setIfInBounds_toArray, List.set_cons_zero, List.set_cons_succ, i64_w, i32_w]
                      rfl
                    refine take_ (i := 0) (N := some 66) (v := ?_) (a' := ?_) #[true, true, true, true, false, true, true, true, true, false, false, false, false, false, false, false] rfl rfl (take_ofW HT_.out HW_.out (by kernel_rfl)) (fun _ _ _ h => h) (Or.inl ⟨by rfl, ?_⟩) hHeld ?_ ?_
                    rotate_left
                    · rintro w' ⟨s0, s1, s2⟩
                      go_simp
                      with_reducible rfl
                    rotate_left
                    · simp only [Act.put, List.setIfInBounds_toArray, List.set_cons_zero, List.set_cons_succ, i64_w, i32_w]
                      rfl
                    refine take_ (i := 4) (N := some 70) (v := ?_) (a' := ?_) #[true, true, true, true, true, true, true, true, true, false, false, false, false, false, false, false] rfl rfl (take_ofW HT_.out HW_.out (by kernel_rfl)) (fun _ _ _ h => h) (Or.inl ⟨by rfl, ?_⟩) hHeld ?_ ?_
                    rotate_left
                    · rintro w' ⟨s0, s1, s2⟩
                      go_simp
                      with_reducible rfl
                    rotate_left
                    · simp only [Act.put, List.setIfInBounds_toArray, List.set_cons_zero, List.set_cons_succ, i64_w, i32_w]
                      rfl
                    refine join_ (σ := Value × Nat) 2 #[true, true, true, true, true, true, true, true, true, true, true, true, true, true, false, false] (fun s_ => [(75, .tuple #[.agg #[.int .i64 t273, s_.1], .int .i64 t277]), (13, .pointer (some ⟨s_.2, 0, none⟩)), (65, .tuple #[.agg #[.int .i64 t273, s_.1], .int .i64 t277]), (76, .agg #[.int .i64 t273, s_.1]), (77, .int .i64 t277)]) (fun s_ w' => (w'.cell? ⟨gb271, 0, none⟩ = some (.int .i64 x272000_2) ∧ w'.cell? ⟨gb271, 1, none⟩ = some (.slice Ao28 x272001_2.length co28) ∧ w'.cell? (ad272.add (x12_2).toNat) = some (.int .i64 (rd x6_1 x12_2))) ∧ (Kd.V k42 42 w' w.heap.size (fun k_ => some k_ ≠ (.slice (some ad272) x6_1.length co27 : Value).ownBlock ∧ k_ ≠ gb271 ∧ k_ ≠ s_.2) s_.1 t274) ∧ (Kd.V k42 42 w' w.heap.size (fun k_ => some k_ ≠ (.slice (some ad272) x6_1.length co27 : Value).ownBlock ∧ k_ ≠ gb271 ∧ k_ ≠ s_.2) (.slice Ao28 x272001_2.length co28) x272001_2) ∧ (Kd.R (Kd.int .i64) 3 w' w.heap.size (fun _ => True) (.slice (some ad272) x6_1.length co27) x6_1) ∧ (w'.heap[gb271]? = some (.cells #[.int .i64 x272000_2, .slice Ao28 x272001_2.length co28] 24 (0, 0))) ∧ (w'.heap[s_.2]? = some (.cells #[.int .i64 0, .slice none 0 0] 24 (0, 0))) ∧ (w.heap.size ≤ s_.2) ∧ (w.heap.size ≤ s_.2) ∧ (gb271 ≠ s_.2) ∧ (s_.2 ≠ gb271) ∧ (Below w.heap.size w w')) ?_ ?_
                    rotate_left
                    · intro hCont
                      refine two_ (i := 9) (j := 13) (Ni := some 75) (Nj := some 13) #[true, true, true, true, true, true, true, true, true, true, false, false, false, false, false, false] #[true, true, true, true, true, true, true, true, true, false, false, false, false, true, false, false] rfl rfl rfl rfl (two_of HT_.out (by kernel_rfl)) (by decide) (by decide) (fun K hK => ?_) (fun K hK => ?_)
                      · skip
                        refine goes_ Try.func22 (by kernel_rfl) rfl #[.agg #[.int .i64 x272000_2, .slice Ao28 x272001_2.length co28], .int .i64 2, .int .i64 (rd x6_1 x12_2), .int .u64 (IntKind.u64.wrap (wrap64 (1 + (wrap64 (256 * x12_2)))))] (by rfl) rfl rfl (by (try simp only [List.map_toArray, List.map_cons, List.map_nil]); first | done | rfl | (simp only [List.length_drop, List.length_take]; rfl)) ?_
                        with_reducible refine (tlb_Fill.calls x272000_2 _ _ x272001_2 2 (rd x6_1 x12_2) (IntKind.u64.wrap (wrap64 (1 + (wrap64 (256 * x12_2))))) t273 t274 t277 _ ?side1 ?side2 A25.out).mono ?_
                        (case side1 => repeat (first | exact (Kd.V_reads' HO_272001.out).2.2 | (with_reducible refine Kd.C_alloc ?_ _) | (with_reducible refine Kd.C_drewN ?_ _) | (with_reducible refine Kd.C_drew ?_)))
                        (case side2 => exact (Kd.V_reads' HO_272001.out).2.1)
                        rintro e w30 ⟨v275, rfl, ho0, hb⟩
                        have HS2_ := (hb.cell (World.block_lt_of_cell? _ _ (hHeld.2.2))).trans (hHeld.2.2)
                        refine ⟨_, rfl, ?_⟩
                        have n0_ := Aside0.mk (Kd.R_below (by (with_reducible repeat (first | apply Kd.R_alloc | apply Kd.R_drewN | apply Kd.R_drew)); exact HO_6.out) hb)
                        have n1_ := Aside0.mk (Kd.V_below (by (with_reducible repeat (first | apply Kd.V_alloc | apply Kd.V_drewN | apply Kd.V_drew)); exact HO_272001.out) hb)
                        have n2_ := Aside0.mk (Kd.V_lower (Kd.V_mono (ok' := fun k_ => some k_ ≠ (.slice (some ad272) x6_1.length co27 : Value).ownBlock ∧ k_ ≠ gb271) ho0 (fun k_ hk_ => ⟨(Kd.fresh' (Kd.R_lt (by (with_reducible repeat (first | apply Kd.R_alloc | apply Kd.R_drewN | apply Kd.R_drew)); exact HO_6.out)) k_ hk_), (Kd.freshB (g := gb271) (o := .cells #[.int .i64 x272000_2, .slice Ao28 x272001_2.length co28] 24 (0, 0)) (by (with_reducible repeat (first | refine blk_drewN ?_ _ | refine blk_drew ?_ | refine blk_alloc ?_ _)); exact BK271.out) k_ hk_)⟩)) (below_size (by repeat (first | (with_reducible first | exact HB.out | apply below_alloc | apply pw_below_drewN | apply below_drew1 | refine below_set ?_ GE271.out) | exact HB.out))))
                        have n3_ := Aside0.mk (blk_below (g := gb271) (o := .cells #[.int .i64 x272000_2, .slice Ao28 x272001_2.length co28] 24 (0, 0)) (by (with_reducible repeat (first | refine blk_drewN ?_ _ | refine blk_drew ?_ | refine blk_alloc ?_ _)); exact BK271.out) hb)
                        have n4_ := Aside0.mk (below_step (by repeat (first | (with_reducible first | exact HB.out | apply below_alloc | apply pw_below_drewN | apply below_drew1 | refine below_set ?_ GE271.out) | exact HB.out)) hb)
                        clear HO_6
                        clear HO_272001
                        clear BK271
                        clear HB
                        have HO_6 := n0_
                        have HO_272001 := n1_
                        have HO276 := n2_
                        have BK271 := n3_
                        have HB := n4_
                        clear n0_ n1_ n2_ n3_ n4_
                        (try clear hb)
                        (try clear hb2)
                        (try clear hk)
                        (try clear hi)
                        (try clear ho0)
                        refine hK.out _ _ ⟨(blk_cell BK271.out 0).trans rfl, (blk_cell BK271.out 1).trans rfl, HS2_⟩ (fun hHeld => ?_)
                        clear hK K
                        refine norm_ (a' := ?_) ?_ ?_
                        rotate_left
                        · show Act.put _ (some 75) _ = _
                          simp only [Act.put, List.setIfInBounds_toArray, List.set_cons_zero, List.set_cons_succ, i64_w, i32_w]
                          rfl
                        refine pure_ (i := 10) (N := some 65) (v := ?_) (a' := ?_) #[true, true, true, true, true, true, true, true, true, true, true, false, false, false, false, false] rfl rfl (any_of HT_.out (by kernel_rfl)) (fun _ _ _ h => h) (Or.inl ⟨by rfl, ?_⟩) ?_ ?_
                        rotate_left
                        · intro w'
                          go_simp
                          with_reducible rfl
                        rotate_left
                        · simp only [Act.put, List.setIfInBounds_toArray, List.set_cons_zero, List.set_cons_succ, i64_w, i32_w]
                          rfl
                        refine pure_ (i := 11) (N := some 76) (v := ?_) (a' := ?_) #[true, true, true, true, true, true, true, true, true, true, true, true, false, false, false, false] rfl rfl (any_of HT_.out (by kernel_rfl)) (fun _ _ _ h => h) (Or.inl ⟨by rfl, ?_⟩) ?_ ?_
                        rotate_left
                        · intro w'
                          go_simp
                          with_reducible rfl
                        rotate_left
                        · simp only [Act.put, List.setIfInBounds_toArray, List.set_cons_zero, List.set_cons_succ, i64_w, i32_w]
                          rfl
                        refine pure_ (i := 12) (N := some 77) (v := ?_) (a' := ?_) #[true, true, true, true, true, true, true, true, true, true, true, true, true, false, false, false] rfl rfl (any_of HT_.out (by kernel_rfl)) (fun _ _ _ h => h) (Or.inl ⟨by rfl, ?_⟩) ?_ ?_
                        rotate_left
                        · intro w'
                          go_simp
                          with_reducible rfl
                        rotate_left
                        · simp only [Act.put, List.setIfInBounds_toArray, List.set_cons_zero, List.set_cons_succ, i64_w, i32_w]
                          rfl
                        refine one_ (i := 13) (N := some 13) #[true, true, true, true, true, true, true, true, true, true, true, true, true, true, false, false] rfl rfl (one_of HT_.out (by kernel_rfl)) (by decide) (fun K hK => ?_)
                        refine box_step ?hg (N := 13) ?hd (cs := #[.int .i64 0, .slice none 0 0]) (t := 24) ?hr ?_; (case hd => rfl); (case hg => rfl); (case hr => first | (go_simp; done) | (go_simp; rfl))
                        intro gb278 hg w31 hbox hb
                        have HS2_ := (hb.cell (World.block_lt_of_cell? _ _ (hHeld.2.2))).trans (hHeld.2.2)
                        have n0_ := Aside0.mk (Kd.R_below (by (with_reducible repeat (first | apply Kd.R_alloc | apply Kd.R_drewN | apply Kd.R_drew)); exact HO_6.out) hb)
                        have n1_ := Aside0.mk (Kd.V_below (Kd.V_elderB (by (with_reducible repeat (first | apply Kd.V_alloc | apply Kd.V_drewN | apply Kd.V_drew)); exact HO_272001.out) gb278 (Nat.le_of_eq hg.symm)) hb)
                        have n2_ := Aside0.mk (Kd.V_below (Kd.V_elderB (by (with_reducible repeat (first | apply Kd.V_alloc | apply Kd.V_drewN | apply Kd.V_drew)); exact HO276.out) gb278 (Nat.le_of_eq hg.symm)) hb)
                        have n3_ := Aside0.mk (blk_below (g := gb271) (o := .cells #[.int .i64 x272000_2, .slice Ao28 x272001_2.length co28] 24 (0, 0)) (by (with_reducible repeat (first | refine blk_drewN ?_ _ | refine blk_drew ?_ | refine blk_alloc ?_ _)); exact BK271.out) hb)
                        have n4_ := Aside0.mk (below_step (by repeat (first | (with_reducible first | exact HB.out | apply below_alloc | apply pw_below_drewN | apply below_drew1 | refine below_set ?_ GE271.out) | exact HB.out)) hb)
                        have n5_ := Aside0.mk (hbox)
                        have n6_ := Aside0.mk ((by rw [hg]; exact (below_size (by repeat (first | (with_reducible first | exact HB.out | apply below_alloc | apply pw_below_drewN | apply below_drew1 | refine below_set ?_ GE271.out) | exact HB.out))) : w.heap.size ≤ gb278))
                        have n7_ := Aside0.mk ((by rw [hg]; exact (below_size (by repeat (first | (with_reducible first | exact HB.out | apply below_alloc | apply pw_below_drewN | apply below_drew1 | refine below_set ?_ GE271.out) | exact HB.out))) : w.heap.size ≤ gb278))
                        have n8_ := Aside0.mk ((by rw [hg]; exact Nat.ne_of_lt (blk_lt (g := gb271) (o := .cells #[.int .i64 x272000_2, .slice Ao28 x272001_2.length co28] 24 (0, 0)) (by (with_reducible repeat (first | refine blk_drewN ?_ _ | refine blk_drew ?_ | refine blk_alloc ?_ _)); exact BK271.out)) : gb271 ≠ gb278))
                        have n9_ := Aside0.mk ((by rw [hg]; exact Nat.ne_of_gt (blk_lt (g := gb271) (o := .cells #[.int .i64 x272000_2, .slice Ao28 x272001_2.length co28] 24 (0, 0)) (by (with_reducible repeat (first | refine blk_drewN ?_ _ | refine blk_drew ?_ | refine blk_alloc ?_ _)); exact BK271.out)) : gb278 ≠ gb271))
                        clear HO_6
                        clear HO_272001
                        clear HO276
                        clear BK271
                        clear HB
                        have HO_6 := n0_
                        have HO_272001 := n1_
                        have HO276 := n2_
                        have BK271 := n3_
                        have HB := n4_
                        have BK278 := n5_
                        have GW278 := n6_
                        have GE278 := n7_
                        have NB271_278 := n8_
                        have NB278_271 := n9_
                        clear n0_ n1_ n2_ n3_ n4_ n5_ n6_ n7_ n8_ n9_
                        clear hb hbox hg
                        refine hK.out _ _ ⟨(blk_cell BK271.out 0).trans rfl, (blk_cell BK271.out 1).trans rfl, HS2_⟩ (fun hHeld => ?_)
                        clear hK K
                        refine norm_ (a' := ?_) ?_ ?_
                        rotate_left
                        · show Act.put _ (some 13) _ = _
                          simp only [Act.put, List.setIfInBounds_toArray, List.set_cons_zero, List.set_cons_succ, i64_w, i32_w]
                          rfl
                        exact norm_ (by simp only [putAll, Act.put, List.setIfInBounds_toArray, List.set_cons_zero, List.set_cons_succ]) (hCont (v275, gb278) _ ⟨hHeld, (by (with_reducible repeat (first | apply Kd.V_alloc | apply Kd.V_drewN | apply Kd.V_drew)); exact Kd.V_mono HO276.out (fun _ hk => ⟨hk.1.1, ⟨hk.1.2, hk.2⟩⟩)), (by (with_reducible repeat (first | apply Kd.V_alloc | apply Kd.V_drewN | apply Kd.V_drew)); exact Kd.V_mono HO_272001.out (fun _ hk => ⟨hk.1.1, ⟨hk.1.2, hk.2⟩⟩)), (by (with_reducible repeat (first | apply Kd.R_alloc | apply Kd.R_drewN | apply Kd.R_drew)); exact HO_6.out), (by (with_reducible repeat (first | refine blk_drewN ?_ _ | refine blk_drew ?_ | refine blk_alloc ?_ _)); exact BK271.out), (by (with_reducible repeat (first | refine blk_drewN ?_ _ | refine blk_drew ?_ | refine blk_alloc ?_ _)); exact BK278.out), GW278.out, GE278.out, NB271_278.out, NB278_271.out, (by repeat (first | (with_reducible first | exact HB.out | apply below_alloc | apply pw_below_drewN | apply below_drew1 | refine below_set ?_ GE271.out | refine below_set ?_ GE278.out) | exact HB.out))⟩)
                      · skip
                        refine box_step ?hg (N := 13) ?hd (cs := #[.int .i64 0, .slice none 0 0]) (t := 24) ?hr ?_; (case hd => rfl); (case hg => rfl); (case hr => first | (go_simp; done) | (go_simp; rfl))
                        intro gb278 hg w30 hbox hb
                        have HS2_ := (hb.cell (World.block_lt_of_cell? _ _ (hHeld.2.2))).trans (hHeld.2.2)
                        have n0_ := Aside0.mk (Kd.R_below (by (with_reducible repeat (first | apply Kd.R_alloc | apply Kd.R_drewN | apply Kd.R_drew)); exact HO_6.out) hb)
                        have n1_ := Aside0.mk (Kd.V_below (Kd.V_elderB (by (with_reducible repeat (first | apply Kd.V_alloc | apply Kd.V_drewN | apply Kd.V_drew)); exact HO_272001.out) gb278 (Nat.le_of_eq hg.symm)) hb)
                        have n2_ := Aside0.mk (blk_below (g := gb271) (o := .cells #[.int .i64 x272000_2, .slice Ao28 x272001_2.length co28] 24 (0, 0)) (by (with_reducible repeat (first | refine blk_drewN ?_ _ | refine blk_drew ?_ | refine blk_alloc ?_ _)); exact BK271.out) hb)
                        have n3_ := Aside0.mk (below_step (by repeat (first | (with_reducible first | exact HB.out | apply below_alloc | apply pw_below_drewN | apply below_drew1 | refine below_set ?_ GE271.out) | exact HB.out)) hb)
                        have n4_ := Aside0.mk (hbox)
                        have n5_ := Aside0.mk ((by rw [hg]; exact (below_size (by repeat (first | (with_reducible first | exact HB.out | apply below_alloc | apply pw_below_drewN | apply below_drew1 | refine below_set ?_ GE271.out) | exact HB.out))) : w.heap.size ≤ gb278))
                        have n6_ := Aside0.mk ((by rw [hg]; exact (below_size (by repeat (first | (with_reducible first | exact HB.out | apply below_alloc | apply pw_below_drewN | apply below_drew1 | refine below_set ?_ GE271.out) | exact HB.out))) : w.heap.size ≤ gb278))
                        have n7_ := Aside0.mk ((by rw [hg]; exact Nat.ne_of_lt (blk_lt (g := gb271) (o := .cells #[.int .i64 x272000_2, .slice Ao28 x272001_2.length co28] 24 (0, 0)) (by (with_reducible repeat (first | refine blk_drewN ?_ _ | refine blk_drew ?_ | refine blk_alloc ?_ _)); exact BK271.out)) : gb271 ≠ gb278))
                        have n8_ := Aside0.mk ((by rw [hg]; exact Nat.ne_of_gt (blk_lt (g := gb271) (o := .cells #[.int .i64 x272000_2, .slice Ao28 x272001_2.length co28] 24 (0, 0)) (by (with_reducible repeat (first | refine blk_drewN ?_ _ | refine blk_drew ?_ | refine blk_alloc ?_ _)); exact BK271.out)) : gb278 ≠ gb271))
                        clear HO_6
                        clear HO_272001
                        clear BK271
                        clear HB
                        have HO_6 := n0_
                        have HO_272001 := n1_
                        have BK271 := n2_
                        have HB := n3_
                        have BK278 := n4_
                        have GW278 := n5_
                        have GE278 := n6_
                        have NB271_278 := n7_
                        have NB278_271 := n8_
                        clear n0_ n1_ n2_ n3_ n4_ n5_ n6_ n7_ n8_
                        clear hb hbox hg
                        refine hK.out _ _ ⟨(blk_cell BK271.out 0).trans rfl, (blk_cell BK271.out 1).trans rfl, HS2_⟩ (fun hHeld => ?_)
                        clear hK K
                        refine norm_ (a' := ?_) ?_ ?_
                        rotate_left
                        · show Act.put _ (some 13) _ = _
                          simp only [Act.put, List.setIfInBounds_toArray, List.set_cons_zero, List.set_cons_succ, i64_w, i32_w]
                          rfl
                        refine one_ (i := 9) (N := some 75) #[true, true, true, true, true, true, true, true, true, true, false, false, false, true, false, false] rfl rfl (one_of HT_.out (by kernel_rfl)) (by decide) (fun K hK => ?_)
                        refine goes_ Try.func22 (by kernel_rfl) rfl #[.agg #[.int .i64 x272000_2, .slice Ao28 x272001_2.length co28], .int .i64 2, .int .i64 (rd x6_1 x12_2), .int .u64 (IntKind.u64.wrap (wrap64 (1 + (wrap64 (256 * x12_2)))))] (by rfl) rfl rfl (by (try simp only [List.map_toArray, List.map_cons, List.map_nil]); first | done | rfl | (simp only [List.length_drop, List.length_take]; rfl)) ?_
                        with_reducible refine (tlb_Fill.calls x272000_2 _ _ x272001_2 2 (rd x6_1 x12_2) (IntKind.u64.wrap (wrap64 (1 + (wrap64 (256 * x12_2))))) t273 t274 t277 _ ?side1 ?side2 A25.out).mono ?_
                        (case side1 => repeat (first | exact (Kd.V_reads' HO_272001.out).2.2 | (with_reducible refine Kd.C_alloc ?_ _) | (with_reducible refine Kd.C_drewN ?_ _) | (with_reducible refine Kd.C_drew ?_)))
                        (case side2 => exact (Kd.V_reads' HO_272001.out).2.1)
                        rintro e w31 ⟨v275, rfl, ho0, hb⟩
                        have HS2_ := (hb.cell (World.block_lt_of_cell? _ _ (hHeld.2.2))).trans (hHeld.2.2)
                        refine ⟨_, rfl, ?_⟩
                        have n0_ := Aside0.mk (Kd.R_below (by (with_reducible repeat (first | apply Kd.R_alloc | apply Kd.R_drewN | apply Kd.R_drew)); exact HO_6.out) hb)
                        have n1_ := Aside0.mk (Kd.V_below (by (with_reducible repeat (first | apply Kd.V_alloc | apply Kd.V_drewN | apply Kd.V_drew)); exact HO_272001.out) hb)
                        have n2_ := Aside0.mk (Kd.V_lower (Kd.V_mono (ok' := fun k_ => some k_ ≠ (.slice (some ad272) x6_1.length co27 : Value).ownBlock ∧ k_ ≠ gb271 ∧ k_ ≠ gb278) ho0 (fun k_ hk_ => ⟨(Kd.fresh' (Kd.R_lt (by (with_reducible repeat (first | apply Kd.R_alloc | apply Kd.R_drewN | apply Kd.R_drew)); exact HO_6.out)) k_ hk_), (Kd.freshB (g := gb271) (o := .cells #[.int .i64 x272000_2, .slice Ao28 x272001_2.length co28] 24 (0, 0)) (by (with_reducible repeat (first | refine blk_drewN ?_ _ | refine blk_drew ?_ | refine blk_alloc ?_ _)); exact BK271.out) k_ hk_), (Kd.freshB (g := gb278) (o := .cells #[.int .i64 0, .slice none 0 0] 24 (0, 0)) (by (with_reducible repeat (first | refine blk_drewN ?_ _ | refine blk_drew ?_ | refine blk_alloc ?_ _)); exact BK278.out) k_ hk_)⟩)) (below_size (by repeat (first | (with_reducible first | exact HB.out | apply below_alloc | apply pw_below_drewN | apply below_drew1 | refine below_set ?_ GE271.out | refine below_set ?_ GE278.out) | exact HB.out))))
                        have n3_ := Aside0.mk (blk_below (g := gb271) (o := .cells #[.int .i64 x272000_2, .slice Ao28 x272001_2.length co28] 24 (0, 0)) (by (with_reducible repeat (first | refine blk_drewN ?_ _ | refine blk_drew ?_ | refine blk_alloc ?_ _)); exact BK271.out) hb)
                        have n4_ := Aside0.mk (blk_below (g := gb278) (o := .cells #[.int .i64 0, .slice none 0 0] 24 (0, 0)) (by (with_reducible repeat (first | refine blk_drewN ?_ _ | refine blk_drew ?_ | refine blk_alloc ?_ _)); exact BK278.out) hb)
                        have n5_ := Aside0.mk (below_step (by repeat (first | (with_reducible first | exact HB.out | apply below_alloc | apply pw_below_drewN | apply below_drew1 | refine below_set ?_ GE271.out | refine below_set ?_ GE278.out) | exact HB.out)) hb)
                        clear HO_6
                        clear HO_272001
                        clear BK271
                        clear BK278
                        clear HB
                        have HO_6 := n0_
                        have HO_272001 := n1_
                        have HO276 := n2_
                        have BK271 := n3_
                        have BK278 := n4_
                        have HB := n5_
                        clear n0_ n1_ n2_ n3_ n4_ n5_
                        (try clear hb)
                        (try clear hb2)
                        (try clear hk)
                        (try clear hi)
                        (try clear ho0)
                        refine hK.out _ _ ⟨(blk_cell BK271.out 0).trans rfl, (blk_cell BK271.out 1).trans rfl, HS2_⟩ (fun hHeld => ?_)
                        clear hK K
                        refine norm_ (a' := ?_) ?_ ?_
                        rotate_left
                        · show Act.put _ (some 75) _ = _
                          simp only [Act.put, List.setIfInBounds_toArray, List.set_cons_zero, List.set_cons_succ, i64_w, i32_w]
                          rfl
                        refine pure_ (i := 10) (N := some 65) (v := ?_) (a' := ?_) #[true, true, true, true, true, true, true, true, true, true, true, false, false, true, false, false] rfl rfl (any_of HT_.out (by kernel_rfl)) (fun _ _ _ h => h) (Or.inl ⟨by rfl, ?_⟩) ?_ ?_
                        rotate_left
                        · intro w'
                          go_simp
                          with_reducible rfl
                        rotate_left
                        · simp only [Act.put, List.setIfInBounds_toArray, List.set_cons_zero, List.set_cons_succ, i64_w, i32_w]
                          rfl
                        refine pure_ (i := 11) (N := some 76) (v := ?_) (a' := ?_) #[true, true, true, true, true, true, true, true, true, true, true, true, false, true, false, false] rfl rfl (any_of HT_.out (by kernel_rfl)) (fun _ _ _ h => h) (Or.inl ⟨by rfl, ?_⟩) ?_ ?_
                        rotate_left
                        · intro w'
                          go_simp
                          with_reducible rfl
                        rotate_left
                        · simp only [Act.put, List.setIfInBounds_toArray, List.set_cons_zero, List.set_cons_succ, i64_w, i32_w]
                          rfl
                        refine pure_ (i := 12) (N := some 77) (v := ?_) (a' := ?_) #[true, true, true, true, true, true, true, true, true, true, true, true, true, true, false, false] rfl rfl (any_of HT_.out (by kernel_rfl)) (fun _ _ _ h => h) (Or.inl ⟨by rfl, ?_⟩) ?_ ?_
                        rotate_left
                        · intro w'
                          go_simp
                          with_reducible rfl
                        rotate_left
                        · simp only [Act.put, List.setIfInBounds_toArray, List.set_cons_zero, List.set_cons_succ, i64_w, i32_w]
                          rfl
                        exact norm_ (by simp only [putAll, Act.put, List.setIfInBounds_toArray, List.set_cons_zero, List.set_cons_succ]) (hCont (v275, gb278) _ ⟨hHeld, (by (with_reducible repeat (first | apply Kd.V_alloc | apply Kd.V_drewN | apply Kd.V_drew)); exact HO276.out), (by (with_reducible repeat (first | apply Kd.V_alloc | apply Kd.V_drewN | apply Kd.V_drew)); exact Kd.V_mono HO_272001.out (fun _ hk => ⟨hk.1.1, ⟨hk.1.2, hk.2⟩⟩)), (by (with_reducible repeat (first | apply Kd.R_alloc | apply Kd.R_drewN | apply Kd.R_drew)); exact HO_6.out), (by (with_reducible repeat (first | refine blk_drewN ?_ _ | refine blk_drew ?_ | refine blk_alloc ?_ _)); exact BK271.out), (by (with_reducible repeat (first | refine blk_drewN ?_ _ | refine blk_drew ?_ | refine blk_alloc ?_ _)); exact BK278.out), GW278.out, GE278.out, NB271_278.out, NB278_271.out, (by repeat (first | (with_reducible first | exact HB.out | apply below_alloc | apply pw_below_drewN | apply below_drew1 | refine below_set ?_ GE271.out | refine below_set ?_ GE278.out) | exact HB.out))⟩)
                    rintro ⟨v275, gb278⟩ w32 ⟨hS_, h0_, h1_, h2_, h3_, h4_, h5_, h6_, h7_, h8_, h9_⟩
                    have n0_ : Aside0 (Kd.V k42 42 w32 w.heap.size (fun k_ => some k_ ≠ (.slice (some ad272) x6_1.length co27 : Value).ownBlock ∧ k_ ≠ gb271 ∧ k_ ≠ gb278) v275 t274) := ⟨h0_⟩
                    have n1_ : Aside0 (Kd.V k42 42 w32 w.heap.size (fun k_ => some k_ ≠ (.slice (some ad272) x6_1.length co27 : Value).ownBlock ∧ k_ ≠ gb271 ∧ k_ ≠ gb278) (.slice Ao28 x272001_2.length co28) x272001_2) := ⟨h1_⟩
                    have n2_ : Aside0 (Kd.R (Kd.int .i64) 3 w32 w.heap.size (fun _ => True) (.slice (some ad272) x6_1.length co27) x6_1) := ⟨h2_⟩
                    have n3_ : Aside0 (w32.heap[gb271]? = some (.cells #[.int .i64 x272000_2, .slice Ao28 x272001_2.length co28] 24 (0, 0))) := ⟨h3_⟩
                    have n4_ : Aside0 (w32.heap[gb278]? = some (.cells #[.int .i64 0, .slice none 0 0] 24 (0, 0))) := ⟨h4_⟩
                    have n5_ : Aside0 (w.heap.size ≤ gb278) := ⟨h5_⟩
                    have n6_ : Aside0 (w.heap.size ≤ gb278) := ⟨h6_⟩
                    have n7_ : Aside0 (gb271 ≠ gb278) := ⟨h7_⟩
                    have n8_ : Aside0 (gb278 ≠ gb271) := ⟨h8_⟩
                    have n9_ : Aside0 (Below w.heap.size w w32) := ⟨h9_⟩
                    clear HO_6
                    clear HO_272001
                    clear BK271
                    clear HB
                    clear h0_ h1_ h2_ h3_ h4_ h5_ h6_ h7_ h8_ h9_
                    have HO276 := n0_
                    have HO_272001 := n1_
                    have HO_6 := n2_
                    have BK271 := n3_
                    have BK278 := n4_
                    have GW278 := n5_
                    have GE278 := n6_
                    have NB271_278 := n7_
                    have NB278_271 := n8_
                    have HB := n9_
                    clear n0_ n1_ n2_ n3_ n4_ n5_ n6_ n7_ n8_ n9_
                    have hHeld : w32.cell? ⟨gb271, 0, none⟩ = some (.int .i64 x272000_2) ∧ w32.cell? ⟨gb271, 1, none⟩ = some (.slice Ao28 x272001_2.length co28) ∧ w32.cell? (ad272.add (x12_2).toNat) = some (.int .i64 (rd x6_1 x12_2)) := hS_
                    obtain ⟨Ao34, co34, eo34⟩ := Kd.V_slice HO276.out
                    (first | subst eo34 | (injection eo34 with f1_ f2_ f3_; have f4_ := f1_.symm; have f5_ := f3_.symm; clear f1_ f2_ f3_; subst f4_; subst f5_))
                    refine norm_ (a' := ?_) ?_ ?_
                    rotate_left
                    · simp only [putAll, Act.put, List.setIfInBounds_toArray, List.set_cons_zero, List.set_cons_succ]
                      rfl
                    refine one_ (i := 14) (N := none) #[true, true, true, true, true, true, true, true, true, true, true, true, true, true, true, false] rfl rfl (one_of HT_.out (by kernel_rfl)) (by decide) (fun K hK => ?_)
                    have hs33 : w32.cell? ⟨gb278, 0, none⟩ = some (.int .i64 0) := (blk_cell BK278.out 0).trans rfl
                    have hfs33 := blk_frozen BK278.out 0
                    have hns33_0 := NB271_278.out
                    have hms33_0 := NB278_271.out
                    have hs35 : w32.cell? ⟨gb278, 1, none⟩ = some (.slice none 0 0) := (blk_cell BK278.out 1).trans rfl
                    have hfs35 := blk_frozen BK278.out 1
                    have hns35_0 := NB271_278.out
                    have hms35_0 := NB278_271.out
                    refine skip_ (w1 := ?_) (by rfl) rfl ?_ ?_
                    rotate_left
                    · go_simp
                      rfl
                    refine hK.out _ _ ⟨((cell_far (p := ⟨gb278, _, none⟩) NB271_278.out _).trans (((cell_far (p := ⟨gb278, _, none⟩) NB271_278.out _).trans (hHeld.1)))), ((cell_far (p := ⟨gb278, _, none⟩) NB271_278.out _).trans (((cell_far (p := ⟨gb278, _, none⟩) NB271_278.out _).trans (hHeld.2.1)))), ((cell_far (p := ⟨gb278, _, none⟩) (by first | exact Kd.own_blk (Kd.R_ne HO_6.out BK278.out (by decide)) | (rw [add_block]; exact Kd.own_blk (Kd.R_ne HO_6.out BK278.out (by decide))) | (show (Addr.add _ _).block ≠ _; rw [add_block]; exact Kd.own_blk (Kd.R_ne HO_6.out BK278.out (by decide))) | (dsimp only; exact Kd.own_blk (Kd.R_ne HO_6.out BK278.out (by decide)))) _).trans (((cell_far (p := ⟨gb278, _, none⟩) (by first | exact Kd.own_blk (Kd.R_ne HO_6.out BK278.out (by decide)) | (rw [add_block]; exact Kd.own_blk (Kd.R_ne HO_6.out BK278.out (by decide))) | (show (Addr.add _ _).block ≠ _; rw [add_block]; exact Kd.own_blk (Kd.R_ne HO_6.out BK278.out (by decide))) | (dsimp only; exact Kd.own_blk (Kd.R_ne HO_6.out BK278.out (by decide)))) _).trans (hHeld.2.2))))⟩ (fun hHeld => ?_)
                    clear hK K
                    refine pure_ (i := 15) (N := some 14) (v := ?_) (a' := ?_) #[true, true, true, true, true, true, true, true, true, true, true, true, true, true, true, true] rfl rfl (any_of HT_.out (by kernel_rfl)) (fun _ _ _ h => h) (Or.inl ⟨by rfl, ?_⟩) ?_ ?_
                    rotate_left
                    · intro w'
                      go_simp
                      with_reducible rfl
                    rotate_left
                    · simp only [Act.put, List.setIfInBounds_toArray, List.set_cons_zero, List.set_cons_succ, i64_w, i32_w]
                      rfl
                    refine done_ (done_of HT_.out (by kernel_rfl)) ?_
                    have hnb36 := NB278_271.out
                    have hnc36 := NB271_278.out
                    have hcz37_0 : w32.cell? ⟨gb278, 0, none⟩ = some (.int .i64 0) := (blk_cell BK278.out 0).trans rfl
                    have hcz37_1 : w32.cell? ⟨gb278, 1, none⟩ = some (.slice none 0 0) := (blk_cell BK278.out 1).trans rfl
                    have hfz37_0 := blk_frozen BK278.out 0
                    have hfz37_1 := blk_frozen BK278.out 1
                    have hcz38_0 : w32.cell? ⟨gb271, 0, none⟩ = some (.int .i64 x272000_2) := (blk_cell BK271.out 0).trans rfl
                    have hcz38_1 : w32.cell? ⟨gb271, 1, none⟩ = some (.slice Ao28 x272001_2.length co28) := (blk_cell BK271.out 1).trans rfl
                    have hfz38_0 := blk_frozen BK271.out 0
                    have hfz38_1 := blk_frozen BK271.out 1
                    try go_wp2
                    go_roundg k2
                    case measure => have := HK1.out; have := HK2.out; omega
                    case rel => exact ⟨(wrap64 (x12_2 + 1)), (t273), (t274), (.slice Ao34 t274.length co34), (by first | rfl | (simp; done) | (simp [*]; done)), H', ⟨by have := HK1.out; have := HK2.out; omega⟩, ⟨by (with_reducible repeat (first | apply Kd.R_alloc | apply Kd.R_drewN | apply Kd.R_drew)); exact Kd.R_mono (Kd.R_far (p := ⟨gb271, 1, none⟩) (Kd.R_far (p := ⟨gb271, 0, none⟩) (Kd.R_far (p := ⟨gb278, 1, none⟩) (Kd.R_far (p := ⟨gb278, 0, none⟩) (Kd.R_types (Kd.R_types HO_6.out BK278.out (by decide)) BK271.out (by decide)) (fun _ hk => hk.1.2) (.int .i64 t273)) (fun _ hk => hk.1.2) (.slice Ao34 t274.length co34)) (fun _ hk => hk.2) (.int .i64 t273)) (fun _ hk => hk.2) (.slice Ao34 t274.length co34)) (fun _ hk => trivial)⟩, ⟨by (with_reducible repeat (first | apply Kd.V_alloc | apply Kd.V_drewN | apply Kd.V_drew)); exact Kd.V_mono (Kd.V_far (p := ⟨gb271, 1, none⟩) (Kd.V_far (p := ⟨gb271, 0, none⟩) (Kd.V_far (p := ⟨gb278, 1, none⟩) (Kd.V_far (p := ⟨gb278, 0, none⟩) (Kd.V_mono (Kd.V_mono HO276.out (fun k_ hk => (⟨hk, hk.2.2⟩ : _ ∧ k_ ≠ gb278))) (fun k_ hk => (⟨hk, hk.1.2.1⟩ : _ ∧ k_ ≠ gb271))) (fun _ hk => hk.1.2) (.int .i64 t273)) (fun _ hk => hk.1.2) (.slice Ao34 t274.length co34)) (fun _ hk => hk.2) (.int .i64 t273)) (fun _ hk => hk.2) (.slice Ao34 t274.length co34)) (fun _ hk => ⟨hk.1.1.1, hk.1.1.2.1⟩)⟩, ⟨by (with_reducible repeat (first | refine blk_drewN ?_ _ | refine blk_drew ?_ | refine blk_alloc ?_ _)); refine blk_put (cs := #[.int .i64 t273, .slice Ao28 x272001_2.length co28]) ?_ 1 _ rfl; (with_reducible repeat (first | refine blk_drewN ?_ _ | refine blk_drew ?_ | refine blk_alloc ?_ _)); refine blk_put (cs := #[.int .i64 x272000_2, .slice Ao28 x272001_2.length co28]) ?_ 0 _ rfl; (with_reducible repeat (first | refine blk_drewN ?_ _ | refine blk_drew ?_ | refine blk_alloc ?_ _)); refine blk_far ?_ NB271_278.out _; (with_reducible repeat (first | refine blk_drewN ?_ _ | refine blk_drew ?_ | refine blk_alloc ?_ _)); refine blk_far ?_ NB271_278.out _; (with_reducible repeat (first | refine blk_drewN ?_ _ | refine blk_drew ?_ | refine blk_alloc ?_ _)); exact BK271.out⟩, ⟨by repeat (first | (with_reducible first | exact HB.out | apply below_alloc | apply pw_below_drewN | apply below_drew1 | refine below_set ?_ GE271.out | refine below_set ?_ GE278.out) | exact HB.out)⟩⟩
                  · rw [if_neg c26] at H
                    have c26b0 : (t277 == 0) = false := beq_eq_false_iff_ne.mpr c26
                    have c26b1 : (t277 != 0) = true := bne_iff_ne.mpr c26
                    obtain rfl := Option.some.inj H
                    obtain ⟨Ao39, co39, eo39⟩ := Kd.R_slice HO_6.out
                    subst eo39
                    obtain ⟨Ao40, co40, eo40⟩ := Kd.V_slice HO_272001.out
                    subst eo40
                    try go_wp2
                    have n0_ := Aside0.mk (Kd.R_drew HO_6.out)
                    have n1_ := Aside0.mk (Kd.V_drew HO_272001.out)
                    have n2_ := Aside0.mk (blk_drew BK271.out)
                    have n3_ := Aside0.mk (below_drew1 HB.out)
                    clear HO_6
                    clear HO_272001
                    clear BK271
                    clear HB
                    have HO_6 := n0_
                    have HO_272001 := n1_
                    have BK271 := n2_
                    have HB := n3_
                    clear n0_ n1_ n2_ n3_
                    have p272 : 0 ≤ (x12_2 : Int) := of_decide_eq_true (by first | (with_reducible assumption) | assumption)
                    have q272 : x12_2 < (x6_1.length : Int) := of_decide_eq_true (by first | (with_reducible assumption) | assumption)
                    obtain ⟨ad272, e272, hx272_0⟩ := Kd.at_int (Kd.R_reads' HO_6.out).2.2 x12_2 p272 q272
                    cases e272
                    replace p272 := eq_true p272
                    replace q272 := eq_true q272
                    refine start_ (n := 16) (S := fun w' => w'.cell? ⟨gb271, 0, none⟩ = some (.int .i64 x272000_2) ∧ w'.cell? ⟨gb271, 1, none⟩ = some (.slice Ao40 x272001_2.length co40) ∧ w'.cell? (ad272.add (x12_2).toNat) = some (.int .i64 (rd x6_1 x12_2))) (ds := []) #[false, false, false, false, false, false, false, false, false, false, false, false, false, false, false, false] (by kernel_rfl) rfl rfl ⟨(blk_cell BK271.out 0).trans rfl, (blk_cell BK271.out 1).trans rfl, hx272_0⟩ (fun hHeld => ?_); refine with_tabW estoverslaw07_TlbFifo.tab19 estoverslaw07_TlbFifo.bits19 (fun HT_ HW_ => ?_)
                    generalize wr.drew = w41 at HO_6 HO_272001 BK271 HB hx272_0 hHeld ⊢
                    refine pure_ (i := 1) (N := some 67) (v := ?_) (a' := ?_) #[false, true, false, false, false, false, false, false, false, false, false, false, false, false, false, false] rfl rfl (any_of HT_.out (by kernel_rfl)) (fun _ _ _ h => h) (Or.inl ⟨by rfl, ?_⟩) ?_ ?_
                    rotate_left
                    · intro w'
                      go_simp
                      with_reducible rfl
                    rotate_left
                    · simp only [Act.put, List.setIfInBounds_toArray, List.set_cons_zero, List.set_cons_succ, i64_w, i32_w]
                      rfl
                    refine pure_ (i := 2) (N := some 68) (v := ?_) (a' := ?_) #[false, true, true, false, false, false, false, false, false, false, false, false, false, false, false, false] rfl rfl (any_of HT_.out (by kernel_rfl)) (fun _ _ _ h => h) (Or.inl ⟨by rfl, ?_⟩) ?_ ?_
                    rotate_left
                    · intro w'
                      go_simp
                      with_reducible rfl
                    rotate_left
                    · simp only [Act.put, List.setIfInBounds_toArray, List.set_cons_zero, List.set_cons_succ, i64_w, i32_w]
                      rfl
                    refine pure_ (i := 3) (N := some 69) (v := ?_) (a' := ?_) #[false, true, true, true, false, false, false, false, false, false, false, false, false, false, false, false] rfl rfl (any_of HT_.out (by kernel_rfl)) (fun _ _ _ h => h) (Or.inl ⟨by rfl, ?_⟩) ?_ ?_
                    rotate_left
                    · intro w'
                      go_simp
                      with_reducible rfl
                    rotate_left
                    · simp only [Act.put, List.setIfInBounds_toArray, List.set_cons_zero, List.set_cons_succ, i64_w, i32_w]
                      rfl
                    refine pure_ (i := 5) (N := some 71) (v := ?_) (a' := ?_) #[false, true, true, true, false, true, false, false, false, false, false, false, false, false, false, false] rfl rfl (any_of HT_.out (by kernel_rfl)) (fun _ _ _ h => h) (Or.inl ⟨by rfl, ?_⟩) ?_ ?_
                    rotate_left
                    · intro w'
                      go_simp
                      with_reducible rfl
                    rotate_left
                    · simp only [Act.put, List.setIfInBounds_toArray, List.set_cons_zero, List.set_cons_succ, i64_w, i32_w]
                      rfl
                    refine pure_ (i := 6) (N := some 72) (v := ?_) (a' := ?_) #[false, true, true, true, false, true, true, false, false, false, false, false, false, false, false, false] rfl rfl (any_of HT_.out (by kernel_rfl)) (fun _ _ _ h => h) (Or.inl ⟨by rfl, ?_⟩) ?_ ?_
                    rotate_left
                    · intro w'
                      go_simp
                      with_reducible rfl
                    rotate_left
                    · simp only [Act.put, List.setIfInBounds_toArray, List.set_cons_zero, List.set_cons_succ, i64_w, i32_w]
                      rfl
                    refine pure_ (i := 7) (N := some 73) (v := ?_) (a' := ?_) #[false, true, true, true, false, true, true, true, false, false, false, false, false, false, false, false] rfl rfl (any_of HT_.out (by kernel_rfl)) (fun _ _ _ h => h) (Or.inl ⟨by rfl, ?_⟩) ?_ ?_
                    rotate_left
                    · intro w'
                      go_simp
                      with_reducible rfl
                    rotate_left
                    · simp only [Act.put, List.setIfInBounds_toArray, List.set_cons_zero, List.set_cons_succ, i64_w, i32_w]
                      rfl
                    refine pure_ (i := 8) (N := some 74) (v := ?_) (a' := ?_) #[false, true, true, true, false, true, true, true, true, false, false, false, false, false, false, false] rfl rfl (any_of HT_.out (by kernel_rfl)) (fun _ _ _ h => h) (Or.inl ⟨by rfl, ?_⟩) ?_ ?_
                    rotate_left
                    · intro w'
                      go_simp
                      with_reducible rfl
                    rotate_left
                    · simp only [Act.put, List.setIfInBounds_toArray, List.set_cons_zero, List.set_cons_succ, i64_w, i32_w]
                      rfl
                    refine take_ (i := 0) (N := some 66) (v := ?_) (a' := ?_) #[true, true, true, true, false, true, true, true, true, false, false, false, false, false, false, false] rfl rfl (take_ofW HT_.out HW_.out (by kernel_rfl)) (fun _ _ _ h => h) (Or.inl ⟨by rfl, ?_⟩) hHeld ?_ ?_
                    rotate_left
                    · rintro w' ⟨s0, s1, s2⟩
                      go_simp
                      with_reducible rfl
                    rotate_left
                    · simp only [Act.put, List.setIfInBounds_toArray, List.set_cons_zero, List.set_cons_succ, i64_w, i32_w]
                      rfl
                    refine take_ (i := 4) (N := some 70) (v := ?_) (a' := ?_) #[true, true, true, true, true, true, true, true, true, false, false, false, false, false, false, false] rfl rfl (take_ofW HT_.out HW_.out (by kernel_rfl)) (fun _ _ _ h => h) (Or.inl ⟨by rfl, ?_⟩) hHeld ?_ ?_
                    rotate_left
                    · rintro w' ⟨s0, s1, s2⟩
                      go_simp
                      with_reducible rfl
                    rotate_left
                    · simp only [Act.put, List.setIfInBounds_toArray, List.set_cons_zero, List.set_cons_succ, i64_w, i32_w]
                      rfl
                    refine join_ (σ := Value × Nat) 2 #[true, true, true, true, true, true, true, true, true, true, true, true, true, true, false, false] (fun s_ => [(75, .tuple #[.agg #[.int .i64 t273, s_.1], .int .i64 t277]), (13, .pointer (some ⟨s_.2, 0, none⟩)), (65, .tuple #[.agg #[.int .i64 t273, s_.1], .int .i64 t277]), (76, .agg #[.int .i64 t273, s_.1]), (77, .int .i64 t277)]) (fun s_ w' => (w'.cell? ⟨gb271, 0, none⟩ = some (.int .i64 x272000_2) ∧ w'.cell? ⟨gb271, 1, none⟩ = some (.slice Ao40 x272001_2.length co40) ∧ w'.cell? (ad272.add (x12_2).toNat) = some (.int .i64 (rd x6_1 x12_2))) ∧ (Kd.V k42 42 w' w.heap.size (fun k_ => some k_ ≠ (.slice (some ad272) x6_1.length co39 : Value).ownBlock ∧ k_ ≠ gb271 ∧ k_ ≠ s_.2) s_.1 t274) ∧ (Kd.V k42 42 w' w.heap.size (fun k_ => some k_ ≠ (.slice (some ad272) x6_1.length co39 : Value).ownBlock ∧ k_ ≠ gb271 ∧ k_ ≠ s_.2) (.slice Ao40 x272001_2.length co40) x272001_2) ∧ (Kd.R (Kd.int .i64) 3 w' w.heap.size (fun _ => True) (.slice (some ad272) x6_1.length co39) x6_1) ∧ (w'.heap[gb271]? = some (.cells #[.int .i64 x272000_2, .slice Ao40 x272001_2.length co40] 24 (0, 0))) ∧ (w'.heap[s_.2]? = some (.cells #[.int .i64 0, .slice none 0 0] 24 (0, 0))) ∧ (w.heap.size ≤ s_.2) ∧ (w.heap.size ≤ s_.2) ∧ (gb271 ≠ s_.2) ∧ (s_.2 ≠ gb271) ∧ (Below w.heap.size w w')) ?_ ?_
                    rotate_left
                    · intro hCont
                      refine two_ (i := 9) (j := 13) (Ni := some 75) (Nj := some 13) #[true, true, true, true, true, true, true, true, true, true, false, false, false, false, false, false] #[true, true, true, true, true, true, true, true, true, false, false, false, false, true, false, false] rfl rfl rfl rfl (two_of HT_.out (by kernel_rfl)) (by decide) (by decide) (fun K hK => ?_) (fun K hK => ?_)
                      · skip
                        refine goes_ Try.func22 (by kernel_rfl) rfl #[.agg #[.int .i64 x272000_2, .slice Ao40 x272001_2.length co40], .int .i64 2, .int .i64 (rd x6_1 x12_2), .int .u64 (IntKind.u64.wrap (wrap64 (1 + (wrap64 (256 * x12_2)))))] (by rfl) rfl rfl (by (try simp only [List.map_toArray, List.map_cons, List.map_nil]); first | done | rfl | (simp only [List.length_drop, List.length_take]; rfl)) ?_
                        with_reducible refine (tlb_Fill.calls x272000_2 _ _ x272001_2 2 (rd x6_1 x12_2) (IntKind.u64.wrap (wrap64 (1 + (wrap64 (256 * x12_2))))) t273 t274 t277 _ ?side1 ?side2 A25.out).mono ?_
                        (case side1 => repeat (first | exact (Kd.V_reads' HO_272001.out).2.2 | (with_reducible refine Kd.C_alloc ?_ _) | (with_reducible refine Kd.C_drewN ?_ _) | (with_reducible refine Kd.C_drew ?_)))
                        (case side2 => exact (Kd.V_reads' HO_272001.out).2.1)
                        rintro e w42 ⟨v275, rfl, ho0, hb⟩
                        have HS2_ := (hb.cell (World.block_lt_of_cell? _ _ (hHeld.2.2))).trans (hHeld.2.2)
                        refine ⟨_, rfl, ?_⟩
                        have n0_ := Aside0.mk (Kd.R_below (by (with_reducible repeat (first | apply Kd.R_alloc | apply Kd.R_drewN | apply Kd.R_drew)); exact HO_6.out) hb)
                        have n1_ := Aside0.mk (Kd.V_below (by (with_reducible repeat (first | apply Kd.V_alloc | apply Kd.V_drewN | apply Kd.V_drew)); exact HO_272001.out) hb)
                        have n2_ := Aside0.mk (Kd.V_lower (Kd.V_mono (ok' := fun k_ => some k_ ≠ (.slice (some ad272) x6_1.length co39 : Value).ownBlock ∧ k_ ≠ gb271) ho0 (fun k_ hk_ => ⟨(Kd.fresh' (Kd.R_lt (by (with_reducible repeat (first | apply Kd.R_alloc | apply Kd.R_drewN | apply Kd.R_drew)); exact HO_6.out)) k_ hk_), (Kd.freshB (g := gb271) (o := .cells #[.int .i64 x272000_2, .slice Ao40 x272001_2.length co40] 24 (0, 0)) (by (with_reducible repeat (first | refine blk_drewN ?_ _ | refine blk_drew ?_ | refine blk_alloc ?_ _)); exact BK271.out) k_ hk_)⟩)) (below_size (by repeat (first | (with_reducible first | exact HB.out | apply below_alloc | apply pw_below_drewN | apply below_drew1 | refine below_set ?_ GE271.out) | exact HB.out))))
                        have n3_ := Aside0.mk (blk_below (g := gb271) (o := .cells #[.int .i64 x272000_2, .slice Ao40 x272001_2.length co40] 24 (0, 0)) (by (with_reducible repeat (first | refine blk_drewN ?_ _ | refine blk_drew ?_ | refine blk_alloc ?_ _)); exact BK271.out) hb)
                        have n4_ := Aside0.mk (below_step (by repeat (first | (with_reducible first | exact HB.out | apply below_alloc | apply pw_below_drewN | apply below_drew1 | refine below_set ?_ GE271.out) | exact HB.out)) hb)
                        clear HO_6
                        clear HO_272001
                        clear BK271
                        clear HB
                        have HO_6 := n0_
                        have HO_272001 := n1_
                        have HO276 := n2_
                        have BK271 := n3_
                        have HB := n4_
                        clear n0_ n1_ n2_ n3_ n4_
                        (try clear hb)
                        (try clear hb2)
                        (try clear hk)
                        (try clear hi)
                        (try clear ho0)
                        refine hK.out _ _ ⟨(blk_cell BK271.out 0).trans rfl, (blk_cell BK271.out 1).trans rfl, HS2_⟩ (fun hHeld => ?_)
                        clear hK K
                        refine norm_ (a' := ?_) ?_ ?_
                        rotate_left
                        · show Act.put _ (some 75) _ = _
                          simp only [Act.put, List.setIfInBounds_toArray, List.set_cons_zero, List.set_cons_succ, i64_w, i32_w]
                          rfl
                        refine pure_ (i := 10) (N := some 65) (v := ?_) (a' := ?_) #[true, true, true, true, true, true, true, true, true, true, true, false, false, false, false, false] rfl rfl (any_of HT_.out (by kernel_rfl)) (fun _ _ _ h => h) (Or.inl ⟨by rfl, ?_⟩) ?_ ?_
                        rotate_left
                        · intro w'
                          go_simp
                          with_reducible rfl
                        rotate_left
                        · simp only [Act.put, List.setIfInBounds_toArray, List.set_cons_zero, List.set_cons_succ, i64_w, i32_w]
                          rfl
                        refine pure_ (i := 11) (N := some 76) (v := ?_) (a' := ?_) #[true, true, true, true, true, true, true, true, true, true, true, true, false, false, false, false] rfl rfl (any_of HT_.out (by kernel_rfl)) (fun _ _ _ h => h) (Or.inl ⟨by rfl, ?_⟩) ?_ ?_
                        rotate_left
                        · intro w'
                          go_simp
                          with_reducible rfl
                        rotate_left
                        · simp only [Act.put, List.setIfInBounds_toArray, List.set_cons_zero, List.set_cons_succ, i64_w, i32_w]
                          rfl
                        refine pure_ (i := 12) (N := some 77) (v := ?_) (a' := ?_) #[true, true, true, true, true, true, true, true, true, true, true, true, true, false, false, false] rfl rfl (any_of HT_.out (by kernel_rfl)) (fun _ _ _ h => h) (Or.inl ⟨by rfl, ?_⟩) ?_ ?_
                        rotate_left
                        · intro w'
                          go_simp
                          with_reducible rfl
                        rotate_left
                        · simp only [Act.put, List.setIfInBounds_toArray, List.set_cons_zero, List.set_cons_succ, i64_w, i32_w]
                          rfl
                        refine one_ (i := 13) (N := some 13) #[true, true, true, true, true, true, true, true, true, true, true, true, true, true, false, false] rfl rfl (one_of HT_.out (by kernel_rfl)) (by decide) (fun K hK => ?_)
                        refine box_step ?hg (N := 13) ?hd (cs := #[.int .i64 0, .slice none 0 0]) (t := 24) ?hr ?_; (case hd => rfl); (case hg => rfl); (case hr => first | (go_simp; done) | (go_simp; rfl))
                        intro gb278 hg w43 hbox hb
                        have HS2_ := (hb.cell (World.block_lt_of_cell? _ _ (hHeld.2.2))).trans (hHeld.2.2)
                        have n0_ := Aside0.mk (Kd.R_below (by (with_reducible repeat (first | apply Kd.R_alloc | apply Kd.R_drewN | apply Kd.R_drew)); exact HO_6.out) hb)
                        have n1_ := Aside0.mk (Kd.V_below (Kd.V_elderB (by (with_reducible repeat (first | apply Kd.V_alloc | apply Kd.V_drewN | apply Kd.V_drew)); exact HO_272001.out) gb278 (Nat.le_of_eq hg.symm)) hb)
                        have n2_ := Aside0.mk (Kd.V_below (Kd.V_elderB (by (with_reducible repeat (first | apply Kd.V_alloc | apply Kd.V_drewN | apply Kd.V_drew)); exact HO276.out) gb278 (Nat.le_of_eq hg.symm)) hb)
                        have n3_ := Aside0.mk (blk_below (g := gb271) (o := .cells #[.int .i64 x272000_2, .slice Ao40 x272001_2.length co40] 24 (0, 0)) (by (with_reducible repeat (first | refine blk_drewN ?_ _ | refine blk_drew ?_ | refine blk_alloc ?_ _)); exact BK271.out) hb)
                        have n4_ := Aside0.mk (below_step (by repeat (first | (with_reducible first | exact HB.out | apply below_alloc | apply pw_below_drewN | apply below_drew1 | refine below_set ?_ GE271.out) | exact HB.out)) hb)
                        have n5_ := Aside0.mk (hbox)
                        have n6_ := Aside0.mk ((by rw [hg]; exact (below_size (by repeat (first | (with_reducible first | exact HB.out | apply below_alloc | apply pw_below_drewN | apply below_drew1 | refine below_set ?_ GE271.out) | exact HB.out))) : w.heap.size ≤ gb278))
                        have n7_ := Aside0.mk ((by rw [hg]; exact (below_size (by repeat (first | (with_reducible first | exact HB.out | apply below_alloc | apply pw_below_drewN | apply below_drew1 | refine below_set ?_ GE271.out) | exact HB.out))) : w.heap.size ≤ gb278))
                        have n8_ := Aside0.mk ((by rw [hg]; exact Nat.ne_of_lt (blk_lt (g := gb271) (o := .cells #[.int .i64 x272000_2, .slice Ao40 x272001_2.length co40] 24 (0, 0)) (by (with_reducible repeat (first | refine blk_drewN ?_ _ | refine blk_drew ?_ | refine blk_alloc ?_ _)); exact BK271.out)) : gb271 ≠ gb278))
                        have n9_ := Aside0.mk ((by rw [hg]; exact Nat.ne_of_gt (blk_lt (g := gb271) (o := .cells #[.int .i64 x272000_2, .slice Ao40 x272001_2.length co40] 24 (0, 0)) (by (with_reducible repeat (first | refine blk_drewN ?_ _ | refine blk_drew ?_ | refine blk_alloc ?_ _)); exact BK271.out)) : gb278 ≠ gb271))
                        clear HO_6
                        clear HO_272001
                        clear HO276
                        clear BK271
                        clear HB
                        have HO_6 := n0_
                        have HO_272001 := n1_
                        have HO276 := n2_
                        have BK271 := n3_
                        have HB := n4_
                        have BK278 := n5_
                        have GW278 := n6_
                        have GE278 := n7_
                        have NB271_278 := n8_
                        have NB278_271 := n9_
                        clear n0_ n1_ n2_ n3_ n4_ n5_ n6_ n7_ n8_ n9_
                        clear hb hbox hg
                        refine hK.out _ _ ⟨(blk_cell BK271.out 0).trans rfl, (blk_cell BK271.out 1).trans rfl, HS2_⟩ (fun hHeld => ?_)
                        clear hK K
                        refine norm_ (a' := ?_) ?_ ?_
                        rotate_left
                        · show Act.put _ (some 13) _ = _
                          simp only [Act.put, List.setIfInBounds_toArray, List.set_cons_zero, List.set_cons_succ, i64_w, i32_w]
                          rfl
                        exact norm_ (by simp only [putAll, Act.put, List.setIfInBounds_toArray, List.set_cons_zero, List.set_cons_succ]) (hCont (v275, gb278) _ ⟨hHeld, (by (with_reducible repeat (first | apply Kd.V_alloc | apply Kd.V_drewN | apply Kd.V_drew)); exact Kd.V_mono HO276.out (fun _ hk => ⟨hk.1.1, ⟨hk.1.2, hk.2⟩⟩)), (by (with_reducible repeat (first | apply Kd.V_alloc | apply Kd.V_drewN | apply Kd.V_drew)); exact Kd.V_mono HO_272001.out (fun _ hk => ⟨hk.1.1, ⟨hk.1.2, hk.2⟩⟩)), (by (with_reducible repeat (first | apply Kd.R_alloc | apply Kd.R_drewN | apply Kd.R_drew)); exact HO_6.out), (by (with_reducible repeat (first | refine blk_drewN ?_ _ | refine blk_drew ?_ | refine blk_alloc ?_ _)); exact BK271.out), (by (with_reducible repeat (first | refine blk_drewN ?_ _ | refine blk_drew ?_ | refine blk_alloc ?_ _)); exact BK278.out), GW278.out, GE278.out, NB271_278.out, NB278_271.out, (by repeat (first | (with_reducible first | exact HB.out | apply below_alloc | apply pw_below_drewN | apply below_drew1 | refine below_set ?_ GE271.out | refine below_set ?_ GE278.out) | exact HB.out))⟩)
                      · skip
                        refine box_step ?hg (N := 13) ?hd (cs := #[.int .i64 0, .slice none 0 0]) (t := 24) ?hr ?_; (case hd => rfl); (case hg => rfl); (case hr => first | (go_simp; done) | (go_simp; rfl))
                        intro gb278 hg w42 hbox hb
                        have HS2_ := (hb.cell (World.block_lt_of_cell? _ _ (hHeld.2.2))).trans (hHeld.2.2)
                        have n0_ := Aside0.mk (Kd.R_below (by (with_reducible repeat (first | apply Kd.R_alloc | apply Kd.R_drewN | apply Kd.R_drew)); exact HO_6.out) hb)
                        have n1_ := Aside0.mk (Kd.V_below (Kd.V_elderB (by (with_reducible repeat (first | apply Kd.V_alloc | apply Kd.V_drewN | apply Kd.V_drew)); exact HO_272001.out) gb278 (Nat.le_of_eq hg.symm)) hb)
                        have n2_ := Aside0.mk (blk_below (g := gb271) (o := .cells #[.int .i64 x272000_2, .slice Ao40 x272001_2.length co40] 24 (0, 0)) (by (with_reducible repeat (first | refine blk_drewN ?_ _ | refine blk_drew ?_ | refine blk_alloc ?_ _)); exact BK271.out) hb)
                        have n3_ := Aside0.mk (below_step (by repeat (first | (with_reducible first | exact HB.out | apply below_alloc | apply pw_below_drewN | apply below_drew1 | refine below_set ?_ GE271.out) | exact HB.out)) hb)
                        have n4_ := Aside0.mk (hbox)
                        have n5_ := Aside0.mk ((by rw [hg]; exact (below_size (by repeat (first | (with_reducible first | exact HB.out | apply below_alloc | apply pw_below_drewN | apply below_drew1 | refine below_set ?_ GE271.out) | exact HB.out))) : w.heap.size ≤ gb278))
                        have n6_ := Aside0.mk ((by rw [hg]; exact (below_size (by repeat (first | (with_reducible first | exact HB.out | apply below_alloc | apply pw_below_drewN | apply below_drew1 | refine below_set ?_ GE271.out) | exact HB.out))) : w.heap.size ≤ gb278))
                        have n7_ := Aside0.mk ((by rw [hg]; exact Nat.ne_of_lt (blk_lt (g := gb271) (o := .cells #[.int .i64 x272000_2, .slice Ao40 x272001_2.length co40] 24 (0, 0)) (by (with_reducible repeat (first | refine blk_drewN ?_ _ | refine blk_drew ?_ | refine blk_alloc ?_ _)); exact BK271.out)) : gb271 ≠ gb278))
                        have n8_ := Aside0.mk ((by rw [hg]; exact Nat.ne_of_gt (blk_lt (g := gb271) (o := .cells #[.int .i64 x272000_2, .slice Ao40 x272001_2.length co40] 24 (0, 0)) (by (with_reducible repeat (first | refine blk_drewN ?_ _ | refine blk_drew ?_ | refine blk_alloc ?_ _)); exact BK271.out)) : gb278 ≠ gb271))
                        clear HO_6
                        clear HO_272001
                        clear BK271
                        clear HB
                        have HO_6 := n0_
                        have HO_272001 := n1_
                        have BK271 := n2_
                        have HB := n3_
                        have BK278 := n4_
                        have GW278 := n5_
                        have GE278 := n6_
                        have NB271_278 := n7_
                        have NB278_271 := n8_
                        clear n0_ n1_ n2_ n3_ n4_ n5_ n6_ n7_ n8_
                        clear hb hbox hg
                        refine hK.out _ _ ⟨(blk_cell BK271.out 0).trans rfl, (blk_cell BK271.out 1).trans rfl, HS2_⟩ (fun hHeld => ?_)
                        clear hK K
                        refine norm_ (a' := ?_) ?_ ?_
                        rotate_left
                        · show Act.put _ (some 13) _ = _
                          simp only [Act.put, List.setIfInBounds_toArray, List.set_cons_zero, List.set_cons_succ, i64_w, i32_w]
                          rfl
                        refine one_ (i := 9) (N := some 75) #[true, true, true, true, true, true, true, true, true, true, false, false, false, true, false, false] rfl rfl (one_of HT_.out (by kernel_rfl)) (by decide) (fun K hK => ?_)
                        refine goes_ Try.func22 (by kernel_rfl) rfl #[.agg #[.int .i64 x272000_2, .slice Ao40 x272001_2.length co40], .int .i64 2, .int .i64 (rd x6_1 x12_2), .int .u64 (IntKind.u64.wrap (wrap64 (1 + (wrap64 (256 * x12_2)))))] (by rfl) rfl rfl (by (try simp only [List.map_toArray, List.map_cons, List.map_nil]); first | done | rfl | (simp only [List.length_drop, List.length_take]; rfl)) ?_
                        with_reducible refine (tlb_Fill.calls x272000_2 _ _ x272001_2 2 (rd x6_1 x12_2) (IntKind.u64.wrap (wrap64 (1 + (wrap64 (256 * x12_2))))) t273 t274 t277 _ ?side1 ?side2 A25.out).mono ?_
                        (case side1 => repeat (first | exact (Kd.V_reads' HO_272001.out).2.2 | (with_reducible refine Kd.C_alloc ?_ _) | (with_reducible refine Kd.C_drewN ?_ _) | (with_reducible refine Kd.C_drew ?_)))
                        (case side2 => exact (Kd.V_reads' HO_272001.out).2.1)
                        rintro e w43 ⟨v275, rfl, ho0, hb⟩
                        have HS2_ := (hb.cell (World.block_lt_of_cell? _ _ (hHeld.2.2))).trans (hHeld.2.2)
                        refine ⟨_, rfl, ?_⟩
                        have n0_ := Aside0.mk (Kd.R_below (by (with_reducible repeat (first | apply Kd.R_alloc | apply Kd.R_drewN | apply Kd.R_drew)); exact HO_6.out) hb)
                        have n1_ := Aside0.mk (Kd.V_below (by (with_reducible repeat (first | apply Kd.V_alloc | apply Kd.V_drewN | apply Kd.V_drew)); exact HO_272001.out) hb)
                        have n2_ := Aside0.mk (Kd.V_lower (Kd.V_mono (ok' := fun k_ => some k_ ≠ (.slice (some ad272) x6_1.length co39 : Value).ownBlock ∧ k_ ≠ gb271 ∧ k_ ≠ gb278) ho0 (fun k_ hk_ => ⟨(Kd.fresh' (Kd.R_lt (by (with_reducible repeat (first | apply Kd.R_alloc | apply Kd.R_drewN | apply Kd.R_drew)); exact HO_6.out)) k_ hk_), (Kd.freshB (g := gb271) (o := .cells #[.int .i64 x272000_2, .slice Ao40 x272001_2.length co40] 24 (0, 0)) (by (with_reducible repeat (first | refine blk_drewN ?_ _ | refine blk_drew ?_ | refine blk_alloc ?_ _)); exact BK271.out) k_ hk_), (Kd.freshB (g := gb278) (o := .cells #[.int .i64 0, .slice none 0 0] 24 (0, 0)) (by (with_reducible repeat (first | refine blk_drewN ?_ _ | refine blk_drew ?_ | refine blk_alloc ?_ _)); exact BK278.out) k_ hk_)⟩)) (below_size (by repeat (first | (with_reducible first | exact HB.out | apply below_alloc | apply pw_below_drewN | apply below_drew1 | refine below_set ?_ GE271.out | refine below_set ?_ GE278.out) | exact HB.out))))
                        have n3_ := Aside0.mk (blk_below (g := gb271) (o := .cells #[.int .i64 x272000_2, .slice Ao40 x272001_2.length co40] 24 (0, 0)) (by (with_reducible repeat (first | refine blk_drewN ?_ _ | refine blk_drew ?_ | refine blk_alloc ?_ _)); exact BK271.out) hb)
                        have n4_ := Aside0.mk (blk_below (g := gb278) (o := .cells #[.int .i64 0, .slice none 0 0] 24 (0, 0)) (by (with_reducible repeat (first | refine blk_drewN ?_ _ | refine blk_drew ?_ | refine blk_alloc ?_ _)); exact BK278.out) hb)
                        have n5_ := Aside0.mk (below_step (by repeat (first | (with_reducible first | exact HB.out | apply below_alloc | apply pw_below_drewN | apply below_drew1 | refine below_set ?_ GE271.out | refine below_set ?_ GE278.out) | exact HB.out)) hb)
                        clear HO_6
                        clear HO_272001
                        clear BK271
                        clear BK278
                        clear HB
                        have HO_6 := n0_
                        have HO_272001 := n1_
                        have HO276 := n2_
                        have BK271 := n3_
                        have BK278 := n4_
                        have HB := n5_
                        clear n0_ n1_ n2_ n3_ n4_ n5_
                        (try clear hb)
                        (try clear hb2)
                        (try clear hk)
                        (try clear hi)
                        (try clear ho0)
                        refine hK.out _ _ ⟨(blk_cell BK271.out 0).trans rfl, (blk_cell BK271.out 1).trans rfl, HS2_⟩ (fun hHeld => ?_)
                        clear hK K
                        refine norm_ (a' := ?_) ?_ ?_
                        rotate_left
                        · show Act.put _ (some 75) _ = _
                          simp only [Act.put, List.setIfInBounds_toArray, List.set_cons_zero, List.set_cons_succ, i64_w, i32_w]
                          rfl
                        refine pure_ (i := 10) (N := some 65) (v := ?_) (a' := ?_) #[true, true, true, true, true, true, true, true, true, true, true, false, false, true, false, false] rfl rfl (any_of HT_.out (by kernel_rfl)) (fun _ _ _ h => h) (Or.inl ⟨by rfl, ?_⟩) ?_ ?_
                        rotate_left
                        · intro w'
                          go_simp
                          with_reducible rfl
                        rotate_left
                        · simp only [Act.put, List.setIfInBounds_toArray, List.set_cons_zero, List.set_cons_succ, i64_w, i32_w]
                          rfl
                        refine pure_ (i := 11) (N := some 76) (v := ?_) (a' := ?_) #[true, true, true, true, true, true, true, true, true, true, true, true, false, true, false, false] rfl rfl (any_of HT_.out (by kernel_rfl)) (fun _ _ _ h => h) (Or.inl ⟨by rfl, ?_⟩) ?_ ?_
                        rotate_left
                        · intro w'
                          go_simp
                          with_reducible rfl
                        rotate_left
                        · simp only [Act.put, List.setIfInBounds_toArray, List.set_cons_zero, List.set_cons_succ, i64_w, i32_w]
                          rfl
                        refine pure_ (i := 12) (N := some 77) (v := ?_) (a' := ?_) #[true, true, true, true, true, true, true, true, true, true, true, true, true, true, false, false] rfl rfl (any_of HT_.out (by kernel_rfl)) (fun _ _ _ h => h) (Or.inl ⟨by rfl, ?_⟩) ?_ ?_
                        rotate_left
                        · intro w'
                          go_simp
                          with_reducible rfl
                        rotate_left
                        · simp only [Act.put, List.setIfInBounds_toArray, List.set_cons_zero, List.set_cons_succ, i64_w, i32_w]
                          rfl
                        exact norm_ (by simp only [putAll, Act.put, List.setIfInBounds_toArray, List.set_cons_zero, List.set_cons_succ]) (hCont (v275, gb278) _ ⟨hHeld, (by (with_reducible repeat (first | apply Kd.V_alloc | apply Kd.V_drewN | apply Kd.V_drew)); exact HO276.out), (by (with_reducible repeat (first | apply Kd.V_alloc | apply Kd.V_drewN | apply Kd.V_drew)); exact Kd.V_mono HO_272001.out (fun _ hk => ⟨hk.1.1, ⟨hk.1.2, hk.2⟩⟩)), (by (with_reducible repeat (first | apply Kd.R_alloc | apply Kd.R_drewN | apply Kd.R_drew)); exact HO_6.out), (by (with_reducible repeat (first | refine blk_drewN ?_ _ | refine blk_drew ?_ | refine blk_alloc ?_ _)); exact BK271.out), (by (with_reducible repeat (first | refine blk_drewN ?_ _ | refine blk_drew ?_ | refine blk_alloc ?_ _)); exact BK278.out), GW278.out, GE278.out, NB271_278.out, NB278_271.out, (by repeat (first | (with_reducible first | exact HB.out | apply below_alloc | apply pw_below_drewN | apply below_drew1 | refine below_set ?_ GE271.out | refine below_set ?_ GE278.out) | exact HB.out))⟩)
                    rintro ⟨v275, gb278⟩ w44 ⟨hS_, h0_, h1_, h2_, h3_, h4_, h5_, h6_, h7_, h8_, h9_⟩
                    have n0_ : Aside0 (Kd.V k42 42 w44 w.heap.size (fun k_ => some k_ ≠ (.slice (some ad272) x6_1.length co39 : Value).ownBlock ∧ k_ ≠ gb271 ∧ k_ ≠ gb278) v275 t274) := ⟨h0_⟩
                    have n1_ : Aside0 (Kd.V k42 42 w44 w.heap.size (fun k_ => some k_ ≠ (.slice (some ad272) x6_1.length co39 : Value).ownBlock ∧ k_ ≠ gb271 ∧ k_ ≠ gb278) (.slice Ao40 x272001_2.length co40) x272001_2) := ⟨h1_⟩
                    have n2_ : Aside0 (Kd.R (Kd.int .i64) 3 w44 w.heap.size (fun _ => True) (.slice (some ad272) x6_1.length co39) x6_1) := ⟨h2_⟩
                    have n3_ : Aside0 (w44.heap[gb271]? = some (.cells #[.int .i64 x272000_2, .slice Ao40 x272001_2.length co40] 24 (0, 0))) := ⟨h3_⟩
                    have n4_ : Aside0 (w44.heap[gb278]? = some (.cells #[.int .i64 0, .slice none 0 0] 24 (0, 0))) := ⟨h4_⟩
                    have n5_ : Aside0 (w.heap.size ≤ gb278) := ⟨h5_⟩
                    have n6_ : Aside0 (w.heap.size ≤ gb278) := ⟨h6_⟩
                    have n7_ : Aside0 (gb271 ≠ gb278) := ⟨h7_⟩
                    have n8_ : Aside0 (gb278 ≠ gb271) := ⟨h8_⟩
                    have n9_ : Aside0 (Below w.heap.size w w44) := ⟨h9_⟩
                    clear HO_6
                    clear HO_272001
                    clear BK271
                    clear HB
                    clear h0_ h1_ h2_ h3_ h4_ h5_ h6_ h7_ h8_ h9_
                    have HO276 := n0_
                    have HO_272001 := n1_
                    have HO_6 := n2_
                    have BK271 := n3_
                    have BK278 := n4_
                    have GW278 := n5_
                    have GE278 := n6_
                    have NB271_278 := n7_
                    have NB278_271 := n8_
                    have HB := n9_
                    clear n0_ n1_ n2_ n3_ n4_ n5_ n6_ n7_ n8_ n9_
                    have hHeld : w44.cell? ⟨gb271, 0, none⟩ = some (.int .i64 x272000_2) ∧ w44.cell? ⟨gb271, 1, none⟩ = some (.slice Ao40 x272001_2.length co40) ∧ w44.cell? (ad272.add (x12_2).toNat) = some (.int .i64 (rd x6_1 x12_2)) := hS_
                    obtain ⟨Ao46, co46, eo46⟩ := Kd.V_slice HO276.out
                    (first | subst eo46 | (injection eo46 with f1_ f2_ f3_; have f4_ := f1_.symm; have f5_ := f3_.symm; clear f1_ f2_ f3_; subst f4_; subst f5_))
                    refine norm_ (a' := ?_) ?_ ?_
                    rotate_left
                    · simp only [putAll, Act.put, List.setIfInBounds_toArray, List.set_cons_zero, List.set_cons_succ]
                      rfl
                    refine one_ (i := 14) (N := none) #[true, true, true, true, true, true, true, true, true, true, true, true, true, true, true, false] rfl rfl (one_of HT_.out (by kernel_rfl)) (by decide) (fun K hK => ?_)
                    have hs45 : w44.cell? ⟨gb278, 0, none⟩ = some (.int .i64 0) := (blk_cell BK278.out 0).trans rfl
                    have hfs45 := blk_frozen BK278.out 0
                    have hns45_0 := NB271_278.out
                    have hms45_0 := NB278_271.out
                    have hs47 : w44.cell? ⟨gb278, 1, none⟩ = some (.slice none 0 0) := (blk_cell BK278.out 1).trans rfl
                    have hfs47 := blk_frozen BK278.out 1
                    have hns47_0 := NB271_278.out
                    have hms47_0 := NB278_271.out
                    refine skip_ (w1 := ?_) (by rfl) rfl ?_ ?_
                    rotate_left
                    · go_simp
                      rfl
                    refine hK.out _ _ ⟨((cell_far (p := ⟨gb278, _, none⟩) NB271_278.out _).trans (((cell_far (p := ⟨gb278, _, none⟩) NB271_278.out _).trans (hHeld.1)))), ((cell_far (p := ⟨gb278, _, none⟩) NB271_278.out _).trans (((cell_far (p := ⟨gb278, _, none⟩) NB271_278.out _).trans (hHeld.2.1)))), ((cell_far (p := ⟨gb278, _, none⟩) (by first | exact Kd.own_blk (Kd.R_ne HO_6.out BK278.out (by decide)) | (rw [add_block]; exact Kd.own_blk (Kd.R_ne HO_6.out BK278.out (by decide))) | (show (Addr.add _ _).block ≠ _; rw [add_block]; exact Kd.own_blk (Kd.R_ne HO_6.out BK278.out (by decide))) | (dsimp only; exact Kd.own_blk (Kd.R_ne HO_6.out BK278.out (by decide)))) _).trans (((cell_far (p := ⟨gb278, _, none⟩) (by first | exact Kd.own_blk (Kd.R_ne HO_6.out BK278.out (by decide)) | (rw [add_block]; exact Kd.own_blk (Kd.R_ne HO_6.out BK278.out (by decide))) | (show (Addr.add _ _).block ≠ _; rw [add_block]; exact Kd.own_blk (Kd.R_ne HO_6.out BK278.out (by decide))) | (dsimp only; exact Kd.own_blk (Kd.R_ne HO_6.out BK278.out (by decide)))) _).trans (hHeld.2.2))))⟩ (fun hHeld => ?_)
                    clear hK K
                    refine pure_ (i := 15) (N := some 14) (v := ?_) (a' := ?_) #[true, true, true, true, true, true, true, true, true, true, true, true, true, true, true, true] rfl rfl (any_of HT_.out (by kernel_rfl)) (fun _ _ _ h => h) (Or.inl ⟨by rfl, ?_⟩) ?_ ?_
                    rotate_left
                    · intro w'
                      go_simp
                      with_reducible rfl
                    rotate_left
                    · simp only [Act.put, List.setIfInBounds_toArray, List.set_cons_zero, List.set_cons_succ, i64_w, i32_w]
                      rfl
                    refine done_ (done_of HT_.out (by kernel_rfl)) ?_
                    try go_wp2
                    go_ret
                    exact ⟨by first | rfl | (simp [errW_none, errW_some] <;> rfl) | (simp [*, errW_none, errW_some] <;> rfl), by repeat (first | (with_reducible first | exact HB.out | apply below_alloc | apply pw_below_drewN | apply below_drew1 | refine below_set ?_ GE271.out | refine below_set ?_ GE278.out) | exact HB.out)⟩
                · rw [if_neg c24] at H
                  exact absurd H (by simp)
              · rw [if_neg c23] at H
                have c23b0 : decide (x12_2 < (x6_1.length : Int)) = false := decide_eq_false c23
                clear c23
                obtain ⟨ji48, hji48⟩ : ∃ j_ : Int, (mx 0 (wrap64 ((x6_1.length : Int) - (wrap64 (1 + (Int.tmod (wrap64 (a0)) 16)))))) = j_ := ⟨_, rfl⟩
                replace H : (if (x272001_2.length : Int) = (wrap64 ((x6_1.length : Int) - (ji48))) then (estoverslaw07_TlbFifo.l3 k2 x6_1 ji48 ji48 x272000_2 x272001_2) else (some false)) = some r := by first | (rw [hji48] at H; exact H) | (simp only [hji48] at H ⊢; exact H)
                have hji48_ : (if 0 < (wrap64 ((x6_1.length : Int) - (wrap64 (1 + (Int.tmod (wrap64 (a0)) 16))))) then (wrap64 ((x6_1.length : Int) - (wrap64 (1 + (Int.tmod (wrap64 (a0)) 16))))) else 0) = ji48 := hji48
                by_cases c49 : (x272001_2.length : Int) = (wrap64 ((x6_1.length : Int) - (ji48)))
                · rw [if_pos c49] at H
                  have c49b0 : ((x272001_2.length : Int) == (wrap64 ((x6_1.length : Int) - (ji48)))) = true := beq_iff_eq.mpr c49
                  have c49b1 : ((x272001_2.length : Int) != (wrap64 ((x6_1.length : Int) - (ji48)))) = false := bne_eq_false_iff_eq.mpr c49
                  clear c49
                  have H' := Aside0.mk H
                  clear H
                  obtain ⟨Ao50, co50, eo50⟩ := Kd.R_slice HO_6.out
                  subst eo50
                  have hcz51_0 : wr.cell? ⟨gb271, 0, none⟩ = some (.int .i64 x272000_2) := (blk_cell BK271.out 0).trans rfl
                  have hcz51_1 : wr.cell? ⟨gb271, 1, none⟩ = some (u272001) := (blk_cell BK271.out 1).trans rfl
                  have hfz51_0 := blk_frozen BK271.out 0
                  have hfz51_1 := blk_frozen BK271.out 1
                  obtain ⟨Ao52, co52, eo52⟩ := Kd.V_slice HO_272001.out
                  subst eo52
                  go_wp2
                  go_loopg [16] k2 (fun kq v16 w' => ∃ (x16_3 : Int), v16 = .int .i64 x16_3 ∧ Aside0 (estoverslaw07_TlbFifo.l3 kq x6_1 ji48 x16_3 x272000_2 x272001_2 = some r) ∧ Aside0 (kq ≤ k2) ∧ Aside0 (Kd.R (Kd.int .i64) 3 w' w.heap.size (fun _ => True) (.slice Ao50 x6_1.length co50) x6_1) ∧ Aside0 (Kd.V k42 42 w' w.heap.size (fun k_ => some k_ ≠ ((.slice Ao50 x6_1.length co50) : Value).ownBlock ∧ k_ ≠ gb271) (.slice Ao52 x272001_2.length co52) x272001_2) ∧ Aside0 (w'.heap[gb271]? = some (.cells #[.int .i64 x272000_2, (.slice Ao52 x272001_2.length co52)] 24 (0, 0))) ∧ Aside0 (Below w.heap.size w w'))
                  case atStart => exact ⟨(ji48), (by first | rfl | (simp; done) | (simp only [← hji48] <;> (first | rfl | simp)) | (simp [*]; done)), H', ⟨Nat.le_refl _⟩, ⟨by (with_reducible repeat (first | apply Kd.R_alloc | apply Kd.R_drewN | apply Kd.R_drew)); exact HO_6.out⟩, ⟨by (with_reducible repeat (first | apply Kd.V_alloc | apply Kd.V_drewN | apply Kd.V_drew)); exact HO_272001.out⟩, ⟨by (with_reducible repeat (first | refine blk_drewN ?_ _ | refine blk_drew ?_ | refine blk_alloc ?_ _)); exact BK271.out⟩, ⟨by repeat (first | (with_reducible first | exact HB.out | apply below_alloc | apply pw_below_drewN | apply below_drew1 | refine below_set ?_ GE271.out) | exact HB.out)⟩⟩
                  case round =>
                    clear H'
                    try clear c2
                    try clear p2
                    try clear q2
                    try clear hx2
                    try clear c3
                    try clear c4
                    try clear p6
                    try clear c22
                    try clear c23
                    try clear c23b0
                    try clear c24
                    try clear c26
                    try clear c26b0
                    try clear c26b1
                    try clear p27
                    try clear q27
                    try clear hx27
                    try clear c36
                    try clear c49
                    try clear c49b0
                    try clear c49b1
                    try clear hcz37_0
                    try clear hcz37_1
                    try clear hcz38_0
                    try clear hcz38_1
                    try clear hcz51_0
                    try clear hcz51_1
                    try clear hfz37_0
                    try clear hfz37_1
                    try clear hfz38_0
                    try clear hfz38_1
                    try clear hfz51_0
                    try clear hfz51_1
                    try clear hx272_0
                    try clear p272
                    try clear q272
                    obtain ⟨x16_3, rfl, HA, HK3, HO_6, HO_272001, BK271, HB⟩ := hrel
                    cases gk with
                    | zero => exact absurd HA.out (by simp [estoverslaw07_TlbFifo.l3])
                    | succ k3 =>
                      have H := HA.out
                      clear HA
                      simp only [estoverslaw07_TlbFifo.l3] at H
                      by_cases c53 : x16_3 < (x6_1.length : Int)
                      · rw [if_pos c53] at H
                        have c53b0 : decide (x16_3 < (x6_1.length : Int)) = true := decide_eq_true c53
                        clear c53
                        obtain ⟨ji54, hji54⟩ : ∃ j_ : Int, (wrap64 (x16_3 - ji48)) = j_ := ⟨_, rfl⟩
                        replace H : (if 0 ≤ (ji54) then (if (ji54) < (x272001_2.length : Int) then (if 0 ≤ x16_3 then (if (!(((rd_T42 x272001_2 (ji54)).f0) == 2) || (!(((rd_T42 x272001_2 (ji54)).f1) == (rd x6_1 x16_3)) || (!(((rd_T42 x272001_2 (ji54)).f2) == (IntKind.u64.wrap (wrap64 (1 + (wrap64 (256 * x16_3))))))))) = true then (some false) else (estoverslaw07_TlbFifo.l3 k3 x6_1 ji48 (wrap64 (x16_3 + 1)) x272000_2 x272001_2)) else (none)) else (none)) else (none)) = some r := by first | (rw [hji54] at H; exact H) | (simp only [hji54] at H ⊢; exact H)
                        have hji54w : (IntKind.i64.wrap (x16_3 - ji48)) = ji54 := (i64_w _).trans hji54
                        by_cases c55 : 0 ≤ (ji54)
                        · rw [if_pos c55] at H
                          have c55b0 : decide (0 ≤ (ji54)) = true := decide_eq_true c55
                          clear c55
                          by_cases c56 : (ji54) < (x272001_2.length : Int)
                          · rw [if_pos c56] at H
                            have c56b0 : decide ((ji54) < (x272001_2.length : Int)) = true := decide_eq_true c56
                            clear c56
                            by_cases c57 : 0 ≤ x16_3
                            · rw [if_pos c57] at H
                              have c57b0 : decide (0 ≤ x16_3) = true := decide_eq_true c57
                              clear c57
                              by_cases c58 : (!(((rd_T42 x272001_2 (ji54)).f0) == 2) || (!(((rd_T42 x272001_2 (ji54)).f1) == (rd x6_1 x16_3)) || (!(((rd_T42 x272001_2 (ji54)).f2) == (IntKind.u64.wrap (wrap64 (1 + (wrap64 (256 * x16_3))))))))) = true
                              · rw [if_pos c58] at H
                                have c58b0 : (!(((rd_T42 x272001_2 (ji54)).f0) == 2) || (!(((rd_T42 x272001_2 (ji54)).f1) == (rd x6_1 x16_3)) || (!(((rd_T42 x272001_2 (ji54)).f2) == (IntKind.u64.wrap (wrap64 (1 + (wrap64 (256 * x16_3))))))))) = true := c58
                                clear c58
                                obtain rfl := Option.some.inj H
                                try go_wp2
                                have n0_ := Aside0.mk (Kd.R_drew HO_6.out)
                                have n1_ := Aside0.mk (Kd.V_drew HO_272001.out)
                                have n2_ := Aside0.mk (blk_drew BK271.out)
                                have n3_ := Aside0.mk (below_drew1 HB.out)
                                clear HO_6
                                clear HO_272001
                                clear BK271
                                clear HB
                                have HO_6 := n0_
                                have HO_272001 := n1_
                                have BK271 := n2_
                                have HB := n3_
                                clear n0_ n1_ n2_ n3_
                                have p279 : 0 ≤ ((ji54) : Int) := of_decide_eq_true (by first | (with_reducible assumption) | assumption)
                                have q279 : (ji54) < (x272001_2.length : Int) := of_decide_eq_true (by first | (with_reducible assumption) | assumption)
                                obtain ⟨ad279, e279, hx279_0, hx279_1, hx279_2⟩ := at_T42 (Kd.V_reads' HO_272001.out).2.2 (ji54) p279 q279
                                cases e279
                                replace p279 := eq_true p279
                                replace q279 := eq_true q279
                                have p280 : 0 ≤ (x16_3 : Int) := of_decide_eq_true (by first | (with_reducible assumption) | assumption)
                                have q280 : x16_3 < (x6_1.length : Int) := of_decide_eq_true (by first | (with_reducible assumption) | assumption)
                                obtain ⟨ad280, e280, hx280_0⟩ := Kd.at_int (Kd.R_reads' HO_6.out).2.2 x16_3 p280 q280
                                cases e280
                                replace p280 := eq_true p280
                                replace q280 := eq_true q280
                                refine start_ (n := 17) (S := fun w' => w'.cell? ⟨gb271, 0, none⟩ = some (.int .i64 x272000_2) ∧ w'.cell? ⟨gb271, 1, none⟩ = some (.slice (some ad279) x272001_2.length co52) ∧ w'.cell? (ad279.add (((ji54)).toNat * 3)) = some (.int .i64 ((rd_T42 x272001_2 (ji54)).f0)) ∧ w'.cell? ⟨(ad279.add (((ji54)).toNat * 3)).block, (ad279.add (((ji54)).toNat * 3)).off + 1, none⟩ = some (.int .i64 ((rd_T42 x272001_2 (ji54)).f1)) ∧ w'.cell? ⟨(ad279.add (((ji54)).toNat * 3)).block, (ad279.add (((ji54)).toNat * 3)).off + 2, none⟩ = some (.int .u64 ((rd_T42 x272001_2 (ji54)).f2)) ∧ w'.cell? (ad280.add (x16_3).toNat) = some (.int .i64 (rd x6_1 x16_3))) (ds := []) #[false, false, false, false, false, false, false, false, false, false, false, false, false, false, false, false, false] (by kernel_rfl) rfl rfl ⟨(blk_cell BK271.out 0).trans rfl, (blk_cell BK271.out 1).trans rfl, hx279_0, hx279_1, hx279_2, hx280_0⟩ (fun hHeld => ?_); refine with_tabW estoverslaw07_TlbFifo.tab29 estoverslaw07_TlbFifo.bits29 (fun HT_ HW_ => ?_)
                                generalize wr.drew = w59 at HO_6 HO_272001 BK271 HB hx279_0 hx279_1 hx279_2 hx280_0 hHeld ⊢
                                refine pure_ (i := 0) (N := some 101) (v := ?_) (a' := ?_) #[true, false, false, false, false, false, false, false, false, false, false, false, false, false, false, false, false] rfl rfl (any_of HT_.out (by kernel_rfl)) (fun _ _ _ h => h) (Or.inl ⟨by rfl, ?_⟩) ?_ ?_
                                rotate_left
                                · intro w'
                                  go_simp
                                  with_reducible rfl
                                rotate_left
                                · simp only [Act.put, List.setIfInBounds_toArray, List.set_cons_zero, List.set_cons_succ, i64_w, i32_w]
                                  rfl
                                refine pure_ (i := 2) (N := some 103) (v := ?_) (a' := ?_) #[true, false, true, false, false, false, false, false, false, false, false, false, false, false, false, false, false] rfl rfl (any_of HT_.out (by kernel_rfl)) (fun _ _ _ h => h) (Or.inl ⟨by rfl, ?_⟩) ?_ ?_
                                rotate_left
                                · intro w'
                                  go_simp
                                  with_reducible rfl
                                rotate_left
                                · simp only [Act.put, List.setIfInBounds_toArray, List.set_cons_zero, List.set_cons_succ, i64_w, i32_w]
                                  rfl
                                refine pure_ (i := 3) (N := some 104) (v := ?_) (a' := ?_) #[true, false, true, true, false, false, false, false, false, false, false, false, false, false, false, false, false] rfl rfl (any_of HT_.out (by kernel_rfl)) (fun _ _ _ h => h) (Or.inl ⟨by rfl, ?_⟩) ?_ ?_
                                rotate_left
                                · intro w'
                                  go_simp
                                  with_reducible rfl
                                rotate_left
                                · simp only [Act.put, List.setIfInBounds_toArray, List.set_cons_zero, List.set_cons_succ, i64_w, i32_w]
                                  rfl
                                refine pure_ (i := 4) (N := some 105) (v := ?_) (a' := ?_) #[true, false, true, true, true, false, false, false, false, false, false, false, false, false, false, false, false] rfl rfl (any_of HT_.out (by kernel_rfl)) (fun _ _ _ h => h) (Or.inl ⟨by rfl, ?_⟩) ?_ ?_
                                rotate_left
                                · intro w'
                                  go_simp
                                  with_reducible rfl
                                rotate_left
                                · simp only [Act.put, List.setIfInBounds_toArray, List.set_cons_zero, List.set_cons_succ, i64_w, i32_w]
                                  rfl
                                refine pure_ (i := 7) (N := some 108) (v := ?_) (a' := ?_) #[true, false, true, true, true, false, false, true, false, false, false, false, false, false, false, false, false] rfl rfl (any_of HT_.out (by kernel_rfl)) (fun _ _ _ h => h) (Or.inl ⟨by rfl, ?_⟩) ?_ ?_
                                rotate_left
                                · intro w'
                                  go_simp
                                  with_reducible rfl
                                rotate_left
                                · simp only [Act.put, List.setIfInBounds_toArray, List.set_cons_zero, List.set_cons_succ, i64_w, i32_w]
                                  rfl
                                refine pure_ (i := 8) (N := some 109) (v := ?_) (a' := ?_) #[true, false, true, true, true, false, false, true, true, false, false, false, false, false, false, false, false] rfl rfl (any_of HT_.out (by kernel_rfl)) (fun _ _ _ h => h) (Or.inl ⟨by rfl, ?_⟩) ?_ ?_
                                rotate_left
                                · intro w'
                                  go_simp
                                  with_reducible rfl
                                rotate_left
                                · simp only [Act.put, List.setIfInBounds_toArray, List.set_cons_zero, List.set_cons_succ, i64_w, i32_w]
                                  rfl
                                refine pure_ (i := 9) (N := some 110) (v := ?_) (a' := ?_) #[true, false, true, true, true, false, false, true, true, true, false, false, false, false, false, false, false] rfl rfl (any_of HT_.out (by kernel_rfl)) (fun _ _ _ h => h) (Or.inl ⟨by rfl, ?_⟩) ?_ ?_
                                rotate_left
                                · intro w'
                                  go_simp
                                  with_reducible rfl
                                rotate_left
                                · simp only [Act.put, List.setIfInBounds_toArray, List.set_cons_zero, List.set_cons_succ, i64_w, i32_w]
                                  rfl
                                refine pure_ (i := 11) (N := some 112) (v := ?_) (a' := ?_) #[true, false, true, true, true, false, false, true, true, true, false, true, false, false, false, false, false] rfl rfl (any_of HT_.out (by kernel_rfl)) (fun _ _ _ h => h) (Or.inl ⟨by rfl, ?_⟩) ?_ ?_
                                rotate_left
                                · intro w'
                                  go_simp
                                  with_reducible rfl
                                rotate_left
                                · simp only [Act.put, List.setIfInBounds_toArray, List.set_cons_zero, List.set_cons_succ, i64_w, i32_w]
                                  rfl
                                refine pure_ (i := 12) (N := some 113) (v := ?_) (a' := ?_) #[true, false, true, true, true, false, false, true, true, true, false, true, true, false, false, false, false] rfl rfl (any_of HT_.out (by kernel_rfl)) (fun _ _ _ h => h) (Or.inl ⟨by rfl, ?_⟩) ?_ ?_
                                rotate_left
                                · intro w'
                                  go_simp
                                  with_reducible rfl
                                rotate_left
                                · simp only [Act.put, List.setIfInBounds_toArray, List.set_cons_zero, List.set_cons_succ, i64_w, i32_w]
                                  rfl
                                refine pure_ (i := 13) (N := some 114) (v := ?_) (a' := ?_) #[true, false, true, true, true, false, false, true, true, true, false, true, true, true, false, false, false] rfl rfl (any_of HT_.out (by kernel_rfl)) (fun _ _ _ h => h) (Or.inl ⟨by rfl, ?_⟩) ?_ ?_
                                rotate_left
                                · intro w'
                                  go_simp
                                  with_reducible rfl
                                rotate_left
                                · simp only [Act.put, List.setIfInBounds_toArray, List.set_cons_zero, List.set_cons_succ, i64_w, i32_w]
                                  rfl
                                refine pure_ (i := 14) (N := some 115) (v := ?_) (a' := ?_) #[true, false, true, true, true, false, false, true, true, true, false, true, true, true, true, false, false] rfl rfl (any_of HT_.out (by kernel_rfl)) (fun _ _ _ h => h) (Or.inl ⟨by rfl, ?_⟩) ?_ ?_
                                rotate_left
                                · intro w'
                                  go_simp
                                  with_reducible rfl
                                rotate_left
                                · simp only [Act.put, List.setIfInBounds_toArray, List.set_cons_zero, List.set_cons_succ, i64_w, i32_w]
                                  rfl
                                refine take_ (i := 1) (N := some 102) (v := ?_) (a' := ?_) #[true, true, true, true, true, false, false, true, true, true, false, true, true, true, true, false, false] rfl rfl (take_ofW HT_.out HW_.out (by kernel_rfl)) (fun _ _ _ h => h) (Or.inl ⟨by rfl, ?_⟩) hHeld ?_ ?_
                                rotate_left
                                · rintro w' ⟨s0, s1, s2, s3, s4, s5⟩
                                  go_simp
                                  with_reducible rfl
                                rotate_left
                                · simp only [Act.put, List.setIfInBounds_toArray, List.set_cons_zero, List.set_cons_succ, i64_w, i32_w]
                                  rfl
                                refine pure_ (i := 5) (N := some 106) (v := ?_) (a' := ?_) #[true, true, true, true, true, true, false, true, true, true, false, true, true, true, true, false, false] rfl rfl (any_of HT_.out (by kernel_rfl)) (fun _ _ _ h => h) (Or.inl ⟨by rfl, ?_⟩) ?_ ?_
                                rotate_left
                                · intro w'
                                  go_simp
                                  with_reducible rfl
                                rotate_left
                                · simp only [Act.put, List.setIfInBounds_toArray, List.set_cons_zero, List.set_cons_succ, i64_w, i32_w]
                                  rfl
                                refine take_ (i := 6) (N := some 107) (v := ?_) (a' := ?_) #[true, true, true, true, true, true, true, true, true, true, false, true, true, true, true, false, false] rfl rfl (take_ofW HT_.out HW_.out (by kernel_rfl)) (fun _ _ _ h => h) (Or.inl ⟨by rfl, ?_⟩) hHeld ?_ ?_
                                rotate_left
                                · rintro w' ⟨s0, s1, s2, s3, s4, s5⟩
                                  go_simp
                                  with_reducible rfl
                                rotate_left
                                · simp only [Act.put, List.setIfInBounds_toArray, List.set_cons_zero, List.set_cons_succ, i64_w, i32_w]
                                  rfl
                                refine take_ (i := 10) (N := some 111) (v := ?_) (a' := ?_) #[true, true, true, true, true, true, true, true, true, true, true, true, true, true, true, false, false] rfl rfl (take_ofW HT_.out HW_.out (by kernel_rfl)) (fun _ _ _ h => h) (Or.inl ⟨by rfl, ?_⟩) hHeld ?_ ?_
                                rotate_left
                                · rintro w' ⟨s0, s1, s2, s3, s4, s5⟩
                                  go_simp
                                  with_reducible rfl
                                rotate_left
                                · simp only [Act.put, List.setIfInBounds_toArray, List.set_cons_zero, List.set_cons_succ, i64_w, i32_w]
                                  rfl
                                refine pure_ (i := 15) (N := some 116) (v := ?_) (a' := ?_) #[true, true, true, true, true, true, true, true, true, true, true, true, true, true, true, true, false] rfl rfl (any_of HT_.out (by kernel_rfl)) (fun _ _ _ h => h) (Or.inl ⟨by rfl, ?_⟩) ?_ ?_
                                rotate_left
                                · intro w'
                                  go_simp
                                  with_reducible rfl
                                rotate_left
                                · simp only [Act.put, List.setIfInBounds_toArray, List.set_cons_zero, List.set_cons_succ, i64_w, i32_w]
                                  rfl
                                refine pure_ (i := 16) (N := some 117) (v := ?_) (a' := ?_) #[true, true, true, true, true, true, true, true, true, true, true, true, true, true, true, true, true] rfl rfl (any_of HT_.out (by kernel_rfl)) (fun _ _ _ h => h) (Or.inl ⟨by rfl, ?_⟩) ?_ ?_
                                rotate_left
                                · intro w'
                                  go_simp
                                  with_reducible rfl
                                rotate_left
                                · simp only [Act.put, List.setIfInBounds_toArray, List.set_cons_zero, List.set_cons_succ, i64_w, i32_w]
                                  rfl
                                refine done_ (done_of HT_.out (by kernel_rfl)) ?_
                                try go_wp2
                                go_ret
                                exact ⟨by first | rfl | (simp [errW_none, errW_some] <;> rfl) | (simp only [← hji48, ← hji54]; first | rfl | (simp [errW_none, errW_some] <;> rfl)) | (simp [*, errW_none, errW_some] <;> rfl), by repeat (first | (with_reducible first | exact HB.out | apply below_alloc | apply pw_below_drewN | apply below_drew1 | refine below_set ?_ GE271.out) | exact HB.out)⟩
                              · rw [if_neg c58] at H
                                have c58b0 : (!(((rd_T42 x272001_2 (ji54)).f0) == 2) || (!(((rd_T42 x272001_2 (ji54)).f1) == (rd x6_1 x16_3)) || (!(((rd_T42 x272001_2 (ji54)).f2) == (IntKind.u64.wrap (wrap64 (1 + (wrap64 (256 * x16_3))))))))) = false := by simpa using c58
                                clear c58
                                have H' := Aside0.mk H
                                clear H
                                try go_wp2
                                have n0_ := Aside0.mk (Kd.R_drew HO_6.out)
                                have n1_ := Aside0.mk (Kd.V_drew HO_272001.out)
                                have n2_ := Aside0.mk (blk_drew BK271.out)
                                have n3_ := Aside0.mk (below_drew1 HB.out)
                                clear HO_6
                                clear HO_272001
                                clear BK271
                                clear HB
                                have HO_6 := n0_
                                have HO_272001 := n1_
                                have BK271 := n2_
                                have HB := n3_
                                clear n0_ n1_ n2_ n3_
                                have p279 : 0 ≤ ((ji54) : Int) := of_decide_eq_true (by first | (with_reducible assumption) | assumption)
                                have q279 : (ji54) < (x272001_2.length : Int) := of_decide_eq_true (by first | (with_reducible assumption) | assumption)
                                obtain ⟨ad279, e279, hx279_0, hx279_1, hx279_2⟩ := at_T42 (Kd.V_reads' HO_272001.out).2.2 (ji54) p279 q279
                                cases e279
                                replace p279 := eq_true p279
                                replace q279 := eq_true q279
                                have p280 : 0 ≤ (x16_3 : Int) := of_decide_eq_true (by first | (with_reducible assumption) | assumption)
                                have q280 : x16_3 < (x6_1.length : Int) := of_decide_eq_true (by first | (with_reducible assumption) | assumption)
                                obtain ⟨ad280, e280, hx280_0⟩ := Kd.at_int (Kd.R_reads' HO_6.out).2.2 x16_3 p280 q280
                                cases e280
                                replace p280 := eq_true p280
                                replace q280 := eq_true q280
                                refine start_ (n := 17) (S := fun w' => w'.cell? ⟨gb271, 0, none⟩ = some (.int .i64 x272000_2) ∧ w'.cell? ⟨gb271, 1, none⟩ = some (.slice (some ad279) x272001_2.length co52) ∧ w'.cell? (ad279.add (((ji54)).toNat * 3)) = some (.int .i64 ((rd_T42 x272001_2 (ji54)).f0)) ∧ w'.cell? ⟨(ad279.add (((ji54)).toNat * 3)).block, (ad279.add (((ji54)).toNat * 3)).off + 1, none⟩ = some (.int .i64 ((rd_T42 x272001_2 (ji54)).f1)) ∧ w'.cell? ⟨(ad279.add (((ji54)).toNat * 3)).block, (ad279.add (((ji54)).toNat * 3)).off + 2, none⟩ = some (.int .u64 ((rd_T42 x272001_2 (ji54)).f2)) ∧ w'.cell? (ad280.add (x16_3).toNat) = some (.int .i64 (rd x6_1 x16_3))) (ds := []) #[false, false, false, false, false, false, false, false, false, false, false, false, false, false, false, false, false] (by kernel_rfl) rfl rfl ⟨(blk_cell BK271.out 0).trans rfl, (blk_cell BK271.out 1).trans rfl, hx279_0, hx279_1, hx279_2, hx280_0⟩ (fun hHeld => ?_); refine with_tabW estoverslaw07_TlbFifo.tab29 estoverslaw07_TlbFifo.bits29 (fun HT_ HW_ => ?_)
                                generalize wr.drew = w60 at HO_6 HO_272001 BK271 HB hx279_0 hx279_1 hx279_2 hx280_0 hHeld ⊢
                                refine pure_ (i := 0) (N := some 101) (v := ?_) (a' := ?_) #[true, false, false, false, false, false, false, false, false, false, false, false, false, false, false, false, false] rfl rfl (any_of HT_.out (by kernel_rfl)) (fun _ _ _ h => h) (Or.inl ⟨by rfl, ?_⟩) ?_ ?_
                                rotate_left
                                · intro w'
                                  go_simp
                                  with_reducible rfl
                                rotate_left
                                · simp only [Act.put, List.setIfInBounds_toArray, List.set_cons_zero, List.set_cons_succ, i64_w, i32_w]
                                  rfl
                                refine pure_ (i := 2) (N := some 103) (v := ?_) (a' := ?_) #[true, false, true, false, false, false, false, false, false, false, false, false, false, false, false, false, false] rfl rfl (any_of HT_.out (by kernel_rfl)) (fun _ _ _ h => h) (Or.inl ⟨by rfl, ?_⟩) ?_ ?_
                                rotate_left
                                · intro w'
                                  go_simp
                                  with_reducible rfl
                                rotate_left
                                · simp only [Act.put, List.setIfInBounds_toArray, List.set_cons_zero, List.set_cons_succ, i64_w, i32_w]
                                  rfl
                                refine pure_ (i := 3) (N := some 104) (v := ?_) (a' := ?_) #[true, false, true, true, false, false, false, false, false, false, false, false, false, false, false, false, false] rfl rfl (any_of HT_.out (by kernel_rfl)) (fun _ _ _ h => h) (Or.inl ⟨by rfl, ?_⟩) ?_ ?_
                                rotate_left
                                · intro w'
                                  go_simp
                                  with_reducible rfl
                                rotate_left
                                · simp only [Act.put, List.setIfInBounds_toArray, List.set_cons_zero, List.set_cons_succ, i64_w, i32_w]
                                  rfl
                                refine pure_ (i := 4) (N := some 105) (v := ?_) (a' := ?_) #[true, false, true, true, true, false, false, false, false, false, false, false, false, false, false, false, false] rfl rfl (any_of HT_.out (by kernel_rfl)) (fun _ _ _ h => h) (Or.inl ⟨by rfl, ?_⟩) ?_ ?_
                                rotate_left
                                · intro w'
                                  go_simp
                                  with_reducible rfl
                                rotate_left
                                · simp only [Act.put, List.setIfInBounds_toArray, List.set_cons_zero, List.set_cons_succ, i64_w, i32_w]
                                  rfl
                                refine pure_ (i := 7) (N := some 108) (v := ?_) (a' := ?_) #[true, false, true, true, true, false, false, true, false, false, false, false, false, false, false, false, false] rfl rfl (any_of HT_.out (by kernel_rfl)) (fun _ _ _ h => h) (Or.inl ⟨by rfl, ?_⟩) ?_ ?_
                                rotate_left
                                · intro w'
                                  go_simp
                                  with_reducible rfl
                                rotate_left
                                · simp only [Act.put, List.setIfInBounds_toArray, List.set_cons_zero, List.set_cons_succ, i64_w, i32_w]
                                  rfl
                                refine pure_ (i := 8) (N := some 109) (v := ?_) (a' := ?_) #[true, false, true, true, true, false, false, true, true, false, false, false, false, false, false, false, false] rfl rfl (any_of HT_.out (by kernel_rfl)) (fun _ _ _ h => h) (Or.inl ⟨by rfl, ?_⟩) ?_ ?_
                                rotate_left
                                · intro w'
                                  go_simp
                                  with_reducible rfl
                                rotate_left
                                · simp only [Act.put, List.setIfInBounds_toArray, List.set_cons_zero, List.set_cons_succ, i64_w, i32_w]
                                  rfl
                                refine pure_ (i := 9) (N := some 110) (v := ?_) (a' := ?_) #[true, false, true, true, true, false, false, true, true, true, false, false, false, false, false, false, false] rfl rfl (any_of HT_.out (by kernel_rfl)) (fun _ _ _ h => h) (Or.inl ⟨by rfl, ?_⟩) ?_ ?_
                                rotate_left
                                · intro w'
                                  go_simp
                                  with_reducible rfl
                                rotate_left
                                · simp only [Act.put, List.setIfInBounds_toArray, List.set_cons_zero, List.set_cons_succ, i64_w, i32_w]
                                  rfl
                                refine pure_ (i := 11) (N := some 112) (v := ?_) (a' := ?_) #[true, false, true, true, true, false, false, true, true, true, false, true, false, false, false, false, false] rfl rfl (any_of HT_.out (by kernel_rfl)) (fun _ _ _ h => h) (Or.inl ⟨by rfl, ?_⟩) ?_ ?_
                                rotate_left
                                · intro w'
                                  go_simp
                                  with_reducible rfl
                                rotate_left
                                · simp only [Act.put, List.setIfInBounds_toArray, List.set_cons_zero, List.set_cons_succ, i64_w, i32_w]
                                  rfl
                                refine pure_ (i := 12) (N := some 113) (v := ?_) (a' := ?_) #[true, false, true, true, true, false, false, true, true, true, false, true, true, false, false, false, false] rfl rfl (any_of HT_.out (by kernel_rfl)) (fun _ _ _ h => h) (Or.inl ⟨by rfl, ?_⟩) ?_ ?_
                                rotate_left
                                · intro w'
                                  go_simp
                                  with_reducible rfl
                                rotate_left
                                · simp only [Act.put, List.setIfInBounds_toArray, List.set_cons_zero, List.set_cons_succ, i64_w, i32_w]
                                  rfl
                                refine pure_ (i := 13) (N := some 114) (v := ?_) (a' := ?_) #[true, false, true, true, true, false, false, true, true, true, false, true, true, true, false, false, false] rfl rfl (any_of HT_.out (by kernel_rfl)) (fun _ _ _ h => h) (Or.inl ⟨by rfl, ?_⟩) ?_ ?_
                                rotate_left
                                · intro w'
                                  go_simp
                                  with_reducible rfl
                                rotate_left
                                · simp only [Act.put, List.setIfInBounds_toArray, List.set_cons_zero, List.set_cons_succ, i64_w, i32_w]
                                  rfl
                                refine pure_ (i := 14) (N := some 115) (v := ?_) (a' := ?_) #[true, false, true, true, true, false, false, true, true, true, false, true, true, true, true, false, false] rfl rfl (any_of HT_.out (by kernel_rfl)) (fun _ _ _ h => h) (Or.inl ⟨by rfl, ?_⟩) ?_ ?_
                                rotate_left
                                · intro w'
                                  go_simp
                                  with_reducible rfl
                                rotate_left
                                · simp only [Act.put, List.setIfInBounds_toArray, List.set_cons_zero, List.set_cons_succ, i64_w, i32_w]
                                  rfl
                                refine take_ (i := 1) (N := some 102) (v := ?_) (a' := ?_) #[true, true, true, true, true, false, false, true, true, true, false, true, true, true, true, false, false] rfl rfl (take_ofW HT_.out HW_.out (by kernel_rfl)) (fun _ _ _ h => h) (Or.inl ⟨by rfl, ?_⟩) hHeld ?_ ?_
                                rotate_left
                                · rintro w' ⟨s0, s1, s2, s3, s4, s5⟩
                                  go_simp
                                  with_reducible rfl
                                rotate_left
                                · simp only [Act.put, List.setIfInBounds_toArray, List.set_cons_zero, List.set_cons_succ, i64_w, i32_w]
                                  rfl
                                refine pure_ (i := 5) (N := some 106) (v := ?_) (a' := ?_) #[true, true, true, true, true, true, false, true, true, true, false, true, true, true, true, false, false] rfl rfl (any_of HT_.out (by kernel_rfl)) (fun _ _ _ h => h) (Or.inl ⟨by rfl, ?_⟩) ?_ ?_
                                rotate_left
                                · intro w'
                                  go_simp
                                  with_reducible rfl
                                rotate_left
                                · simp only [Act.put, List.setIfInBounds_toArray, List.set_cons_zero, List.set_cons_succ, i64_w, i32_w]
                                  rfl
                                refine take_ (i := 6) (N := some 107) (v := ?_) (a' := ?_) #[true, true, true, true, true, true, true, true, true, true, false, true, true, true, true, false, false] rfl rfl (take_ofW HT_.out HW_.out (by kernel_rfl)) (fun _ _ _ h => h) (Or.inl ⟨by rfl, ?_⟩) hHeld ?_ ?_
                                rotate_left
                                · rintro w' ⟨s0, s1, s2, s3, s4, s5⟩
                                  go_simp
                                  with_reducible rfl
                                rotate_left
                                · simp only [Act.put, List.setIfInBounds_toArray, List.set_cons_zero, List.set_cons_succ, i64_w, i32_w]
                                  rfl
                                refine take_ (i := 10) (N := some 111) (v := ?_) (a' := ?_) #[true, true, true, true, true, true, true, true, true, true, true, true, true, true, true, false, false] rfl rfl (take_ofW HT_.out HW_.out (by kernel_rfl)) (fun _ _ _ h => h) (Or.inl ⟨by rfl, ?_⟩) hHeld ?_ ?_
                                rotate_left
                                · rintro w' ⟨s0, s1, s2, s3, s4, s5⟩
                                  go_simp
                                  with_reducible rfl
                                rotate_left
                                · simp only [Act.put, List.setIfInBounds_toArray, List.set_cons_zero, List.set_cons_succ, i64_w, i32_w]
                                  rfl
                                refine pure_ (i := 15) (N := some 116) (v := ?_) (a' := ?_) #[true, true, true, true, true, true, true, true, true, true, true, true, true, true, true, true, false] rfl rfl (any_of HT_.out (by kernel_rfl)) (fun _ _ _ h => h) (Or.inl ⟨by rfl, ?_⟩) ?_ ?_
                                rotate_left
                                · intro w'
                                  go_simp
                                  with_reducible rfl
                                rotate_left
                                · simp only [Act.put, List.setIfInBounds_toArray, List.set_cons_zero, List.set_cons_succ, i64_w, i32_w]
                                  rfl
                                refine pure_ (i := 16) (N := some 117) (v := ?_) (a' := ?_) #[true, true, true, true, true, true, true, true, true, true, true, true, true, true, true, true, true] rfl rfl (any_of HT_.out (by kernel_rfl)) (fun _ _ _ h => h) (Or.inl ⟨by rfl, ?_⟩) ?_ ?_
                                rotate_left
                                · intro w'
                                  go_simp
                                  with_reducible rfl
                                rotate_left
                                · simp only [Act.put, List.setIfInBounds_toArray, List.set_cons_zero, List.set_cons_succ, i64_w, i32_w]
                                  rfl
                                refine done_ (done_of HT_.out (by kernel_rfl)) ?_
                                try go_wp2
                                go_roundg k3
                                case measure => have := HK1.out; have := HK2.out; have := HK3.out; omega
                                case rel => exact ⟨(wrap64 (x16_3 + 1)), (by first | rfl | (simp; done) | (simp [*]; done)), H', ⟨by have := HK1.out; have := HK2.out; have := HK3.out; omega⟩, ⟨by (with_reducible repeat (first | apply Kd.R_alloc | apply Kd.R_drewN | apply Kd.R_drew)); exact HO_6.out⟩, ⟨by (with_reducible repeat (first | apply Kd.V_alloc | apply Kd.V_drewN | apply Kd.V_drew)); exact HO_272001.out⟩, ⟨by (with_reducible repeat (first | refine blk_drewN ?_ _ | refine blk_drew ?_ | refine blk_alloc ?_ _)); exact BK271.out⟩, ⟨by repeat (first | (with_reducible first | exact HB.out | apply below_alloc | apply pw_below_drewN | apply below_drew1 | refine below_set ?_ GE271.out) | exact HB.out)⟩⟩
                            · rw [if_neg c57] at H
                              exact absurd H (by simp)
                          · rw [if_neg c56] at H
                            exact absurd H (by simp)
                        · rw [if_neg c55] at H
                          exact absurd H (by simp)
                      · rw [if_neg c53] at H
                        have c53b0 : decide (x16_3 < (x6_1.length : Int)) = false := decide_eq_false c53
                        clear c53
                        replace H := Option.bind_eq_some_iff.mp H
                        obtain ⟨t281, A610, H⟩ := H
                        replace H : (some t281) = some r := H
                        have A61 := Aside0.mk A610
                        clear A610
                        obtain rfl := Option.some.inj H
                        go_wp2_with (first | ((with_reducible refine gate_callee (f := 13) rfl ?_); refine goesL_ (some 118) rfl rfl Try.func13 (by kernel_rfl) rfl #[] rfl (by (try simp only [List.map_toArray, List.map_cons, List.map_nil]); first | done | rfl | (simp only [List.length_drop, List.length_take]; rfl)) ?_; (with_reducible refine (estoverslaw07_awake.calls  t281 _ A61.out).mono ?_); rintro e w62 ⟨rfl, hb⟩; refine ⟨_, rfl, ?_⟩; have n0_ := Aside0.mk (Kd.R_below (by (with_reducible repeat (first | apply Kd.R_alloc | apply Kd.R_drewN | apply Kd.R_drew)); exact HO_6.out) hb); have n1_ := Aside0.mk (Kd.V_below (by (with_reducible repeat (first | apply Kd.V_alloc | apply Kd.V_drewN | apply Kd.V_drew)); exact HO_272001.out) hb); have n2_ := Aside0.mk (blk_below (g := gb271) (o := .cells #[.int .i64 x272000_2, .slice Ao52 x272001_2.length co52] 24 (0, 0)) (by (with_reducible repeat (first | refine blk_drewN ?_ _ | refine blk_drew ?_ | refine blk_alloc ?_ _)); exact BK271.out) hb); have n3_ := Aside0.mk (below_step (by repeat (first | (with_reducible first | exact HB.out | apply below_alloc | apply pw_below_drewN | apply below_drew1 | refine below_set ?_ GE271.out) | exact HB.out)) hb); clear HO_6; clear HO_272001; clear BK271; clear HB; have HO_6 := n0_; have HO_272001 := n1_; have BK271 := n2_; have HB := n3_; clear n0_ n1_ n2_ n3_; (try clear hb); (try clear hb2); (try clear hk); (try clear hi)))
                        go_ret
                        exact ⟨by first | rfl | (simp [errW_none, errW_some] <;> rfl) | (simp only [← hji48]; first | rfl | (simp [errW_none, errW_some] <;> rfl)) | (simp [*, errW_none, errW_some] <;> rfl), by repeat (first | (with_reducible first | exact HB.out | apply below_alloc | apply pw_below_drewN | apply below_drew1 | refine below_set ?_ GE271.out) | exact HB.out)⟩
                · rw [if_neg c49] at H
                  have c49b0 : ((x272001_2.length : Int) == (wrap64 ((x6_1.length : Int) - (ji48)))) = false := beq_eq_false_iff_ne.mpr c49
                  have c49b1 : ((x272001_2.length : Int) != (wrap64 ((x6_1.length : Int) - (ji48)))) = true := bne_iff_ne.mpr c49
                  obtain rfl := Option.some.inj H
                  obtain ⟨Ao63, co63, eo63⟩ := Kd.R_slice HO_6.out
                  subst eo63
                  have hcz64_0 : wr.cell? ⟨gb271, 0, none⟩ = some (.int .i64 x272000_2) := (blk_cell BK271.out 0).trans rfl
                  have hcz64_1 : wr.cell? ⟨gb271, 1, none⟩ = some (u272001) := (blk_cell BK271.out 1).trans rfl
                  have hfz64_0 := blk_frozen BK271.out 0
                  have hfz64_1 := blk_frozen BK271.out 1
                  obtain ⟨Ao65, co65, eo65⟩ := Kd.V_slice HO_272001.out
                  subst eo65
                  go_wp2
                  go_ret
                  exact ⟨by first | rfl | (simp [errW_none, errW_some] <;> rfl) | (simp only [← hji48]; first | rfl | (simp [errW_none, errW_some] <;> rfl)) | (simp [*, errW_none, errW_some] <;> rfl), by repeat (first | (with_reducible first | exact HB.out | apply below_alloc | apply pw_below_drewN | apply below_drew1 | refine below_set ?_ GE271.out) | exact HB.out)⟩

/-- THE ONE PURE STATEMENT of estoverslaw07_TlbFifo: yours. -/
def estoverslaw07_TlbFifo.Pure : Prop := ∀ (a0 : Int) (l1 : List Int), (Lit.int .u8 a0).wf = true → l1.length ≤ maxLen → l1.length * 2 ≤ 140737488351232 → (∀ x ∈ l1, (Lit.int .u16 x).wf = true) → ∃ k, estoverslaw07_TlbFifo.f k a0 l1 = some true
theorem estoverslaw07_TlbFifo.walk (P : estoverslaw07_TlbFifo.Pure) (a0 : Int) (a1 : Option Addr) (len1 cap1 : Nat) (z1 : List Int) (w : World) (w0 : (Lit.int .u8 a0).wf = true) (w1 : (a1 = none ∧ len1 = 0 ∧ cap1 = 0 ∧ z1 = []) ∨ ∃ x, a1 = some x ∧ len1 ≤ cap1 ∧ cap1 ≤ maxLen ∧ z1.length = cap1 ∧ (∀ i, i < z1.length → w.cell? (x.add i) = some (.int .u16 (z1.getD i 0))) ∧ ∀ n ∈ z1, (Lit.int .u16 n).wf = true) (y1 : len1 * 2 ≤ 140737488351232) :
    Calls Try.prog 6 #[.int .u8 a0, .slice a1 len1 cap1] w fun e w' => e = .returned (.bool true) ∧ Below w.heap.size w w' := by
  obtain ⟨l1, rfl, hr1, hm1, hw1, hc1⟩ := ReadsInt.ofRowC w1
  obtain ⟨k, h⟩ := P a0 l1 w0 hm1 y1 hw1
  refine (estoverslaw07_TlbFifo.calls k a0 _ _ l1 true w (Kd.C_of_reads (d := (0 : Int)) (h1 := fun _ => rfl) hr1) hc1 h).mono ?_
  rintro e w' ⟨rfl, hd⟩
  exact ⟨rfl, hd⟩

end Go.Proofs.Ytkbnhphcmlljgaa.P
