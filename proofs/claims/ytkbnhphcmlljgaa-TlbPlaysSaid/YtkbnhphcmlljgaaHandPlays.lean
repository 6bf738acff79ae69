/- estoverslaw07.TlbPlays, walked: a sequence of calls from an empty cache leads to the same caches. -/
import Derived.Test.YtkbnhphcmlljgaaHandRefDo
import Derived.Test.YtkbnhphcmlljgaaHandWay
import Derived.Test.YtkbnhphcmlljgaaTlbInv
import Derived.Test.YtkbnhphcmlljgaaTlbRefFill
import Derived.Test.YtkbnhphcmlljgaaTlbRefRem
import Derived.Test.YtkbnhphcmlljgaaPx7
import Derived.Test.YtkbnhphcmlljgaaPx11
import Derived.Test.YtkbnhphcmlljgaaTlbOps
set_option linter.unusedVariables false
set_option linter.unusedSimpArgs false
namespace Go.Proofs.Ytkbnhphcmlljgaa.Hand
open Go.RowKit Go.Proofs.Ytkbnhphcmlljgaa.P Go.Proofs.Ytkbnhphcmlljgaa.TlbP Go.Proofs.Ytkbnhphcmlljgaa.TlbRef Go.Proofs.Ytkbnhphcmlljgaa.Pte Go.Proofs.YtkbnhphcmlljgaaW.PrintWords Go.Proofs.YtkbnhphcmlljgaaW.PrintLast Go.Shelf

theorem len_mul {n : Nat} (h : n ≤ 20) : n * (n + 3) ≤ 460 := Nat.le_trans (Nat.mul_le_mul h (Nat.add_le_add_right h 3)) (by decide)
theorem rdo_eq (n : Int) (l : List E) (k s p w : Int) (hp : p ≤ 9223372036854775807) (hw : inU w = true) (hl : ∀ y ∈ l, okw y = true) (hm : l.length ≤ 20) : estoversref07_Do.f 600 n l k s p w = some (doP n l k s p w) := by
  have hmul := len_mul hm
  unfold estoversref07_Do.f doP
  rw [rfill_eq n l s p w hw hl (by omega) 600 (by omega), rinval_eq n l s p hp hl (by omega) 600 (by omega), rflush_eq n l s hl (by omega) 600 (by omega)]
  simp only [Option.bind_some]
  repeat' split
  all_goals rfl
theorem good_nil {n : Int} (h1 : 1 ≤ n) (h2 : n ≤ 16) : GoodC n [] := ⟨check_zero.2 ⟨h1, h2, by simp; omega, fun x hx => (nomatch hx), List.Pairwise.nil⟩, fun x hx => (nomatch hx)⟩
theorem good_len {n : Int} {l : List E} (h : GoodC n l) : l.length ≤ 16 := check_len h.1

set_option maxHeartbeats 8000000 in
set_option maxRecDepth 100000 in
theorem plays_long (x : Int) (A : Option Addr) (c m : Nat) (hm : (30 : Int) < m) (W : World) :
    Calls Try.prog 8 #[.int .u8 x, .slice A m c] W fun e w' => e = .returned (.bool true) ∧ Below W.heap.size W w' := by
  have hm0 : decide (30 < (m : Int)) = true := decide_eq_true hm
  go_enter Try.func8, Try.ntmps8
  go_wp2_with fail
  refine (estoverslaw07_awake.calls true _ rfl).mono ?_
  rintro e w' ⟨rfl, hb⟩
  go_wp2
  go_ret
  exact ⟨rfl, hb⟩

set_option maxHeartbeats 8000000 in
set_option maxRecDepth 100000 in
theorem plays_walk (x n : Int) (A : Option Addr) (c : Nat) (ops : List S49) (hn : tlb_New.f (wrap64 (1 + Int.tmod (wrap64 x) 16)) = some (n, [], 0)) (hn2 : estoversref07_New.f (wrap64 (1 + Int.tmod (wrap64 x) 16)) = some (n, [], 0)) (h1 : 1 ≤ n) (h2 : n ≤ 16) (hm : ops.length ≤ 30) (hx : ∀ o ∈ ops, inU o.f3 = true ∧ o.f2 ≤ 9223372036854775807) (W : World) (hC : Kd.C k49 W A ops.length ops) (hc : ops.length ≤ c) :
    Calls Try.prog 8 #[.int .u8 x, .slice A ops.length c] W fun e w' => e = .returned (.bool true) ∧ Below W.heap.size W w' := by
  have hu3 := Try.underlying24
  have hu4 := Try.underlying49
  have HC := Lib.hid hC
  have HX := Lib.hid hx
  have HM := Lib.hid hm
  have GN := Lib.hid (good_nil h1 h2)
  have hm0 : decide (30 < (ops.length : Int)) = false := decide_eq_false (by omega)
  have hL : (ops.length : Int) ≤ 30 := by omega
  clear hC hx hm h1 h2
  generalize hml : ops.length = m at *
  have HML := Lib.hid hml
  clear hml
  go_enter Try.func8, Try.ntmps8
  go_wp2_with fail
  refine (tlb_New.calls _ n [] 0 _ hn).mono ?_
  rintro e w1 ⟨v1, rfl, r1, b1⟩
  obtain ⟨A1, c1, rfl⟩ := Kd.R_slice r1
  go_wp2_with fail
  refine (estoversref07_New.calls _ n [] 0 _ hn2).mono ?_
  rintro e w2 ⟨v2, rfl, r2, b2⟩
  obtain ⟨A2, c2, rfl⟩ := Kd.R_slice r2
  go_wp2_with fail
  have d2 := bth b2 (bal (.cells #[.int .i64 n, .slice A1 0 c1] 24 (0, 0)) b1)
  have h6 := blk_alloc (blk_below (blk_new w1 (.cells #[.int .i64 n, .slice A1 0 c1] 24 (0, 0))) b2) (.cells #[.int .i64 n, .slice A2 0 c2] 24 (0, 0))
  have h8 := blk_new w2 (.cells #[.int .i64 n, .slice A2 0 c2] 24 (0, 0))
  have V1 : Kd.V k42 42 (w2.alloc (.cells #[.int .i64 n, .slice A2 0 c2] 24 (0, 0))) 0 (fun k => k ≠ w1.heap.size ∧ k ≠ w2.heap.size) (.slice A1 ([] : List E).length c1) [] :=
    Kd.V_mono (vAlloc (Kd.V_below (vAlloc (vBound (Kd.R_V r1)) _) b2) _) (fun k hk => by have := b2.size; simp only [World.alloc, Array.size_push] at this; omega)
  have V2 : Kd.V k42 42 (w2.alloc (.cells #[.int .i64 n, .slice A2 0 c2] 24 (0, 0))) 0 (fun k => k ≠ w1.heap.size ∧ k ≠ w2.heap.size) (.slice A2 ([] : List E).length c2) [] :=
    Kd.V_mono (vAlloc (Kd.R_V (base' := 0) (Kd.R_bound r2)) _) (fun k hk => by have h3 := hk.2.1; have h4 := hk.2.2.1; simp only [World.alloc, Array.size_push] at h3; omega)
  have hne : w1.heap.size ≠ w2.heap.size := by have := b2.size; simp only [World.alloc, Array.size_push] at this; omega
  have hle6 : W.heap.size ≤ w1.heap.size := b1.size
  have hle8 : W.heap.size ≤ w2.heap.size := d2.size
  refine absw (fun w' => w'.heap[w1.heap.size]? = some (.cells #[.int .i64 n, .slice A1 ([] : List E).length c1] 24 (0, 0)) ∧ w'.heap[w2.heap.size]? = some (.cells #[.int .i64 n, .slice A2 ([] : List E).length c2] 24 (0, 0)) ∧ Hid (Kd.V k42 42 w' 0 (fun k => k ≠ w1.heap.size ∧ k ≠ w2.heap.size) (.slice A1 ([] : List E).length c1) []) ∧ Hid (Kd.V k42 42 w' 0 (fun k => k ≠ w1.heap.size ∧ k ≠ w2.heap.size) (.slice A2 ([] : List E).length c2) []) ∧ Below W.heap.size W w') ⟨h6, h8, Lib.hid V1, Lib.hid V2, below_alloc d2 _⟩ ?_
  clear h6 h8 V1 V2 d2 b1 b2 r1 r2
  generalize w1.heap.size = g6 at *
  generalize w2.heap.size = g8 at *
  rintro w3 ⟨h6, h8, V1, V2, d3⟩
  go_loopg [10] m (fun gg s10 wr => ∃ kk : Nat, kk ≤ m ∧ m - kk ≤ gg ∧ s10 = .int .i64 kk ∧ ∃ (l : List E) (A1 A2 : Option Addr) (c1 c2 : Nat), Hid (GoodC n l) ∧ Hid (wr.heap[g6]? = some (.cells #[.int .i64 n, .slice A1 l.length c1] 24 (0, 0))) ∧ Hid (wr.heap[g8]? = some (.cells #[.int .i64 n, .slice A2 l.length c2] 24 (0, 0))) ∧ Hid (Kd.V k42 42 wr 0 (fun k => k ≠ g6 ∧ k ≠ g8) (.slice A1 l.length c1) l) ∧ Hid (Kd.V k42 42 wr 0 (fun k => k ≠ g6 ∧ k ≠ g8) (.slice A2 l.length c2) l) ∧ Hid (Below W.heap.size W wr))
  case atStart => exact ⟨0, Nat.zero_le _, by omega, rfl, [], A1, A2, c1, c2, GN, Lib.hid h6, Lib.hid h8, V1, V2, Lib.hid d3⟩
  case round =>
    clear h6 h8 V1 V2 d3 hn hn2 GN
    obtain ⟨kk, hkk, hg, rfl, l, A1, A2, c1, c2, GL, H6, H8, V1, V2, BW⟩ := hrel
    by_cases hlt : kk < m
    · have hltz : (kk : Int) < (m : Int) := by omega
      have hk : kk < ops.length := by have := HML.out; omega
      obtain ⟨ad, e, X0, X1, X2, X3⟩ := at_T49 HC.out (kk : Int) (by omega) (by omega)
      subst e
      have hrd : rd_T49 ops (kk : Int) = ops[kk] := by
        unfold rd_T49
        simp [List.getD_eq_getElem?_getD, List.getElem?_eq_getElem hk]
      rw [hrd] at X0 X1 X2 X3
      have hxo := HX.out _ (List.getElem_mem hk)
      clear hrd hc
      generalize ops[kk] = o at X0 X1 X2 X3 hxo
      clear hk
      simp only [Int.toNat_natCast] at X0 X1 X2 X3
      have x0 := cellBe BW.out X0
      have x1 := cellBe BW.out X1
      have x2 := cellBe BW.out X2
      have x3 := cellBe BW.out X3
      obtain ⟨hw, hp2⟩ := hxo
      have hgood := GL.out
      have hd1 := pdo_eq n l o.f0 o.f1 o.f2 o.f3 hw hgood.2
      have hd2 := rdo_eq n l o.f0 o.f1 o.f2 o.f3 hp2 hw hgood.2 (Nat.le_trans (good_len hgood) (by decide))
      have hd3 := do_good (k := o.f0) (s := o.f1) (p := o.f2) hw hgood
      generalize doP n l o.f0 o.f1 o.f2 o.f3 = dd at *
      obtain ⟨n', l', e'⟩ := dd
      obtain ⟨hn', hg'⟩ := hd3
      simp only at hn' hg'
      subst hn'
      have HG := Lib.hid hg'
      clear hg' hgood GL hw hp2
      have q0 := (blk_cell H6.out 0).trans rfl
      have q1 := (blk_cell H6.out 1).trans rfl
      go_wp2_with fail
      have y0 := cellAl (.cells #[.int .i64 0, .slice none 0 0] 24 (0, 0)) x0
      have y1 := cellAl (.cells #[.int .i64 0, .slice none 0 0] 24 (0, 0)) x1
      have y2 := cellAl (.cells #[.int .i64 0, .slice none 0 0] 24 (0, 0)) x2
      have y3 := cellAl (.cells #[.int .i64 0, .slice none 0 0] 24 (0, 0)) x3
      have r0 := cellAl (.cells #[.int .i64 0, .slice none 0 0] 24 (0, 0)) q0
      have r1 := cellAl (.cells #[.int .i64 0, .slice none 0 0] 24 (0, 0)) q1
      have VB := vBound V1.out
      have l6 := blk_lt H6.out
      have l8 := blk_lt H8.out
      apply wp_ways (fun g A4 c4 w' => w'.heap[g]? = some (cellsT n' A4 l'.length c4) ∧ w'.heap[g6]? = some (cellsT n' A1 l.length c1) ∧ w'.heap[g8]? = some (cellsT n' A2 l.length c2) ∧ Kd.V k42 42 w' 0 (fun k => k ≠ g6 ∧ k ≠ g8) (.slice A2 l.length c2) l ∧ Kd.V k42 42 w' 0 (fun k => k ≠ g6 ∧ k ≠ g8) (.slice A4 l'.length c4) l' ∧ Below W.heap.size W w')
      · go_region_with (first | (go_at_call 28; refine (estoverslaw07_do.calls n' (fun k => (k ≠ g6 ∧ k ≠ g8) ∧ k < wr.heap.size) A1 c1 l o.f0 o.f1 o.f2 o.f3 n' l' e' _ (by repeat (first | exact VB | refine vAlloc ?_ _ | refine vDrewN ?_ _ | refine vDrew ?_)) hd1).mono ?_; rintro e w4 ⟨v4, rfl, V4, b4⟩; obtain ⟨A4, c4, rfl⟩ := Kd.V_slice V4; (try (have hq := blk_below (blk_drew (blk_new wr (.cells #[.int .i64 0, .slice none 0 0] 24 (0, 0)))) b4; have k1 := (blk_cell hq 0).trans rfl; have k2 := (blk_cell hq 1).trans rfl; have k3 := blk_frozen hq 0; have k4 := blk_frozen hq 1))))
        next =>
          refine ⟨w4.heap.size, A4, c4, ?_, blk_new w4 _, blkL1 H6.out b4, blkL1 H8.out b4, vL1 V2.out b4, nL1 l6 l8 V4, belL1 BW.out b4⟩
          generalize w4.heap.size = gg
          go_simp
          exact rfl
        all_goals first
          | (refine ⟨wr.heap.size, A4, c4, ?_, newL2 hq, blkL2 H6.out b4, blkL2 H8.out b4, vL2 V2.out b4, nL2 l6 l8 V4, belL2 BW.out b4⟩; exact rfl)
          | (refine ⟨w4.heap.size, A4, c4, ?_, blk_new w4 _, blkL1 H6.out b4, blkL1 H8.out b4, vL1 V2.out b4, nL1 l6 l8 V4, belL1 BW.out b4⟩; exact rfl)
      · intro g11 A4 c4 w5 h5
        obtain ⟨h11, h6, h8, V2', V4, d5⟩ := h5
        clear x0 x1 x2 x3 y0 y1 y2 y3 r0 r1 q0 q1 VB l6 l8 H6 H8 V1 V2 BW
        have x0 := cellBe d5 X0
        have x1 := cellBe d5 X1
        have x2 := cellBe d5 X2
        have x3 := cellBe d5 X3
        have y0 := cellAl (.cells #[.int .i64 0, .slice none 0 0] 24 (0, 0)) x0
        have y1 := cellAl (.cells #[.int .i64 0, .slice none 0 0] 24 (0, 0)) x1
        have y2 := cellAl (.cells #[.int .i64 0, .slice none 0 0] 24 (0, 0)) x2
        have y3 := cellAl (.cells #[.int .i64 0, .slice none 0 0] 24 (0, 0)) x3
        have q0 := (blk_cell h8 0).trans rfl
        have q1 := (blk_cell h8 1).trans rfl
        have r0 := cellAl (.cells #[.int .i64 0, .slice none 0 0] 24 (0, 0)) q0
        have r1 := cellAl (.cells #[.int .i64 0, .slice none 0 0] 24 (0, 0)) q1
        have VB := vBound V2'
        have l6 := blk_lt h6
        have l8 := blk_lt h8
        have HH6 := Lib.hid h6
        have HH8 := Lib.hid h8
        have HH11 := Lib.hid h11
        have HV4 := Lib.hid V4
        have HD5 := Lib.hid d5
        clear h6 h8 h11 V4 d5
        go_wp2_with fail
        apply wp_ways (fun g A5 c5 w' => g6 < g ∧ w'.heap[g]? = some (cellsT n' A5 l'.length c5) ∧ w'.heap[g11]? = some (cellsT n' A4 l'.length c4) ∧ w'.heap[g6]? = some (cellsT n' A1 l.length c1) ∧ w'.heap[g8]? = some (cellsT n' A2 l.length c2) ∧ Kd.V k42 42 w' 0 (fun k => k ≠ g6 ∧ k ≠ g8) (.slice A4 l'.length c4) l' ∧ Kd.V k42 42 w' 0 (fun k => k ≠ g6 ∧ k ≠ g8) (.slice A5 l'.length c5) l' ∧ Below W.heap.size W w')
        · go_region_with (first | (go_at_call 29; refine (estoversref07_Do.calls 600 n' (fun k => (k ≠ g6 ∧ k ≠ g8) ∧ k < w5.heap.size) A2 c2 l o.f0 o.f1 o.f2 o.f3 n' l' e' _ (by repeat (first | exact VB | refine vAlloc ?_ _ | refine vDrewN ?_ _ | refine vDrew ?_)) hd2).mono ?_; rintro e w6 ⟨v5, rfl, V5, b5⟩; obtain ⟨A5, c5, rfl⟩ := Kd.V_slice V5; (try (have hq := blk_below (blk_drew (blk_new w5 (.cells #[.int .i64 0, .slice none 0 0] 24 (0, 0)))) b5; have k1 := (blk_cell hq 0).trans rfl; have k2 := (blk_cell hq 1).trans rfl; have k3 := blk_frozen hq 0; have k4 := blk_frozen hq 1))))
          next =>
            refine ⟨w6.heap.size, A5, c5, ?_, Nat.lt_of_lt_of_le l6 b5.size, blk_new w6 _, blkL1 HH11.out b5, blkL1 HH6.out b5, blkL1 HH8.out b5, vL1 HV4.out b5, nL1 l6 l8 V5, belL1 HD5.out b5⟩
            generalize w6.heap.size = gg
            go_simp
            exact rfl
          all_goals first
            | (refine ⟨w5.heap.size, A5, c5, ?_, l6, newL2 hq, blkL2 HH11.out b5, blkL2 HH6.out b5, blkL2 HH8.out b5, vL2 HV4.out b5, nL2 l6 l8 V5, belL2 HD5.out b5⟩; exact rfl)
            | (refine ⟨w6.heap.size, A5, c5, ?_, Nat.lt_of_lt_of_le l6 b5.size, blk_new w6 _, blkL1 HH11.out b5, blkL1 HH6.out b5, blkL1 HH8.out b5, vL1 HV4.out b5, nL1 l6 l8 V5, belL1 HD5.out b5⟩; exact rfl)
        · intro g13 A5 c5 w7 h7
          clear x0 x1 x2 x3 y0 y1 y2 y3 r0 r1 q0 q1 VB l6 l8 HH6 HH8 HH11 HV4 HD5 V2'
          obtain ⟨h613, h13, h11, h6, h8, V4, V5, d7⟩ := h7
          have q0 := (blk_cell h11 0).trans rfl
          have q1 := (blk_cell h11 1).trans rfl
          have q2 := (blk_cell h13 0).trans rfl
          have q3 := (blk_cell h13 1).trans rfl
          have C4 := Kd.V_reads' V4
          have C5 := Kd.V_reads' V5
          have hsm := rsame_refl n' l' (by have := good_len HG.out; omega) 600 (by have := good_len HG.out; omega)
          go_wp2_with (first | (go_at_call 18; refine (estoversref07_Same.calls 600 n' A4 c4 l' n' A5 c5 l' true _ C4.2.2 C4.2.1 C5.2.2 C5.2.1 hsm).mono ?_; rintro e w8 ⟨rfl, b8⟩))
          clear q0 q1 q2 q3 C4 C5
          have k6 := blk_below h6 b8
          have k8 := blk_below h8 b8
          have q0 := (blk_cell (blk_below h11 b8) 0).trans rfl
          have q1 := (blk_cell (blk_below h11 b8) 1).trans rfl
          have q2 := (blk_cell (blk_below h13 b8) 0).trans rfl
          have q3 := (blk_cell (blk_below h13 b8) 1).trans rfl
          have f0 := (blk_cell k6 0).trans rfl
          have f1 := (blk_cell k6 1).trans rfl
          have f2 := blk_frozen k6 0
          have f3 := blk_frozen k6 1
          have f4 := (blk_cell k8 0).trans rfl
          have f5 := (blk_cell k8 1).trans rfl
          have f6 := blk_frozen k8 0
          have f7 := blk_frozen k8 1
          have hne1 : ¬ g6 = g8 := hne
          have hne3 : ¬ g13 = g6 := Nat.ne_of_gt h613
          have hne4 : ¬ g6 = g13 := Nat.ne_of_lt h613
          have hne2 : ¬ g8 = g6 := fun h => hne h.symm
          have V6 := Kd.V_below V4 b8
          have V7 := Kd.V_below V5 b8
          have d8 := bth b8 d7
          clear h11 h13 h6 h8 V4 V5 d7 b8
          apply wp_way1 (fun w' => w'.heap[g6]? = some (cellsT n' A4 l'.length c4) ∧ w'.heap[g8]? = some (cellsT n' A5 l'.length c5) ∧ Kd.V k42 42 w' 0 (fun k => k ≠ g6 ∧ k ≠ g8) (.slice A4 l'.length c4) l' ∧ Kd.V k42 42 w' 0 (fun k => k ≠ g6 ∧ k ≠ g8) (.slice A5 l'.length c5) l' ∧ Below W.heap.size W w')
          · go_region
            next =>
              refine ⟨?_, fin6 hne k6, fin8 hne k8, finV V6, finV V7, by first | exact finB hle6 hle8 d8 | exact below_drew1 (finB hle6 hle8 d8)⟩
              go_simp
              exact rfl
            all_goals (refine ⟨?_, fin6 hne k6, fin8 hne k8, finV V6, finV V7, by first | exact finB hle6 hle8 d8 | exact below_drew1 (finB hle6 hle8 d8)⟩; exact rfl)
          · intro w9 h9
            obtain ⟨j6, j8, V8, V9, d9⟩ := h9
            have hw : wrap64 ((kk : Int) + 1) = ((kk + 1 : Nat) : Int) := by rw [w64 (by omega) (by omega)]; omega
            go_wp2_with fail
            (try rw [hw])
            go_roundg (m - (kk + 1))
            case measure => omega
            case rel => exact ⟨kk + 1, by omega, by omega, by first | rfl | simp, l', A4, A5, c4, c5, HG, Lib.hid j6, Lib.hid j8, Lib.hid V8, Lib.hid V9, Lib.hid d9⟩
    · have hle : ¬ (kk : Int) < (m : Int) := by omega
      go_wp2_with fail
      refine (estoverslaw07_awake.calls true _ rfl).mono ?_
      rintro e w' ⟨rfl, hb⟩
      have hb' := bth hb BW.out
      go_wp2
      go_ret
      exact ⟨rfl, hb'⟩
end Go.Proofs.Ytkbnhphcmlljgaa.Hand
