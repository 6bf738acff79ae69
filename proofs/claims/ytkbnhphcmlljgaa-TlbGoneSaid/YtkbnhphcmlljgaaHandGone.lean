/- estoverslaw07.TlbGone, walked. -/
import Derived.Test.YtkbnhphcmlljgaaHandWay
import Derived.Test.YtkbnhphcmlljgaaTlbPl
import Derived.Test.YtkbnhphcmlljgaaHandRemove
import Derived.Test.YtkbnhphcmlljgaaTlbGoneP
import Derived.Test.YtkbnhphcmlljgaaPx10
set_option linter.unusedVariables false
set_option linter.unusedSimpArgs false
namespace Go.Proofs.Ytkbnhphcmlljgaa.Hand
open Go.RowKit Go.Proofs.Ytkbnhphcmlljgaa.P Go.Proofs.Ytkbnhphcmlljgaa.TlbP Go.Proofs.Ytkbnhphcmlljgaa.TlbRef Go.Proofs.Ytkbnhphcmlljgaa.Pte Go.Proofs.YtkbnhphcmlljgaaW.PrintWords Go.Proofs.YtkbnhphcmlljgaaW.PrintLast Go.Shelf

set_option maxHeartbeats 8000000 in
set_option maxRecDepth 100000 in
theorem gone_few (n : Int) (A : Option Addr) (c : Nat) (l : List E) (s p x : Int) (W : World) (hC : Kd.C k42 W A l.length l) (hc : l.length ≤ c) (hfew : estoversref07_Few.f n l 20 = some false) :
    Calls Try.prog 10 #[.agg #[.int .i64 n, .slice A l.length c], .agg #[.int .i64 s, .int .i64 p], .int .u64 x] W fun e w' => e = .returned (.bool true) ∧ Below W.heap.size W w' := by
  have HC := Lib.hid hC
  clear hC
  go_enter Try.func10, Try.ntmps10
  go_wp2_with fail
  refine (estoversref07_Few.calls n A c l 20 false _ (Kd.C_below HC.out (bal _ (bal _ (Below.refl _ _)))) hc hfew).mono ?_
  rintro e w1 ⟨rfl, b1⟩
  have h3 := blk_below (blk_alloc (blk_new W (cellsT n A l.length c)) (.cells #[.int .i64 s, .int .i64 p] 35 (0, 0))) b1
  have h4 := blk_below (pair_new W (cellsT n A l.length c) (.cells #[.int .i64 s, .int .i64 p] 35 (0, 0))) b1
  have d1 := bth b1 (bal (.cells #[.int .i64 s, .int .i64 p] 35 (0, 0)) (bal (cellsT n A l.length c) (Below.refl W.heap.size W)))
  have q0 := (blk_cell h3 0).trans rfl
  have q1 := (blk_cell h3 1).trans rfl
  clear b1
  go_wp2_with fail
  refine (estoverslaw07_awake.calls true _ rfl).mono ?_
  rintro e wz ⟨rfl, bz⟩
  have dz := bth bz d1
  go_wp2
  go_ret
  exact ⟨rfl, dz⟩
set_option maxHeartbeats 8000000 in
set_option maxRecDepth 100000 in
theorem gone_check (n : Int) (A : Option Addr) (c : Nat) (l : List E) (s p x : Int) (W : World) (hC : Kd.C k42 W A l.length l) (hc : l.length ≤ c) (hfew : estoversref07_Few.f n l 20 = some true) (r : Int) (hr : r ≠ 0) (hchk : estoversref07_Check.f 600 n l = some r) :
    Calls Try.prog 10 #[.agg #[.int .i64 n, .slice A l.length c], .agg #[.int .i64 s, .int .i64 p], .int .u64 x] W fun e w' => e = .returned (.bool true) ∧ Below W.heap.size W w' := by
  have hr1 : (r == 0) = false := beq_eq_false_iff_ne.2 hr
  have HC := Lib.hid hC
  clear hC
  go_enter Try.func10, Try.ntmps10
  go_wp2_with fail
  refine (estoversref07_Few.calls n A c l 20 true _ (Kd.C_below HC.out (bal _ (bal _ (Below.refl _ _)))) hc hfew).mono ?_
  rintro e w1 ⟨rfl, b1⟩
  have h3 := blk_below (blk_alloc (blk_new W (cellsT n A l.length c)) (.cells #[.int .i64 s, .int .i64 p] 35 (0, 0))) b1
  have h4 := blk_below (pair_new W (cellsT n A l.length c) (.cells #[.int .i64 s, .int .i64 p] 35 (0, 0))) b1
  have d1 := bth b1 (bal (.cells #[.int .i64 s, .int .i64 p] 35 (0, 0)) (bal (cellsT n A l.length c) (Below.refl W.heap.size W)))
  have q0 := (blk_cell h3 0).trans rfl
  have q1 := (blk_cell h3 1).trans rfl
  clear b1
  go_wp2_with fail
  refine (estoversref07_Check.calls 600 n A c l r _ (Kd.C_below HC.out d1) hc hchk).mono ?_
  rintro e w2 ⟨rfl, b2⟩
  have d2 := bth b2 d1
  have h3' := blk_below h3 b2
  have h4' := blk_below h4 b2
  clear b2 d1 h3 h4 q0 q1
  go_wp2_with fail
  refine (estoverslaw07_awake.calls true _ rfl).mono ?_
  rintro e wz ⟨rfl, bz⟩
  have dz := bth bz d2
  go_wp2
  go_ret
  exact ⟨rfl, dz⟩
set_option maxHeartbeats 8000000 in
set_option maxRecDepth 100000 in
theorem gone_err_err (n : Int) (A : Option Addr) (c : Nat) (l : List E) (s p x : Int) (W : World) (hC : Kd.C k42 W A l.length l) (hc : l.length ≤ c) (hfew : estoversref07_Few.f n l 20 = some true) (hchk : estoversref07_Check.f 600 n l = some 0) (f1 : Int) (f2 : List E) (f3 : Int) (hf3 : f3 ≠ 0) (hf : tlb_Fill.f n l s p x = some (f1, f2, f3)) (t1 : Int) (t2 : List E) (t3 : Int) (ht3 : t3 ≠ 0) (hfl : tlb_Flush.f n l s = some (t1, t2, t3)) :
    Calls Try.prog 10 #[.agg #[.int .i64 n, .slice A l.length c], .agg #[.int .i64 s, .int .i64 p], .int .u64 x] W fun e w' => e = .returned (.bool true) ∧ Below W.heap.size W w' := by
  have hf31 : (f3 == 0) = false := beq_eq_false_iff_ne.2 hf3
  have ht31 : (t3 == 0) = false := beq_eq_false_iff_ne.2 ht3
  have HC := Lib.hid hC
  clear hC
  go_enter Try.func10, Try.ntmps10
  go_wp2_with fail
  refine (estoversref07_Few.calls n A c l 20 true _ (Kd.C_below HC.out (bal _ (bal _ (Below.refl _ _)))) hc hfew).mono ?_
  rintro e w1 ⟨rfl, b1⟩
  have h3 := blk_below (blk_alloc (blk_new W (cellsT n A l.length c)) (.cells #[.int .i64 s, .int .i64 p] 35 (0, 0))) b1
  have h4 := blk_below (pair_new W (cellsT n A l.length c) (.cells #[.int .i64 s, .int .i64 p] 35 (0, 0))) b1
  have d1 := bth b1 (bal (.cells #[.int .i64 s, .int .i64 p] 35 (0, 0)) (bal (cellsT n A l.length c) (Below.refl W.heap.size W)))
  have q0 := (blk_cell h3 0).trans rfl
  have q1 := (blk_cell h3 1).trans rfl
  clear b1
  go_wp2_with fail
  refine (estoversref07_Check.calls 600 n A c l 0 _ (Kd.C_below HC.out d1) hc hchk).mono ?_
  rintro e w2 ⟨rfl, b2⟩
  have d2 := bth b2 d1
  have h3' := blk_below h3 b2
  have h4' := blk_below h4 b2
  clear b2 d1 h3 h4 q0 q1
  have k0 := (blk_cell h4' 0).trans rfl
  have k1 := (blk_cell h4' 1).trans rfl
  go_wp2_with fail
  apply wp_way1 (fun w' => w'.heap[W.heap.size]? = some (cellsT n A l.length c) ∧ Below W.heap.size W w')
  · go_region
    next =>
      refine ⟨?_, h3', by first | exact d2 | exact below_drew1 d2⟩
      go_simp
      exact rfl
    all_goals (refine ⟨?_, h3', by first | exact d2 | exact below_drew1 d2⟩; exact rfl)
  rintro w3 ⟨h3, d3⟩
  have p0 := (blk_cell h3 0).trans rfl
  have p1 := (blk_cell h3 1).trans rfl
  go_wp2_with fail
  clear p0 p1
  refine (tlb_Fill.calls n A c l s p x f1 f2 f3 _ (Kd.C_below HC.out d3) hc hf).mono ?_
  rintro e w4 ⟨v4, rfl, V4, b4⟩
  obtain ⟨A9, c9, rfl⟩ := Kd.V_slice V4
  have d7 := bal (cellsT f1 A9 f2.length c9) (bth b4 d3)
  have h37 := blk_alloc (blk_below h3 b4) (cellsT f1 A9 f2.length c9)
  clear V4 b4 h3 d3
  have q4 := (blk_cell h37 0).trans rfl
  have q5 := (blk_cell h37 1).trans rfl
  go_wp2_with fail
  refine (tlb_Flush.calls n A c l s t1 t2 t3 _ (Kd.C_below HC.out d7) hc hfl).mono ?_
  rintro e w8 ⟨v8, rfl, V8, b8⟩
  obtain ⟨A15, c15, rfl⟩ := Kd.V_slice V8
  have d8 := bal (cellsT t1 A15 t2.length c15) (bth b8 d7)
  clear V8 b8 d7
  go_wp2_with fail
  refine (estoverslaw07_awake.calls true _ rfl).mono ?_
  rintro e wz ⟨rfl, bz⟩
  have dz := bth bz d8
  go_wp2
  go_ret
  exact ⟨rfl, dz⟩
set_option maxHeartbeats 8000000 in
set_option maxRecDepth 100000 in
theorem gone_err_ok (n : Int) (A : Option Addr) (c : Nat) (l : List E) (s p x : Int) (W : World) (hC : Kd.C k42 W A l.length l) (hc : l.length ≤ c) (hfew : estoversref07_Few.f n l 20 = some true) (hchk : estoversref07_Check.f 600 n l = some 0) (f1 : Int) (f2 : List E) (f3 : Int) (hf3 : f3 ≠ 0) (hf : tlb_Fill.f n l s p x = some (f1, f2, f3)) (hL : l.length ≤ 1000) (hfl : tlb_Flush.f n l s = some (n, others s l, 0)) (hcovz : tlb_Covers.f 600 n (others s l) s p = some false) :
    Calls Try.prog 10 #[.agg #[.int .i64 n, .slice A l.length c], .agg #[.int .i64 s, .int .i64 p], .int .u64 x] W fun e w' => e = .returned (.bool true) ∧ Below W.heap.size W w' := by
  have hf31 : (f3 == 0) = false := beq_eq_false_iff_ne.2 hf3
  have HL := Lib.hid hL
  clear hL
  have HC := Lib.hid hC
  clear hC
  go_enter Try.func10, Try.ntmps10
  go_wp2_with fail
  refine (estoversref07_Few.calls n A c l 20 true _ (Kd.C_below HC.out (bal _ (bal _ (Below.refl _ _)))) hc hfew).mono ?_
  rintro e w1 ⟨rfl, b1⟩
  have h3 := blk_below (blk_alloc (blk_new W (cellsT n A l.length c)) (.cells #[.int .i64 s, .int .i64 p] 35 (0, 0))) b1
  have h4 := blk_below (pair_new W (cellsT n A l.length c) (.cells #[.int .i64 s, .int .i64 p] 35 (0, 0))) b1
  have d1 := bth b1 (bal (.cells #[.int .i64 s, .int .i64 p] 35 (0, 0)) (bal (cellsT n A l.length c) (Below.refl W.heap.size W)))
  have q0 := (blk_cell h3 0).trans rfl
  have q1 := (blk_cell h3 1).trans rfl
  clear b1
  go_wp2_with fail
  refine (estoversref07_Check.calls 600 n A c l 0 _ (Kd.C_below HC.out d1) hc hchk).mono ?_
  rintro e w2 ⟨rfl, b2⟩
  have d2 := bth b2 d1
  have h3' := blk_below h3 b2
  have h4' := blk_below h4 b2
  clear b2 d1 h3 h4 q0 q1
  have k0 := (blk_cell h4' 0).trans rfl
  have k1 := (blk_cell h4' 1).trans rfl
  go_wp2_with fail
  apply wp_way1 (fun w' => w'.heap[W.heap.size]? = some (cellsT n A l.length c) ∧ Below W.heap.size W w')
  · go_region
    next =>
      refine ⟨?_, h3', by first | exact d2 | exact below_drew1 d2⟩
      go_simp
      exact rfl
    all_goals (refine ⟨?_, h3', by first | exact d2 | exact below_drew1 d2⟩; exact rfl)
  rintro w3 ⟨h3, d3⟩
  have p0 := (blk_cell h3 0).trans rfl
  have p1 := (blk_cell h3 1).trans rfl
  go_wp2_with fail
  clear p0 p1
  refine (tlb_Fill.calls n A c l s p x f1 f2 f3 _ (Kd.C_below HC.out d3) hc hf).mono ?_
  rintro e w4 ⟨v4, rfl, V4, b4⟩
  obtain ⟨A9, c9, rfl⟩ := Kd.V_slice V4
  have d7 := bal (cellsT f1 A9 f2.length c9) (bth b4 d3)
  have h37 := blk_alloc (blk_below h3 b4) (cellsT f1 A9 f2.length c9)
  clear V4 b4 h3 d3
  have q4 := (blk_cell h37 0).trans rfl
  have q5 := (blk_cell h37 1).trans rfl
  go_wp2_with fail
  refine (tlb_Flush.calls n A c l s n (others s l) 0 _ (Kd.C_below HC.out d7) hc hfl).mono ?_
  rintro e w8 ⟨v8, rfl, V8, b8⟩
  obtain ⟨A15, c15, rfl⟩ := Kd.V_slice V8
  obtain ⟨_, hc15, C15⟩ := Kd.V_reads' V8
  have h38 := blk_alloc (blk_below h37 b8) (cellsT n A15 (others s l).length c15)
  have h15 := blk_new w8 (cellsT n A15 (others s l).length c15)
  have d8 := bal (cellsT n A15 (others s l).length c15) (bth b8 d7)
  have C158 := Kd.C_below C15 (bal (cellsT n A15 (others s l).length c15) (Below.refl w8.heap.size w8))
  clear V8 b8 d7 h37 C15 q4 q5
  clear hfew hchk hf hf3
  go_wp2_with fail
  go_loopg [17, 18] l.length (fun gg s17 s18 wr => ∃ kk : Nat, kk ≤ l.length ∧ l.length - kk ≤ gg ∧ s18 = .int .i64 kk ∧ s17 = .int .i64 ((others s (l.take kk)).length : Nat) ∧ Hid (wr.heap[W.heap.size]? = some (cellsT n A l.length c)) ∧ Hid (wr.heap[w8.heap.size]? = some (cellsT n A15 (others s l).length c15)) ∧ Hid (Kd.C k42 wr A15 (others s l).length (others s l)) ∧ Hid (Below W.heap.size W wr))
  case atStart => exact ⟨0, Nat.zero_le _, by omega, rfl, by simp [others, kept], Lib.hid h38, Lib.hid h15, Lib.hid C158, Lib.hid d8⟩
  case round =>
    clear h38 h15 C158 d8
    generalize w8.heap.size = g15 at *
    obtain ⟨kk, hkk, hg, rfl, rfl, H3, H15, CZ, BW⟩ := hrel
    have q0 := (blk_cell H3.out 0).trans rfl
    have q1 := (blk_cell H3.out 1).trans rfl
    have z0 := (blk_cell H15.out 0).trans rfl
    have z1 := (blk_cell H15.out 1).trans rfl
    by_cases hlt : kk < l.length
    · have hltz : (kk : Int) < (l.length : Int) := Int.ofNat_lt.2 hlt
      have hms : l.length - (kk + 1) < gk := Nat.lt_of_lt_of_le (Nat.sub_lt_sub_left hlt (Nat.lt_succ_self kk)) hg
      have hw : wrap64 ((kk : Int) + 1) = ((kk + 1 : Nat) : Int) := by rw [w64 (by omega) (by have := HL.out; omega)]; omega
      obtain ⟨ad, e, X0, X1, X2⟩ := at_T42 HC.out (kk : Int) (Int.natCast_nonneg kk) hltz
      rw [e] at q1
      clear e
      rw [rd_get l kk hlt] at X0 X1 X2
      simp only [Int.toNat_natCast] at X0 X1 X2
      have x0 := cellBe BW.out X0
      have x1 := cellBe BW.out X1
      have x2 := cellBe BW.out X2
      clear X0 X1 X2
      have OA := Lib.hid (others_at s l kk hlt)
      by_cases hs : l[kk].f0 = s
      · have HO : Hid (others s (l.take (kk + 1)) = others s (l.take kk)) := Lib.hid (by rw [OA.out, if_pos hs])
        have hs1 : (l[kk].f0 == s) = true := beq_iff_eq.2 hs
        clear OA
        generalize l[kk] = y at *
        go_wp2_with fail
        (try rw [hw])
        go_roundg (l.length - (kk + 1))
        case measure => exact hms
        case rel => exact ⟨kk + 1, hlt, Nat.le_refl _, by first | rfl | simp, by rw [HO.out], H3, H15, CZ, BW⟩
      · have HO : Hid ((others s (l.take (kk + 1))).length = (others s (l.take kk)).length + 1) := Lib.hid (by rw [OA.out, if_neg hs]; simp)
        have hs1 : (l[kk].f0 == s) = false := beq_eq_false_iff_ne.2 hs
        obtain ⟨hj, ej⟩ := others_next s l kk hlt hs
        have hjl := Nat.le_trans (Nat.le_of_lt hj) (others_len s l)
        have hw2 : wrap64 (((others s (l.take kk)).length : Int) + 1) = (((others s (l.take kk)).length + 1 : Nat) : Int) := by rw [w64 (by omega) (by have := HL.out; omega)]; omega
        have hjz : ((others s (l.take kk)).length : Int) < ((others s l).length : Int) := Int.ofNat_lt.2 hj
        obtain ⟨az, e, Y0, Y1, Y2⟩ := at_T42 CZ.out ((others s (l.take kk)).length : Int) (Int.natCast_nonneg _) hjz
        rw [e] at z1
        clear e
        rw [rd_get _ _ hj, ej] at Y0 Y1 Y2
        simp only [Int.toNat_natCast] at Y0 Y1 Y2
        have hjz2 : ¬ ((others s l).length : Int) ≤ ((others s (l.take kk)).length : Int) := Int.not_le.2 hjz
        have hjz3 : decide (((others s l).length : Int) ≤ ((others s (l.take kk)).length : Int)) = false := decide_eq_false hjz2
        have hjz5 : decide ((others s l).length ≤ (others s (l.take kk)).length) = false := decide_eq_false (Nat.not_le.2 hj)
        have hjz4 : decide (((others s (l.take kk)).length : Int) < ((others s l).length : Int)) = true := decide_eq_true hjz
        have hlt4 : decide ((kk : Int) < (l.length : Int)) = true := decide_eq_true hltz
        clear ej hj hjl OA
        generalize l[kk] = y at *
        generalize (others s (l.take kk)).length = jj at *
        go_wp2_with fail
        go_quiet (fail)
        have j3 := blk_drewN H3.out nq
        have j15 := blk_drewN H15.out nq
        have jC := Kd.C_below CZ.out (pw_below_drewN (Below.refl _ wr) nq)
        have jB := pw_below_drewN BW.out nq
        go_wp2_with fail
        (try rw [hw])
        (try rw [hw2])
        go_roundg (l.length - (kk + 1))
        case measure => exact hms
        case rel => exact ⟨kk + 1, hlt, Nat.le_refl _, by first | rfl | simp, by rw [HO.out], Lib.hid j3, Lib.hid j15, Lib.hid jC, Lib.hid jB⟩
    · have hle : ¬ (kk : Int) < (l.length : Int) := by omega
      have HK : Hid (kk = l.length) := Lib.hid (by omega)
      have hlen : (others s (l.take kk)).length = (others s l).length := by rw [HK.out, List.take_length]
      rw [hlen]
      go_wp2_with fail
      refine (tlb_Covers.calls 600 n A15 c15 (others s l) s p false _ CZ.out hc15 hcovz).mono ?_
      rintro e wy ⟨rfl, by1⟩
      have dy := bth by1 BW.out
      go_wp2_with fail
      refine (estoverslaw07_awake.calls true _ rfl).mono ?_
      rintro e wz ⟨rfl, bz⟩
      have dz := bth bz dy
      go_wp2
      go_ret
      exact ⟨rfl, dz⟩
set_option maxHeartbeats 8000000 in
set_option maxRecDepth 100000 in
theorem gone_ok_err (n : Int) (A : Option Addr) (c : Nat) (l : List E) (s p x : Int) (W : World) (hC : Kd.C k42 W A l.length l) (hc : l.length ≤ c) (hfew : estoversref07_Few.f n l 20 = some true) (hchk : estoversref07_Check.f 600 n l = some 0) (F Y : List E) (hf : tlb_Fill.f n l s p x = some (n, F, 0)) (hlook : tlb_Lookup.f 600 n F s p = some (x, true)) (hinv : tlb_Invalidate.f n F s p = some (n, Y, 0)) (hcov : tlb_Covers.f 600 n Y s p = some false) (hlen : wrap64 ((Y.length : Int) + 1) = (F.length : Int)) (t1 : Int) (t2 : List E) (t3 : Int) (ht3 : t3 ≠ 0) (hfl : tlb_Flush.f n l s = some (t1, t2, t3)) :
    Calls Try.prog 10 #[.agg #[.int .i64 n, .slice A l.length c], .agg #[.int .i64 s, .int .i64 p], .int .u64 x] W fun e w' => e = .returned (.bool true) ∧ Below W.heap.size W w' := by
  have ht31 : (t3 == 0) = false := beq_eq_false_iff_ne.2 ht3
  have HC := Lib.hid hC
  clear hC
  go_enter Try.func10, Try.ntmps10
  go_wp2_with fail
  refine (estoversref07_Few.calls n A c l 20 true _ (Kd.C_below HC.out (bal _ (bal _ (Below.refl _ _)))) hc hfew).mono ?_
  rintro e w1 ⟨rfl, b1⟩
  have h3 := blk_below (blk_alloc (blk_new W (cellsT n A l.length c)) (.cells #[.int .i64 s, .int .i64 p] 35 (0, 0))) b1
  have h4 := blk_below (pair_new W (cellsT n A l.length c) (.cells #[.int .i64 s, .int .i64 p] 35 (0, 0))) b1
  have d1 := bth b1 (bal (.cells #[.int .i64 s, .int .i64 p] 35 (0, 0)) (bal (cellsT n A l.length c) (Below.refl W.heap.size W)))
  have q0 := (blk_cell h3 0).trans rfl
  have q1 := (blk_cell h3 1).trans rfl
  clear b1
  go_wp2_with fail
  refine (estoversref07_Check.calls 600 n A c l 0 _ (Kd.C_below HC.out d1) hc hchk).mono ?_
  rintro e w2 ⟨rfl, b2⟩
  have d2 := bth b2 d1
  have h3' := blk_below h3 b2
  have h4' := blk_below h4 b2
  clear b2 d1 h3 h4 q0 q1
  have k0 := (blk_cell h4' 0).trans rfl
  have k1 := (blk_cell h4' 1).trans rfl
  go_wp2_with fail
  apply wp_way1 (fun w' => w'.heap[W.heap.size]? = some (cellsT n A l.length c) ∧ Below W.heap.size W w')
  · go_region
    next =>
      refine ⟨?_, h3', by first | exact d2 | exact below_drew1 d2⟩
      go_simp
      exact rfl
    all_goals (refine ⟨?_, h3', by first | exact d2 | exact below_drew1 d2⟩; exact rfl)
  rintro w3 ⟨h3, d3⟩
  have p0 := (blk_cell h3 0).trans rfl
  have p1 := (blk_cell h3 1).trans rfl
  go_wp2_with fail
  clear p0 p1
  refine (tlb_Fill.calls n A c l s p x n F 0 _ (Kd.C_below HC.out d3) hc hf).mono ?_
  rintro e w4 ⟨v4, rfl, V4, b4⟩
  obtain ⟨A9, c9, rfl⟩ := Kd.V_slice V4
  obtain ⟨_, hc9, C9⟩ := Kd.V_reads' V4
  have d4 := bth b4 d3
  have h34 := blk_below h3 b4
  clear V4 b4 h3 d3
  go_wp2_with fail
  refine (tlb_Lookup.calls 600 n A9 c9 F s p x true _ (Kd.C_below C9 (bal _ (Below.refl _ _))) hc9 hlook).mono ?_
  rintro e w5 ⟨rfl, b5⟩
  have h9 := blk_below (blk_new w4 (cellsT n A9 F.length c9)) b5
  have C95 := Kd.C_below C9 (bth b5 (bal _ (Below.refl _ _)))
  have d5 := bth b5 (bal _ d4)
  have h35 := blk_below (blk_alloc h34 _) b5
  generalize w4.heap.size = g9 at *
  clear b5 h34 d4 C9
  have q0 := (blk_cell h9 0).trans rfl
  have q1 := (blk_cell h9 1).trans rfl
  go_wp2_with fail
  refine (tlb_Invalidate.calls n A9 c9 F s p n Y 0 _ C95 hc9 hinv).mono ?_
  rintro e w6 ⟨v6, rfl, V6, b6⟩
  obtain ⟨A13, c13, rfl⟩ := Kd.V_slice V6
  obtain ⟨_, hc13, C13⟩ := Kd.V_reads' V6
  have d6 := bth b6 d5
  have h36 := blk_below h35 b6
  have h96 := blk_below h9 b6
  clear V6 b6 h35 h9 d5 q0 q1 C95
  go_wp2_with fail
  refine (tlb_Covers.calls 600 n A13 c13 Y s p false _ (Kd.C_below C13 (bal _ (Below.refl _ _))) hc13 hcov).mono ?_
  rintro e w7 ⟨rfl, b7⟩
  have h13 := blk_below (blk_new w6 (cellsT n A13 Y.length c13)) b7
  have h97 := blk_below (blk_alloc h96 _) b7
  have h37 := blk_below (blk_alloc h36 _) b7
  have d7 := bth b7 (bal _ d6)
  generalize w6.heap.size = g13 at *
  clear b7 h96 h36 d6 C13
  have q0 := (blk_cell h97 0).trans rfl
  have q1 := (blk_cell h97 1).trans rfl
  have q2 := (blk_cell h13 0).trans rfl
  have q3 := (blk_cell h13 1).trans rfl
  have q4 := (blk_cell h37 0).trans rfl
  have q5 := (blk_cell h37 1).trans rfl
  go_wp2_with fail
  refine (tlb_Flush.calls n A c l s t1 t2 t3 _ (Kd.C_below HC.out d7) hc hfl).mono ?_
  rintro e w8 ⟨v8, rfl, V8, b8⟩
  obtain ⟨A15, c15, rfl⟩ := Kd.V_slice V8
  have d8 := bal (cellsT t1 A15 t2.length c15) (bth b8 d7)
  clear V8 b8 d7
  go_wp2_with fail
  refine (estoverslaw07_awake.calls true _ rfl).mono ?_
  rintro e wz ⟨rfl, bz⟩
  have dz := bth bz d8
  go_wp2
  go_ret
  exact ⟨rfl, dz⟩
set_option maxHeartbeats 8000000 in
set_option maxRecDepth 100000 in
theorem gone_ok_ok (n : Int) (A : Option Addr) (c : Nat) (l : List E) (s p x : Int) (W : World) (hC : Kd.C k42 W A l.length l) (hc : l.length ≤ c) (hfew : estoversref07_Few.f n l 20 = some true) (hchk : estoversref07_Check.f 600 n l = some 0) (F Y : List E) (hf : tlb_Fill.f n l s p x = some (n, F, 0)) (hlook : tlb_Lookup.f 600 n F s p = some (x, true)) (hinv : tlb_Invalidate.f n F s p = some (n, Y, 0)) (hcov : tlb_Covers.f 600 n Y s p = some false) (hlen : wrap64 ((Y.length : Int) + 1) = (F.length : Int)) (hL : l.length ≤ 1000) (hfl : tlb_Flush.f n l s = some (n, others s l, 0)) (hcovz : tlb_Covers.f 600 n (others s l) s p = some false) :
    Calls Try.prog 10 #[.agg #[.int .i64 n, .slice A l.length c], .agg #[.int .i64 s, .int .i64 p], .int .u64 x] W fun e w' => e = .returned (.bool true) ∧ Below W.heap.size W w' := by
  have HL := Lib.hid hL
  clear hL
  have HC := Lib.hid hC
  clear hC
  go_enter Try.func10, Try.ntmps10
  go_wp2_with fail
  refine (estoversref07_Few.calls n A c l 20 true _ (Kd.C_below HC.out (bal _ (bal _ (Below.refl _ _)))) hc hfew).mono ?_
  rintro e w1 ⟨rfl, b1⟩
  have h3 := blk_below (blk_alloc (blk_new W (cellsT n A l.length c)) (.cells #[.int .i64 s, .int .i64 p] 35 (0, 0))) b1
  have h4 := blk_below (pair_new W (cellsT n A l.length c) (.cells #[.int .i64 s, .int .i64 p] 35 (0, 0))) b1
  have d1 := bth b1 (bal (.cells #[.int .i64 s, .int .i64 p] 35 (0, 0)) (bal (cellsT n A l.length c) (Below.refl W.heap.size W)))
  have q0 := (blk_cell h3 0).trans rfl
  have q1 := (blk_cell h3 1).trans rfl
  clear b1
  go_wp2_with fail
  refine (estoversref07_Check.calls 600 n A c l 0 _ (Kd.C_below HC.out d1) hc hchk).mono ?_
  rintro e w2 ⟨rfl, b2⟩
  have d2 := bth b2 d1
  have h3' := blk_below h3 b2
  have h4' := blk_below h4 b2
  clear b2 d1 h3 h4 q0 q1
  have k0 := (blk_cell h4' 0).trans rfl
  have k1 := (blk_cell h4' 1).trans rfl
  go_wp2_with fail
  apply wp_way1 (fun w' => w'.heap[W.heap.size]? = some (cellsT n A l.length c) ∧ Below W.heap.size W w')
  · go_region
    next =>
      refine ⟨?_, h3', by first | exact d2 | exact below_drew1 d2⟩
      go_simp
      exact rfl
    all_goals (refine ⟨?_, h3', by first | exact d2 | exact below_drew1 d2⟩; exact rfl)
  rintro w3 ⟨h3, d3⟩
  have p0 := (blk_cell h3 0).trans rfl
  have p1 := (blk_cell h3 1).trans rfl
  go_wp2_with fail
  clear p0 p1
  refine (tlb_Fill.calls n A c l s p x n F 0 _ (Kd.C_below HC.out d3) hc hf).mono ?_
  rintro e w4 ⟨v4, rfl, V4, b4⟩
  obtain ⟨A9, c9, rfl⟩ := Kd.V_slice V4
  obtain ⟨_, hc9, C9⟩ := Kd.V_reads' V4
  have d4 := bth b4 d3
  have h34 := blk_below h3 b4
  clear V4 b4 h3 d3
  go_wp2_with fail
  refine (tlb_Lookup.calls 600 n A9 c9 F s p x true _ (Kd.C_below C9 (bal _ (Below.refl _ _))) hc9 hlook).mono ?_
  rintro e w5 ⟨rfl, b5⟩
  have h9 := blk_below (blk_new w4 (cellsT n A9 F.length c9)) b5
  have C95 := Kd.C_below C9 (bth b5 (bal _ (Below.refl _ _)))
  have d5 := bth b5 (bal _ d4)
  have h35 := blk_below (blk_alloc h34 _) b5
  generalize w4.heap.size = g9 at *
  clear b5 h34 d4 C9
  have q0 := (blk_cell h9 0).trans rfl
  have q1 := (blk_cell h9 1).trans rfl
  go_wp2_with fail
  refine (tlb_Invalidate.calls n A9 c9 F s p n Y 0 _ C95 hc9 hinv).mono ?_
  rintro e w6 ⟨v6, rfl, V6, b6⟩
  obtain ⟨A13, c13, rfl⟩ := Kd.V_slice V6
  obtain ⟨_, hc13, C13⟩ := Kd.V_reads' V6
  have d6 := bth b6 d5
  have h36 := blk_below h35 b6
  have h96 := blk_below h9 b6
  clear V6 b6 h35 h9 d5 q0 q1 C95
  go_wp2_with fail
  refine (tlb_Covers.calls 600 n A13 c13 Y s p false _ (Kd.C_below C13 (bal _ (Below.refl _ _))) hc13 hcov).mono ?_
  rintro e w7 ⟨rfl, b7⟩
  have h13 := blk_below (blk_new w6 (cellsT n A13 Y.length c13)) b7
  have h97 := blk_below (blk_alloc h96 _) b7
  have h37 := blk_below (blk_alloc h36 _) b7
  have d7 := bth b7 (bal _ d6)
  generalize w6.heap.size = g13 at *
  clear b7 h96 h36 d6 C13
  have q0 := (blk_cell h97 0).trans rfl
  have q1 := (blk_cell h97 1).trans rfl
  have q2 := (blk_cell h13 0).trans rfl
  have q3 := (blk_cell h13 1).trans rfl
  have q4 := (blk_cell h37 0).trans rfl
  have q5 := (blk_cell h37 1).trans rfl
  go_wp2_with fail
  refine (tlb_Flush.calls n A c l s n (others s l) 0 _ (Kd.C_below HC.out d7) hc hfl).mono ?_
  rintro e w8 ⟨v8, rfl, V8, b8⟩
  obtain ⟨A15, c15, rfl⟩ := Kd.V_slice V8
  obtain ⟨_, hc15, C15⟩ := Kd.V_reads' V8
  have h38 := blk_alloc (blk_below h37 b8) (cellsT n A15 (others s l).length c15)
  have h15 := blk_new w8 (cellsT n A15 (others s l).length c15)
  have d8 := bal (cellsT n A15 (others s l).length c15) (bth b8 d7)
  have C158 := Kd.C_below C15 (bal (cellsT n A15 (others s l).length c15) (Below.refl w8.heap.size w8))
  clear V8 b8 d7 h37 C15 q4 q5
  clear hfew hchk hf hlook hinv hcov hlen
  go_wp2_with fail
  go_loopg [17, 18] l.length (fun gg s17 s18 wr => ∃ kk : Nat, kk ≤ l.length ∧ l.length - kk ≤ gg ∧ s18 = .int .i64 kk ∧ s17 = .int .i64 ((others s (l.take kk)).length : Nat) ∧ Hid (wr.heap[W.heap.size]? = some (cellsT n A l.length c)) ∧ Hid (wr.heap[w8.heap.size]? = some (cellsT n A15 (others s l).length c15)) ∧ Hid (Kd.C k42 wr A15 (others s l).length (others s l)) ∧ Hid (Below W.heap.size W wr))
  case atStart => exact ⟨0, Nat.zero_le _, by omega, rfl, by simp [others, kept], Lib.hid h38, Lib.hid h15, Lib.hid C158, Lib.hid d8⟩
  case round =>
    clear h38 h15 C158 d8
    generalize w8.heap.size = g15 at *
    obtain ⟨kk, hkk, hg, rfl, rfl, H3, H15, CZ, BW⟩ := hrel
    have q0 := (blk_cell H3.out 0).trans rfl
    have q1 := (blk_cell H3.out 1).trans rfl
    have z0 := (blk_cell H15.out 0).trans rfl
    have z1 := (blk_cell H15.out 1).trans rfl
    by_cases hlt : kk < l.length
    · have hltz : (kk : Int) < (l.length : Int) := Int.ofNat_lt.2 hlt
      have hms : l.length - (kk + 1) < gk := Nat.lt_of_lt_of_le (Nat.sub_lt_sub_left hlt (Nat.lt_succ_self kk)) hg
      have hw : wrap64 ((kk : Int) + 1) = ((kk + 1 : Nat) : Int) := by rw [w64 (by omega) (by have := HL.out; omega)]; omega
      obtain ⟨ad, e, X0, X1, X2⟩ := at_T42 HC.out (kk : Int) (Int.natCast_nonneg kk) hltz
      rw [e] at q1
      clear e
      rw [rd_get l kk hlt] at X0 X1 X2
      simp only [Int.toNat_natCast] at X0 X1 X2
      have x0 := cellBe BW.out X0
      have x1 := cellBe BW.out X1
      have x2 := cellBe BW.out X2
      clear X0 X1 X2
      have OA := Lib.hid (others_at s l kk hlt)
      by_cases hs : l[kk].f0 = s
      · have HO : Hid (others s (l.take (kk + 1)) = others s (l.take kk)) := Lib.hid (by rw [OA.out, if_pos hs])
        have hs1 : (l[kk].f0 == s) = true := beq_iff_eq.2 hs
        clear OA
        generalize l[kk] = y at *
        go_wp2_with fail
        (try rw [hw])
        go_roundg (l.length - (kk + 1))
        case measure => exact hms
        case rel => exact ⟨kk + 1, hlt, Nat.le_refl _, by first | rfl | simp, by rw [HO.out], H3, H15, CZ, BW⟩
      · have HO : Hid ((others s (l.take (kk + 1))).length = (others s (l.take kk)).length + 1) := Lib.hid (by rw [OA.out, if_neg hs]; simp)
        have hs1 : (l[kk].f0 == s) = false := beq_eq_false_iff_ne.2 hs
        obtain ⟨hj, ej⟩ := others_next s l kk hlt hs
        have hjl := Nat.le_trans (Nat.le_of_lt hj) (others_len s l)
        have hw2 : wrap64 (((others s (l.take kk)).length : Int) + 1) = (((others s (l.take kk)).length + 1 : Nat) : Int) := by rw [w64 (by omega) (by have := HL.out; omega)]; omega
        have hjz : ((others s (l.take kk)).length : Int) < ((others s l).length : Int) := Int.ofNat_lt.2 hj
        obtain ⟨az, e, Y0, Y1, Y2⟩ := at_T42 CZ.out ((others s (l.take kk)).length : Int) (Int.natCast_nonneg _) hjz
        rw [e] at z1
        clear e
        rw [rd_get _ _ hj, ej] at Y0 Y1 Y2
        simp only [Int.toNat_natCast] at Y0 Y1 Y2
        have hjz2 : ¬ ((others s l).length : Int) ≤ ((others s (l.take kk)).length : Int) := Int.not_le.2 hjz
        have hjz3 : decide (((others s l).length : Int) ≤ ((others s (l.take kk)).length : Int)) = false := decide_eq_false hjz2
        have hjz5 : decide ((others s l).length ≤ (others s (l.take kk)).length) = false := decide_eq_false (Nat.not_le.2 hj)
        have hjz4 : decide (((others s (l.take kk)).length : Int) < ((others s l).length : Int)) = true := decide_eq_true hjz
        have hlt4 : decide ((kk : Int) < (l.length : Int)) = true := decide_eq_true hltz
        clear ej hj hjl OA
        generalize l[kk] = y at *
        generalize (others s (l.take kk)).length = jj at *
        go_wp2_with fail
        go_quiet (fail)
        have j3 := blk_drewN H3.out nq
        have j15 := blk_drewN H15.out nq
        have jC := Kd.C_below CZ.out (pw_below_drewN (Below.refl _ wr) nq)
        have jB := pw_below_drewN BW.out nq
        go_wp2_with fail
        (try rw [hw])
        (try rw [hw2])
        go_roundg (l.length - (kk + 1))
        case measure => exact hms
        case rel => exact ⟨kk + 1, hlt, Nat.le_refl _, by first | rfl | simp, by rw [HO.out], Lib.hid j3, Lib.hid j15, Lib.hid jC, Lib.hid jB⟩
    · have hle : ¬ (kk : Int) < (l.length : Int) := by omega
      have HK : Hid (kk = l.length) := Lib.hid (by omega)
      have hlen : (others s (l.take kk)).length = (others s l).length := by rw [HK.out, List.take_length]
      rw [hlen]
      go_wp2_with fail
      refine (tlb_Covers.calls 600 n A15 c15 (others s l) s p false _ CZ.out hc15 hcovz).mono ?_
      rintro e wy ⟨rfl, by1⟩
      have dy := bth by1 BW.out
      go_wp2_with fail
      refine (estoverslaw07_awake.calls true _ rfl).mono ?_
      rintro e wz ⟨rfl, bz⟩
      have dz := bth bz dy
      go_wp2
      go_ret
      exact ⟨rfl, dz⟩
end Go.Proofs.Ytkbnhphcmlljgaa.Hand
