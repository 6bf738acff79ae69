/- estoverslaw07.awake: it is true. -/
import Derived.Test.YtkbnhphcmlljgaaHandFill
import Derived.Test.YtkbnhphcmlljgaaPx6
set_option linter.unusedVariables false
set_option linter.unusedSimpArgs false
namespace Go.Proofs.Ytkbnhphcmlljgaa.P
/-- What estoverslaw07.awake answers. -/
def estoverslaw07_awake.f : Option Bool := some true
end Go.Proofs.Ytkbnhphcmlljgaa.P
namespace Go.Proofs.Ytkbnhphcmlljgaa.Hand
open Go.RowKit Go.Proofs.Ytkbnhphcmlljgaa.P Go.Proofs.Ytkbnhphcmlljgaa.TlbP Go.Proofs.Ytkbnhphcmlljgaa.Pte Go.Proofs.YtkbnhphcmlljgaaW.PrintWords Go.Proofs.YtkbnhphcmlljgaaW.PrintLast Go.Shelf

theorem aw1 : tlb_Fill.f 2 [] 0 5 257 = some (2, [⟨0, 5, 257⟩], 0) := by kernel_rfl
theorem aw2 : tlb_Fill.f 2 [⟨0, 5, 257⟩] 0 6 513 = some (2, [⟨0, 5, 257⟩, ⟨0, 6, 513⟩], 0) := by kernel_rfl
theorem aw3 : tlb_Fill.f 2 [⟨0, 5, 257⟩, ⟨0, 6, 513⟩] 1 5 257 = some (2, [⟨0, 6, 513⟩, ⟨1, 5, 257⟩], 0) := by kernel_rfl
theorem aw4 : tlb_Fill.f 2 [] 0 12 4161 = some (2, [⟨0, 8, 4161⟩], 0) := by kernel_rfl
theorem aw5 : tlb_Fill.f 2 [] 0 6 258 = some (0, [], 3) := by kernel_rfl
theorem aw6 : tlb_Lookup.f 9 2 [⟨0, 6, 513⟩, ⟨1, 5, 257⟩] 1 5 = some (257, true) := by kernel_rfl
theorem aw7 : tlb_Covers.f 9 2 [⟨0, 6, 513⟩, ⟨1, 5, 257⟩] 0 5 = some false := by kernel_rfl
theorem aw8 : tlb_Covers.f 9 2 [⟨0, 8, 4161⟩] 0 15 = some true := by kernel_rfl
theorem aw9 : tlb_Covers.f 9 2 [⟨0, 8, 4161⟩] 0 16 = some false := by kernel_rfl

theorem bal {W W1 : World} (o : Obj) (h : Below W.heap.size W W1) : Below W.heap.size W (W1.alloc o) := below_alloc h o
theorem bth {W W1 w2 : World} (k : Below W1.heap.size W1 w2) (h : Below W.heap.size W W1) : Below W.heap.size W w2 := bthen k h h.size
set_option maxHeartbeats 8000000 in
set_option maxRecDepth 100000 in
theorem awake_walk (W : World) : Calls Try.prog 13 #[] W fun e w' => e = .returned (.bool true) ∧ Below W.heap.size W w' := by
  have hu3 := Try.underlying24
  go_enter Try.func13, Try.ntmps13
  go_wp2_with fail
  refine (tlb_New.calls 2 2 [] 0 _ rfl).mono ?_
  rintro e w1 ⟨v1, rfl, r1, b1⟩
  obtain ⟨A1, c1, rfl, hc1, C1⟩ := Kd.R_reads r1
  have d1 := b1
  go_wp2_with fail
  refine (tlb_Fill.calls 2 A1 c1 [] 0 5 257 2 [⟨0, 5, 257⟩] 0 _ (Kd.C_below C1 (bal _ (Below.refl _ _))) hc1 aw1).mono ?_
  rintro e w2 ⟨v2, rfl, V2, b2⟩
  obtain ⟨A2, c2, rfl, hc2, F2⟩ := V2
  have C2 := Kd.F_now F2
  have C1' := Kd.C_below C1 (bth b2 (bal _ (Below.refl _ _)))
  have H1 := blk_below (blk_new w1 _) b2
  have d2 := bth b2 (bal _ d1)
  clear F2 b2 b1 d1 r1 C1
  go_wp2_with fail
  refine (tlb_Fill.calls 2 A2 c2 [⟨0, 5, 257⟩] 0 6 513 2 [⟨0, 5, 257⟩, ⟨0, 6, 513⟩] 0 _ (Kd.C_below C2 (bal _ (Below.refl _ _))) hc2 aw2).mono ?_
  rintro e w3 ⟨v3, rfl, V3, b3⟩
  obtain ⟨A3, c3, rfl, hc3, F3⟩ := V3
  have C3 := Kd.F_now F3
  replace C1' := Kd.C_below C1' (bth b3 (bal _ (Below.refl _ _)))
  replace H1 := blk_below (blk_alloc H1 _) b3
  have d3 := bth b3 (bal _ d2)
  clear F3 b3 d2 C2 hc2
  go_wp2_with fail
  refine (tlb_Fill.calls 2 A3 c3 [⟨0, 5, 257⟩, ⟨0, 6, 513⟩] 1 5 257 2 [⟨0, 6, 513⟩, ⟨1, 5, 257⟩] 0 _ (Kd.C_below C3 (bal _ (Below.refl _ _))) hc3 aw3).mono ?_
  rintro e w4 ⟨v4, rfl, V4, b4⟩
  obtain ⟨A4, c4, rfl, hc4, F4⟩ := V4
  have C4 := Kd.F_now F4
  replace C1' := Kd.C_below C1' (bth b4 (bal _ (Below.refl _ _)))
  replace H1 := blk_below (blk_alloc H1 _) b4
  have d4 := bth b4 (bal _ d3)
  clear F4 b4 d3 C3 hc3
  go_wp2_with fail
  refine (tlb_Lookup.calls 9 2 A4 c4 [⟨0, 6, 513⟩, ⟨1, 5, 257⟩] 1 5 257 true _ (Kd.C_below C4 (bal _ (Below.refl _ _))) hc4 aw6).mono ?_
  rintro e w5 ⟨rfl, b5⟩
  replace C1' := Kd.C_below C1' (bth b5 (bal _ (Below.refl _ _)))
  replace C4 := Kd.C_below C4 (bth b5 (bal _ (Below.refl _ _)))
  replace H1 := blk_below (blk_alloc H1 _) b5
  have H4 := blk_below (blk_new w4 _) b5
  have d5 := bth b5 (bal _ d4)
  clear b5 d4
  have q0 := (blk_cell H1 0).trans rfl
  have q1 := (blk_cell H1 1).trans rfl
  go_wp2_with fail
  refine (tlb_Fill.calls 2 A1 c1 [] 0 12 4161 2 [⟨0, 8, 4161⟩] 0 _ C1' hc1 aw4).mono ?_
  rintro e w6 ⟨v6, rfl, V6, b6⟩
  obtain ⟨A6, c6, rfl, hc6, F6⟩ := V6
  have C6 := Kd.F_now F6
  replace C1' := Kd.C_below C1' b6
  replace C4 := Kd.C_below C4 b6
  replace H1 := blk_below H1 b6
  replace H4 := blk_below H4 b6
  have d6 := bth b6 d5
  clear F6 b6 d5 q0 q1
  have q0 := (blk_cell H1 0).trans rfl
  have q1 := (blk_cell H1 1).trans rfl
  have n1 := blk_lt H1
  go_wp2_with fail
  refine (tlb_Fill.calls 2 A1 c1 [] 0 6 258 0 [] 3 _ (Kd.C_below C1' (bal _ (Below.refl _ _))) hc1 aw5).mono ?_
  rintro e w7 ⟨v7, rfl, V7, b7⟩
  obtain ⟨A7, c7, rfl, hc7, F7⟩ := V7
  replace C4 := Kd.C_below C4 (bth b7 (bal _ (Below.refl _ _)))
  replace C6 := Kd.C_below C6 (bth b7 (bal _ (Below.refl _ _)))
  replace H4 := blk_below (blk_alloc H4 _) b7
  have H6 := blk_below (blk_new w6 _) b7
  have d7 := bth b7 (bal _ d6)
  clear F7 b7 d6 q0 q1 n1 C1'
  have q0 := (blk_cell H4 0).trans rfl
  have q1 := (blk_cell H4 1).trans rfl
  have n4 := blk_lt H4
  go_wp2_with fail
  refine (tlb_Covers.calls 9 2 A4 c4 [⟨0, 6, 513⟩, ⟨1, 5, 257⟩] 0 5 false _ (Kd.C_below C4 (bal _ (Below.refl _ _))) hc4 aw7).mono ?_
  rintro e w8 ⟨rfl, b8⟩
  replace C6 := Kd.C_below C6 (bth b8 (bal _ (Below.refl _ _)))
  replace H6 := blk_below (blk_alloc H6 _) b8
  have d8 := bth b8 (bal _ d7)
  clear b8 d7 q0 q1 n4
  have q0 := (blk_cell H6 0).trans rfl
  have q1 := (blk_cell H6 1).trans rfl
  go_wp2_with fail
  refine (tlb_Covers.calls 9 2 A6 c6 [⟨0, 8, 4161⟩] 0 15 true _ C6 hc6 aw8).mono ?_
  rintro e w9 ⟨rfl, b9⟩
  replace C6 := Kd.C_below C6 b9
  replace H6 := blk_below H6 b9
  have d9 := bth b9 d8
  clear b9 d8 q0 q1
  have q0 := (blk_cell H6 0).trans rfl
  have q1 := (blk_cell H6 1).trans rfl
  go_wp2_with fail
  refine (tlb_Covers.calls 9 2 A6 c6 [⟨0, 8, 4161⟩] 0 16 false _ C6 hc6 aw9).mono ?_
  rintro e w10 ⟨rfl, b10⟩
  have d10 := bth b10 d9
  clear b10 d9 q0 q1
  go_wp2
  go_ret
  exact ⟨rfl, d10⟩
end Go.Proofs.Ytkbnhphcmlljgaa.Hand
namespace Go.Proofs.Ytkbnhphcmlljgaa.P
open Go.RowKit Go.Proofs.Ytkbnhphcmlljgaa.Hand
theorem estoverslaw07_awake.calls (r : Bool) (w : World) (h : estoverslaw07_awake.f = some r) : Calls Try.prog 13 #[] w fun e w' => e = .returned (.bool r) ∧ Below w.heap.size w w' := by
  cases h
  exact awake_walk w
end Go.Proofs.Ytkbnhphcmlljgaa.P
