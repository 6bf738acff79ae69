/- Marking, aging and protecting change what they should, and nothing else: the law's own walk, over the contracts. -/
import Derived.Test.YtmmjialpkddgdaaPteCalls
import Derived.Laws.CopyOwn
set_option linter.unusedSimpArgs false
set_option linter.unusedVariables false
namespace Go.Proofs.Ytmmjialpkddgdaa.PteBitsW
open Go.RowKit Go.Proofs.YtmmjialpkddgdaaW.PrintWords Go.Proofs.YtmmjialpkddgdaaW.PrintLast Go.Proofs.Ytmmjialpkddgdaa.Pte Go.Proofs.Ytmmjialpkddgdaa.PteCalls

theorem bcell {W w1 : World} (hb : Below W.heap.size W w1) : (∀ b o, b < W.heap.size → w1.cell? ⟨b, o, none⟩ = W.cell? ⟨b, o, none⟩) ∧ (∀ b o, b < W.heap.size → w1.frozen? ⟨b, o, none⟩ = W.frozen? ⟨b, o, none⟩) ∧ W.heap.size ≤ w1.heap.size :=
  ⟨fun b o h => hb.cell (p := ⟨b, o, none⟩) h, fun b o h => hb.frozen (p := ⟨b, o, none⟩) h, hb.size⟩

set_option maxHeartbeats 4000000 in
theorem walk_not (x : Int) (wr : Bool) (h0 : 0 ≤ x) (h1 : x < 18446744073709551616) (W : World) (hn : ¬ ∃ n w a d h, ok 1 n w a d h ∧ x = word 1 n w a d h) : Calls Try.prog 9 #[.int .u64 x, .bool wr] W fun e W' => e = .returned (.bool true) ∧ Below W.heap.size W W' := by
  have hd := decode_calls x h0 h1
  rcases dec_cases x with ⟨kd, n, w, a, d, h, g, hx, e⟩ | e
  · have hp := dec_form hd e
    have hk : kd ≠ 1 := by
      rintro rfl
      exact hn ⟨n, w, a, d, h, g, hx⟩
    have c1 : (kd != 1) = true := bne_iff_ne.2 hk
    clear hn hx hk hd e g
    go_enter Try.func9, Try.ntmps9
    go_wp2_with (first | (go_at_call 15; refine (hp _).mono ?_; rintro e w1 ⟨rfl, b1⟩) | (go_at_call 14; refine (awake_calls _).mono ?_; rintro e w2 ⟨rfl, b2⟩))
    go_ret
    exact ⟨rfl, below_then (below_alloc b1 _) (below_alloc b1 _).size b2⟩
  · have hp := dec_form hd e
    clear hn hd e
    go_enter Try.func9, Try.ntmps9
    go_wp2_with (first | (go_at_call 15; refine (hp _).mono ?_; rintro e w1 ⟨rfl, b1⟩) | (go_at_call 14; refine (awake_calls _).mono ?_; rintro e w2 ⟨rfl, b2⟩))
    go_ret
    exact ⟨rfl, below_then (below_alloc b1 _) (below_alloc b1 _).size b2⟩

/-- A variable of the type api.Entry in memory. -/
structure Ent (W : World) (g : Nat) (kd n : Int) (w a d h : Bool) : Prop where
  out : W.heap[g]? = some (.cells #[.int .i64 kd, .int .i64 n, .bool w, .bool a, .bool d, .bool h] 23 (0, 0))
theorem Ent.lt {W : World} {g : Nat} {kd n : Int} {w a d h : Bool} (E : Ent W g kd n w a d h) : g < W.heap.size := blk_lt E.out
theorem Ent.call {W w1 : World} {g : Nat} {kd n : Int} {w a d h : Bool} (E : Ent W g kd n w a d h) (hb : Below W.heap.size W w1) : Ent w1 g kd n w a d h := ⟨blk_below E.out hb⟩
theorem Ent.old {W : World} {g : Nat} {kd n : Int} {w a d h : Bool} (E : Ent W g kd n w a d h) (o : Obj) : Ent (W.alloc o) g kd n w a d h := ⟨blk_alloc E.out o⟩
theorem Ent.new (W : World) (kd n : Int) (w a d h : Bool) : Ent (W.alloc (.cells #[.int .i64 kd, .int .i64 n, .bool w, .bool a, .bool d, .bool h] 23 (0, 0))) W.heap.size kd n w a d h := ⟨blk_new _ _⟩
theorem Ent.cells {W : World} {g : Nat} {kd n : Int} {w a d h : Bool} (E : Ent W g kd n w a d h) :
    W.cell? ⟨g, 0, none⟩ = some (.int .i64 kd) ∧ W.cell? ⟨g, 1, none⟩ = some (.int .i64 n) ∧ W.cell? ⟨g, 2, none⟩ = some (.bool w) ∧ W.cell? ⟨g, 3, none⟩ = some (.bool a) ∧ W.cell? ⟨g, 4, none⟩ = some (.bool d) ∧ W.cell? ⟨g, 5, none⟩ = some (.bool h) :=
  ⟨(blk_cell E.out 0).trans rfl, (blk_cell E.out 1).trans rfl, (blk_cell E.out 2).trans rfl, (blk_cell E.out 3).trans rfl, (blk_cell E.out 4).trans rfl, (blk_cell E.out 5).trans rfl⟩
theorem Ent.fz {W : World} {g : Nat} {kd n : Int} {w a d h : Bool} (E : Ent W g kd n w a d h) (j : Nat) : W.frozen? ⟨g, j, none⟩ = false := blk_frozen E.out j
theorem Ent.s3 {W : World} {g : Nat} {kd n : Int} {w a d h z : Bool} (E : Ent W g kd n w a d h) : Ent (W.setCell ⟨g, 3, none⟩ (.bool z)) g kd n w z d h := ⟨blk_put E.out 3 _ rfl⟩
theorem Ent.s4 {W : World} {g : Nat} {kd n : Int} {w a d h z : Bool} (E : Ent W g kd n w a d h) : Ent (W.setCell ⟨g, 4, none⟩ (.bool z)) g kd n w a z h := ⟨blk_put E.out 4 _ rfl⟩
theorem Ent.far {W : World} {g g' j : Nat} {v : Value} {kd n : Int} {w a d h : Bool} (E : Ent W g kd n w a d h) (hne : ¬ g = g') : Ent (W.setCell ⟨g', j, none⟩ v) g kd n w a d h := ⟨blk_far E.out hne v⟩
theorem Ent.row {W : World} {g : Nat} {kd n : Int} {w a d h : Bool} (E : Ent W g kd n w a d h) (kd' n' : Int) (w' a' d' h' : Bool) : Ent (W.setRow g #[.int .i64 kd', .int .i64 n', .bool w', .bool a', .bool d', .bool h']) g kd' n' w' a' d' h' := ⟨setRow_heap W g _ _ _ _ E.out⟩
theorem Ent.farRow {W : World} {g g' : Nat} {cs : Array Value} {kd n : Int} {w a d h : Bool} (E : Ent W g kd n w a d h) (hne : ¬ g = g') : Ent (W.setRow g' cs) g kd n w a d h := ⟨(setRow_other W g' g cs hne).trans E.out⟩
theorem bthen {W W1 w2 : World} (k : Below W1.heap.size W1 w2) (h : Below W.heap.size W W1) : Below W.heap.size W w2 := below_then h h.size k
theorem absw {P : Program} {c : Code} {Q : Exit → Act → World → Prop} {a : Act} {w : World} (R : World → Prop) (h : R w) (k : ∀ w', R w' → Code.wp P c Q a w') : Code.wp P c Q a w := k w h
theorem ent1 (kd n : Int) (w a d h : Bool) : (#[Value.int .i64 kd, .int .i64 n, .bool w, .bool a, .bool d, .bool h] : Array Value).all (·.oneCell') = true := by simp [Value.oneCell']
theorem gate_load {P : Program} {ops : Array Oper} {rest : List Oper} {o : Oper} {a : Act} {Q : Exit → Act → World → Prop} {W : World} {t : TypeId} {p : Tmp} (_ho : o.op = .load t (.tmp p)) (h : wpList P ops Q (o :: rest) a W) : wpList P ops Q (o :: rest) a W := h
theorem infoE : (Try.prog.info? 23).map (·.size) = some 6 := by kernel_rfl

set_option maxHeartbeats 4000000 in
theorem walk_any (x p o m : Int) (n : Int) (w a d h wr : Bool) (W : World)
    (hx : ∀ W, Calls Try.prog 15 #[.int .u64 x] W fun e W' => e = .returned (.tuple #[.agg #[.int .i64 1, .int .i64 n, .bool w, .bool a, .bool d, .bool h], .int .i64 0]) ∧ Below W.heap.size W W')
    (hp : ∀ W, Calls Try.prog 15 #[.int .u64 p] W fun e W' => e = .returned (.tuple #[.agg #[.int .i64 1, .int .i64 n, .bool false, .bool a, .bool d, .bool h], .int .i64 0]) ∧ Below W.heap.size W W')
    (ho : ∀ W, Calls Try.prog 15 #[.int .u64 o] W fun e W' => e = .returned (.tuple #[.agg #[.int .i64 1, .int .i64 n, .bool w, .bool false, .bool d, .bool h], .int .i64 0]) ∧ Below W.heap.size W W')
    (hm : ∀ W, Calls Try.prog 15 #[.int .u64 m] W fun e W' => e = .returned (.tuple #[.agg #[.int .i64 1, .int .i64 n, .bool w, .bool true, .bool (d || wr), .bool h], .int .i64 0]) ∧ Below W.heap.size W W')
    (gp : ∀ W, Calls Try.prog 23 #[.int .u64 x] W fun e W' => e = .returned (.tuple #[.int .u64 p, .int .i64 0]) ∧ Below W.heap.size W W')
    (go : ∀ W, Calls Try.prog 21 #[.int .u64 x] W fun e W' => e = .returned (.tuple #[.int .u64 o, .int .i64 0]) ∧ Below W.heap.size W W')
    (gm : ∀ W, Calls Try.prog 19 #[.int .u64 p, .bool true] W fun e W' => e = .returned (.tuple #[.int .u64 0, .int .i64 12]) ∧ Below W.heap.size W W')
    (gn : ∀ W, Calls Try.prog 19 #[.int .u64 x, .bool wr] W fun e W' => e = .returned (.tuple #[.int .u64 (if wr && !w then 0 else m), .int .i64 (if wr && !w then 12 else 0)]) ∧ Below W.heap.size W W') :
    Calls Try.prog 9 #[.int .u64 x, .bool wr] W fun e W' => e = .returned (.bool true) ∧ Below W.heap.size W W' := by
  have HX := Lib.hid hx; have HP := Lib.hid hp; have HO := Lib.hid ho; have HM := Lib.hid hm; have GP := Lib.hid gp; have GO := Lib.hid go; have GM := Lib.hid gm; have GN := Lib.hid gn
  clear hx hp ho hm gp go gm gn
  go_enter Try.func9, Try.ntmps9
  go_wp2_with fail
  refine (HX.out _).mono ?_
  rintro e w1 ⟨rfl, b1⟩
  go_wp2_with fail
  refine (GP.out _).mono ?_
  rintro e w2 ⟨rfl, b2⟩
  have E5 := (Ent.new w1 1 n w a d h).call b2
  have D := Lib.hid (bthen b2 (below_alloc b1 _))
  clear b1 b2
  go_wp2_with fail
  refine (HP.out _).mono ?_
  rintro e w3 ⟨rfl, b3⟩
  replace E5 := E5.call b3
  replace D := Lib.hid (bthen b3 D.out)
  have l3 : W.heap.size ≤ w3.heap.size := D.out.size
  clear b3
  have l58 := E5.lt
  go_wp2_with fail
  refine (GM.out _).mono ?_
  rintro e w4 ⟨rfl, b4⟩
  have E8 := (Ent.new w3 1 n false a d h).call b4
  replace E5 := (E5.old _).call b4
  replace D := Lib.hid (bthen b4 (below_alloc D.out _))
  have l4 : W.heap.size ≤ w4.heap.size := D.out.size
  clear b4
  have l5c := E5.lt
  have l8c := E8.lt
  have n58 : ¬ w1.heap.size = w3.heap.size := by omega
  have n85 : ¬ w3.heap.size = w1.heap.size := by omega
  have n5c : ¬ w1.heap.size = w4.heap.size := by omega
  have nc5 : ¬ w4.heap.size = w1.heap.size := by omega
  have n8c : ¬ w3.heap.size = w4.heap.size := by omega
  have nc8 : ¬ w4.heap.size = w3.heap.size := by omega
  obtain ⟨c50, c51, c52, c53, c54, c55⟩ := E5.cells
  obtain ⟨c80, c81, c82, c83, c84, c85⟩ := E8.cells
  go_wp2_with fail
  refine (GO.out _).mono ?_
  rintro e w5 ⟨rfl, b5⟩
  have Ec := (Ent.new w4 1 n false a d h).call b5
  replace E5 := (E5.old _).call b5
  replace E8 := (E8.old _).call b5
  replace D := Lib.hid (bthen b5 (below_alloc D.out _))
  clear b5 c50 c51 c52 c53 c54 c55 c80 c81 c82 c83 c84 c85
  go_wp2_with fail
  refine (HO.out _).mono ?_
  rintro e w6 ⟨rfl, b6⟩
  replace E5 := E5.call b6
  replace E8 := E8.call b6
  replace Ec := Ec.call b6
  replace D := Lib.hid (bthen b6 D.out)
  clear b6
  go_upto_region 13 with ((with_reducible refine gate_store (p := 8) rfl ?_); refine wpList_store_row rfl 23 _ _ rfl w3.heap.size #[.int .i64 1, .int .i64 n, .bool w, .bool false, .bool d, .bool h] rfl rfl 23 _ E8.out infoE rfl (ent1 ..) ?_)
  refine absw (fun w' => Ent w' w1.heap.size 1 n w a d h ∧ Ent w' w3.heap.size 1 n w false d h ∧ Ent w' w4.heap.size 1 n false a d h ∧ Below W.heap.size W w') ⟨E5.farRow n58, E8.row _ _ _ _ _ _, Ec.farRow nc8, below_setRow D.out l3 _⟩ ?_
  clear E5 E8 Ec D
  rintro w7 ⟨E5, E8, Ec, D⟩
  replace D := Lib.hid D
  go_upto_region 14 with (first | ((with_reducible refine gate_load (p := 5) rfl ?_); refine wpList_load_row rfl 23 _ rfl w1.heap.size rfl 23 #[.int .i64 1, .int .i64 n, .bool w, .bool a, .bool d, .bool h] (0, 0) _ E5.out Try.underlying23 rfl infoE ?_) | ((with_reducible refine gate_store (p := 12) rfl ?_); refine wpList_store_row rfl 23 _ _ rfl w4.heap.size #[.int .i64 1, .int .i64 n, .bool w, .bool a, .bool d, .bool h] rfl rfl 23 _ Ec.out infoE rfl (ent1 ..) ?_))
  refine absw (fun w' => Ent w' w1.heap.size 1 n w a d h ∧ Ent w' w3.heap.size 1 n w false d h ∧ Ent w' w4.heap.size 1 n w a d h ∧ Below W.heap.size W w') ⟨E5.farRow n5c, E8.farRow n8c, Ec.row _ _ _ _ _ _, below_setRow D.out l4 _⟩ ?_
  clear E5 E8 Ec D
  rintro w8 ⟨E5, E8, Ec, D⟩
  replace D := Lib.hid D
  have cc3 := Ec.cells.2.2.2.1
  have fc3 := Ec.fz 3
  go_upto_region 15 with (fail)
  refine absw (fun w' => Ent w' w1.heap.size 1 n w a d h ∧ Ent w' w3.heap.size 1 n w false d h ∧ Ent w' w4.heap.size 1 n w false d h ∧ Below W.heap.size W w') ⟨E5.far n5c, E8.far n8c, Ec.s3, below_set D.out l4⟩ ?_
  clear E5 E8 Ec D cc3 fc3
  rintro w9 ⟨E5, E8, Ec, D⟩
  replace D := Lib.hid D
  obtain ⟨c80, c81, c82, c83, c84, c85⟩ := E8.cells
  obtain ⟨cc0, cc1, cc2, cc3, cc4, cc5⟩ := Ec.cells
  go_wp2_with fail
  refine (GN.out _).mono ?_
  rintro e v1 ⟨rfl, b7⟩
  replace E5 := E5.call b7
  replace E8 := E8.call b7
  replace Ec := Ec.call b7
  replace D := Lib.hid (bthen b7 D.out)
  clear b7 c80 c81 c82 c83 c84 c85 cc0 cc1 cc2 cc3 cc4 cc5
  obtain ⟨c50, c51, c52, c53, c54, c55⟩ := E5.cells
  by_cases hno : wr = true ∧ w = false
  · obtain ⟨rfl, rfl⟩ := hno
    simp only [Bool.not_false, Bool.and_self, if_true]
    go_wp2_with (go_at_call 14; refine (awake_calls _).mono ?_; rintro e v2 ⟨rfl, b8⟩)
    go_ret
    exact ⟨rfl, bthen b8 D.out⟩
  · have hif : (wr = false ∧ w = false) ∨ (wr = false ∧ w = true) ∨ (wr = true ∧ w = true) := by cases wr <;> cases w <;> simp_all
    clear hno
    rcases hif with ⟨rfl, rfl⟩ | ⟨rfl, rfl⟩ | ⟨rfl, rfl⟩
    · simp only [Bool.not_false, Bool.not_true, Bool.and_true, Bool.and_false, Bool.false_and, Bool.true_and, Bool.false_eq_true, if_false]
      go_wp2_with fail
      refine (HM.out _).mono ?_
      rintro e v2 ⟨rfl, b8⟩
      replace E5 := E5.call b8
      replace E8 := E8.call b8
      replace Ec := Ec.call b8
      replace D := Lib.hid (bthen b8 D.out)
      clear b8 c50 c51 c52 c53 c54 c55
      go_upto_region 21 with ((with_reducible refine gate_store (p := 8) rfl ?_); refine wpList_store_row rfl 23 _ _ rfl w3.heap.size #[.int .i64 1, .int .i64 n, .bool false, .bool true, .bool d, .bool h] rfl rfl 23 _ E8.out infoE rfl (ent1 ..) ?_)
      refine absw (fun w' => Ent w' w1.heap.size 1 n false a d h ∧ Ent w' w3.heap.size 1 n false true d h ∧ Ent w' w4.heap.size 1 n false false d h ∧ Below W.heap.size W w') ⟨E5.farRow n58, E8.row _ _ _ _ _ _, Ec.farRow nc8, below_setRow D.out l3 _⟩ ?_
      clear E5 E8 Ec D
      rintro v3 ⟨E5, E8, Ec, D⟩
      replace D := Lib.hid D
      go_upto_region 22 with (first | ((with_reducible refine gate_load (p := 5) rfl ?_); refine wpList_load_row rfl 23 _ rfl w1.heap.size rfl 23 #[.int .i64 1, .int .i64 n, .bool false, .bool a, .bool d, .bool h] (0, 0) _ E5.out Try.underlying23 rfl infoE ?_) | ((with_reducible refine gate_store (p := 12) rfl ?_); refine wpList_store_row rfl 23 _ _ rfl w4.heap.size #[.int .i64 1, .int .i64 n, .bool false, .bool a, .bool d, .bool h] rfl rfl 23 _ Ec.out infoE rfl (ent1 ..) ?_))
      refine absw (fun w' => Ent w' w1.heap.size 1 n false a d h ∧ Ent w' w3.heap.size 1 n false true d h ∧ Ent w' w4.heap.size 1 n false a d h ∧ Below W.heap.size W w') ⟨E5.farRow n5c, E8.farRow n8c, Ec.row _ _ _ _ _ _, below_setRow D.out l4 _⟩ ?_
      clear E5 E8 Ec D
      rintro v4 ⟨E5, E8, Ec, D⟩
      replace D := Lib.hid D
      have cc3 := Ec.cells.2.2.2.1
      have fc3 := Ec.fz 3
      go_upto_region 23 with (fail)
      refine absw (fun w' => Ent w' w1.heap.size 1 n false a d h ∧ Ent w' w3.heap.size 1 n false true d h ∧ Ent w' w4.heap.size 1 n false true d h ∧ Below W.heap.size W w') ⟨E5.far n5c, E8.far n8c, Ec.s3, below_set D.out l4⟩ ?_
      clear E5 E8 Ec D cc3 fc3
      rintro v5 ⟨E5, E8, Ec, D⟩
      replace D := Lib.hid D
      have c54 := E5.cells.2.2.2.2.1
      have cc4 := Ec.cells.2.2.2.2.1
      have fc4 := Ec.fz 4
      cases d with
      | true =>
        go_upto_region 24 with (fail)
        refine absw (fun w' => Ent w' w3.heap.size 1 n false true true h ∧ Ent w' w4.heap.size 1 n false true true h ∧ Below W.heap.size W w') ⟨E8.far n8c, Ec.s4, below_set D.out l4⟩ ?_
        clear E5 E8 Ec D c54 cc4 fc4
        rintro v6 ⟨E8, Ec, D⟩
        obtain ⟨c80, c81, c82, c83, c84, c85⟩ := E8.cells
        obtain ⟨cc0, cc1, cc2, cc3, cc4, cc5⟩ := Ec.cells
        replace D := Lib.hid D
        go_wp2_with (go_at_call 14; refine (awake_calls _).mono ?_; rintro e v7 ⟨rfl, b9⟩)
        go_ret
        exact ⟨rfl, bthen b9 D.out⟩
      | false =>
        go_upto_region 24 with (fail)
        refine absw (fun w' => Ent w' w3.heap.size 1 n false true false h ∧ Ent w' w4.heap.size 1 n false true false h ∧ Below W.heap.size W w') ⟨E8.far n8c, Ec.s4, below_set D.out l4⟩ ?_
        clear E5 E8 Ec D c54 cc4 fc4
        rintro v6 ⟨E8, Ec, D⟩
        obtain ⟨c80, c81, c82, c83, c84, c85⟩ := E8.cells
        obtain ⟨cc0, cc1, cc2, cc3, cc4, cc5⟩ := Ec.cells
        replace D := Lib.hid D
        go_wp2_with (go_at_call 14; refine (awake_calls _).mono ?_; rintro e v7 ⟨rfl, b9⟩)
        go_ret
        exact ⟨rfl, bthen b9 D.out⟩
    · simp only [Bool.not_false, Bool.not_true, Bool.and_true, Bool.and_false, Bool.false_and, Bool.true_and, Bool.false_eq_true, if_false]
      go_wp2_with fail
      refine (HM.out _).mono ?_
      rintro e v2 ⟨rfl, b8⟩
      replace E5 := E5.call b8
      replace E8 := E8.call b8
      replace Ec := Ec.call b8
      replace D := Lib.hid (bthen b8 D.out)
      clear b8 c50 c51 c52 c53 c54 c55
      go_upto_region 21 with ((with_reducible refine gate_store (p := 8) rfl ?_); refine wpList_store_row rfl 23 _ _ rfl w3.heap.size #[.int .i64 1, .int .i64 n, .bool true, .bool true, .bool d, .bool h] rfl rfl 23 _ E8.out infoE rfl (ent1 ..) ?_)
      refine absw (fun w' => Ent w' w1.heap.size 1 n true a d h ∧ Ent w' w3.heap.size 1 n true true d h ∧ Ent w' w4.heap.size 1 n true false d h ∧ Below W.heap.size W w') ⟨E5.farRow n58, E8.row _ _ _ _ _ _, Ec.farRow nc8, below_setRow D.out l3 _⟩ ?_
      clear E5 E8 Ec D
      rintro v3 ⟨E5, E8, Ec, D⟩
      replace D := Lib.hid D
      go_upto_region 22 with (first | ((with_reducible refine gate_load (p := 5) rfl ?_); refine wpList_load_row rfl 23 _ rfl w1.heap.size rfl 23 #[.int .i64 1, .int .i64 n, .bool true, .bool a, .bool d, .bool h] (0, 0) _ E5.out Try.underlying23 rfl infoE ?_) | ((with_reducible refine gate_store (p := 12) rfl ?_); refine wpList_store_row rfl 23 _ _ rfl w4.heap.size #[.int .i64 1, .int .i64 n, .bool true, .bool a, .bool d, .bool h] rfl rfl 23 _ Ec.out infoE rfl (ent1 ..) ?_))
      refine absw (fun w' => Ent w' w1.heap.size 1 n true a d h ∧ Ent w' w3.heap.size 1 n true true d h ∧ Ent w' w4.heap.size 1 n true a d h ∧ Below W.heap.size W w') ⟨E5.farRow n5c, E8.farRow n8c, Ec.row _ _ _ _ _ _, below_setRow D.out l4 _⟩ ?_
      clear E5 E8 Ec D
      rintro v4 ⟨E5, E8, Ec, D⟩
      replace D := Lib.hid D
      have cc3 := Ec.cells.2.2.2.1
      have fc3 := Ec.fz 3
      go_upto_region 23 with (fail)
      refine absw (fun w' => Ent w' w1.heap.size 1 n true a d h ∧ Ent w' w3.heap.size 1 n true true d h ∧ Ent w' w4.heap.size 1 n true true d h ∧ Below W.heap.size W w') ⟨E5.far n5c, E8.far n8c, Ec.s3, below_set D.out l4⟩ ?_
      clear E5 E8 Ec D cc3 fc3
      rintro v5 ⟨E5, E8, Ec, D⟩
      replace D := Lib.hid D
      have c54 := E5.cells.2.2.2.2.1
      have cc4 := Ec.cells.2.2.2.2.1
      have fc4 := Ec.fz 4
      cases d with
      | true =>
        go_upto_region 24 with (fail)
        refine absw (fun w' => Ent w' w3.heap.size 1 n true true true h ∧ Ent w' w4.heap.size 1 n true true true h ∧ Below W.heap.size W w') ⟨E8.far n8c, Ec.s4, below_set D.out l4⟩ ?_
        clear E5 E8 Ec D c54 cc4 fc4
        rintro v6 ⟨E8, Ec, D⟩
        obtain ⟨c80, c81, c82, c83, c84, c85⟩ := E8.cells
        obtain ⟨cc0, cc1, cc2, cc3, cc4, cc5⟩ := Ec.cells
        replace D := Lib.hid D
        go_wp2_with (go_at_call 14; refine (awake_calls _).mono ?_; rintro e v7 ⟨rfl, b9⟩)
        go_ret
        exact ⟨rfl, bthen b9 D.out⟩
      | false =>
        go_upto_region 24 with (fail)
        refine absw (fun w' => Ent w' w3.heap.size 1 n true true false h ∧ Ent w' w4.heap.size 1 n true true false h ∧ Below W.heap.size W w') ⟨E8.far n8c, Ec.s4, below_set D.out l4⟩ ?_
        clear E5 E8 Ec D c54 cc4 fc4
        rintro v6 ⟨E8, Ec, D⟩
        obtain ⟨c80, c81, c82, c83, c84, c85⟩ := E8.cells
        obtain ⟨cc0, cc1, cc2, cc3, cc4, cc5⟩ := Ec.cells
        replace D := Lib.hid D
        go_wp2_with (go_at_call 14; refine (awake_calls _).mono ?_; rintro e v7 ⟨rfl, b9⟩)
        go_ret
        exact ⟨rfl, bthen b9 D.out⟩
    · simp only [Bool.not_false, Bool.not_true, Bool.and_true, Bool.and_false, Bool.false_and, Bool.true_and, Bool.false_eq_true, if_false]
      go_wp2_with fail
      refine (HM.out _).mono ?_
      rintro e v2 ⟨rfl, b8⟩
      replace E5 := E5.call b8
      replace E8 := E8.call b8
      replace Ec := Ec.call b8
      replace D := Lib.hid (bthen b8 D.out)
      clear b8 c50 c51 c52 c53 c54 c55
      go_upto_region 21 with ((with_reducible refine gate_store (p := 8) rfl ?_); refine wpList_store_row rfl 23 _ _ rfl w3.heap.size #[.int .i64 1, .int .i64 n, .bool true, .bool true, .bool true, .bool h] rfl rfl 23 _ E8.out infoE rfl (ent1 ..) ?_)
      refine absw (fun w' => Ent w' w1.heap.size 1 n true a d h ∧ Ent w' w3.heap.size 1 n true true true h ∧ Ent w' w4.heap.size 1 n true false d h ∧ Below W.heap.size W w') ⟨E5.farRow n58, E8.row _ _ _ _ _ _, Ec.farRow nc8, below_setRow D.out l3 _⟩ ?_
      clear E5 E8 Ec D
      rintro v3 ⟨E5, E8, Ec, D⟩
      replace D := Lib.hid D
      go_upto_region 22 with (first | ((with_reducible refine gate_load (p := 5) rfl ?_); refine wpList_load_row rfl 23 _ rfl w1.heap.size rfl 23 #[.int .i64 1, .int .i64 n, .bool true, .bool a, .bool d, .bool h] (0, 0) _ E5.out Try.underlying23 rfl infoE ?_) | ((with_reducible refine gate_store (p := 12) rfl ?_); refine wpList_store_row rfl 23 _ _ rfl w4.heap.size #[.int .i64 1, .int .i64 n, .bool true, .bool a, .bool d, .bool h] rfl rfl 23 _ Ec.out infoE rfl (ent1 ..) ?_))
      refine absw (fun w' => Ent w' w1.heap.size 1 n true a d h ∧ Ent w' w3.heap.size 1 n true true true h ∧ Ent w' w4.heap.size 1 n true a d h ∧ Below W.heap.size W w') ⟨E5.farRow n5c, E8.farRow n8c, Ec.row _ _ _ _ _ _, below_setRow D.out l4 _⟩ ?_
      clear E5 E8 Ec D
      rintro v4 ⟨E5, E8, Ec, D⟩
      replace D := Lib.hid D
      have cc3 := Ec.cells.2.2.2.1
      have fc3 := Ec.fz 3
      go_upto_region 23 with (fail)
      refine absw (fun w' => Ent w' w1.heap.size 1 n true a d h ∧ Ent w' w3.heap.size 1 n true true true h ∧ Ent w' w4.heap.size 1 n true true d h ∧ Below W.heap.size W w') ⟨E5.far n5c, E8.far n8c, Ec.s3, below_set D.out l4⟩ ?_
      clear E5 E8 Ec D cc3 fc3
      rintro v5 ⟨E5, E8, Ec, D⟩
      replace D := Lib.hid D
      have c54 := E5.cells.2.2.2.2.1
      have cc4 := Ec.cells.2.2.2.2.1
      have fc4 := Ec.fz 4
      cases d with
      | true =>
        go_upto_region 24 with (fail)
        refine absw (fun w' => Ent w' w3.heap.size 1 n true true true h ∧ Ent w' w4.heap.size 1 n true true true h ∧ Below W.heap.size W w') ⟨E8.far n8c, Ec.s4, below_set D.out l4⟩ ?_
        clear E5 E8 Ec D c54 cc4 fc4
        rintro v6 ⟨E8, Ec, D⟩
        obtain ⟨c80, c81, c82, c83, c84, c85⟩ := E8.cells
        obtain ⟨cc0, cc1, cc2, cc3, cc4, cc5⟩ := Ec.cells
        replace D := Lib.hid D
        go_wp2_with (go_at_call 14; refine (awake_calls _).mono ?_; rintro e v7 ⟨rfl, b9⟩)
        go_ret
        exact ⟨rfl, bthen b9 D.out⟩
      | false =>
        go_upto_region 24 with (fail)
        refine absw (fun w' => Ent w' w3.heap.size 1 n true true true h ∧ Ent w' w4.heap.size 1 n true true true h ∧ Below W.heap.size W w') ⟨E8.far n8c, Ec.s4, below_set D.out l4⟩ ?_
        clear E5 E8 Ec D c54 cc4 fc4
        rintro v6 ⟨E8, Ec, D⟩
        obtain ⟨c80, c81, c82, c83, c84, c85⟩ := E8.cells
        obtain ⟨cc0, cc1, cc2, cc3, cc4, cc5⟩ := Ec.cells
        replace D := Lib.hid D
        go_wp2_with (go_at_call 14; refine (awake_calls _).mono ?_; rintro e v7 ⟨rfl, b9⟩)
        go_ret
        exact ⟨rfl, bthen b9 D.out⟩

theorem walk (x : Int) (wr : Bool) (h0 : 0 ≤ x) (h1 : x < 18446744073709551616) (W : World) : Calls Try.prog 9 #[.int .u64 x, .bool wr] W fun e W' => e = .returned (.bool true) ∧ Below W.heap.size W W' := by
  by_cases hn : ∃ n w a d h, ok 1 n w a d h ∧ x = word 1 n w a d h
  · obtain ⟨n, w, a, d, h, g, hx⟩ := hn
    have gp := ok_flags g false a d
    have go_ := ok_flags g w false d
    have gm := ok_flags g w true (d || wr)
    have ex := dec_word g
    rw [← hx] at ex
    have p1 : ∀ {kd' n' : Int} {w' a' d' h' : Bool} (g' : ok kd' n' w' a' d' h'), 0 ≤ word kd' n' w' a' d' h' ∧ word kd' n' w' a' d' h' < 18446744073709551616 := fun g' => by
      have := ok_range g'; omega
    refine walk_any x (word 1 n false a d h) (word 1 n w false d h) (word 1 n w true (d || wr) h) n w a d h wr W
      (dec_form (decode_calls x h0 h1) ex) (dec_form (decode_calls _ (p1 gp).1 (p1 gp).2) (dec_word gp)) (dec_form (decode_calls _ (p1 go_).1 (p1 go_).2) (dec_word go_)) (dec_form (decode_calls _ (p1 gm).1 (p1 gm).2) (dec_word gm)) ?_ ?_ ?_ ?_
    · intro W; have q := protect_calls x h0 h1 W; have e : protectP x = (word 1 n false a d h, 0) := by rw [hx]; exact protect_word g (.inl rfl)
      rw [e] at q; exact q
    · intro W; have q := old_calls x h0 h1 W; have e : oldP x = (word 1 n w false d h, 0) := by rw [hx]; exact old_word g
      rw [e] at q; exact q
    · intro W; have q := mark_calls _ true (p1 gp).1 (p1 gp).2 W; have e : markP (word 1 n false a d h) true = (0, 12) := by rw [mark_word gp]; simp
      rw [e] at q; exact q
    · intro W
      have q := mark_calls x wr h0 h1 W
      have e : markP x wr = (if wr && !w then 0 else word 1 n w true (d || wr) h, if wr && !w then 12 else 0) := by
        rw [hx, mark_word g]
        cases wr <;> cases w <;> simp
      rw [e] at q
      exact q
  · exact walk_not x wr h0 h1 W hn
end Go.Proofs.Ytmmjialpkddgdaa.PteBitsW
