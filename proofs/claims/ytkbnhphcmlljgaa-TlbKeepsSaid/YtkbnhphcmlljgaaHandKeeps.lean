/- estoverslaw07.TlbKeeps, walked: what the calls answer is written over, and the argument reads as it did. -/
import Derived.Test.YtkbnhphcmlljgaaHandOwn
import Derived.Test.YtkbnhphcmlljgaaHandWay
import Derived.Test.YtkbnhphcmlljgaaPx11
import Derived.Test.YtkbnhphcmlljgaaTlbRefC
set_option linter.unusedVariables false
set_option linter.unusedSimpArgs false
namespace Go.Proofs.Ytkbnhphcmlljgaa.OwnQ
open Go.RowKit Go.Proofs.Ytkbnhphcmlljgaa.P Go.Proofs.Ytkbnhphcmlljgaa.TlbP Go.Proofs.Ytkbnhphcmlljgaa.TlbRef Go.Proofs.Ytkbnhphcmlljgaa.Pte Go.Proofs.Ytkbnhphcmlljgaa.Hand Go.Proofs.YtkbnhphcmlljgaaW.PrintWords Go.Proofs.YtkbnhphcmlljgaaW.PrintLast Go.Proofs.YtkbnhphcmlljgaaW.PrintMore Go.Shelf

theorem add_is (g o k : Nat) : (⟨g, o, none⟩ : Addr).add k = ⟨g, o + k, none⟩ := by
  unfold Addr.add
  by_cases h : k = 0
  · subst h; rfl
  · simp [h]
theorem room_below {W W' : World} {N : Nat} {A : Option Addr} {len : Nat} (h : Room W N A len) (hb : Below W.heap.size W W') : Room W' N A len := by
  rcases h with h | ⟨g, o, cs, e, hN, hh, hs⟩
  · exact .inl h
  · exact .inr ⟨g, o, cs, e, hN, blk_below hh hb, hs⟩
theorem room_lower {W : World} {N N' : Nat} {A : Option Addr} {len : Nat} (h : Room W N A len) (hn : N' ≤ N) : Room W N' A len := by
  rcases h with h | ⟨g, o, cs, e, hN, hh, hs⟩
  · exact .inl h
  · exact .inr ⟨g, o, cs, e, Nat.le_trans hn hN, hh, hs⟩
theorem room_set {W : World} {N : Nat} {A : Option Addr} {len g : Nat} {cs : Array Value} (h : Room W N A len) (hb : W.heap[g]? = some (.cells cs 42 (0, 0))) (i : Nat) (u : Value) : Room (W.setCell ⟨g, i, none⟩ u) N A len := by
  rcases h with h | ⟨g', o, cs', e, hN, hh, hs⟩
  · exact .inl h
  · by_cases hg : g' = g
    · subst hg
      exact .inr ⟨g', o, _, e, hN, blk_set hh i u, by simpa using hs⟩
    · exact .inr ⟨g', o, cs', e, hN, blk_far (p := ⟨g, i, none⟩) hh hg u, hs⟩
theorem room_at {W : World} {N : Nat} {A : Option Addr} {len : Nat} (h : Room W N A len) (j : Nat) (hj : j < len) : ∃ ad : Addr, A = some ad ∧ ∃ (g o : Nat) (cs : Array Value), Hid (ad.add (j * 3) = ⟨g, o, none⟩) ∧ N ≤ g ∧ W.heap[g]? = some (.cells cs 42 (0, 0)) ∧ W.there g o 3 := by
  rcases h with h | ⟨g, o, cs, e, hN, hh, hs⟩
  · omega
  · refine ⟨⟨g, o, none⟩, e, g, o + j * 3, cs, Lib.hid (add_is g o (j * 3)), hN, hh, fun i hi => ⟨?_, blk_frozen hh _⟩⟩
    rw [blk_cell hh]
    simp only [Array.getElem?_eq_some_iff, Option.isSome_iff_exists]
    exact ⟨cs[o + j * 3 + i]'(by omega), by omega, rfl⟩
theorem entry_size : (Try.prog.info? 42).map (·.size) = some 3 := by kernel_rfl
theorem abswl {P : Program} {ops : Array Oper} {rest : List Oper} {a : Act} {Q : Exit → Act → World → Prop} {w : World} (R : World → Prop) (h : R w) (k : ∀ w', R w' → wpList P ops Q rest a w') : wpList P ops Q rest a w := k w h
theorem over_one : (#[Value.int .i64 (-1), .int .i64 (-7), .int .u64 0] : Array Value).all (·.oneCell') = true := by simp [Value.oneCell']
theorem kk4 {k : Nat} (h : k ≤ 3) : k = 0 ∨ k = 1 ∨ k = 2 ∨ k = 3 := by omega
theorem step_j {j len : Nat} (h : j < len) (hl : (len : Int) ≤ 9223372036854775807) : wrap64 ((j : Int) + 1) = ((j + 1 : Nat) : Int) := by rw [w64 (by omega) (by omega)]; omega
/-- What holds while the results are written over. -/
structure Inv (g7 gL : Nat) (n4 : Int) (A4 : Option Addr) (len4 c4 : Nat) (n5 : Int) (A5 : Option Addr) (len5 c5 : Nat) (n6 : Int) (A6 : Option Addr) (len6 c6 : Nat) (W3 w : World) : Prop where
  hL : w.heap[gL]? = some (.cells #[.int .i64 n4, .slice A4 len4 c4, .int .i64 n5, .slice A5 len5 c5, .int .i64 n6, .slice A6 len6 c6] 24 (0, 0))
  r4 : Room w W3.heap.size A4 len4
  r5 : Room w W3.heap.size A5 len5
  r6 : Room w W3.heap.size A6 len6
  d : Below W3.heap.size W3 w
section
variable {g7 gL : Nat} {n4 : Int} {A4 : Option Addr} {len4 c4 : Nat} {n5 : Int} {A5 : Option Addr} {len5 c5 : Nat} {n6 : Int} {A6 : Option Addr} {len6 c6 : Nat} {W3 w w' : World}
theorem inv_below (h : Inv g7 gL n4 A4 len4 c4 n5 A5 len5 c5 n6 A6 len6 c6 W3 w) (hb : Below w.heap.size w w') : Inv g7 gL n4 A4 len4 c4 n5 A5 len5 c5 n6 A6 len6 c6 W3 w' :=
  ⟨blk_below h.hL hb, room_below h.r4 hb, room_below h.r5 hb, room_below h.r6 hb, bth hb h.d⟩
theorem inv_set {g : Nat} {cs : Array Value} (h : Inv g7 gL n4 A4 len4 c4 n5 A5 len5 c5 n6 A6 len6 c6 W3 w) (hN : W3.heap.size ≤ g) (hb : w.heap[g]? = some (.cells cs 42 (0, 0))) (i : Nat) (u : Value) : Inv g7 gL n4 A4 len4 c4 n5 A5 len5 c5 n6 A6 len6 c6 W3 (w.setCell ⟨g, i, none⟩ u) :=
  ⟨blk_far (p := ⟨g, i, none⟩) h.hL (blk_ne h.hL hb (by decide)) u, room_set h.r4 hb i u, room_set h.r5 hb i u, room_set h.r6 hb i u, h.d.setCell (p := ⟨g, i, none⟩) hN u⟩
theorem inv_cells {g : Nat} (hN : W3.heap.size ≤ g) : ∀ (vs : List Value) (o : Nat) (w : World) (cs : Array Value), Inv g7 gL n4 A4 len4 c4 n5 A5 len5 c5 n6 A6 len6 c6 W3 w → w.heap[g]? = some (.cells cs 42 (0, 0)) → Inv g7 gL n4 A4 len4 c4 n5 A5 len5 c5 n6 A6 len6 c6 W3 (w.setCells g o vs)
  | [], _, _, _, h, _ => h
  | v :: vs, o, w, cs, h, hb => inv_cells hN vs (o + 1) _ _ (inv_set h hN hb o v) (blk_set hb o v)
end
theorem fill_O (n : Int) (A : Option Addr) (c : Nat) (l : List E) (hl : ∀ x ∈ l, okw x = true) (s p x : Int) (hx : inU x = true) (W : World) (hC : Kd.C k42 W A l.length l) (hc : l.length ≤ c) : Calls Try.prog 22 #[.agg #[.int .i64 n, .slice A l.length c], .int .i64 s, .int .i64 p, .int .u64 x] W (LeftO W) := (fill_calls n A c l hl s p x hx W hC hc).mono fun _ _ h => left_O h
theorem inval_O (n : Int) (A : Option Addr) (c : Nat) (l : List E) (hl : ∀ x ∈ l, okw x = true) (s p : Int) (W : World) (hC : Kd.C k42 W A l.length l) (hc : l.length ≤ c) : Calls Try.prog 24 #[.agg #[.int .i64 n, .slice A l.length c], .int .i64 s, .int .i64 p] W (LeftO W) := (inval_calls n A c l hl s p W hC hc).mono fun _ _ h => left_O h
theorem flush_O (n : Int) (A : Option Addr) (c : Nat) (l : List E) (hl : ∀ x ∈ l, okw x = true) (s : Int) (W : World) (hC : Kd.C k42 W A l.length l) (hc : l.length ≤ c) : Calls Try.prog 26 #[.agg #[.int .i64 n, .slice A l.length c], .int .i64 s] W (LeftO W) := (flush_calls n A c l hl s W hC hc).mono fun _ _ h => left_O h
def estoverslaw07_TlbKeeps.T3 : Bool × List (List Nat × List Nat) := (true, [([], []), ([0], [0]), ([], []), ([], []), ([3], [3]), ([2, 4], [2, 4]), ([1, 5], [1, 5]), ([], []), ([7, 6, 5, 0, 1, 2, 3, 4, 5, 6, 7], [6, 7])])
def estoverslaw07_TlbKeeps.B3 : List Nat := [0, 1, 0, 0, 8, 28, 63, 0, 255]
theorem estoverslaw07_TlbKeeps.tab3 : rtab .any (opsOf Try.f11 3) = estoverslaw07_TlbKeeps.T3 := by kernel_rfl
theorem estoverslaw07_TlbKeeps.bits3 : waitsOk estoverslaw07_TlbKeeps.T3.2 estoverslaw07_TlbKeeps.B3 = true := by kernel_rfl
set_option maxHeartbeats 8000000 in
set_option maxRecDepth 100000 in
theorem keeps_few (a0_0 : Int) (A0_1 : Option Addr) (c0_1 : Nat) (l0_1 : List E) (a1_0 a1_1 a2 : Int) (w : World) (hr0_1 : Kd.C k42 w A0_1 l0_1.length l0_1) (hc0_1 : l0_1.length ≤ c0_1) (A40 : estoversref07_Few.f a0_0 l0_1 20 = some false) :
    Calls Try.prog 11 #[.agg #[.int .i64 a0_0, .slice A0_1 l0_1.length c0_1], .agg #[.int .i64 a1_0, .int .i64 a1_1], .int .u64 a2] w fun e w' => e = .returned (.bool true) ∧ Below w.heap.size w w' := by
  have hu24 := Try.underlying24
  have hu35 := Try.underlying35
  have HR0_1 := Aside0.mk hr0_1
  have HC0_1 := Aside0.mk hc0_1
  clear hr0_1 hc0_1
  have HB := Aside0.mk (Below.refl w.heap.size w)
  have A4 := Aside0.mk A40
  have A59 : Aside0 (estoverslaw07_awake.f = some true) := Aside0.mk rfl
  clear A40
  go_enter Try.func11, Try.ntmps11
  go_wp2_with (first | ((with_reducible refine gate_dst (N := 3) rfl ?_); refine box_event ?hg (N := 3) ?hd (cs := #[.int .i64 a0_0, .slice A0_1 l0_1.length c0_1]) (t := 24) ?hr ?_; (case hd => rfl); (case hg => rfl); (case hr => first | (go_simp; done) | (go_simp; rfl)); intro gb139 hg w60 hbox hb; have n0_ := Aside0.mk (below_step (by repeat (first | (with_reducible first | exact HB.out | apply below_alloc | apply pw_below_drewN | apply below_drew1) | exact HB.out)) hb); have n1_ := Aside0.mk (hbox); have n2_ := Aside0.mk ((by rw [hg]; exact (below_size (by repeat (first | (with_reducible first | exact HB.out | apply below_alloc | apply pw_below_drewN | apply below_drew1) | exact HB.out))) : w.heap.size ≤ gb139)); have n3_ := Aside0.mk ((by rw [hg]; exact (below_size (by repeat (first | (with_reducible first | exact HB.out | apply below_alloc | apply pw_below_drewN | apply below_drew1) | exact HB.out))) : w.heap.size ≤ gb139)); clear HB; have HB := n0_; have BK139 := n1_; have GW139 := n2_; have GE139 := n3_; clear n0_ n1_ n2_ n3_; clear hb hbox hg) | ((with_reducible refine gate_dst (N := 4) rfl ?_); refine box_event ?hg (N := 4) ?hd (cs := #[.int .i64 a1_0, .int .i64 a1_1]) (t := 35) ?hr ?_; (case hd => rfl); (case hg => rfl); (case hr => first | (go_simp; done) | (go_simp; rfl)); intro gb140 hg w61 hbox hb; have n0_ := Aside0.mk (blk_below (g := gb139) (o := .cells #[.int .i64 a0_0, .slice A0_1 l0_1.length c0_1] 24 (0, 0)) (by (with_reducible repeat (first | refine blk_drewN ?_ _ | refine blk_drew ?_ | refine blk_alloc ?_ _)); exact BK139.out) hb); have n1_ := Aside0.mk (below_step (by repeat (first | (with_reducible first | exact HB.out | apply below_alloc | apply pw_below_drewN | apply below_drew1 | refine below_set ?_ GE139.out) | exact HB.out)) hb); have n2_ := Aside0.mk (hbox); have n3_ := Aside0.mk ((by rw [hg]; exact (below_size (by repeat (first | (with_reducible first | exact HB.out | apply below_alloc | apply pw_below_drewN | apply below_drew1 | refine below_set ?_ GE139.out) | exact HB.out))) : w.heap.size ≤ gb140)); have n4_ := Aside0.mk ((by rw [hg]; exact (below_size (by repeat (first | (with_reducible first | exact HB.out | apply below_alloc | apply pw_below_drewN | apply below_drew1 | refine below_set ?_ GE139.out) | exact HB.out))) : w.heap.size ≤ gb140)); have n5_ := Aside0.mk ((by rw [hg]; exact Nat.ne_of_lt (blk_lt (g := gb139) (o := .cells #[.int .i64 a0_0, .slice A0_1 l0_1.length c0_1] 24 (0, 0)) (by (with_reducible repeat (first | refine blk_drewN ?_ _ | refine blk_drew ?_ | refine blk_alloc ?_ _)); exact BK139.out)) : gb139 ≠ gb140)); have n6_ := Aside0.mk ((by rw [hg]; exact Nat.ne_of_gt (blk_lt (g := gb139) (o := .cells #[.int .i64 a0_0, .slice A0_1 l0_1.length c0_1] 24 (0, 0)) (by (with_reducible repeat (first | refine blk_drewN ?_ _ | refine blk_drew ?_ | refine blk_alloc ?_ _)); exact BK139.out)) : gb140 ≠ gb139)); clear BK139; clear HB; have BK139 := n0_; have HB := n1_; have BK140 := n2_; have GW140 := n3_; have GE140 := n4_; have NB139_140 := n5_; have NB140_139 := n6_; clear n0_ n1_ n2_ n3_ n4_ n5_ n6_; clear hb hbox hg; have hnb62 := NB139_140.out; have hnc62 := NB140_139.out; have hcz63_0 : w61.cell? ⟨gb139, 0, none⟩ = some (.int .i64 a0_0) := (blk_cell BK139.out 0).trans rfl; have hcz63_1 : w61.cell? ⟨gb139, 1, none⟩ = some (.slice A0_1 l0_1.length c0_1) := (blk_cell BK139.out 1).trans rfl; have hfz63_0 := blk_frozen BK139.out 0; have hfz63_1 := blk_frozen BK139.out 1) | ((with_reducible refine gate_callee (f := 12) rfl ?_); refine goesL_ (some 18) rfl rfl Try.func12 (by kernel_rfl) rfl #[.agg #[.int .i64 a0_0, .slice A0_1 l0_1.length c0_1], .int .i64 20] rfl (by (try simp only [List.map_toArray, List.map_cons, List.map_nil]); first | done | rfl | (simp only [List.length_drop, List.length_take]; rfl)) ?_; (with_reducible refine (estoversref07_Few.calls a0_0 _ _ l0_1 20 false _ ?side1 ?side2 A4.out).mono ?_); (case side1 => repeat (first | exact (Kd.C_below HR0_1.out HB.out) | (with_reducible refine Kd.C_alloc ?_ _) | (with_reducible refine Kd.C_drewN ?_ _) | (with_reducible refine Kd.C_drew ?_))); (case side2 => exact HC0_1.out); rintro e w64 ⟨rfl, hb⟩; refine ⟨_, rfl, ?_⟩; have n0_ := Aside0.mk (blk_below (g := gb139) (o := .cells #[.int .i64 a0_0, .slice A0_1 l0_1.length c0_1] 24 (0, 0)) (by (with_reducible repeat (first | refine blk_drewN ?_ _ | refine blk_drew ?_ | refine blk_alloc ?_ _)); exact BK139.out) hb); have n1_ := Aside0.mk (blk_below (g := gb140) (o := .cells #[.int .i64 a1_0, .int .i64 a1_1] 35 (0, 0)) (by (with_reducible repeat (first | refine blk_drewN ?_ _ | refine blk_drew ?_ | refine blk_alloc ?_ _)); exact BK140.out) hb); have n2_ := Aside0.mk (below_step (by repeat (first | (with_reducible first | exact HB.out | apply below_alloc | apply pw_below_drewN | apply below_drew1 | refine below_set ?_ GE139.out | refine below_set ?_ GE140.out) | exact HB.out)) hb); clear BK139; clear BK140; clear HB; have BK139 := n0_; have BK140 := n1_; have HB := n2_; clear n0_ n1_ n2_; (try clear hb); (try clear hb2); (try clear hk); (try clear hi)) | ((with_reducible refine gate_callee (f := 13) rfl ?_); refine goesL_ (some 20) rfl rfl Try.func13 (by kernel_rfl) rfl #[] rfl (by (try simp only [List.map_toArray, List.map_cons, List.map_nil]); first | done | rfl | (simp only [List.length_drop, List.length_take]; rfl)) ?_; (with_reducible refine (estoverslaw07_awake.calls  true _ A59.out).mono ?_); rintro e w65 ⟨rfl, hb⟩; refine ⟨_, rfl, ?_⟩; have n0_ := Aside0.mk (blk_below (g := gb139) (o := .cells #[.int .i64 a0_0, .slice A0_1 l0_1.length c0_1] 24 (0, 0)) (by (with_reducible repeat (first | refine blk_drewN ?_ _ | refine blk_drew ?_ | refine blk_alloc ?_ _)); exact BK139.out) hb); have n1_ := Aside0.mk (blk_below (g := gb140) (o := .cells #[.int .i64 a1_0, .int .i64 a1_1] 35 (0, 0)) (by (with_reducible repeat (first | refine blk_drewN ?_ _ | refine blk_drew ?_ | refine blk_alloc ?_ _)); exact BK140.out) hb); have n2_ := Aside0.mk (below_step (by repeat (first | (with_reducible first | exact HB.out | apply below_alloc | apply pw_below_drewN | apply below_drew1 | refine below_set ?_ GE139.out | refine below_set ?_ GE140.out) | exact HB.out)) hb); clear BK139; clear BK140; clear HB; have BK139 := n0_; have BK140 := n1_; have HB := n2_; clear n0_ n1_ n2_; (try clear hb); (try clear hb2); (try clear hk); (try clear hi)))
  go_ret
  exact ⟨by first | rfl | (simp [errW_none, errW_some] <;> rfl) | (simp [*, errW_none, errW_some] <;> rfl), by repeat (first | (with_reducible first | exact HB.out | apply below_alloc | apply pw_below_drewN | apply below_drew1 | refine below_set ?_ GE139.out | refine below_set ?_ GE140.out) | exact HB.out)⟩

set_option maxHeartbeats 8000000 in
set_option maxRecDepth 100000 in
theorem keeps_main (a0_0 : Int) (A0_1 : Option Addr) (c0_1 : Nat) (l0_1 : List E) (a1_0 a1_1 a2 : Int) (w : World) (hr0_1 : Kd.C k42 w A0_1 l0_1.length l0_1) (hc0_1 : l0_1.length ≤ c0_1) (hl : ∀ y ∈ l0_1, okw y = true) (hx : inU a2 = true) (h20 : l0_1.length ≤ 20) (A40 : estoversref07_Few.f a0_0 l0_1 20 = some true) :
    Calls Try.prog 11 #[.agg #[.int .i64 a0_0, .slice A0_1 l0_1.length c0_1], .agg #[.int .i64 a1_0, .int .i64 a1_1], .int .u64 a2] w fun e w' => e = .returned (.bool true) ∧ Below w.heap.size w w' := by
  have hu24 := Try.underlying24
  have hu35 := Try.underlying35
  have HR0_1 := Aside0.mk hr0_1
  have HC0_1 := Aside0.mk hc0_1
  clear hr0_1 hc0_1
  have HB := Aside0.mk (Below.refl w.heap.size w)
  have A4 := Aside0.mk A40
  clear A40
  obtain ⟨y143, hy143⟩ : ∃ y_ : List E, y_ = ([] : List E) := ⟨_, rfl⟩
  have Ny143 := Aside0.mk hy143
  have LMc6 : Aside0 (y143.length + l0_1.length < 5864062014805) := Aside0.mk (by rw [hy143]; simp; omega)
  obtain ⟨y146, hy146⟩ : ∃ y_ : List E, y_ = y143 ++ l0_1 := ⟨_, rfl⟩
  have HY := Lib.hid (show y146 = l0_1 by rw [hy146, hy143]; rfl)
  have Ny146 := Aside0.mk hy146
  clear hy143 hy146
  have HL := Lib.hid hl
  have H20 := Lib.hid h20
  clear hl h20
  go_enter Try.func11, Try.ntmps11
  try go_wp2_with (first | ((with_reducible refine gate_dst (N := 3) rfl ?_); refine box_event ?hg (N := 3) ?hd (cs := #[.int .i64 a0_0, .slice A0_1 l0_1.length c0_1]) (t := 24) ?hr ?_; (case hd => rfl); (case hg => rfl); (case hr => first | (go_simp; done) | (go_simp; rfl)); intro gb139 hg w11 hbox hb; have n0_ := Aside0.mk (below_step (by repeat (first | (with_reducible first | exact HB.out | apply below_alloc | apply pw_below_drewN | apply below_drew1) | exact HB.out)) hb); have n1_ := Aside0.mk (hbox); have n2_ := Aside0.mk ((by rw [hg]; exact (below_size (by repeat (first | (with_reducible first | exact HB.out | apply below_alloc | apply pw_below_drewN | apply below_drew1) | exact HB.out))) : w.heap.size ≤ gb139)); have n3_ := Aside0.mk ((by rw [hg]; exact (below_size (by repeat (first | (with_reducible first | exact HB.out | apply below_alloc | apply pw_below_drewN | apply below_drew1) | exact HB.out))) : w.heap.size ≤ gb139)); clear HB; have HB := n0_; have BK139 := n1_; have GW139 := n2_; have GE139 := n3_; clear n0_ n1_ n2_ n3_; clear hb hbox hg) | ((with_reducible refine gate_dst (N := 4) rfl ?_); refine box_event ?hg (N := 4) ?hd (cs := #[.int .i64 a1_0, .int .i64 a1_1]) (t := 35) ?hr ?_; (case hd => rfl); (case hg => rfl); (case hr => first | (go_simp; done) | (go_simp; rfl)); intro gb140 hg w12 hbox hb; have n0_ := Aside0.mk (blk_below (g := gb139) (o := .cells #[.int .i64 a0_0, .slice A0_1 l0_1.length c0_1] 24 (0, 0)) (by (with_reducible repeat (first | refine blk_drewN ?_ _ | refine blk_drew ?_ | refine blk_alloc ?_ _)); exact BK139.out) hb); have n1_ := Aside0.mk (below_step (by repeat (first | (with_reducible first | exact HB.out | apply below_alloc | apply pw_below_drewN | apply below_drew1 | refine below_set ?_ GE139.out) | exact HB.out)) hb); have n2_ := Aside0.mk (hbox); have n3_ := Aside0.mk ((by rw [hg]; exact (below_size (by repeat (first | (with_reducible first | exact HB.out | apply below_alloc | apply pw_below_drewN | apply below_drew1 | refine below_set ?_ GE139.out) | exact HB.out))) : w.heap.size ≤ gb140)); have n4_ := Aside0.mk ((by rw [hg]; exact (below_size (by repeat (first | (with_reducible first | exact HB.out | apply below_alloc | apply pw_below_drewN | apply below_drew1 | refine below_set ?_ GE139.out) | exact HB.out))) : w.heap.size ≤ gb140)); have n5_ := Aside0.mk ((by rw [hg]; exact Nat.ne_of_lt (blk_lt (g := gb139) (o := .cells #[.int .i64 a0_0, .slice A0_1 l0_1.length c0_1] 24 (0, 0)) (by (with_reducible repeat (first | refine blk_drewN ?_ _ | refine blk_drew ?_ | refine blk_alloc ?_ _)); exact BK139.out)) : gb139 ≠ gb140)); have n6_ := Aside0.mk ((by rw [hg]; exact Nat.ne_of_gt (blk_lt (g := gb139) (o := .cells #[.int .i64 a0_0, .slice A0_1 l0_1.length c0_1] 24 (0, 0)) (by (with_reducible repeat (first | refine blk_drewN ?_ _ | refine blk_drew ?_ | refine blk_alloc ?_ _)); exact BK139.out)) : gb140 ≠ gb139)); clear BK139; clear HB; have BK139 := n0_; have HB := n1_; have BK140 := n2_; have GW140 := n3_; have GE140 := n4_; have NB139_140 := n5_; have NB140_139 := n6_; clear n0_ n1_ n2_ n3_ n4_ n5_ n6_; clear hb hbox hg; have hnb13 := NB139_140.out; have hnc13 := NB140_139.out; have hcz14_0 : w12.cell? ⟨gb139, 0, none⟩ = some (.int .i64 a0_0) := (blk_cell BK139.out 0).trans rfl; have hcz14_1 : w12.cell? ⟨gb139, 1, none⟩ = some (.slice A0_1 l0_1.length c0_1) := (blk_cell BK139.out 1).trans rfl; have hfz14_0 := blk_frozen BK139.out 0; have hfz14_1 := blk_frozen BK139.out 1) | ((with_reducible refine gate_callee (f := 12) rfl ?_); refine goesL_ (some 18) rfl rfl Try.func12 (by kernel_rfl) rfl #[.agg #[.int .i64 a0_0, .slice A0_1 l0_1.length c0_1], .int .i64 20] rfl (by (try simp only [List.map_toArray, List.map_cons, List.map_nil]); first | done | rfl | (simp only [List.length_drop, List.length_take]; rfl)) ?_; (with_reducible refine (estoversref07_Few.calls a0_0 _ _ l0_1 20 true _ ?side1 ?side2 A4.out).mono ?_); (case side1 => repeat (first | exact (Kd.C_below HR0_1.out HB.out) | (with_reducible refine Kd.C_alloc ?_ _) | (with_reducible refine Kd.C_drewN ?_ _) | (with_reducible refine Kd.C_drew ?_))); (case side2 => exact HC0_1.out); rintro e w15 ⟨rfl, hb⟩; refine ⟨_, rfl, ?_⟩; have n0_ := Aside0.mk (blk_below (g := gb139) (o := .cells #[.int .i64 a0_0, .slice A0_1 l0_1.length c0_1] 24 (0, 0)) (by (with_reducible repeat (first | refine blk_drewN ?_ _ | refine blk_drew ?_ | refine blk_alloc ?_ _)); exact BK139.out) hb); have n1_ := Aside0.mk (blk_below (g := gb140) (o := .cells #[.int .i64 a1_0, .int .i64 a1_1] 35 (0, 0)) (by (with_reducible repeat (first | refine blk_drewN ?_ _ | refine blk_drew ?_ | refine blk_alloc ?_ _)); exact BK140.out) hb); have n2_ := Aside0.mk (below_step (by repeat (first | (with_reducible first | exact HB.out | apply below_alloc | apply pw_below_drewN | apply below_drew1 | refine below_set ?_ GE139.out | refine below_set ?_ GE140.out) | exact HB.out)) hb); clear BK139; clear BK140; clear HB; have BK139 := n0_; have BK140 := n1_; have HB := n2_; clear n0_ n1_ n2_; (try clear hb); (try clear hb2); (try clear hk); (try clear hi)))
  have n0_ := Aside0.mk (blk_drew BK139.out)
  have n1_ := Aside0.mk (blk_drew BK140.out)
  have n2_ := Aside0.mk (below_drew1 HB.out)
  clear BK139
  clear BK140
  clear HB
  have BK139 := n0_
  have BK140 := n1_
  have HB := n2_
  clear n0_ n1_ n2_
  refine start_ (n := 9) (S := fun w' => w'.cell? ⟨gb139, 0, none⟩ = some (.int .i64 a0_0) ∧ w'.cell? ⟨gb139, 1, none⟩ = some (.slice A0_1 l0_1.length c0_1)) (ds := []) #[false, false, false, false, false, false, false, false, false] (by kernel_rfl) rfl rfl ⟨(blk_cell BK139.out 0).trans rfl, (blk_cell BK139.out 1).trans rfl⟩ (fun hHeld => ?_); refine with_tabW estoverslaw07_TlbKeeps.tab3 estoverslaw07_TlbKeeps.bits3 (fun HT_ HW_ => ?_)
  generalize w15.drew = w16 at BK139 BK140 HB hHeld ⊢
  refine pure_ (i := 0) (N := some 21) (v := ?_) (a' := ?_) #[true, false, false, false, false, false, false, false, false] rfl rfl (any_of HT_.out (by kernel_rfl)) (fun _ _ _ h => h) (Or.inl ⟨by rfl, ?_⟩) ?_ ?_
  rotate_left
  · intro w'
    go_simp
    with_reducible rfl
  rotate_left
  · simp only [Act.put, List.setIfInBounds_toArray, List.set_cons_zero, List.set_cons_succ, i64_w, i32_w]
    rfl
  refine pure_ (i := 3) (N := some 24) (v := ?_) (a' := ?_) #[true, false, false, true, false, false, false, false, false] rfl rfl (any_of HT_.out (by kernel_rfl)) (fun _ _ _ h => h) (Or.inl ⟨by rfl, ?_⟩) ?_ ?_
  rotate_left
  · intro w'
    go_simp
    with_reducible rfl
  rotate_left
  · simp only [Act.put, List.setIfInBounds_toArray, List.set_cons_zero, List.set_cons_succ, i64_w, i32_w]
    rfl
  refine take_ (i := 1) (N := some 22) (v := ?_) (a' := ?_) #[true, true, false, true, false, false, false, false, false] rfl rfl (take_ofW HT_.out HW_.out (by kernel_rfl)) (fun _ _ _ h => h) (Or.inl ⟨by rfl, ?_⟩) hHeld ?_ ?_
  rotate_left
  · rintro w' ⟨s0, s1⟩
    go_simp
    with_reducible rfl
  rotate_left
  · simp only [Act.put, List.setIfInBounds_toArray, List.set_cons_zero, List.set_cons_succ, i64_w, i32_w]
    rfl
  refine take_ (i := 4) (N := some 25) (v := ?_) (a' := ?_) #[true, true, false, true, true, false, false, false, false] rfl rfl (take_ofW HT_.out HW_.out (by kernel_rfl)) (fun _ _ _ h => h) (Or.inl ⟨by rfl, ?_⟩) hHeld ?_ ?_
  rotate_left
  · rintro w' ⟨s0, s1⟩
    go_simp
    with_reducible rfl
  rotate_left
  · simp only [Act.put, List.setIfInBounds_toArray, List.set_cons_zero, List.set_cons_succ, i64_w, i32_w]
    rfl
  refine join_ (σ := Value × Value × Nat) 1 #[true, true, true, true, true, true, true, true, false] (fun s_ => [(23, s_.1), (26, s_.2.1), (7, .pointer (some ⟨s_.2.2, 0, none⟩)), (27, .agg #[.int .i64 a0_0, s_.2.1])]) (fun s_ w' => (w'.cell? ⟨gb139, 0, none⟩ = some (.int .i64 a0_0) ∧ w'.cell? ⟨gb139, 1, none⟩ = some (.slice A0_1 l0_1.length c0_1)) ∧ (Kd.R k42 42 w' w.heap.size (fun _ => True) s_.2.1 y146) ∧ (w'.heap[gb139]? = some (.cells #[.int .i64 a0_0, .slice A0_1 l0_1.length c0_1] 24 (0, 0))) ∧ (w'.heap[gb140]? = some (.cells #[.int .i64 a1_0, .int .i64 a1_1] 35 (0, 0))) ∧ (w'.heap[s_.2.2]? = some (.cells #[.int .i64 0, .slice none 0 0] 24 (0, 0))) ∧ (w.heap.size ≤ s_.2.2) ∧ (w.heap.size ≤ s_.2.2) ∧ (gb139 ≠ s_.2.2) ∧ (s_.2.2 ≠ gb139) ∧ (gb140 ≠ s_.2.2) ∧ (s_.2.2 ≠ gb140) ∧ (Below w.heap.size w w')) ?_ ?_
  rotate_left
  · intro hCont
    refine two_ (i := 2) (j := 7) (Ni := some 23) (Nj := some 7) #[true, true, true, true, true, false, false, false, false] #[true, true, false, true, true, false, false, true, false] rfl rfl rfl rfl (two_of HT_.out (by kernel_rfl)) (by decide) (by decide) (fun K hK => ?_) (fun K hK => ?_)
    · skip
      refine Kd.R_lit_step k42 _ 42 ?hg (N := 23) ?hd (xs := ([] : List (S42))) (inner := []) (ok := fun _ => True) (okp := fun _ => True) ?hr ?hp (fun _ hk => hk) trivial (Below.refl _ _) (Nat.le_refl _) (by simp) ?_; (case hd => rfl); (case hg => rfl); (case hr => first | (go_simp; done) | (go_simp; rfl)); (case hp => exact (Reps.none _ _))
      intro v144 w17 ho18 hb hg_ hnew_
      clear hg_ hnew_
      (first | rw [← Ny143.out] at ho18 | (simp only [Int.reduceToNat] at ho18; rw [← Ny143.out] at ho18))
      have n0_ := Aside0.mk (Kd.R_lower ho18 (below_size (by repeat (first | (with_reducible first | exact HB.out | apply below_alloc | apply pw_below_drewN | apply below_drew1 | refine below_set ?_ GE139.out | refine below_set ?_ GE140.out) | exact HB.out))))
      have n1_ := Aside0.mk (blk_below (g := gb139) (o := .cells #[.int .i64 a0_0, .slice A0_1 l0_1.length c0_1] 24 (0, 0)) (by (with_reducible repeat (first | refine blk_drewN ?_ _ | refine blk_drew ?_ | refine blk_alloc ?_ _)); exact BK139.out) hb)
      have n2_ := Aside0.mk (blk_below (g := gb140) (o := .cells #[.int .i64 a1_0, .int .i64 a1_1] 35 (0, 0)) (by (with_reducible repeat (first | refine blk_drewN ?_ _ | refine blk_drew ?_ | refine blk_alloc ?_ _)); exact BK140.out) hb)
      have n3_ := Aside0.mk (below_step (by repeat (first | (with_reducible first | exact HB.out | apply below_alloc | apply pw_below_drewN | apply below_drew1 | refine below_set ?_ GE139.out | refine below_set ?_ GE140.out) | exact HB.out)) hb)
      clear BK139
      clear BK140
      clear HB
      have HO145 := n0_
      have BK139 := n1_
      have BK140 := n2_
      have HB := n3_
      clear n0_ n1_ n2_ n3_
      clear hb ho18
      refine hK.out _ _ ⟨(blk_cell BK139.out 0).trans rfl, (blk_cell BK139.out 1).trans rfl⟩ (fun hHeld => ?_)
      clear hK K
      refine norm_ (a' := ?_) ?_ ?_
      rotate_left
      · show Act.put _ (some 23) _ = _
        simp only [Act.put, List.setIfInBounds_toArray, List.set_cons_zero, List.set_cons_succ, i64_w, i32_w]
        rfl
      refine two_ (i := 5) (j := 7) (Ni := some 26) (Nj := some 7) #[true, true, true, true, true, true, false, false, false] #[true, true, true, true, true, false, false, true, false] rfl rfl rfl rfl (two_of HT_.out (by kernel_rfl)) (by decide) (by decide) (fun K hK => ?_) (fun K hK => ?_)
      · skip
        refine Kd.R_append_rows_step k42 (w0 := w) w.heap.size (by rfl) (.tmp 23) (.tmp 25) 22 42 (.agg #[(.int .i64 0), (.int .i64 0), (.int .u64 0)]) 24 rfl Try.underlying22 info42 rfl (by decide) (by omega) v144 y143 l0_1 _ _ _ (fun _ => True) (fun _ => False) rfl rfl ?aO ?aR (fun _ _ h => h) (fun _ h => h.elim) ?aF ?aB ?aS ?aL ?_
        (case aR => repeat (first | exact (Kd.C_below HR0_1.out HB.out) | (with_reducible refine Kd.C_alloc ?_ _) | (with_reducible refine Kd.C_drewN ?_ _) | (with_reducible refine Kd.C_drew ?_)))
        (case aB => exact (by repeat (first | (with_reducible first | exact HB.out | apply below_alloc | apply pw_below_drewN | apply below_drew1 | refine below_set ?_ GE139.out | refine below_set ?_ GE140.out) | exact HB.out)))
        (case aF => exact (fun _ _ => trivial))
        (case aO => exact (by (with_reducible repeat (first | apply Kd.R_alloc | apply Kd.R_drewN | apply Kd.R_drew)); exact HO145.out))
        (case aS => exact (below_size (by repeat (first | (with_reducible first | exact HB.out | apply below_alloc | apply pw_below_drewN | apply below_drew1 | refine below_set ?_ GE139.out | refine below_set ?_ GE140.out) | exact HB.out))))
        (case aL => have := LMc6.out; omega)
        intro v147 w19 ho hb hg hat
        rw [← Ny146.out] at ho
        have n0_ := Aside0.mk (blk_grown (g := gb139) (o := .cells #[.int .i64 a0_0, .slice A0_1 l0_1.length c0_1] 24 (0, 0)) (by (with_reducible repeat (first | refine blk_drewN ?_ _ | refine blk_drew ?_ | refine blk_alloc ?_ _)); exact BK139.out) hg (Kd.R_ne HO145.out BK139.out (by decide)))
        have n1_ := Aside0.mk (blk_grown (g := gb140) (o := .cells #[.int .i64 a1_0, .int .i64 a1_1] 35 (0, 0)) (by (with_reducible repeat (first | refine blk_drewN ?_ _ | refine blk_drew ?_ | refine blk_alloc ?_ _)); exact BK140.out) hg (Kd.R_ne HO145.out BK140.out (by decide)))
        have n2_ := Aside0.mk (hb)
        have n3_ := Aside0.mk (ho)
        clear BK139
        clear BK140
        clear HB
        clear HO145
        have BK139 := n0_
        have BK140 := n1_
        have HB := n2_
        have HO148 := n3_
        clear n0_ n1_ n2_ n3_
        clear ho hb hg hat
        obtain ⟨Ao20, co20, eo20⟩ := Kd.R_slice HO148.out
        (first | subst eo20 | (injection eo20 with f1_ f2_ f3_; have f4_ := f1_.symm; have f5_ := f3_.symm; clear f1_ f2_ f3_; subst f4_; subst f5_))
        refine hK.out _ _ ⟨(blk_cell BK139.out 0).trans rfl, (blk_cell BK139.out 1).trans rfl⟩ (fun hHeld => ?_)
        clear hK K
        refine norm_ (a' := ?_) ?_ ?_
        rotate_left
        · show Act.put _ (some 26) _ = _
          simp only [Act.put, List.setIfInBounds_toArray, List.set_cons_zero, List.set_cons_succ, i64_w, i32_w]
          rfl
        refine pure_ (i := 6) (N := some 27) (v := ?_) (a' := ?_) #[true, true, true, true, true, true, true, false, false] rfl rfl (any_of HT_.out (by kernel_rfl)) (fun _ _ _ h => h) (Or.inl ⟨by rfl, ?_⟩) ?_ ?_
        rotate_left
        · intro w'
          go_simp
          with_reducible rfl
        rotate_left
        · simp only [Act.put, List.setIfInBounds_toArray, List.set_cons_zero, List.set_cons_succ, i64_w, i32_w]
          rfl
        refine one_ (i := 7) (N := some 7) #[true, true, true, true, true, true, true, true, false] rfl rfl (one_of HT_.out (by kernel_rfl)) (by decide) (fun K hK => ?_)
        refine box_step ?hg (N := 7) ?hd (cs := #[.int .i64 0, .slice none 0 0]) (t := 24) ?hr ?_; (case hd => rfl); (case hg => rfl); (case hr => first | (go_simp; done) | (go_simp; rfl))
        intro gb149 hg w21 hbox hb
        have n0_ := Aside0.mk (Kd.R_below (by (with_reducible repeat (first | apply Kd.R_alloc | apply Kd.R_drewN | apply Kd.R_drew)); exact HO148.out) hb)
        have n1_ := Aside0.mk (blk_below (g := gb139) (o := .cells #[.int .i64 a0_0, .slice A0_1 l0_1.length c0_1] 24 (0, 0)) (by (with_reducible repeat (first | refine blk_drewN ?_ _ | refine blk_drew ?_ | refine blk_alloc ?_ _)); exact BK139.out) hb)
        have n2_ := Aside0.mk (blk_below (g := gb140) (o := .cells #[.int .i64 a1_0, .int .i64 a1_1] 35 (0, 0)) (by (with_reducible repeat (first | refine blk_drewN ?_ _ | refine blk_drew ?_ | refine blk_alloc ?_ _)); exact BK140.out) hb)
        have n3_ := Aside0.mk (below_step (by repeat (first | (with_reducible first | exact HB.out | apply below_alloc | apply pw_below_drewN | apply below_drew1 | refine below_set ?_ GE139.out | refine below_set ?_ GE140.out) | exact HB.out)) hb)
        have n4_ := Aside0.mk (hbox)
        have n5_ := Aside0.mk ((by rw [hg]; exact (below_size (by repeat (first | (with_reducible first | exact HB.out | apply below_alloc | apply pw_below_drewN | apply below_drew1 | refine below_set ?_ GE139.out | refine below_set ?_ GE140.out) | exact HB.out))) : w.heap.size ≤ gb149))
        have n6_ := Aside0.mk ((by rw [hg]; exact (below_size (by repeat (first | (with_reducible first | exact HB.out | apply below_alloc | apply pw_below_drewN | apply below_drew1 | refine below_set ?_ GE139.out | refine below_set ?_ GE140.out) | exact HB.out))) : w.heap.size ≤ gb149))
        have n7_ := Aside0.mk ((by rw [hg]; exact Nat.ne_of_lt (blk_lt (g := gb139) (o := .cells #[.int .i64 a0_0, .slice A0_1 l0_1.length c0_1] 24 (0, 0)) (by (with_reducible repeat (first | refine blk_drewN ?_ _ | refine blk_drew ?_ | refine blk_alloc ?_ _)); exact BK139.out)) : gb139 ≠ gb149))
        have n8_ := Aside0.mk ((by rw [hg]; exact Nat.ne_of_gt (blk_lt (g := gb139) (o := .cells #[.int .i64 a0_0, .slice A0_1 l0_1.length c0_1] 24 (0, 0)) (by (with_reducible repeat (first | refine blk_drewN ?_ _ | refine blk_drew ?_ | refine blk_alloc ?_ _)); exact BK139.out)) : gb149 ≠ gb139))
        have n9_ := Aside0.mk ((by rw [hg]; exact Nat.ne_of_lt (blk_lt (g := gb140) (o := .cells #[.int .i64 a1_0, .int .i64 a1_1] 35 (0, 0)) (by (with_reducible repeat (first | refine blk_drewN ?_ _ | refine blk_drew ?_ | refine blk_alloc ?_ _)); exact BK140.out)) : gb140 ≠ gb149))
        have n10_ := Aside0.mk ((by rw [hg]; exact Nat.ne_of_gt (blk_lt (g := gb140) (o := .cells #[.int .i64 a1_0, .int .i64 a1_1] 35 (0, 0)) (by (with_reducible repeat (first | refine blk_drewN ?_ _ | refine blk_drew ?_ | refine blk_alloc ?_ _)); exact BK140.out)) : gb149 ≠ gb140))
        clear HO148
        clear BK139
        clear BK140
        clear HB
        have HO148 := n0_
        have BK139 := n1_
        have BK140 := n2_
        have HB := n3_
        have BK149 := n4_
        have GW149 := n5_
        have GE149 := n6_
        have NB139_149 := n7_
        have NB149_139 := n8_
        have NB140_149 := n9_
        have NB149_140 := n10_
        clear n0_ n1_ n2_ n3_ n4_ n5_ n6_ n7_ n8_ n9_ n10_
        clear hb hbox hg
        refine hK.out _ _ ⟨(blk_cell BK139.out 0).trans rfl, (blk_cell BK139.out 1).trans rfl⟩ (fun hHeld => ?_)
        clear hK K
        refine norm_ (a' := ?_) ?_ ?_
        rotate_left
        · show Act.put _ (some 7) _ = _
          simp only [Act.put, List.setIfInBounds_toArray, List.set_cons_zero, List.set_cons_succ, i64_w, i32_w]
          rfl
        exact norm_ (by simp only [putAll, Act.put, List.setIfInBounds_toArray, List.set_cons_zero, List.set_cons_succ]) (hCont (v144, .slice Ao20 y146.length co20, gb149) _ ⟨hHeld, (by (with_reducible repeat (first | apply Kd.R_alloc | apply Kd.R_drewN | apply Kd.R_drew)); exact HO148.out), (by (with_reducible repeat (first | refine blk_drewN ?_ _ | refine blk_drew ?_ | refine blk_alloc ?_ _)); exact BK139.out), (by (with_reducible repeat (first | refine blk_drewN ?_ _ | refine blk_drew ?_ | refine blk_alloc ?_ _)); exact BK140.out), (by (with_reducible repeat (first | refine blk_drewN ?_ _ | refine blk_drew ?_ | refine blk_alloc ?_ _)); exact BK149.out), GW149.out, GE149.out, NB139_149.out, NB149_139.out, NB140_149.out, NB149_140.out, (by repeat (first | (with_reducible first | exact HB.out | apply below_alloc | apply pw_below_drewN | apply below_drew1 | refine below_set ?_ GE139.out | refine below_set ?_ GE140.out | refine below_set ?_ GE149.out) | exact HB.out))⟩)
      · skip
        refine box_step ?hg (N := 7) ?hd (cs := #[.int .i64 0, .slice none 0 0]) (t := 24) ?hr ?_; (case hd => rfl); (case hg => rfl); (case hr => first | (go_simp; done) | (go_simp; rfl))
        intro gb149 hg w19 hbox hb
        have n0_ := Aside0.mk (Kd.R_below (by (with_reducible repeat (first | apply Kd.R_alloc | apply Kd.R_drewN | apply Kd.R_drew)); exact HO145.out) hb)
        have n1_ := Aside0.mk (blk_below (g := gb139) (o := .cells #[.int .i64 a0_0, .slice A0_1 l0_1.length c0_1] 24 (0, 0)) (by (with_reducible repeat (first | refine blk_drewN ?_ _ | refine blk_drew ?_ | refine blk_alloc ?_ _)); exact BK139.out) hb)
        have n2_ := Aside0.mk (blk_below (g := gb140) (o := .cells #[.int .i64 a1_0, .int .i64 a1_1] 35 (0, 0)) (by (with_reducible repeat (first | refine blk_drewN ?_ _ | refine blk_drew ?_ | refine blk_alloc ?_ _)); exact BK140.out) hb)
        have n3_ := Aside0.mk (below_step (by repeat (first | (with_reducible first | exact HB.out | apply below_alloc | apply pw_below_drewN | apply below_drew1 | refine below_set ?_ GE139.out | refine below_set ?_ GE140.out) | exact HB.out)) hb)
        have n4_ := Aside0.mk (hbox)
        have n5_ := Aside0.mk ((by rw [hg]; exact (below_size (by repeat (first | (with_reducible first | exact HB.out | apply below_alloc | apply pw_below_drewN | apply below_drew1 | refine below_set ?_ GE139.out | refine below_set ?_ GE140.out) | exact HB.out))) : w.heap.size ≤ gb149))
        have n6_ := Aside0.mk ((by rw [hg]; exact (below_size (by repeat (first | (with_reducible first | exact HB.out | apply below_alloc | apply pw_below_drewN | apply below_drew1 | refine below_set ?_ GE139.out | refine below_set ?_ GE140.out) | exact HB.out))) : w.heap.size ≤ gb149))
        have n7_ := Aside0.mk ((by rw [hg]; exact Nat.ne_of_lt (blk_lt (g := gb139) (o := .cells #[.int .i64 a0_0, .slice A0_1 l0_1.length c0_1] 24 (0, 0)) (by (with_reducible repeat (first | refine blk_drewN ?_ _ | refine blk_drew ?_ | refine blk_alloc ?_ _)); exact BK139.out)) : gb139 ≠ gb149))
        have n8_ := Aside0.mk ((by rw [hg]; exact Nat.ne_of_gt (blk_lt (g := gb139) (o := .cells #[.int .i64 a0_0, .slice A0_1 l0_1.length c0_1] 24 (0, 0)) (by (with_reducible repeat (first | refine blk_drewN ?_ _ | refine blk_drew ?_ | refine blk_alloc ?_ _)); exact BK139.out)) : gb149 ≠ gb139))
        have n9_ := Aside0.mk ((by rw [hg]; exact Nat.ne_of_lt (blk_lt (g := gb140) (o := .cells #[.int .i64 a1_0, .int .i64 a1_1] 35 (0, 0)) (by (with_reducible repeat (first | refine blk_drewN ?_ _ | refine blk_drew ?_ | refine blk_alloc ?_ _)); exact BK140.out)) : gb140 ≠ gb149))
        have n10_ := Aside0.mk ((by rw [hg]; exact Nat.ne_of_gt (blk_lt (g := gb140) (o := .cells #[.int .i64 a1_0, .int .i64 a1_1] 35 (0, 0)) (by (with_reducible repeat (first | refine blk_drewN ?_ _ | refine blk_drew ?_ | refine blk_alloc ?_ _)); exact BK140.out)) : gb149 ≠ gb140))
        clear HO145
        clear BK139
        clear BK140
        clear HB
        have HO145 := n0_
        have BK139 := n1_
        have BK140 := n2_
        have HB := n3_
        have BK149 := n4_
        have GW149 := n5_
        have GE149 := n6_
        have NB139_149 := n7_
        have NB149_139 := n8_
        have NB140_149 := n9_
        have NB149_140 := n10_
        clear n0_ n1_ n2_ n3_ n4_ n5_ n6_ n7_ n8_ n9_ n10_
        clear hb hbox hg
        refine hK.out _ _ ⟨(blk_cell BK139.out 0).trans rfl, (blk_cell BK139.out 1).trans rfl⟩ (fun hHeld => ?_)
        clear hK K
        refine norm_ (a' := ?_) ?_ ?_
        rotate_left
        · show Act.put _ (some 7) _ = _
          simp only [Act.put, List.setIfInBounds_toArray, List.set_cons_zero, List.set_cons_succ, i64_w, i32_w]
          rfl
        refine one_ (i := 5) (N := some 26) #[true, true, true, true, true, true, false, true, false] rfl rfl (one_of HT_.out (by kernel_rfl)) (by decide) (fun K hK => ?_)
        refine Kd.R_append_rows_step k42 (w0 := w) w.heap.size (by rfl) (.tmp 23) (.tmp 25) 22 42 (.agg #[(.int .i64 0), (.int .i64 0), (.int .u64 0)]) 24 rfl Try.underlying22 info42 rfl (by decide) (by omega) v144 y143 l0_1 _ _ _ (fun _ => True) (fun _ => False) rfl rfl ?aO ?aR (fun _ _ h => h) (fun _ h => h.elim) ?aF ?aB ?aS ?aL ?_
        (case aR => repeat (first | exact (Kd.C_below HR0_1.out HB.out) | (with_reducible refine Kd.C_alloc ?_ _) | (with_reducible refine Kd.C_drewN ?_ _) | (with_reducible refine Kd.C_drew ?_)))
        (case aB => exact (by repeat (first | (with_reducible first | exact HB.out | apply below_alloc | apply pw_below_drewN | apply below_drew1 | refine below_set ?_ GE139.out | refine below_set ?_ GE140.out | refine below_set ?_ GE149.out) | exact HB.out)))
        (case aF => exact (fun _ _ => trivial))
        (case aO => exact (by (with_reducible repeat (first | apply Kd.R_alloc | apply Kd.R_drewN | apply Kd.R_drew)); exact HO145.out))
        (case aS => exact (below_size (by repeat (first | (with_reducible first | exact HB.out | apply below_alloc | apply pw_below_drewN | apply below_drew1 | refine below_set ?_ GE139.out | refine below_set ?_ GE140.out | refine below_set ?_ GE149.out) | exact HB.out))))
        (case aL => have := LMc6.out; omega)
        intro v147 w20 ho hb hg hat
        rw [← Ny146.out] at ho
        have n0_ := Aside0.mk (blk_grown (g := gb139) (o := .cells #[.int .i64 a0_0, .slice A0_1 l0_1.length c0_1] 24 (0, 0)) (by (with_reducible repeat (first | refine blk_drewN ?_ _ | refine blk_drew ?_ | refine blk_alloc ?_ _)); exact BK139.out) hg (Kd.R_ne HO145.out BK139.out (by decide)))
        have n1_ := Aside0.mk (blk_grown (g := gb140) (o := .cells #[.int .i64 a1_0, .int .i64 a1_1] 35 (0, 0)) (by (with_reducible repeat (first | refine blk_drewN ?_ _ | refine blk_drew ?_ | refine blk_alloc ?_ _)); exact BK140.out) hg (Kd.R_ne HO145.out BK140.out (by decide)))
        have n2_ := Aside0.mk (blk_grown (g := gb149) (o := .cells #[.int .i64 0, .slice none 0 0] 24 (0, 0)) (by (with_reducible repeat (first | refine blk_drewN ?_ _ | refine blk_drew ?_ | refine blk_alloc ?_ _)); exact BK149.out) hg (Kd.R_ne HO145.out BK149.out (by decide)))
        have n3_ := Aside0.mk (hb)
        have n4_ := Aside0.mk (ho)
        clear BK139
        clear BK140
        clear BK149
        clear HB
        clear HO145
        have BK139 := n0_
        have BK140 := n1_
        have BK149 := n2_
        have HB := n3_
        have HO148 := n4_
        clear n0_ n1_ n2_ n3_ n4_
        clear ho hb hg hat
        obtain ⟨Ao21, co21, eo21⟩ := Kd.R_slice HO148.out
        (first | subst eo21 | (injection eo21 with f1_ f2_ f3_; have f4_ := f1_.symm; have f5_ := f3_.symm; clear f1_ f2_ f3_; subst f4_; subst f5_))
        refine hK.out _ _ ⟨(blk_cell BK139.out 0).trans rfl, (blk_cell BK139.out 1).trans rfl⟩ (fun hHeld => ?_)
        clear hK K
        refine norm_ (a' := ?_) ?_ ?_
        rotate_left
        · show Act.put _ (some 26) _ = _
          simp only [Act.put, List.setIfInBounds_toArray, List.set_cons_zero, List.set_cons_succ, i64_w, i32_w]
          rfl
        refine pure_ (i := 6) (N := some 27) (v := ?_) (a' := ?_) #[true, true, true, true, true, true, true, true, false] rfl rfl (any_of HT_.out (by kernel_rfl)) (fun _ _ _ h => h) (Or.inl ⟨by rfl, ?_⟩) ?_ ?_
        rotate_left
        · intro w'
          go_simp
          with_reducible rfl
        rotate_left
        · simp only [Act.put, List.setIfInBounds_toArray, List.set_cons_zero, List.set_cons_succ, i64_w, i32_w]
          rfl
        exact norm_ (by simp only [putAll, Act.put, List.setIfInBounds_toArray, List.set_cons_zero, List.set_cons_succ]) (hCont (v144, .slice Ao21 y146.length co21, gb149) _ ⟨hHeld, (by (with_reducible repeat (first | apply Kd.R_alloc | apply Kd.R_drewN | apply Kd.R_drew)); exact HO148.out), (by (with_reducible repeat (first | refine blk_drewN ?_ _ | refine blk_drew ?_ | refine blk_alloc ?_ _)); exact BK139.out), (by (with_reducible repeat (first | refine blk_drewN ?_ _ | refine blk_drew ?_ | refine blk_alloc ?_ _)); exact BK140.out), (by (with_reducible repeat (first | refine blk_drewN ?_ _ | refine blk_drew ?_ | refine blk_alloc ?_ _)); exact BK149.out), GW149.out, GE149.out, NB139_149.out, NB149_139.out, NB140_149.out, NB149_140.out, (by repeat (first | (with_reducible first | exact HB.out | apply below_alloc | apply pw_below_drewN | apply below_drew1 | refine below_set ?_ GE139.out | refine below_set ?_ GE140.out | refine below_set ?_ GE149.out) | exact HB.out))⟩)
    · skip
      refine box_step ?hg (N := 7) ?hd (cs := #[.int .i64 0, .slice none 0 0]) (t := 24) ?hr ?_; (case hd => rfl); (case hg => rfl); (case hr => first | (go_simp; done) | (go_simp; rfl))
      intro gb149 hg w17 hbox hb
      have n0_ := Aside0.mk (blk_below (g := gb139) (o := .cells #[.int .i64 a0_0, .slice A0_1 l0_1.length c0_1] 24 (0, 0)) (by (with_reducible repeat (first | refine blk_drewN ?_ _ | refine blk_drew ?_ | refine blk_alloc ?_ _)); exact BK139.out) hb)
      have n1_ := Aside0.mk (blk_below (g := gb140) (o := .cells #[.int .i64 a1_0, .int .i64 a1_1] 35 (0, 0)) (by (with_reducible repeat (first | refine blk_drewN ?_ _ | refine blk_drew ?_ | refine blk_alloc ?_ _)); exact BK140.out) hb)
      have n2_ := Aside0.mk (below_step (by repeat (first | (with_reducible first | exact HB.out | apply below_alloc | apply pw_below_drewN | apply below_drew1 | refine below_set ?_ GE139.out | refine below_set ?_ GE140.out) | exact HB.out)) hb)
      have n3_ := Aside0.mk (hbox)
      have n4_ := Aside0.mk ((by rw [hg]; exact (below_size (by repeat (first | (with_reducible first | exact HB.out | apply below_alloc | apply pw_below_drewN | apply below_drew1 | refine below_set ?_ GE139.out | refine below_set ?_ GE140.out) | exact HB.out))) : w.heap.size ≤ gb149))
      have n5_ := Aside0.mk ((by rw [hg]; exact (below_size (by repeat (first | (with_reducible first | exact HB.out | apply below_alloc | apply pw_below_drewN | apply below_drew1 | refine below_set ?_ GE139.out | refine below_set ?_ GE140.out) | exact HB.out))) : w.heap.size ≤ gb149))
      have n6_ := Aside0.mk ((by rw [hg]; exact Nat.ne_of_lt (blk_lt (g := gb139) (o := .cells #[.int .i64 a0_0, .slice A0_1 l0_1.length c0_1] 24 (0, 0)) (by (with_reducible repeat (first | refine blk_drewN ?_ _ | refine blk_drew ?_ | refine blk_alloc ?_ _)); exact BK139.out)) : gb139 ≠ gb149))
      have n7_ := Aside0.mk ((by rw [hg]; exact Nat.ne_of_gt (blk_lt (g := gb139) (o := .cells #[.int .i64 a0_0, .slice A0_1 l0_1.length c0_1] 24 (0, 0)) (by (with_reducible repeat (first | refine blk_drewN ?_ _ | refine blk_drew ?_ | refine blk_alloc ?_ _)); exact BK139.out)) : gb149 ≠ gb139))
      have n8_ := Aside0.mk ((by rw [hg]; exact Nat.ne_of_lt (blk_lt (g := gb140) (o := .cells #[.int .i64 a1_0, .int .i64 a1_1] 35 (0, 0)) (by (with_reducible repeat (first | refine blk_drewN ?_ _ | refine blk_drew ?_ | refine blk_alloc ?_ _)); exact BK140.out)) : gb140 ≠ gb149))
      have n9_ := Aside0.mk ((by rw [hg]; exact Nat.ne_of_gt (blk_lt (g := gb140) (o := .cells #[.int .i64 a1_0, .int .i64 a1_1] 35 (0, 0)) (by (with_reducible repeat (first | refine blk_drewN ?_ _ | refine blk_drew ?_ | refine blk_alloc ?_ _)); exact BK140.out)) : gb149 ≠ gb140))
      clear BK139
      clear BK140
      clear HB
      have BK139 := n0_
      have BK140 := n1_
      have HB := n2_
      have BK149 := n3_
      have GW149 := n4_
      have GE149 := n5_
      have NB139_149 := n6_
      have NB149_139 := n7_
      have NB140_149 := n8_
      have NB149_140 := n9_
      clear n0_ n1_ n2_ n3_ n4_ n5_ n6_ n7_ n8_ n9_
      clear hb hbox hg
      refine hK.out _ _ ⟨(blk_cell BK139.out 0).trans rfl, (blk_cell BK139.out 1).trans rfl⟩ (fun hHeld => ?_)
      clear hK K
      refine norm_ (a' := ?_) ?_ ?_
      rotate_left
      · show Act.put _ (some 7) _ = _
        simp only [Act.put, List.setIfInBounds_toArray, List.set_cons_zero, List.set_cons_succ, i64_w, i32_w]
        rfl
      refine one_ (i := 2) (N := some 23) #[true, true, true, true, true, false, false, true, false] rfl rfl (one_of HT_.out (by kernel_rfl)) (by decide) (fun K hK => ?_)
      refine Kd.R_lit_step k42 _ 42 ?hg (N := 23) ?hd (xs := ([] : List (S42))) (inner := []) (ok := fun _ => True) (okp := fun _ => True) ?hr ?hp (fun _ hk => hk) trivial (Below.refl _ _) (Nat.le_refl _) (by simp) ?_; (case hd => rfl); (case hg => rfl); (case hr => first | (go_simp; done) | (go_simp; rfl)); (case hp => exact (Reps.none _ _))
      intro v144 w18 ho19 hb hg_ hnew_
      clear hg_ hnew_
      (first | rw [← Ny143.out] at ho19 | (simp only [Int.reduceToNat] at ho19; rw [← Ny143.out] at ho19))
      have n0_ := Aside0.mk (Kd.R_lower ho19 (below_size (by repeat (first | (with_reducible first | exact HB.out | apply below_alloc | apply pw_below_drewN | apply below_drew1 | refine below_set ?_ GE139.out | refine below_set ?_ GE140.out | refine below_set ?_ GE149.out) | exact HB.out))))
      have n1_ := Aside0.mk (blk_below (g := gb139) (o := .cells #[.int .i64 a0_0, .slice A0_1 l0_1.length c0_1] 24 (0, 0)) (by (with_reducible repeat (first | refine blk_drewN ?_ _ | refine blk_drew ?_ | refine blk_alloc ?_ _)); exact BK139.out) hb)
      have n2_ := Aside0.mk (blk_below (g := gb140) (o := .cells #[.int .i64 a1_0, .int .i64 a1_1] 35 (0, 0)) (by (with_reducible repeat (first | refine blk_drewN ?_ _ | refine blk_drew ?_ | refine blk_alloc ?_ _)); exact BK140.out) hb)
      have n3_ := Aside0.mk (blk_below (g := gb149) (o := .cells #[.int .i64 0, .slice none 0 0] 24 (0, 0)) (by (with_reducible repeat (first | refine blk_drewN ?_ _ | refine blk_drew ?_ | refine blk_alloc ?_ _)); exact BK149.out) hb)
      have n4_ := Aside0.mk (below_step (by repeat (first | (with_reducible first | exact HB.out | apply below_alloc | apply pw_below_drewN | apply below_drew1 | refine below_set ?_ GE139.out | refine below_set ?_ GE140.out | refine below_set ?_ GE149.out) | exact HB.out)) hb)
      clear BK139
      clear BK140
      clear BK149
      clear HB
      have HO145 := n0_
      have BK139 := n1_
      have BK140 := n2_
      have BK149 := n3_
      have HB := n4_
      clear n0_ n1_ n2_ n3_ n4_
      clear hb ho19
      refine hK.out _ _ ⟨(blk_cell BK139.out 0).trans rfl, (blk_cell BK139.out 1).trans rfl⟩ (fun hHeld => ?_)
      clear hK K
      refine norm_ (a' := ?_) ?_ ?_
      rotate_left
      · show Act.put _ (some 23) _ = _
        simp only [Act.put, List.setIfInBounds_toArray, List.set_cons_zero, List.set_cons_succ, i64_w, i32_w]
        rfl
      refine one_ (i := 5) (N := some 26) #[true, true, true, true, true, true, false, true, false] rfl rfl (one_of HT_.out (by kernel_rfl)) (by decide) (fun K hK => ?_)
      refine Kd.R_append_rows_step k42 (w0 := w) w.heap.size (by rfl) (.tmp 23) (.tmp 25) 22 42 (.agg #[(.int .i64 0), (.int .i64 0), (.int .u64 0)]) 24 rfl Try.underlying22 info42 rfl (by decide) (by omega) v144 y143 l0_1 _ _ _ (fun _ => True) (fun _ => False) rfl rfl ?aO ?aR (fun _ _ h => h) (fun _ h => h.elim) ?aF ?aB ?aS ?aL ?_
      (case aR => repeat (first | exact (Kd.C_below HR0_1.out HB.out) | (with_reducible refine Kd.C_alloc ?_ _) | (with_reducible refine Kd.C_drewN ?_ _) | (with_reducible refine Kd.C_drew ?_)))
      (case aB => exact (by repeat (first | (with_reducible first | exact HB.out | apply below_alloc | apply pw_below_drewN | apply below_drew1 | refine below_set ?_ GE139.out | refine below_set ?_ GE140.out | refine below_set ?_ GE149.out) | exact HB.out)))
      (case aF => exact (fun _ _ => trivial))
      (case aO => exact (by (with_reducible repeat (first | apply Kd.R_alloc | apply Kd.R_drewN | apply Kd.R_drew)); exact HO145.out))
      (case aS => exact (below_size (by repeat (first | (with_reducible first | exact HB.out | apply below_alloc | apply pw_below_drewN | apply below_drew1 | refine below_set ?_ GE139.out | refine below_set ?_ GE140.out | refine below_set ?_ GE149.out) | exact HB.out))))
      (case aL => have := LMc6.out; omega)
      intro v147 w20 ho hb hg hat
      rw [← Ny146.out] at ho
      have n0_ := Aside0.mk (blk_grown (g := gb139) (o := .cells #[.int .i64 a0_0, .slice A0_1 l0_1.length c0_1] 24 (0, 0)) (by (with_reducible repeat (first | refine blk_drewN ?_ _ | refine blk_drew ?_ | refine blk_alloc ?_ _)); exact BK139.out) hg (Kd.R_ne HO145.out BK139.out (by decide)))
      have n1_ := Aside0.mk (blk_grown (g := gb140) (o := .cells #[.int .i64 a1_0, .int .i64 a1_1] 35 (0, 0)) (by (with_reducible repeat (first | refine blk_drewN ?_ _ | refine blk_drew ?_ | refine blk_alloc ?_ _)); exact BK140.out) hg (Kd.R_ne HO145.out BK140.out (by decide)))
      have n2_ := Aside0.mk (blk_grown (g := gb149) (o := .cells #[.int .i64 0, .slice none 0 0] 24 (0, 0)) (by (with_reducible repeat (first | refine blk_drewN ?_ _ | refine blk_drew ?_ | refine blk_alloc ?_ _)); exact BK149.out) hg (Kd.R_ne HO145.out BK149.out (by decide)))
      have n3_ := Aside0.mk (hb)
      have n4_ := Aside0.mk (ho)
      clear BK139
      clear BK140
      clear BK149
      clear HB
      clear HO145
      have BK139 := n0_
      have BK140 := n1_
      have BK149 := n2_
      have HB := n3_
      have HO148 := n4_
      clear n0_ n1_ n2_ n3_ n4_
      clear ho hb hg hat
      obtain ⟨Ao21, co21, eo21⟩ := Kd.R_slice HO148.out
      (first | subst eo21 | (injection eo21 with f1_ f2_ f3_; have f4_ := f1_.symm; have f5_ := f3_.symm; clear f1_ f2_ f3_; subst f4_; subst f5_))
      refine hK.out _ _ ⟨(blk_cell BK139.out 0).trans rfl, (blk_cell BK139.out 1).trans rfl⟩ (fun hHeld => ?_)
      clear hK K
      refine norm_ (a' := ?_) ?_ ?_
      rotate_left
      · show Act.put _ (some 26) _ = _
        simp only [Act.put, List.setIfInBounds_toArray, List.set_cons_zero, List.set_cons_succ, i64_w, i32_w]
        rfl
      refine pure_ (i := 6) (N := some 27) (v := ?_) (a' := ?_) #[true, true, true, true, true, true, true, true, false] rfl rfl (any_of HT_.out (by kernel_rfl)) (fun _ _ _ h => h) (Or.inl ⟨by rfl, ?_⟩) ?_ ?_
      rotate_left
      · intro w'
        go_simp
        with_reducible rfl
      rotate_left
      · simp only [Act.put, List.setIfInBounds_toArray, List.set_cons_zero, List.set_cons_succ, i64_w, i32_w]
        rfl
      exact norm_ (by simp only [putAll, Act.put, List.setIfInBounds_toArray, List.set_cons_zero, List.set_cons_succ]) (hCont (v144, .slice Ao21 y146.length co21, gb149) _ ⟨hHeld, (by (with_reducible repeat (first | apply Kd.R_alloc | apply Kd.R_drewN | apply Kd.R_drew)); exact HO148.out), (by (with_reducible repeat (first | refine blk_drewN ?_ _ | refine blk_drew ?_ | refine blk_alloc ?_ _)); exact BK139.out), (by (with_reducible repeat (first | refine blk_drewN ?_ _ | refine blk_drew ?_ | refine blk_alloc ?_ _)); exact BK140.out), (by (with_reducible repeat (first | refine blk_drewN ?_ _ | refine blk_drew ?_ | refine blk_alloc ?_ _)); exact BK149.out), GW149.out, GE149.out, NB139_149.out, NB149_139.out, NB140_149.out, NB149_140.out, (by repeat (first | (with_reducible first | exact HB.out | apply below_alloc | apply pw_below_drewN | apply below_drew1 | refine below_set ?_ GE139.out | refine below_set ?_ GE140.out | refine below_set ?_ GE149.out) | exact HB.out))⟩)
  rintro ⟨v144, v147, gb149⟩ w22 ⟨hS_, h0_, h1_, h2_, h3_, h4_, h5_, h6_, h7_, h8_, h9_, h10_⟩
  have n0_ : Aside0 (Kd.R k42 42 w22 w.heap.size (fun _ => True) v147 y146) := ⟨h0_⟩
  have n1_ : Aside0 (w22.heap[gb139]? = some (.cells #[.int .i64 a0_0, .slice A0_1 l0_1.length c0_1] 24 (0, 0))) := ⟨h1_⟩
  have n2_ : Aside0 (w22.heap[gb140]? = some (.cells #[.int .i64 a1_0, .int .i64 a1_1] 35 (0, 0))) := ⟨h2_⟩
  have n3_ : Aside0 (w22.heap[gb149]? = some (.cells #[.int .i64 0, .slice none 0 0] 24 (0, 0))) := ⟨h3_⟩
  have n4_ : Aside0 (w.heap.size ≤ gb149) := ⟨h4_⟩
  have n5_ : Aside0 (w.heap.size ≤ gb149) := ⟨h5_⟩
  have n6_ : Aside0 (gb139 ≠ gb149) := ⟨h6_⟩
  have n7_ : Aside0 (gb149 ≠ gb139) := ⟨h7_⟩
  have n8_ : Aside0 (gb140 ≠ gb149) := ⟨h8_⟩
  have n9_ : Aside0 (gb149 ≠ gb140) := ⟨h9_⟩
  have n10_ : Aside0 (Below w.heap.size w w22) := ⟨h10_⟩
  clear BK139
  clear BK140
  clear HB
  clear h0_ h1_ h2_ h3_ h4_ h5_ h6_ h7_ h8_ h9_ h10_
  have HO148 := n0_
  have BK139 := n1_
  have BK140 := n2_
  have BK149 := n3_
  have GW149 := n4_
  have GE149 := n5_
  have NB139_149 := n6_
  have NB149_139 := n7_
  have NB140_149 := n8_
  have NB149_140 := n9_
  have HB := n10_
  clear n0_ n1_ n2_ n3_ n4_ n5_ n6_ n7_ n8_ n9_ n10_
  have hHeld : w22.cell? ⟨gb139, 0, none⟩ = some (.int .i64 a0_0) ∧ w22.cell? ⟨gb139, 1, none⟩ = some (.slice A0_1 l0_1.length c0_1) := hS_
  obtain ⟨Ao23, co23, eo23⟩ := Kd.R_slice HO148.out
  (first | subst eo23 | (injection eo23 with f1_ f2_ f3_; have f4_ := f1_.symm; have f5_ := f3_.symm; clear f1_ f2_ f3_; subst f4_; subst f5_))
  refine norm_ (a' := ?_) ?_ ?_
  rotate_left
  · simp only [putAll, Act.put, List.setIfInBounds_toArray, List.set_cons_zero, List.set_cons_succ]
    rfl
  refine one_ (i := 8) (N := none) #[true, true, true, true, true, true, true, true, true] rfl rfl (one_of HT_.out (by kernel_rfl)) (by decide) (fun K hK => ?_)
  have hs24 : w22.cell? ⟨gb149, 0, none⟩ = some (.int .i64 0) := (blk_cell BK149.out 0).trans rfl
  have hfs24 := blk_frozen BK149.out 0
  have hns24_0 := NB139_149.out
  have hns24_1 := NB140_149.out
  have hms24_0 := NB149_139.out
  have hms24_1 := NB149_140.out
  have hs25 : w22.cell? ⟨gb149, 1, none⟩ = some (.slice none 0 0) := (blk_cell BK149.out 1).trans rfl
  have hfs25 := blk_frozen BK149.out 1
  have hns25_0 := NB139_149.out
  have hns25_1 := NB140_149.out
  have hms25_0 := NB149_139.out
  have hms25_1 := NB149_140.out
  refine skip_ (w1 := ?_) (by rfl) rfl ?_ ?_
  rotate_left
  · go_simp
    rfl
  refine hK.out _ _ ⟨((cell_far (p := ⟨gb149, _, none⟩) NB139_149.out _).trans (((cell_far (p := ⟨gb149, _, none⟩) NB139_149.out _).trans (hHeld.1)))), ((cell_far (p := ⟨gb149, _, none⟩) NB139_149.out _).trans (((cell_far (p := ⟨gb149, _, none⟩) NB139_149.out _).trans (hHeld.2))))⟩ (fun hHeld => ?_)
  clear hK K
  refine done_ (done_of HT_.out (by kernel_rfl)) ?_
  have hnb26 := NB149_139.out
  have hnc26 := NB139_149.out
  have hnb27 := NB149_140.out
  have hnc27 := NB140_149.out
  have hcz28_0 : w22.cell? ⟨gb149, 0, none⟩ = some (.int .i64 0) := (blk_cell BK149.out 0).trans rfl
  have hcz28_1 : w22.cell? ⟨gb149, 1, none⟩ = some (.slice none 0 0) := (blk_cell BK149.out 1).trans rfl
  have hfz28_0 := blk_frozen BK149.out 0
  have hfz28_1 := blk_frozen BK149.out 1
  have hcz29_0 : w22.cell? ⟨gb140, 0, none⟩ = some (.int .i64 a1_0) := (blk_cell BK140.out 0).trans rfl
  have hcz29_1 : w22.cell? ⟨gb140, 1, none⟩ = some (.int .i64 a1_1) := (blk_cell BK140.out 1).trans rfl
  have hfz29_0 := blk_frozen BK140.out 0
  have hfz29_1 := blk_frozen BK140.out 1
  have RO := Kd.R_mono (ok' := fun _ => True) (Kd.R_far (p := ⟨gb149, 1, none⟩) (Kd.R_far (p := ⟨gb149, 0, none⟩) (Kd.R_types HO148.out BK149.out (by decide)) (fun _ hk => hk.2) (.int .i64 a0_0)) (fun _ hk => hk.2) (.slice Ao23 y146.length co23)) (fun _ _ => trivial)
  have h7 : ((w22.setCell ⟨gb149, 0, none⟩ (.int .i64 a0_0)).setCell ⟨gb149, 1, none⟩ (.slice Ao23 y146.length co23)).heap[gb149]? = some (cellsT a0_0 Ao23 y146.length co23) := blk_put (blk_put BK149.out 0 _ rfl) 1 _ rfl
  have h3 : ((w22.setCell ⟨gb149, 0, none⟩ (.int .i64 a0_0)).setCell ⟨gb149, 1, none⟩ (.slice Ao23 y146.length co23)).heap[gb139]? = some (cellsT a0_0 A0_1 l0_1.length c0_1) := blk_far (p := ⟨gb149, 1, none⟩) (blk_far (p := ⟨gb149, 0, none⟩) BK139.out NB139_149.out _) NB139_149.out _
  have h4 : ((w22.setCell ⟨gb149, 0, none⟩ (.int .i64 a0_0)).setCell ⟨gb149, 1, none⟩ (.slice Ao23 y146.length co23)).heap[gb140]? = some (.cells #[.int .i64 a1_0, .int .i64 a1_1] 35 (0, 0)) := blk_far (p := ⟨gb149, 1, none⟩) (blk_far (p := ⟨gb149, 0, none⟩) BK140.out NB140_149.out _) NB140_149.out _
  have d0 := (HB.out.setCell (p := ⟨gb149, 0, none⟩) GE149.out (.int .i64 a0_0)).setCell (p := ⟨gb149, 1, none⟩) GE149.out (.slice Ao23 y146.length co23)
  go_wp2_with fail
  obtain ⟨_, hcO, CO0⟩ := Kd.R_reads' RO
  have CB0 := Kd.C_below HR0_1.out d0
  have hc0_1 := HC0_1.out
  have h7 := Lib.hid h7
  have h3 := Lib.hid h3
  have h4 := Lib.hid h4
  have dB := Lib.hid d0
  have CO0 := Lib.hid CO0
  have CB0 := Lib.hid CB0
  clear d0 RO
  rw [HY.out] at hcO
  have hsame := rsame_refl a0_0 l0_1 (by have := H20.out; omega) 600 (by have := H20.out; omega)
  have hlY : Hid (∀ y ∈ y146, okw y = true) := Lib.hid (by rw [HY.out]; exact HL.out)
  have hcO' : Hid (y146.length ≤ co23) := Lib.hid (by rw [HY.out]; exact hcO)
  generalize hW3 : ((w22.setCell ⟨gb149, 0, none⟩ (.int .i64 a0_0)).setCell ⟨gb149, 1, none⟩ (.slice Ao23 y146.length co23)) = W3 at *
  refine (fill_O a0_0 Ao23 co23 y146 hlY.out a1_0 a1_1 a2 hx W3 CO0.out hcO'.out).mono ?_
  rintro e w4 ⟨n4, A4, len4, c4, e4, rfl, R4, L4, b4⟩
  have d4 := bal (cellsT n4 A4 len4 c4) b4
  have R4' := room_below R4 (bal (cellsT n4 A4 len4 c4) (Below.refl w4.heap.size w4))
  have k8 := blk_new w4 (cellsT n4 A4 len4 c4)
  have a0 := (blk_cell (blk_below h7.out d4) 0).trans rfl
  have a1 := (blk_cell (blk_below h7.out d4) 1).trans rfl
  have a2_ := (blk_cell (blk_below h4.out d4) 0).trans rfl
  have a3 := (blk_cell (blk_below h4.out d4) 1).trans rfl
  go_wp2_with fail
  refine (inval_O a0_0 Ao23 co23 y146 hlY.out a1_0 a1_1 _ (Kd.C_below CO0.out d4) hcO'.out).mono ?_
  rintro e w5 ⟨n5, A5, len5, c5, e5, rfl, R5, L5, b5⟩
  have d5 := bal (cellsT n5 A5 len5 c5) (bth b5 d4)
  have bb5 := bal (cellsT n5 A5 len5 c5) b5
  have R45 := room_below R4' bb5
  have R5' := room_lower (room_below R5 (bal (cellsT n5 A5 len5 c5) (Below.refl w5.heap.size w5))) d4.size
  have k85 := blk_below k8 bb5
  have k10 := blk_new w5 (cellsT n5 A5 len5 c5)
  clear a0 a1 a2_ a3 b4 R4 R4' k8 R5 b5
  have a0 := (blk_cell (blk_below h7.out d5) 0).trans rfl
  have a1 := (blk_cell (blk_below h7.out d5) 1).trans rfl
  have a2_ := (blk_cell (blk_below h4.out d5) 0).trans rfl
  have a3 := (blk_cell (blk_below h4.out d5) 1).trans rfl
  go_wp2_with fail
  refine (flush_O a0_0 Ao23 co23 y146 hlY.out a1_0 _ (Kd.C_below CO0.out d5) hcO'.out).mono ?_
  rintro e w6 ⟨n6, A6, len6, c6, e6, rfl, R6, L6, b6⟩
  have d6 := bal (cellsT n6 A6 len6 c6) (bth b6 d5)
  have bb6 := bal (cellsT n6 A6 len6 c6) b6
  have R46 := room_below R45 bb6
  have R56 := room_below R5' bb6
  have R6' := room_lower (room_below R6 (bal (cellsT n6 A6 len6 c6) (Below.refl w6.heap.size w6))) d5.size
  have k86 := blk_below k85 bb6
  have k106 := blk_below k10 bb6
  have k12 := blk_new w6 (cellsT n6 A6 len6 c6)
  clear a0 a1 a2_ a3 bb5 bb6 R45 R5' k85 k10 R6 b6 d4 d5
  have a0 := (blk_cell k86 0).trans rfl
  have a1 := (blk_cell k86 1).trans rfl
  have a2_ := (blk_cell k106 0).trans rfl
  have a3 := (blk_cell k106 1).trans rfl
  have a4 := (blk_cell k12 0).trans rfl
  have a5 := (blk_cell k12 1).trans rfl
  go_wp2_with fail
  have IV0 := Lib.hid (Inv.mk (g7 := gb149) (pair_new w6 (cellsT n6 A6 len6 c6) (.cells #[.int .i64 n4, .slice A4 len4 c4, .int .i64 n5, .slice A5 len5 c5, .int .i64 n6, .slice A6 len6 c6] 24 (0, 0))) (room_below R46 (bal _ (Below.refl _ _))) (room_below R56 (bal _ (Below.refl _ _))) (room_below R6' (bal _ (Below.refl _ _))) (bal _ d6))
  clear a0 a1 a2_ a3 a4 a5 d6 R46 R56 R6' k86 k106 k12
  have L4 := Lib.hid L4
  have L5 := Lib.hid L5
  have L6 := Lib.hid L6
  have H7 := h7
  have H3 := h3
  have CO := CO0
  have CB := CB0
  have hsm : estoversref07_Same.f 600 a0_0 y146 a0_0 l0_1 = some true := by rw [HY.out]; exact hsame
  have hcOo := hcO'.out
  clear hsame
  generalize w6.heap.size + 1 = gL at *
  go_loopg [15] 3 (fun gg s15 wo => ∃ kk : Nat, kk ≤ 3 ∧ 3 - kk ≤ gg ∧ s15 = .int .i64 kk ∧ Hid (Inv gb149 gL n4 A4 len4 c4 n5 A5 len5 c5 n6 A6 len6 c6 W3 wo))
  case atStart => exact ⟨0, by decide, by decide, rfl, IV0⟩
  case round =>
    clear IV0
    obtain ⟨kk, hk3, hgo, hs15, IV⟩ := hrel
    rcases kk4 hk3 with rfl | rfl | rfl | rfl
    · have hs0 : u15 = .int .i64 0 := hs15
      subst hs0
      have hmo : 2 < gk := hgo
      have hLo := IV.out.hL
      clear hs15
      go_wp2_with fail
      go_loopg [16] len4 (fun gg s16 wi => ∃ j : Nat, j ≤ len4 ∧ len4 - j ≤ gg ∧ s16 = .int .i64 j ∧ Hid (Inv gb149 gL n4 A4 len4 c4 n5 A5 len5 c5 n6 A6 len6 c6 W3 wi))
      case atStart => exact ⟨0, Nat.zero_le _, Nat.le_refl _, rfl, IV⟩
      case round =>
        clear IV
        obtain ⟨j, hj, hgi, rfl, IV⟩ := hrel
        have hLc := IV.out.hL
        have y0 := (blk_cell hLc 0).trans rfl
        have y1 := (blk_cell hLc 1).trans rfl
        have y2 := (blk_cell hLc 2).trans rfl
        have y3 := (blk_cell hLc 3).trans rfl
        have y4 := (blk_cell hLc 4).trans rfl
        have y5 := (blk_cell hLc 5).trans rfl
        by_cases hlt : j < len4
        · have hltz : (j : Int) < (len4 : Int) := Int.ofNat_lt.2 hlt
          have hmi : len4 - (j + 1) < gk := Nat.lt_of_lt_of_le (Nat.sub_lt_sub_left hlt (Nat.lt_succ_self j)) hgi
          have hw : wrap64 ((j : Int) + 1) = ((j + 1 : Nat) : Int) := step_j hlt L4.out
          obtain ⟨ad, e, g, o, cs, HG, hN, hb, hth⟩ := room_at IV.out.r4 j hlt
          rw [e] at y1
          have HTH := Lib.hid hth
          have HN := Lib.hid hN
          have HMI := Lib.hid hmi
          have HLT := Lib.hid hlt
          clear e hth hN hmi hgi hj hlt hmo hk3 hgo hcO hcOo hc0_1
          go_wp2_with (first | ((with_reducible refine gate_store (p := 81) rfl ?_); refine wpList_store_mid rfl 42 _ _ rfl g o #[.int .i64 (-1), .int .i64 (-7), .int .u64 0] (congrArg (fun z => Value.pointer (some z)) HG.out) rfl HTH.out entry_size over_one ?_; refine abswl (fun w' => Inv gb149 gL n4 A4 len4 c4 n5 A5 len5 c5 n6 A6 len6 c6 W3 w') (inv_cells HN.out _ _ _ _ IV.out hb) ?_; intro wn IVn0; have IVn := Lib.hid IVn0; clear IVn0))
          (try rw [hw])
          go_roundg (len4 - (j + 1))
          case measure => exact HMI.out
          case rel => exact ⟨j + 1, HLT.out, Nat.le_refl _, by first | rfl | simp, IVn⟩
        · have hle : ¬ (j : Int) < (len4 : Int) := fun h => hlt (Int.ofNat_lt.1 h)
          have d1 := IV.out.d
          have p0 := (blk_cell (blk_below H7.out d1) 0).trans rfl
          have p1 := (blk_cell (blk_below H7.out d1) 1).trans rfl
          have p2 := (blk_cell (blk_below H3.out d1) 0).trans rfl
          have p3 := (blk_cell (blk_below H3.out d1) 1).trans rfl
          go_wp2_with fail
          refine (estoversref07_Same.calls 600 a0_0 Ao23 co23 y146 a0_0 A0_1 c0_1 l0_1 true _ (Kd.C_below CO.out d1) hcOo (Kd.C_below CB.out d1) hc0_1 hsm).mono ?_
          rintro e ws ⟨rfl, bs⟩
          have IV2 := Lib.hid (inv_below IV.out bs)
          go_wp2_with fail
          go_roundg 2
          case measure => exact hmo
          case rel => exact ⟨1, by decide, by decide, by first | rfl | simp, IV2⟩
    · have hs0 : u15 = .int .i64 1 := hs15
      subst hs0
      have hmo : 1 < gk := hgo
      have hLo := IV.out.hL
      clear hs15
      go_wp2_with fail
      go_loopg [16] len5 (fun gg s16 wi => ∃ j : Nat, j ≤ len5 ∧ len5 - j ≤ gg ∧ s16 = .int .i64 j ∧ Hid (Inv gb149 gL n4 A4 len4 c4 n5 A5 len5 c5 n6 A6 len6 c6 W3 wi))
      case atStart => exact ⟨0, Nat.zero_le _, Nat.le_refl _, rfl, IV⟩
      case round =>
        clear IV
        obtain ⟨j, hj, hgi, rfl, IV⟩ := hrel
        have hLc := IV.out.hL
        have y0 := (blk_cell hLc 0).trans rfl
        have y1 := (blk_cell hLc 1).trans rfl
        have y2 := (blk_cell hLc 2).trans rfl
        have y3 := (blk_cell hLc 3).trans rfl
        have y4 := (blk_cell hLc 4).trans rfl
        have y5 := (blk_cell hLc 5).trans rfl
        by_cases hlt : j < len5
        · have hltz : (j : Int) < (len5 : Int) := Int.ofNat_lt.2 hlt
          have hmi : len5 - (j + 1) < gk := Nat.lt_of_lt_of_le (Nat.sub_lt_sub_left hlt (Nat.lt_succ_self j)) hgi
          have hw : wrap64 ((j : Int) + 1) = ((j + 1 : Nat) : Int) := step_j hlt L5.out
          obtain ⟨ad, e, g, o, cs, HG, hN, hb, hth⟩ := room_at IV.out.r5 j hlt
          rw [e] at y3
          have HTH := Lib.hid hth
          have HN := Lib.hid hN
          have HMI := Lib.hid hmi
          have HLT := Lib.hid hlt
          clear e hth hN hmi hgi hj hlt hmo hk3 hgo hcO hcOo hc0_1
          go_wp2_with (first | ((with_reducible refine gate_store (p := 81) rfl ?_); refine wpList_store_mid rfl 42 _ _ rfl g o #[.int .i64 (-1), .int .i64 (-7), .int .u64 0] (congrArg (fun z => Value.pointer (some z)) HG.out) rfl HTH.out entry_size over_one ?_; refine abswl (fun w' => Inv gb149 gL n4 A4 len4 c4 n5 A5 len5 c5 n6 A6 len6 c6 W3 w') (inv_cells HN.out _ _ _ _ IV.out hb) ?_; intro wn IVn0; have IVn := Lib.hid IVn0; clear IVn0))
          (try rw [hw])
          go_roundg (len5 - (j + 1))
          case measure => exact HMI.out
          case rel => exact ⟨j + 1, HLT.out, Nat.le_refl _, by first | rfl | simp, IVn⟩
        · have hle : ¬ (j : Int) < (len5 : Int) := fun h => hlt (Int.ofNat_lt.1 h)
          have d1 := IV.out.d
          have p0 := (blk_cell (blk_below H7.out d1) 0).trans rfl
          have p1 := (blk_cell (blk_below H7.out d1) 1).trans rfl
          have p2 := (blk_cell (blk_below H3.out d1) 0).trans rfl
          have p3 := (blk_cell (blk_below H3.out d1) 1).trans rfl
          go_wp2_with fail
          refine (estoversref07_Same.calls 600 a0_0 Ao23 co23 y146 a0_0 A0_1 c0_1 l0_1 true _ (Kd.C_below CO.out d1) hcOo (Kd.C_below CB.out d1) hc0_1 hsm).mono ?_
          rintro e ws ⟨rfl, bs⟩
          have IV2 := Lib.hid (inv_below IV.out bs)
          go_wp2_with fail
          go_roundg 1
          case measure => exact hmo
          case rel => exact ⟨2, by decide, by decide, by first | rfl | simp, IV2⟩
    · have hs0 : u15 = .int .i64 2 := hs15
      subst hs0
      have hmo : 0 < gk := hgo
      have hLo := IV.out.hL
      clear hs15
      go_wp2_with fail
      go_loopg [16] len6 (fun gg s16 wi => ∃ j : Nat, j ≤ len6 ∧ len6 - j ≤ gg ∧ s16 = .int .i64 j ∧ Hid (Inv gb149 gL n4 A4 len4 c4 n5 A5 len5 c5 n6 A6 len6 c6 W3 wi))
      case atStart => exact ⟨0, Nat.zero_le _, Nat.le_refl _, rfl, IV⟩
      case round =>
        clear IV
        obtain ⟨j, hj, hgi, rfl, IV⟩ := hrel
        have hLc := IV.out.hL
        have y0 := (blk_cell hLc 0).trans rfl
        have y1 := (blk_cell hLc 1).trans rfl
        have y2 := (blk_cell hLc 2).trans rfl
        have y3 := (blk_cell hLc 3).trans rfl
        have y4 := (blk_cell hLc 4).trans rfl
        have y5 := (blk_cell hLc 5).trans rfl
        by_cases hlt : j < len6
        · have hltz : (j : Int) < (len6 : Int) := Int.ofNat_lt.2 hlt
          have hmi : len6 - (j + 1) < gk := Nat.lt_of_lt_of_le (Nat.sub_lt_sub_left hlt (Nat.lt_succ_self j)) hgi
          have hw : wrap64 ((j : Int) + 1) = ((j + 1 : Nat) : Int) := step_j hlt L6.out
          obtain ⟨ad, e, g, o, cs, HG, hN, hb, hth⟩ := room_at IV.out.r6 j hlt
          rw [e] at y5
          have HTH := Lib.hid hth
          have HN := Lib.hid hN
          have HMI := Lib.hid hmi
          have HLT := Lib.hid hlt
          clear e hth hN hmi hgi hj hlt hmo hk3 hgo hcO hcOo hc0_1
          go_wp2_with (first | ((with_reducible refine gate_store (p := 81) rfl ?_); refine wpList_store_mid rfl 42 _ _ rfl g o #[.int .i64 (-1), .int .i64 (-7), .int .u64 0] (congrArg (fun z => Value.pointer (some z)) HG.out) rfl HTH.out entry_size over_one ?_; refine abswl (fun w' => Inv gb149 gL n4 A4 len4 c4 n5 A5 len5 c5 n6 A6 len6 c6 W3 w') (inv_cells HN.out _ _ _ _ IV.out hb) ?_; intro wn IVn0; have IVn := Lib.hid IVn0; clear IVn0))
          (try rw [hw])
          go_roundg (len6 - (j + 1))
          case measure => exact HMI.out
          case rel => exact ⟨j + 1, HLT.out, Nat.le_refl _, by first | rfl | simp, IVn⟩
        · have hle : ¬ (j : Int) < (len6 : Int) := fun h => hlt (Int.ofNat_lt.1 h)
          have d1 := IV.out.d
          have p0 := (blk_cell (blk_below H7.out d1) 0).trans rfl
          have p1 := (blk_cell (blk_below H7.out d1) 1).trans rfl
          have p2 := (blk_cell (blk_below H3.out d1) 0).trans rfl
          have p3 := (blk_cell (blk_below H3.out d1) 1).trans rfl
          go_wp2_with fail
          refine (estoversref07_Same.calls 600 a0_0 Ao23 co23 y146 a0_0 A0_1 c0_1 l0_1 true _ (Kd.C_below CO.out d1) hcOo (Kd.C_below CB.out d1) hc0_1 hsm).mono ?_
          rintro e ws ⟨rfl, bs⟩
          have IV2 := Lib.hid (inv_below IV.out bs)
          go_wp2_with fail
          go_roundg 0
          case measure => exact hmo
          case rel => exact ⟨3, by decide, by decide, by first | rfl | simp, IV2⟩
    · have hs0 : u15 = .int .i64 3 := hs15
      subst hs0
      have dw := bth IV.out.d dB.out
      go_wp2_with fail
      refine (estoverslaw07_awake.calls true _ rfl).mono ?_
      rintro e wz ⟨rfl, bz⟩
      have dz := bth bz dw
      go_wp2
      go_ret
      exact ⟨rfl, dz⟩
end Go.Proofs.Ytkbnhphcmlljgaa.OwnQ
