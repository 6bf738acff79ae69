/- tlb.without: a copy without the entries that a predicate takes. -/
import Derived.Test.YtkbnhphcmlljgaaHandDel
import Derived.Test.YtkbnhphcmlljgaaHandCheck
import Derived.Deep.RegionWith
set_option linter.unusedVariables false
set_option linter.unusedSimpArgs false
namespace Go.Proofs.Ytkbnhphcmlljgaa.Hand
open Go.RowKit Go.Proofs.Ytkbnhphcmlljgaa.P Go.Proofs.Ytkbnhphcmlljgaa.TlbP Go.Proofs.Ytkbnhphcmlljgaa.Pte Go.Proofs.YtkbnhphcmlljgaaW.PrintWords Go.Proofs.YtkbnhphcmlljgaaW.PrintLast Go.Shelf

theorem absw {P : Program} {c : Code} {Q : Exit → Act → World → Prop} {a : Act} {w : World} (R : World → Prop) (h : R w) (k : ∀ w', R w' → Code.wp P c Q a w') : Code.wp P c Q a w := k w h
theorem infoB : (Try.prog.info? 24).map (·.size) = some 2 := by kernel_rfl
theorem pair_new (W : World) (o o' : Obj) : ((W.alloc o).alloc o').heap[W.heap.size + 1]? = some o' := by
  have := blk_new (W.alloc o) o'
  rwa [show (W.alloc o).heap.size = W.heap.size + 1 by simp] at this
theorem bthen {B : Nat} {W W1 w2 : World} (k : Below W1.heap.size W1 w2) (h : Below B W W1) (hs : B ≤ W1.heap.size) : Below B W w2 :=
  h.trans ⟨k.os, k.tape, k.output, k.size, fun i hi => k.block i (by omega)⟩

set_option maxHeartbeats 4000000 in
set_option maxRecDepth 100000 in
theorem without_own (p : E → Bool) (g : FuncId) (lb : Array Value) (eg : ∀ args w, (callFunc g args).run Try.prog w = .ok (.enter g args) w) (W : World) (hp : Pred g lb p W.heap.size W) (n : Int) (ad : Addr) (c : Nat) (l : List E) (hl : ∀ x ∈ l, okw x = true) (hC : Kd.C k42 W (some ad) l.length l) (hm : l.length ≤ 1000000) :
    Calls Try.prog 39 #[.agg #[.int .i64 n, .slice (some ad) l.length c], .func (.func g) #[] lb] W fun e w' => ∃ g cap, e = .returned (.agg #[.int .i64 n, .slice (some ⟨g, 0, none⟩) (l.filter fun x => !p x).length cap]) ∧ k42.R 42 w' W.heap.size (fun k => W.heap.size ≤ k) (.slice (some ⟨g, 0, none⟩) (l.filter fun x => !p x).length cap) (l.filter fun x => !p x) ∧ Below W.heap.size W w' := by
  have hu := Try.underlying42
  have hu2 := Try.underlying22
  have hu3 := Try.underlying24
  have hcl := fun W' (h : Below W.heap.size W W') => clone_own ad c l W' (Kd.C_below hC h) hm
  have hdl := fun (W' W1 : World) (h : Below W.heap.size W W1) (hs : W.heap.size ≤ W1.heap.size) gb cap (hR : k42.R 42 W1 W.heap.size (fun k => W.heap.size + 2 ≤ k) (.slice (some ⟨gb, 0, none⟩) l.length cap) l) => delete_calls p g lb eg W.heap.size W W1 hp h hs gb cap l hl _ hR
  generalize l.length = m at *
  clear hC hm hl hp
  go_enter Try.func39, Try.ntmps39
  go_wp2_with fail
  refine absw (fun w' => Below W.heap.size W w' ∧ W.heap.size + 2 ≤ w'.heap.size ∧ w'.heap[W.heap.size]? = some (.cells #[.int .i64 n, .slice (some ad) m c] 24 (0, 0)) ∧ w'.heap[W.heap.size + 1]? = some (.cells #[.int .i64 0, .slice none 0 0] 24 (0, 0))) ⟨below_alloc (below_alloc (Below.refl _ _) _) _, by simp, blk_alloc (blk_new _ _) _, pair_new _ _ _⟩ ?_
  rintro w1 ⟨b1, s1, h0, h1⟩
  have c0 := (blk_cell h0 0).trans rfl
  have c1 := (blk_cell h0 1).trans rfl
  generalize hg0 : W.heap.size = g0 at *
  go_region_with (first | (go_at_call 51; refine (hcl _ (below_drew1 b1)).mono ?_; rintro e w2 ⟨gb, cap, rfl, hR, b2⟩; have k0 := (blk_cell (blk_below (blk_drew h0) b2) 0).trans rfl) | (go_at_call 50; refine (hdl w1 w2 (bthen b2 (below_drew1 b1) (Nat.le_trans (Nat.le_add_right _ 2) s1)) (Nat.le_trans (Nat.le_trans (Nat.le_add_right _ 2) s1) b2.size) gb cap (Kd.R_mono (Kd.R_lower hR (Nat.le_trans (Nat.le_add_right _ 2) s1)) (fun k hk => Nat.le_trans s1 hk))).mono ?_; rintro e w3 ⟨rfl, hR3, b3, g3⟩; have hgb : g0 + 2 ≤ gb := (Nat.le_trans s1 (Kd.R_base hR gb rfl)); have n0 := (blk_cell (blk_grown (blk_below (blk_drew h0) b2) g3 (show some g0 ≠ some gb from fun h => by injection h with h; omega)) 0).trans rfl; have hq := (blk_grown (blk_below (blk_drew h1) b2) g3 (show some (g0 + 1) ≠ some gb from fun h => by injection h with h; omega)); have n1 := (blk_cell hq 0).trans rfl; have n2 := (blk_cell hq 1).trans rfl; have n3 := blk_frozen hq 0; have n4 := blk_frozen hq 1))
  all_goals go_wp2
  all_goals (try simp only [Exit.inBlock, Exit.then])
  all_goals (refine bodyPost_ret (results_cell_row rfl _ _ (g0 + 1) 24 #[.int .i64 n, .slice (some ⟨gb, 0, none⟩) (l.filter fun x => !p x).length cap] (0, 0) _ rfl (blk_put (blk_put hq 0 _ rfl) 1 _ rfl) hu3 rfl infoB) rfl ?_)
  all_goals rw [hg0]
  all_goals exact ⟨gb, cap, rfl, Kd.R_mono (Kd.R_far (p := ⟨g0 + 1, 1, none⟩) (Kd.R_far (p := ⟨g0 + 1, 0, none⟩) hR3 (fun k hk he => by have : k = g0 + 1 := he; omega) _) (fun k hk he => by have : k = g0 + 1 := he; omega) _) (fun k hk => by omega), ((bthen b2 (below_drew1 b1) (Nat.le_trans (Nat.le_add_right _ 2) s1)).trans b3).setCell (p := ⟨g0 + 1, 0, none⟩) (Nat.le_succ g0) _ |>.setCell (p := ⟨g0 + 1, 1, none⟩) (Nat.le_succ g0) _⟩

set_option maxHeartbeats 4000000 in
set_option maxRecDepth 100000 in
theorem without_nil (p : E → Bool) (g : FuncId) (lb : Array Value) (eg : ∀ args w, (callFunc g args).run Try.prog w = .ok (.enter g args) w) (W : World) (hp : Pred g lb p W.heap.size W) (n : Int) (c : Nat) :
    Calls Try.prog 39 #[.agg #[.int .i64 n, .slice none 0 c], .func (.func g) #[] lb] W fun e w' => e = .returned (.agg #[.int .i64 n, .slice none 0 0]) ∧ Below W.heap.size W w' := by
  have hu := Try.underlying42
  have hu2 := Try.underlying22
  have hu3 := Try.underlying24
  have hcl := fun W' => clone_nil 0 c W'
  have hdl := fun (W1 : World) (h : Below W.heap.size W W1) (hs : W.heap.size ≤ W1.heap.size) => delete_nil p g lb eg W.heap.size W W1 hp h hs
  clear hp
  go_enter Try.func39, Try.ntmps39
  go_wp2_with fail
  refine absw (fun w' => Below W.heap.size W w' ∧ W.heap.size + 2 ≤ w'.heap.size ∧ w'.heap[W.heap.size]? = some (.cells #[.int .i64 n, .slice none 0 c] 24 (0, 0)) ∧ w'.heap[W.heap.size + 1]? = some (.cells #[.int .i64 0, .slice none 0 0] 24 (0, 0))) ⟨below_alloc (below_alloc (Below.refl _ _) _) _, by simp, blk_alloc (blk_new _ _) _, pair_new _ _ _⟩ ?_
  rintro w1 ⟨b1, s1, h0, h1⟩
  have c0 := (blk_cell h0 0).trans rfl
  have c1 := (blk_cell h0 1).trans rfl
  generalize hg0 : W.heap.size = g0 at *
  go_region_with (first | (go_at_call 51; refine (hcl _).mono ?_; rintro e w2 ⟨rfl, b2⟩; have k0 := (blk_cell (blk_below (blk_drew h0) b2) 0).trans rfl) | (go_at_call 50; refine (hdl w2 (bthen b2 (below_drew1 b1) (Nat.le_trans (Nat.le_add_right _ 2) s1)) (Nat.le_trans (Nat.le_trans (Nat.le_add_right _ 2) s1) b2.size)).mono ?_; rintro e w3 ⟨rfl, b3⟩; have n0 := (blk_cell (blk_below (blk_below (blk_drew h0) b2) b3) 0).trans rfl; have hq := (blk_below (blk_below (blk_drew h1) b2) b3); have n1 := (blk_cell hq 0).trans rfl; have n2 := (blk_cell hq 1).trans rfl; have n3 := blk_frozen hq 0; have n4 := blk_frozen hq 1))
  all_goals go_wp2
  all_goals (try simp only [Exit.inBlock, Exit.then])
  all_goals (refine bodyPost_ret (results_cell_row rfl _ _ (g0 + 1) 24 #[.int .i64 n, .slice none 0 0] (0, 0) _ rfl (blk_put (blk_put hq 0 _ rfl) 1 _ rfl) hu3 rfl infoB) rfl ?_)
  all_goals rw [hg0]
  all_goals exact ⟨rfl, (bthen b3 (bthen b2 (below_drew1 b1) (Nat.le_trans (Nat.le_add_right _ 2) s1)) (Nat.le_trans (Nat.le_trans (Nat.le_add_right _ 2) s1) b2.size)).setCell (p := ⟨g0 + 1, 0, none⟩) (Nat.le_succ g0) _ |>.setCell (p := ⟨g0 + 1, 1, none⟩) (Nat.le_succ g0) _⟩
theorem without_calls (p : E → Bool) (g : FuncId) (lb : Array Value) (eg : ∀ args w, (callFunc g args).run Try.prog w = .ok (.enter g args) w) (W : World) (hp : Pred g lb p W.heap.size W) (n : Int) (A : Option Addr) (c : Nat) (l : List E) (hl : ∀ x ∈ l, okw x = true) (hC : Kd.C k42 W A l.length l) (hm : l.length ≤ 1000000) :
    Calls Try.prog 39 #[.agg #[.int .i64 n, .slice A l.length c], .func (.func g) #[] lb] W fun e w' => ∃ A' c', e = .returned (.agg #[.int .i64 n, .slice A' (l.filter fun x => !p x).length c']) ∧ k42.R 42 w' W.heap.size (fun k => W.heap.size ≤ k) (.slice A' (l.filter fun x => !p x).length c') (l.filter fun x => !p x) ∧ Below W.heap.size W w' := by
  cases A with
  | none =>
    have hl0 : l = [] := by
      cases l with
      | nil => rfl
      | cons x r => obtain ⟨ad, e, _⟩ := hC.2.2 (by simp); cases e
    subst hl0
    refine (without_nil p g lb eg W hp n c).mono ?_
    rintro e w' ⟨rfl, b⟩
    exact ⟨none, 0, rfl, Kd.R_nil _ _ _ _ _, b⟩
  | some ad =>
    refine (without_own p g lb eg W hp n ad c l hl hC hm).mono ?_
    rintro e w' ⟨gb, cap, rfl, hR, b⟩
    exact ⟨_, cap, rfl, hR, b⟩
end Go.Proofs.Ytkbnhphcmlljgaa.Hand
