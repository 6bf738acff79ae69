/- Steps that regions whose operations come in several orders share: what such a region comes to; a new cell ahead of a call or behind it. -/
import Derived.Test.YtkbnhphcmlljgaaHandAwake
set_option linter.unusedVariables false
set_option linter.unusedSimpArgs false
namespace Go.Proofs.Ytkbnhphcmlljgaa.Hand
open Go.RowKit Go.Proofs.Ytkbnhphcmlljgaa.P Go.Proofs.Ytkbnhphcmlljgaa.TlbP Go.Proofs.Ytkbnhphcmlljgaa.Pte Go.Proofs.YtkbnhphcmlljgaaW.PrintWords Go.Proofs.YtkbnhphcmlljgaaW.PrintLast Go.Shelf

theorem vAlloc {W : World} {B : Nat} {ok : Nat → Prop} {v : Value} {xs : List E} (h : Kd.V k42 42 W B ok v xs) (o : Obj) : Kd.V k42 42 (W.alloc o) B ok v xs := Kd.V_below h (below_alloc (Below.refl _ _) o)
theorem vBound {W : World} {B : Nat} {ok : Nat → Prop} {v : Value} {xs : List E} (h : Kd.V k42 42 W B ok v xs) : Kd.V k42 42 W B (fun k => ok k ∧ k < W.heap.size) v xs := Kd.V_map h (fun _ hf => Kd.F_bound hf)
theorem vDrewN {W : World} {B : Nat} {ok : Nat → Prop} {v : Value} {xs : List E} (h : Kd.V k42 42 W B ok v xs) (n : Nat) : Kd.V k42 42 (W.drewN n) B ok v xs := Kd.V_below h (pw_below_drewN (Below.refl _ _) n)
theorem vDrew {W : World} {B : Nat} {ok : Nat → Prop} {v : Value} {xs : List E} (h : Kd.V k42 42 W B ok v xs) : Kd.V k42 42 W.drew B ok v xs := Kd.V_below h (below_drew1 (Below.refl _ _))
theorem cellBe {W w' : World} {a : Addr} {v : Value} (d : Below W.heap.size W w') (h : W.cell? a = some v) : w'.cell? a = some v := (d.cell (World.block_lt_of_cell? W _ h)).trans h
theorem cellAl {W : World} {a : Addr} {v : Value} (o : Obj) (h : W.cell? a = some v) : (W.alloc o).cell? a = some v := ((below_alloc (Below.refl _ W) o).cell (World.block_lt_of_cell? W _ h)).trans h
/-- What a region comes to, over all its orders: normal alone. -/
def Ways (A : Nat → Option Addr → Nat → Act) (R : Nat → Option Addr → Nat → World → Prop) (e : Exit) (a' : Act) (w' : World) : Prop := match e with
  | .normal => ∃ g A4 c4, a' = A g A4 c4 ∧ R g A4 c4 w'
  | _ => False
theorem wp_ways {P : Program} {c : Code} {Q : Exit → Act → World → Prop} {a : Act} {w : World} {A : Nat → Option Addr → Nat → Act} (R : Nat → Option Addr → Nat → World → Prop)
    (h1 : Code.wp P c (Ways A R) a w) (h2 : ∀ g A4 c4 w', R g A4 c4 w' → Q .normal (A g A4 c4) w') : Code.wp P c Q a w :=
  Code.wp_mono (fun e a' w' h => by
    cases e with
    | normal => obtain ⟨g, A4, c4, ha, hr⟩ := h; subst ha; exact h2 g A4 c4 w' hr
    | _ => exact h.elim) h1
/-- The same where nothing that is new stands in the frame. -/
def Way1 (A : Act) (R : World → Prop) (e : Exit) (a' : Act) (w' : World) : Prop := match e with
  | .normal => a' = A ∧ R w'
  | _ => False
theorem wp_way1 {P : Program} {c : Code} {Q : Exit → Act → World → Prop} {a : Act} {w : World} {A : Act} (R : World → Prop) (h1 : Code.wp P c (Way1 A R) a w) (h2 : ∀ w', R w' → Q .normal A w') : Code.wp P c Q a w :=
  Code.wp_mono (fun e a' w' h => by
    cases e with
    | normal => obtain ⟨ha, hr⟩ := h; subst ha; exact h2 w' hr
    | _ => exact h.elim) h1
/-- A cache's cells. -/
abbrev cellsT (n : Int) (A : Option Addr) (m c : Nat) : Obj := .cells #[.int .i64 n, .slice A m c] 24 (0, 0)
section
variable {W wr w4 : World} {g g6 g8 : Nat} {v : Value} {xs : List E} {o o0 : Obj} {u u' : Value} {cs : Array Value} {t : TypeId}
theorem blkL1 (h : wr.heap[g]? = some o0) (b4 : Below wr.drew.heap.size wr.drew w4) : (w4.alloc o).heap[g]? = some o0 := blk_alloc (blk_below (blk_drew h) b4) o
theorem blkL2 (h : wr.heap[g]? = some (.cells cs t (0, 0))) (b4 : Below (wr.alloc o).drew.heap.size (wr.alloc o).drew w4) : ((w4.setCell ⟨wr.heap.size, 0, none⟩ u).setCell ⟨wr.heap.size, 1, none⟩ u').heap[g]? = some (.cells cs t (0, 0)) :=
  blk_far (p := ⟨wr.heap.size, 1, none⟩) (blk_far (p := ⟨wr.heap.size, 0, none⟩) (blk_below (blk_drew (blk_alloc h o)) b4) (Nat.ne_of_lt (blk_lt h)) _) (Nat.ne_of_lt (blk_lt h)) _
theorem newL2 {n : Int} {A4 : Option Addr} {m c4 : Nat} (hq : w4.heap[g]? = some (.cells #[.int .i64 0, .slice none 0 0] 24 (0, 0))) : ((w4.setCell ⟨g, 0, none⟩ (.int .i64 n)).setCell ⟨g, 1, none⟩ (.slice A4 m c4)).heap[g]? = some (cellsT n A4 m c4) := blk_put (blk_put hq 0 _ rfl) 1 _ rfl
theorem vL1 (h : Kd.V k42 42 wr 0 (fun k => k ≠ g6 ∧ k ≠ g8) v xs) (b4 : Below wr.drew.heap.size wr.drew w4) : Kd.V k42 42 (w4.alloc o) 0 (fun k => k ≠ g6 ∧ k ≠ g8) v xs := vAlloc (Kd.V_below (vDrew h) b4) o
theorem vL2 (h : Kd.V k42 42 wr 0 (fun k => k ≠ g6 ∧ k ≠ g8) v xs) (b4 : Below (wr.alloc o).drew.heap.size (wr.alloc o).drew w4) : Kd.V k42 42 ((w4.setCell ⟨wr.heap.size, 0, none⟩ u).setCell ⟨wr.heap.size, 1, none⟩ u') 0 (fun k => k ≠ g6 ∧ k ≠ g8) v xs :=
  Kd.V_mono (Kd.V_far (p := ⟨wr.heap.size, 1, none⟩) (Kd.V_far (p := ⟨wr.heap.size, 0, none⟩) (Kd.V_below (vDrew (vAlloc (vBound h) o)) b4) (fun k hk => Nat.ne_of_lt hk.2) _) (fun k hk => Nat.ne_of_lt hk.2) _) (fun k hk => hk.1)
theorem nL1 (h6 : g6 < wr.heap.size) (h8 : g8 < wr.heap.size) {B : Nat} (h : Kd.V k42 42 w4 B (fun k => ((k ≠ g6 ∧ k ≠ g8) ∧ k < wr.heap.size) ∨ wr.drew.heap.size ≤ k) v xs) : Kd.V k42 42 (w4.alloc o) 0 (fun k => k ≠ g6 ∧ k ≠ g8) v xs :=
  Kd.V_mono (vAlloc h o) (fun k hk => by rcases hk with hk | hk; exact hk.1; have : wr.heap.size ≤ k := hk; omega)
theorem nL2 (h6 : g6 < wr.heap.size) (h8 : g8 < wr.heap.size) {B : Nat} (h : Kd.V k42 42 w4 B (fun k => ((k ≠ g6 ∧ k ≠ g8) ∧ k < wr.heap.size) ∨ (wr.alloc o).drew.heap.size ≤ k) v xs) : Kd.V k42 42 ((w4.setCell ⟨wr.heap.size, 0, none⟩ u).setCell ⟨wr.heap.size, 1, none⟩ u') 0 (fun k => k ≠ g6 ∧ k ≠ g8) v xs := by
  have e : ∀ k, ((k ≠ g6 ∧ k ≠ g8) ∧ k < wr.heap.size) ∨ (wr.alloc o).drew.heap.size ≤ k → (k ≠ g6 ∧ k ≠ g8) ∧ k ≠ wr.heap.size := by
    intro k hk
    rcases hk with hk | hk
    · exact ⟨hk.1, Nat.ne_of_lt hk.2⟩
    · have : (wr.alloc o).heap.size ≤ k := hk
      simp only [World.alloc, Array.size_push] at this
      omega
  exact Kd.V_mono (base := 0) (Kd.V_far (p := ⟨wr.heap.size, 1, none⟩) (Kd.V_far (p := ⟨wr.heap.size, 0, none⟩) h (fun k hk => (e k hk).2) _) (fun k hk => (e k hk).2) _) (fun k hk => (e k hk).1)
theorem belL1 (h : Below W.heap.size W wr) (b4 : Below wr.drew.heap.size wr.drew w4) : Below W.heap.size W (w4.alloc o) := below_alloc (bth b4 (below_drew1 h)) o
theorem belL2 (h : Below W.heap.size W wr) (b4 : Below (wr.alloc o).drew.heap.size (wr.alloc o).drew w4) : Below W.heap.size W ((w4.setCell ⟨wr.heap.size, 0, none⟩ u).setCell ⟨wr.heap.size, 1, none⟩ u') :=
  ((bth b4 (below_drew1 (below_alloc h o))).setCell (p := ⟨wr.heap.size, 0, none⟩) h.size _).setCell (p := ⟨wr.heap.size, 1, none⟩) h.size _
end
section
variable {W w8 : World} {g6 g8 : Nat} {n : Int} {A4 A5 : Option Addr} {m c4 c5 : Nat} {v : Value} {xs : List E} {cs6 cs8 : List Value} {u0 u1 : Value}
theorem fin6 (hne : g6 ≠ g8) (h : w8.heap[g6]? = some (.cells #[u0, u1] 24 (0, 0))) : ((((w8.setCell ⟨g6, 0, none⟩ (.int .i64 n)).setCell ⟨g6, 1, none⟩ (.slice A4 m c4)).setCell ⟨g8, 0, none⟩ (.int .i64 n)).setCell ⟨g8, 1, none⟩ (.slice A5 m c5)).heap[g6]? = some (cellsT n A4 m c4) :=
  blk_far (p := ⟨g8, 1, none⟩) (blk_far (p := ⟨g8, 0, none⟩) (blk_put (blk_put h 0 _ rfl) 1 _ rfl) hne _) hne _
theorem fin8 (hne : g6 ≠ g8) (h : w8.heap[g8]? = some (.cells #[u0, u1] 24 (0, 0))) : ((((w8.setCell ⟨g6, 0, none⟩ (.int .i64 n)).setCell ⟨g6, 1, none⟩ (.slice A4 m c4)).setCell ⟨g8, 0, none⟩ (.int .i64 n)).setCell ⟨g8, 1, none⟩ (.slice A5 m c5)).heap[g8]? = some (cellsT n A5 m c5) :=
  blk_put (blk_put (blk_far (p := ⟨g6, 1, none⟩) (blk_far (p := ⟨g6, 0, none⟩) h hne.symm _) hne.symm _) 0 _ rfl) 1 _ rfl
theorem finV (h : Kd.V k42 42 w8 0 (fun k => k ≠ g6 ∧ k ≠ g8) v xs) : Kd.V k42 42 ((((w8.setCell ⟨g6, 0, none⟩ (.int .i64 n)).setCell ⟨g6, 1, none⟩ (.slice A4 m c4)).setCell ⟨g8, 0, none⟩ (.int .i64 n)).setCell ⟨g8, 1, none⟩ (.slice A5 m c5)) 0 (fun k => k ≠ g6 ∧ k ≠ g8) v xs :=
  Kd.V_far (p := ⟨g8, 1, none⟩) (Kd.V_far (p := ⟨g8, 0, none⟩) (Kd.V_far (p := ⟨g6, 1, none⟩) (Kd.V_far (p := ⟨g6, 0, none⟩) h (fun k hk => hk.1) _) (fun k hk => hk.1) _) (fun k hk => hk.2) _) (fun k hk => hk.2) _
theorem finB (h6 : W.heap.size ≤ g6) (h8 : W.heap.size ≤ g8) (h : Below W.heap.size W w8) : Below W.heap.size W ((((w8.setCell ⟨g6, 0, none⟩ (.int .i64 n)).setCell ⟨g6, 1, none⟩ (.slice A4 m c4)).setCell ⟨g8, 0, none⟩ (.int .i64 n)).setCell ⟨g8, 1, none⟩ (.slice A5 m c5)) :=
  (((h.setCell (p := ⟨g6, 0, none⟩) h6 _).setCell (p := ⟨g6, 1, none⟩) h6 _).setCell (p := ⟨g8, 0, none⟩) h8 _).setCell (p := ⟨g8, 1, none⟩) h8 _
end
end Go.Proofs.Ytkbnhphcmlljgaa.Hand
