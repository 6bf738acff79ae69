/- An argument that came in reads as plain data of its type's kind: whole numbers, bools, slices, structs, arrays. The reading is the row's own. -/
import Derived.Test.YtmmjialpkddgdaaWWords
import Derived.Deep.Slices
import Derived.ChangeSame
import Derived.OpenShut
import Derived.ProofKit
namespace Go.Proofs.Ytmmjialpkddgdaa.Opens
open Go Go.ChangeShapes Go.WideShapes Go.RowKit Go.Deep Go.Proofs.YtmmjialpkddgdaaW.PrintWords

structure Opens {α : Type} (P : Program) (t : TypeId) (d : Kd α) (ok : α → Prop) : Prop where
  sz : P.cellsOf t = d.sz
  op : ∀ {H : Type} (enc : TypeId × Value → H) (w : World) (base : Nat) (spare : Nat → Bool) (held : Bool) (fuel : Nat) (cs : List Value) (x : DataW H × List MemPlace), DataW.trod enc P w base spare held fuel t cs = some x → ∃ a, d.K w a cs ∧ ok a

theorem opens_int {P : Program} {t : TypeId} {k : IntKind} (ht : P.underlying t = some (.int k)) (hc : P.cellsOf t = 1) : Opens P t (Kd.int k) (fun n => (Lit.int k n).wf = true) where
  sz := hc
  op := by
    intro H enc w base spare held fuel cs x h
    obtain ⟨n, rfl, _, hw⟩ := DataW.trod_int ht h
    exact ⟨n, rfl, hw⟩
theorem opens_bool {P : Program} {t : TypeId} (ht : P.underlying t = some .bool) (hc : P.cellsOf t = 1) : Opens P t Kd.bool (fun _ => True) where
  sz := hc
  op := by
    intro H enc w base spare held fuel cs x h
    obtain ⟨b, rfl, _⟩ := DataW.trod_bool ht h
    exact ⟨b, rfl, trivial⟩

theorem choose_list {α : Type} (n : Nat) (Q : Nat → α → Prop) (h : ∀ i, i < n → ∃ a, Q i a) : ∃ xs : List α, xs.length = n ∧ ∀ i a, xs[i]? = some a → Q i a := by
  induction n with
  | zero => exact ⟨[], rfl, fun i a e => by simp at e⟩
  | succ n ih =>
    obtain ⟨xs, hl, hx⟩ := ih (fun i hi => h i (by omega))
    obtain ⟨a, ha⟩ := h n (by omega)
    refine ⟨xs ++ [a], by simp [hl], fun i b e => ?_⟩
    rcases Nat.lt_or_ge i xs.length with hi | hi
    · rw [List.getElem?_append_left hi] at e
      exact hx i b e
    · rw [List.getElem?_append_right hi] at e
      have hz : i - xs.length = 0 := by
        rcases Nat.eq_zero_or_pos (i - xs.length) with h0 | h0
        · exact h0
        · rw [List.getElem?_eq_none (by simp; omega)] at e; cases e
      rw [hz] at e
      simp at e
      subst e
      have : i = n := by omega
      subst this
      exact ha

theorem opens_slice {P : Program} {t e : TypeId} {α : Type} {d : Kd α} {ok : α → Prop} (ht : P.underlying t = some (.slice e)) (hc : P.cellsOf t = 1) (he : Opens P e d ok) : Opens P t (Kd.slice e d) (fun xs => ∀ x ∈ xs, ok x) where
  sz := hc
  op := by
    intro H enc w base spare held fuel cs x h
    rcases open_slice ht h with ⟨rfl, _⟩ | ⟨a, len, cap, m, n, D, Pl, rfl, hb, hl, hm, hmm, hx, hi⟩
    · exact ⟨[], ⟨none, 0, rfl, Nat.le_refl _, rfl, by simp, fun h0 => absurd h0 (Nat.lt_irrefl 0)⟩, fun x hx => by simp at hx⟩
    · have hlm : len ≤ m := by rw [hmm]; split <;> omega
      obtain ⟨xs, hxl, hxs⟩ := choose_list len (fun i (b : α) => ∃ c, c.length = d.sz ∧ d.K w b c ∧ (∀ k u, c[k]? = some u → w.cell? (a.add (i * d.sz + k)) = some u) ∧ ok b) (fun i hil => by
        obtain ⟨cs', hc', ht'⟩ := hi i (by omega)
        obtain ⟨b, hK, hok⟩ := he.op enc w base spare held n cs' _ ht'
        rw [he.sz] at hc'
        obtain ⟨_, hcl, hat⟩ := World.cells?_some hc'
        refine ⟨b, cs', hcl, hK, fun k u hu => ?_, hok⟩
        have hkl : k < d.sz := by
          have := (List.getElem?_eq_some_iff.1 hu).1
          omega
        rw [← Go.Deep.add_add, hat k hkl, hu])
      have hmax : cap ≤ 9223372036854775807 := hm
      refine ⟨xs, ⟨some a, cap, by rw [hxl], by omega, rfl, by omega, fun _ => ⟨a, rfl, fun j p hp => ?_⟩⟩, fun x hx => ?_⟩
      · obtain ⟨c, h1, h2, h3, _⟩ := hxs j p hp
        exact ⟨c, h1, h2, h3⟩
      · obtain ⟨j, hj, rfl⟩ := List.getElem_of_mem hx
        obtain ⟨_, _, _, _, hok⟩ := hxs j _ (List.getElem?_eq_getElem hj)
        exact hok

/-- The fields of a struct from one on, in line. -/
structure OpensL {α : Type} (P : Program) (fs : List Field) (off : Nat) (d : Kd α) (ok : α → Prop) : Prop where
  op : ∀ {H : Type} (enc : TypeId × Value → H) (w : World) (base : Nat) (spare : Nat → Bool) (held : Bool) (n : Nat) (cs : List Value) (xs : List (DataW H × List MemPlace)), cs.length = off + d.sz → xs.length = fs.length →
    (∀ (i : Nat) (f : Field), fs[i]? = some f → DataW.trod enc P w base spare held n f.type ((cs.drop f.offset).take (P.cellsOf f.type)) = xs[i]?) → ∃ a, d.K w a (cs.drop off) ∧ ok a

theorem opensL_one {P : Program} {f : Field} {off : Nat} {α : Type} {d : Kd α} {ok : α → Prop} (ho : f.offset = off) (h : Opens P f.type d ok) : OpensL P [f] off d ok := by
  constructor
  intro H enc w base spare held n cs xs hl hx hf
  have h0 := hf 0 f rfl
  match xs, hx with
  | [y], _ =>
    rw [ho, h.sz, List.take_of_length_le (by rw [List.length_drop]; omega)] at h0
    exact h.op enc w base spare held n _ y h0
theorem opensL_cons {P : Program} {f : Field} {fs : List Field} {off : Nat} {α β : Type} {d0 : Kd α} {d1 : Kd β} {ok0 : α → Prop} {ok1 : β → Prop} (ho : f.offset = off) (h : Opens P f.type d0 ok0) (hr : OpensL P fs (off + d0.sz) d1 ok1) :
    OpensL P (f :: fs) off (Kd.pair d0 d1) (fun x => ok0 x.1 ∧ ok1 x.2) := by
  constructor
  intro H enc w base spare held n cs xs hl hx hf
  have hsz : (Kd.pair d0 d1).sz = d0.sz + d1.sz := rfl
  match xs, hx with
  | y :: ys, hx =>
    have h0 := hf 0 f rfl
    rw [ho, h.sz] at h0
    obtain ⟨a, hK, hok⟩ := h.op enc w base spare held n _ y h0
    obtain ⟨b, hK1, hok1⟩ := hr.op enc w base spare held n cs ys (by omega) (by simpa using hx) (fun i g hg => hf (i + 1) g hg)
    refine ⟨(a, b), ⟨_, _, ?_, hK, hK1⟩, hok, hok1⟩
    rw [← List.drop_drop]
    exact (List.take_append_drop d0.sz (cs.drop off)).symm
theorem opens_struct {P : Program} {t : TypeId} {fs : List Field} {α β : Type} {d : Kd α} {ok : α → Prop} (f : β → α) (g : α → β) (hfg : ∀ a, f (g a) = a) (ht : P.underlying t = some (.struct fs.toArray)) (hc : P.cellsOf t = d.sz) (h : OpensL P fs 0 d ok) :
    Opens P t (Kd.iso d f) (fun b => ok (f b)) where
  sz := hc
  op := by
    intro H enc w base spare held fuel cs x hx
    obtain ⟨xs, n, _, _, hl, hxl, hf⟩ := DataW.trod_struct ht hx
    obtain ⟨a, hK, hok⟩ := h.op enc w base spare held n cs xs (by omega) (by simpa using hxl) (fun i fd hi => hf i fd (by simpa using hi))
    refine ⟨g a, ?_, by rw [hfg]; exact hok⟩
    show d.K w (f (g a)) cs
    rw [hfg]
    simpa using hK

/-- An array of n elements: a list of that length, in line. -/
def Cells {α : Type} (d : Kd α) (w : World) : List α → List Value → Prop
  | [], cs => cs = []
  | x :: xs, cs => ∃ c0 c1, cs = c0 ++ c1 ∧ d.K w x c0 ∧ Cells d w xs c1
theorem open_array {P : Program} {t e : TypeId} {n : Nat} {α : Type} {d : Kd α} {ok : α → Prop} (ht : P.underlying t = some (.array n e)) (hc : P.cellsOf t = n * d.sz) (he : Opens P e d ok) {H : Type} (enc : TypeId × Value → H) (w : World) (base : Nat) (spare : Nat → Bool) (held : Bool) (fuel : Nat) (cs : List Value) (x : DataW H × List MemPlace) (h : DataW.trod enc P w base spare held fuel t cs = some x) :
    ∃ xs : List α, xs.length = n ∧ Cells d w xs cs ∧ ∀ x ∈ xs, ok x := by
  obtain ⟨ys, m, _, _, hl, hyl, hf⟩ := DataW.trod_array ht h
  rw [hc] at hl
  rw [he.sz] at hf
  clear h hc ht
  suffices H : ∀ k j, j + k = n → ∃ xs : List α, xs.length = k ∧ Cells d w xs (cs.drop (j * d.sz)) ∧ ∀ x ∈ xs, ok x by
    obtain ⟨xs, h1, h2, h3⟩ := H n 0 (by omega)
    exact ⟨xs, h1, by simpa using h2, h3⟩
  intro k
  induction k with
  | zero =>
    intro j hj
    refine ⟨[], rfl, ?_, by simp⟩
    show cs.drop (j * d.sz) = []
    rw [show j = n by omega]
    exact List.drop_eq_nil_of_le (by omega)
  | succ k ih =>
    intro j hj
    obtain ⟨xs, h1, h2, h3⟩ := ih (j + 1) (by omega)
    have h0 := hf j (by omega)
    rw [List.getElem?_eq_getElem (show j < ys.length by omega)] at h0
    obtain ⟨a, hK, hok⟩ := he.op enc w base spare held m _ _ h0
    refine ⟨a :: xs, by simp [h1], ⟨_, _, ?_, hK, h2⟩, fun y hy => ?_⟩
    · rw [Nat.add_mul, Nat.one_mul, ← List.drop_drop]
      exact (List.take_append_drop d.sz _).symm
    · rcases List.mem_cons.1 hy with rfl | hy
      · exact hok
      · exact h3 y hy
end Go.Proofs.Ytmmjialpkddgdaa.Opens
