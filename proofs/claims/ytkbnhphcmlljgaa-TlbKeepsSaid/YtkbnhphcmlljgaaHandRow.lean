/- slices.Clone and slices.DeleteFunc at []api.TlbEntry: a copy in memory of the call's own; the elements that the predicate does not take. -/
import Derived.Test.YtkbnhphcmlljgaaHandIdx
import Derived.Deep.MidRow
import Derived.OwnWalk
set_option linter.unusedVariables false
set_option linter.unusedSimpArgs false
namespace Go.Proofs.Ytkbnhphcmlljgaa.Hand
open Go.RowKit Go.Proofs.Ytkbnhphcmlljgaa.P Go.Proofs.Ytkbnhphcmlljgaa.TlbP Go.Proofs.YtkbnhphcmlljgaaW.PrintWords Go.Proofs.YtkbnhphcmlljgaaW.PrintLast Go.Shelf

/-- The cells of an entry; of a row of entries. -/
def cellsE (x : E) : List Value := [.int .i64 x.f0, .int .i64 x.f1, .int .u64 x.f2]
def flatE (l : List E) : List Value := l.flatMap cellsE
theorem flatE_length (l : List E) : (flatE l).length = l.length * 3 := by
  induction l with
  | nil => rfl
  | cons x r ih => simp only [flatE, List.flatMap_cons, List.length_append, List.length_cons] at ih ⊢; rw [ih]; simp [cellsE]; omega
theorem flatE_at : ∀ (l : List E) (j : Nat) (p : E), l[j]? = some p → ((flatE l).drop (j * 3)).take 3 = cellsE p
  | [], j, p, h => by simp at h
  | x :: r, 0, p, h => by
    simp at h
    subst h
    simp [flatE, cellsE]
  | x :: r, j + 1, p, h => by
    have := flatE_at r j p (by simpa using h)
    simp only [flatE, List.flatMap_cons] at this ⊢
    rw [List.drop_append, List.drop_eq_nil_of_le (by simp [cellsE]; omega), List.nil_append, show (j + 1) * 3 - (cellsE x).length = j * 3 by simp [cellsE]; omega]
    exact this
theorem flatE_one (l : List E) : ∀ u ∈ flatE l, u.oneCell' = true := by
  intro u hu
  obtain ⟨x, _, hx⟩ := List.mem_flatMap.1 hu
  simp [cellsE] at hx
  rcases hx with rfl | rfl | rfl <;> rfl
theorem flatE_get (l : List E) (j : Nat) (u : Value) (h : (flatE l)[j]? = some u) : ∃ p, l[j / 3]? = some p ∧ (cellsE p)[j % 3]? = some u := by
  have hj := (List.getElem?_eq_some_iff.1 h).1
  rw [flatE_length] at hj
  have hl : j / 3 < l.length := by omega
  refine ⟨l[j / 3], List.getElem?_eq_getElem hl, ?_⟩
  rw [← flatE_at l (j / 3) _ (List.getElem?_eq_getElem hl), List.getElem?_take, if_pos (by omega), List.getElem?_drop, show j / 3 * 3 + j % 3 = j by omega]
  exact h
/-- A row that is read: its cells. -/
theorem C_cells {W : World} {ad : Addr} {l : List E} (h : Kd.C k42 W (some ad) l.length l) : ∀ j u, (flatE l)[j]? = some u → W.cell? (ad.add j) = some u := by
  intro j u hu
  obtain ⟨p, hp, hc⟩ := flatE_get l j u hu
  have hl := (List.getElem?_eq_some_iff.1 hp).1
  obtain ⟨ad', e, hcell⟩ := h.2.2 (by omega)
  injection e with e
  subst e
  obtain ⟨c, _, hK, hcc⟩ := hcell (j / 3) p hp
  have e2 := k42_open hK
  subst e2
  have := hcc (j % 3) u hc
  rw [show j / 3 * k42.sz + j % 3 = j from (by show j / 3 * 3 + j % 3 = j; omega)] at this
  exact this
/-- A row of the call's own, out of the model's word. -/
theorem R_flat {W : World} {B : Nat} {v : Value} {l : List E} {ok : Nat → Prop} (h : W.ownsRow B 42 3 v l.length (flatE l)) (hok : ∀ k, B ≤ k → ok k) : k42.R 42 W B ok v l := by
  refine ⟨fun k hk => hok k (h.lt k hk).1, flatE l, h, flatE_length l, fun j p hj => ?_⟩
  rw [show k42.sz = 3 from rfl, flatE_at l j p hj]
  exact k42_mkM _ _ _ _
/-- An entry in a variable of the call's own. -/
def boxE (x : E) : Obj := .cells #[.int .i64 x.f0, .int .i64 x.f1, .int .u64 x.f2] 42 (0, 0)
theorem infoT : (Try.prog.info? 42).map (·.size) = some 3 := by kernel_rfl
theorem infoZ : (Try.prog.info? 42).map (fun i => (i.zero, i.size, i.bytes)) = some (some (.agg #[.int .i64 0, .int .i64 0, .int .u64 0]), 3, 24) := by kernel_rfl
/-- What is struck off at the end of a row. -/
theorem R_struck {W : World} {B g n cap i : Nat} {r : List E} {ok : Nat → Prop} (h : k42.R 42 W B ok (.slice (some ⟨g, 0, none⟩) n cap) r) (hi : i ≤ n) (vs : List Value) (hv : i * 3 + vs.length ≤ cap * 3) :
    k42.R 42 (W.setCells g (i * 3) vs) B ok (.slice (some ⟨g, 0, none⟩) i cap) (r.take i) ∧ W.grownBy (W.setCells g (i * 3) vs) (some g) := by
  obtain ⟨hn, _, _⟩ := Kd.R_reads' h
  obtain ⟨hok, inner, ⟨ho1, ho2⟩, hr⟩ := h
  rcases ho2 with ⟨hv0, _⟩ | ⟨g', cap', cur, hv', hb, hh, hnc, hcm, hcs, ht⟩
  · cases hv0
  injection hv' with ha _ hc
  injection ha with ha
  injection ha with hg
  subst hg; subst hc
  have hcs' : cur.size = cap * 3 := hcs
  obtain ⟨cur', h3, h4, h5⟩ := setCells_row vs (i * 3) W cur hh (by rw [hcs']; exact hv)
  obtain ⟨s1, s2, s3, s4⟩ := setCells_same g vs (i * 3) W
  have hil : (r.take i).length = i := by rw [List.length_take]; omega
  refine ⟨⟨fun k hk => hok k (by simpa [Value.ownBlock] using hk), inner.take (i * 3), ⟨?_, .inr ⟨g, cap, cur', by rw [hil], hb, h3, by rw [hil]; omega, hcm, by rw [h4]; exact hcs, ?_⟩⟩, ?_⟩,
    ⟨s1, s2, s3, by rw [s4]; exact Nat.le_refl _, fun k _ hk => setCells_far vs _ k (fun he => hk (by rw [he]))⟩⟩
  · rw [hil, List.length_take, ho1, Nat.min_eq_left (by rw [← hn]; exact Nat.mul_le_mul_right _ hi)]; rfl
  · rw [hil, h5, List.append_assoc, List.take_append_of_le_length (by rw [List.length_take, Array.length_toList]; show i * 3 ≤ _; omega), ← ht, List.take_take, List.take_take]
    show List.take (min (i * 3) (i * 3)) _ = List.take (min (i * 3) (r.length * 3)) _
    rw [Nat.min_self, Nat.min_eq_left (by omega)]
  · have := Kd.reps_take hr (m := i) (by omega)
    exact this.imp_ (fun _ _ hp => k42.M_mono (fun k (hk : _ ∧ _) => ⟨hk.1, by simpa [Value.ownBlock] using hk.2⟩) hp)
theorem clear_run {W : World} {B g n cap i : Nat} {r : List E} {ok : Nat → Prop} (h : k42.R 42 W B ok (.slice (some ⟨g, 0, none⟩) n cap) r) (hi : i < n) (c : Nat) (ty : TypeId) :
    ∃ vs : List Value, vs.length = (n - i) * 3 ∧ (Builtin.clear_ #[22] ty #[.slice (some ⟨g, i * 3, none⟩) (n - i) c]).run Try.prog W = .ok (.tuple #[]) (W.setCells g (i * 3) vs) := by
  obtain ⟨hn, _, _⟩ := Kd.R_reads' h
  obtain ⟨hok, inner, ⟨ho1, ho2⟩, hr⟩ := h
  rcases ho2 with ⟨hv0, _⟩ | ⟨g', cap', cur, hv', hb, hh, hnc, hcm, hcs, ht⟩
  · cases hv0
  injection hv' with ha _ hc
  injection ha with ha
  injection ha with hg
  subst hg; subst hc
  have hcs' : cur.size = cap * 3 := hcs
  obtain ⟨i0, hi0, hp⟩ := Option.map_eq_some_iff.1 infoZ
  injection hp with hz hsz
  have hlen : (Builtin.zeroCells (Value.agg #[.int .i64 0, .int .i64 0, .int .u64 0]).cells (n - i)).toList.length = (n - i) * 3 := by
    rw [Array.length_toList, size_zeroCells]; rfl
  refine ⟨_, hlen, ?_⟩
  have hst := run_storeCells_cells (P := Try.prog) g (i * 3) (Builtin.zeroCells (Value.agg #[.int .i64 0, .int .i64 0, .int .u64 0]).cells (n - i)).toList 0 W
    (fun j hj => by rw [hlen] at hj; rw [cell_of_row W g _ cur _ (0, 0) hh, Array.getElem?_eq_getElem (by rw [hcs']; omega)]; rfl) (fun j _ => blk_frozen hh _)
    (fun v hv => by
      simp only [Builtin.zeroCells, Array.toList_map, List.mem_map] at hv
      obtain ⟨q, _, rfl⟩ := hv
      have hq : q % 3 < 3 := Nat.mod_lt _ (by omega)
      have hq3 : q % 3 = 0 ∨ q % 3 = 1 ∨ q % 3 = 2 := by omega
      show (#[Value.int .i64 0, .int .i64 0, .int .u64 0][q % 3]!).oneCell' = true
      rcases hq3 with e | e | e <;> rw [e] <;> rfl)
  simp only [Nat.add_zero] at hst
  obtain ⟨m, hm⟩ : ∃ m, n - i = m + 1 := ⟨n - i - 1, by omega⟩
  rw [hm] at hst ⊢
  have hu := run_underlying (P := Try.prog) Try.underlying22 W
  simp [Builtin.clear_, hu, zeroValue, typeInfo, hi0, hz, hst]
end Go.Proofs.Ytkbnhphcmlljgaa.Hand
