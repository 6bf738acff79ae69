/- slices.Clone and slices.DeleteFunc at []api.TlbEntry, by hand. -/
import Derived.Test.YtkbnhphcmlljgaaHandRow
import Derived.Deep.LoopGhost
import Derived.Shelf.Abstract
import Derived.Lib.Hide
import Derived.Lib.SliceRun
set_option linter.unusedVariables false
set_option linter.unusedSimpArgs false
namespace Go.Proofs.Ytkbnhphcmlljgaa.Hand
open Go.RowKit Go.Proofs.Ytkbnhphcmlljgaa.P Go.Proofs.Ytkbnhphcmlljgaa.TlbP Go.Proofs.YtkbnhphcmlljgaaW.PrintWords Go.Proofs.YtkbnhphcmlljgaaW.PrintLast Go.Shelf

set_option maxHeartbeats 2000000 in
/-- A copy of nil is nil. -/
theorem clone_nil (n c : Nat) (W : World) : Calls Try.prog 51 #[.slice none n c] W fun e w' => e = .returned (.slice none 0 0) ∧ Below W.heap.size W w' := by
  have hu := Try.underlying22
  go_enter Try.func51, Try.ntmps51
  have q22 : ∀ (w : World) (a : Option Addr) (n c n' c' : Nat), (binOp .eql 22 (.slice a n c) (.slice none n' c')).run Try.prog w = .ok (.bool a.isNone) w := fun w a n c n' c' => Lib.run_eql_slice_nil w _ _ a n c n' c' hu
  go_wp2
  go_ret
  exact ⟨rfl, Below.refl _ _⟩
set_option maxHeartbeats 2000000 in
/-- A copy of what is not nil: a row of the call's own. -/
theorem clone_own (ad : Addr) (c : Nat) (l : List E) (W : World) (hC : Kd.C k42 W (some ad) l.length l) (hs : l.length ≤ 1000000) :
    Calls Try.prog 51 #[.slice (some ad) l.length c] W fun e w' => ∃ g cap, e = .returned (.slice (some ⟨g, 0, none⟩) l.length cap) ∧ k42.R 42 w' W.heap.size (fun k => W.heap.size ≤ k) (.slice (some ⟨g, 0, none⟩) l.length cap) l ∧ Below W.heap.size W w' := by
  have hu := Try.underlying22
  obtain ⟨i0, hi, hp⟩ := Option.map_eq_some_iff.1 infoZ
  injection hp with hz hp
  injection hp with hsz hby
  have HC := Lib.hid (C_cells hC)
  clear hC
  have q22 : ∀ (w : World) (a : Option Addr) (n c n' c' : Nat), (binOp .eql 22 (.slice a n c) (.slice none n' c')).run Try.prog w = .ok (.bool a.isNone) w := fun w a n c n' c' => Lib.run_eql_slice_nil w _ _ a n c n' c' hu
  go_enter Try.func51, Try.ntmps51
  go_wp2_with (at_builtin; refine wpList_append_own _ rfl _ _ 22 rfl W.heap.size 42 i0 _ 3 24 hu hi hz hsz hby rfl (by omega) _ _ _ rfl (World.ownsRow_made W #[] 0 (Nat.le_refl _) (Nat.zero_le _) (by simp)) ad l.length c (flatE l) rfl ?qc1 ?qc2 ?qc3 ?qc4 ?qc5 ?qc6 ?_)
  case qc1 => exact flatE_length l
  case qc2 =>
    intro j u hj
    exact Lib.cell?_alloc_some _ (HC.out j u hj)
  case qc3 => exact flatE_one l
  case qc4 => rw [Nat.zero_add]; simp only [maxLen]; omega
  case qc5 => rw [Nat.zero_add]; omega
  case qc6 => simp
  intro v' w1 hown hgrow hnil
  go_wp2
  go_ret
  have hown' : w1.ownsRow W.heap.size 42 3 v' l.length (flatE l) := by simpa using hown
  rcases hown'.2 with ⟨hv, _⟩ | ⟨g, cap, cur, hv, _⟩
  · exact absurd hv hnil
  · subst hv
    exact ⟨g, cap, rfl, R_flat hown' (fun k hk => hk), ((Below.refl _ W).alloc (Nat.le_refl _) _).grown hgrow (by simp) (by intro k hk; simp [Value.ownBlock] at hk; omega)⟩

theorem filt_keep (p : E → Bool) (l : List E) (j : Nat) (hj : j < l.length) (h : p l[j] = false) : (l.take (j + 1)).filter (fun x => !p x) = (l.take j).filter (fun x => !p x) ++ [l[j]] := by
  rw [List.take_succ_eq_append_getElem hj, List.filter_append]
  simp [h]
theorem filt_drop (p : E → Bool) (l : List E) (j : Nat) (hj : j < l.length) (h : p l[j] = true) : (l.take (j + 1)).filter (fun x => !p x) = (l.take j).filter (fun x => !p x) := by
  rw [List.take_succ_eq_append_getElem hj, List.filter_append]
  simp [h]
theorem filt_all (p : E → Bool) (l : List E) (h : l.any p = false) : l.filter (fun x => !p x) = l := by
  rw [List.filter_eq_self]
  intro x hx
  have := (List.any_eq_false.1 h) x hx
  simpa using this
theorem idx_spec (p : E → Bool) (l : List E) (h : l.any p = true) : ∃ k, ∃ hk : k < l.length, idxOf p l = (k : Int) ∧ p l[k] = true ∧ (l.take k).filter (fun x => !p x) = l.take k := by
  have hl : l.findIdx p < l.length := List.findIdx_lt_length_of_exists (List.any_eq_true.1 h)
  refine ⟨l.findIdx p, hl, by unfold idxOf; rw [if_pos h], List.findIdx_getElem (w := hl), ?_⟩
  rw [List.filter_eq_self]
  intro x hx
  obtain ⟨j, hj, rfl⟩ := List.getElem_of_mem hx
  rw [List.length_take] at hj
  rw [List.getElem_take]
  have := List.not_of_lt_findIdx (p := p) (xs := l) (i := j) (by omega)
  simpa using this
/-- The row as it is worked on: the first i elements are those that stay of the first j; from j on it is as it was. -/
structure Worked (p : E → Bool) (l : List E) (i j : Nat) (r : List E) : Prop where
  len : r.length = l.length
  lt : i < j
  le : j ≤ l.length
  low : r.take i = (l.take j).filter (fun x => !p x)
  high : r.drop j = l.drop j
theorem Worked.ilen {p : E → Bool} {l r : List E} {i j : Nat} (h : Worked p l i j r) : ((l.take j).filter (fun x => !p x)).length = i := by
  rw [← h.low, List.length_take]; have := h.lt; have := h.le; have := h.len; omega
theorem Worked.at {p : E → Bool} {l r : List E} {i j : Nat} (h : Worked p l i j r) (hj : j < l.length) (hr : j < r.length) : r[j] = l[j] := by
  have := congrArg (fun x => x[0]?) h.high
  simp [hj, hr] at this
  exact this
theorem Worked.keep {p : E → Bool} {l r : List E} {i j : Nat} (h : Worked p l i j r) (hj : j < l.length) (hp : p l[j] = false) : Worked p l (i + 1) (j + 1) (r.set i l[j]) := by
  have h1 := h.lt
  have h2 := h.len
  refine ⟨by rw [List.length_set]; exact h.len, by omega, by omega, ?_, ?_⟩
  · rw [filt_keep p l j hj hp, ← h.low, List.take_succ_eq_append_getElem (by rw [List.length_set]; omega)]
    simp only [List.getElem_set_self]
    congr 1
    exact List.take_set_of_le (by omega)
  · rw [List.drop_set_of_lt (by omega)]
    have := congrArg (List.drop 1) h.high
    simpa [List.drop_drop] using this
theorem Worked.skip {p : E → Bool} {l r : List E} {i j : Nat} (h : Worked p l i j r) (hj : j < l.length) (hp : p l[j] = true) : Worked p l i (j + 1) r := by
  have h1 := h.lt
  refine ⟨h.len, by omega, by omega, by rw [filt_drop p l j hj hp]; exact h.low, ?_⟩
  have := congrArg (List.drop 1) h.high
  simpa [List.drop_drop] using this
theorem Worked.done {p : E → Bool} {l r : List E} {i : Nat} (h : Worked p l i l.length r) : r.take i = l.filter (fun x => !p x) := by
  have := h.low
  rwa [List.take_length] at this

theorem gthen {w w1 w2 : World} {row : Option Nat} (h : w.grownBy w1 row) (k : w1.grownBy w2 row) : w.grownBy w2 row :=
  ⟨k.os.trans h.os, k.tape.trans h.tape, k.output.trans h.output, Nat.le_trans h.size k.size, fun i hi hr => (k.block i (Nat.lt_of_lt_of_le hi h.size) hr).trans (h.block i hi hr)⟩
set_option maxHeartbeats 4000000 in
set_option maxRecDepth 100000 in
theorem delete_calls (p : E → Bool) (g : FuncId) (lb : Array Value) (eg : ∀ args w, (callFunc g args).run Try.prog w = .ok (.enter g args) w) (B : Nat) (w0 W : World) (hp : Pred g lb p B w0) (hB : Below B w0 W) (hs : B ≤ W.heap.size) (gb cap : Nat) (l : List E) (hl : ∀ x ∈ l, okw x = true) (ok : Nat → Prop)
    (hR : k42.R 42 W B ok (.slice (some ⟨gb, 0, none⟩) l.length cap) l) :
    Calls Try.prog 50 #[.slice (some ⟨gb, 0, none⟩) l.length cap, .func (.func g) #[] lb] W fun e w' => e = .returned (.slice (some ⟨gb, 0, none⟩) (l.filter fun x => !p x).length cap) ∧ k42.R 42 w' B ok (.slice (some ⟨gb, 0, none⟩) (l.filter fun x => !p x).length cap) (l.filter fun x => !p x) ∧ Below B W w' ∧ W.grownBy w' (some gb) := by
  obtain ⟨_, hcap, hC⟩ := Kd.R_reads' hR
  have hlen : l.length ≤ 9223372036854775807 := hC.2.1
  have hidx := idx_calls p g lb eg B w0 W hp hB hs (some ⟨gb, 0, none⟩) cap l hl hC
  have hu := Try.underlying42
  have hu2 := Try.underlying22
  by_cases ha : l.any p = true
  · obtain ⟨k0, hk0, hi0, hp0, hf0⟩ := idx_spec p l ha
    rw [hi0] at hidx
    have hne1 : ((k0 : Int) == -1) = false := beq_eq_false_iff_ne.2 (by omega)
    have W0 : Hid (Worked p l k0 (k0 + 1) l) := Lib.hid ⟨rfl, by omega, by omega, by rw [filt_drop p l k0 hk0 hp0, hf0], rfl⟩
    have HL := Lib.hid hl
    have HR := Lib.hid hR
    have HP := Lib.hid hp
    have HB := Lib.hid hB
    have HF : Hid (∀ i r, Worked p l i l.length r → r.take i = l.filter (fun x => !p x)) := Lib.hid (fun i r h => h.done)
    clear hl hR hp hB hp0 hf0 hi0 ha hC
    generalize hn : l.length = n at *
    have HN := Lib.hid hn
    clear hn
    generalize l.filter (fun x => !p x) = fl at *
    go_enter Try.func50, Try.ntmps50
    go_wp2_with (go_at_call 48; refine hidx.mono ?_; rintro e w1 ⟨rfl, b1⟩)
    go_loopg [5, 6, 7] n (fun gg s5 s6 _ wr => ∃ (i j : Nat) (r : List E), s5 = .int .i64 i ∧ s6 = .int .i64 j ∧ n - j ≤ gg ∧ j ≤ n ∧ i < j ∧ Hid (Worked p l i j r) ∧ Hid (k42.R 42 wr B ok (.slice (some ⟨gb, 0, none⟩) n cap) r) ∧ Hid (Below B W wr) ∧ Hid (W.grownBy wr (some gb)))
    case atStart => exact ⟨k0, k0 + 1, l, rfl, by go_num, by omega, by omega, by omega, W0, Lib.hid (Kd.R_below HR.out b1), Lib.hid ⟨b1.os, b1.tape, b1.output, b1.size, fun k hk => b1.block k (by omega)⟩, Lib.hid ⟨b1.os, b1.tape, b1.output, b1.size, fun k hk _ => b1.block k hk⟩⟩
    case round =>
      obtain ⟨i, j, r, rfl, rfl, hg, hjn, hij, WK, RR, BW, GW⟩ := hrel
      have hcr := (Kd.R_reads' RR.out).2.2
      have hrl : r.length = n := by rw [WK.out.len]; exact HN.out
      rw [hrl] at hcr
      by_cases hlt : j < n
      · have hltz : (j : Int) < (n : Int) := by omega
        obtain ⟨ad, e, c0, c1, c2⟩ := at_T42 hcr (j : Int) (by omega) (by omega)
        injection e with e
        subst e
        have hjl : j < l.length := by rw [HN.out]; exact hlt
        rw [rd_get r j (by omega), WK.out.at hjl (by omega)] at c0 c1 c2
        have hx := HL.out _ (List.getElem_mem hjl)
        have hgr : B ≤ wr.heap.size := Nat.le_trans hs BW.out.size
        have hcall := fun W' (h : Below wr.heap.size wr W') => HP.out l[j] W' hx ((HB.out.trans BW.out).trans ⟨h.os, h.tape, h.output, h.size, fun k hk => h.block k (by omega)⟩) (Nat.le_trans hgr h.size)
        have KP : Hid (p l[j] = false → Worked p l (i + 1) (j + 1) (r.set i l[j])) := Lib.hid (fun h => WK.out.keep hjl h)
        have SK : Hid (p l[j] = true → Worked p l i (j + 1) r) := Lib.hid (fun h => WK.out.skip hjl h)
        generalize hy : l[j] = y at c0 c1 c2 hcall KP SK hx
        clear hy
        simp only [Int.toNat_natCast, Addr.add_lit, Nat.zero_add] at c0 c1 c2
        unfold encE at hcall
        clear hcr
        have HLR := Lib.hid hrl
        clear hrl
        cases hq : p y with
        | true =>
          rw [hq] at hcall
          have HQ := Lib.hid hq
          clear hq
          go_wp2_with (go_at_fn g; refine (hcall _ (below_alloc (Below.refl _ _) _)).mono ?_; rintro e w' ⟨rfl, hb'⟩)
          have hba := below_then (below_alloc (Below.refl _ wr) _) (Below.size (below_alloc (Below.refl _ wr) _)) hb'
          go_roundg (n - (j + 1))
          case measure => omega
          case rel => exact ⟨i, j + 1, r, rfl, by go_num, by omega, by omega, by omega, Lib.hid (SK.out HQ.out), Lib.hid (Kd.R_below RR.out hba), Lib.hid (BW.out.trans ⟨hba.os, hba.tape, hba.output, hba.size, fun k hk => hba.block k (by omega)⟩), Lib.hid (gthen GW.out ⟨hba.os, hba.tape, hba.output, hba.size, fun k hk _ => hba.block k hk⟩)⟩
        | false =>
          rw [hq] at hcall
          have HQ := Lib.hid hq
          clear hq
          have hiz : (i : Int) < (n : Int) := by omega
          go_wp2_with (first | (go_at_fn g; refine (hcall _ (below_alloc (Below.refl _ _) _)).mono ?_; rintro e w' ⟨rfl, hb'⟩; have hba := below_then (below_alloc (Below.refl _ wr) _) (Below.size (below_alloc (Below.refl _ wr) _)) hb'; have q0 := (blk_cell (blk_below (blk_new wr (boxE y)) hb') 0).trans rfl; have q1 := (blk_cell (blk_below (blk_new wr (boxE y)) hb') 1).trans rfl; have q2 := (blk_cell (blk_below (blk_new wr (boxE y)) hb') 2).trans rfl; clear hb') | ((with_reducible refine gate_store (p := 33) rfl ?_); refine Hid.out (p := _) ?_))
          refine Lib.hid ?_
          refine Kd.R_store k42 (w0 := W) B rfl rfl 42 _ _ rfl 42 (g := gb) (n := n) (cap := cap) (i : Int) 0 r y (.agg #[.int .i64 y.f0, .int .i64 y.f1, .int .u64 y.f2]) (cellsE y) (cellsE (rd_T42 r i)) ok (fun _ => False) rfl ?sa rfl rfl infoT (fun q hq => ?sb) ?sc (by omega) hiz rfl ?sd (Nat.le_refl 3) (k42_mkM _ _ _ _) (fun k hk => hk.elim) ?se ?sf
          case sb => exact flatE_one [y] q (by simpa [flatE] using hq)
          case sc => exact Kd.R_below RR.out hba
          case sd =>
            have hc2 := (Kd.R_reads' (Kd.R_below RR.out hba)).2.2
            rw [HLR.out] at hc2
            obtain ⟨ad, e, d0, d1, d2⟩ := at_T42 hc2 (i : Int) (by omega) hiz
            injection e with e
            subst e
            simp only [Addr.add_lit, Nat.zero_add] at d0 d1 d2
            intro q u hq
            match q, hq with
            | 0, hq => injection hq with hq; subst hq; exact d0
            | 1, hq => injection hq with hq; subst hq; exact d1
            | 2, hq => injection hq with hq; subst hq; exact d2
            | q + 3, hq => simp [cellsE] at hq
          case se => exact BW.out.trans ⟨hba.os, hba.tape, hba.output, hba.size, fun k hk => hba.block k (by omega)⟩
          case sa => show i * 3 = (i : Int).toNat * 3 + 0; simp
          intro w2 hR2 hB2 hG2
          go_wp2
          go_roundg (n - (j + 1))
          case measure => omega
          case rel => exact ⟨i + 1, j + 1, r.set i y, by go_num, by go_num, by omega, by omega, by omega, Lib.hid (KP.out HQ.out), Lib.hid hR2, Lib.hid hB2, Lib.hid (gthen (gthen GW.out ⟨hba.os, hba.tape, hba.output, hba.size, fun k hk _ => hba.block k hk⟩) hG2)⟩
      · have hjn2 : j = n := by omega
        subst hjn2
        have hltz : ¬ (j : Int) < (j : Int) := by omega
        obtain ⟨vs, hvl, hcl⟩ := clear_run RR.out hij (cap - i) 0
        obtain ⟨i0, hi0, hs0⟩ := Option.map_eq_some_iff.1 infoT
        have hsl : ∀ W, (Instr.slice 22 (.slice (some ⟨gb, 0, none⟩) j cap) (some (.int .i64 i)) none none).run Try.prog W = .ok (.slice (some ⟨gb, i * 3, none⟩) (j - i) (cap - i)) W := by
          intro W'
          have := cut_from (P := Try.prog) 22 42 .i64 hu2 hi0 3 hs0 (some ⟨gb, 0, none⟩) j cap (i : Int) (by omega) (by omega) W'
          rw [Int.toNat_natCast, if_neg (by omega), Option.map_some, Addr.add_lit, Nat.zero_add] at this
          exact this
        have hsl2 := cut_to (P := Try.prog) 22 42 .i64 hu2 hi0 (some ⟨gb, 0, none⟩) j cap (i : Int) (by omega) (by omega) hcap
        simp only [Int.toNat_natCast] at hsl2
        obtain ⟨rs, gs⟩ := R_struck RR.out (Nat.le_of_lt hij) vs (by rw [hvl]; omega)
        have hfl := HF.out i r WK.out
        rw [hfl] at rs
        have hfi : fl.length = i := by rw [← hfl, List.length_take]; have := WK.out.len; have := HN.out; omega
        have HGS := Lib.hid gs
        have HRS := Lib.hid rs
        have HFI := Lib.hid hfi
        clear hcr hi0 hs0 gs rs hfl hfi hlt hvl
        generalize hw2 : wr.setCells gb (i * 3) vs = w2 at *
        clear hw2
        go_wp2
        go_ret
        rw [HFI.out]
        exact ⟨rfl, HRS.out, Below.grown BW.out HGS.out (Nat.le_trans hs BW.out.size) (fun k hk => by injection hk with hk; subst hk; exact Kd.R_base HR.out _ (by simp [Value.ownBlock])), gthen GW.out HGS.out⟩
  · have ha' : l.any p = false := by simpa using ha
    have hi0 : idxOf p l = -1 := by unfold idxOf; rw [if_neg ha]
    rw [hi0] at hidx
    rw [filt_all p l ha']
    have HR := Lib.hid hR
    clear hl hR hp hB ha' ha hi0 hC
    generalize hn : l.length = n at *
    have HN := Lib.hid hn
    clear hn
    go_enter Try.func50, Try.ntmps50
    go_wp2_with (go_at_call 48; refine hidx.mono ?_; rintro e w1 ⟨rfl, b1⟩)
    go_ret
    exact ⟨rfl, Kd.R_below HR.out b1, ⟨b1.os, b1.tape, b1.output, b1.size, fun k hk => b1.block k (by omega)⟩, ⟨b1.os, b1.tape, b1.output, b1.size, fun k hk _ => b1.block k hk⟩⟩
theorem delete_nil (p : E → Bool) (g : FuncId) (lb : Array Value) (eg : ∀ args w, (callFunc g args).run Try.prog w = .ok (.enter g args) w) (B : Nat) (w0 W : World) (hp : Pred g lb p B w0) (hB : Below B w0 W) (hs : B ≤ W.heap.size) :
    Calls Try.prog 50 #[.slice none 0 0, .func (.func g) #[] lb] W fun e w' => e = .returned (.slice none 0 0) ∧ Below W.heap.size W w' := by
  have hidx := idx_calls p g lb eg B w0 W hp hB hs none 0 [] (by simp) ⟨rfl, by simp, fun h => absurd h (Nat.not_lt_zero _)⟩
  have hi0 : idxOf p [] = -1 := rfl
  rw [hi0] at hidx
  clear hp hB hs hi0
  go_enter Try.func50, Try.ntmps50
  go_wp2_with (go_at_call 48; refine hidx.mono ?_; rintro e w1 ⟨rfl, b1⟩)
  go_ret
  exact ⟨rfl, b1⟩
end Go.Proofs.Ytkbnhphcmlljgaa.Hand
