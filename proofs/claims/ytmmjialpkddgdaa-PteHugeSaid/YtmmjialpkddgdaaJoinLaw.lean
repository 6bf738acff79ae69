/- The laws PteJoins and PteHuge, walked. -/
import Derived.Test.YtmmjialpkddgdaaHandRJoin
import Derived.Test.YtmmjialpkddgdaaBitsLaw
import Derived.Test.YtmmjialpkddgdaaOpens
set_option linter.unusedVariables false
set_option linter.unusedSimpArgs false
namespace Go.Proofs.Ytmmjialpkddgdaa.Opens
open Go Go.ChangeShapes Go.WideShapes Go.RowKit Go.Deep Go.Proofs.YtmmjialpkddgdaaW.PrintWords Go.Proofs.Ytmmjialpkddgdaa.HandJoin
theorem okWide_arr {P : Program} {W : World} {base : Nat} {t e : TypeId} {n : Nat} {v : Value} (ht : P.underlying t = some (.array n e)) (h : Value.okWide P W .any base t v) : ∃ cs, v = .agg cs ∧ cs.size = P.cellsOf t := by
  simp only [Value.okWide, ht] at h
  obtain ⟨cs, h1, h2, _⟩ := h
  exact ⟨cs, h1, h2⟩
theorem cells_nums {k : IntKind} {w : World} : ∀ {xs : List Int} {cs : List Value}, Cells (Kd.int k) w xs cs → cs = xs.map (Value.int k)
  | [], cs, h => h
  | x :: xs, cs, ⟨c0, c1, e, k0, h⟩ => by
    have := cells_nums h
    rw [e, this, k0]
    rfl
theorem open_eight {H : Type} {enc : TypeId × Value → H} {W : World} {base b0 : Nat} {spare : Nat → Bool} {held : Bool} {v : Value} {d : DataW H} {p : List MemPlace} (hv : Value.okWide Try.prog W .any b0 39 v) (h : DataW.Trod enc Try.prog W base spare held 39 v d p) :
    ∃ x : Nat → Int, v = .agg (XX x) ∧ ∀ j, 0 ≤ x j ∧ x j < 18446744073709551616 := by
  obtain ⟨cs, rfl, _⟩ := okWide_arr Try.underlying39 hv
  obtain ⟨fuel, hf⟩ := h
  obtain ⟨xs, hl, hc, hw⟩ := open_array Try.underlying39 (by kernel_rfl) (opens_int Try.underlying24 (by kernel_rfl)) enc W base spare held fuel _ _ hf
  refine ⟨fun j => xs.getD j 0, ?_, fun j => ?_⟩
  · have e := cells_nums hc
    match xs, hl with
    | [a0, a1, a2, a3, a4, a5, a6, a7], _ =>
      obtain ⟨l⟩ := cs
      have e' : l = _ := e
      rw [e']
      rfl
  · show 0 ≤ xs.getD j 0 ∧ xs.getD j 0 < 18446744073709551616
    rcases Nat.lt_or_ge j xs.length with hj | hj
    · have hwf := hw _ (List.getElem_mem hj)
      have e0 : xs.getD j 0 = xs[j] := by simp [List.getD, List.getElem?_eq_getElem hj]
      rw [e0]
      simp [Lit.wf, IntKind.min, IntKind.max, IntKind.signed, IntKind.bits] at hwf
      omega
    · have e0 : xs.getD j 0 = 0 := by simp [List.getD, List.getElem?_eq_none hj]
      rw [e0]
      decide
end Go.Proofs.Ytmmjialpkddgdaa.Opens
namespace Go.Proofs.Ytmmjialpkddgdaa.HandJoin
open Go.RowKit Go.Proofs.Ytmmjialpkddgdaa.PteCalls Go.Proofs.YtmmjialpkddgdaaW.PrintWords Go.Proofs.YtmmjialpkddgdaaW.PrintLast Go.Proofs.Ytmmjialpkddgdaa.Pte

theorem dec_num (x : Int) : 0 ≤ (dec x).2.1 ∧ (dec x).2.1 ≤ 4294967296 := by
  rcases dec_cases x with ⟨kd, n, w, a, d, h, g, hx, e⟩ | e
  · have := big_of _ _ _ g.2.2.1
    rw [e]
    exact ⟨this.1, by have := this.2.1; show n ≤ _; omega⟩
  · rw [e]; decide
theorem join_calls (x : Nat → Int) (hx : ∀ j, 0 ≤ x j ∧ x j < 18446744073709551616) (W : World) : Calls Try.prog 25 #[.agg (XX x)] W fun e w' => e = .returned (.tuple #[.int .u64 (joinP (fun j => dec (x j))).1, .int .i64 (joinP (fun j => dec (x j))).2]) ∧ Below W.heap.size W w' :=
  join_walk x _ (fun j => dec_num _) (fun n w a d W => encode_calls 1 n w a d true W) (fun j W _ => decode_calls (x j) (hx j).1 (hx j).2 W) W
theorem rjoin_calls (x : Nat → Int) (hx : ∀ j, 0 ≤ x j ∧ x j < 18446744073709551616) (W : World) : Calls Try.prog 26 #[.agg (XX x)] W fun e w' => e = .returned (.tuple #[.int .u64 (joinP (fun j => dec (x j))).1, .int .i64 (joinP (fun j => dec (x j))).2]) ∧ Below W.heap.size W w' :=
  rjoin_walk x _ (fun j => dec_num _) (fun n w a d W => rencode_calls 1 n w a d true W) (fun j W _ => rdecode_calls (x j) (hx j).1 (hx j).2 W) W

set_option maxHeartbeats 2000000 in
set_option maxRecDepth 100000 in
theorem joins_law (x : Nat → Int) (hx : ∀ j, 0 ≤ x j ∧ x j < 18446744073709551616) (W : World) : Calls Try.prog 10 #[.agg (XX x)] W fun e w' => e = .returned (.bool true) ∧ Below W.heap.size W w' := by
  have hu3 := Try.underlying39
  have HJ := Lib.hid (join_calls x hx)
  have HR := Lib.hid (rjoin_calls x hx)
  generalize joinP (fun j => dec (x j)) = r at *
  obtain ⟨r1, r2⟩ := r
  have H1 := Lib.hid (blk_new W (.cells (XX x) 39 (0, 0)))
  clear hx
  have infoX : (Try.prog.info? 39).map (·.size) = some 8 := by kernel_rfl
  have HI := Lib.hid infoX
  clear infoX
  unfold XX at *
  go_enter Try.func10, Try.ntmps10
  go_upto_region 1 with fail
  refine absw (fun w' => w'.heap[W.heap.size]? = some (.cells (XX x) 39 (0, 0)) ∧ Below W.heap.size W w') ⟨H1.out, below_alloc (Below.refl _ _) _⟩ ?_
  clear H1
  rintro w1 ⟨h1, d1⟩
  have H1 := Lib.hid h1
  have D1 := Lib.hid d1
  clear h1 d1
  go_upto_region 2 with (first | ((with_reducible refine gate_load (p := 1) rfl ?_); refine wpList_load_row rfl 39 _ rfl W.heap.size rfl 39 _ (0, 0) _ H1.out hu3 rfl HI.out ?_; unfold XX) | (go_at_call 25; refine (HJ.out _).mono ?_; rintro e w2 ⟨rfl, b2⟩; have J1 := Lib.hid (blk_below H1.out b2); have D2 := Lib.hid (bth b2 D1.out); clear b2))
  go_wp2_with (first | ((with_reducible refine gate_load (p := 1) rfl ?_); refine wpList_load_row rfl 39 _ rfl W.heap.size rfl 39 _ (0, 0) _ J1.out hu3 rfl HI.out ?_; unfold XX) | (go_at_call 26; refine (HR.out _).mono ?_; rintro e w3 ⟨rfl, b3⟩; have D3 := Lib.hid (bth b3 D2.out); clear b3) | (go_at_call 14; refine (awake_calls _).mono ?_; rintro e w4 ⟨rfl, b4⟩; have D4 := Lib.hid (bth b4 D3.out); clear b4))
  go_ret
  exact ⟨rfl, D4.out⟩
end Go.Proofs.Ytmmjialpkddgdaa.HandJoin
