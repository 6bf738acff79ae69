/- pte.Join, walked: it answers the plain joinP of the eight decoded words. -/
import Derived.Test.YtmmjialpkddgdaaPteCalls
import Derived.Test.YtmmjialpkddgdaaJoinP
import Derived.Deep.MidRow
set_option linter.unusedVariables false
set_option linter.unusedSimpArgs false
namespace Go.Proofs.Ytmmjialpkddgdaa.HandJoin
open Go.RowKit Go.Proofs.Ytmmjialpkddgdaa.PteCalls Go.Proofs.YtmmjialpkddgdaaW.PrintWords Go.Proofs.YtmmjialpkddgdaaW.PrintLast Go.Proofs.Ytmmjialpkddgdaa.Pte

theorem absw {P : Program} {c : Code} {Q : Exit → Act → World → Prop} {a : Act} {w : World} (R : World → Prop) (h : R w) (k : ∀ w', R w' → Code.wp P c Q a w') : Code.wp P c Q a w := k w h
theorem abswl {P : Program} {ops : Array Oper} {rest : List Oper} {a : Act} {Q : Exit → Act → World → Prop} {w : World} (R : World → Prop) (h : R w) (k : ∀ w', R w' → wpList P ops Q rest a w') : wpList P ops Q rest a w := k w h
theorem bthen {B : Nat} {W W1 w2 : World} (k : Below W1.heap.size W1 w2) (h : Below B W W1) (hs : B ≤ W1.heap.size) : Below B W w2 :=
  h.trans ⟨k.os, k.tape, k.output, k.size, fun i hi => k.block i (by omega)⟩
theorem bth {W W1 w2 : World} (k : Below W1.heap.size W1 w2) (h : Below W.heap.size W W1) : Below W.heap.size W w2 := bthen k h h.size
/-- The cells of an entry; of the array. -/
def cellsD (t : Dec) : List Value := [.int .i64 t.1, .int .i64 t.2.1, .bool t.2.2.1, .bool t.2.2.2.1, .bool t.2.2.2.2.1, .bool t.2.2.2.2.2.1]
def zeroDec : Dec := (0, 0, false, false, false, false, 0)
def EA (D : Nat → Dec) : Array Value := (cellsD (D 0) ++ cellsD (D 1) ++ cellsD (D 2) ++ cellsD (D 3) ++ cellsD (D 4) ++ cellsD (D 5) ++ cellsD (D 6) ++ cellsD (D 7)).toArray
def upTo (D : Nat → Dec) (kk : Nat) (j : Nat) : Dec := if j < kk then D j else zeroDec
def XX (x : Nat → Int) : Array Value := #[.int .u64 (x 0), .int .u64 (x 1), .int .u64 (x 2), .int .u64 (x 3), .int .u64 (x 4), .int .u64 (x 5), .int .u64 (x 6), .int .u64 (x 7)]
theorem k8 {k : Nat} (h : k < 8) : k = 0 ∨ k = 1 ∨ k = 2 ∨ k = 3 ∨ k = 4 ∨ k = 5 ∨ k = 6 ∨ k = 7 := by omega
theorem xx_at (x : Nat → Int) (k : Nat) (h : k < 8) : (XX x)[k]? = some (.int .u64 (x k)) := by
  rcases k8 h with rfl | rfl | rfl | rfl | rfl | rfl | rfl | rfl <;> rfl
theorem ea_size (D : Nat → Dec) : (EA D).size = 48 := rfl
theorem there_of {w : World} {g : Nat} {cs : Array Value} {t : TypeId} (h : w.heap[g]? = some (.cells cs t (0, 0))) (o n : Nat) (hn : o + n ≤ cs.size) : w.there g o n := fun i hi => by
  refine ⟨?_, blk_frozen h _⟩
  rw [blk_cell h]
  simp only [Array.getElem?_eq_some_iff, Option.isSome_iff_exists]
  exact ⟨cs[o + i]'(by omega), by omega, rfl⟩
theorem set_six {w : World} {g : Nat} {cs cs' : Array Value} {t : TypeId} (h : w.heap[g]? = some (.cells cs t (0, 0))) (o : Nat) (d : Dec)
    (e : (((((cs.setIfInBounds o (.int .i64 d.1)).setIfInBounds (o + 1) (.int .i64 d.2.1)).setIfInBounds (o + 1 + 1) (.bool d.2.2.1)).setIfInBounds (o + 1 + 1 + 1) (.bool d.2.2.2.1)).setIfInBounds (o + 1 + 1 + 1 + 1) (.bool d.2.2.2.2.1)).setIfInBounds (o + 1 + 1 + 1 + 1 + 1) (.bool d.2.2.2.2.2.1) = cs') :
    (w.setCells g o (cellsD d)).heap[g]? = some (.cells cs' t (0, 0)) := by
  subst e
  exact blk_set (blk_set (blk_set (blk_set (blk_set (blk_set h _ _) _ _) _ _) _ _) _ _) _ _
theorem ea_set (D : Nat → Dec) (k : Nat) (h : k < 8) : ((((((EA (upTo D k)).setIfInBounds (k * 6) (.int .i64 (D k).1)).setIfInBounds (k * 6 + 1) (.int .i64 (D k).2.1)).setIfInBounds (k * 6 + 1 + 1) (.bool (D k).2.2.1)).setIfInBounds (k * 6 + 1 + 1 + 1) (.bool (D k).2.2.2.1)).setIfInBounds (k * 6 + 1 + 1 + 1 + 1) (.bool (D k).2.2.2.2.1)).setIfInBounds (k * 6 + 1 + 1 + 1 + 1 + 1) (.bool (D k).2.2.2.2.2.1) = EA (upTo D (k + 1)) := by
  rcases k8 h with rfl | rfl | rfl | rfl | rfl | rfl | rfl | rfl <;> simp [EA, upTo, cellsD, zeroDec]
theorem far_six {w : World} {g g' o : Nat} {cs : Array Value} {t : TypeId} {vs : List Value} (h : w.heap[g]? = some (.cells cs t (0, 0))) (hne : g ≠ g') : (w.setCells g' o vs).heap[g]? = some (.cells cs t (0, 0)) := by
  induction vs generalizing o w with
  | nil => exact h
  | cons v r ih => exact ih (blk_far (p := ⟨g', o, none⟩) h hne v)
theorem bel_six {W w : World} {g o : Nat} {vs : List Value} (h : Below W.heap.size W w) (hg : W.heap.size ≤ g) : Below W.heap.size W (w.setCells g o vs) := by
  induction vs generalizing o w with
  | nil => exact h
  | cons v r ih => exact ih (h.setCell (p := ⟨g, o, none⟩) hg v)
theorem infoE : (Try.prog.info? 23).map (·.size) = some 6 := by kernel_rfl
theorem infoA : (Try.prog.info? 44).map (·.size) = some 48 := by kernel_rfl
theorem oneD (t : Dec) : ((cellsD t).toArray : Array Value).all (·.oneCell') = true := by simp [cellsD, Value.oneCell']
/-- An element of the array, taken out of its value. -/
theorem ea_index (D : Nat → Dec) (k : Nat) (h : k < 8) : ∀ w, (Instr.index 44 (.agg (EA D)) (.int .i64 (k : Int))).run Try.prog w = .ok (.agg (cellsD (D k)).toArray) w := by
  intro w
  rcases k8 h with rfl | rfl | rfl | rfl | rfl | rfl | rfl | rfl <;> rfl


theorem join_err {D : Nat → Dec} {z : Int} (h : errFrom D 0 8 = z) (hz : z ≠ 0) : joinP D = (0, z) := by
  unfold joinP
  rw [h, if_pos hz]
theorem join_kind {D : Nat → Dec} (h : errFrom D 0 8 = 0) (h1 : anyFrom (badKind D) 0 8 = true) : joinP D = (0, 11) := by
  unfold joinP
  rw [if_neg (by simp [h]), if_pos h1]
theorem join_number {D : Nat → Dec} (h : errFrom D 0 8 = 0) (h1 : anyFrom (badKind D) 0 8 = false) (h2 : anyFrom (badNumber D) 0 8 = true) : joinP D = (0, 10) := by
  unfold joinP
  rw [if_neg (by simp [h]), if_neg (by simp [h1]), if_pos h2]
theorem join_write {D : Nat → Dec} (h : errFrom D 0 8 = 0) (h1 : anyFrom (badKind D) 0 8 = false) (h2 : anyFrom (badNumber D) 0 8 = false) (h3 : anyFrom (badWrite D) 0 8 = true) : joinP D = (0, 12) := by
  unfold joinP
  rw [if_neg (by simp [h]), if_neg (by simp [h1]), if_neg (by simp [h2]), if_pos h3]
theorem join_ok {D : Nat → Dec} {a d : Bool} (h : errFrom D 0 8 = 0) (h1 : anyFrom (badKind D) 0 8 = false) (h2 : anyFrom (badNumber D) 0 8 = false) (h3 : anyFrom (badWrite D) 0 8 = false)
    (ha : anyFrom (fun j => (D j).2.2.2.1) 0 8 = a) (hd : anyFrom (fun j => (D j).2.2.2.2.1) 0 8 = d) : joinP D = enc 1 (D 0).2.1 (D 0).2.2.1 a d true := by
  unfold joinP
  rw [if_neg (by simp [h]), if_neg (by simp [h1]), if_neg (by simp [h2]), if_neg (by simp [h3]), ha, hd]
theorem kind_zero {D : Nat → Dec} (h1 : anyFrom (badKind D) 0 8 = false) : (D 0).1 = 1 := by
  simp [anyFrom, badKind] at h1
  exact h1.1.1
theorem gate_load {P : Program} {ops : Array Oper} {rest : List Oper} {o : Oper} {a : Act} {Q : Exit → Act → World → Prop} {W : World} {t : TypeId} {p : Tmp} (_ho : o.op = .load t (.tmp p)) (h : wpList P ops Q (o :: rest) a W) : wpList P ops Q (o :: rest) a W := h
theorem ea_zero (D : Nat → Dec) : EA (upTo D 0) = EA (fun _ => zeroDec) := by simp [EA, upTo]
theorem ea_full (D : Nat → Dec) : EA (upTo D 8) = EA D := by simp [EA, upTo]
set_option maxHeartbeats 4000000 in
set_option maxRecDepth 100000 in
theorem join_walk (x : Nat → Int) (D : Nat → Dec) (hnum : ∀ j, 0 ≤ (D j).2.1 ∧ (D j).2.1 ≤ 4294967296) (henc : ∀ n (w a d : Bool) W, Calls Try.prog 12 #[.agg #[.int .i64 1, .int .i64 n, .bool w, .bool a, .bool d, .bool true]] W fun e W' => e = .returned (.tuple #[.int .u64 (enc 1 n w a d true).1, .int .i64 (enc 1 n w a d true).2]) ∧ Below W.heap.size W W') (hd : ∀ j W, j < 8 → Calls Try.prog 15 #[.int .u64 (x j)] W fun e W' => e = .returned (decV (D j)) ∧ Below W.heap.size W W') (W : World) :
    Calls Try.prog 25 #[.agg (XX x)] W fun e w' => e = .returned (.tuple #[.int .u64 (joinP D).1, .int .i64 (joinP D).2]) ∧ Below W.heap.size W w' := by
  have hu := Try.underlying23
  have hu2 := Try.underlying44
  have hu3 := Try.underlying39
  obtain ⟨EE, hEE⟩ : ∃ y, y = errFrom D 0 8 := ⟨_, rfl⟩
  have HEE := Lib.hid hEE
  clear hEE
  have HNUM := Lib.hid hnum
  have HENC := Lib.hid henc
  clear hnum henc
  unfold XX
  go_enter Try.func25, Try.ntmps25
  go_wp2_with fail
  have h1 := blk_alloc (blk_new W (.cells (XX x) 39 (0, 0))) (.cells (EA (upTo D 0)) 44 (0, 0))
  have h4 := blk_new (W.alloc (.cells (XX x) 39 (0, 0))) (.cells (EA (upTo D 0)) 44 (0, 0))
  have h4' : ((W.alloc (.cells (XX x) 39 (0, 0))).alloc (.cells (EA (upTo D 0)) 44 (0, 0))).heap[W.heap.size + 1]? = some (.cells (EA (upTo D 0)) 44 (0, 0)) := by simpa using h4
  have d0 : Below W.heap.size W ((W.alloc (.cells (XX x) 39 (0, 0))).alloc (.cells (EA (upTo D 0)) 44 (0, 0))) := below_alloc (below_alloc (Below.refl _ _) _) _
  refine absw (fun w' => w'.heap[W.heap.size]? = some (.cells (XX x) 39 (0, 0)) ∧ w'.heap[W.heap.size + 1]? = some (.cells (EA (upTo D 0)) 44 (0, 0)) ∧ Below W.heap.size W w') ⟨h1, h4', d0⟩ ?_
  clear h1 h4 h4' d0
  rintro w1 ⟨h1, h4, d1⟩
  obtain ⟨g1, hg1⟩ : ∃ g, g = W.heap.size := ⟨_, rfl⟩
  go_loopg [15] 8 (fun gg s15 wr => ∃ kk : Nat, kk ≤ 8 ∧ 8 - kk ≤ gg ∧ s15 = .int .i64 kk ∧ Hid (EE = errFrom D kk (8 - kk)) ∧ Hid (wr.heap[W.heap.size]? = some (.cells (XX x) 39 (0, 0))) ∧ Hid (wr.heap[W.heap.size + 1]? = some (.cells (EA (upTo D kk)) 44 (0, 0))) ∧ Hid (Below W.heap.size W wr))
  case atStart => exact ⟨0, by decide, by decide, rfl, HEE, Lib.hid h1, Lib.hid h4, Lib.hid d1⟩
  case round =>
    clear h1 h4 d1
    obtain ⟨kk, hk, hg, hs, ER, H1, H4, BW⟩ := hrel
    subst hs
    by_cases hlt : kk < 8
    · have hk0 : (0 : Int) ≤ (kk : Int) := Int.natCast_nonneg _
      have hk1 : (kk : Int) < 8 := by omega
      have x0 : wr.cell? ⟨W.heap.size, kk, none⟩ = some (.int .u64 (x kk)) := (blk_cell H1.out kk).trans (xx_at x kk hlt)
      go_wp2_with fail
      refine (hd kk _ hlt).mono ?_
      rintro e w2 ⟨rfl, b2⟩
      have j1 := blk_below H1.out b2
      have j4 := blk_below H4.out b2
      have d2 := bth b2 BW.out
      have ES := fun (he : (D kk).2.2.2.2.2.2 = 0) => (err_step D kk (8 - (kk + 1)) he)
      have EH := err_hit D kk (8 - (kk + 1))
      rw [show 8 - (kk + 1) + 1 = 8 - kk by omega] at ES EH
      have EAS := ea_set D kk hlt
      have HE8 := Lib.hid (congrArg (fun z => z) (ER.out))
      clear x0 H1 H4 BW b2 ER
      unfold decV
      generalize hdk : D kk = t at *
      obtain ⟨t0, t1, t2, t3, t4, t5, t6⟩ := t
      simp only at ES EH EAS ⊢
      have HDK := Lib.hid hdk
      have HES := Lib.hid ES
      have HEH := Lib.hid EH
      have HEAS := Lib.hid EAS
      clear hdk ES EH EAS
      have J1 := Lib.hid j1
      have J4 := Lib.hid j4
      have D2 := Lib.hid d2
      have HLT := Lib.hid hlt
      clear j1 j4 d2 hd
      by_cases he : t6 = 0
      · have he1 : (t6 != 0) = false := by simp [he]
        have HE := Lib.hid he
        clear he
        go_upto_region 8 with fail
        have B1 := blk_alloc J1.out (.cells #[.int .i64 t0, .int .i64 t1, .bool t2, .bool t3, .bool t4, .bool t5] 23 (0, 0))
        have B4 := blk_alloc J4.out (.cells #[.int .i64 t0, .int .i64 t1, .bool t2, .bool t3, .bool t4, .bool t5] 23 (0, 0))
        have B6 := blk_new w2 (.cells #[.int .i64 t0, .int .i64 t1, .bool t2, .bool t3, .bool t4, .bool t5] 23 (0, 0))
        have D3 := below_alloc D2.out (.cells #[.int .i64 t0, .int .i64 t1, .bool t2, .bool t3, .bool t4, .bool t5] 23 (0, 0))
        refine absw (fun w' => w'.heap[W.heap.size]? = some (.cells (XX x) 39 (0, 0)) ∧ w'.heap[W.heap.size + 1]? = some (.cells (EA (upTo D kk)) 44 (0, 0)) ∧ w'.heap[w2.heap.size]? = some (.cells #[.int .i64 t0, .int .i64 t1, .bool t2, .bool t3, .bool t4, .bool t5] 23 (0, 0)) ∧ Below W.heap.size W w') ⟨B1, B4, B6, D3⟩ ?_
        clear B1 B4 B6 D3 J1 J4 D2
        rintro w3 ⟨b1, b4, b6, d3⟩
        have HTH := Lib.hid (there_of b4 (kk * 6) 6 (by rw [ea_size]; omega))
        have J1 := Lib.hid b1
        have J4 := Lib.hid (set_six b4 (kk * 6) (t0, t1, t2, t3, t4, t5, t6) (cs' := EA (upTo D (kk + 1))) HEAS.out)
        have J6 := Lib.hid b6
        have D3 := Lib.hid d3
        clear b1 b4 b6 d3 
        go_wp2_with (first | ((with_reducible refine gate_load (p := 6) rfl ?_); refine wpList_load_row rfl 23 _ rfl w2.heap.size rfl 23 _ (0, 0) _ J6.out hu rfl infoE ?_) | ((with_reducible refine gate_store (p := 30) rfl ?_); refine wpList_store_mid rfl 23 _ _ rfl (W.heap.size + 1) (kk * 6) #[.int .i64 t0, .int .i64 t1, .bool t2, .bool t3, .bool t4, .bool t5] rfl rfl HTH.out infoE (by simp [Value.oneCell']) ?_; refine abswl (fun w' => w'.heap[W.heap.size]? = some (.cells (XX x) 39 (0, 0)) ∧ w'.heap[W.heap.size + 1]? = some (.cells (EA (upTo D (kk + 1))) 44 (0, 0)) ∧ Below W.heap.size W w') ⟨far_six J1.out (Nat.ne_of_lt (Nat.lt_succ_self _)), J4.out, bel_six D3.out (Nat.le_succ _)⟩ ?_; rintro w4 ⟨i1, i4, i2⟩; have I1 := Lib.hid i1; have I4 := Lib.hid i4; have I2 := Lib.hid i2; clear i1 i4 i2))
        go_roundg (8 - (kk + 1))
        case measure => have := HLT.out; have := hg; omega
        case rel => exact ⟨kk + 1, HLT.out, Nat.le_refl _, by go_num, Lib.hid (HE8.out.trans (HES.out HE.out)), I1, I4, I2⟩
      · have he1 : (t6 != 0) = true := by simp [he]
        have HE := Lib.hid he
        clear he
        go_wp2_with fail
        go_ret2
        have e1 := join_err (HEE.out.symm.trans (HE8.out.trans (HEH.out HE.out))) HE.out
        rw [e1]
        exact ⟨rfl, below_alloc D2.out _⟩
    · have e8 : kk = 8 := by omega
      subst e8
      have hE0 : errFrom D 0 8 = 0 := HEE.out.symm.trans ER.out
      have HE0 := Lib.hid hE0
      have H4' : Hid (wr.heap[W.heap.size + 1]? = some (.cells (EA D) 44 (0, 0))) := Lib.hid (by have := H4.out; rw [ea_full] at this; exact this)
      clear hlt hE0 H4 ER HEE hk hg H1
      obtain ⟨KK, hKK⟩ : ∃ y, y = anyFrom (badKind D) 0 8 := ⟨_, rfl⟩
      have HKK := Lib.hid hKK
      clear hKK
      go_wp2_with ((with_reducible refine gate_load (p := 4) rfl ?_); refine wpList_load_row rfl 44 _ rfl (W.heap.size + 1) rfl 44 _ (0, 0) _ H4'.out hu2 rfl infoA ?_)
      go_loopg [33] 8 (fun gg s33 wr => ∃ kk : Nat, kk ≤ 8 ∧ 8 - kk ≤ gg ∧ s33 = .int .i64 kk ∧ Hid (KK = anyFrom (badKind D) kk (8 - kk)) ∧ Hid (wr.heap[W.heap.size + 1]? = some (.cells (EA D) 44 (0, 0))) ∧ Hid (Below W.heap.size W wr))
      case atStart => exact ⟨0, by decide, by decide, rfl, HKK, H4', BW⟩
      case round =>
        clear H4' BW
        obtain ⟨kk, hk, hg, hs, ER, H4, BW⟩ := hrel
        subst hs
        by_cases hlt : kk < 8
        · have hk0 : (0 : Int) ≤ (kk : Int) := Int.natCast_nonneg _
          have hk1 : (kk : Int) < 8 := by omega
          have HIX := ea_index D kk hlt
          have HST := Lib.hid (fun (h : badKind D kk = false) => any_step (badKind D) kk (8 - (kk + 1)) h)
          have HHT := Lib.hid (fun (h : badKind D kk = true) => any_hit (badKind D) kk (8 - (kk + 1)) h)
          rw [show 8 - (kk + 1) + 1 = 8 - kk by omega] at HST HHT
          unfold badKind at HST HHT
          unfold cellsD at HIX
          have HLT := Lib.hid hlt
          have HG := Lib.hid hg
          clear hlt hg hk
          generalize hdk : D kk = t at *
          obtain ⟨t0, t1, t2, t3, t4, t5, t6⟩ := t
          simp only at HST HHT HIX
          have HDK := Lib.hid hdk
          clear hdk
          by_cases hk1' : t0 = 1
          · have hk2 : (t0 != 1) = false := by simp [hk1']
            have HK1 := Lib.hid hk1'
            clear hk1'
            cases t5 with
            | true =>
              go_wp2_with fail
              go_ret2
              rw [join_kind HE0.out (HKK.out.symm.trans (ER.out.trans (HHT.out (by simp))))]
              exact ⟨rfl, below_alloc BW.out _⟩
            | false =>
              go_wp2_with fail
              go_roundg (8 - (kk + 1))
              case measure => have := HLT.out; have := HG.out; omega
              case rel => exact ⟨kk + 1, HLT.out, Nat.le_refl _, by go_num, Lib.hid (ER.out.trans (HST.out (by simp [HK1.out]))), Lib.hid (blk_alloc H4.out _), Lib.hid (below_alloc BW.out _)⟩
          · have hk2 : (t0 != 1) = true := by simp [hk1']
            have HK1 := Lib.hid hk1'
            clear hk1'
            go_wp2_with fail
            go_ret2
            rw [join_kind HE0.out (HKK.out.symm.trans (ER.out.trans (HHT.out (by simp [HK1.out]))))]
            exact ⟨rfl, below_alloc BW.out _⟩
        · have e8 : kk = 8 := by omega
          subst e8
          have HK0 : Hid (anyFrom (badKind D) 0 8 = false) := Lib.hid (HKK.out.symm.trans ER.out)
          clear hlt ER HKK hk hg
          obtain ⟨NN, hNN⟩ : ∃ y, y = anyFrom (badNumber D) 0 8 := ⟨_, rfl⟩
          have HNN := Lib.hid hNN
          clear hNN
          go_wp2_with ((with_reducible refine gate_load (p := 4) rfl ?_); refine wpList_load_row rfl 44 _ rfl (W.heap.size + 1) rfl 44 _ (0, 0) _ H4.out hu2 rfl infoA ?_)
          go_loopg [45] 8 (fun gg s45 wr => ∃ kk : Nat, kk ≤ 8 ∧ 8 - kk ≤ gg ∧ s45 = .int .i64 kk ∧ Hid (NN = anyFrom (badNumber D) kk (8 - kk)) ∧ Hid (wr.heap[W.heap.size + 1]? = some (.cells (EA D) 44 (0, 0))) ∧ Hid (Below W.heap.size W wr))
          case atStart => exact ⟨0, by decide, by decide, rfl, HNN, H4, BW⟩
          case round =>
            clear H4 BW
            obtain ⟨kk, hk, hg, hs, ER, H4, BW⟩ := hrel
            subst hs
            by_cases hlt : kk < 8
            · have hk0 : (0 : Int) ≤ (kk : Int) := Int.natCast_nonneg _
              have hk1 : (kk : Int) < 8 := by omega
              have HIX := ea_index D kk hlt
              have hc1 : ∀ o : Obj, (wr.alloc o).cell? ⟨W.heap.size + 1, 1, none⟩ = some (.int .i64 (D 0).2.1) := fun o => (blk_cell (blk_alloc H4.out o) 1).trans rfl
              have HST := Lib.hid (fun (h : (D kk).2.1 = (D 0).2.1 + (kk : Int)) => any_step (badNumber D) kk (8 - (kk + 1)) (by simp [badNumber, h]))
              have HHT := Lib.hid (fun (h : ¬ (D kk).2.1 = (D 0).2.1 + (kk : Int)) => any_hit (badNumber D) kk (8 - (kk + 1)) (by simp [badNumber, h]))
              rw [show 8 - (kk + 1) + 1 = 8 - kk by omega] at HST HHT
              unfold cellsD at HIX
              have HLT := Lib.hid hlt
              have HG := Lib.hid hg
              have hn0 := (HNUM.out 0).1
              have hn1 := (HNUM.out 0).2
              generalize (D 0).2.1 = n0 at *
              generalize hdk : D kk = t at *
              obtain ⟨t0, t1, t2, t3, t4, t5, t6⟩ := t
              simp only at HST HHT HIX
              have HDK := Lib.hid hdk
              clear hlt hg hk hdk
              by_cases he : t1 = n0 + (kk : Int)
              · have he1 : (t1 != n0 + (kk : Int)) = false := by simp [he]
                have HE := Lib.hid he
                clear he
                go_wp2_with fail
                go_roundg (8 - (kk + 1))
                case measure => have := HLT.out; have := HG.out; omega
                case rel => exact ⟨kk + 1, HLT.out, Nat.le_refl _, by go_num, Lib.hid (ER.out.trans (HST.out (by simp [HE.out]))), Lib.hid (blk_alloc H4.out _), Lib.hid (below_alloc BW.out _)⟩
              · have he1 : (t1 != n0 + (kk : Int)) = true := by simp [he]
                have HE := Lib.hid he
                clear he
                go_wp2_with fail
                go_ret2
                rw [join_number HE0.out HK0.out (HNN.out.symm.trans (ER.out.trans (HHT.out HE.out)))]
                exact ⟨rfl, below_alloc BW.out _⟩
            · have e8 : kk = 8 := by omega
              subst e8
              have HN0 : Hid (anyFrom (badNumber D) 0 8 = false) := Lib.hid (HNN.out.symm.trans ER.out)
              clear hlt ER HNN hk hg
              have hra : wr.rangeAt (W.heap.size + 1) 0 (cellsD (D 0)) := fun j v hv => (blk_cell H4.out (0 + j)).trans (by
                have hj : j < 6 := (List.getElem?_eq_some_iff.1 hv).1
                have : j = 0 ∨ j = 1 ∨ j = 2 ∨ j = 3 ∨ j = 4 ∨ j = 5 := by omega
                rw [← hv]
                rcases this with rfl | rfl | rfl | rfl | rfl | rfl <;> rfl)
              have HRA := Lib.hid hra
              have hkz := kind_zero HK0.out
              obtain ⟨AA, hAA⟩ : ∃ y, y = anyFrom (fun j => (D j).2.2.2.1) 0 8 := ⟨_, rfl⟩
              obtain ⟨DD, hDD⟩ : ∃ y, y = anyFrom (fun j => (D j).2.2.2.2.1) 0 8 := ⟨_, rfl⟩
              obtain ⟨WW, hWW⟩ : ∃ y, y = anyFrom (badWrite D) 0 8 := ⟨_, rfl⟩
              have HAA := Lib.hid hAA
              have HDD := Lib.hid hDD
              have HWW := Lib.hid hWW
              clear hra hAA hDD hWW
              obtain ⟨z, hz⟩ : ∃ z, z = D 0 := ⟨_, rfl⟩
              have HZ := Lib.hid hz
              rw [← hz] at HRA hkz
              clear hz
              obtain ⟨z0, z1, z2, z3, z4, z5, z6⟩ := z
              simp only at hkz
              subst hkz
              go_upto_region 23 with ((with_reducible refine gate_load (p := 58) rfl ?_); refine wpList_load_mid rfl 23 _ rfl (W.heap.size + 1) 0 rfl _ _ HRA.out hu rfl infoE ?_; unfold cellsD)
              have B4 := blk_alloc H4.out (.cells #[.int .i64 1, .int .i64 z1, .bool z2, .bool z3, .bool z4, .bool z5] 23 (0, 0))
              have B12 := blk_new wr (.cells #[.int .i64 1, .int .i64 z1, .bool z2, .bool z3, .bool z4, .bool z5] 23 (0, 0))
              have D5 := below_alloc BW.out (.cells #[.int .i64 1, .int .i64 z1, .bool z2, .bool z3, .bool z4, .bool z5] 23 (0, 0))
              have N12 := Lib.hid (Nat.ne_of_lt (blk_lt H4.out))
              refine absw (fun w' => w'.heap[W.heap.size + 1]? = some (.cells (EA D) 44 (0, 0)) ∧ w'.heap[wr.heap.size]? = some (.cells #[.int .i64 1, .int .i64 z1, .bool z2, .bool z3, .bool z4, .bool z5] 23 (0, 0)) ∧ Below W.heap.size W w') ⟨B4, B12, D5⟩ ?_
              have LE12 := Lib.hid BW.out.size
              clear B4 B12 D5 H4 BW HRA
              rintro w5 ⟨b4, b12, d5⟩
              generalize wr.heap.size = g12 at *
              have H4 := Lib.hid b4
              have H12 := Lib.hid b12
              have BW := Lib.hid d5
              clear b4 b12 d5
              go_wp2_with ((with_reducible refine gate_load (p := 4) rfl ?_); refine wpList_load_row rfl 44 _ rfl (W.heap.size + 1) rfl 44 _ (0, 0) _ H4.out hu2 rfl infoA ?_)
              go_loopg [61] 8 (fun gg s61 wr => ∃ kk : Nat, ∃ ac dc : Bool, kk ≤ 8 ∧ 8 - kk ≤ gg ∧ s61 = .int .i64 kk ∧ Hid (WW = anyFrom (badWrite D) kk (8 - kk)) ∧ Hid (AA = (ac || anyFrom (fun j => (D j).2.2.2.1) kk (8 - kk))) ∧ Hid (DD = (dc || anyFrom (fun j => (D j).2.2.2.2.1) kk (8 - kk))) ∧ Hid (wr.heap[g12]? = some (.cells #[.int .i64 1, .int .i64 z1, .bool z2, .bool ac, .bool dc, .bool z5] 23 (0, 0))) ∧ Hid (Below W.heap.size W wr))
              case atStart => exact ⟨0, z3, z4, by decide, by decide, rfl, HWW, Lib.hid (by rw [HAA.out, anyFrom, ← HZ.out]; simp), Lib.hid (by rw [HDD.out, anyFrom, ← HZ.out]; simp), H12, BW⟩
              case round =>
                clear H12 BW
                obtain ⟨kk, ac, dc, hk, hg, hs, ER, EA1, ED1, H12, BW⟩ := hrel
                subst hs
                by_cases hlt : kk < 8
                · have hk0 : (0 : Int) ≤ (kk : Int) := Int.natCast_nonneg _
                  have hk1 : (kk : Int) < 8 := by omega
                  have HIX := ea_index D kk hlt
                  have hc2 : ∀ o : Obj, (wr.alloc o).cell? ⟨g12, 2, none⟩ = some (.bool z2) := fun o => (blk_cell (blk_alloc H12.out o) 2).trans rfl
                  have hc3 : ∀ o : Obj, (wr.alloc o).cell? ⟨g12, 3, none⟩ = some (.bool ac) := fun o => (blk_cell (blk_alloc H12.out o) 3).trans rfl
                  have hc4 : ∀ o : Obj, (wr.alloc o).cell? ⟨g12, 4, none⟩ = some (.bool dc) := fun o => (blk_cell (blk_alloc H12.out o) 4).trans rfl
                  have hf3 : ∀ o : Obj, (wr.alloc o).frozen? ⟨g12, 3, none⟩ = false := fun o => blk_frozen (blk_alloc H12.out o) 3
                  have hf4 : ∀ o : Obj, (wr.alloc o).frozen? ⟨g12, 4, none⟩ = false := fun o => blk_frozen (blk_alloc H12.out o) 4
                  have hne : ¬ g12 = wr.heap.size := Nat.ne_of_lt (blk_lt H12.out)
                  have hne2 : ¬ wr.heap.size = g12 := fun h => hne h.symm
                  have HST := Lib.hid (fun (h : (D kk).2.2.1 = (D 0).2.2.1) => any_step (badWrite D) kk (8 - (kk + 1)) (by simp [badWrite, h]))
                  have HHT := Lib.hid (fun (h : ¬ (D kk).2.2.1 = (D 0).2.2.1) => any_hit (badWrite D) kk (8 - (kk + 1)) (by simp [badWrite, h]))
                  have HA1 := Lib.hid (show anyFrom (fun j => (D j).2.2.2.1) kk (8 - (kk + 1) + 1) = ((D kk).2.2.2.1 || anyFrom (fun j => (D j).2.2.2.1) (kk + 1) (8 - (kk + 1))) from rfl)
                  have HD1 := Lib.hid (show anyFrom (fun j => (D j).2.2.2.2.1) kk (8 - (kk + 1) + 1) = ((D kk).2.2.2.2.1 || anyFrom (fun j => (D j).2.2.2.2.1) (kk + 1) (8 - (kk + 1))) from rfl)
                  rw [show 8 - (kk + 1) + 1 = 8 - kk by omega] at HST HHT HA1 HD1
                  rw [← HZ.out] at HST HHT
                  unfold cellsD at HIX
                  have HLT := Lib.hid hlt
                  have HG := Lib.hid hg
                  generalize hdk : D kk = t at *
                  obtain ⟨t0, t1, t2, t3, t4, t5, t6⟩ := t
                  simp only at HST HHT HIX HA1 HD1
                  have HDK := Lib.hid hdk
                  clear hlt hg hk hdk
                  by_cases he : t2 = z2
                  · have he1 : (t2 == z2) = true := by simp [he]
                    have HE := Lib.hid he
                    clear he
                    cases ac <;> cases dc
                    all_goals
                      go_upto_region 30 with fail
                      have B12 : ∀ q r : Bool, (((wr.alloc (.cells #[.int .i64 t0, .int .i64 t1, .bool t2, .bool t3, .bool t4, .bool t5] 23 (0, 0))).setCell ⟨g12, 3, none⟩ (.bool q)).setCell ⟨g12, 4, none⟩ (.bool r)).heap[g12]? = some (.cells #[.int .i64 1, .int .i64 z1, .bool z2, .bool q, .bool r, .bool z5] 23 (0, 0)) := fun q r => blk_set (blk_set (blk_alloc H12.out _) 3 _) 4 _
                      have D5 : ∀ q r : Bool, Below W.heap.size W (((wr.alloc (.cells #[.int .i64 t0, .int .i64 t1, .bool t2, .bool t3, .bool t4, .bool t5] 23 (0, 0))).setCell ⟨g12, 3, none⟩ (.bool q)).setCell ⟨g12, 4, none⟩ (.bool r)) := fun q r => ((below_alloc BW.out _).setCell (p := ⟨g12, 3, none⟩) LE12.out _).setCell (p := ⟨g12, 4, none⟩) LE12.out _
                      refine absw (fun w' => w'.heap[g12]? = some (.cells #[.int .i64 1, .int .i64 z1, .bool z2, .bool _, .bool _, .bool z5] 23 (0, 0)) ∧ Below W.heap.size W w') ⟨B12 _ _, D5 _ _⟩ ?_
                      clear B12 D5
                      rintro w6 ⟨b12, d6⟩
                      have I12 := Lib.hid b12
                      have I6 := Lib.hid d6
                      clear b12 d6 hc2 hc3 hc4 hf3 hf4 hne hne2 H12 BW
                      go_wp2_with fail
                      go_roundg (8 - (kk + 1))
                      case measure => have := HLT.out; have := HG.out; omega
                      case rel => exact ⟨kk + 1, _, _, HLT.out, Nat.le_refl _, by go_num, Lib.hid (ER.out.trans (HST.out HE.out)), Lib.hid (by rw [EA1.out, HA1.out]; simp), Lib.hid (by rw [ED1.out, HD1.out]; simp), I12, I6⟩
                  · have he1 : (t2 == z2) = false := by simp [he]
                    have HE := Lib.hid he
                    clear he
                    go_wp2_with fail
                    go_ret2
                    rw [join_write HE0.out HK0.out HN0.out (HWW.out.symm.trans (ER.out.trans (HHT.out HE.out)))]
                    exact ⟨rfl, below_alloc BW.out _⟩
                · have e8 : kk = 8 := by omega
                  subst e8
                  have hc1 : ∀ j, wr.cell? ⟨g12, j, none⟩ = (#[.int .i64 1, .int .i64 z1, .bool z2, .bool ac, .bool dc, .bool z5] : Array Value)[j]? := fun j => blk_cell H12.out j
                  have hf5 : wr.frozen? ⟨g12, 5, none⟩ = false := blk_frozen H12.out 5
                  have K12 := Lib.hid (blk_set H12.out 5 (.bool true))
                  have K6 := Lib.hid (BW.out.setCell (p := ⟨g12, 5, none⟩) LE12.out (.bool true))
                  have hc5 : wr.cell? ⟨g12, 5, none⟩ = some (.bool z5) := (blk_cell H12.out 5).trans rfl
                  have HR := Lib.hid (join_ok (D := D) (a := ac) (d := dc) HE0.out HK0.out HN0.out (HWW.out.symm.trans ER.out) (HAA.out.symm.trans (EA1.out.trans (Bool.or_false _))) (HDD.out.symm.trans (ED1.out.trans (Bool.or_false _))))
                  clear hc1 hk hg hlt H12 BW
                  go_upto_region 32 with fail
                  refine absw (fun w' => w'.heap[g12]? = some (.cells #[.int .i64 1, .int .i64 z1, .bool z2, .bool ac, .bool dc, .bool true] 23 (0, 0)) ∧ Below W.heap.size W w') ⟨K12.out, K6.out⟩ ?_
                  rintro w6 ⟨b12, d6⟩
                  have I12 := Lib.hid b12
                  have I6 := Lib.hid d6
                  clear b12 d6 hf5 hc5 K12 K6
                  go_wp2_with (first | ((with_reducible refine gate_load (p := 12) rfl ?_); refine wpList_load_row rfl 23 _ rfl g12 rfl 23 _ (0, 0) _ I12.out hu rfl infoE ?_) | (go_at_call 12; refine (HENC.out _ _ _ _ _).mono ?_; rintro e w7 ⟨rfl, b7⟩; have I7 := Lib.hid (bth b7 I6.out); clear b7))
                  go_ret2
                  rw [HR.out, ← HZ.out]
                  exact ⟨rfl, I7.out⟩
end Go.Proofs.Ytmmjialpkddgdaa.HandJoin
