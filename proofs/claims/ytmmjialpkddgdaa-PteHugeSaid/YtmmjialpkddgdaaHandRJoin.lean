/- The reference's Join, walked: it answers the plain joinP of the eight decoded words. -/
import Derived.Test.YtmmjialpkddgdaaHandJoin
import Derived.Deep.QuietTactic
import Derived.BigQuiet
set_option linter.unusedVariables false
set_option linter.unusedSimpArgs false
namespace Go.Proofs.Ytmmjialpkddgdaa.HandJoin
open Go.RowKit Go.Proofs.Ytmmjialpkddgdaa.PteCalls Go.Proofs.YtmmjialpkddgdaaW.PrintWords Go.Proofs.YtmmjialpkddgdaaW.PrintLast Go.Proofs.Ytmmjialpkddgdaa.Pte

theorem ea_at (D : Nat → Dec) (k f : Nat) (h : k < 8) (hf : f < 6) : (EA D)[k * 6 + f]? = (cellsD (D k))[f]? := by
  have : f = 0 ∨ f = 1 ∨ f = 2 ∨ f = 3 ∨ f = 4 ∨ f = 5 := by omega
  rcases k8 h with rfl | rfl | rfl | rfl | rfl | rfl | rfl | rfl <;> rcases this with rfl | rfl | rfl | rfl | rfl | rfl <;> rfl
set_option maxHeartbeats 4000000 in
set_option maxRecDepth 100000 in
theorem rjoin_walk (x : Nat → Int) (D : Nat → Dec) (hnum : ∀ j, 0 ≤ (D j).2.1 ∧ (D j).2.1 ≤ 4294967296) (henc : ∀ n (w a d : Bool) W, Calls Try.prog 13 #[.agg #[.int .i64 1, .int .i64 n, .bool w, .bool a, .bool d, .bool true]] W fun e W' => e = .returned (.tuple #[.int .u64 (enc 1 n w a d true).1, .int .i64 (enc 1 n w a d true).2]) ∧ Below W.heap.size W W') (hd : ∀ j W, j < 8 → Calls Try.prog 16 #[.int .u64 (x j)] W fun e W' => e = .returned (decV (D j)) ∧ Below W.heap.size W W') (W : World) :
    Calls Try.prog 26 #[.agg (XX x)] W fun e w' => e = .returned (.tuple #[.int .u64 (joinP D).1, .int .i64 (joinP D).2]) ∧ Below W.heap.size W w' := by
  have hu := Try.underlying23
  have hu2 := Try.underlying44
  have hu3 := Try.underlying39
  obtain ⟨EE, hEE⟩ : ∃ y, y = errFrom D 0 8 := ⟨_, rfl⟩
  have HEE := Lib.hid hEE
  clear hEE
  have HNUM := Lib.hid hnum
  have HENC := Lib.hid henc
  clear hnum henc
  unfold XX
  go_enter Try.func26, Try.ntmps26
  go_wp2_with fail
  have h1 := blk_alloc (blk_new W (.cells (XX x) 39 (0, 0))) (.cells (EA (upTo D 0)) 44 (0, 0))
  have h4 := blk_new (W.alloc (.cells (XX x) 39 (0, 0))) (.cells (EA (upTo D 0)) 44 (0, 0))
  have h4' : ((W.alloc (.cells (XX x) 39 (0, 0))).alloc (.cells (EA (upTo D 0)) 44 (0, 0))).heap[W.heap.size + 1]? = some (.cells (EA (upTo D 0)) 44 (0, 0)) := by simpa using h4
  have d0 : Below W.heap.size W ((W.alloc (.cells (XX x) 39 (0, 0))).alloc (.cells (EA (upTo D 0)) 44 (0, 0))) := below_alloc (below_alloc (Below.refl _ _) _) _
  refine absw (fun w' => w'.heap[W.heap.size]? = some (.cells (XX x) 39 (0, 0)) ∧ w'.heap[W.heap.size + 1]? = some (.cells (EA (upTo D 0)) 44 (0, 0)) ∧ Below W.heap.size W w') ⟨h1, h4', d0⟩ ?_
  clear h1 h4 h4' d0
  rintro w1 ⟨h1, h4, d1⟩
  obtain ⟨g1, hg1⟩ : ∃ g, g = W.heap.size := ⟨_, rfl⟩
  go_loopg [12] 8 (fun gg s15 wr => ∃ kk : Nat, kk ≤ 8 ∧ 8 - kk ≤ gg ∧ s15 = .int .i64 kk ∧ Hid (EE = errFrom D kk (8 - kk)) ∧ Hid (wr.heap[W.heap.size]? = some (.cells (XX x) 39 (0, 0))) ∧ Hid (wr.heap[W.heap.size + 1]? = some (.cells (EA (upTo D kk)) 44 (0, 0))) ∧ Hid (Below W.heap.size W wr))
  case atStart => exact ⟨0, by decide, by decide, rfl, HEE, Lib.hid h1, Lib.hid h4, Lib.hid d1⟩
  case round =>
    clear h1 h4 d1
    obtain ⟨kk, hk, hg, hs, ER, H1, H4, BW⟩ := hrel
    subst hs
    by_cases hlt : kk < 8
    · have hk0 : (0 : Int) ≤ (kk : Int) := Int.natCast_nonneg _
      have hk1 : (kk : Int) < 8 := by omega
      have x0 : wr.cell? ⟨W.heap.size, kk, none⟩ = some (.int .u64 (x kk)) := (blk_cell H1.out kk).trans (xx_at x kk hlt)
      go_wp2_with fail
      refine (hd kk _ hlt).mono ?_
      rintro e w2 ⟨rfl, b2⟩
      have j1 := blk_below H1.out b2
      have j4 := blk_below H4.out b2
      have d2 := bth b2 BW.out
      have ES := fun (he : (D kk).2.2.2.2.2.2 = 0) => (err_step D kk (8 - (kk + 1)) he)
      have EH := err_hit D kk (8 - (kk + 1))
      rw [show 8 - (kk + 1) + 1 = 8 - kk by omega] at ES EH
      have EAS := ea_set D kk hlt
      have HE8 := Lib.hid (congrArg (fun z => z) (ER.out))
      clear x0 H1 H4 BW b2 ER
      unfold decV
      generalize hdk : D kk = t at *
      obtain ⟨t0, t1, t2, t3, t4, t5, t6⟩ := t
      simp only at ES EH EAS ⊢
      have HDK := Lib.hid hdk
      have HES := Lib.hid ES
      have HEH := Lib.hid EH
      have HEAS := Lib.hid EAS
      clear hdk ES EH EAS
      have J1 := Lib.hid j1
      have J4 := Lib.hid j4
      have D2 := Lib.hid d2
      have HLT := Lib.hid hlt
      clear j1 j4 d2 hd
      by_cases he : t6 = 0
      · have he1 : (t6 != 0) = false := by simp [he]
        have HE := Lib.hid he
        clear he
        go_upto_region 8 with fail
        have B1 := blk_alloc J1.out (.cells #[.int .i64 t0, .int .i64 t1, .bool t2, .bool t3, .bool t4, .bool t5] 23 (0, 0))
        have B4 := blk_alloc J4.out (.cells #[.int .i64 t0, .int .i64 t1, .bool t2, .bool t3, .bool t4, .bool t5] 23 (0, 0))
        have B6 := blk_new w2 (.cells #[.int .i64 t0, .int .i64 t1, .bool t2, .bool t3, .bool t4, .bool t5] 23 (0, 0))
        have D3 := below_alloc D2.out (.cells #[.int .i64 t0, .int .i64 t1, .bool t2, .bool t3, .bool t4, .bool t5] 23 (0, 0))
        refine absw (fun w' => w'.heap[W.heap.size]? = some (.cells (XX x) 39 (0, 0)) ∧ w'.heap[W.heap.size + 1]? = some (.cells (EA (upTo D kk)) 44 (0, 0)) ∧ w'.heap[w2.heap.size]? = some (.cells #[.int .i64 t0, .int .i64 t1, .bool t2, .bool t3, .bool t4, .bool t5] 23 (0, 0)) ∧ Below W.heap.size W w') ⟨B1, B4, B6, D3⟩ ?_
        clear B1 B4 B6 D3 J1 J4 D2
        rintro w3 ⟨b1, b4, b6, d3⟩
        have HTH := Lib.hid (there_of b4 (kk * 6) 6 (by rw [ea_size]; omega))
        have J1 := Lib.hid b1
        have J4 := Lib.hid (set_six b4 (kk * 6) (t0, t1, t2, t3, t4, t5, t6) (cs' := EA (upTo D (kk + 1))) HEAS.out)
        have J6 := Lib.hid b6
        have D3 := Lib.hid d3
        clear b1 b4 b6 d3 
        go_wp2_with (first | ((with_reducible refine gate_load (p := 6) rfl ?_); refine wpList_load_row rfl 23 _ rfl w2.heap.size rfl 23 _ (0, 0) _ J6.out hu rfl infoE ?_) | ((with_reducible refine gate_store (p := 27) rfl ?_); refine wpList_store_mid rfl 23 _ _ rfl (W.heap.size + 1) (kk * 6) #[.int .i64 t0, .int .i64 t1, .bool t2, .bool t3, .bool t4, .bool t5] rfl rfl HTH.out infoE (by simp [Value.oneCell']) ?_; refine abswl (fun w' => w'.heap[W.heap.size]? = some (.cells (XX x) 39 (0, 0)) ∧ w'.heap[W.heap.size + 1]? = some (.cells (EA (upTo D (kk + 1))) 44 (0, 0)) ∧ Below W.heap.size W w') ⟨far_six J1.out (Nat.ne_of_lt (Nat.lt_succ_self _)), J4.out, bel_six D3.out (Nat.le_succ _)⟩ ?_; rintro w4 ⟨i1, i4, i2⟩; have I1 := Lib.hid i1; have I4 := Lib.hid i4; have I2 := Lib.hid i2; clear i1 i4 i2))
        go_roundg (8 - (kk + 1))
        case measure => have := HLT.out; have := hg; omega
        case rel => exact ⟨kk + 1, HLT.out, Nat.le_refl _, by go_num, Lib.hid (HE8.out.trans (HES.out HE.out)), I1, I4, I2⟩
      · have he1 : (t6 != 0) = true := by simp [he]
        have HE := Lib.hid he
        clear he
        go_wp2_with fail
        go_ret2
        have e1 := join_err (HEE.out.symm.trans (HE8.out.trans (HEH.out HE.out))) HE.out
        rw [e1]
        exact ⟨rfl, below_alloc D2.out _⟩
    · have e8 : kk = 8 := by omega
      subst e8
      have hE0 : errFrom D 0 8 = 0 := HEE.out.symm.trans ER.out
      have HE0 := Lib.hid hE0
      have H4' : Hid (wr.heap[W.heap.size + 1]? = some (.cells (EA D) 44 (0, 0))) := Lib.hid (by have := H4.out; rw [ea_full] at this; exact this)
      clear hlt hE0 H4 ER HEE hk hg H1
      obtain ⟨KK, hKK⟩ : ∃ y, y = anyFrom (badKind D) 0 8 := ⟨_, rfl⟩
      have HKK := Lib.hid hKK
      clear hKK
      go_wp2_with fail
      go_loopg [29] 8 (fun gg s33 wr => ∃ kk : Nat, kk ≤ 8 ∧ 8 - kk ≤ gg ∧ s33 = .int .i64 kk ∧ Hid (KK = anyFrom (badKind D) kk (8 - kk)) ∧ Hid (wr.heap[W.heap.size + 1]? = some (.cells (EA D) 44 (0, 0))) ∧ Hid (Below W.heap.size W wr))
      case atStart => exact ⟨0, by decide, by decide, rfl, HKK, H4', BW⟩
      case round =>
        clear H4' BW
        obtain ⟨kk, hk, hg, hs, ER, H4, BW⟩ := hrel
        subst hs
        by_cases hlt : kk < 8
        · have hk0 : (0 : Int) ≤ (kk : Int) := Int.natCast_nonneg _
          have hk1 : (kk : Int) < 8 := by omega
          have hc0 : wr.cell? ⟨W.heap.size + 1, kk * 6, none⟩ = some (.int .i64 (D kk).1) := (blk_cell H4.out _).trans (ea_at D kk 0 hlt (by decide))
          have hc5 : wr.cell? ⟨W.heap.size + 1, kk * 6 + 5, none⟩ = some (.bool (D kk).2.2.2.2.2.1) := (blk_cell H4.out _).trans (ea_at D kk 5 hlt (by decide))
          have HST := Lib.hid (fun (h : badKind D kk = false) => any_step (badKind D) kk (8 - (kk + 1)) h)
          have HHT := Lib.hid (fun (h : badKind D kk = true) => any_hit (badKind D) kk (8 - (kk + 1)) h)
          rw [show 8 - (kk + 1) + 1 = 8 - kk by omega] at HST HHT
          unfold badKind at HST HHT
          have HLT := Lib.hid hlt
          have HG := Lib.hid hg
          clear hlt hg hk
          generalize hdk : D kk = t at *
          obtain ⟨t0, t1, t2, t3, t4, t5, t6⟩ := t
          simp only at HST HHT hc0 hc5
          have HDK := Lib.hid hdk
          clear hdk
          by_cases hk1' : t0 = 1
          · have hk2 : (t0 != 1) = false := by simp [hk1']
            have HK1 := Lib.hid hk1'
            clear hk1'
            cases t5 with
            | true =>
              go_wp2_with fail
              go_ret2
              rw [join_kind HE0.out (HKK.out.symm.trans (ER.out.trans (HHT.out (by simp))))]
              exact ⟨rfl, BW.out⟩
            | false =>
              go_wp2_with fail
              go_roundg (8 - (kk + 1))
              case measure => have := HLT.out; have := HG.out; omega
              case rel => exact ⟨kk + 1, HLT.out, Nat.le_refl _, by go_num, Lib.hid (ER.out.trans (HST.out (by simp [HK1.out]))), H4, BW⟩
          · have hk2 : (t0 != 1) = true := by simp [hk1']
            have HK1 := Lib.hid hk1'
            clear hk1'
            go_wp2_with fail
            go_ret2
            rw [join_kind HE0.out (HKK.out.symm.trans (ER.out.trans (HHT.out (by simp [HK1.out]))))]
            exact ⟨rfl, BW.out⟩
        · have e8 : kk = 8 := by omega
          subst e8
          have HK0 : Hid (anyFrom (badKind D) 0 8 = false) := Lib.hid (HKK.out.symm.trans ER.out)
          clear hlt ER HKK hk hg
          obtain ⟨NN, hNN⟩ : ∃ y, y = anyFrom (badNumber D) 0 8 := ⟨_, rfl⟩
          have HNN := Lib.hid hNN
          clear hNN
          have hra : wr.rangeAt (W.heap.size + 1) 0 (cellsD (D 0)) := fun j v hv => (blk_cell H4.out (0 + j)).trans (by
            have hj : j < 6 := (List.getElem?_eq_some_iff.1 hv).1
            have : j = 0 ∨ j = 1 ∨ j = 2 ∨ j = 3 ∨ j = 4 ∨ j = 5 := by omega
            rw [← hv]
            rcases this with rfl | rfl | rfl | rfl | rfl | rfl <;> rfl)
          have HRA := Lib.hid hra
          have hkz := kind_zero HK0.out
          obtain ⟨z, hz⟩ : ∃ z, z = D 0 := ⟨_, rfl⟩
          have HZ := Lib.hid hz
          rw [← hz] at HRA hkz
          have hn0 := (HNUM.out 0).1
          have hn1 := (HNUM.out 0).2
          rw [← hz] at hn0 hn1
          clear hra hz
          obtain ⟨z0, z1, z2, z3, z4, z5, z6⟩ := z
          simp only at hkz hn0 hn1
          subst hkz
          go_upto_region 17 with ((with_reducible refine gate_load (p := 44) rfl ?_); refine wpList_load_mid rfl 23 _ rfl (W.heap.size + 1) 0 rfl _ _ HRA.out hu rfl infoE ?_; unfold cellsD)
          have B4 := blk_alloc H4.out (.cells #[.int .i64 1, .int .i64 z1, .bool z2, .bool z3, .bool z4, .bool z5] 23 (0, 0))
          have B12 := blk_new wr (.cells #[.int .i64 1, .int .i64 z1, .bool z2, .bool z3, .bool z4, .bool z5] 23 (0, 0))
          have D5 := below_alloc BW.out (.cells #[.int .i64 1, .int .i64 z1, .bool z2, .bool z3, .bool z4, .bool z5] 23 (0, 0))
          have hne1 : ¬ W.heap.size + 1 = wr.heap.size := Nat.ne_of_lt (blk_lt H4.out)
          refine absw (fun w' => w'.heap[W.heap.size + 1]? = some (.cells (EA D) 44 (0, 0)) ∧ w'.heap[wr.heap.size]? = some (.cells #[.int .i64 1, .int .i64 z1, .bool z2, .bool z3, .bool z4, .bool z5] 23 (0, 0)) ∧ Below W.heap.size W w') ⟨B4, B12, D5⟩ ?_
          have LE12 := Lib.hid BW.out.size
          clear B4 B12 D5 H4 BW HRA
          rintro w5 ⟨b4, b12, d5⟩
          generalize wr.heap.size = g12 at *
          have H4 := Lib.hid b4
          have H12 := Lib.hid b12
          have BW := Lib.hid d5
          clear b4 b12 d5
          go_wp2_with fail
          go_loopg [46] 8 (fun gg s45 wr => ∃ kk : Nat, kk ≤ 8 ∧ 8 - kk ≤ gg ∧ s45 = .int .i64 kk ∧ Hid (NN = anyFrom (badNumber D) kk (8 - kk)) ∧ Hid (wr.heap[W.heap.size + 1]? = some (.cells (EA D) 44 (0, 0))) ∧ Hid (wr.heap[g12]? = some (.cells #[.int .i64 1, .int .i64 z1, .bool z2, .bool z3, .bool z4, .bool z5] 23 (0, 0))) ∧ Hid (Below W.heap.size W wr))
          case atStart => exact ⟨0, by decide, by decide, rfl, HNN, H4, H12, BW⟩
          case round =>
            clear H4 BW H12
            obtain ⟨kk, hk, hg, hs, ER, H4, H12, BW⟩ := hrel
            subst hs
            by_cases hlt : kk < 8
            · have hk0 : (0 : Int) ≤ (kk : Int) := Int.natCast_nonneg _
              have hk1 : (kk : Int) < 8 := by omega
              have hc0 : wr.cell? ⟨W.heap.size + 1, kk * 6 + 1, none⟩ = some (.int .i64 (D kk).2.1) := (blk_cell H4.out _).trans (ea_at D kk 1 hlt (by decide))
              have hc1 : wr.cell? ⟨g12, 1, none⟩ = some (.int .i64 z1) := (blk_cell H12.out 1).trans rfl
              have HST := Lib.hid (fun (h : (D kk).2.1 = (D 0).2.1 + (kk : Int)) => any_step (badNumber D) kk (8 - (kk + 1)) (by simp [badNumber, h]))
              have HHT := Lib.hid (fun (h : ¬ (D kk).2.1 = (D 0).2.1 + (kk : Int)) => any_hit (badNumber D) kk (8 - (kk + 1)) (by simp [badNumber, h]))
              rw [show 8 - (kk + 1) + 1 = 8 - kk by omega] at HST HHT
              rw [← HZ.out] at HST HHT
              have hwr : IntKind.i64.wrap (z1 + (kk : Int)) = z1 + (kk : Int) := IntWalk.i64_in _ (by omega)
              have HLT := Lib.hid hlt
              have HG := Lib.hid hg
              generalize hdk : D kk = t at *
              obtain ⟨t0, t1, t2, t3, t4, t5, t6⟩ := t
              simp only at HST HHT hc0
              have HDK := Lib.hid hdk
              clear hlt hg hk hdk
              by_cases he : t1 = z1 + (kk : Int)
              · have he1 : (t1 != z1 + (kk : Int)) = false := by simp [he]
                have HE := Lib.hid he
                clear he
                go_wp2_with fail
                go_quiet (fail)
                go_wp2_with fail
                go_roundg (8 - (kk + 1))
                case measure => have := HLT.out; have := HG.out; omega
                case rel => exact ⟨kk + 1, HLT.out, Nat.le_refl _, by go_num, Lib.hid (ER.out.trans (HST.out HE.out)), Lib.hid (blk_drewN H4.out _), Lib.hid (blk_drewN H12.out _), Lib.hid (pw_below_drewN BW.out _)⟩
              · have he1 : (t1 != z1 + (kk : Int)) = true := by simp [he]
                have HE := Lib.hid he
                clear he
                go_wp2_with fail
                go_quiet (fail)
                go_wp2_with fail
                go_ret2
                rw [join_number HE0.out HK0.out (HNN.out.symm.trans (ER.out.trans (HHT.out HE.out)))]
                exact ⟨rfl, pw_below_drewN BW.out _⟩
            · have e8 : kk = 8 := by omega
              subst e8
              have HN0 : Hid (anyFrom (badNumber D) 0 8 = false) := Lib.hid (HNN.out.symm.trans ER.out)
              clear hlt ER HNN hk hg
              obtain ⟨AA, hAA⟩ : ∃ y, y = anyFrom (fun j => (D j).2.2.2.1) 0 8 := ⟨_, rfl⟩
              obtain ⟨DD, hDD⟩ : ∃ y, y = anyFrom (fun j => (D j).2.2.2.2.1) 0 8 := ⟨_, rfl⟩
              obtain ⟨WW, hWW⟩ : ∃ y, y = anyFrom (badWrite D) 0 8 := ⟨_, rfl⟩
              have HAA := Lib.hid hAA
              have HDD := Lib.hid hDD
              have HWW := Lib.hid hWW
              clear hAA hDD hWW hn0 hn1
              go_wp2_with fail
              go_loopg [59] 8 (fun gg s61 wr => ∃ kk : Nat, ∃ ac dc : Bool, kk ≤ 8 ∧ 8 - kk ≤ gg ∧ s61 = .int .i64 kk ∧ Hid (WW = anyFrom (badWrite D) kk (8 - kk)) ∧ Hid (AA = (ac || anyFrom (fun j => (D j).2.2.2.1) kk (8 - kk))) ∧ Hid (DD = (dc || anyFrom (fun j => (D j).2.2.2.2.1) kk (8 - kk))) ∧ Hid (wr.heap[W.heap.size + 1]? = some (.cells (EA D) 44 (0, 0))) ∧ Hid (wr.heap[g12]? = some (.cells #[.int .i64 1, .int .i64 z1, .bool z2, .bool ac, .bool dc, .bool z5] 23 (0, 0))) ∧ Hid (Below W.heap.size W wr))
              case atStart => exact ⟨0, z3, z4, by decide, by decide, rfl, HWW, Lib.hid (by rw [HAA.out, anyFrom, ← HZ.out]; simp), Lib.hid (by rw [HDD.out, anyFrom, ← HZ.out]; simp), H4, H12, BW⟩
              case round =>
                clear H12 BW H4
                obtain ⟨kk, ac, dc, hk, hg, hs, ER, EA1, ED1, H4, H12, BW⟩ := hrel
                subst hs
                by_cases hlt : kk < 8
                · have hk0 : (0 : Int) ≤ (kk : Int) := Int.natCast_nonneg _
                  have hk1 : (kk : Int) < 8 := by omega
                  have ha2 : wr.cell? ⟨W.heap.size + 1, kk * 6 + 2, none⟩ = some (.bool (D kk).2.2.1) := (blk_cell H4.out _).trans (ea_at D kk 2 hlt (by decide))
                  have ha3 : wr.cell? ⟨W.heap.size + 1, kk * 6 + 3, none⟩ = some (.bool (D kk).2.2.2.1) := (blk_cell H4.out _).trans (ea_at D kk 3 hlt (by decide))
                  have ha4 : wr.cell? ⟨W.heap.size + 1, kk * 6 + 4, none⟩ = some (.bool (D kk).2.2.2.2.1) := (blk_cell H4.out _).trans (ea_at D kk 4 hlt (by decide))
                  have ha0 : wr.cell? ⟨W.heap.size + 1, 2, none⟩ = some (.bool (D 0).2.2.1) := (blk_cell H4.out _).trans rfl
                  rw [← HZ.out] at ha0
                  have hc3 : wr.cell? ⟨g12, 3, none⟩ = some (.bool ac) := (blk_cell H12.out 3).trans rfl
                  have hc4 : wr.cell? ⟨g12, 4, none⟩ = some (.bool dc) := (blk_cell H12.out 4).trans rfl
                  have hf3 : wr.frozen? ⟨g12, 3, none⟩ = false := blk_frozen H12.out 3
                  have hf4 : wr.frozen? ⟨g12, 4, none⟩ = false := blk_frozen H12.out 4
                  have hne2 : ¬ g12 = W.heap.size + 1 := fun h => hne1 h.symm
                  have HST := Lib.hid (fun (h : (D kk).2.2.1 = (D 0).2.2.1) => any_step (badWrite D) kk (8 - (kk + 1)) (by simp [badWrite, h]))
                  have HHT := Lib.hid (fun (h : ¬ (D kk).2.2.1 = (D 0).2.2.1) => any_hit (badWrite D) kk (8 - (kk + 1)) (by simp [badWrite, h]))
                  have HA1 := Lib.hid (show anyFrom (fun j => (D j).2.2.2.1) kk (8 - (kk + 1) + 1) = ((D kk).2.2.2.1 || anyFrom (fun j => (D j).2.2.2.1) (kk + 1) (8 - (kk + 1))) from rfl)
                  have HD1 := Lib.hid (show anyFrom (fun j => (D j).2.2.2.2.1) kk (8 - (kk + 1) + 1) = ((D kk).2.2.2.2.1 || anyFrom (fun j => (D j).2.2.2.2.1) (kk + 1) (8 - (kk + 1))) from rfl)
                  rw [show 8 - (kk + 1) + 1 = 8 - kk by omega] at HST HHT HA1 HD1
                  rw [← HZ.out] at HST HHT
                  have HLT := Lib.hid hlt
                  have HG := Lib.hid hg
                  generalize hdk : D kk = t at *
                  obtain ⟨t0, t1, t2, t3, t4, t5, t6⟩ := t
                  simp only at HST HHT HA1 HD1 ha2 ha3 ha4 ha0
                  have HDK := Lib.hid hdk
                  clear hlt hg hk hdk
                  by_cases he : t2 = z2
                  · have he1 : (t2 == z2) = true := by simp [he]
                    have HE := Lib.hid he
                    clear he
                    go_wp2_with fail
                    go_quiet (fail)
                    cases ac <;> cases dc
                    all_goals
                      go_upto_region 30 with fail
                      have B4 : ∀ q r : Bool, (((wr.drewN nq).setCell ⟨g12, 3, none⟩ (.bool q)).setCell ⟨g12, 4, none⟩ (.bool r)).heap[W.heap.size + 1]? = some (.cells (EA D) 44 (0, 0)) := fun q r => blk_far (p := ⟨g12, 4, none⟩) (blk_far (p := ⟨g12, 3, none⟩) (blk_drewN H4.out nq) hne1 _) hne1 _
                      have B12 : ∀ q r : Bool, (((wr.drewN nq).setCell ⟨g12, 3, none⟩ (.bool q)).setCell ⟨g12, 4, none⟩ (.bool r)).heap[g12]? = some (.cells #[.int .i64 1, .int .i64 z1, .bool z2, .bool q, .bool r, .bool z5] 23 (0, 0)) := fun q r => blk_set (blk_set (blk_drewN H12.out nq) 3 _) 4 _
                      have D5 : ∀ q r : Bool, Below W.heap.size W (((wr.drewN nq).setCell ⟨g12, 3, none⟩ (.bool q)).setCell ⟨g12, 4, none⟩ (.bool r)) := fun q r => ((pw_below_drewN BW.out _).setCell (p := ⟨g12, 3, none⟩) LE12.out _).setCell (p := ⟨g12, 4, none⟩) LE12.out _
                      refine absw (fun w' => w'.heap[W.heap.size + 1]? = some (.cells (EA D) 44 (0, 0)) ∧ w'.heap[g12]? = some (.cells #[.int .i64 1, .int .i64 z1, .bool z2, .bool _, .bool _, .bool z5] 23 (0, 0)) ∧ Below W.heap.size W w') ⟨B4 _ _, B12 _ _, D5 _ _⟩ ?_
                      clear B4 B12 D5
                      rintro w6 ⟨b4, b12, d6⟩
                      have I4 := Lib.hid b4
                      have I12 := Lib.hid b12
                      have I6 := Lib.hid d6
                      clear b4 b12 d6 ha2 ha3 ha4 ha0 hc3 hc4 hf3 hf4 hne2 H12 BW
                      go_wp2_with fail
                      go_roundg (8 - (kk + 1))
                      case measure => have := HLT.out; have := HG.out; omega
                      case rel => exact ⟨kk + 1, _, _, HLT.out, Nat.le_refl _, by go_num, Lib.hid (ER.out.trans (HST.out HE.out)), Lib.hid (by rw [EA1.out, HA1.out]; simp), Lib.hid (by rw [ED1.out, HD1.out]; simp), I4, I12, I6⟩
                  · have he1 : (t2 == z2) = false := by simp [he]
                    have HE := Lib.hid he
                    clear he
                    go_wp2_with fail
                    go_quiet (fail)
                    go_wp2_with fail
                    go_ret2
                    rw [join_write HE0.out HK0.out HN0.out (HWW.out.symm.trans (ER.out.trans (HHT.out HE.out)))]
                    exact ⟨rfl, pw_below_drewN BW.out _⟩
                · have e8 : kk = 8 := by omega
                  subst e8
                  have hf5 : wr.frozen? ⟨g12, 5, none⟩ = false := blk_frozen H12.out 5
                  have K12 := Lib.hid (blk_set H12.out 5 (.bool true))
                  have K6 := Lib.hid (BW.out.setCell (p := ⟨g12, 5, none⟩) LE12.out (.bool true))
                  have hc5 : wr.cell? ⟨g12, 5, none⟩ = some (.bool z5) := (blk_cell H12.out 5).trans rfl
                  have HR := Lib.hid (join_ok (D := D) (a := ac) (d := dc) HE0.out HK0.out HN0.out (HWW.out.symm.trans ER.out) (HAA.out.symm.trans (EA1.out.trans (Bool.or_false _))) (HDD.out.symm.trans (ED1.out.trans (Bool.or_false _))))
                  clear hk hg hlt H12 BW
                  go_upto_region 32 with fail
                  refine absw (fun w' => w'.heap[g12]? = some (.cells #[.int .i64 1, .int .i64 z1, .bool z2, .bool ac, .bool dc, .bool true] 23 (0, 0)) ∧ Below W.heap.size W w') ⟨K12.out, K6.out⟩ ?_
                  rintro w6 ⟨b12, d6⟩
                  have I12 := Lib.hid b12
                  have I6 := Lib.hid d6
                  clear b12 d6 hf5 hc5 K12 K6
                  go_wp2_with (first | ((with_reducible refine gate_load (p := 9) rfl ?_); refine wpList_load_row rfl 23 _ rfl g12 rfl 23 _ (0, 0) _ I12.out hu rfl infoE ?_) | (go_at_call 13; refine (HENC.out _ _ _ _ _).mono ?_; rintro e w7 ⟨rfl, b7⟩; have I7 := Lib.hid (bth b7 I6.out); clear b7))
                  go_ret2
                  rw [HR.out, ← HZ.out]
                  exact ⟨rfl, I7.out⟩
end Go.Proofs.Ytmmjialpkddgdaa.HandJoin
