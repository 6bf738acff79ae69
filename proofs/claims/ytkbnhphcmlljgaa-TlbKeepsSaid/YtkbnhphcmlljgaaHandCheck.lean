/- tlb.Check: the first error of a cache, as the plain function tells it; the entries' words are words. -/
import Derived.Test.YtkbnhphcmlljgaaHandOver
set_option linter.unusedVariables false
set_option linter.unusedSimpArgs false
namespace Go.Proofs.Ytkbnhphcmlljgaa.P
open Go.RowKit Go.Proofs.Ytkbnhphcmlljgaa.TlbP
/-- What tlb.Check answers. -/
def tlb_Check.f (n : Int) (l : List S42) : Option Int := if l.all okw = true then some (checkP n l) else none
end Go.Proofs.Ytkbnhphcmlljgaa.P
namespace Go.Proofs.Ytkbnhphcmlljgaa.Hand
open Go.RowKit Go.Proofs.Ytkbnhphcmlljgaa.P Go.Proofs.Ytkbnhphcmlljgaa.TlbP Go.Proofs.Ytkbnhphcmlljgaa.Pte Go.Proofs.YtkbnhphcmlljgaaW.PrintWords Go.Proofs.YtkbnhphcmlljgaaW.PrintLast Go.Shelf

theorem scan_step (l : List E) (kk : Nat) (hk : kk < l.length) : scan (l.take kk) (l.drop kk) = if entryErr (l.take kk) l[kk] ≠ 0 then entryErr (l.take kk) l[kk] else scan (l.take (kk + 1)) (l.drop (kk + 1)) := by
  rw [List.drop_eq_getElem_cons hk]
  simp only [scan]
  rw [List.take_succ_eq_append_getElem hk]

theorem err3a (pre : List E) (x : E) (h : placeP x.f0 x.f1 = 0) (ho : trOk x.f2 = false) : entryErr pre x = 3 := by
  unfold entryErr; rw [if_neg (by rw [h]; simp), if_pos (.inl ho)]
theorem err3b (pre : List E) (x : E) (h : placeP x.f0 x.f1 = 0) (hh : trHuge x.f2 = true) (ht : Int.tmod x.f1 8 ≠ 0) : entryErr pre x = 3 := by
  unfold entryErr; rw [if_neg (by rw [h]; simp), if_pos (.inr ⟨hh, ht⟩)]
theorem err7 (pre : List E) (x : E) (h : placeP x.f0 x.f1 = 0) (ho : trOk x.f2 = true) (hh : ¬ (trHuge x.f2 = true ∧ Int.tmod x.f1 8 ≠ 0)) : entryErr pre x = if pre.any (fun y => overlapP x y) = true then 7 else 0 := by
  unfold entryErr
  rw [if_neg (by rw [h]; simp), if_neg (fun h => h.elim (fun h => by rw [ho] at h; cases h) hh)]
set_option maxHeartbeats 4000000 in
theorem check_calls (n : Int) (A : Option Addr) (c : Nat) (l : List E) (hl : ∀ x ∈ l, okw x = true) (W : World) (hC : Kd.C k42 W A l.length l) (hc : l.length ≤ c) :
    Calls Try.prog 16 #[.agg #[.int .i64 n, .slice A l.length c]] W fun e w' => e = .returned (.int .i64 (checkP n l)) ∧ Below W.heap.size W w' := by
  have hu := Try.underlying42
  have hu2 := Try.underlying24
  unfold checkP
  by_cases hn : n < 1 ∨ 16 < n
  · rw [if_pos hn]
    rcases hn with hn | hn
    · go_enter Try.func16, Try.ntmps16
      go_wp2
      go_ret
      exact ⟨rfl, below_alloc (Below.refl _ _) _⟩
    · have hn1 : ¬ n < 1 := by omega
      go_enter Try.func16, Try.ntmps16
      go_wp2
      go_ret
      exact ⟨rfl, below_alloc (Below.refl _ _) _⟩
  · rw [if_neg hn]
    have hn1 : ¬ n < 1 := by omega
    have hn2 : ¬ 16 < n := by omega
    clear hn
    by_cases hf : n < (l.length : Int)
    · rw [if_pos hf]
      clear hC hl hc
      generalize l.length = m at hf
      go_enter Try.func16, Try.ntmps16
      go_wp2
      go_ret
      exact ⟨rfl, below_alloc (Below.refl _ _) _⟩
    · rw [if_neg hf]
      have hlen : l.length ≤ 9223372036854775807 := hC.2.1
      have HL := Lib.hid hl
      have HC := Lib.hid hC
      have S0 : scan [] l = scan (l.take 0) (l.drop 0) := by simp
      have HS := Lib.hid S0
      clear hl hC S0
      generalize hm : l.length = m at *
      have HN := Lib.hid hm
      clear hm
      go_enter Try.func16, Try.ntmps16
      go_wp2
      go_loopg [25] m (fun gg s25 wr => ∃ kk : Nat, kk ≤ m ∧ m - kk ≤ gg ∧ s25 = .int .i64 kk ∧ Hid (Below W.heap.size W wr) ∧ Hid (wr.heap[W.heap.size]? = some (.cells #[.int .i64 n, .slice A m c] 24 (0, 0))) ∧ Hid (scan [] l = scan (l.take kk) (l.drop kk)))
      case atStart => exact ⟨0, Nat.zero_le _, by omega, rfl, Lib.hid (below_alloc (Below.refl _ W) _), Lib.hid (blk_new _ _), HS⟩
      case round =>
        obtain ⟨kk, hkk, hg, rfl, BW, BX, SC⟩ := hrel
        by_cases hlt : kk < m
        · have hltz : (kk : Int) < (m : Int) := by omega
          have hk : kk < l.length := by have := HN.out; omega
          have hcw := Kd.C_below HC.out BW.out
          obtain ⟨ad, e, c0, c1, c2⟩ := at_T42 hcw (kk : Int) (by omega) (by omega)
          subst e
          rw [rd_get l kk hk] at c0 c1 c2
          have hx := HL.out _ (List.getElem_mem hk)
          have hst := scan_step l kk hk
          have hct : Kd.C k42 W (some ad) (l.take kk).length (l.take kk) := Kd.C_take (by rw [HN.out]; exact HC.out) (by omega)
          have hlt_ : (l.take kk).length = kk := by rw [List.length_take]; omega
          have HT : Hid (∀ y ∈ l.take kk, okw y = true) := Lib.hid (fun y hy => HL.out y (List.mem_of_mem_take hy))
          have HCT := Lib.hid hct
          have HLT := Lib.hid hlt_
          have HST := Lib.hid (SC.out.trans hst)
          clear hcw hct hlt_ hst SC
          generalize l[kk] = x at c0 c1 c2 hx HST
          simp only [Int.toNat_natCast] at c0 c1 c2
          have hpl := place_calls x.f0 x.f1
          have htr := transl_calls x.f2 hx
          by_cases hp : placeP x.f0 x.f1 = 0
          · rw [hp] at hpl
            have PZ := Lib.hid hp
            clear hp
            by_cases ho : trOk x.f2 = true
            · by_cases hh : trHuge x.f2 = true ∧ Int.tmod x.f1 8 ≠ 0
              · obtain ⟨hh1, hh2⟩ := hh
                have hfin : scan [] l = 3 := by rw [HST.out, err3b _ _ PZ.out hh1 hh2]; simp
                have HF := Lib.hid hfin
                rw [ho, hh1] at htr
                have ht : (Int.tmod x.f1 8 != 0) = true := bne_iff_ne.2 hh2
                clear ho hh1 hh2 hfin
                go_wp2_with fail
                refine (hpl _).mono ?_
                rintro e w' ⟨rfl, ⟨⟨nq, rfl⟩⟩⟩
                go_wp2_with fail
                refine (htr _).mono ?_
                rintro e w2 ⟨rfl, b2⟩
                have q1 : w2.cell? ⟨wr.heap.size, 1, none⟩ = some (.int .i64 x.f1) := (blk_cell (blk_below (blk_drewN (blk_new wr (boxE x)) nq) b2) 1).trans rfl
                have D2 := Lib.hid (below_then (pw_below_drewN (below_alloc BW.out (boxE x)) nq) (pw_below_drewN (below_alloc BW.out (boxE x)) nq).size b2)
                clear b2
                go_wp2
                go_ret
                exact ⟨by rw [HF.out]; rfl, D2.out⟩
              · have hfin : scan [] l = if (l.take kk).any (fun y => overlapP x y) = true then 7 else scan (l.take (kk + 1)) (l.drop (kk + 1)) := by
                  rw [HST.out, err7 _ _ PZ.out ho hh]
                  by_cases ha : (l.take kk).any (fun y => overlapP x y) = true <;> simp [ha]
                have HF := Lib.hid hfin
                have HH : Hid (trHuge x.f2 = false ∨ (trHuge x.f2 = true ∧ Int.tmod x.f1 8 = 0)) := Lib.hid (by
                  cases hq : trHuge x.f2 with
                  | false => exact .inl rfl
                  | true => exact .inr ⟨rfl, Classical.byContradiction fun h => hh ⟨hq, h⟩⟩)
                rw [ho] at htr
                clear ho hh hfin HST PZ
                go_wp2_with fail
                refine (hpl _).mono ?_
                rintro e w' ⟨rfl, ⟨⟨nq, rfl⟩⟩⟩
                go_wp2_with fail
                refine (htr _).mono ?_
                rintro e w2 ⟨rfl, b2⟩
                have hbx := blk_below (blk_drewN (blk_new wr (boxE x)) nq) b2
                have hb1 := blk_below (blk_drewN (blk_alloc BX.out (boxE x)) nq) b2
                have D2 := Lib.hid (below_then (pw_below_drewN (below_alloc BW.out (boxE x)) nq) (pw_below_drewN (below_alloc BW.out (boxE x)) nq).size b2)
                have q1 : w2.cell? ⟨wr.heap.size, 1, none⟩ = some (.int .i64 x.f1) := (blk_cell hbx 1).trans rfl
                have q2 : w2.cell? ⟨W.heap.size, 1, none⟩ = some (.slice (some ad) m c) := (blk_cell hb1 1).trans rfl
                have hcn := contains_calls (fun y => overlapP x y) 33 #[.pointer (some ⟨wr.heap.size, 0, none⟩)] (enters _ _ _ Try.func33 (by kernel_rfl) rfl) w2.heap.size w2 w2 (check1_pred wr.heap.size x hx w2.heap.size w2 (blk_lt hbx) hbx) (Below.refl _ _) (Nat.le_refl _) (some ad) c (l.take kk) HT.out (Kd.C_below HCT.out D2.out)
                rw [HLT.out] at hcn
                obtain ⟨i, hi, hs⟩ := Option.map_eq_some_iff.1 infoT
                have hsl := cut_to 22 42 .i64 Try.underlying22 hi (some ad) m c (kk : Int) (by omega) (by omega) hc
                simp only [Int.toNat_natCast] at hsl
                have HB1 := Lib.hid hb1
                clear b2 hbx hb1 hi hs htr hpl c0 c1 c2
                generalize (l.take kk).any (fun y => overlapP x y) = r at hcn HF
                cases r with
                | true =>
                  have hfin : scan [] l = 7 := by rw [HF.out]; simp
                  have HF2 := Lib.hid hfin
                  clear hfin HF
                  rcases HH.out with hh | ⟨hh, ht⟩
                  · have HHH := Lib.hid hh
                    rw [hh]
                    clear hh HH
                    go_wp2_with (go_at_call 32; refine hcn.mono ?_; rintro e w3 ⟨rfl, b3⟩)
                    go_ret
                    exact ⟨by rw [HF2.out]; rfl, below_then D2.out D2.out.size b3⟩
                  · rw [hh]
                    have hb : (Int.tmod x.f1 8 != 0) = false := bne_eq_false_iff_eq.2 ht
                    clear hh HH ht
                    go_wp2_with (go_at_call 32; refine hcn.mono ?_; rintro e w3 ⟨rfl, b3⟩)
                    go_ret
                    exact ⟨by rw [HF2.out]; rfl, below_then D2.out D2.out.size b3⟩
                | false =>
                  have hfin : scan [] l = scan (l.take (kk + 1)) (l.drop (kk + 1)) := by rw [HF.out]; simp
                  have HF2 := Lib.hid hfin
                  clear hfin HF
                  rcases HH.out with hh | ⟨hh, ht⟩
                  · rw [hh]
                    clear hh HH
                    go_wp2_with (go_at_call 32; refine hcn.mono ?_; rintro e w3 ⟨rfl, b3⟩)
                    go_roundg (m - (kk + 1))
                    case measure => omega
                    case rel => exact ⟨kk + 1, by omega, by omega, by go_num, Lib.hid (below_then D2.out D2.out.size b3), Lib.hid (blk_below HB1.out b3), HF2⟩
                  · rw [hh]
                    have hb : (Int.tmod x.f1 8 != 0) = false := bne_eq_false_iff_eq.2 ht
                    clear hh HH ht
                    go_wp2_with (go_at_call 32; refine hcn.mono ?_; rintro e w3 ⟨rfl, b3⟩)
                    go_roundg (m - (kk + 1))
                    case measure => omega
                    case rel => exact ⟨kk + 1, by omega, by omega, by go_num, Lib.hid (below_then D2.out D2.out.size b3), Lib.hid (blk_below HB1.out b3), HF2⟩
            · have ho' : trOk x.f2 = false := by simpa using ho
              have hfin : scan [] l = 3 := by rw [HST.out, err3a _ _ PZ.out ho']; simp
              have HF := Lib.hid hfin
              rw [ho'] at htr
              clear ho ho' hfin
              go_wp2_with fail
              refine (hpl _).mono ?_
              rintro e w' ⟨rfl, ⟨⟨nq, rfl⟩⟩⟩
              go_wp2_with fail
              refine (htr _).mono ?_
              rintro e w2 ⟨rfl, b2⟩
              have D2 := Lib.hid (below_then (pw_below_drewN (below_alloc BW.out (boxE x)) nq) (pw_below_drewN (below_alloc BW.out (boxE x)) nq).size b2)
              clear b2
              go_wp2
              go_ret
              exact ⟨by rw [HF.out]; rfl, D2.out⟩
          · have hp2 : placeP x.f0 x.f1 = 2 := by unfold placeP at hp ⊢; split at hp <;> simp_all
            have hfin : scan [] l = 2 := by rw [HST.out]; unfold entryErr; rw [if_pos hp]; simp
            rw [hp2] at hpl
            have HF := Lib.hid hfin
            clear hp hp2 hfin htr
            go_wp2_with fail
            refine (hpl _).mono ?_
            rintro e w' ⟨rfl, ⟨⟨nq, rfl⟩⟩⟩
            go_wp2
            go_ret
            exact ⟨by rw [HF.out]; rfl, pw_below_drewN (below_alloc BW.out _) _⟩
        · have hltz : ¬ (kk : Int) < (m : Int) := by omega
          have hkn : kk = m := by omega
          have hfin : scan [] l = 0 := by rw [SC.out, List.drop_eq_nil_of_le (by have := HN.out; omega)]; rfl
          have HF := Lib.hid hfin
          clear hlt hg hkk hfin SC
          subst hkn
          go_wp2
          go_ret
          exact ⟨by rw [HF.out]; rfl, BW.out⟩
end Go.Proofs.Ytkbnhphcmlljgaa.Hand
namespace Go.Proofs.Ytkbnhphcmlljgaa.P
open Go.RowKit Go.Proofs.Ytkbnhphcmlljgaa.TlbP Go.Proofs.Ytkbnhphcmlljgaa.Hand Go.Proofs.YtkbnhphcmlljgaaW.PrintWords
theorem tlb_Check.calls (a0_0 : Int) (A0_1 : Option Addr) (c0_1 : Nat) (l0_1 : List S42) (r : Int) (w : World) (hr0_1 : Kd.C k42 w A0_1 l0_1.length l0_1) (hc0_1 : l0_1.length ≤ c0_1) (h : tlb_Check.f a0_0 l0_1 = some r) :
    Calls Try.prog 16 #[.agg #[.int .i64 a0_0, .slice A0_1 l0_1.length c0_1]] w fun e w' => e = .returned (.int .i64 r) ∧ Below w.heap.size w w' := by
  unfold tlb_Check.f at h
  split at h
  · rename_i hl
    obtain rfl := Option.some.inj h
    exact check_calls a0_0 A0_1 c0_1 l0_1 (List.all_eq_true.1 hl) w hr0_1 hc0_1
  · cases h
end Go.Proofs.Ytkbnhphcmlljgaa.P
