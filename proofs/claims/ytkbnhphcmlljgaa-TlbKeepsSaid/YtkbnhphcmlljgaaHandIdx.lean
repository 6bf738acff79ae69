/- slices.IndexFunc and slices.ContainsFunc at []api.TlbEntry, at whatever predicate that answers and lays blocks of its own alone. -/
import Derived.Test.YtkbnhphcmlljgaaTlbP
import Derived.Deep.LoopGhost
import Derived.Shelf.Abstract
import Derived.Lib.Hide
set_option linter.unusedVariables false
set_option linter.unusedSimpArgs false
namespace Go.Proofs.Ytkbnhphcmlljgaa.Hand
open Go.RowKit Go.Proofs.Ytkbnhphcmlljgaa.P Go.Proofs.Ytkbnhphcmlljgaa.TlbP Go.Proofs.YtkbnhphcmlljgaaW.PrintWords Go.Proofs.YtkbnhphcmlljgaaW.PrintLast Go.Shelf

def encE (x : E) : Value := .agg #[.int .i64 x.f0, .int .i64 x.f1, .int .u64 x.f2]
/-- A predicate, as a function value: in every world that is above w0 from B on, it answers p and lays blocks of its own alone. -/
def Pred (g : FuncId) (lb : Array Value) (p : E → Bool) (B : Nat) (w0 : World) : Prop :=
  ∀ (x : E) (W : World), okw x = true → Below B w0 W → B ≤ W.heap.size → Calls Try.prog g (#[encE x] ++ lb) W fun e w' => e = .returned (.bool (p x)) ∧ Below W.heap.size W w'

set_option maxHeartbeats 2000000 in
theorem idx_calls (p : E → Bool) (g : FuncId) (lb : Array Value) (eg : ∀ args w, (callFunc g args).run Try.prog w = .ok (.enter g args) w) (B : Nat) (w0 W : World) (hp : Pred g lb p B w0) (hB : Below B w0 W) (hs : B ≤ W.heap.size) (A : Option Addr) (c : Nat) (l : List E) (hl : ∀ x ∈ l, okw x = true) (hC : Kd.C k42 W A l.length l) :
    Calls Try.prog 48 #[.slice A l.length c, .func (.func g) #[] lb] W fun e w' => e = .returned (.int .i64 (idxOf p l)) ∧ Below W.heap.size W w' := by
  have hu := Try.underlying42
  have hlen : l.length ≤ 9223372036854775807 := hC.2.1
  have HL := Lib.hid hl
  have HC := Lib.hid hC
  have HP := Lib.hid hp
  have HB := Lib.hid hB
  clear hl hC hp hB
  generalize hn : l.length = n at *
  have HN := Lib.hid hn
  clear hn
  go_enter Try.func48, Try.ntmps48
  go_wp2
  go_loopg [5, 8] n (fun gg _ s8 wr => ∃ kk : Nat, kk ≤ n ∧ n - kk ≤ gg ∧ s8 = .int .i64 kk ∧ Hid (Below W.heap.size W wr) ∧ Hid (∀ j, j < kk → ∀ hj : j < l.length, p l[j] = false))
  case atStart => exact ⟨0, Nat.zero_le _, by omega, rfl, Lib.hid (Below.refl _ W), Lib.hid (fun j hj => absurd hj (Nat.not_lt_zero _))⟩
  case round =>
    obtain ⟨kk, hkk, hg, rfl, BW, AA⟩ := hrel
    by_cases hlt : kk < n
    · have hltz : (kk : Int) < (n : Int) := by omega
      obtain ⟨ad, e, c0, c1, c2⟩ := at_T42 (Kd.C_below HC.out BW.out) (kk : Int) (by omega) (by omega)
      subst e
      have hk : kk < l.length := by have := HN.out; omega
      rw [rd_get l kk hk] at c0 c1 c2
      have hcall := HP.out l[kk] wr (HL.out _ (List.getElem_mem hk)) (below_then HB.out hs BW.out) (Nat.le_trans hs BW.out.size)
      generalize hy : l[kk] = y at c0 c1 c2 hcall
      have HY := Lib.hid hy
      clear hy
      simp only [Int.toNat_natCast] at c0 c1 c2
      unfold encE at hcall
      cases hq : p y with
      | true =>
        rw [hq] at hcall
        have HQ := Lib.hid hq
        clear hq
        go_wp2_with (go_at_fn g; refine hcall.mono ?_; rintro e w' ⟨rfl, hb'⟩)
        go_ret
        refine ⟨?_, below_then BW.out BW.out.size hb'⟩
        rw [idx_hit p l kk hk (by rw [HY.out]; exact HQ.out) AA.out]
        rfl
      | false =>
        rw [hq] at hcall
        have HQ := Lib.hid hq
        clear hq
        go_wp2_with (go_at_fn g; refine hcall.mono ?_; rintro e w' ⟨rfl, hb'⟩)
        go_roundg (n - (kk + 1))
        case measure => omega
        case rel =>
          refine ⟨kk + 1, by omega, by omega, by go_num, Lib.hid (below_then BW.out BW.out.size hb'), Lib.hid (fun j hj hjl => ?_)⟩
          by_cases e : j = kk
          · subst e
            rw [HY.out]; exact HQ.out
          · exact AA.out j (by omega) hjl
    · have hltz : ¬ (kk : Int) < (n : Int) := by omega
      have hkn : kk = n := by omega
      clear hlt hg hkk
      subst hkn
      go_wp2
      go_ret
      refine ⟨?_, BW.out⟩
      rw [idx_miss p l (fun j hj => AA.out j (by have := HN.out; omega) hj)]
      rfl

theorem contains_calls (p : E → Bool) (g : FuncId) (lb : Array Value) (eg : ∀ args w, (callFunc g args).run Try.prog w = .ok (.enter g args) w) (B : Nat) (w0 W : World) (hp : Pred g lb p B w0) (hB : Below B w0 W) (hs : B ≤ W.heap.size) (A : Option Addr) (c : Nat) (l : List E) (hl : ∀ x ∈ l, okw x = true) (hC : Kd.C k42 W A l.length l) :
    Calls Try.prog 32 #[.slice A l.length c, .func (.func g) #[] lb] W fun e w' => e = .returned (.bool (l.any p)) ∧ Below W.heap.size W w' := by
  have hi := fun W' (h : W' = W) => h ▸ idx_calls p g lb eg B w0 W hp hB hs A c l hl hC
  have e := idx_nonneg p l
  generalize l.any p = r at e
  generalize idxOf p l = i at e hi
  generalize l.length = n at hi
  have HE := Lib.hid e
  clear e hp hB hs hl hC
  go_enter Try.func32, Try.ntmps32
  go_wp2_with (go_at_call 48; refine (hi _ rfl).mono ?_; rintro e w' ⟨rfl, hb'⟩)
  go_ret
  exact ⟨by first | rfl | (rw [← HE.out]; rfl), hb'⟩
end Go.Proofs.Ytkbnhphcmlljgaa.Hand
