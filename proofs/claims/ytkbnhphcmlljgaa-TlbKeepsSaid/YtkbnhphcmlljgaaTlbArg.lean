/- Arguments of the types api.Tlb and [2]int, read as plain data. -/
import Derived.Test.YtkbnhphcmlljgaaOpens
import Derived.Test.YtkbnhphcmlljgaaTlbP
namespace Go.Proofs.Ytkbnhphcmlljgaa.Opens
open Go Go.ChangeShapes Go.WideShapes Go.RowKit Go.Deep Go.Proofs.YtkbnhphcmlljgaaW.PrintWords Go.Proofs.Ytkbnhphcmlljgaa.P Go.Proofs.Ytkbnhphcmlljgaa.TlbP

def wfE (x : Int × Int × Int) : Prop := (Lit.int .i64 x.1).wf = true ∧ (Lit.int .i64 x.2.1).wf = true ∧ (Lit.int .u64 x.2.2).wf = true
theorem entry_opens : Opens Try.prog 42 k42 (fun x : E => wfE (x.f0, x.f1, x.f2)) :=
  opens_struct (ok := wfE) (fun x : E => (x.f0, x.f1, x.f2)) (fun a => ⟨a.1, a.2.1, a.2.2⟩) (fun _ => rfl) Try.underlying42 (by kernel_rfl)
    (opensL_cons rfl (opens_int Try.underlying3 (by kernel_rfl)) (opensL_cons rfl (opens_int Try.underlying3 (by kernel_rfl)) (opensL_one rfl (opens_int Try.underlying31 (by kernel_rfl)))))
theorem wf_okw {x : E} (h : wfE (x.f0, x.f1, x.f2)) : okw x = true := by
  have h2 := h.2.2
  unfold okw inU
  simp [Lit.wf, IntKind.min, IntKind.max, IntKind.signed, IntKind.bits] at h2
  simp
  omega
abbrev Cache := Int × List E
def tlbK : Kd Cache := Kd.iso (Kd.pair (Kd.int .i64) (Kd.slice 42 k42)) (fun x => x)
theorem tlb_opens : Opens Try.prog 24 tlbK (fun x => (Lit.int .i64 x.1).wf = true ∧ ∀ y ∈ x.2, wfE (y.f0, y.f1, y.f2)) :=
  opens_struct (fun x => x) (fun x => x) (fun _ => rfl) Try.underlying24 (by kernel_rfl)
    (opensL_cons rfl (opens_int Try.underlying3 (by kernel_rfl)) (opensL_one rfl (opens_slice Try.underlying22 (by kernel_rfl) entry_opens)))
theorem wf_bounds {n : Int} (h : (Lit.int .i64 n).wf = true) : -9223372036854775808 ≤ n ∧ n ≤ 9223372036854775807 := by
  simp [Lit.wf, IntKind.min, IntKind.max, IntKind.signed, IntKind.bits] at h; omega
theorem open_tlb {H : Type} {enc : TypeId × Value → H} {W : World} {base b0 : Nat} {spare : Nat → Bool} {held : Bool} {v : Value} {d : DataW H} {p : List MemPlace} (hv : Value.okWide Try.prog W .any b0 24 v) (h : DataW.Trod enc Try.prog W base spare held 24 v d p) :
    ∃ n A c, ∃ l : List E, v = .agg #[.int .i64 n, .slice A l.length c] ∧ Kd.C k42 W A l.length l ∧ l.length ≤ c ∧ (∀ y ∈ l, okw y = true) ∧ -9223372036854775808 ≤ n ∧ n ≤ 9223372036854775807 := by
  obtain ⟨cs, rfl, _⟩ := okWide_struct Try.underlying24 hv
  obtain ⟨fuel, hf⟩ := h
  obtain ⟨x, hK, ok⟩ := tlb_opens.op enc W base spare held fuel _ _ hf
  obtain ⟨_, _, hcs, rfl, ⟨A, c, rfl, hc, hC⟩⟩ := hK
  have hb := wf_bounds ok.1
  refine ⟨x.1, A, c, x.2, ?_, hC, hc, fun y hy => wf_okw (ok.2 y hy), hb.1, hb.2⟩
  have e2 : cs.toList = _ := hcs
  obtain ⟨l⟩ := cs
  simp only at e2
  rw [e2]
  rfl
theorem okWide_arr {P : Program} {W : World} {base : Nat} {t e : TypeId} {n : Nat} {v : Value} (ht : P.underlying t = some (.array n e)) (h : Value.okWide P W .any base t v) : ∃ cs, v = .agg cs ∧ cs.size = P.cellsOf t := by
  simp only [Value.okWide, ht] at h
  obtain ⟨cs, h1, h2, _⟩ := h
  exact ⟨cs, h1, h2⟩
theorem open_pair {H : Type} {enc : TypeId × Value → H} {W : World} {base b0 : Nat} {spare : Nat → Bool} {held : Bool} {v : Value} {d : DataW H} {p : List MemPlace} (hv : Value.okWide Try.prog W .any b0 35 v) (h : DataW.Trod enc Try.prog W base spare held 35 v d p) :
    ∃ a b, v = .agg #[.int .i64 a, .int .i64 b] ∧ (-9223372036854775808 ≤ a ∧ a ≤ 9223372036854775807) ∧ -9223372036854775808 ≤ b ∧ b ≤ 9223372036854775807 := by
  obtain ⟨cs, rfl, _⟩ := okWide_arr Try.underlying35 hv
  obtain ⟨fuel, hf⟩ := h
  obtain ⟨xs, hl, hc, hw⟩ := open_array Try.underlying35 (by kernel_rfl) (opens_int Try.underlying3 (by kernel_rfl)) enc W base spare held fuel _ _ hf
  match xs, hl with
  | [a, b], _ =>
    obtain ⟨c0, c1, e0, k0, c2, c3, e1, k1, e2⟩ := hc
    have e0' : cs.toList = c0 ++ c1 := e0
    have e : cs.toList = [.int .i64 a, .int .i64 b] := by rw [e0', e1, e2, k0, k1]; rfl
    refine ⟨a, b, ?_, wf_bounds (hw a (by simp)), wf_bounds (hw b (by simp))⟩
    obtain ⟨l⟩ := cs
    simp only at e
    rw [e]
end Go.Proofs.Ytkbnhphcmlljgaa.Opens
