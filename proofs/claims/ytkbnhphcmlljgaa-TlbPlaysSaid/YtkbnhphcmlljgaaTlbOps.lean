/- Arguments of the type []estoversref07.Op, read as plain data. -/
import Derived.Test.YtkbnhphcmlljgaaTlbArg
namespace Go.Proofs.Ytkbnhphcmlljgaa.Opens
open Go Go.ChangeShapes Go.WideShapes Go.RowKit Go.Deep Go.Proofs.YtkbnhphcmlljgaaW.PrintWords Go.Proofs.Ytkbnhphcmlljgaa.P Go.Proofs.Ytkbnhphcmlljgaa.TlbP

def wfO (x : Int × Int × Int × Int) : Prop := (Lit.int .i64 x.1).wf = true ∧ (Lit.int .i64 x.2.1).wf = true ∧ (Lit.int .i64 x.2.2.1).wf = true ∧ (Lit.int .u64 x.2.2.2).wf = true
theorem op_opens : Opens Try.prog 49 k49 (fun x : S49 => wfO (x.f0, x.f1, x.f2, x.f3)) :=
  opens_struct (ok := wfO) (fun x : S49 => (x.f0, x.f1, x.f2, x.f3)) (fun a => ⟨a.1, a.2.1, a.2.2.1, a.2.2.2⟩) (fun _ => rfl) Try.underlying49 (by kernel_rfl)
    (opensL_cons rfl (opens_int Try.underlying3 (by kernel_rfl)) (opensL_cons rfl (opens_int Try.underlying3 (by kernel_rfl)) (opensL_cons rfl (opens_int Try.underlying3 (by kernel_rfl)) (opensL_one rfl (opens_int Try.underlying31 (by kernel_rfl))))))
theorem open_ops {H : Type} {enc : TypeId × Value → H} {W : World} {base b0 : Nat} {spare : Nat → Bool} {held : Bool} {v : Value} {d : DataW H} {p : List MemPlace} (hv : Value.okWide Try.prog W .any b0 46 v) (h : DataW.Trod enc Try.prog W base spare held 46 v d p) :
    ∃ A c, ∃ l : List S49, v = .slice A l.length c ∧ Kd.C k49 W A l.length l ∧ l.length ≤ c ∧ (∀ y ∈ l, inU y.f3 = true) ∧ (∀ y ∈ l, wfO (y.f0, y.f1, y.f2, y.f3)) := by
  obtain ⟨a0, len, cap, rfl⟩ := okWide_slice Try.underlying46 hv
  obtain ⟨fuel, hf⟩ := h
  obtain ⟨l, hK, ok⟩ := (opens_slice Try.underlying46 (by kernel_rfl) op_opens).op enc W base spare held fuel _ _ hf
  obtain ⟨A, c, hcs, hc, hC⟩ := hK
  have hcs' : [Value.slice a0 len cap] = [.slice A l.length c] := hcs
  injection hcs' with e1 _
  refine ⟨A, c, l, e1, hC, hc, fun y hy => ?_, ok⟩
  have h4 := (ok y hy).2.2.2
  simp [Lit.wf, IntKind.min, IntKind.max, IntKind.signed, IntKind.bits] at h4
  unfold inU
  simp
  omega
end Go.Proofs.Ytkbnhphcmlljgaa.Opens
