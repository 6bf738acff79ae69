/- An argument of the type api.Entry reads as two whole numbers and four bools. -/
import Derived.Test.YtmmjialpkddgdaaProg
import Derived.Test.YtmmjialpkddgdaaOpens
namespace Go.Proofs.Ytmmjialpkddgdaa.Opens
open Go Go.ChangeShapes Go.WideShapes Go.RowKit Go.Deep Go.Proofs.YtmmjialpkddgdaaW.PrintWords

abbrev Ent := Int × Int × Bool × Bool × Bool × Bool
def entK : Kd Ent := Kd.iso (Kd.pair (Kd.int .i64) (Kd.pair (Kd.int .i64) (Kd.pair Kd.bool (Kd.pair Kd.bool (Kd.pair Kd.bool Kd.bool))))) (fun x => x)
theorem ent_opens : Opens Try.prog 23 entK (fun x => (Lit.int .i64 x.1).wf = true ∧ (Lit.int .i64 x.2.1).wf = true ∧ True ∧ True ∧ True ∧ True) :=
  opens_struct (fun x => x) (fun x => x) (fun _ => rfl) Try.underlying23 (by kernel_rfl)
    (opensL_cons rfl (opens_int Try.underlying3 (by kernel_rfl)) (opensL_cons rfl (opens_int Try.underlying3 (by kernel_rfl)) (opensL_cons rfl (opens_bool Try.underlying4 (by kernel_rfl)) (opensL_cons rfl (opens_bool Try.underlying4 (by kernel_rfl)) (opensL_cons rfl (opens_bool Try.underlying4 (by kernel_rfl)) (opensL_one rfl (opens_bool Try.underlying4 (by kernel_rfl))))))))
theorem ent_cells {w : World} {x : Ent} {cs : List Value} (h : entK.K w x cs) : cs = [.int .i64 x.1, .int .i64 x.2.1, .bool x.2.2.1, .bool x.2.2.2.1, .bool x.2.2.2.2.1, .bool x.2.2.2.2.2] := by
  obtain ⟨_, _, rfl, rfl, _, _, rfl, rfl, _, _, rfl, rfl, _, _, rfl, rfl, _, _, rfl, rfl, rfl⟩ := h
  rfl
theorem open_ent {H : Type} {enc : TypeId × Value → H} {W : World} {base b0 : Nat} {spare : Nat → Bool} {held : Bool} {v : Value} {d : DataW H} {p : List MemPlace} (hv : Value.okWide Try.prog W .any b0 23 v) (h : DataW.Trod enc Try.prog W base spare held 23 v d p) :
    ∃ kd n w a u g, v = .agg #[.int .i64 kd, .int .i64 n, .bool w, .bool a, .bool u, .bool g] ∧ (Lit.int .i64 kd).wf = true ∧ (Lit.int .i64 n).wf = true := by
  obtain ⟨cs, rfl, _⟩ := okWide_struct Try.underlying23 hv
  obtain ⟨fuel, hf⟩ := h
  obtain ⟨x, hK, ok⟩ := ent_opens.op enc W base spare held fuel _ _ hf
  have e := ent_cells hK
  refine ⟨x.1, x.2.1, x.2.2.1, x.2.2.2.1, x.2.2.2.2.1, x.2.2.2.2.2, ?_, ok.1, ok.2.1⟩
  have e2 : cs.toList = _ := e
  obtain ⟨l⟩ := cs
  simp only at e2
  rw [e2]
end Go.Proofs.Ytmmjialpkddgdaa.Opens
