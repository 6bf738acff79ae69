/- After any calls the cache is valid, no page is covered by two entries, and there are at most as many entries as its size; the arguments read behind the call as they read before. No condition. -/
import Derived.Test.YtkbnhphcmlljgaaRows
import Derived.Test.YtkbnhphcmlljgaaPx21
import Derived.Test.YtkbnhphcmlljgaaPureTlbOnce
import Derived.Test.YtkbnhphcmlljgaaTlbOps
import Derived.WalkKit
import Derived.ProofKit
import Derived.OpenShut
import Derived.ShutString
import Derived.ChangeOld
import Derived.Below
import Derived.SizedLaws
import Derived.Carry
namespace Go.Proofs.Ytkbnhphcmlljgaa.tlbOnce
open Go.ChangeShapes Go.WideShapes Go.ChangeAt Go.RowKit Go.Proofs.YtkbnhphcmlljgaaW.PrintWords Go.Proofs.Ytkbnhphcmlljgaa.Opens Go.Proofs.Ytkbnhphcmlljgaa.P
set_option linter.unusedVariables false
theorem own : ownKnob Try.prog.godebug = none := by kernel_rfl
theorem laid : laidOutB Try.prog = true := by kernel_rfl
set_option maxRecDepth 100000 in
theorem lifted (os : Os) (started : os.Started) (H : Type) (enc : TypeId × Value → H) :
    ReturnsInHanded {} Try.checked os 9 .any (Rows.tlbOnceSpec.pre6 enc Try.prog Try.f9 Rows.tlbOnceRow.domain false) (Rows.tlbOnceSpec.post enc Try.prog Try.f9 false true false false) := by
  refine returnsInHanded_of_change_sized (C := Try.checked) own started (by kernel_rfl) Try.func9
    (ChangeSpec.witness6 (enc := enc) (C := Try.checked) false ⟨#[], #[.int .u8 0, .slice none 0 0, .agg #[.int .i64 0, .int .i64 0]], []⟩ 8 (by kernel_rfl) (by kernel_rfl) (by kernel_rfl) (by kernel_rfl)) ?_
  intro W base args ds gs before hval0 hW hcnd hsz0 _
  have hval : ∀ (j : Nat) t v, Try.f9.params[j]? = some t → args[j]? = some v → Value.okWide Try.prog W .any base t v := hval0
  have hW' := hW
  obtain ⟨p, q, hA0, hV, rfl, hfz, hnd⟩ := hW
  have hA : DataW.TrodAll enc Try.prog W 0 (fun _ => true) true Try.f9.params.toList args.toList ds p := hA0
  rw [Try.params9] at hA hval
  obtain ⟨v0, vs0, d0, ds0, p0, q0, hargs, rfl, rfl, h0, r0⟩ := trodAll_cons hA
  obtain ⟨v1, vs1, d1, ds1, p1, q1, rfl, rfl, rfl, h1, r1⟩ := trodAll_cons r0
  obtain ⟨v2, vs2, d2, ds2, p2, q2, rfl, rfl, rfl, h2, r2⟩ := trodAll_cons r1
  obtain ⟨rfl, rfl, rfl⟩ := trodAll_nil r2
  obtain rfl : args = #[v0, v1, v2] := by cases args; simp_all
  obtain ⟨rfl, rfl⟩ := trodVars_none hV
  have hlt : ∀ x ∈ p0 ++ p1 ++ p2 ++ [], x.block < W.heap.size := fun x hx => by simpa using hW'.lt x (by simpa using hx)
  have k0 := h0
  have hlt0 : ∀ x ∈ p0, x.block < W.heap.size := fun x hx => hlt x (by simp [hx])
  have k1 := h1
  have hlt1 : ∀ x ∈ p1, x.block < W.heap.size := fun x hx => hlt x (by simp [hx])
  have k2 := h2
  have hlt2 : ∀ x ∈ p2, x.block < W.heap.size := fun x hx => hlt x (by simp [hx])
  obtain ⟨x, rfl, rfl, rfl, wx⟩ := open_int Try.underlying5 (hval 0 5 _ rfl rfl) h0
  have bx : 0 ≤ x ∧ x ≤ 255 := by simp [Lit.wf, IntKind.min, IntKind.max, IntKind.signed, IntKind.bits] at wx; omega
  obtain ⟨A, c, l, rfl, hC, hc, hl, _⟩ := open_ops (hval 1 46 _ rfl rfl) h1
  obtain ⟨s, p, rfl, bs, bp⟩ := open_pair (hval 2 35 _ rfl rfl) h2
  clear hA0 hval0
  refine (estoverslaw07_TlbOnce.calls 600 x A c l s p true W hC hc (PureTlbOnce.main x s p l bx hl)).mono fun e W' ⟨he, bel⟩ => ?_
  subst he
  exact ⟨_, rfl, _, _, _, [], _, [], hW', trodAll_mk1 (shut_bool Try.underlying4 _), (trodAll_cons_mk (Below.trod laid (by kernel_rfl) (of_decide_eq_true (by kernel_rfl)) k0 bel hlt0) (trodAll_cons_mk (Below.trod laid (by kernel_rfl) (of_decide_eq_true (by kernel_rfl)) k1 bel hlt1) (trodAll_cons_mk (Below.trod laid (by kernel_rfl) (of_decide_eq_true (by kernel_rfl)) k2 bel hlt2) trodAll_mk0))), rfl, bel.frame _, fun h => by cases h⟩
theorem over : Rows.tlbOnceRow.holds Try.pinned (OpenSpec.ofChange Rows.tlbOnceSpec) :=
  OpenClaim.holds_of_wide 9 Try.f9 rfl rfl rfl rfl rfl rfl rfl ⟨rfl, rfl, rfl, rfl, rfl⟩ rfl rfl rfl rfl rfl (by kernel_rfl) Try.func9 (by kernel_rfl)
    (of_decide_eq_true (by kernel_rfl)) (by unfold Func.isWrapper; first | (rw [if_pos (by decide +kernel)]; kernel_rfl) | (rw [if_neg (by decide +kernel)]; exact ⟨rfl, rfl⟩))
    (fun os started H enc _ => lifted os started H enc)
theorem proved : Rows.TlbOnceSaid := over
#print axioms proved
end Go.Proofs.Ytkbnhphcmlljgaa.tlbOnce
namespace Go.Proofs.Ytkbnhphcmlljgaa
/-- The row, under a short name, for the claim. -/
theorem tlbOnce_holds : Rows.TlbOnceSaid := tlbOnce.proved
end Go.Proofs.Ytkbnhphcmlljgaa
