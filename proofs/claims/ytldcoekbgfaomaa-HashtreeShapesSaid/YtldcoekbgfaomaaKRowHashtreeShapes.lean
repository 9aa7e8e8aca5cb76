/- HashtreeShapes: returns true for every input, and the input reads as it did. No conditions. -/
import Derived.Test.YtldcoekbgfaomaaRows
import Derived.Test.YtldcoekbgfaomaaUe
import Derived.WalkKit
import Derived.ProofKit
import Derived.OpenShut
import Derived.ShutString
import Derived.ChangeOld
import Derived.Below
import Derived.SizedLaws
set_option linter.unusedVariables false
set_option linter.unusedSimpArgs false
namespace Go.Proofs.Ytldcoekbgfaomaa.hashtreeShapes
open Go.ChangeShapes Go.WideShapes Go.ChangeAt Go.RowKit
theorem jf1 : (Rows.hashtreeShapesRow.inPlace == Try.pinned.checked.prog.inPlace 9) = true := by kernel_rfl
theorem jf2 : (Rows.hashtreeShapesRow.unfollowed == Try.pinned.checked.prog.unfollowed 9) = true := by kernel_rfl
theorem jf3 : (Rows.hashtreeShapesRow.recurses == Try.pinned.checked.prog.recurses 9) = true := by kernel_rfl
theorem jf4 : (Rows.hashtreeShapesRow.named == Try.pinned.checked.prog.varsNamed 9) = true := by kernel_rfl
theorem jf5 : (Rows.hashtreeShapesRow.lifted == Try.pinned.checked.prog.liftsFinal) = true := rowLift
theorem jf6 : (Try.pinned.checked.prog.make == some Rows.hashtreeShapesRow.make) = true := rowMake
theorem joined : joinedFacts Try.pinned.checked.prog 9 Try.f9 Rows.hashtreeShapesSpec Rows.hashtreeShapesRow = true := by
  unfold joinedFacts
  rw [jf1, jf2, jf3, jf4, jf5, jf6, show laidOutB Try.pinned.checked.prog = true from rowLaid, rowMaps, rowHeard, rowEnter]
  kernel_rfl
theorem wrapped : Try.f9.isWrapper Try.pinned.checked.prog Rows.hashtreeShapesRow.wrapper Rows.hashtreeShapesRow.mainSum := by unfold Func.isWrapper; first | (rw [if_pos (by decide +kernel)]; kernel_rfl) | (rw [if_neg (by decide +kernel)]; exact ⟨rfl, rfl⟩)
theorem inst : Try.f9.isInstance Try.pinned.checked.prog Rows.hashtreeShapesRow.origin Rows.hashtreeShapesRow.targs := of_decide_eq_true (by kernel_rfl)
theorem named : Try.pinned.checked.prog.funcNamed Rows.hashtreeShapesRow.func = some 9 := by kernel_rfl
set_option maxRecDepth 100000 in
theorem lifted (os : Os) (started : os.Started) (H : Type) (enc : TypeId × Value → H) :
    ReturnsInHanded {} Try.checked os 9 .any (Rows.hashtreeShapesSpec.pre6 enc Try.prog Try.f9 Rows.hashtreeShapesRow.domain false) (Rows.hashtreeShapesSpec.post enc Try.prog Try.f9 false true false false) := by
  refine returnsInHanded_of_change_sized (C := Try.checked) rowOwn started (by kernel_rfl) Try.func9
    (ChangeSpec.witness6 (enc := enc) (C := Try.checked) false ⟨#[], #[.slice none 0 0, .int .u8 0], []⟩ 8 (by kernel_rfl) (by kernel_rfl) (by kernel_rfl) (by kernel_rfl)) ?_
  intro W base args ds gs before hval0 hW hcnd hsz0 _
  have hval : ∀ (j : Nat) t v, Try.f9.params[j]? = some t → args[j]? = some v → Value.okWide Try.prog W .any base t v := hval0
  have hW' := hW
  obtain ⟨p, q, hA0, hV, rfl, hfz, hnd⟩ := hW
  have hA : DataW.TrodAll enc Try.prog W 0 (fun _ => true) true Try.f9.params.toList args.toList ds p := hA0
  rw [Try.params9] at hA hval
  obtain ⟨v0, vs0, d0, ds0, p0, q0, hargs, rfl, rfl, h0, r0⟩ := trodAll_cons hA
  obtain ⟨v1, vs1, d1, ds1, p1, q1, rfl, rfl, rfl, h1, r1⟩ := trodAll_cons r0
  obtain ⟨rfl, rfl, rfl⟩ := trodAll_nil r1
  obtain rfl : args = #[v0, v1] := by cases args; simp_all
  obtain ⟨rfl, rfl⟩ := trodVars_none hV
  obtain ⟨a0, len0, cap0, rfl⟩ := okWide_slice Try.underlying22 (hval 0 22 v0 rfl rfl)
  have lt0 := row_lt h0
  obtain ⟨x0, y0⟩ := rv_secs rfl h0
  obtain ⟨a1, rfl, rfl, rfl, w1⟩ := open_int Try.underlying5 (hval 1 5 v1 rfl rfl) h1
  clear hA0 hval0 hsz0
  refine (row_call (c9 x0 a1 (wf_u8 w1)) (rvs_cons y0 (rvs_cons (.p _ _ (.v _ rfl)) rvs_nil))).mono fun e W' ⟨he, bel⟩ => ?_
  subst he
  exact ⟨_, rfl, _, _, _, [], _, [], hW', trodAll_mk1 (shut_bool Try.underlying4 _), (trodAll_cons_mk (Below.trod rowLaid (by kernel_rfl) (of_decide_eq_true (by kernel_rfl)) h0 bel lt0) (trodAll_cons_mk (shut_int Try.underlying5 w1) trodAll_mk0)), rfl, bel.frame _, fun h => by cases h⟩
theorem over : Rows.hashtreeShapesRow.holds Try.pinned (OpenSpec.ofChange Rows.hashtreeShapesSpec) :=
  OpenClaim.holds_of_wide 9 Try.f9 rfl rfl rfl rfl rfl rfl rfl ⟨rfl, rfl, rfl, rfl, rfl⟩ rfl rfl rfl rfl rfl named Try.func9 joined inst wrapped
    (fun os started H enc _ => lifted os started H enc)
theorem proved : Rows.HashtreeShapesSaid := over
end Go.Proofs.Ytldcoekbgfaomaa.hashtreeShapes
namespace Go.Proofs.Ytldcoekbgfaomaa
/-- The row, under a short name. -/
theorem hashtreeShapes_holds : Rows.HashtreeShapesSaid := hashtreeShapes.proved
end Go.Proofs.Ytldcoekbgfaomaa
