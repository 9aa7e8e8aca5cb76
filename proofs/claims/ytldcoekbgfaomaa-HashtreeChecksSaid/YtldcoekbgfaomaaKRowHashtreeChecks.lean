/- HashtreeChecks: returns true for every input, and the input reads as it did. No conditions. -/
import Derived.Test.YtldcoekbgfaomaaRows
import Derived.Test.YtldcoekbgfaomaaUe
import Derived.WalkKit
import Derived.ProofKit
import Derived.OpenShut
import Derived.ShutString
import Derived.ChangeOld
import Derived.Below
import Derived.SizedLaws
set_option linter.unusedVariables false
set_option linter.unusedSimpArgs false
namespace Go.Proofs.Ytldcoekbgfaomaa.hashtreeChecks
open Go.ChangeShapes Go.WideShapes Go.ChangeAt Go.RowKit
theorem jf1 : (Rows.hashtreeChecksRow.inPlace == Try.pinned.checked.prog.inPlace 8) = true := by kernel_rfl
theorem jf2 : (Rows.hashtreeChecksRow.unfollowed == Try.pinned.checked.prog.unfollowed 8) = true := by kernel_rfl
theorem jf3 : (Rows.hashtreeChecksRow.recurses == Try.pinned.checked.prog.recurses 8) = true := by kernel_rfl
theorem jf4 : (Rows.hashtreeChecksRow.named == Try.pinned.checked.prog.varsNamed 8) = true := by kernel_rfl
theorem jf5 : (Rows.hashtreeChecksRow.lifted == Try.pinned.checked.prog.liftsFinal) = true := rowLift
theorem jf6 : (Try.pinned.checked.prog.make == some Rows.hashtreeChecksRow.make) = true := rowMake
theorem joined : joinedFacts Try.pinned.checked.prog 8 Try.f8 Rows.hashtreeChecksSpec Rows.hashtreeChecksRow = true := by
  unfold joinedFacts
  rw [jf1, jf2, jf3, jf4, jf5, jf6, show laidOutB Try.pinned.checked.prog = true from rowLaid, rowMaps, rowHeard, rowEnter]
  kernel_rfl
theorem wrapped : Try.f8.isWrapper Try.pinned.checked.prog Rows.hashtreeChecksRow.wrapper Rows.hashtreeChecksRow.mainSum := by unfold Func.isWrapper; first | (rw [if_pos (by decide +kernel)]; kernel_rfl) | (rw [if_neg (by decide +kernel)]; exact ⟨rfl, rfl⟩)
theorem inst : Try.f8.isInstance Try.pinned.checked.prog Rows.hashtreeChecksRow.origin Rows.hashtreeChecksRow.targs := of_decide_eq_true (by kernel_rfl)
theorem named : Try.pinned.checked.prog.funcNamed Rows.hashtreeChecksRow.func = some 8 := by kernel_rfl
set_option maxRecDepth 100000 in
theorem lifted (os : Os) (started : os.Started) (H : Type) (enc : TypeId × Value → H) :
    ReturnsInHanded {} Try.checked os 8 .any (Rows.hashtreeChecksSpec.pre6 enc Try.prog Try.f8 Rows.hashtreeChecksRow.domain false) (Rows.hashtreeChecksSpec.post enc Try.prog Try.f8 false true false false) := by
  refine returnsInHanded_of_change_sized (C := Try.checked) rowOwn started (by kernel_rfl) Try.func8
    (ChangeSpec.witness6 (enc := enc) (C := Try.checked) false ⟨#[], #[.agg #[.int .i64 0, .int .i64 0, .slice none 0 0]], []⟩ 8 (by kernel_rfl) (by kernel_rfl) (by kernel_rfl) (by kernel_rfl)) ?_
  intro W base args ds gs before hval0 hW hcnd hsz0 _
  have hval : ∀ (j : Nat) t v, Try.f8.params[j]? = some t → args[j]? = some v → Value.okWide Try.prog W .any base t v := hval0
  have hW' := hW
  obtain ⟨p, q, hA0, hV, rfl, hfz, hnd⟩ := hW
  have hA : DataW.TrodAll enc Try.prog W 0 (fun _ => true) true Try.f8.params.toList args.toList ds p := hA0
  rw [Try.params8] at hA hval
  obtain ⟨v0, vs0, d0, ds0, p0, q0, hargs, rfl, rfl, h0, r0⟩ := trodAll_cons hA
  obtain ⟨rfl, rfl, rfl⟩ := trodAll_nil r0
  obtain rfl : args = #[v0] := by cases args; simp_all
  obtain ⟨rfl, rfl⟩ := trodVars_none hV
  obtain ⟨cs0, rfl, _⟩ := okWide_struct Try.underlying26 (hval 0 26 v0 rfl rfl)
  have lt0 := row_lt h0
  obtain ⟨x0, y0⟩ := rv_tree h0
  clear hA0 hval0 hsz0
  refine (row_call (c8 x0) (rvs_cons y0 rvs_nil)).mono fun e W' ⟨he, bel⟩ => ?_
  subst he
  exact ⟨_, rfl, _, _, _, [], _, [], hW', trodAll_mk1 (shut_bool Try.underlying4 _), (trodAll_cons_mk (Below.trod rowLaid (by kernel_rfl) (of_decide_eq_true (by kernel_rfl)) h0 bel lt0) trodAll_mk0), rfl, bel.frame _, fun h => by cases h⟩
theorem over : Rows.hashtreeChecksRow.holds Try.pinned (OpenSpec.ofChange Rows.hashtreeChecksSpec) :=
  OpenClaim.holds_of_wide 8 Try.f8 rfl rfl rfl rfl rfl rfl rfl ⟨rfl, rfl, rfl, rfl, rfl⟩ rfl rfl rfl rfl rfl named Try.func8 joined inst wrapped
    (fun os started H enc _ => lifted os started H enc)
theorem proved : Rows.HashtreeChecksSaid := over
end Go.Proofs.Ytldcoekbgfaomaa.hashtreeChecks
namespace Go.Proofs.Ytldcoekbgfaomaa
/-- The row, under a short name. -/
theorem hashtreeChecks_holds : Rows.HashtreeChecksSaid := hashtreeChecks.proved
end Go.Proofs.Ytldcoekbgfaomaa
