/- HashtreeProves: returns true for every input, and the input reads as it did. No conditions. -/
import Derived.Test.YtldcoekbgfaomaaRows
import Derived.Test.YtldcoekbgfaomaaUf
import Derived.WalkKit
import Derived.ProofKit
import Derived.OpenShut
import Derived.ShutString
import Derived.ChangeOld
import Derived.Below
import Derived.SizedLaws
set_option linter.unusedVariables false
set_option linter.unusedSimpArgs false
namespace Go.Proofs.Ytldcoekbgfaomaa.hashtreeProves
open Go.ChangeShapes Go.WideShapes Go.ChangeAt Go.RowKit
theorem jf1 : (Rows.hashtreeProvesRow.inPlace == Try.pinned.checked.prog.inPlace 10) = true := by kernel_rfl
theorem jf2 : (Rows.hashtreeProvesRow.unfollowed == Try.pinned.checked.prog.unfollowed 10) = true := by kernel_rfl
theorem jf3 : (Rows.hashtreeProvesRow.recurses == Try.pinned.checked.prog.recurses 10) = true := by kernel_rfl
theorem jf4 : (Rows.hashtreeProvesRow.named == Try.pinned.checked.prog.varsNamed 10) = true := by kernel_rfl
theorem jf5 : (Rows.hashtreeProvesRow.lifted == Try.pinned.checked.prog.liftsFinal) = true := rowLift
theorem jf6 : (Try.pinned.checked.prog.make == some Rows.hashtreeProvesRow.make) = true := rowMake
theorem joined : joinedFacts Try.pinned.checked.prog 10 Try.f10 Rows.hashtreeProvesSpec Rows.hashtreeProvesRow = true := by
  unfold joinedFacts
  rw [jf1, jf2, jf3, jf4, jf5, jf6, show laidOutB Try.pinned.checked.prog = true from rowLaid, rowMaps, rowHeard, rowEnter]
  kernel_rfl
theorem wrapped : Try.f10.isWrapper Try.pinned.checked.prog Rows.hashtreeProvesRow.wrapper Rows.hashtreeProvesRow.mainSum := by unfold Func.isWrapper; first | (rw [if_pos (by decide +kernel)]; kernel_rfl) | (rw [if_neg (by decide +kernel)]; exact ⟨rfl, rfl⟩)
theorem inst : Try.f10.isInstance Try.pinned.checked.prog Rows.hashtreeProvesRow.origin Rows.hashtreeProvesRow.targs := of_decide_eq_true (by kernel_rfl)
theorem named : Try.pinned.checked.prog.funcNamed Rows.hashtreeProvesRow.func = some 10 := by kernel_rfl
set_option maxRecDepth 100000 in
theorem lifted (os : Os) (started : os.Started) (H : Type) (enc : TypeId × Value → H) :
    ReturnsInHanded {} Try.checked os 10 .any (Rows.hashtreeProvesSpec.pre6 enc Try.prog Try.f10 Rows.hashtreeProvesRow.domain false) (Rows.hashtreeProvesSpec.post enc Try.prog Try.f10 false true false false) := by
  refine returnsInHanded_of_change_sized (C := Try.checked) rowOwn started (by kernel_rfl) Try.func10
    (ChangeSpec.witness6 (enc := enc) (C := Try.checked) false ⟨#[], #[.agg #[.int .i64 0, .int .i64 0, .slice none 0 0], .int .i64 0, .agg #[.int .u64 0, .int .i64 0, .int .i64 0, .int .i64 0, .slice none 0 0, .slice none 0 0]], []⟩ 8 (by kernel_rfl) (by kernel_rfl) (by kernel_rfl) (by kernel_rfl)) ?_
  intro W base args ds gs before hval0 hW hcnd hsz0 _
  have hval : ∀ (j : Nat) t v, Try.f10.params[j]? = some t → args[j]? = some v → Value.okWide Try.prog W .any base t v := hval0
  have hW' := hW
  obtain ⟨p, q, hA0, hV, rfl, hfz, hnd⟩ := hW
  have hA : DataW.TrodAll enc Try.prog W 0 (fun _ => true) true Try.f10.params.toList args.toList ds p := hA0
  rw [Try.params10] at hA hval
  obtain ⟨v0, vs0, d0, ds0, p0, q0, hargs, rfl, rfl, h0, r0⟩ := trodAll_cons hA
  obtain ⟨v1, vs1, d1, ds1, p1, q1, rfl, rfl, rfl, h1, r1⟩ := trodAll_cons r0
  obtain ⟨v2, vs2, d2, ds2, p2, q2, rfl, rfl, rfl, h2, r2⟩ := trodAll_cons r1
  obtain ⟨rfl, rfl, rfl⟩ := trodAll_nil r2
  obtain rfl : args = #[v0, v1, v2] := by cases args; simp_all
  obtain ⟨rfl, rfl⟩ := trodVars_none hV
  obtain ⟨cs0, rfl, _⟩ := okWide_struct Try.underlying26 (hval 0 26 v0 rfl rfl)
  have lt0 := row_lt h0
  obtain ⟨x0, y0⟩ := rv_tree h0
  obtain ⟨a1, rfl, rfl, rfl, w1⟩ := open_int Try.underlying3 (hval 1 3 v1 rfl rfl) h1
  obtain ⟨cs2, rfl, _⟩ := okWide_struct Try.underlying63 (hval 2 63 v2 rfl rfl)
  have lt2 := row_lt h2
  obtain ⟨x2, y2, g2⟩ := rv_vin h2
  clear hA0 hval0 hsz0
  refine (row_call (c10 x0 a1 x2 g2) (rvs_cons y0 (rvs_cons (.p _ _ (.v _ rfl)) (rvs_cons y2 rvs_nil)))).mono fun e W' ⟨he, bel⟩ => ?_
  subst he
  exact ⟨_, rfl, _, _, _, [], _, [], hW', trodAll_mk1 (shut_bool Try.underlying4 _), (trodAll_cons_mk (Below.trod rowLaid (by kernel_rfl) (of_decide_eq_true (by kernel_rfl)) h0 bel lt0) (trodAll_cons_mk (shut_int Try.underlying3 w1) (trodAll_cons_mk (Below.trod rowLaid (by kernel_rfl) (of_decide_eq_true (by kernel_rfl)) h2 bel lt2) trodAll_mk0))), rfl, bel.frame _, fun h => by cases h⟩
theorem over : Rows.hashtreeProvesRow.holds Try.pinned (OpenSpec.ofChange Rows.hashtreeProvesSpec) :=
  OpenClaim.holds_of_wide 10 Try.f10 rfl rfl rfl rfl rfl rfl rfl ⟨rfl, rfl, rfl, rfl, rfl⟩ rfl rfl rfl rfl rfl named Try.func10 joined inst wrapped
    (fun os started H enc _ => lifted os started H enc)
theorem proved : Rows.HashtreeProvesSaid := over
end Go.Proofs.Ytldcoekbgfaomaa.hashtreeProves
namespace Go.Proofs.Ytldcoekbgfaomaa
/-- The row, under a short name. -/
theorem hashtreeProves_holds : Rows.HashtreeProvesSaid := hashtreeProves.proved
end Go.Proofs.Ytldcoekbgfaomaa
