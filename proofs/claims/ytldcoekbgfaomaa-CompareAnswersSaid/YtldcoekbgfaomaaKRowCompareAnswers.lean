/- CompareAnswers: returns true for every input, and the input reads as it did. No conditions. -/
import Derived.Test.YtldcoekbgfaomaaRows
import Derived.Test.YtldcoekbgfaomaaUe
import Derived.WalkKit
import Derived.ProofKit
import Derived.OpenShut
import Derived.ShutString
import Derived.ChangeOld
import Derived.Below
import Derived.SizedLaws
set_option linter.unusedVariables false
set_option linter.unusedSimpArgs false
namespace Go.Proofs.Ytldcoekbgfaomaa.compareAnswers
open Go.ChangeShapes Go.WideShapes Go.ChangeAt Go.RowKit
theorem jf1 : (Rows.compareAnswersRow.inPlace == Try.pinned.checked.prog.inPlace 13) = true := by kernel_rfl
theorem jf2 : (Rows.compareAnswersRow.unfollowed == Try.pinned.checked.prog.unfollowed 13) = true := by kernel_rfl
theorem jf3 : (Rows.compareAnswersRow.recurses == Try.pinned.checked.prog.recurses 13) = true := by kernel_rfl
theorem jf4 : (Rows.compareAnswersRow.named == Try.pinned.checked.prog.varsNamed 13) = true := by kernel_rfl
theorem jf5 : (Rows.compareAnswersRow.lifted == Try.pinned.checked.prog.liftsFinal) = true := pFA
theorem jf6 : (Try.pinned.checked.prog.make == some Rows.compareAnswersRow.make) = true := oFA
theorem joined : joinedFacts Try.pinned.checked.prog 13 Try.f13 Rows.compareAnswersSpec Rows.compareAnswersRow = true := by
 unfold joinedFacts
 rw [jf1,jf2,jf3,jf4,jf5,jf6,show laidOutB Try.pinned.checked.prog = true from zV,nFA,jEA,kEA]
 kernel_rfl
theorem wrapped : Try.f13.isWrapper Try.pinned.checked.prog Rows.compareAnswersRow.wrapper Rows.compareAnswersRow.mainSum := by unfold Func.isWrapper; first | (rw [if_pos (by decide +kernel)]; kernel_rfl) | (rw [if_neg (by decide +kernel)]; exact ⟨rfl,rfl⟩)
theorem inst : Try.f13.isInstance Try.pinned.checked.prog Rows.compareAnswersRow.origin Rows.compareAnswersRow.targs := of_decide_eq_true (by kernel_rfl)
theorem named : Try.pinned.checked.prog.funcNamed Rows.compareAnswersRow.func = some 13 := by kernel_rfl
set_option maxRecDepth 100000 in
theorem lifted (os : Os) (started : os.Started) (H : Type) (enc : TypeId × Value → H) :
  ReturnsInHanded {} Try.checked os 13 .any (Rows.compareAnswersSpec.pre6 enc Try.prog Try.f13 Rows.compareAnswersRow.domain false) (Rows.compareAnswersSpec.post enc Try.prog Try.f13 false true false false) := by
 refine returnsInHanded_of_change_sized (C := Try.checked) dIA started (by kernel_rfl) Try.func13
  (ChangeSpec.witness6 (enc := enc) (C := Try.checked) false ⟨#[],#[.agg #[.int .i64 0,.int .i64 0,.slice none 0 0],.agg #[.int .i64 0,.int .i64 0,.int .i64 0,.int .i64 0,.int .i64 0,.int .i64 0,.slice none 0 0,.slice none 0 0]],[]⟩ 8 (by kernel_rfl) (by kernel_rfl) (by kernel_rfl) (by kernel_rfl)) ?_
 intro W base args ds gs aJ hval0 hW hcnd hsz0 _
 have hval : ∀ (j : Nat) t v,Try.f13.params[j]? = some t → args[j]? = some v → Value.okWide Try.prog W .any base t v := hval0
 have hW' := hW
 obtain ⟨p,q,hA0,hV,rfl,hfz,hnd⟩ := hW
 have hA : DataW.TrodAll enc Try.prog W 0 (fun _ => true) true Try.f13.params.toList args.toList ds p := hA0
 rw [Try.params13] at hA hval
 obtain ⟨v0,vs0,d0,ds0,p0,q0,hargs,rfl,rfl,h0,r0⟩ := trodAll_cons hA
 obtain ⟨v1,vs1,d1,ds1,p1,q1,rfl,rfl,rfl,h1,r1⟩ := trodAll_cons r0
 obtain ⟨rfl,rfl,rfl⟩ := trodAll_nil r1
 obtain rfl : args = #[v0,v1] := by cases args; simp_all
 obtain ⟨rfl,rfl⟩ := trodVars_none hV
 obtain ⟨cs0,rfl,_⟩ := okWide_struct Try.underlying26 (hval 0 26 v0 rfl rfl)
 have lt0 := yDA h0
 obtain ⟨x0,y0⟩ := eFA h0
 obtain ⟨cs1,rfl,_⟩ := okWide_struct Try.underlying90 (hval 1 90 v1 rfl rfl)
 have lt1 := yDA h1
 obtain ⟨x1,y1,g1⟩ := cIA h1
 clear hA0 hval0 hsz0
 refine (xDA (c13 x0 x1 g1) (dX y0 (dX y1 dFA))).mono fun e W' ⟨he,bel⟩ => ?_
 subst he
 exact ⟨_,rfl,_,_,_,[],_,[],hW',trodAll_mk1 (shut_bool Try.underlying4 _),(trodAll_cons_mk (Below.trod zV (by kernel_rfl) (of_decide_eq_true (by kernel_rfl)) h0 bel lt0) (trodAll_cons_mk (Below.trod zV (by kernel_rfl) (of_decide_eq_true (by kernel_rfl)) h1 bel lt1) trodAll_mk0)),rfl,bel.frame _,fun h => by cases h⟩
theorem over : Rows.compareAnswersRow.holds Try.pinned (OpenSpec.ofChange Rows.compareAnswersSpec) :=
 OpenClaim.holds_of_wide 13 Try.f13 rfl rfl rfl rfl rfl rfl rfl ⟨rfl,rfl,rfl,rfl,rfl⟩ rfl rfl rfl rfl rfl named Try.func13 joined inst wrapped
  (fun os started H enc _ => lifted os started H enc)
theorem proved : Rows.CompareAnswersSaid := over
end Go.Proofs.Ytldcoekbgfaomaa.compareAnswers
namespace Go.Proofs.Ytldcoekbgfaomaa
/-- The row,under a short name. -/
theorem compareAnswers_holds : Rows.CompareAnswersSaid := compareAnswers.proved
end Go.Proofs.Ytldcoekbgfaomaa
