/- CompareBegins: returns true for every input, and the input reads as it did. No conditions. -/
import Derived.Test.YtldcoekbgfaomaaRows
import Derived.Test.YtldcoekbgfaomaaUe
import Derived.WalkKit
import Derived.ProofKit
import Derived.OpenShut
import Derived.ShutString
import Derived.ChangeOld
import Derived.Below
import Derived.SizedLaws
set_option linter.unusedVariables false
set_option linter.unusedSimpArgs false
namespace Go.Proofs.Ytldcoekbgfaomaa.compareBegins
open Go.ChangeShapes Go.WideShapes Go.ChangeAt Go.RowKit
theorem jf1 : (Rows.compareBeginsRow.inPlace == Try.pinned.checked.prog.inPlace 12) = true := by kernel_rfl
theorem jf2 : (Rows.compareBeginsRow.unfollowed == Try.pinned.checked.prog.unfollowed 12) = true := by kernel_rfl
theorem jf3 : (Rows.compareBeginsRow.recurses == Try.pinned.checked.prog.recurses 12) = true := by kernel_rfl
theorem jf4 : (Rows.compareBeginsRow.named == Try.pinned.checked.prog.varsNamed 12) = true := by kernel_rfl
theorem jf5 : (Rows.compareBeginsRow.lifted == Try.pinned.checked.prog.liftsFinal) = true := yFA
theorem jf6 : (Try.pinned.checked.prog.make == some Rows.compareBeginsRow.make) = true := xFA
theorem joined : joinedFacts Try.pinned.checked.prog 12 Try.f12 Rows.compareBeginsSpec Rows.compareBeginsRow = true := by
 unfold joinedFacts
 rw [jf1,jf2,jf3,jf4,jf5,jf6,show laidOutB Try.pinned.checked.prog = true from eW,wFA,sEA,tEA]
 kernel_rfl
theorem wrapped : Try.f12.isWrapper Try.pinned.checked.prog Rows.compareBeginsRow.wrapper Rows.compareBeginsRow.mainSum := by unfold Func.isWrapper; first | (rw [if_pos (by decide +kernel)]; kernel_rfl) | (rw [if_neg (by decide +kernel)]; exact ⟨rfl,rfl⟩)
theorem inst : Try.f12.isInstance Try.pinned.checked.prog Rows.compareBeginsRow.origin Rows.compareBeginsRow.targs := of_decide_eq_true (by kernel_rfl)
theorem named : Try.pinned.checked.prog.funcNamed Rows.compareBeginsRow.func = some 12 := by kernel_rfl
set_option maxRecDepth 100000 in
theorem lifted (os : Os) (started : os.Started) (H : Type) (enc : TypeId × Value → H) :
  ReturnsInHanded {} Try.checked os 12 .any (Rows.compareBeginsSpec.pre6 enc Try.prog Try.f12 Rows.compareBeginsRow.domain false) (Rows.compareBeginsSpec.post enc Try.prog Try.f12 false true false false) := by
 refine returnsInHanded_of_change_sized (C := Try.checked) kIA started (by kernel_rfl) Try.func12
  (ChangeSpec.witness6 (enc := enc) (C := Try.checked) false ⟨#[],#[.agg #[.int .i64 0,.int .i64 0,.slice none 0 0],.agg #[.int .i64 0,.int .i64 0,.slice none 0 0,.slice none 0 0,.int .i64 0,.slice none 0 0,.int .i64 0,.bool false]],[]⟩ 8 (by kernel_rfl) (by kernel_rfl) (by kernel_rfl) (by kernel_rfl)) ?_
 intro W base args ds gs eJ hval0 hW hcnd hsz0 _
 have hval : ∀ (j : Nat) t v,Try.f12.params[j]? = some t → args[j]? = some v → Value.okWide Try.prog W .any base t v := hval0
 have hW' := hW
 obtain ⟨p,q,hA0,hV,rfl,hfz,hnd⟩ := hW
 have hA : DataW.TrodAll enc Try.prog W 0 (fun _ => true) true Try.f12.params.toList args.toList ds p := hA0
 rw [Try.params12] at hA hval
 obtain ⟨v0,vs0,d0,ds0,p0,q0,hargs,rfl,rfl,h0,r0⟩ := trodAll_cons hA
 obtain ⟨v1,vs1,d1,ds1,p1,q1,rfl,rfl,rfl,h1,r1⟩ := trodAll_cons r0
 obtain ⟨rfl,rfl,rfl⟩ := trodAll_nil r1
 obtain rfl : args = #[v0,v1] := by cases args; simp_all
 obtain ⟨rfl,rfl⟩ := trodVars_none hV
 obtain ⟨cs0,rfl,_⟩ := okWide_struct Try.underlying26 (hval 0 26 v0 rfl rfl)
 have lt0 := eEA h0
 obtain ⟨x0,y0⟩ := mFA h0
 obtain ⟨cs1,rfl,_⟩ := okWide_struct Try.underlying75 (hval 1 75 v1 rfl rfl)
 have lt1 := eEA h1
 obtain ⟨x1,y1,g1⟩ := vFA h1
 clear hA0 hval0 hsz0
 refine (dEA (c12 x0 x1 g1.1) (kX y0 (kX y1 lFA))).mono fun e W' ⟨he,bel⟩ => ?_
 subst he
 exact ⟨_,rfl,_,_,_,[],_,[],hW',trodAll_mk1 (shut_bool Try.underlying4 _),(trodAll_cons_mk (Below.trod eW (by kernel_rfl) (of_decide_eq_true (by kernel_rfl)) h0 bel lt0) (trodAll_cons_mk (Below.trod eW (by kernel_rfl) (of_decide_eq_true (by kernel_rfl)) h1 bel lt1) trodAll_mk0)),rfl,bel.frame _,fun h => by cases h⟩
theorem over : Rows.compareBeginsRow.holds Try.pinned (OpenSpec.ofChange Rows.compareBeginsSpec) :=
 OpenClaim.holds_of_wide 12 Try.f12 rfl rfl rfl rfl rfl rfl rfl ⟨rfl,rfl,rfl,rfl,rfl⟩ rfl rfl rfl rfl rfl named Try.func12 joined inst wrapped
  (fun os started H enc _ => lifted os started H enc)
theorem proved : Rows.CompareBeginsSaid := over
end Go.Proofs.Ytldcoekbgfaomaa.compareBegins
namespace Go.Proofs.Ytldcoekbgfaomaa
/-- The row,under a short name. -/
theorem compareBegins_holds : Rows.CompareBeginsSaid := compareBegins.proved
end Go.Proofs.Ytldcoekbgfaomaa
