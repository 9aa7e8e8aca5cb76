/- What all rows of the seat share of closed facts: the program's layout, its stops, its lifts. No conditions. -/
import Derived.Test.YtldcoekbgfaomaaRows
import Derived.WalkKit
import Derived.ProofKit
namespace Go.Proofs.Ytldcoekbgfaomaa
open Go.RowKit
theorem rowOwn : ownKnob Try.prog.godebug = none := by kernel_rfl
theorem rowLaid : laidOutB Try.prog = true := by kernel_rfl
theorem rowMaps : mapsRowed Try.pinned.checked.prog = true := by kernel_rfl
theorem rowHeard : Try.pinned.checked.prog.stopsHeard = true := by kernel_rfl
theorem rowGreat : (Try.pinned.checked.prog.mayEnter && ((Try.pinned.checked.prog.make == some Rows.hashtreeBuildsRow.make) && (Rows.hashtreeBuildsRow.lifted == Try.pinned.checked.prog.liftsFinal))) = true := by kernel_rfl
theorem rowEnter : Try.pinned.checked.prog.mayEnter = true := by have h := rowGreat; rw [Bool.and_eq_true, Bool.and_eq_true] at h; exact h.1
theorem rowMake : (Try.pinned.checked.prog.make == some Rows.hashtreeBuildsRow.make) = true := by have h := rowGreat; rw [Bool.and_eq_true, Bool.and_eq_true] at h; exact h.2.1
theorem rowLift : (Rows.hashtreeBuildsRow.lifted == Try.pinned.checked.prog.liftsFinal) = true := by have h := rowGreat; rw [Bool.and_eq_true, Bool.and_eq_true] at h; exact h.2.2
end Go.Proofs.Ytldcoekbgfaomaa
