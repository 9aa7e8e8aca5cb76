/-
  No cell of these rows narrows 'for every input' (looked for: loops, veiled, ifaces, maps, wideKeys, modest, calm, conditions, laid).
  DERIVED. THE GIVEN ROWS OF THIS SEAT. 17 by the template 'for every input the law returns true; each argument reads behind the call as it read before'; 0 by the template 'total and deterministic' (their statements: YtldcoekbgfaomaaTotals.lean).
  GIVEN WITH THE SEED: the statements are not yours to turn. If you find one false, say at which input.
  Laid BY PROGRAM, IN A SANDBOX (cutbox-rows.mjs): the forced cells as the released guide's own fill.sh prints them over the translation faeed2a50b351f99… (all of the seat's roots in one cut). By AI agents, Wed Nov 11 2026. No macro, syntax, notation, axiom, sorry.
-/
import Derived.Test.YtldcoekbgfaomaaChecked
import GoSem.Claim
import GoSem.ClaimJoined
import GoSem.ClaimMapViews
import Derived.JoinedTies
import Derived.KernelRfl
namespace Go.Proofs.Ytldcoekbgfaomaa
/- THE CELL 'sum', in the pinned program and in every row, IS THE sha256 OF THE DUMP (.gsa) THAT YtldcoekbgfaomaaProg.lean LOADS. Nothing in Lean hashes anything: it is a label: what it is worth is what the hold of that sum in a sandbox is worth. -/
noncomputable def Try.pinned : Pinned := { name := "ytldcoekbgfaomaa", sum := "faeed2a50b351f99d99522d324f073647a341c207357f8f1ed6255fb5864be0a", checked := Try.checked }
namespace Rows
def none {H : Type} : Left H := { results := [], args := [] }

/-- 'standbylaw11.HashtreeBuilds': WHATEVER THE INPUT: true; the input reads as it did. -/
def hashtreeBuildsSpec : ChangeSpec := { name := "hashtreeBuilds", fn := fun _ => fun
  | [d1, d2] => { results := [.lit (.bool true)], args := [d1, d2] }
  | _ => none }
def hashtreeBuildsRow : OpenClaim := { program := "ytldcoekbgfaomaa", sum := "faeed2a50b351f99d99522d324f073647a341c207357f8f1ed6255fb5864be0a", func := "standby/standbylaw11.HashtreeBuilds", spec := "hashtreeBuilds", unfollowed := true, recurses := true, apart := false }
def HashtreeBuildsSaid : Prop := hashtreeBuildsRow.holds Try.pinned (OpenSpec.ofChange hashtreeBuildsSpec)

/-- ITS FALSE NEIGHBOUR: 'it returns false'. Refute it at one input. -/
def hashtreeBuildsWrong : ChangeSpec := { name := "hashtreeBuilds", fn := fun _ => fun
  | [d1, d2] => { results := [.lit (.bool false)], args := [d1, d2] }
  | _ => none }
def HashtreeBuildsWrongFalsely : Prop := hashtreeBuildsRow.holds Try.pinned (OpenSpec.ofChange hashtreeBuildsWrong)

/-- 'standbylaw11.HashtreeUpdates': WHATEVER THE INPUT: true; the input reads as it did. -/
def hashtreeUpdatesSpec : ChangeSpec := { name := "hashtreeUpdates", fn := fun _ => fun
  | [d1, d2, d3] => { results := [.lit (.bool true)], args := [d1, d2, d3] }
  | _ => none }
def hashtreeUpdatesRow : OpenClaim := { program := "ytldcoekbgfaomaa", sum := "faeed2a50b351f99d99522d324f073647a341c207357f8f1ed6255fb5864be0a", func := "standby/standbylaw11.HashtreeUpdates", spec := "hashtreeUpdates", unfollowed := true, recurses := true, apart := false }
def HashtreeUpdatesSaid : Prop := hashtreeUpdatesRow.holds Try.pinned (OpenSpec.ofChange hashtreeUpdatesSpec)

/-- ITS FALSE NEIGHBOUR: 'it returns false'. Refute it at one input. -/
def hashtreeUpdatesWrong : ChangeSpec := { name := "hashtreeUpdates", fn := fun _ => fun
  | [d1, d2, d3] => { results := [.lit (.bool false)], args := [d1, d2, d3] }
  | _ => none }
def HashtreeUpdatesWrongFalsely : Prop := hashtreeUpdatesRow.holds Try.pinned (OpenSpec.ofChange hashtreeUpdatesWrong)

/-- 'standbylaw11.HashtreeDiffers': WHATEVER THE INPUT: true; the input reads as it did. -/
def hashtreeDiffersSpec : ChangeSpec := { name := "hashtreeDiffers", fn := fun _ => fun
  | [d1, d2] => { results := [.lit (.bool true)], args := [d1, d2] }
  | _ => none }
def hashtreeDiffersRow : OpenClaim := { program := "ytldcoekbgfaomaa", sum := "faeed2a50b351f99d99522d324f073647a341c207357f8f1ed6255fb5864be0a", func := "standby/standbylaw11.HashtreeDiffers", spec := "hashtreeDiffers", unfollowed := true, recurses := true, apart := false }
def HashtreeDiffersSaid : Prop := hashtreeDiffersRow.holds Try.pinned (OpenSpec.ofChange hashtreeDiffersSpec)

/-- ITS FALSE NEIGHBOUR: 'it returns false'. Refute it at one input. -/
def hashtreeDiffersWrong : ChangeSpec := { name := "hashtreeDiffers", fn := fun _ => fun
  | [d1, d2] => { results := [.lit (.bool false)], args := [d1, d2] }
  | _ => none }
def HashtreeDiffersWrongFalsely : Prop := hashtreeDiffersRow.holds Try.pinned (OpenSpec.ofChange hashtreeDiffersWrong)

/-- 'standbylaw11.HashtreeFollows': WHATEVER THE INPUT: true; the input reads as it did. -/
def hashtreeFollowsSpec : ChangeSpec := { name := "hashtreeFollows", fn := fun _ => fun
  | [d1, d2, d3] => { results := [.lit (.bool true)], args := [d1, d2, d3] }
  | _ => none }
def hashtreeFollowsRow : OpenClaim := { program := "ytldcoekbgfaomaa", sum := "faeed2a50b351f99d99522d324f073647a341c207357f8f1ed6255fb5864be0a", func := "standby/standbylaw11.HashtreeFollows", spec := "hashtreeFollows", unfollowed := true, recurses := true, apart := false }
def HashtreeFollowsSaid : Prop := hashtreeFollowsRow.holds Try.pinned (OpenSpec.ofChange hashtreeFollowsSpec)

/-- ITS FALSE NEIGHBOUR: 'it returns false'. Refute it at one input. -/
def hashtreeFollowsWrong : ChangeSpec := { name := "hashtreeFollows", fn := fun _ => fun
  | [d1, d2, d3] => { results := [.lit (.bool false)], args := [d1, d2, d3] }
  | _ => none }
def HashtreeFollowsWrongFalsely : Prop := hashtreeFollowsRow.holds Try.pinned (OpenSpec.ofChange hashtreeFollowsWrong)

/-- 'standbylaw11.HashtreeFinds': WHATEVER THE INPUT: true; the input reads as it did. -/
def hashtreeFindsSpec : ChangeSpec := { name := "hashtreeFinds", fn := fun _ => fun
  | [d1, d2, d3] => { results := [.lit (.bool true)], args := [d1, d2, d3] }
  | _ => none }
def hashtreeFindsRow : OpenClaim := { program := "ytldcoekbgfaomaa", sum := "faeed2a50b351f99d99522d324f073647a341c207357f8f1ed6255fb5864be0a", func := "standby/standbylaw11.HashtreeFinds", spec := "hashtreeFinds", unfollowed := true, recurses := true, apart := false }
def HashtreeFindsSaid : Prop := hashtreeFindsRow.holds Try.pinned (OpenSpec.ofChange hashtreeFindsSpec)

/-- ITS FALSE NEIGHBOUR: 'it returns false'. Refute it at one input. -/
def hashtreeFindsWrong : ChangeSpec := { name := "hashtreeFinds", fn := fun _ => fun
  | [d1, d2, d3] => { results := [.lit (.bool false)], args := [d1, d2, d3] }
  | _ => none }
def HashtreeFindsWrongFalsely : Prop := hashtreeFindsRow.holds Try.pinned (OpenSpec.ofChange hashtreeFindsWrong)

/-- 'standbylaw11.HashtreeChecks': WHATEVER THE INPUT: true; the input reads as it did. -/
def hashtreeChecksSpec : ChangeSpec := { name := "hashtreeChecks", fn := fun _ => fun
  | [d] => { results := [.lit (.bool true)], args := [d] }
  | _ => none }
def hashtreeChecksRow : OpenClaim := { program := "ytldcoekbgfaomaa", sum := "faeed2a50b351f99d99522d324f073647a341c207357f8f1ed6255fb5864be0a", func := "standby/standbylaw11.HashtreeChecks", spec := "hashtreeChecks", unfollowed := true, recurses := true, apart := false }
def HashtreeChecksSaid : Prop := hashtreeChecksRow.holds Try.pinned (OpenSpec.ofChange hashtreeChecksSpec)

/-- ITS FALSE NEIGHBOUR: 'it returns false'. Refute it at one input. -/
def hashtreeChecksWrong : ChangeSpec := { name := "hashtreeChecks", fn := fun _ => fun
  | [d] => { results := [.lit (.bool false)], args := [d] }
  | _ => none }
def HashtreeChecksWrongFalsely : Prop := hashtreeChecksRow.holds Try.pinned (OpenSpec.ofChange hashtreeChecksWrong)

/-- 'standbylaw11.HashtreeShapes': WHATEVER THE INPUT: true; the input reads as it did. -/
def hashtreeShapesSpec : ChangeSpec := { name := "hashtreeShapes", fn := fun _ => fun
  | [d1, d2] => { results := [.lit (.bool true)], args := [d1, d2] }
  | _ => none }
def hashtreeShapesRow : OpenClaim := { program := "ytldcoekbgfaomaa", sum := "faeed2a50b351f99d99522d324f073647a341c207357f8f1ed6255fb5864be0a", func := "standby/standbylaw11.HashtreeShapes", spec := "hashtreeShapes", unfollowed := true, recurses := true, apart := false }
def HashtreeShapesSaid : Prop := hashtreeShapesRow.holds Try.pinned (OpenSpec.ofChange hashtreeShapesSpec)

/-- ITS FALSE NEIGHBOUR: 'it returns false'. Refute it at one input. -/
def hashtreeShapesWrong : ChangeSpec := { name := "hashtreeShapes", fn := fun _ => fun
  | [d1, d2] => { results := [.lit (.bool false)], args := [d1, d2] }
  | _ => none }
def HashtreeShapesWrongFalsely : Prop := hashtreeShapesRow.holds Try.pinned (OpenSpec.ofChange hashtreeShapesWrong)

/-- 'standbylaw11.HashtreeProves': WHATEVER THE INPUT: true; the input reads as it did. -/
def hashtreeProvesSpec : ChangeSpec := { name := "hashtreeProves", fn := fun _ => fun
  | [d1, d2, d3] => { results := [.lit (.bool true)], args := [d1, d2, d3] }
  | _ => none }
def hashtreeProvesRow : OpenClaim := { program := "ytldcoekbgfaomaa", sum := "faeed2a50b351f99d99522d324f073647a341c207357f8f1ed6255fb5864be0a", func := "standby/standbylaw11.HashtreeProves", spec := "hashtreeProves", unfollowed := true, recurses := true, apart := false }
def HashtreeProvesSaid : Prop := hashtreeProvesRow.holds Try.pinned (OpenSpec.ofChange hashtreeProvesSpec)

/-- ITS FALSE NEIGHBOUR: 'it returns false'. Refute it at one input. -/
def hashtreeProvesWrong : ChangeSpec := { name := "hashtreeProves", fn := fun _ => fun
  | [d1, d2, d3] => { results := [.lit (.bool false)], args := [d1, d2, d3] }
  | _ => none }
def HashtreeProvesWrongFalsely : Prop := hashtreeProvesRow.holds Try.pinned (OpenSpec.ofChange hashtreeProvesWrong)

/-- 'standbylaw11.HashtreeAccepts': WHATEVER THE INPUT: true; the input reads as it did. -/
def hashtreeAcceptsSpec : ChangeSpec := { name := "hashtreeAccepts", fn := fun _ => fun
  | [d1, d2, d3] => { results := [.lit (.bool true)], args := [d1, d2, d3] }
  | _ => none }
def hashtreeAcceptsRow : OpenClaim := { program := "ytldcoekbgfaomaa", sum := "faeed2a50b351f99d99522d324f073647a341c207357f8f1ed6255fb5864be0a", func := "standby/standbylaw11.HashtreeAccepts", spec := "hashtreeAccepts", unfollowed := true, recurses := true, apart := false }
def HashtreeAcceptsSaid : Prop := hashtreeAcceptsRow.holds Try.pinned (OpenSpec.ofChange hashtreeAcceptsSpec)

/-- ITS FALSE NEIGHBOUR: 'it returns false'. Refute it at one input. -/
def hashtreeAcceptsWrong : ChangeSpec := { name := "hashtreeAccepts", fn := fun _ => fun
  | [d1, d2, d3] => { results := [.lit (.bool false)], args := [d1, d2, d3] }
  | _ => none }
def HashtreeAcceptsWrongFalsely : Prop := hashtreeAcceptsRow.holds Try.pinned (OpenSpec.ofChange hashtreeAcceptsWrong)

/-- 'standbylaw44.CompareBegins': WHATEVER THE INPUT: true; the input reads as it did. -/
def compareBeginsSpec : ChangeSpec := { name := "compareBegins", fn := fun _ => fun
  | [d1, d2] => { results := [.lit (.bool true)], args := [d1, d2] }
  | _ => none }
def compareBeginsRow : OpenClaim := { program := "ytldcoekbgfaomaa", sum := "faeed2a50b351f99d99522d324f073647a341c207357f8f1ed6255fb5864be0a", func := "standby/standbylaw44.CompareBegins", spec := "compareBegins", unfollowed := true, recurses := true, apart := false }
def CompareBeginsSaid : Prop := compareBeginsRow.holds Try.pinned (OpenSpec.ofChange compareBeginsSpec)

/-- ITS FALSE NEIGHBOUR: 'it returns false'. Refute it at one input. -/
def compareBeginsWrong : ChangeSpec := { name := "compareBegins", fn := fun _ => fun
  | [d1, d2] => { results := [.lit (.bool false)], args := [d1, d2] }
  | _ => none }
def CompareBeginsWrongFalsely : Prop := compareBeginsRow.holds Try.pinned (OpenSpec.ofChange compareBeginsWrong)

/-- 'standbylaw44.CompareAnswers': WHATEVER THE INPUT: true; the input reads as it did. -/
def compareAnswersSpec : ChangeSpec := { name := "compareAnswers", fn := fun _ => fun
  | [d1, d2] => { results := [.lit (.bool true)], args := [d1, d2] }
  | _ => none }
def compareAnswersRow : OpenClaim := { program := "ytldcoekbgfaomaa", sum := "faeed2a50b351f99d99522d324f073647a341c207357f8f1ed6255fb5864be0a", func := "standby/standbylaw44.CompareAnswers", spec := "compareAnswers", unfollowed := true, recurses := true, apart := false }
def CompareAnswersSaid : Prop := compareAnswersRow.holds Try.pinned (OpenSpec.ofChange compareAnswersSpec)

/-- ITS FALSE NEIGHBOUR: 'it returns false'. Refute it at one input. -/
def compareAnswersWrong : ChangeSpec := { name := "compareAnswers", fn := fun _ => fun
  | [d1, d2] => { results := [.lit (.bool false)], args := [d1, d2] }
  | _ => none }
def CompareAnswersWrongFalsely : Prop := compareAnswersRow.holds Try.pinned (OpenSpec.ofChange compareAnswersWrong)

/-- 'standbylaw44.CompareLearns': WHATEVER THE INPUT: true; the input reads as it did. -/
def compareLearnsSpec : ChangeSpec := { name := "compareLearns", fn := fun _ => fun
  | [d1, d2] => { results := [.lit (.bool true)], args := [d1, d2] }
  | _ => none }
def compareLearnsRow : OpenClaim := { program := "ytldcoekbgfaomaa", sum := "faeed2a50b351f99d99522d324f073647a341c207357f8f1ed6255fb5864be0a", func := "standby/standbylaw44.CompareLearns", spec := "compareLearns", unfollowed := true, recurses := true, apart := false }
def CompareLearnsSaid : Prop := compareLearnsRow.holds Try.pinned (OpenSpec.ofChange compareLearnsSpec)

/-- ITS FALSE NEIGHBOUR: 'it returns false'. Refute it at one input. -/
def compareLearnsWrong : ChangeSpec := { name := "compareLearns", fn := fun _ => fun
  | [d1, d2] => { results := [.lit (.bool false)], args := [d1, d2] }
  | _ => none }
def CompareLearnsWrongFalsely : Prop := compareLearnsRow.holds Try.pinned (OpenSpec.ofChange compareLearnsWrong)

/-- 'standbylaw44.CompareRuns': WHATEVER THE INPUT: true; the input reads as it did. -/
def compareRunsSpec : ChangeSpec := { name := "compareRuns", fn := fun _ => fun
  | [d1, d2, d3] => { results := [.lit (.bool true)], args := [d1, d2, d3] }
  | _ => none }
def compareRunsRow : OpenClaim := { program := "ytldcoekbgfaomaa", sum := "faeed2a50b351f99d99522d324f073647a341c207357f8f1ed6255fb5864be0a", func := "standby/standbylaw44.CompareRuns", spec := "compareRuns", unfollowed := true, recurses := true, apart := false }
def CompareRunsSaid : Prop := compareRunsRow.holds Try.pinned (OpenSpec.ofChange compareRunsSpec)

/-- ITS FALSE NEIGHBOUR: 'it returns false'. Refute it at one input. -/
def compareRunsWrong : ChangeSpec := { name := "compareRuns", fn := fun _ => fun
  | [d1, d2, d3] => { results := [.lit (.bool false)], args := [d1, d2, d3] }
  | _ => none }
def CompareRunsWrongFalsely : Prop := compareRunsRow.holds Try.pinned (OpenSpec.ofChange compareRunsWrong)

/-- 'standbylaw44.CompareBounded': WHATEVER THE INPUT: true; the input reads as it did. -/
def compareBoundedSpec : ChangeSpec := { name := "compareBounded", fn := fun _ => fun
  | [d1, d2, d3] => { results := [.lit (.bool true)], args := [d1, d2, d3] }
  | _ => none }
def compareBoundedRow : OpenClaim := { program := "ytldcoekbgfaomaa", sum := "faeed2a50b351f99d99522d324f073647a341c207357f8f1ed6255fb5864be0a", func := "standby/standbylaw44.CompareBounded", spec := "compareBounded", unfollowed := true, recurses := true, apart := false }
def CompareBoundedSaid : Prop := compareBoundedRow.holds Try.pinned (OpenSpec.ofChange compareBoundedSpec)

/-- ITS FALSE NEIGHBOUR: 'it returns false'. Refute it at one input. -/
def compareBoundedWrong : ChangeSpec := { name := "compareBounded", fn := fun _ => fun
  | [d1, d2, d3] => { results := [.lit (.bool false)], args := [d1, d2, d3] }
  | _ => none }
def CompareBoundedWrongFalsely : Prop := compareBoundedRow.holds Try.pinned (OpenSpec.ofChange compareBoundedWrong)

/-- 'standbylaw44.CompareLate': WHATEVER THE INPUT: true; the input reads as it did. -/
def compareLateSpec : ChangeSpec := { name := "compareLate", fn := fun _ => fun
  | [d1, d2, d3] => { results := [.lit (.bool true)], args := [d1, d2, d3] }
  | _ => none }
def compareLateRow : OpenClaim := { program := "ytldcoekbgfaomaa", sum := "faeed2a50b351f99d99522d324f073647a341c207357f8f1ed6255fb5864be0a", func := "standby/standbylaw44.CompareLate", spec := "compareLate", unfollowed := true, recurses := true, apart := false }
def CompareLateSaid : Prop := compareLateRow.holds Try.pinned (OpenSpec.ofChange compareLateSpec)

/-- ITS FALSE NEIGHBOUR: 'it returns false'. Refute it at one input. -/
def compareLateWrong : ChangeSpec := { name := "compareLate", fn := fun _ => fun
  | [d1, d2, d3] => { results := [.lit (.bool false)], args := [d1, d2, d3] }
  | _ => none }
def CompareLateWrongFalsely : Prop := compareLateRow.holds Try.pinned (OpenSpec.ofChange compareLateWrong)

/-- 'standbylaw44.CompareSymmetric': WHATEVER THE INPUT: true; the input reads as it did. -/
def compareSymmetricSpec : ChangeSpec := { name := "compareSymmetric", fn := fun _ => fun
  | [d1, d2, d3] => { results := [.lit (.bool true)], args := [d1, d2, d3] }
  | _ => none }
def compareSymmetricRow : OpenClaim := { program := "ytldcoekbgfaomaa", sum := "faeed2a50b351f99d99522d324f073647a341c207357f8f1ed6255fb5864be0a", func := "standby/standbylaw44.CompareSymmetric", spec := "compareSymmetric", unfollowed := true, recurses := true, apart := false }
def CompareSymmetricSaid : Prop := compareSymmetricRow.holds Try.pinned (OpenSpec.ofChange compareSymmetricSpec)

/-- ITS FALSE NEIGHBOUR: 'it returns false'. Refute it at one input. -/
def compareSymmetricWrong : ChangeSpec := { name := "compareSymmetric", fn := fun _ => fun
  | [d1, d2, d3] => { results := [.lit (.bool false)], args := [d1, d2, d3] }
  | _ => none }
def CompareSymmetricWrongFalsely : Prop := compareSymmetricRow.holds Try.pinned (OpenSpec.ofChange compareSymmetricWrong)

/-- 'standbylaw44.CompareFinds': WHATEVER THE INPUT: true; the input reads as it did. -/
def compareFindsSpec : ChangeSpec := { name := "compareFinds", fn := fun _ => fun
  | [d1, d2, d3] => { results := [.lit (.bool true)], args := [d1, d2, d3] }
  | _ => none }
def compareFindsRow : OpenClaim := { program := "ytldcoekbgfaomaa", sum := "faeed2a50b351f99d99522d324f073647a341c207357f8f1ed6255fb5864be0a", func := "standby/standbylaw44.CompareFinds", spec := "compareFinds", unfollowed := true, recurses := true, apart := false }
def CompareFindsSaid : Prop := compareFindsRow.holds Try.pinned (OpenSpec.ofChange compareFindsSpec)

/-- ITS FALSE NEIGHBOUR: 'it returns false'. Refute it at one input. -/
def compareFindsWrong : ChangeSpec := { name := "compareFinds", fn := fun _ => fun
  | [d1, d2, d3] => { results := [.lit (.bool false)], args := [d1, d2, d3] }
  | _ => none }
def CompareFindsWrongFalsely : Prop := compareFindsRow.holds Try.pinned (OpenSpec.ofChange compareFindsWrong)

/- THE SECOND FORM. 'bulk': how many values and letters a reading holds, each counted each time it is reached (what is shared counts as often as it is met; a slice's spare places count too). A statement '..UptoSaid' is the law's where the arguments, and the package variables that the reading takes, are together of bulk at most 1048576: NARROWER than '..Said'. Prove '..Said' where nothing that the law and all that it calls make is longer than what came in: it says more and counts as full. Else prove '..UptoSaid'. A law counts once. -/
mutual
def uptoBulk {H : Type} : DataW H → Nat
  | .lit (.string bytes) => bytes.length + 1
  | .lit _ => 1
  | .nil => 1
  | .ptr d => uptoBulk d + 1
  | .slice elems spare => uptoBulkAll elems + uptoBulkAll spare + 1
  | .agg parts => uptoBulkAll parts + 1
  | .iface _ d => uptoBulk d + 1
  | .map entries => uptoBulkEntries entries + 1
  | .held _ => 1
def uptoBulkAll {H : Type} : List (DataW H) → Nat
  | [] => 0
  | d :: r => uptoBulk d + uptoBulkAll r
def uptoBulkEntries {H : Type} : List (Lit × DataW H) → Nat
  | [] => 0
  | x :: r => uptoBulkEntry x + uptoBulkEntries r
def uptoBulkEntry {H : Type} : Lit × DataW H → Nat
  | (.string bytes, d) => bytes.length + uptoBulk d + 1
  | (_, d) => uptoBulk d + 1
 end
def uptoSmall : (H : Type) → List (DataW H) → Bool := fun _ ds => decide (uptoBulkAll ds ≤ 1048576)
def OpenSpec.upto (s : _root_.Go.ChangeSpec) : _root_.Go.OpenSpec := { _root_.Go.OpenSpec.ofChange s with cond := some uptoSmall }

/-- 'standbylaw11.HashtreeBuilds', WHERE WHAT IT READS IS OF BULK AT MOST 1048576: true; the input reads as it did. -/
def hashtreeBuildsUptoRow : OpenClaim := { program := "ytldcoekbgfaomaa", sum := "faeed2a50b351f99d99522d324f073647a341c207357f8f1ed6255fb5864be0a", func := "standby/standbylaw11.HashtreeBuilds", spec := "hashtreeBuilds", unfollowed := true, recurses := true, apart := false, narrowed := true }
def HashtreeBuildsUptoSaid : Prop := hashtreeBuildsUptoRow.holds Try.pinned (OpenSpec.upto hashtreeBuildsSpec)

/-- 'standbylaw11.HashtreeUpdates', WHERE WHAT IT READS IS OF BULK AT MOST 1048576: true; the input reads as it did. -/
def hashtreeUpdatesUptoRow : OpenClaim := { program := "ytldcoekbgfaomaa", sum := "faeed2a50b351f99d99522d324f073647a341c207357f8f1ed6255fb5864be0a", func := "standby/standbylaw11.HashtreeUpdates", spec := "hashtreeUpdates", unfollowed := true, recurses := true, apart := false, narrowed := true }
def HashtreeUpdatesUptoSaid : Prop := hashtreeUpdatesUptoRow.holds Try.pinned (OpenSpec.upto hashtreeUpdatesSpec)

/-- 'standbylaw11.HashtreeDiffers', WHERE WHAT IT READS IS OF BULK AT MOST 1048576: true; the input reads as it did. -/
def hashtreeDiffersUptoRow : OpenClaim := { program := "ytldcoekbgfaomaa", sum := "faeed2a50b351f99d99522d324f073647a341c207357f8f1ed6255fb5864be0a", func := "standby/standbylaw11.HashtreeDiffers", spec := "hashtreeDiffers", unfollowed := true, recurses := true, apart := false, narrowed := true }
def HashtreeDiffersUptoSaid : Prop := hashtreeDiffersUptoRow.holds Try.pinned (OpenSpec.upto hashtreeDiffersSpec)

/-- 'standbylaw11.HashtreeFollows', WHERE WHAT IT READS IS OF BULK AT MOST 1048576: true; the input reads as it did. -/
def hashtreeFollowsUptoRow : OpenClaim := { program := "ytldcoekbgfaomaa", sum := "faeed2a50b351f99d99522d324f073647a341c207357f8f1ed6255fb5864be0a", func := "standby/standbylaw11.HashtreeFollows", spec := "hashtreeFollows", unfollowed := true, recurses := true, apart := false, narrowed := true }
def HashtreeFollowsUptoSaid : Prop := hashtreeFollowsUptoRow.holds Try.pinned (OpenSpec.upto hashtreeFollowsSpec)

/-- 'standbylaw11.HashtreeFinds', WHERE WHAT IT READS IS OF BULK AT MOST 1048576: true; the input reads as it did. -/
def hashtreeFindsUptoRow : OpenClaim := { program := "ytldcoekbgfaomaa", sum := "faeed2a50b351f99d99522d324f073647a341c207357f8f1ed6255fb5864be0a", func := "standby/standbylaw11.HashtreeFinds", spec := "hashtreeFinds", unfollowed := true, recurses := true, apart := false, narrowed := true }
def HashtreeFindsUptoSaid : Prop := hashtreeFindsUptoRow.holds Try.pinned (OpenSpec.upto hashtreeFindsSpec)

/-- 'standbylaw11.HashtreeChecks', WHERE WHAT IT READS IS OF BULK AT MOST 1048576: true; the input reads as it did. -/
def hashtreeChecksUptoRow : OpenClaim := { program := "ytldcoekbgfaomaa", sum := "faeed2a50b351f99d99522d324f073647a341c207357f8f1ed6255fb5864be0a", func := "standby/standbylaw11.HashtreeChecks", spec := "hashtreeChecks", unfollowed := true, recurses := true, apart := false, narrowed := true }
def HashtreeChecksUptoSaid : Prop := hashtreeChecksUptoRow.holds Try.pinned (OpenSpec.upto hashtreeChecksSpec)

/-- 'standbylaw11.HashtreeShapes', WHERE WHAT IT READS IS OF BULK AT MOST 1048576: true; the input reads as it did. -/
def hashtreeShapesUptoRow : OpenClaim := { program := "ytldcoekbgfaomaa", sum := "faeed2a50b351f99d99522d324f073647a341c207357f8f1ed6255fb5864be0a", func := "standby/standbylaw11.HashtreeShapes", spec := "hashtreeShapes", unfollowed := true, recurses := true, apart := false, narrowed := true }
def HashtreeShapesUptoSaid : Prop := hashtreeShapesUptoRow.holds Try.pinned (OpenSpec.upto hashtreeShapesSpec)

/-- 'standbylaw11.HashtreeProves', WHERE WHAT IT READS IS OF BULK AT MOST 1048576: true; the input reads as it did. -/
def hashtreeProvesUptoRow : OpenClaim := { program := "ytldcoekbgfaomaa", sum := "faeed2a50b351f99d99522d324f073647a341c207357f8f1ed6255fb5864be0a", func := "standby/standbylaw11.HashtreeProves", spec := "hashtreeProves", unfollowed := true, recurses := true, apart := false, narrowed := true }
def HashtreeProvesUptoSaid : Prop := hashtreeProvesUptoRow.holds Try.pinned (OpenSpec.upto hashtreeProvesSpec)

/-- 'standbylaw11.HashtreeAccepts', WHERE WHAT IT READS IS OF BULK AT MOST 1048576: true; the input reads as it did. -/
def hashtreeAcceptsUptoRow : OpenClaim := { program := "ytldcoekbgfaomaa", sum := "faeed2a50b351f99d99522d324f073647a341c207357f8f1ed6255fb5864be0a", func := "standby/standbylaw11.HashtreeAccepts", spec := "hashtreeAccepts", unfollowed := true, recurses := true, apart := false, narrowed := true }
def HashtreeAcceptsUptoSaid : Prop := hashtreeAcceptsUptoRow.holds Try.pinned (OpenSpec.upto hashtreeAcceptsSpec)

/-- 'standbylaw44.CompareBegins', WHERE WHAT IT READS IS OF BULK AT MOST 1048576: true; the input reads as it did. -/
def compareBeginsUptoRow : OpenClaim := { program := "ytldcoekbgfaomaa", sum := "faeed2a50b351f99d99522d324f073647a341c207357f8f1ed6255fb5864be0a", func := "standby/standbylaw44.CompareBegins", spec := "compareBegins", unfollowed := true, recurses := true, apart := false, narrowed := true }
def CompareBeginsUptoSaid : Prop := compareBeginsUptoRow.holds Try.pinned (OpenSpec.upto compareBeginsSpec)

/-- 'standbylaw44.CompareAnswers', WHERE WHAT IT READS IS OF BULK AT MOST 1048576: true; the input reads as it did. -/
def compareAnswersUptoRow : OpenClaim := { program := "ytldcoekbgfaomaa", sum := "faeed2a50b351f99d99522d324f073647a341c207357f8f1ed6255fb5864be0a", func := "standby/standbylaw44.CompareAnswers", spec := "compareAnswers", unfollowed := true, recurses := true, apart := false, narrowed := true }
def CompareAnswersUptoSaid : Prop := compareAnswersUptoRow.holds Try.pinned (OpenSpec.upto compareAnswersSpec)

/-- 'standbylaw44.CompareLearns', WHERE WHAT IT READS IS OF BULK AT MOST 1048576: true; the input reads as it did. -/
def compareLearnsUptoRow : OpenClaim := { program := "ytldcoekbgfaomaa", sum := "faeed2a50b351f99d99522d324f073647a341c207357f8f1ed6255fb5864be0a", func := "standby/standbylaw44.CompareLearns", spec := "compareLearns", unfollowed := true, recurses := true, apart := false, narrowed := true }
def CompareLearnsUptoSaid : Prop := compareLearnsUptoRow.holds Try.pinned (OpenSpec.upto compareLearnsSpec)

/-- 'standbylaw44.CompareRuns', WHERE WHAT IT READS IS OF BULK AT MOST 1048576: true; the input reads as it did. -/
def compareRunsUptoRow : OpenClaim := { program := "ytldcoekbgfaomaa", sum := "faeed2a50b351f99d99522d324f073647a341c207357f8f1ed6255fb5864be0a", func := "standby/standbylaw44.CompareRuns", spec := "compareRuns", unfollowed := true, recurses := true, apart := false, narrowed := true }
def CompareRunsUptoSaid : Prop := compareRunsUptoRow.holds Try.pinned (OpenSpec.upto compareRunsSpec)

/-- 'standbylaw44.CompareBounded', WHERE WHAT IT READS IS OF BULK AT MOST 1048576: true; the input reads as it did. -/
def compareBoundedUptoRow : OpenClaim := { program := "ytldcoekbgfaomaa", sum := "faeed2a50b351f99d99522d324f073647a341c207357f8f1ed6255fb5864be0a", func := "standby/standbylaw44.CompareBounded", spec := "compareBounded", unfollowed := true, recurses := true, apart := false, narrowed := true }
def CompareBoundedUptoSaid : Prop := compareBoundedUptoRow.holds Try.pinned (OpenSpec.upto compareBoundedSpec)

/-- 'standbylaw44.CompareLate', WHERE WHAT IT READS IS OF BULK AT MOST 1048576: true; the input reads as it did. -/
def compareLateUptoRow : OpenClaim := { program := "ytldcoekbgfaomaa", sum := "faeed2a50b351f99d99522d324f073647a341c207357f8f1ed6255fb5864be0a", func := "standby/standbylaw44.CompareLate", spec := "compareLate", unfollowed := true, recurses := true, apart := false, narrowed := true }
def CompareLateUptoSaid : Prop := compareLateUptoRow.holds Try.pinned (OpenSpec.upto compareLateSpec)

/-- 'standbylaw44.CompareSymmetric', WHERE WHAT IT READS IS OF BULK AT MOST 1048576: true; the input reads as it did. -/
def compareSymmetricUptoRow : OpenClaim := { program := "ytldcoekbgfaomaa", sum := "faeed2a50b351f99d99522d324f073647a341c207357f8f1ed6255fb5864be0a", func := "standby/standbylaw44.CompareSymmetric", spec := "compareSymmetric", unfollowed := true, recurses := true, apart := false, narrowed := true }
def CompareSymmetricUptoSaid : Prop := compareSymmetricUptoRow.holds Try.pinned (OpenSpec.upto compareSymmetricSpec)

/-- 'standbylaw44.CompareFinds', WHERE WHAT IT READS IS OF BULK AT MOST 1048576: true; the input reads as it did. -/
def compareFindsUptoRow : OpenClaim := { program := "ytldcoekbgfaomaa", sum := "faeed2a50b351f99d99522d324f073647a341c207357f8f1ed6255fb5864be0a", func := "standby/standbylaw44.CompareFinds", spec := "compareFinds", unfollowed := true, recurses := true, apart := false, narrowed := true }
def CompareFindsUptoSaid : Prop := compareFindsUptoRow.holds Try.pinned (OpenSpec.upto compareFindsSpec)

end Rows
end Go.Proofs.Ytldcoekbgfaomaa
