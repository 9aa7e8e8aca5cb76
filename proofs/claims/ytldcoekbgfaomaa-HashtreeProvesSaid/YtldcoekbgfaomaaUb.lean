/- The walks of the code that the statement reaches, and the plain laws behind them, part Ub. No conditions. -/
import Derived.IntWalk
import Derived.Test.YtldcoekbgfaomaaProg
import Derived.Laws.StructEq
import Derived.Test.YtldcoekbgfaomaaChecked
import Derived.Test.YtldcoekbgfaomaaUa
set_option linter.unusedVariables false
set_option linter.unusedSimpArgs false
section
namespace Go.Proofs.Ytldcoekbgfaomaa
open Go.RowKit
open Classical
section
variable {F : Fence} {n : Nat} {P : Program} {ops : Array Oper} {Q : Exit → Act → World → Prop} {late : Nat → Bool}
/-- Whatever order is picked from here on; what is not late leaves every block as it was. -/
def Gm (F : Fence) (n : Nat) (P : Program) (ops : Array Oper) (Q : Exit → Act → World → Prop) (late : Nat → Bool) : Nat → Array Bool → Act → World → Prop
  | 0, L, a, w => Region.ready .any ops L = [] ∧ Q .normal a w
  | fuel + 1, L, a, w => (Region.ready .any ops L = [] → Q .normal a w) ∧
    ∀ i ∈ Region.ready .any ops L, wpOpIn F n P ops Q i (fun a' w' => (late i = true ∨ w.grownBy w' none) ∧ Gm F n P ops Q late fuel (L.setIfInBounds i true) a' w') a w
theorem gm_any : ∀ (fuel : Nat) (L : Array Bool) (a : Act) (w : World), Gm F n P ops Q late fuel L a w → wpAnyIn F n P .any ops Q fuel L a w
  | 0, _, _, _, h => h
  | fuel + 1, _, _, _, h => ⟨h.1, fun i hi => wpOpIn_mono (fun a' w' h' => gm_any fuel _ a' w' h'.2) (h.2 i hi)⟩
/-- The operation yields v, or it is passed over. -/
def Qy (P : Program) (ops : Array Oper) (o : Oper) (v : Value) (a : Act) (w : World) : Prop :=
  (Region.wanted o (yielded ops a.tmps) = true ∧ Yld P a o w v ∧ (∀ c, o.op ≠ .defer c) ∧ ∀ f, o.about P w a.eval = some f → F.fn f) ∨
  (Region.wanted o (yielded ops a.tmps) = false ∧ v = undef)
theorem Qy.wpOpIn (hF : Wide F) {i : Nat} {o : Oper} {v : Value} {a : Act} {w : World} (hi : ops[i]? = some o) (hy : Qy (F := F) P ops o v a w) {K : Act → World → Prop} (h : K (a.put o.dst v) w) : wpOpIn F n P ops Q i K a w := by
  unfold Go.wpOpIn
  simp only [hi]
  rcases hy with ⟨hw, hv, hd, _⟩ | ⟨hw, rfl⟩
  · simp only [hw,Zr,Oper.wpIn]
    rw [semAt_exec hd, hv w (fun _ => Agree.refl w)]
    exact ⟨fun f _ => hF.fn f, h⟩
  · simp only [hw,Zf,Zq]
    exact ⟨fun f _ => hF.fn f, h⟩
theorem Agree.of_grown {w w' : World} (h : w.grownBy w' none) : Agree w w' := fun g hg => h.block g hg (by simp)
theorem Agree.trans {w w' w'' : World} (h : Agree w w') (hs : w.heap.size ≤ w'.heap.size) (h' : Agree w' w'') : Agree w w'' := fun g hg => (h' g (by omega)).trans (h g hg)
theorem Qy.later (hF : Wide F) {o : Oper} {v : Value} {a a' : Act} {w w' : World} (hy : Qy (F := F) P ops o v a w) (he : execOp a'.eval o = execOp a.eval o) (hw : Region.wanted o (yielded ops a'.tmps) = Region.wanted o (yielded ops a.tmps))
    (hag : Op.isLoad o.op = true → w.grownBy w' none) : Qy (F := F) P ops o v a' w' := by
  rcases hy with ⟨h1, h2, h3, _⟩ | ⟨h1, h2⟩
  · refine .inl ⟨by rw [hw]; exact h1, fun W hW => ?_, h3, fun f _ => hF.fn f⟩
    rw [he]
    exact h2 W fun hl => (Agree.of_grown (hag hl)).trans (hag hl).size (hW hl)
  · exact .inr ⟨by rw [hw]; exact h1, h2⟩
/-- Operation j, apart from i: i's value may be in its place already. -/
theorem gm_put (hF : Wide F) {j : Nat} {oi oj : Oper} {v : Value} (hj : ops[j]? = some oj) (hap : oi.apart ops oj = true)
    (hsi : ∀ cs b, oi.op ≠ .select cs b) (hsj : ∀ cs b, oj.op ≠ .select cs b) (hdj : ∀ c, oj.op ≠ .defer c)
    (hQ : ∀ c a w, ¬ Q (.panic c) a w) {K : Act → World → Prop} {a : Act} {w : World} (hg : Op.isLoad oi.op = true → ∀ a' w', K a' w' → w.grownBy w' none)
    (hy : Qy (F := F) P ops oi v a w) (h : wpOpIn F n P ops Q j K (a.put oi.dst v) w) :
    wpOpIn F n P ops Q j (fun a' w' => Qy (F := F) P ops oi v a' w' ∧ K (a'.put oi.dst v) w') a w := by
  obtain ⟨h1, h2, h3⟩ := Oper.apart_spec hap
  have fin : ∀ (u : Value) (w' : World), K ((a.put oi.dst v).put oj.dst u) w' → Qy (F := F) P ops oi v (a.put oj.dst u) w' ∧ K ((a.put oj.dst u).put oi.dst v) w' := by
    intro u w' hK
    refine ⟨hy.later hF (execOp_put oi hsi a oj.dst u h3) (wanted_put oi a oj.dst u h3) (fun hl => hg hl _ _ hK), ?_⟩
    rw [← Act.put_comm a v u h2]
    exact hK
  unfold wpOpIn at *
  simp only [hj] at *
  rw [wanted_put oj a oi.dst v h1] at h
  split
  · rename_i hw
    simp only [hw,Zr] at h
    unfold Oper.wpIn at *
    refine ⟨fun f _ => hF.fn f, ?_⟩
    have h := h.2
    rw [semAt_exec hdj] at h ⊢
    rw [execOp_put oj hsj a oi.dst v h1] at h
    generalize (execOp a.eval oj).run P w = r at *
    cases r with
    | ok x w' =>
      cases x <;> simp only [Oper.uponIn] at h ⊢
      case value u => exact fin u w' h
      case skip => exact fin undef w' h
      case defer d =>
        have e0 : execOp ({ a with defers := d :: a.defers } : Act).eval oi = execOp a.eval oi := rfl
        have h' : K (({ a.put oi.dst v with defers := d :: (a.put oi.dst v).defers } : Act).put oj.dst undef) w' := h
        refine ⟨hy.later hF ((execOp_put oi hsi _ oj.dst undef h3).trans e0) (wanted_put oi _ oj.dst undef h3) (fun hl => hg hl _ _ h'), ?_⟩
        rw [← Act.put_comm _ v undef h2, ← Act.put_defers]
        exact h'
      case enter f args =>
        refine ⟨h.1, CallsIn.mono h.2 fun e w'' he => ?_⟩
        cases e with
        | returned u => exact fin u w'' he
        | panicked c => exact absurd he (hQ _ _ _)
        | outgrown => exact he
      case row row args => exact ⟨h.1, RowsIn.mono h.2 fun u w'' he => fin u w'' he⟩
      case round l f tmps assign body =>
        refine ⟨h.1, RoundIn.mono h.2 fun e w'' he => ?_⟩
        cases e with
        | returned u => exact fin u w'' he
        | panicked c => exact absurd he (hQ _ _ _)
        | outgrown => exact he
    | halt x w' =>
      cases x <;> simp only [Oper.uponIn] at h ⊢
      case panic u => exact absurd h (hQ _ _ _)
  · rename_i hw
    simp only [hw] at h
    exact ⟨fun f _ => hF.fn f, fin undef w h.2⟩
/-- j waits for i. -/
def anc (ops : Array Oper) : Nat → Nat → Nat → Bool
  | 0, _, _ => false
  | f + 1, j, i => match ops[j]? with
    | some o => o.after.toList.any fun e => Region.binds .any e && (e.on == i || anc ops f e.on i)
    | none => false
def Closed (ops : Array Oper) (L : Array Bool) : Prop :=
  ∀ (k : Nat), L.getD k false = true → ∀ o, ops[k]? = some o → ∀ e ∈ o.after.toList, Region.binds .any e = true → L.getD e.on false = true
theorem anc_listed {L : Array Bool} (hc : Closed ops L) : ∀ (f j i : Nat), anc ops f j i = true → (∀ o, ops[j]? = some o → ∀ e ∈ o.after.toList, Region.binds .any e = true → L.getD e.on false = true) → L.getD i false = true
  | 0, j, i, h, _ => by simp [anc] at h
  | f + 1, j, i, h, hp => by
    simp only [anc] at h
    split at h
    · rename_i o ho
      rw [List.any_eq_true] at h
      obtain ⟨e, he, h⟩ := h
      rw [Bool.and_eq_true, Bool.or_eq_true] at h
      have h1 := hp o ho e he h.1
      rcases h.2 with h2 | h2
      · have : e.on = i := by simpa using h2
        rw [← this]; exact h1
      · exact anc_listed hc f e.on i h2 fun o' ho' e' he' hb' => hc e.on h1 o' ho' e' he' hb'
    · cases h
theorem ready_all {L : Array Bool} {j : Nat} (h : j ∈ Region.ready .any ops L) : L.getD j true = false ∧ ∃ o, ops[j]? = some o ∧ ∀ e ∈ o.after.toList, Region.binds .any e = true → L.getD e.on false = true := by
  obtain ⟨h1, o, ho, h2⟩ := mem_ready.1 h
  exact ⟨h1, o, ho, fun e he hb => h2 e (by simpa using he) hb⟩
theorem getD_setIf {L : Array Bool} {j k : Nat} {x : Bool} : (L.setIfInBounds j true).getD k x = if j = k ∧ j < L.size then true else L.getD k x := by
  simp only [Array.getD_eq_getD_getElem?,Array.getElem?_setIfInBounds]
  by_cases h : j = k
  · subst h
    by_cases h2 : j < L.size
    · simp [h2]
    · simp [h2]
  · simp [h]
theorem Closed.next {L : Array Bool} (hc : Closed ops L) {j : Nat} (hj : j ∈ Region.ready .any ops L) : Closed ops (L.setIfInBounds j true) := by
  obtain ⟨_, oj, hoj, hall⟩ := ready_all hj
  intro k hk o ho e he hb
  rw [getD_setIf] at hk ⊢
  split
  · rfl
  · split at hk
    · rename_i h1
      obtain ⟨rfl, _⟩ := h1
      rw [hoj] at ho
      injection ho with ho
      subst ho
      exact hall e he hb
    · exact hc k hk o ho e he hb
/-- May number i be taken first? -/
def lateOk (ops : Array Oper) (late : Nat → Bool) (L : Array Bool) (i : Nat) : Bool :=
  (List.range ops.size).all fun j => !late j || L.getD j true || j == i || anc ops ops.size j i
theorem gm_first (hF : Wide F) {i : Nat} {oi : Oper} {v : Value} (hi : ops[i]? = some oi) (hsel : ∀ (j : Nat) (o : Oper) cs b, ops[j]? = some o → o.op ≠ .select cs b)
    (hdef : ∀ (j : Nat) (o : Oper) c, ops[j]? = some o → o.op ≠ .defer c) (hQ : ∀ c a w, ¬ Q (.panic c) a w) :
    ∀ (fuel : Nat) (L : Array Bool) (a : Act) (w : World), Closed ops L → L.size = ops.size →
      (∀ j oj, ops[j]? = some oj → j ≠ i → L.getD j true = false → (∀ e ∈ oj.after, Region.binds .any e = true → e.on ≠ i) → oi.apart ops oj = true) →
      (Op.isLoad oi.op = true → ∀ j, late j = true → L.getD j true = false → j ≠ i → anc ops ops.size j i = true) →
      i ∈ Region.ready .any ops L → Qy (F := F) P ops oi v a w →
      Gm F n P ops Q late fuel (L.setIfInBounds i true) (a.put oi.dst v) w → Gm F n P ops Q late (fuel + 1) L a w := by
  intro fuel
  induction fuel with
  | zero =>
    intro L a w _ _ _ _ hr hy H
    refine ⟨fun h => (by rw [h] at hr; cases hr), fun j hj => ?_⟩
    by_cases hji : j = i
    · subst hji; exact hy.wpOpIn hF hi ⟨.inr ⟨rfl, rfl, rfl, Nat.le_refl _, fun _ _ _ => rfl⟩, H⟩
    · have := ready_mono hj hji
      rw [H.1] at this
      cases this
  | succ fuel ih =>
    intro L a w hcl hsz hfree hlate hr hy H
    refine ⟨fun h => (by rw [h] at hr; cases hr), fun j hj => ?_⟩
    by_cases hji : j = i
    · subst hji; exact hy.wpOpIn hF hi ⟨.inr ⟨rfl, rfl, rfl, Nat.le_refl _, fun _ _ _ => rfl⟩, H⟩
    · have h1 := H.2 j (ready_mono hj hji)
      obtain ⟨hjun, oj, hoj, hall⟩ := ready_all hj
      have hi0 : L.getD i true = false := (ready_all hr).1
      have hil : i < ops.size := (Array.getElem?_eq_some_iff.1 hi).1
      have hi0' : L.getD i false = false := by
        rw [Array.getD_eq_getD_getElem?, Array.getElem?_eq_getElem (by omega)] at hi0 ⊢
        exact hi0
      have hnot : ∀ e ∈ oj.after, Region.binds .any e = true → e.on ≠ i := fun e he hb heq => by
        have h1 := hall e (by simpa using he) hb
        rw [heq, hi0'] at h1
        cases h1
      have hnl : Op.isLoad oi.op = true → late j = false := fun hl => by
        cases hlj : late j with
        | false => rfl
        | true =>
          have h2 := hlate hl j hlj hjun hji
          have := anc_listed hcl _ j i h2 fun o ho e he hb => by
            rw [hoj] at ho
            injection ho with ho
            subst ho
            exact hall e he hb
          rw [hi0'] at this
          cases this
      have h2 := gm_put hF hoj (hfree j oj hoj hji hjun hnot) (fun cs b => hsel i oi cs b hi) (fun cs b => hsel j oj cs b hoj) (fun c => hdef j oj c hoj) hQ
        (fun hl a' w' hK => by
          rcases hK.1 with h | h
          · rw [hnl hl] at h; cases h
          · exact h) hy h1
      have hun : ∀ k, k ≠ j → (L.setIfInBounds j true).getD k true = false → L.getD k true = false := fun k hk h => by
        rw [getD_setIf, if_neg (by intro h'; exact hk h'.1.symm)] at h
        exact h
      have hunj : ∀ k, (L.setIfInBounds j true).getD k true = false → k ≠ j := fun k h e => by
        subst e
        rw [getD_setIf] at h
        have : k < L.size := by rw [hsz]; exact (Array.getElem?_eq_some_iff.1 hoj).1
        rw [if_pos ⟨rfl, this⟩] at h
        cases h
      refine wpOpIn_mono (fun a' w' h3 => ⟨h3.2.1, ih (L.setIfInBounds j true) a' w' (hcl.next hj) (by simp [hsz]) ?_ ?_ (ready_mono hr (Ne.symm hji)) h3.1 ?_⟩) h2
      · exact fun k ok hk hki hu hno => hfree k ok hk hki (hun k (hunj k hu) hu) hno
      · exact fun hl k hlk hu hki => hlate hl k hlk (hun k (hunj k hu) hu) hki
      · rw [Array.setIfInBounds_comm _ _ hji]
        exact h3.2.2
/-- An order that serves all: what is taken first (true), and what must come next. -/
def gchk (ops : Array Oper) (late : Nat → Bool) : List (Nat × Bool) → Array Bool → Bool
  | [], L => (Region.ready .any ops L).isEmpty
  | (i, q) :: r, L =>
    (if q then (Region.ready .any ops L).contains i && Region.free .any ops L i && (match ops[i]? with | some o => !Op.isLoad o.op || lateOk ops late L i | none => false)
      else (Region.ready .any ops L) == [i]) && gchk ops late r (L.setIfInBounds i true)
def noDefer (ops : Array Oper) : Bool := ops.toList.all fun o => match o.op with
  | .defer _ => false
  | _ => true
def lateB (ops : Array Oper) (j : Nat) : Bool := match ops[j]? with
  | some o => !Op.growsB o.op
  | none => false
def drawOk (ops : Array Oper) (ord : List (Nat × Bool)) : Bool :=
  Region.noSelect ops && noDefer ops && ord.length == ops.size && gchk ops (lateB ops) ord (Array.replicate ops.size false)
theorem noDefer_spec (h : noDefer ops = true) : ∀ (j : Nat) (o : Oper) c, ops[j]? = some o → o.op ≠ .defer c := by
  intro j o c ho hd
  simp only [noDefer,List.all_eq_true] at h
  have := h o (by simpa using Array.mem_of_getElem? ho)
  rw [hd] at this
  cases this
/-- The walk in that order. -/
def GSeq (F : Fence) (n : Nat) (P : Program) (ops : Array Oper) (Q : Exit → Act → World → Prop) (late : Nat → Bool) : List (Nat × Bool) → Act → World → Prop
  | [], a, w => Q .normal a w
  | (i, q) :: r, a, w =>
    if q = true then ∃ o v, ops[i]? = some o ∧ Qy (F := F) P ops o v a w ∧ GSeq F n P ops Q late r (a.put o.dst v) w
    else wpOpIn F n P ops Q i (fun a' w' => (late i = true ∨ w.grownBy w' none) ∧ GSeq F n P ops Q late r a' w') a w
theorem gseq_gm (hF : Wide F) (hs : Region.noSelect ops = true) (hd : noDefer ops = true) (hQ : ∀ c a w, ¬ Q (.panic c) a w) : ∀ (ord : List (Nat × Bool)) (L : Array Bool) (a : Act) (w : World), Closed ops L → L.size = ops.size →
    gchk ops late ord L = true → GSeq F n P ops Q late ord a w → Gm F n P ops Q late ord.length L a w
  | [], L, a, w, _, _, h, hg => by
    simp only [gchk,List.isEmpty_iff] at h
    exact ⟨h, hg⟩
  | (i, q) :: r, L, a, w, hc, hsz, h, hg => by
    simp only [gchk,Bool.and_eq_true] at h
    obtain ⟨h1, h2⟩ := h
    cases q with
    | true =>
      simp only [Zr,Bool.and_eq_true] at h1
      obtain ⟨⟨hr, hf⟩, hl⟩ := h1
      simp only [GSeq,Zr] at hg
      obtain ⟨o, v, ho, hy, hg⟩ := hg
      have hri : i ∈ Region.ready .any ops L := by simpa using hr
      refine gm_first hF ho (Region.noSelect_spec hs) (noDefer_spec hd) hQ r.length L a w hc hsz (Region.free_spec ho hf) ?_ hri hy (gseq_gm hF hs hd hQ r _ _ _ (hc.next hri) (by simp [hsz]) h2 hg)
      intro hload j hlj hun hji
      rw [ho] at hl
      simp only [hload,Bool.not_true,Bool.false_or] at hl
      simp only [lateOk,List.all_eq_true,List.mem_range] at hl
      have hjl : j < ops.size := by
        rcases Nat.lt_or_ge j L.size with h' | h'
        · omega
        · rw [Array.getD_eq_getD_getElem?, Array.getElem?_eq_none h'] at hun; cases hun
      have := hl j hjl
      simp only [hlj,hun,Bool.not_true,Bool.false_or,Bool.or_eq_true,ZJ] at this
      rcases this with h | h
      · exact absurd h hji
      · exact h
    | false =>
      simp only [Zf,Zq,ZJ] at h1
      simp only [GSeq,Zf,Zq] at hg
      have hri : i ∈ Region.ready .any ops L := by rw [h1]; simp
      refine ⟨(fun h0 => by rw [h1] at h0; cases h0), fun j hj => ?_⟩
      rw [h1] at hj
      simp only [List.mem_singleton] at hj
      subst hj
      exact wpOpIn_mono (fun a' w' h => ⟨h.1, gseq_gm hF hs hd hQ r _ _ _ (hc.next hri) (by simp [hsz]) h2 h.2⟩) hg
/-- **A region that draws its order, walked in one.** -/
theorem wpIn_drawn (hF : Wide F) {id : Nat} {a : Act} {w : World} (hm : P.follows .mixedOrders = true) {ord : List (Nat × Bool)} (hok : drawOk ops ord = true) {Q' : Exit → Act → World → Prop}
    (h : GSeq F n P ops (fun e a w => e = .normal ∧ Q' .normal a w) (lateB ops) ord a { w with drawn := w.drawn + 1 }) : (Code.region id ops true).wpIn F n P Q' a w := by
  simp only [drawOk,Bool.and_eq_true,ZJ] at hok
  obtain ⟨⟨⟨h1, h2⟩, h3⟩, h4⟩ := hok
  refine wpIn_mono (Q := fun e a w => e = .normal ∧ Q' .normal a w) ?_ (fun e a w he => by obtain ⟨rfl, h⟩ := he; exact h)
  refine wpIn_region_any hm (gm_any (late := lateB ops) _ _ _ _ ?_)
  have hc : Closed ops (Array.replicate ops.size false) := by
    intro k hk o ho e he hb
    rw [Array.getD_eq_getD_getElem?, Array.getElem?_replicate] at hk
    split at hk <;> cases hk
  have := gseq_gm hF h1 h2 (fun c a w h => by cases h.1) ord _ a _ hc (by simp) h4 h
  rw [h3] at this
  exact this
end
end Go.Proofs.Ytldcoekbgfaomaa
end
section
namespace Go.Proofs.Ytldcoekbgfaomaa
open Go.RowKit
open Classical
noncomputable def AOpsD (P : Program) (b : Tb) (ops : Array Oper) : List (Nat × Bool) → St → (St → Prop) → Prop
  | [], σ, K => K σ
  | (i, q) :: rest, σ, K => match ops[i]? with
    | none => False
    | some o => match gd σ ops o with
      | some true => if q = true then (match qop b σ o.op with
          | some d => AOpsD P b ops rest (σ.put o.dst d) K
          | none => False)
        else AOp P b o σ (fun σ' => AOpsD P b ops rest σ' K) ∨ AOpL P o σ (fun σ' => AOpsD P b ops rest σ' K)
      | some false => AOpsD P b ops rest (σ.put o.dst (.tup [])) K
      | none => False
section
variable {X : Cx} {b : Tb} {σ : St} {a : Act} {w : World} {γ : Gh} {C : Nat → Prop}
theorem grownBy_rfl (w : World) (row : Option Nat) : w.grownBy w row := ⟨rfl, rfl, rfl, Nat.le_refl _, fun _ _ _ => rfl⟩
/-- One operation in a region that draws. -/
theorem aopd_ok (hX : Wide X.F) (hb : b.Ok X.P) {ops : Array Oper} {i : Nat} {o : Oper} (ho : ops[i]? = some o) (hw : Region.wanted o (yielded ops a.tmps) = true) {K : St → Prop} (h : AOp X.P b o σ K) (hs : Sat X σ a w)
    {Q : Exit → Act → World → Prop} {N : Act → World → Prop} (hN : ∀ σ' a' w', K σ' → Sat X σ' a' w' → N a' w') :
    wpOpIn X.F X.n X.P ops Q i (fun a' w' => (lateB ops i = true ∨ w.grownBy w' none) ∧ N a' w') a w := by
  unfold wpOpIn
  simp only [ho,hw,Zr]
  obtain ⟨γ, C, r⟩ := hs
  refine ⟨fun f _ => hX.fn f, ?_⟩
  unfold AOp at h
  split at h
  · rename_i f ds hcall
    obtain ⟨c, fo, hop, hc, hf, hv⟩ := callOf_ok r hcall
    obtain ⟨dst, op, ty, pos, after, guard⟩ := o
    simp only at hop h
    subst hop
    have e : (c.args.toList.map a.eval).toArray = c.args.map a.eval := by apply Array.ext'; simp
    rcases h with ⟨rr, hac, hK⟩ | ⟨V, hac, hK⟩
    · rw [semAt_exec (by intro c h; cases h), exec_call hc hf hac.en]
      refine ⟨fun hd => by simp [hX.depth] at hd, ?_⟩
      have := hac.any hX (X.n - 1) C w _ (fun g hg => (r.cc g hg).2.1) hv
      rw [e] at this
      refine this.mono fun e w' he => ?_
      obtain ⟨v, rfl, hr, hg⟩ := he
      exact ⟨.inr hg, hN _ _ _ hK (call_post r dst hr hg)⟩
    · rw [semAt_exec (by intro c h; cases h), exec_call hc hf hac.en]
      refine ⟨fun hd => by simp [hX.depth] at hd, ?_⟩
      have := hac.any hX (X.n - 1) C w _ (fun g hg => (r.cc g hg).2.1) hv
      rw [e] at this
      refine this.mono fun e w' he => ?_
      obtain ⟨v, us, rfl, h1, h2, h3, h4⟩ := he
      exact ⟨.inr h4, hN _ _ _ hK (call_postO r dst h1 h2 h3 h4)⟩
  · split at h
    · rename_i d hq
      obtain ⟨v, hv, hy⟩ := qop_ok hb r hq
      rw [semAt_exec (qop_not_defer hq), hy w (fun _ => Agree.refl w)]
      exact ⟨.inr (grownBy_rfl w _), hN _ _ _ h ⟨γ, C, r.put o.dst d v hv⟩⟩
    · split at h
      · rename_i σ' hf
        obtain ⟨nx, v, w', hrun, hnx, hgr, hsat⟩ := fop_ok hb r hf
        have hl : lateB ops i = true ∨ w.grownBy w' none := by
          unfold lateB
          rw [ho]
          cases hgb : Op.growsB o.op with
          | true => exact .inr (hgr hgb)
          | false => left; simp [hgb]
        rw [semAt_exec (fop_not_defer hf), hrun]
        rcases hnx with rfl | ⟨rfl, rfl⟩
        · exact ⟨hl, hN _ _ _ h hsat⟩
        · exact ⟨hl, hN _ _ _ h hsat⟩
      · exact h.elim
theorem aopdl_ok (hX : Wide X.F) {ops : Array Oper} {i : Nat} {o : Oper} (ho : ops[i]? = some o) (hw : Region.wanted o (yielded ops a.tmps) = true) {K : St → Prop} (h : AOpL X.P o σ K) (hs : Sat X σ a w)
    {Q : Exit → Act → World → Prop} {N : Act → World → Prop} (hN : ∀ σ' a' w', K σ' → Sat X σ' a' w' → N a' w') :
    wpOpIn X.F X.n X.P ops Q i (fun a' w' => (lateB ops i = true ∨ w.grownBy w' none) ∧ N a' w') a w := by
  unfold wpOpIn
  simp only [ho,hw,Zr]
  exact aopl_ok hX h hs fun σ' a' w' hg hK hs' => ⟨.inr hg, hN σ' a' w' hK hs'⟩
theorem aopsd_ok (hX : Wide X.F) (hb : b.Ok X.P) {ops : Array Oper} {Q : Exit → Act → World → Prop} : ∀ (l : List (Nat × Bool)) {σ : St} {K : St → Prop} {a : Act} {w : World}, AOpsD X.P b ops l σ K → Sat X σ a w →
    (∀ σ' a' w', K σ' → Sat X σ' a' w' → Q .normal a' w') → GSeq X.F X.n X.P ops Q (lateB ops) l a w
  | [], σ, K, a, w, h, hs, hQ => hQ σ a w h hs
  | (i, q) :: rest, σ, K, a, w, h, hs, hQ => by
    simp only [AOpsD] at h
    cases ho : ops[i]? with
    | none => rw [ho] at h; exact h.elim
    | some o =>
      rw [ho] at h
      simp only at h
      obtain ⟨γ, C, r⟩ := hs
      cases hg : gd σ ops o with
      | none => rw [hg] at h; exact h.elim
      | some t =>
        rw [hg] at h
        have hwt := gd_ok r hg
        cases t with
        | true =>
          cases q with
          | true =>
            simp only [Zr] at h
            cases hq : qop b σ o.op with
            | none => rw [hq] at h; exact h.elim
            | some d =>
              rw [hq] at h
              obtain ⟨v, hv, hy⟩ := qop_ok hb r hq
              simp only [GSeq,Zr]
              exact ⟨o, v, ho, .inl ⟨hwt, hy, qop_not_defer hq, fun f _ => hX.fn f⟩, aopsd_ok hX hb rest h ⟨γ, C, r.put o.dst d v hv⟩ hQ⟩
          | false =>
            simp only [GSeq,Zf,Zq] at h ⊢
            rcases h with h | h
            · exact aopd_ok hX hb ho hwt h ⟨γ, C, r⟩ fun σ' a' w' hK hs' => aopsd_ok hX hb rest hK hs' hQ
            · exact aopdl_ok hX ho hwt h ⟨γ, C, r⟩ fun σ' a' w' hK hs' => aopsd_ok hX hb rest hK hs' hQ
        | false =>
          have hr := r.put o.dst (.tup []) undef rd_undef
          have ih := aopsd_ok hX hb rest h ⟨γ, C, hr⟩ hQ
          cases q with
          | true =>
            simp only [GSeq,Zr]
            exact ⟨o, undef, ho, .inr ⟨hwt, rfl⟩, ih⟩
          | false =>
            simp only [GSeq,Zf,Zq]
            unfold wpOpIn
            simp only [ho,hwt,Zf,Zq]
            exact ⟨fun f _ => hX.fn f, .inr (grownBy_rfl w _), ih⟩
theorem Sat.drew (h : Sat X σ a w) : Sat X σ a { w with drawn := w.drawn + 1 } := by
  obtain ⟨γ, C, r⟩ := h
  exact ⟨γ, C, r.grow0 ⟨rfl, rfl, rfl, Nat.le_refl _, fun _ _ _ => rfl⟩⟩
/-- **A region that draws its order.** -/
theorem aw_drawn (hX : Wide X.F) (hb : b.Ok X.P) (hm : X.P.follows .mixedOrders = true) {id : Nat} {ops : Array Oper} (ord : List (Nat × Bool)) (hok : drawOk ops ord = true) {Q : Exit → St → Prop} (h : AOpsD X.P b ops ord σ (Q .normal)) :
    AW X (.region id ops true) Q σ :=
  fun _ _ hs => wpIn_drawn hX hm hok (aopsd_ok hX hb ord h hs.drew fun σ' _ _ hQ hs' => ⟨rfl, σ', hQ, hs'⟩)
end
end Go.Proofs.Ytldcoekbgfaomaa
end
section
namespace Go.Proofs.Ytldcoekbgfaomaa
open Go.RowKit
open Classical
/-! ### One after the other -/
/-- What an operation that calls nothing leaves. -/
noncomputable def stepf (b : Tb) (σ : St) (dst : Option Tmp) (op : Op) : Option St := match callOf σ op with
  | some _ => none
  | none => match qop b σ op with
    | some d => some (σ.put dst d)
    | none => fop b σ dst op
section
variable {P : Program} {b : Tb} {ops : Array Oper} {i : Nat} {rest : List Nat} {σ σ' : St} {K : St → Prop} {dst : Option Tmp} {op : Op} {ty : TypeId} {pos : String} {af : Array Edge}
theorem aop_stepf {o : Oper} (h : stepf b σ o.dst o.op = some σ') (hk : K σ') : AOp P b o σ K := by
  unfold stepf at h
  unfold AOp
  cases hc : callOf σ o.op with
  | some p => rw [hc] at h; cases h
  | none =>
    rw [hc] at h
    simp only at h ⊢
    cases hq : qop b σ o.op with
    | some d => rw [hq] at h; simp only [Option.some.injEq] at h; subst h; exact hk
    | none => rw [hq] at h; simp only at h ⊢; rw [h]; exact hk
/-- An operation. -/
theorem st_op (ho : ops[i]? = some ⟨dst, op, ty, pos, af, none⟩) (h : stepf b σ dst op = some σ') (hk : AOps P b ops rest σ' K) : AOps P b ops (i :: rest) σ K := by
  rw [AOps, ho]
  exact .inl (aop_stepf (o := ⟨dst, op, ty, pos, af, none⟩) h hk)
/-- A call. -/
theorem st_call (ho : ops[i]? = some ⟨dst, op, ty, pos, af, none⟩) {f : FuncId} {ds : List PV} {r : D} (h : callOf σ op = some (f, ds)) (hr : ACalls P f ds r) (he : σ.put dst r = σ')
    (hk : AOps P b ops rest σ' K) : AOps P b ops (i :: rest) σ K := by
  subst he
  rw [AOps, ho]
  refine Or.inl ?_
  unfold AOp
  simp only [h]
  exact .inl ⟨r, hr, hk⟩
theorem st_callO (ho : ops[i]? = some ⟨dst, op, ty, pos, af, none⟩) {f : FuncId} {ds : List PV} {V : Vc} (h : callOf σ op = some (f, ds)) (hr : ACallsO P f ds V)
    (he : (σ.addVec V).put dst (.vref σ.vecs.length) = σ') (hk : AOps P b ops rest σ' K) : AOps P b ops (i :: rest) σ K := by
  subst he
  rw [AOps, ho]
  refine Or.inl ?_
  unfold AOp
  simp only [h]
  exact .inr ⟨V, hr, hk⟩
/-- An operation under a guard: both ways. -/
theorem st_g {j t : Nat} {w x : Bool} (ho : ops[i]? = some ⟨dst, op, ty, pos, af, some (j, w)⟩) (hj : (ops[j]?).bind (·.dst) = some t) (hx : σ.slots.getD t .any = .p (.v (.bool x)))
    (h1 : x = w → ∃ σ', stepf b σ dst op = some σ' ∧ AOps P b ops rest σ' K) (h2 : x = !w → AOps P b ops rest (σ.put dst (.tup [])) K) : AOps P b ops (i :: rest) σ K := by
  rw [AOps, ho]
  simp only [gd,hj,hx]
  by_cases hxw : x = w
  · obtain ⟨σ', h, hk⟩ := h1 hxw
    rw [show (x == w) = true by simp [hxw]]
    exact .inl (aop_stepf (o := ⟨dst, op, ty, pos, af, some (j, w)⟩) h hk)
  · rw [show (x == w) = false by simp [hxw]]
    exact h2 (by cases x <;> cases w <;> simp_all)
theorem st_g1 {j t : Nat} {w : Bool} (ho : ops[i]? = some ⟨dst, op, ty, pos, af, some (j, w)⟩) (hj : (ops[j]?).bind (·.dst) = some t) (hx : σ.slots.getD t .any = .p (.v (.bool w)))
    (h : stepf b σ dst op = some σ') (hk : AOps P b ops rest σ' K) : AOps P b ops (i :: rest) σ K :=
  st_g ho hj hx (fun _ => ⟨σ', h, hk⟩) (fun h => by cases w <;> cases h)
theorem st_g0 {j t : Nat} {w : Bool} (ho : ops[i]? = some ⟨dst, op, ty, pos, af, some (j, w)⟩) (hj : (ops[j]?).bind (·.dst) = some t) (hx : σ.slots.getD t .any = .p (.v (.bool (!w))))
    (he : σ.put dst (.tup []) = σ') (hk : AOps P b ops rest σ' K) : AOps P b ops (i :: rest) σ K := by
  subst he
  exact st_g ho hj hx (fun h => by cases w <;> cases h) (fun _ => hk)
/-- A guard that is not known: both ways. -/
theorem st_split {j t : Nat} {w x : Bool} (ho : ops[i]? = some ⟨dst, op, ty, pos, af, some (j, w)⟩) (hj : (ops[j]?).bind (·.dst) = some t) (hx : σ.slots[t]? = some (.p (.v (.bool x))))
    {l1 l2 : List D} (e1 : σ.slots.set t (.p (.v (.bool true))) = l1) (e2 : σ.slots.set t (.p (.v (.bool false))) = l2)
    (h1 : x = true → AOps P b ops (i :: rest) ⟨σ.df, l1, σ.boxes, σ.vecs⟩ K) (h2 : x = false → AOps P b ops (i :: rest) ⟨σ.df, l2, σ.boxes, σ.vecs⟩ K) : AOps P b ops (i :: rest) σ K := by
  subst e1; subst e2
  have hs : σ.slots.set t (.p (.v (.bool x))) = σ.slots := by
    apply List.ext_getElem?
    intro k
    rw [List.getElem?_set]
    split
    · rename_i hk
      subst hk
      rw [hx]
      have := (List.getElem?_eq_some_iff.1 hx).1
      simp [this]
    · rfl
  have hσ : (⟨σ.df, σ.slots.set t (.p (.v (.bool x))), σ.boxes, σ.vecs⟩ : St) = σ := by rw [hs]
  cases x with
  | true => have := h1 rfl; rw [hσ] at this; exact this
  | false => have := h2 rfl; rw [hσ] at this; exact this
theorem st_gc {j t : Nat} {w : Bool} (ho : ops[i]? = some ⟨dst, op, ty, pos, af, some (j, w)⟩) (hj : (ops[j]?).bind (·.dst) = some t) (hx : σ.slots.getD t .any = .p (.v (.bool w)))
    {f : FuncId} {ds : List PV} {r : D} (h : callOf σ op = some (f, ds)) (hr : ACalls P f ds r) (he : σ.put dst r = σ') (hk : AOps P b ops rest σ' K) : AOps P b ops (i :: rest) σ K := by
  subst he
  rw [AOps, ho]
  simp only [gd,hj,hx,beq_self_eq_true]
  refine Or.inl ?_
  unfold AOp
  simp only [h]
  exact .inl ⟨r, hr, hk⟩
/-- A call of yield. -/
theorem st_y {c : Call} {fo : Operand} {l : Nat} {d : PV} {ys : List PV} {k : Nat} (ho : ops[i]? = some ⟨dst, .call c, ty, pos, af, none⟩) (hc : c.callee = .value fo) (hf : σ.ev fo = .p (.v (.func (.yield l) #[] #[])))
    (ha : pvAll (c.args.toList.map σ.ev) = some [d]) (hm : σ.df = [.yld l ys k]) (hy : ys[k]? = some d) (he : St.put { σ with df := [.yld l ys (k + 1)] } dst (.p (.v (.bool true))) = σ') (hk : AOps P b ops rest σ' K) :
    AOps P b ops (i :: rest) σ K := by
  subst he
  rw [AOps, ho]
  exact Or.inr (.y c fo l d ys k rfl hc hf ha hm hy hk)
theorem st_gy {j t : Nat} {w : Bool} {c : Call} {fo : Operand} {l : Nat} {d : PV} {ys : List PV} {k : Nat} (ho : ops[i]? = some ⟨dst, .call c, ty, pos, af, some (j, w)⟩) (hj : (ops[j]?).bind (·.dst) = some t) (hx : σ.slots.getD t .any = .p (.v (.bool w)))
    (hc : c.callee = .value fo) (hf : σ.ev fo = .p (.v (.func (.yield l) #[] #[])))
    (ha : pvAll (c.args.toList.map σ.ev) = some [d]) (hm : σ.df = [.yld l ys k]) (hy : ys[k]? = some d) (he : St.put { σ with df := [.yld l ys (k + 1)] } dst (.p (.v (.bool true))) = σ') (hk : AOps P b ops rest σ' K) :
    AOps P b ops (i :: rest) σ K := by
  subst he
  rw [AOps, ho]
  simp only [gd,hj,hx,beq_self_eq_true]
  exact Or.inr (.y c fo l d ys k rfl hc hf ha hm hy hk)
/-- A call that gets a function value over own variables. -/
theorem st_clo {c : Call} {fo : Operand} {f : FuncId} {ds : List PV} {x : Value} (ho : ops[i]? = some ⟨dst, .call c, ty, pos, af, none⟩) (hc : c.callee = .value fo) (hf : σ.ev fo = .fn f [])
    (ha : pvAllC σ (c.args.toList.map σ.ev) = some ds) (hr : ACalls P f ds (.p (.v x))) (he : σ.put dst (.p (.v x)) = σ') (hk : AOps P b ops rest σ' K) : AOps P b ops (i :: rest) σ K := by
  subst he
  rw [AOps, ho]
  exact Or.inr (.c c fo f ds x rfl hc hf ha hr hk)
/-- A call that puts other cells into an own slice. -/
theorem st_srt {c : Call} {fo : Operand} {f g : FuncId} {j : Nat} {V : Vc} {xs' : List P1} (ho : ops[i]? = some ⟨dst, .call c, ty, pos, af, none⟩) (hc : c.callee = .value fo) (hf : σ.ev fo = .fn f [])
    (ha : c.args.toList.map σ.ev = [.vref j, .fn g []]) (hV : σ.vecs[j]? = some (some V)) (hr : ACallsS P f g V.e V.sz V.n V.xs xs') (he : (σ.setVec j { V with xs := xs' }).put dst .any = σ') (hk : AOps P b ops rest σ' K) : AOps P b ops (i :: rest) σ K := by
  subst he
  rw [AOps, ho]
  exact Or.inr (.s c fo f g j V xs' rfl hc hf ha hV hr hk)
/-- A call that gets nil. -/
theorem st_nil {c : Call} {fo : Operand} {f : FuncId} {ds : List PV} {r : D} (ho : ops[i]? = some ⟨dst, .call c, ty, pos, af, none⟩) (hc : c.callee = .value fo) (hf : σ.ev fo = .fn f [])
    (ha : pvAllN (c.args.toList.map σ.ev) = some ds) (hr : ACalls P f ds r) (he : σ.put dst r = σ') (hk : AOps P b ops rest σ' K) : AOps P b ops (i :: rest) σ K := by
  subst he
  rw [AOps, ho]
  exact Or.inr (.n c fo f ds r rfl hc hf ha hr hk)
theorem st_gu {j t : Nat} {w : Bool} (ho : ops[i]? = some ⟨dst, op, ty, pos, af, some (j, w)⟩) (hj : (ops[j]?).bind (·.dst) = some t) (hx : σ.slots.getD t .any = .tup [])
    (he : σ.put dst (.tup []) = σ') (hk : AOps P b ops rest σ' K) : AOps P b ops (i :: rest) σ K := by
  subst he
  rw [AOps, ho]
  simp only [gd,hj,hx]
  exact hk
variable {restD : List (Nat × Bool)}
theorem sd_gu {q : Bool} {j t : Nat} {w : Bool} (ho : ops[i]? = some ⟨dst, op, ty, pos, af, some (j, w)⟩) (hj : (ops[j]?).bind (·.dst) = some t) (hx : σ.slots.getD t .any = .tup [])
    (he : σ.put dst (.tup []) = σ') (hk : AOpsD P b ops restD σ' K) : AOpsD P b ops ((i, q) :: restD) σ K := by
  subst he
  rw [AOpsD, ho]
  simp only [gd,hj,hx]
  exact hk
theorem sd_split {q : Bool} {j t : Nat} {w x : Bool} (ho : ops[i]? = some ⟨dst, op, ty, pos, af, some (j, w)⟩) (hj : (ops[j]?).bind (·.dst) = some t) (hx : σ.slots[t]? = some (.p (.v (.bool x))))
    {l1 l2 : List D} (e1 : σ.slots.set t (.p (.v (.bool true))) = l1) (e2 : σ.slots.set t (.p (.v (.bool false))) = l2)
    (h1 : x = true → AOpsD P b ops ((i, q) :: restD) ⟨σ.df, l1, σ.boxes, σ.vecs⟩ K) (h2 : x = false → AOpsD P b ops ((i, q) :: restD) ⟨σ.df, l2, σ.boxes, σ.vecs⟩ K) : AOpsD P b ops ((i, q) :: restD) σ K := by
  subst e1; subst e2
  have hs : σ.slots.set t (.p (.v (.bool x))) = σ.slots := by
    apply List.ext_getElem?
    intro k
    rw [List.getElem?_set]
    split
    · rename_i hk
      subst hk
      rw [hx]
      have := (List.getElem?_eq_some_iff.1 hx).1
      simp [this]
    · rfl
  have hσ : (⟨σ.df, σ.slots.set t (.p (.v (.bool x))), σ.boxes, σ.vecs⟩ : St) = σ := by rw [hs]
  cases x with
  | true => have := h1 rfl; rw [hσ] at this; exact this
  | false => have := h2 rfl; rw [hσ] at this; exact this
theorem sd_q (ho : ops[i]? = some ⟨dst, op, ty, pos, af, none⟩) {d : D} (h : qop b σ op = some d) (he : σ.put dst d = σ') (hk : AOpsD P b ops restD σ' K) : AOpsD P b ops ((i, true) :: restD) σ K := by
  subst he
  rw [AOpsD, ho]
  simp only [gd,h,Zr]
  exact hk
theorem sd_op (ho : ops[i]? = some ⟨dst, op, ty, pos, af, none⟩) (h : stepf b σ dst op = some σ') (hk : AOpsD P b ops restD σ' K) : AOpsD P b ops ((i, false) :: restD) σ K := by
  rw [AOpsD, ho]
  simp only [gd,Zf,Zq]
  exact .inl (aop_stepf (o := ⟨dst, op, ty, pos, af, none⟩) h hk)
theorem sd_call (ho : ops[i]? = some ⟨dst, op, ty, pos, af, none⟩) {f : FuncId} {ds : List PV} {r : D} (h : callOf σ op = some (f, ds)) (hr : ACalls P f ds r) (he : σ.put dst r = σ')
    (hk : AOpsD P b ops restD σ' K) : AOpsD P b ops ((i, false) :: restD) σ K := by
  subst he
  rw [AOpsD, ho]
  simp only [gd,Zf,Zq]
  refine Or.inl ?_
  unfold AOp
  simp only [h]
  exact .inl ⟨r, hr, hk⟩
/-- A call that gets slices of own variables of bytes. -/
theorem sd_len {c : Call} {fo : Operand} {f : FuncId} {ds : List PV} {r : D} (ho : ops[i]? = some ⟨dst, .call c, ty, pos, af, none⟩) (hc : c.callee = .value fo) (hf : σ.ev fo = .fn f [])
    (ha : pvAllL σ (c.args.toList.map σ.ev) = some ds) (hu : BytesOnly σ (lents (c.args.toList.map σ.ev))) (hr : ACalls P f ds r) (hno : r.No) (he : σ.put dst r = σ') (hk : AOpsD P b ops restD σ' K) : AOpsD P b ops ((i, false) :: restD) σ K := by
  subst he
  rw [AOpsD, ho]
  simp only [gd,Zf,Zq]
  exact Or.inr (.l c fo f ds r rfl hc hf ha hu hr hno hk)
theorem st_len {c : Call} {fo : Operand} {f : FuncId} {ds : List PV} {r : D} (ho : ops[i]? = some ⟨dst, .call c, ty, pos, af, none⟩) (hc : c.callee = .value fo) (hf : σ.ev fo = .fn f [])
    (ha : pvAllL σ (c.args.toList.map σ.ev) = some ds) (hu : BytesOnly σ (lents (c.args.toList.map σ.ev))) (hr : ACalls P f ds r) (hno : r.No) (he : σ.put dst r = σ') (hk : AOps P b ops rest σ' K) : AOps P b ops (i :: rest) σ K := by
  subst he
  rw [AOps, ho]
  exact Or.inr (.l (.l c fo f ds r rfl hc hf ha hu hr hno hk))
theorem sd_g {q : Bool} {j t : Nat} {w x : Bool} (ho : ops[i]? = some ⟨dst, op, ty, pos, af, some (j, w)⟩) (hj : (ops[j]?).bind (·.dst) = some t) (hx : σ.slots.getD t .any = .p (.v (.bool x)))
    (h1 : x = w → ∃ d, qop b σ op = some d ∧ callOf σ op = none ∧ AOpsD P b ops restD (σ.put dst d) K) (h2 : x = !w → AOpsD P b ops restD (σ.put dst (.tup [])) K) : AOpsD P b ops ((i, q) :: restD) σ K := by
  rw [AOpsD, ho]
  simp only [gd,hj,hx]
  by_cases hxw : x = w
  · obtain ⟨d, h, hc, hk⟩ := h1 hxw
    rw [show (x == w) = true by simp [hxw]]
    cases q with
    | true => simp only [h,Zr]; exact hk
    | false =>
      simp only [Zf,Zq]
      refine Or.inl ?_
      unfold AOp
      simp only [hc,h]
      exact hk
  · rw [show (x == w) = false by simp [hxw]]
    exact h2 (by cases x <;> cases w <;> simp_all)
theorem sd_g1 {q : Bool} {j t : Nat} {w : Bool} (ho : ops[i]? = some ⟨dst, op, ty, pos, af, some (j, w)⟩) (hj : (ops[j]?).bind (·.dst) = some t) (hx : σ.slots.getD t .any = .p (.v (.bool w)))
    {d : D} (h : qop b σ op = some d) (hc : callOf σ op = none) (he : σ.put dst d = σ') (hk : AOpsD P b ops restD σ' K) : AOpsD P b ops ((i, q) :: restD) σ K :=
  sd_g ho hj hx (fun _ => ⟨d, h, hc, he ▸ hk⟩) (fun h => by cases w <;> cases h)
theorem sd_g0 {q : Bool} {j t : Nat} {w : Bool} (ho : ops[i]? = some ⟨dst, op, ty, pos, af, some (j, w)⟩) (hj : (ops[j]?).bind (·.dst) = some t) (hx : σ.slots.getD t .any = .p (.v (.bool (!w))))
    (he : σ.put dst (.tup []) = σ') (hk : AOpsD P b ops restD σ' K) : AOpsD P b ops ((i, q) :: restD) σ K := by
  subst he
  exact sd_g ho hj hx (fun h => by cases w <;> cases h) (fun _ => hk)
end
/-! ### Regions -/
section
variable {X : Cx} {b : Tb} {σ : St} {Q : Exit → St → Prop}
theorem aw_regK (hX : Wide X.F) (hb : b.Ok X.P) {id : Nat} {ops : Array Oper} (ord : List Nat) (ho : List.range ops.size = ord) {σ' : St}
    (h : ∀ K : St → Prop, K σ' → AOps X.P b ops ord σ K) (hQ : Q .normal σ') : AW X (.region id ops false) Q σ :=
  aw_region hX hb (by rw [ho]; exact h _ hQ)
theorem aw_regD (hX : Wide X.F) (hb : b.Ok X.P) (hm : X.P.follows .mixedOrders = true) {id : Nat} {ops : Array Oper} (ord : List (Nat × Bool)) (hok : drawOk ops ord = true) {σ' : St}
    (h : ∀ K : St → Prop, K σ' → AOpsD X.P b ops ord σ K) (hQ : Q .normal σ') : AW X (.region id ops true) Q σ :=
  aw_drawn hX hb hm ord hok (h _ hQ)
/-- Slots forgotten, one written. -/
def St.join (σ : St) (ts : List Nat) (t : Nat) (d : D) : St := { σ with slots := (ts.foldl (fun l i => l.set i .any) σ.slots).set t d }
/-- A region whose ends are weakened to one state. -/
theorem aw_regJ (hX : Wide X.F) (hb : b.Ok X.P) {id : Nat} {ops : Array Oper} (ord : List Nat) (ho : List.range ops.size = ord) {ts : List Nat} {t : Nat} {d : D} {σ' : St} (_ : σ.join ts t d = σ')
    (h : AOps X.P b ops ord σ (fun s => LeS s σ')) (hQ : Q .normal σ') : AW X (.region id ops false) Q σ :=
  fun a w hs => wpIn_region (aops_ok hX hb _ (by rw [ho]; exact h) hs fun s a' w' hle hs' => ⟨σ', hQ, wk_le hle a' w' hs'⟩)
theorem aw_regDJ (hX : Wide X.F) (hb : b.Ok X.P) (hm : X.P.follows .mixedOrders = true) {id : Nat} {ops : Array Oper} (ord : List (Nat × Bool)) (hok : drawOk ops ord = true) {ts : List Nat} {t : Nat} {d : D} {σ' : St}
    (_ : σ.join ts t d = σ') (h : AOpsD X.P b ops ord σ (fun s => LeS s σ')) (hQ : Q .normal σ') : AW X (.region id ops true) Q σ :=
  fun a w hs => wpIn_drawn hX hm hok (aopsd_ok hX hb ord h hs.drew fun s a' w' hle hs' => ⟨rfl, σ', hQ, wk_le hle a' w' hs'⟩)
/-! ### Where control goes on -/
def Ex.join (σ' : St) (X : Cx) (Q : Exit → St → Prop) : Exit → St → Prop
  | .normal, σ => Wk X σ σ'
  | e, σ => Q e σ
theorem aw_wkJ {c : Code} {σ' : St} (h : AW X c (Ex.join σ' X Q) σ) (hQ : Q .normal σ') : AW X c Q σ := fun a w hs => by
  refine wpIn_mono (h a w hs) ?_
  rintro e a' w' ⟨s, h1, h2⟩
  cases e with
  | normal => exact ⟨σ', hQ, h1 a' w' h2⟩
  | _ => exact ⟨s, h1, h2⟩
theorem exj_n {σ' : St} (h : Wk X σ σ') : Ex.join σ' X Q .normal σ := h
def Ex.scope (Q : Exit → St → Prop) : Exit → St → Prop
  | .goto _, _ => False
  | e, σ => Q e σ
theorem stepR_scope' {P : Program} {bf : Frame} {a : Act} {k : List Item} {cs : List Frame} {w : World} {c : Code} :
    step P (lone (bf.atR a (.code (.scope c) :: k)) cs w) = .next (lone (bf.atR a (.code c :: .inScope c :: k)) cs w) :=
  step_lone_go (by simp [stepG, stepG.exec, Frame.atR])
theorem stepR_inScope' {P : Program} {bf : Frame} {a : Act} {k : List Item} {cs : List Frame} {w : World} {c : Code} :
    step P (lone (bf.atR a (.inScope c :: k)) cs w) = .next (lone (bf.atR a k) cs w) :=
  step_lone_go (by simp [stepG, stepG.exec, Frame.atR])
theorem wpIn_scope' {F : Fence} {n : Nat} {P : Program} {Q : Exit → Act → World → Prop} {a : Act} {w : World} {c : Code} (h : c.wpIn F n P Q a w) (hg : ∀ l a w, ¬ Q (.goto l) a w) :
    (Code.scope c).wpIn F n P Q a w := by
  intro b k cs hro hb hr
  have h0 : (lone (b.atR a (.code (.scope c) :: k)) cs w).fenced P F := fenced_calm hb hr rfl
  obtain ⟨e, a₁, w₁, hq, harr⟩ := h b (.inScope c :: k) cs hro hb hr
  cases e with
  | normal => exact ⟨.normal, a₁, w₁, hq, .head h0 stepR_scope' (StepsIn.trans harr (.one (fenced_calm hb hr rfl) stepR_inScope'))⟩
  | exit id =>
    have hx : exitTo id (.inScope c :: k) = exitTo id k := by simp [exitTo]
    exact ⟨.exit id, a₁, w₁, hq, fun k' hk => .head h0 stepR_scope' (harr.1 k' (by rw [hx]; exact hk)),
      fun hr' hk => let ⟨k₁, h1, h2⟩ := harr.2 hr' (by rw [hx]; exact hk); ⟨k₁, h1, .head h0 stepR_scope' h2⟩⟩
  | goto l => exact (hg l _ _ hq).elim
  | ret => exact ⟨_, a₁, w₁, hq, ArrivesIn.of_steps (.one h0 stepR_scope') harr⟩
  | panic ch => exact ⟨_, a₁, w₁, hq, ArrivesIn.of_steps (.one h0 stepR_scope') harr⟩
  | outgrown => exact ⟨_, a₁, w₁, hq, ArrivesIn.of_steps (.one h0 stepR_scope') harr⟩
theorem aw_scope {c : Code} (h : AW X c (Ex.scope Q) σ) : AW X (.scope c) Q σ := fun a w hs => by
  refine wpIn_mono (wpIn_scope' (h a w hs) ?_) ?_
  · rintro l a w ⟨s, h1, _⟩
    exact h1
  · rintro e a' w' ⟨s, h1, h2⟩
    cases e with
    | goto l => exact h1.elim
    | _ => exact ⟨s, h1, h2⟩
theorem exs_r (h : Q .ret σ) : Ex.scope Q .ret σ := h
theorem aw_nil {c : Code} (t : Nat) (e : TypeId) (sz : Nat) (ht : σ.slots[t]? = some .nil) {σ' : St} (he : σ.nilSlot t e sz = σ') (h : AW X c Q σ') : AW X c Q σ := aw_wk (he ▸ wk_nilSlot t e sz ht) h
theorem aw_frz {c : Code} (j : Nat) {V : Vc} (hV : σ.vecs[j]? = some (some V)) {σ' : St} (he : σ.freeze j V = σ') (h : AW X c Q σ') : AW X c Q σ := aw_wk (he ▸ wk_freeze j V hV) h
theorem exq_n {N : St → Prop} (h : N σ) : Ex.seq N Q .normal σ := h
theorem exq_e {N : St → Prop} {i : Nat} (h : Q (.exit i) σ) : Ex.seq N Q (.exit i) σ := h
theorem exq_r {N : St → Prop} (h : Q .ret σ) : Ex.seq N Q .ret σ := h
theorem exb_n {id : Nat} (h : Q .normal σ) : Ex.block id Q .normal σ := h
theorem exb_r {id : Nat} (h : Q .ret σ) : Ex.block id Q .ret σ := h
theorem exb_h {id : Nat} (h : Q .normal σ) : Ex.block id Q (.exit id) σ := by
  show (if id = id then Q .normal σ else Q (.exit id) σ)
  rw [if_pos rfl]
  exact h
theorem exb_m {id i : Nat} (hne : i ≠ id) (h : Q (.exit i) σ) : Ex.block id Q (.exit i) σ := by
  show (if i = id then Q .normal σ else Q (.exit i) σ)
  rw [if_neg hne]
  exact h
theorem ret_r {b : Tb} {rs : Array ResultVar} {r : D} (h1 : σ.df = []) (h2 : resOf b σ rs.toList = some r) : Ret b rs r .ret σ := h2
theorem resOf_one {b : Tb} {rv : ResultVar} {x : PV} {r : D} (h : resVal b σ rv = some x) (hr : x.d = r) : resOf b σ [rv] = some r := by
  simp only [resOf,resVals,h,hr]
theorem resOf_two {b : Tb} {r1 r2 : ResultVar} {x y : PV} {r : D} (h1 : resVal b σ r1 = some x) (h2 : resVal b σ r2 = some y) (hr : .tup [x, y] = r) : resOf b σ [r1, r2] = some r := by
  simp only [resOf,resVals,h1,h2,hr]
theorem resOf_three {b : Tb} {r1 r2 r3 : ResultVar} {x y z : PV} {r : D} (h1 : resVal b σ r1 = some x) (h2 : resVal b σ r2 = some y) (h3 : resVal b σ r3 = some z) (hr : .tup [x, y, z] = r) :
    resOf b σ [r1, r2, r3] = some r := by
  simp only [resOf,resVals,h1,h2,h3,hr]
/-- A slice's length is small. -/
theorem aw_len {c : Code} {t n : Nat} {xs : List P1} (h : σ.slots[t]? = some (.p (.sl n xs))) (hk : n ≤ maxLen → AW X c Q σ) : AW X c Q σ := by
  intro a w hs
  obtain ⟨γ, C, r⟩ := hs
  have hv := r.sl t _ h
  generalize a.tmps.getD t undef = u at hv
  refine hk ?_ a w ⟨γ, C, r⟩
  cases hv with
  | p _ _ h1 =>
    cases h1 with
    | nil => exact Nat.zero_le _
    | sl _ _ _ _ _ _ h1 h2 => exact Nat.le_trans h1 h2
/-! ### What is forgotten -/
theorem leL_nil : leL [] [] := trivial
theorem leL_a {d : D} {l l' : List D} (h : leL l l') : leL (d :: l) (.any :: l') := ⟨.inl rfl, h⟩
theorem leL_r {d d' : D} {l l' : List D} (e : d = d') (h : leL l l') : leL (d :: l) (d' :: l') := ⟨.inr e, h⟩
theorem leL_self : ∀ (l : List D), leL l l
  | [] => trivial
  | _ :: l => ⟨.inr rfl, leL_self l⟩
theorem leB_self : ∀ (l : List Bx), leB l l
  | [] => trivial
  | x :: l => ⟨rfl, leL_self x.cells, leB_self l⟩
theorem leV_self : ∀ (l : List (Option Vc)), leV l l
  | [] => trivial
  | _ :: l => ⟨.inr rfl, leV_self l⟩
theorem leB_nil (l : List Bx) : leB l [] := by cases l <;> trivial
theorem leV_nil (l : List (Option Vc)) : leV l [] := by cases l <;> trivial
theorem leB_r {x y : Bx} {l l' : List Bx} (e : x.ty = y.ty) (h : leL x.cells y.cells) (t : leB l l') : leB (x :: l) (y :: l') := ⟨e, h, t⟩
theorem leV_r {x y : Option Vc} {l l' : List (Option Vc)} (e : x = y) (t : leV l l') : leV (x :: l) (y :: l') := ⟨.inr e, t⟩
end
/-! ### Numbers -/
theorem i64_w {n : Int} (h : -9223372036854775808 ≤ n ∧ n ≤ 9223372036854775807) : IntKind.i64.wrap n = n := by rw [IntKind.wrap_i64]; omega
theorem getD_0 {α : Type} (a : α) (l : List α) (d : α) : (a :: l).getD 0 d = a := rfl
theorem getD_s {α : Type} (a : α) (l : List α) (d : α) (n : Nat) : (a :: l).getD (n + 1) d = l.getD n d := rfl
theorem aops_nil {P : Program} {b : Tb} {ops : Array Oper} {σ : St} {K : St → Prop} (h : K σ) : AOps P b ops [] σ K := h
theorem aopsd_nil {P : Program} {b : Tb} {ops : Array Oper} {σ : St} {K : St → Prop} (h : K σ) : AOpsD P b ops [] σ K := h
end Go.Proofs.Ytldcoekbgfaomaa
end
section
namespace Go.Proofs.Ytldcoekbgfaomaa
open Go.RowKit
open Classical
/-- In which order the operations are taken: a quiet one first; the only one that may be next; one of two. -/
inductive OT where
  | nil
  | q (i : Nat) (r : OT)
  | f (i : Nat) (r : OT)
  | two (i j : Nat) (r s : OT)
def OT.len : OT → Nat
  | .nil => 0
  | .q _ r | .f _ r => r.len + 1
  | .two _ _ r _ => r.len + 1
def tchk (ops : Array Oper) (late : Nat → Bool) : OT → Array Bool → Bool
  | .nil, L => (Region.ready .any ops L).isEmpty
  | .q i r, L => (Region.ready .any ops L).contains i && Region.free .any ops L i && (match ops[i]? with | some o => !Op.isLoad o.op || lateOk ops late L i | none => false) && tchk ops late r (L.setIfInBounds i true)
  | .f i r, L => (Region.ready .any ops L) == [i] && tchk ops late r (L.setIfInBounds i true)
  | .two i j r s, L => (Region.ready .any ops L) == [i, j] && r.len == s.len && tchk ops late r (L.setIfInBounds i true) && tchk ops late s (L.setIfInBounds j true)
section
variable {F : Fence} {n : Nat} {P : Program} {ops : Array Oper} {Q : Exit → Act → World → Prop} {late : Nat → Bool}
def TSeq (F : Fence) (n : Nat) (P : Program) (ops : Array Oper) (Q : Exit → Act → World → Prop) (late : Nat → Bool) : OT → Act → World → Prop
  | .nil, a, w => Q .normal a w
  | .q i r, a, w => ∃ o v, ops[i]? = some o ∧ Qy (F := F) P ops o v a w ∧ TSeq F n P ops Q late r (a.put o.dst v) w
  | .f i r, a, w => wpOpIn F n P ops Q i (fun a' w' => (late i = true ∨ w.grownBy w' none) ∧ TSeq F n P ops Q late r a' w') a w
  | .two i j r s, a, w => wpOpIn F n P ops Q i (fun a' w' => (late i = true ∨ w.grownBy w' none) ∧ TSeq F n P ops Q late r a' w') a w ∧
      wpOpIn F n P ops Q j (fun a' w' => (late j = true ∨ w.grownBy w' none) ∧ TSeq F n P ops Q late s a' w') a w
theorem tseq_gm (hF : Wide F) (hs : Region.noSelect ops = true) (hd : noDefer ops = true) (hQ : ∀ c a w, ¬ Q (.panic c) a w) : ∀ (ord : OT) (L : Array Bool) (a : Act) (w : World), Closed ops L → L.size = ops.size →
    tchk ops late ord L = true → TSeq F n P ops Q late ord a w → Gm F n P ops Q late ord.len L a w
  | .nil, L, a, w, _, _, h, hg => by
    simp only [tchk,List.isEmpty_iff] at h
    exact ⟨h, hg⟩
  | .q i r, L, a, w, hc, hsz, h, hg => by
    simp only [tchk,Bool.and_eq_true] at h
    obtain ⟨⟨⟨hr, hf⟩, hl⟩, h2⟩ := h
    obtain ⟨o, v, ho, hy, hg⟩ := hg
    have hri : i ∈ Region.ready .any ops L := by simpa using hr
    refine gm_first hF ho (Region.noSelect_spec hs) (noDefer_spec hd) hQ r.len L a w hc hsz (Region.free_spec ho hf) ?_ hri hy (tseq_gm hF hs hd hQ r _ _ _ (hc.next hri) (by simp [hsz]) h2 hg)
    intro hload j hlj hun hji
    rw [ho] at hl
    simp only [hload,Bool.not_true,Bool.false_or] at hl
    simp only [lateOk,List.all_eq_true,List.mem_range] at hl
    have hjl : j < ops.size := by
      rcases Nat.lt_or_ge j L.size with h' | h'
      · omega
      · rw [Array.getD_eq_getD_getElem?, Array.getElem?_eq_none h'] at hun; cases hun
    have := hl j hjl
    simp only [hlj,hun,Bool.not_true,Bool.false_or,Bool.or_eq_true,ZJ] at this
    rcases this with h | h
    · exact absurd h hji
    · exact h
  | .f i r, L, a, w, hc, hsz, h, hg => by
    simp only [tchk,Bool.and_eq_true,ZJ] at h
    obtain ⟨h1, h2⟩ := h
    have hri : i ∈ Region.ready .any ops L := by rw [h1]; simp
    refine ⟨(fun h0 => by rw [h1] at h0; cases h0), fun j hj => ?_⟩
    rw [h1] at hj
    simp only [List.mem_singleton] at hj
    subst hj
    exact wpOpIn_mono (fun a' w' h => ⟨h.1, tseq_gm hF hs hd hQ r _ _ _ (hc.next hri) (by simp [hsz]) h2 h.2⟩) hg
  | .two i k r s, L, a, w, hc, hsz, h, hg => by
    simp only [tchk,Bool.and_eq_true,ZJ] at h
    obtain ⟨⟨⟨h1, hl⟩, h2⟩, h3⟩ := h
    have hri : i ∈ Region.ready .any ops L := by rw [h1]; simp
    have hrk : k ∈ Region.ready .any ops L := by rw [h1]; simp
    refine ⟨(fun h0 => by rw [h1] at h0; cases h0), fun j hj => ?_⟩
    rw [h1] at hj
    simp only [List.mem_cons,List.not_mem_nil,or_false] at hj
    rcases hj with rfl | rfl
    · exact wpOpIn_mono (fun a' w' h => ⟨h.1, tseq_gm hF hs hd hQ r _ _ _ (hc.next hri) (by simp [hsz]) h2 h.2⟩) hg.1
    · show wpOpIn F n P ops Q j (fun a' w' => (late j = true ∨ w.grownBy w' none) ∧ Gm F n P ops Q late r.len (L.setIfInBounds j true) a' w') a w
      rw [hl]
      exact wpOpIn_mono (fun a' w' h => ⟨h.1, tseq_gm hF hs hd hQ s _ _ _ (hc.next hrk) (by simp [hsz]) h3 h.2⟩) hg.2
def treeOk (ops : Array Oper) (ord : OT) : Bool := Region.noSelect ops && noDefer ops && ord.len == ops.size && tchk ops (lateB ops) ord (Array.replicate ops.size false)
/-- **A region that draws its order, walked along a tree of orders.** -/
theorem wpIn_drawnT (hF : Wide F) {id : Nat} {a : Act} {w : World} (hm : P.follows .mixedOrders = true) {ord : OT} (hok : treeOk ops ord = true) {Q' : Exit → Act → World → Prop}
    (h : TSeq F n P ops (fun e a w => e = .normal ∧ Q' .normal a w) (lateB ops) ord a { w with drawn := w.drawn + 1 }) : (Code.region id ops true).wpIn F n P Q' a w := by
  simp only [treeOk,Bool.and_eq_true,ZJ] at hok
  obtain ⟨⟨⟨h1, h2⟩, h3⟩, h4⟩ := hok
  refine wpIn_mono (Q := fun e a w => e = .normal ∧ Q' .normal a w) ?_ (fun e a w he => by obtain ⟨rfl, h⟩ := he; exact h)
  refine wpIn_region_any hm (gm_any (late := lateB ops) _ _ _ _ ?_)
  have hc : Closed ops (Array.replicate ops.size false) := by
    intro k hk o ho e he hb
    rw [Array.getD_eq_getD_getElem?, Array.getElem?_replicate] at hk
    split at hk <;> cases hk
  have := tseq_gm hF h1 h2 (fun c a w h => by cases h.1) ord _ a _ hc (by simp) h4 h
  rw [h3] at this
  exact this
end
/-- A list of steps, then a tree. -/
def toT : List (Nat × Bool) → OT → OT
  | [], T => T
  | (i, true) :: l, T => .q i (toT l T)
  | (i, false) :: l, T => .f i (toT l T)
section
variable {X : Cx} {b : Tb} {σ : St} {a : Act} {w : World}
theorem tseq_of (hX : Wide X.F) (hb : b.Ok X.P) {ops : Array Oper} {Q : Exit → Act → World → Prop} {T : OT} : ∀ (l : List (Nat × Bool)) {σ : St} {K : St → Prop} {a : Act} {w : World}, AOpsD X.P b ops l σ K → Sat X σ a w →
    (∀ σ' a' w', K σ' → Sat X σ' a' w' → TSeq X.F X.n X.P ops Q (lateB ops) T a' w') → TSeq X.F X.n X.P ops Q (lateB ops) (toT l T) a w
  | [], σ, K, a, w, h, hs, hQ => hQ σ a w h hs
  | (i, q) :: rest, σ, K, a, w, h, hs, hQ => by
    simp only [AOpsD] at h
    cases ho : ops[i]? with
    | none => rw [ho] at h; exact h.elim
    | some o =>
      rw [ho] at h
      simp only at h
      obtain ⟨γ, C, r⟩ := hs
      cases hg : gd σ ops o with
      | none => rw [hg] at h; exact h.elim
      | some t =>
        rw [hg] at h
        have hwt := gd_ok r hg
        cases t with
        | true =>
          cases q with
          | true =>
            simp only [Zr] at h
            cases hq : qop b σ o.op with
            | none => rw [hq] at h; exact h.elim
            | some d =>
              rw [hq] at h
              obtain ⟨v, hv, hy⟩ := qop_ok hb r hq
              simp only [toT,TSeq]
              exact ⟨o, v, ho, .inl ⟨hwt, hy, qop_not_defer hq, fun f _ => hX.fn f⟩, tseq_of hX hb rest h ⟨γ, C, r.put o.dst d v hv⟩ hQ⟩
          | false =>
            simp only [toT,TSeq,Zf,Zq] at h ⊢
            rcases h with h | h
            · exact aopd_ok hX hb ho hwt h ⟨γ, C, r⟩ fun σ' a' w' hK hs' => tseq_of hX hb rest hK hs' hQ
            · exact aopdl_ok hX ho hwt h ⟨γ, C, r⟩ fun σ' a' w' hK hs' => tseq_of hX hb rest hK hs' hQ
        | false =>
          have hr := r.put o.dst (.tup []) undef rd_undef
          have ih := tseq_of hX hb rest h ⟨γ, C, hr⟩ hQ
          cases q with
          | true =>
            simp only [toT,TSeq]
            exact ⟨o, undef, ho, .inr ⟨hwt, rfl⟩, ih⟩
          | false =>
            simp only [toT,TSeq]
            unfold wpOpIn
            simp only [ho,hwt,Zf,Zq]
            exact ⟨fun f _ => hX.fn f, .inr (grownBy_rfl w _), ih⟩
/-- **A region that draws its order, where once two operations may be next.** -/
theorem aw_regT (hX : Wide X.F) (hb : b.Ok X.P) (hm : X.P.follows .mixedOrders = true) {id : Nat} {ops : Array Oper} (l0 : List (Nat × Bool)) (i : Nat) (l1 : List (Nat × Bool)) (j : Nat) (l2 : List (Nat × Bool))
    (hok : treeOk ops (toT l0 (.two i j (toT l1 .nil) (toT l2 .nil))) = true) {σ' : St} {Q : Exit → St → Prop}
    (h : ∀ K : St → Prop, K σ' → AOpsD X.P b ops l0 σ (fun s => AOpsD X.P b ops ((i, false) :: l1) s K ∧ AOpsD X.P b ops ((j, false) :: l2) s K)) (hQ : Q .normal σ') : AW X (.region id ops true) Q σ := by
  intro a w hs
  refine wpIn_drawnT hX hm hok (tseq_of hX hb l0 (h _ hQ) hs.drew ?_)
  rintro s a' w' ⟨h1, h2⟩ hs'
  have e1 := tseq_of (Q := fun e a w => e = .normal ∧ ∃ σ', Q .normal σ' ∧ Sat X σ' a w) hX hb (T := .nil) _ h1 hs' (fun s a w hK hs => ⟨rfl, s, hK, hs⟩)
  have e2 := tseq_of (Q := fun e a w => e = .normal ∧ ∃ σ', Q .normal σ' ∧ Sat X σ' a w) hX hb (T := .nil) _ h2 hs' (fun s a w hK hs => ⟨rfl, s, hK, hs⟩)
  exact ⟨e1, e2⟩
end
end Go.Proofs.Ytldcoekbgfaomaa
end
section
namespace Go.Proofs.Ytldcoekbgfaomaa
open Go.RowKit
open Classical
/-- What the caller knows stays true while the blocks O and C stay as they are. -/
def SStable (J : Nat → (Nat → Prop) → (Nat → Prop) → World → Prop) : Prop :=
  ∀ (k : Nat) (O C C' : Nat → Prop) (w w' : World), J k O C w → w.heap.size ≤ w'.heap.size → (∀ g, C g → C' g) → (∀ g, O g ∨ C g → w'.heap[g]? = w.heap[g]?) → J k O C' w'
/-- What a call of yield does. -/
def SYields (F : Fence) (n : Nat) (P : Program) (l : Nat) (ys : List PV) (J : Nat → (Nat → Prop) → (Nat → Prop) → World → Prop) : Prop :=
  ∀ (k : Nat) (O C : Nat → Prop) (w : World) (y : PV) (u : Value), J k O C w → ys[k]? = some y → RV w C y u → (∀ g, O g → g < w.heap.size ∧ ¬ C g) → (∀ g, C g → g < w.heap.size) →
    YieldAt F (n - 1) P l #[u] w fun e w' => e = .returned (.bool true) ∧ ∃ O' : Nat → Prop, (∀ g, O g → O' g) ∧ (∀ g, O' g → O g ∨ (w.heap.size ≤ g ∧ g < w'.heap.size)) ∧ J (k + 1) O' C w' ∧ GrZ w w' O
/-- **An iterator**: called with yield it hands over the items ys, one by one, and turns nothing that was there. -/
structure SeqC (P : Program) (f : FuncId) (xs : List P1) (ys : List PV) : Prop where
  en : Ent P f
  h : ∀ (F : Fence) (n l : Nat) (C O : Nat → Prop) (w : World) (gs : List Nat) (us : List Value) (J : Nat → (Nat → Prop) → (Nat → Prop) → World → Prop), Wide F → F.round = none → (∀ g, C g → g < w.heap.size) →
    gs.length = xs.length → us.length = xs.length → (∀ g ∈ gs, C g) → (∀ (j g : Nat) (u : Value), gs[j]? = some g → us[j]? = some u → w.cell? ⟨g, 0, none⟩ = some u) →
    (∀ (j : Nat) (x : P1) (u : Value), xs[j]? = some x → us[j]? = some u → R1 w C x u) → (∀ g, O g → g < w.heap.size ∧ ¬ C g) → SStable J → SYields F n P l ys J → J 0 O C w →
    CallsIn F n P f (#[.func (.yield l) #[] #[]] ++ (gs.map fun g => Value.pointer (some ⟨g, 0, none⟩)).toArray) w fun e w' => (∃ v, e = .returned v) ∧
      ∃ O' C' : Nat → Prop, J ys.length O' C' w' ∧ (∀ g, O' g → (O g ∨ w.heap.size ≤ g) ∧ g < w'.heap.size ∧ ¬ C' g) ∧ (∀ g, C' g → (C g ∨ O g ∨ w.heap.size ≤ g) ∧ g < w'.heap.size) ∧ GrZ w w' O
/-- The surroundings of an iterator's walk. -/
def Cx.iter (F : Fence) (n : Nat) (P : Program) (w : World) (C O : Nat → Prop) (l : Nat) (ys : List PV) (J : Nat → (Nat → Prop) → (Nat → Prop) → World → Prop) (hs : SStable J) (hy : SYields F n P l ys J) : Cx :=
  ⟨F, n, P, w, fun g => C g ∨ O g, fun g => O g ∨ w.heap.size ≤ g, fun m O C w => ∃ k, m = [.yld l ys k] ∧ J k O C w, [], fun _ h => .inr h, fun g h => h.elim (fun h => .inl (.inr h)) .inr,
    fun m O C C' w w' ⟨k, h1, h2⟩ h3 h4 h5 => ⟨k, h1, hs k O C C' w w' h2 h3 h4 h5⟩,
    fun l' ys' k m O C w y u ⟨k', h1, h2⟩ h3 h4 h5 h6 => by
      injection h1 with h1 h7
      injection h1 with e1 e2 e3
      subst e1; subst e2; subst e3; subst h7
      obtain ⟨fn, tmps, assign, body, h8, h9⟩ := hy k O C w y u h2 h3 h4 h5 h6
      exact ⟨fn, tmps, assign, body, h8, h9.mono fun e w' ⟨q1, O', q2, q3, q4, q5⟩ => ⟨q1, O', q2, q3, ⟨_, rfl, q4⟩, q5⟩⟩⟩
def RetS (l : Nat) (ys : List PV) : Exit → St → Prop
  | .normal, σ | .ret, σ => σ.df = [.yld l ys ys.length]
  | _, _ => False
theorem rets_n {σ : St} {l : Nat} {ys : List PV} {k : Nat} (h : σ.df = [.yld l ys k]) (hk : k = ys.length) : RetS l ys .normal σ := by subst hk; exact h
/-- **An iterator's contract out of the walk of its body.** -/
theorem seq_of {P : Program} {f : FuncId} {fn : Func} {c : Code} {xs : List P1} {ys : List PV} (hf : P.funcs[f]? = some fn) (hbody : fn.body = some c) (hname : (fn.name == "runtime.NumGoroutine") = false)
    (hres : fn.results = #[])
    (h : ∀ (X : Cx) (l : Nat), X.P = P → Wide X.F → X.F.round = none → AW X c (RetS l ys) ⟨[.yld l ys 0], .p (.v (.func (.yield l) #[] #[])) :: xs.map (fun x => .ept [x] 0) ++ List.replicate (fn.ntmps - (xs.length + 1)) .any, [], []⟩) :
    SeqC P f xs ys := by
  refine ⟨⟨fn, hf, by rw [hbody]; rfl, hname⟩, fun F n l C O w gs us J hF hro hC hg1 hu1 hgC hcell hR hO hs hy h0 => ?_⟩
  refine callsIn_of_wp_marks hf hbody (hF.fn f) ?_ hro
  let ptr : Nat → Value := fun g => Value.pointer (some ⟨g, 0, none⟩)
  have hal : (#[Value.func (.yield l) #[] #[]] ++ (gs.map ptr).toArray).size = xs.length + 1 := by simp [hg1]
  have hsat : Rel (.iter F n P w C O l ys J hs hy) ⟨[.yld l ys 0], .p (.v (.func (.yield l) #[] #[])) :: xs.map (fun x => .ept [x] 0) ++ List.replicate (fn.ntmps - (xs.length + 1)) .any, [], []⟩
      { tmps := (#[Value.func (.yield l) #[] #[]] ++ (gs.map ptr).toArray) ++ Array.replicate (fn.ntmps - (#[Value.func (.yield l) #[] #[]] ++ (gs.map ptr).toArray).size) undef, defers := [] } w ⟨[], []⟩ C := by
    refine ⟨by rw [hal]; simp [hg1]; omega, ?_, rfl, fun bx x hx => by simp at hx, List.nodup_nil, fun g hg => by simp at hg, rfl, fun j V hV => by simp at hV, fun i j Vi Vj vi vj g _ hi => by simp at hi,
      GrZ.refl _ _, fun g hg => ⟨.inl (.inl hg), hC g hg, by simp⟩, ⟨O, ⟨0, rfl, h0⟩, rfl, fun g hg => ⟨(hO g hg).1, .inl hg, fun hh => ?_⟩⟩, Nat.zero_le _, fun b g hb => by simp [pinN] at hb⟩
    · intro t d hd
      rw [hal]
      have hev : ((#[Value.func (.yield l) #[] #[]] ++ (gs.map ptr).toArray) ++ Array.replicate (fn.ntmps - (xs.length + 1)) undef).getD t undef = ((Value.func (.yield l) #[] #[] :: gs.map ptr) ++ List.replicate (fn.ntmps - (xs.length + 1)) undef).getD t undef := by
        rw [Array.getD_eq_getD_getElem?, List.getD_eq_getElem?_getD]
        congr 1
        rw [← Array.getElem?_toList]
        simp
      rw [hev]
      cases t with
      | zero =>
        simp at hd
        subst hd
        exact .p _ _ (.v _ rfl)
      | succ t =>
        simp only [ZL,Zc,List.getElem?_append,Zh] at hd
        simp only [ZL,List.getD_cons_succ]
        rw [List.getD_eq_getElem?_getD, List.getElem?_append]
        simp only [Zh,hg1]
        split at hd
        · rename_i hlt
          rw [if_pos hlt]
          have hgt : gs[t]? = some (gs[t]'(by omega)) := List.getElem?_eq_getElem _
          have hut : us[t]? = some (us[t]'(by omega)) := List.getElem?_eq_getElem _
          have hxt : xs[t]? = some xs[t] := List.getElem?_eq_getElem _
          simp only [List.getElem?_map,hxt,Zg,Option.some.injEq] at hd
          subst hd
          simp only [List.getElem?_map,hgt,Zg,Option.getD_some]
          refine .ept [xs[t]] 0 _ 0 [us[t]'(by omega)] (hgC _ (List.mem_of_getElem? hgt)) rfl ?_ ?_
          · intro j u hu
            cases j with
            | zero => simp at hu; subst hu; exact hcell t _ _ hgt hut
            | succ j => simp at hu
          · intro j x u hx hu
            cases j with
            | zero => simp at hx hu; subst hx; subst hu; exact hR t _ _ hxt hut
            | succ j => simp at hx
        · rw [List.getElem?_replicate] at hd
          split at hd
          · injection hd with hd; subst hd; exact .any _
          · cases hd
    · rcases hh with hh | hh | ⟨j, V, v, h1, _⟩
      · exact (hO g hg).2 hh
      · simp at hh
      · simp at h1
  have hw := h (.iter F n P w C O l ys J hs hy) l rfl hF hro _ _ ⟨_, _, hsat⟩
  refine wpIn_mono hw fun e a' w' he => ?_
  obtain ⟨σ', h1, γ, C', r'⟩ := he
  have fin : σ'.df = [.yld l ys ys.length] → LeavesInM F n P fn a'.tmps (fun e w' => (∃ v, e = .returned v) ∧
      ∃ O' C' : Nat → Prop, J ys.length O' C' w' ∧ (∀ g, O' g → (O g ∨ w.heap.size ≤ g) ∧ g < w'.heap.size ∧ ¬ C' g) ∧ (∀ g, C' g → (C g ∨ O g ∨ w.heap.size ≤ g) ∧ g < w'.heap.size) ∧ GrZ w w' O) a'.defers .returning w' := by
    intro hdf
    obtain ⟨O', hO'⟩ := r'.fr
    rw [hdf] at hO'
    have hds : a'.defers = [] := hO'.2.1
    rw [hds]
    obtain ⟨k, hk, hJ⟩ := hO'.1
    injection hk with hk _
    injection hk with _ _ hk
    subst hk
    refine ⟨.tuple #[], by rw [results_eq, hres]; simp, ⟨_, rfl⟩, O', C', hJ, fun g hg => ⟨(hO'.2.2 g hg).2.1, (hO'.2.2 g hg).1, fun hc => (hO'.2.2 g hg).2.2 (.inl hc)⟩, fun g hg => ⟨?_, (r'.cc g hg).2.1⟩, ?_⟩
    · rcases (r'.cc g hg).1 with (h | h) | h
      · exact .inl h
      · exact .inr (.inl h)
      · exact .inr (.inr h)
    · exact ⟨r'.gr.os, r'.gr.tape, r'.gr.output, r'.gr.size, fun k hk hn => r'.gr.block k hk (fun hz => hz.elim hn (fun h => by change w.heap.size ≤ k at h; omega))⟩
  cases e with
  | normal => exact fin h1
  | ret => exact fin h1
  | exit id => exact h1.elim
  | goto l => exact h1.elim
  | panic ch => exact h1.elim
  | outgrown => exact h1.elim
end Go.Proofs.Ytldcoekbgfaomaa
end
section
namespace Go.Proofs.Ytldcoekbgfaomaa
open Go.RowKit
open Classical
section
variable {X : Cx} {b : Tb} {σ : St} {a : Act} {w : World} {γ : Gh} {C : Nat → Prop}
/-- What a slot says as long as the first nb variables keep their places. -/
def D.steady (nb : Nat) : D → Bool
  | .any => true
  | .p _ => true
  | .agg _ => true
  | .tup _ => true
  | .nil => true
  | .ptr b _ => decide (b < nb)
  | .ept _ _ => true
  | .fn _ bs => bs.all fun b => decide (b < nb)
  | _ => false
theorem RD.steady {w w' : World} {C C' : Nat → Prop} {γ γ' : Gh} {nb : Nat} (k : Kp C C' w w') (hb : ∀ b g, b < nb → γ.bl[b]? = some g → γ'.bl[b]? = some g) {d : D} {u : Value} (hd : d.steady nb = true) (h : RD w C γ d u) : RD w' C' γ' d u := by
  cases h with
  | any => exact .any _
  | p x u h => exact .p _ _ (h.keep k)
  | agg xs us hl h => exact .agg xs us hl fun j x u hx hu => (h j x u hx hu).keep k
  | tup ds us hl h => exact .tup ds us hl fun j x u hx hu => (h j x u hx hu).keep k
  | nil => exact .nil
  | ptr b off g h => exact .ptr b off g (hb b g (by simpa [D.steady] using hd) h)
  | ept xs off g o us hg hl hcell h =>
    exact .ept xs off g o us (k.c g hg) hl (fun j u hu => (World.cell?_of_block (k.h g hg)).trans (hcell j u hu)) fun j x u hx hu => (h j x u hx hu).keep k
  | vref j v h => simp [D.steady] at hd
  | vpt j off g n c h => simp [D.steady] at hd
  | aggd ds us hl h1 h => simp [D.steady] at hd
  | bsl b off n k g c h hn hc => simp [D.steady] at hd
  | fn f bs us hl h =>
    refine .fn f bs us hl fun j b u hx hu => ?_
    obtain ⟨g, h1, h2⟩ := h j b u hx hu
    simp only [D.steady,List.all_eq_true,Zp] at hd
    exact ⟨g, hb b g (hd b (List.mem_of_getElem? hx)) h1, h2⟩
/-- Other slots. -/
theorem Rel.reslot (r : Rel X σ a w γ C) {sl : List D} {ts : Array Value} (hs : ts.size = sl.length) (h : ∀ (t : Nat) (d : D), sl[t]? = some d → RD w C γ d (ts.getD t undef)) : Rel X { σ with slots := sl } { a with tmps := ts } w γ C :=
  ⟨hs, h, r.bl, r.bx, r.bn, r.bge, r.vl, r.vc, r.vd, r.gr, r.cc, r.fr, r.bp⟩
theorem Rel.own_z (r : Rel X σ a w γ C) {g : Nat} (h : Held γ σ.vecs (fun _ => False) g) : X.Z g ∧ ¬ C g ∧ g < w.heap.size := by
  have hl : g < w.heap.size := Held.lt r (by
    rcases h with h | h | h
    · exact h.elim
    · exact .inr (.inl h)
    · exact .inr (.inr h))
  rcases h with h | h | ⟨j, V, v, q1, q2, q3⟩
  · exact h.elim
  · exact ⟨r.bge g h, fun hc => (r.cc g hc).2.2 h, hl⟩
  · obtain ⟨v', us, e1, _, _, _, e5⟩ := r.vc j V q1
    rw [q2] at e1
    injection e1 with e1
    subst e1
    exact ⟨(e5 g q3).2.2, (e5 g q3).2.1, hl⟩
theorem Held.split {vs : List (Option Vc)} {g : Nat} (h : Held γ vs C g) : C g ∨ Held γ vs (fun _ => False) g := by
  rcases h with h | h | h
  · exact .inl h
  · exact .inr (.inr (.inl h))
  · exact .inr (.inr (.inr h))
theorem Held.of {vs : List (Option Vc)} {g : Nat} (h : Held γ vs (fun _ => False) g) : Held γ vs C g := by
  rcases h with h | h | h
  · exact h.elim
  · exact .inr (.inl h)
  · exact .inr (.inr h)
/-- What a round leaves alone: the marks of the frame outside, the loop's record, the block for deferred calls. -/
def RoundJ (m0 : List Mk) (ds : List Deferred) (Oc : Nat → Prop) (l Dk : Nat) (rec : Loop) (m : List Mk) (O _C : Nat → Prop) (w : World) : Prop :=
  (∀ l' ys k m', m ≠ .yld l' ys k :: m') ∧ (∀ g, Oc g → O g) ∧ DfOk w Oc m0 ds ∧ O l ∧ O Dk ∧ w.heap[Dk]? = some (.deferred (some [])) ∧ w.heap[l]? = some (.loop rec)
theorem RoundJ.stable (m0 : List Mk) (ds : List Deferred) (Oc : Nat → Prop) (l Dk : Nat) (rec : Loop) : JStable (RoundJ m0 ds Oc l Dk rec) := by
  rintro m O C C' w w' ⟨h1, h2, h3, h4, h5, h6, h7⟩ _ _ hh
  exact ⟨h1, h2, h3.keep (fun _ h => h) (fun g hg => hh g (.inl (h2 g hg))), h4, h5, (hh Dk (.inl h5)).trans h6, (hh l (.inl h4)).trans h7⟩
/-- The surroundings of a round. -/
def Cx.rnd (X : Cx) (m0 : List Mk) (ds : List Deferred) (Oc : Nat → Prop) (l Dk : Nat) (rec : Loop) (bl0 : List Nat) (w : World) (O C : Nat → Prop) : Cx :=
  ⟨X.F.inRound l, X.n - 1 - 1, X.P, w, fun g => C g ∨ O g, fun g => O g ∨ w.heap.size ≤ g, RoundJ m0 ds Oc l Dk rec, bl0, fun _ h => .inr h, fun g h => h.elim (fun h => .inl (.inr h)) .inr,
    RoundJ.stable _ _ _ _ _ _, fun l ys k m O C w y u h => absurd rfl (h.1 l ys k m)⟩
/-- What the loop knows between the rounds. -/
def LoopJ (X : Cx) (m0 : List Mk) (a : Act) (Oc Cc0 : Nat → Prop) (l Dk : Nat) (rec : Loop) (bl0 : List Nat) (nb : Nat) (sl : List D) (bx : Nat → List Bx) (vc : Nat → List (Option Vc)) (k : Nat) (O C : Nat → Prop) (w : World) : Prop :=
  (∀ g, Cc0 g → C g) ∧ ∃ γ Cc, Rel (X.rnd m0 a.defers Oc l Dk rec bl0 w O C) ⟨[.pin nb], List.replicate sl.length .any, bx k, vc k⟩ { tmps := a.tmps, defers := [] } w γ Cc ∧
    ∀ (t : Nat) (d : D), sl[t]? = some d → RD w Cc0 γ d (a.tmps.getD t undef)
theorem loopJ_stable {m0 : List Mk} {Oc Cc0 : Nat → Prop} {l Dk : Nat} {rec : Loop} {bl0 : List Nat} {nb : Nat} {sl : List D} {bx : Nat → List Bx} {vc : Nat → List (Option Vc)} : SStable (LoopJ X m0 a Oc Cc0 l Dk rec bl0 nb sl bx vc) := by
  rintro k O C C' w w' ⟨h1, γ, Cc, r, hsl⟩ hsz hC hh
  have hOC : ∀ g, Held γ (vc k) Cc g → O g ∨ C g := by
    intro g hg
    have hlt := Held.lt r hg
    rcases hg.split with h | h
    · rcases (r.cc g h).1 with (h | h) | h
      · exact .inr h
      · exact .inl h
      · change w.heap.size ≤ g at h; omega
    · rcases (r.own_z h).1 with h | h
      · exact .inl h
      · omega
  refine ⟨fun g h => hC g (h1 g h), γ, Cc, ?_, fun t d hd => (hsl t d hd).keep ⟨fun _ h => h, fun g h => hh g (.inr (h1 g h))⟩ (GhLe.refl _)⟩
  refine r.move (X' := X.rnd m0 a.defers Oc l Dk rec bl0 w' O C') hsz (fun g h => hh g (hOC g h)) (fun _ h => h) (fun g h => ?_) (GrZ.refl _ _) (fun g h => ⟨?_, Nat.lt_of_lt_of_le (r.cc g h).2.1 hsz, fun hb => (r.own_z hb).2.1 h⟩) ?_ r.bp
  · rcases (r.own_z h).1 with h' | h'
    · exact .inl h'
    · have := (r.own_z h).2.2
      omega
  · rcases hOC g (.inl h) with h' | h'
    · exact .inl (.inr h')
    · exact .inl (.inl (hC g h'))
  · obtain ⟨O2, q1, q2, q3⟩ := r.fr
    have hO2 : ∀ g, O2 g → O g := fun g h => by
      rcases (q3 g h).2.1 with h' | h'
      · exact h'
      · have := (q3 g h).1; omega
    refine ⟨O2, RoundJ.stable _ _ _ _ _ _ _ _ _ _ _ _ q1 hsz (fun _ h => h) (fun g h => h.elim (fun h => hh g (.inl (hO2 g h))) fun h => hh g (hOC g (.inl h))), q2, fun g h => ⟨Nat.lt_of_lt_of_le (q3 g h).1 hsz, .inl (hO2 g h), (q3 g h).2.2⟩⟩
/-- What is shown of a round: what comes is put into place; the body; the variables' next state. -/
def RoundOk (P : Program) (nb p : Nat) (assign body : Code) (sl : List D) (bx bx' : List Bx) (vc vc' : List (Option Vc)) (y : PV) : Prop :=
  ∀ X' : Cx, X'.P = P → Wide X'.F → AW X' assign (fun e σ1 => e = .normal ∧ σ1.df = [.pin nb] ∧ ∀ X'' : Cx, X''.P = P → Wide X''.F → AW X'' body (fun e σ2 => e = .normal ∧ Wk X'' σ2 ⟨[.pin nb], List.replicate sl.length .any, bx', vc'⟩) σ1)
    ⟨[.pin nb], sl.set p y.d, bx, vc⟩
theorem loopJ_yields (hX : Wide X.F) {m0 : List Mk} {Oc Cc0 : Nat → Prop} {l Dk fnn p : Nat} {bl0 : List Nat} {nb : Nat} {sl : List D} {bx : Nat → List Bx} {vc : Nat → List (Option Vc)} {assign body : Code} {ys : List PV} {dfr : Nat}
    (hst : ∀ d ∈ sl, d.steady nb = true) (hnb : nb ≤ bl0.length) (hlD : l ≠ Dk) (hOcl : ¬ Oc l)
    (hround : ∀ (k : Nat) (y : PV), ys[k]? = some y → RoundOk X.P nb p assign body sl (bx k) (bx (k + 1)) (vc k) (vc (k + 1)) y) :
    SYields X.F (X.n - 1) X.P l ys (LoopJ X m0 a Oc Cc0 l Dk { state := .ready, pending := none, fn := fnn, tmps := a.tmps, params := #[p], assign := assign, body := body, defers := dfr } bl0 nb sl bx vc) := by
  obtain ⟨rec, hrec⟩ : ∃ rec : LoopState → Loop, rec = fun st => { state := st, pending := none, fn := fnn, tmps := a.tmps, params := #[p], assign := assign, body := body, defers := dfr } := ⟨_, rfl⟩
  have er : ({ state := .ready, pending := none, fn := fnn, tmps := a.tmps, params := #[p], assign := assign, body := body, defers := dfr } : Loop) = rec .ready := by rw [hrec]
  rw [er]
  rintro k O C w y u ⟨hCc, γ, Cc, r, hsl⟩ hy hu hO hC
  have hOC : ∀ g, Held γ (vc k) Cc g → O g ∨ C g := by
    intro g hg
    have hlt := Held.lt r hg
    rcases hg.split with h | h
    · rcases (r.cc g h).1 with (h | h) | h
      · exact .inr h
      · exact .inl h
      · change w.heap.size ≤ g at h; omega
    · rcases (r.own_z h).1 with h | h
      · exact .inl h
      · omega
  have hown : ∀ g, Held γ (vc k) (fun _ => False) g → O g := by
    intro g hg
    rcases (r.own_z hg).1 with h | h
    · exact h
    · have := (r.own_z hg).2.2; omega
  obtain ⟨O2, q1, q2, q3⟩ := r.fr
  have hO2 : ∀ g, O2 g → O g := fun g h => by
    rcases (q3 g h).2.1 with h' | h'
    · exact h'
    · have := (q3 g h).1; omega
  have hj := q1
  obtain ⟨j1, j2, j3, j4, j5, j6, j7⟩ := q1
  have hrun := run_yield (P := X.P) (args := #[u]) j7 (by rw [hrec]; rfl)
  have hrt : ((rec .ready).params.zip #[u]).foldl (fun tmps (t, a) => tmps.setIfInBounds t a) (rec .ready).tmps = a.tmps.setIfInBounds p u := by
    rw [hrec]
    simp
  rw [hrt] at hrun
  refine ⟨_, _, _, _, hrun, ?_⟩
  have e1 : (rec .ready).fn = fnn := by rw [hrec]
  have e2 : (rec .ready).assign = assign := by rw [hrec]
  have e3 : (rec .ready).body = body := by rw [hrec]
  rw [e1, e2, e3]
  refine roundIn_of_wpIn (hX.fn fnn) ?_
  -- the round's start
  let Xr := X.rnd m0 a.defers Oc l Dk (rec .ready) bl0 w O C
  let C1 : Nat → Prop := fun g => Cc g ∨ C g
  have r1 : Rel Xr ⟨[.pin nb], List.replicate sl.length .any, bx k, vc k⟩ { tmps := a.tmps, defers := [] } w γ C1 := by
    refine r.move (X' := Xr) (Nat.le_refl _) (fun _ _ => rfl) (fun _ h => .inl h) (fun g h => (r.own_z h).1) (GrZ.refl _ _) (fun g h => ?_) ⟨O2, ?_, q2, fun g h => ⟨(q3 g h).1, (q3 g h).2.1, fun hh => ?_⟩⟩ r.bp
    · rcases h with h | h
      · exact ⟨(r.cc g h).1, (r.cc g h).2.1, fun hb => (r.own_z hb).2.1 h⟩
      · exact ⟨.inl (.inl h), hC g h, fun hb => (hO g (hown g hb)).2 h⟩
    · exact hj
    · rcases hh.split with (hh | hh) | hh
      · exact (q3 g h).2.2 (.inl hh)
      · exact (hO g (hO2 g h)).2 hh
      · exact (q3 g h).2.2 hh.of
  have r2 : Rel Xr ⟨[.pin nb], sl, bx k, vc k⟩ { tmps := a.tmps, defers := [] } w γ C1 :=
    r1.reslot (by have := r.sz; simpa using this) fun t d hd => (hsl t d hd).keep ⟨fun g h => .inr (hCc g h), fun _ _ => rfl⟩ (GhLe.refl _)
  have r3 := r2.put (some p) y.d u ((hu.keep ⟨fun g h => .inr h, fun _ _ => rfl⟩).rd)
  refine wpIn_mono (hround k y hy Xr rfl ⟨hX.fn, hX.depth, hX.alive⟩ _ _ ⟨_, _, r3⟩) ?_
  rintro e a1 w1 ⟨σ1, ⟨rfl, hdf1, hbody⟩, γ1, C1', s1⟩
  obtain ⟨O3, s2, s3, s4⟩ := s1.fr
  have hj1 := s2
  obtain ⟨t1, t2, t3, t4, t5, t6, t7⟩ := s2
  refine ⟨_, run_beginRound t7 (by rw [hrec]), ?_⟩
  have eb : ({ rec .ready with state := .busy } : Loop) = rec .busy := by rw [hrec]
  rw [eb]
  let w2 := w1.putObj l (.loop (rec .busy))
  have hl1 : l < w1.heap.size := (s4 l t4).1
  let Xb := X.rnd m0 a.defers Oc l Dk (rec .busy) bl0 w O C
  have hlO : O l := hO2 l j4
  have hds1 : a1.defers = [] := by rw [hdf1] at s3; exact s3
  have r4 : Rel Xb σ1 a1 w2 γ1 C1' := by
    have := s1.move (X' := Xb) (w' := w2) (m' := σ1.df) (ds' := a1.defers) (by simp [w2]) (fun g h => World.putObj_heap_other (fun e => (s4 l t4).2.2 (by rw [← e]; exact h))) (fun _ h => h) (fun g h => (s1.own_z h).1)
      (s1.gr.trans (w2 := w2) (Z' := fun g => g = l) ⟨rfl, rfl, rfl, by simp [w2], fun k _ hk => World.putObj_heap_other hk⟩ (fun g _ e => by subst e; exact .inl hlO))
      (fun g h => ⟨(s1.cc g h).1, by simpa [w2] using (s1.cc g h).2.1, fun hb => (s1.own_z hb).2.1 h⟩)
      ⟨O3, ⟨t1, t2, t3.keep (fun _ h => h) (fun g hg => World.putObj_heap_other (fun e => hOcl (by rw [← e]; exact hg))), t4, t5, (World.putObj_heap_other hlD.symm).trans t6, World.putObj_heap_same hl1⟩, ?_, fun g h => ⟨by simpa [w2] using (s4 g h).1, (s4 g h).2.1, (s4 g h).2.2⟩⟩ s1.bp
    · exact this
    · rw [hdf1]
      exact hds1
  refine wpIn_mono (hbody Xb rfl ⟨hX.fn, hX.depth, hX.alive⟩ _ _ ⟨_, _, r4⟩) ?_
  rintro e a2 w3 ⟨σ2, ⟨rfl, hwk⟩, hs2⟩
  obtain ⟨γ3, C3, v1⟩ := hwk _ _ hs2
  obtain ⟨O4, v2, v3, v4⟩ := v1.fr
  obtain ⟨y1, y2, y3, y4, y5, y6, y7⟩ := v2
  have hend := run_endRound (P := X.P) none y7
  refine ⟨_, _, hend, rfl, ?_⟩
  have ee : ({ rec .busy with state := if (none : Option Code).isNone then .ready else .done, pending := none } : Loop) = rec .ready := by rw [hrec]; rfl
  rw [ee]
  let w4 := w3.putObj l (.loop (rec .ready))
  have hl3 : l < w3.heap.size := (v4 l y4).1
  have hsz3 : w.heap.size ≤ w3.heap.size := v1.gr.size
  have hsz4 : w4.heap.size = w3.heap.size := World.putObj_size
  have hgr4 : GrZ w w4 (fun g => O g ∨ w.heap.size ≤ g) := v1.gr.trans (Z' := fun g => g = l) ⟨rfl, rfl, rfl, by rw [hsz4]; exact Nat.le_refl _, fun k _ hk => World.putObj_heap_other hk⟩ (fun g _ e => by subst e; exact .inl hlO)
  have hC4 : ∀ g, C g → w4.heap[g]? = w.heap[g]? := fun g h => hgr4.block g (hC g h) (fun hz => hz.elim (fun h' => (hO g h').2 h) (fun h' => by have := hC g h; omega))
  let O' : Nat → Prop := fun g => O g ∨ (w.heap.size ≤ g ∧ g < w4.heap.size)
  have zO' : ∀ g, g < w3.heap.size → Xb.Z g → O' g := fun g h1 h2 => h2.elim .inl (fun h => .inr ⟨h, by rw [hsz4]; exact h1⟩)
  refine ⟨O', fun g h => .inl h, fun g h => h, ⟨hCc, γ3, (fun g => C3 g ∨ C g), ?_, fun t d hd => ?_⟩, ⟨hgr4.os, hgr4.tape, hgr4.output, hgr4.size, fun g h1 h2 => hgr4.block g h1 (fun hz => hz.elim h2 (fun h => by omega))⟩⟩
  · have hm := v1.move (X' := X.rnd m0 a.defers Oc l Dk (rec .ready) bl0 w4 O' C) (w' := w4) (m' := [.pin nb]) (ds' := []) (C' := fun g => C3 g ∨ C g) (by rw [hsz4]; exact Nat.le_refl _)
      (fun g h => World.putObj_heap_other (fun e => (v4 l y4).2.2 (by rw [← e]; exact h))) (fun _ h => .inl h) (fun g h => .inl (zO' g (v1.own_z h).2.2 (v1.own_z h).1)) (GrZ.refl _ _) (fun g h => ?_)
      ⟨O4, ⟨y1, y2, y3.keep (fun _ h => h) (fun g hg => World.putObj_heap_other (fun e => hOcl (by rw [← e]; exact hg))), y4, y5, (World.putObj_heap_other hlD.symm).trans y6, World.putObj_heap_same hl3⟩, rfl,
        fun g h => ⟨by rw [hsz4]; exact (v4 g h).1, .inl (zO' g (v4 g h).1 (v4 g h).2.1), fun hh => ?_⟩⟩ v1.bp
    · have sz1 := r.sz
      exact hm.reslot (ts := a.tmps) (by simpa using sz1) fun t d hd => by
        rw [List.getElem?_replicate] at hd
        split at hd
        · injection hd with hd; subst hd; exact .any _
        · cases hd
    · rcases h with h | h
      · refine ⟨.inl ?_, by rw [hsz4]; exact (v1.cc g h).2.1, fun hb => (v1.own_z hb).2.1 h⟩
        rcases (v1.cc g h).1 with (h' | h') | h'
        · exact .inl h'
        · exact .inr (.inl h')
        · exact .inr (.inr ⟨h', by rw [hsz4]; exact (v1.cc g h).2.1⟩)
      · refine ⟨.inl (.inl h), by rw [hsz4]; exact Nat.lt_of_lt_of_le (hC g h) hsz3, fun hb => ?_⟩
        rcases (v1.own_z hb).1 with h' | h'
        · exact (hO g h').2 h
        · have := hC g h
          change w.heap.size ≤ g at h'
          omega
    · rcases hh.split with (hh | hh) | hh
      · exact (v4 g h).2.2 (.inl hh)
      · rcases (v4 g h).2.1 with h' | h'
        · exact (hO g h').2 hh
        · have := hC g hh
          change w.heap.size ≤ g at h'
          omega
      · exact (v4 g h).2.2 hh.of
  · refine (hsl t d hd).steady (nb := nb) ⟨fun _ h => h, fun g h => hC4 g (hCc g h)⟩ (fun b g hb hg => ?_) (hst d (List.mem_of_getElem? hd))
    have hb0 : bl0[b]? = some (bl0[b]'(by omega)) := List.getElem?_eq_getElem _
    have h1 := r.bp.2 b _ (by simpa [pinN] using hb) hb0
    rw [hg] at h1
    injection h1 with h1
    exact v1.bp.2 b g (by simpa [pinN] using hb) (by rw [h1]; exact hb0)
theorem grownBy_trans {w w1 w2 : World} {row row' : Option Nat} (h : w.grownBy w1 row) (h' : w1.grownBy w2 row') (hr : ∀ g, row' = some g → g < w.heap.size → row = some g) : w.grownBy w2 row :=
  ⟨h'.os.trans h.os, h'.tape.trans h.tape, h'.output.trans h.output, Nat.le_trans h.size h'.size, fun k hk hne =>
    (h'.block k (Nat.lt_of_lt_of_le hk h.size) (fun e => hne ((hr k e.symm hk).symm))).trans (h.block k hk hne)⟩
theorem pinN_coll (m : List Mk) : pinN (.coll :: m) = pinN m := rfl
/-- **A range over a function.** -/
theorem aw_range (hX : Wide X.F) (hro : X.F.round = none) (hpl : ∀ m O C w, X.J (.coll :: m) O C w) {g : Operand} {p : Nat} {assign body : Code} {Q : Exit → St → Prop} {f : FuncId} {xs : List P1} {ys : List PV} (sl : List D) (nb : Nat) (bx : Nat → List Bx) (vc : Nat → List (Option Vc))
    (h0 : Wk X σ ⟨σ.df, sl, bx 0, vc 0⟩) (hg : St.ev ⟨σ.df, sl, bx 0, vc 0⟩ g = .p (.clo f xs)) (hseq : SeqC X.P f xs ys) (hst : sl.all (D.steady nb) = true) (hnb : (bx 0).length = nb) (_ : decide (pinN σ.df ≤ nb) = true)
    (hround : ∀ (k : Nat) (y : PV), ys[k]? = some y → RoundOk X.P nb p assign body sl (bx k) (bx (k + 1)) (vc k) (vc (k + 1)) y)
    (hQ : Q .normal ⟨.coll :: σ.df, sl, bx ys.length, vc ys.length⟩) : AW X (.rangeFunc g #[p] assign body) Q σ := by
  intro a w hs
  obtain ⟨γ, C, r⟩ := h0 a w hs
  have hst' : ∀ d ∈ sl, d.steady nb = true := List.all_eq_true.1 hst
  have hclo := ev_ok r g
  rw [hg] at hclo
  obtain ⟨gs, us, hgv, c1, c2, c3, c4, c5⟩ : ∃ (gs : List Nat) (us : List Value), a.eval g = .func (.func f) #[] (gs.map fun g => Value.pointer (some ⟨g, 0, none⟩)).toArray ∧ gs.length = xs.length ∧ us.length = xs.length ∧ (∀ g ∈ gs, C g) ∧
      (∀ (j g : Nat) (u : Value), gs[j]? = some g → us[j]? = some u → w.cell? ⟨g, 0, none⟩ = some u) ∧ ∀ (j : Nat) (x : P1) (u : Value), xs[j]? = some x → us[j]? = some u → R1 w C x u := by
    generalize a.eval g = v at hclo
    cases hclo with | p _ _ h =>
    cases h with | clo _ _ gs us h1 h2 h3 h4 h5 => exact ⟨gs, us, rfl, h1, h2, h3, h4, h5⟩
  refine wpIn_rangeFunc ?_
  intro fn hfn
  rw [hro]
  obtain ⟨rec, hrec⟩ : ∃ rec : Loop, rec = { state := .ready, pending := none, fn := fn, tmps := a.tmps, params := #[p], assign := assign, body := body, defers := w.heap.size } := ⟨_, rfl⟩
  obtain ⟨W1, hW1⟩ : ∃ W1, (w.alloc (.deferred (some []))).alloc (.loop rec) = W1 := ⟨_, rfl⟩
  have hszW : W1.heap.size = w.heap.size + 2 := by rw [← hW1, size_alloc', size_alloc']
  have hL1 : W1.heap[w.heap.size + 1]? = some (.loop rec) := by
    rw [← hW1]; have := World.alloc_heap_new (w.alloc (.deferred (some []))) (.loop rec); rwa [World.size_alloc] at this
  have hK1 : W1.heap[w.heap.size]? = some (.deferred (some [])) := by
    rw [← hW1]; exact (Below.heap_alloc _ _ _ (by simp)).trans (World.alloc_heap_new w _)
  have hgW : w.grownBy W1 none := by
    have h1 := World.grownBy_alloc w (.deferred (some [])) none
    have h2 := World.grownBy_alloc (w.alloc (.deferred (some []))) (.loop rec) none
    rw [hW1] at h2
    exact grownBy_trans h1 h2 (by simp)
  have r' := r.grow0 hgW
  obtain ⟨Oc, ho1, ho2⟩ := r.growFr0 hgW
  let O0 : Nat → Prop := fun g => Held γ (vc 0) (fun _ => False) g ∨ Oc g ∨ g = w.heap.size + 1 ∨ g = w.heap.size
  have hCl : ∀ g, C g → g < w.heap.size := fun g h => (r.cc g h).2.1
  have hO0 : ∀ g, O0 g → X.Z g ∧ g < W1.heap.size ∧ ¬ C g := by
    intro g h
    rcases h with h | h | h | h
    · have := r.own_z h
      exact ⟨this.1, by omega, this.2.1⟩
    · exact ⟨(ho1.2.2 g h).2.1, (ho1.2.2 g h).1, fun hc => (ho1.2.2 g h).2.2 (.inl hc)⟩
    · subst h
      exact ⟨X.zn _ (Nat.le_trans r.size_le (Nat.le_succ _)), by omega, fun hc => by have := hCl _ hc; omega⟩
    · subst h
      exact ⟨X.zn _ r.size_le, by omega, fun hc => by have := hCl _ hc; omega⟩
  have hJ0 : LoopJ X σ.df a Oc C (w.heap.size + 1) w.heap.size rec γ.bl nb sl bx vc 0 O0 C W1 := by
    refine ⟨fun _ h => h, γ, C, ?_, r'.sl⟩
    have := r'.move (X' := X.rnd σ.df a.defers Oc (w.heap.size + 1) w.heap.size rec γ.bl W1 O0 C) (w' := W1) (m' := [.pin nb]) (ds' := []) (C' := C) (Nat.le_refl _) (fun _ _ => rfl) (fun _ h => h) (fun g h => .inl (.inl h)) (GrZ.refl _ _)
      (fun g h => ⟨.inl (.inl h), (r'.cc g h).2.1, fun hb => (r'.own_z hb).2.1 h⟩)
      ⟨fun g => Oc g ∨ g = w.heap.size + 1 ∨ g = w.heap.size, ⟨fun l ys k m h => (by cases h), fun g h => .inl h, ho1.2.1, .inr (.inl rfl), .inr (.inr rfl), hK1, hL1⟩, rfl, fun g h => ?_⟩
      ⟨by rw [hnb]; exact Nat.le_refl _, fun b g _ h => h⟩
    · exact this.reslot (ts := a.tmps) (by have := r.sz; simpa using this) fun t d hd => by
        rw [List.getElem?_replicate] at hd
        split at hd
        · injection hd with hd; subst hd; exact .any _
        · cases hd
    · rcases h with h | h | h
      · exact ⟨(ho1.2.2 g h).1, .inl (.inr (.inl h)), (ho1.2.2 g h).2.2⟩
      · subst h
        exact ⟨by omega, .inl (.inr (.inr (.inl rfl))), fun hh => by have := Held.lt r hh; omega⟩
      · subst h
        exact ⟨by omega, .inl (.inr (.inr (.inr rfl))), fun hh => by have := Held.lt r hh; omega⟩
  have kW : Kp C C w W1 := ⟨fun _ h => h, fun g h => hgW.block g (hCl g h) (by simp)⟩
  refine ⟨w.heap.size + 1, [{ target := .collected w.heap.size, args := #[] }], W1, { target := .fn (.func f) (gs.map fun g => Value.pointer (some ⟨g, 0, none⟩)).toArray, args := #[.func (.yield (w.heap.size + 1)) #[] #[]] }, W1, f,
    #[.func (.yield (w.heap.size + 1)) #[] #[]] ++ (gs.map fun g => Value.pointer (some ⟨g, 0, none⟩)).toArray, W1, ?_, ?_, ?_, ?_, fun h => by simp [hX.depth] at h, ?_⟩
  · rw [← hW1, hrec]; exact run_enterLoop_outer _ _ _ _ _
  · simp only [resolve,hgv]
    simp [go_sem]
  · intro f' _
    exact hX.fn f'
  · obtain ⟨fn', e1, e2, e3⟩ := hseq.en
    have e4 : ¬ fn'.name = "runtime.NumGoroutine" := by simpa using e3
    have e5 : ¬ fn'.body = none := by intro h; rw [h] at e2; cases e2
    simp [invoke, callFunc, e1, e4, e5]
  · have hcall := hseq.h X.F (X.n - 1) (w.heap.size + 1) C O0 W1 gs us (LoopJ X σ.df a Oc C (w.heap.size + 1) w.heap.size rec γ.bl nb sl bx vc) hX hro (fun g h => (r'.cc g h).2.1) c1 c2 c3
      (fun j g u hg hu => (World.cell?_of_block (kW.h g (c3 g (List.mem_of_getElem? hg)))).trans (c4 j g u hg hu)) (fun j x u hx hu => (c5 j x u hx hu).keep kW) (fun g h => (hO0 g h).2) loopJ_stable
      (by rw [hrec]; exact loopJ_yields hX hst' (by rw [r.bl, hnb]; exact Nat.le_refl _) (by omega) (fun h => by have := ho2 _ h; omega) hround) hJ0
    refine hcall.mono ?_
    rintro e W' ⟨⟨v, rfl⟩, O', C', ⟨hCc, γ', Cc, rl, hsl⟩, hO', hC', hgr⟩
    obtain ⟨O4, ⟨y1, y2, y3, y4, y5, y6, y7⟩, v3, v4⟩ := rl.fr
    have hend := run_endLoop (P := X.P) y7 (by rw [hrec]; simp)
    have hpend : rec.pending = none := by rw [hrec]
    rw [hpend] at hend
    obtain ⟨W2, hW2⟩ : ∃ W2, W'.putObj (w.heap.size + 1) (.loop { rec with state := .exhausted, pending := none }) = W2 := ⟨_, rfl⟩
    have hend' : (Instr.endLoop (w.heap.size + 1)).run X.P W' = .ok none W2 := by
      rw [← hW2, hend]
    refine ⟨none, _, hend', _, hQ, ?_⟩
    have hszW' : W1.heap.size ≤ W'.heap.size := hgr.size
    have hsz2 : W2.heap.size = W'.heap.size := by rw [← hW2]; exact World.putObj_size
    have hoth : ∀ g, g ≠ w.heap.size + 1 → W2.heap[g]? = W'.heap[g]? := fun g h => by rw [← hW2]; exact World.putObj_heap_other h
    have hown : ∀ g, Held γ' (vc ys.length) (fun _ => False) g → O0 g ∨ W1.heap.size ≤ g := by
      intro g h
      rcases (rl.own_z h).1 with h1 | h1
      · exact (hO' g h1).1
      · have := (rl.own_z h).2.2
        change W'.heap.size ≤ g at h1
        omega
    have hZ1 : ∀ g, O0 g ∨ W1.heap.size ≤ g → X.Z g := fun g h => h.elim (fun h => (hO0 g h).1) (fun h => X.zn g (by have := r'.size_le; exact Nat.le_trans this h))
    have hnC : ∀ g, O0 g ∨ W1.heap.size ≤ g → ¬ C g := fun g h hc => h.elim (fun h => (hO0 g h).2.2 hc) (fun h => by have := hCl g hc; omega)
    have hgrX : GrZ X.w0 W2 X.Z := by
      refine (r'.gr.trans hgr fun g _ h => (hO0 g h).1).trans (w2 := W2) (Z' := fun g => g = w.heap.size + 1) ⟨by rw [← hW2]; rfl, by rw [← hW2]; rfl, by rw [← hW2]; rfl, by omega, fun k _ hk => hoth k hk⟩ (fun g _ h => ?_)
      subst h
      exact hZ1 _ (.inl (.inr (.inr (.inl rfl))))
    have hm := rl.move (X' := X) (w' := W2) (m' := .coll :: σ.df) (ds' := { target := .collected w.heap.size, args := #[] } :: a.defers) (C' := fun g => Cc g ∨ C g) (by omega)
      (fun g h => hoth g (fun e => (v4 _ y4).2.2 (by rw [← e]; exact h))) (fun _ h => .inl h) (fun g h => hZ1 g (hown g h)) hgrX (fun g h => ?_)
      ⟨fun g => Oc g ∨ g = w.heap.size, hpl _ _ _ _, ⟨w.heap.size, a.defers, rfl, .inr rfl, (hoth _ (by omega)).trans y6, y3.keep (fun g h => ⟨.inl h, fun e => by have := ho2 g h; omega⟩) (fun g h => hoth g (fun e => by have := ho2 g h; omega))⟩, fun g h => ?_⟩
      ⟨by rw [pinN_coll]; exact Nat.le_trans (hnb ▸ r.bp.1) rl.bp.1, fun b g hb hg => rl.bp.2 b g (Nat.lt_of_lt_of_le (by rw [pinN_coll] at hb; exact hb) (hnb ▸ r.bp.1)) (r.bp.2 b g (by rw [pinN_coll] at hb; exact hb) hg)⟩
    · refine ⟨_, _, hm.reslot (sl := sl) (ts := a.tmps) r.sz fun t d hd => (hsl t d hd).keep ⟨fun g h => .inr h, fun g h => hoth g (fun e => by have := hCl g h; omega)⟩ (GhLe.refl _)⟩
    · rcases h with h | h
      · refine ⟨?_, by rw [hsz2]; exact (rl.cc g h).2.1, fun hb => (rl.own_z hb).2.1 h⟩
        have : C g ∨ O0 g ∨ W1.heap.size ≤ g := by
          rcases (rl.cc g h).1 with (h1 | h1) | h1
          · exact (hC' g h1).1
          · exact .inr (hO' g h1).1
          · have := (rl.cc g h).2.1
            change W'.heap.size ≤ g at h1
            omega
        rcases this with h1 | h1
        · exact (r.cc g h1).1
        · exact X.zc g (hZ1 g h1)
      · exact ⟨(r.cc g h).1, by have := hCl g h; omega, fun hb => hnC g (hown g hb) h⟩
    · have hO4 : O4 g := h.elim (y2 g) (fun e => by subst e; exact y5)
      refine ⟨by rw [hsz2]; exact (v4 g hO4).1, hZ1 g (.inl (h.elim (fun h => .inr (.inl h)) (fun h => .inr (.inr (.inr h))))), fun hh => ?_⟩
      rcases hh.split with (hh | hh) | hh
      · exact (v4 g hO4).2.2 (.inl hh)
      · exact hnC g (.inl (h.elim (fun h => .inr (.inl h)) (fun h => .inr (.inr (.inr h))))) hh
      · exact (v4 g hO4).2.2 hh.of
end
end Go.Proofs.Ytldcoekbgfaomaa
end
section
namespace Go.Proofs.Ytldcoekbgfaomaa
open Go.RowKit
open Classical
/-- The post of a function whose result is a function value over its variables. -/
def RetC (t : Nat) (g : FuncId) (xs : List P1) : Exit → St → Prop
  | .normal, σ | .ret, σ => ∃ bs, σ.slots[t]? = some (.fn g bs) ∧ capCells σ bs = some xs
  | _, _ => False
theorem retc_r {σ : St} {t : Nat} {g : FuncId} {xs : List P1} (bs : List Nat) (h2 : σ.slots[t]? = some (.fn g bs)) (h3 : capCells σ bs = some xs) : RetC t g xs .ret σ := ⟨bs, h2, h3⟩
theorem capCells_df (σ : St) (m : List Mk) : ∀ bs, capCells { σ with df := m } bs = capCells σ bs
  | [] => rfl
  | b :: bs => by simp only [capCells,capCells_df σ m bs]
theorem acallsC_of {P : Program} {f : FuncId} {fn : Func} {c : Code} {ds : List PV} {t : Nat} {g : FuncId} {xs : List P1} (hf : P.funcs[f]? = some fn) (hbody : fn.body = some c) (hname : (fn.name == "runtime.NumGoroutine") = false)
    (hres : fn.results = #[.tmp t])
    (h : ∀ X : Cx, X.P = P → Wide X.F → X.F.round = none → X.Pl → AW X c (RetC t g xs) ⟨[], ds.map PV.d ++ List.replicate (fn.ntmps - ds.length) .any, [], []⟩) : ACalls P f ds (.p (.clo g xs)) := by
  refine ⟨⟨fn, hf, by rw [hbody]; rfl, hname⟩, fun F n C w vs hF hro hC hv => ?_⟩
  refine callsIn_of_wp_marks hf hbody (hF.fn f) ?_ hro
  have hw := h (.plain F n P w C) rfl hF hro (Cx.plain_pl _ _ _ _ _) _ _ ⟨_, _, start_rel (fn := fn) hC hv⟩
  refine wpIn_mono hw fun e a' w' he => ?_
  obtain ⟨σ', h1, γ, C', r'⟩ := he
  have fin : (∃ bs, σ'.slots[t]? = some (.fn g bs) ∧ capCells σ' bs = some xs) → LeavesInM F n P fn a'.tmps (fun e w' => ∃ v', e = .returned v' ∧ RD w' (fun g => C g ∨ (w.heap.size ≤ g ∧ g < w'.heap.size)) ⟨[], []⟩ (.p (.clo g xs)) v' ∧ w.grownBy w' none) a'.defers .returning w' := by
    rintro ⟨bs, hs, hV⟩
    obtain ⟨O, hO⟩ := r'.fr
    refine leaves_marks _ _ _ hO.2.1 fun w2 hg hsz => ?_
    rcases r'.left hO hg hsz with r2 | hn
    · have hrd := r2.sl t _ hs
      have hrv : RV w2 (fun g => C' g ∨ g ∈ γ.bl) (.p (.clo g xs)) (a'.tmps.getD t undef) := pvC?_ok r2 (by simp only [D.pvC?]; rw [capCells_df, hV]; rfl) hrd
      refine ⟨_, ?_, _, rfl, (hrv.keep (C' := fun g => C g ∨ (w.heap.size ≤ g ∧ g < w2.heap.size)) ⟨fun g hg => ?_, fun _ _ => rfl⟩).rd, r2.gr.plain⟩
      · rw [results_eq, hres]
        simp [oneRes]
      · rcases hg with hg | hg
        · obtain ⟨c1, c2, _⟩ := r2.cc g hg
          rcases c1 with c1 | c1
          · exact .inl c1
          · exact .inr ⟨c1, c2⟩
        · exact .inr ⟨r2.bge g hg, r2.bl_lt hg⟩
    · exact absurd (Cx.plain_pl _ _ _ _ _) hn
  cases e with
  | normal => exact fin h1
  | ret => exact fin h1
  | exit id => exact h1.elim
  | goto l => exact h1.elim
  | panic ch => exact h1.elim
  | outgrown => exact h1.elim
theorem acSS {P P' : Program} {f g : FuncId} {e : TypeId} {sz n : Nat} {xs xs' : List P1} (hP : P' = P) (h : ACallsS P f g e sz n xs xs') : ACallsS P' f g e sz n xs xs' := hP ▸ h
section
variable {X : Cx} {σ : St} {Q : Exit → St → Prop}
/-- nil by its letter. -/
theorem aw_nilv {c : Code} (t : Nat) (ht : σ.slots[t]? = some (.p (.v (.slice none 0 0)))) {σ' : St} (he : { σ with slots := σ.slots.set t .nil } = σ') (h : AW X c Q σ') : AW X c Q σ := by
  subst he
  intro a w hs
  refine h a w ?_
  obtain ⟨γ, C, r⟩ := hs
  have hv := rd_v (r.sl t _ ht)
  refine ⟨γ, C, r.reslot (ts := a.tmps) (by simpa using r.sz) fun i d hd => ?_⟩
  rw [List.getElem?_set] at hd
  split at hd
  · rename_i he
    subst he
    split at hd
    · injection hd with hd
      subst hd
      rw [hv]
      exact .nil
    · cases hd
  · exact r.sl i d hd
theorem aw_nilc {c : Code} (bx k : Nat) (y : Bx) (e : TypeId) (sz : Nat) (hy : σ.boxes[bx]? = some y) (hk : y.cells[k]? = some .nil) {σ' : St} (he : σ.nilCell bx k y e sz = σ') (h : AW X c Q σ') : AW X c Q σ := aw_wk (he ▸ wk_nilCell bx k y e sz hy hk) h
theorem aw_rangeE (hX : Wide X.F) (hro : X.F.round = none) (hpl : ∀ m O C w, X.J (.coll :: m) O C w) {g : Operand} {p : Nat} {assign body : Code} {f : FuncId} {xs : List P1} {ys : List PV} (df : List Mk) (sl : List D) (nb : Nat) (bx : Nat → List Bx) (vc : Nat → List (Option Vc))
    (bx1 : List Bx) (vc1 : List (Option Vc)) (h0 : Wk X σ ⟨df, sl, bx 0, vc 0⟩) (hdf : σ.df = df) (hg : St.ev ⟨df, sl, bx 0, vc 0⟩ g = .p (.clo f xs)) (hseq : SeqC X.P f xs ys) (hst : sl.all (D.steady nb) = true) (hnb : (bx 0).length = nb) (hpin : decide (pinN df ≤ nb) = true)
    (hbx : bx ys.length = bx1) (hvc : vc ys.length = vc1)
    (hround : ∀ (k : Nat) (y : PV), ys[k]? = some y → RoundOk X.P nb p assign body sl (bx k) (bx (k + 1)) (vc k) (vc (k + 1)) y)
    (hQ : Q .normal ⟨.coll :: df, sl, bx1, vc1⟩) : AW X (.rangeFunc g #[p] assign body) Q σ := by
  subst hdf
  subst hbx
  subst hvc
  exact aw_range hX hro hpl sl nb bx vc h0 hg hseq hst hnb hpin hround hQ
/-- A slice without elements, known by its letter, is one. -/
theorem aw_slv {c : Code} (t : Nat) {A : Option Addr} {k : Nat} (ht : σ.slots[t]? = some (.p (.v (.slice A 0 k)))) {σ' : St} (he : { σ with slots := σ.slots.set t (.p (.sl 0 [])) } = σ') (h : AW X c Q σ') : AW X c Q σ := by
  subst he
  intro a w hs
  refine h a w ?_
  obtain ⟨γ, C, r⟩ := hs
  have hv := rd_v (r.sl t _ ht)
  refine ⟨γ, C, r.reslot (ts := a.tmps) (by simpa using r.sz) fun i d hd => ?_⟩
  rw [List.getElem?_set] at hd
  split at hd
  · rename_i he
    subst he
    split at hd
    · injection hd with hd
      subst hd
      rw [hv]
      exact .p _ _ (.nil _ _)
    · cases hd
  · exact r.sl i d hd
theorem wk_frz {σ σ1 σ' : St} (j : Nat) {V : Vc} (hV : σ.vecs[j]? = some (some V)) (he : σ.freeze j V = σ1) (h : Wk X σ1 σ') : Wk X σ σ' := (he ▸ wk_freeze j V hV : Wk X σ σ1).trans h
theorem leL_eq {l l' : List D} (h : l = l') : leL l l' := h ▸ leL_self l
theorem ret_rm {b : Tb} {rs : Array ResultVar} {r : D} (h2 : resOf b σ rs.toList = some r) : Ret b rs r .ret σ := h2
end
end Go.Proofs.Ytldcoekbgfaomaa
end
section
namespace Go.Proofs.Ytldcoekbgfaomaa
open Go.RowKit
theorem tiIs {t : Nat} {i : TI} (hu : Try.prog.underlying t = some i.und) (h : (Try.prog.info? t).map (fun f => (f.zero, f.size, f.bytes)) = some (some i.zero, i.size, i.bytes))
    (hz : i.zero.cells.size = i.size) (ho : i.zero.cells.all (·.oneCell') = true) : TI.Is Try.prog t i := by
  refine ⟨hu, ?_, hz, ho⟩
  cases hi : Try.prog.info? t with
  | none => rw [hi] at h; cases h
  | some f =>
    rw [hi] at h
    simp only [Zg,Option.some.injEq,Prod.mk.injEq] at h
    exact ⟨f, rfl, h.1, h.2.1, h.2.2⟩
def ti1 : TI := ⟨TypeDesc.func #[] #[] false, 1, 8, Value.nilFunc⟩
def ti2 : TI := ⟨TypeDesc.int IntKind.i64, 1, 8, Value.int IntKind.i64 0⟩
def ti3 : TI := ⟨TypeDesc.int IntKind.i64, 1, 8, Value.int IntKind.i64 0⟩
def ti4 : TI := ⟨TypeDesc.bool, 1, 1, Value.bool false⟩
def ti5 : TI := ⟨TypeDesc.int IntKind.u8, 1, 1, Value.int IntKind.u8 0⟩
def ti22 : TI := ⟨TypeDesc.slice 50, 1, 24, Value.slice none 0 0⟩
def ti24 : TI := ⟨TypeDesc.slice 60, 1, 24, Value.slice none 0 0⟩
def ti26 : TI := ⟨TypeDesc.struct #[{ name := "Size", type := 3, offset := 0, embedded := false, tag := "", pkgPath := "", byteOffset := 0 }, { name := "Leaf", type := 3, offset := 1, embedded := false, tag := "", pkgPath := "", byteOffset := 8 }, { name := "Levels", type := 24, offset := 2, embedded := false, tag := "", pkgPath := "", byteOffset := 16 }], 3, 40, Value.agg #[Value.int IntKind.i64 0, Value.int IntKind.i64 0, Value.slice none 0 0]⟩
def ti27 : TI := ⟨TypeDesc.int IntKind.i64, 1, 8, Value.int IntKind.i64 0⟩
def ti35 : TI := ⟨TypeDesc.struct #[{ name := "Start", type := 3, offset := 0, embedded := false, tag := "", pkgPath := "", byteOffset := 0 }, { name := "Count", type := 3, offset := 1, embedded := false, tag := "", pkgPath := "", byteOffset := 8 }], 2, 16, Value.agg #[Value.int IntKind.i64 0, Value.int IntKind.i64 0]⟩
def ti40 : TI := ⟨TypeDesc.slice 35, 1, 24, Value.slice none 0 0⟩
def ti47 : TI := ⟨TypeDesc.struct #[{ name := "Volume", type := 3, offset := 0, embedded := false, tag := "", pkgPath := "", byteOffset := 0 }, { name := "Start", type := 3, offset := 1, embedded := false, tag := "", pkgPath := "", byteOffset := 8 }, { name := "Data", type := 22, offset := 2, embedded := false, tag := "", pkgPath := "", byteOffset := 16 }], 3, 40, Value.agg #[Value.int IntKind.i64 0, Value.int IntKind.i64 0, Value.slice none 0 0]⟩
def ti50 : TI := ⟨TypeDesc.array 8 5, 8, 8, Value.agg #[Value.int IntKind.u8 0, Value.int IntKind.u8 0, Value.int IntKind.u8 0, Value.int IntKind.u8 0, Value.int IntKind.u8 0, Value.int IntKind.u8 0, Value.int IntKind.u8 0, Value.int IntKind.u8 0]⟩
def ti54 : TI := ⟨TypeDesc.slice 4, 1, 24, Value.slice none 0 0⟩
def ti58 : TI := ⟨TypeDesc.int IntKind.u64, 1, 8, Value.int IntKind.u64 0⟩
def ti60 : TI := ⟨TypeDesc.slice 58, 1, 24, Value.slice none 0 0⟩
def ti63 : TI := ⟨TypeDesc.struct #[{ name := "Root", type := 58, offset := 0, embedded := false, tag := "", pkgPath := "", byteOffset := 0 }, { name := "Size", type := 3, offset := 1, embedded := false, tag := "", pkgPath := "", byteOffset := 8 }, { name := "Leaf", type := 3, offset := 2, embedded := false, tag := "", pkgPath := "", byteOffset := 16 }, { name := "Index", type := 3, offset := 3, embedded := false, tag := "", pkgPath := "", byteOffset := 24 }, { name := "Data", type := 22, offset := 4, embedded := false, tag := "", pkgPath := "", byteOffset := 32 }, { name := "Proof", type := 60, offset := 5, embedded := false, tag := "", pkgPath := "", byteOffset := 56 }], 6, 80, Value.agg #[Value.int IntKind.u64 0, Value.int IntKind.i64 0, Value.int IntKind.i64 0, Value.int IntKind.i64 0, Value.slice none 0 0, Value.slice none 0 0]⟩
def ti69 : TI := ⟨TypeDesc.func #[60, 60] #[4] false, 1, 8, Value.nilFunc⟩
def ti71 : TI := ⟨TypeDesc.array 2 5, 2, 2, Value.agg #[Value.int IntKind.u8 0, Value.int IntKind.u8 0]⟩
def ti75 : TI := ⟨TypeDesc.struct #[{ name := "Tree", type := 26, offset := 0, embedded := false, tag := "", pkgPath := "", byteOffset := 0 }, { name := "Pending", type := 40, offset := 3, embedded := false, tag := "", pkgPath := "", byteOffset := 40 }, { name := "Level", type := 3, offset := 4, embedded := false, tag := "", pkgPath := "", byteOffset := 64 }, { name := "Found", type := 40, offset := 5, embedded := false, tag := "", pkgPath := "", byteOffset := 72 }, { name := "Sent", type := 3, offset := 6, embedded := false, tag := "", pkgPath := "", byteOffset := 96 }, { name := "Done", type := 4, offset := 7, embedded := false, tag := "", pkgPath := "", byteOffset := 104 }], 8, 112, Value.agg #[Value.int IntKind.i64 0, Value.int IntKind.i64 0, Value.slice none 0 0, Value.slice none 0 0, Value.int IntKind.i64 0, Value.slice none 0 0, Value.int IntKind.i64 0, Value.bool false]⟩
def ti77 : TI := ⟨TypeDesc.slice 90, 1, 24, Value.slice none 0 0⟩
def ti87 : TI := ⟨TypeDesc.slice 3, 1, 24, Value.slice none 0 0⟩
def ti88 : TI := ⟨TypeDesc.slice 5, 1, 24, Value.slice none 0 0⟩
def ti90 : TI := ⟨TypeDesc.struct #[{ name := "Kind", type := 3, offset := 0, embedded := false, tag := "", pkgPath := "", byteOffset := 0 }, { name := "From", type := 3, offset := 1, embedded := false, tag := "", pkgPath := "", byteOffset := 8 }, { name := "To", type := 3, offset := 2, embedded := false, tag := "", pkgPath := "", byteOffset := 16 }, { name := "Number", type := 3, offset := 3, embedded := false, tag := "", pkgPath := "", byteOffset := 24 }, { name := "Value", type := 3, offset := 4, embedded := false, tag := "", pkgPath := "", byteOffset := 32 }, { name := "Epoch", type := 3, offset := 5, embedded := false, tag := "", pkgPath := "", byteOffset := 40 }, { name := "Values", type := 87, offset := 6, embedded := false, tag := "", pkgPath := "", byteOffset := 48 }, { name := "Body", type := 88, offset := 7, embedded := false, tag := "", pkgPath := "", byteOffset := 72 }], 8, 96, Value.agg #[Value.int IntKind.i64 0, Value.int IntKind.i64 0, Value.int IntKind.i64 0, Value.int IntKind.i64 0, Value.int IntKind.i64 0, Value.int IntKind.i64 0, Value.slice none 0 0, Value.slice none 0 0]⟩
def ti101 : TI := ⟨TypeDesc.array 3 3, 3, 24, Value.agg #[Value.int IntKind.i64 0, Value.int IntKind.i64 0, Value.int IntKind.i64 0]⟩
def ti115 : TI := ⟨TypeDesc.func #[58, 58] #[58] false, 1, 8, Value.nilFunc⟩
def ti117 : TI := ⟨TypeDesc.func #[161] #[] false, 1, 8, Value.nilFunc⟩
def ti118 : TI := ⟨TypeDesc.func #[161] #[] false, 1, 8, Value.nilFunc⟩
def ti125 : TI := ⟨TypeDesc.slice 26, 1, 24, Value.slice none 0 0⟩
def ti126 : TI := ⟨TypeDesc.array 16 87, 16, 384, Value.agg #[Value.slice none 0 0, Value.slice none 0 0, Value.slice none 0 0, Value.slice none 0 0, Value.slice none 0 0, Value.slice none 0 0, Value.slice none 0 0, Value.slice none 0 0, Value.slice none 0 0, Value.slice none 0 0, Value.slice none 0 0, Value.slice none 0 0, Value.slice none 0 0, Value.slice none 0 0, Value.slice none 0 0, Value.slice none 0 0]⟩
def ti133 : TI := ⟨TypeDesc.slice 22, 1, 24, Value.slice none 0 0⟩
def ti136 : TI := ⟨TypeDesc.pointer 139, 1, 8, Value.pointer none⟩
def ti139 : TI := ⟨TypeDesc.struct #[{ name := "Walk", type := 75, offset := 0, embedded := true, tag := "", pkgPath := "", byteOffset := 0 }], 8, 112, Value.agg #[Value.int IntKind.i64 0, Value.int IntKind.i64 0, Value.slice none 0 0, Value.slice none 0 0, Value.int IntKind.i64 0, Value.slice none 0 0, Value.int IntKind.i64 0, Value.bool false]⟩
def ti144 : TI := ⟨TypeDesc.func #[173] #[] false, 1, 8, Value.nilFunc⟩
def ti145 : TI := ⟨TypeDesc.func #[173] #[] false, 1, 8, Value.nilFunc⟩
def ti148 : TI := ⟨TypeDesc.func #[174] #[] false, 1, 8, Value.nilFunc⟩
def ti149 : TI := ⟨TypeDesc.func #[174] #[] false, 1, 8, Value.nilFunc⟩
def ti161 : TI := ⟨TypeDesc.func #[22] #[4] false, 1, 8, Value.nilFunc⟩
def ti163 : TI := ⟨TypeDesc.func #[5] #[4] false, 1, 8, Value.nilFunc⟩
def ti164 : TI := ⟨TypeDesc.func #[163] #[] false, 1, 8, Value.nilFunc⟩
def ti167 : TI := ⟨TypeDesc.func #[180] #[] false, 1, 8, Value.nilFunc⟩
def ti168 : TI := ⟨TypeDesc.func #[180] #[] false, 1, 8, Value.nilFunc⟩
def ti170 : TI := ⟨TypeDesc.func #[4, 4] #[4] false, 1, 8, Value.nilFunc⟩
def ti171 : TI := ⟨TypeDesc.array 16 5, 16, 16, Value.agg #[Value.int IntKind.u8 0, Value.int IntKind.u8 0, Value.int IntKind.u8 0, Value.int IntKind.u8 0, Value.int IntKind.u8 0, Value.int IntKind.u8 0, Value.int IntKind.u8 0, Value.int IntKind.u8 0, Value.int IntKind.u8 0, Value.int IntKind.u8 0, Value.int IntKind.u8 0, Value.int IntKind.u8 0, Value.int IntKind.u8 0, Value.int IntKind.u8 0, Value.int IntKind.u8 0, Value.int IntKind.u8 0]⟩
def ti173 : TI := ⟨TypeDesc.func #[87] #[4] false, 1, 8, Value.nilFunc⟩
def ti174 : TI := ⟨TypeDesc.func #[3] #[4] false, 1, 8, Value.nilFunc⟩
def ti177 : TI := ⟨TypeDesc.int IntKind.u64, 1, 8, Value.int IntKind.u64 0⟩
def ti178 : TI := ⟨TypeDesc.func #[163] #[] false, 1, 8, Value.nilFunc⟩
def ti180 : TI := ⟨TypeDesc.func #[35] #[4] false, 1, 8, Value.nilFunc⟩
def ti181 : TI := ⟨TypeDesc.slice 185, 1, 24, Value.slice none 0 0⟩
def ti183 : TI := ⟨TypeDesc.array 2 3, 2, 16, Value.agg #[Value.int IntKind.i64 0, Value.int IntKind.i64 0]⟩
def ti185 : TI := ⟨TypeDesc.struct #[{ name := "at", type := 3, offset := 0, embedded := false, tag := "", pkgPath := "standby/extent", byteOffset := 0 }, { name := "list", type := 3, offset := 1, embedded := false, tag := "", pkgPath := "standby/extent", byteOffset := 8 }, { name := "step", type := 3, offset := 2, embedded := false, tag := "", pkgPath := "standby/extent", byteOffset := 16 }], 3, 24, Value.agg #[Value.int IntKind.i64 0, Value.int IntKind.i64 0, Value.int IntKind.i64 0]⟩
def ti186 : TI := ⟨TypeDesc.slice 40, 1, 24, Value.slice none 0 0⟩
def ti190 : TI := ⟨TypeDesc.func #[185, 185] #[3] false, 1, 8, Value.nilFunc⟩
def ti194 : TI := ⟨TypeDesc.int IntKind.i64, 1, 8, Value.int IntKind.i64 0⟩
def ti201 : TI := ⟨TypeDesc.int IntKind.u32, 1, 4, Value.int IntKind.u32 0⟩
def ti203 : TI := ⟨TypeDesc.int IntKind.u64, 1, 8, Value.int IntKind.u64 0⟩
def ti207 : TI := ⟨TypeDesc.pointer 3, 1, 8, Value.pointer none⟩
def ti209 : TI := ⟨TypeDesc.pointer 203, 1, 8, Value.pointer none⟩
theorem is1 : TI.Is Try.prog 1 ti1 := tiIs Try.underlying1 (by kernel_rfl) (by kernel_rfl) (by kernel_rfl)
theorem is2 : TI.Is Try.prog 2 ti2 := tiIs Try.underlying2 (by kernel_rfl) (by kernel_rfl) (by kernel_rfl)
theorem is3 : TI.Is Try.prog 3 ti3 := tiIs Try.underlying3 (by kernel_rfl) (by kernel_rfl) (by kernel_rfl)
theorem is4 : TI.Is Try.prog 4 ti4 := tiIs Try.underlying4 (by kernel_rfl) (by kernel_rfl) (by kernel_rfl)
theorem is5 : TI.Is Try.prog 5 ti5 := tiIs Try.underlying5 (by kernel_rfl) (by kernel_rfl) (by kernel_rfl)
theorem is22 : TI.Is Try.prog 22 ti22 := tiIs Try.underlying22 (by kernel_rfl) (by kernel_rfl) (by kernel_rfl)
theorem is24 : TI.Is Try.prog 24 ti24 := tiIs Try.underlying24 (by kernel_rfl) (by kernel_rfl) (by kernel_rfl)
theorem is26 : TI.Is Try.prog 26 ti26 := tiIs Try.underlying26 (by kernel_rfl) (by kernel_rfl) (by kernel_rfl)
theorem is27 : TI.Is Try.prog 27 ti27 := tiIs Try.underlying27 (by kernel_rfl) (by kernel_rfl) (by kernel_rfl)
theorem is35 : TI.Is Try.prog 35 ti35 := tiIs Try.underlying35 (by kernel_rfl) (by kernel_rfl) (by kernel_rfl)
theorem is40 : TI.Is Try.prog 40 ti40 := tiIs Try.underlying40 (by kernel_rfl) (by kernel_rfl) (by kernel_rfl)
theorem is47 : TI.Is Try.prog 47 ti47 := tiIs Try.underlying47 (by kernel_rfl) (by kernel_rfl) (by kernel_rfl)
theorem is50 : TI.Is Try.prog 50 ti50 := tiIs Try.underlying50 (by kernel_rfl) (by kernel_rfl) (by kernel_rfl)
theorem is54 : TI.Is Try.prog 54 ti54 := tiIs Try.underlying54 (by kernel_rfl) (by kernel_rfl) (by kernel_rfl)
theorem is58 : TI.Is Try.prog 58 ti58 := tiIs Try.underlying58 (by kernel_rfl) (by kernel_rfl) (by kernel_rfl)
theorem is60 : TI.Is Try.prog 60 ti60 := tiIs Try.underlying60 (by kernel_rfl) (by kernel_rfl) (by kernel_rfl)
theorem is63 : TI.Is Try.prog 63 ti63 := tiIs Try.underlying63 (by kernel_rfl) (by kernel_rfl) (by kernel_rfl)
theorem is69 : TI.Is Try.prog 69 ti69 := tiIs Try.underlying69 (by kernel_rfl) (by kernel_rfl) (by kernel_rfl)
theorem is71 : TI.Is Try.prog 71 ti71 := tiIs Try.underlying71 (by kernel_rfl) (by kernel_rfl) (by kernel_rfl)
theorem is75 : TI.Is Try.prog 75 ti75 := tiIs Try.underlying75 (by kernel_rfl) (by kernel_rfl) (by kernel_rfl)
theorem is77 : TI.Is Try.prog 77 ti77 := tiIs Try.underlying77 (by kernel_rfl) (by kernel_rfl) (by kernel_rfl)
theorem is87 : TI.Is Try.prog 87 ti87 := tiIs Try.underlying87 (by kernel_rfl) (by kernel_rfl) (by kernel_rfl)
theorem is88 : TI.Is Try.prog 88 ti88 := tiIs Try.underlying88 (by kernel_rfl) (by kernel_rfl) (by kernel_rfl)
theorem is90 : TI.Is Try.prog 90 ti90 := tiIs Try.underlying90 (by kernel_rfl) (by kernel_rfl) (by kernel_rfl)
theorem is101 : TI.Is Try.prog 101 ti101 := tiIs Try.underlying101 (by kernel_rfl) (by kernel_rfl) (by kernel_rfl)
theorem is115 : TI.Is Try.prog 115 ti115 := tiIs Try.underlying115 (by kernel_rfl) (by kernel_rfl) (by kernel_rfl)
theorem is117 : TI.Is Try.prog 117 ti117 := tiIs Try.underlying117 (by kernel_rfl) (by kernel_rfl) (by kernel_rfl)
theorem is118 : TI.Is Try.prog 118 ti118 := tiIs Try.underlying118 (by kernel_rfl) (by kernel_rfl) (by kernel_rfl)
theorem is125 : TI.Is Try.prog 125 ti125 := tiIs Try.underlying125 (by kernel_rfl) (by kernel_rfl) (by kernel_rfl)
theorem is126 : TI.Is Try.prog 126 ti126 := tiIs Try.underlying126 (by kernel_rfl) (by kernel_rfl) (by kernel_rfl)
theorem is133 : TI.Is Try.prog 133 ti133 := tiIs Try.underlying133 (by kernel_rfl) (by kernel_rfl) (by kernel_rfl)
theorem is136 : TI.Is Try.prog 136 ti136 := tiIs Try.underlying136 (by kernel_rfl) (by kernel_rfl) (by kernel_rfl)
theorem is139 : TI.Is Try.prog 139 ti139 := tiIs Try.underlying139 (by kernel_rfl) (by kernel_rfl) (by kernel_rfl)
theorem is144 : TI.Is Try.prog 144 ti144 := tiIs Try.underlying144 (by kernel_rfl) (by kernel_rfl) (by kernel_rfl)
theorem is145 : TI.Is Try.prog 145 ti145 := tiIs Try.underlying145 (by kernel_rfl) (by kernel_rfl) (by kernel_rfl)
theorem is148 : TI.Is Try.prog 148 ti148 := tiIs Try.underlying148 (by kernel_rfl) (by kernel_rfl) (by kernel_rfl)
theorem is149 : TI.Is Try.prog 149 ti149 := tiIs Try.underlying149 (by kernel_rfl) (by kernel_rfl) (by kernel_rfl)
theorem is161 : TI.Is Try.prog 161 ti161 := tiIs Try.underlying161 (by kernel_rfl) (by kernel_rfl) (by kernel_rfl)
theorem is163 : TI.Is Try.prog 163 ti163 := tiIs Try.underlying163 (by kernel_rfl) (by kernel_rfl) (by kernel_rfl)
theorem is164 : TI.Is Try.prog 164 ti164 := tiIs Try.underlying164 (by kernel_rfl) (by kernel_rfl) (by kernel_rfl)
theorem is167 : TI.Is Try.prog 167 ti167 := tiIs Try.underlying167 (by kernel_rfl) (by kernel_rfl) (by kernel_rfl)
theorem is168 : TI.Is Try.prog 168 ti168 := tiIs Try.underlying168 (by kernel_rfl) (by kernel_rfl) (by kernel_rfl)
theorem is170 : TI.Is Try.prog 170 ti170 := tiIs Try.underlying170 (by kernel_rfl) (by kernel_rfl) (by kernel_rfl)
theorem is171 : TI.Is Try.prog 171 ti171 := tiIs Try.underlying171 (by kernel_rfl) (by kernel_rfl) (by kernel_rfl)
theorem is173 : TI.Is Try.prog 173 ti173 := tiIs Try.underlying173 (by kernel_rfl) (by kernel_rfl) (by kernel_rfl)
theorem is174 : TI.Is Try.prog 174 ti174 := tiIs Try.underlying174 (by kernel_rfl) (by kernel_rfl) (by kernel_rfl)
theorem is177 : TI.Is Try.prog 177 ti177 := tiIs Try.underlying177 (by kernel_rfl) (by kernel_rfl) (by kernel_rfl)
theorem is178 : TI.Is Try.prog 178 ti178 := tiIs Try.underlying178 (by kernel_rfl) (by kernel_rfl) (by kernel_rfl)
theorem is180 : TI.Is Try.prog 180 ti180 := tiIs Try.underlying180 (by kernel_rfl) (by kernel_rfl) (by kernel_rfl)
theorem is181 : TI.Is Try.prog 181 ti181 := tiIs Try.underlying181 (by kernel_rfl) (by kernel_rfl) (by kernel_rfl)
theorem is183 : TI.Is Try.prog 183 ti183 := tiIs Try.underlying183 (by kernel_rfl) (by kernel_rfl) (by kernel_rfl)
theorem is185 : TI.Is Try.prog 185 ti185 := tiIs Try.underlying185 (by kernel_rfl) (by kernel_rfl) (by kernel_rfl)
theorem is186 : TI.Is Try.prog 186 ti186 := tiIs Try.underlying186 (by kernel_rfl) (by kernel_rfl) (by kernel_rfl)
theorem is190 : TI.Is Try.prog 190 ti190 := tiIs Try.underlying190 (by kernel_rfl) (by kernel_rfl) (by kernel_rfl)
theorem is194 : TI.Is Try.prog 194 ti194 := tiIs Try.underlying194 (by kernel_rfl) (by kernel_rfl) (by kernel_rfl)
theorem is201 : TI.Is Try.prog 201 ti201 := tiIs Try.underlying201 (by kernel_rfl) (by kernel_rfl) (by kernel_rfl)
theorem is203 : TI.Is Try.prog 203 ti203 := tiIs Try.underlying203 (by kernel_rfl) (by kernel_rfl) (by kernel_rfl)
theorem is207 : TI.Is Try.prog 207 ti207 := tiIs Try.underlying207 (by kernel_rfl) (by kernel_rfl) (by kernel_rfl)
theorem is209 : TI.Is Try.prog 209 ti209 := tiIs Try.underlying209 (by kernel_rfl) (by kernel_rfl) (by kernel_rfl)
def tbl : List (Nat × TI) := [(1, ti1), (2, ti2), (3, ti3), (4, ti4), (5, ti5), (22, ti22), (24, ti24), (26, ti26), (27, ti27), (35, ti35), (40, ti40), (47, ti47), (50, ti50), (54, ti54), (58, ti58), (60, ti60), (63, ti63), (69, ti69), (71, ti71), (75, ti75), (77, ti77), (87, ti87), (88, ti88), (90, ti90), (101, ti101), (115, ti115), (117, ti117), (118, ti118), (125, ti125), (126, ti126), (133, ti133), (136, ti136), (139, ti139), (144, ti144), (145, ti145), (148, ti148), (149, ti149), (161, ti161), (163, ti163), (164, ti164), (167, ti167), (168, ti168), (170, ti170), (171, ti171), (173, ti173), (174, ti174), (177, ti177), (178, ti178), (180, ti180), (181, ti181), (183, ti183), (185, ti185), (186, ti186), (190, ti190), (194, ti194), (201, ti201), (203, ti203), (207, ti207), (209, ti209)]
def tbT (t : Nat) : Option TI := tbl.lookup t
theorem lookup_all {R : Nat → TI → Prop} : ∀ {l : List (Nat × TI)} {t : Nat} {i : TI}, (∀ p ∈ l, R p.1 p.2) → l.lookup t = some i → R t i
  | [], t, i, _, h => by simp at h
  | (k, x) :: l, t, i, h, hl => by
    simp only [List.lookup] at hl
    split at hl
    · rename_i hk
      have hk : t = k := by simpa using hk
      subst hk
      injection hl with hl
      subst hl
      exact h (t, x) (List.mem_cons_self ..)
    · exact lookup_all (fun p hp => h p (List.mem_cons_of_mem _ hp)) hl
theorem tb_tok : TOK Try.prog tbT := fun t i h => lookup_all (l := tbl) (R := fun t i => TI.Is Try.prog t i) (by
  unfold tbl
  refine List.forall_mem_cons.2 ⟨is1, ?_⟩
  refine List.forall_mem_cons.2 ⟨is2, ?_⟩
  refine List.forall_mem_cons.2 ⟨is3, ?_⟩
  refine List.forall_mem_cons.2 ⟨is4, ?_⟩
  refine List.forall_mem_cons.2 ⟨is5, ?_⟩
  refine List.forall_mem_cons.2 ⟨is22, ?_⟩
  refine List.forall_mem_cons.2 ⟨is24, ?_⟩
  refine List.forall_mem_cons.2 ⟨is26, ?_⟩
  refine List.forall_mem_cons.2 ⟨is27, ?_⟩
  refine List.forall_mem_cons.2 ⟨is35, ?_⟩
  refine List.forall_mem_cons.2 ⟨is40, ?_⟩
  refine List.forall_mem_cons.2 ⟨is47, ?_⟩
  refine List.forall_mem_cons.2 ⟨is50, ?_⟩
  refine List.forall_mem_cons.2 ⟨is54, ?_⟩
  refine List.forall_mem_cons.2 ⟨is58, ?_⟩
  refine List.forall_mem_cons.2 ⟨is60, ?_⟩
  refine List.forall_mem_cons.2 ⟨is63, ?_⟩
  refine List.forall_mem_cons.2 ⟨is69, ?_⟩
  refine List.forall_mem_cons.2 ⟨is71, ?_⟩
  refine List.forall_mem_cons.2 ⟨is75, ?_⟩
  refine List.forall_mem_cons.2 ⟨is77, ?_⟩
  refine List.forall_mem_cons.2 ⟨is87, ?_⟩
  refine List.forall_mem_cons.2 ⟨is88, ?_⟩
  refine List.forall_mem_cons.2 ⟨is90, ?_⟩
  refine List.forall_mem_cons.2 ⟨is101, ?_⟩
  refine List.forall_mem_cons.2 ⟨is115, ?_⟩
  refine List.forall_mem_cons.2 ⟨is117, ?_⟩
  refine List.forall_mem_cons.2 ⟨is118, ?_⟩
  refine List.forall_mem_cons.2 ⟨is125, ?_⟩
  refine List.forall_mem_cons.2 ⟨is126, ?_⟩
  refine List.forall_mem_cons.2 ⟨is133, ?_⟩
  refine List.forall_mem_cons.2 ⟨is136, ?_⟩
  refine List.forall_mem_cons.2 ⟨is139, ?_⟩
  refine List.forall_mem_cons.2 ⟨is144, ?_⟩
  refine List.forall_mem_cons.2 ⟨is145, ?_⟩
  refine List.forall_mem_cons.2 ⟨is148, ?_⟩
  refine List.forall_mem_cons.2 ⟨is149, ?_⟩
  refine List.forall_mem_cons.2 ⟨is161, ?_⟩
  refine List.forall_mem_cons.2 ⟨is163, ?_⟩
  refine List.forall_mem_cons.2 ⟨is164, ?_⟩
  refine List.forall_mem_cons.2 ⟨is167, ?_⟩
  refine List.forall_mem_cons.2 ⟨is168, ?_⟩
  refine List.forall_mem_cons.2 ⟨is170, ?_⟩
  refine List.forall_mem_cons.2 ⟨is171, ?_⟩
  refine List.forall_mem_cons.2 ⟨is173, ?_⟩
  refine List.forall_mem_cons.2 ⟨is174, ?_⟩
  refine List.forall_mem_cons.2 ⟨is177, ?_⟩
  refine List.forall_mem_cons.2 ⟨is178, ?_⟩
  refine List.forall_mem_cons.2 ⟨is180, ?_⟩
  refine List.forall_mem_cons.2 ⟨is181, ?_⟩
  refine List.forall_mem_cons.2 ⟨is183, ?_⟩
  refine List.forall_mem_cons.2 ⟨is185, ?_⟩
  refine List.forall_mem_cons.2 ⟨is186, ?_⟩
  refine List.forall_mem_cons.2 ⟨is190, ?_⟩
  refine List.forall_mem_cons.2 ⟨is194, ?_⟩
  refine List.forall_mem_cons.2 ⟨is201, ?_⟩
  refine List.forall_mem_cons.2 ⟨is203, ?_⟩
  refine List.forall_mem_cons.2 ⟨is207, ?_⟩
  refine List.forall_mem_cons.2 ⟨is209, ?_⟩
  exact fun p hp => (List.not_mem_nil hp).elim) h
theorem t1 : tbT 1 = some ti1 := by kernel_rfl
theorem t2 : tbT 2 = some ti2 := by kernel_rfl
theorem t3 : tbT 3 = some ti3 := by kernel_rfl
theorem t4 : tbT 4 = some ti4 := by kernel_rfl
theorem t5 : tbT 5 = some ti5 := by kernel_rfl
theorem t22 : tbT 22 = some ti22 := by kernel_rfl
theorem t24 : tbT 24 = some ti24 := by kernel_rfl
theorem t26 : tbT 26 = some ti26 := by kernel_rfl
theorem t27 : tbT 27 = some ti27 := by kernel_rfl
theorem t35 : tbT 35 = some ti35 := by kernel_rfl
theorem t40 : tbT 40 = some ti40 := by kernel_rfl
theorem t47 : tbT 47 = some ti47 := by kernel_rfl
theorem t50 : tbT 50 = some ti50 := by kernel_rfl
theorem t54 : tbT 54 = some ti54 := by kernel_rfl
theorem t58 : tbT 58 = some ti58 := by kernel_rfl
theorem t60 : tbT 60 = some ti60 := by kernel_rfl
theorem t63 : tbT 63 = some ti63 := by kernel_rfl
theorem t69 : tbT 69 = some ti69 := by kernel_rfl
theorem t71 : tbT 71 = some ti71 := by kernel_rfl
theorem t75 : tbT 75 = some ti75 := by kernel_rfl
theorem t77 : tbT 77 = some ti77 := by kernel_rfl
theorem t87 : tbT 87 = some ti87 := by kernel_rfl
theorem t88 : tbT 88 = some ti88 := by kernel_rfl
theorem t90 : tbT 90 = some ti90 := by kernel_rfl
theorem t101 : tbT 101 = some ti101 := by kernel_rfl
theorem t115 : tbT 115 = some ti115 := by kernel_rfl
theorem t117 : tbT 117 = some ti117 := by kernel_rfl
theorem t118 : tbT 118 = some ti118 := by kernel_rfl
theorem t125 : tbT 125 = some ti125 := by kernel_rfl
theorem t126 : tbT 126 = some ti126 := by kernel_rfl
theorem t133 : tbT 133 = some ti133 := by kernel_rfl
theorem t136 : tbT 136 = some ti136 := by kernel_rfl
theorem t139 : tbT 139 = some ti139 := by kernel_rfl
theorem t144 : tbT 144 = some ti144 := by kernel_rfl
theorem t145 : tbT 145 = some ti145 := by kernel_rfl
theorem t148 : tbT 148 = some ti148 := by kernel_rfl
theorem t149 : tbT 149 = some ti149 := by kernel_rfl
theorem t168 : tbT 168 = some ti168 := by kernel_rfl
theorem t170 : tbT 170 = some ti170 := by kernel_rfl
theorem t171 : tbT 171 = some ti171 := by kernel_rfl
theorem t177 : tbT 177 = some ti177 := by kernel_rfl
theorem t178 : tbT 178 = some ti178 := by kernel_rfl
theorem t181 : tbT 181 = some ti181 := by kernel_rfl
theorem t183 : tbT 183 = some ti183 := by kernel_rfl
theorem t185 : tbT 185 = some ti185 := by kernel_rfl
theorem t186 : tbT 186 = some ti186 := by kernel_rfl
theorem t190 : tbT 190 = some ti190 := by kernel_rfl
end Go.Proofs.Ytldcoekbgfaomaa
end
section
namespace Go.Proofs.Ytldcoekbgfaomaa
open Go.RowKit
section
variable {P : Program} (w : World)
theorem run_part_cell {e : TypeId} {i : TI} (he : TI.Is P e i) (ha : TypeDesc.aggB i.und = false) {xs : Array Value} {off : Nat} {v : Value} (hx : xs[off]? = some v) : (part e xs off).run P w = .ok v w := by
  simp only [part,Sem.run_bind,run_isAgg' w he,Result.andThen_ok,ha,Zf,Zq,hx,Sem.run_pure]
theorem eq_ints_array {t e : TypeId} {n : Nat} {k : IntKind} {i : TI} (d : Nat) (ht : P.underlying t = some (.array n e)) (he : TI.Is P e i) (ha : TypeDesc.aggB i.und = false) (hs : i.size = 1)
    (hE : ∀ a b, (Op.equalIn d e (.int k a) (.int k b)).run P w = .ok (a == b) w) :
    ∀ (xs ys : List Int), xs.length = n → ys.length = n →
    (Op.equalIn (d + 1) t (.agg (xs.map (Value.int k)).toArray) (.agg (ys.map (Value.int k)).toArray)).run P w = .ok (decide (xs = ys)) w := by
  intro xs ys hx hy
  simp only [Op.equalIn,Sem.run_bind,run_underlying ht,Result.andThen_ok,run_sizeOf' w he,hs]
  rw [Std.Legacy.Range.forIn_eq_forIn_range']
  simp only [Std.Legacy.Range.size,Nat.sub_zero,Nat.div_one,Nat.add_one_sub_one]
  have key : ∀ (m s : Nat), s + m = n → (∀ j, j < s → xs[j]? = ys[j]?) →
      ((forIn (List.range' s m) ((none, ()) : Option Bool × PUnit) (fun (i : Nat) __s => do
        let x ← part e (xs.map (Value.int k)).toArray (i * 1)
        let y ← part e (ys.map (Value.int k)).toArray (i * 1)
        let r ← Op.equalIn d e x y
        if (!r) = true then pure (ForInStep.done (some false, ()))
        else pure (ForInStep.yield (none, ()))) : Sem (Option Bool × PUnit))).run P w = .ok (if xs = ys then (none, ()) else (some false, ())) w := by
    intro m
    induction m with
    | zero =>
      intro s hs hlt
      have hxy : xs = ys := by
        apply List.ext_getElem?
        intro j
        by_cases hj : j < s
        · exact hlt j hj
        · rw [List.getElem?_eq_none (by omega), List.getElem?_eq_none (by omega)]
      simp [hxy]
    | succ m ih =>
      intro s hs hlt
      have h1 : s < xs.length := by omega
      have h2 : s < ys.length := by omega
      simp only [List.range'_succ,List.forIn_cons,Sem.run_bind]
      rw [run_part_cell w he ha (v := .int k xs[s]) (by simp [h1]), Result.andThen_ok, run_part_cell w he ha (v := .int k ys[s]) (by simp [h2]), Result.andThen_ok,
        hE, Result.andThen_ok]
      by_cases hc : xs[s] = ys[s]
      · simp only [hc,beq_self_eq_true,Bool.not_true,Zf,Zq,Sem.run_pure,Result.andThen_ok]
        refine ih (s + 1) (by omega) (fun j hj => ?_)
        by_cases hj' : j < s
        · exact hlt j hj'
        · have : j = s := by omega
          subst this
          rw [List.getElem?_eq_getElem h1, List.getElem?_eq_getElem h2, hc]
      · have hne : xs ≠ ys := by rintro rfl; exact hc rfl
        have hb : (xs[s] == ys[s]) = false := by simp [hc]
        simp [hb, hne]
  have hk := key n 0 (by omega) (fun j hj => by omega)
  rw [hk]
  by_cases h : xs = ys <;> simp [h]
theorem eq_ints_two {t : TypeId} {k : IntKind} {f g : Field} {i j : TI} (d : Nat) (ht : P.underlying t = some (.struct (P.fieldsOf t))) (hp : P.stoodInHeld t = false) (hf : P.fieldsOf t = #[f, g])
    (hfo : f.offset = 0) (hgo : g.offset = 1) (hi : TI.Is P f.type i) (hj : TI.Is P g.type j) (ha : TypeDesc.aggB i.und = false) (hb : TypeDesc.aggB j.und = false)
    (hE : ∀ a b, (Op.equalIn d f.type (.int k a) (.int k b)).run P w = .ok (a == b) w) (hE' : ∀ a b, (Op.equalIn d g.type (.int k a) (.int k b)).run P w = .ok (a == b) w)
    (hnf : f.name ≠ "_") (hng : g.name ≠ "_") (x x' y y' : Int) :
    (Op.equalIn (d + 1) t (.agg #[.int k x, .int k x']) (.agg #[.int k y, .int k y'])).run P w = .ok (decide (x = y ∧ x' = y')) w := by
  rw [run_equalIn_struct w d t _ _ ht hp, hf]
  simp only [Op.eqFields,hfo,hgo,Sem.run_bind,Sem.run_ite,hnf,hng,ne_eq,not_false_eq_true,Zr]
  rw [run_part_cell w hi ha (v := .int k x) (by rfl), Result.andThen_ok, run_part_cell w hi ha (v := .int k y) (by rfl), Result.andThen_ok, hE, Result.andThen_ok]
  by_cases hx : x = y
  · subst hx
    simp only [beq_self_eq_true,Bool.not_true,Zf,Zq]
    rw [run_part_cell w hj hb (v := .int k x') (by rfl), Result.andThen_ok, run_part_cell w hj hb (v := .int k y') (by rfl), Result.andThen_ok, hE', Result.andThen_ok]
    by_cases hy : x' = y'
    · subst hy; simp
    · simp [hy]
  · simp [hx]
end
theorem list_two {xs : List Int} (h : xs.length = 2) : ∃ a b, xs = [a, b] := by
  match xs, h with
  | [a, b], _ => exact ⟨a, b, rfl⟩
def tbE (t : Nat) : Option (IntKind × Nat) := if t = 35 then some (.i64, 2) else if t = 50 then some (.u8, 8) else none
theorem eok35 (op : BinOp) (x y : Operand) (xs ys : List Int) (W : World) (hx : xs.length = 2) (hy : ys.length = 2) (ho : op = .eql ∨ op = .neq) :
    (do eqGuard op 35 x y (.agg (xs.map (Value.int .i64)).toArray) (.agg (ys.map (Value.int .i64)).toArray); binOp op 35 (.agg (xs.map (Value.int .i64)).toArray) (.agg (ys.map (Value.int .i64)).toArray) : Sem Value).run Try.prog W =
      .ok (.bool (if op = .eql then decide (xs = ys) else !decide (xs = ys))) W := by
  obtain ⟨a, b, rfl⟩ := list_two hx
  obtain ⟨c, d, rfl⟩ := list_two hy
  rw [Sem.run_bind, run_eqGuard_agg W op 35 x y _ _ (by kernel_rfl), Result.andThen_ok]
  have hq : (Op.equalIn 10000 35 (.agg ([a, b].map (Value.int .i64)).toArray) (.agg ([c, d].map (Value.int .i64)).toArray)).run Try.prog W = .ok (decide (a = c ∧ b = d)) W :=
    eq_ints_two W 9999 (by kernel_rfl) (by kernel_rfl) (show Try.prog.fieldsOf 35 = #[{ name := "Start", type := 3, offset := 0, embedded := false, tag := "", pkgPath := "", byteOffset := 0 },
      { name := "Count", type := 3, offset := 1, embedded := false, tag := "", pkgPath := "", byteOffset := 8 }] by kernel_rfl) rfl rfl is3 is3 rfl rfl
      (fun a b => run_equalIn_int W 9998 3 .i64 .i64 a b Try.underlying3) (fun a b => run_equalIn_int W 9998 3 .i64 .i64 a b Try.underlying3) (by decide) (by decide) a b c d
  have e : decide (a = c ∧ b = d) = decide ([a, b] = [c, d]) := by simp
  rw [e] at hq
  rcases ho with rfl | rfl
  · rw [run_eql_struct, hq, Result.andThen_ok, if_pos rfl]
  · rw [run_neq_struct, hq, Result.andThen_ok, if_neg (by decide)]
theorem eok50 (op : BinOp) (x y : Operand) (xs ys : List Int) (W : World) (hx : xs.length = 8) (hy : ys.length = 8) (ho : op = .eql ∨ op = .neq) :
    (do eqGuard op 50 x y (.agg (xs.map (Value.int .u8)).toArray) (.agg (ys.map (Value.int .u8)).toArray); binOp op 50 (.agg (xs.map (Value.int .u8)).toArray) (.agg (ys.map (Value.int .u8)).toArray) : Sem Value).run Try.prog W =
      .ok (.bool (if op = .eql then decide (xs = ys) else !decide (xs = ys))) W := by
  rw [Sem.run_bind, run_eqGuard_agg W op 50 x y _ _ (by kernel_rfl), Result.andThen_ok]
  have hq := eq_ints_array W 9999 (t := 50) (e := 5) (n := 8) (k := .u8) (i := ti5) Try.underlying50 is5 rfl rfl (fun a b => run_equalIn_int W 9998 5 .u8 .u8 a b Try.underlying5) xs ys hx hy
  rcases ho with rfl | rfl
  · rw [run_eql_struct, hq, Result.andThen_ok, if_pos rfl]
  · rw [run_neq_struct, hq, Result.andThen_ok, if_neg (by decide)]
theorem tb_eok : EOK Try.prog tbE := by
  intro t k n h op x y xs ys W hx hy ho
  unfold tbE at h
  split at h
  · rename_i ht
    subst ht
    simp only [Option.some.injEq,Prod.mk.injEq] at h
    obtain ⟨rfl, rfl⟩ := h
    exact eok35 op x y xs ys W hx hy ho
  · split at h
    · rename_i ht
      subst ht
      simp only [Option.some.injEq,Prod.mk.injEq] at h
      obtain ⟨rfl, rfl⟩ := h
      exact eok50 op x y xs ys W hx hy ho
    · cases h
def tb : Tb := { T := tbT, E := tbE }
/-- The table with the slots whose slice literals stay the call's own. -/
def tbO (l : List Nat) : Tb := { T := tbT, E := tbE, O := fun d => d.any (l.contains ·) }
/-- The table with slice literals that are variables. -/
def tbN (l : List Nat) : Tb := { T := tbT, E := tbE, N := fun d => d.any (l.contains ·) }
theorem tbN_ok {P : Program} (l : List Nat) (h : tb.Ok P) : (tbN l).Ok P := ⟨h.t, h.e⟩
theorem tbN_T (l : List Nat) (t : Nat) : (tbN l).T t = tbT t := rfl
theorem tbN_W (l : List Nat) (t : Nat) : (tbN l).W t = false := rfl
theorem tbN_hit (t : Nat) : (tbN [t]).N (some t) = true := by simp [tbN]
theorem tb_N (d : Option Tmp) : tb.N d = false := rfl
theorem tbO_N (l : List Nat) (d : Option Tmp) : (tbO l).N d = false := rfl
/-- The table with a type whose structs are put together cell by cell. -/
def tbW (t : Nat) : Tb := { T := tbT, E := tbE, W := fun x => x == t }
theorem tbW_ok {P : Program} (t : Nat) (h : tb.Ok P) : (tbW t).Ok P := ⟨h.t, h.e⟩
theorem tbW_T (s t : Nat) : (tbW s).T t = tbT t := rfl
theorem tbW_hit (t : Nat) : (tbW t).W t = true := by simp [tbW]
theorem tbW_N (t : Nat) (d : Option Tmp) : (tbW t).N d = false := rfl
theorem tb_W (t : Nat) : tb.W t = false := rfl
theorem tbO_W (l : List Nat) (t : Nat) : (tbO l).W t = false := rfl
theorem tbO_ok {P : Program} (l : List Nat) (h : tb.Ok P) : (tbO l).Ok P := ⟨h.t, h.e⟩
theorem tbO_T (l : List Nat) (t : Nat) : (tbO l).T t = tbT t := rfl
theorem tbO_hit (t : Nat) : (tbO [t]).O (some t) = true := by simp [tbO]
theorem tbO_miss (t u : Nat) (h : u ≠ t) : (tbO [t]).O (some u) = false := by simp [tbO, h]
theorem tb_O (d : Option Tmp) : tb.O d = false := rfl
theorem tb_ok : tb.Ok Try.prog := ⟨tb_tok, tb_eok⟩
theorem tb_T (t : Nat) : tb.T t = tbT t := rfl
theorem acK {P P' : Program} {f : FuncId} {ds : List PV} {r : D} (hP : P' = P) (h : ACalls P f ds r) : ACalls P' f ds r := hP ▸ h
theorem acKO {P P' : Program} {f : FuncId} {ds : List PV} {V : Vc} (hP : P' = P) (h : ACallsO P f ds V) : ACallsO P' f ds V := hP ▸ h
theorem try_mixed {P : Program} (hP : P = Try.prog) : P.follows .mixedOrders = true := hP ▸ Try.checked.mixed
theorem e35 : tb.E 35 = some (.i64, 2) := rfl
end Go.Proofs.Ytldcoekbgfaomaa
end
section
namespace Go.Proofs.Ytldcoekbgfaomaa
open Go.RowKit
@[reducible] def u8 (n : Int) : P1 := .v (.int .u8 n)
@[reducible] def u64 (n : Int) : P1 := .v (.int .u64 n)
@[reducible] def i64 (n : Int) : P1 := .v (.int .i64 n)
@[reducible] def bv (b : Bool) : P1 := .v (.bool b)
@[reducible] def bytes (l : List Int) : P1 := .sl l.length (l.map u8)
@[reducible] def u64s (l : List Int) : P1 := .sl l.length (l.map u64)
def sec8 (s : List Int) : List P1 := (List.range 8).map fun k => u8 (s.getD k 0)
def secCells (l : List (List Int)) : List P1 := l.flatMap sec8
@[reducible] def secs (l : List (List Int)) : P1 := .sl l.length (secCells l)
def extCells (l : List (Int × Int)) : List P1 := l.flatMap fun e => [i64 e.1, i64 e.2]
@[reducible] def exts (l : List (Int × Int)) : P1 := .sl l.length (extCells l)
@[reducible] def lvls (l : List (List Int)) : P1 := .sl l.length (l.map u64s)
theorem flat_at {α : Type} (f : α → List P1) (n : Nat) (hf : ∀ a, (f a).length = n) (d : α) : ∀ (l : List α) (i k : Nat), i < l.length → k < n → (l.flatMap f)[i * n + k]? = (f (l.getD i d))[k]?
  | [], i, k, h, _ => by simp at h
  | a :: l, 0, k, _, hk => by
    simp only [List.flatMap_cons,Nat.zero_mul,ZC,List.getD_cons_zero]
    rw [List.getElem?_append_left (by rw [hf]; exact hk)]
  | a :: l, i + 1, k, h, hk => by
    simp only [List.flatMap_cons,List.getD_cons_succ]
    have e : (i + 1) * n = i * n + n := Nat.succ_mul ..
    rw [List.getElem?_append_right (by rw [hf]; omega), hf, show (i + 1) * n + k - n = i * n + k by omega]
    exact flat_at f n hf d l i k (by simpa using h) hk
theorem flat_length {α : Type} (f : α → List P1) (n : Nat) (hf : ∀ a, (f a).length = n) : ∀ (l : List α), (l.flatMap f).length = l.length * n
  | [] => by simp
  | a :: l => by
    simp only [List.flatMap_cons,List.length_append,hf,flat_length f n hf l,Zl,Nat.succ_mul]
    omega
theorem flat_part {α : Type} (f : α → List P1) (n : Nat) (hf : ∀ a, (f a).length = n) (d : α) (l : List α) (i : Nat) (h : i < l.length) : ((l.flatMap f).drop (i * n)).take n = f (l.getD i d) := by
  apply List.ext_getElem?
  intro k
  by_cases hk : k < n
  · rw [List.getElem?_take_of_lt hk, List.getElem?_drop, flat_at f n hf d l i k h hk]
  · rw [List.getElem?_eq_none (by simp; omega), List.getElem?_eq_none (by rw [hf]; omega)]
theorem flat_drop {α : Type} (f : α → List P1) (n : Nat) (hf : ∀ a, (f a).length = n) : ∀ (l : List α) (i : Nat), (l.flatMap f).drop (i * n) = (l.drop i).flatMap f
  | [], i => by simp
  | a :: l, 0 => by simp
  | a :: l, i + 1 => by
    simp only [List.flatMap_cons,Zk]
    rw [Nat.succ_mul, List.drop_append, hf, List.drop_eq_nil_of_le (by rw [hf]; omega), List.nil_append, Nat.add_sub_cancel]
    exact flat_drop f n hf l i
theorem flat_take {α : Type} (f : α → List P1) (n : Nat) (hf : ∀ a, (f a).length = n) : ∀ (l : List α) (i : Nat), (l.flatMap f).take (i * n) = (l.take i).flatMap f
  | [], i => by simp
  | a :: l, 0 => by simp
  | a :: l, i + 1 => by
    simp only [List.flatMap_cons,Zj]
    rw [List.take_append, hf, List.take_of_length_le (by rw [hf, Nat.succ_mul]; omega), show (i + 1) * n - n = i * n by rw [Nat.succ_mul]; omega, flat_take f n hf l i]
theorem sec8_length (s : List Int) : (sec8 s).length = 8 := by simp [sec8]
theorem sec8_at (s : List Int) (k : Nat) (h : k < 8) : (sec8 s)[k]? = some (u8 (s.getD k 0)) := by
  simp [sec8, h]
theorem secCells_length (l : List (List Int)) : (secCells l).length = l.length * 8 := flat_length sec8 8 sec8_length l
theorem secCells_part (l : List (List Int)) (i : Nat) (h : i < l.length) : ((secCells l).drop (i * 8)).take 8 = sec8 (l.getD i []) := flat_part sec8 8 sec8_length [] l i h
theorem secCells_at (l : List (List Int)) (i k : Nat) (h : i < l.length) (hk : k < 8) : (secCells l)[i * 8 + k]? = some (u8 ((l.getD i []).getD k 0)) := by
  rw [secCells, flat_at sec8 8 sec8_length [] l i k h hk, sec8_at _ _ hk]
theorem secCells_drop (l : List (List Int)) (i : Nat) : (secCells l).drop (i * 8) = secCells (l.drop i) := flat_drop sec8 8 sec8_length l i
theorem secCells_take (l : List (List Int)) (i : Nat) : (secCells l).take (i * 8) = secCells (l.take i) := flat_take sec8 8 sec8_length l i
theorem ext_len2 (e : Int × Int) : ([i64 e.1, i64 e.2] : List P1).length = 2 := rfl
theorem extCells_length (l : List (Int × Int)) : (extCells l).length = l.length * 2 := flat_length _ 2 ext_len2 l
theorem extCells_part (l : List (Int × Int)) (i : Nat) (h : i < l.length) : ((extCells l).drop (i * 2)).take 2 = [i64 (l.getD i (0, 0)).1, i64 (l.getD i (0, 0)).2] :=
  flat_part _ 2 ext_len2 (0, 0) l i h
theorem extCells_at0 (l : List (Int × Int)) (i : Nat) (h : i < l.length) : (extCells l)[i * 2]? = some (i64 (l.getD i (0, 0)).1) := flat_at _ 2 ext_len2 (0, 0) l i 0 h (by omega)
theorem extCells_at1 (l : List (Int × Int)) (i : Nat) (h : i < l.length) : (extCells l)[i * 2 + 1]? = some (i64 (l.getD i (0, 0)).2) := flat_at _ 2 ext_len2 (0, 0) l i 1 h (by omega)
theorem extCells_snoc (l : List (Int × Int)) (x y : Int) : extCells l ++ [i64 x, i64 y] = extCells (l ++ [(x, y)]) := by simp [extCells]
theorem map_at_i (f : Int → P1) (l : List Int) (i : Nat) (h : i < l.length) : (l.map f)[i]? = some (f (l.getD i 0)) := by
  simp [h]
theorem map_at_l (f : List Int → P1) (l : List (List Int)) (i : Nat) (h : i < l.length) : (l.map f)[i]? = some (f (l.getD i [])) := by
  simp [h]
theorem getD_take_succ (l : List Int) (i : Nat) (h : i < l.length) : l.take (i + 1) = l.take i ++ [l.getD i 0] := by
  rw [List.take_add_one]; simp [h]
theorem getD_take_succ_l (l : List (List Int)) (i : Nat) (h : i < l.length) : l.take (i + 1) = l.take i ++ [l.getD i []] := by
  rw [List.take_add_one]; simp [h]
theorem getD_take_succ_e (l : List (Int × Int)) (i : Nat) (h : i < l.length) : l.take (i + 1) = l.take i ++ [l.getD i (0, 0)] := by
  rw [List.take_add_one]; simp [h]
theorem range_1 : List.range 1 = [0] := rfl
theorem range_2 : List.range 2 = [0, 1] := rfl
theorem range_3 : List.range 3 = [0, 1, 2] := rfl
theorem range_4 : List.range 4 = [0, 1, 2, 3] := rfl
theorem range_5 : List.range 5 = [0, 1, 2, 3, 4] := rfl
def secBytes (s : List Int) : List Int := (List.range 8).map fun k => s.getD k 0
def bytesOf (l : List (List Int)) : List Int := l.flatMap secBytes
theorem secBytes_length (s : List Int) : (secBytes s).length = 8 := by simp [secBytes]
theorem bytesOf_take (l : List (List Int)) (i : Nat) (h : i < l.length) : bytesOf (l.take (i + 1)) = bytesOf (l.take i) ++ secBytes (l.getD i []) := by
  rw [getD_take_succ_l l i h]; simp [bytesOf]
theorem range_map_take {α : Type} (f : Nat → α) (n k : Nat) (h : k < n) : ((List.range n).map f).take (k + 1) = ((List.range n).map f).take k ++ [f k] := by
  rw [List.take_add_one]; simp [h]
theorem secBytes_take (s : List Int) (k : Nat) (h : k < 8) : (secBytes s).take (k + 1) = (secBytes s).take k ++ [s.getD k 0] := range_map_take _ 8 k h
theorem bytesOf_length : ∀ (l : List (List Int)), (bytesOf l).length = l.length * 8
  | [] => rfl
  | s :: l => by
    have h := bytesOf_length l
    simp only [bytesOf,List.flatMap_cons,List.length_append,Zl,secBytes_length] at h ⊢
    omega
theorem jn {b : Bool} {P : Prop} [Decidable P] (h : b = true ↔ P) : D.p (.v (.bool b)) = D.p (bv (decide P)) := by
  have : b = decide P := by
    cases b
    · symm; simpa using h
    · symm; simpa using h
  rw [this]
theorem jf {P : Prop} [Decidable P] (h : ¬ P) : D.p (.v (.bool false)) = D.p (bv (decide P)) := jn ⟨fun h => (by cases h), fun hp => (h hp).elim⟩
theorem jt {P : Prop} [Decidable P] (h : P) : D.p (.v (.bool true)) = D.p (bv (decide P)) := jn ⟨fun _ => h, fun _ => rfl⟩
theorem take_all_eq {α : Type} {a b : List α} {i : Nat} (hl : a.length = b.length) (h : a.take i = b.take i) (hi : a.length ≤ i) : a = b := by
  rwa [List.take_of_length_le hi, List.take_of_length_le (by omega)] at h
theorem toNat_pred (i : Nat) : ((i : Int) - 1).toNat = i - 1 := by omega
theorem toNat_succ (i : Nat) : ((i : Int) + 1).toNat = i + 1 := by omega
end Go.Proofs.Ytldcoekbgfaomaa
end
section
namespace Go.Proofs.Ytldcoekbgfaomaa
open Go.RowKit
set_option maxRecDepth 20000
set_option maxHeartbeats 4000000
attribute [local irreducible] AOps AOpsD AW
def hstep (h b : Int) : Int := IntKind.u64.wrap (ibits .xor .u64 h (IntKind.u64.wrap b) * 1099511628211)
def hfold (l : List Int) : Int := l.foldl hstep 14695981039346656037
def hend (h : Int) : Int := ibits .xor .u64 h (h.fdiv 4294967296)
def digest (l : List Int) : Int := hend (hfold l)
theorem hfold_take (l : List Int) (i : Nat) (h : i < l.length) : hstep (hfold (l.take i)) (l.getD i 0) = hfold (l.take (i + 1)) := by
  rw [getD_take_succ l i h, hfold, hfold, List.foldl_append]; rfl
def shb (a n : Int) : Int := IntKind.u8.wrap (a.fdiv (2 ^ min (8 * n).toNat IntKind.u64.bits))
def wordBytes (a : Int) : List Int := (List.range 8).map fun (k : Nat) => shb a k
def pairD (a b : Int) : Int := digest (wordBytes a ++ wordBytes b)
def secsD (l : List (List Int)) : Int := digest (bytesOf l)
theorem wordBytes_take (a : Int) (k : Nat) (h : k < 8) : (wordBytes a).take (k + 1) = (wordBytes a).take k ++ [shb a k] := range_map_take _ 8 k h
theorem c101 (l : List Int) : ACalls Try.prog 101 [.p (bytes l)] (.p (u64 (digest l))) := by
  refine acalls_of tb_ok Try.func101 (c := _) rfl (by kernel_rfl) ?_
  intro X hP hX hro hpl
  have hb : tb.Ok X.P := hP ▸ tb_ok
  change AW X _ _ ⟨[], [.p (bytes l), .any, .any, .any, .any, .any, .any, .any, .any, .any, .any, .any, .any, .any, .any, .any, .any, .any, .any, .any, .any, .any, .any], [], []⟩
  refine aw_len (t := 0) rfl fun hl => ?_
  unfold maxLen at hl
  refine aw_seq ?_
  refine aw_regK hX hb [0] rfl (σ' := ?s1) (fun K hK => ?h1) ?n1
  case h1 =>
    (refine st_op rfl (by simp (disch := omega) only [stepf,callOf,qop,fop,St.ev,St.put,cd,zd,Value.oneCell',tb_T,TypeDesc.aggB,getD_0,getD_s,Ze,Zd,Zc,Za,Zb,Zr,ZE,ZF,Zf,Zq,Zg,i64_w,Zt,Zs,map_at_i] <;> exact rfl) ?_)
    refine aops_nil ?_
    exact hK
  refine exq_n ?_
  refine aw_seq ?_
  refine aw_regK hX hb [0] rfl (σ' := ?s2) (fun K hK => ?h2) ?n2
  case h2 =>
    (refine st_op rfl (by simp (disch := omega) only [stepf,callOf,qop,fop,St.ev,St.put,cd,zd,Value.oneCell',tb_T,TypeDesc.aggB,getD_0,getD_s,Ze,Zd,Zc,Za,Zb,Zr,ZE,ZF,Zf,Zq,Zg,i64_w,Zt,Zs,map_at_i] <;> exact rfl) ?_)
    refine aops_nil ?_
    exact hK
  refine exq_n ?_
  refine aw_seq ?_
  refine aw_seq ?_
  refine aw_regK hX hb [0] rfl (σ' := ?s3) (fun K hK => ?h3) ?n3
  case h3 =>
    (refine st_op rfl (by simp (disch := omega) only [stepf,callOf,qop,fop,St.ev,St.put,cd,zd,Value.oneCell',tb_T,TypeDesc.aggB,getD_0,getD_s,Ze,Zd,Zc,Za,Zb,Zr,ZE,ZF,Zf,Zq,Zg,i64_w,Zt,Zs,map_at_i] <;> exact rfl) ?_)
    refine aops_nil ?_
    exact hK
  refine exq_n ?_
  refine aw_block ?_
  refine aw_loop (ι := Nat) (fun i => i ≤ l.length) (fun i => ⟨[], [.p (bytes l), .any, .any, .p (u64 (hfold (l.take i))), .p (i64 i), .any, .any, .any, .any, .any, .any, .any, .any, .any, .any, .any, .any, .any, .any, .any, .any, .any, .any], [], []⟩) (fun i => l.length - i) 0 (by exact Nat.zero_le _) (wk_le ⟨rfl, leL_r (by first | rfl | (rw [← hfold_take l i (by omega)]; rfl)) (leL_a (leL_a (leL_r (by first | rfl | (rw [← hfold_take l i (by omega)]; rfl)) (leL_r (by first | rfl | (rw [← hfold_take l i (by omega)]; rfl)) (leL_a (leL_a (leL_a (leL_a (leL_a (leL_a (leL_a (leL_a (leL_a (leL_a (leL_a (leL_a (leL_a (leL_a (leL_a (leL_a (leL_a (leL_a (leL_nil))))))))))))))))))))))), (leB_nil _), (leV_nil _), rfl, rfl⟩) ?_
  rintro i hJ
  refine aw_seq ?_
  refine aw_seq ?_
  refine aw_regK hX hb [0, 1, 2, 3] rfl (σ' := ?s4) (fun K hK => ?h4) ?n4
  case h4 =>
    iterate 4 (refine st_op rfl (by simp (disch := omega) only [stepf,callOf,qop,fop,St.ev,St.put,cd,zd,Value.oneCell',tb_T,TypeDesc.aggB,getD_0,getD_s,Ze,Zd,Zc,Za,Zb,Zr,ZE,ZF,Zf,Zq,Zg,i64_w,Zt,Zs,qLen,qBin,iop,t3,ti3,t4,ti4,t5,ti5,t88,ti88,map_at_i] <;> exact rfl) ?_)
    refine aops_nil ?_
    exact hK
  refine exq_n ?_
  refine aw_cond _ rfl (fun hc0 => ?_) (fun hc0 => ?_)
  · try simp only [Zp,Zi,ZK,ZJ,ne_eq,Zn,Zm,ZB,ZA,ZI,not_or,not_and,Zu] at hc0
    refine aw_skip ?_
    refine exq_n ?_
    refine aw_seq ?_
    refine aw_block ?_
    refine aw_regK hX hb [0, 1, 2, 3, 4, 5, 6, 7, 8] rfl (σ' := ?s5) (fun K hK => ?h5) ?n5
    case h5 =>
      iterate 9 (refine st_op rfl (by simp (disch := omega) only [stepf,callOf,qop,fop,St.ev,St.put,cd,zd,Value.oneCell',tb_T,TypeDesc.aggB,getD_0,getD_s,Ze,Zd,Zc,Za,Zb,Zr,ZE,ZF,Zf,Zq,Zg,i64_w,Zt,Zs,Int.toNat_zero,Int.toNat_one,toNat_pred,toNat_succ,qIndexAddr,ZO,Nat.mul_one,ZC,Nat.zero_mul,Zh,Zl,Zo,Zv,Zw,Zj,Zk,Zx,Zy,qLoad,bload,pload,pureAll,D.pure?,ZD,qConv,qBin,iop,t3,ti3,t4,ti4,t5,ti5,t58,ti58,t88,ti88,map_at_i] <;> exact rfl) ?_)
      refine aops_nil ?_
      exact hK
    refine exb_n ?_
    refine exq_n ?_
    refine aw_regK hX hb [0, 1, 2] rfl (σ' := ?s6) (fun K hK => ?h6) ?n6
    case h6 =>
      iterate 3 (refine st_op rfl (by simp (disch := omega) only [stepf,callOf,qop,fop,St.ev,St.put,cd,zd,Value.oneCell',tb_T,TypeDesc.aggB,getD_0,getD_s,Ze,Zd,Zc,Za,Zb,Zr,ZE,ZF,Zf,Zq,Zg,i64_w,Zt,Zs,qBin,iop,t1,ti1,t3,ti3,t4,ti4,map_at_i] <;> exact rfl) ?_)
      refine aops_nil ?_
      exact hK
    refine exq_n ?_
    exact ⟨i + 1, by (try dsimp only); omega, by (try dsimp only); omega, wk_le ⟨rfl, leL_r (by first | rfl | (rw [← hfold_take l i (by omega)]; rfl)) (leL_a (leL_a (leL_r (by first | rfl | (rw [← hfold_take l i (by omega)]; rfl)) (leL_r (by first | rfl | (rw [← hfold_take l i (by omega)]; rfl)) (leL_a (leL_a (leL_a (leL_a (leL_a (leL_a (leL_a (leL_a (leL_a (leL_a (leL_a (leL_a (leL_a (leL_a (leL_a (leL_a (leL_a (leL_a (leL_nil))))))))))))))))))))))), (leB_nil _), (leV_nil _), rfl, rfl⟩⟩
  · try simp only [Zp,Zi,ZK,ZJ,ne_eq,Zn,Zm,ZB,ZA,ZI,not_or,not_and,Zu] at hc0
    refine aw_exit ?_
    refine exq_e ?_
    refine exq_e ?_
    refine exb_h ?_
    refine exq_n ?_
    refine aw_seq ?_
    refine aw_regK hX hb [0, 1, 2, 3, 4] rfl (σ' := ?s7) (fun K hK => ?h7) ?n7
    case h7 =>
      iterate 5 (refine st_op rfl (by simp (disch := omega) only [stepf,callOf,qop,fop,St.ev,St.put,cd,zd,Value.oneCell',tb_T,TypeDesc.aggB,getD_0,getD_s,Ze,Zd,Zc,Za,Zb,Zr,ZE,ZF,Zf,Zq,Zg,i64_w,Zt,Zs,qBin,iop,t3,ti3,t5,ti5,t22,ti22,t50,ti50,t58,ti58,t177,ti177,map_at_i] <;> exact rfl) ?_)
      refine aops_nil ?_
      exact hK
    refine exq_n ?_
    refine aw_ret ?_
    exact ret_r rfl (resOf_one rfl (by first | rfl | ((have : i = l.length := by omega); subst this; rw [List.take_length]; rfl)))
theorem c102 (l : List (List Int)) (hl : l.length ≤ 4294967296) : ACalls Try.prog 102 [.p (secs l)] (.p (bytes (bytesOf l))) := by
  refine acalls_of tb_ok Try.func102 (c := _) rfl (by kernel_rfl) ?_
  intro X hP hX hro hpl
  have hb : tb.Ok X.P := hP ▸ tb_ok
  change AW X _ _ ⟨[], [.p (secs l), .any, .any, .any, .any, .any, .any, .any, .any, .any, .any, .any, .any, .any, .any, .any, .any, .any, .any, .any, .any, .any, .any, .any, .any, .any], [], []⟩
  refine aw_seq ?_
  refine aw_regK hX hb [0] rfl (σ' := ?s1) (fun K hK => ?h1) ?n1
  case h1 =>
    (refine st_op rfl (by simp (disch := omega) only [stepf,callOf,qop,fop,St.ev,St.put,cd,zd,Value.oneCell',tb_T,TypeDesc.aggB,getD_0,getD_s,Ze,Zd,Zc,Za,Zb,Zr,ZE,ZF,Zf,Zq,Zg,i64_w,Zt,Zs,secCells_at,secCells_length] <;> exact rfl) ?_)
    refine aops_nil ?_
    exact hK
  refine exq_n ?_
  refine aw_seq ?_
  refine aw_regK hX hb [0] rfl (σ' := ?s2) (fun K hK => ?h2) ?n2
  case h2 =>
    (refine st_op rfl (by simp (disch := omega) only [stepf,callOf,qop,fop,St.ev,St.put,cd,zd,Value.oneCell',tb_T,TypeDesc.aggB,getD_0,getD_s,Ze,Zd,Zc,Za,Zb,Zr,ZE,ZF,Zf,Zq,Zg,i64_w,Zt,Zs,secCells_at,secCells_length] <;> exact rfl) ?_)
    refine aops_nil ?_
    exact hK
  refine exq_n ?_
  refine aw_nil 3 5 1 rfl (σ' := ?s3) ?h3 ?n3
  case h3 => simp only [St.nilSlot,St.addVec,Za,Zb,Zl,Zo,ZL,ZM]; exact rfl
  refine aw_seq ?_
  refine aw_seq ?_
  refine aw_regK hX hb [0] rfl (σ' := ?s4) (fun K hK => ?h4) ?n4
  case h4 =>
    (refine st_op rfl (by simp (disch := omega) only [stepf,callOf,qop,fop,St.ev,St.put,cd,zd,Value.oneCell',tb_T,TypeDesc.aggB,getD_0,getD_s,Ze,Zd,Zc,Za,Zb,Zr,ZE,ZF,Zf,Zq,Zg,i64_w,Zt,Zs,secCells_at,secCells_length] <;> exact rfl) ?_)
    refine aops_nil ?_
    exact hK
  refine exq_n ?_
  refine aw_block ?_
  refine aw_loop (ι := Nat × List Int) (fun p => p.1 ≤ l.length ∧ p.2 = bytesOf (l.take p.1)) (fun p => ⟨[], [.p (secs l), .any, .any, .vref 0, .p (i64 p.1), .any, .any, .any, .any, .any, .any, .any, .any, .any, .any, .any, .any, .any, .any, .any, .any, .any, .any, .any, .any, .any], [], [some ⟨5, 1, p.2.length, p.2.map u8⟩]⟩) (fun p => l.length - p.1) (0, []) (by exact ⟨Nat.zero_le _, rfl⟩) (wk_le ⟨rfl, leL_r (by first | rfl | (simp [shb])) (leL_a (leL_a (leL_r (by first | rfl | (simp [shb])) (leL_r (by first | rfl | (simp [shb])) (leL_a (leL_a (leL_a (leL_a (leL_a (leL_a (leL_a (leL_a (leL_a (leL_a (leL_a (leL_a (leL_a (leL_a (leL_a (leL_a (leL_a (leL_a (leL_a (leL_a (leL_a (leL_nil)))))))))))))))))))))))))), (leB_nil _), (leV_r (by first | rfl | (simp [shb])) (leV_nil _)), rfl, rfl⟩) ?_
  rintro ⟨i, bs⟩ ⟨hi, hbs⟩
  dsimp only at hi hbs ⊢
  refine aw_seq ?_
  refine aw_seq ?_
  refine aw_regK hX hb [0, 1, 2, 3] rfl (σ' := ?s5) (fun K hK => ?h5) ?n5
  case h5 =>
    iterate 4 (refine st_op rfl (by simp (disch := omega) only [stepf,callOf,qop,fop,St.ev,St.put,cd,zd,Value.oneCell',tb_T,TypeDesc.aggB,getD_0,getD_s,Ze,Zd,Zc,Za,Zb,Zr,ZE,ZF,Zf,Zq,Zg,i64_w,Zt,Zs,qLen,qBin,iop,t3,ti3,t4,ti4,t5,ti5,t22,ti22,t50,ti50,secCells_at,secCells_length] <;> exact rfl) ?_)
    refine aops_nil ?_
    exact hK
  refine exq_n ?_
  refine aw_cond _ rfl (fun hc0 => ?_) (fun hc0 => ?_)
  · try simp only [Zp,Zi,ZK,ZJ,ne_eq,Zn,Zm,ZB,ZA,ZI,not_or,not_and,Zu] at hc0
    refine aw_skip ?_
    refine exq_n ?_
    refine aw_seq ?_
    refine aw_block ?_
    refine aw_seq ?_
    refine aw_regK hX hb [0] rfl (σ' := ?s6) (fun K hK => ?h6) ?n6
    case h6 =>
      (refine st_op rfl (by simp (disch := omega) only [stepf,callOf,qop,fop,St.ev,St.put,cd,zd,Value.oneCell',tb_T,TypeDesc.aggB,getD_0,getD_s,Ze,Zd,Zc,Za,Zb,Zr,ZE,ZF,Zf,Zq,Zg,i64_w,Zt,Zs,secCells_at,secCells_length] <;> exact rfl) ?_)
      refine aops_nil ?_
      exact hK
    refine exq_n ?_
    refine aw_block ?_
    refine aw_loop (ι := Nat × List Int) (fun p => p.1 ≤ 8 ∧ p.2 = bytesOf (l.take i) ++ (secBytes (l.getD i [])).take p.1) (fun p => ⟨[], [.p (secs l), .any, .any, .vref 0, .p (i64 i), .p (i64 p.1), .any, .any, .any, .any, .any, .any, .any, .any, .any, .any, .any, .any, .any, .any, .any, .any, .any, .any, .any, .any], [], [some ⟨5, 1, p.2.length, p.2.map u8⟩]⟩) (fun p => 8 - p.1) (0, bs) (by exact ⟨by omega, by simp [hbs]⟩) (wk_le ⟨rfl, leL_r (by first | rfl | (simp [shb])) (leL_a (leL_a (leL_r (by first | rfl | (simp [shb])) (leL_r (by first | rfl | (simp [shb])) (leL_r (by first | rfl | (simp [shb])) (leL_a (leL_a (leL_a (leL_a (leL_a (leL_a (leL_a (leL_a (leL_a (leL_a (leL_a (leL_a (leL_a (leL_a (leL_a (leL_a (leL_a (leL_a (leL_a (leL_a (leL_nil)))))))))))))))))))))))))), (leB_nil _), (leV_r (by first | rfl | (simp [shb])) (leV_nil _)), rfl, rfl⟩) ?_
    rintro ⟨k, cs⟩ ⟨hk, hcs⟩
    dsimp only at hk hcs ⊢
    have hcl : cs.length = 8 * i + k := by rw [hcs, List.length_append, List.length_take, secBytes_length, bytesOf_length, List.length_take]; omega
    refine aw_seq ?_
    refine aw_seq ?_
    refine aw_regK hX hb [0, 1] rfl (σ' := ?s7) (fun K hK => ?h7) ?n7
    case h7 =>
      iterate 2 (refine st_op rfl (by simp (disch := omega) only [stepf,callOf,qop,fop,St.ev,St.put,cd,zd,Value.oneCell',tb_T,TypeDesc.aggB,getD_0,getD_s,Ze,Zd,Zc,Za,Zb,Zr,ZE,ZF,Zf,Zq,Zg,i64_w,Zt,Zs,qBin,iop,t3,ti3,t5,ti5,secCells_at,secCells_length] <;> exact rfl) ?_)
      refine aops_nil ?_
      exact hK
    refine exq_n ?_
    refine aw_cond _ rfl (fun hc1 => ?_) (fun hc1 => ?_)
    · try simp only [Zp,Zi,ZK,ZJ,ne_eq,Zn,Zm,ZB,ZA,ZI,not_or,not_and,Zu] at hc1
      refine aw_skip ?_
      refine exq_n ?_
      refine aw_seq ?_
      refine aw_block ?_
      refine aw_regK hX hb [0, 1, 2, 3, 4, 5, 6, 7, 8, 9] rfl (σ' := ?s8) (fun K hK => ?h8) ?n8
      case h8 =>
        iterate 10 (refine st_op rfl (by simp (disch := omega) only [stepf,callOf,qop,fop,St.ev,St.put,cd,zd,Value.oneCell',tb_T,TypeDesc.aggB,getD_0,getD_s,Ze,Zd,Zc,Za,Zb,Zr,ZE,ZF,Zf,Zq,Zg,i64_w,Zt,Zs,Int.toNat_zero,Int.toNat_one,toNat_pred,toNat_succ,qIndexAddr,ZO,Nat.mul_one,ZC,Nat.zero_mul,Zh,Zl,Zo,Zv,Zw,Zj,Zk,Zx,Zy,qLoad,bload,pload,pureAll,D.pure?,ZD,tb_N,tbO_N,tbW_N,tb_O,fBuildSlice,catCells,D.cells?,range_1,range_2,range_3,range_4,range_5,ZG,ZH,ZL,ZM,ZN,sec8_length,Nat.reduceAdd,Nat.reduceMul,fAppend,appV,St.demote,D.demote,St.setVec,List.length_append,reduceIte,t1,ti1,t3,ti3,t4,ti4,t5,ti5,t22,ti22,t24,ti24,t50,ti50,t58,ti58,t60,ti60,t88,ti88,secCells_at,secCells_length] <;> exact rfl) ?_)
        refine aops_nil ?_
        exact hK
      refine exb_n ?_
      refine exq_n ?_
      refine aw_regK hX hb [0, 1, 2] rfl (σ' := ?s9) (fun K hK => ?h9) ?n9
      case h9 =>
        iterate 3 (refine st_op rfl (by simp (disch := omega) only [stepf,callOf,qop,fop,St.ev,St.put,cd,zd,Value.oneCell',tb_T,TypeDesc.aggB,getD_0,getD_s,Ze,Zd,Zc,Za,Zb,Zr,ZE,ZF,Zf,Zq,Zg,i64_w,Zt,Zs,qBin,iop,t1,ti1,t3,ti3,t5,ti5,secCells_at,secCells_length] <;> exact rfl) ?_)
        refine aops_nil ?_
        exact hK
      refine exq_n ?_
      exact ⟨(k + 1, cs ++ [(l.getD i []).getD k 0]), by exact ⟨by dsimp only; omega, by dsimp only; rw [secBytes_take _ k (by omega), hcs, List.append_assoc]⟩, by (try dsimp only); omega, wk_le ⟨rfl, leL_r (by first | rfl | (simp [shb])) (leL_a (leL_a (leL_r (by first | rfl | (simp [shb])) (leL_r (by first | rfl | (simp [shb])) (leL_r (by first | rfl | (simp [shb])) (leL_a (leL_a (leL_a (leL_a (leL_a (leL_a (leL_a (leL_a (leL_a (leL_a (leL_a (leL_a (leL_a (leL_a (leL_a (leL_a (leL_a (leL_a (leL_a (leL_a (leL_nil)))))))))))))))))))))))))), (leB_nil _), (leV_r (by first | rfl | (simp [shb])) (leV_nil _)), rfl, rfl⟩⟩
    · try simp only [Zp,Zi,ZK,ZJ,ne_eq,Zn,Zm,ZB,ZA,ZI,not_or,not_and,Zu] at hc1
      refine aw_exit ?_
      refine exq_e ?_
      refine exq_e ?_
      refine exb_h ?_
      refine exb_n ?_
      refine exq_n ?_
      refine aw_regK hX hb [0, 1, 2] rfl (σ' := ?s10) (fun K hK => ?h10) ?n10
      case h10 =>
        iterate 3 (refine st_op rfl (by simp (disch := omega) only [stepf,callOf,qop,fop,St.ev,St.put,cd,zd,Value.oneCell',tb_T,TypeDesc.aggB,getD_0,getD_s,Ze,Zd,Zc,Za,Zb,Zr,ZE,ZF,Zf,Zq,Zg,i64_w,Zt,Zs,qBin,iop,t1,ti1,t3,ti3,t4,ti4,secCells_at,secCells_length] <;> exact rfl) ?_)
        refine aops_nil ?_
        exact hK
      refine exq_n ?_
      exact ⟨(i + 1, cs), by exact ⟨by dsimp only; omega, by dsimp only; rw [bytesOf_take l i (by omega), hcs]; congr 1; rw [show k = (secBytes (l.getD i [])).length by rw [secBytes_length]; omega, List.take_length]⟩, by (try dsimp only); omega, wk_le ⟨rfl, leL_r (by first | rfl | (simp [shb])) (leL_a (leL_a (leL_r (by first | rfl | (simp [shb])) (leL_r (by first | rfl | (simp [shb])) (leL_a (leL_a (leL_a (leL_a (leL_a (leL_a (leL_a (leL_a (leL_a (leL_a (leL_a (leL_a (leL_a (leL_a (leL_a (leL_a (leL_a (leL_a (leL_a (leL_a (leL_a (leL_nil)))))))))))))))))))))))))), (leB_nil _), (leV_r (by first | rfl | (simp [shb])) (leV_nil _)), rfl, rfl⟩⟩
  · try simp only [Zp,Zi,ZK,ZJ,ne_eq,Zn,Zm,ZB,ZA,ZI,not_or,not_and,Zu] at hc0
    refine aw_exit ?_
    refine exq_e ?_
    refine exq_e ?_
    refine exb_h ?_
    refine exq_n ?_
    refine aw_seq ?_
    refine aw_regK hX hb [0, 1] rfl (σ' := ?s11) (fun K hK => ?h11) ?n11
    case h11 =>
      iterate 2 (refine st_op rfl (by simp (disch := omega) only [stepf,callOf,qop,fop,St.ev,St.put,cd,zd,Value.oneCell',tb_T,TypeDesc.aggB,getD_0,getD_s,Ze,Zd,Zc,Za,Zb,Zr,ZE,ZF,Zf,Zq,Zg,i64_w,Zt,Zs,t3,ti3,secCells_at,secCells_length] <;> exact rfl) ?_)
      refine aops_nil ?_
      exact hK
    refine exq_n ?_
    refine aw_frz 0 rfl (σ' := ?s12) ?h12 ?n12
    case h12 => simp only [St.freeze,D.freeze,ZG,ZH,Za,Zb,Zr,reduceIte,Nat.reduceEqDiff]; exact rfl
    refine aw_ret ?_
    exact ret_r rfl (resOf_one rfl (by first | rfl | ((have : i = l.length := by omega); subst this; rw [hbs, List.take_length]; rfl)))
theorem c62 (l : List (List Int)) (hl : l.length ≤ 4294967296) : ACalls Try.prog 62 [.p (secs l)] (.p (u64 (secsD l))) := by
  refine acalls_of tb_ok Try.func62 (c := _) rfl (by kernel_rfl) ?_
  intro X hP hX hro hpl
  have hb : tb.Ok X.P := hP ▸ tb_ok
  change AW X _ _ ⟨[], [.p (secs l), .any, .any, .any, .any, .any], [], []⟩
  refine aw_seq ?_
  refine aw_regK hX hb [0] rfl (σ' := ?s1) (fun K hK => ?h1) ?n1
  case h1 =>
    (refine st_op rfl (by simp (disch := omega) only [stepf,callOf,qop,fop,St.ev,St.put,cd,zd,Value.oneCell',tb_T,TypeDesc.aggB,getD_0,getD_s,Ze,Zd,Zc,Za,Zb,Zr,ZE,ZF,Zf,Zq,Zg,i64_w,Zt,Zs] <;> exact rfl) ?_)
    refine aops_nil ?_
    exact hK
  refine exq_n ?_
  refine aw_seq ?_
  refine aw_regK hX hb [0, 1, 2, 3] rfl (σ' := ?s2) (fun K hK => ?h2) ?n2
  case h2 =>
    (refine st_op rfl (by simp (disch := omega) only [stepf,callOf,qop,fop,St.ev,St.put,cd,zd,Value.oneCell',tb_T,TypeDesc.aggB,getD_0,getD_s,Ze,Zd,Zc,Za,Zb,Zr,ZE,ZF,Zf,Zq,Zg,i64_w,Zt,Zs,pvAll,D.pv?,t3,ti3,t4,ti4,t5,ti5,t22,ti22,t50,ti50,t88,ti88,t101,ti101] <;> exact rfl) ?_)
    refine st_call rfl (by simp only [callOf,St.ev,getD_0,getD_s,pvAll,D.pv?,ZG,ZH,zd,cd,Value.oneCell',Zr] <;> exact rfl) (acK hP (c102 l hl)) (by simp only [St.put,Za,Zb] <;> exact rfl) ?_
    refine st_call rfl (by simp only [callOf,St.ev,getD_0,getD_s,pvAll,D.pv?,ZG,ZH,zd,cd,Value.oneCell',Zr] <;> exact rfl) (acK hP (c101 _)) (by simp only [St.put,Za,Zb] <;> exact rfl) ?_
    (refine st_op rfl (by simp (disch := omega) only [stepf,callOf,qop,fop,St.ev,St.put,cd,zd,Value.oneCell',tb_T,TypeDesc.aggB,getD_0,getD_s,Ze,Zd,Zc,Za,Zb,Zr,ZE,ZF,Zf,Zq,Zg,i64_w,Zt,Zs,pvAll,D.pv?,t3,ti3,t4,ti4,t5,ti5,t22,ti22,t50,ti50,t88,ti88,t101,ti101] <;> exact rfl) ?_)
    refine aops_nil ?_
    exact hK
  refine exq_n ?_
  refine aw_ret ?_
  exact ret_r rfl (resOf_one rfl rfl)
theorem c63 (a b : Int) : ACalls Try.prog 63 [.p (u64 a), .p (u64 b)] (.p (u64 (pairD a b))) := by
  refine acalls_of tb_ok Try.func63 (c := _) rfl (by kernel_rfl) ?_
  intro X hP hX hro hpl
  have hb : tb.Ok X.P := hP ▸ tb_ok
  change AW X _ _ ⟨[], [.p (u64 a), .p (u64 b), .any, .any, .any, .any, .any, .any, .any, .any, .any, .any, .any, .any, .any, .any, .any, .any, .any, .any, .any, .any, .any, .any, .any, .any, .any, .any, .any, .any, .any, .any, .any, .any], [], []⟩
  refine aw_seq ?_
  refine aw_regK hX hb [0] rfl (σ' := ?s1) (fun K hK => ?h1) ?n1
  case h1 =>
    (refine st_op rfl (by simp (disch := omega) only [stepf,callOf,qop,fop,St.ev,St.put,cd,zd,Value.oneCell',tb_T,TypeDesc.aggB,getD_0,getD_s,Ze,Zd,Zc,Za,Zb,Zr,ZE,ZF,Zf,Zq,Zg,i64_w,Zt,Zs] <;> exact rfl) ?_)
    refine aops_nil ?_
    exact hK
  refine exq_n ?_
  refine aw_seq ?_
  refine aw_regK hX hb [0] rfl (σ' := ?s2) (fun K hK => ?h2) ?n2
  case h2 =>
    (refine st_op rfl (by simp (disch := omega) only [stepf,callOf,qop,fop,St.ev,St.put,cd,zd,Value.oneCell',tb_T,TypeDesc.aggB,getD_0,getD_s,Ze,Zd,Zc,Za,Zb,Zr,ZE,ZF,Zf,Zq,Zg,i64_w,Zt,Zs] <;> exact rfl) ?_)
    refine aops_nil ?_
    exact hK
  refine exq_n ?_
  refine aw_nil 5 5 1 rfl (σ' := ?s3) ?h3 ?n3
  case h3 => simp only [St.nilSlot,St.addVec,Za,Zb,Zl,Zo,ZL,ZM]; exact rfl
  refine aw_seq ?_
  refine aw_seq ?_
  refine aw_regK hX hb [0] rfl (σ' := ?s4) (fun K hK => ?h4) ?n4
  case h4 =>
    (refine st_op rfl (by simp (disch := omega) only [stepf,callOf,qop,fop,St.ev,St.put,cd,zd,Value.oneCell',tb_T,TypeDesc.aggB,getD_0,getD_s,Ze,Zd,Zc,Za,Zb,Zr,ZE,ZF,Zf,Zq,Zg,i64_w,Zt,Zs] <;> exact rfl) ?_)
    refine aops_nil ?_
    exact hK
  refine exq_n ?_
  refine aw_block ?_
  refine aw_loop (ι := Nat × List Int) (fun p => p.1 ≤ 8 ∧ p.2 = (wordBytes a).take p.1) (fun p => ⟨[], [.p (u64 a), .p (u64 b), .any, .any, .any, .vref 0, .p (i64 p.1), .any, .any, .any, .any, .any, .any, .any, .any, .any, .any, .any, .any, .any, .any, .any, .any, .any, .any, .any, .any, .any, .any, .any, .any, .any, .any, .any], [], [some ⟨5, 1, p.2.length, p.2.map u8⟩]⟩) (fun p => 8 - p.1) (0, []) (by exact ⟨Nat.zero_le _, rfl⟩) (wk_le ⟨rfl, leL_r (by first | rfl | (simp [shb])) (leL_r (by first | rfl | (simp [shb])) (leL_a (leL_a (leL_a (leL_r (by first | rfl | (simp [shb])) (leL_r (by first | rfl | (simp [shb])) (leL_a (leL_a (leL_a (leL_a (leL_a (leL_a (leL_a (leL_a (leL_a (leL_a (leL_a (leL_a (leL_a (leL_a (leL_a (leL_a (leL_a (leL_a (leL_a (leL_a (leL_a (leL_a (leL_a (leL_a (leL_a (leL_a (leL_a (leL_nil)))))))))))))))))))))))))))))))))), (leB_nil _), (leV_r (by first | rfl | (simp [shb])) (leV_nil _)), rfl, rfl⟩) ?_
  rintro ⟨k, cs⟩ ⟨hk, hcs⟩
  dsimp only at hk hcs ⊢
  have hcl : cs.length = k := by rw [hcs]; simp [wordBytes]; omega
  refine aw_seq ?_
  refine aw_seq ?_
  refine aw_regK hX hb [0, 1] rfl (σ' := ?s5) (fun K hK => ?h5) ?n5
  case h5 =>
    iterate 2 (refine st_op rfl (by simp (disch := omega) only [stepf,callOf,qop,fop,St.ev,St.put,cd,zd,Value.oneCell',tb_T,TypeDesc.aggB,getD_0,getD_s,Ze,Zd,Zc,Za,Zb,Zr,ZE,ZF,Zf,Zq,Zg,i64_w,Zt,Zs,qBin,iop,t3,ti3] <;> exact rfl) ?_)
    refine aops_nil ?_
    exact hK
  refine exq_n ?_
  refine aw_cond _ rfl (fun hc0 => ?_) (fun hc0 => ?_)
  · try simp only [Zp,Zi,ZK,ZJ,ne_eq,Zn,Zm,ZB,ZA,ZI,not_or,not_and,Zu] at hc0
    refine aw_skip ?_
    refine exq_n ?_
    refine aw_seq ?_
    refine aw_block ?_
    refine aw_regK hX hb [0, 1, 2, 3, 4, 5, 6, 7, 8] rfl (σ' := ?s6) (fun K hK => ?h6) ?n6
    case h6 =>
      iterate 9 (refine st_op rfl (by simp (disch := omega) only [stepf,callOf,qop,fop,St.ev,St.put,cd,zd,Value.oneCell',tb_T,TypeDesc.aggB,getD_0,getD_s,Ze,Zd,Zc,Za,Zb,Zr,ZE,ZF,Zf,Zq,Zg,i64_w,Zt,Zs,qBin,iop,qConv,tb_N,tbO_N,tbW_N,tb_O,fBuildSlice,catCells,D.cells?,D.pure?,range_1,range_2,range_3,range_4,range_5,ZG,ZH,ZL,ZM,ZN,Zl,Zo,sec8_length,Nat.reduceAdd,Nat.reduceMul,fAppend,appV,St.demote,D.demote,St.setVec,Zh,List.length_append,ZC,Nat.mul_one,reduceIte,t1,ti1,t3,ti3,t5,ti5,t58,ti58,t88,ti88] <;> exact rfl) ?_)
      refine aops_nil ?_
      exact hK
    refine exb_n ?_
    refine exq_n ?_
    refine aw_regK hX hb [0, 1, 2] rfl (σ' := ?s7) (fun K hK => ?h7) ?n7
    case h7 =>
      iterate 3 (refine st_op rfl (by simp (disch := omega) only [stepf,callOf,qop,fop,St.ev,St.put,cd,zd,Value.oneCell',tb_T,TypeDesc.aggB,getD_0,getD_s,Ze,Zd,Zc,Za,Zb,Zr,ZE,ZF,Zf,Zq,Zg,i64_w,Zt,Zs,qBin,iop,t1,ti1,t3,ti3] <;> exact rfl) ?_)
      refine aops_nil ?_
      exact hK
    refine exq_n ?_
    exact ⟨(k + 1, cs ++ [shb a k]), by exact ⟨by dsimp only; omega, by dsimp only; rw [wordBytes_take _ k (by omega), hcs]⟩, by (try dsimp only); omega, wk_le ⟨rfl, leL_r (by first | rfl | (simp [shb])) (leL_r (by first | rfl | (simp [shb])) (leL_a (leL_a (leL_a (leL_r (by first | rfl | (simp [shb])) (leL_r (by first | rfl | (simp [shb])) (leL_a (leL_a (leL_a (leL_a (leL_a (leL_a (leL_a (leL_a (leL_a (leL_a (leL_a (leL_a (leL_a (leL_a (leL_a (leL_a (leL_a (leL_a (leL_a (leL_a (leL_a (leL_a (leL_a (leL_a (leL_a (leL_a (leL_a (leL_nil)))))))))))))))))))))))))))))))))), (leB_nil _), (leV_r (by first | rfl | (simp [shb])) (leV_nil _)), rfl, rfl⟩⟩
  · try simp only [Zp,Zi,ZK,ZJ,ne_eq,Zn,Zm,ZB,ZA,ZI,not_or,not_and,Zu] at hc0
    refine aw_exit ?_
    refine exq_e ?_
    refine exq_e ?_
    refine exb_h ?_
    refine exq_n ?_
    refine aw_seq ?_
    refine aw_seq ?_
    refine aw_regK hX hb [0] rfl (σ' := ?s8) (fun K hK => ?h8) ?n8
    case h8 =>
      (refine st_op rfl (by simp (disch := omega) only [stepf,callOf,qop,fop,St.ev,St.put,cd,zd,Value.oneCell',tb_T,TypeDesc.aggB,getD_0,getD_s,Ze,Zd,Zc,Za,Zb,Zr,ZE,ZF,Zf,Zq,Zg,i64_w,Zt,Zs] <;> exact rfl) ?_)
      refine aops_nil ?_
      exact hK
    refine exq_n ?_
    refine aw_block ?_
    refine aw_loop (ι := Nat × List Int) (fun p => p.1 ≤ 8 ∧ p.2 = wordBytes a ++ (wordBytes b).take p.1) (fun p => ⟨[], [.p (u64 a), .p (u64 b), .any, .any, .any, .vref 0, .any, .p (i64 p.1), .any, .any, .any, .any, .any, .any, .any, .any, .any, .any, .any, .any, .any, .any, .any, .any, .any, .any, .any, .any, .any, .any, .any, .any, .any, .any], [], [some ⟨5, 1, p.2.length, p.2.map u8⟩]⟩) (fun p => 8 - p.1) (0, cs) (by exact ⟨Nat.zero_le _, by (have : k = 8 := by omega); subst this; rw [hcs, List.take_of_length_le (by simp [wordBytes])]; simp⟩) (wk_le ⟨rfl, leL_r (by first | rfl | (simp [shb])) (leL_r (by first | rfl | (simp [shb])) (leL_a (leL_a (leL_a (leL_r (by first | rfl | (simp [shb])) (leL_a (leL_r (by first | rfl | (simp [shb])) (leL_a (leL_a (leL_a (leL_a (leL_a (leL_a (leL_a (leL_a (leL_a (leL_a (leL_a (leL_a (leL_a (leL_a (leL_a (leL_a (leL_a (leL_a (leL_a (leL_a (leL_a (leL_a (leL_a (leL_a (leL_a (leL_a (leL_nil)))))))))))))))))))))))))))))))))), (leB_nil _), (leV_r (by first | rfl | (simp [shb])) (leV_nil _)), rfl, rfl⟩) ?_
    rintro ⟨m, ds⟩ ⟨hm, hds⟩
    dsimp only at hm hds ⊢
    have hdl : ds.length = 8 + m := by rw [hds]; simp [wordBytes]; omega
    refine aw_seq ?_
    refine aw_seq ?_
    refine aw_regK hX hb [0, 1] rfl (σ' := ?s9) (fun K hK => ?h9) ?n9
    case h9 =>
      iterate 2 (refine st_op rfl (by simp (disch := omega) only [stepf,callOf,qop,fop,St.ev,St.put,cd,zd,Value.oneCell',tb_T,TypeDesc.aggB,getD_0,getD_s,Ze,Zd,Zc,Za,Zb,Zr,ZE,ZF,Zf,Zq,Zg,i64_w,Zt,Zs,qBin,iop,t3,ti3] <;> exact rfl) ?_)
      refine aops_nil ?_
      exact hK
    refine exq_n ?_
    refine aw_cond _ rfl (fun hc1 => ?_) (fun hc1 => ?_)
    · try simp only [Zp,Zi,ZK,ZJ,ne_eq,Zn,Zm,ZB,ZA,ZI,not_or,not_and,Zu] at hc1
      refine aw_skip ?_
      refine exq_n ?_
      refine aw_seq ?_
      refine aw_block ?_
      refine aw_regK hX hb [0, 1, 2, 3, 4, 5, 6, 7, 8] rfl (σ' := ?s10) (fun K hK => ?h10) ?n10
      case h10 =>
        iterate 9 (refine st_op rfl (by simp (disch := omega) only [stepf,callOf,qop,fop,St.ev,St.put,cd,zd,Value.oneCell',tb_T,TypeDesc.aggB,getD_0,getD_s,Ze,Zd,Zc,Za,Zb,Zr,ZE,ZF,Zf,Zq,Zg,i64_w,Zt,Zs,qBin,iop,qConv,tb_N,tbO_N,tbW_N,tb_O,fBuildSlice,catCells,D.cells?,D.pure?,range_1,range_2,range_3,range_4,range_5,ZG,ZH,ZL,ZM,ZN,Zl,Zo,sec8_length,Nat.reduceAdd,Nat.reduceMul,fAppend,appV,St.demote,D.demote,St.setVec,Zh,List.length_append,ZC,Nat.mul_one,reduceIte,t1,ti1,t3,ti3,t5,ti5,t24,ti24,t26,ti26,t27,ti27,t58,ti58,t60,ti60,t88,ti88] <;> exact rfl) ?_)
        refine aops_nil ?_
        exact hK
      refine exb_n ?_
      refine exq_n ?_
      refine aw_regK hX hb [0, 1, 2] rfl (σ' := ?s11) (fun K hK => ?h11) ?n11
      case h11 =>
        iterate 3 (refine st_op rfl (by simp (disch := omega) only [stepf,callOf,qop,fop,St.ev,St.put,cd,zd,Value.oneCell',tb_T,TypeDesc.aggB,getD_0,getD_s,Ze,Zd,Zc,Za,Zb,Zr,ZE,ZF,Zf,Zq,Zg,i64_w,Zt,Zs,qBin,iop,t1,ti1,t3,ti3,t5,ti5,t22,ti22,t50,ti50] <;> exact rfl) ?_)
        refine aops_nil ?_
        exact hK
      refine exq_n ?_
      exact ⟨(m + 1, ds ++ [shb b m]), by exact ⟨by dsimp only; omega, by dsimp only; rw [wordBytes_take _ m (by omega), hds, List.append_assoc]⟩, by (try dsimp only); omega, wk_le ⟨rfl, leL_r (by first | rfl | (simp [shb])) (leL_r (by first | rfl | (simp [shb])) (leL_a (leL_a (leL_a (leL_r (by first | rfl | (simp [shb])) (leL_a (leL_r (by first | rfl | (simp [shb])) (leL_a (leL_a (leL_a (leL_a (leL_a (leL_a (leL_a (leL_a (leL_a (leL_a (leL_a (leL_a (leL_a (leL_a (leL_a (leL_a (leL_a (leL_a (leL_a (leL_a (leL_a (leL_a (leL_a (leL_a (leL_a (leL_a (leL_nil)))))))))))))))))))))))))))))))))), (leB_nil _), (leV_r (by first | rfl | (simp [shb])) (leV_nil _)), rfl, rfl⟩⟩
    · try simp only [Zp,Zi,ZK,ZJ,ne_eq,Zn,Zm,ZB,ZA,ZI,not_or,not_and,Zu] at hc1
      refine aw_exit ?_
      refine exq_e ?_
      refine exq_e ?_
      refine exb_h ?_
      refine exq_n ?_
      refine aw_seq ?_
      refine aw_frz 0 rfl (σ' := ?s13) ?h13 ?n13
      case h13 => simp only [St.freeze,D.freeze,ZG,ZH,Za,Zb,Zr,reduceIte,Nat.reduceEqDiff]; exact rfl
      refine aw_regK hX hb [0, 1, 2] rfl (σ' := ?s12) (fun K hK => ?h12) ?n12
      case h12 =>
        (refine st_op rfl (by simp (disch := omega) only [stepf,callOf,qop,fop,St.ev,St.put,cd,zd,Value.oneCell',tb_T,TypeDesc.aggB,getD_0,getD_s,Ze,Zd,Zc,Za,Zb,Zr,ZE,ZF,Zf,Zq,Zg,i64_w,Zt,Zs,pvAll,D.pv?,t3,ti3,t5,ti5,t88,ti88,t101,ti101] <;> exact rfl) ?_)
        refine st_call rfl (by simp only [callOf,St.ev,getD_0,getD_s,pvAll,D.pv?,ZG,ZH,zd,cd,Value.oneCell',Zr] <;> exact rfl) (acK hP (c101 _)) (by simp only [St.put,Za,Zb] <;> exact rfl) ?_
        (refine st_op rfl (by simp (disch := omega) only [stepf,callOf,qop,fop,St.ev,St.put,cd,zd,Value.oneCell',tb_T,TypeDesc.aggB,getD_0,getD_s,Ze,Zd,Zc,Za,Zb,Zr,ZE,ZF,Zf,Zq,Zg,i64_w,Zt,Zs,pvAll,D.pv?,t3,ti3,t5,ti5,t88,ti88,t101,ti101] <;> exact rfl) ?_)
        refine aops_nil ?_
        exact hK
      refine exq_n ?_
      refine aw_ret ?_
      exact ret_r rfl (resOf_one rfl (by first | rfl | ((have : m = 8 := by omega); subst this; rw [hds, List.take_of_length_le (by simp [wordBytes])]; rfl)))
end Go.Proofs.Ytldcoekbgfaomaa
end
section
namespace Go.Proofs.Ytldcoekbgfaomaa
def upL : List Int → List Int
  | [] => []
  | [a] => [a]
  | a :: b :: r => pairD a b :: upL r
theorem upL_length : ∀ (l : List Int), (upL l).length = (l.length + 1) / 2
  | [] => rfl
  | [a] => by simp [upL]
  | a :: b :: r => by
    simp only [upL,Zl,upL_length r]
    omega
theorem upL_append : ∀ (xs ys : List Int), xs.length % 2 = 0 → upL (xs ++ ys) = upL xs ++ upL ys
  | [], ys, _ => rfl
  | [a], ys, h => by simp at h
  | a :: b :: r, ys, h => by
    simp only [ZL,upL]
    rw [upL_append r ys (by simp only [Zl] at h; omega)]
theorem upL_take2 (l : List Int) (i : Nat) (h2 : i % 2 = 0) (h : i + 1 < l.length) : upL (l.take (i + 2)) = upL (l.take i) ++ [pairD (l.getD i 0) (l.getD (i + 1) 0)] := by
  rw [show i + 2 = i + 1 + 1 by omega, getD_take_succ l (i + 1) h, getD_take_succ l i (by omega), List.append_assoc, upL_append _ _ (by rw [List.length_take]; omega)]
  rfl
theorem upL_take1 (l : List Int) (i : Nat) (h2 : i % 2 = 0) (h : i < l.length) (h3 : ¬ i + 1 < l.length) : upL (l.take (i + 2)) = upL (l.take i) ++ [l.getD i 0] := by
  rw [show l.take (i + 2) = l.take (i + 1) by rw [List.take_of_length_le (by omega), List.take_of_length_le (by omega)], getD_take_succ l i h, upL_append _ _ (by rw [List.length_take]; omega)]
  rfl
def levelsOf (l : List Int) : List (List Int) := if h : l.length ≤ 1 then [l] else l :: levelsOf (upL l)
  termination_by l.length
  decreasing_by rw [upL_length]; omega
theorem levelsOf_one {l : List Int} (h : l.length ≤ 1) : levelsOf l = [l] := by rw [levelsOf, dif_pos h]
theorem levelsOf_more {l : List Int} (h : ¬ l.length ≤ 1) : levelsOf l = l :: levelsOf (upL l) := by rw [levelsOf, dif_neg h]
theorem levelsOf_head (l : List Int) : ∃ r, levelsOf l = l :: r := by
  by_cases h : l.length ≤ 1
  · exact ⟨[], levelsOf_one h⟩
  · exact ⟨_, levelsOf_more h⟩
theorem levelsOf_length_le : ∀ (n : Nat) (l : List Int), l.length ≤ n → (levelsOf l).length ≤ n + 1
  | n, l, hn => by
    by_cases h : l.length ≤ 1
    · rw [levelsOf_one h]; simp
    · rw [levelsOf_more h]
      have hu := upL_length l
      cases n with
      | zero => omega
      | succ n =>
        have := levelsOf_length_le n (upL l) (by omega)
        simp only [Zl]
        omega
theorem levelsOf_drop1 {l : List Int} (h : ¬ l.length ≤ 1) : (levelsOf l).drop 1 = upL l :: (levelsOf (upL l)).drop 1 := by
  rw [levelsOf_more h]
  obtain ⟨r, hr⟩ := levelsOf_head (upL l)
  simp [hr]
structure Tr where
  size : Int
  leaf : Int
  lv : List (List Int)
@[reducible] def trC (t : Tr) : List P1 := [i64 t.size, i64 t.leaf, lvls t.lv]
@[reducible] def trP (t : Tr) : PV := .agg [i64 t.size, i64 t.leaf, lvls t.lv]
def Tr.zero : Tr := ⟨0, 0, []⟩
def nLeaves (s n : Nat) : Nat := (s + n - 1) / n
def secAt (l : List (List Int)) (n i : Nat) : List (List Int) := (l.drop (i * n)).take n
def leafD (l : List (List Int)) (n : Nat) : List Int := (List.range (nLeaves l.length n)).map fun i => secsD (secAt l n i)
def treeOf (s n : Int) (l : List Int) : Tr := ⟨s, n, levelsOf l⟩
def refBuild (l : List (List Int)) (leaf : Int) : Tr × Int :=
  if l.length < 1 ∨ 4096 < l.length then (.zero, 2)
  else if leaf < 1 ∨ 4096 < leaf then (.zero, 1)
  else (treeOf l.length leaf (leafD l leaf.toNat), 0)
/-- A leaf lies within the sectors. -/
theorem leaf_lt {s n i : Nat} (hn : 1 ≤ n) (h : i < nLeaves s n) : i * n < s := by
  unfold nLeaves at h
  have h1 := (Nat.le_div_iff_mul_le (by omega : 0 < n)).1 (show i + 1 ≤ (s + n - 1) / n from h)
  have h2 : (i + 1) * n = i * n + n := Nat.succ_mul i n
  omega
theorem lt_leaf {s n i : Nat} (hn : 1 ≤ n) (h : i * n < s) : i < nLeaves s n := by
  unfold nLeaves
  have h2 : (i + 1) * n = i * n + n := Nat.succ_mul i n
  exact (Nat.le_div_iff_mul_le (by omega : 0 < n)).2 (by show (i + 1) * n ≤ s + n - 1; omega)
theorem nLeaves_pos {s n : Nat} (hn : 1 ≤ n) (hs : 1 ≤ s) : 1 ≤ nLeaves s n := lt_leaf hn (by simp; omega)
theorem nLeaves_le {s n : Nat} (hn : 1 ≤ n) : nLeaves s n ≤ s := by
  unfold nLeaves
  rcases Nat.eq_zero_or_pos s with rfl | h
  · simp; omega
  · refine Nat.le_of_lt_succ ((Nat.div_lt_iff_lt_mul (by omega)).2 ?_)
    have : (s + 1) * n = s * n + n := Nat.succ_mul s n
    have h3 : s ≤ s * n := Nat.le_mul_of_pos_right _ (by omega)
    show s + n - 1 < (s + 1) * n
    omega
theorem leafD_length (l : List (List Int)) (n : Nat) : (leafD l n).length = nLeaves l.length n := by simp [leafD]
theorem quo_int (s n : Nat) : ((s + n - 1 : Nat) : Int) / (n : Int) = (nLeaves s n : Int) := by
  unfold nLeaves
  exact (Int.natCast_ediv _ _).symm
theorem secs_slice (l : List (List Int)) (a k : Nat) (h : a + k ≤ l.length) : P1.sl k (((secCells l).drop (a * 8)).take (k * 8)) = secs ((l.drop a).take k) := by
  rw [secCells_drop, secCells_take]
  show _ = P1.sl ((l.drop a).take k).length _
  rw [List.length_take, List.length_drop, Nat.min_eq_left (by omega)]
theorem min_ite (m n : Int) : (if n < m then n else m) = min m n := by
  rw [Int.min_def]
  split <;> split <;> omega
theorem max_ite (m n : Int) : (if n > m then n else m) = max m n := by
  rw [Int.max_def]
  split <;> split <;> omega
theorem quo_w {x y : Int} (h : 0 ≤ x ∧ x ≤ 9223372036854775807 ∧ 1 ≤ y) : IntKind.i64.wrap (x.tdiv y) = x / y := IntWalk.i64_quo x y h
theorem slice_hk (L a n : Nat) : (min (L : Int) ((a : Int) + n)).toNat - a = min n (L - a) := by omega
theorem mul_cast (i n : Nat) : (i : Int) * (n : Int) = ((i * n : Nat) : Int) := (Int.natCast_mul ..).symm
theorem getD_mem {α : Type} (l : List α) (d : α) (i : Nat) (h : i < l.length) : l.getD i d ∈ l := by
  rw [List.getD_eq_getElem?_getD, List.getElem?_eq_getElem h]
  exact List.getElem_mem h
/-- Have the levels the lengths that they should have? -/
def sh (p : Bool) (n : Nat) : List (List Int) → Bool
  | [] => p
  | r :: rs => decide (r.length = n) && !p && sh (decide (r.length = 1)) ((n + 1) / 2) rs
def shT (s f : Nat) (lv : List (List Int)) : Bool := sh false (nLeaves s f) lv
def refChk (t : Tr) : Int :=
  if t.size < 1 ∨ 4096 < t.size then 2 else if t.leaf < 1 ∨ 4096 < t.leaf then 1
  else if shT t.size.toNat t.leaf.toNat t.lv = false then 3
  else if levelsOf (t.lv.getD 0 []) = t.lv then 0 else 22
def before (lv : List (List Int)) (i : Nat) : Bool := decide (0 < i ∧ (lv.getD (i - 1) []).length = 1)
theorem drop_cons_l (l : List (List Int)) (i : Nat) (h : i < l.length) : l.drop i = l.getD i [] :: l.drop (i + 1) := by
  rw [List.drop_eq_getElem_cons h, List.getD_eq_getElem?_getD, List.getElem?_eq_getElem h]; rfl
theorem sh_step {lv : List (List Int)} {i n : Nat} (h : i < lv.length) (h1 : (lv.getD i []).length = n) (h2 : ¬ (0 < i ∧ (lv.getD (i - 1) []).length = 1)) :
    sh (before lv i) n (lv.drop i) = sh (before lv (i + 1)) ((n + 1) / 2) (lv.drop (i + 1)) := by
  rw [drop_cons_l lv i h]
  have e1 : before lv i = false := by simp only [before,decide_eq_false h2]
  have e2 : before lv (i + 1) = decide ((lv.getD i []).length = 1) := by
    simp only [before,Nat.add_sub_cancel,Nat.zero_lt_succ,Zt]
  simp only [sh,h1,e1,e2,decide_true,Bool.not_false,Bool.and_true,Bool.true_and]
theorem sh_bad {lv : List (List Int)} {i n : Nat} (h : i < lv.length) (h1 : (lv.getD i []).length ≠ n ∨ (0 < i ∧ (lv.getD (i - 1) []).length = 1)) : sh (before lv i) n (lv.drop i) = false := by
  rw [drop_cons_l lv i h]
  rcases h1 with h1 | h1
  · simp only [sh,decide_eq_false h1,Bool.false_and]
  · simp only [sh,before,decide_eq_true h1,Bool.not_true,Bool.and_false,Bool.false_and]
theorem sh_end (lv : List (List Int)) (n : Nat) : sh (before lv lv.length) n (lv.drop lv.length) = decide (¬ (lv.length = 0 ∨ (lv.getD (lv.length - 1) []).length ≠ 1)) := by
  rw [List.drop_length]
  show before lv lv.length = _
  unfold before
  congr 1
  apply propext
  constructor
  · rintro ⟨h1, h2⟩ h
    rcases h with h | h
    · omega
    · exact h h2
  · intro h
    exact ⟨by omega, Decidable.byContradiction fun h2 => h (.inr h2)⟩
theorem sh_head {n : Nat} {lv : List (List Int)} (h : sh false n lv = true) : lv.length ≠ 0 ∧ (lv.getD 0 []).length = n := by
  cases lv with
  | nil => cases h
  | cons r rs =>
    simp only [sh,Bool.and_eq_true,Zp] at h
    exact ⟨by simp, h.1.1⟩
theorem refChk_2 {t : Tr} (h : t.size < 1 ∨ 4096 < t.size) : refChk t = 2 := if_pos h
theorem refChk_1 {t : Tr} (h0 : ¬ (t.size < 1 ∨ 4096 < t.size)) (h : t.leaf < 1 ∨ 4096 < t.leaf) : refChk t = 1 := by rw [refChk, if_neg h0, if_pos h]
theorem refChk_3 {t : Tr} (h0 : ¬ (t.size < 1 ∨ 4096 < t.size)) (h1 : ¬ (t.leaf < 1 ∨ 4096 < t.leaf)) (h : shT t.size.toNat t.leaf.toNat t.lv = false) : refChk t = 3 := by
  rw [refChk, if_neg h0, if_neg h1, if_pos h]
theorem refChk_22 {t : Tr} (h0 : ¬ (t.size < 1 ∨ 4096 < t.size)) (h1 : ¬ (t.leaf < 1 ∨ 4096 < t.leaf)) (h2 : shT t.size.toNat t.leaf.toNat t.lv = true) (h : levelsOf (t.lv.getD 0 []) ≠ t.lv) : refChk t = 22 := by
  rw [refChk, if_neg h0, if_neg h1, if_neg (by rw [h2]; decide), if_neg h]
theorem refChk_0 {t : Tr} (h0 : ¬ (t.size < 1 ∨ 4096 < t.size)) (h1 : ¬ (t.leaf < 1 ∨ 4096 < t.leaf)) (h2 : shT t.size.toNat t.leaf.toNat t.lv = true) (h : levelsOf (t.lv.getD 0 []) = t.lv) : refChk t = 0 := by
  rw [refChk, if_neg h0, if_neg h1, if_neg (by rw [h2]; decide), if_pos h]
theorem refChk_ok {t : Tr} (h : refChk t = 0) : ∃ S F : Nat, t.size = S ∧ t.leaf = F ∧ 1 ≤ S ∧ S ≤ 4096 ∧ 1 ≤ F ∧ F ≤ 4096 ∧ shT S F t.lv = true ∧ levelsOf (t.lv.getD 0 []) = t.lv := by
  unfold refChk at h
  split at h
  · cases h
  · rename_i h0
    split at h
    · cases h
    · rename_i h1
      split at h
      · cases h
      · rename_i h2
        split at h
        · rename_i h3
          exact ⟨t.size.toNat, t.leaf.toNat, by omega, by omega, by omega, by omega, by omega, by omega, by simpa using h2, h3⟩
        · cases h
theorem sh_last : ∀ {lv : List (List Int)} {p : Bool} {n : Nat}, sh p n lv = true → lv ≠ [] → (lv.getD (lv.length - 1) []).length = 1
  | [], _, _, _, h => (h rfl).elim
  | [r], p, n, h, _ => by
    simp only [sh,Bool.and_eq_true,Zp] at h
    exact h.2
  | r :: r' :: rs, p, n, h, _ => by
    rw [sh, Bool.and_eq_true] at h
    have := sh_last h.2 (by simp)
    simpa using this
theorem add_one_mul_cast (i n : Nat) : ((i : Int) + 1) * (n : Int) = ((i * n + n : Nat) : Int) := by
  rw [Int.add_mul, Int.one_mul]; simp
def updV (l : List (List Int)) (F : Nat) (row : List Int) (s c : Int) (i : Nat) : Int :=
  if 0 < c ∧ s < ((i * F + F : Nat) : Int) ∧ ((i * F : Nat) : Int) < s + c then secsD (secAt l F i) else row.getD i 0
def updL (l : List (List Int)) (F : Nat) (row : List Int) (s c : Int) : List Int := (List.range row.length).map (updV l F row s c)
def refUpd (t : Tr) (l : List (List Int)) (s c : Int) : Tr × Int :=
  if refChk t ≠ 0 then (.zero, refChk t)
  else if (l.length : Int) ≠ t.size then (.zero, 6)
  else if s < 0 ∨ c < 0 ∨ t.size < s ∨ t.size - s < c then (.zero, 2)
  else (treeOf t.size t.leaf (updL l t.leaf.toNat (t.lv.getD 0 []) s c), 0)
theorem leaf_mul {S F i : Nat} (hF : 1 ≤ F) (h : i < nLeaves S F) : i * F + F ≤ S + F ∧ i * F < S := by
  have := leaf_lt hF h
  omega
theorem refUpd_e {t : Tr} {l : List (List Int)} {s c : Int} (h : ¬ refChk t = 0) : refUpd t l s c = (.zero, refChk t) := if_pos h
theorem refUpd_6 {t : Tr} {l : List (List Int)} {s c : Int} (h : refChk t = 0) (h1 : (l.length : Int) ≠ t.size) : refUpd t l s c = (.zero, 6) := by rw [refUpd, if_neg (not_not_intro h), if_pos h1]
theorem refUpd_2 {t : Tr} {l : List (List Int)} {s c : Int} (h : refChk t = 0) (h1 : (l.length : Int) = t.size) (h2 : s < 0 ∨ c < 0 ∨ t.size < s ∨ t.size - s < c) : refUpd t l s c = (.zero, 2) := by
  rw [refUpd, if_neg (not_not_intro h), if_neg (not_not_intro h1), if_pos h2]
theorem refUpd_0 {t : Tr} {l : List (List Int)} {s c : Int} (h : refChk t = 0) (h1 : (l.length : Int) = t.size) (h2 : ¬ (s < 0 ∨ c < 0 ∨ t.size < s ∨ t.size - s < c)) :
    refUpd t l s c = (treeOf t.size t.leaf (updL l t.leaf.toNat (t.lv.getD 0 []) s c), 0) := by
  rw [refUpd, if_neg (not_not_intro h), if_neg (not_not_intro h1), if_neg h2]
end Go.Proofs.Ytldcoekbgfaomaa
end
section
namespace Go.Proofs.Ytldcoekbgfaomaa
open Go.RowKit
set_option maxRecDepth 20000
set_option maxHeartbeats 4000000
attribute [local irreducible] AOps AOpsD AW
theorem o107 (l : List Int) (hl : l.length ≤ 4294967296) : ACallsO Try.prog 107 [.p (u64s l)] ⟨58, 1, (upL l).length, (upL l).map u64⟩ := by
  refine acallsO_of Try.func107 (c := _) rfl (by kernel_rfl) (t := 2) rfl ?_
  intro X hP hX hro hpl
  have hb : tb.Ok X.P := hP ▸ tb_ok
  change AW X _ _ ⟨[], [.p (u64s l), .any, .any, .any, .any, .any, .any, .any, .any, .any, .any, .any, .any, .any, .any, .any, .any, .any, .any, .any, .any, .any, .any, .any, .any, .any, .any, .any, .any, .any, .any, .any, .any, .any, .any, .any, .any], [], []⟩
  refine aw_seq ?_
  refine aw_regK hX hb [0] rfl (σ' := ?s1) (fun K hK => ?h1) ?n1
  case h1 =>
    (refine st_op rfl (by simp (disch := omega) only [stepf,callOf,qop,fop,St.ev,St.put,cd,zd,Value.oneCell',tb_T,TypeDesc.aggB,getD_0,getD_s,Ze,Zd,Zc,Za,Zb,Zr,ZE,ZF,Zf,Zq,Zg,i64_w,Zt,Zs,map_at_i,Zh] <;> exact rfl) ?_)
    refine aops_nil ?_
    exact hK
  refine exq_n ?_
  refine aw_seq ?_
  refine aw_regK hX hb [0] rfl (σ' := ?s2) (fun K hK => ?h2) ?n2
  case h2 =>
    (refine st_op rfl (by simp (disch := omega) only [stepf,callOf,qop,fop,St.ev,St.put,cd,zd,Value.oneCell',tb_T,TypeDesc.aggB,getD_0,getD_s,Ze,Zd,Zc,Za,Zb,Zr,ZE,ZF,Zf,Zq,Zg,i64_w,Zt,Zs,map_at_i,Zh] <;> exact rfl) ?_)
    refine aops_nil ?_
    exact hK
  refine exq_n ?_
  refine aw_nil 3 58 1 rfl (σ' := ?s3) ?h3 ?n3
  case h3 => simp only [St.nilSlot,St.addVec,Za,Zb,Zl,Zo,ZL,ZM]; exact rfl
  refine aw_seq ?_
  refine aw_seq ?_
  refine aw_regK hX hb [0] rfl (σ' := ?s4) (fun K hK => ?h4) ?n4
  case h4 =>
    (refine st_op rfl (by simp (disch := omega) only [stepf,callOf,qop,fop,St.ev,St.put,cd,zd,Value.oneCell',tb_T,TypeDesc.aggB,getD_0,getD_s,Ze,Zd,Zc,Za,Zb,Zr,ZE,ZF,Zf,Zq,Zg,i64_w,Zt,Zs,map_at_i,Zh] <;> exact rfl) ?_)
    refine aops_nil ?_
    exact hK
  refine exq_n ?_
  refine aw_block ?_
  refine aw_loop (ι := Nat × List Int) (fun p => p.1 % 2 = 0 ∧ p.1 ≤ l.length + 1 ∧ p.2 = upL (l.take p.1)) (fun p => ⟨[], [.p (u64s l), .any, .any, .vref 0, .p (i64 p.1), .any, .any, .any, .any, .any, .any, .any, .any, .any, .any, .any, .any, .any, .any, .any, .any, .any, .any, .any, .any, .any, .any, .any, .any, .any, .any, .any, .any, .any, .any, .any, .any], [], [some ⟨58, 1, p.2.length, p.2.map u64⟩]⟩) (fun p => l.length + 1 - p.1) (0, []) (by exact ⟨rfl, Nat.zero_le _, rfl⟩) (wk_le ⟨rfl, leL_r (by first | rfl | ((first | rw [upL_take2 l i h2 (by omega), ← ho] | rw [upL_take1 l i h2 (by omega) (by omega), ← ho]) <;> simp)) (leL_a (leL_a (leL_r (by first | rfl | ((first | rw [upL_take2 l i h2 (by omega), ← ho] | rw [upL_take1 l i h2 (by omega) (by omega), ← ho]) <;> simp)) (leL_r (by first | rfl | ((first | rw [upL_take2 l i h2 (by omega), ← ho] | rw [upL_take1 l i h2 (by omega) (by omega), ← ho]) <;> simp)) (leL_a (leL_a (leL_a (leL_a (leL_a (leL_a (leL_a (leL_a (leL_a (leL_a (leL_a (leL_a (leL_a (leL_a (leL_a (leL_a (leL_a (leL_a (leL_a (leL_a (leL_a (leL_a (leL_a (leL_a (leL_a (leL_a (leL_a (leL_a (leL_a (leL_a (leL_a (leL_a (leL_nil))))))))))))))))))))))))))))))))))))), (leB_nil _), (leV_r (by first | rfl | ((first | rw [upL_take2 l i h2 (by omega), ← ho] | rw [upL_take1 l i h2 (by omega) (by omega), ← ho]) <;> simp)) (leV_nil _)), rfl, rfl⟩) ?_
  rintro ⟨i, o⟩ ⟨h2, hi, ho⟩
  dsimp only at h2 hi ho ⊢
  have hol : o.length ≤ l.length := by rw [ho, upL_length, List.length_take]; omega
  have ei : ((i : Int) + 1).toNat = i + 1 := by omega
  refine aw_seq ?_
  refine aw_seq ?_
  refine aw_regK hX hb [0, 1, 2, 3] rfl (σ' := ?s5) (fun K hK => ?h5) ?n5
  case h5 =>
    iterate 4 (refine st_op rfl (by simp (disch := omega) only [stepf,callOf,qop,fop,St.ev,St.put,cd,zd,Value.oneCell',tb_T,TypeDesc.aggB,getD_0,getD_s,Ze,Zd,Zc,Za,Zb,Zr,ZE,ZF,Zf,Zq,Zg,i64_w,Zt,Zs,qLen,qBin,iop,t3,ti3,t4,ti4,t5,ti5,t58,ti58,t60,ti60,map_at_i,Zh] <;> exact rfl) ?_)
    refine aops_nil ?_
    exact hK
  refine exq_n ?_
  refine aw_cond _ rfl (fun hc0 => ?_) (fun hc0 => ?_)
  · try simp only [Zp,Zi,ZK,ZJ,ne_eq,Zn,Zm,ZB,ZA,ZI,not_or,not_and,Zu] at hc0
    refine aw_skip ?_
    refine exq_n ?_
    refine aw_seq ?_
    refine aw_block ?_
    refine aw_seq ?_
    refine aw_regK hX hb [0, 1, 2, 3, 4] rfl (σ' := ?s6) (fun K hK => ?h6) ?n6
    case h6 =>
      iterate 5 (refine st_op rfl (by simp (disch := omega) only [stepf,callOf,qop,fop,St.ev,St.put,cd,zd,Value.oneCell',tb_T,TypeDesc.aggB,getD_0,getD_s,Ze,Zd,Zc,Za,Zb,Zr,ZE,ZF,Zf,Zq,Zg,i64_w,Zt,Zs,qBin,iop,qLen,t1,ti1,t3,ti3,t4,ti4,t58,ti58,t60,ti60,map_at_i,Zh] <;> exact rfl) ?_)
      refine aops_nil ?_
      exact hK
    refine exq_n ?_
    refine aw_cond _ rfl (fun hc1 => ?_) (fun hc1 => ?_)
    · try simp only [Zp,Zi,ZK,ZJ,ne_eq,Zn,Zm,ZB,ZA,ZI,not_or,not_and,Zu] at hc1
      refine aw_regD hX hb (try_mixed hP) [(0, true), (1, true), (2, true), (3, true), (4, true), (5, true), (6, true), (7, true), (8, true), (9, true), (10, false), (11, false), (12, false), (13, true)] (by kernel_rfl) (σ' := ?s7) (fun K hK => ?h7) ?n7
      case h7 =>
        iterate 10 (refine sd_q rfl (by simp (disch := omega) only [qop,fop,St.ev,St.put,cd,zd,Value.oneCell',tb_T,TypeDesc.aggB,getD_0,getD_s,Ze,Zd,Zc,Za,Zb,Zr,ZE,ZF,Zf,Zq,Zg,i64_w,Zt,Zs,Int.toNat_zero,Int.toNat_one,toNat_pred,toNat_succ,qIndexAddr,ZO,Nat.mul_one,ZC,Nat.zero_mul,Zh,Zl,Zo,Zv,Zw,Zj,Zk,Zx,Zy,qLoad,bload,pload,pureAll,D.pure?,ZD,qBin,iop,pvAll,D.pv?,tb_N,tbO_N,tbW_N,tb_O,fBuildSlice,catCells,D.cells?,range_1,range_2,range_3,range_4,range_5,ZG,ZH,ZL,ZM,ZN,sec8_length,Nat.reduceAdd,Nat.reduceMul,fAppend,appV,St.demote,D.demote,St.setVec,List.length_append,reduceIte,t1,ti1,t3,ti3,t4,ti4,t5,ti5,t22,ti22,t24,ti24,t26,ti26,t27,ti27,t50,ti50,t58,ti58,t60,ti60,t63,ti63,map_at_i,ei] <;> exact rfl) (by simp only [St.put,Za,Zb] <;> exact rfl) ?_)
        refine sd_call rfl (by simp only [callOf,St.ev,getD_0,getD_s,pvAll,D.pv?,ZG,ZH,zd,cd,Value.oneCell',Zr] <;> exact rfl) (acK hP (c63 _ _)) (by simp only [St.put,Za,Zb] <;> exact rfl) ?_
        iterate 2 (refine sd_op rfl (by simp (disch := omega) only [stepf,callOf,qop,fop,St.ev,St.put,cd,zd,Value.oneCell',tb_T,TypeDesc.aggB,getD_0,getD_s,Ze,Zd,Zc,Za,Zb,Zr,ZE,ZF,Zf,Zq,Zg,i64_w,Zt,Zs,Int.toNat_zero,Int.toNat_one,toNat_pred,toNat_succ,qIndexAddr,ZO,Nat.mul_one,ZC,Nat.zero_mul,Zh,Zl,Zo,Zv,Zw,Zj,Zk,Zx,Zy,qLoad,bload,pload,pureAll,D.pure?,ZD,qBin,iop,pvAll,D.pv?,tb_N,tbO_N,tbW_N,tb_O,fBuildSlice,catCells,D.cells?,range_1,range_2,range_3,range_4,range_5,ZG,ZH,ZL,ZM,ZN,sec8_length,Nat.reduceAdd,Nat.reduceMul,fAppend,appV,St.demote,D.demote,St.setVec,List.length_append,reduceIte,t1,ti1,t3,ti3,t4,ti4,t5,ti5,t22,ti22,t24,ti24,t26,ti26,t27,ti27,t50,ti50,t58,ti58,t60,ti60,t63,ti63,map_at_i,ei] <;> exact rfl) ?_)
        (refine sd_q rfl (by simp (disch := omega) only [qop,fop,St.ev,St.put,cd,zd,Value.oneCell',tb_T,TypeDesc.aggB,getD_0,getD_s,Ze,Zd,Zc,Za,Zb,Zr,ZE,ZF,Zf,Zq,Zg,i64_w,Zt,Zs,Int.toNat_zero,Int.toNat_one,toNat_pred,toNat_succ,qIndexAddr,ZO,Nat.mul_one,ZC,Nat.zero_mul,Zh,Zl,Zo,Zv,Zw,Zj,Zk,Zx,Zy,qLoad,bload,pload,pureAll,D.pure?,ZD,qBin,iop,pvAll,D.pv?,tb_N,tbO_N,tbW_N,tb_O,fBuildSlice,catCells,D.cells?,range_1,range_2,range_3,range_4,range_5,ZG,ZH,ZL,ZM,ZN,sec8_length,Nat.reduceAdd,Nat.reduceMul,fAppend,appV,St.demote,D.demote,St.setVec,List.length_append,reduceIte,t1,ti1,t3,ti3,t4,ti4,t5,ti5,t22,ti22,t24,ti24,t26,ti26,t27,ti27,t50,ti50,t58,ti58,t60,ti60,t63,ti63,map_at_i,ei] <;> exact rfl) (by simp only [St.put,Za,Zb] <;> exact rfl) ?_)
        refine aopsd_nil ?_
        exact hK
      refine exb_n ?_
      refine exq_n ?_
      refine aw_regK hX hb [0, 1, 2] rfl (σ' := ?s8) (fun K hK => ?h8) ?n8
      case h8 =>
        iterate 3 (refine st_op rfl (by simp (disch := omega) only [stepf,callOf,qop,fop,St.ev,St.put,cd,zd,Value.oneCell',tb_T,TypeDesc.aggB,getD_0,getD_s,Ze,Zd,Zc,Za,Zb,Zr,ZE,ZF,Zf,Zq,Zg,i64_w,Zt,Zs,qBin,iop,t2,ti2,t3,ti3,t4,ti4,map_at_i,Zh] <;> exact rfl) ?_)
        refine aops_nil ?_
        exact hK
      refine exq_n ?_
      exact ⟨(i + 2, upL (l.take (i + 2))), by exact ⟨by dsimp only; omega, by dsimp only; omega, rfl⟩, by (try dsimp only); omega, wk_le ⟨rfl, leL_r (by first | rfl | ((first | rw [upL_take2 l i h2 (by omega), ← ho] | rw [upL_take1 l i h2 (by omega) (by omega), ← ho]) <;> simp)) (leL_a (leL_a (leL_r (by first | rfl | ((first | rw [upL_take2 l i h2 (by omega), ← ho] | rw [upL_take1 l i h2 (by omega) (by omega), ← ho]) <;> simp)) (leL_r (by first | rfl | ((first | rw [upL_take2 l i h2 (by omega), ← ho] | rw [upL_take1 l i h2 (by omega) (by omega), ← ho]) <;> simp)) (leL_a (leL_a (leL_a (leL_a (leL_a (leL_a (leL_a (leL_a (leL_a (leL_a (leL_a (leL_a (leL_a (leL_a (leL_a (leL_a (leL_a (leL_a (leL_a (leL_a (leL_a (leL_a (leL_a (leL_a (leL_a (leL_a (leL_a (leL_a (leL_a (leL_a (leL_a (leL_a (leL_nil))))))))))))))))))))))))))))))))))))), (leB_nil _), (leV_r (by first | rfl | ((first | rw [upL_take2 l i h2 (by omega), ← ho] | rw [upL_take1 l i h2 (by omega) (by omega), ← ho]) <;> simp)) (leV_nil _)), rfl, rfl⟩⟩
    · try simp only [Zp,Zi,ZK,ZJ,ne_eq,Zn,Zm,ZB,ZA,ZI,not_or,not_and,Zu] at hc1
      refine aw_regK hX hb [0, 1, 2, 3, 4, 5, 6, 7] rfl (σ' := ?s9) (fun K hK => ?h9) ?n9
      case h9 =>
        iterate 8 (refine st_op rfl (by simp (disch := omega) only [stepf,callOf,qop,fop,St.ev,St.put,cd,zd,Value.oneCell',tb_T,TypeDesc.aggB,getD_0,getD_s,Ze,Zd,Zc,Za,Zb,Zr,ZE,ZF,Zf,Zq,Zg,i64_w,Zt,Zs,Int.toNat_zero,Int.toNat_one,toNat_pred,toNat_succ,qIndexAddr,ZO,Nat.mul_one,ZC,Nat.zero_mul,Zh,Zl,Zo,Zv,Zw,Zj,Zk,Zx,Zy,qLoad,bload,pload,pureAll,D.pure?,ZD,tb_N,tbO_N,tbW_N,tb_O,fBuildSlice,catCells,D.cells?,range_1,range_2,range_3,range_4,range_5,ZG,ZH,ZL,ZM,ZN,sec8_length,Nat.reduceAdd,Nat.reduceMul,fAppend,appV,St.demote,D.demote,St.setVec,List.length_append,reduceIte,t1,ti1,t3,ti3,t4,ti4,t35,ti35,t58,ti58,t60,ti60,map_at_i] <;> exact rfl) ?_)
        refine aops_nil ?_
        exact hK
      refine exb_n ?_
      refine exq_n ?_
      refine aw_regK hX hb [0, 1, 2] rfl (σ' := ?s10) (fun K hK => ?h10) ?n10
      case h10 =>
        iterate 3 (refine st_op rfl (by simp (disch := omega) only [stepf,callOf,qop,fop,St.ev,St.put,cd,zd,Value.oneCell',tb_T,TypeDesc.aggB,getD_0,getD_s,Ze,Zd,Zc,Za,Zb,Zr,ZE,ZF,Zf,Zq,Zg,i64_w,Zt,Zs,qBin,iop,t2,ti2,t3,ti3,t4,ti4,map_at_i,Zh] <;> exact rfl) ?_)
        refine aops_nil ?_
        exact hK
      refine exq_n ?_
      exact ⟨(i + 2, upL (l.take (i + 2))), by exact ⟨by dsimp only; omega, by dsimp only; omega, rfl⟩, by (try dsimp only); omega, wk_le ⟨rfl, leL_r (by first | rfl | ((first | rw [upL_take2 l i h2 (by omega), ← ho] | rw [upL_take1 l i h2 (by omega) (by omega), ← ho]) <;> simp)) (leL_a (leL_a (leL_r (by first | rfl | ((first | rw [upL_take2 l i h2 (by omega), ← ho] | rw [upL_take1 l i h2 (by omega) (by omega), ← ho]) <;> simp)) (leL_r (by first | rfl | ((first | rw [upL_take2 l i h2 (by omega), ← ho] | rw [upL_take1 l i h2 (by omega) (by omega), ← ho]) <;> simp)) (leL_a (leL_a (leL_a (leL_a (leL_a (leL_a (leL_a (leL_a (leL_a (leL_a (leL_a (leL_a (leL_a (leL_a (leL_a (leL_a (leL_a (leL_a (leL_a (leL_a (leL_a (leL_a (leL_a (leL_a (leL_a (leL_a (leL_a (leL_a (leL_a (leL_a (leL_a (leL_a (leL_nil))))))))))))))))))))))))))))))))))))), (leB_nil _), (leV_r (by first | rfl | ((first | rw [upL_take2 l i h2 (by omega), ← ho] | rw [upL_take1 l i h2 (by omega) (by omega), ← ho]) <;> simp)) (leV_nil _)), rfl, rfl⟩⟩
  · try simp only [Zp,Zi,ZK,ZJ,ne_eq,Zn,Zm,ZB,ZA,ZI,not_or,not_and,Zu] at hc0
    refine aw_exit ?_
    refine exq_e ?_
    refine exq_e ?_
    refine exb_h ?_
    refine exq_n ?_
    refine aw_seq ?_
    refine aw_regK hX hb [0, 1] rfl (σ' := ?s11) (fun K hK => ?h11) ?n11
    case h11 =>
      iterate 2 (refine st_op rfl (by simp (disch := omega) only [stepf,callOf,qop,fop,St.ev,St.put,cd,zd,Value.oneCell',tb_T,TypeDesc.aggB,getD_0,getD_s,Ze,Zd,Zc,Za,Zb,Zr,ZE,ZF,Zf,Zq,Zg,i64_w,Zt,Zs,t3,ti3,map_at_i,Zh] <;> exact rfl) ?_)
      refine aops_nil ?_
      exact hK
    refine exq_n ?_
    refine aw_ret ?_
    exact reto_r 0 rfl rfl (by first | rfl | (rw [ho, List.take_of_length_le (by omega)]; rfl))
theorem c107 (l : List Int) (hl : l.length ≤ 4294967296) : ACalls Try.prog 107 [.p (u64s l)] (.p (u64s (upL l))) := (o107 l hl).pure
theorem c68 (s n : Nat) (hs : 1 ≤ s ∧ s ≤ 4294967296) (hn : 1 ≤ n ∧ n ≤ 4294967296) : ACalls Try.prog 68 [.p (i64 s), .p (i64 n)] (.p (i64 (nLeaves s n))) := by
  refine acalls_of tb_ok Try.func68 (c := _) rfl (by kernel_rfl) ?_
  intro X hP hX hro hpl
  have hb : tb.Ok X.P := hP ▸ tb_ok
  change AW X _ _ ⟨[], [.p (i64 s), .p (i64 n), .any, .any, .any, .any, .any, .any, .any, .any, .any], [], []⟩
  refine aw_seq ?_
  refine aw_regK hX hb [0] rfl (σ' := ?s1) (fun K hK => ?h1) ?n1
  case h1 =>
    (refine st_op rfl (by simp (disch := omega) only [stepf,callOf,qop,fop,St.ev,St.put,cd,zd,Value.oneCell',tb_T,TypeDesc.aggB,getD_0,getD_s,Ze,Zd,Zc,Za,Zb,Zr,ZE,ZF,Zf,Zq,Zg,i64_w,Zt,Zs,quo_w,ne_eq,not_true_eq_false,not_false_eq_true] <;> exact rfl) ?_)
    refine aops_nil ?_
    exact hK
  refine exq_n ?_
  refine aw_seq ?_
  refine aw_regK hX hb [0, 1, 2, 3, 4, 5, 6] rfl (σ' := ?s2) (fun K hK => ?h2) ?n2
  case h2 =>
    iterate 7 (refine st_op rfl (by simp (disch := omega) only [stepf,callOf,qop,fop,St.ev,St.put,cd,zd,Value.oneCell',tb_T,TypeDesc.aggB,getD_0,getD_s,Ze,Zd,Zc,Za,Zb,Zr,ZE,ZF,Zf,Zq,Zg,i64_w,Zt,Zs,qBin,iop,t1,ti1,t3,ti3,t5,ti5,quo_w,ne_eq,not_true_eq_false,not_false_eq_true] <;> exact rfl) ?_)
    refine aops_nil ?_
    exact hK
  refine exq_n ?_
  refine aw_ret ?_
  exact ret_r rfl (resOf_one rfl (by first | rfl | (rw [← quo_int, show ((s + n - 1 : Nat) : Int) = (s : Int) + n - 1 by omega]; rfl)))
end Go.Proofs.Ytldcoekbgfaomaa
end
section
namespace Go.Proofs.Ytldcoekbgfaomaa
open Go.RowKit
set_option maxRecDepth 20000
set_option maxHeartbeats 4000000
attribute [local irreducible] AOps AOpsD AW
theorem c69 (l : List (List Int)) (n i : Nat) (hl : l.length ≤ 4294967296) (hn : n ≤ 4294967296) (hi : i * n ≤ l.length) : ACalls Try.prog 69 [.p (secs l), .p (i64 n), .p (i64 i)] (.p (secs (secAt l n i))) := by
  refine acalls_of tb_ok Try.func69 (c := _) rfl (by kernel_rfl) ?_
  intro X hP hX hro hpl
  have hb : tb.Ok X.P := hP ▸ tb_ok
  change AW X _ _ ⟨[], [.p (secs l), .p (i64 n), .p (i64 i), .any, .any, .any, .any, .any, .any, .any, .any, .any, .any, .any, .any, .any, .any, .any, .any, .any], [], []⟩
  refine aw_seq ?_
  refine aw_regK hX hb [0] rfl (σ' := ?s1) (fun K hK => ?h1) ?n1
  case h1 =>
    (refine st_op rfl (by simp (disch := omega) only [stepf,callOf,qop,fop,St.ev,St.put,cd,zd,Value.oneCell',tb_T,TypeDesc.aggB,getD_0,getD_s,Ze,Zd,Zc,Za,Zb,Zr,ZE,ZF,Zf,Zq,Zg,i64_w,Zt,Zs,secCells_length,mul_cast,slice_hk,ZO] <;> exact rfl) ?_)
    refine aops_nil ?_
    exact hK
  refine exq_n ?_
  refine aw_seq ?_
  refine aw_regK hX hb [0, 1, 2, 3, 4, 5, 6, 7, 8, 9, 10, 11, 12, 13] rfl (σ' := ?s2) (fun K hK => ?h2) ?n2
  case h2 =>
    iterate 14 (refine st_op rfl (by simp (disch := omega) only [stepf,callOf,qop,fop,St.ev,St.put,cd,zd,Value.oneCell',tb_T,TypeDesc.aggB,getD_0,getD_s,Ze,Zd,Zc,Za,Zb,Zr,ZE,ZF,Zf,Zq,Zg,i64_w,Zt,Zs,qBin,iop,qLen,min_ite,imp_self,Int.toNat_one,Int.toNat_zero,Nat.one_mul,qSlice,bnd,Option.isSome_none,ZP,Option.map_none,implies_true,forall_const,ZO,Nat.sub_zero,t1,ti1,t2,ti2,t3,ti3,t5,ti5,t22,ti22,t50,ti50,secCells_length,mul_cast,slice_hk] <;> exact rfl) ?_)
    refine aops_nil ?_
    exact hK
  refine exq_n ?_
  refine aw_ret ?_
  exact ret_r rfl (resOf_one rfl (by first | rfl | (have e := secs_slice l (i * n) (min n (l.length - i * n)) (by omega); refine (congrArg D.p e).trans ?_; rw [secAt, List.take_eq_take_iff.2]; simp)))
end Go.Proofs.Ytldcoekbgfaomaa
end
section
namespace Go.Proofs.Ytldcoekbgfaomaa
open Go.RowKit
set_option maxRecDepth 20000
set_option maxHeartbeats 4000000
attribute [local irreducible] AOps AOpsD AW
theorem c70 (s f : Int) (l : List Int) (hl : l.length ≤ 4294967296) : ACalls Try.prog 70 [.p (i64 s), .p (i64 f), .p (u64s l)] (.agg [i64 s, i64 f, lvls (levelsOf l)]) := by
  refine acalls_of tb_ok Try.func70 (c := _) rfl (by kernel_rfl) ?_
  intro X hP hX hro hpl
  have hb : tb.Ok X.P := hP ▸ tb_ok
  change AW X _ _ ⟨[], [.p (i64 s), .p (i64 f), .p (u64s l), .any, .any, .any, .any, .any, .any, .any, .any, .any, .any, .any, .any, .any, .any, .any, .any, .any, .any, .any, .any, .any, .any], [], []⟩
  refine aw_seq ?_
  refine aw_regK hX hb [0] rfl (σ' := ?s1) (fun K hK => ?h1) ?n1
  case h1 =>
    (refine st_op rfl (by simp (disch := omega) only [stepf,callOf,qop,fop,St.ev,St.put,cd,zd,Value.oneCell',tb_T,TypeDesc.aggB,getD_0,getD_s,Ze,Zd,Zc,Za,Zb,Zr,ZE,ZF,Zf,Zq,Zg,i64_w,Zt,Zs,ZM,ZL,Zl,Zo,ZG,ZH,St.addBox,Value.cells,t3,ti3,t24,ti24,t26,ti26,t58,ti58,t60,ti60] <;> exact rfl) ?_)
    refine aops_nil ?_
    exact hK
  refine exq_n ?_
  refine aw_seq ?_
  refine aw_regK hX (tbO_ok [11] hb) [0, 1, 2, 3, 4, 5, 6] rfl (σ' := ?s2) (fun K hK => ?h2) ?n2
  case h2 =>
    iterate 7 (refine st_op rfl (by simp (disch := omega) only [stepf,callOf,qop,fop,St.ev,St.put,cd,zd,Value.oneCell',tb_T,TypeDesc.aggB,getD_0,getD_s,Ze,Zd,Zc,Za,Zb,Zr,ZE,ZF,Zf,Zq,Zg,i64_w,Zt,Zs,tb_N,tbO_N,tbW_N,tb_O,fBuildSlice,catCells,D.cells?,D.pure?,range_1,range_2,range_3,range_4,range_5,ZG,ZH,ZL,ZM,ZN,Zl,Zo,sec8_length,Nat.reduceAdd,Nat.reduceMul,tb_W,tbO_W,qBuild,qBuildD,D.cell1,List.all_cons,List.all_nil,bfill,TI.place,TI.zeros,TI.kindOk,zp,Value.cells,ZQ,ZP,St.addBox,fStore,D.boxCells,D.live,Zv,Zw,Zj,Zk,Zx,Zy,St.setVec,ZC,t1,ti1,t2,ti2,t3,ti3,t24,ti24,t26,ti26,t58,ti58,t60,ti60,tbO_T,tbO_hit,tbO_miss,St.addVec] <;> exact rfl) ?_)
    refine aops_nil ?_
    exact hK
  refine exq_n ?_
  refine aw_seq ?_
  refine aw_block ?_
  refine aw_loop (ι := List Int × List (List Int)) (fun p => p.1.length ≤ l.length ∧ p.1.length ≤ 4294967296 ∧ p.2 ++ (levelsOf p.1).drop 1 = levelsOf l) (fun p => ⟨[], [.p (i64 s), .p (i64 f), .p (u64s p.1), .any, .any, .any, .ptr 0 0, .ptr 1 0, .any, .any, .any, .any, .any, .any, .any, .any, .any, .any, .any, .any, .any, .any, .any, .any, .any], [⟨26, [.p (i64 0), .p (i64 0), .nil]⟩, ⟨26, [.p (i64 s), .p (i64 f), .vref 0]⟩], [some ⟨60, 1, p.2.length, p.2.map u64s⟩]⟩) (fun p => p.1.length) (l, [l]) (by refine ⟨Nat.le_refl _, hl, ?_⟩; obtain ⟨r, hr⟩ := levelsOf_head l; dsimp only; rw [hr]; rfl) (wk_le ⟨rfl, leL_r (by first | rfl | (simp)) (leL_r (by first | rfl | (simp)) (leL_r (by first | rfl | (simp)) (leL_a (leL_a (leL_a (leL_r (by first | rfl | (simp)) (leL_r (by first | rfl | (simp)) (leL_a (leL_a (leL_a (leL_a (leL_a (leL_a (leL_a (leL_a (leL_a (leL_a (leL_a (leL_a (leL_a (leL_a (leL_a (leL_a (leL_a (leL_nil))))))))))))))))))))))))), (leB_r rfl (leL_r (by first | rfl | (simp)) (leL_r (by first | rfl | (simp)) (leL_r (by first | rfl | (simp)) (leL_nil)))) (leB_r rfl (leL_r (by first | rfl | (simp)) (leL_r (by first | rfl | (simp)) (leL_r (by first | rfl | (simp)) (leL_nil)))) (leB_nil _))), (leV_r (by first | rfl | (simp)) (leV_nil _)), rfl, rfl⟩) ?_
  rintro ⟨m, ls⟩ hm
  dsimp only at hm ⊢
  have hls : ls.length ≤ l.length + 1 := by
    have h1 := levelsOf_length_le l.length l (Nat.le_refl _)
    rw [← hm.2.2, List.length_append] at h1
    omega
  refine aw_seq ?_
  refine aw_seq ?_
  refine aw_regK hX hb [0, 1, 2] rfl (σ' := ?s3) (fun K hK => ?h3) ?n3
  case h3 =>
    iterate 3 (refine st_op rfl (by simp (disch := omega) only [stepf,callOf,qop,fop,St.ev,St.put,cd,zd,Value.oneCell',tb_T,TypeDesc.aggB,getD_0,getD_s,Ze,Zd,Zc,Za,Zb,Zr,ZE,ZF,Zf,Zq,Zg,i64_w,Zt,Zs,qLen,qBin,iop,t1,ti1,t2,ti2,t3,ti3,t58,ti58,t60,ti60] <;> exact rfl) ?_)
    refine aops_nil ?_
    exact hK
  refine exq_n ?_
  refine aw_cond _ rfl (fun hc0 => ?_) (fun hc0 => ?_)
  · try simp only [Zp,Zi,ZK,ZJ,ne_eq,Zn,Zm,ZB,ZA,ZI,not_or,not_and,Zu] at hc0
    refine aw_skip ?_
    refine exq_n ?_
    refine aw_block ?_
    refine aw_seq ?_
    refine aw_regK hX hb [0, 1, 2] rfl (σ' := ?s4) (fun K hK => ?h4) ?n4
    case h4 =>
      (refine st_op rfl (by simp (disch := omega) only [stepf,callOf,qop,fop,St.ev,St.put,cd,zd,Value.oneCell',tb_T,TypeDesc.aggB,getD_0,getD_s,Ze,Zd,Zc,Za,Zb,Zr,ZE,ZF,Zf,Zq,Zg,i64_w,Zt,Zs,pvAll,D.pv?,t2,ti2,t58,ti58,t60,ti60] <;> exact rfl) ?_)
      refine st_call rfl (by simp only [callOf,St.ev,getD_0,getD_s,pvAll,D.pv?,ZG,ZH,zd,cd,Value.oneCell',Zr] <;> exact rfl) (acK hP (c107 _ hm.2.1)) (by simp only [St.put,Za,Zb] <;> exact rfl) ?_
      (refine st_op rfl (by simp (disch := omega) only [stepf,callOf,qop,fop,St.ev,St.put,cd,zd,Value.oneCell',tb_T,TypeDesc.aggB,getD_0,getD_s,Ze,Zd,Zc,Za,Zb,Zr,ZE,ZF,Zf,Zq,Zg,i64_w,Zt,Zs,pvAll,D.pv?,t2,ti2,t58,ti58,t60,ti60] <;> exact rfl) ?_)
      refine aops_nil ?_
      exact hK
    refine exq_n ?_
    refine aw_regK hX hb [0, 1, 2, 3, 4, 5, 6] rfl (σ' := ?s5) (fun K hK => ?h5) ?n5
    case h5 =>
      iterate 7 (refine st_op rfl (by simp (disch := omega) only [stepf,callOf,qop,fop,St.ev,St.put,cd,zd,Value.oneCell',tb_T,TypeDesc.aggB,getD_0,getD_s,Ze,Zd,Zc,Za,Zb,Zr,ZE,ZF,Zf,Zq,Zg,i64_w,Zt,Zs,qFieldAddr,fieldOf,Zl,Zo,Zv,Zw,Zj,Zk,Zx,Zy,qLoad,bload,pload,pureAll,D.pure?,ZC,ZD,tb_N,tbO_N,tbW_N,tb_O,fBuildSlice,catCells,D.cells?,range_1,range_2,range_3,range_4,range_5,ZG,ZH,ZL,ZM,ZN,sec8_length,Nat.reduceAdd,Nat.reduceMul,fAppend,appV,St.demote,D.demote,St.setVec,Zh,List.length_append,Nat.mul_one,reduceIte,fStore,D.boxCells,D.live,t1,ti1,t2,ti2,t3,ti3,t5,ti5,t22,ti22,t24,ti24,t26,ti26,t50,ti50,t58,ti58,t60,ti60] <;> exact rfl) ?_)
      refine aops_nil ?_
      exact hK
    refine exb_n ?_
    refine exq_n ?_
    exact ⟨(upL m, ls ++ [upL m]), by have hu := upL_length m; refine ⟨by dsimp only; omega, by dsimp only; omega, ?_⟩; dsimp only; rw [← hm.2.2, levelsOf_drop1 (l := m) (by omega), List.append_assoc]; rfl, by have hu := upL_length m; dsimp only; omega, wk_le ⟨rfl, leL_r (by first | rfl | (simp)) (leL_r (by first | rfl | (simp)) (leL_r (by first | rfl | (simp)) (leL_a (leL_a (leL_a (leL_r (by first | rfl | (simp)) (leL_r (by first | rfl | (simp)) (leL_a (leL_a (leL_a (leL_a (leL_a (leL_a (leL_a (leL_a (leL_a (leL_a (leL_a (leL_a (leL_a (leL_a (leL_a (leL_a (leL_a (leL_nil))))))))))))))))))))))))), (leB_r rfl (leL_r (by first | rfl | (simp)) (leL_r (by first | rfl | (simp)) (leL_r (by first | rfl | (simp)) (leL_nil)))) (leB_r rfl (leL_r (by first | rfl | (simp)) (leL_r (by first | rfl | (simp)) (leL_r (by first | rfl | (simp)) (leL_nil)))) (leB_nil _))), (leV_r (by first | rfl | (simp)) (leV_nil _)), rfl, rfl⟩⟩
  · try simp only [Zp,Zi,ZK,ZJ,ne_eq,Zn,Zm,ZB,ZA,ZI,not_or,not_and,Zu] at hc0
    refine aw_exit ?_
    refine exq_e ?_
    refine exq_e ?_
    refine exb_h ?_
    refine exq_n ?_
    refine aw_seq ?_
    refine aw_frz 0 rfl (σ' := ?s7) ?h7 ?n7
    case h7 => simp only [St.freeze,D.freeze,ZG,ZH,Za,Zb,Zr,reduceIte,Nat.reduceEqDiff]; exact rfl
    refine aw_regK hX hb [0, 1] rfl (σ' := ?s6) (fun K hK => ?h6) ?n6
    case h6 =>
      iterate 2 (refine st_op rfl (by simp (disch := omega) only [stepf,callOf,qop,fop,St.ev,St.put,cd,zd,Value.oneCell',tb_T,TypeDesc.aggB,getD_0,getD_s,Ze,Zd,Zc,Za,Zb,Zr,ZE,ZF,Zf,Zq,Zg,i64_w,Zt,Zs,Zl,Zo,Zv,Zw,Zj,Zk,Zx,Zy,qLoad,bload,pload,pureAll,D.pure?,ZC,ZD,fStore,D.boxCells,D.live,D.cells?,ZM,ZL,ZN,ZG,ZH,St.setVec,t3,ti3,t24,ti24,t26,ti26,t58,ti58,t60,ti60] <;> exact rfl) ?_)
      refine aops_nil ?_
      exact hK
    refine exq_n ?_
    refine aw_ret ?_
    exact ret_r rfl (resOf_one (by simp only [resVal,qLoad,bload,tb_T,TypeDesc.aggB,pureAll,D.pure?,D.pv?,getD_0,getD_s,Zd,Zc,Zw,Zk,Zv,Zj,Zx,Zl,Zo,Zr,reduceIte,Nat.reduceAdd,Nat.reduceLeDiff,Zg,Zf,t3,ti3,t24,ti24,t26,ti26,t58,ti58,t60,ti60] <;> exact rfl) (by first | rfl | ((have e := hm.2.2); rw [levelsOf_one (by omega)] at e; simp only [List.drop_one,List.tail_cons,ZN] at e; rw [← e]; rfl)))
end Go.Proofs.Ytldcoekbgfaomaa
end
section
namespace Go.Proofs.Ytldcoekbgfaomaa
open Go.RowKit
set_option maxRecDepth 20000
set_option maxHeartbeats 4000000
attribute [local irreducible] AOps AOpsD AW
theorem c71 (a b : List (List Int)) : ACalls Try.prog 71 [.p (lvls a), .p (lvls b)] (.p (bv (decide (a = b)))) := by
  refine acalls_of tb_ok Try.func71 (c := _) rfl (by kernel_rfl) ?_
  intro X hP hX hro hpl
  have hb : tb.Ok X.P := hP ▸ tb_ok
  change AW X _ _ ⟨[], [.p (lvls a), .p (lvls b), .any, .any, .any, .any, .any, .any, .any, .any, .any, .any, .any, .any, .any, .any, .any, .any, .any, .any, .any, .any, .any, .any, .any, .any, .any, .any, .any, .any, .any, .any, .any, .any, .any, .any, .any, .any, .any, .any, .any, .any, .any, .any, .any, .any, .any, .any, .any, .any, .any, .any, .any], [], []⟩
  refine aw_len (t := 0) rfl fun hl => ?_
  unfold maxLen at hl
  refine aw_seq ?_
  refine aw_regK hX hb [0] rfl (σ' := ?s1) (fun K hK => ?h1) ?n1
  case h1 =>
    (refine st_op rfl (by simp (disch := omega) only [stepf,callOf,qop,fop,St.ev,St.put,cd,zd,Value.oneCell',tb_T,TypeDesc.aggB,getD_0,getD_s,Ze,Zd,Zc,Za,Zb,Zr,ZE,ZF,Zf,Zq,Zg,i64_w,Zt,Zs,map_at_l,map_at_i,Zh] <;> exact rfl) ?_)
    refine aops_nil ?_
    exact hK
  refine exq_n ?_
  refine aw_seq ?_
  refine aw_seq ?_
  refine aw_regK hX hb [0, 1, 2, 3, 4] rfl (σ' := ?s2) (fun K hK => ?h2) ?n2
  case h2 =>
    iterate 5 (refine st_op rfl (by simp (disch := omega) only [stepf,callOf,qop,fop,St.ev,St.put,cd,zd,Value.oneCell',tb_T,TypeDesc.aggB,getD_0,getD_s,Ze,Zd,Zc,Za,Zb,Zr,ZE,ZF,Zf,Zq,Zg,i64_w,Zt,Zs,qLen,qBin,iop,t1,ti1,t3,ti3,t24,ti24,t58,ti58,t60,ti60,map_at_l,map_at_i,Zh] <;> exact rfl) ?_)
    refine aops_nil ?_
    exact hK
  refine exq_n ?_
  refine aw_cond _ rfl (fun hc0 => ?_) (fun hc0 => ?_)
  · try simp only [Zp,Zi,ZK,ZJ,ne_eq,Zn,Zm,ZB,ZA,ZI,not_or,not_and,Zu] at hc0
    refine aw_seq ?_
    refine aw_regK hX hb [0] rfl (σ' := ?s3) (fun K hK => ?h3) ?n3
    case h3 =>
      (refine st_op rfl (by simp (disch := omega) only [stepf,callOf,qop,fop,St.ev,St.put,cd,zd,Value.oneCell',tb_T,TypeDesc.aggB,getD_0,getD_s,Ze,Zd,Zc,Za,Zb,Zr,ZE,ZF,Zf,Zq,Zg,i64_w,Zt,Zs,map_at_l,map_at_i,Zh] <;> exact rfl) ?_)
      refine aops_nil ?_
      exact hK
    refine exq_n ?_
    refine aw_ret ?_
    refine exq_r ?_
    exact ret_r rfl (resOf_one rfl (by first | rfl | (first | (refine jf ?_; rintro rfl; exact hc4 rfl) | (refine jf ?_; rintro rfl; exact hc2 rfl) | (refine jf ?_; rintro rfl; exact hc0 rfl) | exact jt (take_all_eq hc0 he (by omega)))))
  · try simp only [Zp,Zi,ZK,ZJ,ne_eq,Zn,Zm,ZB,ZA,ZI,not_or,not_and,Zu] at hc0
    refine aw_skip ?_
    refine exq_n ?_
    refine aw_seq ?_
    refine aw_seq ?_
    refine aw_regK hX hb [0] rfl (σ' := ?s4) (fun K hK => ?h4) ?n4
    case h4 =>
      (refine st_op rfl (by simp (disch := omega) only [stepf,callOf,qop,fop,St.ev,St.put,cd,zd,Value.oneCell',tb_T,TypeDesc.aggB,getD_0,getD_s,Ze,Zd,Zc,Za,Zb,Zr,ZE,ZF,Zf,Zq,Zg,i64_w,Zt,Zs,map_at_l,map_at_i,Zh] <;> exact rfl) ?_)
      refine aops_nil ?_
      exact hK
    refine exq_n ?_
    refine aw_block ?_
    refine aw_loop (ι := Nat) (fun i => i ≤ a.length ∧ a.take i = b.take i) (fun i => ⟨[], [.p (lvls a), .p (lvls b), .any, .any, .any, .p (i64 i), .any, .any, .any, .any, .any, .any, .any, .any, .any, .any, .any, .any, .any, .any, .any, .any, .any, .any, .any, .any, .any, .any, .any, .any, .any, .any, .any, .any, .any, .any, .any, .any, .any, .any, .any, .any, .any, .any, .any, .any, .any, .any, .any, .any, .any, .any, .any], [], []⟩) (fun i => a.length - i) 0 (by exact ⟨Nat.zero_le _, rfl⟩) (wk_le ⟨rfl, leL_r rfl (leL_r rfl (leL_a (leL_a (leL_a (leL_r rfl (leL_a (leL_a (leL_a (leL_a (leL_a (leL_a (leL_a (leL_a (leL_a (leL_a (leL_a (leL_a (leL_a (leL_a (leL_a (leL_a (leL_a (leL_a (leL_a (leL_a (leL_a (leL_a (leL_a (leL_a (leL_a (leL_a (leL_a (leL_a (leL_a (leL_a (leL_a (leL_a (leL_a (leL_a (leL_a (leL_a (leL_a (leL_a (leL_a (leL_a (leL_a (leL_a (leL_a (leL_a (leL_a (leL_a (leL_a (leL_nil))))))))))))))))))))))))))))))))))))))))))))))))))))), (leB_nil _), (leV_nil _), rfl, rfl⟩) ?_
    rintro i ⟨hi, he⟩
    refine aw_seq ?_
    refine aw_seq ?_
    refine aw_regK hX hb [0, 1, 2, 3] rfl (σ' := ?s5) (fun K hK => ?h5) ?n5
    case h5 =>
      iterate 4 (refine st_op rfl (by simp (disch := omega) only [stepf,callOf,qop,fop,St.ev,St.put,cd,zd,Value.oneCell',tb_T,TypeDesc.aggB,getD_0,getD_s,Ze,Zd,Zc,Za,Zb,Zr,ZE,ZF,Zf,Zq,Zg,i64_w,Zt,Zs,qLen,qBin,iop,t3,ti3,t5,ti5,t24,ti24,t58,ti58,t60,ti60,map_at_l,map_at_i,Zh] <;> exact rfl) ?_)
      refine aops_nil ?_
      exact hK
    refine exq_n ?_
    refine aw_cond _ rfl (fun hc1 => ?_) (fun hc1 => ?_)
    · try simp only [Zp,Zi,ZK,ZJ,ne_eq,Zn,Zm,ZB,ZA,ZI,not_or,not_and,Zu] at hc1
      refine aw_skip ?_
      refine exq_n ?_
      refine aw_seq ?_
      refine aw_block ?_
      refine aw_seq ?_
      refine aw_seq ?_
      refine aw_regD hX hb (try_mixed hP) [(0, true), (1, true), (2, true), (3, true), (4, true), (5, true), (6, true), (7, true), (8, true), (9, true), (10, true)] (by kernel_rfl) (σ' := ?s6) (fun K hK => ?h6) ?n6
      case h6 =>
        iterate 11 (refine sd_q rfl (by simp (disch := omega) only [qop,fop,St.ev,St.put,cd,zd,Value.oneCell',tb_T,TypeDesc.aggB,getD_0,getD_s,Ze,Zd,Zc,Za,Zb,Zr,ZE,ZF,Zf,Zq,Zg,i64_w,Zt,Zs,Int.toNat_zero,Int.toNat_one,toNat_pred,toNat_succ,qIndexAddr,ZO,Nat.mul_one,ZC,Nat.zero_mul,Zh,Zl,Zo,Zv,Zw,Zj,Zk,Zx,Zy,qLoad,bload,pload,pureAll,D.pure?,ZD,qLen,qBin,iop,t1,ti1,t3,ti3,t5,ti5,t22,ti22,t24,ti24,t26,ti26,t27,ti27,t50,ti50,t58,ti58,t60,ti60,map_at_l,map_at_i] <;> exact rfl) (by simp only [St.put,Za,Zb] <;> exact rfl) ?_)
        refine aopsd_nil ?_
        exact hK
      refine exq_n ?_
      refine aw_cond _ rfl (fun hc2 => ?_) (fun hc2 => ?_)
      · try simp only [Zp,Zi,ZK,ZJ,ne_eq,Zn,Zm,ZB,ZA,ZI,not_or,not_and,Zu] at hc2
        refine aw_seq ?_
        refine aw_regK hX hb [0] rfl (σ' := ?s7) (fun K hK => ?h7) ?n7
        case h7 =>
          (refine st_op rfl (by simp (disch := omega) only [stepf,callOf,qop,fop,St.ev,St.put,cd,zd,Value.oneCell',tb_T,TypeDesc.aggB,getD_0,getD_s,Ze,Zd,Zc,Za,Zb,Zr,ZE,ZF,Zf,Zq,Zg,i64_w,Zt,Zs,map_at_l,map_at_i,Zh] <;> exact rfl) ?_)
          refine aops_nil ?_
          exact hK
        refine exq_n ?_
        refine aw_ret ?_
        refine exq_r ?_
        refine exb_r ?_
        refine exq_r ?_
        refine exq_r ?_
        refine exb_r ?_
        refine exq_r ?_
        exact ret_r rfl (resOf_one rfl (by first | rfl | (first | (refine jf ?_; rintro rfl; exact hc4 rfl) | (refine jf ?_; rintro rfl; exact hc2 rfl) | (refine jf ?_; rintro rfl; exact hc0 rfl) | exact jt (take_all_eq hc0 he (by omega)))))
      · try simp only [Zp,Zi,ZK,ZJ,ne_eq,Zn,Zm,ZB,ZA,ZI,not_or,not_and,Zu] at hc2
        refine aw_skip ?_
        refine exq_n ?_
        refine aw_seq ?_
        refine aw_regK hX hb [0] rfl (σ' := ?s8) (fun K hK => ?h8) ?n8
        case h8 =>
          (refine st_op rfl (by simp (disch := omega) only [stepf,callOf,qop,fop,St.ev,St.put,cd,zd,Value.oneCell',tb_T,TypeDesc.aggB,getD_0,getD_s,Ze,Zd,Zc,Za,Zb,Zr,ZE,ZF,Zf,Zq,Zg,i64_w,Zt,Zs,map_at_l,map_at_i,Zh] <;> exact rfl) ?_)
          refine aops_nil ?_
          exact hK
        refine exq_n ?_
        refine aw_block ?_
        refine aw_loop (ι := Nat) (fun k => k ≤ (a.getD i []).length ∧ (a.getD i []).take k = (b.getD i []).take k) (fun k => ⟨[], [.p (lvls a), .p (lvls b), .any, .any, .any, .p (i64 i), .p (i64 k), .any, .any, .any, .any, .any, .any, .any, .any, .any, .any, .any, .any, .any, .any, .any, .any, .any, .any, .any, .any, .any, .any, .any, .any, .any, .any, .any, .any, .any, .any, .any, .any, .any, .any, .any, .any, .any, .any, .any, .any, .any, .any, .any, .any, .any, .any], [], []⟩) (fun k => (a.getD i []).length - k) 0 (by exact ⟨Nat.zero_le _, rfl⟩) (wk_le ⟨rfl, leL_r rfl (leL_r rfl (leL_a (leL_a (leL_a (leL_r rfl (leL_r rfl (leL_a (leL_a (leL_a (leL_a (leL_a (leL_a (leL_a (leL_a (leL_a (leL_a (leL_a (leL_a (leL_a (leL_a (leL_a (leL_a (leL_a (leL_a (leL_a (leL_a (leL_a (leL_a (leL_a (leL_a (leL_a (leL_a (leL_a (leL_a (leL_a (leL_a (leL_a (leL_a (leL_a (leL_a (leL_a (leL_a (leL_a (leL_a (leL_a (leL_a (leL_a (leL_a (leL_a (leL_a (leL_a (leL_a (leL_nil))))))))))))))))))))))))))))))))))))))))))))))))))))), (leB_nil _), (leV_nil _), rfl, rfl⟩) ?_
        rintro k ⟨hk, hke⟩
        refine aw_seq ?_
        refine aw_seq ?_
        refine aw_regK hX hb [0, 1, 2, 3, 4, 5, 6] rfl (σ' := ?s9) (fun K hK => ?h9) ?n9
        case h9 =>
          iterate 7 (refine st_op rfl (by simp (disch := omega) only [stepf,callOf,qop,fop,St.ev,St.put,cd,zd,Value.oneCell',tb_T,TypeDesc.aggB,getD_0,getD_s,Ze,Zd,Zc,Za,Zb,Zr,ZE,ZF,Zf,Zq,Zg,i64_w,Zt,Zs,Int.toNat_zero,Int.toNat_one,toNat_pred,toNat_succ,qIndexAddr,ZO,Nat.mul_one,ZC,Nat.zero_mul,Zh,Zl,Zo,Zv,Zw,Zj,Zk,Zx,Zy,qLoad,bload,pload,pureAll,D.pure?,ZD,qLen,qBin,iop,t3,ti3,t5,ti5,t24,ti24,t58,ti58,t60,ti60,map_at_l,map_at_i] <;> exact rfl) ?_)
          refine aops_nil ?_
          exact hK
        refine exq_n ?_
        refine aw_cond _ rfl (fun hc3 => ?_) (fun hc3 => ?_)
        · try simp only [Zp,Zi,ZK,ZJ,ne_eq,Zn,Zm,ZB,ZA,ZI,not_or,not_and,Zu] at hc3
          refine aw_skip ?_
          refine exq_n ?_
          refine aw_seq ?_
          refine aw_block ?_
          refine aw_seq ?_
          refine aw_regD hX hb (try_mixed hP) [(0, true), (1, true), (2, true), (3, true), (4, true), (5, true), (6, true), (7, true), (8, true), (9, true), (10, true), (11, true), (12, true), (13, true), (14, true)] (by kernel_rfl) (σ' := ?s10) (fun K hK => ?h10) ?n10
          case h10 =>
            iterate 15 (refine sd_q rfl (by simp (disch := omega) only [qop,fop,St.ev,St.put,cd,zd,Value.oneCell',tb_T,TypeDesc.aggB,getD_0,getD_s,Ze,Zd,Zc,Za,Zb,Zr,ZE,ZF,Zf,Zq,Zg,i64_w,Zt,Zs,Int.toNat_zero,Int.toNat_one,toNat_pred,toNat_succ,qIndexAddr,ZO,Nat.mul_one,ZC,Nat.zero_mul,Zh,Zl,Zo,Zv,Zw,Zj,Zk,Zx,Zy,qLoad,bload,pload,pureAll,D.pure?,ZD,qBin,iop,t1,ti1,t3,ti3,t5,ti5,t22,ti22,t24,ti24,t35,ti35,t40,ti40,t47,ti47,t50,ti50,t58,ti58,t60,ti60,map_at_l,map_at_i] <;> exact rfl) (by simp only [St.put,Za,Zb] <;> exact rfl) ?_)
            refine aopsd_nil ?_
            exact hK
          refine exq_n ?_
          refine aw_cond _ rfl (fun hc4 => ?_) (fun hc4 => ?_)
          · try simp only [Zp,Zi,ZK,ZJ,ne_eq,Zn,Zm,ZB,ZA,ZI,not_or,not_and,Zu] at hc4
            refine aw_seq ?_
            refine aw_regK hX hb [0] rfl (σ' := ?s11) (fun K hK => ?h11) ?n11
            case h11 =>
              (refine st_op rfl (by simp (disch := omega) only [stepf,callOf,qop,fop,St.ev,St.put,cd,zd,Value.oneCell',tb_T,TypeDesc.aggB,getD_0,getD_s,Ze,Zd,Zc,Za,Zb,Zr,ZE,ZF,Zf,Zq,Zg,i64_w,Zt,Zs,map_at_l,map_at_i,Zh] <;> exact rfl) ?_)
              refine aops_nil ?_
              exact hK
            refine exq_n ?_
            refine aw_ret ?_
            refine exb_r ?_
            refine exq_r ?_
            refine exq_r ?_
            refine exb_r ?_
            refine exb_r ?_
            refine exq_r ?_
            refine exq_r ?_
            refine exb_r ?_
            refine exq_r ?_
            exact ret_r rfl (resOf_one rfl (by first | rfl | (first | (refine jf ?_; rintro rfl; exact hc4 rfl) | (refine jf ?_; rintro rfl; exact hc2 rfl) | (refine jf ?_; rintro rfl; exact hc0 rfl) | exact jt (take_all_eq hc0 he (by omega)))))
          · try simp only [Zp,Zi,ZK,ZJ,ne_eq,Zn,Zm,ZB,ZA,ZI,not_or,not_and,Zu] at hc4
            refine aw_skip ?_
            refine exb_n ?_
            refine exq_n ?_
            refine aw_len (t := 33) rfl fun hl2 => ?_
            unfold maxLen at hl2
            refine aw_regK hX hb [0, 1, 2] rfl (σ' := ?s12) (fun K hK => ?h12) ?n12
            case h12 =>
              iterate 3 (refine st_op rfl (by simp (disch := omega) only [stepf,callOf,qop,fop,St.ev,St.put,cd,zd,Value.oneCell',tb_T,TypeDesc.aggB,getD_0,getD_s,Ze,Zd,Zc,Za,Zb,Zr,ZE,ZF,Zf,Zq,Zg,i64_w,Zt,Zs,qBin,iop,t1,ti1,t3,ti3,map_at_l,map_at_i,Zh] <;> exact rfl) ?_)
              refine aops_nil ?_
              exact hK
            refine exq_n ?_
            exact ⟨k + 1, by exact ⟨by omega, by rw [getD_take_succ _ k (by omega), getD_take_succ _ k (by omega), hke, hc4]⟩, by (try dsimp only); omega, wk_le ⟨rfl, leL_r rfl (leL_r rfl (leL_a (leL_a (leL_a (leL_r rfl (leL_r rfl (leL_a (leL_a (leL_a (leL_a (leL_a (leL_a (leL_a (leL_a (leL_a (leL_a (leL_a (leL_a (leL_a (leL_a (leL_a (leL_a (leL_a (leL_a (leL_a (leL_a (leL_a (leL_a (leL_a (leL_a (leL_a (leL_a (leL_a (leL_a (leL_a (leL_a (leL_a (leL_a (leL_a (leL_a (leL_a (leL_a (leL_a (leL_a (leL_a (leL_a (leL_a (leL_a (leL_a (leL_a (leL_a (leL_a (leL_nil))))))))))))))))))))))))))))))))))))))))))))))))))))), (leB_nil _), (leV_nil _), rfl, rfl⟩⟩
        · try simp only [Zp,Zi,ZK,ZJ,ne_eq,Zn,Zm,ZB,ZA,ZI,not_or,not_and,Zu] at hc3
          refine aw_exit ?_
          refine exq_e ?_
          refine exq_e ?_
          refine exb_h ?_
          refine exb_n ?_
          refine exq_n ?_
          refine aw_regK hX hb [0, 1, 2] rfl (σ' := ?s13) (fun K hK => ?h13) ?n13
          case h13 =>
            iterate 3 (refine st_op rfl (by simp (disch := omega) only [stepf,callOf,qop,fop,St.ev,St.put,cd,zd,Value.oneCell',tb_T,TypeDesc.aggB,getD_0,getD_s,Ze,Zd,Zc,Za,Zb,Zr,ZE,ZF,Zf,Zq,Zg,i64_w,Zt,Zs,qBin,iop,t1,ti1,t3,ti3,t5,ti5,map_at_l,map_at_i,Zh] <;> exact rfl) ?_)
            refine aops_nil ?_
            exact hK
          refine exq_n ?_
          exact ⟨i + 1, by exact ⟨by omega, by rw [getD_take_succ_l a i (by omega), getD_take_succ_l b i (by omega), he, take_all_eq hc2 hke (by omega)]⟩, by (try dsimp only); omega, wk_le ⟨rfl, leL_r rfl (leL_r rfl (leL_a (leL_a (leL_a (leL_r rfl (leL_a (leL_a (leL_a (leL_a (leL_a (leL_a (leL_a (leL_a (leL_a (leL_a (leL_a (leL_a (leL_a (leL_a (leL_a (leL_a (leL_a (leL_a (leL_a (leL_a (leL_a (leL_a (leL_a (leL_a (leL_a (leL_a (leL_a (leL_a (leL_a (leL_a (leL_a (leL_a (leL_a (leL_a (leL_a (leL_a (leL_a (leL_a (leL_a (leL_a (leL_a (leL_a (leL_a (leL_a (leL_a (leL_a (leL_a (leL_nil))))))))))))))))))))))))))))))))))))))))))))))))))))), (leB_nil _), (leV_nil _), rfl, rfl⟩⟩
    · try simp only [Zp,Zi,ZK,ZJ,ne_eq,Zn,Zm,ZB,ZA,ZI,not_or,not_and,Zu] at hc1
      refine aw_exit ?_
      refine exq_e ?_
      refine exq_e ?_
      refine exb_h ?_
      refine exq_n ?_
      refine aw_seq ?_
      refine aw_regK hX hb [0] rfl (σ' := ?s14) (fun K hK => ?h14) ?n14
      case h14 =>
        (refine st_op rfl (by simp (disch := omega) only [stepf,callOf,qop,fop,St.ev,St.put,cd,zd,Value.oneCell',tb_T,TypeDesc.aggB,getD_0,getD_s,Ze,Zd,Zc,Za,Zb,Zr,ZE,ZF,Zf,Zq,Zg,i64_w,Zt,Zs,map_at_l,map_at_i,Zh] <;> exact rfl) ?_)
        refine aops_nil ?_
        exact hK
      refine exq_n ?_
      refine aw_ret ?_
      exact ret_r rfl (resOf_one rfl (by first | rfl | (first | (refine jf ?_; rintro rfl; exact hc4 rfl) | (refine jf ?_; rintro rfl; exact hc2 rfl) | (refine jf ?_; rintro rfl; exact hc0 rfl) | exact jt (take_all_eq hc0 he (by omega)))))
theorem c24 (t : Tr) : ACalls Try.prog 24 [trP t] (.p (bv (decide (t.lv.length ≤ 12 ∧ t.size ≤ 100 ∧ ∀ r ∈ t.lv, r.length ≤ 100)))) := by
  refine acalls_of tb_ok Try.func24 (c := _) rfl (by kernel_rfl) ?_
  intro X hP hX hro hpl
  have hb : tb.Ok X.P := hP ▸ tb_ok
  change AW X _ _ ⟨[], [.agg [i64 t.size, i64 t.leaf, lvls t.lv], .any, .any, .any, .any, .any, .any, .any, .any, .any, .any, .any, .any, .any, .any, .any, .any, .any, .any, .any, .any, .any, .any, .any, .any, .any, .any], [], []⟩
  refine aw_seq ?_
  refine aw_regK hX hb [0, 1] rfl (σ' := ?s1) (fun K hK => ?h1) ?n1
  case h1 =>
    iterate 2 (refine st_op rfl (by simp (disch := omega) only [stepf,callOf,qop,fop,St.ev,St.put,cd,zd,Value.oneCell',tb_T,TypeDesc.aggB,getD_0,getD_s,Ze,Zd,Zc,Za,Zb,Zr,ZE,ZF,Zf,Zq,Zg,i64_w,Zt,Zs,ZM,ZL,Zl,Zo,ZG,ZH,St.addBox,D.boxCells,D.live,t3,ti3,t24,ti24,t26,ti26,t58,ti58,t60,ti60,map_at_l,Zh] <;> exact rfl) ?_)
    refine aops_nil ?_
    exact hK
  refine exq_n ?_
  refine aw_seq ?_
  refine aw_seq ?_
  refine aw_regJ hX hb [0, 1, 2, 3, 4, 5, 6, 7, 8] rfl (ts := [4, 5, 6, 7, 8, 9, 10, 11]) (t := 12) (d := .p (bv ((12 : Int) < t.lv.length ∨ 100 < t.size))) (σ' := ?s2) ?j2 ?h2 ?n2
  case j2 => simp only [St.join,List.foldl,Za,Zb]; exact rfl
  case h2 =>
    iterate 5 (all_goals refine st_op rfl (by simp (disch := omega) only [stepf,callOf,qop,fop,St.ev,St.put,cd,zd,Value.oneCell',tb_T,TypeDesc.aggB,getD_0,getD_s,Ze,Zd,Zc,Za,Zb,Zr,ZE,ZF,Zf,Zq,Zg,i64_w,Zt,Zs,qFieldAddr,fieldOf,Zl,Zo,Zv,Zw,Zj,Zk,Zx,Zy,qLoad,bload,pload,pureAll,D.pure?,ZC,ZD,qLen,qBin,iop,t1,ti1,t2,ti2,t3,ti3,t4,ti4,t5,ti5,t24,ti24,t26,ti26,t58,ti58,t60,ti60,map_at_l,Zh] <;> exact rfl) ?_)
    iterate 3 (all_goals first | (refine st_g1 rfl rfl rfl (by simp (disch := omega) only [stepf,callOf,qop,fop,St.ev,St.put,cd,zd,Value.oneCell',tb_T,TypeDesc.aggB,getD_0,getD_s,Ze,Zd,Zc,Za,Zb,Zr,ZE,ZF,Zf,Zq,Zg,i64_w,Zt,Zs,qFieldAddr,fieldOf,Zl,Zo,Zv,Zw,Zj,Zk,Zx,Zy,qLoad,bload,pload,pureAll,D.pure?,ZC,ZD,qLen,qBin,iop,t1,ti1,t2,ti2,t3,ti3,t4,ti4,t5,ti5,t24,ti24,t26,ti26,t58,ti58,t60,ti60,map_at_l,Zh] <;> exact rfl) ?_) | (first | (refine st_g0 rfl rfl rfl (by simp only [St.put,Za,Zb] <;> exact rfl) ?_) | (refine st_gu rfl rfl rfl (by simp only [St.put,Za,Zb] <;> exact rfl) ?_)) | (refine st_split rfl rfl rfl (by simp only [Za,Zb] <;> exact rfl) (by simp only [Za,Zb] <;> exact rfl) (fun hg => ?_) (fun hg => ?_) <;> (try simp only [Zp,Zi,ZJ,ZK,ne_eq,Zn,Zm,Bool.not_eq_true,Zu] at hg) <;> first | (refine st_g1 rfl rfl rfl (by simp (disch := omega) only [stepf,callOf,qop,fop,St.ev,St.put,cd,zd,Value.oneCell',tb_T,TypeDesc.aggB,getD_0,getD_s,Ze,Zd,Zc,Za,Zb,Zr,ZE,ZF,Zf,Zq,Zg,i64_w,Zt,Zs,qFieldAddr,fieldOf,Zl,Zo,Zv,Zw,Zj,Zk,Zx,Zy,qLoad,bload,pload,pureAll,D.pure?,ZC,ZD,qLen,qBin,iop,t1,ti1,t2,ti2,t3,ti3,t4,ti4,t5,ti5,t24,ti24,t26,ti26,t58,ti58,t60,ti60,map_at_l,Zh] <;> exact rfl) ?_) | (first | (refine st_g0 rfl rfl rfl (by simp only [St.put,Za,Zb] <;> exact rfl) ?_) | (refine st_gu rfl rfl rfl (by simp only [St.put,Za,Zb] <;> exact rfl) ?_))))
    (all_goals refine st_op rfl (by simp (disch := omega) only [stepf,callOf,qop,fop,St.ev,St.put,cd,zd,Value.oneCell',tb_T,TypeDesc.aggB,getD_0,getD_s,Ze,Zd,Zc,Za,Zb,Zr,ZE,ZF,Zf,Zq,Zg,i64_w,Zt,Zs,qFieldAddr,fieldOf,Zl,Zo,Zv,Zw,Zj,Zk,Zx,Zy,qLoad,bload,pload,pureAll,D.pure?,ZC,ZD,qLen,qBin,iop,t1,ti1,t2,ti2,t3,ti3,t4,ti4,t5,ti5,t24,ti24,t26,ti26,t58,ti58,t60,ti60,map_at_l,Zh] <;> exact rfl) ?_)
    all_goals refine aops_nil ?_
    all_goals refine ⟨rfl, ?_, leB_self _, leV_self _, rfl, rfl⟩
    all_goals repeat' (first | exact leL_nil | refine leL_a ?_ | refine leL_r rfl ?_ | refine leL_r ?_ ?_)
    all_goals refine jn ?_
    all_goals ((try simp only [Zp,Zi,ZJ,ZK,Bool.not_eq_true,Zm,Zn,ne_eq,Zf,true_iff,false_iff,iff_true,iff_false] at *) <;> omega)
  refine exq_n ?_
  refine aw_cond _ rfl (fun hc0 => ?_) (fun hc0 => ?_)
  · try simp only [Zp,Zi,ZK,ZJ,ne_eq,Zn,Zm,ZB,ZA,ZI,not_or,not_and,Zu] at hc0
    refine aw_seq ?_
    refine aw_regK hX hb [0] rfl (σ' := ?s3) (fun K hK => ?h3) ?n3
    case h3 =>
      (refine st_op rfl (by simp (disch := omega) only [stepf,callOf,qop,fop,St.ev,St.put,cd,zd,Value.oneCell',tb_T,TypeDesc.aggB,getD_0,getD_s,Ze,Zd,Zc,Za,Zb,Zr,ZE,ZF,Zf,Zq,Zg,i64_w,Zt,Zs,map_at_l,Zh] <;> exact rfl) ?_)
      refine aops_nil ?_
      exact hK
    refine exq_n ?_
    refine aw_ret ?_
    refine exq_r ?_
    exact ret_r rfl (resOf_one rfl (by first | rfl | (first | (refine jf ?_; rintro ⟨h1, h2, _⟩; omega) | (refine jf ?_; intro h; have := h.2.2 _ (getD_mem t.lv [] i (by omega)); omega) | (refine jt ?_; refine ⟨by omega, by omega, ?_⟩; rw [List.take_of_length_le (by omega)] at he; exact he))))
  · try simp only [Zp,Zi,ZK,ZJ,ne_eq,Zn,Zm,ZB,ZA,ZI,not_or,not_and,Zu] at hc0
    refine aw_skip ?_
    refine exq_n ?_
    refine aw_seq ?_
    refine aw_seq ?_
    refine aw_regK hX hb [0] rfl (σ' := ?s4) (fun K hK => ?h4) ?n4
    case h4 =>
      (refine st_op rfl (by simp (disch := omega) only [stepf,callOf,qop,fop,St.ev,St.put,cd,zd,Value.oneCell',tb_T,TypeDesc.aggB,getD_0,getD_s,Ze,Zd,Zc,Za,Zb,Zr,ZE,ZF,Zf,Zq,Zg,i64_w,Zt,Zs,map_at_l,Zh] <;> exact rfl) ?_)
      refine aops_nil ?_
      exact hK
    refine exq_n ?_
    refine aw_block ?_
    refine aw_loop (ι := Nat) (fun i => i ≤ t.lv.length ∧ ∀ r ∈ t.lv.take i, r.length ≤ 100) (fun i => ⟨[], [.any, .ptr 0 0, .any, .p (i64 i), .any, .any, .any, .any, .any, .any, .any, .any, .any, .any, .any, .any, .any, .any, .any, .any, .any, .any, .any, .any, .any, .any, .any], [⟨26, [.p (i64 t.size), .p (i64 t.leaf), .p (lvls t.lv)]⟩], []⟩) (fun i => t.lv.length - i) 0 (by exact ⟨Nat.zero_le _, fun r hr => by simp at hr⟩) (wk_le ⟨rfl, leL_a (leL_r rfl (leL_a (leL_r rfl (leL_a (leL_a (leL_a (leL_a (leL_a (leL_a (leL_a (leL_a (leL_a (leL_a (leL_a (leL_a (leL_a (leL_a (leL_a (leL_a (leL_a (leL_a (leL_a (leL_a (leL_a (leL_a (leL_a (leL_nil))))))))))))))))))))))))))), (leB_r rfl (leL_r rfl (leL_r rfl (leL_r rfl (leL_nil)))) (leB_nil _)), (leV_nil _), rfl, rfl⟩) ?_
    rintro i ⟨hi, he⟩
    refine aw_seq ?_
    refine aw_seq ?_
    refine aw_regK hX hb [0, 1, 2, 3, 4] rfl (σ' := ?s5) (fun K hK => ?h5) ?n5
    case h5 =>
      iterate 5 (refine st_op rfl (by simp (disch := omega) only [stepf,callOf,qop,fop,St.ev,St.put,cd,zd,Value.oneCell',tb_T,TypeDesc.aggB,getD_0,getD_s,Ze,Zd,Zc,Za,Zb,Zr,ZE,ZF,Zf,Zq,Zg,i64_w,Zt,Zs,qFieldAddr,fieldOf,Zl,Zo,Zv,Zw,Zj,Zk,Zx,Zy,qLoad,bload,pload,pureAll,D.pure?,ZC,ZD,qLen,qBin,iop,t1,ti1,t2,ti2,t3,ti3,t24,ti24,t26,ti26,t58,ti58,t60,ti60,map_at_l,Zh] <;> exact rfl) ?_)
      refine aops_nil ?_
      exact hK
    refine exq_n ?_
    refine aw_cond _ rfl (fun hc1 => ?_) (fun hc1 => ?_)
    · try simp only [Zp,Zi,ZK,ZJ,ne_eq,Zn,Zm,ZB,ZA,ZI,not_or,not_and,Zu] at hc1
      refine aw_skip ?_
      refine exq_n ?_
      refine aw_seq ?_
      refine aw_block ?_
      refine aw_seq ?_
      refine aw_regK hX hb [0, 1, 2, 3, 4, 5, 6] rfl (σ' := ?s6) (fun K hK => ?h6) ?n6
      case h6 =>
        iterate 7 (refine st_op rfl (by simp (disch := omega) only [stepf,callOf,qop,fop,St.ev,St.put,cd,zd,Value.oneCell',tb_T,TypeDesc.aggB,getD_0,getD_s,Ze,Zd,Zc,Za,Zb,Zr,ZE,ZF,Zf,Zq,Zg,i64_w,Zt,Zs,qFieldAddr,fieldOf,Zl,Zo,Zv,Zw,Zj,Zk,Zx,Zy,qLoad,bload,pload,pureAll,D.pure?,ZC,ZD,Int.toNat_zero,Int.toNat_one,toNat_pred,toNat_succ,qIndexAddr,ZO,Nat.mul_one,Nat.zero_mul,Zh,qLen,qBin,iop,t1,ti1,t2,ti2,t3,ti3,t5,ti5,t22,ti22,t24,ti24,t26,ti26,t50,ti50,t58,ti58,t60,ti60,map_at_l] <;> exact rfl) ?_)
        refine aops_nil ?_
        exact hK
      refine exq_n ?_
      refine aw_cond _ rfl (fun hc2 => ?_) (fun hc2 => ?_)
      · try simp only [Zp,Zi,ZK,ZJ,ne_eq,Zn,Zm,ZB,ZA,ZI,not_or,not_and,Zu] at hc2
        refine aw_seq ?_
        refine aw_regK hX hb [0] rfl (σ' := ?s7) (fun K hK => ?h7) ?n7
        case h7 =>
          (refine st_op rfl (by simp (disch := omega) only [stepf,callOf,qop,fop,St.ev,St.put,cd,zd,Value.oneCell',tb_T,TypeDesc.aggB,getD_0,getD_s,Ze,Zd,Zc,Za,Zb,Zr,ZE,ZF,Zf,Zq,Zg,i64_w,Zt,Zs,map_at_l,Zh] <;> exact rfl) ?_)
          refine aops_nil ?_
          exact hK
        refine exq_n ?_
        refine aw_ret ?_
        refine exb_r ?_
        refine exq_r ?_
        refine exq_r ?_
        refine exb_r ?_
        refine exq_r ?_
        exact ret_r rfl (resOf_one rfl (by first | rfl | (first | (refine jf ?_; rintro ⟨h1, h2, _⟩; omega) | (refine jf ?_; intro h; have := h.2.2 _ (getD_mem t.lv [] i (by omega)); omega) | (refine jt ?_; refine ⟨by omega, by omega, ?_⟩; rw [List.take_of_length_le (by omega)] at he; exact he))))
      · try simp only [Zp,Zi,ZK,ZJ,ne_eq,Zn,Zm,ZB,ZA,ZI,not_or,not_and,Zu] at hc2
        refine aw_skip ?_
        refine exb_n ?_
        refine exq_n ?_
        refine aw_regK hX hb [0, 1, 2] rfl (σ' := ?s8) (fun K hK => ?h8) ?n8
        case h8 =>
          iterate 3 (refine st_op rfl (by simp (disch := omega) only [stepf,callOf,qop,fop,St.ev,St.put,cd,zd,Value.oneCell',tb_T,TypeDesc.aggB,getD_0,getD_s,Ze,Zd,Zc,Za,Zb,Zr,ZE,ZF,Zf,Zq,Zg,i64_w,Zt,Zs,qBin,iop,t1,ti1,t3,ti3,map_at_l,Zh] <;> exact rfl) ?_)
          refine aops_nil ?_
          exact hK
        refine exq_n ?_
        exact ⟨i + 1, by refine ⟨by omega, fun r hr => ?_⟩; rw [getD_take_succ_l _ i (by omega)] at hr; rcases List.mem_append.1 hr with hr | hr; exact he r hr; simp only [List.mem_singleton] at hr; subst hr; omega, by (try dsimp only); omega, wk_le ⟨rfl, leL_a (leL_r rfl (leL_a (leL_r rfl (leL_a (leL_a (leL_a (leL_a (leL_a (leL_a (leL_a (leL_a (leL_a (leL_a (leL_a (leL_a (leL_a (leL_a (leL_a (leL_a (leL_a (leL_a (leL_a (leL_a (leL_a (leL_a (leL_a (leL_nil))))))))))))))))))))))))))), (leB_r rfl (leL_r rfl (leL_r rfl (leL_r rfl (leL_nil)))) (leB_nil _)), (leV_nil _), rfl, rfl⟩⟩
    · try simp only [Zp,Zi,ZK,ZJ,ne_eq,Zn,Zm,ZB,ZA,ZI,not_or,not_and,Zu] at hc1
      refine aw_exit ?_
      refine exq_e ?_
      refine exq_e ?_
      refine exb_h ?_
      refine exq_n ?_
      refine aw_seq ?_
      refine aw_regK hX hb [0] rfl (σ' := ?s9) (fun K hK => ?h9) ?n9
      case h9 =>
        (refine st_op rfl (by simp (disch := omega) only [stepf,callOf,qop,fop,St.ev,St.put,cd,zd,Value.oneCell',tb_T,TypeDesc.aggB,getD_0,getD_s,Ze,Zd,Zc,Za,Zb,Zr,ZE,ZF,Zf,Zq,Zg,i64_w,Zt,Zs,map_at_l,Zh] <;> exact rfl) ?_)
        refine aops_nil ?_
        exact hK
      refine exq_n ?_
      refine aw_ret ?_
      exact ret_r rfl (resOf_one rfl (by first | rfl | (first | (refine jf ?_; rintro ⟨h1, h2, _⟩; omega) | (refine jf ?_; intro h; have := h.2.2 _ (getD_mem t.lv [] i (by omega)); omega) | (refine jt ?_; refine ⟨by omega, by omega, ?_⟩; rw [List.take_of_length_le (by omega)] at he; exact he))))
theorem c23 (a b : Tr) : ACalls Try.prog 23 [trP a, trP b] (.p (bv (decide (a.size = b.size ∧ a.leaf = b.leaf ∧ a.lv = b.lv)))) := by
  refine acalls_of tb_ok Try.func23 (c := _) rfl (by kernel_rfl) ?_
  intro X hP hX hro hpl
  have hb : tb.Ok X.P := hP ▸ tb_ok
  change AW X _ _ ⟨[], [.agg [i64 a.size, i64 a.leaf, lvls a.lv], .agg [i64 b.size, i64 b.leaf, lvls b.lv], .any, .any, .any, .any, .any, .any, .any, .any, .any, .any, .any, .any, .any, .any, .any, .any, .any, .any, .any, .any, .any, .any], [], []⟩
  refine aw_seq ?_
  refine aw_regK hX hb [0, 1, 2] rfl (σ' := ?s1) (fun K hK => ?h1) ?n1
  case h1 =>
    iterate 3 (refine st_op rfl (by simp (disch := omega) only [stepf,callOf,qop,fop,St.ev,St.put,cd,zd,Value.oneCell',tb_T,TypeDesc.aggB,getD_0,getD_s,Ze,Zd,Zc,Za,Zb,Zr,ZE,ZF,Zf,Zq,Zg,i64_w,Zt,Zs,ZM,ZL,Zl,Zo,ZG,ZH,St.addBox,D.boxCells,D.live,t1,ti1,t3,ti3,t24,ti24,t26,ti26,t58,ti58,t60,ti60] <;> exact rfl) ?_)
    refine aops_nil ?_
    exact hK
  refine exq_n ?_
  refine aw_seq ?_
  refine aw_regJ hX hb [0, 1, 2, 3, 4, 5, 6, 7, 8, 9, 10, 11, 12, 13, 14, 15, 16, 17, 18, 19] rfl (ts := [5, 6, 7, 8, 9, 10, 11, 12, 13, 14, 15, 16, 17, 18, 19, 20, 21, 22, 23]) (t := 4) (d := .p (bv (a.size = b.size ∧ a.leaf = b.leaf ∧ a.lv = b.lv))) (σ' := ?s2) ?j2 ?h2 ?n2
  case j2 => simp only [St.join,List.foldl,Za,Zb]; exact rfl
  case h2 =>
    iterate 6 (all_goals refine st_op rfl (by simp (disch := omega) only [stepf,callOf,qop,fop,St.ev,St.put,cd,zd,Value.oneCell',tb_T,TypeDesc.aggB,getD_0,getD_s,Ze,Zd,Zc,Za,Zb,Zr,ZE,ZF,Zf,Zq,Zg,i64_w,Zt,Zs,qFieldAddr,fieldOf,Zl,Zo,Zv,Zw,Zj,Zk,Zx,Zy,qLoad,bload,pload,pureAll,D.pure?,ZC,ZD,qBin,iop,pvAll,D.pv?,t1,ti1,t2,ti2,t3,ti3,t5,ti5,t22,ti22,t24,ti24,t26,ti26,t50,ti50,t58,ti58,t60,ti60,t71,ti71] <;> exact rfl) ?_)
    iterate 5 (all_goals first | (refine st_g1 rfl rfl rfl (by simp (disch := omega) only [stepf,callOf,qop,fop,St.ev,St.put,cd,zd,Value.oneCell',tb_T,TypeDesc.aggB,getD_0,getD_s,Ze,Zd,Zc,Za,Zb,Zr,ZE,ZF,Zf,Zq,Zg,i64_w,Zt,Zs,qFieldAddr,fieldOf,Zl,Zo,Zv,Zw,Zj,Zk,Zx,Zy,qLoad,bload,pload,pureAll,D.pure?,ZC,ZD,qBin,iop,pvAll,D.pv?,t1,ti1,t2,ti2,t3,ti3,t5,ti5,t22,ti22,t24,ti24,t26,ti26,t50,ti50,t58,ti58,t60,ti60,t71,ti71] <;> exact rfl) ?_) | (first | (refine st_g0 rfl rfl rfl (by simp only [St.put,Za,Zb] <;> exact rfl) ?_) | (refine st_gu rfl rfl rfl (by simp only [St.put,Za,Zb] <;> exact rfl) ?_)) | (refine st_split rfl rfl rfl (by simp only [Za,Zb] <;> exact rfl) (by simp only [Za,Zb] <;> exact rfl) (fun hg => ?_) (fun hg => ?_) <;> (try simp only [Zp,Zi,ZJ,ZK,ne_eq,Zn,Zm,Bool.not_eq_true,Zu] at hg) <;> first | (refine st_g1 rfl rfl rfl (by simp (disch := omega) only [stepf,callOf,qop,fop,St.ev,St.put,cd,zd,Value.oneCell',tb_T,TypeDesc.aggB,getD_0,getD_s,Ze,Zd,Zc,Za,Zb,Zr,ZE,ZF,Zf,Zq,Zg,i64_w,Zt,Zs,qFieldAddr,fieldOf,Zl,Zo,Zv,Zw,Zj,Zk,Zx,Zy,qLoad,bload,pload,pureAll,D.pure?,ZC,ZD,qBin,iop,pvAll,D.pv?,t1,ti1,t2,ti2,t3,ti3,t5,ti5,t22,ti22,t24,ti24,t26,ti26,t50,ti50,t58,ti58,t60,ti60,t71,ti71] <;> exact rfl) ?_) | (first | (refine st_g0 rfl rfl rfl (by simp only [St.put,Za,Zb] <;> exact rfl) ?_) | (refine st_gu rfl rfl rfl (by simp only [St.put,Za,Zb] <;> exact rfl) ?_))))
    iterate 2 (all_goals refine st_op rfl (by simp (disch := omega) only [stepf,callOf,qop,fop,St.ev,St.put,cd,zd,Value.oneCell',tb_T,TypeDesc.aggB,getD_0,getD_s,Ze,Zd,Zc,Za,Zb,Zr,ZE,ZF,Zf,Zq,Zg,i64_w,Zt,Zs,qFieldAddr,fieldOf,Zl,Zo,Zv,Zw,Zj,Zk,Zx,Zy,qLoad,bload,pload,pureAll,D.pure?,ZC,ZD,qBin,iop,pvAll,D.pv?,t1,ti1,t2,ti2,t3,ti3,t5,ti5,t22,ti22,t24,ti24,t26,ti26,t50,ti50,t58,ti58,t60,ti60,t71,ti71] <;> exact rfl) ?_)
    iterate 4 (all_goals first | (refine st_g1 rfl rfl rfl (by simp (disch := omega) only [stepf,callOf,qop,fop,St.ev,St.put,cd,zd,Value.oneCell',tb_T,TypeDesc.aggB,getD_0,getD_s,Ze,Zd,Zc,Za,Zb,Zr,ZE,ZF,Zf,Zq,Zg,i64_w,Zt,Zs,qFieldAddr,fieldOf,Zl,Zo,Zv,Zw,Zj,Zk,Zx,Zy,qLoad,bload,pload,pureAll,D.pure?,ZC,ZD,qBin,iop,pvAll,D.pv?,t1,ti1,t2,ti2,t3,ti3,t5,ti5,t22,ti22,t24,ti24,t26,ti26,t50,ti50,t58,ti58,t60,ti60,t71,ti71] <;> exact rfl) ?_) | (first | (refine st_g0 rfl rfl rfl (by simp only [St.put,Za,Zb] <;> exact rfl) ?_) | (refine st_gu rfl rfl rfl (by simp only [St.put,Za,Zb] <;> exact rfl) ?_)) | (refine st_split rfl rfl rfl (by simp only [Za,Zb] <;> exact rfl) (by simp only [Za,Zb] <;> exact rfl) (fun hg => ?_) (fun hg => ?_) <;> (try simp only [Zp,Zi,ZJ,ZK,ne_eq,Zn,Zm,Bool.not_eq_true,Zu] at hg) <;> first | (refine st_g1 rfl rfl rfl (by simp (disch := omega) only [stepf,callOf,qop,fop,St.ev,St.put,cd,zd,Value.oneCell',tb_T,TypeDesc.aggB,getD_0,getD_s,Ze,Zd,Zc,Za,Zb,Zr,ZE,ZF,Zf,Zq,Zg,i64_w,Zt,Zs,qFieldAddr,fieldOf,Zl,Zo,Zv,Zw,Zj,Zk,Zx,Zy,qLoad,bload,pload,pureAll,D.pure?,ZC,ZD,qBin,iop,pvAll,D.pv?,t1,ti1,t2,ti2,t3,ti3,t5,ti5,t22,ti22,t24,ti24,t26,ti26,t50,ti50,t58,ti58,t60,ti60,t71,ti71] <;> exact rfl) ?_) | (first | (refine st_g0 rfl rfl rfl (by simp only [St.put,Za,Zb] <;> exact rfl) ?_) | (refine st_gu rfl rfl rfl (by simp only [St.put,Za,Zb] <;> exact rfl) ?_))))
    all_goals first | (refine st_gc rfl rfl rfl (by simp only [callOf,St.ev,getD_0,getD_s,pvAll,D.pv?,ZG,ZH,zd,cd,Value.oneCell',Zr] <;> exact rfl) (acK hP (c71 _ _)) (by simp only [St.put,Za,Zb] <;> exact rfl) ?_) | (first | (refine st_g0 rfl rfl rfl (by simp only [St.put,Za,Zb] <;> exact rfl) ?_) | (refine st_gu rfl rfl rfl (by simp only [St.put,Za,Zb] <;> exact rfl) ?_)) | (refine st_split rfl rfl rfl (by simp only [Za,Zb] <;> exact rfl) (by simp only [Za,Zb] <;> exact rfl) (fun hg => ?_) (fun hg => ?_) <;> (try simp only [Zp,Zi,ZJ,ZK,ne_eq,Zn,Zm,Bool.not_eq_true,Zu] at hg) <;> first | (refine st_gc rfl rfl rfl (by simp only [callOf,St.ev,getD_0,getD_s,pvAll,D.pv?,ZG,ZH,zd,cd,Value.oneCell',Zr] <;> exact rfl) (acK hP (c71 _ _)) (by simp only [St.put,Za,Zb] <;> exact rfl) ?_) | (first | (refine st_g0 rfl rfl rfl (by simp only [St.put,Za,Zb] <;> exact rfl) ?_) | (refine st_gu rfl rfl rfl (by simp only [St.put,Za,Zb] <;> exact rfl) ?_)))
    iterate 2 (all_goals refine st_op rfl (by simp (disch := omega) only [stepf,callOf,qop,fop,St.ev,St.put,cd,zd,Value.oneCell',tb_T,TypeDesc.aggB,getD_0,getD_s,Ze,Zd,Zc,Za,Zb,Zr,ZE,ZF,Zf,Zq,Zg,i64_w,Zt,Zs,qFieldAddr,fieldOf,Zl,Zo,Zv,Zw,Zj,Zk,Zx,Zy,qLoad,bload,pload,pureAll,D.pure?,ZC,ZD,qBin,iop,pvAll,D.pv?,t1,ti1,t2,ti2,t3,ti3,t5,ti5,t22,ti22,t24,ti24,t26,ti26,t50,ti50,t58,ti58,t60,ti60,t71,ti71] <;> exact rfl) ?_)
    all_goals refine aops_nil ?_
    all_goals refine ⟨rfl, ?_, leB_self _, leV_self _, rfl, rfl⟩
    all_goals repeat' (first | exact leL_nil | refine leL_a ?_ | refine leL_r rfl ?_ | refine leL_r ?_ ?_)
    all_goals refine jn ?_
    all_goals ((try simp only [Zp,Zi,ZJ,Bool.not_true,Bool.not_false,Zm,Zf] at *) <;> simp_all)
  refine exq_n ?_
  refine aw_ret ?_
  exact ret_r rfl (resOf_one rfl rfl)
end Go.Proofs.Ytldcoekbgfaomaa
end
section
namespace Go.Proofs.Ytldcoekbgfaomaa
open Go.RowKit
set_option maxRecDepth 20000
set_option maxHeartbeats 4000000
attribute [local irreducible] AOps AOpsD AW
theorem c34 (t : Tr) : ACalls Try.prog 34 [trP t] (.p (i64 (refChk t))) := by
  obtain ⟨s, f, lv⟩ := t
  refine acalls_of tb_ok Try.func34 (c := _) rfl (by kernel_rfl) ?_
  intro X hP hX hro hpl
  have hb : tb.Ok X.P := hP ▸ tb_ok
  change AW X _ _ ⟨[], [.agg [i64 s, i64 f, lvls lv], .any, .any, .any, .any, .any, .any, .any, .any, .any, .any, .any, .any, .any, .any, .any, .any, .any, .any, .any, .any, .any, .any, .any, .any, .any, .any, .any, .any, .any, .any, .any, .any, .any, .any, .any, .any, .any, .any, .any, .any, .any, .any, .any, .any, .any, .any, .any, .any, .any, .any, .any, .any, .any, .any, .any, .any, .any, .any, .any, .any, .any, .any, .any, .any, .any, .any, .any, .any, .any, .any, .any, .any, .any, .any, .any, .any, .any, .any, .any, .any, .any, .any, .any, .any, .any, .any, .any], [], []⟩
  refine aw_seq ?_
  refine aw_regK hX hb [0, 1] rfl (σ' := ?s1) (fun K hK => ?h1) ?n1
  case h1 =>
    iterate 2 (refine st_op rfl (by simp (disch := omega) only [stepf,callOf,qop,fop,St.ev,St.put,cd,zd,Value.oneCell',tb_T,TypeDesc.aggB,getD_0,getD_s,Ze,Zd,Zc,Za,Zb,Zr,ZE,ZF,Zf,Zq,Zg,i64_w,Zt,Zs,ZM,ZL,Zl,Zo,ZG,ZH,St.addBox,D.boxCells,D.live,t3,ti3,t24,ti24,t26,ti26,t58,ti58,t60,ti60,map_at_l,Zh,quo_w] <;> exact rfl) ?_)
    refine aops_nil ?_
    exact hK
  refine exq_n ?_
  refine aw_seq ?_
  refine aw_seq ?_
  refine aw_regJ hX hb [0, 1, 2, 3, 4, 5, 6, 7] rfl (ts := [5, 6, 7, 8, 9, 10, 11]) (t := 12) (d := .p (bv (s < 1 ∨ 4096 < s))) (σ' := ?s2) ?j2 ?h2 ?n2
  case j2 => simp only [St.join,List.foldl,Za,Zb]; exact rfl
  case h2 =>
    iterate 4 (all_goals refine st_op rfl (by simp (disch := omega) only [stepf,callOf,qop,fop,St.ev,St.put,cd,zd,Value.oneCell',tb_T,TypeDesc.aggB,getD_0,getD_s,Ze,Zd,Zc,Za,Zb,Zr,ZE,ZF,Zf,Zq,Zg,i64_w,Zt,Zs,qFieldAddr,fieldOf,Zl,Zo,Zv,Zw,Zj,Zk,Zx,Zy,qLoad,bload,pload,pureAll,D.pure?,ZC,ZD,qBin,iop,t1,ti1,t3,ti3,t5,ti5,t24,ti24,t26,ti26,t58,ti58,t60,ti60,map_at_l,Zh,quo_w] <;> exact rfl) ?_)
    iterate 3 (all_goals first | (refine st_g1 rfl rfl rfl (by simp (disch := omega) only [stepf,callOf,qop,fop,St.ev,St.put,cd,zd,Value.oneCell',tb_T,TypeDesc.aggB,getD_0,getD_s,Ze,Zd,Zc,Za,Zb,Zr,ZE,ZF,Zf,Zq,Zg,i64_w,Zt,Zs,qFieldAddr,fieldOf,Zl,Zo,Zv,Zw,Zj,Zk,Zx,Zy,qLoad,bload,pload,pureAll,D.pure?,ZC,ZD,qBin,iop,t1,ti1,t3,ti3,t5,ti5,t24,ti24,t26,ti26,t58,ti58,t60,ti60,map_at_l,Zh,quo_w] <;> exact rfl) ?_) | (first | (refine st_g0 rfl rfl rfl (by simp only [St.put,Za,Zb] <;> exact rfl) ?_) | (refine st_gu rfl rfl rfl (by simp only [St.put,Za,Zb] <;> exact rfl) ?_)) | (refine st_split rfl rfl rfl (by simp only [Za,Zb] <;> exact rfl) (by simp only [Za,Zb] <;> exact rfl) (fun hg => ?_) (fun hg => ?_) <;> (try simp only [Zp,Zi,ZJ,ZK,ne_eq,Zn,Zm,Bool.not_eq_true,Zu] at hg) <;> first | (refine st_g1 rfl rfl rfl (by simp (disch := omega) only [stepf,callOf,qop,fop,St.ev,St.put,cd,zd,Value.oneCell',tb_T,TypeDesc.aggB,getD_0,getD_s,Ze,Zd,Zc,Za,Zb,Zr,ZE,ZF,Zf,Zq,Zg,i64_w,Zt,Zs,qFieldAddr,fieldOf,Zl,Zo,Zv,Zw,Zj,Zk,Zx,Zy,qLoad,bload,pload,pureAll,D.pure?,ZC,ZD,qBin,iop,t1,ti1,t3,ti3,t5,ti5,t24,ti24,t26,ti26,t58,ti58,t60,ti60,map_at_l,Zh,quo_w] <;> exact rfl) ?_) | (first | (refine st_g0 rfl rfl rfl (by simp only [St.put,Za,Zb] <;> exact rfl) ?_) | (refine st_gu rfl rfl rfl (by simp only [St.put,Za,Zb] <;> exact rfl) ?_))))
    (all_goals refine st_op rfl (by simp (disch := omega) only [stepf,callOf,qop,fop,St.ev,St.put,cd,zd,Value.oneCell',tb_T,TypeDesc.aggB,getD_0,getD_s,Ze,Zd,Zc,Za,Zb,Zr,ZE,ZF,Zf,Zq,Zg,i64_w,Zt,Zs,qFieldAddr,fieldOf,Zl,Zo,Zv,Zw,Zj,Zk,Zx,Zy,qLoad,bload,pload,pureAll,D.pure?,ZC,ZD,qBin,iop,t1,ti1,t3,ti3,t5,ti5,t24,ti24,t26,ti26,t58,ti58,t60,ti60,map_at_l,Zh,quo_w] <;> exact rfl) ?_)
    all_goals refine aops_nil ?_
    all_goals refine ⟨rfl, ?_, leB_self _, leV_self _, rfl, rfl⟩
    all_goals repeat' (first | exact leL_nil | refine leL_a ?_ | refine leL_r rfl ?_ | refine leL_r ?_ ?_)
    all_goals refine jn ?_
    all_goals ((try simp only [Zp,Zi,ZJ,ZK,Bool.not_eq_true,Zm,Zn,ne_eq,Zf,true_iff,false_iff,iff_true,iff_false] at *) <;> omega)
  refine exq_n ?_
  refine aw_cond _ rfl (fun hc0 => ?_) (fun hc0 => ?_)
  · try simp only [Zp,Zi,ZK,ZJ,ne_eq,Zn,Zm,ZB,ZA,ZI,not_or,not_and,Zu] at hc0
    refine aw_seq ?_
    refine aw_regK hX hb [0] rfl (σ' := ?s3) (fun K hK => ?h3) ?n3
    case h3 =>
      (refine st_op rfl (by simp (disch := omega) only [stepf,callOf,qop,fop,St.ev,St.put,cd,zd,Value.oneCell',tb_T,TypeDesc.aggB,getD_0,getD_s,Ze,Zd,Zc,Za,Zb,Zr,ZE,ZF,Zf,Zq,Zg,i64_w,Zt,Zs,t2,ti2,map_at_l,Zh,quo_w] <;> exact rfl) ?_)
      refine aops_nil ?_
      exact hK
    refine exq_n ?_
    refine aw_ret ?_
    refine exq_r ?_
    exact ret_r rfl (resOf_one rfl (by first | rfl | (first | exact congrArg (fun n => D.p (i64 n)) (refChk_2 hc0).symm | exact congrArg (fun n => D.p (i64 n)) (refChk_1 (by dsimp only; omega) hc1).symm | exact congrArg (fun n => D.p (i64 n)) (refChk_3 (t := ⟨S, F, lv⟩) (by dsimp only; omega) (by dsimp only; omega) (by show shT S F lv = false; rw [shT, hs]; exact sh_bad (by omega) hc3)).symm | exact congrArg (fun n => D.p (i64 n)) (refChk_3 (t := ⟨S, F, lv⟩) (by dsimp only; omega) (by dsimp only; omega) (by show shT S F lv = false; rw [shT, hs, (show i = lv.length by omega), sh_end]; exact decide_eq_false (not_not_intro hc4))).symm | exact congrArg (fun n => D.p (i64 n)) (refChk_22 (t := ⟨S, F, lv⟩) (by dsimp only; omega) (by dsimp only; omega) hsh hc5).symm | exact congrArg (fun n => D.p (i64 n)) (refChk_0 (t := ⟨S, F, lv⟩) (by dsimp only; omega) (by dsimp only; omega) hsh hc5).symm)))
  · try simp only [Zp,Zi,ZK,ZJ,ne_eq,Zn,Zm,ZB,ZA,ZI,not_or,not_and,Zu] at hc0
    refine aw_skip ?_
    refine exq_n ?_
    refine aw_seq ?_
    refine aw_seq ?_
    refine aw_regJ hX hb [0, 1, 2, 3, 4, 5, 6, 7] rfl (ts := [13, 14, 15, 16, 17, 18, 19]) (t := 20) (d := .p (bv (f < 1 ∨ 4096 < f))) (σ' := ?s4) ?j4 ?h4 ?n4
    case j4 => simp only [St.join,List.foldl,Za,Zb]; exact rfl
    case h4 =>
      iterate 4 (all_goals refine st_op rfl (by simp (disch := omega) only [stepf,callOf,qop,fop,St.ev,St.put,cd,zd,Value.oneCell',tb_T,TypeDesc.aggB,getD_0,getD_s,Ze,Zd,Zc,Za,Zb,Zr,ZE,ZF,Zf,Zq,Zg,i64_w,Zt,Zs,qFieldAddr,fieldOf,Zl,Zo,Zv,Zw,Zj,Zk,Zx,Zy,qLoad,bload,pload,pureAll,D.pure?,ZC,ZD,qBin,iop,t1,ti1,t3,ti3,t24,ti24,t26,ti26,t58,ti58,t60,ti60,map_at_l,Zh,quo_w] <;> exact rfl) ?_)
      iterate 3 (all_goals first | (refine st_g1 rfl rfl rfl (by simp (disch := omega) only [stepf,callOf,qop,fop,St.ev,St.put,cd,zd,Value.oneCell',tb_T,TypeDesc.aggB,getD_0,getD_s,Ze,Zd,Zc,Za,Zb,Zr,ZE,ZF,Zf,Zq,Zg,i64_w,Zt,Zs,qFieldAddr,fieldOf,Zl,Zo,Zv,Zw,Zj,Zk,Zx,Zy,qLoad,bload,pload,pureAll,D.pure?,ZC,ZD,qBin,iop,t1,ti1,t3,ti3,t24,ti24,t26,ti26,t58,ti58,t60,ti60,map_at_l,Zh,quo_w] <;> exact rfl) ?_) | (first | (refine st_g0 rfl rfl rfl (by simp only [St.put,Za,Zb] <;> exact rfl) ?_) | (refine st_gu rfl rfl rfl (by simp only [St.put,Za,Zb] <;> exact rfl) ?_)) | (refine st_split rfl rfl rfl (by simp only [Za,Zb] <;> exact rfl) (by simp only [Za,Zb] <;> exact rfl) (fun hg => ?_) (fun hg => ?_) <;> (try simp only [Zp,Zi,ZJ,ZK,ne_eq,Zn,Zm,Bool.not_eq_true,Zu] at hg) <;> first | (refine st_g1 rfl rfl rfl (by simp (disch := omega) only [stepf,callOf,qop,fop,St.ev,St.put,cd,zd,Value.oneCell',tb_T,TypeDesc.aggB,getD_0,getD_s,Ze,Zd,Zc,Za,Zb,Zr,ZE,ZF,Zf,Zq,Zg,i64_w,Zt,Zs,qFieldAddr,fieldOf,Zl,Zo,Zv,Zw,Zj,Zk,Zx,Zy,qLoad,bload,pload,pureAll,D.pure?,ZC,ZD,qBin,iop,t1,ti1,t3,ti3,t24,ti24,t26,ti26,t58,ti58,t60,ti60,map_at_l,Zh,quo_w] <;> exact rfl) ?_) | (first | (refine st_g0 rfl rfl rfl (by simp only [St.put,Za,Zb] <;> exact rfl) ?_) | (refine st_gu rfl rfl rfl (by simp only [St.put,Za,Zb] <;> exact rfl) ?_))))
      (all_goals refine st_op rfl (by simp (disch := omega) only [stepf,callOf,qop,fop,St.ev,St.put,cd,zd,Value.oneCell',tb_T,TypeDesc.aggB,getD_0,getD_s,Ze,Zd,Zc,Za,Zb,Zr,ZE,ZF,Zf,Zq,Zg,i64_w,Zt,Zs,qFieldAddr,fieldOf,Zl,Zo,Zv,Zw,Zj,Zk,Zx,Zy,qLoad,bload,pload,pureAll,D.pure?,ZC,ZD,qBin,iop,t1,ti1,t3,ti3,t24,ti24,t26,ti26,t58,ti58,t60,ti60,map_at_l,Zh,quo_w] <;> exact rfl) ?_)
      all_goals refine aops_nil ?_
      all_goals refine ⟨rfl, ?_, leB_self _, leV_self _, rfl, rfl⟩
      all_goals repeat' (first | exact leL_nil | refine leL_a ?_ | refine leL_r rfl ?_ | refine leL_r ?_ ?_)
      all_goals refine jn ?_
      all_goals ((try simp only [Zp,Zi,ZJ,ZK,Bool.not_eq_true,Zm,Zn,ne_eq,Zf,true_iff,false_iff,iff_true,iff_false] at *) <;> omega)
    refine exq_n ?_
    refine aw_cond _ rfl (fun hc1 => ?_) (fun hc1 => ?_)
    · try simp only [Zp,Zi,ZK,ZJ,ne_eq,Zn,Zm,ZB,ZA,ZI,not_or,not_and,Zu] at hc1
      refine aw_seq ?_
      refine aw_regK hX hb [0] rfl (σ' := ?s5) (fun K hK => ?h5) ?n5
      case h5 =>
        (refine st_op rfl (by simp (disch := omega) only [stepf,callOf,qop,fop,St.ev,St.put,cd,zd,Value.oneCell',tb_T,TypeDesc.aggB,getD_0,getD_s,Ze,Zd,Zc,Za,Zb,Zr,ZE,ZF,Zf,Zq,Zg,i64_w,Zt,Zs,t1,ti1,map_at_l,Zh,quo_w] <;> exact rfl) ?_)
        refine aops_nil ?_
        exact hK
      refine exq_n ?_
      refine aw_ret ?_
      refine exq_r ?_
      exact ret_r rfl (resOf_one rfl (by first | rfl | (first | exact congrArg (fun n => D.p (i64 n)) (refChk_2 hc0).symm | exact congrArg (fun n => D.p (i64 n)) (refChk_1 (by dsimp only; omega) hc1).symm | exact congrArg (fun n => D.p (i64 n)) (refChk_3 (t := ⟨S, F, lv⟩) (by dsimp only; omega) (by dsimp only; omega) (by show shT S F lv = false; rw [shT, hs]; exact sh_bad (by omega) hc3)).symm | exact congrArg (fun n => D.p (i64 n)) (refChk_3 (t := ⟨S, F, lv⟩) (by dsimp only; omega) (by dsimp only; omega) (by show shT S F lv = false; rw [shT, hs, (show i = lv.length by omega), sh_end]; exact decide_eq_false (not_not_intro hc4))).symm | exact congrArg (fun n => D.p (i64 n)) (refChk_22 (t := ⟨S, F, lv⟩) (by dsimp only; omega) (by dsimp only; omega) hsh hc5).symm | exact congrArg (fun n => D.p (i64 n)) (refChk_0 (t := ⟨S, F, lv⟩) (by dsimp only; omega) (by dsimp only; omega) hsh hc5).symm)))
    · try simp only [Zp,Zi,ZK,ZJ,ne_eq,Zn,Zm,ZB,ZA,ZI,not_or,not_and,Zu] at hc1
      obtain ⟨S, hS⟩ : ∃ S : Nat, s = S := ⟨s.toNat, by omega⟩
      subst hS
      obtain ⟨F, hF⟩ : ∃ F : Nat, f = F := ⟨f.toNat, by omega⟩
      subst hF
      have hnl := nLeaves_le (s := S) (n := F) (by omega)
      refine aw_wk (Wk.refl _ _) ?_
      refine aw_skip ?_
      refine exq_n ?_
      refine aw_seq ?_
      refine aw_regK hX hb [0, 1, 2, 3, 4, 5] rfl (σ' := ?s6) (fun K hK => ?h6) ?n6
      case h6 =>
        iterate 4 (refine st_op rfl (by simp (disch := omega) only [stepf,callOf,qop,fop,St.ev,St.put,cd,zd,Value.oneCell',tb_T,TypeDesc.aggB,getD_0,getD_s,Ze,Zd,Zc,Za,Zb,Zr,ZE,ZF,Zf,Zq,Zg,i64_w,Zt,Zs,qFieldAddr,fieldOf,Zl,Zo,Zv,Zw,Zj,Zk,Zx,Zy,qLoad,bload,pload,pureAll,D.pure?,ZC,ZD,pvAll,D.pv?,t1,ti1,t3,ti3,t5,ti5,t22,ti22,t24,ti24,t26,ti26,t50,ti50,t58,ti58,t60,ti60,map_at_l,Zh,quo_w] <;> exact rfl) ?_)
        refine st_call rfl (by simp only [callOf,St.ev,getD_0,getD_s,pvAll,D.pv?,ZG,ZH,zd,cd,Value.oneCell',Zr] <;> exact rfl) (acK hP (c68 S F (by omega) (by omega))) (by simp only [St.put,Za,Zb] <;> exact rfl) ?_
        (refine st_op rfl (by simp (disch := omega) only [stepf,callOf,qop,fop,St.ev,St.put,cd,zd,Value.oneCell',tb_T,TypeDesc.aggB,getD_0,getD_s,Ze,Zd,Zc,Za,Zb,Zr,ZE,ZF,Zf,Zq,Zg,i64_w,Zt,Zs,qFieldAddr,fieldOf,Zl,Zo,Zv,Zw,Zj,Zk,Zx,Zy,qLoad,bload,pload,pureAll,D.pure?,ZC,ZD,pvAll,D.pv?,t1,ti1,t3,ti3,t5,ti5,t22,ti22,t24,ti24,t26,ti26,t50,ti50,t58,ti58,t60,ti60,map_at_l,Zh,quo_w] <;> exact rfl) ?_)
        refine aops_nil ?_
        exact hK
      refine exq_n ?_
      refine aw_seq ?_
      refine aw_seq ?_
      refine aw_regK hX hb [0] rfl (σ' := ?s7) (fun K hK => ?h7) ?n7
      case h7 =>
        (refine st_op rfl (by simp (disch := omega) only [stepf,callOf,qop,fop,St.ev,St.put,cd,zd,Value.oneCell',tb_T,TypeDesc.aggB,getD_0,getD_s,Ze,Zd,Zc,Za,Zb,Zr,ZE,ZF,Zf,Zq,Zg,i64_w,Zt,Zs,map_at_l,Zh,quo_w] <;> exact rfl) ?_)
        refine aops_nil ?_
        exact hK
      refine exq_n ?_
      refine aw_block ?_
      refine aw_loop (ι := Nat × Nat) (fun p => p.1 ≤ lv.length ∧ p.2 ≤ 4096 ∧ sh false (nLeaves S F) lv = sh (before lv p.1) p.2 (lv.drop p.1)) (fun p => ⟨[], [.any, .ptr 0 0, .any, .p (i64 p.2), .p (i64 p.1), .any, .any, .any, .any, .any, .any, .any, .any, .any, .any, .any, .any, .any, .any, .any, .any, .any, .any, .any, .any, .any, .any, .any, .any, .any, .any, .any, .any, .any, .any, .any, .any, .any, .any, .any, .any, .any, .any, .any, .any, .any, .any, .any, .any, .any, .any, .any, .any, .any, .any, .any, .any, .any, .any, .any, .any, .any, .any, .any, .any, .any, .any, .any, .any, .any, .any, .any, .any, .any, .any, .any, .any, .any, .any, .any, .any, .any, .any, .any, .any, .any, .any, .any], [⟨26, [.p (i64 (S : Int)), .p (i64 (F : Int)), .p (lvls lv)]⟩], []⟩) (fun p => lv.length - p.1) (0, nLeaves S F) (by exact ⟨Nat.zero_le _, by dsimp only; omega, rfl⟩) (wk_le ⟨rfl, leL_a (leL_r (by first | rfl | (refine congrArg (fun k => D.p (i64 k)) ?_; dsimp only; omega)) (leL_a (leL_r (by first | rfl | (refine congrArg (fun k => D.p (i64 k)) ?_; dsimp only; omega)) (leL_r (by first | rfl | (refine congrArg (fun k => D.p (i64 k)) ?_; dsimp only; omega)) (leL_a (leL_a (leL_a (leL_a (leL_a (leL_a (leL_a (leL_a (leL_a (leL_a (leL_a (leL_a (leL_a (leL_a (leL_a (leL_a (leL_a (leL_a (leL_a (leL_a (leL_a (leL_a (leL_a (leL_a (leL_a (leL_a (leL_a (leL_a (leL_a (leL_a (leL_a (leL_a (leL_a (leL_a (leL_a (leL_a (leL_a (leL_a (leL_a (leL_a (leL_a (leL_a (leL_a (leL_a (leL_a (leL_a (leL_a (leL_a (leL_a (leL_a (leL_a (leL_a (leL_a (leL_a (leL_a (leL_a (leL_a (leL_a (leL_a (leL_a (leL_a (leL_a (leL_a (leL_a (leL_a (leL_a (leL_a (leL_a (leL_a (leL_a (leL_a (leL_a (leL_a (leL_a (leL_a (leL_a (leL_a (leL_a (leL_a (leL_a (leL_a (leL_a (leL_a (leL_nil)))))))))))))))))))))))))))))))))))))))))))))))))))))))))))))))))))))))))))))))))))))))), (leB_r rfl (leL_r (by first | rfl | (refine congrArg (fun k => D.p (i64 k)) ?_; dsimp only; omega)) (leL_r (by first | rfl | (refine congrArg (fun k => D.p (i64 k)) ?_; dsimp only; omega)) (leL_r (by first | rfl | (refine congrArg (fun k => D.p (i64 k)) ?_; dsimp only; omega)) (leL_nil)))) (leB_nil _)), (leV_nil _), rfl, rfl⟩) ?_
      rintro ⟨i, n⟩ ⟨hi, hn, hs⟩
      dsimp only at hi hn hs ⊢
      refine aw_seq ?_
      refine aw_seq ?_
      refine aw_regK hX hb [0, 1, 2, 3, 4] rfl (σ' := ?s8) (fun K hK => ?h8) ?n8
      case h8 =>
        iterate 5 (refine st_op rfl (by simp (disch := omega) only [stepf,callOf,qop,fop,St.ev,St.put,cd,zd,Value.oneCell',tb_T,TypeDesc.aggB,getD_0,getD_s,Ze,Zd,Zc,Za,Zb,Zr,ZE,ZF,Zf,Zq,Zg,i64_w,Zt,Zs,qFieldAddr,fieldOf,Zl,Zo,Zv,Zw,Zj,Zk,Zx,Zy,qLoad,bload,pload,pureAll,D.pure?,ZC,ZD,qLen,qBin,iop,t1,ti1,t2,ti2,t3,ti3,t4,ti4,t24,ti24,t26,ti26,t27,ti27,t58,ti58,t60,ti60,map_at_l,Zh,quo_w] <;> exact rfl) ?_)
        refine aops_nil ?_
        exact hK
      refine exq_n ?_
      refine aw_cond _ rfl (fun hc2 => ?_) (fun hc2 => ?_)
      · try simp only [Zp,Zi,ZK,ZJ,ne_eq,Zn,Zm,ZB,ZA,ZI,not_or,not_and,Zu] at hc2
        refine aw_skip ?_
        refine exq_n ?_
        refine aw_seq ?_
        refine aw_block ?_
        refine aw_seq ?_
        refine aw_seq ?_
        refine aw_len (t := 28) rfl fun hll => ?_
        unfold maxLen at hll
        refine aw_regJ hX hb [0, 1, 2, 3, 4, 5, 6, 7, 8, 9, 10, 11, 12, 13, 14, 15, 16, 17, 18, 19, 20, 21] rfl (ts := [33, 34, 35, 36, 37, 38, 39, 40, 41, 42, 43, 44, 45, 46, 47, 48, 49, 50, 51, 52, 53]) (t := 54) (d := .p (bv ((lv.getD i []).length ≠ n ∨ (0 < i ∧ (lv.getD (i - 1) []).length = 1)))) (σ' := ?s9) ?j9 ?h9 ?n9
        case j9 => simp only [St.join,List.foldl,Za,Zb]; exact rfl
        case h9 =>
          iterate 9 (all_goals refine st_op rfl (by simp (disch := omega) only [stepf,callOf,qop,fop,St.ev,St.put,cd,zd,Value.oneCell',tb_T,TypeDesc.aggB,getD_0,getD_s,Ze,Zd,Zc,Za,Zb,Zr,ZE,ZF,Zf,Zq,Zg,i64_w,Zt,Zs,qFieldAddr,fieldOf,Zl,Zo,Zv,Zw,Zj,Zk,Zx,Zy,qLoad,bload,pload,pureAll,D.pure?,ZC,ZD,Int.toNat_zero,Int.toNat_one,toNat_pred,toNat_succ,qIndexAddr,ZO,Nat.mul_one,Nat.zero_mul,Zh,qLen,qBin,iop,t1,ti1,t2,ti2,t3,ti3,t4,ti4,t5,ti5,t22,ti22,t24,ti24,t26,ti26,t35,ti35,t40,ti40,t47,ti47,t50,ti50,t58,ti58,t60,ti60,map_at_l,quo_w] <;> exact rfl) ?_)
          iterate 12 (all_goals first | (refine st_g1 rfl rfl rfl (by simp (disch := omega) only [stepf,callOf,qop,fop,St.ev,St.put,cd,zd,Value.oneCell',tb_T,TypeDesc.aggB,getD_0,getD_s,Ze,Zd,Zc,Za,Zb,Zr,ZE,ZF,Zf,Zq,Zg,i64_w,Zt,Zs,qFieldAddr,fieldOf,Zl,Zo,Zv,Zw,Zj,Zk,Zx,Zy,qLoad,bload,pload,pureAll,D.pure?,ZC,ZD,Int.toNat_zero,Int.toNat_one,toNat_pred,toNat_succ,qIndexAddr,ZO,Nat.mul_one,Nat.zero_mul,Zh,qLen,qBin,iop,t1,ti1,t2,ti2,t3,ti3,t4,ti4,t5,ti5,t22,ti22,t24,ti24,t26,ti26,t35,ti35,t40,ti40,t47,ti47,t50,ti50,t58,ti58,t60,ti60,map_at_l,quo_w] <;> exact rfl) ?_) | (first | (refine st_g0 rfl rfl rfl (by simp only [St.put,Za,Zb] <;> exact rfl) ?_) | (refine st_gu rfl rfl rfl (by simp only [St.put,Za,Zb] <;> exact rfl) ?_)) | (refine st_split rfl rfl rfl (by simp only [Za,Zb] <;> exact rfl) (by simp only [Za,Zb] <;> exact rfl) (fun hg => ?_) (fun hg => ?_) <;> (try simp only [Zp,Zi,ZJ,ZK,ne_eq,Zn,Zm,Bool.not_eq_true,Zu] at hg) <;> first | (refine st_g1 rfl rfl rfl (by simp (disch := omega) only [stepf,callOf,qop,fop,St.ev,St.put,cd,zd,Value.oneCell',tb_T,TypeDesc.aggB,getD_0,getD_s,Ze,Zd,Zc,Za,Zb,Zr,ZE,ZF,Zf,Zq,Zg,i64_w,Zt,Zs,qFieldAddr,fieldOf,Zl,Zo,Zv,Zw,Zj,Zk,Zx,Zy,qLoad,bload,pload,pureAll,D.pure?,ZC,ZD,Int.toNat_zero,Int.toNat_one,toNat_pred,toNat_succ,qIndexAddr,ZO,Nat.mul_one,Nat.zero_mul,Zh,qLen,qBin,iop,t1,ti1,t2,ti2,t3,ti3,t4,ti4,t5,ti5,t22,ti22,t24,ti24,t26,ti26,t35,ti35,t40,ti40,t47,ti47,t50,ti50,t58,ti58,t60,ti60,map_at_l,quo_w] <;> exact rfl) ?_) | (first | (refine st_g0 rfl rfl rfl (by simp only [St.put,Za,Zb] <;> exact rfl) ?_) | (refine st_gu rfl rfl rfl (by simp only [St.put,Za,Zb] <;> exact rfl) ?_))))
          (all_goals refine st_op rfl (by simp (disch := omega) only [stepf,callOf,qop,fop,St.ev,St.put,cd,zd,Value.oneCell',tb_T,TypeDesc.aggB,getD_0,getD_s,Ze,Zd,Zc,Za,Zb,Zr,ZE,ZF,Zf,Zq,Zg,i64_w,Zt,Zs,qFieldAddr,fieldOf,Zl,Zo,Zv,Zw,Zj,Zk,Zx,Zy,qLoad,bload,pload,pureAll,D.pure?,ZC,ZD,Int.toNat_zero,Int.toNat_one,toNat_pred,toNat_succ,qIndexAddr,ZO,Nat.mul_one,Nat.zero_mul,Zh,qLen,qBin,iop,t1,ti1,t2,ti2,t3,ti3,t4,ti4,t5,ti5,t22,ti22,t24,ti24,t26,ti26,t35,ti35,t40,ti40,t47,ti47,t50,ti50,t58,ti58,t60,ti60,map_at_l,quo_w] <;> exact rfl) ?_)
          all_goals refine aops_nil ?_
          all_goals refine ⟨rfl, ?_, leB_self _, leV_self _, rfl, rfl⟩
          all_goals repeat' (first | exact leL_nil | refine leL_a ?_ | refine leL_r rfl ?_ | refine leL_r ?_ ?_)
          all_goals refine jn ?_
          all_goals ((try simp only [Zp,Zi,ZJ,ZK,Bool.not_eq_true,Zm,Zn,ne_eq,Zf,true_iff,false_iff,iff_true,iff_false] at *) <;> omega)
        refine exq_n ?_
        refine aw_cond _ rfl (fun hc3 => ?_) (fun hc3 => ?_)
        · try simp only [Zp,Zi,ZK,ZJ,ne_eq,Zn,Zm,ZB,ZA,ZI,not_or,not_and,Zu] at hc3
          refine aw_seq ?_
          refine aw_regK hX hb [0] rfl (σ' := ?s10) (fun K hK => ?h10) ?n10
          case h10 =>
            (refine st_op rfl (by simp (disch := omega) only [stepf,callOf,qop,fop,St.ev,St.put,cd,zd,Value.oneCell',tb_T,TypeDesc.aggB,getD_0,getD_s,Ze,Zd,Zc,Za,Zb,Zr,ZE,ZF,Zf,Zq,Zg,i64_w,Zt,Zs,t3,ti3,map_at_l,Zh,quo_w] <;> exact rfl) ?_)
            refine aops_nil ?_
            exact hK
          refine exq_n ?_
          refine aw_ret ?_
          refine exq_r ?_
          refine exb_r ?_
          refine exq_r ?_
          refine exq_r ?_
          refine exb_r ?_
          refine exq_r ?_
          exact ret_r rfl (resOf_one rfl (by first | rfl | (first | exact congrArg (fun n => D.p (i64 n)) (refChk_2 hc0).symm | exact congrArg (fun n => D.p (i64 n)) (refChk_1 (by dsimp only; omega) hc1).symm | exact congrArg (fun n => D.p (i64 n)) (refChk_3 (t := ⟨S, F, lv⟩) (by dsimp only; omega) (by dsimp only; omega) (by show shT S F lv = false; rw [shT, hs]; exact sh_bad (by omega) hc3)).symm | exact congrArg (fun n => D.p (i64 n)) (refChk_3 (t := ⟨S, F, lv⟩) (by dsimp only; omega) (by dsimp only; omega) (by show shT S F lv = false; rw [shT, hs, (show i = lv.length by omega), sh_end]; exact decide_eq_false (not_not_intro hc4))).symm | exact congrArg (fun n => D.p (i64 n)) (refChk_22 (t := ⟨S, F, lv⟩) (by dsimp only; omega) (by dsimp only; omega) hsh hc5).symm | exact congrArg (fun n => D.p (i64 n)) (refChk_0 (t := ⟨S, F, lv⟩) (by dsimp only; omega) (by dsimp only; omega) hsh hc5).symm)))
        · try simp only [Zp,Zi,ZK,ZJ,ne_eq,Zn,Zm,ZB,ZA,ZI,not_or,not_and,Zu] at hc3
          refine aw_skip ?_
          refine exq_n ?_
          refine aw_regK hX hb [0, 1, 2, 3] rfl (σ' := ?s11) (fun K hK => ?h11) ?n11
          case h11 =>
            iterate 4 (refine st_op rfl (by simp (disch := omega) only [stepf,callOf,qop,fop,St.ev,St.put,cd,zd,Value.oneCell',tb_T,TypeDesc.aggB,getD_0,getD_s,Ze,Zd,Zc,Za,Zb,Zr,ZE,ZF,Zf,Zq,Zg,i64_w,Zt,Zs,qBin,iop,t1,ti1,t2,ti2,t3,ti3,map_at_l,Zh,quo_w] <;> exact rfl) ?_)
            refine aops_nil ?_
            exact hK
          refine exb_n ?_
          refine exq_n ?_
          refine aw_regK hX hb [0, 1, 2] rfl (σ' := ?s12) (fun K hK => ?h12) ?n12
          case h12 =>
            iterate 3 (refine st_op rfl (by simp (disch := omega) only [stepf,callOf,qop,fop,St.ev,St.put,cd,zd,Value.oneCell',tb_T,TypeDesc.aggB,getD_0,getD_s,Ze,Zd,Zc,Za,Zb,Zr,ZE,ZF,Zf,Zq,Zg,i64_w,Zt,Zs,qBin,iop,t1,ti1,t3,ti3,t4,ti4,map_at_l,Zh,quo_w] <;> exact rfl) ?_)
            refine aops_nil ?_
            exact hK
          refine exq_n ?_
          exact ⟨(i + 1, (n + 1) / 2), by exact ⟨by dsimp only; omega, by dsimp only; omega, by dsimp only; rw [hs]; exact sh_step (by omega) (by omega) (by omega)⟩, by (try dsimp only); omega, wk_le ⟨rfl, leL_a (leL_r (by first | rfl | (refine congrArg (fun k => D.p (i64 k)) ?_; dsimp only; omega)) (leL_a (leL_r (by first | rfl | (refine congrArg (fun k => D.p (i64 k)) ?_; dsimp only; omega)) (leL_r (by first | rfl | (refine congrArg (fun k => D.p (i64 k)) ?_; dsimp only; omega)) (leL_a (leL_a (leL_a (leL_a (leL_a (leL_a (leL_a (leL_a (leL_a (leL_a (leL_a (leL_a (leL_a (leL_a (leL_a (leL_a (leL_a (leL_a (leL_a (leL_a (leL_a (leL_a (leL_a (leL_a (leL_a (leL_a (leL_a (leL_a (leL_a (leL_a (leL_a (leL_a (leL_a (leL_a (leL_a (leL_a (leL_a (leL_a (leL_a (leL_a (leL_a (leL_a (leL_a (leL_a (leL_a (leL_a (leL_a (leL_a (leL_a (leL_a (leL_a (leL_a (leL_a (leL_a (leL_a (leL_a (leL_a (leL_a (leL_a (leL_a (leL_a (leL_a (leL_a (leL_a (leL_a (leL_a (leL_a (leL_a (leL_a (leL_a (leL_a (leL_a (leL_a (leL_a (leL_a (leL_a (leL_a (leL_a (leL_a (leL_a (leL_a (leL_a (leL_a (leL_nil)))))))))))))))))))))))))))))))))))))))))))))))))))))))))))))))))))))))))))))))))))))))), (leB_r rfl (leL_r (by first | rfl | (refine congrArg (fun k => D.p (i64 k)) ?_; dsimp only; omega)) (leL_r (by first | rfl | (refine congrArg (fun k => D.p (i64 k)) ?_; dsimp only; omega)) (leL_r (by first | rfl | (refine congrArg (fun k => D.p (i64 k)) ?_; dsimp only; omega)) (leL_nil)))) (leB_nil _)), (leV_nil _), rfl, rfl⟩⟩
      · try simp only [Zp,Zi,ZK,ZJ,ne_eq,Zn,Zm,ZB,ZA,ZI,not_or,not_and,Zu] at hc2
        refine aw_exit ?_
        refine exq_e ?_
        refine exq_e ?_
        refine exb_h ?_
        refine exq_n ?_
        refine aw_seq ?_
        refine aw_seq ?_
        refine aw_len (t := 28) rfl fun hll => ?_
        unfold maxLen at hll
        refine aw_regJ hX hb [0, 1, 2, 3, 4, 5, 6, 7, 8, 9, 10, 11, 12, 13, 14, 15] rfl (ts := [58, 59, 60, 61, 62, 63, 64, 65, 66, 67, 68, 69, 70, 71, 72]) (t := 73) (d := .p (bv (lv.length = 0 ∨ (lv.getD (lv.length - 1) []).length ≠ 1))) (σ' := ?s13) ?j13 ?h13 ?n13
        case j13 => simp only [St.join,List.foldl,Za,Zb]; exact rfl
        case h13 =>
          iterate 5 (all_goals refine st_op rfl (by simp (disch := omega) only [stepf,callOf,qop,fop,St.ev,St.put,cd,zd,Value.oneCell',tb_T,TypeDesc.aggB,getD_0,getD_s,Ze,Zd,Zc,Za,Zb,Zr,ZE,ZF,Zf,Zq,Zg,i64_w,Zt,Zs,qFieldAddr,fieldOf,Zl,Zo,Zv,Zw,Zj,Zk,Zx,Zy,qLoad,bload,pload,pureAll,D.pure?,ZC,ZD,qLen,qBin,iop,Int.toNat_zero,Int.toNat_one,toNat_pred,toNat_succ,qIndexAddr,ZO,Nat.mul_one,Nat.zero_mul,Zh,t1,ti1,t2,ti2,t3,ti3,t5,ti5,t22,ti22,t24,ti24,t26,ti26,t50,ti50,t58,ti58,t60,ti60,t63,ti63,t69,ti69,t71,ti71,map_at_l,quo_w] <;> exact rfl) ?_)
          iterate 10 (all_goals first | (refine st_g1 rfl rfl rfl (by simp (disch := omega) only [stepf,callOf,qop,fop,St.ev,St.put,cd,zd,Value.oneCell',tb_T,TypeDesc.aggB,getD_0,getD_s,Ze,Zd,Zc,Za,Zb,Zr,ZE,ZF,Zf,Zq,Zg,i64_w,Zt,Zs,qFieldAddr,fieldOf,Zl,Zo,Zv,Zw,Zj,Zk,Zx,Zy,qLoad,bload,pload,pureAll,D.pure?,ZC,ZD,qLen,qBin,iop,Int.toNat_zero,Int.toNat_one,toNat_pred,toNat_succ,qIndexAddr,ZO,Nat.mul_one,Nat.zero_mul,Zh,t1,ti1,t2,ti2,t3,ti3,t5,ti5,t22,ti22,t24,ti24,t26,ti26,t50,ti50,t58,ti58,t60,ti60,t63,ti63,t69,ti69,t71,ti71,map_at_l,quo_w] <;> exact rfl) ?_) | (first | (refine st_g0 rfl rfl rfl (by simp only [St.put,Za,Zb] <;> exact rfl) ?_) | (refine st_gu rfl rfl rfl (by simp only [St.put,Za,Zb] <;> exact rfl) ?_)) | (refine st_split rfl rfl rfl (by simp only [Za,Zb] <;> exact rfl) (by simp only [Za,Zb] <;> exact rfl) (fun hg => ?_) (fun hg => ?_) <;> (try simp only [Zp,Zi,ZJ,ZK,ne_eq,Zn,Zm,Bool.not_eq_true,Zu] at hg) <;> first | (refine st_g1 rfl rfl rfl (by simp (disch := omega) only [stepf,callOf,qop,fop,St.ev,St.put,cd,zd,Value.oneCell',tb_T,TypeDesc.aggB,getD_0,getD_s,Ze,Zd,Zc,Za,Zb,Zr,ZE,ZF,Zf,Zq,Zg,i64_w,Zt,Zs,qFieldAddr,fieldOf,Zl,Zo,Zv,Zw,Zj,Zk,Zx,Zy,qLoad,bload,pload,pureAll,D.pure?,ZC,ZD,qLen,qBin,iop,Int.toNat_zero,Int.toNat_one,toNat_pred,toNat_succ,qIndexAddr,ZO,Nat.mul_one,Nat.zero_mul,Zh,t1,ti1,t2,ti2,t3,ti3,t5,ti5,t22,ti22,t24,ti24,t26,ti26,t50,ti50,t58,ti58,t60,ti60,t63,ti63,t69,ti69,t71,ti71,map_at_l,quo_w] <;> exact rfl) ?_) | (first | (refine st_g0 rfl rfl rfl (by simp only [St.put,Za,Zb] <;> exact rfl) ?_) | (refine st_gu rfl rfl rfl (by simp only [St.put,Za,Zb] <;> exact rfl) ?_))))
          (all_goals refine st_op rfl (by simp (disch := omega) only [stepf,callOf,qop,fop,St.ev,St.put,cd,zd,Value.oneCell',tb_T,TypeDesc.aggB,getD_0,getD_s,Ze,Zd,Zc,Za,Zb,Zr,ZE,ZF,Zf,Zq,Zg,i64_w,Zt,Zs,qFieldAddr,fieldOf,Zl,Zo,Zv,Zw,Zj,Zk,Zx,Zy,qLoad,bload,pload,pureAll,D.pure?,ZC,ZD,qLen,qBin,iop,Int.toNat_zero,Int.toNat_one,toNat_pred,toNat_succ,qIndexAddr,ZO,Nat.mul_one,Nat.zero_mul,Zh,t1,ti1,t2,ti2,t3,ti3,t5,ti5,t22,ti22,t24,ti24,t26,ti26,t50,ti50,t58,ti58,t60,ti60,t63,ti63,t69,ti69,t71,ti71,map_at_l,quo_w] <;> exact rfl) ?_)
          all_goals refine aops_nil ?_
          all_goals refine ⟨rfl, ?_, leB_self _, leV_self _, rfl, rfl⟩
          all_goals repeat' (first | exact leL_nil | refine leL_a ?_ | refine leL_r rfl ?_ | refine leL_r ?_ ?_)
          all_goals refine jn ?_
          all_goals ((try simp only [Zp,Zi,ZJ,ZK,Bool.not_eq_true,Zm,Zn,ne_eq,Zf,true_iff,false_iff,iff_true,iff_false] at *) <;> omega)
        refine exq_n ?_
        refine aw_cond _ rfl (fun hc4 => ?_) (fun hc4 => ?_)
        · try simp only [Zp,Zi,ZK,ZJ,ne_eq,Zn,Zm,ZB,ZA,ZI,not_or,not_and,Zu] at hc4
          refine aw_seq ?_
          refine aw_regK hX hb [0] rfl (σ' := ?s14) (fun K hK => ?h14) ?n14
          case h14 =>
            (refine st_op rfl (by simp (disch := omega) only [stepf,callOf,qop,fop,St.ev,St.put,cd,zd,Value.oneCell',tb_T,TypeDesc.aggB,getD_0,getD_s,Ze,Zd,Zc,Za,Zb,Zr,ZE,ZF,Zf,Zq,Zg,i64_w,Zt,Zs,t3,ti3,map_at_l,Zh,quo_w] <;> exact rfl) ?_)
            refine aops_nil ?_
            exact hK
          refine exq_n ?_
          refine aw_ret ?_
          refine exq_r ?_
          exact ret_r rfl (resOf_one rfl (by first | rfl | (first | exact congrArg (fun n => D.p (i64 n)) (refChk_2 hc0).symm | exact congrArg (fun n => D.p (i64 n)) (refChk_1 (by dsimp only; omega) hc1).symm | exact congrArg (fun n => D.p (i64 n)) (refChk_3 (t := ⟨S, F, lv⟩) (by dsimp only; omega) (by dsimp only; omega) (by show shT S F lv = false; rw [shT, hs]; exact sh_bad (by omega) hc3)).symm | exact congrArg (fun n => D.p (i64 n)) (refChk_3 (t := ⟨S, F, lv⟩) (by dsimp only; omega) (by dsimp only; omega) (by show shT S F lv = false; rw [shT, hs, (show i = lv.length by omega), sh_end]; exact decide_eq_false (not_not_intro hc4))).symm | exact congrArg (fun n => D.p (i64 n)) (refChk_22 (t := ⟨S, F, lv⟩) (by dsimp only; omega) (by dsimp only; omega) hsh hc5).symm | exact congrArg (fun n => D.p (i64 n)) (refChk_0 (t := ⟨S, F, lv⟩) (by dsimp only; omega) (by dsimp only; omega) hsh hc5).symm)))
        · try simp only [Zp,Zi,ZK,ZJ,ne_eq,Zn,Zm,ZB,ZA,ZI,not_or,not_and,Zu] at hc4
          refine aw_skip ?_
          refine exq_n ?_
          refine aw_seq ?_
          refine aw_seq ?_
          have hsh : shT S F lv = true := by rw [shT, hs, (show i = lv.length by omega), sh_end, decide_eq_true (by rintro (h | h); exact hc4.1 h; exact h hc4.2)]
          have hhd := sh_head hsh
          refine aw_regD hX hb (try_mixed hP) [(0, true), (1, true), (2, true), (3, true), (4, true), (5, true), (6, true), (7, true), (10, true), (11, true), (8, false), (9, true), (12, false), (13, true)] (by kernel_rfl) (σ' := ?s15) (fun K hK => ?h15) ?n15
          case h15 =>
            iterate 10 (refine sd_q rfl (by simp (disch := omega) only [qop,fop,St.ev,St.put,cd,zd,Value.oneCell',tb_T,TypeDesc.aggB,getD_0,getD_s,Ze,Zd,Zc,Za,Zb,Zr,ZE,ZF,Zf,Zq,Zg,i64_w,Zt,Zs,qFieldAddr,fieldOf,Zl,Zo,Zv,Zw,Zj,Zk,Zx,Zy,qLoad,bload,pload,pureAll,D.pure?,ZC,ZD,Int.toNat_zero,Int.toNat_one,toNat_pred,toNat_succ,qIndexAddr,ZO,Nat.mul_one,Nat.zero_mul,Zh,pvAll,D.pv?,qField,Bool.not_true,Bool.not_false,t1,ti1,t2,ti2,t3,ti3,t4,ti4,t5,ti5,t24,ti24,t26,ti26,t35,ti35,t40,ti40,t58,ti58,t60,ti60,t71,ti71,t75,ti75,t77,ti77,t87,ti87,t88,ti88,t90,ti90,map_at_l,quo_w] <;> exact rfl) (by simp only [St.put,Za,Zb] <;> exact rfl) ?_)
            refine sd_call rfl (by simp only [callOf,St.ev,getD_0,getD_s,pvAll,D.pv?,ZG,ZH,zd,cd,Value.oneCell',Zr] <;> exact rfl) (acK hP (c70 _ _ (lv.getD 0 []) (by omega))) (by simp only [St.put,Za,Zb] <;> exact rfl) ?_
            (refine sd_q rfl (by simp (disch := omega) only [qop,fop,St.ev,St.put,cd,zd,Value.oneCell',tb_T,TypeDesc.aggB,getD_0,getD_s,Ze,Zd,Zc,Za,Zb,Zr,ZE,ZF,Zf,Zq,Zg,i64_w,Zt,Zs,qFieldAddr,fieldOf,Zl,Zo,Zv,Zw,Zj,Zk,Zx,Zy,qLoad,bload,pload,pureAll,D.pure?,ZC,ZD,Int.toNat_zero,Int.toNat_one,toNat_pred,toNat_succ,qIndexAddr,ZO,Nat.mul_one,Nat.zero_mul,Zh,pvAll,D.pv?,qField,Bool.not_true,Bool.not_false,t1,ti1,t2,ti2,t3,ti3,t4,ti4,t5,ti5,t24,ti24,t26,ti26,t35,ti35,t40,ti40,t58,ti58,t60,ti60,t71,ti71,t75,ti75,t77,ti77,t87,ti87,t88,ti88,t90,ti90,map_at_l,quo_w] <;> exact rfl) (by simp only [St.put,Za,Zb] <;> exact rfl) ?_)
            refine sd_call rfl (by simp only [callOf,St.ev,getD_0,getD_s,pvAll,D.pv?,ZG,ZH,zd,cd,Value.oneCell',Zr] <;> exact rfl) (acK hP (c71 _ _)) (by simp only [St.put,Za,Zb] <;> exact rfl) ?_
            (refine sd_q rfl (by simp (disch := omega) only [qop,fop,St.ev,St.put,cd,zd,Value.oneCell',tb_T,TypeDesc.aggB,getD_0,getD_s,Ze,Zd,Zc,Za,Zb,Zr,ZE,ZF,Zf,Zq,Zg,i64_w,Zt,Zs,qFieldAddr,fieldOf,Zl,Zo,Zv,Zw,Zj,Zk,Zx,Zy,qLoad,bload,pload,pureAll,D.pure?,ZC,ZD,Int.toNat_zero,Int.toNat_one,toNat_pred,toNat_succ,qIndexAddr,ZO,Nat.mul_one,Nat.zero_mul,Zh,pvAll,D.pv?,qField,Bool.not_true,Bool.not_false,t1,ti1,t2,ti2,t3,ti3,t4,ti4,t5,ti5,t24,ti24,t26,ti26,t35,ti35,t40,ti40,t58,ti58,t60,ti60,t71,ti71,t75,ti75,t77,ti77,t87,ti87,t88,ti88,t90,ti90,map_at_l,quo_w] <;> exact rfl) (by simp only [St.put,Za,Zb] <;> exact rfl) ?_)
            refine aopsd_nil ?_
            exact hK
          refine exq_n ?_
          refine aw_cond _ rfl (fun hc5 => ?_) (fun hc5 => ?_)
          · try simp only [Zp,Zi,ZK,ZJ,ne_eq,Zn,Zm,ZB,ZA,ZI,not_or,not_and,Zu] at hc5
            refine aw_seq ?_
            refine aw_regK hX hb [0] rfl (σ' := ?s16) (fun K hK => ?h16) ?n16
            case h16 =>
              (refine st_op rfl (by simp (disch := omega) only [stepf,callOf,qop,fop,St.ev,St.put,cd,zd,Value.oneCell',tb_T,TypeDesc.aggB,getD_0,getD_s,Ze,Zd,Zc,Za,Zb,Zr,ZE,ZF,Zf,Zq,Zg,i64_w,Zt,Zs,t5,ti5,t22,ti22,t50,ti50,map_at_l,Zh,quo_w] <;> exact rfl) ?_)
              refine aops_nil ?_
              exact hK
            refine exq_n ?_
            refine aw_ret ?_
            refine exq_r ?_
            exact ret_r rfl (resOf_one rfl (by first | rfl | (first | exact congrArg (fun n => D.p (i64 n)) (refChk_2 hc0).symm | exact congrArg (fun n => D.p (i64 n)) (refChk_1 (by dsimp only; omega) hc1).symm | exact congrArg (fun n => D.p (i64 n)) (refChk_3 (t := ⟨S, F, lv⟩) (by dsimp only; omega) (by dsimp only; omega) (by show shT S F lv = false; rw [shT, hs]; exact sh_bad (by omega) hc3)).symm | exact congrArg (fun n => D.p (i64 n)) (refChk_3 (t := ⟨S, F, lv⟩) (by dsimp only; omega) (by dsimp only; omega) (by show shT S F lv = false; rw [shT, hs, (show i = lv.length by omega), sh_end]; exact decide_eq_false (not_not_intro hc4))).symm | exact congrArg (fun n => D.p (i64 n)) (refChk_22 (t := ⟨S, F, lv⟩) (by dsimp only; omega) (by dsimp only; omega) hsh hc5).symm | exact congrArg (fun n => D.p (i64 n)) (refChk_0 (t := ⟨S, F, lv⟩) (by dsimp only; omega) (by dsimp only; omega) hsh hc5).symm)))
          · try simp only [Zp,Zi,ZK,ZJ,ne_eq,Zn,Zm,ZB,ZA,ZI,not_or,not_and,Zu] at hc5
            refine aw_skip ?_
            refine exq_n ?_
            refine aw_seq ?_
            refine aw_regK hX hb [0] rfl (σ' := ?s17) (fun K hK => ?h17) ?n17
            case h17 =>
              (refine st_op rfl (by simp (disch := omega) only [stepf,callOf,qop,fop,St.ev,St.put,cd,zd,Value.oneCell',tb_T,TypeDesc.aggB,getD_0,getD_s,Ze,Zd,Zc,Za,Zb,Zr,ZE,ZF,Zf,Zq,Zg,i64_w,Zt,Zs,map_at_l,Zh,quo_w] <;> exact rfl) ?_)
              refine aops_nil ?_
              exact hK
            refine exq_n ?_
            refine aw_ret ?_
            exact ret_r rfl (resOf_one rfl (by first | rfl | (first | exact congrArg (fun n => D.p (i64 n)) (refChk_2 hc0).symm | exact congrArg (fun n => D.p (i64 n)) (refChk_1 (by dsimp only; omega) hc1).symm | exact congrArg (fun n => D.p (i64 n)) (refChk_3 (t := ⟨S, F, lv⟩) (by dsimp only; omega) (by dsimp only; omega) (by show shT S F lv = false; rw [shT, hs]; exact sh_bad (by omega) hc3)).symm | exact congrArg (fun n => D.p (i64 n)) (refChk_3 (t := ⟨S, F, lv⟩) (by dsimp only; omega) (by dsimp only; omega) (by show shT S F lv = false; rw [shT, hs, (show i = lv.length by omega), sh_end]; exact decide_eq_false (not_not_intro hc4))).symm | exact congrArg (fun n => D.p (i64 n)) (refChk_22 (t := ⟨S, F, lv⟩) (by dsimp only; omega) (by dsimp only; omega) hsh hc5).symm | exact congrArg (fun n => D.p (i64 n)) (refChk_0 (t := ⟨S, F, lv⟩) (by dsimp only; omega) (by dsimp only; omega) hsh hc5).symm)))
end Go.Proofs.Ytldcoekbgfaomaa
end
