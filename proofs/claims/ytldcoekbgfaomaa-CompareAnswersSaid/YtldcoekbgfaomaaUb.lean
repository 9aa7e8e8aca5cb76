/- The walks of the code that the statement reaches, and the plain laws behind them, part Ub. No conditions. -/
import Derived.IntWalk
import Derived.Test.YtldcoekbgfaomaaProg
import Derived.Laws.StructEq
import Derived.Test.YtldcoekbgfaomaaChecked
import Derived.Test.YtldcoekbgfaomaaUa
set_option linter.unusedVariables false
set_option linter.unusedSimpArgs false
section
namespace Go.Proofs.Ytldcoekbgfaomaa
open Go.RowKit
open Classical
/-! ### One after the other -/
/-- What an operation that calls nothing leaves. -/
noncomputable def iA (b : Tb) (σ : St) (dst : Option Tmp) (op : Op) : Option St := match aA σ op with
 | some _ => none
 | none => match qop b σ op with
  | some d => some (σ.put dst d)
  | none => fop b σ dst op
section
variable {P : Program} {b : Tb} {ops : Array Oper} {i : Nat} {rest : List Nat} {σ σ' : St} {K : St → Prop} {dst : Option Tmp} {op : Op} {ty : TypeId} {pos : String} {af : Array Edge}
theorem dQ {o : Oper} (h : iA b σ o.dst o.op = some σ') (hk : K σ') : AOp P b o σ K := by
 unfold iA at h
 unfold AOp
 cases hc : aA σ o.op with
 | some p => rw [hc] at h; cases h
 | none =>
  rw [hc] at h
  simp only at h ⊢
  cases hq : qop b σ o.op with
  | some d => rw [hq] at h; simp only [Option.some.injEq] at h; subst h; exact hk
  | none => rw [hq] at h; simp only at h ⊢; rw [h]; exact hk
/-- An operation. -/
theorem kA (ho : ops[i]? = some ⟨dst,op,ty,pos,af,none⟩) (h : iA b σ dst op = some σ') (hk : kE P b ops rest σ' K) : kE P b ops (i :: rest) σ K := by
 rw [kE,ho]
 exact .inl (dQ (o := ⟨dst,op,ty,pos,af,none⟩) h hk)
/-- A call. -/
theorem mD (ho : ops[i]? = some ⟨dst,op,ty,pos,af,none⟩) {f : FuncId} {ds : List PV} {r : D} (h : aA σ op = some (f,ds)) (hr : ACalls P f ds r) (he : σ.put dst r = σ')
  (hk : kE P b ops rest σ' K) : kE P b ops (i :: rest) σ K := by
 subst he
 rw [kE,ho]
 refine Or.inl ?_
 unfold AOp
 simp only [h]
 exact .inl ⟨r,hr,hk⟩
/-- An operation under a guard: both ways. -/
theorem fIA {j t : Nat} {w x : Bool} (ho : ops[i]? = some ⟨dst,op,ty,pos,af,some (j,w)⟩) (hj : (ops[j]?).bind (·.dst) = some t) (hx : σ.slots.getD t .any = .p (.v (.bool x)))
  (h1 : x = w → ∃ σ',iA b σ dst op = some σ' ∧ kE P b ops rest σ' K) (h2 : x = !w → kE P b ops rest (σ.put dst (.tup [])) K) : kE P b ops (i :: rest) σ K := by
 rw [kE,ho]
 simp only [gd,hj,hx]
 by_cases hxw : x = w
 ·obtain ⟨σ',h,hk⟩ := h1 hxw
  rw [show (x == w) = true by simp [hxw]]
  exact .inl (dQ (o := ⟨dst,op,ty,pos,af,some (j,w)⟩) h hk)
 ·rw [show (x == w) = false by simp [hxw]]
  exact h2 (by cases x <;> cases w <;> simp_all)
theorem lC {j t : Nat} {w : Bool} (ho : ops[i]? = some ⟨dst,op,ty,pos,af,some (j,w)⟩) (hj : (ops[j]?).bind (·.dst) = some t) (hx : σ.slots.getD t .any = .p (.v (.bool w)))
  (h : iA b σ dst op = some σ') (hk : kE P b ops rest σ' K) : kE P b ops (i :: rest) σ K :=
 fIA ho hj hx (fun _ => ⟨σ',h,hk⟩) (fun h => by cases w <;> cases h)
theorem eC {j t : Nat} {w : Bool} (ho : ops[i]? = some ⟨dst,op,ty,pos,af,some (j,w)⟩) (hj : (ops[j]?).bind (·.dst) = some t) (hx : σ.slots.getD t .any = .p (.v (.bool (!w))))
  (he : σ.put dst (.tup []) = σ') (hk : kE P b ops rest σ' K) : kE P b ops (i :: rest) σ K := by
 subst he
 exact fIA ho hj hx (fun h => by cases w <;> cases h) (fun _ => hk)
/-- A guard that is not known: both ways. -/
theorem cC {j t : Nat} {w x : Bool} (ho : ops[i]? = some ⟨dst,op,ty,pos,af,some (j,w)⟩) (hj : (ops[j]?).bind (·.dst) = some t) (hx : σ.slots[t]? = some (.p (.v (.bool x))))
  {l1 l2 : List D} (e1 : σ.slots.set t (.p (.v (.bool true))) = l1) (e2 : σ.slots.set t (.p (.v (.bool false))) = l2)
  (h1 : x = true → kE P b ops (i :: rest) ⟨σ.df,l1,σ.boxes,σ.vecs⟩ K) (h2 : x = false → kE P b ops (i :: rest) ⟨σ.df,l2,σ.boxes,σ.vecs⟩ K) : kE P b ops (i :: rest) σ K := by
 subst e1; subst e2
 have hs : σ.slots.set t (.p (.v (.bool x))) = σ.slots := by
  apply List.ext_getElem?
  intro k
  rw [List.getElem?_set]
  split
  ·rename_i hk
   subst hk
   rw [hx]
   have := (List.getElem?_eq_some_iff.1 hx).1
   simp [this]
  ·rfl
 have hσ : (⟨σ.df,σ.slots.set t (.p (.v (.bool x))),σ.boxes,σ.vecs⟩ : St) = σ := by rw [hs]
 cases x with
 | true => have := h1 rfl; rw [hσ] at this; exact this
 | false => have := h2 rfl; rw [hσ] at this; exact this
theorem eL {j t : Nat} {w : Bool} (ho : ops[i]? = some ⟨dst,op,ty,pos,af,some (j,w)⟩) (hj : (ops[j]?).bind (·.dst) = some t) (hx : σ.slots.getD t .any = .p (.v (.bool w)))
  {f : FuncId} {ds : List PV} {r : D} (h : aA σ op = some (f,ds)) (hr : ACalls P f ds r) (he : σ.put dst r = σ') (hk : kE P b ops rest σ' K) : kE P b ops (i :: rest) σ K := by
 subst he
 rw [kE,ho]
 simp only [gd,hj,hx,beq_self_eq_true]
 refine Or.inl ?_
 unfold AOp
 simp only [h]
 exact .inl ⟨r,hr,hk⟩
/-- A call of yield. -/
theorem mGA {c : Call} {fo : Operand} {l : Nat} {d : PV} {ys : List PV} {k : Nat} (ho : ops[i]? = some ⟨dst,.call c,ty,pos,af,none⟩) (hc : c.callee = .value fo) (hf : σ.ev fo = .p (.v (.func (.yield l) #[] #[])))
  (ha : uA (c.args.toList.map σ.ev) = some [d]) (hm : σ.df = [.yld l ys k]) (hy : ys[k]? = some d) (he : St.put { σ with df := [.yld l ys (k + 1)] } dst (.p (.v (.bool true))) = σ') (hk : kE P b ops rest σ' K) :
  kE P b ops (i :: rest) σ K := by
 subst he
 rw [kE,ho]
 exact Or.inr (.y c fo l d ys k rfl hc hf ha hm hy hk)
theorem qQ {j t : Nat} {w : Bool} {c : Call} {fo : Operand} {l : Nat} {d : PV} {ys : List PV} {k : Nat} (ho : ops[i]? = some ⟨dst,.call c,ty,pos,af,some (j,w)⟩) (hj : (ops[j]?).bind (·.dst) = some t) (hx : σ.slots.getD t .any = .p (.v (.bool w)))
  (hc : c.callee = .value fo) (hf : σ.ev fo = .p (.v (.func (.yield l) #[] #[])))
  (ha : uA (c.args.toList.map σ.ev) = some [d]) (hm : σ.df = [.yld l ys k]) (hy : ys[k]? = some d) (he : St.put { σ with df := [.yld l ys (k + 1)] } dst (.p (.v (.bool true))) = σ') (hk : kE P b ops rest σ' K) :
  kE P b ops (i :: rest) σ K := by
 subst he
 rw [kE,ho]
 simp only [gd,hj,hx,beq_self_eq_true]
 exact Or.inr (.y c fo l d ys k rfl hc hf ha hm hy hk)
/-- A call that gets a function value over own variables. -/
theorem yBA {c : Call} {fo : Operand} {f : FuncId} {ds : List PV} {x : Value} (ho : ops[i]? = some ⟨dst,.call c,ty,pos,af,none⟩) (hc : c.callee = .value fo) (hf : σ.ev fo = .fn f [])
  (ha : zM σ (c.args.toList.map σ.ev) = some ds) (hr : ACalls P f ds (.p (.v x))) (he : σ.put dst (.p (.v x)) = σ') (hk : kE P b ops rest σ' K) : kE P b ops (i :: rest) σ K := by
 subst he
 rw [kE,ho]
 exact Or.inr (.c c fo f ds x rfl hc hf ha hr hk)
/-- A call that puts other cells into an own slice. -/
theorem nGA {c : Call} {fo : Operand} {f g : FuncId} {j : Nat} {V : Vc} {xs' : List P1} (ho : ops[i]? = some ⟨dst,.call c,ty,pos,af,none⟩) (hc : c.callee = .value fo) (hf : σ.ev fo = .fn f [])
  (ha : c.args.toList.map σ.ev = [.vref j,.fn g []]) (hV : σ.vecs[j]? = some (some V)) (hr : ACallsS P f g V.e V.sz V.n V.xs xs') (he : (σ.setVec j { V with xs := xs' }).put dst .any = σ') (hk : kE P b ops rest σ' K) : kE P b ops (i :: rest) σ K := by
 subst he
 rw [kE,ho]
 exact Or.inr (.s c fo f g j V xs' rfl hc hf ha hV hr hk)
/-- A call that gets nil. -/
theorem oGA {c : Call} {fo : Operand} {f : FuncId} {ds : List PV} {r : D} (ho : ops[i]? = some ⟨dst,.call c,ty,pos,af,none⟩) (hc : c.callee = .value fo) (hf : σ.ev fo = .fn f [])
  (ha : aN (c.args.toList.map σ.ev) = some ds) (hr : ACalls P f ds r) (he : σ.put dst r = σ') (hk : kE P b ops rest σ' K) : kE P b ops (i :: rest) σ K := by
 subst he
 rw [kE,ho]
 exact Or.inr (.n c fo f ds r rfl hc hf ha hr hk)
theorem fC {j t : Nat} {w : Bool} (ho : ops[i]? = some ⟨dst,op,ty,pos,af,some (j,w)⟩) (hj : (ops[j]?).bind (·.dst) = some t) (hx : σ.slots.getD t .any = .tup [])
  (he : σ.put dst (.tup []) = σ') (hk : kE P b ops rest σ' K) : kE P b ops (i :: rest) σ K := by
 subst he
 rw [kE,ho]
 simp only [gd,hj,hx]
 exact hk
variable {restD : List (Nat × Bool)}
theorem jK {q : Bool} {j t : Nat} {w : Bool} (ho : ops[i]? = some ⟨dst,op,ty,pos,af,some (j,w)⟩) (hj : (ops[j]?).bind (·.dst) = some t) (hx : σ.slots.getD t .any = .tup [])
  (he : σ.put dst (.tup []) = σ') (hk : sD P b ops restD σ' K) : sD P b ops ((i,q) :: restD) σ K := by
 subst he
 rw [sD,ho]
 simp only [gd,hj,hx]
 exact hk
theorem yJ {q : Bool} {j t : Nat} {w x : Bool} (ho : ops[i]? = some ⟨dst,op,ty,pos,af,some (j,w)⟩) (hj : (ops[j]?).bind (·.dst) = some t) (hx : σ.slots[t]? = some (.p (.v (.bool x))))
  {l1 l2 : List D} (e1 : σ.slots.set t (.p (.v (.bool true))) = l1) (e2 : σ.slots.set t (.p (.v (.bool false))) = l2)
  (h1 : x = true → sD P b ops ((i,q) :: restD) ⟨σ.df,l1,σ.boxes,σ.vecs⟩ K) (h2 : x = false → sD P b ops ((i,q) :: restD) ⟨σ.df,l2,σ.boxes,σ.vecs⟩ K) : sD P b ops ((i,q) :: restD) σ K := by
 subst e1; subst e2
 have hs : σ.slots.set t (.p (.v (.bool x))) = σ.slots := by
  apply List.ext_getElem?
  intro k
  rw [List.getElem?_set]
  split
  ·rename_i hk
   subst hk
   rw [hx]
   have := (List.getElem?_eq_some_iff.1 hx).1
   simp [this]
  ·rfl
 have hσ : (⟨σ.df,σ.slots.set t (.p (.v (.bool x))),σ.boxes,σ.vecs⟩ : St) = σ := by rw [hs]
 cases x with
 | true => have := h1 rfl; rw [hσ] at this; exact this
 | false => have := h2 rfl; rw [hσ] at this; exact this
theorem qFA {j t : Nat} {w : Bool} (ho : ops[i]? = some ⟨dst,op,ty,pos,af,some (j,w)⟩) (hj : (ops[j]?).bind (·.dst) = some t) (hx : σ.slots.getD t .any = .p (.v (.bool w)))
  {f : FuncId} {ds : List PV} {r : D} (h : aA σ op = some (f,ds)) (hr : ACalls P f ds r) (he : σ.put dst r = σ') (hk : sD P b ops restD σ' K) : sD P b ops ((i,false) :: restD) σ K := by
 subst he
 rw [sD,ho]
 simp only [gd,hj,hx,beq_self_eq_true,Zf,Zq]
 refine Or.inl ?_
 unfold AOp
 simp only [h]
 exact .inl ⟨r,hr,hk⟩
theorem eF (ho : ops[i]? = some ⟨dst,op,ty,pos,af,none⟩) {d : D} (h : qop b σ op = some d) (he : σ.put dst d = σ') (hk : sD P b ops restD σ' K) : sD P b ops ((i,true) :: restD) σ K := by
 subst he
 rw [sD,ho]
 simp only [gd,h,Zr]
 exact hk
theorem rG (ho : ops[i]? = some ⟨dst,op,ty,pos,af,none⟩) (h : iA b σ dst op = some σ') (hk : sD P b ops restD σ' K) : sD P b ops ((i,false) :: restD) σ K := by
 rw [sD,ho]
 simp only [gd,Zf,Zq]
 exact .inl (dQ (o := ⟨dst,op,ty,pos,af,none⟩) h hk)
theorem eH (ho : ops[i]? = some ⟨dst,op,ty,pos,af,none⟩) {f : FuncId} {ds : List PV} {r : D} (h : aA σ op = some (f,ds)) (hr : ACalls P f ds r) (he : σ.put dst r = σ')
  (hk : sD P b ops restD σ' K) : sD P b ops ((i,false) :: restD) σ K := by
 subst he
 rw [sD,ho]
 simp only [gd,Zf,Zq]
 refine Or.inl ?_
 unfold AOp
 simp only [h]
 exact .inl ⟨r,hr,hk⟩
theorem zBA {c : Call} {fo : Operand} {f : FuncId} {ds : List PV} {r : D} (ho : ops[i]? = some ⟨dst,.call c,ty,pos,af,none⟩) (hc : c.callee = .value fo) (hf : σ.ev fo = .fn f [])
  (ha : bN σ (c.args.toList.map σ.ev) = some ds) (hu : yP σ (vM (c.args.toList.map σ.ev))) (hr : ACalls P f ds r) (hno : r.No) (he : σ.put dst r = σ') (hk : kE P b ops rest σ' K) : kE P b ops (i :: rest) σ K := by
 subst he
 rw [kE,ho]
 exact Or.inr (.l (.l c fo f ds r rfl hc hf ha hu hr hno hk))
theorem gIA {q : Bool} {j t : Nat} {w x : Bool} (ho : ops[i]? = some ⟨dst,op,ty,pos,af,some (j,w)⟩) (hj : (ops[j]?).bind (·.dst) = some t) (hx : σ.slots.getD t .any = .p (.v (.bool x)))
  (h1 : x = w → ∃ d,qop b σ op = some d ∧ aA σ op = none ∧ sD P b ops restD (σ.put dst d) K) (h2 : x = !w → sD P b ops restD (σ.put dst (.tup [])) K) : sD P b ops ((i,q) :: restD) σ K := by
 rw [sD,ho]
 simp only [gd,hj,hx]
 by_cases hxw : x = w
 ·obtain ⟨d,h,hc,hk⟩ := h1 hxw
  rw [show (x == w) = true by simp [hxw]]
  cases q with
  | true => simp only [h,Zr]; exact hk
  | false =>
   simp only [Zf,Zq]
   refine Or.inl ?_
   unfold AOp
   simp only [hc,h]
   exact hk
 ·rw [show (x == w) = false by simp [hxw]]
  exact h2 (by cases x <;> cases w <;> simp_all)
theorem fL {q : Bool} {j t : Nat} {w : Bool} (ho : ops[i]? = some ⟨dst,op,ty,pos,af,some (j,w)⟩) (hj : (ops[j]?).bind (·.dst) = some t) (hx : σ.slots.getD t .any = .p (.v (.bool w)))
  {d : D} (h : qop b σ op = some d) (hc : aA σ op = none) (he : σ.put dst d = σ') (hk : sD P b ops restD σ' K) : sD P b ops ((i,q) :: restD) σ K :=
 gIA ho hj hx (fun _ => ⟨d,h,hc,he ▸ hk⟩) (fun h => by cases w <;> cases h)
theorem kK {q : Bool} {j t : Nat} {w : Bool} (ho : ops[i]? = some ⟨dst,op,ty,pos,af,some (j,w)⟩) (hj : (ops[j]?).bind (·.dst) = some t) (hx : σ.slots.getD t .any = .p (.v (.bool (!w))))
  (he : σ.put dst (.tup []) = σ') (hk : sD P b ops restD σ' K) : sD P b ops ((i,q) :: restD) σ K := by
 subst he
 exact gIA ho hj hx (fun h => by cases w <;> cases h) (fun _ => hk)
end
/-! ### Regions -/
section
variable {X : Cx} {b : Tb} {σ : St} {Q : Exit → St → Prop}
theorem gA (hX : Wide X.F) (hb : b.Ok X.P) {id : Nat} {ops : Array Oper} (ord : List Nat) (ho : List.range ops.size = ord) {σ' : St}
  (h : ∀ K : St → Prop,K σ' → kE X.P b ops ord σ K) (hQ : Q .normal σ') : AW X (.region id ops false) Q σ :=
 hAA hX hb (by rw [ho]; exact h _ hQ)
theorem dF (hX : Wide X.F) (hb : b.Ok X.P) (hm : X.P.follows .mixedOrders = true) {id : Nat} {ops : Array Oper} (ord : List (Nat × Bool)) (hok : vR ops ord = true) {σ' : St}
  (h : ∀ K : St → Prop,K σ' → sD X.P b ops ord σ K) (hQ : Q .normal σ') : AW X (.region id ops true) Q σ :=
 xBA hX hb hm ord hok (h _ hQ)
/-- Slots forgotten,one written. -/
def St.join (σ : St) (ts : List Nat) (t : Nat) (d : D) : St := { σ with slots := (ts.foldl (fun l i => l.set i .any) σ.slots).set t d }
/-- A region whose ends are weakened to one state. -/
theorem vE (hX : Wide X.F) (hb : b.Ok X.P) {id : Nat} {ops : Array Oper} (ord : List Nat) (ho : List.range ops.size = ord) {ts : List Nat} {t : Nat} {d : D} {σ' : St} (_ : σ.join ts t d = σ')
  (h : kE X.P b ops ord σ (fun s => LeS s σ')) (hQ : Q .normal σ') : AW X (.region id ops false) Q σ :=
 fun a w hs => wpIn_region (dP hX hb _ (by rw [ho]; exact h) hs fun s a' w' hle hs' => ⟨σ',hQ,rC hle a' w' hs'⟩)
theorem eN (hX : Wide X.F) (hb : b.Ok X.P) (hm : X.P.follows .mixedOrders = true) {id : Nat} {ops : Array Oper} (ord : List (Nat × Bool)) (hok : vR ops ord = true) {ts : List Nat} {t : Nat} {d : D} {σ' : St}
  (_ : σ.join ts t d = σ') (h : sD X.P b ops ord σ (fun s => LeS s σ')) (hQ : Q .normal σ') : AW X (.region id ops true) Q σ :=
 fun a w hs => xR hX hm hok (zL hX hb ord h hs.drew fun s a' w' hle hs' => ⟨rfl,σ',hQ,rC hle a' w' hs'⟩)
/-! ### Where control goes on -/
def Ex.join (σ' : St) (X : Cx) (Q : Exit → St → Prop) : Exit → St → Prop
 | .normal,σ => Wk X σ σ'
 | e,σ => Q e σ
theorem uU {c : Code} {σ' : St} (h : AW X c (Ex.join σ' X Q) σ) (hQ : Q .normal σ') : AW X c Q σ := fun a w hs => by
 refine wpIn_mono (h a w hs) ?_
 rintro e a' w' ⟨s,h1,h2⟩
 cases e with
 | normal => exact ⟨σ',hQ,h1 a' w' h2⟩
 | _ => exact ⟨s,h1,h2⟩
theorem yR {σ' : St} (h : Wk X σ σ') : Ex.join σ' X Q .normal σ := h
def Ex.scope (Q : Exit → St → Prop) : Exit → St → Prop
 | .goto _,_ => False
 | e,σ => Q e σ
theorem dI {P : Program} {bf : Frame} {a : Act} {k : List Item} {cs : List Frame} {w : World} {c : Code} :
  step P (lone (bf.atR a (.code (.scope c) :: k)) cs w) = .next (lone (bf.atR a (.code c :: .inScope c :: k)) cs w) :=
 step_lone_go (by simp [stepG,stepG.exec,Frame.atR])
theorem zR {P : Program} {bf : Frame} {a : Act} {k : List Item} {cs : List Frame} {w : World} {c : Code} :
  step P (lone (bf.atR a (.inScope c :: k)) cs w) = .next (lone (bf.atR a k) cs w) :=
 step_lone_go (by simp [stepG,stepG.exec,Frame.atR])
theorem mW {F : Fence} {n : Nat} {P : Program} {Q : Exit → Act → World → Prop} {a : Act} {w : World} {c : Code} (h : c.wpIn F n P Q a w) (hg : ∀ l a w,¬ Q (.goto l) a w) :
  (Code.scope c).wpIn F n P Q a w := by
 intro b k cs hro hb hr
 have h0 : (lone (b.atR a (.code (.scope c) :: k)) cs w).fenced P F := fenced_calm hb hr rfl
 obtain ⟨e,a₁,w₁,hq,harr⟩ := h b (.inScope c :: k) cs hro hb hr
 cases e with
 | normal => exact ⟨.normal,a₁,w₁,hq,.head h0 dI (StepsIn.trans harr (.one (fenced_calm hb hr rfl) zR))⟩
 | exit id =>
  have hx : exitTo id (.inScope c :: k) = exitTo id k := by simp [exitTo]
  exact ⟨.exit id,a₁,w₁,hq,fun k' hk => .head h0 dI (harr.1 k' (by rw [hx]; exact hk)),
   fun hr' hk => let ⟨k₁,h1,h2⟩ := harr.2 hr' (by rw [hx]; exact hk); ⟨k₁,h1,.head h0 dI h2⟩⟩
 | goto l => exact (hg l _ _ hq).elim
 | ret => exact ⟨_,a₁,w₁,hq,ArrivesIn.of_steps (.one h0 dI) harr⟩
 | panic ch => exact ⟨_,a₁,w₁,hq,ArrivesIn.of_steps (.one h0 dI) harr⟩
 | outgrown => exact ⟨_,a₁,w₁,hq,ArrivesIn.of_steps (.one h0 dI) harr⟩
theorem aCA {c : Code} (h : AW X c (Ex.scope Q) σ) : AW X (.scope c) Q σ := fun a w hs => by
 refine wpIn_mono (mW (h a w hs) ?_) ?_
 ·rintro l a w ⟨s,h1,_⟩
  exact h1
 ·rintro e a' w' ⟨s,h1,h2⟩
  cases e with
  | goto l => exact h1.elim
  | _ => exact ⟨s,h1,h2⟩
theorem hIA (h : Q .ret σ) : Ex.scope Q .ret σ := h
theorem nJ {c : Code} (t : Nat) (e : TypeId) (sz : Nat) (ht : σ.slots[t]? = some .nil) {σ' : St} (he : σ.nilSlot t e sz = σ') (h : AW X c Q σ') : AW X c Q σ := iW (he ▸ gY t e sz ht) h
theorem nH {c : Code} (j : Nat) {V : Vc} (hV : σ.vecs[j]? = some (some V)) {σ' : St} (he : σ.freeze j V = σ') (h : AW X c Q σ') : AW X c Q σ := iW (he ▸ wT j V hV) h
theorem jA {N : St → Prop} (h : N σ) : Ex.seq N Q .normal σ := h
theorem fD {N : St → Prop} {i : Nat} (h : Q (.exit i) σ) : Ex.seq N Q (.exit i) σ := h
theorem tC {N : St → Prop} (h : Q .ret σ) : Ex.seq N Q .ret σ := h
theorem cE {id : Nat} (h : Q .normal σ) : Ex.block id Q .normal σ := h
theorem xE {id : Nat} (h : Q .ret σ) : Ex.block id Q .ret σ := h
theorem zE {id : Nat} (h : Q .normal σ) : Ex.block id Q (.exit id) σ := by
 show (if id = id then Q .normal σ else Q (.exit id) σ)
 rw [if_pos rfl]
 exact h
theorem iIA {id i : Nat} (hne : i ≠ id) (h : Q (.exit i) σ) : Ex.block id Q (.exit i) σ := by
 show (if i = id then Q .normal σ else Q (.exit i) σ)
 rw [if_neg hne]
 exact h
theorem zC {b : Tb} {rs : Array ResultVar} {r : D} (h1 : σ.df = []) (h2 : vI b σ rs.toList = some r) : Ret b rs r .ret σ := h2
theorem zB {b : Tb} {rv : ResultVar} {x : PV} {r : D} (h : mE b σ rv = some x) (hr : x.d = r) : vI b σ [rv] = some r := by
 simp only [vI,mI,h,hr]
theorem oE {b : Tb} {r1 r2 : ResultVar} {x y : PV} {r : D} (h1 : mE b σ r1 = some x) (h2 : mE b σ r2 = some y) (hr : .tup [x,y] = r) : vI b σ [r1,r2] = some r := by
 simp only [vI,mI,h1,h2,hr]
theorem iF {b : Tb} {r1 r2 r3 : ResultVar} {x y z : PV} {r : D} (h1 : mE b σ r1 = some x) (h2 : mE b σ r2 = some y) (h3 : mE b σ r3 = some z) (hr : .tup [x,y,z] = r) :
  vI b σ [r1,r2,r3] = some r := by
 simp only [vI,mI,h1,h2,h3,hr]
/-- A slice's length is small. -/
theorem jI {c : Code} {t n : Nat} {xs : List P1} (h : σ.slots[t]? = some (.p (.sl n xs))) (hk : n ≤ maxLen → AW X c Q σ) : AW X c Q σ := by
 intro a w hs
 obtain ⟨γ,C,r⟩ := hs
 have hv := r.sl t _ h
 generalize a.tmps.getD t undef = u at hv
 refine hk ?_ a w ⟨γ,C,r⟩
 cases hv with
 | p _ _ h1 =>
  cases h1 with
  | nil => exact Nat.zero_le _
  | sl _ _ _ _ _ _ h1 h2 => exact Nat.le_trans h1 h2
/-! ### What is forgotten -/
theorem sA : leL [] [] := trivial
theorem mB {d : D} {l l' : List D} (h : leL l l') : leL (d :: l) (.any :: l') := ⟨.inl rfl,h⟩
theorem vA {d d' : D} {l l' : List D} (e : d = d') (h : leL l l') : leL (d :: l) (d' :: l') := ⟨.inr e,h⟩
theorem aS : ∀ (l : List D),leL l l
 | [] => trivial
 | _ :: l => ⟨.inr rfl,aS l⟩
theorem xD : ∀ (l : List Bx),leB l l
 | [] => trivial
 | x :: l => ⟨rfl,aS x.cells,xD l⟩
theorem yD : ∀ (l : List (Option Vc)),leV l l
 | [] => trivial
 | _ :: l => ⟨.inr rfl,yD l⟩
theorem xB (l : List Bx) : leB l [] := by cases l <;> trivial
theorem yB (l : List (Option Vc)) : leV l [] := by cases l <;> trivial
theorem pC {x y : Bx} {l l' : List Bx} (e : x.ty = y.ty) (h : leL x.cells y.cells) (t : leB l l') : leB (x :: l) (y :: l') := ⟨e,h,t⟩
theorem jE {x y : Option Vc} {l l' : List (Option Vc)} (e : x = y) (t : leV l l') : leV (x :: l) (y :: l') := ⟨.inr e,t⟩
theorem xT {x : Option Vc} {l l' : List (Option Vc)} (t : leV l l') : leV (x :: l) (none :: l') := ⟨.inl rfl,t⟩
end
/-! ### Numbers -/
theorem jIA {n : Int} (h : -9223372036854775808 ≤ n ∧ n ≤ 9223372036854775807) : IntKind.i64.wrap n = n := by rw [IntKind.wrap_i64]; omega
theorem pB {α : Type} (a : α) (l : List α) (d : α) : (a :: l).getD 0 d = a := rfl
theorem qB {α : Type} (a : α) (l : List α) (d : α) (n : Nat) : (a :: l).getD (n + 1) d = l.getD n d := rfl
theorem bA {P : Program} {b : Tb} {ops : Array Oper} {σ : St} {K : St → Prop} (h : K σ) : kE P b ops [] σ K := h
theorem xC {P : Program} {b : Tb} {ops : Array Oper} {σ : St} {K : St → Prop} (h : K σ) : sD P b ops [] σ K := h
theorem Z0 : (∀ {α : Type} (a : α) (l : List α) (d : α),(a :: l).getD 0 d = a) ∧ (∀ {α : Type} (a : α) (l : List α) (d : α) (n : Nat),(a :: l).getD (n + 1) d = l.getD n d) ∧ (∀ {α : Type} {l : List α} {i : Nat},l.toArray[i]? = l[i]?) ∧ (∀ {α : Type} {a : α} {l : List α},(a :: l)[0]? = some a) ∧ (∀ {α : Type} {a : α} {i : Nat} {l : List α},(a :: l)[i + 1]? = l[i]?) ∧ (∀ {α : Type} {x a : α} {l : List α},(x :: l).set 0 a = a :: l) ∧ (∀ {α : Type} {x a : α} {l : List α} {i : Nat},(x :: l).set (i + 1) a = x :: l.set i a) ∧ (∀ {α : Type} {_ : Decidable True} (t e : α),(if True then t else e) = t) ∧ (∀ {c : Prop} {_ : Decidable c} (h : c) {α : Type} {t e : α},(if c then t else e) = t) ∧ (∀ {c : Prop} {_ : Decidable c} (h : ¬c) {α : Type} {t e : α},(if c then t else e) = e) ∧ ((false = true) = False) ∧ (∀ {α : Type} {_ : Decidable False} (t e : α),(if False then t else e) = e) ∧ (∀ {α β : Type} (a : α) (f : α → β),Option.map f (some a) = some (f a)) ∧ (∀ {n : Int} (h : -9223372036854775808 ≤ n ∧ n ≤ 9223372036854775807),IntKind.i64.wrap n = n) ∧ (∀ (p : Prop),(True ∧ p) = p) ∧ (∀ (p : Prop),(p ∧ True) = p) := ⟨@pB,@qB,@Ze,@Zd,@Zc,@Za,@Zb,@Zr,@ZE,@ZF,@Zf,@Zq,@Zg,@jIA,@Zt,@Zs⟩
theorem Z1 : (∀ {α : Type} {a : α} {l : List α},(a :: l).length = l.length + 1) ∧ (∀ {α : Type},([] : List α).length = 0) ∧ (∀ {α : Type} {l : List α},l.take 0 = []) ∧ (∀ {α : Type} {l : List α},l.drop 0 = l) ∧ (∀ {α : Type} {a : α} {l : List α} {i : Nat},(a :: l).take (i + 1) = a :: l.take i) ∧ (∀ {α : Type} {a : α} {l : List α} {i : Nat},(a :: l).drop (i + 1) = l.drop i) ∧ (∀ {α : Type} {i : Nat},([] : List α).take i = []) ∧ (∀ {α : Type} {i : Nat},([] : List α).drop i = []) := ⟨@Zl,@Zo,@Zv,@Zw,@Zj,@Zk,@Zx,@Zy⟩
end Go.Proofs.Ytldcoekbgfaomaa
end
section
namespace Go.Proofs.Ytldcoekbgfaomaa
open Go.RowKit
open Classical
/-- In which order the operations are taken: a quiet one first; the only one that may be next; one of two. -/
inductive OT where
 | nil
 | q (i : Nat) (r : OT)
 | f (i : Nat) (r : OT)
 | two (i j : Nat) (r s : OT)
def OT.len : OT → Nat
 | .nil => 0
 | .q _ r | .f _ r => r.len + 1
 | .two _ _ r _ => r.len + 1
def cT (ops : Array Oper) (late : Nat → Bool) : OT → Array Bool → Bool
 | .nil,L => (Region.ready .any ops L).isEmpty
 | .q i r,L => (Region.ready .any ops L).contains i && Region.free .any ops L i && (match ops[i]? with | some o => !Op.isLoad o.op || sU ops late L i | none => false) && cT ops late r (L.setIfInBounds i true)
 | .f i r,L => (Region.ready .any ops L) == [i] && cT ops late r (L.setIfInBounds i true)
 | .two i j r s,L => (Region.ready .any ops L) == [i,j] && r.len == s.len && cT ops late r (L.setIfInBounds i true) && cT ops late s (L.setIfInBounds j true)
section
variable {F : Fence} {n : Nat} {P : Program} {ops : Array Oper} {Q : Exit → Act → World → Prop} {late : Nat → Bool}
def aR (F : Fence) (n : Nat) (P : Program) (ops : Array Oper) (Q : Exit → Act → World → Prop) (late : Nat → Bool) : OT → Act → World → Prop
 | .nil,a,w => Q .normal a w
 | .q i r,a,w => ∃ o v,ops[i]? = some o ∧ Qy (F := F) P ops o v a w ∧ aR F n P ops Q late r (a.put o.dst v) w
 | .f i r,a,w => wpOpIn F n P ops Q i (fun a' w' => (late i = true ∨ w.grownBy w' none) ∧ aR F n P ops Q late r a' w') a w
 | .two i j r s,a,w => wpOpIn F n P ops Q i (fun a' w' => (late i = true ∨ w.grownBy w' none) ∧ aR F n P ops Q late r a' w') a w ∧
   wpOpIn F n P ops Q j (fun a' w' => (late j = true ∨ w.grownBy w' none) ∧ aR F n P ops Q late s a' w') a w
theorem fP (hF : Wide F) (hs : Region.noSelect ops = true) (hd : uN ops = true) (hQ : ∀ c a w,¬ Q (.panic c) a w) : ∀ (ord : OT) (L : Array Bool) (a : Act) (w : World),Closed ops L → L.size = ops.size →
  cT ops late ord L = true → aR F n P ops Q late ord a w → Gm F n P ops Q late ord.len L a w
 | .nil,L,a,w,_,_,h,hg => by
  simp only [cT,List.isEmpty_iff] at h
  exact ⟨h,hg⟩
 | .q i r,L,a,w,hc,hsz,h,hg => by
  simp only [cT,Bool.and_eq_true] at h
  obtain ⟨⟨⟨hr,hf⟩,hl⟩,h2⟩ := h
  obtain ⟨o,v,ho,hy,hg⟩ := hg
  have hri : i ∈ Region.ready .any ops L := by simpa using hr
  refine jW hF ho (Region.noSelect_spec hs) (eP hd) hQ r.len L a w hc hsz (Region.free_spec ho hf) ?_ hri hy (fP hF hs hd hQ r _ _ _ (hc.next hri) (by simp [hsz]) h2 hg)
  intro hload j hlj hun hji
  rw [ho] at hl
  simp only [hload,Bool.not_true,Bool.false_or] at hl
  simp only [sU,List.all_eq_true,List.mem_range] at hl
  have hjl : j < ops.size := by
   rcases Nat.lt_or_ge j L.size with h' | h'
   ·omega
   ·rw [Array.getD_eq_getD_getElem?,Array.getElem?_eq_none h'] at hun; cases hun
  have := hl j hjl
  simp only [hlj,hun,Bool.not_true,Bool.false_or,Bool.or_eq_true,ZJ] at this
  rcases this with h | h
  ·exact absurd h hji
  ·exact h
 | .f i r,L,a,w,hc,hsz,h,hg => by
  simp only [cT,Bool.and_eq_true,ZJ] at h
  obtain ⟨h1,h2⟩ := h
  have hri : i ∈ Region.ready .any ops L := by rw [h1]; simp
  refine ⟨(fun h0 => by rw [h1] at h0; cases h0),fun j hj => ?_⟩
  rw [h1] at hj
  simp only [List.mem_singleton] at hj
  subst hj
  exact wpOpIn_mono (fun a' w' h => ⟨h.1,fP hF hs hd hQ r _ _ _ (hc.next hri) (by simp [hsz]) h2 h.2⟩) hg
 | .two i k r s,L,a,w,hc,hsz,h,hg => by
  simp only [cT,Bool.and_eq_true,ZJ] at h
  obtain ⟨⟨⟨h1,hl⟩,h2⟩,h3⟩ := h
  have hri : i ∈ Region.ready .any ops L := by rw [h1]; simp
  have hrk : k ∈ Region.ready .any ops L := by rw [h1]; simp
  refine ⟨(fun h0 => by rw [h1] at h0; cases h0),fun j hj => ?_⟩
  rw [h1] at hj
  simp only [List.mem_cons,List.not_mem_nil,or_false] at hj
  rcases hj with rfl | rfl
  ·exact wpOpIn_mono (fun a' w' h => ⟨h.1,fP hF hs hd hQ r _ _ _ (hc.next hri) (by simp [hsz]) h2 h.2⟩) hg.1
  ·show wpOpIn F n P ops Q j (fun a' w' => (late j = true ∨ w.grownBy w' none) ∧ Gm F n P ops Q late r.len (L.setIfInBounds j true) a' w') a w
   rw [hl]
   exact wpOpIn_mono (fun a' w' h => ⟨h.1,fP hF hs hd hQ s _ _ _ (hc.next hrk) (by simp [hsz]) h3 h.2⟩) hg.2
def jY (ops : Array Oper) (ord : OT) : Bool := Region.noSelect ops && uN ops && ord.len == ops.size && cT ops (yL ops) ord (Array.replicate ops.size false)
/-- **A region that draws its order,walked along a tree of orders.** -/
theorem nW (hF : Wide F) {id : Nat} {a : Act} {w : World} (hm : P.follows .mixedOrders = true) {ord : OT} (hok : jY ops ord = true) {Q' : Exit → Act → World → Prop}
  (h : aR F n P ops (fun e a w => e = .normal ∧ Q' .normal a w) (yL ops) ord a { w with drawn := w.drawn + 1 }) : (Code.region id ops true).wpIn F n P Q' a w := by
 simp only [jY,Bool.and_eq_true,ZJ] at hok
 obtain ⟨⟨⟨h1,h2⟩,h3⟩,h4⟩ := hok
 refine wpIn_mono (Q := fun e a w => e = .normal ∧ Q' .normal a w) ?_ (fun e a w he => by obtain ⟨rfl,h⟩ := he; exact h)
 refine wpIn_region_any hm (iY (late := yL ops) _ _ _ _ ?_)
 have hc : Closed ops (Array.replicate ops.size false) := by
  intro k hk o ho e he hb
  rw [Array.getD_eq_getD_getElem?,Array.getElem?_replicate] at hk
  split at hk <;> cases hk
 have := fP hF h1 h2 (fun c a w h => by cases h.1) ord _ a _ hc (by simp) h4 h
 rw [h3] at this
 exact this
end
/-- A list of steps,then a tree. -/
def toT : List (Nat × Bool) → OT → OT
 | [],T => T
 | (i,true) :: l,T => .q i (toT l T)
 | (i,false) :: l,T => .f i (toT l T)
section
variable {X : Cx} {b : Tb} {σ : St} {a : Act} {w : World}
theorem iM (hX : Wide X.F) (hb : b.Ok X.P) {ops : Array Oper} {Q : Exit → Act → World → Prop} {T : OT} : ∀ (l : List (Nat × Bool)) {σ : St} {K : St → Prop} {a : Act} {w : World},sD X.P b ops l σ K → Sat X σ a w →
  (∀ σ' a' w',K σ' → Sat X σ' a' w' → aR X.F X.n X.P ops Q (yL ops) T a' w') → aR X.F X.n X.P ops Q (yL ops) (toT l T) a w
 | [],σ,K,a,w,h,hs,hQ => hQ σ a w h hs
 | (i,q) :: rest,σ,K,a,w,h,hs,hQ => by
  simp only [sD] at h
  cases ho : ops[i]? with
  | none => rw [ho] at h; exact h.elim
  | some o =>
   rw [ho] at h
   simp only at h
   obtain ⟨γ,C,r⟩ := hs
   cases hg : gd σ ops o with
   | none => rw [hg] at h; exact h.elim
   | some t =>
    rw [hg] at h
    have hwt := oBA r hg
    cases t with
    | true =>
     cases q with
     | true =>
      simp only [Zr] at h
      cases hq : qop b σ o.op with
      | none => rw [hq] at h; exact h.elim
      | some d =>
       rw [hq] at h
       obtain ⟨v,hv,hy⟩ := qU hb r hq
       simp only [toT,aR]
       exact ⟨o,v,ho,.inl ⟨hwt,hy,vJ hq,fun f _ => hX.fn f⟩,iM hX hb rest h ⟨γ,C,r.put o.dst d v hv⟩ hQ⟩
     | false =>
      simp only [toT,aR,Zf,Zq] at h ⊢
      rcases h with h | h
      ·exact kZ hX hb ho hwt h ⟨γ,C,r⟩ fun σ' a' w' hK hs' => iM hX hb rest hK hs' hQ
      ·exact lW hX ho hwt h ⟨γ,C,r⟩ fun σ' a' w' hK hs' => iM hX hb rest hK hs' hQ
    | false =>
     have hr := r.put o.dst (.tup []) undef lR
     have ih := iM hX hb rest h ⟨γ,C,hr⟩ hQ
     cases q with
     | true =>
      simp only [toT,aR]
      exact ⟨o,undef,ho,.inr ⟨hwt,rfl⟩,ih⟩
     | false =>
      simp only [toT,aR]
      unfold wpOpIn
      simp only [ho,hwt,Zf,Zq]
      exact ⟨fun f _ => hX.fn f,.inr (dN w _),ih⟩
/-- **A region that draws its order,where once two operations may be next.** -/
theorem gP (hX : Wide X.F) (hb : b.Ok X.P) (hm : X.P.follows .mixedOrders = true) {id : Nat} {ops : Array Oper} (l0 : List (Nat × Bool)) (i : Nat) (l1 : List (Nat × Bool)) (j : Nat) (l2 : List (Nat × Bool))
  (hok : jY ops (toT l0 (.two i j (toT l1 .nil) (toT l2 .nil))) = true) {σ' : St} {Q : Exit → St → Prop}
  (h : ∀ K : St → Prop,K σ' → sD X.P b ops l0 σ (fun s => sD X.P b ops ((i,false) :: l1) s K ∧ sD X.P b ops ((j,false) :: l2) s K)) (hQ : Q .normal σ') : AW X (.region id ops true) Q σ := by
 intro a w hs
 refine nW hX hm hok (iM hX hb l0 (h _ hQ) hs.drew ?_)
 rintro s a' w' ⟨h1,h2⟩ hs'
 have e1 := iM (Q := fun e a w => e = .normal ∧ ∃ σ',Q .normal σ' ∧ Sat X σ' a w) hX hb (T := .nil) _ h1 hs' (fun s a w hK hs => ⟨rfl,s,hK,hs⟩)
 have e2 := iM (Q := fun e a w => e = .normal ∧ ∃ σ',Q .normal σ' ∧ Sat X σ' a w) hX hb (T := .nil) _ h2 hs' (fun s a w hK hs => ⟨rfl,s,hK,hs⟩)
 exact ⟨e1,e2⟩
end
end Go.Proofs.Ytldcoekbgfaomaa
end
section
namespace Go.Proofs.Ytldcoekbgfaomaa
open Go.RowKit
open Classical
/-- What the caller knows stays true while the blocks O and C stay as they are. -/
def vU (J : Nat → (Nat → Prop) → (Nat → Prop) → World → Prop) : Prop :=
 ∀ (k : Nat) (O C C' : Nat → Prop) (w w' : World),J k O C w → w.heap.size ≤ w'.heap.size → (∀ g,C g → C' g) → (∀ g,O g ∨ C g → w'.heap[g]? = w.heap[g]?) → J k O C' w'
/-- What a call of yield does. -/
def wU (F : Fence) (n : Nat) (P : Program) (l : Nat) (ys : List PV) (J : Nat → (Nat → Prop) → (Nat → Prop) → World → Prop) : Prop :=
 ∀ (k : Nat) (O C : Nat → Prop) (w : World) (y : PV) (u : Value),J k O C w → ys[k]? = some y → RV w C y u → (∀ g,O g → g < w.heap.size ∧ ¬ C g) → (∀ g,C g → g < w.heap.size) →
  YieldAt F (n - 1) P l #[u] w fun e w' => e = .returned (.bool true) ∧ ∃ O' : Nat → Prop,(∀ g,O g → O' g) ∧ (∀ g,O' g → O g ∨ (w.heap.size ≤ g ∧ g < w'.heap.size)) ∧ J (k + 1) O' C w' ∧ GrZ w w' O
/-- **An iterator**: called with yield it hands over the items ys,one by one,and turns nothing that was there. -/
structure SeqC (P : Program) (f : FuncId) (xs : List P1) (ys : List PV) : Prop where
 en : Ent P f
 h : ∀ (F : Fence) (n l : Nat) (C O : Nat → Prop) (w : World) (gs : List Nat) (us : List Value) (J : Nat → (Nat → Prop) → (Nat → Prop) → World → Prop),Wide F → F.round = none → (∀ g,C g → g < w.heap.size) →
  gs.length = xs.length → us.length = xs.length → (∀ g ∈ gs,C g) → (∀ (j g : Nat) (u : Value),gs[j]? = some g → us[j]? = some u → w.cell? ⟨g,0,none⟩ = some u) →
  (∀ (j : Nat) (x : P1) (u : Value),xs[j]? = some x → us[j]? = some u → R1 w C x u) → (∀ g,O g → g < w.heap.size ∧ ¬ C g) → vU J → wU F n P l ys J → J 0 O C w →
  CallsIn F n P f (#[.func (.yield l) #[] #[]] ++ (gs.map fun g => Value.pointer (some ⟨g,0,none⟩)).toArray) w fun e w' => (∃ v,e = .returned v) ∧
   ∃ O' C' : Nat → Prop,J ys.length O' C' w' ∧ (∀ g,O' g → (O g ∨ w.heap.size ≤ g) ∧ g < w'.heap.size ∧ ¬ C' g) ∧ (∀ g,C' g → (C g ∨ O g ∨ w.heap.size ≤ g) ∧ g < w'.heap.size) ∧ GrZ w w' O
/-- The surroundings of an iterator's walk. -/
def Cx.iter (F : Fence) (n : Nat) (P : Program) (w : World) (C O : Nat → Prop) (l : Nat) (ys : List PV) (J : Nat → (Nat → Prop) → (Nat → Prop) → World → Prop) (hs : vU J) (hy : wU F n P l ys J) : Cx :=
 ⟨F,n,P,w,fun g => C g ∨ O g,fun g => O g ∨ w.heap.size ≤ g,fun m O C w => ∃ k,m = [.yld l ys k] ∧ J k O C w,[],fun _ h => .inr h,fun g h => h.elim (fun h => .inl (.inr h)) .inr,
  fun m O C C' w w' ⟨k,h1,h2⟩ h3 h4 h5 => ⟨k,h1,hs k O C C' w w' h2 h3 h4 h5⟩,
  fun l' ys' k m O C w y u ⟨k',h1,h2⟩ h3 h4 h5 h6 => by
   injection h1 with h1 h7
   injection h1 with e1 e2 e3
   subst e1; subst e2; subst e3; subst h7
   obtain ⟨fn,tmps,assign,body,h8,h9⟩ := hy k O C w y u h2 h3 h4 h5 h6
   exact ⟨fn,tmps,assign,body,h8,h9.mono fun e w' ⟨q1,O',q2,q3,q4,q5⟩ => ⟨q1,O',q2,q3,⟨_,rfl,q4⟩,q5⟩⟩⟩
def kIA (l : Nat) (ys : List PV) : Exit → St → Prop
 | .normal,σ | .ret,σ => σ.df = [.yld l ys ys.length]
 | _,_ => False
theorem xU {σ : St} {l : Nat} {ys : List PV} {k : Nat} (h : σ.df = [.yld l ys k]) (hk : k = ys.length) : kIA l ys .normal σ := by subst hk; exact h
/-- **An iterator's contract out of the walk of its body.** -/
theorem yU {P : Program} {f : FuncId} {fn : Func} {c : Code} {xs : List P1} {ys : List PV} (hf : P.funcs[f]? = some fn) (hbody : fn.body = some c) (hname : (fn.name == "runtime.NumGoroutine") = false)
  (hres : fn.results = #[])
  (h : ∀ (X : Cx) (l : Nat),X.P = P → Wide X.F → X.F.round = none → AW X c (kIA l ys) ⟨[.yld l ys 0],.p (.v (.func (.yield l) #[] #[])) :: xs.map (fun x => .ept [x] 0) ++ List.replicate (fn.ntmps - (xs.length + 1)) .any,[],[]⟩) :
  SeqC P f xs ys := by
 refine ⟨⟨fn,hf,by rw [hbody]; rfl,hname⟩,fun F n l C O w gs us J hF hro hC hg1 hu1 hgC hcell hR hO hs hy h0 => ?_⟩
 refine callsIn_of_wp_marks hf hbody (hF.fn f) ?_ hro
 let ptr : Nat → Value := fun g => Value.pointer (some ⟨g,0,none⟩)
 have hal : (#[Value.func (.yield l) #[] #[]] ++ (gs.map ptr).toArray).size = xs.length + 1 := by simp [hg1]
 have hsat : Rel (.iter F n P w C O l ys J hs hy) ⟨[.yld l ys 0],.p (.v (.func (.yield l) #[] #[])) :: xs.map (fun x => .ept [x] 0) ++ List.replicate (fn.ntmps - (xs.length + 1)) .any,[],[]⟩
   { tmps := (#[Value.func (.yield l) #[] #[]] ++ (gs.map ptr).toArray) ++ Array.replicate (fn.ntmps - (#[Value.func (.yield l) #[] #[]] ++ (gs.map ptr).toArray).size) undef,defers := [] } w ⟨[],[]⟩ C := by
  refine ⟨by rw [hal]; simp [hg1]; omega,?_,rfl,fun bx x hx => by simp at hx,List.nodup_nil,fun g hg => by simp at hg,rfl,fun j V hV => by simp at hV,fun i j Vi Vj vi vj g _ hi => by simp at hi,
   GrZ.refl _ _,fun g hg => ⟨.inl (.inl hg),hC g hg,by simp⟩,⟨O,⟨0,rfl,h0⟩,rfl,fun g hg => ⟨(hO g hg).1,.inl hg,fun hh => ?_⟩⟩,Nat.zero_le _,fun b g hb => by simp [vL] at hb⟩
  ·intro t d hd
   rw [hal]
   have hev : ((#[Value.func (.yield l) #[] #[]] ++ (gs.map ptr).toArray) ++ Array.replicate (fn.ntmps - (xs.length + 1)) undef).getD t undef = ((Value.func (.yield l) #[] #[] :: gs.map ptr) ++ List.replicate (fn.ntmps - (xs.length + 1)) undef).getD t undef := by
    rw [Array.getD_eq_getD_getElem?,List.getD_eq_getElem?_getD]
    congr 1
    rw [← Array.getElem?_toList]
    simp
   rw [hev]
   cases t with
   | zero =>
    simp at hd
    subst hd
    exact .p _ _ (.v _ rfl)
   | succ t =>
    simp only [ZL,Zc,List.getElem?_append,Zh] at hd
    simp only [ZL,List.getD_cons_succ]
    rw [List.getD_eq_getElem?_getD,List.getElem?_append]
    simp only [Zh,hg1]
    split at hd
    ·rename_i hlt
     rw [if_pos hlt]
     have hgt : gs[t]? = some (gs[t]'(by omega)) := List.getElem?_eq_getElem _
     have hut : us[t]? = some (us[t]'(by omega)) := List.getElem?_eq_getElem _
     have hxt : xs[t]? = some xs[t] := List.getElem?_eq_getElem _
     simp only [List.getElem?_map,hxt,Zg,Option.some.injEq] at hd
     subst hd
     simp only [List.getElem?_map,hgt,Zg,Option.getD_some]
     refine .ept [xs[t]] 0 _ 0 [us[t]'(by omega)] (hgC _ (List.mem_of_getElem? hgt)) rfl ?_ ?_
     ·intro j u hu
      cases j with
      | zero => simp at hu; subst hu; exact hcell t _ _ hgt hut
      | succ j => simp at hu
     ·intro j x u hx hu
      cases j with
      | zero => simp at hx hu; subst hx; subst hu; exact hR t _ _ hxt hut
      | succ j => simp at hx
    ·rw [List.getElem?_replicate] at hd
     split at hd
     ·injection hd with hd; subst hd; exact .any _
     ·cases hd
  ·rcases hh with hh | hh | ⟨j,V,v,h1,_⟩
   ·exact (hO g hg).2 hh
   ·simp at hh
   ·simp at h1
 have hw := h (.iter F n P w C O l ys J hs hy) l rfl hF hro _ _ ⟨_,_,hsat⟩
 refine wpIn_mono hw fun e a' w' he => ?_
 obtain ⟨σ',h1,γ,C',r'⟩ := he
 have fin : σ'.df = [.yld l ys ys.length] → LeavesInM F n P fn a'.tmps (fun e w' => (∃ v,e = .returned v) ∧
   ∃ O' C' : Nat → Prop,J ys.length O' C' w' ∧ (∀ g,O' g → (O g ∨ w.heap.size ≤ g) ∧ g < w'.heap.size ∧ ¬ C' g) ∧ (∀ g,C' g → (C g ∨ O g ∨ w.heap.size ≤ g) ∧ g < w'.heap.size) ∧ GrZ w w' O) a'.defers .returning w' := by
  intro hdf
  obtain ⟨O',hO'⟩ := r'.fr
  rw [hdf] at hO'
  have hds : a'.defers = [] := hO'.2.1
  rw [hds]
  obtain ⟨k,hk,hJ⟩ := hO'.1
  injection hk with hk _
  injection hk with _ _ hk
  subst hk
  refine ⟨.tuple #[],by rw [wK,hres]; simp,⟨_,rfl⟩,O',C',hJ,fun g hg => ⟨(hO'.2.2 g hg).2.1,(hO'.2.2 g hg).1,fun hc => (hO'.2.2 g hg).2.2 (.inl hc)⟩,fun g hg => ⟨?_,(r'.cc g hg).2.1⟩,?_⟩
  ·rcases (r'.cc g hg).1 with (h | h) | h
   ·exact .inl h
   ·exact .inr (.inl h)
   ·exact .inr (.inr h)
  ·exact ⟨r'.gr.os,r'.gr.tape,r'.gr.output,r'.gr.size,fun k hk hn => r'.gr.block k hk (fun hz => hz.elim hn (fun h => by change w.heap.size ≤ k at h; omega))⟩
 cases e with
 | normal => exact fin h1
 | ret => exact fin h1
 | exit id => exact h1.elim
 | goto l => exact h1.elim
 | panic ch => exact h1.elim
 | outgrown => exact h1.elim
end Go.Proofs.Ytldcoekbgfaomaa
end
section
namespace Go.Proofs.Ytldcoekbgfaomaa
open Go.RowKit
open Classical
section
variable {X : Cx} {b : Tb} {σ : St} {a : Act} {w : World} {γ : Gh} {C : Nat → Prop}
/-- What a slot says as long as the first nb variables keep their places. -/
def D.steady (nb : Nat) : D → Bool
 | .any => true
 | .p _ => true
 | .agg _ => true
 | .tup _ => true
 | .nil => true
 | .ptr b _ => decide (b < nb)
 | .ept _ _ => true
 | .fn _ bs => bs.all fun b => decide (b < nb)
 | _ => false
theorem RD.steady {w w' : World} {C C' : Nat → Prop} {γ γ' : Gh} {nb : Nat} (k : Kp C C' w w') (hb : ∀ b g,b < nb → γ.bl[b]? = some g → γ'.bl[b]? = some g) {d : D} {u : Value} (hd : d.steady nb = true) (h : RD w C γ d u) : RD w' C' γ' d u := by
 cases h with
 | any => exact .any _
 | p x u h => exact .p _ _ (h.keep k)
 | agg xs us hl h => exact .agg xs us hl fun j x u hx hu => (h j x u hx hu).keep k
 | tup ds us hl h => exact .tup ds us hl fun j x u hx hu => (h j x u hx hu).keep k
 | nil => exact .nil
 | ptr b off g h => exact .ptr b off g (hb b g (by simpa [D.steady] using hd) h)
 | ept xs off g o us hg hl hcell h =>
  exact .ept xs off g o us (k.c g hg) hl (fun j u hu => (World.cell?_of_block (k.h g hg)).trans (hcell j u hu)) fun j x u hx hu => (h j x u hx hu).keep k
 | vref j v h => simp [D.steady] at hd
 | vpt j off g n c h => simp [D.steady] at hd
 | aggd ds us hl h1 h => simp [D.steady] at hd
 | bsl b off n k g c h hn hc => simp [D.steady] at hd
 | fn f bs us hl h =>
  refine .fn f bs us hl fun j b u hx hu => ?_
  obtain ⟨g,h1,h2⟩ := h j b u hx hu
  simp only [D.steady,List.all_eq_true,Zp] at hd
  exact ⟨g,hb b g (hd b (List.mem_of_getElem? hx)) h1,h2⟩
/-- Other slots. -/
theorem Rel.reslot (r : Rel X σ a w γ C) {sl : List D} {ts : Array Value} (hs : ts.size = sl.length) (h : ∀ (t : Nat) (d : D),sl[t]? = some d → RD w C γ d (ts.getD t undef)) : Rel X { σ with slots := sl } { a with tmps := ts } w γ C :=
 ⟨hs,h,r.bl,r.bx,r.bn,r.bge,r.vl,r.vc,r.vd,r.gr,r.cc,r.fr,r.bp⟩
theorem Rel.own_z (r : Rel X σ a w γ C) {g : Nat} (h : Held γ σ.vecs (fun _ => False) g) : X.Z g ∧ ¬ C g ∧ g < w.heap.size := by
 have hl : g < w.heap.size := Held.lt r (by
  rcases h with h | h | h
  ·exact h.elim
  ·exact .inr (.inl h)
  ·exact .inr (.inr h))
 rcases h with h | h | ⟨j,V,v,q1,q2,q3⟩
 ·exact h.elim
 ·exact ⟨r.bge g h,fun hc => (r.cc g hc).2.2 h,hl⟩
 ·obtain ⟨v',us,e1,_,_,_,e5⟩ := r.vc j V q1
  rw [q2] at e1
  injection e1 with e1
  subst e1
  exact ⟨(e5 g q3).2.2,(e5 g q3).2.1,hl⟩
theorem Held.split {vs : List (Option Vc)} {g : Nat} (h : Held γ vs C g) : C g ∨ Held γ vs (fun _ => False) g := by
 rcases h with h | h | h
 ·exact .inl h
 ·exact .inr (.inr (.inl h))
 ·exact .inr (.inr (.inr h))
theorem Held.of {vs : List (Option Vc)} {g : Nat} (h : Held γ vs (fun _ => False) g) : Held γ vs C g := by
 rcases h with h | h | h
 ·exact h.elim
 ·exact .inr (.inl h)
 ·exact .inr (.inr h)
/-- What a round leaves alone: the marks of the frame outside,the loop's record,the block for deferred calls. -/
def RoundJ (m0 : List Mk) (ds : List Deferred) (Oc : Nat → Prop) (l Dk : Nat) (rec : Loop) (m : List Mk) (O _C : Nat → Prop) (w : World) : Prop :=
 (∀ l' ys k m',m ≠ .yld l' ys k :: m') ∧ (∀ g,Oc g → O g) ∧ DfOk w Oc m0 ds ∧ O l ∧ O Dk ∧ w.heap[Dk]? = some (.deferred (some [])) ∧ w.heap[l]? = some (.loop rec)
theorem RoundJ.stable (m0 : List Mk) (ds : List Deferred) (Oc : Nat → Prop) (l Dk : Nat) (rec : Loop) : fZ (RoundJ m0 ds Oc l Dk rec) := by
 rintro m O C C' w w' ⟨h1,h2,h3,h4,h5,h6,h7⟩ _ _ hh
 exact ⟨h1,h2,h3.keep (fun _ h => h) (fun g hg => hh g (.inl (h2 g hg))),h4,h5,(hh Dk (.inl h5)).trans h6,(hh l (.inl h4)).trans h7⟩
/-- The surroundings of a round. -/
def Cx.rnd (X : Cx) (m0 : List Mk) (ds : List Deferred) (Oc : Nat → Prop) (l Dk : Nat) (rec : Loop) (bl0 : List Nat) (w : World) (O C : Nat → Prop) : Cx :=
 ⟨X.F.inRound l,X.n - 1 - 1,X.P,w,fun g => C g ∨ O g,fun g => O g ∨ w.heap.size ≤ g,RoundJ m0 ds Oc l Dk rec,bl0,fun _ h => .inr h,fun g h => h.elim (fun h => .inl (.inr h)) .inr,
  RoundJ.stable _ _ _ _ _ _,fun l ys k m O C w y u h => absurd rfl (h.1 l ys k m)⟩
/-- What the loop knows between the rounds. -/
def lZ (X : Cx) (m0 : List Mk) (a : Act) (Oc Cc0 : Nat → Prop) (l Dk : Nat) (rec : Loop) (bl0 : List Nat) (nb : Nat) (sl : List D) (bx : Nat → List Bx) (vc : Nat → List (Option Vc)) (k : Nat) (O C : Nat → Prop) (w : World) : Prop :=
 (∀ g,Cc0 g → C g) ∧ ∃ γ Cc,Rel (X.rnd m0 a.defers Oc l Dk rec bl0 w O C) ⟨[.pin nb],List.replicate sl.length .any,bx k,vc k⟩ { tmps := a.tmps,defers := [] } w γ Cc ∧
  ∀ (t : Nat) (d : D),sl[t]? = some d → RD w Cc0 γ d (a.tmps.getD t undef)
theorem zU {m0 : List Mk} {Oc Cc0 : Nat → Prop} {l Dk : Nat} {rec : Loop} {bl0 : List Nat} {nb : Nat} {sl : List D} {bx : Nat → List Bx} {vc : Nat → List (Option Vc)} : vU (lZ X m0 a Oc Cc0 l Dk rec bl0 nb sl bx vc) := by
 rintro k O C C' w w' ⟨h1,γ,Cc,r,hsl⟩ hsz hC hh
 have hOC : ∀ g,Held γ (vc k) Cc g → O g ∨ C g := by
  intro g hg
  have hlt := Held.lt r hg
  rcases hg.split with h | h
  ·rcases (r.cc g h).1 with (h | h) | h
   ·exact .inr h
   ·exact .inl h
   ·change w.heap.size ≤ g at h; omega
  ·rcases (r.own_z h).1 with h | h
   ·exact .inl h
   ·omega
 refine ⟨fun g h => hC g (h1 g h),γ,Cc,?_,fun t d hd => (hsl t d hd).keep ⟨fun _ h => h,fun g h => hh g (.inr (h1 g h))⟩ (GhLe.refl _)⟩
 refine r.move (X' := X.rnd m0 a.defers Oc l Dk rec bl0 w' O C') hsz (fun g h => hh g (hOC g h)) (fun _ h => h) (fun g h => ?_) (GrZ.refl _ _) (fun g h => ⟨?_,Nat.lt_of_lt_of_le (r.cc g h).2.1 hsz,fun hb => (r.own_z hb).2.1 h⟩) ?_ r.bp
 ·rcases (r.own_z h).1 with h' | h'
  ·exact .inl h'
  ·have := (r.own_z h).2.2
   omega
 ·rcases hOC g (.inl h) with h' | h'
  ·exact .inl (.inr h')
  ·exact .inl (.inl (hC g h'))
 ·obtain ⟨O2,q1,q2,q3⟩ := r.fr
  have hO2 : ∀ g,O2 g → O g := fun g h => by
   rcases (q3 g h).2.1 with h' | h'
   ·exact h'
   ·have := (q3 g h).1; omega
  refine ⟨O2,RoundJ.stable _ _ _ _ _ _ _ _ _ _ _ _ q1 hsz (fun _ h => h) (fun g h => h.elim (fun h => hh g (.inl (hO2 g h))) fun h => hh g (hOC g (.inl h))),q2,fun g h => ⟨Nat.lt_of_lt_of_le (q3 g h).1 hsz,.inl (hO2 g h),(q3 g h).2.2⟩⟩
/-- What is shown of a round: what comes is put into place; the body; the variables' next state. -/
def gL (P : Program) (nb p : Nat) (assign body : Code) (sl : List D) (bx bx' : List Bx) (vc vc' : List (Option Vc)) (y : PV) : Prop :=
 ∀ X' : Cx,X'.P = P → Wide X'.F → AW X' assign (fun e σ1 => e = .normal ∧ σ1.df = [.pin nb] ∧ ∀ X'' : Cx,X''.P = P → Wide X''.F → AW X'' body (fun e σ2 => e = .normal ∧ Wk X'' σ2 ⟨[.pin nb],List.replicate sl.length .any,bx',vc'⟩) σ1)
  ⟨[.pin nb],sl.set p y.d,bx,vc⟩
theorem aV (hX : Wide X.F) {m0 : List Mk} {Oc Cc0 : Nat → Prop} {l Dk fnn p : Nat} {bl0 : List Nat} {nb : Nat} {sl : List D} {bx : Nat → List Bx} {vc : Nat → List (Option Vc)} {assign body : Code} {ys : List PV} {dfr : Nat}
  (hst : ∀ d ∈ sl,d.steady nb = true) (hnb : nb ≤ bl0.length) (hlD : l ≠ Dk) (hOcl : ¬ Oc l)
  (hround : ∀ (k : Nat) (y : PV),ys[k]? = some y → gL X.P nb p assign body sl (bx k) (bx (k + 1)) (vc k) (vc (k + 1)) y) :
  wU X.F (X.n - 1) X.P l ys (lZ X m0 a Oc Cc0 l Dk { state := .ready,pending := none,fn := fnn,tmps := a.tmps,params := #[p],assign := assign,body := body,defers := dfr } bl0 nb sl bx vc) := by
 obtain ⟨rec,hrec⟩ : ∃ rec : LoopState → Loop,rec = fun st => { state := st,pending := none,fn := fnn,tmps := a.tmps,params := #[p],assign := assign,body := body,defers := dfr } := ⟨_,rfl⟩
 have er : ({ state := .ready,pending := none,fn := fnn,tmps := a.tmps,params := #[p],assign := assign,body := body,defers := dfr } : Loop) = rec .ready := by rw [hrec]
 rw [er]
 rintro k O C w y u ⟨hCc,γ,Cc,r,hsl⟩ hy hu hO hC
 have hOC : ∀ g,Held γ (vc k) Cc g → O g ∨ C g := by
  intro g hg
  have hlt := Held.lt r hg
  rcases hg.split with h | h
  ·rcases (r.cc g h).1 with (h | h) | h
   ·exact .inr h
   ·exact .inl h
   ·change w.heap.size ≤ g at h; omega
  ·rcases (r.own_z h).1 with h | h
   ·exact .inl h
   ·omega
 have hown : ∀ g,Held γ (vc k) (fun _ => False) g → O g := by
  intro g hg
  rcases (r.own_z hg).1 with h | h
  ·exact h
  ·have := (r.own_z hg).2.2; omega
 obtain ⟨O2,q1,q2,q3⟩ := r.fr
 have hO2 : ∀ g,O2 g → O g := fun g h => by
  rcases (q3 g h).2.1 with h' | h'
  ·exact h'
  ·have := (q3 g h).1; omega
 have hj := q1
 obtain ⟨j1,j2,j3,j4,j5,j6,j7⟩ := q1
 have hrun := run_yield (P := X.P) (args := #[u]) j7 (by rw [hrec]; rfl)
 have hrt : ((rec .ready).params.zip #[u]).foldl (fun tmps (t,a) => tmps.setIfInBounds t a) (rec .ready).tmps = a.tmps.setIfInBounds p u := by
  rw [hrec]
  simp
 rw [hrt] at hrun
 refine ⟨_,_,_,_,hrun,?_⟩
 have e1 : (rec .ready).fn = fnn := by rw [hrec]
 have e2 : (rec .ready).assign = assign := by rw [hrec]
 have e3 : (rec .ready).body = body := by rw [hrec]
 rw [e1,e2,e3]
 refine roundIn_of_wpIn (hX.fn fnn) ?_
 -- the round's start
 let Xr := X.rnd m0 a.defers Oc l Dk (rec .ready) bl0 w O C
 let C1 : Nat → Prop := fun g => Cc g ∨ C g
 have r1 : Rel Xr ⟨[.pin nb],List.replicate sl.length .any,bx k,vc k⟩ { tmps := a.tmps,defers := [] } w γ C1 := by
  refine r.move (X' := Xr) (Nat.le_refl _) (fun _ _ => rfl) (fun _ h => .inl h) (fun g h => (r.own_z h).1) (GrZ.refl _ _) (fun g h => ?_) ⟨O2,?_,q2,fun g h => ⟨(q3 g h).1,(q3 g h).2.1,fun hh => ?_⟩⟩ r.bp
  ·rcases h with h | h
   ·exact ⟨(r.cc g h).1,(r.cc g h).2.1,fun hb => (r.own_z hb).2.1 h⟩
   ·exact ⟨.inl (.inl h),hC g h,fun hb => (hO g (hown g hb)).2 h⟩
  ·exact hj
  ·rcases hh.split with (hh | hh) | hh
   ·exact (q3 g h).2.2 (.inl hh)
   ·exact (hO g (hO2 g h)).2 hh
   ·exact (q3 g h).2.2 hh.of
 have r2 : Rel Xr ⟨[.pin nb],sl,bx k,vc k⟩ { tmps := a.tmps,defers := [] } w γ C1 :=
  r1.reslot (by have := r.sz; simpa using this) fun t d hd => (hsl t d hd).keep ⟨fun g h => .inr (hCc g h),fun _ _ => rfl⟩ (GhLe.refl _)
 have r3 := r2.put (some p) y.d u ((hu.keep ⟨fun g h => .inr h,fun _ _ => rfl⟩).rd)
 refine wpIn_mono (hround k y hy Xr rfl ⟨hX.fn,hX.depth,hX.alive⟩ _ _ ⟨_,_,r3⟩) ?_
 rintro e a1 w1 ⟨σ1,⟨rfl,hdf1,hbody⟩,γ1,C1',s1⟩
 obtain ⟨O3,s2,s3,s4⟩ := s1.fr
 have hj1 := s2
 obtain ⟨t1,t2,t3,t4,t5,t6,t7⟩ := s2
 refine ⟨_,run_beginRound t7 (by rw [hrec]),?_⟩
 have eb : ({ rec .ready with state := .busy } : Loop) = rec .busy := by rw [hrec]
 rw [eb]
 let w2 := w1.putObj l (.loop (rec .busy))
 have hl1 : l < w1.heap.size := (s4 l t4).1
 let Xb := X.rnd m0 a.defers Oc l Dk (rec .busy) bl0 w O C
 have hlO : O l := hO2 l j4
 have hds1 : a1.defers = [] := by rw [hdf1] at s3; exact s3
 have r4 : Rel Xb σ1 a1 w2 γ1 C1' := by
  have := s1.move (X' := Xb) (w' := w2) (m' := σ1.df) (ds' := a1.defers) (by simp [w2]) (fun g h => World.putObj_heap_other (fun e => (s4 l t4).2.2 (by rw [← e]; exact h))) (fun _ h => h) (fun g h => (s1.own_z h).1)
   (s1.gr.trans (w2 := w2) (Z' := fun g => g = l) ⟨rfl,rfl,rfl,by simp [w2],fun k _ hk => World.putObj_heap_other hk⟩ (fun g _ e => by subst e; exact .inl hlO))
   (fun g h => ⟨(s1.cc g h).1,by simpa [w2] using (s1.cc g h).2.1,fun hb => (s1.own_z hb).2.1 h⟩)
   ⟨O3,⟨t1,t2,t3.keep (fun _ h => h) (fun g hg => World.putObj_heap_other (fun e => hOcl (by rw [← e]; exact hg))),t4,t5,(World.putObj_heap_other hlD.symm).trans t6,World.putObj_heap_same hl1⟩,?_,fun g h => ⟨by simpa [w2] using (s4 g h).1,(s4 g h).2.1,(s4 g h).2.2⟩⟩ s1.bp
  ·exact this
  ·rw [hdf1]
   exact hds1
 refine wpIn_mono (hbody Xb rfl ⟨hX.fn,hX.depth,hX.alive⟩ _ _ ⟨_,_,r4⟩) ?_
 rintro e a2 w3 ⟨σ2,⟨rfl,hwk⟩,hs2⟩
 obtain ⟨γ3,C3,v1⟩ := hwk _ _ hs2
 obtain ⟨O4,v2,v3,v4⟩ := v1.fr
 obtain ⟨y1,y2,y3,y4,y5,y6,y7⟩ := v2
 have jAA := run_endRound (P := X.P) none y7
 refine ⟨_,_,jAA,rfl,?_⟩
 have ee : ({ rec .busy with state := if (none : Option Code).isNone then .ready else .done,pending := none } : Loop) = rec .ready := by rw [hrec]; rfl
 rw [ee]
 let w4 := w3.putObj l (.loop (rec .ready))
 have hl3 : l < w3.heap.size := (v4 l y4).1
 have hsz3 : w.heap.size ≤ w3.heap.size := v1.gr.size
 have hsz4 : w4.heap.size = w3.heap.size := World.putObj_size
 have hgr4 : GrZ w w4 (fun g => O g ∨ w.heap.size ≤ g) := v1.gr.trans (Z' := fun g => g = l) ⟨rfl,rfl,rfl,by rw [hsz4]; exact Nat.le_refl _,fun k _ hk => World.putObj_heap_other hk⟩ (fun g _ e => by subst e; exact .inl hlO)
 have hC4 : ∀ g,C g → w4.heap[g]? = w.heap[g]? := fun g h => hgr4.block g (hC g h) (fun hz => hz.elim (fun h' => (hO g h').2 h) (fun h' => by have := hC g h; omega))
 let O' : Nat → Prop := fun g => O g ∨ (w.heap.size ≤ g ∧ g < w4.heap.size)
 have zO' : ∀ g,g < w3.heap.size → Xb.Z g → O' g := fun g h1 h2 => h2.elim .inl (fun h => .inr ⟨h,by rw [hsz4]; exact h1⟩)
 refine ⟨O',fun g h => .inl h,fun g h => h,⟨hCc,γ3,(fun g => C3 g ∨ C g),?_,fun t d hd => ?_⟩,⟨hgr4.os,hgr4.tape,hgr4.output,hgr4.size,fun g h1 h2 => hgr4.block g h1 (fun hz => hz.elim h2 (fun h => by omega))⟩⟩
 ·have hm := v1.move (X' := X.rnd m0 a.defers Oc l Dk (rec .ready) bl0 w4 O' C) (w' := w4) (m' := [.pin nb]) (ds' := []) (C' := fun g => C3 g ∨ C g) (by rw [hsz4]; exact Nat.le_refl _)
   (fun g h => World.putObj_heap_other (fun e => (v4 l y4).2.2 (by rw [← e]; exact h))) (fun _ h => .inl h) (fun g h => .inl (zO' g (v1.own_z h).2.2 (v1.own_z h).1)) (GrZ.refl _ _) (fun g h => ?_)
   ⟨O4,⟨y1,y2,y3.keep (fun _ h => h) (fun g hg => World.putObj_heap_other (fun e => hOcl (by rw [← e]; exact hg))),y4,y5,(World.putObj_heap_other hlD.symm).trans y6,World.putObj_heap_same hl3⟩,rfl,
    fun g h => ⟨by rw [hsz4]; exact (v4 g h).1,.inl (zO' g (v4 g h).1 (v4 g h).2.1),fun hh => ?_⟩⟩ v1.bp
  ·have sz1 := r.sz
   exact hm.reslot (ts := a.tmps) (by simpa using sz1) fun t d hd => by
    rw [List.getElem?_replicate] at hd
    split at hd
    ·injection hd with hd; subst hd; exact .any _
    ·cases hd
  ·rcases h with h | h
   ·refine ⟨.inl ?_,by rw [hsz4]; exact (v1.cc g h).2.1,fun hb => (v1.own_z hb).2.1 h⟩
    rcases (v1.cc g h).1 with (h' | h') | h'
    ·exact .inl h'
    ·exact .inr (.inl h')
    ·exact .inr (.inr ⟨h',by rw [hsz4]; exact (v1.cc g h).2.1⟩)
   ·refine ⟨.inl (.inl h),by rw [hsz4]; exact Nat.lt_of_lt_of_le (hC g h) hsz3,fun hb => ?_⟩
    rcases (v1.own_z hb).1 with h' | h'
    ·exact (hO g h').2 h
    ·have := hC g h
     change w.heap.size ≤ g at h'
     omega
  ·rcases hh.split with (hh | hh) | hh
   ·exact (v4 g h).2.2 (.inl hh)
   ·rcases (v4 g h).2.1 with h' | h'
    ·exact (hO g h').2 hh
    ·have := hC g hh
     change w.heap.size ≤ g at h'
     omega
   ·exact (v4 g h).2.2 hh.of
 ·refine (hsl t d hd).steady (nb := nb) ⟨fun _ h => h,fun g h => hC4 g (hCc g h)⟩ (fun b g hb hg => ?_) (hst d (List.mem_of_getElem? hd))
  have hb0 : bl0[b]? = some (bl0[b]'(by omega)) := List.getElem?_eq_getElem _
  have h1 := r.bp.2 b _ (by simpa [vL] using hb) hb0
  rw [hg] at h1
  injection h1 with h1
  exact v1.bp.2 b g (by simpa [vL] using hb) (by rw [h1]; exact hb0)
theorem dT {w w1 w2 : World} {row row' : Option Nat} (h : w.grownBy w1 row) (h' : w1.grownBy w2 row') (hr : ∀ g,row' = some g → g < w.heap.size → row = some g) : w.grownBy w2 row :=
 ⟨h'.os.trans h.os,h'.tape.trans h.tape,h'.output.trans h.output,Nat.le_trans h.size h'.size,fun k hk hne =>
  (h'.block k (Nat.lt_of_lt_of_le hk h.size) (fun e => hne ((hr k e.symm hk).symm))).trans (h.block k hk hne)⟩
theorem eQ (m : List Mk) : vL (.coll :: m) = vL m := rfl
/-- **A range over a function.** -/
theorem bCA (hX : Wide X.F) (hro : X.F.round = none) (hpl : ∀ m O C w,X.J (.coll :: m) O C w) {g : Operand} {p : Nat} {assign body : Code} {Q : Exit → St → Prop} {f : FuncId} {xs : List P1} {ys : List PV} (sl : List D) (nb : Nat) (bx : Nat → List Bx) (vc : Nat → List (Option Vc))
  (h0 : Wk X σ ⟨σ.df,sl,bx 0,vc 0⟩) (hg : St.ev ⟨σ.df,sl,bx 0,vc 0⟩ g = .p (.clo f xs)) (hseq : SeqC X.P f xs ys) (hst : sl.all (D.steady nb) = true) (hnb : (bx 0).length = nb) (_ : decide (vL σ.df ≤ nb) = true)
  (hround : ∀ (k : Nat) (y : PV),ys[k]? = some y → gL X.P nb p assign body sl (bx k) (bx (k + 1)) (vc k) (vc (k + 1)) y)
  (hQ : Q .normal ⟨.coll :: σ.df,sl,bx ys.length,vc ys.length⟩) : AW X (.rangeFunc g #[p] assign body) Q σ := by
 intro a w hs
 obtain ⟨γ,C,r⟩ := h0 a w hs
 have hst' : ∀ d ∈ sl,d.steady nb = true := List.all_eq_true.1 hst
 have hclo := lE r g
 rw [hg] at hclo
 obtain ⟨gs,us,hgv,c1,c2,c3,c4,c5⟩ : ∃ (gs : List Nat) (us : List Value),a.eval g = .func (.func f) #[] (gs.map fun g => Value.pointer (some ⟨g,0,none⟩)).toArray ∧ gs.length = xs.length ∧ us.length = xs.length ∧ (∀ g ∈ gs,C g) ∧
   (∀ (j g : Nat) (u : Value),gs[j]? = some g → us[j]? = some u → w.cell? ⟨g,0,none⟩ = some u) ∧ ∀ (j : Nat) (x : P1) (u : Value),xs[j]? = some x → us[j]? = some u → R1 w C x u := by
  generalize a.eval g = v at hclo
  cases hclo with | p _ _ h =>
  cases h with | clo _ _ gs us h1 h2 h3 h4 h5 => exact ⟨gs,us,rfl,h1,h2,h3,h4,h5⟩
 refine wpIn_rangeFunc ?_
 intro fn hfn
 rw [hro]
 obtain ⟨rec,hrec⟩ : ∃ rec : Loop,rec = { state := .ready,pending := none,fn := fn,tmps := a.tmps,params := #[p],assign := assign,body := body,defers := w.heap.size } := ⟨_,rfl⟩
 obtain ⟨W1,hW1⟩ : ∃ W1,(w.alloc (.deferred (some []))).alloc (.loop rec) = W1 := ⟨_,rfl⟩
 have hszW : W1.heap.size = w.heap.size + 2 := by rw [← hW1,yM,yM]
 have hL1 : W1.heap[w.heap.size + 1]? = some (.loop rec) := by
  rw [← hW1]; have := World.alloc_heap_new (w.alloc (.deferred (some []))) (.loop rec); rwa [World.size_alloc] at this
 have hK1 : W1.heap[w.heap.size]? = some (.deferred (some [])) := by
  rw [← hW1]; exact (Below.heap_alloc _ _ _ (by simp)).trans (World.alloc_heap_new w _)
 have hgW : w.grownBy W1 none := by
  have h1 := World.grownBy_alloc w (.deferred (some [])) none
  have h2 := World.grownBy_alloc (w.alloc (.deferred (some []))) (.loop rec) none
  rw [hW1] at h2
  exact dT h1 h2 (by simp)
 have r' := r.grow0 hgW
 obtain ⟨Oc,ho1,ho2⟩ := r.growFr0 hgW
 let O0 : Nat → Prop := fun g => Held γ (vc 0) (fun _ => False) g ∨ Oc g ∨ g = w.heap.size + 1 ∨ g = w.heap.size
 have hCl : ∀ g,C g → g < w.heap.size := fun g h => (r.cc g h).2.1
 have hO0 : ∀ g,O0 g → X.Z g ∧ g < W1.heap.size ∧ ¬ C g := by
  intro g h
  rcases h with h | h | h | h
  ·have := r.own_z h
   exact ⟨this.1,by omega,this.2.1⟩
  ·exact ⟨(ho1.2.2 g h).2.1,(ho1.2.2 g h).1,fun hc => (ho1.2.2 g h).2.2 (.inl hc)⟩
  ·subst h
   exact ⟨X.zn _ (Nat.le_trans r.size_le (Nat.le_succ _)),by omega,fun hc => by have := hCl _ hc; omega⟩
  ·subst h
   exact ⟨X.zn _ r.size_le,by omega,fun hc => by have := hCl _ hc; omega⟩
 have hJ0 : lZ X σ.df a Oc C (w.heap.size + 1) w.heap.size rec γ.bl nb sl bx vc 0 O0 C W1 := by
  refine ⟨fun _ h => h,γ,C,?_,r'.sl⟩
  have := r'.move (X' := X.rnd σ.df a.defers Oc (w.heap.size + 1) w.heap.size rec γ.bl W1 O0 C) (w' := W1) (m' := [.pin nb]) (ds' := []) (C' := C) (Nat.le_refl _) (fun _ _ => rfl) (fun _ h => h) (fun g h => .inl (.inl h)) (GrZ.refl _ _)
   (fun g h => ⟨.inl (.inl h),(r'.cc g h).2.1,fun hb => (r'.own_z hb).2.1 h⟩)
   ⟨fun g => Oc g ∨ g = w.heap.size + 1 ∨ g = w.heap.size,⟨fun l ys k m h => (by cases h),fun g h => .inl h,ho1.2.1,.inr (.inl rfl),.inr (.inr rfl),hK1,hL1⟩,rfl,fun g h => ?_⟩
   ⟨by rw [hnb]; exact Nat.le_refl _,fun b g _ h => h⟩
  ·exact this.reslot (ts := a.tmps) (by have := r.sz; simpa using this) fun t d hd => by
    rw [List.getElem?_replicate] at hd
    split at hd
    ·injection hd with hd; subst hd; exact .any _
    ·cases hd
  ·rcases h with h | h | h
   ·exact ⟨(ho1.2.2 g h).1,.inl (.inr (.inl h)),(ho1.2.2 g h).2.2⟩
   ·subst h
    exact ⟨by omega,.inl (.inr (.inr (.inl rfl))),fun hh => by have := Held.lt r hh; omega⟩
   ·subst h
    exact ⟨by omega,.inl (.inr (.inr (.inr rfl))),fun hh => by have := Held.lt r hh; omega⟩
 have kW : Kp C C w W1 := ⟨fun _ h => h,fun g h => hgW.block g (hCl g h) (by simp)⟩
 refine ⟨w.heap.size + 1,[{ target := .collected w.heap.size,args := #[] }],W1,{ target := .fn (.func f) (gs.map fun g => Value.pointer (some ⟨g,0,none⟩)).toArray,args := #[.func (.yield (w.heap.size + 1)) #[] #[]] },W1,f,
  #[.func (.yield (w.heap.size + 1)) #[] #[]] ++ (gs.map fun g => Value.pointer (some ⟨g,0,none⟩)).toArray,W1,?_,?_,?_,?_,fun h => by simp [hX.depth] at h,?_⟩
 ·rw [← hW1,hrec]; exact run_enterLoop_outer _ _ _ _ _
 ·simp only [resolve,hgv]
  simp [go_sem]
 ·intro f' _
  exact hX.fn f'
 ·obtain ⟨fn',e1,e2,e3⟩ := hseq.en
  have e4 : ¬ fn'.name = "runtime.NumGoroutine" := by simpa using e3
  have e5 : ¬ fn'.body = none := by intro h; rw [h] at e2; cases e2
  simp [invoke,callFunc,e1,e4,e5]
 ·have hcall := hseq.h X.F (X.n - 1) (w.heap.size + 1) C O0 W1 gs us (lZ X σ.df a Oc C (w.heap.size + 1) w.heap.size rec γ.bl nb sl bx vc) hX hro (fun g h => (r'.cc g h).2.1) c1 c2 c3
   (fun j g u hg hu => (World.cell?_of_block (kW.h g (c3 g (List.mem_of_getElem? hg)))).trans (c4 j g u hg hu)) (fun j x u hx hu => (c5 j x u hx hu).keep kW) (fun g h => (hO0 g h).2) zU
   (by rw [hrec]; exact aV hX hst' (by rw [r.bl,hnb]; exact Nat.le_refl _) (by omega) (fun h => by have := ho2 _ h; omega) hround) hJ0
  refine hcall.mono ?_
  rintro e W' ⟨⟨v,rfl⟩,O',C',⟨hCc,γ',Cc,rl,hsl⟩,hO',hC',hgr⟩
  obtain ⟨O4,⟨y1,y2,y3,y4,y5,y6,y7⟩,v3,v4⟩ := rl.fr
  have jAA := run_endLoop (P := X.P) y7 (by rw [hrec]; simp)
  have hpend : rec.pending = none := by rw [hrec]
  rw [hpend] at jAA
  obtain ⟨W2,hW2⟩ : ∃ W2,W'.putObj (w.heap.size + 1) (.loop { rec with state := .exhausted,pending := none }) = W2 := ⟨_,rfl⟩
  have hend' : (Instr.endLoop (w.heap.size + 1)).run X.P W' = .ok none W2 := by
   rw [← hW2,jAA]
  refine ⟨none,_,hend',_,hQ,?_⟩
  have hszW' : W1.heap.size ≤ W'.heap.size := hgr.size
  have hsz2 : W2.heap.size = W'.heap.size := by rw [← hW2]; exact World.putObj_size
  have hoth : ∀ g,g ≠ w.heap.size + 1 → W2.heap[g]? = W'.heap[g]? := fun g h => by rw [← hW2]; exact World.putObj_heap_other h
  have hown : ∀ g,Held γ' (vc ys.length) (fun _ => False) g → O0 g ∨ W1.heap.size ≤ g := by
   intro g h
   rcases (rl.own_z h).1 with h1 | h1
   ·exact (hO' g h1).1
   ·have := (rl.own_z h).2.2
    change W'.heap.size ≤ g at h1
    omega
  have hZ1 : ∀ g,O0 g ∨ W1.heap.size ≤ g → X.Z g := fun g h => h.elim (fun h => (hO0 g h).1) (fun h => X.zn g (by have := r'.size_le; exact Nat.le_trans this h))
  have hnC : ∀ g,O0 g ∨ W1.heap.size ≤ g → ¬ C g := fun g h hc => h.elim (fun h => (hO0 g h).2.2 hc) (fun h => by have := hCl g hc; omega)
  have hgrX : GrZ X.w0 W2 X.Z := by
   refine (r'.gr.trans hgr fun g _ h => (hO0 g h).1).trans (w2 := W2) (Z' := fun g => g = w.heap.size + 1) ⟨by rw [← hW2]; rfl,by rw [← hW2]; rfl,by rw [← hW2]; rfl,by omega,fun k _ hk => hoth k hk⟩ (fun g _ h => ?_)
   subst h
   exact hZ1 _ (.inl (.inr (.inr (.inl rfl))))
  have hm := rl.move (X' := X) (w' := W2) (m' := .coll :: σ.df) (ds' := { target := .collected w.heap.size,args := #[] } :: a.defers) (C' := fun g => Cc g ∨ C g) (by omega)
   (fun g h => hoth g (fun e => (v4 _ y4).2.2 (by rw [← e]; exact h))) (fun _ h => .inl h) (fun g h => hZ1 g (hown g h)) hgrX (fun g h => ?_)
   ⟨fun g => Oc g ∨ g = w.heap.size,hpl _ _ _ _,⟨w.heap.size,a.defers,rfl,.inr rfl,(hoth _ (by omega)).trans y6,y3.keep (fun g h => ⟨.inl h,fun e => by have := ho2 g h; omega⟩) (fun g h => hoth g (fun e => by have := ho2 g h; omega))⟩,fun g h => ?_⟩
   ⟨by rw [eQ]; exact Nat.le_trans (hnb ▸ r.bp.1) rl.bp.1,fun b g hb hg => rl.bp.2 b g (Nat.lt_of_lt_of_le (by rw [eQ] at hb; exact hb) (hnb ▸ r.bp.1)) (r.bp.2 b g (by rw [eQ] at hb; exact hb) hg)⟩
  ·refine ⟨_,_,hm.reslot (sl := sl) (ts := a.tmps) r.sz fun t d hd => (hsl t d hd).keep ⟨fun g h => .inr h,fun g h => hoth g (fun e => by have := hCl g h; omega)⟩ (GhLe.refl _)⟩
  ·rcases h with h | h
   ·refine ⟨?_,by rw [hsz2]; exact (rl.cc g h).2.1,fun hb => (rl.own_z hb).2.1 h⟩
    have : C g ∨ O0 g ∨ W1.heap.size ≤ g := by
     rcases (rl.cc g h).1 with (h1 | h1) | h1
     ·exact (hC' g h1).1
     ·exact .inr (hO' g h1).1
     ·have := (rl.cc g h).2.1
      change W'.heap.size ≤ g at h1
      omega
    rcases this with h1 | h1
    ·exact (r.cc g h1).1
    ·exact X.zc g (hZ1 g h1)
   ·exact ⟨(r.cc g h).1,by have := hCl g h; omega,fun hb => hnC g (hown g hb) h⟩
  ·have hO4 : O4 g := h.elim (y2 g) (fun e => by subst e; exact y5)
   refine ⟨by rw [hsz2]; exact (v4 g hO4).1,hZ1 g (.inl (h.elim (fun h => .inr (.inl h)) (fun h => .inr (.inr (.inr h))))),fun hh => ?_⟩
   rcases hh.split with (hh | hh) | hh
   ·exact (v4 g hO4).2.2 (.inl hh)
   ·exact hnC g (.inl (h.elim (fun h => .inr (.inl h)) (fun h => .inr (.inr (.inr h))))) hh
   ·exact (v4 g hO4).2.2 hh.of
end
end Go.Proofs.Ytldcoekbgfaomaa
end
section
namespace Go.Proofs.Ytldcoekbgfaomaa
open Go.RowKit
open Classical
/-- The post of a function whose result is a function value over its variables. -/
def lIA (t : Nat) (g : FuncId) (xs : List P1) : Exit → St → Prop
 | .normal,σ | .ret,σ => ∃ bs,σ.slots[t]? = some (.fn g bs) ∧ pD σ bs = some xs
 | _,_ => False
theorem kY {σ : St} {t : Nat} {g : FuncId} {xs : List P1} (bs : List Nat) (h2 : σ.slots[t]? = some (.fn g bs)) (h3 : pD σ bs = some xs) : lIA t g xs .ret σ := ⟨bs,h2,h3⟩
theorem rQ (σ : St) (m : List Mk) : ∀ bs,pD { σ with df := m } bs = pD σ bs
 | [] => rfl
 | b :: bs => by simp only [pD,rQ σ m bs]
theorem nO {P : Program} {f : FuncId} {fn : Func} {c : Code} {ds : List PV} {t : Nat} {g : FuncId} {xs : List P1} (hf : P.funcs[f]? = some fn) (hbody : fn.body = some c) (hname : (fn.name == "runtime.NumGoroutine") = false)
  (hres : fn.results = #[.tmp t])
  (h : ∀ X : Cx,X.P = P → Wide X.F → X.F.round = none → X.Pl → AW X c (lIA t g xs) ⟨[],ds.map PV.d ++ List.replicate (fn.ntmps - ds.length) .any,[],[]⟩) : ACalls P f ds (.p (.clo g xs)) := by
 refine ⟨⟨fn,hf,by rw [hbody]; rfl,hname⟩,fun F n C w vs hF hro hC hv => ?_⟩
 refine callsIn_of_wp_marks hf hbody (hF.fn f) ?_ hro
 have hw := h (.plain F n P w C) rfl hF hro (Cx.plain_pl _ _ _ _ _) _ _ ⟨_,_,bQ (fn := fn) hC hv⟩
 refine wpIn_mono hw fun e a' w' he => ?_
 obtain ⟨σ',h1,γ,C',r'⟩ := he
 have fin : (∃ bs,σ'.slots[t]? = some (.fn g bs) ∧ pD σ' bs = some xs) → LeavesInM F n P fn a'.tmps (fun e w' => ∃ v',e = .returned v' ∧ RD w' (fun g => C g ∨ (w.heap.size ≤ g ∧ g < w'.heap.size)) ⟨[],[]⟩ (.p (.clo g xs)) v' ∧ w.grownBy w' none) a'.defers .returning w' := by
  rintro ⟨bs,hs,hV⟩
  obtain ⟨O,hO⟩ := r'.fr
  refine gG _ _ _ hO.2.1 fun w2 hg hsz => ?_
  rcases r'.left hO hg hsz with r2 | hn
  ·have hrd := r2.sl t _ hs
   have hrv : RV w2 (fun g => C' g ∨ g ∈ γ.bl) (.p (.clo g xs)) (a'.tmps.getD t undef) := iZ r2 (by simp only [D.pvC?]; rw [rQ,hV]; rfl) hrd
   refine ⟨_,?_,_,rfl,(hrv.keep (C' := fun g => C g ∨ (w.heap.size ≤ g ∧ g < w2.heap.size)) ⟨fun g hg => ?_,fun _ _ => rfl⟩).rd,r2.gr.plain⟩
   ·rw [wK,hres]
    simp [cN]
   ·rcases hg with hg | hg
    ·obtain ⟨c1,c2,_⟩ := r2.cc g hg
     rcases c1 with c1 | c1
     ·exact .inl c1
     ·exact .inr ⟨c1,c2⟩
    ·exact .inr ⟨r2.bge g hg,r2.bl_lt hg⟩
  ·exact absurd (Cx.plain_pl _ _ _ _ _) hn
 cases e with
 | normal => exact fin h1
 | ret => exact fin h1
 | exit id => exact h1.elim
 | goto l => exact h1.elim
 | panic ch => exact h1.elim
 | outgrown => exact h1.elim
theorem qKA {P P' : Program} {f g : FuncId} {e : TypeId} {sz n : Nat} {xs xs' : List P1} (hP : P' = P) (h : ACallsS P f g e sz n xs xs') : ACallsS P' f g e sz n xs xs' := hP ▸ h
section
variable {X : Cx} {σ : St} {Q : Exit → St → Prop}
/-- nil by its letter. -/
theorem uEA {c : Code} (t : Nat) (ht : σ.slots[t]? = some (.p (.v (.slice none 0 0)))) {σ' : St} (he : { σ with slots := σ.slots.set t .nil } = σ') (h : AW X c Q σ') : AW X c Q σ := by
 subst he
 intro a w hs
 refine h a w ?_
 obtain ⟨γ,C,r⟩ := hs
 have hv := xX (r.sl t _ ht)
 refine ⟨γ,C,r.reslot (ts := a.tmps) (by simpa using r.sz) fun i d hd => ?_⟩
 rw [List.getElem?_set] at hd
 split at hd
 ·rename_i he
  subst he
  split at hd
  ·injection hd with hd
   subst hd
   rw [hv]
   exact .nil
  ·cases hd
 ·exact r.sl i d hd
theorem jM {c : Code} (bx k : Nat) (y : Bx) (e : TypeId) (sz : Nat) (hy : σ.boxes[bx]? = some y) (hk : y.cells[k]? = some .nil) {σ' : St} (he : σ.nilCell bx k y e sz = σ') (h : AW X c Q σ') : AW X c Q σ := iW (he ▸ pR bx k y e sz hy hk) h
theorem aM (hX : Wide X.F) (hro : X.F.round = none) (hpl : ∀ m O C w,X.J (.coll :: m) O C w) {g : Operand} {p : Nat} {assign body : Code} {f : FuncId} {xs : List P1} {ys : List PV} (df : List Mk) (sl : List D) (nb : Nat) (bx : Nat → List Bx) (vc : Nat → List (Option Vc))
  (bx1 : List Bx) (vc1 : List (Option Vc)) (h0 : Wk X σ ⟨df,sl,bx 0,vc 0⟩) (hdf : σ.df = df) (hg : St.ev ⟨df,sl,bx 0,vc 0⟩ g = .p (.clo f xs)) (hseq : SeqC X.P f xs ys) (hst : sl.all (D.steady nb) = true) (hnb : (bx 0).length = nb) (hpin : decide (vL df ≤ nb) = true)
  (hbx : bx ys.length = bx1) (hvc : vc ys.length = vc1)
  (hround : ∀ (k : Nat) (y : PV),ys[k]? = some y → gL X.P nb p assign body sl (bx k) (bx (k + 1)) (vc k) (vc (k + 1)) y)
  (hQ : Q .normal ⟨.coll :: df,sl,bx1,vc1⟩) : AW X (.rangeFunc g #[p] assign body) Q σ := by
 subst hdf
 subst hbx
 subst hvc
 exact bCA hX hro hpl sl nb bx vc h0 hg hseq hst hnb hpin hround hQ
/-- A slice without elements,known by its letter,is one. -/
theorem cCA {c : Code} (t : Nat) {A : Option Addr} {k : Nat} (ht : σ.slots[t]? = some (.p (.v (.slice A 0 k)))) {σ' : St} (he : { σ with slots := σ.slots.set t (.p (.sl 0 [])) } = σ') (h : AW X c Q σ') : AW X c Q σ := by
 subst he
 intro a w hs
 refine h a w ?_
 obtain ⟨γ,C,r⟩ := hs
 have hv := xX (r.sl t _ ht)
 refine ⟨γ,C,r.reslot (ts := a.tmps) (by simpa using r.sz) fun i d hd => ?_⟩
 rw [List.getElem?_set] at hd
 split at hd
 ·rename_i he
  subst he
  split at hd
  ·injection hd with hd
   subst hd
   rw [hv]
   exact .p _ _ (.nil _ _)
  ·cases hd
 ·exact r.sl i d hd
theorem pGA {σ σ1 σ' : St} (j : Nat) {V : Vc} (hV : σ.vecs[j]? = some (some V)) (he : σ.freeze j V = σ1) (h : Wk X σ1 σ') : Wk X σ σ' := (he ▸ wT j V hV : Wk X σ σ1).trans h
theorem dCA {l l' : List D} (h : l = l') : leL l l' := h ▸ aS l
theorem kM {b : Tb} {rs : Array ResultVar} {r : D} (h2 : vI b σ rs.toList = some r) : Ret b rs r .ret σ := h2
end
end Go.Proofs.Ytldcoekbgfaomaa
end
section
namespace Go.Proofs.Ytldcoekbgfaomaa
open Go.RowKit
open Classical
/-- The surroundings of a call that may turn some old blocks. -/
def Cx.lent (F : Fence) (n : Nat) (P : Program) (w : World) (C L : Nat → Prop) (bl : List Nat) : Cx :=
 ⟨F,n,P,w,fun g => C g ∨ L g,fun g => L g ∨ w.heap.size ≤ g,vBA,bl,fun _ h => .inr h,fun _ h => h.elim (fun h => .inl (.inr h)) .inr,fun _ _ _ _ _ _ h _ _ _ => h,fun l ys k m _ _ _ _ _ h => absurd rfl (h l ys k m)⟩
/-- A finished range may be marked. -/
structure Cx.Pj (X : Cx) : Prop where
 j : ∀ m O C w,X.J (.coll :: m) O C w
theorem Cx.lent_pj (F : Fence) (n : Nat) (P : Program) (w : World) (C L : Nat → Prop) (bl : List Nat) : (Cx.lent F n P w C L bl).Pj := ⟨fun m O C w l ys k m' h => by cases h⟩
section
variable {X : Cx} {σ : St} {a : Act} {w : World} {γ : Gh} {C : Nat → Prop}
/-- The world when the marks are gone; the first variable's place. -/
theorem Rel.leftL {F : Fence} {n : Nat} {P : Program} {w0 : World} {C0 L : Nat → Prop} {bl : List Nat} (r : Rel (.lent F n P w0 C0 L bl) σ a w γ C) {O : Nat → Prop} {w' : World} (hO : Apart (.lent F n P w0 C0 L bl) σ.df a.defers w γ σ.vecs C O) (hg : GrZ w w' O)
  (hs : w'.heap.size = w.heap.size) : Rel (.lent F n P w0 C0 L bl) { σ with df := [] } { a with defers := [] } w' γ C := by
 refine r.move (by omega) (fun g h => hg.block g (Held.lt r h) fun h' => (hO.2.2 g h').2.2 h) (fun _ h => h) (fun g h => (r.own_z h).1) ?_ (fun g h => ⟨(r.cc g h).1,by rw [hs]; exact (r.cc g h).2.1,fun hb => (r.own_z hb).2.1 h⟩)
  ⟨fun _ => False,fun l ys k m h => (by cases h),rfl,fun _ h => h.elim⟩ ⟨Nat.zero_le _,fun b g h => by simp [vL] at h⟩
 exact r.gr.trans hg fun g _ h => (hO.2.2 g h).2.1
end
/-- The post of a function that is lent a variable. -/
def qGA (b : Tb) (rs : Array ResultVar) (r : D) (ty : TypeId) (cs' : List P1) : Exit → St → Prop
 | .normal,σ | .ret,σ => vI b σ rs.toList = some r ∧ 1 ≤ vL σ.df ∧ ∃ cells,σ.boxes[0]? = some ⟨ty,cells⟩ ∧ eA cells = some cs'
 | _,_ => False
theorem lY {b : Tb} {σ : St} {rs : Array ResultVar} {r : D} {ty : TypeId} {cs' : List P1} {cells : List D} (h2 : vI b σ rs.toList = some r) (h1 : decide (1 ≤ vL σ.df) = true) (h3 : σ.boxes[0]? = some ⟨ty,cells⟩) (h4 : eA cells = some cs') : qGA b rs r ty cs' .normal σ := ⟨h2,of_decide_eq_true h1,cells,h3,h4⟩
theorem eCA {b : Tb} {σ : St} {rs : Array ResultVar} {r : D} {ty : TypeId} {cs' : List P1} {cells : List D} (h2 : vI b σ rs.toList = some r) (h1 : decide (1 ≤ vL σ.df) = true) (h3 : σ.boxes[0]? = some ⟨ty,cells⟩) (h4 : eA cells = some cs') : qGA b rs r ty cs' .ret σ := ⟨h2,of_decide_eq_true h1,cells,h3,h4⟩
/-- The frame at the start. -/
theorem mY {fn : Func} {w : World} {C : Nat → Prop} {γ : Gh} {d0 : D} {v0 : Value} {ds : List PV} {vs : List Value} (h0 : RD w C γ d0 v0) (hv : RVs w C ds vs) :
  ((v0 :: vs).toArray ++ Array.replicate (fn.ntmps - (v0 :: vs).toArray.size) undef).size = (d0 :: ds.map PV.d ++ List.replicate (fn.ntmps - (ds.length + 1)) D.any).length ∧
  ∀ (t : Nat) (d : D),(d0 :: ds.map PV.d ++ List.replicate (fn.ntmps - (ds.length + 1)) D.any)[t]? = some d → RD w C γ d (((v0 :: vs).toArray ++ Array.replicate (fn.ntmps - (v0 :: vs).toArray.size) undef).getD t undef) := by
 have hl : vs.length = ds.length := hv.1
 refine ⟨by simp [hl]; omega,fun t d hd => ?_⟩
 have hev : ((v0 :: vs).toArray ++ Array.replicate (fn.ntmps - (v0 :: vs).toArray.size) undef).getD t undef = (((v0 :: vs) ++ List.replicate (fn.ntmps - (v0 :: vs).length) undef)[t]?).getD undef := by
  rw [Array.getD_eq_getD_getElem?,← Array.getElem?_toList]
  simp
 rw [hev]
 cases t with
 | zero =>
  simp at hd
  subst hd
  exact h0
 | succ t =>
  simp only [ZL,Zc,List.getElem?_append,Zh] at hd ⊢
  rw [hl]
  split at hd
  ·rename_i hlt
   rw [if_pos hlt]
   simp only [List.getElem?_map] at hd
   obtain ⟨p,hp,rfl⟩ := Option.map_eq_some_iff.1 hd
   have hvt : vs[t]? = some (vs[t]'(by omega)) := List.getElem?_eq_getElem _
   rw [hvt]
   exact (hv.2 t p _ hp hvt).rd
  ·rename_i hlt
   rw [List.getElem?_replicate] at hd
   split at hd
   ·injection hd with hd; subst hd; exact .any _
   ·cases hd
/-- **A contract of a function that is lent a variable,out of the walk of its body.** -/
theorem xK {P : Program} {b : Tb} {f : FuncId} {fn : Func} {c : Code} {ty : TypeId} {cs cs' : List P1} {ds : List PV} {r : D} (hb : b.Ok P) (hf : P.funcs[f]? = some fn) (hbody : fn.body = some c) (hname : (fn.name == "runtime.NumGoroutine") = false)
  (h : ∀ X : Cx,X.P = P → Wide X.F → X.F.round = none → X.Pj → AW X c (qGA b fn.results r ty cs') ⟨[.pin 1],.ptr 0 0 :: ds.map PV.d ++ List.replicate (fn.ntmps - (ds.length + 1)) D.any,[⟨ty,cs.map .p⟩],[]⟩) : ACallsM P f ty cs cs' ds r := by
 refine ⟨⟨fn,hf,by rw [hbody]; rfl,hname⟩,fun F n C w g us vs hF hro hC hL hv => ?_⟩
 refine callsIn_of_wp_marks hf hbody (hF.fn f) ?_ hro
 have hgl : g < w.heap.size := (Array.getElem?_eq_some_iff.1 hL.hp).1
 have hsat : Rel (.lent F n P w C (fun k => k = g) [g]) ⟨[.pin 1],.ptr 0 0 :: ds.map PV.d ++ List.replicate (fn.ntmps - (ds.length + 1)) D.any,[⟨ty,cs.map .p⟩],[]⟩
   { tmps := (Value.pointer (some ⟨g,0,none⟩) :: vs).toArray ++ Array.replicate (fn.ntmps - (Value.pointer (some ⟨g,0,none⟩) :: vs).toArray.size) undef,defers := [] } w ⟨[g],[]⟩ C := by
  obtain ⟨q1,q2⟩ := mY (fn := fn) (w := w) (C := C) (γ := ⟨[g],[]⟩) (d0 := .ptr 0 0) (v0 := Value.pointer (some ⟨g,0,none⟩)) (.ptr 0 0 g rfl) hv
  refine ⟨q1,q2,rfl,?_,by simp,fun k hk => ?_,rfl,fun j V hV => by simp at hV,fun i j Vi Vj vi vj g _ hi => by simp at hi,GrZ.refl _ _,fun k hk => ⟨.inl (.inl hk),hC k hk,fun hm => ?_⟩,
   ⟨fun _ => False,fun l ys k m h => (by cases h),rfl,fun _ h => h.elim⟩,⟨Nat.le_refl _,fun b' g' _ h => h⟩⟩
  ·intro i x hx
   cases i with
   | zero =>
    simp at hx
    subst hx
    refine ⟨g,us,rfl,hL.hp,by simp [hL.ln],fun j d u hd hu => ?_⟩
    rw [List.getElem?_map] at hd
    obtain ⟨y,hy,rfl⟩ := Option.map_eq_some_iff.1 hd
    have h1 := hL.rl j y u hy hu
    exact ⟨.p _ _ h1,h1.one⟩
   | succ i => simp at hx
  ·simp at hk
   exact .inl hk
  ·simp at hm
   subst hm
   exact hL.nc hk
 refine wpIn_mono (h (.lent F n P w C (fun k => k = g) [g]) rfl hF hro (Cx.lent_pj _ _ _ _ _ _ _) _ _ ⟨_,_,hsat⟩) fun e a' w' he => ?_
 obtain ⟨σ',h1,γ,C',r'⟩ := he
 have fin : (vI b σ' fn.results.toList = some r ∧ 1 ≤ vL σ'.df ∧ ∃ cells,σ'.boxes[0]? = some ⟨ty,cells⟩ ∧ eA cells = some cs') → LeavesInM F n P fn a'.tmps (fun e w' => ∃ v us',e = .returned v ∧
   Lent w' (fun k => C k ∨ (w.heap.size ≤ k ∧ k < w'.heap.size)) g ty cs' us' ∧ RD w' (fun k => C k ∨ (w.heap.size ≤ k ∧ k < w'.heap.size)) ⟨[],[]⟩ r v ∧ w.grownBy w' (some g)) a'.defers .returning w' := by
  rintro ⟨hres,hpin,cells,hbx,hcs⟩
  have hg0 : γ.bl[0]? = some g := r'.bp.2 0 g hpin rfl
  obtain ⟨O,hO⟩ := r'.fr
  refine gG _ _ _ hO.2.1 fun w2 hg hs => ?_
  have r2 := r'.leftL hO hg hs
  obtain ⟨v,hv1,hv2⟩ := tR hb r2 (fn := fn) ((rR b σ' [] _).trans hres)
  obtain ⟨g',us',b1,b2,b3,b4⟩ := r2.bx 0 _ hbx
  rw [hg0] at b1
  injection b1 with b1
  subst b1
  obtain ⟨p1,p2⟩ := dL cells cs' us' hcs b3 b4
  have kC : Kp C' (fun k => C k ∨ (w.heap.size ≤ k ∧ k < w2.heap.size)) w2 w2 := ⟨fun k hk => by
   obtain ⟨c1,c2,c3⟩ := r2.cc k hk
   rcases c1 with (c1 | c1) | c1
   ·exact .inl c1
   ·subst c1
    exact absurd (List.mem_of_getElem? hg0) c3
   ·exact .inr ⟨c1,c2⟩,fun _ _ => rfl⟩
  refine ⟨v,hv1,v,us',rfl,⟨b2,p1,fun j x u hx hu => (p2 j x u hx hu).keep kC,fun hc => ?_⟩,hv2.keep kC (GhLe.refl _),?_⟩
  ·rcases hc with hc | hc
   ·exact hL.nc hc
   ·omega
  ·have hgz := r2.gr
   exact ⟨hgz.os,hgz.tape,hgz.output,hgz.size,fun k hk hne => hgz.block k hk (fun hz => hz.elim (fun e => hne (by rw [e])) (fun h => absurd h (by omega)))⟩
 cases e with
 | normal => exact fin h1
 | ret => exact fin h1
 | exit id => exact h1.elim
 | goto l => exact h1.elim
 | panic ch => exact h1.elim
 | outgrown => exact h1.elim
/-- **A contract of a function that gets an own slice and hands one back,out of the walk of its body.** -/
theorem nY {P : Program} {f : FuncId} {fn : Func} {c : Code} {V V' : Vc} {ds : List PV} {t : Nat} (hf : P.funcs[f]? = some fn) (hbody : fn.body = some c) (hname : (fn.name == "runtime.NumGoroutine") = false) (hres : fn.results = #[.tmp t])
  (h : ∀ X : Cx,X.P = P → Wide X.F → X.F.round = none → X.Pj → AW X c (kGA t V') ⟨[],.vref 0 :: ds.map PV.d ++ List.replicate (fn.ntmps - (ds.length + 1)) D.any,[],[some V]⟩) : ACallsV P f V V' ds := by
 refine ⟨⟨fn,hf,by rw [hbody]; rfl,hname⟩,fun F n C w v us vs hF hro hC how hl hR hnc hv => ?_⟩
 refine callsIn_of_wp_marks hf hbody (hF.fn f) ?_ hro
 have hsat : Rel (.lent F n P w C (fun k => v.ownBlock = some k) []) ⟨[],.vref 0 :: ds.map PV.d ++ List.replicate (fn.ntmps - (ds.length + 1)) D.any,[],[some V]⟩
   { tmps := (v :: vs).toArray ++ Array.replicate (fn.ntmps - (v :: vs).toArray.size) undef,defers := [] } w ⟨[],[v]⟩ C := by
  obtain ⟨q1,q2⟩ := mY (fn := fn) (w := w) (C := C) (γ := ⟨[],[v]⟩) (d0 := .vref 0) (v0 := v) (.vref 0 v rfl) hv
  refine ⟨q1,q2,rfl,fun i x hx => by simp at hx,by simp,fun k hk => by simp at hk,rfl,?_,?_,GrZ.refl _ _,fun k hk => ⟨.inl (.inl hk),hC k hk,by simp⟩,
   ⟨fun _ => False,fun l ys k m h => (by cases h),rfl,fun _ h => h.elim⟩,⟨Nat.zero_le _,fun b' g' hb _ => by simp [vL] at hb⟩⟩
  ·intro j U hU
   cases j with
   | zero =>
    simp at hU
    subst hU
    exact ⟨v,us,rfl,how,hl,hR,fun g hg => ⟨by simp,hnc g hg,.inl hg⟩⟩
   | succ j => simp at hU
  ·intro i j Vi Vj vi vj g hij hi hj
   have h1 := (List.getElem?_eq_some_iff.1 hi).1
   have h2 := (List.getElem?_eq_some_iff.1 hj).1
   simp at h1 h2
   omega
 refine wpIn_mono (h (.lent F n P w C (fun k => v.ownBlock = some k) []) rfl hF hro (Cx.lent_pj _ _ _ _ _ _ _) _ _ ⟨_,_,hsat⟩) fun e a' w' he => ?_
 obtain ⟨σ',h1,γ,C',r'⟩ := he
 have fin : (∃ j,σ'.slots[t]? = some (.vref j) ∧ σ'.vecs[j]? = some (some V')) → LeavesInM F n P fn a'.tmps (fun e w' => ∃ v' us',e = .returned v' ∧ w'.ownsRow 0 V'.e V'.sz v' V'.n us' ∧ us'.length = V'.xs.length ∧
   (∀ (i : Nat) (x : P1) (u : Value),V'.xs[i]? = some x → us'[i]? = some u → R1 w' (fun _ => True) x u) ∧ (∀ g,v'.ownBlock = some g → v.ownBlock = some g ∨ w.heap.size ≤ g) ∧ w.grownBy w' v.ownBlock) a'.defers .returning w' := by
  rintro ⟨j,hs,hV⟩
  obtain ⟨O,hO⟩ := r'.fr
  refine gG _ _ _ hO.2.1 fun w2 hg hsz => ?_
  have r2 := r'.leftL hO hg hsz
  obtain ⟨u,us',q1,q2,q3,q4,q5⟩ := r2.vc j V' hV
  have hrd := r2.sl t _ hs
  have hval : a'.tmps.getD t undef = u := by
   change RD _ _ _ _ (a'.tmps.getD t undef) at hrd
   generalize a'.tmps.getD t undef = z at hrd
   cases hrd with
   | vref _ _ hj => rw [q1] at hj; injection hj with hj; exact hj.symm
  refine ⟨u,?_,u,us',rfl,q2,q3,fun i x z hx hz => (q4 i x z hx hz).keep ⟨fun _ _ => trivial,fun _ _ => rfl⟩,fun g hgv => (q5 g hgv).2.2,?_⟩
  ·rw [wK,hres,← hval]
   simp [cN]
  ·have hgz := r2.gr
   exact ⟨hgz.os,hgz.tape,hgz.output,hgz.size,fun k hk hne => hgz.block k hk (fun hz => hz.elim (fun e => hne e.symm) (fun h => absurd h (by omega)))⟩
 cases e with
 | normal => exact fin h1
 | ret => exact fin h1
 | exit id => exact h1.elim
 | goto l => exact h1.elim
 | panic ch => exact h1.elim
 | outgrown => exact h1.elim
/-! ### Reading a variable by its address -/
def oW : Value → Option IntKind
 | .int k _ => some k
 | _ => none
def qL : P1 → Option IntKind
 | .v x => oW x
 | _ => none
theorem fCA {w : World} {C : Nat → Prop} {x : P1} {u : Value} (h : R1 w C x u) : oW u = qL x := by
 cases h <;> rfl
/-- The row xs lies nowhere within the cells cs. -/
def rGA (cs xs : List P1) : Prop := ∀ o : Nat,∃ (j : Nat) (x : P1),xs[j]? = some x ∧ ∀ c : P1,cs[o + j]? = some c → qL c ≠ qL x
inductive NoFit (cs : List P1) : P1 → Prop
 | v (x : Value) : NoFit cs (.v x)
 | sl (n : Nat) (xs : List P1) (h : ∀ x ∈ xs,NoFit cs x) (h0 : xs = [] → n = 0) (h1 : xs ≠ [] → rGA cs xs) : NoFit cs (.sl n xs)
inductive PV.NoFit (cs : List P1) : PV → Prop
 | p (x : P1) (h : Ytldcoekbgfaomaa.NoFit cs x) : PV.NoFit cs (.p x)
 | agg (xs : List P1) (h : ∀ x ∈ xs,Ytldcoekbgfaomaa.NoFit cs x) : PV.NoFit cs (.agg xs)
inductive D.NoFit (cs : List P1) : D → Prop
 | p (x : P1) (h : Ytldcoekbgfaomaa.NoFit cs x) : D.NoFit cs (.p x)
 | agg (xs : List P1) (h : ∀ x ∈ xs,Ytldcoekbgfaomaa.NoFit cs x) : D.NoFit cs (.agg xs)
section
variable {w : World} {C C' : Nat → Prop} {g : Nat} {cs : List P1} {us : List Value} {ty : TypeId}
theorem R1.fit (hp : w.heap[g]? = some (.cells us.toArray ty (0,0))) (hl : us.length = cs.length) (hk : ∀ (j : Nat) (c : P1) (u : Value),cs[j]? = some c → us[j]? = some u → oW u = qL c) (hC : ∀ k,C k → C' k ∨ k = g) {x : P1} {u : Value} (h : R1 w C x u) (hn : NoFit cs x) : R1 w C' x u := by
 induction h with
 | v x h => exact .v x h
 | nil A c => exact .nil A c
 | sl n g' o c xs vs hnc hc hg hvl hcell h ih =>
  cases hn with | sl _ _ h1 h2 h3 =>
  by_cases hx : xs = []
  ·subst hx
   have := h2 rfl
   subst this
   exact .nil _ _
  ·rcases hC g' hg with hg' | rfl
   ·exact .sl n g' o c xs vs hnc hc hg' hvl hcell fun j x u hx hu => ih j x u hx hu (h1 x (List.mem_of_getElem? hx))
   ·exfalso
    obtain ⟨j,x,hj,hne⟩ := h3 hx o
    have hjl : j < vs.length := by rw [hvl]; exact (List.getElem?_eq_some_iff.1 hj).1
    have hvj : vs[j]? = some vs[j] := List.getElem?_eq_getElem hjl
    have h4 := hcell j _ hvj
    rw [cell_of_row _ _ _ _ _ _ hp] at h4
    have h4' : us[o + j]? = some vs[j] := by simpa using h4
    have hlt : o + j < cs.length := by rw [← hl]; exact (List.getElem?_eq_some_iff.1 h4').1
    have h5 := hk (o + j) _ _ (List.getElem?_eq_getElem hlt) h4'
    have h6 := fCA (h j x _ hj hvj)
    exact hne _ (List.getElem?_eq_getElem hlt) (by rw [← h5,h6])
 | clo f xs gs vs h1 h2 h3 h4 h5 ih => cases hn
theorem RV.fit (hp : w.heap[g]? = some (.cells us.toArray ty (0,0))) (hl : us.length = cs.length) (hk : ∀ (j : Nat) (c : P1) (u : Value),cs[j]? = some c → us[j]? = some u → oW u = qL c) (hC : ∀ k,C k → C' k ∨ k = g) {d : PV} {u : Value} (h : RV w C d u) (hn : d.NoFit cs) : RV w C' d u := by
 cases h with
 | p x u h => cases hn with | p _ hn => exact .p _ _ (h.fit hp hl hk hC hn)
 | agg xs vs hvl h => cases hn with | agg _ hn => exact .agg _ _ hvl fun j x u hx hu => (h j x u hx hu).fit hp hl hk hC (hn x (List.mem_of_getElem? hx))
theorem RD.fit (hp : w.heap[g]? = some (.cells us.toArray ty (0,0))) (hl : us.length = cs.length) (hk : ∀ (j : Nat) (c : P1) (u : Value),cs[j]? = some c → us[j]? = some u → oW u = qL c) (hC : ∀ k,C k → C' k ∨ k = g) {γ : Gh} {d : D} {u : Value} (h : RD w C γ d u) (hn : d.NoFit cs) : RD w C' γ d u := by
 cases hn with
 | p x hn => cases h with | p _ _ h => exact .p _ _ (h.fit hp hl hk hC hn)
 | agg xs hn => cases h with | agg _ vs hvl h => exact .agg _ _ hvl fun j x u hx hu => (h j x u hx hu).fit hp hl hk hC (hn x (List.mem_of_getElem? hx))
end
/-- **A contract of a function that reads a variable by its address,out of the walk of its body.** -/
theorem bS {P : Program} {b : Tb} {f : FuncId} {fn : Func} {c : Code} {ty : TypeId} {cs : List P1} {ds : List PV} {r : D} (hb : b.Ok P) (hf : P.funcs[f]? = some fn) (hbody : fn.body = some c) (hname : (fn.name == "runtime.NumGoroutine") = false) (hno : r.NoFit cs)
  (h : ∀ X : Cx,X.P = P → Wide X.F → X.F.round = none → X.Pl → AW X c (Ret b fn.results r) ⟨[],.ept cs 0 :: ds.map PV.d ++ List.replicate (fn.ntmps - (ds.length + 1)) D.any,[],[]⟩) : ACallsR P f ty cs ds r := by
 refine ⟨⟨fn,hf,by rw [hbody]; rfl,hname⟩,fun F n C w g us vs hF hro hC hL hv => ?_⟩
 refine callsIn_of_wp_marks hf hbody (hF.fn f) ?_ hro
 have hgl : g < w.heap.size := (Array.getElem?_eq_some_iff.1 hL.hp).1
 have kC : Kp C (fun k => C k ∨ k = g) w w := ⟨fun _ h => .inl h,fun _ _ => rfl⟩
 have hv1 : RVs w (fun k => C k ∨ k = g) ds vs := ⟨hv.1,fun j d u hd hu => (hv.2 j d u hd hu).keep kC⟩
 have hsat : Rel (.plain F n P w (fun k => C k ∨ k = g)) ⟨[],.ept cs 0 :: ds.map PV.d ++ List.replicate (fn.ntmps - (ds.length + 1)) D.any,[],[]⟩
   { tmps := (Value.pointer (some ⟨g,0,none⟩) :: vs).toArray ++ Array.replicate (fn.ntmps - (Value.pointer (some ⟨g,0,none⟩) :: vs).toArray.size) undef,defers := [] } w ⟨[],[]⟩ (fun k => C k ∨ k = g) := by
  obtain ⟨q1,q2⟩ := mY (fn := fn) (w := w) (C := fun k => C k ∨ k = g) (γ := ⟨[],[]⟩) (d0 := .ept cs 0) (v0 := Value.pointer (some ⟨g,0,none⟩)) (.ept cs 0 g 0 us (.inr rfl) hL.ln (fun j u hu => by
   rw [cell_of_row _ _ _ _ _ _ hL.hp]
   simpa using hu) (fun j x u hx hu => (hL.rl j x u hx hu).keep kC)) hv1
  exact ⟨q1,q2,rfl,fun i x hx => by simp at hx,by simp,fun k hk => by simp at hk,rfl,fun j V hV => by simp at hV,fun i j Vi Vj vi vj g _ hi => by simp at hi,GrZ.refl _ _,fun k hk => ⟨.inl hk,hk.elim (hC k) (fun e => e ▸ hgl),by simp⟩,
   ⟨fun _ => False,fun l ys k m h => (by cases h),rfl,fun _ h => h.elim⟩,⟨Nat.zero_le _,fun b' g' hb _ => by simp [vL] at hb⟩⟩
 refine wpIn_mono (h (.plain F n P w (fun k => C k ∨ k = g)) rfl hF hro (Cx.plain_pl _ _ _ _ _) _ _ ⟨_,_,hsat⟩) fun e a' w' he => ?_
 obtain ⟨σ',h1,γ,C',r'⟩ := he
 have fin : vI b σ' fn.results.toList = some r → LeavesInM F n P fn a'.tmps (fun e w' => ∃ v',e = .returned v' ∧ RD w' (fun k => C k ∨ (w.heap.size ≤ k ∧ k < w'.heap.size)) ⟨[],[]⟩ r v' ∧ w.grownBy w' none) a'.defers .returning w' := by
  intro hres
  obtain ⟨O,hO⟩ := r'.fr
  refine gG _ _ _ hO.2.1 fun w2 hg hs => ?_
  rcases r'.left hO hg hs with r2 | hn
  ·obtain ⟨v,hv1,hv2⟩ := tR hb r2 (fn := fn) ((rR b σ' [] _).trans hres)
   have hgp := r2.gr.plain
   refine ⟨v,hv1,v,rfl,hv2.fit ((hgp.block g hgl (by simp)).trans hL.hp) hL.ln (fun j c u hc hu => fCA (hL.rl j c u hc hu)) (fun k hk => ?_) hno,hgp⟩
   obtain ⟨c1,c2,_⟩ := r2.cc k hk
   rcases c1 with (c1 | c1) | c1
   ·exact .inl (.inl c1)
   ·exact .inr c1
   ·exact .inl (.inr ⟨c1,c2⟩)
  ·exact absurd (Cx.plain_pl _ _ _ _ _) hn
 cases e with
 | normal => exact fin h1
 | ret => exact fin h1
 | exit id => exact h1.elim
 | goto l => exact h1.elim
 | panic ch => exact h1.elim
 | outgrown => exact h1.elim
/-! ### Steps -/
section
variable {P : Program} {b : Tb} {ops : Array Oper} {rest : List Nat} {restD : List (Nat × Bool)} {i : Nat} {σ σ' : St} {K : St → Prop} {dst : Option Tmp} {ty : TypeId} {pos : String} {af : Array Edge} {c : Call} {fo x : Operand} {f : FuncId} {xs : List Operand} {bx j : Nat} {tb : TypeId} {cells : List D} {cs cs' : List P1} {ds : List PV} {r : D} {V V' : Vc}
theorem iAA (ho : ops[i]? = some ⟨dst,.call c,ty,pos,af,none⟩) (hc : c.callee = .value fo) (hf : σ.ev fo = .fn f []) (ha : c.args.toList = x :: xs) (hx : σ.ev x = .ptr bx 0) (hb : σ.boxes[bx]? = some ⟨tb,cells⟩) (hcs : eA cells = some cs) (hv : uA (xs.map σ.ev) = some ds)
  (hr : ACallsM P f tb cs cs' ds r) (he : St.put { σ with boxes := σ.boxes.set bx ⟨tb,cs'.map .p⟩ } dst r = σ') (hk : kE P b ops rest σ' K) : kE P b ops (i :: rest) σ K := by
 subst he
 rw [kE,ho]
 exact Or.inr (.m c fo f x xs bx tb cells cs cs' ds r rfl hc hf ha hx hb hcs hv hr hk)
theorem pW : ∀ {cells : List D} {cs ds : List P1},eA cells = some cs → PUp cells ds → ds = cs
 | [],cs,ds,h,hp => by
  cases ds with
  | nil => simpa [eA] using h
  | cons x xs => exact hp.elim
 | d :: dd,cs,ds,h,hp => by
  cases ds with
  | nil => exact hp.elim
  | cons x xs =>
   simp only [eA] at h
   split at h
   ·rename_i y ys h1 h2
    injection h with h
    subst h
    obtain ⟨p1,p2⟩ := hp
    rw [pW h2 p2]
    rcases p1 with p1 | ⟨j,A,n,c,rfl,rfl⟩
    ·rw [h1] at p1; injection p1 with p1; rw [p1]
    ·simp [D.pure?] at h1
   ·cases h
theorem cS (σ : St) : ∀ {cells : List D} {cs : List P1},eA cells = some cs → cells.all (D.cellR σ) = true
 | [],_,_ => rfl
 | d :: dd,cs,h => by
  simp only [eA] at h
  split at h
  ·rename_i y ys h1 h2
   rw [List.all_cons,cS σ h2,Bool.and_true]
   unfold D.cellR
   split
   ·simp [D.pure?] at h1
   ·simp [h1]
  ·cases h
theorem sGA (ho : ops[i]? = some ⟨dst,.call c,ty,pos,af,none⟩) (hc : c.callee = .value fo) (hf : σ.ev fo = .fn f []) (ha : c.args.toList = x :: xs) (hx : σ.ev x = .ptr bx 0) (hb : σ.boxes[bx]? = some ⟨tb,cells⟩) (hcs : eA cells = some cs) (hv : uA (xs.map σ.ev) = some ds)
  (hr : ACallsR P f tb cs ds r) (he : σ.put dst r = σ') (hk : sD P b ops restD σ' K) : sD P b ops ((i,false) :: restD) σ K := by
 subst he
 rw [sD,ho]
 simp only [gd,Zf,Zq]
 exact Or.inr (.r c fo f x xs bx tb cells ds r rfl hc hf ha hx hb (cS σ hcs) hv (fun cs' h => pW hcs h ▸ hr) hk)
/-- .. where a cell of the variable is an own slice. -/
theorem mIA (ho : ops[i]? = some ⟨dst,.call c,ty,pos,af,none⟩) (hc : c.callee = .value fo) (hf : σ.ev fo = .fn f []) (ha : c.args.toList = x :: xs) (hx : σ.ev x = .ptr bx 0) (hb : σ.boxes[bx]? = some ⟨tb,cells⟩) (hcs : cells.all (D.cellR σ) = true) (hv : uA (xs.map σ.ev) = some ds)
  (hr : ∀ cs,PUp cells cs → ACallsR P f tb cs ds r) (he : σ.put dst r = σ') (hk : kE P b ops rest σ' K) : kE P b ops (i :: rest) σ K := by
 subst he
 rw [kE,ho]
 exact Or.inr (.l (.r c fo f x xs bx tb cells ds r rfl hc hf ha hx hb hcs hv hr hk))
theorem rKA (ho : ops[i]? = some ⟨dst,.call c,ty,pos,af,none⟩) (hc : c.callee = .value fo) (hf : σ.ev fo = .fn f []) (ha : c.args.toList = x :: xs) (hx : σ.ev x = .vref j) (hV : σ.vecs[j]? = some (some V)) (hv : uA (xs.map σ.ev) = some ds) (hr : ACallsV P f V V' ds)
  (hp : ∀ y ∈ V'.xs,∃ u,y = .v u) (he : ((σ.demote j).setVec j V').put dst (.vref j) = σ') (hk : kE P b ops rest σ' K) : kE P b ops (i :: rest) σ K := by
 subst he
 rw [kE,ho]
 exact Or.inr (.v c fo f x xs j V V' ds rfl hc hf ha hx hV hv hr hp hk)
theorem acM {P P' : Program} {f : FuncId} (hP : P' = P) (h : ACallsM P f tb cs cs' ds r) : ACallsM P' f tb cs cs' ds r := hP ▸ h
theorem acR {P P' : Program} {f : FuncId} (hP : P' = P) (h : ACallsR P f tb cs ds r) : ACallsR P' f tb cs ds r := hP ▸ h
theorem acV {P P' : Program} {f : FuncId} (hP : P' = P) (h : ACallsV P f V V' ds) : ACallsV P' f V V' ds := hP ▸ h
end
section
variable {X : Cx} {σ : St} {Q : Exit → St → Prop}
/-- A length of a slice in a struct is small. -/
theorem vEA {c : Code} {t k n : Nat} {cs xs : List P1} (h : σ.slots[t]? = some (.agg cs)) (h1 : cs[k]? = some (.sl n xs)) (hk : n ≤ maxLen → AW X c Q σ) : AW X c Q σ := by
 intro a w hs
 obtain ⟨γ,C,r⟩ := hs
 have hv := r.sl t _ h
 refine hk ?_ a w ⟨γ,C,r⟩
 generalize a.tmps.getD t undef = u at hv
 cases hv with | agg _ us hl hR =>
 have hlt : k < us.length := by rw [hl]; exact (List.getElem?_eq_some_iff.1 h1).1
 have := hR k _ _ h1 (List.getElem?_eq_getElem hlt)
 generalize us[k] = z at this
 cases this with
 | nil => exact Nat.zero_le _
 | sl _ _ _ c' _ _ hn hc => exact Nat.le_trans hn hc
end
end Go.Proofs.Ytldcoekbgfaomaa
end
section
namespace Go.Proofs.Ytldcoekbgfaomaa
open Go.RowKit
theorem oF {t : Nat} {i : TI} (hu : Try.prog.underlying t = some i.und) (h : (Try.prog.info? t).map (fun f => (f.zero,f.size,f.bytes)) = some (some i.zero,i.size,i.bytes))
  (hz : i.zero.cells.size = i.size) (ho : i.zero.cells.all (·.oneCell') = true) : TI.Is Try.prog t i := by
 refine ⟨hu,?_,hz,ho⟩
 cases hi : Try.prog.info? t with
 | none => rw [hi] at h; cases h
 | some f =>
  rw [hi] at h
  simp only [Zg,Option.some.injEq,Prod.mk.injEq] at h
  exact ⟨f,rfl,h.1,h.2.1,h.2.2⟩
def ti1 : TI := ⟨TypeDesc.func #[] #[] false,1,8,Value.nilFunc⟩
def ti2 : TI := ⟨TypeDesc.int IntKind.i64,1,8,Value.int IntKind.i64 0⟩
def ti3 : TI := ⟨TypeDesc.int IntKind.i64,1,8,Value.int IntKind.i64 0⟩
def ti4 : TI := ⟨TypeDesc.bool,1,1,Value.bool false⟩
def ti5 : TI := ⟨TypeDesc.int IntKind.u8,1,1,Value.int IntKind.u8 0⟩
def tGA : TI := ⟨TypeDesc.slice 50,1,24,Value.slice none 0 0⟩
def uGA : TI := ⟨TypeDesc.slice 60,1,24,Value.slice none 0 0⟩
def vGA : TI := ⟨TypeDesc.struct #[{ name := "Size",type := 3,offset := 0,embedded := false,tag := "",pkgPath := "",byteOffset := 0 },{ name := "Leaf",type := 3,offset := 1,embedded := false,tag := "",pkgPath := "",byteOffset := 8 },{ name := "Levels",type := 24,offset := 2,embedded := false,tag := "",pkgPath := "",byteOffset := 16 }],3,40,Value.agg #[Value.int IntKind.i64 0,Value.int IntKind.i64 0,Value.slice none 0 0]⟩
def eT : TI := ⟨TypeDesc.int IntKind.i64,1,8,Value.int IntKind.i64 0⟩
def wGA : TI := ⟨TypeDesc.struct #[{ name := "Start",type := 3,offset := 0,embedded := false,tag := "",pkgPath := "",byteOffset := 0 },{ name := "Count",type := 3,offset := 1,embedded := false,tag := "",pkgPath := "",byteOffset := 8 }],2,16,Value.agg #[Value.int IntKind.i64 0,Value.int IntKind.i64 0]⟩
def xGA : TI := ⟨TypeDesc.slice 35,1,24,Value.slice none 0 0⟩
def yGA : TI := ⟨TypeDesc.struct #[{ name := "Volume",type := 3,offset := 0,embedded := false,tag := "",pkgPath := "",byteOffset := 0 },{ name := "Start",type := 3,offset := 1,embedded := false,tag := "",pkgPath := "",byteOffset := 8 },{ name := "Data",type := 22,offset := 2,embedded := false,tag := "",pkgPath := "",byteOffset := 16 }],3,40,Value.agg #[Value.int IntKind.i64 0,Value.int IntKind.i64 0,Value.slice none 0 0]⟩
def zGA : TI := ⟨TypeDesc.array 8 5,8,8,Value.agg #[Value.int IntKind.u8 0,Value.int IntKind.u8 0,Value.int IntKind.u8 0,Value.int IntKind.u8 0,Value.int IntKind.u8 0,Value.int IntKind.u8 0,Value.int IntKind.u8 0,Value.int IntKind.u8 0]⟩
def aHA : TI := ⟨TypeDesc.slice 4,1,24,Value.slice none 0 0⟩
def bHA : TI := ⟨TypeDesc.int IntKind.u64,1,8,Value.int IntKind.u64 0⟩
def cHA : TI := ⟨TypeDesc.slice 58,1,24,Value.slice none 0 0⟩
def dHA : TI := ⟨TypeDesc.struct #[{ name := "Root",type := 58,offset := 0,embedded := false,tag := "",pkgPath := "",byteOffset := 0 },{ name := "Size",type := 3,offset := 1,embedded := false,tag := "",pkgPath := "",byteOffset := 8 },{ name := "Leaf",type := 3,offset := 2,embedded := false,tag := "",pkgPath := "",byteOffset := 16 },{ name := "Index",type := 3,offset := 3,embedded := false,tag := "",pkgPath := "",byteOffset := 24 },{ name := "Data",type := 22,offset := 4,embedded := false,tag := "",pkgPath := "",byteOffset := 32 },{ name := "Proof",type := 60,offset := 5,embedded := false,tag := "",pkgPath := "",byteOffset := 56 }],6,80,Value.agg #[Value.int IntKind.u64 0,Value.int IntKind.i64 0,Value.int IntKind.i64 0,Value.int IntKind.i64 0,Value.slice none 0 0,Value.slice none 0 0]⟩
def eHA : TI := ⟨TypeDesc.func #[60,60] #[4] false,1,8,Value.nilFunc⟩
def fHA : TI := ⟨TypeDesc.array 2 5,2,2,Value.agg #[Value.int IntKind.u8 0,Value.int IntKind.u8 0]⟩
def gHA : TI := ⟨TypeDesc.struct #[{ name := "Tree",type := 26,offset := 0,embedded := false,tag := "",pkgPath := "",byteOffset := 0 },{ name := "Pending",type := 40,offset := 3,embedded := false,tag := "",pkgPath := "",byteOffset := 40 },{ name := "Level",type := 3,offset := 4,embedded := false,tag := "",pkgPath := "",byteOffset := 64 },{ name := "Found",type := 40,offset := 5,embedded := false,tag := "",pkgPath := "",byteOffset := 72 },{ name := "Sent",type := 3,offset := 6,embedded := false,tag := "",pkgPath := "",byteOffset := 96 },{ name := "Done",type := 4,offset := 7,embedded := false,tag := "",pkgPath := "",byteOffset := 104 }],8,112,Value.agg #[Value.int IntKind.i64 0,Value.int IntKind.i64 0,Value.slice none 0 0,Value.slice none 0 0,Value.int IntKind.i64 0,Value.slice none 0 0,Value.int IntKind.i64 0,Value.bool false]⟩
def hHA : TI := ⟨TypeDesc.slice 90,1,24,Value.slice none 0 0⟩
def iHA : TI := ⟨TypeDesc.slice 3,1,24,Value.slice none 0 0⟩
def jHA : TI := ⟨TypeDesc.slice 5,1,24,Value.slice none 0 0⟩
def kHA : TI := ⟨TypeDesc.struct #[{ name := "Kind",type := 3,offset := 0,embedded := false,tag := "",pkgPath := "",byteOffset := 0 },{ name := "From",type := 3,offset := 1,embedded := false,tag := "",pkgPath := "",byteOffset := 8 },{ name := "To",type := 3,offset := 2,embedded := false,tag := "",pkgPath := "",byteOffset := 16 },{ name := "Number",type := 3,offset := 3,embedded := false,tag := "",pkgPath := "",byteOffset := 24 },{ name := "Value",type := 3,offset := 4,embedded := false,tag := "",pkgPath := "",byteOffset := 32 },{ name := "Epoch",type := 3,offset := 5,embedded := false,tag := "",pkgPath := "",byteOffset := 40 },{ name := "Values",type := 87,offset := 6,embedded := false,tag := "",pkgPath := "",byteOffset := 48 },{ name := "Body",type := 88,offset := 7,embedded := false,tag := "",pkgPath := "",byteOffset := 72 }],8,96,Value.agg #[Value.int IntKind.i64 0,Value.int IntKind.i64 0,Value.int IntKind.i64 0,Value.int IntKind.i64 0,Value.int IntKind.i64 0,Value.int IntKind.i64 0,Value.slice none 0 0,Value.slice none 0 0]⟩
def gCA : TI := ⟨TypeDesc.array 3 3,3,24,Value.agg #[Value.int IntKind.i64 0,Value.int IntKind.i64 0,Value.int IntKind.i64 0]⟩
def hCA : TI := ⟨TypeDesc.func #[58,58] #[58] false,1,8,Value.nilFunc⟩
def iCA : TI := ⟨TypeDesc.func #[161] #[] false,1,8,Value.nilFunc⟩
def jCA : TI := ⟨TypeDesc.func #[161] #[] false,1,8,Value.nilFunc⟩
def kCA : TI := ⟨TypeDesc.slice 26,1,24,Value.slice none 0 0⟩
def lCA : TI := ⟨TypeDesc.array 16 87,16,384,Value.agg #[Value.slice none 0 0,Value.slice none 0 0,Value.slice none 0 0,Value.slice none 0 0,Value.slice none 0 0,Value.slice none 0 0,Value.slice none 0 0,Value.slice none 0 0,Value.slice none 0 0,Value.slice none 0 0,Value.slice none 0 0,Value.slice none 0 0,Value.slice none 0 0,Value.slice none 0 0,Value.slice none 0 0,Value.slice none 0 0]⟩
def mCA : TI := ⟨TypeDesc.slice 22,1,24,Value.slice none 0 0⟩
def qW : TI := ⟨TypeDesc.pointer 139,1,8,Value.pointer none⟩
def nCA : TI := ⟨TypeDesc.struct #[{ name := "Walk",type := 75,offset := 0,embedded := true,tag := "",pkgPath := "",byteOffset := 0 }],8,112,Value.agg #[Value.int IntKind.i64 0,Value.int IntKind.i64 0,Value.slice none 0 0,Value.slice none 0 0,Value.int IntKind.i64 0,Value.slice none 0 0,Value.int IntKind.i64 0,Value.bool false]⟩
def oCA : TI := ⟨TypeDesc.func #[173] #[] false,1,8,Value.nilFunc⟩
def pCA : TI := ⟨TypeDesc.func #[173] #[] false,1,8,Value.nilFunc⟩
def qCA : TI := ⟨TypeDesc.func #[174] #[] false,1,8,Value.nilFunc⟩
def rCA : TI := ⟨TypeDesc.func #[174] #[] false,1,8,Value.nilFunc⟩
def sCA : TI := ⟨TypeDesc.func #[22] #[4] false,1,8,Value.nilFunc⟩
def tCA : TI := ⟨TypeDesc.func #[5] #[4] false,1,8,Value.nilFunc⟩
def uCA : TI := ⟨TypeDesc.func #[163] #[] false,1,8,Value.nilFunc⟩
def rFA : TI := ⟨TypeDesc.func #[180] #[] false,1,8,Value.nilFunc⟩
def vCA : TI := ⟨TypeDesc.func #[180] #[] false,1,8,Value.nilFunc⟩
def wCA : TI := ⟨TypeDesc.func #[4,4] #[4] false,1,8,Value.nilFunc⟩
def xCA : TI := ⟨TypeDesc.array 16 5,16,16,Value.agg #[Value.int IntKind.u8 0,Value.int IntKind.u8 0,Value.int IntKind.u8 0,Value.int IntKind.u8 0,Value.int IntKind.u8 0,Value.int IntKind.u8 0,Value.int IntKind.u8 0,Value.int IntKind.u8 0,Value.int IntKind.u8 0,Value.int IntKind.u8 0,Value.int IntKind.u8 0,Value.int IntKind.u8 0,Value.int IntKind.u8 0,Value.int IntKind.u8 0,Value.int IntKind.u8 0,Value.int IntKind.u8 0]⟩
def sFA : TI := ⟨TypeDesc.func #[87] #[4] false,1,8,Value.nilFunc⟩
def tFA : TI := ⟨TypeDesc.func #[3] #[4] false,1,8,Value.nilFunc⟩
def yCA : TI := ⟨TypeDesc.int IntKind.u64,1,8,Value.int IntKind.u64 0⟩
def zCA : TI := ⟨TypeDesc.func #[163] #[] false,1,8,Value.nilFunc⟩
def uFA : TI := ⟨TypeDesc.func #[35] #[4] false,1,8,Value.nilFunc⟩
def aDA : TI := ⟨TypeDesc.slice 185,1,24,Value.slice none 0 0⟩
def bDA : TI := ⟨TypeDesc.array 2 3,2,16,Value.agg #[Value.int IntKind.i64 0,Value.int IntKind.i64 0]⟩
def cDA : TI := ⟨TypeDesc.struct #[{ name := "at",type := 3,offset := 0,embedded := false,tag := "",pkgPath := "standby/extent",byteOffset := 0 },{ name := "list",type := 3,offset := 1,embedded := false,tag := "",pkgPath := "standby/extent",byteOffset := 8 },{ name := "step",type := 3,offset := 2,embedded := false,tag := "",pkgPath := "standby/extent",byteOffset := 16 }],3,24,Value.agg #[Value.int IntKind.i64 0,Value.int IntKind.i64 0,Value.int IntKind.i64 0]⟩
def dDA : TI := ⟨TypeDesc.slice 40,1,24,Value.slice none 0 0⟩
def eDA : TI := ⟨TypeDesc.func #[185,185] #[3] false,1,8,Value.nilFunc⟩
def vFA : TI := ⟨TypeDesc.int IntKind.i64,1,8,Value.int IntKind.i64 0⟩
def wFA : TI := ⟨TypeDesc.int IntKind.u32,1,4,Value.int IntKind.u32 0⟩
def xFA : TI := ⟨TypeDesc.int IntKind.u64,1,8,Value.int IntKind.u64 0⟩
def yFA : TI := ⟨TypeDesc.pointer 3,1,8,Value.pointer none⟩
def zFA : TI := ⟨TypeDesc.pointer 203,1,8,Value.pointer none⟩
theorem is1 : TI.Is Try.prog 1 ti1 := oF Try.underlying1 (by kernel_rfl) (by kernel_rfl) (by kernel_rfl)
theorem is2 : TI.Is Try.prog 2 ti2 := oF Try.underlying2 (by kernel_rfl) (by kernel_rfl) (by kernel_rfl)
theorem is3 : TI.Is Try.prog 3 ti3 := oF Try.underlying3 (by kernel_rfl) (by kernel_rfl) (by kernel_rfl)
theorem is4 : TI.Is Try.prog 4 ti4 := oF Try.underlying4 (by kernel_rfl) (by kernel_rfl) (by kernel_rfl)
theorem is5 : TI.Is Try.prog 5 ti5 := oF Try.underlying5 (by kernel_rfl) (by kernel_rfl) (by kernel_rfl)
theorem sKA : TI.Is Try.prog 22 tGA := oF Try.underlying22 (by kernel_rfl) (by kernel_rfl) (by kernel_rfl)
theorem tKA : TI.Is Try.prog 24 uGA := oF Try.underlying24 (by kernel_rfl) (by kernel_rfl) (by kernel_rfl)
theorem uKA : TI.Is Try.prog 26 vGA := oF Try.underlying26 (by kernel_rfl) (by kernel_rfl) (by kernel_rfl)
theorem vKA : TI.Is Try.prog 27 eT := oF Try.underlying27 (by kernel_rfl) (by kernel_rfl) (by kernel_rfl)
theorem wKA : TI.Is Try.prog 35 wGA := oF Try.underlying35 (by kernel_rfl) (by kernel_rfl) (by kernel_rfl)
theorem xKA : TI.Is Try.prog 40 xGA := oF Try.underlying40 (by kernel_rfl) (by kernel_rfl) (by kernel_rfl)
theorem yKA : TI.Is Try.prog 47 yGA := oF Try.underlying47 (by kernel_rfl) (by kernel_rfl) (by kernel_rfl)
theorem zKA : TI.Is Try.prog 50 zGA := oF Try.underlying50 (by kernel_rfl) (by kernel_rfl) (by kernel_rfl)
theorem aLA : TI.Is Try.prog 54 aHA := oF Try.underlying54 (by kernel_rfl) (by kernel_rfl) (by kernel_rfl)
theorem bLA : TI.Is Try.prog 58 bHA := oF Try.underlying58 (by kernel_rfl) (by kernel_rfl) (by kernel_rfl)
theorem cLA : TI.Is Try.prog 60 cHA := oF Try.underlying60 (by kernel_rfl) (by kernel_rfl) (by kernel_rfl)
theorem dLA : TI.Is Try.prog 63 dHA := oF Try.underlying63 (by kernel_rfl) (by kernel_rfl) (by kernel_rfl)
theorem eLA : TI.Is Try.prog 69 eHA := oF Try.underlying69 (by kernel_rfl) (by kernel_rfl) (by kernel_rfl)
theorem fLA : TI.Is Try.prog 71 fHA := oF Try.underlying71 (by kernel_rfl) (by kernel_rfl) (by kernel_rfl)
theorem gLA : TI.Is Try.prog 75 gHA := oF Try.underlying75 (by kernel_rfl) (by kernel_rfl) (by kernel_rfl)
theorem hLA : TI.Is Try.prog 77 hHA := oF Try.underlying77 (by kernel_rfl) (by kernel_rfl) (by kernel_rfl)
theorem iLA : TI.Is Try.prog 87 iHA := oF Try.underlying87 (by kernel_rfl) (by kernel_rfl) (by kernel_rfl)
theorem jLA : TI.Is Try.prog 88 jHA := oF Try.underlying88 (by kernel_rfl) (by kernel_rfl) (by kernel_rfl)
theorem kLA : TI.Is Try.prog 90 kHA := oF Try.underlying90 (by kernel_rfl) (by kernel_rfl) (by kernel_rfl)
theorem nIA : TI.Is Try.prog 101 gCA := oF Try.underlying101 (by kernel_rfl) (by kernel_rfl) (by kernel_rfl)
theorem oIA : TI.Is Try.prog 115 hCA := oF Try.underlying115 (by kernel_rfl) (by kernel_rfl) (by kernel_rfl)
theorem pIA : TI.Is Try.prog 117 iCA := oF Try.underlying117 (by kernel_rfl) (by kernel_rfl) (by kernel_rfl)
theorem qIA : TI.Is Try.prog 118 jCA := oF Try.underlying118 (by kernel_rfl) (by kernel_rfl) (by kernel_rfl)
theorem rIA : TI.Is Try.prog 125 kCA := oF Try.underlying125 (by kernel_rfl) (by kernel_rfl) (by kernel_rfl)
theorem sIA : TI.Is Try.prog 126 lCA := oF Try.underlying126 (by kernel_rfl) (by kernel_rfl) (by kernel_rfl)
theorem tIA : TI.Is Try.prog 133 mCA := oF Try.underlying133 (by kernel_rfl) (by kernel_rfl) (by kernel_rfl)
theorem uIA : TI.Is Try.prog 136 qW := oF Try.underlying136 (by kernel_rfl) (by kernel_rfl) (by kernel_rfl)
theorem vIA : TI.Is Try.prog 139 nCA := oF Try.underlying139 (by kernel_rfl) (by kernel_rfl) (by kernel_rfl)
theorem wIA : TI.Is Try.prog 144 oCA := oF Try.underlying144 (by kernel_rfl) (by kernel_rfl) (by kernel_rfl)
theorem xIA : TI.Is Try.prog 145 pCA := oF Try.underlying145 (by kernel_rfl) (by kernel_rfl) (by kernel_rfl)
theorem yIA : TI.Is Try.prog 148 qCA := oF Try.underlying148 (by kernel_rfl) (by kernel_rfl) (by kernel_rfl)
theorem zIA : TI.Is Try.prog 149 rCA := oF Try.underlying149 (by kernel_rfl) (by kernel_rfl) (by kernel_rfl)
theorem aJA : TI.Is Try.prog 161 sCA := oF Try.underlying161 (by kernel_rfl) (by kernel_rfl) (by kernel_rfl)
theorem bJA : TI.Is Try.prog 163 tCA := oF Try.underlying163 (by kernel_rfl) (by kernel_rfl) (by kernel_rfl)
theorem cJA : TI.Is Try.prog 164 uCA := oF Try.underlying164 (by kernel_rfl) (by kernel_rfl) (by kernel_rfl)
theorem dJA : TI.Is Try.prog 167 rFA := oF Try.underlying167 (by kernel_rfl) (by kernel_rfl) (by kernel_rfl)
theorem eJA : TI.Is Try.prog 168 vCA := oF Try.underlying168 (by kernel_rfl) (by kernel_rfl) (by kernel_rfl)
theorem fJA : TI.Is Try.prog 170 wCA := oF Try.underlying170 (by kernel_rfl) (by kernel_rfl) (by kernel_rfl)
theorem gJA : TI.Is Try.prog 171 xCA := oF Try.underlying171 (by kernel_rfl) (by kernel_rfl) (by kernel_rfl)
theorem hJA : TI.Is Try.prog 173 sFA := oF Try.underlying173 (by kernel_rfl) (by kernel_rfl) (by kernel_rfl)
theorem iJA : TI.Is Try.prog 174 tFA := oF Try.underlying174 (by kernel_rfl) (by kernel_rfl) (by kernel_rfl)
theorem jJA : TI.Is Try.prog 177 yCA := oF Try.underlying177 (by kernel_rfl) (by kernel_rfl) (by kernel_rfl)
theorem kJA : TI.Is Try.prog 178 zCA := oF Try.underlying178 (by kernel_rfl) (by kernel_rfl) (by kernel_rfl)
theorem lJA : TI.Is Try.prog 180 uFA := oF Try.underlying180 (by kernel_rfl) (by kernel_rfl) (by kernel_rfl)
theorem mJA : TI.Is Try.prog 181 aDA := oF Try.underlying181 (by kernel_rfl) (by kernel_rfl) (by kernel_rfl)
theorem nJA : TI.Is Try.prog 183 bDA := oF Try.underlying183 (by kernel_rfl) (by kernel_rfl) (by kernel_rfl)
theorem oJA : TI.Is Try.prog 185 cDA := oF Try.underlying185 (by kernel_rfl) (by kernel_rfl) (by kernel_rfl)
theorem pJA : TI.Is Try.prog 186 dDA := oF Try.underlying186 (by kernel_rfl) (by kernel_rfl) (by kernel_rfl)
theorem qJA : TI.Is Try.prog 190 eDA := oF Try.underlying190 (by kernel_rfl) (by kernel_rfl) (by kernel_rfl)
theorem rJA : TI.Is Try.prog 194 vFA := oF Try.underlying194 (by kernel_rfl) (by kernel_rfl) (by kernel_rfl)
theorem sJA : TI.Is Try.prog 201 wFA := oF Try.underlying201 (by kernel_rfl) (by kernel_rfl) (by kernel_rfl)
theorem tJA : TI.Is Try.prog 203 xFA := oF Try.underlying203 (by kernel_rfl) (by kernel_rfl) (by kernel_rfl)
theorem uJA : TI.Is Try.prog 207 yFA := oF Try.underlying207 (by kernel_rfl) (by kernel_rfl) (by kernel_rfl)
theorem vJA : TI.Is Try.prog 209 zFA := oF Try.underlying209 (by kernel_rfl) (by kernel_rfl) (by kernel_rfl)
def tbl : List (Nat × TI) := [(1,ti1),(2,ti2),(3,ti3),(4,ti4),(5,ti5),(22,tGA),(24,uGA),(26,vGA),(27,eT),(35,wGA),(40,xGA),(47,yGA),(50,zGA),(54,aHA),(58,bHA),(60,cHA),(63,dHA),(69,eHA),(71,fHA),(75,gHA),(77,hHA),(87,iHA),(88,jHA),(90,kHA),(101,gCA),(115,hCA),(117,iCA),(118,jCA),(125,kCA),(126,lCA),(133,mCA),(136,qW),(139,nCA),(144,oCA),(145,pCA),(148,qCA),(149,rCA),(161,sCA),(163,tCA),(164,uCA),(167,rFA),(168,vCA),(170,wCA),(171,xCA),(173,sFA),(174,tFA),(177,yCA),(178,zCA),(180,uFA),(181,aDA),(183,bDA),(185,cDA),(186,dDA),(190,eDA),(194,vFA),(201,wFA),(203,xFA),(207,yFA),(209,zFA)]
def tbT (t : Nat) : Option TI := tbl.lookup t
theorem dS {R : Nat → TI → Prop} : ∀ {l : List (Nat × TI)} {t : Nat} {i : TI},(∀ p ∈ l,R p.1 p.2) → l.lookup t = some i → R t i
 | [],t,i,_,h => by simp at h
 | (k,x) :: l,t,i,h,hl => by
  simp only [List.lookup] at hl
  split at hl
  ·rename_i hk
   have hk : t = k := by simpa using hk
   subst hk
   injection hl with hl
   subst hl
   exact h (t,x) (List.mem_cons_self ..)
  ·exact dS (fun p hp => h p (List.mem_cons_of_mem _ hp)) hl
theorem lHA : TOK Try.prog tbT := fun t i h => dS (l := tbl) (R := fun t i => TI.Is Try.prog t i) (by
 unfold tbl
 refine List.forall_mem_cons.2 ⟨is1,?_⟩
 refine List.forall_mem_cons.2 ⟨is2,?_⟩
 refine List.forall_mem_cons.2 ⟨is3,?_⟩
 refine List.forall_mem_cons.2 ⟨is4,?_⟩
 refine List.forall_mem_cons.2 ⟨is5,?_⟩
 refine List.forall_mem_cons.2 ⟨sKA,?_⟩
 refine List.forall_mem_cons.2 ⟨tKA,?_⟩
 refine List.forall_mem_cons.2 ⟨uKA,?_⟩
 refine List.forall_mem_cons.2 ⟨vKA,?_⟩
 refine List.forall_mem_cons.2 ⟨wKA,?_⟩
 refine List.forall_mem_cons.2 ⟨xKA,?_⟩
 refine List.forall_mem_cons.2 ⟨yKA,?_⟩
 refine List.forall_mem_cons.2 ⟨zKA,?_⟩
 refine List.forall_mem_cons.2 ⟨aLA,?_⟩
 refine List.forall_mem_cons.2 ⟨bLA,?_⟩
 refine List.forall_mem_cons.2 ⟨cLA,?_⟩
 refine List.forall_mem_cons.2 ⟨dLA,?_⟩
 refine List.forall_mem_cons.2 ⟨eLA,?_⟩
 refine List.forall_mem_cons.2 ⟨fLA,?_⟩
 refine List.forall_mem_cons.2 ⟨gLA,?_⟩
 refine List.forall_mem_cons.2 ⟨hLA,?_⟩
 refine List.forall_mem_cons.2 ⟨iLA,?_⟩
 refine List.forall_mem_cons.2 ⟨jLA,?_⟩
 refine List.forall_mem_cons.2 ⟨kLA,?_⟩
 refine List.forall_mem_cons.2 ⟨nIA,?_⟩
 refine List.forall_mem_cons.2 ⟨oIA,?_⟩
 refine List.forall_mem_cons.2 ⟨pIA,?_⟩
 refine List.forall_mem_cons.2 ⟨qIA,?_⟩
 refine List.forall_mem_cons.2 ⟨rIA,?_⟩
 refine List.forall_mem_cons.2 ⟨sIA,?_⟩
 refine List.forall_mem_cons.2 ⟨tIA,?_⟩
 refine List.forall_mem_cons.2 ⟨uIA,?_⟩
 refine List.forall_mem_cons.2 ⟨vIA,?_⟩
 refine List.forall_mem_cons.2 ⟨wIA,?_⟩
 refine List.forall_mem_cons.2 ⟨xIA,?_⟩
 refine List.forall_mem_cons.2 ⟨yIA,?_⟩
 refine List.forall_mem_cons.2 ⟨zIA,?_⟩
 refine List.forall_mem_cons.2 ⟨aJA,?_⟩
 refine List.forall_mem_cons.2 ⟨bJA,?_⟩
 refine List.forall_mem_cons.2 ⟨cJA,?_⟩
 refine List.forall_mem_cons.2 ⟨dJA,?_⟩
 refine List.forall_mem_cons.2 ⟨eJA,?_⟩
 refine List.forall_mem_cons.2 ⟨fJA,?_⟩
 refine List.forall_mem_cons.2 ⟨gJA,?_⟩
 refine List.forall_mem_cons.2 ⟨hJA,?_⟩
 refine List.forall_mem_cons.2 ⟨iJA,?_⟩
 refine List.forall_mem_cons.2 ⟨jJA,?_⟩
 refine List.forall_mem_cons.2 ⟨kJA,?_⟩
 refine List.forall_mem_cons.2 ⟨lJA,?_⟩
 refine List.forall_mem_cons.2 ⟨mJA,?_⟩
 refine List.forall_mem_cons.2 ⟨nJA,?_⟩
 refine List.forall_mem_cons.2 ⟨oJA,?_⟩
 refine List.forall_mem_cons.2 ⟨pJA,?_⟩
 refine List.forall_mem_cons.2 ⟨qJA,?_⟩
 refine List.forall_mem_cons.2 ⟨rJA,?_⟩
 refine List.forall_mem_cons.2 ⟨sJA,?_⟩
 refine List.forall_mem_cons.2 ⟨tJA,?_⟩
 refine List.forall_mem_cons.2 ⟨uJA,?_⟩
 refine List.forall_mem_cons.2 ⟨vJA,?_⟩
 exact fun p hp => (List.not_mem_nil hp).elim) h
theorem t1 : tbT 1 = some ti1 := by kernel_rfl
theorem t2 : tbT 2 = some ti2 := by kernel_rfl
theorem t3 : tbT 3 = some ti3 := by kernel_rfl
theorem t4 : tbT 4 = some ti4 := by kernel_rfl
theorem t5 : tbT 5 = some ti5 := by kernel_rfl
theorem t22 : tbT 22 = some tGA := by kernel_rfl
theorem t24 : tbT 24 = some uGA := by kernel_rfl
theorem t26 : tbT 26 = some vGA := by kernel_rfl
theorem t27 : tbT 27 = some eT := by kernel_rfl
theorem t35 : tbT 35 = some wGA := by kernel_rfl
theorem t40 : tbT 40 = some xGA := by kernel_rfl
theorem t47 : tbT 47 = some yGA := by kernel_rfl
theorem t50 : tbT 50 = some zGA := by kernel_rfl
theorem t54 : tbT 54 = some aHA := by kernel_rfl
theorem t58 : tbT 58 = some bHA := by kernel_rfl
theorem t60 : tbT 60 = some cHA := by kernel_rfl
theorem t63 : tbT 63 = some dHA := by kernel_rfl
theorem t69 : tbT 69 = some eHA := by kernel_rfl
theorem t71 : tbT 71 = some fHA := by kernel_rfl
theorem t75 : tbT 75 = some gHA := by kernel_rfl
theorem t77 : tbT 77 = some hHA := by kernel_rfl
theorem t87 : tbT 87 = some iHA := by kernel_rfl
theorem t88 : tbT 88 = some jHA := by kernel_rfl
theorem t90 : tbT 90 = some kHA := by kernel_rfl
theorem lLA : tbT 101 = some gCA := by kernel_rfl
theorem mLA : tbT 115 = some hCA := by kernel_rfl
theorem nLA : tbT 117 = some iCA := by kernel_rfl
theorem oLA : tbT 118 = some jCA := by kernel_rfl
theorem pLA : tbT 125 = some kCA := by kernel_rfl
theorem qLA : tbT 126 = some lCA := by kernel_rfl
theorem rLA : tbT 133 = some mCA := by kernel_rfl
theorem mHA : tbT 136 = some qW := by kernel_rfl
theorem sLA : tbT 139 = some nCA := by kernel_rfl
theorem tLA : tbT 144 = some oCA := by kernel_rfl
theorem uLA : tbT 145 = some pCA := by kernel_rfl
theorem vLA : tbT 148 = some qCA := by kernel_rfl
theorem wLA : tbT 149 = some rCA := by kernel_rfl
theorem xLA : tbT 161 = some sCA := by kernel_rfl
theorem yLA : tbT 163 = some tCA := by kernel_rfl
theorem zLA : tbT 164 = some uCA := by kernel_rfl
theorem aMA : tbT 168 = some vCA := by kernel_rfl
theorem bMA : tbT 170 = some wCA := by kernel_rfl
theorem cMA : tbT 171 = some xCA := by kernel_rfl
theorem dMA : tbT 177 = some yCA := by kernel_rfl
theorem eMA : tbT 178 = some zCA := by kernel_rfl
theorem fMA : tbT 181 = some aDA := by kernel_rfl
theorem gMA : tbT 183 = some bDA := by kernel_rfl
theorem hMA : tbT 185 = some cDA := by kernel_rfl
theorem iMA : tbT 186 = some dDA := by kernel_rfl
theorem jMA : tbT 190 = some eDA := by kernel_rfl
theorem tt : tbT 1 = some ⟨TypeDesc.func #[] #[] false,1,8,Value.nilFunc⟩ ∧ tbT 2 = some ⟨TypeDesc.int IntKind.i64,1,8,Value.int IntKind.i64 0⟩ ∧ tbT 3 = some ⟨TypeDesc.int IntKind.i64,1,8,Value.int IntKind.i64 0⟩ ∧ tbT 4 = some ⟨TypeDesc.bool,1,1,Value.bool false⟩ ∧ tbT 5 = some ⟨TypeDesc.int IntKind.u8,1,1,Value.int IntKind.u8 0⟩ ∧ tbT 22 = some ⟨TypeDesc.slice 50,1,24,Value.slice none 0 0⟩ ∧ tbT 24 = some ⟨TypeDesc.slice 60,1,24,Value.slice none 0 0⟩ ∧ tbT 26 = some ⟨TypeDesc.struct #[{ name := "Size",type := 3,offset := 0,embedded := false,tag := "",pkgPath := "",byteOffset := 0 },{ name := "Leaf",type := 3,offset := 1,embedded := false,tag := "",pkgPath := "",byteOffset := 8 },{ name := "Levels",type := 24,offset := 2,embedded := false,tag := "",pkgPath := "",byteOffset := 16 }],3,40,Value.agg #[Value.int IntKind.i64 0,Value.int IntKind.i64 0,Value.slice none 0 0]⟩ ∧ tbT 27 = some ⟨TypeDesc.int IntKind.i64,1,8,Value.int IntKind.i64 0⟩ ∧ tbT 35 = some ⟨TypeDesc.struct #[{ name := "Start",type := 3,offset := 0,embedded := false,tag := "",pkgPath := "",byteOffset := 0 },{ name := "Count",type := 3,offset := 1,embedded := false,tag := "",pkgPath := "",byteOffset := 8 }],2,16,Value.agg #[Value.int IntKind.i64 0,Value.int IntKind.i64 0]⟩ ∧ tbT 40 = some ⟨TypeDesc.slice 35,1,24,Value.slice none 0 0⟩ ∧ tbT 47 = some ⟨TypeDesc.struct #[{ name := "Volume",type := 3,offset := 0,embedded := false,tag := "",pkgPath := "",byteOffset := 0 },{ name := "Start",type := 3,offset := 1,embedded := false,tag := "",pkgPath := "",byteOffset := 8 },{ name := "Data",type := 22,offset := 2,embedded := false,tag := "",pkgPath := "",byteOffset := 16 }],3,40,Value.agg #[Value.int IntKind.i64 0,Value.int IntKind.i64 0,Value.slice none 0 0]⟩ ∧ tbT 50 = some ⟨TypeDesc.array 8 5,8,8,Value.agg #[Value.int IntKind.u8 0,Value.int IntKind.u8 0,Value.int IntKind.u8 0,Value.int IntKind.u8 0,Value.int IntKind.u8 0,Value.int IntKind.u8 0,Value.int IntKind.u8 0,Value.int IntKind.u8 0]⟩ ∧ tbT 54 = some ⟨TypeDesc.slice 4,1,24,Value.slice none 0 0⟩ ∧ tbT 58 = some ⟨TypeDesc.int IntKind.u64,1,8,Value.int IntKind.u64 0⟩ ∧ tbT 60 = some ⟨TypeDesc.slice 58,1,24,Value.slice none 0 0⟩ ∧ tbT 63 = some ⟨TypeDesc.struct #[{ name := "Root",type := 58,offset := 0,embedded := false,tag := "",pkgPath := "",byteOffset := 0 },{ name := "Size",type := 3,offset := 1,embedded := false,tag := "",pkgPath := "",byteOffset := 8 },{ name := "Leaf",type := 3,offset := 2,embedded := false,tag := "",pkgPath := "",byteOffset := 16 },{ name := "Index",type := 3,offset := 3,embedded := false,tag := "",pkgPath := "",byteOffset := 24 },{ name := "Data",type := 22,offset := 4,embedded := false,tag := "",pkgPath := "",byteOffset := 32 },{ name := "Proof",type := 60,offset := 5,embedded := false,tag := "",pkgPath := "",byteOffset := 56 }],6,80,Value.agg #[Value.int IntKind.u64 0,Value.int IntKind.i64 0,Value.int IntKind.i64 0,Value.int IntKind.i64 0,Value.slice none 0 0,Value.slice none 0 0]⟩ ∧ tbT 69 = some ⟨TypeDesc.func #[60,60] #[4] false,1,8,Value.nilFunc⟩ ∧ tbT 71 = some ⟨TypeDesc.array 2 5,2,2,Value.agg #[Value.int IntKind.u8 0,Value.int IntKind.u8 0]⟩ ∧ tbT 75 = some ⟨TypeDesc.struct #[{ name := "Tree",type := 26,offset := 0,embedded := false,tag := "",pkgPath := "",byteOffset := 0 },{ name := "Pending",type := 40,offset := 3,embedded := false,tag := "",pkgPath := "",byteOffset := 40 },{ name := "Level",type := 3,offset := 4,embedded := false,tag := "",pkgPath := "",byteOffset := 64 },{ name := "Found",type := 40,offset := 5,embedded := false,tag := "",pkgPath := "",byteOffset := 72 },{ name := "Sent",type := 3,offset := 6,embedded := false,tag := "",pkgPath := "",byteOffset := 96 },{ name := "Done",type := 4,offset := 7,embedded := false,tag := "",pkgPath := "",byteOffset := 104 }],8,112,Value.agg #[Value.int IntKind.i64 0,Value.int IntKind.i64 0,Value.slice none 0 0,Value.slice none 0 0,Value.int IntKind.i64 0,Value.slice none 0 0,Value.int IntKind.i64 0,Value.bool false]⟩ ∧ tbT 77 = some ⟨TypeDesc.slice 90,1,24,Value.slice none 0 0⟩ ∧ tbT 87 = some ⟨TypeDesc.slice 3,1,24,Value.slice none 0 0⟩ ∧ tbT 88 = some ⟨TypeDesc.slice 5,1,24,Value.slice none 0 0⟩ ∧ tbT 90 = some ⟨TypeDesc.struct #[{ name := "Kind",type := 3,offset := 0,embedded := false,tag := "",pkgPath := "",byteOffset := 0 },{ name := "From",type := 3,offset := 1,embedded := false,tag := "",pkgPath := "",byteOffset := 8 },{ name := "To",type := 3,offset := 2,embedded := false,tag := "",pkgPath := "",byteOffset := 16 },{ name := "Number",type := 3,offset := 3,embedded := false,tag := "",pkgPath := "",byteOffset := 24 },{ name := "Value",type := 3,offset := 4,embedded := false,tag := "",pkgPath := "",byteOffset := 32 },{ name := "Epoch",type := 3,offset := 5,embedded := false,tag := "",pkgPath := "",byteOffset := 40 },{ name := "Values",type := 87,offset := 6,embedded := false,tag := "",pkgPath := "",byteOffset := 48 },{ name := "Body",type := 88,offset := 7,embedded := false,tag := "",pkgPath := "",byteOffset := 72 }],8,96,Value.agg #[Value.int IntKind.i64 0,Value.int IntKind.i64 0,Value.int IntKind.i64 0,Value.int IntKind.i64 0,Value.int IntKind.i64 0,Value.int IntKind.i64 0,Value.slice none 0 0,Value.slice none 0 0]⟩ ∧ tbT 101 = some ⟨TypeDesc.array 3 3,3,24,Value.agg #[Value.int IntKind.i64 0,Value.int IntKind.i64 0,Value.int IntKind.i64 0]⟩ ∧ tbT 115 = some ⟨TypeDesc.func #[58,58] #[58] false,1,8,Value.nilFunc⟩ ∧ tbT 117 = some ⟨TypeDesc.func #[161] #[] false,1,8,Value.nilFunc⟩ ∧ tbT 118 = some ⟨TypeDesc.func #[161] #[] false,1,8,Value.nilFunc⟩ ∧ tbT 125 = some ⟨TypeDesc.slice 26,1,24,Value.slice none 0 0⟩ ∧ tbT 126 = some ⟨TypeDesc.array 16 87,16,384,Value.agg #[Value.slice none 0 0,Value.slice none 0 0,Value.slice none 0 0,Value.slice none 0 0,Value.slice none 0 0,Value.slice none 0 0,Value.slice none 0 0,Value.slice none 0 0,Value.slice none 0 0,Value.slice none 0 0,Value.slice none 0 0,Value.slice none 0 0,Value.slice none 0 0,Value.slice none 0 0,Value.slice none 0 0,Value.slice none 0 0]⟩ ∧ tbT 133 = some ⟨TypeDesc.slice 22,1,24,Value.slice none 0 0⟩ ∧ tbT 136 = some ⟨TypeDesc.pointer 139,1,8,Value.pointer none⟩ ∧ tbT 139 = some ⟨TypeDesc.struct #[{ name := "Walk",type := 75,offset := 0,embedded := true,tag := "",pkgPath := "",byteOffset := 0 }],8,112,Value.agg #[Value.int IntKind.i64 0,Value.int IntKind.i64 0,Value.slice none 0 0,Value.slice none 0 0,Value.int IntKind.i64 0,Value.slice none 0 0,Value.int IntKind.i64 0,Value.bool false]⟩ ∧ tbT 144 = some ⟨TypeDesc.func #[173] #[] false,1,8,Value.nilFunc⟩ ∧ tbT 145 = some ⟨TypeDesc.func #[173] #[] false,1,8,Value.nilFunc⟩ ∧ tbT 148 = some ⟨TypeDesc.func #[174] #[] false,1,8,Value.nilFunc⟩ ∧ tbT 149 = some ⟨TypeDesc.func #[174] #[] false,1,8,Value.nilFunc⟩ ∧ tbT 161 = some ⟨TypeDesc.func #[22] #[4] false,1,8,Value.nilFunc⟩ ∧ tbT 163 = some ⟨TypeDesc.func #[5] #[4] false,1,8,Value.nilFunc⟩ ∧ tbT 164 = some ⟨TypeDesc.func #[163] #[] false,1,8,Value.nilFunc⟩ ∧ tbT 168 = some ⟨TypeDesc.func #[180] #[] false,1,8,Value.nilFunc⟩ ∧ tbT 170 = some ⟨TypeDesc.func #[4,4] #[4] false,1,8,Value.nilFunc⟩ ∧ tbT 171 = some ⟨TypeDesc.array 16 5,16,16,Value.agg #[Value.int IntKind.u8 0,Value.int IntKind.u8 0,Value.int IntKind.u8 0,Value.int IntKind.u8 0,Value.int IntKind.u8 0,Value.int IntKind.u8 0,Value.int IntKind.u8 0,Value.int IntKind.u8 0,Value.int IntKind.u8 0,Value.int IntKind.u8 0,Value.int IntKind.u8 0,Value.int IntKind.u8 0,Value.int IntKind.u8 0,Value.int IntKind.u8 0,Value.int IntKind.u8 0,Value.int IntKind.u8 0]⟩ ∧ tbT 177 = some ⟨TypeDesc.int IntKind.u64,1,8,Value.int IntKind.u64 0⟩ ∧ tbT 178 = some ⟨TypeDesc.func #[163] #[] false,1,8,Value.nilFunc⟩ ∧ tbT 181 = some ⟨TypeDesc.slice 185,1,24,Value.slice none 0 0⟩ ∧ tbT 183 = some ⟨TypeDesc.array 2 3,2,16,Value.agg #[Value.int IntKind.i64 0,Value.int IntKind.i64 0]⟩ ∧ tbT 185 = some ⟨TypeDesc.struct #[{ name := "at",type := 3,offset := 0,embedded := false,tag := "",pkgPath := "standby/extent",byteOffset := 0 },{ name := "list",type := 3,offset := 1,embedded := false,tag := "",pkgPath := "standby/extent",byteOffset := 8 },{ name := "step",type := 3,offset := 2,embedded := false,tag := "",pkgPath := "standby/extent",byteOffset := 16 }],3,24,Value.agg #[Value.int IntKind.i64 0,Value.int IntKind.i64 0,Value.int IntKind.i64 0]⟩ ∧ tbT 186 = some ⟨TypeDesc.slice 40,1,24,Value.slice none 0 0⟩ ∧ tbT 190 = some ⟨TypeDesc.func #[185,185] #[3] false,1,8,Value.nilFunc⟩ := ⟨t1,t2,t3,t4,t5,t22,t24,t26,t27,t35,t40,t47,t50,t54,t58,t60,t63,t69,t71,t75,t77,t87,t88,t90,lLA,mLA,nLA,oLA,pLA,qLA,rLA,mHA,sLA,tLA,uLA,vLA,wLA,xLA,yLA,zLA,aMA,bMA,cMA,dMA,eMA,fMA,gMA,hMA,iMA,jMA⟩
end Go.Proofs.Ytldcoekbgfaomaa
end
section
namespace Go.Proofs.Ytldcoekbgfaomaa
open Go.RowKit
section
variable {P : Program} (w : World)
theorem kH {e : TypeId} {i : TI} (he : TI.Is P e i) (ha : TypeDesc.aggB i.und = false) {xs : Array Value} {off : Nat} {v : Value} (hx : xs[off]? = some v) : (part e xs off).run P w = .ok v w := by
 simp only [part,Sem.run_bind,tK w he,Result.andThen_ok,ha,Zf,Zq,hx,Sem.run_pure]
theorem fT {t e : TypeId} {n : Nat} {k : IntKind} {i : TI} (d : Nat) (ht : P.underlying t = some (.array n e)) (he : TI.Is P e i) (ha : TypeDesc.aggB i.und = false) (hs : i.size = 1)
  (hE : ∀ a b,(Op.equalIn d e (.int k a) (.int k b)).run P w = .ok (a == b) w) :
  ∀ (xs ys : List Int),xs.length = n → ys.length = n →
  (Op.equalIn (d + 1) t (.agg (xs.map (Value.int k)).toArray) (.agg (ys.map (Value.int k)).toArray)).run P w = .ok (decide (xs = ys)) w := by
 intro xs ys hx hy
 simp only [Op.equalIn,Sem.run_bind,run_underlying ht,Result.andThen_ok,wE w he,hs]
 rw [Std.Legacy.Range.forIn_eq_forIn_range']
 simp only [Std.Legacy.Range.size,Nat.sub_zero,Nat.div_one,Nat.add_one_sub_one]
 have key : ∀ (m s : Nat),s + m = n → (∀ j,j < s → xs[j]? = ys[j]?) →
   ((forIn (List.range' s m) ((none,()) : Option Bool × PUnit) (fun (i : Nat) __s => do
    let x ← part e (xs.map (Value.int k)).toArray (i * 1)
    let y ← part e (ys.map (Value.int k)).toArray (i * 1)
    let r ← Op.equalIn d e x y
    if (!r) = true then pure (ForInStep.done (some false,()))
    else pure (ForInStep.yield (none,()))) : Sem (Option Bool × PUnit))).run P w = .ok (if xs = ys then (none,()) else (some false,())) w := by
  intro m
  induction m with
  | zero =>
   intro s hs hlt
   have hxy : xs = ys := by
    apply List.ext_getElem?
    intro j
    by_cases hj : j < s
    ·exact hlt j hj
    ·rw [List.getElem?_eq_none (by omega),List.getElem?_eq_none (by omega)]
   simp [hxy]
  | succ m ih =>
   intro s hs hlt
   have h1 : s < xs.length := by omega
   have h2 : s < ys.length := by omega
   simp only [List.range'_succ,List.forIn_cons,Sem.run_bind]
   rw [kH w he ha (v := .int k xs[s]) (by simp [h1]),Result.andThen_ok,kH w he ha (v := .int k ys[s]) (by simp [h2]),Result.andThen_ok,
    hE,Result.andThen_ok]
   by_cases hc : xs[s] = ys[s]
   ·simp only [hc,beq_self_eq_true,Bool.not_true,Zf,Zq,Sem.run_pure,Result.andThen_ok]
    refine ih (s + 1) (by omega) (fun j hj => ?_)
    by_cases hj' : j < s
    ·exact hlt j hj'
    ·have : j = s := by omega
     subst this
     rw [List.getElem?_eq_getElem h1,List.getElem?_eq_getElem h2,hc]
   ·have hne : xs ≠ ys := by rintro rfl; exact hc rfl
    have hb : (xs[s] == ys[s]) = false := by simp [hc]
    simp [hb,hne]
 have hk := key n 0 (by omega) (fun j hj => by omega)
 rw [hk]
 by_cases h : xs = ys <;> simp [h]
theorem rW {t : TypeId} {k : IntKind} {f g : Field} {i j : TI} (d : Nat) (ht : P.underlying t = some (.struct (P.fieldsOf t))) (hp : P.stoodInHeld t = false) (hf : P.fieldsOf t = #[f,g])
  (hfo : f.offset = 0) (hgo : g.offset = 1) (hi : TI.Is P f.type i) (hj : TI.Is P g.type j) (ha : TypeDesc.aggB i.und = false) (hb : TypeDesc.aggB j.und = false)
  (hE : ∀ a b,(Op.equalIn d f.type (.int k a) (.int k b)).run P w = .ok (a == b) w) (hE' : ∀ a b,(Op.equalIn d g.type (.int k a) (.int k b)).run P w = .ok (a == b) w)
  (hnf : f.name ≠ "_") (hng : g.name ≠ "_") (x x' y y' : Int) :
  (Op.equalIn (d + 1) t (.agg #[.int k x,.int k x']) (.agg #[.int k y,.int k y'])).run P w = .ok (decide (x = y ∧ x' = y')) w := by
 rw [run_equalIn_struct w d t _ _ ht hp,hf]
 simp only [Op.eqFields,hfo,hgo,Sem.run_bind,Sem.run_ite,hnf,hng,ne_eq,not_false_eq_true,Zr]
 rw [kH w hi ha (v := .int k x) (by rfl),Result.andThen_ok,kH w hi ha (v := .int k y) (by rfl),Result.andThen_ok,hE,Result.andThen_ok]
 by_cases hx : x = y
 ·subst hx
  simp only [beq_self_eq_true,Bool.not_true,Zf,Zq]
  rw [kH w hj hb (v := .int k x') (by rfl),Result.andThen_ok,kH w hj hb (v := .int k y') (by rfl),Result.andThen_ok,hE',Result.andThen_ok]
  by_cases hy : x' = y'
  ·subst hy; simp
  ·simp [hy]
 ·simp [hx]
end
theorem sW {xs : List Int} (h : xs.length = 2) : ∃ a b,xs = [a,b] := by
 match xs,h with
 | [a,b],_ => exact ⟨a,b,rfl⟩
def tbE (t : Nat) : Option (IntKind × Nat) := if t = 35 then some (.i64,2) else if t = 50 then some (.u8,8) else none
theorem wJA (op : BinOp) (x y : Operand) (xs ys : List Int) (W : World) (hx : xs.length = 2) (hy : ys.length = 2) (ho : op = .eql ∨ op = .neq) :
  (do eqGuard op 35 x y (.agg (xs.map (Value.int .i64)).toArray) (.agg (ys.map (Value.int .i64)).toArray); binOp op 35 (.agg (xs.map (Value.int .i64)).toArray) (.agg (ys.map (Value.int .i64)).toArray) : Sem Value).run Try.prog W =
   .ok (.bool (if op = .eql then decide (xs = ys) else !decide (xs = ys))) W := by
 obtain ⟨a,b,rfl⟩ := sW hx
 obtain ⟨c,d,rfl⟩ := sW hy
 rw [Sem.run_bind,run_eqGuard_agg W op 35 x y _ _ (by kernel_rfl),Result.andThen_ok]
 have hq : (Op.equalIn 10000 35 (.agg ([a,b].map (Value.int .i64)).toArray) (.agg ([c,d].map (Value.int .i64)).toArray)).run Try.prog W = .ok (decide (a = c ∧ b = d)) W :=
  rW W 9999 (by kernel_rfl) (by kernel_rfl) (show Try.prog.fieldsOf 35 = #[{ name := "Start",type := 3,offset := 0,embedded := false,tag := "",pkgPath := "",byteOffset := 0 },
   { name := "Count",type := 3,offset := 1,embedded := false,tag := "",pkgPath := "",byteOffset := 8 }] by kernel_rfl) rfl rfl is3 is3 rfl rfl
   (fun a b => run_equalIn_int W 9998 3 .i64 .i64 a b Try.underlying3) (fun a b => run_equalIn_int W 9998 3 .i64 .i64 a b Try.underlying3) (by decide) (by decide) a b c d
 have e : decide (a = c ∧ b = d) = decide ([a,b] = [c,d]) := by simp
 rw [e] at hq
 rcases ho with rfl | rfl
 ·rw [run_eql_struct,hq,Result.andThen_ok,if_pos rfl]
 ·rw [run_neq_struct,hq,Result.andThen_ok,if_neg (by decide)]
theorem xJA (op : BinOp) (x y : Operand) (xs ys : List Int) (W : World) (hx : xs.length = 8) (hy : ys.length = 8) (ho : op = .eql ∨ op = .neq) :
  (do eqGuard op 50 x y (.agg (xs.map (Value.int .u8)).toArray) (.agg (ys.map (Value.int .u8)).toArray); binOp op 50 (.agg (xs.map (Value.int .u8)).toArray) (.agg (ys.map (Value.int .u8)).toArray) : Sem Value).run Try.prog W =
   .ok (.bool (if op = .eql then decide (xs = ys) else !decide (xs = ys))) W := by
 rw [Sem.run_bind,run_eqGuard_agg W op 50 x y _ _ (by kernel_rfl),Result.andThen_ok]
 have hq := fT W 9999 (t := 50) (e := 5) (n := 8) (k := .u8) (i := ti5) Try.underlying50 is5 rfl rfl (fun a b => run_equalIn_int W 9998 5 .u8 .u8 a b Try.underlying5) xs ys hx hy
 rcases ho with rfl | rfl
 ·rw [run_eql_struct,hq,Result.andThen_ok,if_pos rfl]
 ·rw [run_neq_struct,hq,Result.andThen_ok,if_neg (by decide)]
theorem nHA : EOK Try.prog tbE := by
 intro t k n h op x y xs ys W hx hy ho
 unfold tbE at h
 split at h
 ·rename_i ht
  subst ht
  simp only [Option.some.injEq,Prod.mk.injEq] at h
  obtain ⟨rfl,rfl⟩ := h
  exact wJA op x y xs ys W hx hy ho
 ·split at h
  ·rename_i ht
   subst ht
   simp only [Option.some.injEq,Prod.mk.injEq] at h
   obtain ⟨rfl,rfl⟩ := h
   exact xJA op x y xs ys W hx hy ho
  ·cases h
def tb : Tb := { T := tbT,E := tbE }
/-- The table with the slots whose slice literals stay the call's own. -/
def tbO (l : List Nat) : Tb := { T := tbT,E := tbE,O := fun d => d.any (l.contains ·) }
/-- The table with slice literals that are variables. -/
def tbN (l : List Nat) : Tb := { T := tbT,E := tbE,N := fun d => d.any (l.contains ·) }
theorem fDA {P : Program} (l : List Nat) (h : tb.Ok P) : (tbN l).Ok P := ⟨h.t,h.e⟩
theorem aGA (l : List Nat) (t : Nat) : (tbN l).T t = tbT t := rfl
theorem bGA (l : List Nat) (t : Nat) : (tbN l).W t = false := rfl
theorem mZ (t : Nat) : (tbN [t]).N (some t) = true := by simp [tbN]
theorem zD (d : Option Tmp) : tb.N d = false := rfl
theorem aD (l : List Nat) (d : Option Tmp) : (tbO l).N d = false := rfl
/-- The table with a type whose structs are put together cell by cell. -/
def tbW (t : Nat) : Tb := { T := tbT,E := tbE,W := fun x => x == t }
theorem oY {P : Program} (t : Nat) (h : tb.Ok P) : (tbW t).Ok P := ⟨h.t,h.e⟩
theorem sQ (s t : Nat) : (tbW s).T t = tbT t := rfl
theorem iL (t : Nat) : (tbW t).W t = true := by simp [tbW]
theorem bD (t : Nat) (d : Option Tmp) : (tbW t).N d = false := rfl
theorem aE (t : Nat) : tb.W t = false := rfl
theorem cD (l : List Nat) (t : Nat) : (tbO l).W t = false := rfl
theorem oO {P : Program} (l : List Nat) (h : tb.Ok P) : (tbO l).Ok P := ⟨h.t,h.e⟩
theorem fN (l : List Nat) (t : Nat) : (tbO l).T t = tbT t := rfl
theorem yI (t : Nat) : (tbO [t]).O (some t) = true := by simp [tbO]
theorem xH (t u : Nat) (h : u ≠ t) : (tbO [t]).O (some u) = false := by simp [tbO,h]
theorem bE (d : Option Tmp) : tb.O d = false := rfl
theorem oC : tb.Ok Try.prog := ⟨lHA,nHA⟩
theorem lA (t : Nat) : tb.T t = tbT t := rfl
theorem acK {P P' : Program} {f : FuncId} {ds : List PV} {r : D} (hP : P' = P) (h : ACalls P f ds r) : ACalls P' f ds r := hP ▸ h
theorem jD {P : Program} (hP : P = Try.prog) : P.follows .mixedOrders = true := hP ▸ Try.checked.mixed
theorem e35 : tb.E 35 = some (.i64,2) := rfl
end Go.Proofs.Ytldcoekbgfaomaa
end
section
namespace Go.Proofs.Ytldcoekbgfaomaa
open Go.RowKit
@[reducible] def u8 (n : Int) : P1 := .v (.int .u8 n)
@[reducible] def u64 (n : Int) : P1 := .v (.int .u64 n)
@[reducible] def i64 (n : Int) : P1 := .v (.int .i64 n)
@[reducible] def bv (b : Bool) : P1 := .v (.bool b)
@[reducible] def bytes (l : List Int) : P1 := .sl l.length (l.map u8)
@[reducible] def mF (l : List Int) : P1 := .sl l.length (l.map i64)
@[reducible] def gH (l : List Int) : P1 := .sl l.length (l.map u64)
def bV (s : List Int) : List P1 := (List.range 8).map fun k => u8 (s.getD k 0)
def zI (l : List (List Int)) : List P1 := l.flatMap bV
@[reducible] def yN (l : List (List Int)) : P1 := .sl l.length (zI l)
def dE (l : List (Int × Int)) : List P1 := l.flatMap fun e => [i64 e.1,i64 e.2]
@[reducible] def gD (l : List (Int × Int)) : P1 := .sl l.length (dE l)
@[reducible] def iE (l : List (List Int)) : P1 := .sl l.length (l.map gH)
theorem jL {α : Type} (f : α → List P1) (n : Nat) (hf : ∀ a,(f a).length = n) (d : α) : ∀ (l : List α) (i k : Nat),i < l.length → k < n → (l.flatMap f)[i * n + k]? = (f (l.getD i d))[k]?
 | [],i,k,h,_ => by simp at h
 | a :: l,0,k,_,hk => by
  simp only [List.flatMap_cons,Nat.zero_mul,ZC,List.getD_cons_zero]
  rw [List.getElem?_append_left (by rw [hf]; exact hk)]
 | a :: l,i + 1,k,h,hk => by
  simp only [List.flatMap_cons,List.getD_cons_succ]
  have e : (i + 1) * n = i * n + n := Nat.succ_mul ..
  rw [List.getElem?_append_right (by rw [hf]; omega),hf,show (i + 1) * n + k - n = i * n + k by omega]
  exact jL f n hf d l i k (by simpa using h) hk
theorem yH {α : Type} (f : α → List P1) (n : Nat) (hf : ∀ a,(f a).length = n) : ∀ (l : List α),(l.flatMap f).length = l.length * n
 | [] => by simp
 | a :: l => by
  simp only [List.flatMap_cons,List.length_append,hf,yH f n hf l,Zl,Nat.succ_mul]
  omega
theorem yT {α : Type} (f : α → List P1) (n : Nat) (hf : ∀ a,(f a).length = n) (d : α) (l : List α) (i : Nat) (h : i < l.length) : ((l.flatMap f).drop (i * n)).take n = f (l.getD i d) := by
 apply List.ext_getElem?
 intro k
 by_cases hk : k < n
 ·rw [List.getElem?_take_of_lt hk,List.getElem?_drop,jL f n hf d l i k h hk]
 ·rw [List.getElem?_eq_none (by simp; omega),List.getElem?_eq_none (by rw [hf]; omega)]
theorem zT {α : Type} (f : α → List P1) (n : Nat) (hf : ∀ a,(f a).length = n) : ∀ (l : List α) (i : Nat),(l.flatMap f).drop (i * n) = (l.drop i).flatMap f
 | [],i => by simp
 | a :: l,0 => by simp
 | a :: l,i + 1 => by
  simp only [List.flatMap_cons,Zk]
  rw [Nat.succ_mul,List.drop_append,hf,List.drop_eq_nil_of_le (by rw [hf]; omega),List.nil_append,Nat.add_sub_cancel]
  exact zT f n hf l i
theorem aU {α : Type} (f : α → List P1) (n : Nat) (hf : ∀ a,(f a).length = n) : ∀ (l : List α) (i : Nat),(l.flatMap f).take (i * n) = (l.take i).flatMap f
 | [],i => by simp
 | a :: l,0 => by simp
 | a :: l,i + 1 => by
  simp only [List.flatMap_cons,Zj]
  rw [List.take_append,hf,List.take_of_length_le (by rw [hf,Nat.succ_mul]; omega),show (i + 1) * n - n = i * n by rw [Nat.succ_mul]; omega,aU f n hf l i]
theorem aB (s : List Int) : (bV s).length = 8 := by simp [bV]
theorem wEA (s : List Int) (k : Nat) (h : k < 8) : (bV s)[k]? = some (u8 (s.getD k 0)) := by
 simp [bV,h]
theorem tD (l : List (List Int)) : (zI l).length = l.length * 8 := yH bV 8 aB l
theorem hG (l : List (List Int)) (i k : Nat) (h : i < l.length) (hk : k < 8) : (zI l)[i * 8 + k]? = some (u8 ((l.getD i []).getD k 0)) := by
 rw [zI,jL bV 8 aB [] l i k h hk,wEA _ _ hk]
theorem gT (l : List (List Int)) (i : Nat) : (zI l).drop (i * 8) = zI (l.drop i) := zT bV 8 aB l i
theorem iT (l : List (List Int)) (i : Nat) : (zI l).take (i * 8) = zI (l.take i) := aU bV 8 aB l i
theorem iP (e : Int × Int) : ([i64 e.1,i64 e.2] : List P1).length = 2 := rfl
theorem dD (l : List (Int × Int)) : (dE l).length = l.length * 2 := yH _ 2 iP l
theorem kF (l : List (Int × Int)) (i : Nat) (h : i < l.length) : ((dE l).drop (i * 2)).take 2 = [i64 (l.getD i (0,0)).1,i64 (l.getD i (0,0)).2] :=
 yT _ 2 iP (0,0) l i h
theorem cV (l : List (Int × Int)) (i : Nat) (h : i < l.length) : (dE l)[i * 2]? = some (i64 (l.getD i (0,0)).1) := jL _ 2 iP (0,0) l i 0 h (by omega)
theorem dV (l : List (Int × Int)) (i : Nat) (h : i < l.length) : (dE l)[i * 2 + 1]? = some (i64 (l.getD i (0,0)).2) := jL _ 2 iP (0,0) l i 1 h (by omega)
theorem jC (l : List (Int × Int)) (x y : Int) : dE l ++ [i64 x,i64 y] = dE (l ++ [(x,y)]) := by simp [dE]
theorem nA (f : Int → P1) (l : List Int) (i : Nat) (h : i < l.length) : (l.map f)[i]? = some (f (l.getD i 0)) := by
 simp [h]
theorem mA (f : List Int → P1) (l : List (List Int)) (i : Nat) (h : i < l.length) : (l.map f)[i]? = some (f (l.getD i [])) := by
 simp [h]
theorem gE (l : List Int) (i : Nat) (h : i < l.length) : l.take (i + 1) = l.take i ++ [l.getD i 0] := by
 rw [List.take_add_one]; simp [h]
theorem eE (l : List (List Int)) (i : Nat) (h : i < l.length) : l.take (i + 1) = l.take i ++ [l.getD i []] := by
 rw [List.take_add_one]; simp [h]
theorem uF (l : List (Int × Int)) (i : Nat) (h : i < l.length) : l.take (i + 1) = l.take i ++ [l.getD i (0,0)] := by
 rw [List.take_add_one]; simp [h]
theorem fB : List.range 1 = [0] := rfl
theorem gB : List.range 2 = [0,1] := rfl
theorem iB : List.range 3 = [0,1,2] := rfl
theorem jB : List.range 4 = [0,1,2,3] := rfl
theorem kB : List.range 5 = [0,1,2,3,4] := rfl
def zJ (s : List Int) : List Int := (List.range 8).map fun k => s.getD k 0
def mK (l : List (List Int)) : List Int := l.flatMap zJ
theorem fK (s : List Int) : (zJ s).length = 8 := by simp [zJ]
theorem eV (l : List (List Int)) (i : Nat) (h : i < l.length) : mK (l.take (i + 1)) = mK (l.take i) ++ zJ (l.getD i []) := by
 rw [eE l i h]; simp [mK]
theorem zH {α : Type} (f : Nat → α) (n k : Nat) (h : k < n) : ((List.range n).map f).take (k + 1) = ((List.range n).map f).take k ++ [f k] := by
 rw [List.take_add_one]; simp [h]
theorem jT (s : List Int) (k : Nat) (h : k < 8) : (zJ s).take (k + 1) = (zJ s).take k ++ [s.getD k 0] := zH _ 8 k h
theorem gN : ∀ (l : List (List Int)),(mK l).length = l.length * 8
 | [] => rfl
 | s :: l => by
  have h := gN l
  simp only [mK,List.flatMap_cons,List.length_append,Zl,fK] at h ⊢
  omega
theorem jn {b : Bool} {P : Prop} [Decidable P] (h : b = true ↔ P) : D.p (.v (.bool b)) = D.p (bv (decide P)) := by
 have : b = decide P := by
  cases b
  ·symm; simpa using h
  ·symm; simpa using h
 rw [this]
theorem jf {P : Prop} [Decidable P] (h : ¬ P) : D.p (.v (.bool false)) = D.p (bv (decide P)) := jn ⟨fun h => (by cases h),fun hp => (h hp).elim⟩
theorem jt {P : Prop} [Decidable P] (h : P) : D.p (.v (.bool true)) = D.p (bv (decide P)) := jn ⟨fun _ => h,fun _ => rfl⟩
theorem vD {α : Type} {a b : List α} {i : Nat} (hl : a.length = b.length) (h : a.take i = b.take i) (hi : a.length ≤ i) : a = b := by
 rwa [List.take_of_length_le hi,List.take_of_length_le (by omega)] at h
theorem xA (i : Nat) : ((i : Int) - 1).toNat = i - 1 := by omega
theorem yA (i : Nat) : ((i : Int) + 1).toNat = i + 1 := by omega
theorem Z2 : (∀ (l : List (Int × Int)),(dE l).length = l.length * 2) ∧ (∀ (l : List (Int × Int)) (i : Nat) (h : i < l.length),(dE l)[i * 2]? = some (i64 (l.getD i (0,0)).1)) ∧ (∀ (l : List (Int × Int)) (i : Nat) (h : i < l.length),(dE l)[i * 2 + 1]? = some (i64 (l.getD i (0,0)).2)) ∧ (∀ (l : List (Int × Int)) (i : Nat) (h : i < l.length),((dE l).drop (i * 2)).take 2 = [i64 (l.getD i (0,0)).1,i64 (l.getD i (0,0)).2]) := ⟨@dD,@cV,@dV,@kF⟩
end Go.Proofs.Ytldcoekbgfaomaa
end
section
namespace Go.Proofs.Ytldcoekbgfaomaa
open Go.RowKit
set_option maxRecDepth 20000
set_option maxHeartbeats 4000000
attribute [local irreducible] kE sD AW
def cGA (h b : Int) : Int := IntKind.u64.wrap (iR .xor .u64 h (IntKind.u64.wrap b) * 1099511628211)
def jP (l : List Int) : Int := l.foldl cGA 14695981039346656037
def jAA (h : Int) : Int := iR .xor .u64 h (h.fdiv 4294967296)
def pO (l : List Int) : Int := jAA (jP l)
theorem oJ (l : List Int) (i : Nat) (h : i < l.length) : cGA (jP (l.take i)) (l.getD i 0) = jP (l.take (i + 1)) := by
 rw [gE l i h,jP,jP,List.foldl_append]; rfl
def shb (a n : Int) : Int := IntKind.u8.wrap (a.fdiv (2 ^ min (8 * n).toNat IntKind.u64.bits))
def yC (a : Int) : List Int := (List.range 8).map fun (k : Nat) => shb a k
def jG (a b : Int) : Int := pO (yC a ++ yC b)
def pH (l : List (List Int)) : Int := pO (mK l)
theorem qC (a : Int) (k : Nat) (h : k < 8) : (yC a).take (k + 1) = (yC a).take k ++ [shb a k] := zH _ 8 k h
theorem yJA (l : List Int) : ACalls Try.prog 101 [.p (bytes l)] (.p (u64 (pO l))) := by
 refine wC oC Try.func101 (c := _) rfl (by kernel_rfl) ?_
 intro X hP hX hro hpl
 have hb : tb.Ok X.P := hP ▸ oC
 change AW X _ _ ⟨[],[.p (bytes l),.any,.any,.any,.any,.any,.any,.any,.any,.any,.any,.any,.any,.any,.any,.any,.any,.any,.any,.any,.any,.any,.any],[],[]⟩
 refine jI (t := 0) rfl fun hl => ?_
 unfold maxLen at hl
 refine cA ?_
 refine gA hX hb [0] rfl (σ' := ?s1) (fun K hK => ?h1) ?n1
 case h1 =>
  (refine kA rfl (by simp (disch := omega) only [iA,aA,qop,fop,St.ev,St.put,cd,zd,Value.oneCell',lA,TypeDesc.aggB,Z0,nA] <;> exact rfl) ?_)
  refine bA ?_
  exact hK
 refine jA ?_
 refine cA ?_
 refine gA hX hb [0] rfl (σ' := ?s2) (fun K hK => ?h2) ?n2
 case h2 =>
  (refine kA rfl (by simp (disch := omega) only [iA,aA,qop,fop,St.ev,St.put,cd,zd,Value.oneCell',lA,TypeDesc.aggB,Z0,nA] <;> exact rfl) ?_)
  refine bA ?_
  exact hK
 refine jA ?_
 refine cA ?_
 refine cA ?_
 refine gA hX hb [0] rfl (σ' := ?s3) (fun K hK => ?h3) ?n3
 case h3 =>
  (refine kA rfl (by simp (disch := omega) only [iA,aA,qop,fop,St.ev,St.put,cd,zd,Value.oneCell',lA,TypeDesc.aggB,Z0,nA] <;> exact rfl) ?_)
  refine bA ?_
  exact hK
 refine jA ?_
 refine tB ?_
 refine rD (ι := Nat) (fun i => i ≤ l.length) (fun i => ⟨[],[.p (bytes l),.any,.any,.p (u64 (jP (l.take i))),.p (i64 i),.any,.any,.any,.any,.any,.any,.any,.any,.any,.any,.any,.any,.any,.any,.any,.any,.any,.any],[],[]⟩) (fun i => l.length - i) 0 (by exact Nat.zero_le _) (rC ⟨rfl,(by repeat first | exact sA | refine mB ?_ | refine vA (by first | rfl | (rw [← oJ l i (by omega)]; rfl)) ?_),(xB _),(yB _),rfl,rfl⟩) ?_
 rintro i hJ
 refine cA ?_
 refine cA ?_
 refine gA hX hb [0,1,2,3] rfl (σ' := ?s4) (fun K hK => ?h4) ?n4
 case h4 =>
  iterate 4 (refine kA rfl (by simp (disch := omega) only [iA,aA,qop,fop,St.ev,St.put,cd,zd,Value.oneCell',lA,TypeDesc.aggB,Z0,vC,cB,iop,tt,nA] <;> exact rfl) ?_)
  refine bA ?_
  exact hK
 refine jA ?_
 refine oB _ rfl (fun hc0 => ?_) (fun hc0 => ?_)
 ·try simp only [Zp,Zi,ZK,ZJ,ne_eq,Zn,Zm,ZB,ZA,ZI,not_or,not_and,Zu] at hc0
  refine uB ?_
  refine jA ?_
  refine cA ?_
  refine tB ?_
  refine gA hX hb [0,1,2,3,4,5,6,7,8] rfl (σ' := ?s5) (fun K hK => ?h5) ?n5
  case h5 =>
   iterate 9 (refine kA rfl (by simp (disch := omega) only [iA,aA,qop,fop,St.ev,St.put,cd,zd,Value.oneCell',lA,TypeDesc.aggB,Z0,Int.toNat_zero,Int.toNat_one,xA,yA,wA,ZO,Nat.mul_one,ZC,Nat.zero_mul,Zh,Z1,pA,qA,tA,eA,D.pure?,ZD,iK,cB,iop,tt,nA] <;> exact rfl) ?_)
   refine bA ?_
   exact hK
  refine cE ?_
  refine jA ?_
  refine gA hX hb [0,1,2] rfl (σ' := ?s6) (fun K hK => ?h6) ?n6
  case h6 =>
   iterate 3 (refine kA rfl (by simp (disch := omega) only [iA,aA,qop,fop,St.ev,St.put,cd,zd,Value.oneCell',lA,TypeDesc.aggB,Z0,cB,iop,tt,nA] <;> exact rfl) ?_)
   refine bA ?_
   exact hK
  refine jA ?_
  exact ⟨i + 1,by (try dsimp only); omega,by (try dsimp only); omega,rC ⟨rfl,(by repeat first | exact sA | refine mB ?_ | refine vA (by first | rfl | (rw [← oJ l i (by omega)]; rfl)) ?_),(xB _),(yB _),rfl,rfl⟩⟩
 ·try simp only [Zp,Zi,ZK,ZJ,ne_eq,Zn,Zm,ZB,ZA,ZI,not_or,not_and,Zu] at hc0
  refine oD ?_
  refine fD ?_
  refine fD ?_
  refine zE ?_
  refine jA ?_
  refine cA ?_
  refine gA hX hb [0,1,2,3,4] rfl (σ' := ?s7) (fun K hK => ?h7) ?n7
  case h7 =>
   iterate 5 (refine kA rfl (by simp (disch := omega) only [iA,aA,qop,fop,St.ev,St.put,cd,zd,Value.oneCell',lA,TypeDesc.aggB,Z0,cB,iop,tt,nA] <;> exact rfl) ?_)
   refine bA ?_
   exact hK
  refine jA ?_
  refine bC ?_
  exact zC rfl (zB rfl (by first | rfl | ((have : i = l.length := by omega); subst this; rw [List.take_length]; rfl)))
theorem kMA (l : List (List Int)) (hl : l.length ≤ 4294967296) : ACalls Try.prog 102 [.p (yN l)] (.p (bytes (mK l))) := by
 refine wC oC Try.func102 (c := _) rfl (by kernel_rfl) ?_
 intro X hP hX hro hpl
 have hb : tb.Ok X.P := hP ▸ oC
 change AW X _ _ ⟨[],[.p (yN l),.any,.any,.any,.any,.any,.any,.any,.any,.any,.any,.any,.any,.any,.any,.any,.any,.any,.any,.any,.any,.any,.any,.any,.any,.any],[],[]⟩
 refine cA ?_
 refine gA hX hb [0] rfl (σ' := ?s1) (fun K hK => ?h1) ?n1
 case h1 =>
  (refine kA rfl (by simp (disch := omega) only [iA,aA,qop,fop,St.ev,St.put,cd,zd,Value.oneCell',lA,TypeDesc.aggB,Z0,hG,tD] <;> exact rfl) ?_)
  refine bA ?_
  exact hK
 refine jA ?_
 refine cA ?_
 refine gA hX hb [0] rfl (σ' := ?s2) (fun K hK => ?h2) ?n2
 case h2 =>
  (refine kA rfl (by simp (disch := omega) only [iA,aA,qop,fop,St.ev,St.put,cd,zd,Value.oneCell',lA,TypeDesc.aggB,Z0,hG,tD] <;> exact rfl) ?_)
  refine bA ?_
  exact hK
 refine jA ?_
 refine nJ 3 5 1 rfl (σ' := ?s3) ?h3 ?n3
 case h3 => simp only [St.nilSlot,St.addVec,Za,Zb,Zl,Zo,ZL,ZM]; exact rfl
 refine cA ?_
 refine cA ?_
 refine gA hX hb [0] rfl (σ' := ?s4) (fun K hK => ?h4) ?n4
 case h4 =>
  (refine kA rfl (by simp (disch := omega) only [iA,aA,qop,fop,St.ev,St.put,cd,zd,Value.oneCell',lA,TypeDesc.aggB,Z0,hG,tD] <;> exact rfl) ?_)
  refine bA ?_
  exact hK
 refine jA ?_
 refine tB ?_
 refine rD (ι := Nat × List Int) (fun p => p.1 ≤ l.length ∧ p.2 = mK (l.take p.1)) (fun p => ⟨[],[.p (yN l),.any,.any,.vref 0,.p (i64 p.1),.any,.any,.any,.any,.any,.any,.any,.any,.any,.any,.any,.any,.any,.any,.any,.any,.any,.any,.any,.any,.any],[],[some ⟨5,1,p.2.length,p.2.map u8⟩]⟩) (fun p => l.length - p.1) (0,[]) (by exact ⟨Nat.zero_le _,rfl⟩) (rC ⟨rfl,(by repeat first | exact sA | refine mB ?_ | refine vA (by first | rfl | (simp [shb])) ?_),(xB _),(jE (by first | rfl | (simp [shb])) (yB _)),rfl,rfl⟩) ?_
 rintro ⟨i,bs⟩ ⟨hi,hbs⟩
 dsimp only at hi hbs ⊢
 refine cA ?_
 refine cA ?_
 refine gA hX hb [0,1,2,3] rfl (σ' := ?s5) (fun K hK => ?h5) ?n5
 case h5 =>
  iterate 4 (refine kA rfl (by simp (disch := omega) only [iA,aA,qop,fop,St.ev,St.put,cd,zd,Value.oneCell',lA,TypeDesc.aggB,Z0,vC,cB,iop,tt,hG,tD] <;> exact rfl) ?_)
  refine bA ?_
  exact hK
 refine jA ?_
 refine oB _ rfl (fun hc0 => ?_) (fun hc0 => ?_)
 ·try simp only [Zp,Zi,ZK,ZJ,ne_eq,Zn,Zm,ZB,ZA,ZI,not_or,not_and,Zu] at hc0
  refine uB ?_
  refine jA ?_
  refine cA ?_
  refine tB ?_
  refine cA ?_
  refine gA hX hb [0] rfl (σ' := ?s6) (fun K hK => ?h6) ?n6
  case h6 =>
   (refine kA rfl (by simp (disch := omega) only [iA,aA,qop,fop,St.ev,St.put,cd,zd,Value.oneCell',lA,TypeDesc.aggB,Z0,hG,tD] <;> exact rfl) ?_)
   refine bA ?_
   exact hK
  refine jA ?_
  refine tB ?_
  refine rD (ι := Nat × List Int) (fun p => p.1 ≤ 8 ∧ p.2 = mK (l.take i) ++ (zJ (l.getD i [])).take p.1) (fun p => ⟨[],[.p (yN l),.any,.any,.vref 0,.p (i64 i),.p (i64 p.1),.any,.any,.any,.any,.any,.any,.any,.any,.any,.any,.any,.any,.any,.any,.any,.any,.any,.any,.any,.any],[],[some ⟨5,1,p.2.length,p.2.map u8⟩]⟩) (fun p => 8 - p.1) (0,bs) (by exact ⟨by omega,by simp [hbs]⟩) (rC ⟨rfl,(by repeat first | exact sA | refine mB ?_ | refine vA (by first | rfl | (simp [shb])) ?_),(xB _),(jE (by first | rfl | (simp [shb])) (yB _)),rfl,rfl⟩) ?_
  rintro ⟨k,cs⟩ ⟨hk,hcs⟩
  dsimp only at hk hcs ⊢
  have hcl : cs.length = 8 * i + k := by rw [hcs,List.length_append,List.length_take,fK,gN,List.length_take]; omega
  refine cA ?_
  refine cA ?_
  refine gA hX hb [0,1] rfl (σ' := ?s7) (fun K hK => ?h7) ?n7
  case h7 =>
   iterate 2 (refine kA rfl (by simp (disch := omega) only [iA,aA,qop,fop,St.ev,St.put,cd,zd,Value.oneCell',lA,TypeDesc.aggB,Z0,cB,iop,tt,hG,tD] <;> exact rfl) ?_)
   refine bA ?_
   exact hK
  refine jA ?_
  refine oB _ rfl (fun hc1 => ?_) (fun hc1 => ?_)
  ·try simp only [Zp,Zi,ZK,ZJ,ne_eq,Zn,Zm,ZB,ZA,ZI,not_or,not_and,Zu] at hc1
   refine uB ?_
   refine jA ?_
   refine cA ?_
   refine tB ?_
   refine gA hX hb [0,1,2,3,4,5,6,7,8,9] rfl (σ' := ?s8) (fun K hK => ?h8) ?n8
   case h8 =>
    iterate 10 (refine kA rfl (by simp (disch := omega) only [iA,aA,qop,fop,St.ev,St.put,cd,zd,Value.oneCell',lA,TypeDesc.aggB,Z0,Int.toNat_zero,Int.toNat_one,xA,yA,wA,ZO,Nat.mul_one,ZC,Nat.zero_mul,Zh,Z1,pA,qA,tA,eA,D.pure?,ZD,zD,aD,bD,bE,bB,rB,D.cells?,fB,gB,iB,jB,kB,ZG,ZH,ZL,ZM,ZN,aB,Nat.reduceAdd,Nat.reduceMul,nD,cG,St.demote,D.demote,St.setVec,List.length_append,reduceIte,tt,hG,tD] <;> exact rfl) ?_)
    refine bA ?_
    exact hK
   refine cE ?_
   refine jA ?_
   refine gA hX hb [0,1,2] rfl (σ' := ?s9) (fun K hK => ?h9) ?n9
   case h9 =>
    iterate 3 (refine kA rfl (by simp (disch := omega) only [iA,aA,qop,fop,St.ev,St.put,cd,zd,Value.oneCell',lA,TypeDesc.aggB,Z0,cB,iop,tt,hG,tD] <;> exact rfl) ?_)
    refine bA ?_
    exact hK
   refine jA ?_
   exact ⟨(k + 1,cs ++ [(l.getD i []).getD k 0]),by exact ⟨by dsimp only; omega,by dsimp only; rw [jT _ k (by omega),hcs,List.append_assoc]⟩,by (try dsimp only); omega,rC ⟨rfl,(by repeat first | exact sA | refine mB ?_ | refine vA (by first | rfl | (simp [shb])) ?_),(xB _),(jE (by first | rfl | (simp [shb])) (yB _)),rfl,rfl⟩⟩
  ·try simp only [Zp,Zi,ZK,ZJ,ne_eq,Zn,Zm,ZB,ZA,ZI,not_or,not_and,Zu] at hc1
   refine oD ?_
   refine fD ?_
   refine fD ?_
   refine zE ?_
   refine cE ?_
   refine jA ?_
   refine gA hX hb [0,1,2] rfl (σ' := ?s10) (fun K hK => ?h10) ?n10
   case h10 =>
    iterate 3 (refine kA rfl (by simp (disch := omega) only [iA,aA,qop,fop,St.ev,St.put,cd,zd,Value.oneCell',lA,TypeDesc.aggB,Z0,cB,iop,tt,hG,tD] <;> exact rfl) ?_)
    refine bA ?_
    exact hK
   refine jA ?_
   exact ⟨(i + 1,cs),by exact ⟨by dsimp only; omega,by dsimp only; rw [eV l i (by omega),hcs]; congr 1; rw [show k = (zJ (l.getD i [])).length by rw [fK]; omega,List.take_length]⟩,by (try dsimp only); omega,rC ⟨rfl,(by repeat first | exact sA | refine mB ?_ | refine vA (by first | rfl | (simp [shb])) ?_),(xB _),(jE (by first | rfl | (simp [shb])) (yB _)),rfl,rfl⟩⟩
 ·try simp only [Zp,Zi,ZK,ZJ,ne_eq,Zn,Zm,ZB,ZA,ZI,not_or,not_and,Zu] at hc0
  refine oD ?_
  refine fD ?_
  refine fD ?_
  refine zE ?_
  refine jA ?_
  refine cA ?_
  refine gA hX hb [0,1] rfl (σ' := ?s11) (fun K hK => ?h11) ?n11
  case h11 =>
   iterate 2 (refine kA rfl (by simp (disch := omega) only [iA,aA,qop,fop,St.ev,St.put,cd,zd,Value.oneCell',lA,TypeDesc.aggB,Z0,t3,ti3,hG,tD] <;> exact rfl) ?_)
   refine bA ?_
   exact hK
  refine jA ?_
  refine nH 0 rfl (σ' := ?s12) ?h12 ?n12
  case h12 => simp only [St.freeze,D.freeze,ZG,ZH,Za,Zb,Zr,reduceIte,Nat.reduceEqDiff]; exact rfl
  refine bC ?_
  exact zC rfl (zB rfl (by first | rfl | ((have : i = l.length := by omega); subst this; rw [hbs,List.take_length]; rfl)))
theorem c62 (l : List (List Int)) (hl : l.length ≤ 4294967296) : ACalls Try.prog 62 [.p (yN l)] (.p (u64 (pH l))) := by
 refine wC oC Try.func62 (c := _) rfl (by kernel_rfl) ?_
 intro X hP hX hro hpl
 have hb : tb.Ok X.P := hP ▸ oC
 change AW X _ _ ⟨[],[.p (yN l),.any,.any,.any,.any,.any],[],[]⟩
 refine cA ?_
 refine gA hX hb [0] rfl (σ' := ?s1) (fun K hK => ?h1) ?n1
 case h1 =>
  (refine kA rfl (by simp (disch := omega) only [iA,aA,qop,fop,St.ev,St.put,cd,zd,Value.oneCell',lA,TypeDesc.aggB,Z0] <;> exact rfl) ?_)
  refine bA ?_
  exact hK
 refine jA ?_
 refine cA ?_
 refine gA hX hb [0,1,2,3] rfl (σ' := ?s2) (fun K hK => ?h2) ?n2
 case h2 =>
  (refine kA rfl (by simp (disch := omega) only [iA,aA,qop,fop,St.ev,St.put,cd,zd,Value.oneCell',lA,TypeDesc.aggB,Z0,uA,D.pv?,tt] <;> exact rfl) ?_)
  refine mD rfl (by simp only [aA,St.ev,pB,qB,uA,D.pv?,ZG,ZH,zd,cd,Value.oneCell',Zr] <;> exact rfl) (acK hP (kMA l hl)) (by simp only [St.put,Za,Zb] <;> exact rfl) ?_
  refine mD rfl (by simp only [aA,St.ev,pB,qB,uA,D.pv?,ZG,ZH,zd,cd,Value.oneCell',Zr] <;> exact rfl) (acK hP (yJA _)) (by simp only [St.put,Za,Zb] <;> exact rfl) ?_
  (refine kA rfl (by simp (disch := omega) only [iA,aA,qop,fop,St.ev,St.put,cd,zd,Value.oneCell',lA,TypeDesc.aggB,Z0,uA,D.pv?,tt] <;> exact rfl) ?_)
  refine bA ?_
  exact hK
 refine jA ?_
 refine bC ?_
 exact zC rfl (zB rfl rfl)
theorem c63 (a b : Int) : ACalls Try.prog 63 [.p (u64 a),.p (u64 b)] (.p (u64 (jG a b))) := by
 refine wC oC Try.func63 (c := _) rfl (by kernel_rfl) ?_
 intro X hP hX hro hpl
 have hb : tb.Ok X.P := hP ▸ oC
 change AW X _ _ ⟨[],[.p (u64 a),.p (u64 b),.any,.any,.any,.any,.any,.any,.any,.any,.any,.any,.any,.any,.any,.any,.any,.any,.any,.any,.any,.any,.any,.any,.any,.any,.any,.any,.any,.any,.any,.any,.any,.any],[],[]⟩
 refine cA ?_
 refine gA hX hb [0] rfl (σ' := ?s1) (fun K hK => ?h1) ?n1
 case h1 =>
  (refine kA rfl (by simp (disch := omega) only [iA,aA,qop,fop,St.ev,St.put,cd,zd,Value.oneCell',lA,TypeDesc.aggB,Z0] <;> exact rfl) ?_)
  refine bA ?_
  exact hK
 refine jA ?_
 refine cA ?_
 refine gA hX hb [0] rfl (σ' := ?s2) (fun K hK => ?h2) ?n2
 case h2 =>
  (refine kA rfl (by simp (disch := omega) only [iA,aA,qop,fop,St.ev,St.put,cd,zd,Value.oneCell',lA,TypeDesc.aggB,Z0] <;> exact rfl) ?_)
  refine bA ?_
  exact hK
 refine jA ?_
 refine nJ 5 5 1 rfl (σ' := ?s3) ?h3 ?n3
 case h3 => simp only [St.nilSlot,St.addVec,Za,Zb,Zl,Zo,ZL,ZM]; exact rfl
 refine cA ?_
 refine cA ?_
 refine gA hX hb [0] rfl (σ' := ?s4) (fun K hK => ?h4) ?n4
 case h4 =>
  (refine kA rfl (by simp (disch := omega) only [iA,aA,qop,fop,St.ev,St.put,cd,zd,Value.oneCell',lA,TypeDesc.aggB,Z0] <;> exact rfl) ?_)
  refine bA ?_
  exact hK
 refine jA ?_
 refine tB ?_
 refine rD (ι := Nat × List Int) (fun p => p.1 ≤ 8 ∧ p.2 = (yC a).take p.1) (fun p => ⟨[],[.p (u64 a),.p (u64 b),.any,.any,.any,.vref 0,.p (i64 p.1),.any,.any,.any,.any,.any,.any,.any,.any,.any,.any,.any,.any,.any,.any,.any,.any,.any,.any,.any,.any,.any,.any,.any,.any,.any,.any,.any],[],[some ⟨5,1,p.2.length,p.2.map u8⟩]⟩) (fun p => 8 - p.1) (0,[]) (by exact ⟨Nat.zero_le _,rfl⟩) (rC ⟨rfl,(by repeat first | exact sA | refine mB ?_ | refine vA (by first | rfl | (simp [shb])) ?_),(xB _),(jE (by first | rfl | (simp [shb])) (yB _)),rfl,rfl⟩) ?_
 rintro ⟨k,cs⟩ ⟨hk,hcs⟩
 dsimp only at hk hcs ⊢
 have hcl : cs.length = k := by rw [hcs]; simp [yC]; omega
 refine cA ?_
 refine cA ?_
 refine gA hX hb [0,1] rfl (σ' := ?s5) (fun K hK => ?h5) ?n5
 case h5 =>
  iterate 2 (refine kA rfl (by simp (disch := omega) only [iA,aA,qop,fop,St.ev,St.put,cd,zd,Value.oneCell',lA,TypeDesc.aggB,Z0,cB,iop,t3,ti3] <;> exact rfl) ?_)
  refine bA ?_
  exact hK
 refine jA ?_
 refine oB _ rfl (fun hc0 => ?_) (fun hc0 => ?_)
 ·try simp only [Zp,Zi,ZK,ZJ,ne_eq,Zn,Zm,ZB,ZA,ZI,not_or,not_and,Zu] at hc0
  refine uB ?_
  refine jA ?_
  refine cA ?_
  refine tB ?_
  refine gA hX hb [0,1,2,3,4,5,6,7,8] rfl (σ' := ?s6) (fun K hK => ?h6) ?n6
  case h6 =>
   iterate 9 (refine kA rfl (by simp (disch := omega) only [iA,aA,qop,fop,St.ev,St.put,cd,zd,Value.oneCell',lA,TypeDesc.aggB,Z0,cB,iop,iK,zD,aD,bD,bE,bB,rB,D.cells?,D.pure?,fB,gB,iB,jB,kB,ZG,ZH,ZL,ZM,ZN,Zl,Zo,aB,Nat.reduceAdd,Nat.reduceMul,nD,cG,St.demote,D.demote,St.setVec,Zh,List.length_append,ZC,Nat.mul_one,reduceIte,tt] <;> exact rfl) ?_)
   refine bA ?_
   exact hK
  refine cE ?_
  refine jA ?_
  refine gA hX hb [0,1,2] rfl (σ' := ?s7) (fun K hK => ?h7) ?n7
  case h7 =>
   iterate 3 (refine kA rfl (by simp (disch := omega) only [iA,aA,qop,fop,St.ev,St.put,cd,zd,Value.oneCell',lA,TypeDesc.aggB,Z0,cB,iop,tt] <;> exact rfl) ?_)
   refine bA ?_
   exact hK
  refine jA ?_
  exact ⟨(k + 1,cs ++ [shb a k]),by exact ⟨by dsimp only; omega,by dsimp only; rw [qC _ k (by omega),hcs]⟩,by (try dsimp only); omega,rC ⟨rfl,(by repeat first | exact sA | refine mB ?_ | refine vA (by first | rfl | (simp [shb])) ?_),(xB _),(jE (by first | rfl | (simp [shb])) (yB _)),rfl,rfl⟩⟩
 ·try simp only [Zp,Zi,ZK,ZJ,ne_eq,Zn,Zm,ZB,ZA,ZI,not_or,not_and,Zu] at hc0
  refine oD ?_
  refine fD ?_
  refine fD ?_
  refine zE ?_
  refine jA ?_
  refine cA ?_
  refine cA ?_
  refine gA hX hb [0] rfl (σ' := ?s8) (fun K hK => ?h8) ?n8
  case h8 =>
   (refine kA rfl (by simp (disch := omega) only [iA,aA,qop,fop,St.ev,St.put,cd,zd,Value.oneCell',lA,TypeDesc.aggB,Z0] <;> exact rfl) ?_)
   refine bA ?_
   exact hK
  refine jA ?_
  refine tB ?_
  refine rD (ι := Nat × List Int) (fun p => p.1 ≤ 8 ∧ p.2 = yC a ++ (yC b).take p.1) (fun p => ⟨[],[.p (u64 a),.p (u64 b),.any,.any,.any,.vref 0,.any,.p (i64 p.1),.any,.any,.any,.any,.any,.any,.any,.any,.any,.any,.any,.any,.any,.any,.any,.any,.any,.any,.any,.any,.any,.any,.any,.any,.any,.any],[],[some ⟨5,1,p.2.length,p.2.map u8⟩]⟩) (fun p => 8 - p.1) (0,cs) (by exact ⟨Nat.zero_le _,by (have : k = 8 := by omega); subst this; rw [hcs,List.take_of_length_le (by simp [yC])]; simp⟩) (rC ⟨rfl,(by repeat first | exact sA | refine mB ?_ | refine vA (by first | rfl | (simp [shb])) ?_),(xB _),(jE (by first | rfl | (simp [shb])) (yB _)),rfl,rfl⟩) ?_
  rintro ⟨m,ds⟩ ⟨hm,hds⟩
  dsimp only at hm hds ⊢
  have hdl : ds.length = 8 + m := by rw [hds]; simp [yC]; omega
  refine cA ?_
  refine cA ?_
  refine gA hX hb [0,1] rfl (σ' := ?s9) (fun K hK => ?h9) ?n9
  case h9 =>
   iterate 2 (refine kA rfl (by simp (disch := omega) only [iA,aA,qop,fop,St.ev,St.put,cd,zd,Value.oneCell',lA,TypeDesc.aggB,Z0,cB,iop,t3,ti3] <;> exact rfl) ?_)
   refine bA ?_
   exact hK
  refine jA ?_
  refine oB _ rfl (fun hc1 => ?_) (fun hc1 => ?_)
  ·try simp only [Zp,Zi,ZK,ZJ,ne_eq,Zn,Zm,ZB,ZA,ZI,not_or,not_and,Zu] at hc1
   refine uB ?_
   refine jA ?_
   refine cA ?_
   refine tB ?_
   refine gA hX hb [0,1,2,3,4,5,6,7,8] rfl (σ' := ?s10) (fun K hK => ?h10) ?n10
   case h10 =>
    iterate 9 (refine kA rfl (by simp (disch := omega) only [iA,aA,qop,fop,St.ev,St.put,cd,zd,Value.oneCell',lA,TypeDesc.aggB,Z0,cB,iop,iK,zD,aD,bD,bE,bB,rB,D.cells?,D.pure?,fB,gB,iB,jB,kB,ZG,ZH,ZL,ZM,ZN,Zl,Zo,aB,Nat.reduceAdd,Nat.reduceMul,nD,cG,St.demote,D.demote,St.setVec,Zh,List.length_append,ZC,Nat.mul_one,reduceIte,tt] <;> exact rfl) ?_)
    refine bA ?_
    exact hK
   refine cE ?_
   refine jA ?_
   refine gA hX hb [0,1,2] rfl (σ' := ?s11) (fun K hK => ?h11) ?n11
   case h11 =>
    iterate 3 (refine kA rfl (by simp (disch := omega) only [iA,aA,qop,fop,St.ev,St.put,cd,zd,Value.oneCell',lA,TypeDesc.aggB,Z0,cB,iop,tt] <;> exact rfl) ?_)
    refine bA ?_
    exact hK
   refine jA ?_
   exact ⟨(m + 1,ds ++ [shb b m]),by exact ⟨by dsimp only; omega,by dsimp only; rw [qC _ m (by omega),hds,List.append_assoc]⟩,by (try dsimp only); omega,rC ⟨rfl,(by repeat first | exact sA | refine mB ?_ | refine vA (by first | rfl | (simp [shb])) ?_),(xB _),(jE (by first | rfl | (simp [shb])) (yB _)),rfl,rfl⟩⟩
  ·try simp only [Zp,Zi,ZK,ZJ,ne_eq,Zn,Zm,ZB,ZA,ZI,not_or,not_and,Zu] at hc1
   refine oD ?_
   refine fD ?_
   refine fD ?_
   refine zE ?_
   refine jA ?_
   refine cA ?_
   refine nH 0 rfl (σ' := ?s13) ?h13 ?n13
   case h13 => simp only [St.freeze,D.freeze,ZG,ZH,Za,Zb,Zr,reduceIte,Nat.reduceEqDiff]; exact rfl
   refine gA hX hb [0,1,2] rfl (σ' := ?s12) (fun K hK => ?h12) ?n12
   case h12 =>
    (refine kA rfl (by simp (disch := omega) only [iA,aA,qop,fop,St.ev,St.put,cd,zd,Value.oneCell',lA,TypeDesc.aggB,Z0,uA,D.pv?,tt] <;> exact rfl) ?_)
    refine mD rfl (by simp only [aA,St.ev,pB,qB,uA,D.pv?,ZG,ZH,zd,cd,Value.oneCell',Zr] <;> exact rfl) (acK hP (yJA _)) (by simp only [St.put,Za,Zb] <;> exact rfl) ?_
    (refine kA rfl (by simp (disch := omega) only [iA,aA,qop,fop,St.ev,St.put,cd,zd,Value.oneCell',lA,TypeDesc.aggB,Z0,uA,D.pv?,tt] <;> exact rfl) ?_)
    refine bA ?_
    exact hK
   refine jA ?_
   refine bC ?_
   exact zC rfl (zB rfl (by first | rfl | ((have : m = 8 := by omega); subst this; rw [hds,List.take_of_length_le (by simp [yC])]; rfl)))
end Go.Proofs.Ytldcoekbgfaomaa
end
section
namespace Go.Proofs.Ytldcoekbgfaomaa
def upL : List Int → List Int
 | [] => []
 | [a] => [a]
 | a :: b :: r => jG a b :: upL r
theorem pF : ∀ (l : List Int),(upL l).length = (l.length + 1) / 2
 | [] => rfl
 | [a] => by simp [upL]
 | a :: b :: r => by
  simp only [upL,Zl,pF r]
  omega
theorem qO : ∀ (xs ys : List Int),xs.length % 2 = 0 → upL (xs ++ ys) = upL xs ++ upL ys
 | [],ys,_ => rfl
 | [a],ys,h => by simp at h
 | a :: b :: r,ys,h => by
  simp only [ZL,upL]
  rw [qO r ys (by simp only [Zl] at h; omega)]
theorem pG (l : List Int) (i : Nat) (h2 : i % 2 = 0) (h : i + 1 < l.length) : upL (l.take (i + 2)) = upL (l.take i) ++ [jG (l.getD i 0) (l.getD (i + 1) 0)] := by
 rw [show i + 2 = i + 1 + 1 by omega,gE l (i + 1) h,gE l i (by omega),List.append_assoc,qO _ _ (by rw [List.length_take]; omega)]
 rfl
theorem qG (l : List Int) (i : Nat) (h2 : i % 2 = 0) (h : i < l.length) (h3 : ¬ i + 1 < l.length) : upL (l.take (i + 2)) = upL (l.take i) ++ [l.getD i 0] := by
 rw [show l.take (i + 2) = l.take (i + 1) by rw [List.take_of_length_le (by omega),List.take_of_length_le (by omega)],gE l i h,qO _ _ (by rw [List.length_take]; omega)]
 rfl
def sE (l : List Int) : List (List Int) := if h : l.length ≤ 1 then [l] else l :: sE (upL l)
 termination_by l.length
 decreasing_by rw [pF]; omega
theorem xF {l : List Int} (h : l.length ≤ 1) : sE l = [l] := by rw [sE,dif_pos h]
theorem lF {l : List Int} (h : ¬ l.length ≤ 1) : sE l = l :: sE (upL l) := by rw [sE,dif_neg h]
theorem rL (l : List Int) : ∃ r,sE l = l :: r := by
 by_cases h : l.length ≤ 1
 ·exact ⟨[],xF h⟩
 ·exact ⟨_,lF h⟩
theorem pI : ∀ (n : Nat) (l : List Int),l.length ≤ n → (sE l).length ≤ n + 1
 | n,l,hn => by
  by_cases h : l.length ≤ 1
  ·rw [xF h]; simp
  ·rw [lF h]
   have hu := pF l
   cases n with
   | zero => omega
   | succ n =>
    have := pI n (upL l) (by omega)
    simp only [Zl]
    omega
theorem eS {l : List Int} (h : ¬ l.length ≤ 1) : (sE l).drop 1 = upL l :: (sE (upL l)).drop 1 := by
 rw [lF h]
 obtain ⟨r,hr⟩ := rL (upL l)
 simp [hr]
structure Tr where
 size : Int
 leaf : Int
 lv : List (List Int)
@[reducible] def trP (t : Tr) : PV := .agg [i64 t.size,i64 t.leaf,iE t.lv]
def Tr.zero : Tr := ⟨0,0,[]⟩
def wD (s n : Nat) : Nat := (s + n - 1) / n
def aI (l : List (List Int)) (n i : Nat) : List (List Int) := (l.drop (i * n)).take n
def bU (l : List (List Int)) (n : Nat) : List Int := (List.range (wD l.length n)).map fun i => pH (aI l n i)
def fS (s n : Int) (l : List Int) : Tr := ⟨s,n,sE l⟩
def kG (l : List (List Int)) (leaf : Int) : Tr × Int :=
 if l.length < 1 ∨ 4096 < l.length then (.zero,2)
 else if leaf < 1 ∨ 4096 < leaf then (.zero,1)
 else (fS l.length leaf (bU l leaf.toNat),0)
/-- A leaf lies within the sectors. -/
theorem vN {s n i : Nat} (hn : 1 ≤ n) (h : i < wD s n) : i * n < s := by
 unfold wD at h
 have h1 := (Nat.le_div_iff_mul_le (by omega : 0 < n)).1 (show i + 1 ≤ (s + n - 1) / n from h)
 have h2 : (i + 1) * n = i * n + n := Nat.succ_mul i n
 omega
theorem nZ {s n i : Nat} (hn : 1 ≤ n) (h : i * n < s) : i < wD s n := by
 unfold wD
 have h2 : (i + 1) * n = i * n + n := Nat.succ_mul i n
 exact (Nat.le_div_iff_mul_le (by omega : 0 < n)).2 (by show (i + 1) * n ≤ s + n - 1; omega)
theorem iN {s n : Nat} (hn : 1 ≤ n) (hs : 1 ≤ s) : 1 ≤ wD s n := nZ hn (by simp; omega)
theorem pJ {s n : Nat} (hn : 1 ≤ n) : wD s n ≤ s := by
 unfold wD
 rcases Nat.eq_zero_or_pos s with rfl | h
 ·simp; omega
 ·refine Nat.le_of_lt_succ ((Nat.div_lt_iff_lt_mul (by omega)).2 ?_)
  have : (s + 1) * n = s * n + n := Nat.succ_mul s n
  have h3 : s ≤ s * n := Nat.le_mul_of_pos_right _ (by omega)
  show s + n - 1 < (s + 1) * n
  omega
theorem nK (l : List (List Int)) (n : Nat) : (bU l n).length = wD l.length n := by simp [bU]
theorem fV (s n : Nat) : ((s + n - 1 : Nat) : Int) / (n : Int) = (wD s n : Int) := by
 unfold wD
 exact (Int.natCast_ediv _ _).symm
theorem pY (l : List (List Int)) (a k : Nat) (h : a + k ≤ l.length) : P1.sl k (((zI l).drop (a * 8)).take (k * 8)) = yN ((l.drop a).take k) := by
 rw [gT,iT]
 show _ = P1.sl ((l.drop a).take k).length _
 rw [List.length_take,List.length_drop,Nat.min_eq_left (by omega)]
theorem aF (m n : Int) : (if n < m then n else m) = min m n := by
 rw [Int.min_def]
 split <;> split <;> omega
theorem xEA (m n : Int) : (if n > m then n else m) = max m n := by
 rw [Int.max_def]
 split <;> split <;> omega
theorem kD {x y : Int} (h : 0 ≤ x ∧ x ≤ 9223372036854775807 ∧ 1 ≤ y) : IntKind.i64.wrap (x.tdiv y) = x / y := IntWalk.i64_quo x y h
theorem tW (L a n : Nat) : (min (L : Int) ((a : Int) + n)).toNat - a = min n (L - a) := by omega
theorem uD (i n : Nat) : (i : Int) * (n : Int) = ((i * n : Nat) : Int) := (Int.natCast_mul ..).symm
theorem qE {α : Type} (l : List α) (d : α) (i : Nat) (h : i < l.length) : l.getD i d ∈ l := by
 rw [List.getD_eq_getElem?_getD,List.getElem?_eq_getElem h]
 exact List.getElem_mem h
/-- Have the levels the lengths that they should have? -/
def sh (p : Bool) (n : Nat) : List (List Int) → Bool
 | [] => p
 | r :: rs => decide (r.length = n) && !p && sh (decide (r.length = 1)) ((n + 1) / 2) rs
def shT (s f : Nat) (lv : List (List Int)) : Bool := sh false (wD s f) lv
def sC (t : Tr) : Int :=
 if t.size < 1 ∨ 4096 < t.size then 2 else if t.leaf < 1 ∨ 4096 < t.leaf then 1
 else if shT t.size.toNat t.leaf.toNat t.lv = false then 3
 else if sE (t.lv.getD 0 []) = t.lv then 0 else 22
def aJ (lv : List (List Int)) (i : Nat) : Bool := decide (0 < i ∧ (lv.getD (i - 1) []).length = 1)
theorem aK (l : List (List Int)) (i : Nat) (h : i < l.length) : l.drop i = l.getD i [] :: l.drop (i + 1) := by
 rw [List.drop_eq_getElem_cons h,List.getD_eq_getElem?_getD,List.getElem?_eq_getElem h]; rfl
theorem yEA {lv : List (List Int)} {i n : Nat} (h : i < lv.length) (h1 : (lv.getD i []).length = n) (h2 : ¬ (0 < i ∧ (lv.getD (i - 1) []).length = 1)) :
  sh (aJ lv i) n (lv.drop i) = sh (aJ lv (i + 1)) ((n + 1) / 2) (lv.drop (i + 1)) := by
 rw [aK lv i h]
 have e1 : aJ lv i = false := by simp only [aJ,decide_eq_false h2]
 have e2 : aJ lv (i + 1) = decide ((lv.getD i []).length = 1) := by
  simp only [aJ,Nat.add_sub_cancel,Nat.zero_lt_succ,Zt]
 simp only [sh,h1,e1,e2,decide_true,Bool.not_false,Bool.and_true,Bool.true_and]
theorem fQ {lv : List (List Int)} {i n : Nat} (h : i < lv.length) (h1 : (lv.getD i []).length ≠ n ∨ (0 < i ∧ (lv.getD (i - 1) []).length = 1)) : sh (aJ lv i) n (lv.drop i) = false := by
 rw [aK lv i h]
 rcases h1 with h1 | h1
 ·simp only [sh,decide_eq_false h1,Bool.false_and]
 ·simp only [sh,aJ,decide_eq_true h1,Bool.not_true,Bool.and_false,Bool.false_and]
theorem rO (lv : List (List Int)) (n : Nat) : sh (aJ lv lv.length) n (lv.drop lv.length) = decide (¬ (lv.length = 0 ∨ (lv.getD (lv.length - 1) []).length ≠ 1)) := by
 rw [List.drop_length]
 show aJ lv lv.length = _
 unfold aJ
 congr 1
 apply propext
 constructor
 ·rintro ⟨h1,h2⟩ h
  rcases h with h | h
  ·omega
  ·exact h h2
 ·intro h
  exact ⟨by omega,Decidable.byContradiction fun h2 => h (.inr h2)⟩
theorem kP {n : Nat} {lv : List (List Int)} (h : sh false n lv = true) : lv.length ≠ 0 ∧ (lv.getD 0 []).length = n := by
 cases lv with
 | nil => cases h
 | cons r rs =>
  simp only [sh,Bool.and_eq_true,Zp] at h
  exact ⟨by simp,h.1.1⟩
theorem bM {t : Tr} (h : t.size < 1 ∨ 4096 < t.size) : sC t = 2 := if_pos h
theorem cM {t : Tr} (h0 : ¬ (t.size < 1 ∨ 4096 < t.size)) (h : t.leaf < 1 ∨ 4096 < t.leaf) : sC t = 1 := by rw [sC,if_neg h0,if_pos h]
theorem fF {t : Tr} (h0 : ¬ (t.size < 1 ∨ 4096 < t.size)) (h1 : ¬ (t.leaf < 1 ∨ 4096 < t.leaf)) (h : shT t.size.toNat t.leaf.toNat t.lv = false) : sC t = 3 := by
 rw [sC,if_neg h0,if_neg h1,if_pos h]
theorem xG {t : Tr} (h0 : ¬ (t.size < 1 ∨ 4096 < t.size)) (h1 : ¬ (t.leaf < 1 ∨ 4096 < t.leaf)) (h2 : shT t.size.toNat t.leaf.toNat t.lv = true) (h : sE (t.lv.getD 0 []) ≠ t.lv) : sC t = 22 := by
 rw [sC,if_neg h0,if_neg h1,if_neg (by rw [h2]; decide),if_neg h]
theorem iH {t : Tr} (h0 : ¬ (t.size < 1 ∨ 4096 < t.size)) (h1 : ¬ (t.leaf < 1 ∨ 4096 < t.leaf)) (h2 : shT t.size.toNat t.leaf.toNat t.lv = true) (h : sE (t.lv.getD 0 []) = t.lv) : sC t = 0 := by
 rw [sC,if_neg h0,if_neg h1,if_neg (by rw [h2]; decide),if_pos h]
theorem sF {t : Tr} (h : sC t = 0) : ∃ S F : Nat,t.size = S ∧ t.leaf = F ∧ 1 ≤ S ∧ S ≤ 4096 ∧ 1 ≤ F ∧ F ≤ 4096 ∧ shT S F t.lv = true ∧ sE (t.lv.getD 0 []) = t.lv := by
 unfold sC at h
 split at h
 ·cases h
 ·rename_i h0
  split at h
  ·cases h
  ·rename_i h1
   split at h
   ·cases h
   ·rename_i h2
    split at h
    ·rename_i h3
     exact ⟨t.size.toNat,t.leaf.toNat,by omega,by omega,by omega,by omega,by omega,by omega,by simpa using h2,h3⟩
    ·cases h
theorem oZ : ∀ {lv : List (List Int)} {p : Bool} {n : Nat},sh p n lv = true → lv ≠ [] → (lv.getD (lv.length - 1) []).length = 1
 | [],_,_,_,h => (h rfl).elim
 | [r],p,n,h,_ => by
  simp only [sh,Bool.and_eq_true,Zp] at h
  exact h.2
 | r :: r' :: rs,p,n,h,_ => by
  rw [sh,Bool.and_eq_true] at h
  have := oZ h.2 (by simp)
  simpa using this
theorem gC (i n : Nat) : ((i : Int) + 1) * (n : Int) = ((i * n + n : Nat) : Int) := by
 rw [Int.add_mul,Int.one_mul]; simp
def bI (l : List (List Int)) (F : Nat) (row : List Int) (s c : Int) (i : Nat) : Int :=
 if 0 < c ∧ s < ((i * F + F : Nat) : Int) ∧ ((i * F : Nat) : Int) < s + c then pH (aI l F i) else row.getD i 0
def uW (l : List (List Int)) (F : Nat) (row : List Int) (s c : Int) : List Int := (List.range row.length).map (bI l F row s c)
def lM (t : Tr) (l : List (List Int)) (s c : Int) : Tr × Int :=
 if sC t ≠ 0 then (.zero,sC t)
 else if (l.length : Int) ≠ t.size then (.zero,6)
 else if s < 0 ∨ c < 0 ∨ t.size < s ∨ t.size - s < c then (.zero,2)
 else (fS t.size t.leaf (uW l t.leaf.toNat (t.lv.getD 0 []) s c),0)
theorem gDA {S F i : Nat} (hF : 1 ≤ F) (h : i < wD S F) : i * F + F ≤ S + F ∧ i * F < S := by
 have := vN hF h
 omega
theorem lP {t : Tr} {l : List (List Int)} {s c : Int} (h : ¬ sC t = 0) : lM t l s c = (.zero,sC t) := if_pos h
theorem mP {t : Tr} {l : List (List Int)} {s c : Int} (h : sC t = 0) (h1 : (l.length : Int) ≠ t.size) : lM t l s c = (.zero,6) := by rw [lM,if_neg (not_not_intro h),if_pos h1]
theorem nP {t : Tr} {l : List (List Int)} {s c : Int} (h : sC t = 0) (h1 : (l.length : Int) = t.size) (h2 : s < 0 ∨ c < 0 ∨ t.size < s ∨ t.size - s < c) : lM t l s c = (.zero,2) := by
 rw [lM,if_neg (not_not_intro h),if_neg (not_not_intro h1),if_pos h2]
theorem oP {t : Tr} {l : List (List Int)} {s c : Int} (h : sC t = 0) (h1 : (l.length : Int) = t.size) (h2 : ¬ (s < 0 ∨ c < 0 ∨ t.size < s ∨ t.size - s < c)) :
  lM t l s c = (fS t.size t.leaf (uW l t.leaf.toNat (t.lv.getD 0 []) s c),0) := by
 rw [lM,if_neg (not_not_intro h),if_neg (not_not_intro h1),if_neg h2]
end Go.Proofs.Ytldcoekbgfaomaa
end
section
namespace Go.Proofs.Ytldcoekbgfaomaa
open Go.RowKit
set_option maxRecDepth 20000
set_option maxHeartbeats 4000000
attribute [local irreducible] kE sD AW
theorem lMA (l : List Int) (hl : l.length ≤ 4294967296) : ACallsO Try.prog 107 [.p (gH l)] ⟨58,1,(upL l).length,(upL l).map u64⟩ := by
 refine wH Try.func107 (c := _) rfl (by kernel_rfl) (t := 2) rfl ?_
 intro X hP hX hro hpl
 have hb : tb.Ok X.P := hP ▸ oC
 change AW X _ _ ⟨[],[.p (gH l),.any,.any,.any,.any,.any,.any,.any,.any,.any,.any,.any,.any,.any,.any,.any,.any,.any,.any,.any,.any,.any,.any,.any,.any,.any,.any,.any,.any,.any,.any,.any,.any,.any,.any,.any,.any],[],[]⟩
 refine cA ?_
 refine gA hX hb [0] rfl (σ' := ?s1) (fun K hK => ?h1) ?n1
 case h1 =>
  (refine kA rfl (by simp (disch := omega) only [iA,aA,qop,fop,St.ev,St.put,cd,zd,Value.oneCell',lA,TypeDesc.aggB,Z0,nA,Zh] <;> exact rfl) ?_)
  refine bA ?_
  exact hK
 refine jA ?_
 refine cA ?_
 refine gA hX hb [0] rfl (σ' := ?s2) (fun K hK => ?h2) ?n2
 case h2 =>
  (refine kA rfl (by simp (disch := omega) only [iA,aA,qop,fop,St.ev,St.put,cd,zd,Value.oneCell',lA,TypeDesc.aggB,Z0,nA,Zh] <;> exact rfl) ?_)
  refine bA ?_
  exact hK
 refine jA ?_
 refine nJ 3 58 1 rfl (σ' := ?s3) ?h3 ?n3
 case h3 => simp only [St.nilSlot,St.addVec,Za,Zb,Zl,Zo,ZL,ZM]; exact rfl
 refine cA ?_
 refine cA ?_
 refine gA hX hb [0] rfl (σ' := ?s4) (fun K hK => ?h4) ?n4
 case h4 =>
  (refine kA rfl (by simp (disch := omega) only [iA,aA,qop,fop,St.ev,St.put,cd,zd,Value.oneCell',lA,TypeDesc.aggB,Z0,nA,Zh] <;> exact rfl) ?_)
  refine bA ?_
  exact hK
 refine jA ?_
 refine tB ?_
 refine rD (ι := Nat × List Int) (fun p => p.1 % 2 = 0 ∧ p.1 ≤ l.length + 1 ∧ p.2 = upL (l.take p.1)) (fun p => ⟨[],[.p (gH l),.any,.any,.vref 0,.p (i64 p.1),.any,.any,.any,.any,.any,.any,.any,.any,.any,.any,.any,.any,.any,.any,.any,.any,.any,.any,.any,.any,.any,.any,.any,.any,.any,.any,.any,.any,.any,.any,.any,.any],[],[some ⟨58,1,p.2.length,p.2.map u64⟩]⟩) (fun p => l.length + 1 - p.1) (0,[]) (by exact ⟨rfl,Nat.zero_le _,rfl⟩) (rC ⟨rfl,(by repeat first | exact sA | refine mB ?_ | refine vA (by first | rfl | ((first | rw [pG l i h2 (by omega),← ho] | rw [qG l i h2 (by omega) (by omega),← ho]) <;> simp)) ?_),(xB _),(jE (by first | rfl | ((first | rw [pG l i h2 (by omega),← ho] | rw [qG l i h2 (by omega) (by omega),← ho]) <;> simp)) (yB _)),rfl,rfl⟩) ?_
 rintro ⟨i,o⟩ ⟨h2,hi,ho⟩
 dsimp only at h2 hi ho ⊢
 have hol : o.length ≤ l.length := by rw [ho,pF,List.length_take]; omega
 have ei : ((i : Int) + 1).toNat = i + 1 := by omega
 refine cA ?_
 refine cA ?_
 refine gA hX hb [0,1,2,3] rfl (σ' := ?s5) (fun K hK => ?h5) ?n5
 case h5 =>
  iterate 4 (refine kA rfl (by simp (disch := omega) only [iA,aA,qop,fop,St.ev,St.put,cd,zd,Value.oneCell',lA,TypeDesc.aggB,Z0,vC,cB,iop,tt,nA,Zh] <;> exact rfl) ?_)
  refine bA ?_
  exact hK
 refine jA ?_
 refine oB _ rfl (fun hc0 => ?_) (fun hc0 => ?_)
 ·try simp only [Zp,Zi,ZK,ZJ,ne_eq,Zn,Zm,ZB,ZA,ZI,not_or,not_and,Zu] at hc0
  refine uB ?_
  refine jA ?_
  refine cA ?_
  refine tB ?_
  refine cA ?_
  refine gA hX hb [0,1,2,3,4] rfl (σ' := ?s6) (fun K hK => ?h6) ?n6
  case h6 =>
   iterate 5 (refine kA rfl (by simp (disch := omega) only [iA,aA,qop,fop,St.ev,St.put,cd,zd,Value.oneCell',lA,TypeDesc.aggB,Z0,cB,iop,vC,tt,nA,Zh] <;> exact rfl) ?_)
   refine bA ?_
   exact hK
  refine jA ?_
  refine oB _ rfl (fun hc1 => ?_) (fun hc1 => ?_)
  ·try simp only [Zp,Zi,ZK,ZJ,ne_eq,Zn,Zm,ZB,ZA,ZI,not_or,not_and,Zu] at hc1
   refine dF hX hb (jD hP) [(0,true),(1,true),(2,true),(3,true),(4,true),(5,true),(6,true),(7,true),(8,true),(9,true),(10,false),(11,false),(12,false),(13,true)] (by kernel_rfl) (σ' := ?s7) (fun K hK => ?h7) ?n7
   case h7 =>
    iterate 10 (refine eF rfl (by simp (disch := omega) only [qop,fop,St.ev,St.put,cd,zd,Value.oneCell',lA,TypeDesc.aggB,Z0,Int.toNat_zero,Int.toNat_one,xA,yA,wA,ZO,Nat.mul_one,ZC,Nat.zero_mul,Zh,Z1,pA,qA,tA,eA,D.pure?,ZD,cB,iop,uA,D.pv?,zD,aD,bD,bE,bB,rB,D.cells?,fB,gB,iB,jB,kB,ZG,ZH,ZL,ZM,ZN,aB,Nat.reduceAdd,Nat.reduceMul,nD,cG,St.demote,D.demote,St.setVec,List.length_append,reduceIte,tt,nA,ei] <;> exact rfl) (by simp only [St.put,Za,Zb] <;> exact rfl) ?_)
    refine eH rfl (by simp only [aA,St.ev,pB,qB,uA,D.pv?,ZG,ZH,zd,cd,Value.oneCell',Zr] <;> exact rfl) (acK hP (c63 _ _)) (by simp only [St.put,Za,Zb] <;> exact rfl) ?_
    iterate 2 (refine rG rfl (by simp (disch := omega) only [iA,aA,qop,fop,St.ev,St.put,cd,zd,Value.oneCell',lA,TypeDesc.aggB,Z0,Int.toNat_zero,Int.toNat_one,xA,yA,wA,ZO,Nat.mul_one,ZC,Nat.zero_mul,Zh,Z1,pA,qA,tA,eA,D.pure?,ZD,cB,iop,uA,D.pv?,zD,aD,bD,bE,bB,rB,D.cells?,fB,gB,iB,jB,kB,ZG,ZH,ZL,ZM,ZN,aB,Nat.reduceAdd,Nat.reduceMul,nD,cG,St.demote,D.demote,St.setVec,List.length_append,reduceIte,tt,nA,ei] <;> exact rfl) ?_)
    (refine eF rfl (by simp (disch := omega) only [qop,fop,St.ev,St.put,cd,zd,Value.oneCell',lA,TypeDesc.aggB,Z0,Int.toNat_zero,Int.toNat_one,xA,yA,wA,ZO,Nat.mul_one,ZC,Nat.zero_mul,Zh,Z1,pA,qA,tA,eA,D.pure?,ZD,cB,iop,uA,D.pv?,zD,aD,bD,bE,bB,rB,D.cells?,fB,gB,iB,jB,kB,ZG,ZH,ZL,ZM,ZN,aB,Nat.reduceAdd,Nat.reduceMul,nD,cG,St.demote,D.demote,St.setVec,List.length_append,reduceIte,tt,nA,ei] <;> exact rfl) (by simp only [St.put,Za,Zb] <;> exact rfl) ?_)
    refine xC ?_
    exact hK
   refine cE ?_
   refine jA ?_
   refine gA hX hb [0,1,2] rfl (σ' := ?s8) (fun K hK => ?h8) ?n8
   case h8 =>
    iterate 3 (refine kA rfl (by simp (disch := omega) only [iA,aA,qop,fop,St.ev,St.put,cd,zd,Value.oneCell',lA,TypeDesc.aggB,Z0,cB,iop,tt,nA,Zh] <;> exact rfl) ?_)
    refine bA ?_
    exact hK
   refine jA ?_
   exact ⟨(i + 2,upL (l.take (i + 2))),by exact ⟨by dsimp only; omega,by dsimp only; omega,rfl⟩,by (try dsimp only); omega,rC ⟨rfl,(by repeat first | exact sA | refine mB ?_ | refine vA (by first | rfl | ((first | rw [pG l i h2 (by omega),← ho] | rw [qG l i h2 (by omega) (by omega),← ho]) <;> simp)) ?_),(xB _),(jE (by first | rfl | ((first | rw [pG l i h2 (by omega),← ho] | rw [qG l i h2 (by omega) (by omega),← ho]) <;> simp)) (yB _)),rfl,rfl⟩⟩
  ·try simp only [Zp,Zi,ZK,ZJ,ne_eq,Zn,Zm,ZB,ZA,ZI,not_or,not_and,Zu] at hc1
   refine gA hX hb [0,1,2,3,4,5,6,7] rfl (σ' := ?s9) (fun K hK => ?h9) ?n9
   case h9 =>
    iterate 8 (refine kA rfl (by simp (disch := omega) only [iA,aA,qop,fop,St.ev,St.put,cd,zd,Value.oneCell',lA,TypeDesc.aggB,Z0,Int.toNat_zero,Int.toNat_one,xA,yA,wA,ZO,Nat.mul_one,ZC,Nat.zero_mul,Zh,Z1,pA,qA,tA,eA,D.pure?,ZD,zD,aD,bD,bE,bB,rB,D.cells?,fB,gB,iB,jB,kB,ZG,ZH,ZL,ZM,ZN,aB,Nat.reduceAdd,Nat.reduceMul,nD,cG,St.demote,D.demote,St.setVec,List.length_append,reduceIte,tt,nA] <;> exact rfl) ?_)
    refine bA ?_
    exact hK
   refine cE ?_
   refine jA ?_
   refine gA hX hb [0,1,2] rfl (σ' := ?s10) (fun K hK => ?h10) ?n10
   case h10 =>
    iterate 3 (refine kA rfl (by simp (disch := omega) only [iA,aA,qop,fop,St.ev,St.put,cd,zd,Value.oneCell',lA,TypeDesc.aggB,Z0,cB,iop,tt,nA,Zh] <;> exact rfl) ?_)
    refine bA ?_
    exact hK
   refine jA ?_
   exact ⟨(i + 2,upL (l.take (i + 2))),by exact ⟨by dsimp only; omega,by dsimp only; omega,rfl⟩,by (try dsimp only); omega,rC ⟨rfl,(by repeat first | exact sA | refine mB ?_ | refine vA (by first | rfl | ((first | rw [pG l i h2 (by omega),← ho] | rw [qG l i h2 (by omega) (by omega),← ho]) <;> simp)) ?_),(xB _),(jE (by first | rfl | ((first | rw [pG l i h2 (by omega),← ho] | rw [qG l i h2 (by omega) (by omega),← ho]) <;> simp)) (yB _)),rfl,rfl⟩⟩
 ·try simp only [Zp,Zi,ZK,ZJ,ne_eq,Zn,Zm,ZB,ZA,ZI,not_or,not_and,Zu] at hc0
  refine oD ?_
  refine fD ?_
  refine fD ?_
  refine zE ?_
  refine jA ?_
  refine cA ?_
  refine gA hX hb [0,1] rfl (σ' := ?s11) (fun K hK => ?h11) ?n11
  case h11 =>
   iterate 2 (refine kA rfl (by simp (disch := omega) only [iA,aA,qop,fop,St.ev,St.put,cd,zd,Value.oneCell',lA,TypeDesc.aggB,Z0,t3,ti3,nA,Zh] <;> exact rfl) ?_)
   refine bA ?_
   exact hK
  refine jA ?_
  refine bC ?_
  exact eK 0 rfl rfl (by first | rfl | (rw [ho,List.take_of_length_le (by omega)]; rfl))
theorem mMA (l : List Int) (hl : l.length ≤ 4294967296) : ACalls Try.prog 107 [.p (gH l)] (.p (gH (upL l))) := (lMA l hl).pure
theorem c68 (s n : Nat) (hs : 1 ≤ s ∧ s ≤ 4294967296) (hn : 1 ≤ n ∧ n ≤ 4294967296) : ACalls Try.prog 68 [.p (i64 s),.p (i64 n)] (.p (i64 (wD s n))) := by
 refine wC oC Try.func68 (c := _) rfl (by kernel_rfl) ?_
 intro X hP hX hro hpl
 have hb : tb.Ok X.P := hP ▸ oC
 change AW X _ _ ⟨[],[.p (i64 s),.p (i64 n),.any,.any,.any,.any,.any,.any,.any,.any,.any],[],[]⟩
 refine cA ?_
 refine gA hX hb [0] rfl (σ' := ?s1) (fun K hK => ?h1) ?n1
 case h1 =>
  (refine kA rfl (by simp (disch := omega) only [iA,aA,qop,fop,St.ev,St.put,cd,zd,Value.oneCell',lA,TypeDesc.aggB,Z0,kD,ne_eq,not_true_eq_false,not_false_eq_true] <;> exact rfl) ?_)
  refine bA ?_
  exact hK
 refine jA ?_
 refine cA ?_
 refine gA hX hb [0,1,2,3,4,5,6] rfl (σ' := ?s2) (fun K hK => ?h2) ?n2
 case h2 =>
  iterate 7 (refine kA rfl (by simp (disch := omega) only [iA,aA,qop,fop,St.ev,St.put,cd,zd,Value.oneCell',lA,TypeDesc.aggB,Z0,cB,iop,tt,kD,ne_eq,not_true_eq_false,not_false_eq_true] <;> exact rfl) ?_)
  refine bA ?_
  exact hK
 refine jA ?_
 refine bC ?_
 exact zC rfl (zB rfl (by first | rfl | (rw [← fV,show ((s + n - 1 : Nat) : Int) = (s : Int) + n - 1 by omega]; rfl)))
end Go.Proofs.Ytldcoekbgfaomaa
end
section
namespace Go.Proofs.Ytldcoekbgfaomaa
open Go.RowKit
set_option maxRecDepth 20000
set_option maxHeartbeats 4000000
attribute [local irreducible] kE sD AW
theorem c69 (l : List (List Int)) (n i : Nat) (hl : l.length ≤ 4294967296) (hn : n ≤ 4294967296) (hi : i * n ≤ l.length) : ACalls Try.prog 69 [.p (yN l),.p (i64 n),.p (i64 i)] (.p (yN (aI l n i))) := by
 refine wC oC Try.func69 (c := _) rfl (by kernel_rfl) ?_
 intro X hP hX hro hpl
 have hb : tb.Ok X.P := hP ▸ oC
 change AW X _ _ ⟨[],[.p (yN l),.p (i64 n),.p (i64 i),.any,.any,.any,.any,.any,.any,.any,.any,.any,.any,.any,.any,.any,.any,.any,.any,.any],[],[]⟩
 refine cA ?_
 refine gA hX hb [0] rfl (σ' := ?s1) (fun K hK => ?h1) ?n1
 case h1 =>
  (refine kA rfl (by simp (disch := omega) only [iA,aA,qop,fop,St.ev,St.put,cd,zd,Value.oneCell',lA,TypeDesc.aggB,Z0,tD,uD,tW,ZO] <;> exact rfl) ?_)
  refine bA ?_
  exact hK
 refine jA ?_
 refine cA ?_
 refine gA hX hb [0,1,2,3,4,5,6,7,8,9,10,11,12,13] rfl (σ' := ?s2) (fun K hK => ?h2) ?n2
 case h2 =>
  iterate 14 (refine kA rfl (by simp (disch := omega) only [iA,aA,qop,fop,St.ev,St.put,cd,zd,Value.oneCell',lA,TypeDesc.aggB,Z0,cB,iop,vC,aF,imp_self,Int.toNat_one,Int.toNat_zero,Nat.one_mul,nI,bnd,Option.isSome_none,ZP,Option.map_none,implies_true,forall_const,ZO,Nat.sub_zero,tt,tD,uD,tW] <;> exact rfl) ?_)
  refine bA ?_
  exact hK
 refine jA ?_
 refine bC ?_
 exact zC rfl (zB rfl (by first | rfl | (have e := pY l (i * n) (min n (l.length - i * n)) (by omega); refine (congrArg D.p e).trans ?_; rw [aI,List.take_eq_take_iff.2]; simp)))
end Go.Proofs.Ytldcoekbgfaomaa
end
section
namespace Go.Proofs.Ytldcoekbgfaomaa
open Go.RowKit
set_option maxRecDepth 20000
set_option maxHeartbeats 4000000
attribute [local irreducible] kE sD AW
theorem c70 (s f : Int) (l : List Int) (hl : l.length ≤ 4294967296) : ACalls Try.prog 70 [.p (i64 s),.p (i64 f),.p (gH l)] (.agg [i64 s,i64 f,iE (sE l)]) := by
 refine wC oC Try.func70 (c := _) rfl (by kernel_rfl) ?_
 intro X hP hX hro hpl
 have hb : tb.Ok X.P := hP ▸ oC
 change AW X _ _ ⟨[],[.p (i64 s),.p (i64 f),.p (gH l),.any,.any,.any,.any,.any,.any,.any,.any,.any,.any,.any,.any,.any,.any,.any,.any,.any,.any,.any,.any,.any,.any],[],[]⟩
 refine cA ?_
 refine gA hX hb [0] rfl (σ' := ?s1) (fun K hK => ?h1) ?n1
 case h1 =>
  (refine kA rfl (by simp (disch := omega) only [iA,aA,qop,fop,St.ev,St.put,cd,zd,Value.oneCell',lA,TypeDesc.aggB,Z0,ZM,ZL,Zl,Zo,ZG,ZH,St.addBox,Value.cells,tt] <;> exact rfl) ?_)
  refine bA ?_
  exact hK
 refine jA ?_
 refine cA ?_
 refine gA hX (oO [11] hb) [0,1,2,3,4,5,6] rfl (σ' := ?s2) (fun K hK => ?h2) ?n2
 case h2 =>
  iterate 7 (refine kA rfl (by simp (disch := omega) only [iA,aA,qop,fop,St.ev,St.put,cd,zd,Value.oneCell',lA,TypeDesc.aggB,Z0,zD,aD,bD,bE,bB,rB,D.cells?,D.pure?,fB,gB,iB,jB,kB,ZG,ZH,ZL,ZM,ZN,Z1,aB,Nat.reduceAdd,Nat.reduceMul,aE,cD,mC,aC,D.cell1,List.all_cons,List.all_nil,uC,TI.place,TI.zeros,TI.kindOk,zp,Value.cells,ZQ,ZP,St.addBox,iC,D.boxCells,D.live,St.setVec,ZC,tt,fN,yI,xH,St.addVec] <;> exact rfl) ?_)
  refine bA ?_
  exact hK
 refine jA ?_
 refine cA ?_
 refine tB ?_
 refine rD (ι := List Int × List (List Int)) (fun p => p.1.length ≤ l.length ∧ p.1.length ≤ 4294967296 ∧ p.2 ++ (sE p.1).drop 1 = sE l) (fun p => ⟨[],[.p (i64 s),.p (i64 f),.p (gH p.1),.any,.any,.any,.ptr 0 0,.ptr 1 0,.any,.any,.any,.any,.any,.any,.any,.any,.any,.any,.any,.any,.any,.any,.any,.any,.any],[⟨26,[.p (i64 0),.p (i64 0),.nil]⟩,⟨26,[.p (i64 s),.p (i64 f),.vref 0]⟩],[some ⟨60,1,p.2.length,p.2.map gH⟩]⟩) (fun p => p.1.length) (l,[l]) (by refine ⟨Nat.le_refl _,hl,?_⟩; obtain ⟨r,hr⟩ := rL l; dsimp only; rw [hr]; rfl) (rC ⟨rfl,(by repeat first | exact sA | refine mB ?_ | refine vA (by first | rfl | (simp)) ?_),(pC rfl (vA (by first | rfl | (simp)) (vA (by first | rfl | (simp)) (vA (by first | rfl | (simp)) (sA)))) (pC rfl (vA (by first | rfl | (simp)) (vA (by first | rfl | (simp)) (vA (by first | rfl | (simp)) (sA)))) (xB _))),(jE (by first | rfl | (simp)) (yB _)),rfl,rfl⟩) ?_
 rintro ⟨m,ls⟩ hm
 dsimp only at hm ⊢
 have hls : ls.length ≤ l.length + 1 := by
  have h1 := pI l.length l (Nat.le_refl _)
  rw [← hm.2.2,List.length_append] at h1
  omega
 refine cA ?_
 refine cA ?_
 refine gA hX hb [0,1,2] rfl (σ' := ?s3) (fun K hK => ?h3) ?n3
 case h3 =>
  iterate 3 (refine kA rfl (by simp (disch := omega) only [iA,aA,qop,fop,St.ev,St.put,cd,zd,Value.oneCell',lA,TypeDesc.aggB,Z0,vC,cB,iop,tt] <;> exact rfl) ?_)
  refine bA ?_
  exact hK
 refine jA ?_
 refine oB _ rfl (fun hc0 => ?_) (fun hc0 => ?_)
 ·try simp only [Zp,Zi,ZK,ZJ,ne_eq,Zn,Zm,ZB,ZA,ZI,not_or,not_and,Zu] at hc0
  refine uB ?_
  refine jA ?_
  refine tB ?_
  refine cA ?_
  refine gA hX hb [0,1,2] rfl (σ' := ?s4) (fun K hK => ?h4) ?n4
  case h4 =>
   (refine kA rfl (by simp (disch := omega) only [iA,aA,qop,fop,St.ev,St.put,cd,zd,Value.oneCell',lA,TypeDesc.aggB,Z0,uA,D.pv?,tt] <;> exact rfl) ?_)
   refine mD rfl (by simp only [aA,St.ev,pB,qB,uA,D.pv?,ZG,ZH,zd,cd,Value.oneCell',Zr] <;> exact rfl) (acK hP (mMA _ hm.2.1)) (by simp only [St.put,Za,Zb] <;> exact rfl) ?_
   (refine kA rfl (by simp (disch := omega) only [iA,aA,qop,fop,St.ev,St.put,cd,zd,Value.oneCell',lA,TypeDesc.aggB,Z0,uA,D.pv?,tt] <;> exact rfl) ?_)
   refine bA ?_
   exact hK
  refine jA ?_
  refine gA hX hb [0,1,2,3,4,5,6] rfl (σ' := ?s5) (fun K hK => ?h5) ?n5
  case h5 =>
   iterate 7 (refine kA rfl (by simp (disch := omega) only [iA,aA,qop,fop,St.ev,St.put,cd,zd,Value.oneCell',lA,TypeDesc.aggB,Z0,fA,oA,Z1,pA,qA,tA,eA,D.pure?,ZC,ZD,zD,aD,bD,bE,bB,rB,D.cells?,fB,gB,iB,jB,kB,ZG,ZH,ZL,ZM,ZN,aB,Nat.reduceAdd,Nat.reduceMul,nD,cG,St.demote,D.demote,St.setVec,Zh,List.length_append,Nat.mul_one,reduceIte,iC,D.boxCells,D.live,tt] <;> exact rfl) ?_)
   refine bA ?_
   exact hK
  refine cE ?_
  refine jA ?_
  exact ⟨(upL m,ls ++ [upL m]),by have hu := pF m; refine ⟨by dsimp only; omega,by dsimp only; omega,?_⟩; dsimp only; rw [← hm.2.2,eS (l := m) (by omega),List.append_assoc]; rfl,by have hu := pF m; dsimp only; omega,rC ⟨rfl,(by repeat first | exact sA | refine mB ?_ | refine vA (by first | rfl | (simp)) ?_),(pC rfl (vA (by first | rfl | (simp)) (vA (by first | rfl | (simp)) (vA (by first | rfl | (simp)) (sA)))) (pC rfl (vA (by first | rfl | (simp)) (vA (by first | rfl | (simp)) (vA (by first | rfl | (simp)) (sA)))) (xB _))),(jE (by first | rfl | (simp)) (yB _)),rfl,rfl⟩⟩
 ·try simp only [Zp,Zi,ZK,ZJ,ne_eq,Zn,Zm,ZB,ZA,ZI,not_or,not_and,Zu] at hc0
  refine oD ?_
  refine fD ?_
  refine fD ?_
  refine zE ?_
  refine jA ?_
  refine cA ?_
  refine nH 0 rfl (σ' := ?s7) ?h7 ?n7
  case h7 => simp only [St.freeze,D.freeze,ZG,ZH,Za,Zb,Zr,reduceIte,Nat.reduceEqDiff]; exact rfl
  refine gA hX hb [0,1] rfl (σ' := ?s6) (fun K hK => ?h6) ?n6
  case h6 =>
   iterate 2 (refine kA rfl (by simp (disch := omega) only [iA,aA,qop,fop,St.ev,St.put,cd,zd,Value.oneCell',lA,TypeDesc.aggB,Z0,Z1,pA,qA,tA,eA,D.pure?,ZC,ZD,iC,D.boxCells,D.live,D.cells?,ZM,ZL,ZN,ZG,ZH,St.setVec,tt] <;> exact rfl) ?_)
   refine bA ?_
   exact hK
  refine jA ?_
  refine bC ?_
  exact zC rfl (zB (by simp only [mE,pA,qA,lA,TypeDesc.aggB,eA,D.pure?,D.pv?,pB,qB,Zd,Zc,Zw,Zk,Zv,Zj,Zx,Zl,Zo,Zr,reduceIte,Nat.reduceAdd,Nat.reduceLeDiff,Zg,Zf,tt] <;> exact rfl) (by first | rfl | ((have e := hm.2.2); rw [xF (by omega)] at e; simp only [List.drop_one,List.tail_cons,ZN] at e; rw [← e]; rfl)))
end Go.Proofs.Ytldcoekbgfaomaa
end
section
namespace Go.Proofs.Ytldcoekbgfaomaa
open Go.RowKit
set_option maxRecDepth 20000
set_option maxHeartbeats 4000000
attribute [local irreducible] kE sD AW
theorem c71 (a b : List (List Int)) : ACalls Try.prog 71 [.p (iE a),.p (iE b)] (.p (bv (decide (a = b)))) := by
 refine wC oC Try.func71 (c := _) rfl (by kernel_rfl) ?_
 intro X hP hX hro hpl
 have hb : tb.Ok X.P := hP ▸ oC
 change AW X _ _ ⟨[],[.p (iE a),.p (iE b),.any,.any,.any,.any,.any,.any,.any,.any,.any,.any,.any,.any,.any,.any,.any,.any,.any,.any,.any,.any,.any,.any,.any,.any,.any,.any,.any,.any,.any,.any,.any,.any,.any,.any,.any,.any,.any,.any,.any,.any,.any,.any,.any,.any,.any,.any,.any,.any,.any,.any,.any],[],[]⟩
 refine jI (t := 0) rfl fun hl => ?_
 unfold maxLen at hl
 refine cA ?_
 refine gA hX hb [0] rfl (σ' := ?s1) (fun K hK => ?h1) ?n1
 case h1 =>
  (refine kA rfl (by simp (disch := omega) only [iA,aA,qop,fop,St.ev,St.put,cd,zd,Value.oneCell',lA,TypeDesc.aggB,Z0,mA,nA,Zh] <;> exact rfl) ?_)
  refine bA ?_
  exact hK
 refine jA ?_
 refine cA ?_
 refine cA ?_
 refine gA hX hb [0,1,2,3,4] rfl (σ' := ?s2) (fun K hK => ?h2) ?n2
 case h2 =>
  iterate 5 (refine kA rfl (by simp (disch := omega) only [iA,aA,qop,fop,St.ev,St.put,cd,zd,Value.oneCell',lA,TypeDesc.aggB,Z0,vC,cB,iop,tt,mA,nA,Zh] <;> exact rfl) ?_)
  refine bA ?_
  exact hK
 refine jA ?_
 refine oB _ rfl (fun hc0 => ?_) (fun hc0 => ?_)
 ·try simp only [Zp,Zi,ZK,ZJ,ne_eq,Zn,Zm,ZB,ZA,ZI,not_or,not_and,Zu] at hc0
  refine cA ?_
  refine gA hX hb [0] rfl (σ' := ?s3) (fun K hK => ?h3) ?n3
  case h3 =>
   (refine kA rfl (by simp (disch := omega) only [iA,aA,qop,fop,St.ev,St.put,cd,zd,Value.oneCell',lA,TypeDesc.aggB,Z0,mA,nA,Zh] <;> exact rfl) ?_)
   refine bA ?_
   exact hK
  refine jA ?_
  refine bC ?_
  refine tC ?_
  exact zC rfl (zB rfl (by first | rfl | (first | (refine jf ?_; rintro rfl; exact hc4 rfl) | (refine jf ?_; rintro rfl; exact hc2 rfl) | (refine jf ?_; rintro rfl; exact hc0 rfl) | exact jt (vD hc0 he (by omega)))))
 ·try simp only [Zp,Zi,ZK,ZJ,ne_eq,Zn,Zm,ZB,ZA,ZI,not_or,not_and,Zu] at hc0
  refine uB ?_
  refine jA ?_
  refine cA ?_
  refine cA ?_
  refine gA hX hb [0] rfl (σ' := ?s4) (fun K hK => ?h4) ?n4
  case h4 =>
   (refine kA rfl (by simp (disch := omega) only [iA,aA,qop,fop,St.ev,St.put,cd,zd,Value.oneCell',lA,TypeDesc.aggB,Z0,mA,nA,Zh] <;> exact rfl) ?_)
   refine bA ?_
   exact hK
  refine jA ?_
  refine tB ?_
  refine rD (ι := Nat) (fun i => i ≤ a.length ∧ a.take i = b.take i) (fun i => ⟨[],[.p (iE a),.p (iE b),.any,.any,.any,.p (i64 i),.any,.any,.any,.any,.any,.any,.any,.any,.any,.any,.any,.any,.any,.any,.any,.any,.any,.any,.any,.any,.any,.any,.any,.any,.any,.any,.any,.any,.any,.any,.any,.any,.any,.any,.any,.any,.any,.any,.any,.any,.any,.any,.any,.any,.any,.any,.any],[],[]⟩) (fun i => a.length - i) 0 (by exact ⟨Nat.zero_le _,rfl⟩) (rC ⟨rfl,(by repeat first | exact sA | refine mB ?_ | refine vA rfl ?_),(xB _),(yB _),rfl,rfl⟩) ?_
  rintro i ⟨hi,he⟩
  refine cA ?_
  refine cA ?_
  refine gA hX hb [0,1,2,3] rfl (σ' := ?s5) (fun K hK => ?h5) ?n5
  case h5 =>
   iterate 4 (refine kA rfl (by simp (disch := omega) only [iA,aA,qop,fop,St.ev,St.put,cd,zd,Value.oneCell',lA,TypeDesc.aggB,Z0,vC,cB,iop,tt,mA,nA,Zh] <;> exact rfl) ?_)
   refine bA ?_
   exact hK
  refine jA ?_
  refine oB _ rfl (fun hc1 => ?_) (fun hc1 => ?_)
  ·try simp only [Zp,Zi,ZK,ZJ,ne_eq,Zn,Zm,ZB,ZA,ZI,not_or,not_and,Zu] at hc1
   refine uB ?_
   refine jA ?_
   refine cA ?_
   refine tB ?_
   refine cA ?_
   refine cA ?_
   refine dF hX hb (jD hP) [(0,true),(1,true),(2,true),(3,true),(4,true),(5,true),(6,true),(7,true),(8,true),(9,true),(10,true)] (by kernel_rfl) (σ' := ?s6) (fun K hK => ?h6) ?n6
   case h6 =>
    iterate 11 (refine eF rfl (by simp (disch := omega) only [qop,fop,St.ev,St.put,cd,zd,Value.oneCell',lA,TypeDesc.aggB,Z0,Int.toNat_zero,Int.toNat_one,xA,yA,wA,ZO,Nat.mul_one,ZC,Nat.zero_mul,Zh,Z1,pA,qA,tA,eA,D.pure?,ZD,vC,cB,iop,tt,mA,nA] <;> exact rfl) (by simp only [St.put,Za,Zb] <;> exact rfl) ?_)
    refine xC ?_
    exact hK
   refine jA ?_
   refine oB _ rfl (fun hc2 => ?_) (fun hc2 => ?_)
   ·try simp only [Zp,Zi,ZK,ZJ,ne_eq,Zn,Zm,ZB,ZA,ZI,not_or,not_and,Zu] at hc2
    refine cA ?_
    refine gA hX hb [0] rfl (σ' := ?s7) (fun K hK => ?h7) ?n7
    case h7 =>
     (refine kA rfl (by simp (disch := omega) only [iA,aA,qop,fop,St.ev,St.put,cd,zd,Value.oneCell',lA,TypeDesc.aggB,Z0,mA,nA,Zh] <;> exact rfl) ?_)
     refine bA ?_
     exact hK
    refine jA ?_
    refine bC ?_
    refine tC ?_
    refine xE ?_
    refine tC ?_
    refine tC ?_
    refine xE ?_
    refine tC ?_
    exact zC rfl (zB rfl (by first | rfl | (first | (refine jf ?_; rintro rfl; exact hc4 rfl) | (refine jf ?_; rintro rfl; exact hc2 rfl) | (refine jf ?_; rintro rfl; exact hc0 rfl) | exact jt (vD hc0 he (by omega)))))
   ·try simp only [Zp,Zi,ZK,ZJ,ne_eq,Zn,Zm,ZB,ZA,ZI,not_or,not_and,Zu] at hc2
    refine uB ?_
    refine jA ?_
    refine cA ?_
    refine gA hX hb [0] rfl (σ' := ?s8) (fun K hK => ?h8) ?n8
    case h8 =>
     (refine kA rfl (by simp (disch := omega) only [iA,aA,qop,fop,St.ev,St.put,cd,zd,Value.oneCell',lA,TypeDesc.aggB,Z0,mA,nA,Zh] <;> exact rfl) ?_)
     refine bA ?_
     exact hK
    refine jA ?_
    refine tB ?_
    refine rD (ι := Nat) (fun k => k ≤ (a.getD i []).length ∧ (a.getD i []).take k = (b.getD i []).take k) (fun k => ⟨[],[.p (iE a),.p (iE b),.any,.any,.any,.p (i64 i),.p (i64 k),.any,.any,.any,.any,.any,.any,.any,.any,.any,.any,.any,.any,.any,.any,.any,.any,.any,.any,.any,.any,.any,.any,.any,.any,.any,.any,.any,.any,.any,.any,.any,.any,.any,.any,.any,.any,.any,.any,.any,.any,.any,.any,.any,.any,.any,.any],[],[]⟩) (fun k => (a.getD i []).length - k) 0 (by exact ⟨Nat.zero_le _,rfl⟩) (rC ⟨rfl,(by repeat first | exact sA | refine mB ?_ | refine vA rfl ?_),(xB _),(yB _),rfl,rfl⟩) ?_
    rintro k ⟨hk,hke⟩
    refine cA ?_
    refine cA ?_
    refine gA hX hb [0,1,2,3,4,5,6] rfl (σ' := ?s9) (fun K hK => ?h9) ?n9
    case h9 =>
     iterate 7 (refine kA rfl (by simp (disch := omega) only [iA,aA,qop,fop,St.ev,St.put,cd,zd,Value.oneCell',lA,TypeDesc.aggB,Z0,Int.toNat_zero,Int.toNat_one,xA,yA,wA,ZO,Nat.mul_one,ZC,Nat.zero_mul,Zh,Z1,pA,qA,tA,eA,D.pure?,ZD,vC,cB,iop,tt,mA,nA] <;> exact rfl) ?_)
     refine bA ?_
     exact hK
    refine jA ?_
    refine oB _ rfl (fun hc3 => ?_) (fun hc3 => ?_)
    ·try simp only [Zp,Zi,ZK,ZJ,ne_eq,Zn,Zm,ZB,ZA,ZI,not_or,not_and,Zu] at hc3
     refine uB ?_
     refine jA ?_
     refine cA ?_
     refine tB ?_
     refine cA ?_
     refine dF hX hb (jD hP) [(0,true),(1,true),(2,true),(3,true),(4,true),(5,true),(6,true),(7,true),(8,true),(9,true),(10,true),(11,true),(12,true),(13,true),(14,true)] (by kernel_rfl) (σ' := ?s10) (fun K hK => ?h10) ?n10
     case h10 =>
      iterate 15 (refine eF rfl (by simp (disch := omega) only [qop,fop,St.ev,St.put,cd,zd,Value.oneCell',lA,TypeDesc.aggB,Z0,Int.toNat_zero,Int.toNat_one,xA,yA,wA,ZO,Nat.mul_one,ZC,Nat.zero_mul,Zh,Z1,pA,qA,tA,eA,D.pure?,ZD,cB,iop,tt,mA,nA] <;> exact rfl) (by simp only [St.put,Za,Zb] <;> exact rfl) ?_)
      refine xC ?_
      exact hK
     refine jA ?_
     refine oB _ rfl (fun hc4 => ?_) (fun hc4 => ?_)
     ·try simp only [Zp,Zi,ZK,ZJ,ne_eq,Zn,Zm,ZB,ZA,ZI,not_or,not_and,Zu] at hc4
      refine cA ?_
      refine gA hX hb [0] rfl (σ' := ?s11) (fun K hK => ?h11) ?n11
      case h11 =>
       (refine kA rfl (by simp (disch := omega) only [iA,aA,qop,fop,St.ev,St.put,cd,zd,Value.oneCell',lA,TypeDesc.aggB,Z0,mA,nA,Zh] <;> exact rfl) ?_)
       refine bA ?_
       exact hK
      refine jA ?_
      refine bC ?_
      refine xE ?_
      refine tC ?_
      refine tC ?_
      refine xE ?_
      refine xE ?_
      refine tC ?_
      refine tC ?_
      refine xE ?_
      refine tC ?_
      exact zC rfl (zB rfl (by first | rfl | (first | (refine jf ?_; rintro rfl; exact hc4 rfl) | (refine jf ?_; rintro rfl; exact hc2 rfl) | (refine jf ?_; rintro rfl; exact hc0 rfl) | exact jt (vD hc0 he (by omega)))))
     ·try simp only [Zp,Zi,ZK,ZJ,ne_eq,Zn,Zm,ZB,ZA,ZI,not_or,not_and,Zu] at hc4
      refine uB ?_
      refine cE ?_
      refine jA ?_
      refine jI (t := 33) rfl fun hl2 => ?_
      unfold maxLen at hl2
      refine gA hX hb [0,1,2] rfl (σ' := ?s12) (fun K hK => ?h12) ?n12
      case h12 =>
       iterate 3 (refine kA rfl (by simp (disch := omega) only [iA,aA,qop,fop,St.ev,St.put,cd,zd,Value.oneCell',lA,TypeDesc.aggB,Z0,cB,iop,tt,mA,nA,Zh] <;> exact rfl) ?_)
       refine bA ?_
       exact hK
      refine jA ?_
      exact ⟨k + 1,by exact ⟨by omega,by rw [gE _ k (by omega),gE _ k (by omega),hke,hc4]⟩,by (try dsimp only); omega,rC ⟨rfl,(by repeat first | exact sA | refine mB ?_ | refine vA rfl ?_),(xB _),(yB _),rfl,rfl⟩⟩
    ·try simp only [Zp,Zi,ZK,ZJ,ne_eq,Zn,Zm,ZB,ZA,ZI,not_or,not_and,Zu] at hc3
     refine oD ?_
     refine fD ?_
     refine fD ?_
     refine zE ?_
     refine cE ?_
     refine jA ?_
     refine gA hX hb [0,1,2] rfl (σ' := ?s13) (fun K hK => ?h13) ?n13
     case h13 =>
      iterate 3 (refine kA rfl (by simp (disch := omega) only [iA,aA,qop,fop,St.ev,St.put,cd,zd,Value.oneCell',lA,TypeDesc.aggB,Z0,cB,iop,tt,mA,nA,Zh] <;> exact rfl) ?_)
      refine bA ?_
      exact hK
     refine jA ?_
     exact ⟨i + 1,by exact ⟨by omega,by rw [eE a i (by omega),eE b i (by omega),he,vD hc2 hke (by omega)]⟩,by (try dsimp only); omega,rC ⟨rfl,(by repeat first | exact sA | refine mB ?_ | refine vA rfl ?_),(xB _),(yB _),rfl,rfl⟩⟩
  ·try simp only [Zp,Zi,ZK,ZJ,ne_eq,Zn,Zm,ZB,ZA,ZI,not_or,not_and,Zu] at hc1
   refine oD ?_
   refine fD ?_
   refine fD ?_
   refine zE ?_
   refine jA ?_
   refine cA ?_
   refine gA hX hb [0] rfl (σ' := ?s14) (fun K hK => ?h14) ?n14
   case h14 =>
    (refine kA rfl (by simp (disch := omega) only [iA,aA,qop,fop,St.ev,St.put,cd,zd,Value.oneCell',lA,TypeDesc.aggB,Z0,mA,nA,Zh] <;> exact rfl) ?_)
    refine bA ?_
    exact hK
   refine jA ?_
   refine bC ?_
   exact zC rfl (zB rfl (by first | rfl | (first | (refine jf ?_; rintro rfl; exact hc4 rfl) | (refine jf ?_; rintro rfl; exact hc2 rfl) | (refine jf ?_; rintro rfl; exact hc0 rfl) | exact jt (vD hc0 he (by omega)))))
theorem c24 (t : Tr) : ACalls Try.prog 24 [trP t] (.p (bv (decide (t.lv.length ≤ 12 ∧ t.size ≤ 100 ∧ ∀ r ∈ t.lv,r.length ≤ 100)))) := by
 refine wC oC Try.func24 (c := _) rfl (by kernel_rfl) ?_
 intro X hP hX hro hpl
 have hb : tb.Ok X.P := hP ▸ oC
 change AW X _ _ ⟨[],[.agg [i64 t.size,i64 t.leaf,iE t.lv],.any,.any,.any,.any,.any,.any,.any,.any,.any,.any,.any,.any,.any,.any,.any,.any,.any,.any,.any,.any,.any,.any,.any,.any,.any,.any],[],[]⟩
 refine cA ?_
 refine gA hX hb [0,1] rfl (σ' := ?s1) (fun K hK => ?h1) ?n1
 case h1 =>
  iterate 2 (refine kA rfl (by simp (disch := omega) only [iA,aA,qop,fop,St.ev,St.put,cd,zd,Value.oneCell',lA,TypeDesc.aggB,Z0,ZM,ZL,Zl,Zo,ZG,ZH,St.addBox,D.boxCells,D.live,tt,mA,Zh] <;> exact rfl) ?_)
  refine bA ?_
  exact hK
 refine jA ?_
 refine cA ?_
 refine cA ?_
 refine vE hX hb [0,1,2,3,4,5,6,7,8] rfl (ts := [4,5,6,7,8,9,10,11]) (t := 12) (d := .p (bv ((12 : Int) < t.lv.length ∨ 100 < t.size))) (σ' := ?s2) ?j2 ?h2 ?n2
 case j2 => simp only [St.join,List.foldl,Za,Zb]; exact rfl
 case h2 =>
  iterate 5 (all_goals refine kA rfl (by simp (disch := omega) only [iA,aA,qop,fop,St.ev,St.put,cd,zd,Value.oneCell',lA,TypeDesc.aggB,Z0,fA,oA,Z1,pA,qA,tA,eA,D.pure?,ZC,ZD,vC,cB,iop,tt,mA,Zh] <;> exact rfl) ?_)
  iterate 3 (all_goals first | (refine lC rfl rfl rfl (by simp (disch := omega) only [iA,aA,qop,fop,St.ev,St.put,cd,zd,Value.oneCell',lA,TypeDesc.aggB,Z0,fA,oA,Z1,pA,qA,tA,eA,D.pure?,ZC,ZD,vC,cB,iop,tt,mA,Zh] <;> exact rfl) ?_) | (first | (refine eC rfl rfl rfl (by simp only [St.put,Za,Zb] <;> exact rfl) ?_) | (refine fC rfl rfl rfl (by simp only [St.put,Za,Zb] <;> exact rfl) ?_)) | (refine cC rfl rfl rfl (by simp only [Za,Zb] <;> exact rfl) (by simp only [Za,Zb] <;> exact rfl) (fun hg => ?_) (fun hg => ?_) <;> (try simp only [Zp,Zi,ZJ,ZK,ne_eq,Zn,Zm,Bool.not_eq_true,Zu] at hg) <;> first | (refine lC rfl rfl rfl (by simp (disch := omega) only [iA,aA,qop,fop,St.ev,St.put,cd,zd,Value.oneCell',lA,TypeDesc.aggB,Z0,fA,oA,Z1,pA,qA,tA,eA,D.pure?,ZC,ZD,vC,cB,iop,tt,mA,Zh] <;> exact rfl) ?_) | (first | (refine eC rfl rfl rfl (by simp only [St.put,Za,Zb] <;> exact rfl) ?_) | (refine fC rfl rfl rfl (by simp only [St.put,Za,Zb] <;> exact rfl) ?_))))
  (all_goals refine kA rfl (by simp (disch := omega) only [iA,aA,qop,fop,St.ev,St.put,cd,zd,Value.oneCell',lA,TypeDesc.aggB,Z0,fA,oA,Z1,pA,qA,tA,eA,D.pure?,ZC,ZD,vC,cB,iop,tt,mA,Zh] <;> exact rfl) ?_)
  all_goals refine bA ?_
  all_goals refine ⟨rfl,?_,xD _,yD _,rfl,rfl⟩
  all_goals repeat' (first | exact sA | refine mB ?_ | refine vA rfl ?_ | refine vA ?_ ?_)
  all_goals refine jn ?_
  all_goals ((try simp only [Zp,Zi,ZJ,ZK,Bool.not_eq_true,Zm,Zn,ne_eq,Zf,true_iff,false_iff,iff_true,iff_false] at *) <;> omega)
 refine jA ?_
 refine oB _ rfl (fun hc0 => ?_) (fun hc0 => ?_)
 ·try simp only [Zp,Zi,ZK,ZJ,ne_eq,Zn,Zm,ZB,ZA,ZI,not_or,not_and,Zu] at hc0
  refine cA ?_
  refine gA hX hb [0] rfl (σ' := ?s3) (fun K hK => ?h3) ?n3
  case h3 =>
   (refine kA rfl (by simp (disch := omega) only [iA,aA,qop,fop,St.ev,St.put,cd,zd,Value.oneCell',lA,TypeDesc.aggB,Z0,mA,Zh] <;> exact rfl) ?_)
   refine bA ?_
   exact hK
  refine jA ?_
  refine bC ?_
  refine tC ?_
  exact zC rfl (zB rfl (by first | rfl | (first | (refine jf ?_; rintro ⟨h1,h2,_⟩; omega) | (refine jf ?_; intro h; have := h.2.2 _ (qE t.lv [] i (by omega)); omega) | (refine jt ?_; refine ⟨by omega,by omega,?_⟩; rw [List.take_of_length_le (by omega)] at he; exact he))))
 ·try simp only [Zp,Zi,ZK,ZJ,ne_eq,Zn,Zm,ZB,ZA,ZI,not_or,not_and,Zu] at hc0
  refine uB ?_
  refine jA ?_
  refine cA ?_
  refine cA ?_
  refine gA hX hb [0] rfl (σ' := ?s4) (fun K hK => ?h4) ?n4
  case h4 =>
   (refine kA rfl (by simp (disch := omega) only [iA,aA,qop,fop,St.ev,St.put,cd,zd,Value.oneCell',lA,TypeDesc.aggB,Z0,mA,Zh] <;> exact rfl) ?_)
   refine bA ?_
   exact hK
  refine jA ?_
  refine tB ?_
  refine rD (ι := Nat) (fun i => i ≤ t.lv.length ∧ ∀ r ∈ t.lv.take i,r.length ≤ 100) (fun i => ⟨[],[.any,.ptr 0 0,.any,.p (i64 i),.any,.any,.any,.any,.any,.any,.any,.any,.any,.any,.any,.any,.any,.any,.any,.any,.any,.any,.any,.any,.any,.any,.any],[⟨26,[.p (i64 t.size),.p (i64 t.leaf),.p (iE t.lv)]⟩],[]⟩) (fun i => t.lv.length - i) 0 (by exact ⟨Nat.zero_le _,fun r hr => by simp at hr⟩) (rC ⟨rfl,(by repeat first | exact sA | refine mB ?_ | refine vA rfl ?_),(pC rfl (vA rfl (vA rfl (vA rfl (sA)))) (xB _)),(yB _),rfl,rfl⟩) ?_
  rintro i ⟨hi,he⟩
  refine cA ?_
  refine cA ?_
  refine gA hX hb [0,1,2,3,4] rfl (σ' := ?s5) (fun K hK => ?h5) ?n5
  case h5 =>
   iterate 5 (refine kA rfl (by simp (disch := omega) only [iA,aA,qop,fop,St.ev,St.put,cd,zd,Value.oneCell',lA,TypeDesc.aggB,Z0,fA,oA,Z1,pA,qA,tA,eA,D.pure?,ZC,ZD,vC,cB,iop,tt,mA,Zh] <;> exact rfl) ?_)
   refine bA ?_
   exact hK
  refine jA ?_
  refine oB _ rfl (fun hc1 => ?_) (fun hc1 => ?_)
  ·try simp only [Zp,Zi,ZK,ZJ,ne_eq,Zn,Zm,ZB,ZA,ZI,not_or,not_and,Zu] at hc1
   refine uB ?_
   refine jA ?_
   refine cA ?_
   refine tB ?_
   refine cA ?_
   refine gA hX hb [0,1,2,3,4,5,6] rfl (σ' := ?s6) (fun K hK => ?h6) ?n6
   case h6 =>
    iterate 7 (refine kA rfl (by simp (disch := omega) only [iA,aA,qop,fop,St.ev,St.put,cd,zd,Value.oneCell',lA,TypeDesc.aggB,Z0,fA,oA,Z1,pA,qA,tA,eA,D.pure?,ZC,ZD,Int.toNat_zero,Int.toNat_one,xA,yA,wA,ZO,Nat.mul_one,Nat.zero_mul,Zh,vC,cB,iop,tt,mA] <;> exact rfl) ?_)
    refine bA ?_
    exact hK
   refine jA ?_
   refine oB _ rfl (fun hc2 => ?_) (fun hc2 => ?_)
   ·try simp only [Zp,Zi,ZK,ZJ,ne_eq,Zn,Zm,ZB,ZA,ZI,not_or,not_and,Zu] at hc2
    refine cA ?_
    refine gA hX hb [0] rfl (σ' := ?s7) (fun K hK => ?h7) ?n7
    case h7 =>
     (refine kA rfl (by simp (disch := omega) only [iA,aA,qop,fop,St.ev,St.put,cd,zd,Value.oneCell',lA,TypeDesc.aggB,Z0,mA,Zh] <;> exact rfl) ?_)
     refine bA ?_
     exact hK
    refine jA ?_
    refine bC ?_
    refine xE ?_
    refine tC ?_
    refine tC ?_
    refine xE ?_
    refine tC ?_
    exact zC rfl (zB rfl (by first | rfl | (first | (refine jf ?_; rintro ⟨h1,h2,_⟩; omega) | (refine jf ?_; intro h; have := h.2.2 _ (qE t.lv [] i (by omega)); omega) | (refine jt ?_; refine ⟨by omega,by omega,?_⟩; rw [List.take_of_length_le (by omega)] at he; exact he))))
   ·try simp only [Zp,Zi,ZK,ZJ,ne_eq,Zn,Zm,ZB,ZA,ZI,not_or,not_and,Zu] at hc2
    refine uB ?_
    refine cE ?_
    refine jA ?_
    refine gA hX hb [0,1,2] rfl (σ' := ?s8) (fun K hK => ?h8) ?n8
    case h8 =>
     iterate 3 (refine kA rfl (by simp (disch := omega) only [iA,aA,qop,fop,St.ev,St.put,cd,zd,Value.oneCell',lA,TypeDesc.aggB,Z0,cB,iop,tt,mA,Zh] <;> exact rfl) ?_)
     refine bA ?_
     exact hK
    refine jA ?_
    exact ⟨i + 1,by refine ⟨by omega,fun r hr => ?_⟩; rw [eE _ i (by omega)] at hr; rcases List.mem_append.1 hr with hr | hr; exact he r hr; simp only [List.mem_singleton] at hr; subst hr; omega,by (try dsimp only); omega,rC ⟨rfl,(by repeat first | exact sA | refine mB ?_ | refine vA rfl ?_),(pC rfl (vA rfl (vA rfl (vA rfl (sA)))) (xB _)),(yB _),rfl,rfl⟩⟩
  ·try simp only [Zp,Zi,ZK,ZJ,ne_eq,Zn,Zm,ZB,ZA,ZI,not_or,not_and,Zu] at hc1
   refine oD ?_
   refine fD ?_
   refine fD ?_
   refine zE ?_
   refine jA ?_
   refine cA ?_
   refine gA hX hb [0] rfl (σ' := ?s9) (fun K hK => ?h9) ?n9
   case h9 =>
    (refine kA rfl (by simp (disch := omega) only [iA,aA,qop,fop,St.ev,St.put,cd,zd,Value.oneCell',lA,TypeDesc.aggB,Z0,mA,Zh] <;> exact rfl) ?_)
    refine bA ?_
    exact hK
   refine jA ?_
   refine bC ?_
   exact zC rfl (zB rfl (by first | rfl | (first | (refine jf ?_; rintro ⟨h1,h2,_⟩; omega) | (refine jf ?_; intro h; have := h.2.2 _ (qE t.lv [] i (by omega)); omega) | (refine jt ?_; refine ⟨by omega,by omega,?_⟩; rw [List.take_of_length_le (by omega)] at he; exact he))))
end Go.Proofs.Ytldcoekbgfaomaa
end
section
namespace Go.Proofs.Ytldcoekbgfaomaa
open Go.RowKit
set_option maxRecDepth 20000
set_option maxHeartbeats 4000000
attribute [local irreducible] kE sD AW
theorem c22 (l : List (List Int)) (leaf : Int) : ACalls Try.prog 22 [.p (yN l),.p (i64 leaf)] (.tup [trP (kG l leaf).1,.p (i64 (kG l leaf).2)]) := by
 refine wC oC Try.func22 (c := _) rfl (by kernel_rfl) ?_
 intro X hP hX hro hpl
 have hb : tb.Ok X.P := hP ▸ oC
 change AW X _ _ ⟨[],[.p (yN l),.p (i64 leaf),.any,.any,.any,.any,.any,.any,.any,.any,.any,.any,.any,.any,.any,.any,.any,.any,.any,.any,.any,.any,.any,.any,.any,.any,.any,.any,.any,.any,.any,.any,.any,.any,.any,.any,.any,.any,.any,.any,.any,.any,.any,.any,.any],[],[]⟩
 refine jI (t := 0) rfl fun hl => ?_
 unfold maxLen at hl
 refine cA ?_
 refine gA hX hb [0,1] rfl (σ' := ?s1) (fun K hK => ?h1) ?n1
 case h1 =>
  iterate 2 (refine kA rfl (by simp (disch := omega) only [iA,aA,qop,fop,St.ev,St.put,cd,zd,Value.oneCell',lA,TypeDesc.aggB,Z0,ZM,ZL,Zl,Zo,ZG,ZH,St.addBox,Value.cells,tt,Zh] <;> exact rfl) ?_)
  refine bA ?_
  exact hK
 refine jA ?_
 refine cA ?_
 refine cA ?_
 refine vE hX hb [0,1,2,3,4,5,6,7] rfl (ts := [8,9,10,11,12,13,14]) (t := 15) (d := .p (bv (l.length < 1 ∨ 4096 < l.length))) (σ' := ?s2) ?j2 ?h2 ?n2
 case j2 => simp only [St.join,List.foldl,Za,Zb]; exact rfl
 case h2 =>
  iterate 4 (all_goals refine kA rfl (by simp (disch := omega) only [iA,aA,qop,fop,St.ev,St.put,cd,zd,Value.oneCell',lA,TypeDesc.aggB,Z0,vC,cB,iop,tt,Zh] <;> exact rfl) ?_)
  iterate 3 (all_goals first | (refine lC rfl rfl rfl (by simp (disch := omega) only [iA,aA,qop,fop,St.ev,St.put,cd,zd,Value.oneCell',lA,TypeDesc.aggB,Z0,vC,cB,iop,tt,Zh] <;> exact rfl) ?_) | (first | (refine eC rfl rfl rfl (by simp only [St.put,Za,Zb] <;> exact rfl) ?_) | (refine fC rfl rfl rfl (by simp only [St.put,Za,Zb] <;> exact rfl) ?_)) | (refine cC rfl rfl rfl (by simp only [Za,Zb] <;> exact rfl) (by simp only [Za,Zb] <;> exact rfl) (fun hg => ?_) (fun hg => ?_) <;> (try simp only [Zp,Zi,ZJ,ZK,ne_eq,Zn,Zm,Bool.not_eq_true,Zu] at hg) <;> first | (refine lC rfl rfl rfl (by simp (disch := omega) only [iA,aA,qop,fop,St.ev,St.put,cd,zd,Value.oneCell',lA,TypeDesc.aggB,Z0,vC,cB,iop,tt,Zh] <;> exact rfl) ?_) | (first | (refine eC rfl rfl rfl (by simp only [St.put,Za,Zb] <;> exact rfl) ?_) | (refine fC rfl rfl rfl (by simp only [St.put,Za,Zb] <;> exact rfl) ?_))))
  (all_goals refine kA rfl (by simp (disch := omega) only [iA,aA,qop,fop,St.ev,St.put,cd,zd,Value.oneCell',lA,TypeDesc.aggB,Z0,vC,cB,iop,tt,Zh] <;> exact rfl) ?_)
  all_goals refine bA ?_
  all_goals refine ⟨rfl,?_,xD _,yD _,rfl,rfl⟩
  all_goals repeat' (first | exact sA | refine mB ?_ | refine vA rfl ?_ | refine vA ?_ ?_)
  all_goals refine jn ?_
  all_goals ((try simp only [Zp,Zi,ZJ,ZK,Bool.not_eq_true,Zm,Zn,ne_eq,Zf,true_iff,false_iff,iff_true,iff_false] at *) <;> omega)
 refine jA ?_
 refine oB _ rfl (fun hc0 => ?_) (fun hc0 => ?_)
 ·try simp only [Zp,Zi,ZK,ZJ,ne_eq,Zn,Zm,ZB,ZA,ZI,not_or,not_and,Zu] at hc0
  refine cA ?_
  refine gA hX hb [0,1,2] rfl (σ' := ?s3) (fun K hK => ?h3) ?n3
  case h3 =>
   iterate 3 (refine kA rfl (by simp (disch := omega) only [iA,aA,qop,fop,St.ev,St.put,cd,zd,Value.oneCell',lA,TypeDesc.aggB,Z0,aE,cD,mC,aC,D.cell1,fB,gB,iB,jB,kB,List.all_cons,List.all_nil,uC,TI.place,TI.zeros,TI.kindOk,D.cells?,D.pure?,zp,Value.cells,ZQ,ZP,Z1,iC,D.boxCells,D.live,ZM,ZL,ZN,ZG,ZH,St.setVec,ZC,tt,Zh] <;> exact rfl) ?_)
   refine bA ?_
   exact hK
  refine jA ?_
  refine bC ?_
  refine tC ?_
  exact zC rfl (oE (by simp only [mE,pA,qA,lA,TypeDesc.aggB,eA,D.pure?,D.pv?,pB,qB,Zd,Zc,Zw,Zk,Zv,Zj,Zx,Zl,Zo,Zr,reduceIte,Nat.reduceAdd,Nat.reduceLeDiff,Zg,Zf,tt] <;> exact rfl) rfl (by first | rfl | (first | (rw [kG,if_pos hc0]; rfl) | (rw [kG,if_neg (by omega),if_pos hc1]; rfl) | (rw [kG,if_neg (by omega),if_neg (by omega),hds,List.take_of_length_le (by rw [nK]; omega)]; rfl))))
 ·try simp only [Zp,Zi,ZK,ZJ,ne_eq,Zn,Zm,ZB,ZA,ZI,not_or,not_and,Zu] at hc0
  refine uB ?_
  refine jA ?_
  refine cA ?_
  refine cA ?_
  refine vE hX hb [0,1,2,3,4,5] rfl (ts := [17,18,19,20,21]) (t := 22) (d := .p (bv (leaf < 1 ∨ 4096 < leaf))) (σ' := ?s4) ?j4 ?h4 ?n4
  case j4 => simp only [St.join,List.foldl,Za,Zb]; exact rfl
  case h4 =>
   iterate 3 (all_goals refine kA rfl (by simp (disch := omega) only [iA,aA,qop,fop,St.ev,St.put,cd,zd,Value.oneCell',lA,TypeDesc.aggB,Z0,cB,iop,tt,Zh] <;> exact rfl) ?_)
   iterate 2 (all_goals first | (refine lC rfl rfl rfl (by simp (disch := omega) only [iA,aA,qop,fop,St.ev,St.put,cd,zd,Value.oneCell',lA,TypeDesc.aggB,Z0,cB,iop,tt,Zh] <;> exact rfl) ?_) | (first | (refine eC rfl rfl rfl (by simp only [St.put,Za,Zb] <;> exact rfl) ?_) | (refine fC rfl rfl rfl (by simp only [St.put,Za,Zb] <;> exact rfl) ?_)) | (refine cC rfl rfl rfl (by simp only [Za,Zb] <;> exact rfl) (by simp only [Za,Zb] <;> exact rfl) (fun hg => ?_) (fun hg => ?_) <;> (try simp only [Zp,Zi,ZJ,ZK,ne_eq,Zn,Zm,Bool.not_eq_true,Zu] at hg) <;> first | (refine lC rfl rfl rfl (by simp (disch := omega) only [iA,aA,qop,fop,St.ev,St.put,cd,zd,Value.oneCell',lA,TypeDesc.aggB,Z0,cB,iop,tt,Zh] <;> exact rfl) ?_) | (first | (refine eC rfl rfl rfl (by simp only [St.put,Za,Zb] <;> exact rfl) ?_) | (refine fC rfl rfl rfl (by simp only [St.put,Za,Zb] <;> exact rfl) ?_))))
   (all_goals refine kA rfl (by simp (disch := omega) only [iA,aA,qop,fop,St.ev,St.put,cd,zd,Value.oneCell',lA,TypeDesc.aggB,Z0,cB,iop,tt,Zh] <;> exact rfl) ?_)
   all_goals refine bA ?_
   all_goals refine ⟨rfl,?_,xD _,yD _,rfl,rfl⟩
   all_goals repeat' (first | exact sA | refine mB ?_ | refine vA rfl ?_ | refine vA ?_ ?_)
   all_goals refine jn ?_
   all_goals ((try simp only [Zp,Zi,ZJ,ZK,Bool.not_eq_true,Zm,Zn,ne_eq,Zf,true_iff,false_iff,iff_true,iff_false] at *) <;> omega)
  refine jA ?_
  refine oB _ rfl (fun hc1 => ?_) (fun hc1 => ?_)
  ·try simp only [Zp,Zi,ZK,ZJ,ne_eq,Zn,Zm,ZB,ZA,ZI,not_or,not_and,Zu] at hc1
   refine cA ?_
   refine gA hX hb [0,1,2] rfl (σ' := ?s5) (fun K hK => ?h5) ?n5
   case h5 =>
    iterate 3 (refine kA rfl (by simp (disch := omega) only [iA,aA,qop,fop,St.ev,St.put,cd,zd,Value.oneCell',lA,TypeDesc.aggB,Z0,aE,cD,mC,aC,D.cell1,fB,gB,iB,jB,kB,List.all_cons,List.all_nil,uC,TI.place,TI.zeros,TI.kindOk,D.cells?,D.pure?,zp,Value.cells,ZQ,ZP,Z1,iC,D.boxCells,D.live,ZM,ZL,ZN,ZG,ZH,St.setVec,ZC,tt,Zh] <;> exact rfl) ?_)
    refine bA ?_
    exact hK
   refine jA ?_
   refine bC ?_
   refine tC ?_
   exact zC rfl (oE (by simp only [mE,pA,qA,lA,TypeDesc.aggB,eA,D.pure?,D.pv?,pB,qB,Zd,Zc,Zw,Zk,Zv,Zj,Zx,Zl,Zo,Zr,reduceIte,Nat.reduceAdd,Nat.reduceLeDiff,Zg,Zf,tt] <;> exact rfl) rfl (by first | rfl | (first | (rw [kG,if_pos hc0]; rfl) | (rw [kG,if_neg (by omega),if_pos hc1]; rfl) | (rw [kG,if_neg (by omega),if_neg (by omega),hds,List.take_of_length_le (by rw [nK]; omega)]; rfl))))
  ·try simp only [Zp,Zi,ZK,ZJ,ne_eq,Zn,Zm,ZB,ZA,ZI,not_or,not_and,Zu] at hc1
   obtain ⟨n,hn⟩ : ∃ n : Nat,leaf = n := ⟨leaf.toNat,by omega⟩
   subst hn
   have hnl := pJ (s := l.length) (n := n) (by omega)
   refine uB ?_
   refine jA ?_
   refine cA ?_
   refine gA hX hb [0] rfl (σ' := ?s6) (fun K hK => ?h6) ?n6
   case h6 =>
    (refine kA rfl (by simp (disch := omega) only [iA,aA,qop,fop,St.ev,St.put,cd,zd,Value.oneCell',lA,TypeDesc.aggB,Z0,Zh] <;> exact rfl) ?_)
    refine bA ?_
    exact hK
   refine jA ?_
   refine nJ 6 58 1 rfl (σ' := ?s7) ?h7 ?n7
   case h7 => simp only [St.nilSlot,St.addVec,Za,Zb,Zl,Zo,ZL,ZM]; exact rfl
   refine cA ?_
   refine cA ?_
   refine gA hX hb [0] rfl (σ' := ?s8) (fun K hK => ?h8) ?n8
   case h8 =>
    (refine kA rfl (by simp (disch := omega) only [iA,aA,qop,fop,St.ev,St.put,cd,zd,Value.oneCell',lA,TypeDesc.aggB,Z0,Zh] <;> exact rfl) ?_)
    refine bA ?_
    exact hK
   refine jA ?_
   refine tB ?_
   refine rD (ι := Nat × List Int) (fun p => p.1 ≤ wD l.length n ∧ p.2 = (bU l n).take p.1) (fun p => ⟨[],[.p (yN l),.p (i64 n),.any,.any,.ptr 0 0,.p (i64 0),.vref 0,.p (i64 p.1),.any,.any,.any,.any,.any,.any,.any,.any,.any,.any,.any,.any,.any,.any,.any,.any,.any,.any,.any,.any,.any,.any,.any,.any,.any,.any,.any,.any,.any,.any,.any,.any,.any,.any,.any,.any,.any],[⟨26,[.p (i64 0),.p (i64 0),.nil]⟩],[some ⟨58,1,p.2.length,p.2.map u64⟩]⟩) (fun p => wD l.length n - p.1) (0,[]) (by exact ⟨Nat.zero_le _,rfl⟩) (rC ⟨rfl,(by repeat first | exact sA | refine mB ?_ | refine vA (by first | rfl | (simp)) ?_),(pC rfl (vA (by first | rfl | (simp)) (vA (by first | rfl | (simp)) (vA (by first | rfl | (simp)) (sA)))) (xB _)),(jE (by first | rfl | (simp)) (yB _)),rfl,rfl⟩) ?_
   rintro ⟨i,ds⟩ ⟨hi,hds⟩
   dsimp only at hi hds ⊢
   have hdl : ds.length = i := by rw [hds,List.length_take,nK]; omega
   refine cA ?_
   refine cA ?_
   refine gA hX hb [0,1,2,3,4,5] rfl (σ' := ?s9) (fun K hK => ?h9) ?n9
   case h9 =>
    iterate 4 (refine kA rfl (by simp (disch := omega) only [iA,aA,qop,fop,St.ev,St.put,cd,zd,Value.oneCell',lA,TypeDesc.aggB,Z0,vC,uA,D.pv?,cB,iop,tt,Zh] <;> exact rfl) ?_)
    refine mD rfl (by simp only [aA,St.ev,pB,qB,uA,D.pv?,ZG,ZH,zd,cd,Value.oneCell',Zr] <;> exact rfl) (acK hP (c68 l.length n (by omega) (by omega))) (by simp only [St.put,Za,Zb] <;> exact rfl) ?_
    (refine kA rfl (by simp (disch := omega) only [iA,aA,qop,fop,St.ev,St.put,cd,zd,Value.oneCell',lA,TypeDesc.aggB,Z0,vC,uA,D.pv?,cB,iop,tt,Zh] <;> exact rfl) ?_)
    refine bA ?_
    exact hK
   refine jA ?_
   refine oB _ rfl (fun hc2 => ?_) (fun hc2 => ?_)
   ·try simp only [Zp,Zi,ZK,ZJ,ne_eq,Zn,Zm,ZB,ZA,ZI,not_or,not_and,Zu] at hc2
    refine uB ?_
    refine jA ?_
    refine cA ?_
    refine tB ?_
    have hil : i < wD l.length n := by omega
    refine gA hX hb [0,1,2,3,4,5,6,7,8] rfl (σ' := ?s10) (fun K hK => ?h10) ?n10
    case h10 =>
     iterate 4 (refine kA rfl (by simp (disch := omega) only [iA,aA,qop,fop,St.ev,St.put,cd,zd,Value.oneCell',lA,TypeDesc.aggB,Z0,uA,D.pv?,zD,aD,bD,bE,bB,rB,D.cells?,D.pure?,fB,gB,iB,jB,kB,ZG,ZH,ZL,ZM,ZN,Zl,Zo,aB,Nat.reduceAdd,Nat.reduceMul,nD,cG,St.demote,D.demote,St.setVec,Zh,List.length_append,ZC,Nat.mul_one,reduceIte,tt] <;> exact rfl) ?_)
     refine mD rfl (by simp only [aA,St.ev,pB,qB,uA,D.pv?,ZG,ZH,zd,cd,Value.oneCell',Zr] <;> exact rfl) (acK hP (c69 l n i (by omega) (by omega) (Nat.le_of_lt (vN (by omega) hil)))) (by simp only [St.put,Za,Zb] <;> exact rfl) ?_
     refine mD rfl (by simp only [aA,St.ev,pB,qB,uA,D.pv?,ZG,ZH,zd,cd,Value.oneCell',Zr] <;> exact rfl) (acK hP (c62 _ (by rw [aI,List.length_take]; omega))) (by simp only [St.put,Za,Zb] <;> exact rfl) ?_
     iterate 3 (refine kA rfl (by simp (disch := omega) only [iA,aA,qop,fop,St.ev,St.put,cd,zd,Value.oneCell',lA,TypeDesc.aggB,Z0,uA,D.pv?,zD,aD,bD,bE,bB,rB,D.cells?,D.pure?,fB,gB,iB,jB,kB,ZG,ZH,ZL,ZM,ZN,Zl,Zo,aB,Nat.reduceAdd,Nat.reduceMul,nD,cG,St.demote,D.demote,St.setVec,Zh,List.length_append,ZC,Nat.mul_one,reduceIte,tt] <;> exact rfl) ?_)
     refine bA ?_
     exact hK
    refine cE ?_
    refine jA ?_
    refine gA hX hb [0,1,2] rfl (σ' := ?s11) (fun K hK => ?h11) ?n11
    case h11 =>
     iterate 3 (refine kA rfl (by simp (disch := omega) only [iA,aA,qop,fop,St.ev,St.put,cd,zd,Value.oneCell',lA,TypeDesc.aggB,Z0,cB,iop,tt,Zh] <;> exact rfl) ?_)
     refine bA ?_
     exact hK
    refine jA ?_
    exact ⟨(i + 1,ds ++ [pH (aI l n i)]),by exact ⟨by dsimp only; omega,by dsimp only; rw [hds]; exact (zH (fun i => pH (aI l n i)) _ i hil).symm⟩,by (try dsimp only); omega,rC ⟨rfl,(by repeat first | exact sA | refine mB ?_ | refine vA (by first | rfl | (simp)) ?_),(pC rfl (vA (by first | rfl | (simp)) (vA (by first | rfl | (simp)) (vA (by first | rfl | (simp)) (sA)))) (xB _)),(jE (by first | rfl | (simp)) (yB _)),rfl,rfl⟩⟩
   ·try simp only [Zp,Zi,ZK,ZJ,ne_eq,Zn,Zm,ZB,ZA,ZI,not_or,not_and,Zu] at hc2
    refine oD ?_
    refine fD ?_
    refine fD ?_
    refine zE ?_
    refine jA ?_
    refine cA ?_
    refine nH 0 rfl (σ' := ?s13) ?h13 ?n13
    case h13 => simp only [St.freeze,D.freeze,ZG,ZH,Za,Zb,Zr,reduceIte,Nat.reduceEqDiff]; exact rfl
    refine gA hX hb [0,1,2,3,4,5,6] rfl (σ' := ?s12) (fun K hK => ?h12) ?n12
    case h12 =>
     iterate 4 (refine kA rfl (by simp (disch := omega) only [iA,aA,qop,fop,St.ev,St.put,cd,zd,Value.oneCell',lA,TypeDesc.aggB,Z0,vC,uA,D.pv?,iC,D.boxCells,D.live,D.cells?,D.pure?,ZM,ZL,ZN,Z1,ZG,ZH,St.setVec,ZC,tt,Zh] <;> exact rfl) ?_)
     refine mD rfl (by simp only [aA,St.ev,pB,qB,uA,D.pv?,ZG,ZH,zd,cd,Value.oneCell',Zr] <;> exact rfl) (acK hP (c70 l.length n ds (by omega))) (by simp only [St.put,Za,Zb] <;> exact rfl) ?_
     iterate 2 (refine kA rfl (by simp (disch := omega) only [iA,aA,qop,fop,St.ev,St.put,cd,zd,Value.oneCell',lA,TypeDesc.aggB,Z0,vC,uA,D.pv?,iC,D.boxCells,D.live,D.cells?,D.pure?,ZM,ZL,ZN,Z1,ZG,ZH,St.setVec,ZC,tt,Zh] <;> exact rfl) ?_)
     refine bA ?_
     exact hK
    refine jA ?_
    refine bC ?_
    exact zC rfl (oE (by simp only [mE,pA,qA,lA,TypeDesc.aggB,eA,D.pure?,D.pv?,pB,qB,Zd,Zc,Zw,Zk,Zv,Zj,Zx,Zl,Zo,Zr,reduceIte,Nat.reduceAdd,Nat.reduceLeDiff,Zg,Zf,tt] <;> exact rfl) rfl (by first | rfl | (first | (rw [kG,if_pos hc0]; rfl) | (rw [kG,if_neg (by omega),if_pos hc1]; rfl) | (rw [kG,if_neg (by omega),if_neg (by omega),hds,List.take_of_length_le (by rw [nK]; omega)]; rfl))))
end Go.Proofs.Ytldcoekbgfaomaa
end
section
namespace Go.Proofs.Ytldcoekbgfaomaa
open Go.RowKit
set_option maxRecDepth 20000
set_option maxHeartbeats 4000000
attribute [local irreducible] kE sD AW
theorem c34 (t : Tr) : ACalls Try.prog 34 [trP t] (.p (i64 (sC t))) := by
 obtain ⟨s,f,lv⟩ := t
 refine wC oC Try.func34 (c := _) rfl (by kernel_rfl) ?_
 intro X hP hX hro hpl
 have hb : tb.Ok X.P := hP ▸ oC
 change AW X _ _ ⟨[],[.agg [i64 s,i64 f,iE lv],.any,.any,.any,.any,.any,.any,.any,.any,.any,.any,.any,.any,.any,.any,.any,.any,.any,.any,.any,.any,.any,.any,.any,.any,.any,.any,.any,.any,.any,.any,.any,.any,.any,.any,.any,.any,.any,.any,.any,.any,.any,.any,.any,.any,.any,.any,.any,.any,.any,.any,.any,.any,.any,.any,.any,.any,.any,.any,.any,.any,.any,.any,.any,.any,.any,.any,.any,.any,.any,.any,.any,.any,.any,.any,.any,.any,.any,.any,.any,.any,.any,.any,.any,.any,.any,.any,.any],[],[]⟩
 refine cA ?_
 refine gA hX hb [0,1] rfl (σ' := ?s1) (fun K hK => ?h1) ?n1
 case h1 =>
  iterate 2 (refine kA rfl (by simp (disch := omega) only [iA,aA,qop,fop,St.ev,St.put,cd,zd,Value.oneCell',lA,TypeDesc.aggB,Z0,ZM,ZL,Zl,Zo,ZG,ZH,St.addBox,D.boxCells,D.live,tt,mA,Zh,kD] <;> exact rfl) ?_)
  refine bA ?_
  exact hK
 refine jA ?_
 refine cA ?_
 refine cA ?_
 refine vE hX hb [0,1,2,3,4,5,6,7] rfl (ts := [5,6,7,8,9,10,11]) (t := 12) (d := .p (bv (s < 1 ∨ 4096 < s))) (σ' := ?s2) ?j2 ?h2 ?n2
 case j2 => simp only [St.join,List.foldl,Za,Zb]; exact rfl
 case h2 =>
  iterate 4 (all_goals refine kA rfl (by simp (disch := omega) only [iA,aA,qop,fop,St.ev,St.put,cd,zd,Value.oneCell',lA,TypeDesc.aggB,Z0,fA,oA,Z1,pA,qA,tA,eA,D.pure?,ZC,ZD,cB,iop,tt,mA,Zh,kD] <;> exact rfl) ?_)
  iterate 3 (all_goals first | (refine lC rfl rfl rfl (by simp (disch := omega) only [iA,aA,qop,fop,St.ev,St.put,cd,zd,Value.oneCell',lA,TypeDesc.aggB,Z0,fA,oA,Z1,pA,qA,tA,eA,D.pure?,ZC,ZD,cB,iop,tt,mA,Zh,kD] <;> exact rfl) ?_) | (first | (refine eC rfl rfl rfl (by simp only [St.put,Za,Zb] <;> exact rfl) ?_) | (refine fC rfl rfl rfl (by simp only [St.put,Za,Zb] <;> exact rfl) ?_)) | (refine cC rfl rfl rfl (by simp only [Za,Zb] <;> exact rfl) (by simp only [Za,Zb] <;> exact rfl) (fun hg => ?_) (fun hg => ?_) <;> (try simp only [Zp,Zi,ZJ,ZK,ne_eq,Zn,Zm,Bool.not_eq_true,Zu] at hg) <;> first | (refine lC rfl rfl rfl (by simp (disch := omega) only [iA,aA,qop,fop,St.ev,St.put,cd,zd,Value.oneCell',lA,TypeDesc.aggB,Z0,fA,oA,Z1,pA,qA,tA,eA,D.pure?,ZC,ZD,cB,iop,tt,mA,Zh,kD] <;> exact rfl) ?_) | (first | (refine eC rfl rfl rfl (by simp only [St.put,Za,Zb] <;> exact rfl) ?_) | (refine fC rfl rfl rfl (by simp only [St.put,Za,Zb] <;> exact rfl) ?_))))
  (all_goals refine kA rfl (by simp (disch := omega) only [iA,aA,qop,fop,St.ev,St.put,cd,zd,Value.oneCell',lA,TypeDesc.aggB,Z0,fA,oA,Z1,pA,qA,tA,eA,D.pure?,ZC,ZD,cB,iop,tt,mA,Zh,kD] <;> exact rfl) ?_)
  all_goals refine bA ?_
  all_goals refine ⟨rfl,?_,xD _,yD _,rfl,rfl⟩
  all_goals repeat' (first | exact sA | refine mB ?_ | refine vA rfl ?_ | refine vA ?_ ?_)
  all_goals refine jn ?_
  all_goals ((try simp only [Zp,Zi,ZJ,ZK,Bool.not_eq_true,Zm,Zn,ne_eq,Zf,true_iff,false_iff,iff_true,iff_false] at *) <;> omega)
 refine jA ?_
 refine oB _ rfl (fun hc0 => ?_) (fun hc0 => ?_)
 ·try simp only [Zp,Zi,ZK,ZJ,ne_eq,Zn,Zm,ZB,ZA,ZI,not_or,not_and,Zu] at hc0
  refine cA ?_
  refine gA hX hb [0] rfl (σ' := ?s3) (fun K hK => ?h3) ?n3
  case h3 =>
   (refine kA rfl (by simp (disch := omega) only [iA,aA,qop,fop,St.ev,St.put,cd,zd,Value.oneCell',lA,TypeDesc.aggB,Z0,t2,ti2,mA,Zh,kD] <;> exact rfl) ?_)
   refine bA ?_
   exact hK
  refine jA ?_
  refine bC ?_
  refine tC ?_
  exact zC rfl (zB rfl (by first | rfl | (first | exact congrArg (fun n => D.p (i64 n)) (bM hc0).symm | exact congrArg (fun n => D.p (i64 n)) (cM (by dsimp only; omega) hc1).symm | exact congrArg (fun n => D.p (i64 n)) (fF (t := ⟨S,F,lv⟩) (by dsimp only; omega) (by dsimp only; omega) (by show shT S F lv = false; rw [shT,hs]; exact fQ (by omega) hc3)).symm | exact congrArg (fun n => D.p (i64 n)) (fF (t := ⟨S,F,lv⟩) (by dsimp only; omega) (by dsimp only; omega) (by show shT S F lv = false; rw [shT,hs,(show i = lv.length by omega),rO]; exact decide_eq_false (not_not_intro hc4))).symm | exact congrArg (fun n => D.p (i64 n)) (xG (t := ⟨S,F,lv⟩) (by dsimp only; omega) (by dsimp only; omega) hsh hc5).symm | exact congrArg (fun n => D.p (i64 n)) (iH (t := ⟨S,F,lv⟩) (by dsimp only; omega) (by dsimp only; omega) hsh hc5).symm)))
 ·try simp only [Zp,Zi,ZK,ZJ,ne_eq,Zn,Zm,ZB,ZA,ZI,not_or,not_and,Zu] at hc0
  refine uB ?_
  refine jA ?_
  refine cA ?_
  refine cA ?_
  refine vE hX hb [0,1,2,3,4,5,6,7] rfl (ts := [13,14,15,16,17,18,19]) (t := 20) (d := .p (bv (f < 1 ∨ 4096 < f))) (σ' := ?s4) ?j4 ?h4 ?n4
  case j4 => simp only [St.join,List.foldl,Za,Zb]; exact rfl
  case h4 =>
   iterate 4 (all_goals refine kA rfl (by simp (disch := omega) only [iA,aA,qop,fop,St.ev,St.put,cd,zd,Value.oneCell',lA,TypeDesc.aggB,Z0,fA,oA,Z1,pA,qA,tA,eA,D.pure?,ZC,ZD,cB,iop,tt,mA,Zh,kD] <;> exact rfl) ?_)
   iterate 3 (all_goals first | (refine lC rfl rfl rfl (by simp (disch := omega) only [iA,aA,qop,fop,St.ev,St.put,cd,zd,Value.oneCell',lA,TypeDesc.aggB,Z0,fA,oA,Z1,pA,qA,tA,eA,D.pure?,ZC,ZD,cB,iop,tt,mA,Zh,kD] <;> exact rfl) ?_) | (first | (refine eC rfl rfl rfl (by simp only [St.put,Za,Zb] <;> exact rfl) ?_) | (refine fC rfl rfl rfl (by simp only [St.put,Za,Zb] <;> exact rfl) ?_)) | (refine cC rfl rfl rfl (by simp only [Za,Zb] <;> exact rfl) (by simp only [Za,Zb] <;> exact rfl) (fun hg => ?_) (fun hg => ?_) <;> (try simp only [Zp,Zi,ZJ,ZK,ne_eq,Zn,Zm,Bool.not_eq_true,Zu] at hg) <;> first | (refine lC rfl rfl rfl (by simp (disch := omega) only [iA,aA,qop,fop,St.ev,St.put,cd,zd,Value.oneCell',lA,TypeDesc.aggB,Z0,fA,oA,Z1,pA,qA,tA,eA,D.pure?,ZC,ZD,cB,iop,tt,mA,Zh,kD] <;> exact rfl) ?_) | (first | (refine eC rfl rfl rfl (by simp only [St.put,Za,Zb] <;> exact rfl) ?_) | (refine fC rfl rfl rfl (by simp only [St.put,Za,Zb] <;> exact rfl) ?_))))
   (all_goals refine kA rfl (by simp (disch := omega) only [iA,aA,qop,fop,St.ev,St.put,cd,zd,Value.oneCell',lA,TypeDesc.aggB,Z0,fA,oA,Z1,pA,qA,tA,eA,D.pure?,ZC,ZD,cB,iop,tt,mA,Zh,kD] <;> exact rfl) ?_)
   all_goals refine bA ?_
   all_goals refine ⟨rfl,?_,xD _,yD _,rfl,rfl⟩
   all_goals repeat' (first | exact sA | refine mB ?_ | refine vA rfl ?_ | refine vA ?_ ?_)
   all_goals refine jn ?_
   all_goals ((try simp only [Zp,Zi,ZJ,ZK,Bool.not_eq_true,Zm,Zn,ne_eq,Zf,true_iff,false_iff,iff_true,iff_false] at *) <;> omega)
  refine jA ?_
  refine oB _ rfl (fun hc1 => ?_) (fun hc1 => ?_)
  ·try simp only [Zp,Zi,ZK,ZJ,ne_eq,Zn,Zm,ZB,ZA,ZI,not_or,not_and,Zu] at hc1
   refine cA ?_
   refine gA hX hb [0] rfl (σ' := ?s5) (fun K hK => ?h5) ?n5
   case h5 =>
    (refine kA rfl (by simp (disch := omega) only [iA,aA,qop,fop,St.ev,St.put,cd,zd,Value.oneCell',lA,TypeDesc.aggB,Z0,t1,ti1,mA,Zh,kD] <;> exact rfl) ?_)
    refine bA ?_
    exact hK
   refine jA ?_
   refine bC ?_
   refine tC ?_
   exact zC rfl (zB rfl (by first | rfl | (first | exact congrArg (fun n => D.p (i64 n)) (bM hc0).symm | exact congrArg (fun n => D.p (i64 n)) (cM (by dsimp only; omega) hc1).symm | exact congrArg (fun n => D.p (i64 n)) (fF (t := ⟨S,F,lv⟩) (by dsimp only; omega) (by dsimp only; omega) (by show shT S F lv = false; rw [shT,hs]; exact fQ (by omega) hc3)).symm | exact congrArg (fun n => D.p (i64 n)) (fF (t := ⟨S,F,lv⟩) (by dsimp only; omega) (by dsimp only; omega) (by show shT S F lv = false; rw [shT,hs,(show i = lv.length by omega),rO]; exact decide_eq_false (not_not_intro hc4))).symm | exact congrArg (fun n => D.p (i64 n)) (xG (t := ⟨S,F,lv⟩) (by dsimp only; omega) (by dsimp only; omega) hsh hc5).symm | exact congrArg (fun n => D.p (i64 n)) (iH (t := ⟨S,F,lv⟩) (by dsimp only; omega) (by dsimp only; omega) hsh hc5).symm)))
  ·try simp only [Zp,Zi,ZK,ZJ,ne_eq,Zn,Zm,ZB,ZA,ZI,not_or,not_and,Zu] at hc1
   obtain ⟨S,hS⟩ : ∃ S : Nat,s = S := ⟨s.toNat,by omega⟩
   subst hS
   obtain ⟨F,hF⟩ : ∃ F : Nat,f = F := ⟨f.toNat,by omega⟩
   subst hF
   have hnl := pJ (s := S) (n := F) (by omega)
   refine iW (Wk.refl _ _) ?_
   refine uB ?_
   refine jA ?_
   refine cA ?_
   refine gA hX hb [0,1,2,3,4,5] rfl (σ' := ?s6) (fun K hK => ?h6) ?n6
   case h6 =>
    iterate 4 (refine kA rfl (by simp (disch := omega) only [iA,aA,qop,fop,St.ev,St.put,cd,zd,Value.oneCell',lA,TypeDesc.aggB,Z0,fA,oA,Z1,pA,qA,tA,eA,D.pure?,ZC,ZD,uA,D.pv?,tt,mA,Zh,kD] <;> exact rfl) ?_)
    refine mD rfl (by simp only [aA,St.ev,pB,qB,uA,D.pv?,ZG,ZH,zd,cd,Value.oneCell',Zr] <;> exact rfl) (acK hP (c68 S F (by omega) (by omega))) (by simp only [St.put,Za,Zb] <;> exact rfl) ?_
    (refine kA rfl (by simp (disch := omega) only [iA,aA,qop,fop,St.ev,St.put,cd,zd,Value.oneCell',lA,TypeDesc.aggB,Z0,fA,oA,Z1,pA,qA,tA,eA,D.pure?,ZC,ZD,uA,D.pv?,tt,mA,Zh,kD] <;> exact rfl) ?_)
    refine bA ?_
    exact hK
   refine jA ?_
   refine cA ?_
   refine cA ?_
   refine gA hX hb [0] rfl (σ' := ?s7) (fun K hK => ?h7) ?n7
   case h7 =>
    (refine kA rfl (by simp (disch := omega) only [iA,aA,qop,fop,St.ev,St.put,cd,zd,Value.oneCell',lA,TypeDesc.aggB,Z0,mA,Zh,kD] <;> exact rfl) ?_)
    refine bA ?_
    exact hK
   refine jA ?_
   refine tB ?_
   refine rD (ι := Nat × Nat) (fun p => p.1 ≤ lv.length ∧ p.2 ≤ 4096 ∧ sh false (wD S F) lv = sh (aJ lv p.1) p.2 (lv.drop p.1)) (fun p => ⟨[],[.any,.ptr 0 0,.any,.p (i64 p.2),.p (i64 p.1),.any,.any,.any,.any,.any,.any,.any,.any,.any,.any,.any,.any,.any,.any,.any,.any,.any,.any,.any,.any,.any,.any,.any,.any,.any,.any,.any,.any,.any,.any,.any,.any,.any,.any,.any,.any,.any,.any,.any,.any,.any,.any,.any,.any,.any,.any,.any,.any,.any,.any,.any,.any,.any,.any,.any,.any,.any,.any,.any,.any,.any,.any,.any,.any,.any,.any,.any,.any,.any,.any,.any,.any,.any,.any,.any,.any,.any,.any,.any,.any,.any,.any,.any],[⟨26,[.p (i64 (S : Int)),.p (i64 (F : Int)),.p (iE lv)]⟩],[]⟩) (fun p => lv.length - p.1) (0,wD S F) (by exact ⟨Nat.zero_le _,by dsimp only; omega,rfl⟩) (rC ⟨rfl,(by repeat first | exact sA | refine mB ?_ | refine vA (by first | rfl | (refine congrArg (fun k => D.p (i64 k)) ?_; dsimp only; omega)) ?_),(pC rfl ((by repeat first | exact sA | refine mB ?_ | refine vA (by first | rfl | (refine congrArg (fun k => D.p (i64 k)) ?_; dsimp only; omega)) ?_)) (xB _)),(yB _),rfl,rfl⟩) ?_
   rintro ⟨i,n⟩ ⟨hi,hn,hs⟩
   dsimp only at hi hn hs ⊢
   refine cA ?_
   refine cA ?_
   refine gA hX hb [0,1,2,3,4] rfl (σ' := ?s8) (fun K hK => ?h8) ?n8
   case h8 =>
    iterate 5 (refine kA rfl (by simp (disch := omega) only [iA,aA,qop,fop,St.ev,St.put,cd,zd,Value.oneCell',lA,TypeDesc.aggB,Z0,fA,oA,Z1,pA,qA,tA,eA,D.pure?,ZC,ZD,vC,cB,iop,tt,mA,Zh,kD] <;> exact rfl) ?_)
    refine bA ?_
    exact hK
   refine jA ?_
   refine oB _ rfl (fun hc2 => ?_) (fun hc2 => ?_)
   ·try simp only [Zp,Zi,ZK,ZJ,ne_eq,Zn,Zm,ZB,ZA,ZI,not_or,not_and,Zu] at hc2
    refine uB ?_
    refine jA ?_
    refine cA ?_
    refine tB ?_
    refine cA ?_
    refine cA ?_
    refine jI (t := 28) rfl fun hll => ?_
    unfold maxLen at hll
    refine vE hX hb [0,1,2,3,4,5,6,7,8,9,10,11,12,13,14,15,16,17,18,19,20,21] rfl (ts := [33,34,35,36,37,38,39,40,41,42,43,44,45,46,47,48,49,50,51,52,53]) (t := 54) (d := .p (bv ((lv.getD i []).length ≠ n ∨ (0 < i ∧ (lv.getD (i - 1) []).length = 1)))) (σ' := ?s9) ?j9 ?h9 ?n9
    case j9 => simp only [St.join,List.foldl,Za,Zb]; exact rfl
    case h9 =>
     iterate 9 (all_goals refine kA rfl (by simp (disch := omega) only [iA,aA,qop,fop,St.ev,St.put,cd,zd,Value.oneCell',lA,TypeDesc.aggB,Z0,fA,oA,Z1,pA,qA,tA,eA,D.pure?,ZC,ZD,Int.toNat_zero,Int.toNat_one,xA,yA,wA,ZO,Nat.mul_one,Nat.zero_mul,Zh,vC,cB,iop,tt,mA,kD] <;> exact rfl) ?_)
     iterate 12 (all_goals first | (refine lC rfl rfl rfl (by simp (disch := omega) only [iA,aA,qop,fop,St.ev,St.put,cd,zd,Value.oneCell',lA,TypeDesc.aggB,Z0,fA,oA,Z1,pA,qA,tA,eA,D.pure?,ZC,ZD,Int.toNat_zero,Int.toNat_one,xA,yA,wA,ZO,Nat.mul_one,Nat.zero_mul,Zh,vC,cB,iop,tt,mA,kD] <;> exact rfl) ?_) | (first | (refine eC rfl rfl rfl (by simp only [St.put,Za,Zb] <;> exact rfl) ?_) | (refine fC rfl rfl rfl (by simp only [St.put,Za,Zb] <;> exact rfl) ?_)) | (refine cC rfl rfl rfl (by simp only [Za,Zb] <;> exact rfl) (by simp only [Za,Zb] <;> exact rfl) (fun hg => ?_) (fun hg => ?_) <;> (try simp only [Zp,Zi,ZJ,ZK,ne_eq,Zn,Zm,Bool.not_eq_true,Zu] at hg) <;> first | (refine lC rfl rfl rfl (by simp (disch := omega) only [iA,aA,qop,fop,St.ev,St.put,cd,zd,Value.oneCell',lA,TypeDesc.aggB,Z0,fA,oA,Z1,pA,qA,tA,eA,D.pure?,ZC,ZD,Int.toNat_zero,Int.toNat_one,xA,yA,wA,ZO,Nat.mul_one,Nat.zero_mul,Zh,vC,cB,iop,tt,mA,kD] <;> exact rfl) ?_) | (first | (refine eC rfl rfl rfl (by simp only [St.put,Za,Zb] <;> exact rfl) ?_) | (refine fC rfl rfl rfl (by simp only [St.put,Za,Zb] <;> exact rfl) ?_))))
     (all_goals refine kA rfl (by simp (disch := omega) only [iA,aA,qop,fop,St.ev,St.put,cd,zd,Value.oneCell',lA,TypeDesc.aggB,Z0,fA,oA,Z1,pA,qA,tA,eA,D.pure?,ZC,ZD,Int.toNat_zero,Int.toNat_one,xA,yA,wA,ZO,Nat.mul_one,Nat.zero_mul,Zh,vC,cB,iop,tt,mA,kD] <;> exact rfl) ?_)
     all_goals refine bA ?_
     all_goals refine ⟨rfl,?_,xD _,yD _,rfl,rfl⟩
     all_goals repeat' (first | exact sA | refine mB ?_ | refine vA rfl ?_ | refine vA ?_ ?_)
     all_goals refine jn ?_
     all_goals ((try simp only [Zp,Zi,ZJ,ZK,Bool.not_eq_true,Zm,Zn,ne_eq,Zf,true_iff,false_iff,iff_true,iff_false] at *) <;> omega)
    refine jA ?_
    refine oB _ rfl (fun hc3 => ?_) (fun hc3 => ?_)
    ·try simp only [Zp,Zi,ZK,ZJ,ne_eq,Zn,Zm,ZB,ZA,ZI,not_or,not_and,Zu] at hc3
     refine cA ?_
     refine gA hX hb [0] rfl (σ' := ?s10) (fun K hK => ?h10) ?n10
     case h10 =>
      (refine kA rfl (by simp (disch := omega) only [iA,aA,qop,fop,St.ev,St.put,cd,zd,Value.oneCell',lA,TypeDesc.aggB,Z0,t3,ti3,mA,Zh,kD] <;> exact rfl) ?_)
      refine bA ?_
      exact hK
     refine jA ?_
     refine bC ?_
     refine tC ?_
     refine xE ?_
     refine tC ?_
     refine tC ?_
     refine xE ?_
     refine tC ?_
     exact zC rfl (zB rfl (by first | rfl | (first | exact congrArg (fun n => D.p (i64 n)) (bM hc0).symm | exact congrArg (fun n => D.p (i64 n)) (cM (by dsimp only; omega) hc1).symm | exact congrArg (fun n => D.p (i64 n)) (fF (t := ⟨S,F,lv⟩) (by dsimp only; omega) (by dsimp only; omega) (by show shT S F lv = false; rw [shT,hs]; exact fQ (by omega) hc3)).symm | exact congrArg (fun n => D.p (i64 n)) (fF (t := ⟨S,F,lv⟩) (by dsimp only; omega) (by dsimp only; omega) (by show shT S F lv = false; rw [shT,hs,(show i = lv.length by omega),rO]; exact decide_eq_false (not_not_intro hc4))).symm | exact congrArg (fun n => D.p (i64 n)) (xG (t := ⟨S,F,lv⟩) (by dsimp only; omega) (by dsimp only; omega) hsh hc5).symm | exact congrArg (fun n => D.p (i64 n)) (iH (t := ⟨S,F,lv⟩) (by dsimp only; omega) (by dsimp only; omega) hsh hc5).symm)))
    ·try simp only [Zp,Zi,ZK,ZJ,ne_eq,Zn,Zm,ZB,ZA,ZI,not_or,not_and,Zu] at hc3
     refine uB ?_
     refine jA ?_
     refine gA hX hb [0,1,2,3] rfl (σ' := ?s11) (fun K hK => ?h11) ?n11
     case h11 =>
      iterate 4 (refine kA rfl (by simp (disch := omega) only [iA,aA,qop,fop,St.ev,St.put,cd,zd,Value.oneCell',lA,TypeDesc.aggB,Z0,cB,iop,tt,mA,Zh,kD] <;> exact rfl) ?_)
      refine bA ?_
      exact hK
     refine cE ?_
     refine jA ?_
     refine gA hX hb [0,1,2] rfl (σ' := ?s12) (fun K hK => ?h12) ?n12
     case h12 =>
      iterate 3 (refine kA rfl (by simp (disch := omega) only [iA,aA,qop,fop,St.ev,St.put,cd,zd,Value.oneCell',lA,TypeDesc.aggB,Z0,cB,iop,tt,mA,Zh,kD] <;> exact rfl) ?_)
      refine bA ?_
      exact hK
     refine jA ?_
     exact ⟨(i + 1,(n + 1) / 2),by exact ⟨by dsimp only; omega,by dsimp only; omega,by dsimp only; rw [hs]; exact yEA (by omega) (by omega) (by omega)⟩,by (try dsimp only); omega,rC ⟨rfl,(by repeat first | exact sA | refine mB ?_ | refine vA (by first | rfl | (refine congrArg (fun k => D.p (i64 k)) ?_; dsimp only; omega)) ?_),(pC rfl ((by repeat first | exact sA | refine mB ?_ | refine vA (by first | rfl | (refine congrArg (fun k => D.p (i64 k)) ?_; dsimp only; omega)) ?_)) (xB _)),(yB _),rfl,rfl⟩⟩
   ·try simp only [Zp,Zi,ZK,ZJ,ne_eq,Zn,Zm,ZB,ZA,ZI,not_or,not_and,Zu] at hc2
    refine oD ?_
    refine fD ?_
    refine fD ?_
    refine zE ?_
    refine jA ?_
    refine cA ?_
    refine cA ?_
    refine jI (t := 28) rfl fun hll => ?_
    unfold maxLen at hll
    refine vE hX hb [0,1,2,3,4,5,6,7,8,9,10,11,12,13,14,15] rfl (ts := [58,59,60,61,62,63,64,65,66,67,68,69,70,71,72]) (t := 73) (d := .p (bv (lv.length = 0 ∨ (lv.getD (lv.length - 1) []).length ≠ 1))) (σ' := ?s13) ?j13 ?h13 ?n13
    case j13 => simp only [St.join,List.foldl,Za,Zb]; exact rfl
    case h13 =>
     iterate 5 (all_goals refine kA rfl (by simp (disch := omega) only [iA,aA,qop,fop,St.ev,St.put,cd,zd,Value.oneCell',lA,TypeDesc.aggB,Z0,fA,oA,Z1,pA,qA,tA,eA,D.pure?,ZC,ZD,vC,cB,iop,Int.toNat_zero,Int.toNat_one,xA,yA,wA,ZO,Nat.mul_one,Nat.zero_mul,Zh,tt,mA,kD] <;> exact rfl) ?_)
     iterate 10 (all_goals first | (refine lC rfl rfl rfl (by simp (disch := omega) only [iA,aA,qop,fop,St.ev,St.put,cd,zd,Value.oneCell',lA,TypeDesc.aggB,Z0,fA,oA,Z1,pA,qA,tA,eA,D.pure?,ZC,ZD,vC,cB,iop,Int.toNat_zero,Int.toNat_one,xA,yA,wA,ZO,Nat.mul_one,Nat.zero_mul,Zh,tt,mA,kD] <;> exact rfl) ?_) | (first | (refine eC rfl rfl rfl (by simp only [St.put,Za,Zb] <;> exact rfl) ?_) | (refine fC rfl rfl rfl (by simp only [St.put,Za,Zb] <;> exact rfl) ?_)) | (refine cC rfl rfl rfl (by simp only [Za,Zb] <;> exact rfl) (by simp only [Za,Zb] <;> exact rfl) (fun hg => ?_) (fun hg => ?_) <;> (try simp only [Zp,Zi,ZJ,ZK,ne_eq,Zn,Zm,Bool.not_eq_true,Zu] at hg) <;> first | (refine lC rfl rfl rfl (by simp (disch := omega) only [iA,aA,qop,fop,St.ev,St.put,cd,zd,Value.oneCell',lA,TypeDesc.aggB,Z0,fA,oA,Z1,pA,qA,tA,eA,D.pure?,ZC,ZD,vC,cB,iop,Int.toNat_zero,Int.toNat_one,xA,yA,wA,ZO,Nat.mul_one,Nat.zero_mul,Zh,tt,mA,kD] <;> exact rfl) ?_) | (first | (refine eC rfl rfl rfl (by simp only [St.put,Za,Zb] <;> exact rfl) ?_) | (refine fC rfl rfl rfl (by simp only [St.put,Za,Zb] <;> exact rfl) ?_))))
     (all_goals refine kA rfl (by simp (disch := omega) only [iA,aA,qop,fop,St.ev,St.put,cd,zd,Value.oneCell',lA,TypeDesc.aggB,Z0,fA,oA,Z1,pA,qA,tA,eA,D.pure?,ZC,ZD,vC,cB,iop,Int.toNat_zero,Int.toNat_one,xA,yA,wA,ZO,Nat.mul_one,Nat.zero_mul,Zh,tt,mA,kD] <;> exact rfl) ?_)
     all_goals refine bA ?_
     all_goals refine ⟨rfl,?_,xD _,yD _,rfl,rfl⟩
     all_goals repeat' (first | exact sA | refine mB ?_ | refine vA rfl ?_ | refine vA ?_ ?_)
     all_goals refine jn ?_
     all_goals ((try simp only [Zp,Zi,ZJ,ZK,Bool.not_eq_true,Zm,Zn,ne_eq,Zf,true_iff,false_iff,iff_true,iff_false] at *) <;> omega)
    refine jA ?_
    refine oB _ rfl (fun hc4 => ?_) (fun hc4 => ?_)
    ·try simp only [Zp,Zi,ZK,ZJ,ne_eq,Zn,Zm,ZB,ZA,ZI,not_or,not_and,Zu] at hc4
     refine cA ?_
     refine gA hX hb [0] rfl (σ' := ?s14) (fun K hK => ?h14) ?n14
     case h14 =>
      (refine kA rfl (by simp (disch := omega) only [iA,aA,qop,fop,St.ev,St.put,cd,zd,Value.oneCell',lA,TypeDesc.aggB,Z0,t3,ti3,mA,Zh,kD] <;> exact rfl) ?_)
      refine bA ?_
      exact hK
     refine jA ?_
     refine bC ?_
     refine tC ?_
     exact zC rfl (zB rfl (by first | rfl | (first | exact congrArg (fun n => D.p (i64 n)) (bM hc0).symm | exact congrArg (fun n => D.p (i64 n)) (cM (by dsimp only; omega) hc1).symm | exact congrArg (fun n => D.p (i64 n)) (fF (t := ⟨S,F,lv⟩) (by dsimp only; omega) (by dsimp only; omega) (by show shT S F lv = false; rw [shT,hs]; exact fQ (by omega) hc3)).symm | exact congrArg (fun n => D.p (i64 n)) (fF (t := ⟨S,F,lv⟩) (by dsimp only; omega) (by dsimp only; omega) (by show shT S F lv = false; rw [shT,hs,(show i = lv.length by omega),rO]; exact decide_eq_false (not_not_intro hc4))).symm | exact congrArg (fun n => D.p (i64 n)) (xG (t := ⟨S,F,lv⟩) (by dsimp only; omega) (by dsimp only; omega) hsh hc5).symm | exact congrArg (fun n => D.p (i64 n)) (iH (t := ⟨S,F,lv⟩) (by dsimp only; omega) (by dsimp only; omega) hsh hc5).symm)))
    ·try simp only [Zp,Zi,ZK,ZJ,ne_eq,Zn,Zm,ZB,ZA,ZI,not_or,not_and,Zu] at hc4
     refine uB ?_
     refine jA ?_
     refine cA ?_
     refine cA ?_
     have hsh : shT S F lv = true := by rw [shT,hs,(show i = lv.length by omega),rO,decide_eq_true (by rintro (h | h); exact hc4.1 h; exact h hc4.2)]
     have hhd := kP hsh
     refine dF hX hb (jD hP) [(0,true),(1,true),(2,true),(3,true),(4,true),(5,true),(6,true),(7,true),(10,true),(11,true),(8,false),(9,true),(12,false),(13,true)] (by kernel_rfl) (σ' := ?s15) (fun K hK => ?h15) ?n15
     case h15 =>
      iterate 10 (refine eF rfl (by simp (disch := omega) only [qop,fop,St.ev,St.put,cd,zd,Value.oneCell',lA,TypeDesc.aggB,Z0,fA,oA,Z1,pA,qA,tA,eA,D.pure?,ZC,ZD,Int.toNat_zero,Int.toNat_one,xA,yA,wA,ZO,Nat.mul_one,Nat.zero_mul,Zh,uA,D.pv?,xP,Bool.not_true,Bool.not_false,tt,mA,kD] <;> exact rfl) (by simp only [St.put,Za,Zb] <;> exact rfl) ?_)
      refine eH rfl (by simp only [aA,St.ev,pB,qB,uA,D.pv?,ZG,ZH,zd,cd,Value.oneCell',Zr] <;> exact rfl) (acK hP (c70 _ _ (lv.getD 0 []) (by omega))) (by simp only [St.put,Za,Zb] <;> exact rfl) ?_
      (refine eF rfl (by simp (disch := omega) only [qop,fop,St.ev,St.put,cd,zd,Value.oneCell',lA,TypeDesc.aggB,Z0,fA,oA,Z1,pA,qA,tA,eA,D.pure?,ZC,ZD,Int.toNat_zero,Int.toNat_one,xA,yA,wA,ZO,Nat.mul_one,Nat.zero_mul,Zh,uA,D.pv?,xP,Bool.not_true,Bool.not_false,tt,mA,kD] <;> exact rfl) (by simp only [St.put,Za,Zb] <;> exact rfl) ?_)
      refine eH rfl (by simp only [aA,St.ev,pB,qB,uA,D.pv?,ZG,ZH,zd,cd,Value.oneCell',Zr] <;> exact rfl) (acK hP (c71 _ _)) (by simp only [St.put,Za,Zb] <;> exact rfl) ?_
      (refine eF rfl (by simp (disch := omega) only [qop,fop,St.ev,St.put,cd,zd,Value.oneCell',lA,TypeDesc.aggB,Z0,fA,oA,Z1,pA,qA,tA,eA,D.pure?,ZC,ZD,Int.toNat_zero,Int.toNat_one,xA,yA,wA,ZO,Nat.mul_one,Nat.zero_mul,Zh,uA,D.pv?,xP,Bool.not_true,Bool.not_false,tt,mA,kD] <;> exact rfl) (by simp only [St.put,Za,Zb] <;> exact rfl) ?_)
      refine xC ?_
      exact hK
     refine jA ?_
     refine oB _ rfl (fun hc5 => ?_) (fun hc5 => ?_)
     ·try simp only [Zp,Zi,ZK,ZJ,ne_eq,Zn,Zm,ZB,ZA,ZI,not_or,not_and,Zu] at hc5
      refine cA ?_
      refine gA hX hb [0] rfl (σ' := ?s16) (fun K hK => ?h16) ?n16
      case h16 =>
       (refine kA rfl (by simp (disch := omega) only [iA,aA,qop,fop,St.ev,St.put,cd,zd,Value.oneCell',lA,TypeDesc.aggB,Z0,tt,mA,Zh,kD] <;> exact rfl) ?_)
       refine bA ?_
       exact hK
      refine jA ?_
      refine bC ?_
      refine tC ?_
      exact zC rfl (zB rfl (by first | rfl | (first | exact congrArg (fun n => D.p (i64 n)) (bM hc0).symm | exact congrArg (fun n => D.p (i64 n)) (cM (by dsimp only; omega) hc1).symm | exact congrArg (fun n => D.p (i64 n)) (fF (t := ⟨S,F,lv⟩) (by dsimp only; omega) (by dsimp only; omega) (by show shT S F lv = false; rw [shT,hs]; exact fQ (by omega) hc3)).symm | exact congrArg (fun n => D.p (i64 n)) (fF (t := ⟨S,F,lv⟩) (by dsimp only; omega) (by dsimp only; omega) (by show shT S F lv = false; rw [shT,hs,(show i = lv.length by omega),rO]; exact decide_eq_false (not_not_intro hc4))).symm | exact congrArg (fun n => D.p (i64 n)) (xG (t := ⟨S,F,lv⟩) (by dsimp only; omega) (by dsimp only; omega) hsh hc5).symm | exact congrArg (fun n => D.p (i64 n)) (iH (t := ⟨S,F,lv⟩) (by dsimp only; omega) (by dsimp only; omega) hsh hc5).symm)))
     ·try simp only [Zp,Zi,ZK,ZJ,ne_eq,Zn,Zm,ZB,ZA,ZI,not_or,not_and,Zu] at hc5
      refine uB ?_
      refine jA ?_
      refine cA ?_
      refine gA hX hb [0] rfl (σ' := ?s17) (fun K hK => ?h17) ?n17
      case h17 =>
       (refine kA rfl (by simp (disch := omega) only [iA,aA,qop,fop,St.ev,St.put,cd,zd,Value.oneCell',lA,TypeDesc.aggB,Z0,mA,Zh,kD] <;> exact rfl) ?_)
       refine bA ?_
       exact hK
      refine jA ?_
      refine bC ?_
      exact zC rfl (zB rfl (by first | rfl | (first | exact congrArg (fun n => D.p (i64 n)) (bM hc0).symm | exact congrArg (fun n => D.p (i64 n)) (cM (by dsimp only; omega) hc1).symm | exact congrArg (fun n => D.p (i64 n)) (fF (t := ⟨S,F,lv⟩) (by dsimp only; omega) (by dsimp only; omega) (by show shT S F lv = false; rw [shT,hs]; exact fQ (by omega) hc3)).symm | exact congrArg (fun n => D.p (i64 n)) (fF (t := ⟨S,F,lv⟩) (by dsimp only; omega) (by dsimp only; omega) (by show shT S F lv = false; rw [shT,hs,(show i = lv.length by omega),rO]; exact decide_eq_false (not_not_intro hc4))).symm | exact congrArg (fun n => D.p (i64 n)) (xG (t := ⟨S,F,lv⟩) (by dsimp only; omega) (by dsimp only; omega) hsh hc5).symm | exact congrArg (fun n => D.p (i64 n)) (iH (t := ⟨S,F,lv⟩) (by dsimp only; omega) (by dsimp only; omega) hsh hc5).symm)))
end Go.Proofs.Ytldcoekbgfaomaa
end
section
namespace Go.Proofs.Ytldcoekbgfaomaa
open Go.RowKit
set_option maxRecDepth 20000
set_option maxHeartbeats 4000000
attribute [local irreducible] kE sD AW
theorem c26 (t : Tr) (l : List (List Int)) (es ec : Int) : ACalls Try.prog 26 [trP t,.p (yN l),.agg [i64 es,i64 ec]] (.tup [trP (lM t l es ec).1,.p (i64 (lM t l es ec).2)]) := by
 obtain ⟨s,f,lv⟩ := t
 refine wC oC Try.func26 (c := _) rfl (by kernel_rfl) ?_
 intro X hP hX hro hpl
 have hb : tb.Ok X.P := hP ▸ oC
 change AW X _ _ ⟨[],[.agg [i64 s,i64 f,iE lv],.p (yN l),.agg [i64 es,i64 ec],.any,.any,.any,.any,.any,.any,.any,.any,.any,.any,.any,.any,.any,.any,.any,.any,.any,.any,.any,.any,.any,.any,.any,.any,.any,.any,.any,.any,.any,.any,.any,.any,.any,.any,.any,.any,.any,.any,.any,.any,.any,.any,.any,.any,.any,.any,.any,.any,.any,.any,.any,.any,.any,.any,.any,.any,.any,.any,.any,.any,.any,.any,.any,.any,.any,.any,.any,.any,.any,.any,.any,.any,.any,.any,.any,.any,.any,.any,.any,.any,.any,.any,.any,.any,.any,.any,.any,.any,.any,.any,.any,.any,.any,.any,.any,.any,.any,.any,.any,.any,.any,.any,.any,.any],[],[]⟩
 refine cA ?_
 refine gA hX hb [0,1,2,3] rfl (σ' := ?s1) (fun K hK => ?h1) ?n1
 case h1 =>
  iterate 4 (refine kA rfl (by simp (disch := omega) only [iA,aA,qop,fop,St.ev,St.put,cd,zd,Value.oneCell',lA,TypeDesc.aggB,Z0,ZM,ZL,Zl,Zo,ZG,ZH,St.addBox,D.boxCells,D.live,Value.cells,tt,mA,nA,Zh,gC,uD] <;> exact rfl) ?_)
  refine bA ?_
  exact hK
 refine jA ?_
 refine cA ?_
 refine cA ?_
 refine gA hX hb [0,1,2] rfl (σ' := ?s2) (fun K hK => ?h2) ?n2
 case h2 =>
  (refine kA rfl (by simp (disch := omega) only [iA,aA,qop,fop,St.ev,St.put,cd,zd,Value.oneCell',lA,TypeDesc.aggB,Z0,Z1,pA,qA,tA,eA,D.pure?,ZC,ZD,uA,D.pv?,tt,mA,nA,Zh,gC,uD] <;> exact rfl) ?_)
  refine mD rfl (by simp only [aA,St.ev,pB,qB,uA,D.pv?,ZG,ZH,zd,cd,Value.oneCell',Zr] <;> exact rfl) (acK hP (c34 ⟨s,f,lv⟩)) (by simp only [St.put,Za,Zb] <;> exact rfl) ?_
  (refine kA rfl (by simp (disch := omega) only [iA,aA,qop,fop,St.ev,St.put,cd,zd,Value.oneCell',lA,TypeDesc.aggB,Z0,Z1,pA,qA,tA,eA,D.pure?,ZC,ZD,uA,D.pv?,tt,mA,nA,Zh,gC,uD] <;> exact rfl) ?_)
  refine bA ?_
  exact hK
 refine jA ?_
 refine cA ?_
 refine gA hX hb [0,1] rfl (σ' := ?s3) (fun K hK => ?h3) ?n3
 case h3 =>
  iterate 2 (refine kA rfl (by simp (disch := omega) only [iA,aA,qop,fop,St.ev,St.put,cd,zd,Value.oneCell',lA,TypeDesc.aggB,Z0,cB,iop,t3,ti3,mA,nA,Zh,gC,uD] <;> exact rfl) ?_)
  refine bA ?_
  exact hK
 refine jA ?_
 refine oB _ rfl (fun hc0 => ?_) (fun hc0 => ?_)
 ·try simp only [Zp,Zi,ZK,ZJ,ne_eq,Zn,Zm,ZB,ZA,ZI,not_or,not_and,Zu] at hc0
  refine cA ?_
  refine gA hX hb [0,1,2,3] rfl (σ' := ?s4) (fun K hK => ?h4) ?n4
  case h4 =>
   iterate 4 (refine kA rfl (by simp (disch := omega) only [iA,aA,qop,fop,St.ev,St.put,cd,zd,Value.oneCell',lA,TypeDesc.aggB,Z0,aE,cD,mC,aC,D.cell1,fB,gB,iB,jB,kB,List.all_cons,List.all_nil,uC,TI.place,TI.zeros,TI.kindOk,D.cells?,D.pure?,zp,Value.cells,ZQ,ZP,Z1,iC,D.boxCells,D.live,ZM,ZL,ZN,ZG,ZH,St.setVec,ZC,tt,mA,nA,Zh,gC,uD] <;> exact rfl) ?_)
   refine bA ?_
   exact hK
  refine jA ?_
  refine bC ?_
  refine tC ?_
  exact zC rfl (oE (by simp only [mE,pA,qA,lA,TypeDesc.aggB,eA,D.pure?,D.pv?,pB,qB,Zd,Zc,Zw,Zk,Zv,Zj,Zx,Zl,Zo,Zr,reduceIte,Nat.reduceAdd,Nat.reduceLeDiff,Zg,Zf,tt] <;> exact rfl) rfl (by first | rfl | (first | (rw [lP hc0]; rfl) | (rw [mP hc0 (show (l.length : Int) ≠ (S : Int) by omega)]; rfl) | (rw [nP hc0 (show (l.length : Int) = (S : Int) by omega) hc2]; rfl) | (rw [oP hc0 (show (l.length : Int) = (S : Int) by omega) (by dsimp only; omega),hds,List.take_of_length_le (by rw [uW,List.length_map,List.length_range]; omega)]; rfl))))
 ·try simp only [Zp,Zi,ZK,ZJ,ne_eq,Zn,Zm,ZB,ZA,ZI,not_or,not_and,Zu] at hc0
  obtain ⟨S,F,hS,hF,q1,q2,q3,q4,q5,q6⟩ := sF hc0
  dsimp only at hS hF q5 q6
  subst hS
  subst hF
  have hhd := kP q5
  have hnl := pJ (s := S) (n := F) q3
  refine uB ?_
  refine jA ?_
  refine cA ?_
  refine cA ?_
  refine gA hX hb [0,1,2,3,4] rfl (σ' := ?s5) (fun K hK => ?h5) ?n5
  case h5 =>
   iterate 5 (refine kA rfl (by simp (disch := omega) only [iA,aA,qop,fop,St.ev,St.put,cd,zd,Value.oneCell',lA,TypeDesc.aggB,Z0,vC,fA,oA,Z1,pA,qA,tA,eA,D.pure?,ZC,ZD,cB,iop,tt,mA,nA,Zh,gC,uD] <;> exact rfl) ?_)
   refine bA ?_
   exact hK
  refine jA ?_
  refine oB _ rfl (fun hc1 => ?_) (fun hc1 => ?_)
  ·try simp only [Zp,Zi,ZK,ZJ,ne_eq,Zn,Zm,ZB,ZA,ZI,not_or,not_and,Zu] at hc1
   refine cA ?_
   refine gA hX hb [0,1,2] rfl (σ' := ?s6) (fun K hK => ?h6) ?n6
   case h6 =>
    iterate 3 (refine kA rfl (by simp (disch := omega) only [iA,aA,qop,fop,St.ev,St.put,cd,zd,Value.oneCell',lA,TypeDesc.aggB,Z0,aE,cD,mC,aC,D.cell1,fB,gB,iB,jB,kB,List.all_cons,List.all_nil,uC,TI.place,TI.zeros,TI.kindOk,D.cells?,D.pure?,zp,Value.cells,ZQ,ZP,Z1,iC,D.boxCells,D.live,ZM,ZL,ZN,ZG,ZH,St.setVec,ZC,tt,mA,nA,Zh,gC,uD] <;> exact rfl) ?_)
    refine bA ?_
    exact hK
   refine jA ?_
   refine bC ?_
   refine tC ?_
   exact zC rfl (oE (by simp only [mE,pA,qA,lA,TypeDesc.aggB,eA,D.pure?,D.pv?,pB,qB,Zd,Zc,Zw,Zk,Zv,Zj,Zx,Zl,Zo,Zr,reduceIte,Nat.reduceAdd,Nat.reduceLeDiff,Zg,Zf,tt] <;> exact rfl) rfl (by first | rfl | (first | (rw [lP hc0]; rfl) | (rw [mP hc0 (show (l.length : Int) ≠ (S : Int) by omega)]; rfl) | (rw [nP hc0 (show (l.length : Int) = (S : Int) by omega) hc2]; rfl) | (rw [oP hc0 (show (l.length : Int) = (S : Int) by omega) (by dsimp only; omega),hds,List.take_of_length_le (by rw [uW,List.length_map,List.length_range]; omega)]; rfl))))
  ·try simp only [Zp,Zi,ZK,ZJ,ne_eq,Zn,Zm,ZB,ZA,ZI,not_or,not_and,Zu] at hc1
   refine uB ?_
   refine jA ?_
   refine cA ?_
   refine cA ?_
   refine vE hX hb [0,1,2,3,4,5,6,7,8,9,10,11,12,13,14,15,16,17,18,19,20,21,22,23,24] rfl (ts := [24,25,26,27,28,29,30,31,32,33,34,35,36,37,38,39,40,41,42,43,44,45,46,47]) (t := 48) (d := .p (bv (es < 0 ∨ ec < 0 ∨ (S : Int) < es ∨ (S : Int) - es < ec))) (σ' := ?s7) ?j7 ?h7 ?n7
   case j7 => simp only [St.join,List.foldl,Za,Zb]; exact rfl
   case h7 =>
    iterate 4 (all_goals refine kA rfl (by simp (disch := omega) only [iA,aA,qop,fop,St.ev,St.put,cd,zd,Value.oneCell',lA,TypeDesc.aggB,Z0,fA,oA,Z1,pA,qA,tA,eA,D.pure?,ZC,ZD,cB,iop,tt,mA,nA,Zh,gC,uD] <;> exact rfl) ?_)
    iterate 3 (all_goals first | (refine lC rfl rfl rfl (by simp (disch := omega) only [iA,aA,qop,fop,St.ev,St.put,cd,zd,Value.oneCell',lA,TypeDesc.aggB,Z0,fA,oA,Z1,pA,qA,tA,eA,D.pure?,ZC,ZD,cB,iop,tt,mA,nA,Zh,gC,uD] <;> exact rfl) ?_) | (first | (refine eC rfl rfl rfl (by simp only [St.put,Za,Zb] <;> exact rfl) ?_) | (refine fC rfl rfl rfl (by simp only [St.put,Za,Zb] <;> exact rfl) ?_)) | (refine cC rfl rfl rfl (by simp only [Za,Zb] <;> exact rfl) (by simp only [Za,Zb] <;> exact rfl) (fun hg => ?_) (fun hg => ?_) <;> (try simp only [Zp,Zi,ZJ,ZK,ne_eq,Zn,Zm,Bool.not_eq_true,Zu] at hg) <;> first | (refine lC rfl rfl rfl (by simp (disch := omega) only [iA,aA,qop,fop,St.ev,St.put,cd,zd,Value.oneCell',lA,TypeDesc.aggB,Z0,fA,oA,Z1,pA,qA,tA,eA,D.pure?,ZC,ZD,cB,iop,tt,mA,nA,Zh,gC,uD] <;> exact rfl) ?_) | (first | (refine eC rfl rfl rfl (by simp only [St.put,Za,Zb] <;> exact rfl) ?_) | (refine fC rfl rfl rfl (by simp only [St.put,Za,Zb] <;> exact rfl) ?_))))
    iterate 2 (all_goals refine kA rfl (by simp (disch := omega) only [iA,aA,qop,fop,St.ev,St.put,cd,zd,Value.oneCell',lA,TypeDesc.aggB,Z0,fA,oA,Z1,pA,qA,tA,eA,D.pure?,ZC,ZD,cB,iop,tt,mA,nA,Zh,gC,uD] <;> exact rfl) ?_)
    iterate 5 (all_goals first | (refine lC rfl rfl rfl (by simp (disch := omega) only [iA,aA,qop,fop,St.ev,St.put,cd,zd,Value.oneCell',lA,TypeDesc.aggB,Z0,fA,oA,Z1,pA,qA,tA,eA,D.pure?,ZC,ZD,cB,iop,tt,mA,nA,Zh,gC,uD] <;> exact rfl) ?_) | (first | (refine eC rfl rfl rfl (by simp only [St.put,Za,Zb] <;> exact rfl) ?_) | (refine fC rfl rfl rfl (by simp only [St.put,Za,Zb] <;> exact rfl) ?_)) | (refine cC rfl rfl rfl (by simp only [Za,Zb] <;> exact rfl) (by simp only [Za,Zb] <;> exact rfl) (fun hg => ?_) (fun hg => ?_) <;> (try simp only [Zp,Zi,ZJ,ZK,ne_eq,Zn,Zm,Bool.not_eq_true,Zu] at hg) <;> first | (refine lC rfl rfl rfl (by simp (disch := omega) only [iA,aA,qop,fop,St.ev,St.put,cd,zd,Value.oneCell',lA,TypeDesc.aggB,Z0,fA,oA,Z1,pA,qA,tA,eA,D.pure?,ZC,ZD,cB,iop,tt,mA,nA,Zh,gC,uD] <;> exact rfl) ?_) | (first | (refine eC rfl rfl rfl (by simp only [St.put,Za,Zb] <;> exact rfl) ?_) | (refine fC rfl rfl rfl (by simp only [St.put,Za,Zb] <;> exact rfl) ?_))))
    iterate 2 (all_goals refine kA rfl (by simp (disch := omega) only [iA,aA,qop,fop,St.ev,St.put,cd,zd,Value.oneCell',lA,TypeDesc.aggB,Z0,fA,oA,Z1,pA,qA,tA,eA,D.pure?,ZC,ZD,cB,iop,tt,mA,nA,Zh,gC,uD] <;> exact rfl) ?_)
    iterate 8 (all_goals first | (refine lC rfl rfl rfl (by simp (disch := omega) only [iA,aA,qop,fop,St.ev,St.put,cd,zd,Value.oneCell',lA,TypeDesc.aggB,Z0,fA,oA,Z1,pA,qA,tA,eA,D.pure?,ZC,ZD,cB,iop,tt,mA,nA,Zh,gC,uD] <;> exact rfl) ?_) | (first | (refine eC rfl rfl rfl (by simp only [St.put,Za,Zb] <;> exact rfl) ?_) | (refine fC rfl rfl rfl (by simp only [St.put,Za,Zb] <;> exact rfl) ?_)) | (refine cC rfl rfl rfl (by simp only [Za,Zb] <;> exact rfl) (by simp only [Za,Zb] <;> exact rfl) (fun hg => ?_) (fun hg => ?_) <;> (try simp only [Zp,Zi,ZJ,ZK,ne_eq,Zn,Zm,Bool.not_eq_true,Zu] at hg) <;> first | (refine lC rfl rfl rfl (by simp (disch := omega) only [iA,aA,qop,fop,St.ev,St.put,cd,zd,Value.oneCell',lA,TypeDesc.aggB,Z0,fA,oA,Z1,pA,qA,tA,eA,D.pure?,ZC,ZD,cB,iop,tt,mA,nA,Zh,gC,uD] <;> exact rfl) ?_) | (first | (refine eC rfl rfl rfl (by simp only [St.put,Za,Zb] <;> exact rfl) ?_) | (refine fC rfl rfl rfl (by simp only [St.put,Za,Zb] <;> exact rfl) ?_))))
    (all_goals refine kA rfl (by simp (disch := omega) only [iA,aA,qop,fop,St.ev,St.put,cd,zd,Value.oneCell',lA,TypeDesc.aggB,Z0,fA,oA,Z1,pA,qA,tA,eA,D.pure?,ZC,ZD,cB,iop,tt,mA,nA,Zh,gC,uD] <;> exact rfl) ?_)
    all_goals refine bA ?_
    all_goals refine ⟨rfl,?_,xD _,yD _,rfl,rfl⟩
    all_goals repeat' (first | exact sA | refine mB ?_ | refine vA rfl ?_ | refine vA ?_ ?_)
    all_goals refine jn ?_
    all_goals ((try simp only [Zp,Zi,ZJ,ZK,Bool.not_eq_true,Zm,Zn,ne_eq,Zf,true_iff,false_iff,iff_true,iff_false] at *) <;> omega)
   refine jA ?_
   refine oB _ rfl (fun hc2 => ?_) (fun hc2 => ?_)
   ·try simp only [Zp,Zi,ZK,ZJ,ne_eq,Zn,Zm,ZB,ZA,ZI,not_or,not_and,Zu] at hc2
    refine cA ?_
    refine gA hX hb [0,1,2] rfl (σ' := ?s8) (fun K hK => ?h8) ?n8
    case h8 =>
     iterate 3 (refine kA rfl (by simp (disch := omega) only [iA,aA,qop,fop,St.ev,St.put,cd,zd,Value.oneCell',lA,TypeDesc.aggB,Z0,aE,cD,mC,aC,D.cell1,fB,gB,iB,jB,kB,List.all_cons,List.all_nil,uC,TI.place,TI.zeros,TI.kindOk,D.cells?,D.pure?,zp,Value.cells,ZQ,ZP,Z1,iC,D.boxCells,D.live,ZM,ZL,ZN,ZG,ZH,St.setVec,ZC,tt,mA,nA,Zh,gC,uD] <;> exact rfl) ?_)
     refine bA ?_
     exact hK
    refine jA ?_
    refine bC ?_
    refine tC ?_
    exact zC rfl (oE (by simp only [mE,pA,qA,lA,TypeDesc.aggB,eA,D.pure?,D.pv?,pB,qB,Zd,Zc,Zw,Zk,Zv,Zj,Zx,Zl,Zo,Zr,reduceIte,Nat.reduceAdd,Nat.reduceLeDiff,Zg,Zf,tt] <;> exact rfl) rfl (by first | rfl | (first | (rw [lP hc0]; rfl) | (rw [mP hc0 (show (l.length : Int) ≠ (S : Int) by omega)]; rfl) | (rw [nP hc0 (show (l.length : Int) = (S : Int) by omega) hc2]; rfl) | (rw [oP hc0 (show (l.length : Int) = (S : Int) by omega) (by dsimp only; omega),hds,List.take_of_length_le (by rw [uW,List.length_map,List.length_range]; omega)]; rfl))))
   ·try simp only [Zp,Zi,ZK,ZJ,ne_eq,Zn,Zm,ZB,ZA,ZI,not_or,not_and,Zu] at hc2
    refine uB ?_
    refine jA ?_
    refine cA ?_
    refine gA hX hb [0] rfl (σ' := ?s9) (fun K hK => ?h9) ?n9
    case h9 =>
     (refine kA rfl (by simp (disch := omega) only [iA,aA,qop,fop,St.ev,St.put,cd,zd,Value.oneCell',lA,TypeDesc.aggB,Z0,mA,nA,Zh,gC,uD] <;> exact rfl) ?_)
     refine bA ?_
     exact hK
    refine jA ?_
    refine nJ 9 58 1 rfl (σ' := ?s10) ?h10 ?n10
    case h10 => simp only [St.nilSlot,St.addVec,Za,Zb,Zl,Zo,ZL,ZM]; exact rfl
    refine cA ?_
    refine cA ?_
    refine gA hX hb [0] rfl (σ' := ?s11) (fun K hK => ?h11) ?n11
    case h11 =>
     (refine kA rfl (by simp (disch := omega) only [iA,aA,qop,fop,St.ev,St.put,cd,zd,Value.oneCell',lA,TypeDesc.aggB,Z0,mA,nA,Zh,gC,uD] <;> exact rfl) ?_)
     refine bA ?_
     exact hK
    refine jA ?_
    refine tB ?_
    refine rD (ι := Nat × List Int) (fun p => p.1 ≤ wD S F ∧ p.2 = (uW l F (lv.getD 0 []) es ec).take p.1) (fun p => ⟨[],[.any,.p (yN l),.any,.ptr 0 0,.any,.ptr 1 0,.ptr 2 0,.p (i64 0),.any,.vref 0,.p (i64 p.1),.any,.any,.any,.any,.any,.any,.any,.any,.any,.any,.any,.any,.any,.any,.any,.any,.any,.any,.any,.any,.any,.any,.any,.any,.any,.any,.any,.any,.any,.any,.any,.any,.any,.any,.any,.any,.any,.any,.any,.any,.any,.any,.any,.any,.any,.any,.any,.any,.any,.any,.any,.any,.any,.any,.any,.any,.any,.any,.any,.any,.any,.any,.any,.any,.any,.any,.any,.any,.any,.any,.any,.any,.any,.any,.any,.any,.any,.any,.any,.any,.any,.any,.any,.any,.any,.any,.any,.any,.any,.any,.any,.any,.any,.any,.any,.any],[⟨26,[.p (i64 (S : Int)),.p (i64 (F : Int)),.p (iE lv)]⟩,⟨35,[.p (i64 es),.p (i64 ec)]⟩,⟨26,[.p (i64 0),.p (i64 0),.nil]⟩],[some ⟨58,1,p.2.length,p.2.map u64⟩]⟩) (fun p => wD S F - p.1) (0,[]) (by exact ⟨Nat.zero_le _,rfl⟩) (rC ⟨rfl,(by repeat first | exact sA | refine mB ?_ | refine vA (by first | rfl | (first | (dsimp only; rw [show bI l F (lv.getD 0 []) es ec i = pH (aI l F i) from if_pos hc4]; simp) | (dsimp only; rw [show bI l F (lv.getD 0 []) es ec i = (lv.getD 0 []).getD i 0 from if_neg (by omega)]; simp))) ?_),(pC rfl ((by repeat first | exact sA | refine mB ?_ | refine vA (by first | rfl | (first | (dsimp only; rw [show bI l F (lv.getD 0 []) es ec i = pH (aI l F i) from if_pos hc4]; simp) | (dsimp only; rw [show bI l F (lv.getD 0 []) es ec i = (lv.getD 0 []).getD i 0 from if_neg (by omega)]; simp))) ?_)) (pC rfl ((by repeat first | exact sA | refine mB ?_ | refine vA (by first | rfl | (first | (dsimp only; rw [show bI l F (lv.getD 0 []) es ec i = pH (aI l F i) from if_pos hc4]; simp) | (dsimp only; rw [show bI l F (lv.getD 0 []) es ec i = (lv.getD 0 []).getD i 0 from if_neg (by omega)]; simp))) ?_)) (pC rfl ((by repeat first | exact sA | refine mB ?_ | refine vA (by first | rfl | (first | (dsimp only; rw [show bI l F (lv.getD 0 []) es ec i = pH (aI l F i) from if_pos hc4]; simp) | (dsimp only; rw [show bI l F (lv.getD 0 []) es ec i = (lv.getD 0 []).getD i 0 from if_neg (by omega)]; simp))) ?_)) (xB _)))),(jE (by first | rfl | (first | (dsimp only; rw [show bI l F (lv.getD 0 []) es ec i = pH (aI l F i) from if_pos hc4]; simp) | (dsimp only; rw [show bI l F (lv.getD 0 []) es ec i = (lv.getD 0 []).getD i 0 from if_neg (by omega)]; simp))) (yB _)),rfl,rfl⟩) ?_
    rintro ⟨i,ds⟩ ⟨hi,hds⟩
    dsimp only at hi hds ⊢
    have hdl : ds.length = i := by rw [hds,List.length_take,uW,List.length_map,List.length_range,hhd.2]; omega
    refine cA ?_
    refine cA ?_
    refine gA hX hb [0,1,2,3,4,5,6] rfl (σ' := ?s12) (fun K hK => ?h12) ?n12
    case h12 =>
     iterate 7 (refine kA rfl (by simp (disch := omega) only [iA,aA,qop,fop,St.ev,St.put,cd,zd,Value.oneCell',lA,TypeDesc.aggB,Z0,fA,oA,Z1,pA,qA,tA,eA,D.pure?,ZC,ZD,Int.toNat_zero,Int.toNat_one,xA,yA,wA,ZO,Nat.mul_one,Nat.zero_mul,Zh,vC,cB,iop,tt,mA,nA,gC,uD] <;> exact rfl) ?_)
     refine bA ?_
     exact hK
    refine jA ?_
    refine oB _ rfl (fun hc3 => ?_) (fun hc3 => ?_)
    ·try simp only [Zp,Zi,ZK,ZJ,ne_eq,Zn,Zm,ZB,ZA,ZI,not_or,not_and,Zu] at hc3
     refine uB ?_
     refine jA ?_
     refine cA ?_
     refine tB ?_
     refine cA ?_
     refine gA hX hb [0,1,2,3,4,5,6,7] rfl (σ' := ?s13) (fun K hK => ?h13) ?n13
     case h13 =>
      iterate 8 (refine kA rfl (by simp (disch := omega) only [iA,aA,qop,fop,St.ev,St.put,cd,zd,Value.oneCell',lA,TypeDesc.aggB,Z0,fA,oA,Z1,pA,qA,tA,eA,D.pure?,ZC,ZD,Int.toNat_zero,Int.toNat_one,xA,yA,wA,ZO,Nat.mul_one,Nat.zero_mul,Zh,tt,mA,nA,gC,uD] <;> exact rfl) ?_)
      refine bA ?_
      exact hK
     refine jA ?_
     refine cA ?_
     refine cA ?_
     have hm := gDA q3 (by omega : i < wD S F)
     refine vE hX hb [0,1,2,3,4,5,6,7,8,9,10,11,12,13,14,15,16,17,18,19,20,21,22,23,24] rfl (ts := [66,67,68,69,70,71,72,73,74,75,76,77,78,79,80,81,82,83,84,85,86,87,88,89]) (t := 90) (d := .p (bv (0 < ec ∧ es < ((i * F + F : Nat) : Int) ∧ ((i * F : Nat) : Int) < es + ec))) (σ' := ?s14) ?j14 ?h14 ?n14
     case j14 => simp only [St.join,List.foldl,Za,Zb]; exact rfl
     case h14 =>
      iterate 4 (all_goals refine kA rfl (by simp (disch := omega) only [iA,aA,qop,fop,St.ev,St.put,cd,zd,Value.oneCell',lA,TypeDesc.aggB,Z0,fA,oA,Z1,pA,qA,tA,eA,D.pure?,ZC,ZD,cB,iop,tt,mA,nA,Zh,gC,uD] <;> exact rfl) ?_)
      iterate 8 (all_goals first | (refine lC rfl rfl rfl (by simp (disch := omega) only [iA,aA,qop,fop,St.ev,St.put,cd,zd,Value.oneCell',lA,TypeDesc.aggB,Z0,fA,oA,Z1,pA,qA,tA,eA,D.pure?,ZC,ZD,cB,iop,tt,mA,nA,Zh,gC,uD] <;> exact rfl) ?_) | (first | (refine eC rfl rfl rfl (by simp only [St.put,Za,Zb] <;> exact rfl) ?_) | (refine fC rfl rfl rfl (by simp only [St.put,Za,Zb] <;> exact rfl) ?_)) | (refine cC rfl rfl rfl (by simp only [Za,Zb] <;> exact rfl) (by simp only [Za,Zb] <;> exact rfl) (fun hg => ?_) (fun hg => ?_) <;> (try simp only [Zp,Zi,ZJ,ZK,ne_eq,Zn,Zm,Bool.not_eq_true,Zu] at hg) <;> first | (refine lC rfl rfl rfl (by simp (disch := omega) only [iA,aA,qop,fop,St.ev,St.put,cd,zd,Value.oneCell',lA,TypeDesc.aggB,Z0,fA,oA,Z1,pA,qA,tA,eA,D.pure?,ZC,ZD,cB,iop,tt,mA,nA,Zh,gC,uD] <;> exact rfl) ?_) | (first | (refine eC rfl rfl rfl (by simp only [St.put,Za,Zb] <;> exact rfl) ?_) | (refine fC rfl rfl rfl (by simp only [St.put,Za,Zb] <;> exact rfl) ?_))))
      iterate 2 (all_goals refine kA rfl (by simp (disch := omega) only [iA,aA,qop,fop,St.ev,St.put,cd,zd,Value.oneCell',lA,TypeDesc.aggB,Z0,fA,oA,Z1,pA,qA,tA,eA,D.pure?,ZC,ZD,cB,iop,tt,mA,nA,Zh,gC,uD] <;> exact rfl) ?_)
      iterate 10 (all_goals first | (refine lC rfl rfl rfl (by simp (disch := omega) only [iA,aA,qop,fop,St.ev,St.put,cd,zd,Value.oneCell',lA,TypeDesc.aggB,Z0,fA,oA,Z1,pA,qA,tA,eA,D.pure?,ZC,ZD,cB,iop,tt,mA,nA,Zh,gC,uD] <;> exact rfl) ?_) | (first | (refine eC rfl rfl rfl (by simp only [St.put,Za,Zb] <;> exact rfl) ?_) | (refine fC rfl rfl rfl (by simp only [St.put,Za,Zb] <;> exact rfl) ?_)) | (refine cC rfl rfl rfl (by simp only [Za,Zb] <;> exact rfl) (by simp only [Za,Zb] <;> exact rfl) (fun hg => ?_) (fun hg => ?_) <;> (try simp only [Zp,Zi,ZJ,ZK,ne_eq,Zn,Zm,Bool.not_eq_true,Zu] at hg) <;> first | (refine lC rfl rfl rfl (by simp (disch := omega) only [iA,aA,qop,fop,St.ev,St.put,cd,zd,Value.oneCell',lA,TypeDesc.aggB,Z0,fA,oA,Z1,pA,qA,tA,eA,D.pure?,ZC,ZD,cB,iop,tt,mA,nA,Zh,gC,uD] <;> exact rfl) ?_) | (first | (refine eC rfl rfl rfl (by simp only [St.put,Za,Zb] <;> exact rfl) ?_) | (refine fC rfl rfl rfl (by simp only [St.put,Za,Zb] <;> exact rfl) ?_))))
      (all_goals refine kA rfl (by simp (disch := omega) only [iA,aA,qop,fop,St.ev,St.put,cd,zd,Value.oneCell',lA,TypeDesc.aggB,Z0,fA,oA,Z1,pA,qA,tA,eA,D.pure?,ZC,ZD,cB,iop,tt,mA,nA,Zh,gC,uD] <;> exact rfl) ?_)
      all_goals refine bA ?_
      all_goals refine ⟨rfl,?_,xD _,yD _,rfl,rfl⟩
      all_goals repeat' (first | exact sA | refine mB ?_ | refine vA rfl ?_ | refine vA ?_ ?_)
      all_goals refine jn ?_
      all_goals ((try simp only [Zp,Zi,ZJ,ZK,Bool.not_eq_true,Zm,Zn,ne_eq,Zf,true_iff,false_iff,iff_true,iff_false] at *) <;> omega)
     refine jA ?_
     refine oB _ rfl (fun hc4 => ?_) (fun hc4 => ?_)
     ·try simp only [Zp,Zi,ZK,ZJ,ne_eq,Zn,Zm,ZB,ZA,ZI,not_or,not_and,Zu] at hc4
      refine gA hX hb [0,1,2,3,4,5,6] rfl (σ' := ?s15) (fun K hK => ?h15) ?n15
      case h15 =>
       iterate 4 (refine kA rfl (by simp (disch := omega) only [iA,aA,qop,fop,St.ev,St.put,cd,zd,Value.oneCell',lA,TypeDesc.aggB,Z0,fA,oA,Z1,pA,qA,tA,eA,D.pure?,ZC,ZD,uA,D.pv?,tt,mA,nA,Zh,gC,uD] <;> exact rfl) ?_)
       refine mD rfl (by simp only [aA,St.ev,pB,qB,uA,D.pv?,ZG,ZH,zd,cd,Value.oneCell',Zr] <;> exact rfl) (acK hP (c69 l F i (by omega) (by omega) (by omega))) (by simp only [St.put,Za,Zb] <;> exact rfl) ?_
       refine mD rfl (by simp only [aA,St.ev,pB,qB,uA,D.pv?,ZG,ZH,zd,cd,Value.oneCell',Zr] <;> exact rfl) (acK hP (c62 _ (by rw [aI,List.length_take]; omega))) (by simp only [St.put,Za,Zb] <;> exact rfl) ?_
       (refine kA rfl (by simp (disch := omega) only [iA,aA,qop,fop,St.ev,St.put,cd,zd,Value.oneCell',lA,TypeDesc.aggB,Z0,fA,oA,Z1,pA,qA,tA,eA,D.pure?,ZC,ZD,uA,D.pv?,tt,mA,nA,Zh,gC,uD] <;> exact rfl) ?_)
       refine bA ?_
       exact hK
      refine jA ?_
      refine gA hX hb [0,1,2,3,4] rfl (σ' := ?s16) (fun K hK => ?h16) ?n16
      case h16 =>
       iterate 5 (refine kA rfl (by simp (disch := omega) only [iA,aA,qop,fop,St.ev,St.put,cd,zd,Value.oneCell',lA,TypeDesc.aggB,Z0,zD,aD,bD,bE,bB,rB,D.cells?,D.pure?,fB,gB,iB,jB,kB,ZG,ZH,ZL,ZM,ZN,Zl,Zo,aB,Nat.reduceAdd,Nat.reduceMul,nD,cG,St.demote,D.demote,St.setVec,Zh,List.length_append,ZC,Nat.mul_one,reduceIte,tt,mA,nA,gC,uD] <;> exact rfl) ?_)
       refine bA ?_
       exact hK
      refine cE ?_
      refine jA ?_
      refine gA hX hb [0,1,2] rfl (σ' := ?s17) (fun K hK => ?h17) ?n17
      case h17 =>
       iterate 3 (refine kA rfl (by simp (disch := omega) only [iA,aA,qop,fop,St.ev,St.put,cd,zd,Value.oneCell',lA,TypeDesc.aggB,Z0,cB,iop,tt,mA,nA,Zh,gC,uD] <;> exact rfl) ?_)
       refine bA ?_
       exact hK
      refine jA ?_
      exact ⟨(i + 1,ds ++ [bI l F (lv.getD 0 []) es ec i]),by exact ⟨by dsimp only; omega,by dsimp only; rw [hds]; exact (zH (bI l F (lv.getD 0 []) es ec) _ i (by omega)).symm⟩,by (try dsimp only); omega,rC ⟨rfl,(by repeat first | exact sA | refine mB ?_ | refine vA (by first | rfl | (first | (dsimp only; rw [show bI l F (lv.getD 0 []) es ec i = pH (aI l F i) from if_pos hc4]; simp) | (dsimp only; rw [show bI l F (lv.getD 0 []) es ec i = (lv.getD 0 []).getD i 0 from if_neg (by omega)]; simp))) ?_),(pC rfl ((by repeat first | exact sA | refine mB ?_ | refine vA (by first | rfl | (first | (dsimp only; rw [show bI l F (lv.getD 0 []) es ec i = pH (aI l F i) from if_pos hc4]; simp) | (dsimp only; rw [show bI l F (lv.getD 0 []) es ec i = (lv.getD 0 []).getD i 0 from if_neg (by omega)]; simp))) ?_)) (pC rfl ((by repeat first | exact sA | refine mB ?_ | refine vA (by first | rfl | (first | (dsimp only; rw [show bI l F (lv.getD 0 []) es ec i = pH (aI l F i) from if_pos hc4]; simp) | (dsimp only; rw [show bI l F (lv.getD 0 []) es ec i = (lv.getD 0 []).getD i 0 from if_neg (by omega)]; simp))) ?_)) (pC rfl ((by repeat first | exact sA | refine mB ?_ | refine vA (by first | rfl | (first | (dsimp only; rw [show bI l F (lv.getD 0 []) es ec i = pH (aI l F i) from if_pos hc4]; simp) | (dsimp only; rw [show bI l F (lv.getD 0 []) es ec i = (lv.getD 0 []).getD i 0 from if_neg (by omega)]; simp))) ?_)) (xB _)))),(jE (by first | rfl | (first | (dsimp only; rw [show bI l F (lv.getD 0 []) es ec i = pH (aI l F i) from if_pos hc4]; simp) | (dsimp only; rw [show bI l F (lv.getD 0 []) es ec i = (lv.getD 0 []).getD i 0 from if_neg (by omega)]; simp))) (yB _)),rfl,rfl⟩⟩
     ·try simp only [Zp,Zi,ZK,ZJ,ne_eq,Zn,Zm,ZB,ZA,ZI,not_or,not_and,Zu] at hc4
      refine uB ?_
      refine jA ?_
      refine gA hX hb [0,1,2,3,4] rfl (σ' := ?s18) (fun K hK => ?h18) ?n18
      case h18 =>
       iterate 5 (refine kA rfl (by simp (disch := omega) only [iA,aA,qop,fop,St.ev,St.put,cd,zd,Value.oneCell',lA,TypeDesc.aggB,Z0,zD,aD,bD,bE,bB,rB,D.cells?,D.pure?,fB,gB,iB,jB,kB,ZG,ZH,ZL,ZM,ZN,Zl,Zo,aB,Nat.reduceAdd,Nat.reduceMul,nD,cG,St.demote,D.demote,St.setVec,Zh,List.length_append,ZC,Nat.mul_one,reduceIte,tt,mA,nA,gC,uD] <;> exact rfl) ?_)
       refine bA ?_
       exact hK
      refine cE ?_
      refine jA ?_
      refine gA hX hb [0,1,2] rfl (σ' := ?s19) (fun K hK => ?h19) ?n19
      case h19 =>
       iterate 3 (refine kA rfl (by simp (disch := omega) only [iA,aA,qop,fop,St.ev,St.put,cd,zd,Value.oneCell',lA,TypeDesc.aggB,Z0,cB,iop,tt,mA,nA,Zh,gC,uD] <;> exact rfl) ?_)
       refine bA ?_
       exact hK
      refine jA ?_
      exact ⟨(i + 1,ds ++ [bI l F (lv.getD 0 []) es ec i]),by exact ⟨by dsimp only; omega,by dsimp only; rw [hds]; exact (zH (bI l F (lv.getD 0 []) es ec) _ i (by omega)).symm⟩,by (try dsimp only); omega,rC ⟨rfl,(by repeat first | exact sA | refine mB ?_ | refine vA (by first | rfl | (first | (dsimp only; rw [show bI l F (lv.getD 0 []) es ec i = pH (aI l F i) from if_pos hc4]; simp) | (dsimp only; rw [show bI l F (lv.getD 0 []) es ec i = (lv.getD 0 []).getD i 0 from if_neg (by omega)]; simp))) ?_),(pC rfl ((by repeat first | exact sA | refine mB ?_ | refine vA (by first | rfl | (first | (dsimp only; rw [show bI l F (lv.getD 0 []) es ec i = pH (aI l F i) from if_pos hc4]; simp) | (dsimp only; rw [show bI l F (lv.getD 0 []) es ec i = (lv.getD 0 []).getD i 0 from if_neg (by omega)]; simp))) ?_)) (pC rfl ((by repeat first | exact sA | refine mB ?_ | refine vA (by first | rfl | (first | (dsimp only; rw [show bI l F (lv.getD 0 []) es ec i = pH (aI l F i) from if_pos hc4]; simp) | (dsimp only; rw [show bI l F (lv.getD 0 []) es ec i = (lv.getD 0 []).getD i 0 from if_neg (by omega)]; simp))) ?_)) (pC rfl ((by repeat first | exact sA | refine mB ?_ | refine vA (by first | rfl | (first | (dsimp only; rw [show bI l F (lv.getD 0 []) es ec i = pH (aI l F i) from if_pos hc4]; simp) | (dsimp only; rw [show bI l F (lv.getD 0 []) es ec i = (lv.getD 0 []).getD i 0 from if_neg (by omega)]; simp))) ?_)) (xB _)))),(jE (by first | rfl | (first | (dsimp only; rw [show bI l F (lv.getD 0 []) es ec i = pH (aI l F i) from if_pos hc4]; simp) | (dsimp only; rw [show bI l F (lv.getD 0 []) es ec i = (lv.getD 0 []).getD i 0 from if_neg (by omega)]; simp))) (yB _)),rfl,rfl⟩⟩
    ·try simp only [Zp,Zi,ZK,ZJ,ne_eq,Zn,Zm,ZB,ZA,ZI,not_or,not_and,Zu] at hc3
     refine oD ?_
     refine fD ?_
     refine fD ?_
     refine zE ?_
     refine jA ?_
     refine cA ?_
     refine nH 0 rfl (σ' := ?s21) ?h21 ?n21
     case h21 => simp only [St.freeze,D.freeze,ZG,ZH,Za,Zb,Zr,reduceIte,Nat.reduceEqDiff]; exact rfl
     refine gA hX hb [0,1,2,3,4,5,6,7] rfl (σ' := ?s20) (fun K hK => ?h20) ?n20
     case h20 =>
      iterate 5 (refine kA rfl (by simp (disch := omega) only [iA,aA,qop,fop,St.ev,St.put,cd,zd,Value.oneCell',lA,TypeDesc.aggB,Z0,fA,oA,Z1,pA,qA,tA,eA,D.pure?,ZC,ZD,uA,D.pv?,iC,D.boxCells,D.live,D.cells?,ZM,ZL,ZN,ZG,ZH,St.setVec,tt,mA,nA,Zh,gC,uD] <;> exact rfl) ?_)
      refine mD rfl (by simp only [aA,St.ev,pB,qB,uA,D.pv?,ZG,ZH,zd,cd,Value.oneCell',Zr] <;> exact rfl) (acK hP (c70 S F ds (by omega))) (by simp only [St.put,Za,Zb] <;> exact rfl) ?_
      iterate 2 (refine kA rfl (by simp (disch := omega) only [iA,aA,qop,fop,St.ev,St.put,cd,zd,Value.oneCell',lA,TypeDesc.aggB,Z0,fA,oA,Z1,pA,qA,tA,eA,D.pure?,ZC,ZD,uA,D.pv?,iC,D.boxCells,D.live,D.cells?,ZM,ZL,ZN,ZG,ZH,St.setVec,tt,mA,nA,Zh,gC,uD] <;> exact rfl) ?_)
      refine bA ?_
      exact hK
     refine jA ?_
     refine bC ?_
     exact zC rfl (oE (by simp only [mE,pA,qA,lA,TypeDesc.aggB,eA,D.pure?,D.pv?,pB,qB,Zd,Zc,Zw,Zk,Zv,Zj,Zx,Zl,Zo,Zr,reduceIte,Nat.reduceAdd,Nat.reduceLeDiff,Zg,Zf,tt] <;> exact rfl) rfl (by first | rfl | (first | (rw [lP hc0]; rfl) | (rw [mP hc0 (show (l.length : Int) ≠ (S : Int) by omega)]; rfl) | (rw [nP hc0 (show (l.length : Int) = (S : Int) by omega) hc2]; rfl) | (rw [oP hc0 (show (l.length : Int) = (S : Int) by omega) (by dsimp only; omega),hds,List.take_of_length_le (by rw [uW,List.length_map,List.length_range]; omega)]; rfl))))
end Go.Proofs.Ytldcoekbgfaomaa
end
section
namespace Go.Proofs.Ytldcoekbgfaomaa
/-- Two lists of levels with rows of the same lengths. -/
structure Alike (a b : List (List Int)) : Prop where
 len : a.length = b.length
 row : ∀ k,(a.getD k []).length = (b.getD k []).length
 small : ∀ k,(a.getD k []).length ≤ 4096
 few : a.length ≤ 40
/-- One leaf more. -/
def gV (S F : Nat) (out : List (Int × Int)) (x : Int) : List (Int × Int) :=
 let e : Int × Int := (x * F,min (S : Int) (x * F + F) - x * F)
 if 0 < out.length ∧ (out.getD (out.length - 1) (0,0)).1 + (out.getD (out.length - 1) (0,0)).2 = e.1 then
  out.take (out.length - 1) ++ [((out.getD (out.length - 1) (0,0)).1,(out.getD (out.length - 1) (0,0)).2 + e.2)]
 else out ++ [e]
/-- What the extents so far may be. -/
def ExtSmall (n : Nat) (out : List (Int × Int)) : Prop := out.length ≤ n ∧ ∀ e ∈ out,0 ≤ e.1 ∧ e.1 ≤ 4096 ∧ 0 ≤ e.2 ∧ e.2 ≤ 4096 * n
end Go.Proofs.Ytldcoekbgfaomaa
end
section
namespace Go.Proofs.Ytldcoekbgfaomaa
theorem kAA {α : Type} (out : List α) (d : α) (h : 0 < out.length) : out = out.take (out.length - 1) ++ [out.getD (out.length - 1) d] := by
 have h1 : out.take (out.length - 1 + 1) = out.take (out.length - 1) ++ [out.getD (out.length - 1) d] := by
  rw [List.take_add_one,List.getD_eq_getElem?_getD,List.getElem?_eq_getElem (by omega : out.length - 1 < out.length)]
  rfl
 rw [← h1,show out.length - 1 + 1 = out.length by omega,List.take_length]
theorem cO (out : List (Int × Int)) (v : Int) (h : 0 < out.length) :
  (dE out).take ((out.length - 1) * 2 + 1) ++ [i64 v] ++ (dE out).drop ((out.length - 1) * 2 + 1 + 1) = dE (out.take (out.length - 1) ++ [((out.getD (out.length - 1) (0,0)).1,v)]) := by
 have hl := dD (out.take (out.length - 1))
 rw [List.length_take,Nat.min_eq_left (by omega)] at hl
 have e : dE out = dE (out.take (out.length - 1)) ++ [i64 (out.getD (out.length - 1) (0,0)).1,i64 (out.getD (out.length - 1) (0,0)).2] := by
  conv => lhs; rw [kAA out (0,0) h]
  simp [dE]
 rw [e,← jC]
 generalize dE (out.take (out.length - 1)) = xs at hl
 rw [List.take_append,List.drop_append,hl,List.take_of_length_le (by omega),List.drop_of_length_le (l := xs) (by omega),show (out.length - 1) * 2 + 1 - (out.length - 1) * 2 = 1 by omega,
  show (out.length - 1) * 2 + 1 + 1 - (out.length - 1) * 2 = 2 by omega]
 simp
theorem lAA {S F : Nat} {out : List (Int × Int)} {x : Int} (h : 0 < out.length ∧ (out.getD (out.length - 1) (0,0)).1 + (out.getD (out.length - 1) (0,0)).2 = x * F) :
  gV S F out x = out.take (out.length - 1) ++ [((out.getD (out.length - 1) (0,0)).1,(out.getD (out.length - 1) (0,0)).2 + (min (S : Int) (x * F + F) - x * F))] := if_pos h
theorem mAA {S F : Nat} {out : List (Int × Int)} {x : Int} (h : ¬ (0 < out.length ∧ (out.getD (out.length - 1) (0,0)).1 + (out.getD (out.length - 1) (0,0)).2 = x * F)) :
  gV S F out x = out ++ [(x * F,min (S : Int) (x * F + F) - x * F)] := if_neg h
theorem ExtSmall.step {n S F : Nat} {out : List (Int × Int)} {x : Int} (h : ExtSmall n out) (h0 : 0 ≤ x * (F : Int)) (h1 : x * (F : Int) < S) (hS : S ≤ 4096) : ExtSmall (n + 1) (gV S F out x) := by
 obtain ⟨q1,q2⟩ := h
 by_cases hc : 0 < out.length ∧ (out.getD (out.length - 1) (0,0)).1 + (out.getD (out.length - 1) (0,0)).2 = x * F
 ·rw [lAA hc]
  have hl := q2 _ (qE out (0,0) (out.length - 1) (by omega))
  refine ⟨by simp; omega,fun e he => ?_⟩
  rcases List.mem_append.1 he with he | he
  ·have := q2 e (List.mem_of_mem_take he)
   omega
  ·simp only [List.mem_singleton] at he
   subst he
   dsimp only
   omega
 ·rw [mAA hc]
  refine ⟨by simp; omega,fun e he => ?_⟩
  rcases List.mem_append.1 he with he | he
  ·have := q2 e he
   omega
  ·simp only [List.mem_singleton] at he
   subst he
   dsimp only
   omega
theorem rA : ((2 : Int) = 0) = False := by simp
end Go.Proofs.Ytldcoekbgfaomaa
end
section
namespace Go.Proofs.Ytldcoekbgfaomaa
theorem dO : ∀ (n : Nat) (ra rb : List Int),ra.length ≤ n → ra.length = rb.length → (sE ra).map List.length = (sE rb).map List.length
 | n,ra,rb,hn,he => by
  by_cases h : ra.length ≤ 1
  ·rw [xF h,xF (l := rb) (by omega)]
   simp [he]
  ·rw [lF h,lF (l := rb) (by omega)]
   cases n with
   | zero => omega
   | succ n =>
    have hu := pF ra
    have hv := pF rb
    simp only [ZG,he]
    rw [dO n (upL ra) (upL rb) (by omega) (by omega)]
theorem yK : ∀ (n : Nat) (ra : List Int),ra.length ≤ n → ∀ r ∈ sE ra,r.length ≤ n
 | n,ra,hn,r,hr => by
  by_cases h : ra.length ≤ 1
  ·rw [xF h] at hr
   simp only [List.mem_singleton] at hr
   subst hr
   exact hn
  ·rw [lF h] at hr
   have hu := pF ra
   cases n with
   | zero => omega
   | succ n =>
    rcases List.mem_cons.1 hr with rfl | hr
    ·exact hn
    ·have := yK n (upL ra) (by omega) r hr
     omega
theorem mM : ∀ (m : Nat) (ra : List Int),ra.length ≤ 2 ^ m → (sE ra).length ≤ m + 1
 | m,ra,hm => by
  by_cases h : ra.length ≤ 1
  ·rw [xF h]; simp
  ·rw [lF h]
   have hu := pF ra
   cases m with
   | zero => simp at hm; omega
   | succ m =>
    have hp : 2 ^ (m + 1) = 2 ^ m * 2 := Nat.pow_succ ..
    have := mM m (upL ra) (by omega)
    simp only [Zl]
    omega
theorem vW (a : List (List Int)) (k : Nat) : (a.getD k []).length = (a.map List.length).getD k 0 := by
 simp only [List.getD_eq_getElem?_getD,List.getElem?_map]
 cases a[k]? <;> simp
theorem qI {t : Tr} (h : sC t = 0) : (t.lv.getD 0 []).length = wD t.size.toNat t.leaf.toNat ∧ (t.lv.getD 0 []).length ≤ 4096 := by
 obtain ⟨S,F,hS,hF,q1,q2,q3,q4,q5,q6⟩ := sF h
 have h1 := (kP q5).2
 have h2 := pJ (s := S) (n := F) q3
 rw [hS,hF]
 exact ⟨h1,by omega⟩
theorem pP {a b : Tr} (ha : sC a = 0) (hb : sC b = 0) (hs : a.size = b.size) (hf : a.leaf = b.leaf) : Alike a.lv b.lv := by
 obtain ⟨_,_,_,_,_,_,_,_,_,q6⟩ := sF ha
 obtain ⟨_,_,_,_,_,_,_,_,_,r6⟩ := sF hb
 obtain ⟨h1,h2⟩ := qI ha
 obtain ⟨h3,h4⟩ := qI hb
 have hl := dO _ (a.lv.getD 0 []) (b.lv.getD 0 []) (Nat.le_refl _) (by rw [h1,h3,hs,hf])
 rw [q6,r6] at hl
 refine ⟨by simpa using congrArg List.length hl,fun k => by rw [vW,vW,hl],fun k => ?_,?_⟩
 ·by_cases hk : k < a.lv.length
  ·refine yK 4096 (a.lv.getD 0 []) h2 _ ?_
   rw [q6]
   exact qE a.lv [] k hk
  ·rw [List.getD_eq_getElem?_getD,List.getElem?_eq_none (by omega)]
   simp
 ·have := mM 12 (a.lv.getD 0 []) (by simpa using h2)
  rw [q6] at this
  omega
theorem nM {t : Tr} (h : sC t = 0) : 1 ≤ t.lv.length ∧ t.lv.length ≤ 13 := by
 obtain ⟨_,_,_,_,_,_,_,_,q5,q6⟩ := sF h
 have := mM 12 (t.lv.getD 0 []) (by simpa using (qI h).2)
 rw [q6] at this
 have := (kP q5).1
 omega
end Go.Proofs.Ytldcoekbgfaomaa
end
