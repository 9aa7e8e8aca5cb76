/- The walks of the code that the statement reaches, and the plain laws behind them, part Ua. No conditions. -/
import Derived.WalkKit
import Derived.Below
import Derived.CallsIn
import Derived.OrdersIn
import Derived.Maps.AppendAt
import Derived.Deep.AppendLies
import Derived.Laws.OwnMore
import Derived.Laws.Rows
import Derived.Laws.CopyRow
import Derived.Laws.Cells
import Derived.Deep.Draws
import Derived.RangeFuncFrom
import Derived.Laws.MakeOwn
import Derived.Test.YtldcoekbgfaomaaProg
import Derived.Shelf.Spec.SlicesGrow
set_option linter.unusedVariables false
set_option linter.unusedSimpArgs false
section
namespace Go.Proofs.Ytldcoekbgfaomaa
theorem Za {α : Type} {x a : α} {l : List α} : (x :: l).set 0 a = a :: l := rfl
theorem Zb {α : Type} {x a : α} {l : List α} {i : Nat} : (x :: l).set (i + 1) a = x :: l.set i a := rfl
theorem Zc {α : Type} {a : α} {i : Nat} {l : List α} : (a :: l)[i + 1]? = l[i]? := rfl
theorem Zd {α : Type} {a : α} {l : List α} : (a :: l)[0]? = some a := rfl
theorem Ze {α : Type} {l : List α} {i : Nat} : l.toArray[i]? = l[i]? := List.getElem?_toArray
theorem Zf : (false = true) = False := Bool.false_eq_true
theorem Zg {α β : Type} (a : α) (f : α → β) : Option.map f (some a) = some (f a) := rfl
theorem Zh {α β : Type} {l : List α} (f : α → β) : (l.map f).length = l.length := List.length_map f
theorem Zi {p : Prop} {_ : Decidable p} : decide p = false ↔ ¬p := decide_eq_false_iff_not
theorem Zj {α : Type} {a : α} {l : List α} {i : Nat} : (a :: l).take (i + 1) = a :: l.take i := rfl
theorem Zk {α : Type} {a : α} {l : List α} {i : Nat} : (a :: l).drop (i + 1) = l.drop i := rfl
theorem Zl {α : Type} {a : α} {l : List α} : (a :: l).length = l.length + 1 := rfl
theorem Zm {α : Type} [BEq α] [LawfulBEq α] {a b : α} : (a == b) = false ↔ a ≠ b := beq_eq_false_iff_ne
theorem Zn {α : Type} [BEq α] [LawfulBEq α] {a b : α} : (a != b) = false ↔ a = b := bne_eq_false_iff_eq
theorem Zo {α : Type} : ([] : List α).length = 0 := rfl
theorem Zp {p : Prop} [Decidable p] : (decide p = true) = p := decide_eq_true_eq
theorem Zq {α : Type} {_ : Decidable False} (t e : α) : (if False then t else e) = e := if_false t e
theorem Zr {α : Type} {_ : Decidable True} (t e : α) : (if True then t else e) = t := if_true t e
theorem Zs (p : Prop) : (p ∧ True) = p := and_true p
theorem Zt (p : Prop) : (True ∧ p) = p := true_and p
theorem Zu {p : Prop} [Decidable p] : ¬¬p ↔ p := Decidable.not_not
theorem Zv {α : Type} {l : List α} : l.take 0 = [] := rfl
theorem Zw {α : Type} {l : List α} : l.drop 0 = l := rfl
theorem Zx {α : Type} {i : Nat} : ([] : List α).take i = [] := List.take_nil
theorem Zy {α : Type} {i : Nat} : ([] : List α).drop i = [] := List.drop_nil
theorem ZA (b : Bool) : ((!b) = false) = (b = true) := Bool.not_eq_false' b
theorem ZB (b : Bool) : ((!b) = true) = (b = false) := Bool.not_eq_true' b
theorem ZC (n : Nat) : 0 + n = n := Nat.zero_add n
theorem ZD (n : Nat) : n + 0 = n := rfl
theorem ZE {c : Prop} {_ : Decidable c} (h : c) {α : Type} {t e : α} : (if c then t else e) = t := if_pos h
theorem ZF {c : Prop} {_ : Decidable c} (h : ¬c) {α : Type} {t e : α} : (if c then t else e) = e := if_neg h
theorem ZG {α β : Type} {f : α → β} {a : α} {l : List α} : (a :: l).map f = f a :: l.map f := rfl
theorem ZH {α β : Type} {f : α → β} : [].map f = [] := rfl
theorem ZI {m n : Nat} : ((m : Int) = n) ↔ m = n := Int.natCast_inj
theorem ZJ {α : Type} [BEq α] [LawfulBEq α] {a b : α} : (a == b) = true ↔ a = b := beq_iff_eq
theorem ZK {α : Type} [BEq α] [LawfulBEq α] {a b : α} : (a != b) = true ↔ a ≠ b := bne_iff_ne
theorem ZL {α : Type} {a : α} {l m : List α} : a :: l ++ m = a :: (l ++ m) := rfl
theorem ZM {α : Type} (l : List α) : [] ++ l = l := rfl
theorem ZN {α : Type} (l : List α) : l ++ [] = l := List.append_nil l
theorem ZO (n : Nat) : (n : Int).toNat = n := rfl
theorem ZP {α : Type} {a : α} : (some a).isSome = true := rfl
theorem ZQ {α : Type} {p : α → Bool} {l : List α} : l.toArray.all p = l.all p := List.all_toArray
end Go.Proofs.Ytldcoekbgfaomaa
end
section
namespace Go.Proofs.Ytldcoekbgfaomaa
open Go.RowKit
/-- Pure data in one cell: a plain value,a slice of n elements with the cells xs,or a function value whose captured variables hold xs for ever. -/
inductive P1 where
 | v (x : Value)
 | sl (n : Nat) (xs : List P1)
 | clo (f : FuncId) (xs : List P1)
/-- A pure value: one cell,or a struct or an array of cells. -/
inductive PV where
 | p (x : P1)
 | agg (xs : List P1)
/-- What a temporary or a variable's cell may hold. -/
inductive D where
 | any
 | p (x : P1)
 | agg (xs : List P1)
 | tup (ds : List PV)
 | nil
 | ptr (b off : Nat)
 | ept (xs : List P1) (off : Nat)
 | vref (j : Nat)
 | vpt (j off : Nat)
 | fn (f : FuncId) (caps : List Nat)
 | bsl (b off n k : Nat)
 | aggd (ds : List D)
def PV.d : PV → D
 | .p x => .p x
 | .agg xs => .agg xs
/-- A variable in memory. -/
structure Bx where
 ty : TypeId
 cells : List D
/-- A slice of the call's own. -/
structure Vc where
 e : TypeId
 sz : Nat
 n : Nat
 xs : List P1
/-- What else a walk keeps: a finished range over a function; the first n variables keep their places; an iterator at work,at yield l,of the items ys k have come. -/
inductive Mk where
 | coll
 | pin (n : Nat)
 | yld (l : Nat) (ys : List PV) (k : Nat)
def vL : List Mk → Nat
 | [] => 0
 | .pin n :: _ => n
 | _ :: m => vL m
structure St where
 df : List Mk
 slots : List D
 boxes : List Bx
 vecs : List (Option Vc)
/-- Where the variables lie,and what the own slices' values are. -/
structure Gh where
 bl : List Nat
 vv : List Value
inductive R1 (w : World) (C : Nat → Prop) : P1 → Value → Prop
 | v (x : Value) (h : x.oneCell' = true) : R1 w C (.v x) x
 | nil (A : Option Addr) (c : Nat) : R1 w C (.sl 0 []) (.slice A 0 c)
 | sl (n g o c : Nat) (xs : List P1) (us : List Value) (hn : n ≤ c) (hc : c ≤ maxLen) (hg : C g) (hl : us.length = xs.length)
   (hcell : ∀ (j : Nat) (u : Value),us[j]? = some u → w.cell? ⟨g,o + j,none⟩ = some u)
   (h : ∀ (j : Nat) (x : P1) (u : Value),xs[j]? = some x → us[j]? = some u → R1 w C x u) : R1 w C (.sl n xs) (.slice (some ⟨g,o,none⟩) n c)
 | clo (f : FuncId) (xs : List P1) (gs : List Nat) (us : List Value) (hl : gs.length = xs.length) (hu : us.length = xs.length) (hg : ∀ g ∈ gs,C g)
   (hcell : ∀ (j g : Nat) (u : Value),gs[j]? = some g → us[j]? = some u → w.cell? ⟨g,0,none⟩ = some u)
   (h : ∀ (j : Nat) (x : P1) (u : Value),xs[j]? = some x → us[j]? = some u → R1 w C x u) : R1 w C (.clo f xs) (.func (.func f) #[] (gs.map fun g => Value.pointer (some ⟨g,0,none⟩)).toArray)
inductive RV (w : World) (C : Nat → Prop) : PV → Value → Prop
 | p (x : P1) (u : Value) (h : R1 w C x u) : RV w C (.p x) u
 | agg (xs : List P1) (us : List Value) (hl : us.length = xs.length) (h : ∀ (j : Nat) (x : P1) (u : Value),xs[j]? = some x → us[j]? = some u → R1 w C x u) : RV w C (.agg xs) (.agg us.toArray)
inductive RD (w : World) (C : Nat → Prop) (γ : Gh) : D → Value → Prop
 | any (v : Value) : RD w C γ .any v
 | p (x : P1) (u : Value) (h : R1 w C x u) : RD w C γ (.p x) u
 | agg (xs : List P1) (us : List Value) (hl : us.length = xs.length) (h : ∀ (j : Nat) (x : P1) (u : Value),xs[j]? = some x → us[j]? = some u → R1 w C x u) : RD w C γ (.agg xs) (.agg us.toArray)
 | tup (ds : List PV) (us : List Value) (hl : us.length = ds.length) (h : ∀ (j : Nat) (d : PV) (u : Value),ds[j]? = some d → us[j]? = some u → RV w C d u) : RD w C γ (.tup ds) (.tuple us.toArray)
 | nil : RD w C γ .nil (.slice none 0 0)
 | ptr (b off g : Nat) (h : γ.bl[b]? = some g) : RD w C γ (.ptr b off) (.pointer (some ⟨g,off,none⟩))
 | ept (xs : List P1) (off g o : Nat) (us : List Value) (hg : C g) (hl : us.length = xs.length)
   (hcell : ∀ (j : Nat) (u : Value),us[j]? = some u → w.cell? ⟨g,o + j,none⟩ = some u)
   (h : ∀ (j : Nat) (x : P1) (u : Value),xs[j]? = some x → us[j]? = some u → R1 w C x u) : RD w C γ (.ept xs off) (.pointer (some ⟨g,o + off,none⟩))
 | vref (j : Nat) (v : Value) (h : γ.vv[j]? = some v) : RD w C γ (.vref j) v
 | vpt (j off g n c : Nat) (h : γ.vv[j]? = some (.slice (some ⟨g,0,none⟩) n c)) : RD w C γ (.vpt j off) (.pointer (some ⟨g,off,none⟩))
 | fn (f : FuncId) (bs : List Nat) (us : List Value) (hl : us.length = bs.length) (h : ∀ (j b : Nat) (u : Value),bs[j]? = some b → us[j]? = some u → ∃ g,γ.bl[b]? = some g ∧ u = .pointer (some ⟨g,0,none⟩)) : RD w C γ (.fn f bs) (.func (.func f) #[] us.toArray)
 | bsl (b off n k g c : Nat) (h : γ.bl[b]? = some g) (hn : n ≤ c) (hc : c ≤ maxLen) : RD w C γ (.bsl b off n k) (.slice (some ⟨g,off,none⟩) n c)
 | aggd (ds : List D) (us : List Value) (hl : us.length = ds.length) (h1 : ∀ u ∈ us,u.oneCell' = true) (h : ∀ (j : Nat) (d : D) (u : Value),ds[j]? = some d → us[j]? = some u → RD w C γ d u) :
   RD w C γ (.aggd ds) (.agg us.toArray)
structure GhLe (γ γ' : Gh) : Prop where
 b : ∀ (b g : Nat),γ.bl[b]? = some g → γ'.bl[b]? = some g
 v : ∀ (j : Nat) (v : Value),γ.vv[j]? = some v → γ'.vv[j]? = some v
theorem GhLe.refl (γ : Gh) : GhLe γ γ := ⟨fun _ _ h => h,fun _ _ h => h⟩
/-- What stays as it was,of whatever blocks C names. -/
structure Kp (C C' : Nat → Prop) (w w' : World) : Prop where
 c : ∀ g,C g → C' g
 h : ∀ g,C g → w'.heap[g]? = w.heap[g]?
theorem Kp.refl (C : Nat → Prop) (w : World) : Kp C C w w := ⟨fun _ h => h,fun _ _ => rfl⟩
theorem R1.one {w : World} {C : Nat → Prop} {x : P1} {u : Value} (h : R1 w C x u) : u.oneCell' = true := by
 cases h <;> first | assumption | rfl
theorem R1.keep {w w' : World} {C C' : Nat → Prop} (k : Kp C C' w w') {x : P1} {u : Value} (h : R1 w C x u) : R1 w' C' x u := by
 induction h with
 | v x h => exact .v x h
 | nil A c => exact .nil A c
 | sl n g o c xs us hn hc hg hl hcell h ih =>
  exact .sl n g o c xs us hn hc (k.c g hg) hl (fun j u hu => (World.cell?_of_block (k.h g hg)).trans (hcell j u hu)) ih
 | clo f xs gs us hl hu hg hcell h ih =>
  exact .clo f xs gs us hl hu (fun g hm => k.c g (hg g hm)) (fun j g u hj hu => (World.cell?_of_block (k.h g (hg g (List.mem_of_getElem? hj)))).trans (hcell j g u hj hu)) ih
theorem RV.keep {w w' : World} {C C' : Nat → Prop} (k : Kp C C' w w') {d : PV} {u : Value} (h : RV w C d u) : RV w' C' d u := by
 cases h with
 | p x u h => exact .p x u (h.keep k)
 | agg xs us hl h => exact .agg xs us hl fun j x u hx hu => (h j x u hx hu).keep k
theorem RV.rd {w : World} {C : Nat → Prop} {γ : Gh} {d : PV} {u : Value} (h : RV w C d u) : RD w C γ d.d u := by
 cases h with
 | p x u h => exact .p x u h
 | agg xs us hl h => exact .agg xs us hl h
theorem RD.keep {w w' : World} {C C' : Nat → Prop} {γ γ' : Gh} (k : Kp C C' w w') (hb : GhLe γ γ')
  {d : D} {u : Value} (h : RD w C γ d u) : RD w' C' γ' d u := by
 induction h with
 | any v => exact .any _
 | p x u h => exact .p x _ (h.keep k)
 | agg xs us hl h => exact .agg xs us hl fun j x u hx hu => (h j x u hx hu).keep k
 | tup ds us hl h => exact .tup ds us hl fun j x u hx hu => (h j x u hx hu).keep k
 | nil => exact .nil
 | ptr b off g h => exact .ptr b off g (hb.b b g h)
 | ept xs off g o us hg hl hcell h =>
  exact .ept xs off g o us (k.c g hg) hl (fun j u hu => (World.cell?_of_block (k.h g hg)).trans (hcell j u hu)) fun j x u hx hu => (h j x u hx hu).keep k
 | vref j v h => exact .vref j _ (hb.v j _ h)
 | vpt j off g n c h => exact .vpt j off g n c (hb.v j _ h)
 | bsl b off n k g c h hn hc => exact .bsl b off n k g c (hb.b b g h) hn hc
 | fn f bs us hl h => exact .fn f bs us hl fun j b u hx hu => let ⟨g,h1,h2⟩ := h j b u hx hu; ⟨g,hb.b b g h1,h2⟩
 | aggd ds us hl h1 h ih => exact .aggd ds us hl h1 ih
/-- A cell of a slice. -/
theorem R1.sl_cells {w : World} {C : Nat → Prop} {n : Nat} {xs : List P1} {u : Value} (h : R1 w C (.sl n xs) u) (hx : 0 < xs.length) :
  ∃ (g o c : Nat) (us : List Value),u = .slice (some ⟨g,o,none⟩) n c ∧ n ≤ c ∧ c ≤ maxLen ∧ C g ∧ us.length = xs.length ∧ (∀ (j : Nat) (u : Value),us[j]? = some u → w.cell? ⟨g,o + j,none⟩ = some u) ∧
   ∀ (j : Nat) (x : P1) (u : Value),xs[j]? = some x → us[j]? = some u → R1 w C x u := by
 cases h with
 | nil => simp at hx
 | sl n g o c xs us hn hc hg hl hcell h => exact ⟨g,o,c,us,rfl,hn,hc,hg,hl,hcell,h⟩
theorem R1.sl_form {w : World} {C : Nat → Prop} {n : Nat} {xs : List P1} {u : Value} (h : R1 w C (.sl n xs) u) : ∃ A c,u = .slice A n c := by
 cases h with
 | nil A c => exact ⟨A,c,rfl⟩
 | sl n g o c => exact ⟨_,c,rfl⟩
/-- Another world: only blocks that Z names have turned,of those that were there. -/
structure GrZ (w w' : World) (Z : Nat → Prop) : Prop where
 os : w'.os = w.os
 tape : w'.tape = w.tape
 output : w'.output = w.output
 size : w.heap.size ≤ w'.heap.size
 block : ∀ k,k < w.heap.size → ¬ Z k → w'.heap[k]? = w.heap[k]?
/-- What J says of the blocks O stays true while these and the blocks C stay as they are. -/
def fZ (J : List Mk → (Nat → Prop) → (Nat → Prop) → World → Prop) : Prop :=
 ∀ m O C C' w w',J m O C w → w.heap.size ≤ w'.heap.size → (∀ g,C g → C' g) → (∀ g,O g ∨ C g → w'.heap[g]? = w.heap[g]?) → J m O C' w'
/-- What a call of yield does: an item has come; only blocks of O,and new ones,have turned. -/
def lEA (F : Fence) (n : Nat) (P : Program) (J : List Mk → (Nat → Prop) → (Nat → Prop) → World → Prop) : Prop :=
 ∀ (l : Nat) (ys : List PV) (k : Nat) (m : List Mk) (O C : Nat → Prop) (w : World) (y : PV) (u : Value),J (.yld l ys k :: m) O C w → ys[k]? = some y → RV w C y u → (∀ g,O g → g < w.heap.size ∧ ¬ C g) → (∀ g,C g → g < w.heap.size) →
  YieldAt F (n - 1) P l #[u] w fun e w' => e = .returned (.bool true) ∧ ∃ O' : Nat → Prop,(∀ g,O g → O' g) ∧ (∀ g,O' g → O g ∨ (w.heap.size ≤ g ∧ g < w'.heap.size)) ∧ J (.yld l ys (k + 1) :: m) O' C w' ∧ GrZ w w' O
/-- The walk's surroundings: the program,the world in which the walk began,the blocks that came in,the blocks that it may turn; what somebody else knows of blocks that the walk leaves alone; where the first variables lie. -/
structure Cx where
 F : Fence
 n : Nat
 P : Program
 w0 : World
 C0 : Nat → Prop
 Z : Nat → Prop
 J : List Mk → (Nat → Prop) → (Nat → Prop) → World → Prop
 bl0 : List Nat
 zn : ∀ g,w0.heap.size ≤ g → Z g
 zc : ∀ g,Z g → C0 g ∨ w0.heap.size ≤ g
 st : fZ J
 yi : lEA F n P J
def Cx.B (X : Cx) : Nat := X.w0.heap.size
def nKA (w : World) (C : Nat → Prop) (γ : Gh) (bs : List Bx) : Prop :=
 ∀ (b : Nat) (x : Bx),bs[b]? = some x → ∃ (g : Nat) (us : List Value),γ.bl[b]? = some g ∧ w.heap[g]? = some (.cells us.toArray x.ty (0,0)) ∧ us.length = x.cells.length ∧
  ∀ (j : Nat) (d : D) (u : Value),x.cells[j]? = some d → us[j]? = some u → RD w C γ d u ∧ u.oneCell' = true
def oKA (Z : Nat → Prop) (w : World) (C : Nat → Prop) (γ : Gh) (vs : List (Option Vc)) : Prop :=
 ∀ (j : Nat) (V : Vc),vs[j]? = some (some V) → ∃ (v : Value) (us : List Value),γ.vv[j]? = some v ∧ w.ownsRow 0 V.e V.sz v V.n us ∧ us.length = V.xs.length ∧
  (∀ (i : Nat) (x : P1) (u : Value),V.xs[i]? = some x → us[i]? = some u → R1 w C x u) ∧ ∀ g,v.ownBlock = some g → g ∉ γ.bl ∧ ¬ C g ∧ Z g
def pKA (γ : Gh) (vs : List (Option Vc)) : Prop :=
 ∀ (i j : Nat) (Vi Vj : Vc) (vi vj : Value) (g : Nat),i ≠ j → vs[i]? = some (some Vi) → vs[j]? = some (some Vj) → γ.vv[i]? = some vi → γ.vv[j]? = some vj →
  vi.ownBlock = some g → vj.ownBlock ≠ some g
/-- The blocks that a state speaks of. -/
def Held (γ : Gh) (vs : List (Option Vc)) (C : Nat → Prop) (g : Nat) : Prop :=
 C g ∨ g ∈ γ.bl ∨ ∃ (j : Nat) (V : Vc) (v : Value),vs[j]? = some (some V) ∧ γ.vv[j]? = some v ∧ v.ownBlock = some g
/-- The marks of finished ranges over functions,among the deferred calls. -/
def DfOk (w : World) (O : Nat → Prop) : List Mk → List Deferred → Prop
 | [],ds => ds = []
 | .coll :: m,ds => ∃ D ds',ds = { target := .collected D,args := #[] } :: ds' ∧ O D ∧ w.heap[D]? = some (.deferred (some [])) ∧ DfOk w (fun g => O g ∧ g ≠ D) m ds'
 | _ :: m,ds => DfOk w O m ds
/-- What lies apart. -/
def Apart (X : Cx) (m : List Mk) (ds : List Deferred) (w : World) (γ : Gh) (vs : List (Option Vc)) (C O : Nat → Prop) : Prop :=
 X.J m O C w ∧ DfOk w O m ds ∧ ∀ g,O g → g < w.heap.size ∧ X.Z g ∧ ¬ Held γ vs C g
def eIA (X : Cx) (m : List Mk) (γ : Gh) (nb : Nat) : Prop := vL m ≤ nb ∧ ∀ b g,b < vL m → X.bl0[b]? = some g → γ.bl[b]? = some g
structure Rel (X : Cx) (σ : St) (a : Act) (w : World) (γ : Gh) (C : Nat → Prop) : Prop where
 sz : a.tmps.size = σ.slots.length
 sl : ∀ (t : Nat) (d : D),σ.slots[t]? = some d → RD w C γ d (a.tmps.getD t undef)
 bl : γ.bl.length = σ.boxes.length
 bx : nKA w C γ σ.boxes
 bn : γ.bl.Nodup
 bge : ∀ g,g ∈ γ.bl → X.Z g
 vl : γ.vv.length = σ.vecs.length
 vc : oKA X.Z w C γ σ.vecs
 vd : pKA γ σ.vecs
 gr : GrZ X.w0 w X.Z
 cc : ∀ g,C g → (X.C0 g ∨ X.B ≤ g) ∧ g < w.heap.size ∧ g ∉ γ.bl
 fr : ∃ O,Apart X σ.df a.defers w γ σ.vecs C O
 bp : eIA X σ.df γ σ.boxes.length
def Sat (X : Cx) (σ : St) (a : Act) (w : World) : Prop := ∃ γ C,Rel X σ a w γ C
theorem GrZ.refl (w : World) (Z : Nat → Prop) : GrZ w w Z := ⟨rfl,rfl,rfl,Nat.le_refl _,fun _ _ _ => rfl⟩
theorem GrZ.trans {w w1 w2 : World} {Z Z' : Nat → Prop} (h : GrZ w w1 Z) (h' : GrZ w1 w2 Z') (hz : ∀ g,g < w.heap.size → Z' g → Z g) : GrZ w w2 Z :=
 ⟨h'.os.trans h.os,h'.tape.trans h.tape,h'.output.trans h.output,Nat.le_trans h.size h'.size,fun k hk hne =>
  (h'.block k (Nat.lt_of_lt_of_le hk h.size) (fun e => hne (hz k hk e))).trans (h.block k hk hne)⟩
theorem kU {w w' : World} {row : Option Nat} (h : w.grownBy w' row) : GrZ w w' (fun g => row = some g) := ⟨h.os,h.tape,h.output,h.size,fun k hk hne => h.block k hk (fun e => hne e.symm)⟩
theorem GrZ.grow {w w1 w2 : World} {Z : Nat → Prop} {row : Option Nat} (h : GrZ w w1 Z) (h' : w1.grownBy w2 row) (hr : ∀ g,row = some g → g < w.heap.size → Z g) : GrZ w w2 Z :=
 h.trans (kU h') fun g hg e => hr g e hg
theorem DfOk.keep {w w' : World} : ∀ {m : List Mk} {O O' : Nat → Prop} {ds : List Deferred} (_ : ∀ g,O g → O' g) (_ : ∀ g,O g → w'.heap[g]? = w.heap[g]?),DfOk w O m ds → DfOk w' O' m ds
 | [],_,_,ds,_,_,h => h
 | .coll :: m,_,_,ds,hO,hh,h => by
  obtain ⟨D,ds',h1,h2,h3,h4⟩ := h
  exact ⟨D,ds',h1,hO D h2,(hh D h2).trans h3,DfOk.keep (fun g hg => ⟨hO g hg.1,hg.2⟩) (fun g hg => hh g hg.1) h4⟩
 | .pin n :: m,_,_,ds,hO,hh,h => DfOk.keep (m := m) hO hh h
 | .yld l ys k :: m,_,_,ds,hO,hh,h => DfOk.keep (m := m) hO hh h
/-- What lies apart stays so: only held blocks have turned,and what is held now was held or is new. -/
theorem Apart.keep {X : Cx} {m : List Mk} {ds : List Deferred} {w w' : World} {γ γ' : Gh} {vs vs' : List (Option Vc)} {C C' O : Nat → Prop} (h : Apart X m ds w γ vs C O) (hs : w.heap.size ≤ w'.heap.size) (hC : ∀ g,C g → C' g)
  (hc : ∀ g,C g → w'.heap[g]? = w.heap[g]?) (hh : ∀ g,g < w.heap.size → ¬ Held γ vs C g → w'.heap[g]? = w.heap[g]?) (hH : ∀ g,g < w.heap.size → Held γ' vs' C' g → Held γ vs C g) : Apart X m ds w' γ' vs' C' O := by
 obtain ⟨h1,h2,h3⟩ := h
 have hO : ∀ g,O g → w'.heap[g]? = w.heap[g]? := fun g hg => hh g (h3 g hg).1 (h3 g hg).2.2
 exact ⟨X.st m O C C' w w' h1 hs hC (fun g hg => hg.elim (hO g) (hc g)),h2.keep (fun _ h => h) hO,fun g hg => ⟨Nat.lt_of_lt_of_le (h3 g hg).1 hs,(h3 g hg).2.1,fun hh => (h3 g hg).2.2 (hH g (h3 g hg).1 hh)⟩⟩
/-- A frame slot is written. -/
def St.put (σ : St) (dst : Option Tmp) (d : D) : St :=
 match dst with
 | some t => { σ with slots := σ.slots.set t d }
 | none => σ
theorem fBA (ts : Array Value) (t : Nat) (v : Value) (i : Nat) : (ts.setIfInBounds t v).getD i undef = if t = i ∧ i < ts.size then v else ts.getD i undef := by
 simp only [Array.getD_eq_getD_getElem?,Array.getElem?_setIfInBounds]
 by_cases h : t = i
 ·subst h
  by_cases h2 : t < ts.size
  ·simp [h2]
  ·simp [h2]
 ·simp [h]
/-- One slot written,nothing else. -/
theorem Rel.put {X : Cx} {σ : St} {a : Act} {w : World} {γ : Gh} {C : Nat → Prop} (r : Rel X σ a w γ C) (dst : Option Tmp) (d : D) (v : Value) (hd : RD w C γ d v) :
  Rel X (σ.put dst d) (a.put dst v) w γ C := by
 cases dst with
 | none => exact ⟨r.sz,r.sl,r.bl,r.bx,r.bn,r.bge,r.vl,r.vc,r.vd,r.gr,r.cc,r.fr,r.bp⟩
 | some t =>
  refine ⟨?_,?_,r.bl,r.bx,r.bn,r.bge,r.vl,r.vc,r.vd,r.gr,r.cc,r.fr,r.bp⟩
  ·simp only [Act.put,St.put,Array.size_setIfInBounds,List.length_set]; exact r.sz
  ·intro i e he
   simp only [Act.put,St.put] at he ⊢
   rw [fBA]
   rw [List.getElem?_set] at he
   by_cases hti : t = i
   ·subst hti
    simp only [Zr] at he
    split at he
    ·rename_i hlt
     rw [if_pos ⟨rfl,by rw [r.sz]; exact hlt⟩]
     injection he with he
     subst he
     exact hd
    ·cases he
   ·rw [if_neg (by intro h; exact hti h.1)]
    rw [if_neg hti] at he
    exact r.sl i e he
end Go.Proofs.Ytldcoekbgfaomaa
end
section
namespace Go.Proofs.Ytldcoekbgfaomaa
open Go.RowKit
/-- What the walk knows of a type. -/
structure TI where
 und : TypeDesc
 size : Nat
 bytes : Nat
 zero : Value
structure TI.Is (P : Program) (t : Nat) (i : TI) : Prop where
 und : P.underlying t = some i.und
 info : ∃ f,P.info? t = some f ∧ f.zero = some i.zero ∧ f.size = i.size ∧ f.bytes = i.bytes
 zsz : i.zero.cells.size = i.size
 zone : i.zero.cells.all (·.oneCell') = true
def TOK (P : Program) (T : Nat → Option TI) : Prop := ∀ t i,T t = some i → TI.Is P t i
def TypeDesc.aggB : TypeDesc → Bool
 | .struct _ | .array _ _ => true
 | _ => false
section
variable {P : Program} {T : Nat → Option TI} {t : Nat} {i : TI} (w : World)
theorem fG (h : TI.Is P t i) : (underlying t).run P w = .ok i.und w := run_underlying h.und w
theorem wE (h : TI.Is P t i) : (sizeOf t).run P w = .ok i.size w := by
 obtain ⟨f,h1,_,h3,_⟩ := h.info
 simp [sizeOf,typeInfo,h1,h3]
theorem vG (h : TI.Is P t i) : (zeroValue t).run P w = .ok i.zero w := by
 obtain ⟨f,h1,h2,_,_⟩ := h.info
 simp [zeroValue,typeInfo,h1,h2]
theorem tK (h : TI.Is P t i) : (isAgg t).run P w = .ok (TypeDesc.aggB i.und) w := by
 simp only [isAgg,Sem.run_bind,fG w h,Result.andThen_ok]
 cases i.und <;> rfl
end
/-- A zero value's cell. -/
def zp : Value → P1
 | .slice none 0 0 => .sl 0 []
 | v => .v v
def zd : Value → D
 | .slice none 0 0 => .nil
 | v => .p (.v v)
theorem gBA (w : World) (C : Nat → Prop) (v : Value) (h : v.oneCell' = true) : R1 w C (zp v) v := by
 unfold zp
 split
 ·exact .nil _ _
 ·exact .v _ h
theorem hBA (w : World) (C : Nat → Prop) (γ : Gh) (v : Value) (h : v.oneCell' = true) : RD w C γ (zd v) v := by
 unfold zd
 split
 ·exact .nil
 ·exact .p _ _ (.v _ h)
/-- A constant. -/
def cd (v : Value) : D := if v.oneCell' then zd v else .any
def St.ev (σ : St) : Operand → D
 | .tmp t => σ.slots.getD t .any
 | .const v => cd v
 | .global _ => .any
 | .func f => .fn f []
theorem lE {X : Cx} {σ : St} {a : Act} {w : World} {γ : Gh} {C : Nat → Prop} (r : Rel X σ a w γ C) (x : Operand) : RD w C γ (σ.ev x) (a.eval x) := by
 cases x with
 | tmp t =>
  simp only [St.ev,Act.eval]
  rw [List.getD_eq_getElem?_getD]
  cases h : σ.slots[t]? with
  | none => exact .any _
  | some d => exact r.sl t d h
 | const v =>
  simp only [St.ev,Act.eval,cd]
  split
  ·rename_i h; exact hBA _ _ _ _ h
  ·exact .any _
 | global g => exact .any _
 | func f => exact .fn f [] [] rfl (fun j b u h => by simp at h)
/-- The cells of a pure value. -/
def D.pure? : D → Option P1
 | .p x => some x
 | .nil => some (.sl 0 [])
 | _ => none
def D.cells? : D → Option (List P1)
 | .agg xs => some xs
 | d => d.pure?.map fun x => [x]
theorem wL {w : World} {C : Nat → Prop} {γ : Gh} {d : D} {u : Value} {x : P1} (h : RD w C γ d u) (hp : d.pure? = some x) : R1 w C x u := by
 cases h <;> simp [D.pure?] at hp
 ·subst hp; assumption
 ·subst hp; exact .nil _ _
theorem rK {u : Value} (h : u.oneCell' = true) : u.cells = #[u] := by
 cases u <;> first | rfl | (simp [Value.oneCell'] at h)
theorem nT {w : World} {C : Nat → Prop} {γ : Gh} {d : D} {u : Value} {xs : List P1} (h : RD w C γ d u) (hp : d.cells? = some xs) :
  ∃ us : List Value,u.cells = us.toArray ∧ us.length = xs.length ∧ ∀ (j : Nat) (x : P1) (v : Value),xs[j]? = some x → us[j]? = some v → R1 w C x v := by
 by_cases ha : ∃ ys,d = .agg ys
 ·obtain ⟨ys,rfl⟩ := ha
  simp only [D.cells?,Option.some.injEq] at hp
  subst hp
  cases h with
  | agg _ us hl h => exact ⟨us,rfl,hl,h⟩
 ·have hp' : d.pure?.map (fun x => [x]) = some xs := by
   cases d <;> first | exact hp | exact absurd ⟨_,rfl⟩ ha
  obtain ⟨x,hx,rfl⟩ := Option.map_eq_some_iff.1 hp'
  have h1 := wL h hx
  refine ⟨[u],rK h1.one,rfl,fun j y v hy hv => ?_⟩
  cases j with
  | zero => simp at hy hv; subst hy; subst hv; exact h1
  | succ j => simp at hy
/-! ### Numbers -/
def iR (op : BinOp) (k : IntKind) (x y : Int) : Int :=
 match op with
 | .and => k.wrap (BitVec.ofInt k.bits x &&& BitVec.ofInt k.bits y).toNat
 | .or => k.wrap (BitVec.ofInt k.bits x ||| BitVec.ofInt k.bits y).toNat
 | .xor => k.wrap (BitVec.ofInt k.bits x ^^^ BitVec.ofInt k.bits y).toNat
 | _ => k.wrap (BitVec.ofInt k.bits x &&& ~~~BitVec.ofInt k.bits y).toNat
def iop (op : BinOp) (k : IntKind) (a b : Int) : Option Value :=
 match op with
 | .add => some (.int k (k.wrap (a + b)))
 | .sub => some (.int k (k.wrap (a - b)))
 | .mul => some (.int k (k.wrap (a * b)))
 | .quo => if b ≠ 0 then some (.int k (k.wrap (a.tdiv b))) else none
 | .rem => if b ≠ 0 then some (.int k (a.tmod b)) else none
 | .and => some (.int k (iR .and k a b))
 | .or => some (.int k (iR .or k a b))
 | .xor => some (.int k (iR .xor k a b))
 | .andNot => some (.int k (iR .andNot k a b))
 | .shl => if 0 ≤ b then some (.int k (k.wrap (a * 2 ^ min b.toNat k.bits))) else none
 | .shr => if 0 ≤ b then some (.int k (a.fdiv (2 ^ min b.toNat k.bits))) else none
 | .eql => some (.bool (a == b))
 | .neq => some (.bool (a != b))
 | .lss => some (.bool (a < b))
 | .leq => some (.bool (a ≤ b))
 | .gtr => some (.bool (a > b))
 | .geq => some (.bool (a ≥ b))
theorem hGA {P : Program} (W : World) (op : BinOp) (t : TypeId) (x y : Operand) (k : IntKind) (a b : Int) (v : Value) (h : iop op k a b = some v) :
  (do eqGuard op t x y (.int k a) (.int k b); binOp op t (.int k a) (.int k b) : Sem Value).run P W = .ok v W := by
 have hg : (eqGuard op t x y (.int k a) (.int k b)).run P W = .ok () W := by
  unfold eqGuard
  cases op <;> rfl
 rw [Sem.run_bind,hg,Result.andThen_ok]
 cases op <;> simp only [iop] at h <;> simp only [binOp,ne_eq,not_true_eq_false,Zq] <;>
  (try (injection h with h; subst h; first | rfl | (simp [Op.intArith,Op.intBits,Op.intCmp,iR]; done)))
 all_goals (split at h <;> first | (cases h; done) | (rename_i hc; injection h with h; subst h))
 all_goals first
  | (simp [Op.intDiv,hc]; done)
  | (simp [Op.shift,show ¬ b < 0 by omega]; done)
/-- Types whose values are n integers of one kind,compared one by one. -/
def EOK (P : Program) (E : Nat → Option (IntKind × Nat)) : Prop :=
 ∀ t k n,E t = some (k,n) → ∀ (op : BinOp) (x y : Operand) (xs ys : List Int) (W : World),xs.length = n → ys.length = n → (op = .eql ∨ op = .neq) →
  (do eqGuard op t x y (.agg (xs.map (Value.int k)).toArray) (.agg (ys.map (Value.int k)).toArray); binOp op t (.agg (xs.map (Value.int k)).toArray) (.agg (ys.map (Value.int k)).toArray) : Sem Value).run P W =
   .ok (.bool (if op = .eql then decide (xs = ys) else !decide (xs = ys))) W
def IntCells (k : IntKind) (n : Nat) (xs : List P1) : Prop := xs.length = n ∧ ∀ x ∈ xs,∃ a,x = .v (.int k a)
theorem IntCells.form {k : IntKind} {n : Nat} {xs : List P1} (h : IntCells k n xs) : ∃ zs : List Int,zs.length = n ∧ xs = zs.map fun a => P1.v (.int k a) := by
 obtain ⟨h1,h2⟩ := h
 induction xs generalizing n with
 | nil => exact ⟨[],by simpa using h1,rfl⟩
 | cons x xs ih =>
  obtain ⟨zs,hz,he⟩ := ih (n := xs.length) rfl fun y hy => h2 y (by simp [hy])
  obtain ⟨a,rfl⟩ := h2 x (by simp)
  refine ⟨a :: zs,?_,by simp [he]⟩
  simp only [Zl] at h1 ⊢
  omega
theorem IntCells.vals {w : World} {C : Nat → Prop} {k : IntKind} {zs : List Int} {us : List Value} (hl : us.length = (zs.map fun a => P1.v (.int k a)).length)
  (h : ∀ (j : Nat) (x : P1) (u : Value),(zs.map fun a => P1.v (.int k a))[j]? = some x → us[j]? = some u → R1 w C x u) : us = zs.map (Value.int k) := by
 apply List.ext_getElem?
 intro j
 by_cases hj : j < zs.length
 ·have hu : us[j]? = some (us[j]'(by simp at hl; omega)) := List.getElem?_eq_getElem _
  have hr := h j (.v (.int k zs[j])) _ (by simp [hj]) hu
  rw [hu]
  simp only [List.getElem?_map,List.getElem?_eq_getElem hj,Zg]
  generalize us[j]'(by simp at hl; omega) = u at hr ⊢
  cases hr
  rfl
 ·simp at hl
  rw [List.getElem?_eq_none (by omega),List.getElem?_eq_none (by simp; omega)]
theorem yO {k : IntKind} {xs ys : List Int} : (xs.map fun a => P1.v (.int k a)) = (ys.map fun a => P1.v (.int k a)) ↔ xs = ys := by
 constructor
 ·intro h
  have hf : Function.Injective fun a : Int => P1.v (.int k a) := fun a b hab => by simpa using hab
  exact (List.map_inj_right (fun _ _ h => hf h)).1 h
 ·rintro rfl; rfl
end Go.Proofs.Ytldcoekbgfaomaa
end
section
namespace Go.Proofs.Ytldcoekbgfaomaa
open Go.RowKit
open Classical
structure Tb where
 T : Nat → Option TI
 E : Nat → Option (IntKind × Nat)
 O : Option Tmp → Bool := fun _ => false
 W : TypeId → Bool := fun _ => false
 N : Option Tmp → Bool := fun _ => false
structure Tb.Ok (P : Program) (b : Tb) : Prop where
 t : TOK P b.T
 e : EOK P b.E
/-- A value of type i,out of a row of pure cells. -/
noncomputable def tA (i : TI) (xs : List P1) (off : Nat) : Option D :=
 if TypeDesc.aggB i.und = true then (if off + i.size ≤ xs.length then some (.agg ((xs.drop off).take i.size)) else none)
 else (xs[off]?).map .p
def eA : List D → Option (List P1)
 | [] => some []
 | d :: ds => match d.pure?,eA ds with
  | some x,some xs => some (x :: xs)
  | _,_ => none
/-- Out of a variable's cells. -/
noncomputable def qA (i : TI) (cs : List D) (off : Nat) : Option D :=
 if TypeDesc.aggB i.und = true then (if off + i.size ≤ cs.length then (eA ((cs.drop off).take i.size)).map .agg else none)
 else cs[off]?
noncomputable def cB (b : Tb) (op : BinOp) (t : TypeId) : D → D → Option D
 | .p (.v (.int k x)),.p (.v (.int k' y)) =>
  if k = k' then (iop op k x y).map fun v => .p (.v v)
  else match op with
   | .shl => (iop .shl k x y).map fun v => .p (.v v)
   | .shr => (iop .shr k x y).map fun v => .p (.v v)
   | _ => none
 | .p (.v (.bool x)),.p (.v (.bool y)) => match b.T t with
  | some i => match i.und,op with
   | .bool,.eql => some (.p (.v (.bool (x == y))))
   | .bool,.neq => some (.p (.v (.bool (!(x == y)))))
   | _,_ => none
  | none => none
 | .agg xs,.agg ys => match b.E t with
  | some (k,n) => if IntCells k n xs ∧ IntCells k n ys then (match op with
   | .eql => some (.p (.v (.bool (decide (xs = ys)))))
   | .neq => some (.p (.v (.bool (!decide (xs = ys)))))
   | _ => none) else none
  | none => none
 | .p (.sl n _),.nil => match b.T t with
  | some i => match i.und,op with
   | .slice _,.eql => if 0 < n then some (.p (.v (.bool false))) else none
   | _,_ => none
  | none => none
 | .p (.v (.slice A _ _)),.nil => match b.T t with
  | some i => match i.und,op with
   | .slice _,.eql => some (.p (.v (.bool A.isNone)))
   | _,_ => none
  | none => none
 | _,_ => none
def iK (b : Tb) (src dst : TypeId) : D → Option D
 | .p (.v (.int _ n)) => match b.T src,b.T dst with
  | some s,some d => match s.und,d.und with
   | .int _,.int k => some (.p (.v (.int k (k.wrap n))))
   | _,_ => none
  | _,_ => none
 | _ => none
noncomputable def wA (b : Tb) (σ : St) (t : TypeId) (x ix : D) : Option D :=
 match ix,b.T t with
 | .p (.v (.int _ i)),some ti => match ti.und with
  | .slice e => match b.T e,x with
   | some te,.p (.sl n xs) => if 0 ≤ i ∧ i < n ∧ 0 < xs.length then some (.ept xs (i.toNat * te.size)) else none
   | some te,.vref j => match σ.vecs[j]? with
    | some (some V) => if 0 ≤ i ∧ i < V.n then some (.vpt j (i.toNat * te.size)) else none
    | _ => none
   | some te,.bsl bx off n _ => if 0 ≤ i ∧ i < n then some (.ptr bx (off + i.toNat * te.size)) else none
   | _,_ => none
  | .array len e => match b.T e,x with
   | some te,.ptr bx off => if 0 ≤ i ∧ i < len then some (.ptr bx (off + i.toNat * te.size)) else none
   | some te,.ept xs off => if 0 ≤ i ∧ i < len then some (.ept xs (off + i.toNat * te.size)) else none
   | _,_ => none
  | _ => none
 | _,_ => none
noncomputable def vX (b : Tb) (t : TypeId) (x ix : D) : Option D :=
 match ix,b.T t,x with
 | .p (.v (.int _ i)),some ti,.agg xs => match ti.und with
  | .array len e => match b.T e with
   | some te => if 0 ≤ i ∧ i < len then tA te xs (i.toNat * te.size) else none
   | none => none
  | _ => none
 | _,_,_ => none
def oA (i : TI) (f : Nat) : Option Field :=
 match i.und with
 | .struct fs => fs[f]?
 | _ => none
def fA (b : Tb) (s : TypeId) (x : D) (f : Nat) : Option D :=
 match b.T s with
 | some i => match oA i f with
  | some fd => match b.T fd.type with
   | some tf => if tf.size = 0 then none else match x with
    | .ptr bx off => some (.ptr bx (off + fd.offset))
    | .ept xs off => some (.ept xs (off + fd.offset))
    | .vpt j off => some (.vpt j (off + fd.offset))
    | _ => none
   | none => none
  | none => none
 | none => none
noncomputable def xP (b : Tb) (s : TypeId) (x : D) (f : Nat) : Option D :=
 match b.T s,x with
 | some i,.agg xs => match oA i f with
  | some fd => match b.T fd.type with
   | some tf => tA tf xs fd.offset
   | none => none
  | none => none
 | _,_ => none
noncomputable def pA (b : Tb) (σ : St) (t : TypeId) (x : D) : Option D :=
 match b.T t,x with
 | some i,.ptr bx off => match σ.boxes[bx]? with
  | some y => qA i y.cells off
  | none => none
 | some i,.ept xs off => tA i xs off
 | some i,.vpt j off => match σ.vecs[j]? with
  | some (some V) => tA i V.xs off
  | _ => none
 | _,_ => none
/-- A bound of a slice expression; the default where none is given. -/
def bnd (dflt : Int) : Option D → Option Int
 | none => some dflt
 | some (.p (.v (.int _ i))) => some i
 | some _ => none
noncomputable def nI (b : Tb) (t : TypeId) (x : D) (lo hi mx : Option D) : Option D :=
 match b.T t,x with
 | some i,.p (.sl n xs) => match i.und with
  | .slice e => match b.T e,bnd 0 lo,bnd n hi,bnd n mx with
   | some te,some l,some h,some m => if 0 ≤ l ∧ l ≤ h ∧ h ≤ m ∧ m ≤ n ∧ (mx.isSome = true → hi.isSome = true) then some (.p (.sl (h.toNat - l.toNat) ((xs.drop (l.toNat * te.size)).take ((h.toNat - l.toNat) * te.size)))) else none
   | _,_,_,_ => none
  | _ => none
 | some i,.ptr bx 0 => match i.und,lo,hi,mx with
  | .array n e,none,none,none => match b.T e with
   | some te => if n ≤ maxLen then some (.bsl bx 0 n (n * te.size)) else none
   | none => none
  | _,_,_,_ => none
 | some i,.bsl bx off n _ => match i.und,mx with
  | .slice e,none => match b.T e,bnd 0 lo,bnd n hi with
   | some te,some l,some h => if 0 ≤ l ∧ l ≤ h ∧ h ≤ n ∧ l < n then some (.bsl bx (off + l.toNat * te.size) (h.toNat - l.toNat) ((h.toNat - l.toNat) * te.size)) else none
   | _,_,_ => none
  | _,_ => none
 | _,_ => none
def vC (b : Tb) (σ : St) (t : TypeId) (x : D) : Option D :=
 match b.T t with
 | some i => match i.und,x with
  | .slice _,.p (.sl n _) => some (.p (.v (.int .i64 n)))
  | .slice _,.nil => some (.p (.v (.int .i64 0)))
  | .slice _,.vref j => match σ.vecs[j]? with
   | some (some V) => some (.p (.v (.int .i64 V.n)))
   | _ => none
  | .array n _,_ => some (.p (.v (.int .i64 n)))
  | _,_ => none
 | none => none
def mJ (ds : List PV) (i : Nat) : Option D := (ds[i]?).map PV.d
/-- A struct or an array put together out of its parts. -/
def uC (place : Nat → Option (Nat × Nat)) (cells : List P1) : List (Nat × D) → Option (List P1)
 | [] => some cells
 | (i,d) :: rest => match place i,d.cells? with
  | some (off,size),some cs => if cs.length = size ∧ off + size ≤ cells.length then uC place (cells.take off ++ cs ++ cells.drop (off + size)) rest else none
  | _,_ => none
def TI.place (b : Tb) (i : TI) (k : Nat) : Option (Nat × Nat) :=
 match i.und with
 | .struct fs => match fs[k]? with
  | some f => match b.T f.type with
   | some tf => some (f.offset,tf.size)
   | none => none
  | none => none
 | .array _ e => match b.T e with
  | some te => some (k * te.size,te.size)
  | none => none
 | _ => none
def TI.zeros (i : TI) : List P1 := i.zero.cells.toList.map zp
def TI.kindOk (b : Tb) (i : TI) : Bool :=
 match i.und with
 | .struct fs => fs.all fun f => (b.T f.type).isSome
 | .array _ e => (b.T e).isSome
 | _ => false
def mC (b : Tb) (σ : St) (t : TypeId) (parts : List (Nat × Operand)) : Option D :=
 match b.T t with
 | some i => if i.kindOk b = true then (uC (i.place b) i.zeros (parts.map fun p => (p.1,σ.ev p.2))).map .agg else none
 | none => none
/-- A cell that may stand in a struct under way. -/
def D.cell1 (σ : St) : D → Bool
 | .p _ => true
 | .nil => true
 | .vref j => match σ.vecs[j]? with
  | some (some _) => true
  | _ => false
 | _ => false
/-- A struct of single cells,all given in order. -/
def aC (b : Tb) (σ : St) (t : TypeId) (parts : List (Nat × Operand)) : Option D :=
 match b.T t with
 | some i => match i.und with
  | .struct _ => if i.kindOk b = true ∧ parts.map (·.1) = List.range i.size ∧ ((List.range i.size).map (i.place b)) = (List.range i.size).map (fun k => some (k,1)) ∧ ((parts.map fun p => σ.ev p.2).all (D.cell1 σ)) = true then
    some (.aggd (parts.map fun p => σ.ev p.2)) else none
  | _ => none
 | none => none
/-- Single cells set one after the other. -/
def wG (place : Nat → Option (Nat × Nat)) : List D → List (Nat × D) → Option (List D)
 | cs,[] => some cs
 | cs,(k,d) :: r => match place k with
  | some (off,size) => if size = 1 ∧ off < cs.length then wG place (cs.set off d) r else none
  | none => none
/-- A struct under way,of single cells; what is not given stays nought,and nil. -/
def lI (b : Tb) (σ : St) (t : TypeId) (parts : List (Nat × Operand)) : Option D :=
 match b.T t with
 | some i => match i.und with
  | .struct _ => if i.kindOk b = true ∧ ((parts.map fun p => σ.ev p.2).all (D.cell1 σ)) = true then
    (wG (i.place b) (i.zero.cells.toList.map zd) (parts.map fun p => (p.1,σ.ev p.2))).map .aggd else none
  | _ => none
 | none => none
/-- Where captured variables lie. -/
def pL (σ : St) : List Operand → Option (List Nat)
 | [] => some []
 | x :: xs => match σ.ev x,pL σ xs with
  | .ptr b 0,some bs => some (b :: bs)
  | _,_ => none
/-- What an operation yields that turns nothing. -/
noncomputable def qop (b : Tb) (σ : St) : Op → Option D
 | .move x | .assign x => some (σ.ev x)
 | .pick c x y => match σ.ev c with
  | .p (.v (.bool t)) => some (if t = true then σ.ev x else σ.ev y)
  | _ => none
 | .nilCheck x => match σ.ev x with
  | .ptr bx off => some (.ptr bx off)
  | .ept xs off => some (.ept xs off)
  | _ => none
 | .binOp op t x y _ => cB b op t (σ.ev x) (σ.ev y)
 | .unOp .not _ x => match σ.ev x with
  | .p (.v (.bool t)) => some (.p (.v (.bool !t)))
  | _ => none
 | .convert src dst x => iK b src dst (σ.ev x)
 | .indexAddr t x ix => wA b σ t (σ.ev x) (σ.ev ix)
 | .index t x ix => vX b t (σ.ev x) (σ.ev ix)
 | .fieldAddr s x f => fA b s (σ.ev x) f
 | .field s x f => xP b s (σ.ev x) f
 | .load t x => pA b σ t (σ.ev x)
 | .slice t x lo hi mx => nI b t (σ.ev x) (lo.map σ.ev) (hi.map σ.ev) (mx.map σ.ev)
 | .extract x i => match σ.ev x with
  | .tup ds => mJ ds i
  | _ => none
 | .build t parts => if b.W t = true then lI b σ t parts.toList else match mC b σ t parts.toList with
  | some d => some d
  | none => aC b σ t parts.toList
 | .call c => match c.callee with
  | .builtin .len => match c.argTypes[0]?,c.args[0]? with
   | some t,some x => vC b σ t (σ.ev x)
   | _,_ => none
  | .builtin .min => match c.args.toList with
   | [x,y] => match σ.ev x,σ.ev y with
    | .p (.v (.int k m)),.p (.v (.int _ n)) => some (.p (.v (.int k (if n < m then n else m))))
    | _,_ => none
   | _ => none
  | .builtin .max => match c.args.toList with
   | [x,y] => match σ.ev x,σ.ev y with
    | .p (.v (.int k m)),.p (.v (.int _ n)) => some (.p (.v (.int k (if n > m then n else m))))
    | _,_ => none
   | _ => none
  | _ => none
 | .makeFunc (.func f) first caps => if first = #[] then (pL σ caps.toList).map (.fn f) else none
 | _ => none
/-! ### Each is right -/
/-- W agrees with w on what w holds. -/
def Agree (w W : World) : Prop := ∀ g,g < w.heap.size → W.heap[g]? = w.heap[g]?
theorem Agree.refl (w : World) : Agree w w := fun _ _ => rfl
theorem Agree.cell {w W : World} (h : Agree w W) {g i : Nat} {u : Value} (hc : w.cell? ⟨g,i,none⟩ = some u) : W.cell? ⟨g,i,none⟩ = some u :=
 (World.cell?_of_block (h g (World.block_lt_of_cell? w _ hc))).trans hc
def Op.isLoad : Op → Bool
 | .load _ _ => true
 | _ => false
/-- The operation yields v; a load,wherever what this world holds lies as it lay. -/
def Yld (P : Program) (a : Act) (o : Oper) (w : World) (v : Value) : Prop := ∀ W,(Op.isLoad o.op = true → Agree w W) → (execOp a.eval o).run P W = .ok (.value v) W
theorem oH (b off j : Nat) : (⟨b,off,none⟩ : Addr).add j = ⟨b,off + j,none⟩ := by unfold Addr.add; split <;> simp_all
section
variable {X : Cx} {b : Tb} {σ : St} {a : Act} {w : World} {γ : Gh} {C : Nat → Prop}
/-- A load out of a row of cells. -/
theorem gM {P : Program} {t : TypeId} {i : TI} (hi : TI.Is P t i) (W : World) (g o : Nat) (us : List Value) (hc : ∀ (j : Nat) (u : Value),us[j]? = some u → W.cell? ⟨g,o + j,none⟩ = some u)
  (off : Nat) : (TypeDesc.aggB i.und = true → off + i.size ≤ us.length → (loadVar t ⟨g,o + off,none⟩).run P W = .ok (.agg ((us.drop off).take i.size).toArray) W) ∧
   (TypeDesc.aggB i.und = false → ∀ u,us[off]? = some u → (loadVar t ⟨g,o + off,none⟩).run P W = .ok u W) := by
 constructor
 ·intro ha hl
  simp only [loadVar,Sem.run_bind,tK W hi,Result.andThen_ok,ha,Zr,wE W hi]
  have := run_loadCells_list (P := P) W ⟨g,o + off,none⟩ ((us.drop off).take i.size) (fun j v hv => by
   rw [oH,Nat.add_assoc]
   apply hc
   rw [List.getElem?_take] at hv
   split at hv
   ·rw [List.getElem?_drop] at hv; exact hv
   ·cases hv)
  rw [show ((us.drop off).take i.size).length = i.size by simp; omega] at this
  rw [this]
  rfl
 ·intro ha u hu
  simp only [loadVar,Sem.run_bind,tK W hi,Result.andThen_ok,ha,Zf,Zq]
  rw [run_load,hc off u hu]
theorem eR {R : P1 → Value → Prop} {xs : List P1} {us : List Value} (hl : us.length = xs.length) (h : ∀ (j : Nat) (x : P1) (u : Value),xs[j]? = some x → us[j]? = some u → R x u) (off n : Nat) :
  ((us.drop off).take n).length = ((xs.drop off).take n).length ∧ ∀ (j : Nat) (x : P1) (u : Value),((xs.drop off).take n)[j]? = some x → ((us.drop off).take n)[j]? = some u → R x u := by
 refine ⟨by simp [hl],fun j x u hx hu => ?_⟩
 rw [List.getElem?_take] at hx hu
 split at hx
 ·rename_i hj
  rw [if_pos hj] at hu
  rw [List.getElem?_drop] at hx hu
  exact h _ x u hx hu
 ·cases hx
theorem aW {P : Program} {t : TypeId} {i : TI} (hi : TI.Is P t i) {xs : List P1} {off : Nat} {d : D} (hd : tA i xs off = some d) (g o : Nat) (us : List Value) (hl : us.length = xs.length)
  (hcell : ∀ (j : Nat) (u : Value),us[j]? = some u → w.cell? ⟨g,o + j,none⟩ = some u) (h : ∀ (j : Nat) (x : P1) (u : Value),xs[j]? = some x → us[j]? = some u → R1 w C x u) :
  ∃ v,RD w C γ d v ∧ ∀ W,Agree w W → (loadVar t ⟨g,o + off,none⟩).run P W = .ok v W := by
 unfold tA at hd
 split at hd
 ·rename_i ha
  split at hd
  ·rename_i hsz
   injection hd with hd
   subst hd
   obtain ⟨h1,h2⟩ := eR hl h off i.size
   exact ⟨_,.agg _ _ h1 h2,fun W hW => (gM hi W g o us (fun j u hu => hW.cell (hcell j u hu)) off).1 ha (by omega)⟩
  ·cases hd
 ·rename_i ha
  obtain ⟨x,hx,rfl⟩ := Option.map_eq_some_iff.1 hd
  have hlt : off < us.length := by rw [hl]; exact (List.getElem?_eq_some_iff.1 hx).1
  exact ⟨us[off],.p _ _ (h off x _ hx (List.getElem?_eq_getElem hlt)),fun W hW => (gM hi W g o us (fun j u hu => hW.cell (hcell j u hu)) off).2 (by simpa using ha) _ (List.getElem?_eq_getElem hlt)⟩
theorem wX {ds : List D} {xs : List P1} (hp : eA ds = some xs) : ∀ {us : List Value},us.length = ds.length → (∀ (j : Nat) (d : D) (u : Value),ds[j]? = some d → us[j]? = some u → RD w C γ d u) →
  us.length = xs.length ∧ ∀ (j : Nat) (x : P1) (u : Value),xs[j]? = some x → us[j]? = some u → R1 w C x u := by
 induction ds generalizing xs with
 | nil =>
  intro us hl h
  simp only [eA,Option.some.injEq] at hp
  subst hp
  exact ⟨by simpa using hl,fun j x u hx => by simp at hx⟩
 | cons d ds ih =>
  intro us hl h
  simp only [eA] at hp
  split at hp
  ·rename_i x xs' h1 h2
   injection hp with hp
   subst hp
   cases us with
   | nil => simp at hl
   | cons u us =>
    obtain ⟨i1,i2⟩ := ih h2 (us := us) (by simpa using hl) (fun j d v hd hv => h (j + 1) d v (by simpa using hd) (by simpa using hv))
    refine ⟨by simp [i1],fun j y v hy hv => ?_⟩
    cases j with
    | zero => simp at hy hv; subst hy; subst hv; exact wL (h 0 d u rfl rfl) h1
    | succ j => exact i2 j y v (by simpa using hy) (by simpa using hv)
  ·cases hp
end
end Go.Proofs.Ytldcoekbgfaomaa
end
section
namespace Go.Proofs.Ytldcoekbgfaomaa
open Go.RowKit
open Classical
section
variable {X : Cx} {b : Tb} {σ : St} {a : Act} {w : World} {γ : Gh} {C : Nat → Prop}
theorem dK {k : IntKind} {n : Int} {u : Value} (h : RD w C γ (.p (.v (.int k n))) u) : u = .int k n := by
 cases h with | p _ _ h => cases h; rfl
theorem tN {t : Bool} {u : Value} (h : RD w C γ (.p (.v (.bool t))) u) : u = .bool t := by
 cases h with | p _ _ h => cases h; rfl
theorem xX {v : Value} {u : Value} (h : RD w C γ (.p (.v v)) u) : u = v := by
 cases h with | p _ _ h => cases h; rfl
theorem lU {op : BinOp} {k : IntKind} {x y : Int} {v : Value} (h : iop op k x y = some v) : v.oneCell' = true := by
 cases op <;> simp only [iop] at h <;> (try split at h) <;> first | (cases h; done) | (injection h with h; subst h; rfl)
theorem xL {P : Program} (d : Nat) {t : TypeId} (p q : Bool) (W : World) (h : (underlying t).run P W = .ok .bool W) : (Op.equalIn (d + 1) t (.bool p) (.bool q)).run P W = .ok (p == q) W := by
 simp only [Op.equalIn,Sem.run_bind,h,Result.andThen_ok]
 rfl
theorem mU {P : Program} {t : TypeId} (x y : Operand) (p q : Bool) (W : World) (h : (underlying t).run P W = .ok .bool W) :
  (do eqGuard .eql t x y (.bool p) (.bool q); binOp .eql t (.bool p) (.bool q) : Sem Value).run P W = .ok (.bool (p == q)) W := by
 have e : (binOp .eql t (.bool p) (.bool q)).run P W = .ok (.bool (p == q)) W := by
  show (do pure (Value.bool (← Op.equal t (.bool p) (.bool q))) : Sem Value).run P W = _
  rw [Sem.run_bind,show Op.equal t (.bool p) (.bool q) = Op.equalIn (9999 + 1) t (.bool p) (.bool q) from rfl,xL 9999 p q W h]
  rfl
 rw [Sem.run_bind,show (eqGuard .eql t x y (.bool p) (.bool q)).run P W = .ok () W from rfl,Result.andThen_ok,e]
theorem nU {P : Program} {t : TypeId} (x y : Operand) (p q : Bool) (W : World) (h : (underlying t).run P W = .ok .bool W) :
  (do eqGuard .neq t x y (.bool p) (.bool q); binOp .neq t (.bool p) (.bool q) : Sem Value).run P W = .ok (.bool (!(p == q))) W := by
 have e : (binOp .neq t (.bool p) (.bool q)).run P W = .ok (.bool (!(p == q))) W := by
  show (do pure (Value.bool (!(← Op.equal t (.bool p) (.bool q)))) : Sem Value).run P W = _
  rw [Sem.run_bind,show Op.equal t (.bool p) (.bool q) = Op.equalIn (9999 + 1) t (.bool p) (.bool q) from rfl,xL 9999 p q W h]
  rfl
 rw [Sem.run_bind,show (eqGuard .neq t x y (.bool p) (.bool q)).run P W = .ok () W from rfl,Result.andThen_ok,e]
theorem zQ {P : Program} (d : Nat) {t e : TypeId} (A : Option Addr) (n c : Nat) (W : World) (h : (underlying t).run P W = .ok (.slice e) W) : (Op.equalIn (d + 1) t (.slice A n c) (.slice none 0 0)).run P W = .ok A.isNone W := by
 simp only [Op.equalIn,Sem.run_bind,h,Result.andThen_ok]
 cases A <;> rfl
theorem lQ {P : Program} {t e : TypeId} (x y : Operand) (A : Option Addr) (n c : Nat) (W : World) (h : (underlying t).run P W = .ok (.slice e) W) :
  (do eqGuard .eql t x y (.slice A n c) (.slice none 0 0); binOp .eql t (.slice A n c) (.slice none 0 0) : Sem Value).run P W = .ok (.bool A.isNone) W := by
 have e2 : (binOp .eql t (.slice A n c) (.slice none 0 0)).run P W = .ok (.bool A.isNone) W := by
  show (do pure (Value.bool (← Op.equal t (.slice A n c) (.slice none 0 0))) : Sem Value).run P W = _
  rw [Sem.run_bind,show Op.equal t (.slice A n c) (.slice none 0 0) = Op.equalIn (9999 + 1) t (.slice A n c) (.slice none 0 0) from rfl,zQ 9999 A n c W h]
  rfl
 rw [Sem.run_bind,show (eqGuard .eql t x y (.slice A n c) (.slice none 0 0)).run P W = .ok () W from rfl,Result.andThen_ok,e2]
theorem mEA (hb : b.Ok X.P) {op : BinOp} {t : TypeId} {x y : Operand} {dx dy d : D} {u v : Value} (h : cB b op t dx dy = some d) (hx : RD w C γ dx u) (hy : RD w C γ dy v) :
  ∃ r,RD w C γ d r ∧ ∀ W,(do eqGuard op t x y u v; binOp op t u v : Sem Value).run X.P W = .ok r W := by
 unfold cB at h
 split at h
 ·rename_i k x' k' y'
  rw [dK hx,dK hy]
  split at h
  ·rename_i hk
   subst hk
   obtain ⟨r,hr,rfl⟩ := Option.map_eq_some_iff.1 h
   exact ⟨r,.p _ _ (.v _ (lU hr)),fun W => hGA W op t x y k x' y' r hr⟩
  ·split at h
   ·obtain ⟨r,hr,rfl⟩ := Option.map_eq_some_iff.1 h
    refine ⟨r,.p _ _ (.v _ (lU hr)),fun W => ?_⟩
    simp only [iop] at hr
    split at hr
    ·rename_i h0
     injection hr with hr
     subst hr
     simp [eqGuard,binOp,Op.shift,show ¬ y' < 0 by omega]
    ·cases hr
   ·obtain ⟨r,hr,rfl⟩ := Option.map_eq_some_iff.1 h
    refine ⟨r,.p _ _ (.v _ (lU hr)),fun W => ?_⟩
    simp only [iop] at hr
    split at hr
    ·rename_i h0
     injection hr with hr
     subst hr
     simp [eqGuard,binOp,Op.shift,show ¬ y' < 0 by omega]
    ·cases hr
   ·cases h
 ·rename_i p q
  rw [tN hx,tN hy]
  split at h
  ·rename_i i hi
   have hu := fun W => fG (P := X.P) W (hb.t t i hi)
   split at h
   ·rename_i hund
    injection h with h
    subst h
    exact ⟨_,.p _ _ (.v _ rfl),fun W => mU x y p q W (by rw [hu,hund])⟩
   ·rename_i hund
    injection h with h
    subst h
    exact ⟨_,.p _ _ (.v _ rfl),fun W => nU x y p q W (by rw [hu,hund])⟩
   ·cases h
  ·cases h
 ·rename_i xs ys
  split at h
  ·rename_i k n hE
   split at h
   ·rename_i hc
    obtain ⟨hc1,hc2⟩ := hc
    obtain ⟨zx,lx,rfl⟩ := hc1.form
    obtain ⟨zy,ly,rfl⟩ := hc2.form
    cases hx with | agg _ us hl hh =>
    cases hy with | agg _ vs hl2 hh2 =>
    have e1 := IntCells.vals hl hh
    have e2 := IntCells.vals hl2 hh2
    subst e1
    subst e2
    split at h
    ·injection h with h
     subst h
     refine ⟨_,.p _ _ (.v _ rfl),fun W => ?_⟩
     rw [hb.e t k n hE .eql x y zx zy W lx ly (.inl rfl)]
     simp only [Zr,yO]
    ·injection h with h
     subst h
     refine ⟨_,.p _ _ (.v _ rfl),fun W => ?_⟩
     rw [hb.e t k n hE .neq x y zx zy W lx ly (.inr rfl)]
     simp only [reduceCtorEq,Zq,yO]
    ·cases h
   ·cases h
  ·cases h
 ·rename_i n xs
  split at h
  ·rename_i i hi
   have hu := fun W => fG (P := X.P) W (hb.t t i hi)
   split at h
   ·rename_i e hund
    split at h
    ·rename_i hn
     injection h with h
     subst h
     have ev : v = .slice none 0 0 := by cases hy; rfl
     obtain ⟨A,c,rfl⟩ : ∃ A c,u = .slice (some A) n c := by
      cases hx with | p _ _ hx =>
      cases hx with
      | nil => omega
      | sl _ g o c => exact ⟨_,c,rfl⟩
     subst ev
     exact ⟨_,.p _ _ (.v _ rfl),fun W => lQ x y (some A) n c W (by rw [hu,hund])⟩
    ·cases h
   ·cases h
  ·cases h
 ·rename_i A n c
  split at h
  ·rename_i i hi
   have hu := fun W => fG (P := X.P) W (hb.t t i hi)
   split at h
   ·rename_i e hund
    injection h with h
    subst h
    have ev : v = .slice none 0 0 := by cases hy; rfl
    rw [xX hx]
    subst ev
    exact ⟨_,.p _ _ (.v _ rfl),fun W => lQ x y A n c W (by rw [hu,hund])⟩
   ·cases h
  ·cases h
 ·cases h
theorem iBA (hb : b.Ok X.P) {src dst : TypeId} {dx d : D} {u : Value} (h : iK b src dst dx = some d) (hx : RD w C γ dx u) :
  ∃ r,RD w C γ d r ∧ ∀ W,(convert src dst u).run X.P W = .ok r W := by
 unfold iK at h
 split at h
 ·rename_i k n
  rw [dK hx]
  split at h
  ·rename_i s t hs ht
   split at h
   ·rename_i k1 k2 h1 h2
    injection h with h
    subst h
    refine ⟨_,.p _ _ (.v _ rfl),fun W => ?_⟩
    have a1 : (underlying src).run X.P W = .ok (.int k1) W := by rw [fG W (hb.t _ _ hs),h1]
    have a2 : (underlying dst).run X.P W = .ok (.int k2) W := by rw [fG W (hb.t _ _ ht),h2]
    simp [convert,a1,a2,Conv.intToInt]
   ·cases h
  ·cases h
 ·cases h
theorem uH {P : Program} (k : IntKind) (i : Int) (W : World) : (asIntOf (.int k i)).run P W = .ok (k,i) W := rfl
theorem zS (hb : b.Ok X.P) (r : Rel X σ a w γ C) {t : TypeId} {dx di d : D} {u v : Value} (h : wA b σ t dx di = some d) (hx : RD w C γ dx u) (hi : RD w C γ di v) :
  ∃ z,RD w C γ d z ∧ ∀ W,(Instr.indexAt t u v).run X.P W = .ok z W := by
 unfold wA at h
 split at h
 ·rename_i k i ti hT
  rw [dK hi]
  have hu := fun W => fG (P := X.P) W (hb.t t ti hT)
  split at h
  ·rename_i e hund
   split at h
   ·rename_i te n xs he
    split at h
    ·rename_i hc
     obtain ⟨h0,h1,h2⟩ := hc
     injection h with h
     subst h
     cases hx with | p _ _ hx =>
     obtain ⟨g,o,c,us,rfl,hnc,hcm,hC,hl,hcell,hh⟩ := hx.sl_cells h2
     refine ⟨_,.ept xs (i.toNat * te.size) g o us hC hl hcell hh,fun W => ?_⟩
     have a1 : (underlying t).run X.P W = .ok (.slice e) W := by rw [hu,hund]
     simp [Instr.indexAt,uH,a1,wE W (hb.t e te he),h0,h1,oH]
    ·cases h
   ·rename_i te j he
    split at h
    ·rename_i V hV
     split at h
     ·rename_i hc
      obtain ⟨h0,h1⟩ := hc
      injection h with h
      subst h
      obtain ⟨vv,us,hvv,hown,hlen,hR,hbk⟩ := r.vc j V hV
      obtain ⟨g,cap,rfl,hge,hlt⟩ := hown.form (by omega)
      cases hx with | vref _ _ hx =>
      rw [hvv] at hx
      injection hx with hx
      subst hx
      refine ⟨_,.vpt j _ g V.n cap hvv,fun W => ?_⟩
      have a1 : (underlying t).run X.P W = .ok (.slice e) W := by rw [hu,hund]
      simp [Instr.indexAt,uH,a1,wE W (hb.t e te he),h0,h1,oH]
     ·cases h
    ·cases h
   ·rename_i te bx off n _ he
    split at h
    ·rename_i hc
     obtain ⟨h0,h1⟩ := hc
     injection h with h
     subst h
     cases hx with | bsl _ _ _ _ g c hg hn hcm =>
     refine ⟨_,.ptr bx _ g hg,fun W => ?_⟩
     have a1 : (underlying t).run X.P W = .ok (.slice e) W := by rw [hu,hund]
     simp [Instr.indexAt,uH,a1,wE W (hb.t e te he),h0,h1,oH]
    ·cases h
   ·cases h
  ·rename_i len e hund
   split at h
   ·rename_i te bx off he
    split at h
    ·rename_i hc
     obtain ⟨h0,h1⟩ := hc
     injection h with h
     subst h
     cases hx with | ptr _ _ g hx =>
     refine ⟨_,.ptr bx _ g hx,fun W => ?_⟩
     have a1 : (underlying t).run X.P W = .ok (.array len e) W := by rw [hu,hund]
     simp [Instr.indexAt,uH,a1,Instr.sureAddr,wE W (hb.t e te he),h0,h1,oH]
    ·cases h
   ·rename_i te xs off he
    split at h
    ·rename_i hc
     obtain ⟨h0,h1⟩ := hc
     injection h with h
     subst h
     cases hx with | ept _ _ g o us hC hl hcell hh =>
     refine ⟨_,.ept xs _ g o us hC hl hcell hh,fun W => ?_⟩
     have a1 : (underlying t).run X.P W = .ok (.array len e) W := by rw [hu,hund]
     simp [Instr.indexAt,uH,a1,Instr.sureAddr,wE W (hb.t e te he),h0,h1,oH,Nat.add_assoc]
    ·cases h
   ·cases h
  ·cases h
 ·cases h
/-- A part of an aggregate that is held as a value. -/
theorem bW {P : Program} {t : TypeId} {i : TI} (hi : TI.Is P t i) {xs : List P1} {off : Nat} {d : D} (hd : tA i xs off = some d) (us : List Value) (hl : us.length = xs.length)
  (h : ∀ (j : Nat) (x : P1) (u : Value),xs[j]? = some x → us[j]? = some u → R1 w C x u) :
  ∃ v,RD w C γ d v ∧ ∀ W,(part t us.toArray off).run P W = .ok v W := by
 unfold tA at hd
 split at hd
 ·rename_i ha
  split at hd
  ·rename_i hsz
   injection hd with hd
   subst hd
   obtain ⟨h1,h2⟩ := eR hl h off i.size
   refine ⟨_,.agg _ _ h1 h2,fun W => ?_⟩
   simp only [part,Sem.run_bind,tK W hi,Result.andThen_ok,ha,Zr,wE W hi,Sem.run_pure]
   congr 2
   apply Array.ext'
   simp [List.extract_eq_take_drop]
  ·cases hd
 ·rename_i ha
  obtain ⟨x,hx,rfl⟩ := Option.map_eq_some_iff.1 hd
  have hlt : off < us.length := by rw [hl]; exact (List.getElem?_eq_some_iff.1 hx).1
  refine ⟨us[off],.p _ _ (h off x _ hx (List.getElem?_eq_getElem hlt)),fun W => ?_⟩
  simp [part,tK W hi,ha,hlt]
theorem bAA (hb : b.Ok X.P) {t : TypeId} {dx di d : D} {u v : Value} (h : vX b t dx di = some d) (hx : RD w C γ dx u) (hi : RD w C γ di v) :
  ∃ z,RD w C γ d z ∧ ∀ W,(Instr.index t u v).run X.P W = .ok z W := by
 unfold vX at h
 split at h
 ·rename_i k i ti xs hT
  rw [dK hi]
  split at h
  ·rename_i len e hund
   split at h
   ·rename_i te he
    split at h
    ·rename_i hc
     obtain ⟨h0,h1⟩ := hc
     cases hx with | agg _ us hl hh =>
     obtain ⟨z,hz,hrun⟩ := bW (γ := γ) (hb.t e te he) h us hl hh
     refine ⟨z,hz,fun W => ?_⟩
     have a1 : (underlying t).run X.P W = .ok (.array len e) W := by rw [fG W (hb.t t ti hT),hund]
     simp only [Instr.index,Sem.run_bind,uH,Result.andThen_ok,a1,h0,h1,and_self,Zr,wE W (hb.t e te he)]
     exact hrun W
    ·cases h
   ·cases h
  ·cases h
 ·cases h
theorem aT (hb : b.Ok X.P) {s : TypeId} {f : Nat} {dx d : D} {u : Value} (h : fA b s dx f = some d) (hx : RD w C γ dx u) :
  ∃ z,RD w C γ d z ∧ ∀ W,(Instr.fieldAt s u f).run X.P W = .ok z W := by
 unfold fA at h
 split at h
 ·rename_i i hT
  split at h
  ·rename_i fd hf
   split at h
   ·rename_i tf htf
    split at h
    ·cases h
    ·rename_i hsz
     unfold oA at hf
     split at hf
     ·rename_i fs hund
      have key : ∀ (g o : Nat) W,(Instr.fieldAt s (.pointer (some ⟨g,o,none⟩)) f).run X.P W = .ok (.pointer (some ⟨g,o + fd.offset,none⟩)) W := fun g o W => by
       have a1 : (underlying s).run X.P W = .ok (.struct fs) W := by rw [fG W (hb.t s i hT),hund]
       simp [Instr.fieldAt,a1,hf,Instr.sureAddr,fieldPlace,wE W (hb.t _ _ htf),hsz,oH]
      split at h
      ·injection h with h
       subst h
       cases hx with | ptr _ _ g hx =>
       exact ⟨_,.ptr _ _ g hx,fun W => key _ _ W⟩
      ·injection h with h
       subst h
       cases hx with | ept _ _ g o us hC hl hcell hh =>
       exact ⟨_,.ept _ _ g o us hC hl hcell hh,fun W => by rw [key,Nat.add_assoc]⟩
      ·injection h with h
       subst h
       cases hx with | vpt _ _ g n c hx =>
       exact ⟨_,.vpt _ _ g n c hx,fun W => key _ _ W⟩
      ·cases h
     ·cases hf
   ·cases h
  ·cases h
 ·cases h
theorem cAA (hb : b.Ok X.P) {s : TypeId} {f : Nat} {dx d : D} {u : Value} (h : xP b s dx f = some d) (hx : RD w C γ dx u) :
  ∃ z,RD w C γ d z ∧ ∀ W,(Instr.field s u f).run X.P W = .ok z W := by
 unfold xP at h
 split at h
 ·rename_i i xs hT
  split at h
  ·rename_i fd hf
   split at h
   ·rename_i tf htf
    unfold oA at hf
    split at hf
    ·rename_i fs hund
     cases hx with | agg _ us hl hh =>
     obtain ⟨z,hz,hrun⟩ := bW (γ := γ) (hb.t _ _ htf) h us hl hh
     refine ⟨z,hz,fun W => ?_⟩
     have a1 : (underlying s).run X.P W = .ok (.struct fs) W := by rw [fG W (hb.t s i hT),hund]
     simp only [Instr.field,Sem.run_bind,a1,Result.andThen_ok,hf,asAgg,Sem.run_pure]
     exact hrun W
    ·cases hf
   ·cases h
  ·cases h
 ·cases h
theorem cW (hb : b.Ok X.P) (r : Rel X σ a w γ C) {t : TypeId} {dx d : D} {u : Value} (h : pA b σ t dx = some d) (hx : RD w C γ dx u) :
  ∃ z,RD w C γ d z ∧ ∀ W,Agree w W → (Instr.loadAt t u).run X.P W = .ok z W := by
 unfold pA at h
 split at h
 ·rename_i i bx off hT
  split at h
  ·rename_i y hy
   obtain ⟨g,us,hg,hheap,hlen,hR⟩ := r.bx bx y hy
   cases hx with | ptr _ _ g' hx =>
   rw [hg] at hx
   injection hx with hx
   subst hx
   have hcell : ∀ (j : Nat) (u : Value),us[j]? = some u → w.cell? ⟨g,0 + j,none⟩ = some u := fun j u hu => by
    rw [cell_of_row w g (0 + j) us.toArray y.ty (0,0) hheap]
    simpa using hu
   have hi := hb.t t i hT
   unfold qA at h
   split at h
   ·rename_i ha
    split at h
    ·rename_i hsz
     obtain ⟨xs,hxs,rfl⟩ := Option.map_eq_some_iff.1 h
     have hl2 : ((us.drop off).take i.size).length = ((y.cells.drop off).take i.size).length := by simp [hlen]
     obtain ⟨h1,h2⟩ := wX (w := w) (C := C) (γ := γ) hxs (us := (us.drop off).take i.size) hl2 (fun j d u hd hu => by
      rw [List.getElem?_take] at hd hu
      split at hd
      ·rename_i hj
       rw [if_pos hj] at hu
       rw [List.getElem?_drop] at hd hu
       exact (hR _ d u hd hu).1
      ·cases hd)
     refine ⟨_,.agg _ _ h1 h2,fun W hW => ?_⟩
     have := (gM hi W g 0 us (fun j u hu => hW.cell (hcell j u hu)) off).1 ha (by omega)
     simpa [Instr.loadAt,Instr.sureAddr] using this
    ·cases h
   ·rename_i ha
    have hlt : off < us.length := by rw [hlen]; exact (List.getElem?_eq_some_iff.1 h).1
    refine ⟨us[off],(hR off d _ h (List.getElem?_eq_getElem hlt)).1,fun W hW => ?_⟩
    have := (gM hi W g 0 us (fun j u hu => hW.cell (hcell j u hu)) off).2 (by simpa using ha) _ (List.getElem?_eq_getElem hlt)
    simpa [Instr.loadAt,Instr.sureAddr] using this
  ·cases h
 ·rename_i i xs off hT
  cases hx with | ept _ _ g o us hC hl hcell hh =>
  obtain ⟨z,hz,hrun⟩ := aW (γ := γ) (hb.t t i hT) h g o us hl hcell hh
  refine ⟨z,hz,fun W hW => ?_⟩
  simpa [Instr.loadAt,Instr.sureAddr] using hrun W hW
 ·rename_i i j off hT
  split at h
  ·rename_i V hV
   obtain ⟨vv,us,hvv,hown,hlen,hR,hbk⟩ := r.vc j V hV
   cases hx with | vpt _ _ g n c hx =>
   rw [hvv] at hx
   injection hx with hx
   subst hx
   have hcell : ∀ (k : Nat) (u : Value),us[k]? = some u → w.cell? ⟨g,0 + k,none⟩ = some u := fun k u hu => by
    have := hown.cells (g := g) rfl k u hu
    rwa [oH] at this
   obtain ⟨z,hz,hrun⟩ := aW (γ := γ) (hb.t t i hT) h g 0 us hlen hcell hR
   refine ⟨z,hz,fun W hW => ?_⟩
   simpa [Instr.loadAt,Instr.sureAddr] using hrun W hW
  ·cases h
 ·cases h
end
end Go.Proofs.Ytldcoekbgfaomaa
end
section
namespace Go.Proofs.Ytldcoekbgfaomaa
open Go.RowKit
open Classical
section
variable {X : Cx} {b : Tb} {σ : St} {a : Act} {w : World} {γ : Gh} {C : Nat → Prop}
theorem jR {dflt : Int} {od : Option D} {ou : Option Value} {l : Int} (h : bnd dflt od = some l) (hr : ∀ d u,od = some d → ou = some u → RD w C γ d u) (hs : od.isSome = ou.isSome) :
  (ou = none ∧ l = dflt) ∨ ∃ k,ou = some (.int k l) := by
 cases od with
 | none =>
  cases ou with
  | none => left; simp only [bnd,Option.some.injEq] at h; exact ⟨rfl,h.symm⟩
  | some u => simp at hs
 | some d =>
  cases ou with
  | none => simp at hs
  | some u =>
   right
   have hd := hr d u rfl rfl
   unfold bnd at h
   split at h
   ·rename_i heq; cases heq
   ·rename_i k i heq
    injection heq with heq
    subst heq
    injection h with h
    subst h
    exact ⟨k,by rw [dK hd]⟩
   ·cases h
theorem nF {P : Program} (k : IntKind) (i : Int) (y : Nat) (c : BoundsCode) (W : World) (h0 : 0 ≤ i) (h1 : i ≤ y) : (Instr.sliceBound (.int k i) y c).run P W = .ok i.toNat W := by
 simp [Instr.sliceBound,uH,h0,h1]
theorem uK {P : Program} {t e : TypeId} {te : TI} {W : World} (hu : (underlying t).run P W = .ok (.slice e) W) (hsz : (sizeOf e).run P W = .ok te.size W) (A : Option Addr) (n c l h m : Nat)
  (lo hi mx : Option Value) (hl : (lo = none ∧ l = 0) ∨ ∃ k,lo = some (.int k l)) (hh : (hi = none ∧ h = n) ∨ ∃ k,hi = some (.int k h)) (hm : mx = none ∧ m = c ∨ (∃ k,mx = some (.int k m)) ∧ hi.isSome = true)
  (b1 : l ≤ h) (b2 : h ≤ m) (b3 : m ≤ c) :
  (Instr.sliceAt t (.slice A n c) lo hi mx).run P W = .ok (.slice (if m = l then A else A.map (·.add (l * te.size))) (h - l) (m - l)) W := by
 have hb : (Instr.sliceBounds true n c lo hi mx).run P W = .ok (l,h,m) W := by
  unfold Instr.sliceBounds
  rcases hm with ⟨rfl,rfl⟩ | ⟨⟨km,rfl⟩,hs⟩
  ·rcases hh with ⟨rfl,rfl⟩ | ⟨kh,rfl⟩
   ·rcases hl with ⟨rfl,rfl⟩ | ⟨kl,rfl⟩
    ·simp
    ·simp [nF kl l h .sliceB W (by omega) (by omega)]
   ·rcases hl with ⟨rfl,rfl⟩ | ⟨kl,rfl⟩
    ·simp [nF kh h m .sliceAcap W (by omega) (by omega)]
    ·simp [nF kh h m .sliceAcap W (by omega) (by omega),nF kl l h .sliceB W (by omega) (by omega)]
  ·rcases hh with ⟨rfl,rfl⟩ | ⟨kh,rfl⟩
   ·simp at hs
   ·rcases hl with ⟨rfl,rfl⟩ | ⟨kl,rfl⟩
    ·simp [nF km m c .slice3Acap W (by omega) (by omega),nF kh h m .slice3B W (by omega) (by omega)]
    ·simp [nF km m c .slice3Acap W (by omega) (by omega),nF kh h m .slice3B W (by omega) (by omega),nF kl l h .slice3C W (by omega) (by omega)]
 simp only [Instr.sliceAt,Sem.run_bind,hu,Result.andThen_ok,Instr.slice,hb,hsz,Sem.run_pure]
theorem oU {w : World} {C : Nat → Prop} {n g o c : Nat} {xs : List P1} {us : List Value} (hl : us.length = xs.length) (hg : C g) (hcell : ∀ (j : Nat) (u : Value),us[j]? = some u → w.cell? ⟨g,o + j,none⟩ = some u)
  (h : ∀ (j : Nat) (x : P1) (u : Value),xs[j]? = some x → us[j]? = some u → R1 w C x u) (off k : Nat) (hn : n ≤ c) (hc : c ≤ maxLen) :
  R1 w C (.sl n ((xs.drop off).take k)) (.slice (some ⟨g,o + off,none⟩) n c) := by
 obtain ⟨h1,h2⟩ := eR hl h off k
 refine .sl n g (o + off) c _ ((us.drop off).take k) hn hc hg h1 (fun j u hu => ?_) h2
 rw [Nat.add_assoc]
 apply hcell
 rw [List.getElem?_take] at hu
 split at hu
 ·rw [List.getElem?_drop] at hu; exact hu
 ·cases hu
theorem dAA (hb : b.Ok X.P) {t : TypeId} {dx d : D} {u : Value} {lo hi mx : Option D} {vlo vhi vmx : Option Value} (h : nI b t dx lo hi mx = some d) (hx : RD w C γ dx u)
  (rlo : ∀ d u,lo = some d → vlo = some u → RD w C γ d u) (slo : lo.isSome = vlo.isSome) (rhi : ∀ d u,hi = some d → vhi = some u → RD w C γ d u) (shi : hi.isSome = vhi.isSome)
  (rmx : ∀ d u,mx = some d → vmx = some u → RD w C γ d u) (smx : mx.isSome = vmx.isSome) :
  ∃ z,RD w C γ d z ∧ ∀ W,(Instr.sliceAt t u vlo vhi vmx).run X.P W = .ok z W := by
 unfold nI at h
 split at h
 ·rename_i i n xs hT
  split at h
  ·rename_i e hund
   split at h
   ·rename_i te l hh m he e1 e2 e3
    split at h
    ·rename_i hc
     obtain ⟨c1,c2,c3,c4,c5⟩ := hc
     injection h with h
     subst h
     have a1 := fun W => (fG (P := X.P) W (hb.t t i hT)).trans (by rw [hund] : Result.ok i.und W = .ok (.slice e) W)
     have a2 := fun W => wE (P := X.P) W (hb.t e te he)
     have q1 := jR e1 rlo slo
     have q2 := jR e2 rhi shi
     have q3 := jR e3 rmx smx
     have hform : (∃ A c,u = .slice A n c ∧ n ≤ c ∧ (∀ m' : Nat,m' ≤ c → hh.toNat ≤ m' → R1 w C (.sl (hh.toNat - l.toNat) ((xs.drop (l.toNat * te.size)).take ((hh.toNat - l.toNat) * te.size))) (.slice (if m' = l.toNat then A else A.map (·.add (l.toNat * te.size))) (hh.toNat - l.toNat) (m' - l.toNat)))) ∨
       (∃ A c,u = .slice A n c ∧ n = 0 ∧ xs = []) := by
      cases hx with | p _ _ hx =>
      cases hx with
      | nil A c => exact .inr ⟨A,c,rfl,rfl,rfl⟩
      | sl n g o c xs us hn hcm hg hl hcell hR =>
       refine .inl ⟨_,c,rfl,hn,fun m' hm' hhm => ?_⟩
       by_cases hml : m' = l.toNat
       ·rw [if_pos hml]
        have h0 : hh.toNat - l.toNat = 0 := by omega
        rw [h0]
        simp only [Nat.zero_mul,Zv]
        exact .nil _ _
       ·rw [if_neg hml]
        simp only [Zg,oH]
        exact oU hl hg hcell hR _ _ (by omega) (by omega)
     rcases hform with ⟨A,c,rfl,hnc,hR⟩ | ⟨A,c,rfl,rfl,rfl⟩
     ·rcases q3 with ⟨rfl,rfl⟩ | ⟨km,rfl⟩
      ·refine ⟨_,.p _ _ (hR c (Nat.le_refl _) (by omega)),fun W => ?_⟩
       exact uK (a1 W) (a2 W) A n c l.toNat hh.toNat c vlo vhi none (by rcases q1 with ⟨rfl,rfl⟩ | ⟨k,rfl⟩; exact .inl ⟨rfl,rfl⟩; exact .inr ⟨k,by rw [Int.toNat_of_nonneg c1]⟩)
        (by rcases q2 with ⟨rfl,rfl⟩ | ⟨k,rfl⟩; exact .inl ⟨rfl,by simp⟩; exact .inr ⟨k,by rw [Int.toNat_of_nonneg (by omega)]⟩) (.inl ⟨rfl,rfl⟩) (by omega) (by omega) (Nat.le_refl _)
      ·have hmx : mx.isSome = true := by rw [smx]; rfl
       refine ⟨_,.p _ _ (hR m.toNat (by omega) (by omega)),fun W => ?_⟩
       exact uK (a1 W) (a2 W) A n c l.toNat hh.toNat m.toNat vlo vhi _ (by rcases q1 with ⟨rfl,rfl⟩ | ⟨k,rfl⟩; exact .inl ⟨rfl,rfl⟩; exact .inr ⟨k,by rw [Int.toNat_of_nonneg c1]⟩)
        (by rcases q2 with ⟨rfl,rfl⟩ | ⟨k,rfl⟩; exact .inl ⟨rfl,by simp⟩; exact .inr ⟨k,by rw [Int.toNat_of_nonneg (by omega)]⟩) (.inr ⟨⟨km,by rw [Int.toNat_of_nonneg (by omega)]⟩,by rw [← shi]; exact c5 hmx⟩) (by omega) (by omega) (by omega)
     ·have hl0 : l = 0 := by omega
      have hh0 : hh = 0 := by omega
      have hm0 : m = 0 := by omega
      subst hl0
      subst hh0
      subst hm0
      simp only [Int.toNat_zero,Nat.sub_self,Nat.zero_mul,Zw,Zv]
      rcases q3 with ⟨rfl,_⟩ | ⟨km,rfl⟩
      ·refine ⟨_,.p _ _ (.nil (if c = 0 then A else A.map (·.add (0 * te.size))) (c - 0)),fun W => ?_⟩
       exact uK (a1 W) (a2 W) A 0 c 0 0 c vlo vhi none (by rcases q1 with ⟨rfl,_⟩ | ⟨k,rfl⟩; exact .inl ⟨rfl,rfl⟩; exact .inr ⟨k,rfl⟩)
        (by rcases q2 with ⟨rfl,_⟩ | ⟨k,rfl⟩; exact .inl ⟨rfl,rfl⟩; exact .inr ⟨k,rfl⟩) (.inl ⟨rfl,rfl⟩) (by omega) (by omega) (Nat.le_refl _)
      ·have hmx : mx.isSome = true := by rw [smx]; rfl
       refine ⟨_,.p _ _ (.nil (if 0 = 0 then A else A.map (·.add (0 * te.size))) (0 - 0)),fun W => ?_⟩
       exact uK (a1 W) (a2 W) A 0 c 0 0 0 vlo vhi _ (by rcases q1 with ⟨rfl,_⟩ | ⟨k,rfl⟩; exact .inl ⟨rfl,rfl⟩; exact .inr ⟨k,rfl⟩)
        (by rcases q2 with ⟨rfl,_⟩ | ⟨k,rfl⟩; exact .inl ⟨rfl,rfl⟩; exact .inr ⟨k,rfl⟩) (.inr ⟨⟨km,rfl⟩,by rw [← shi]; exact c5 hmx⟩) (by omega) (by omega) (by omega)
    ·cases h
   ·cases h
  ·cases h
 ·rename_i i bx hT
  split at h
  ·rename_i n e hund
   split at h
   ·rename_i te he
    split at h
    ·rename_i hn
     injection h with h
     subst h
     cases hx with | ptr _ _ g hg =>
     cases vlo with
     | some v => simp at slo
     | none =>
     cases vhi with
     | some v => simp at shi
     | none =>
     cases vmx with
     | some v => simp at smx
     | none =>
     have a1 := fun W => (fG (P := X.P) W (hb.t t i hT)).trans (by rw [hund] : Result.ok i.und W = .ok (.array n e) W)
     have a2 := fun W => wE (P := X.P) W (hb.t e te he)
     refine ⟨_,.bsl bx 0 n _ g n hg (Nat.le_refl _) hn,fun W => ?_⟩
     have hbn : (Instr.sliceBounds false n n none none none).run X.P W = .ok (0,n,n) W := by
      unfold Instr.sliceBounds
      simp
     simp only [Instr.sliceAt,Sem.run_bind,a1,Result.andThen_ok,Instr.sureAddr,Sem.run_pure,hbn,a2]
     by_cases h0 : n = 0
     ·subst h0; simp
     ·rw [if_neg h0]; simp [oH]
    ·cases h
   ·cases h
  ·cases h
 ·rename_i i bx off n k hT
  split at h
  ·rename_i e hund
   split at h
   ·rename_i te l hh he e1 e2
    split at h
    ·rename_i hcnd
     obtain ⟨c1,c2,c3,c4⟩ := hcnd
     injection h with h
     subst h
     cases hx with | bsl _ _ _ _ g c hg hn hcm =>
     cases vmx with
     | some v => simp at smx
     | none =>
     have a1 := fun W => (fG (P := X.P) W (hb.t t i hT)).trans (by rw [hund] : Result.ok i.und W = .ok (.slice e) W)
     have a2 := fun W => wE (P := X.P) W (hb.t e te he)
     have q1 := jR e1 rlo slo
     have q2 := jR e2 rhi shi
     refine ⟨.slice (some ⟨g,off + l.toNat * te.size,none⟩) (hh.toNat - l.toNat) (c - l.toNat),.bsl bx _ _ _ g _ hg (by omega) (by omega),fun W => ?_⟩
     have hr := uK (P := X.P) (a1 W) (a2 W) (some ⟨g,off,none⟩) n c l.toNat hh.toNat c vlo vhi none (by rcases q1 with ⟨rfl,rfl⟩ | ⟨k,rfl⟩; exact .inl ⟨rfl,rfl⟩; exact .inr ⟨k,by rw [Int.toNat_of_nonneg c1]⟩)
      (by rcases q2 with ⟨rfl,rfl⟩ | ⟨k,rfl⟩; exact .inl ⟨rfl,by simp⟩; exact .inr ⟨k,by rw [Int.toNat_of_nonneg (by omega)]⟩) (.inl ⟨rfl,rfl⟩) (by omega) (by omega) (Nat.le_refl _)
     rw [hr,if_neg (by omega)]
     simp [oH]
    ·cases h
   ·cases h
  ·cases h
 ·cases h
theorem nEA (hb : b.Ok X.P) (r : Rel X σ a w γ C) {t : TypeId} {dx d : D} {u : Value} (h : vC b σ t dx = some d) (hx : RD w C γ dx u) (ts : Array TypeId) (ht : ts[0]? = some t) (ty : TypeId) :
  ∃ z,RD w C γ d z ∧ ∀ W,(Builtin.len_ ts ty #[u]).run X.P W = .ok z W := by
 unfold vC at h
 split at h
 ·rename_i i hT
  have hu := fun W => fG (P := X.P) W (hb.t t i hT)
  split at h
  ·rename_i e n xs hund
   injection h with h
   subst h
   cases hx with | p _ _ hx =>
   obtain ⟨A,c,rfl⟩ := hx.sl_form
   refine ⟨_,.p _ _ (.v _ rfl),fun W => ?_⟩
   have a1 : (underlying t).run X.P W = .ok (.slice e) W := by rw [hu,hund]
   simp [Builtin.len_,ht,a1,goInt]
  ·rename_i e hund
   injection h with h
   subst h
   cases hx
   refine ⟨_,.p _ _ (.v _ rfl),fun W => ?_⟩
   have a1 : (underlying t).run X.P W = .ok (.slice e) W := by rw [hu,hund]
   simp [Builtin.len_,ht,a1,goInt]
  ·rename_i e j hund
   split at h
   ·rename_i V hV
    injection h with h
    subst h
    obtain ⟨vv,us,hvv,hown,hlen,hR,hbk⟩ := r.vc j V hV
    cases hx with | vref _ _ hx =>
    rw [hvv] at hx
    injection hx with hx
    subst hx
    refine ⟨_,.p _ _ (.v _ rfl),fun W => ?_⟩
    have a1 : (underlying t).run X.P W = .ok (.slice e) W := by rw [hu,hund]
    rcases hown.2 with ⟨rfl,h0⟩ | ⟨g,cap,cur,rfl,_⟩
    ·simp [Builtin.len_,ht,a1,goInt,h0]
    ·simp [Builtin.len_,ht,a1,goInt]
   ·cases h
  ·rename_i n e hund
   injection h with h
   subst h
   refine ⟨_,.p _ _ (.v _ rfl),fun W => ?_⟩
   have a1 : (underlying t).run X.P W = .ok (.array n e) W := by rw [hu,hund]
   simp [Builtin.len_,ht,a1,goInt]
  ·cases h
 ·cases h
/-- 'Instr.fill' one part on: the cells are put in place. -/
theorem jBA (cs : List Value) (us : List Value) (off : Nat) (h : off + us.length ≤ cs.length) :
  us.toArray.zipIdx.foldl (fun (c : Array Value) (x : Value × Nat) => c.setIfInBounds (off + x.2) x.1) cs.toArray = (cs.take off ++ us ++ cs.drop (off + us.length)).toArray := by
 have key : ∀ (us : List Value) (k : Nat) (cs : List Value),off + k + us.length ≤ cs.length →
   (us.zipIdx k).foldl (fun (c : List Value) (x : Value × Nat) => c.set (off + x.2) x.1) cs = cs.take (off + k) ++ us ++ cs.drop (off + k + us.length) := by
  intro us
  induction us with
  | nil => intro k cs h; simp
  | cons u us ih =>
   intro k cs h
   simp only [List.zipIdx_cons,List.foldl_cons]
   rw [ih (k + 1) _ (by simp at h ⊢; omega)]
   simp only [Zl] at h ⊢
   rw [show off + (k + 1) = off + k + 1 by omega]
   have e1 : (cs.set (off + k) u).take (off + k + 1) = cs.take (off + k) ++ [u] := by
    apply List.ext_getElem?
    intro i
    simp only [List.getElem?_take,List.getElem?_set,List.getElem?_append,List.length_take]
    by_cases h1 : i < off + k
    ·simp [show i < off + k + 1 by omega,show ¬ off + k = i by omega,h1,show i < min (off + k) cs.length by omega]
    ·by_cases h2 : i = off + k
     ·subst h2
      simp [show off + k < cs.length by omega,show min (off + k) cs.length = off + k by omega]
     ·simp [show ¬ i < off + k + 1 by omega,h1]
      omega
   have e2 : (cs.set (off + k) u).drop (off + k + 1 + us.length) = cs.drop (off + k + (us.length + 1)) := by
    rw [List.drop_set_of_lt (by omega)]
    congr 1
    omega
   rw [e1,e2]
   simp
 have h1 : ∀ (l : List (Value × Nat)) (cs : List Value),l.foldl (fun (c : Array Value) (x : Value × Nat) => c.setIfInBounds (off + x.2) x.1) cs.toArray = (l.foldl (fun (c : List Value) (x : Value × Nat) => c.set (off + x.2) x.1) cs).toArray := by
  intro l
  induction l with
  | nil => intro cs; rfl
  | cons x l ih => intro cs; simp only [List.foldl_cons]; rw [List.setIfInBounds_toArray]; exact ih _
 rw [← Array.foldl_toList,Array.toList_zipIdx]
 rw [h1,key us 0 cs (by omega)]
 simp
theorem kR {place : Nat → Option (Nat × Nat)} : ∀ (parts : List (Nat × D)) (vals : List (Nat × Value)) (cells out : List P1) (us : List Value),uC place cells parts = some out →
  us.length = cells.length → (∀ (j : Nat) (x : P1) (u : Value),cells[j]? = some x → us[j]? = some u → R1 w C x u) →
  vals.length = parts.length → (∀ (j : Nat) (p : Nat × D) (q : Nat × Value),parts[j]? = some p → vals[j]? = some q → p.1 = q.1 ∧ RD w C γ p.2 q.2) →
  ∃ vs : List Value,Instr.fill place us.toArray vals = some vs.toArray ∧ vs.length = out.length ∧ ∀ (j : Nat) (x : P1) (u : Value),out[j]? = some x → vs[j]? = some u → R1 w C x u
 | [],vals,cells,out,us,h,hl,hR,hv,_ => by
  simp only [uC,Option.some.injEq] at h
  subst h
  have : vals = [] := List.eq_nil_of_length_eq_zero (by simpa using hv)
  subst this
  exact ⟨us,rfl,hl,hR⟩
 | (i,d) :: parts,vals,cells,out,us,h,hl,hR,hv,hp => by
  cases vals with
  | nil => simp at hv
  | cons q vals =>
   obtain ⟨hq1,hq2⟩ := hp 0 (i,d) q rfl rfl
   obtain ⟨i',v⟩ := q
   simp only at hq1 hq2
   subst hq1
   simp only [uC] at h
   split at h
   ·rename_i off size cs hpl hcs
    split at h
    ·rename_i hc
     obtain ⟨hc1,hc2⟩ := hc
     obtain ⟨vs,hvs,hvl,hvR⟩ := nT hq2 hcs
     have hl1 : vs.length = size := by rw [hvl]; exact hc1
     obtain ⟨zs,hz1,hz2,hz3⟩ := kR parts vals _ out (us.take off ++ vs ++ us.drop (off + size)) h (by simp [hl,hvl]) (by
      intro j x u hx hu
      simp only [List.append_assoc,List.getElem?_append,List.length_take,List.getElem?_take,List.getElem?_drop] at hx hu
      rw [hl,hvl] at hu
      split at hx
      ·rename_i h1
       rw [if_pos h1] at hu
       split at hx
       ·rename_i h2
        rw [if_pos h2] at hu
        exact hR j x u hx hu
       ·cases hx
      ·rename_i h1
       rw [if_neg h1] at hu
       split at hx
       ·rename_i h2
        rw [if_pos h2] at hu
        exact hvR _ x u hx hu
       ·rename_i h2
        rw [if_neg h2] at hu
        exact hR _ x u hx hu) (by simpa using hv) (fun j p q hp' hq' => hp (j + 1) p q (by simpa using hp') (by simpa using hq'))
     refine ⟨zs,?_,hz2,hz3⟩
     have e1 : v.cells = vs.toArray := hvs
     simp only [Instr.fill,hpl,e1]
     rw [if_neg (by simp [hl1,hl]; omega),jBA us vs off (by rw [hl1,hl]; exact hc2),hl1]
     exact hz1
    ·cases h
   ·cases h
end
end Go.Proofs.Ytldcoekbgfaomaa
end
section
namespace Go.Proofs.Ytldcoekbgfaomaa
open Go.RowKit
open Classical
section
variable {X : Cx} {b : Tb} {σ : St} {a : Act} {w : World} {γ : Gh} {C : Nat → Prop}
theorem oEA {i : TI} {P : Program} {t : Nat} (hi : TI.Is P t i) : i.zero.cells.toList.length = i.zeros.length ∧
  ∀ (j : Nat) (x : P1) (u : Value),i.zeros[j]? = some x → i.zero.cells.toList[j]? = some u → R1 w C x u := by
 refine ⟨by simp [TI.zeros],fun j x u hx hu => ?_⟩
 simp only [TI.zeros,List.getElem?_map,hu,Zg,Option.some.injEq] at hx
 subst hx
 refine gBA _ _ _ ?_
 have := hi.zone
 rw [Array.all_eq_true'] at this
 exact this u (Array.mem_toList_iff.1 (List.mem_of_getElem? hu))
def pU (f : Field) : Sem (Nat × Nat) := do pure (f.offset,← sizeOf f.type)
theorem xM {P : Program} (W : World) (hb : TOK P b.T) (fs : Array Field) (h : fs.all (fun f => (b.T f.type).isSome) = true) :
  ∃ ps : Array (Nat × Nat),(fs.mapM pU).run P W = .ok ps W ∧
   ∀ (k : Nat),ps[k]? = (match fs[k]? with | some f => (match b.T f.type with | some tf => some (f.offset,tf.size) | none => none) | none => none) := by
 obtain ⟨l⟩ := fs
 have key : ∀ l : List Field,(l.all fun f => (b.T f.type).isSome) = true →
   ∃ ps : List (Nat × Nat),(l.mapM pU).run P W = .ok ps W ∧
    ∀ (k : Nat),ps[k]? = (match l[k]? with | some f => (match b.T f.type with | some tf => some (f.offset,tf.size) | none => none) | none => none) := by
  intro l
  induction l with
  | nil => intro _; exact ⟨[],rfl,fun k => by simp⟩
  | cons f l ih =>
   intro hl
   simp only [List.all_cons,Bool.and_eq_true] at hl
   obtain ⟨ps,h1,h2⟩ := ih hl.2
   obtain ⟨tf,htf⟩ := Option.isSome_iff_exists.1 hl.1
   refine ⟨(f.offset,tf.size) :: ps,?_,fun k => ?_⟩
   ·simp [List.mapM_cons,pU,wE W (hb _ _ htf),h1]
   ·cases k with
    | zero => simp [htf]
    | succ k => simpa using h2 k
 obtain ⟨ps,h1,h2⟩ := key l (by simpa using h)
 refine ⟨ps.toArray,?_,fun k => by simpa using h2 k⟩
 rw [Array.mapM_eq_mapM_toList]
 simp only [Sem.run_map,h1,Result.andThen_ok]
theorem eAA (hb : b.Ok X.P) (r : Rel X σ a w γ C) {t : TypeId} {parts : List (Nat × Operand)} {d : D} (h : mC b σ t parts = some d) :
  ∃ z,RD w C γ d z ∧ ∀ W,(Instr.build t (parts.map fun p => (p.1,a.eval p.2)).toArray).run X.P W = .ok z W := by
 unfold mC at h
 split at h
 ·rename_i i hT
  split at h
  ·rename_i hk
   have hi := hb.t t i hT
   obtain ⟨out,hout,rfl⟩ := Option.map_eq_some_iff.1 h
   obtain ⟨z1,z2⟩ := oEA (w := w) (C := C) hi
   obtain ⟨vs,hf,hl,hR⟩ := kR (C := C) (γ := γ) (w := w) _ (parts.map fun p => (p.1,a.eval p.2)) _ _ i.zero.cells.toList hout z1 z2 (by simp) (by
    intro j p q hp hq
    simp only [List.getElem?_map] at hp hq
    cases hj : parts[j]? with
    | none => rw [hj] at hp; simp at hp
    | some pr =>
     rw [hj] at hp hq
     simp only [Zg,Option.some.injEq] at hp hq
     subst hp
     subst hq
     exact ⟨rfl,lE r _⟩)
   refine ⟨_,.agg _ _ hl hR,fun W => ?_⟩
   unfold TI.kindOk at hk
   split at hk
   ·rename_i fs hund
    have a1 : (underlying t).run X.P W = .ok (.struct fs) W := by rw [fG W hi,hund]
    obtain ⟨ps,hp1,hp2⟩ := xM W hb.t fs hk
    have e : (fun k => ps[k]?) = i.place b := by
     funext k
     rw [hp2]
     unfold TI.place
     rw [hund] <;> rfl
    have hp1' : (fs.mapM fun (f : Field) => (do pure (f.offset,← sizeOf f.type) : Sem (Nat × Nat))).run X.P W = .ok ps W := hp1
    simp only [Instr.build,Sem.run_bind,vG W hi,Result.andThen_ok,a1,hp1',e]
    simp only [Array.toArray_toList] at hf ⊢
    rw [hf]
    rfl
   ·rename_i n e hund
    have a1 : (underlying t).run X.P W = .ok (.array n e) W := by rw [fG W hi,hund]
    obtain ⟨te,hte⟩ := Option.isSome_iff_exists.1 hk
    have ee : (fun k => some (k * te.size,te.size)) = i.place b := by
     funext k
     unfold TI.place
     rw [hund]
     simp [hte]
    simp only [Instr.build,Sem.run_bind,vG W hi,Result.andThen_ok,a1,wE W (hb.t _ _ hte),ee]
    simp only [Array.toArray_toList] at hf ⊢
    rw [hf]
    rfl
   ·cases hk
  ·cases h
 ·cases h
theorem dW (r : Rel X σ a w γ C) {d : D} {u : Value} (h : RD w C γ d u) (hc : d.cell1 σ = true) : u.oneCell' = true := by
 cases h with
 | p x u h => exact h.one
 | nil => rfl
 | vref j v hv =>
  simp only [D.cell1] at hc
  split at hc
  ·rename_i V hV
   obtain ⟨v',us,h1,h2,_⟩ := r.vc j V hV
   rw [h1] at hv
   injection hv with hv
   subst hv
   rcases h2.2 with ⟨rfl,_⟩ | ⟨g,cap,cur,rfl,_⟩ <;> rfl
  ·cases hc
 | _ => simp [D.cell1] at hc
theorem oT (place : Nat → Option (Nat × Nat)) : ∀ (vs : List Value) (k : Nat) (pre cells : List Value),pre.length = k → (∀ j,j < vs.length → place (k + j) = some (k + j,1)) → (∀ v ∈ vs,v.oneCell' = true) →
  vs.length = cells.length → Instr.fill place (pre ++ cells).toArray ((List.range' k vs.length).zip vs) = some (pre ++ vs).toArray
 | [],k,pre,cells,_,_,_,h => by
  have : cells = [] := List.eq_nil_of_length_eq_zero (by simpa using h.symm)
  subst this
  simp [Instr.fill]
 | v :: vs,k,pre,[],hk,hp,h1,h => by simp at h
 | v :: vs,k,pre,c :: cells,hk,hp,h1,h => by
  have hv : v.cells = #[v] := rK (h1 v (by simp))
  simp only [Zl,List.range'_succ,List.zip_cons_cons,Instr.fill]
  have h0 := hp 0 (by simp)
  rw [Nat.add_zero] at h0
  rw [h0]
  simp only [hv]
  rw [if_neg (by simp; omega)]
  have e : (Array.zipIdx #[v]).foldl (fun (cs : Array Value) (x : Value × Nat) => cs.setIfInBounds (k + x.2) x.1) (pre ++ c :: cells).toArray = ((pre ++ [v]) ++ cells).toArray := by
   subst hk
   simp
  have ih := oT place vs (k + 1) (pre ++ [v]) cells (by simp [hk]) (fun j hj => by have := hp (j + 1) (by simp; omega); rw [show k + 1 + j = k + (j + 1) by omega]; exact this) (fun u hu => h1 u (by simp [hu])) (by simpa using h)
  show Instr.fill place ((Array.zipIdx #[v]).foldl (fun (cs : Array Value) (x : Value × Nat) => cs.setIfInBounds (k + x.2) x.1) (pre ++ c :: cells).toArray) _ = _
  rw [e,ih]
  simp
theorem yX (hb : b.Ok X.P) (r : Rel X σ a w γ C) {t : TypeId} {parts : List (Nat × Operand)} {d : D} (h : aC b σ t parts = some d) :
  ∃ z,RD w C γ d z ∧ ∀ W,(Instr.build t (parts.map fun p => (p.1,a.eval p.2)).toArray).run X.P W = .ok z W := by
 unfold aC at h
 split at h
 ·rename_i i hT
  split at h
  ·rename_i fs hund
   split at h
   ·rename_i hc
    obtain ⟨hk,hpr,hpl,hone⟩ := hc
    injection h with h
    subst h
    have hi := hb.t t i hT
    have hlen : parts.length = i.size := by
     have := congrArg List.length hpr
     simpa using this
    have hall : ∀ (j : Nat) (p : Nat × Operand),parts[j]? = some p → (a.eval p.2).oneCell' = true := by
     intro j p hj
     have hm : σ.ev p.2 ∈ parts.map fun p => σ.ev p.2 := List.mem_map.2 ⟨p,List.mem_of_getElem? hj,rfl⟩
     exact dW r (lE r p.2) (List.all_eq_true.1 hone _ hm)
    refine ⟨_,.aggd _ (parts.map fun p => a.eval p.2) (by simp) ?_ ?_,fun W => ?_⟩
    ·intro u hu
     obtain ⟨p,hp,rfl⟩ := List.mem_map.1 hu
     obtain ⟨j,hj⟩ := List.getElem?_of_mem hp
     exact hall j p hj
    ·intro j d u hd hu
     simp only [List.getElem?_map] at hd hu
     cases hj : parts[j]? with
     | none => rw [hj] at hd; simp at hd
     | some pr =>
      rw [hj] at hd hu
      simp only [Zg,Option.some.injEq] at hd hu
      subst hd
      subst hu
      exact lE r _
    ·have a1 : (underlying t).run X.P W = .ok (.struct fs) W := by rw [fG W hi,hund]
     have hk' : fs.all (fun f => (b.T f.type).isSome) = true := by
      unfold TI.kindOk at hk
      rw [hund] at hk
      exact hk
     obtain ⟨ps,hp1,hp2⟩ := xM W hb.t fs hk'
     have e : (fun k => ps[k]?) = i.place b := by
      funext k
      rw [hp2]
      unfold TI.place
      rw [hund] <;> rfl
     have hp1' : (fs.mapM fun (f : Field) => (do pure (f.offset,← sizeOf f.type) : Sem (Nat × Nat))).run X.P W = .ok ps W := hp1
     have hz : i.zero.cells.toList.length = i.size := by rw [Array.length_toList,hi.zsz]
     have hf := oT (i.place b) (parts.map fun p => a.eval p.2) 0 [] i.zero.cells.toList rfl (by
      intro j hj
      simp only [Zh] at hj
      have := congrArg (fun l => l[j]?) hpl
      simp only [List.getElem?_map] at this
      rw [List.getElem?_range (by omega)] at this
      simpa using this) (by
      intro u hu
      obtain ⟨p,hp,rfl⟩ := List.mem_map.1 hu
      obtain ⟨j,hj⟩ := List.getElem?_of_mem hp
      exact hall j p hj) (by simp [hz,hlen])
     have ez : (List.range' 0 (parts.map fun p => a.eval p.2).length).zip (parts.map fun p => a.eval p.2) = parts.map fun p => (p.1,a.eval p.2) := by
      rw [List.length_map,hlen,← List.range_eq_range',← hpr]
      apply List.ext_getElem?
      intro j
      simp only [List.getElem?_map]
      cases hj : parts[j]? <;> simp [List.zip,hj]
     rw [ez] at hf
     simp only [Instr.build,Sem.run_bind,vG W hi,Result.andThen_ok,a1,hp1',e]
     simp only [ZM,Array.toArray_toList] at hf ⊢
     rw [hf]
     rfl
   ·cases h
  ·cases h
 ·cases h
theorem mQ (place : Nat → Option (Nat × Nat)) : ∀ (dps : List (Nat × D)) (vps : List (Nat × Value)) (cs out : List D) (us : List Value),wG place cs dps = some out → us.length = cs.length → (∀ u ∈ us,u.oneCell' = true) →
  (∀ (j : Nat) (d : D) (u : Value),cs[j]? = some d → us[j]? = some u → RD w C γ d u) → vps.length = dps.length →
  (∀ (j : Nat) (p : Nat × D) (q : Nat × Value),dps[j]? = some p → vps[j]? = some q → p.1 = q.1 ∧ RD w C γ p.2 q.2 ∧ q.2.oneCell' = true) →
  ∃ vs : List Value,Instr.fill place us.toArray vps = some vs.toArray ∧ vs.length = out.length ∧ (∀ u ∈ vs,u.oneCell' = true) ∧ ∀ (j : Nat) (d : D) (u : Value),out[j]? = some d → vs[j]? = some u → RD w C γ d u
 | [],vps,cs,out,us,h,hl,h1,hR,hv,_ => by
  have : vps = [] := List.eq_nil_of_length_eq_zero (by simpa using hv)
  subst this
  simp only [wG,Option.some.injEq] at h
  subst h
  exact ⟨us,by simp [Instr.fill],hl,h1,hR⟩
 | (k,d) :: dps,[],cs,out,us,h,hl,h1,hR,hv,_ => by simp at hv
 | (k,d) :: dps,(k',v) :: vps,cs,out,us,h,hl,h1,hR,hv,hp => by
  obtain ⟨e1,e2,e3⟩ := hp 0 (k,d) (k',v) rfl rfl
  simp only at e1 e2 e3
  subst e1
  simp only [wG] at h
  split at h
  ·rename_i off size hpl
   split at h
   ·rename_i hc
    obtain ⟨rfl,hoff⟩ := hc
    have hvc : v.cells = #[v] := rK e3
    obtain ⟨vs,i1,i2,i3,i4⟩ := mQ place dps vps (cs.set off d) out (us.set off v) h (by simp [hl]) (by
     intro u hu
     rcases List.mem_or_eq_of_mem_set hu with hu | hu
     ·exact h1 u hu
     ·subst hu; exact e3) (by
     intro j x u hx hu
     by_cases hj : off = j
     ·subst hj
      rw [List.getElem?_set_self (by omega)] at hx hu
      injection hx with hx
      injection hu with hu
      subst hx
      subst hu
      exact e2
     ·rw [List.getElem?_set_ne hj] at hx hu
      exact hR j x u hx hu) (by simpa using hv) (fun j p q hp' hq' => hp (j + 1) p q (by simpa using hp') (by simpa using hq'))
    refine ⟨vs,?_,i2,i3,i4⟩
    simp only [Instr.fill,hpl,hvc]
    rw [if_neg (by simp; omega)]
    have e : (Array.zipIdx #[v]).foldl (fun (cs : Array Value) (x : Value × Nat) => cs.setIfInBounds (off + x.2) x.1) us.toArray = (us.set off v).toArray := by simp
    show Instr.fill place ((Array.zipIdx #[v]).foldl (fun (cs : Array Value) (x : Value × Nat) => cs.setIfInBounds (off + x.2) x.1) us.toArray) _ = _
    rw [e]
    exact i1
   ·cases h
  ·cases h
theorem zX (hb : b.Ok X.P) (r : Rel X σ a w γ C) {t : TypeId} {parts : List (Nat × Operand)} {d : D} (h : lI b σ t parts = some d) :
  ∃ z,RD w C γ d z ∧ ∀ W,(Instr.build t (parts.map fun p => (p.1,a.eval p.2)).toArray).run X.P W = .ok z W := by
 unfold lI at h
 split at h
 ·rename_i i hT
  split at h
  ·rename_i fs hund
   split at h
   ·rename_i hc
    obtain ⟨hk,hone⟩ := hc
    obtain ⟨out,hout,rfl⟩ := Option.map_eq_some_iff.1 h
    have hi := hb.t t i hT
    have hz1 : ∀ u ∈ i.zero.cells.toList,u.oneCell' = true := by
     intro u hu
     have := hi.zone
     rw [Array.all_eq_true_iff_forall_mem] at this
     exact this u (by simpa using hu)
    obtain ⟨vs,j1,j2,j3,j4⟩ := mQ (w := w) (C := C) (γ := γ) (i.place b) _ (parts.map fun p => (p.1,a.eval p.2)) _ out i.zero.cells.toList hout (by simp) hz1 (by
     intro j x u hx hu
     simp only [List.getElem?_map,hu,Zg,Option.some.injEq] at hx
     subst hx
     exact hBA _ _ _ _ (hz1 u (List.mem_of_getElem? hu))) (by simp) (by
     intro j p q hp hq
     simp only [List.getElem?_map] at hp hq
     cases hj : parts[j]? with
     | none => rw [hj] at hp; simp at hp
     | some pr =>
      rw [hj] at hp hq
      simp only [Zg,Option.some.injEq] at hp hq
      subst hp
      subst hq
      have hm : σ.ev pr.2 ∈ parts.map fun p => σ.ev p.2 := List.mem_map.2 ⟨pr,List.mem_of_getElem? hj,rfl⟩
      exact ⟨rfl,lE r _,dW r (lE r pr.2) (List.all_eq_true.1 hone _ hm)⟩)
    refine ⟨_,.aggd out vs j2 j3 j4,fun W => ?_⟩
    have a1 : (underlying t).run X.P W = .ok (.struct fs) W := by rw [fG W hi,hund]
    have hk' : fs.all (fun f => (b.T f.type).isSome) = true := by
     unfold TI.kindOk at hk
     rw [hund] at hk
     exact hk
    obtain ⟨ps,hp1,hp2⟩ := xM W hb.t fs hk'
    have e : (fun k => ps[k]?) = i.place b := by
     funext k
     rw [hp2]
     unfold TI.place
     rw [hund] <;> rfl
    have hp1' : (fs.mapM fun (f : Field) => (do pure (f.offset,← sizeOf f.type) : Sem (Nat × Nat))).run X.P W = .ok ps W := hp1
    simp only [Instr.build,Sem.run_bind,vG W hi,Result.andThen_ok,a1,hp1',e]
    simp only [Array.toArray_toList] at j1 ⊢
    rw [j1]
    rfl
   ·cases h
  ·cases h
 ·cases h
theorem aY (hb : b.Ok X.P) (r : Rel X σ a w γ C) {t : TypeId} {parts : List (Nat × Operand)} {d : D} (h : (if b.W t = true then lI b σ t parts else match mC b σ t parts with | some d => some d | none => aC b σ t parts) = some d) :
  ∃ z,RD w C γ d z ∧ ∀ W,(Instr.build t (parts.map fun p => (p.1,a.eval p.2)).toArray).run X.P W = .ok z W := by
 split at h
 ·exact zX hb r h
 cases hq : mC b σ t parts with
 | some d' =>
  rw [hq] at h
  simp only [Option.some.injEq] at h
  subst h
  exact eAA hb r hq
 | none =>
  rw [hq] at h
  exact yX hb r h
theorem xJ {P : Program} {s : Sem Value} {W W' : World} {z : Value} (h : s.run P W = .ok z W') : (do pure (Next.value (← s)) : Sem Next).run P W = .ok (.value z) W' := by
 rw [Sem.run_bind,h]; rfl
theorem vH {c : Call} {bi : Builtin} (h : c.callee = .builtin bi) (ty : TypeId) : (do let d ← resolve a.eval c ty; invoke d.target d.args : Sem Next) =
  builtin bi c.argTypes ty (c.args.map fun | .const _ => true | _ => false) (c.args.map a.eval) := by
 unfold resolve
 rw [h]
 rfl
/-- **What the table says an operation yields,it yields,in whatever world agrees with this one.** -/
theorem pT (r : Rel X σ a w γ C) : ∀ {xs : List Operand} {bs : List Nat},pL σ xs = some bs → (xs.map a.eval).length = bs.length ∧
  ∀ (j b : Nat) (u : Value),bs[j]? = some b → (xs.map a.eval)[j]? = some u → ∃ g,γ.bl[b]? = some g ∧ u = .pointer (some ⟨g,0,none⟩)
 | [],bs,h => by
  simp only [pL,Option.some.injEq] at h
  subst h
  exact ⟨rfl,fun j b u hb => by simp at hb⟩
 | x :: xs,bs,h => by
  simp only [pL] at h
  split at h
  ·rename_i b bs' h1 h2
   injection h with h
   subst h
   obtain ⟨i1,i2⟩ := pT r h2
   refine ⟨by simpa using i1,fun j b' u hb hu => ?_⟩
   cases j with
   | zero =>
    simp at hb hu
    subst hb
    subst hu
    have hr := lE r x
    rw [h1] at hr
    generalize a.eval x = v at hr
    cases hr with | ptr _ _ g hg => exact ⟨g,hg,rfl⟩
   | succ j => exact i2 j b' u (by simpa using hb) (by simpa using hu)
  ·cases h
theorem qU (hb : b.Ok X.P) (r : Rel X σ a w γ C) {o : Oper} {d : D} (h : qop b σ o.op = some d) : ∃ v,RD w C γ d v ∧ Yld X.P a o w v := by
 obtain ⟨dst,op,ty,pos,after,guard⟩ := o
 simp only at h
 unfold qop at h
 split at h
 ·rename_i x
  injection h with h; subst h
  exact ⟨_,lE r x,fun W _ => rfl⟩
 ·rename_i x
  injection h with h; subst h
  exact ⟨_,lE r x,fun W _ => rfl⟩
 ·rename_i c x y
  split at h
  ·rename_i t hc
   injection h with h; subst h
   have hcv := tN (hc ▸ lE r c)
   cases t with
   | true => exact ⟨_,lE r x,fun W _ => by simp [execOp,hcv,asBool]⟩
   | false => exact ⟨_,lE r y,fun W _ => by simp [execOp,hcv,asBool]⟩
  ·cases h
 ·rename_i x
  split at h
  ·rename_i bx off hc
   injection h with h; subst h
   have hr := lE r x
   rw [hc] at hr
   generalize hu : a.eval x = u at hr
   cases hr with | ptr _ _ g hg =>
   exact ⟨_,.ptr _ _ g hg,fun W _ => by simp [execOp,hu]⟩
  ·rename_i xs off hc
   injection h with h; subst h
   have hr := lE r x
   rw [hc] at hr
   generalize hu : a.eval x = u at hr
   cases hr with | ept _ _ g o us hg hl hcell hR =>
   exact ⟨_,.ept _ _ g o us hg hl hcell hR,fun W _ => by simp [execOp,hu]⟩
  ·cases h
 ·rename_i op t x y _
  obtain ⟨z,hz,hrun⟩ := mEA hb h (lE r x) (lE r y) (x := x) (y := y)
  exact ⟨z,hz,fun W _ => xJ (hrun W)⟩
 ·rename_i t x
  split at h
  ·rename_i tt hc
   injection h with h; subst h
   have hcv := tN (hc ▸ lE r x)
   exact ⟨_,.p _ _ (.v _ rfl),fun W _ => by simp [execOp,hcv,Op.unary]⟩
  ·cases h
 ·rename_i src dst' x
  obtain ⟨z,hz,hrun⟩ := iBA hb h (lE r x)
  exact ⟨z,hz,fun W _ => xJ (hrun W)⟩
 ·rename_i t x ix
  obtain ⟨z,hz,hrun⟩ := zS hb r h (lE r x) (lE r ix)
  exact ⟨z,hz,fun W _ => xJ (hrun W)⟩
 ·rename_i t x ix
  obtain ⟨z,hz,hrun⟩ := bAA hb h (lE r x) (lE r ix)
  exact ⟨z,hz,fun W _ => xJ (hrun W)⟩
 ·rename_i s x f
  obtain ⟨z,hz,hrun⟩ := aT hb h (lE r x)
  exact ⟨z,hz,fun W _ => xJ (hrun W)⟩
 ·rename_i s x f
  obtain ⟨z,hz,hrun⟩ := cAA hb h (lE r x)
  exact ⟨z,hz,fun W _ => xJ (hrun W)⟩
 ·rename_i t x
  obtain ⟨z,hz,hrun⟩ := cW hb r h (lE r x)
  exact ⟨z,hz,fun W hW => xJ (hrun W (hW rfl))⟩
 ·rename_i t x lo hi mx
  obtain ⟨z,hz,hrun⟩ := dAA (vlo := lo.map a.eval) (vhi := hi.map a.eval) (vmx := mx.map a.eval) hb h (lE r x)
   (by intro d u h1 h2; cases lo with | none => simp at h1 | some y => simp at h1 h2; subst h1; subst h2; exact lE r y) (by cases lo <;> rfl)
   (by intro d u h1 h2; cases hi with | none => simp at h1 | some y => simp at h1 h2; subst h1; subst h2; exact lE r y) (by cases hi <;> rfl)
   (by intro d u h1 h2; cases mx with | none => simp at h1 | some y => simp at h1 h2; subst h1; subst h2; exact lE r y) (by cases mx <;> rfl)
  exact ⟨z,hz,fun W _ => xJ (hrun W)⟩
 ·rename_i x i
  split at h
  ·rename_i ds hc
   have hr := lE r x
   rw [hc] at hr
   generalize hu : a.eval x = u at hr
   cases hr with | tup _ us hl hR =>
   unfold mJ at h
   obtain ⟨pv,hpv,rfl⟩ := Option.map_eq_some_iff.1 h
   have hlt : i < us.length := by rw [hl]; exact (List.getElem?_eq_some_iff.1 hpv).1
   refine ⟨us[i],(hR i pv _ hpv (List.getElem?_eq_getElem hlt)).rd,fun W _ => ?_⟩
   simp [execOp,hu,Instr.extract,hlt]
  ·cases h
 ·rename_i t parts
  obtain ⟨z,hz,hrun⟩ := aY hb r h
  refine ⟨z,hz,fun W _ => ?_⟩
  have e : (parts.map fun x => (x.1,a.eval x.2)) = (parts.toList.map fun p => (p.1,a.eval p.2)).toArray := by
   apply Array.ext'
   simp
  simp only [execOp]
  rw [show (parts.map fun (i,x) => (i,a.eval x)) = (parts.toList.map fun p => (p.1,a.eval p.2)).toArray from e]
  exact xJ (hrun W)
 ·rename_i c
  split at h
  ·rename_i hc
   split at h
   ·rename_i t x ht hx
    obtain ⟨z,hz,hrun⟩ := nEA hb r h (lE r x) c.argTypes ht ty
    refine ⟨z,hz,fun W _ => ?_⟩
    simp only [execOp,vH hc,builtin]
    refine xJ ?_
    have e : Builtin.len_ c.argTypes ty (c.args.map a.eval) = Builtin.len_ c.argTypes ty #[a.eval x] := by
     unfold Builtin.len_
     simp [hx]
    rw [e]
    exact hrun W
   ·cases h
  ·rename_i hc
   split at h
   ·rename_i x y hargs
    split at h
    ·rename_i k m k' n hx hy
     injection h with h; subst h
     have e1 := dK (hx ▸ lE r x)
     have e2 := dK (hy ▸ lE r y)
     refine ⟨_,.p _ _ (.v _ rfl),fun W _ => ?_⟩
     simp only [execOp,vH hc,builtin]
     refine xJ ?_
     have e : (c.args.map a.eval).toList = [.int k m,.int k' n] := by simp [hargs,e1,e2]
     unfold Builtin.min_
     rw [e]
     simp [Builtin.min2]
    ·cases h
   ·cases h
  ·rename_i hc
   split at h
   ·rename_i x y hargs
    split at h
    ·rename_i k m k' n hx hy
     injection h with h; subst h
     have e1 := dK (hx ▸ lE r x)
     have e2 := dK (hy ▸ lE r y)
     refine ⟨_,.p _ _ (.v _ rfl),fun W _ => ?_⟩
     simp only [execOp,vH hc,builtin]
     refine xJ ?_
     have e : (c.args.map a.eval).toList = [.int k m,.int k' n] := by simp [hargs,e1,e2]
     unfold Builtin.max_
     rw [e]
     simp [Builtin.max2]
    ·cases h
   ·cases h
  ·cases h
 ·rename_i f first caps
  split at h
  ·rename_i hf
   subst hf
   obtain ⟨bs,hbs,rfl⟩ := Option.map_eq_some_iff.1 h
   obtain ⟨i1,i2⟩ := pT r hbs
   refine ⟨.func (.func f) #[] (caps.toList.map a.eval).toArray,.fn f bs _ i1 i2,fun W _ => ?_⟩
   have e : (caps.toList.map a.eval).toArray = caps.map a.eval := by apply Array.ext'; simp
   rw [e]
   simp only [execOp]
   exact xJ (by simp [Instr.makeFunc])
  ·cases h
 ·cases h
end
end Go.Proofs.Ytldcoekbgfaomaa
end
section
namespace Go.Proofs.Ytldcoekbgfaomaa
open Go.RowKit
open Classical
section
variable {X : Cx} {b : Tb} {σ : St} {a : Act} {w : World} {γ : Gh} {C : Nat → Prop}
theorem Rel.bl_lt (r : Rel X σ a w γ C) {g : Nat} (h : g ∈ γ.bl) : g < w.heap.size := by
 obtain ⟨b,hb,he⟩ := List.getElem_of_mem h
 have hb' : b < σ.boxes.length := by rw [← r.bl]; exact hb
 obtain ⟨g',us,h1,h2,_⟩ := r.bx b _ (List.getElem?_eq_getElem hb')
 rw [List.getElem?_eq_getElem hb,he] at h1
 injection h1 with h1
 subst h1
 exact (Array.getElem?_eq_some_iff.1 h2).1
theorem Rel.size_le (r : Rel X σ a w γ C) : X.B ≤ w.heap.size := r.gr.size
theorem qT {w : World} {b b' : Nat} {e : TypeId} {sz : Nat} {v : Value} {n : Nat} {us : List Value} (h : w.ownsRow b e sz v n us) (hb : b' ≤ b) : w.ownsRow b' e sz v n us := by
 refine ⟨h.1,?_⟩
 rcases h.2 with h2 | ⟨g,cap,cur,h2,h3,h4⟩
 ·exact .inl h2
 ·exact .inr ⟨g,cap,cur,h2,Nat.le_trans hb h3,h4⟩
theorem oI {w : World} {b : Nat} {e : TypeId} {sz : Nat} {v : Value} {n : Nat} {us : List Value} (h : w.ownsRow b e sz v n us) {g : Nat} (hg : v.ownBlock = some g) : b ≤ g ∧ g < w.heap.size := by
 rcases h.2 with ⟨rfl,_⟩ | ⟨g',cap,cur,rfl,h3,h4,_⟩
 ·simp [Value.ownBlock] at hg
 ·simp only [Value.ownBlock,Option.some.injEq] at hg
  subst hg
  exact ⟨h3,(Array.getElem?_eq_some_iff.1 h4).1⟩
theorem fAA {w : World} {b : Nat} {e : TypeId} {sz : Nat} {v : Value} {n : Nat} {us : List Value} (h : w.ownsRow 0 e sz v n us) (hb : ∀ g,v.ownBlock = some g → b ≤ g) : w.ownsRow b e sz v n us := by
 refine ⟨h.1,?_⟩
 rcases h.2 with h2 | ⟨g,cap,cur,h2,_,h4⟩
 ·exact .inl h2
 ·exact .inr ⟨g,cap,cur,h2,hb g (by subst h2; rfl),h4⟩
theorem Held.lt (r : Rel X σ a w γ C) {g : Nat} (h : Held γ σ.vecs C g) : g < w.heap.size := by
 rcases h with h | h | ⟨j,V,v,h1,h2,h3⟩
 ·exact (r.cc g h).2.1
 ·exact r.bl_lt h
 ·obtain ⟨v',us,q1,q2,_⟩ := r.vc j V h1
  rw [h2] at q1
  injection q1 with q1
  subst q1
  exact (oI q2 h3).2
/-- A state in other surroundings,in another world in which what it holds lies as it lay; more may be read. -/
theorem Rel.move (r : Rel X σ a w γ C) {X' : Cx} {m' : List Mk} {ds' : List Deferred} {w' : World} {C' : Nat → Prop} (hsz : w.heap.size ≤ w'.heap.size) (hh : ∀ g,Held γ σ.vecs C g → w'.heap[g]? = w.heap[g]?)
  (hC : ∀ g,C g → C' g) (hZ : ∀ g,Held γ σ.vecs (fun _ => False) g → X'.Z g) (hgr : GrZ X'.w0 w' X'.Z) (hcc : ∀ g,C' g → (X'.C0 g ∨ X'.B ≤ g) ∧ g < w'.heap.size ∧ ¬ Held γ σ.vecs (fun _ => False) g)
  (hfr : ∃ O,Apart X' m' ds' w' γ σ.vecs C' O) (hbp : eIA X' m' γ σ.boxes.length) : Rel X' { σ with df := m' } { a with defers := ds' } w' γ C' := by
 have k : Kp C C' w w' := ⟨hC,fun g h => hh g (.inl h)⟩
 refine ⟨r.sz,fun t d h => (r.sl t d h).keep k (GhLe.refl _),r.bl,?_,r.bn,fun g hg => hZ g (.inr (.inl hg)),r.vl,?_,r.vd,hgr,fun g hg => ⟨(hcc g hg).1,(hcc g hg).2.1,fun hm => (hcc g hg).2.2 (.inr (.inl hm))⟩,hfr,hbp⟩
 ·intro bx x hx
  obtain ⟨g,us,h1,h2,h3,h4⟩ := r.bx bx x hx
  exact ⟨g,us,h1,(hh g (.inr (.inl (List.mem_of_getElem? h1)))).trans h2,h3,fun j d u hd hu => ⟨(h4 j d u hd hu).1.keep k (GhLe.refl _),(h4 j d u hd hu).2⟩⟩
 ·intro j V hV
  obtain ⟨v,us,h1,h2,h3,h4,h5⟩ := r.vc j V hV
  refine ⟨v,us,h1,?_,h3,fun i x u hx hu => (h4 i x u hx hu).keep k,fun g hgv => ⟨(h5 g hgv).1,fun hc => (hcc g hc).2.2 (.inr (.inr ⟨j,V,v,hV,h1,hgv⟩)),hZ g (.inr (.inr ⟨j,V,v,hV,h1,hgv⟩))⟩⟩
  refine ⟨h2.1,?_⟩
  rcases h2.2 with q | ⟨g,cap,cur,q1,q2,q3,q4⟩
  ·exact .inl q
  ·exact .inr ⟨g,cap,cur,q1,q2,(hh g (.inr (.inr ⟨j,V,v,hV,h1,by subst q1; rfl⟩))).trans q3,q4⟩
/-- New blocks alone; some of them may be read from now on. -/
theorem Rel.growFr (r : Rel X σ a w γ C) {w' : World} (hg : w.grownBy w' none) (N : Nat → Prop) (hN : ∀ g,N g → w.heap.size ≤ g) : ∃ O,Apart X σ.df a.defers w' γ σ.vecs (fun g => C g ∨ N g) O ∧ ∀ g,O g → g < w.heap.size := by
 have hh : ∀ g,g < w.heap.size → w'.heap[g]? = w.heap[g]? := fun g h => hg.block g h (by simp)
 obtain ⟨O,hO⟩ := r.fr
 refine ⟨O,hO.keep hg.size (fun g h => .inl h) (fun g h => hh g (r.cc g h).2.1) (fun g h _ => hh g h) fun g hlt h => ?_,fun g h => (hO.2.2 g h).1⟩
 rcases h with (h | h) | h | h
 ·exact .inl h
 ·exact absurd (hN g h) (by omega)
 ·exact .inr (.inl h)
 ·exact .inr (.inr h)
theorem Rel.growFr0 (r : Rel X σ a w γ C) {w' : World} (hg : w.grownBy w' none) : ∃ O,Apart X σ.df a.defers w' γ σ.vecs C O ∧ ∀ g,O g → g < w.heap.size := by
 have := r.growFr hg (fun _ => False) (fun _ h => h.elim)
 simpa using this
theorem Rel.grow (r : Rel X σ a w γ C) {w' : World} (hg : w.grownBy w' none) (N : Nat → Prop) (hN : ∀ g,N g → w.heap.size ≤ g ∧ g < w'.heap.size) : Rel X σ a w' γ (fun g => C g ∨ N g) := by
 have hh : ∀ g,g < w.heap.size → w'.heap[g]? = w.heap[g]? := fun g h => hg.block g h (by simp)
 have k : Kp C (fun g => C g ∨ N g) w w' := ⟨fun g h => .inl h,fun g h => hh g (r.cc g h).2.1⟩
 refine ⟨r.sz,fun t d h => (r.sl t d h).keep k (GhLe.refl _),r.bl,?_,r.bn,r.bge,r.vl,?_,r.vd,?_,?_,?_,r.bp⟩
 ·intro bx x hx
  obtain ⟨g,us,h1,h2,h3,h4⟩ := r.bx bx x hx
  refine ⟨g,us,h1,(hh g (Array.getElem?_eq_some_iff.1 h2).1).trans h2,h3,fun j d u hd hu => ⟨(h4 j d u hd hu).1.keep k (GhLe.refl _),(h4 j d u hd hu).2⟩⟩
 ·intro j V hV
  obtain ⟨v,us,h1,h2,h3,h4,h5⟩ := r.vc j V hV
  refine ⟨v,us,h1,h2.kept hg (by cases v.ownBlock <;> simp),h3,fun i x u hx hu => (h4 i x u hx hu).keep k,fun g hgv => ⟨(h5 g hgv).1,fun hc => ?_,(h5 g hgv).2.2⟩⟩
  rcases hc with hc | hc
  ·exact (h5 g hgv).2.1 hc
  ·have := (h2.lt g hgv).2
   have := (hN g hc).1
   omega
 ·exact r.gr.grow hg (by simp)
 ·intro g hc
  rcases hc with hc | hc
  ·exact ⟨(r.cc g hc).1,Nat.lt_of_lt_of_le (r.cc g hc).2.1 hg.size,(r.cc g hc).2.2⟩
  ·refine ⟨.inr (Nat.le_trans r.size_le (hN g hc).1),(hN g hc).2,fun hm => ?_⟩
   have := r.bl_lt hm
   have := (hN g hc).1
   omega
 ·obtain ⟨O,hO,_⟩ := r.growFr hg N fun g h => (hN g h).1
  exact ⟨O,hO⟩
theorem Rel.grow0 (r : Rel X σ a w γ C) {w' : World} (hg : w.grownBy w' none) : Rel X σ a w' γ C := by
 have := r.grow hg (fun _ => False) (fun _ h => h.elim)
 simpa using this
theorem jH {α : Type} {l : List α} {x : α} {i : Nat} {y : α} (h : (l ++ [x])[i]? = some y) : l[i]? = some y ∨ (i = l.length ∧ y = x) := by
 rcases Nat.lt_or_ge i l.length with h1 | h1
 ·rw [List.getElem?_append_left h1] at h; exact .inl h
 ·rw [List.getElem?_append_right h1] at h
  right
  cases h2 : i - l.length with
  | zero => rw [h2] at h; simp at h; exact ⟨by omega,h.symm⟩
  | succ n => rw [h2] at h; simp at h
theorem uE {α : Type} {l : List α} {x : α} {i : Nat} {y : α} (h : l[i]? = some y) : (l ++ [x])[i]? = some y := by
 rw [List.getElem?_append_left (List.getElem?_eq_some_iff.1 h).1]; exact h
theorem pE {α : Type} {l : List α} {x : α} : (l ++ [x])[l.length]? = some x := by simp
/-- A variable more. -/
theorem Rel.addBox (r : Rel X σ a w γ C) (g : Nat) (x : Bx) (us : List Value) (hB : X.B ≤ g) (hC : ¬ C g) (hbl : g ∉ γ.bl) (hO : ∃ O,Apart X σ.df a.defers w γ σ.vecs C O ∧ ¬ O g)
  (hv : ∀ (j : Nat) (V : Vc) (v : Value),σ.vecs[j]? = some (some V) → γ.vv[j]? = some v → v.ownBlock ≠ some g)
  (hh : w.heap[g]? = some (.cells us.toArray x.ty (0,0))) (hl : us.length = x.cells.length)
  (hR : ∀ (j : Nat) (d : D) (u : Value),x.cells[j]? = some d → us[j]? = some u → RD w C γ d u ∧ u.oneCell' = true) :
  Rel X { σ with boxes := σ.boxes ++ [x] } a w { γ with bl := γ.bl ++ [g] } C := by
 have hle : GhLe γ { γ with bl := γ.bl ++ [g] } := ⟨fun b g h => uE h,fun _ _ h => h⟩
 have k := Kp.refl C w
 refine ⟨r.sz,fun t d h => (r.sl t d h).keep k hle,by simp [r.bl],?_,?_,?_,r.vl,?_,r.vd,r.gr,?_,?_,?_⟩
 ·intro bx y hy
  rcases jH hy with hy | ⟨rfl,rfl⟩
  ·obtain ⟨g',vs,h1,h2,h3,h4⟩ := r.bx bx y hy
   exact ⟨g',vs,uE h1,h2,h3,fun j d u hd hu => ⟨(h4 j d u hd hu).1.keep k hle,(h4 j d u hd hu).2⟩⟩
  ·refine ⟨g,us,?_,hh,hl,fun j d u hd hu => ⟨(hR j d u hd hu).1.keep k hle,(hR j d u hd hu).2⟩⟩
   rw [← r.bl]
   exact pE
 ·rw [List.nodup_append]
  exact ⟨r.bn,by simp,fun x hx y hy e => by simp at hy; subst hy; subst e; exact hbl hx⟩
 ·intro g' hg'
  rcases List.mem_append.1 hg' with h | h
  ·exact r.bge g' h
  ·simp at h; subst h; exact X.zn _ hB
 ·intro j V hV
  obtain ⟨v,vs,h1,h2,h3,h4,h5⟩ := r.vc j V hV
  refine ⟨v,vs,h1,h2,h3,h4,fun g' hg' => ⟨fun hm => ?_,(h5 g' hg').2⟩⟩
  rcases List.mem_append.1 hm with h | h
  ·exact (h5 g' hg').1 h
  ·simp at h; subst h; exact hv j V v hV h1 hg'
 ·intro g' hg'
  refine ⟨(r.cc g' hg').1,(r.cc g' hg').2.1,fun hm => ?_⟩
  rcases List.mem_append.1 hm with h | h
  ·exact (r.cc g' hg').2.2 h
  ·simp at h; subst h; exact hC hg'
 ·obtain ⟨O,hO1,hOg⟩ := hO
  refine ⟨O,hO1.1,hO1.2.1,fun g' hg' => ⟨(hO1.2.2 g' hg').1,(hO1.2.2 g' hg').2.1,fun hh' => ?_⟩⟩
  rcases hh' with h | h | h
  ·exact (hO1.2.2 g' hg').2.2 (.inl h)
  ·rcases List.mem_append.1 h with h | h
   ·exact (hO1.2.2 g' hg').2.2 (.inr (.inl h))
   ·simp at h; subst h; exact hOg hg'
  ·exact (hO1.2.2 g' hg').2.2 (.inr (.inr h))
 ·refine ⟨?_,fun b g' hb hg' => uE (r.bp.2 b g' hb hg')⟩
  simp only [List.length_append]
  exact Nat.le_trans r.bp.1 (Nat.le_add_right _ _)
/-- A slice of the call's own more. -/
theorem Rel.addVec (r : Rel X σ a w γ C) (V : Vc) (v : Value) (us : List Value) (hown : w.ownsRow X.B V.e V.sz v V.n us) (hl : us.length = V.xs.length)
  (hR : ∀ (i : Nat) (x : P1) (u : Value),V.xs[i]? = some x → us[i]? = some u → R1 w C x u) (hbk : ∀ g,v.ownBlock = some g → g ∉ γ.bl ∧ ¬ C g)
  (hv : ∀ (j : Nat) (U : Vc) (u : Value) (g : Nat),σ.vecs[j]? = some (some U) → γ.vv[j]? = some u → v.ownBlock = some g → u.ownBlock ≠ some g)
  (hO : ∃ O,Apart X σ.df a.defers w γ σ.vecs C O ∧ ∀ g,v.ownBlock = some g → ¬ O g) :
  Rel X { σ with vecs := σ.vecs ++ [some V] } a w { γ with vv := γ.vv ++ [v] } C := by
 have hle : GhLe γ { γ with vv := γ.vv ++ [v] } := ⟨fun _ _ h => h,fun j u h => uE h⟩
 have k := Kp.refl C w
 have hnew : (γ.vv ++ [v])[σ.vecs.length]? = some v := by rw [← r.vl]; exact pE
 refine ⟨r.sz,fun t d h => (r.sl t d h).keep k hle,r.bl,?_,r.bn,r.bge,by simp [r.vl],?_,?_,r.gr,r.cc,?_,r.bp⟩
 ·intro bx y hy
  obtain ⟨g',vs,h1,h2,h3,h4⟩ := r.bx bx y hy
  exact ⟨g',vs,h1,h2,h3,fun j d u hd hu => ⟨(h4 j d u hd hu).1.keep k hle,(h4 j d u hd hu).2⟩⟩
 ·intro j U hU
  rcases jH hU with hU | ⟨rfl,hUV⟩
  ·obtain ⟨v',vs,h1,h2,h3,h4,h5⟩ := r.vc j U hU
   exact ⟨v',vs,uE h1,h2,h3,h4,h5⟩
  ·injection hUV with hUV
   subst hUV
   exact ⟨v,us,hnew,qT hown (Nat.zero_le _),hl,hR,fun g hg => ⟨(hbk g hg).1,(hbk g hg).2,X.zn g (oI hown hg).1⟩⟩
 ·intro i j Vi Vj vi vj g hij hi hj hvi hvj hg
  rcases jH hi with hi | ⟨rfl,hi⟩
  ·obtain ⟨vi',_,ei,_⟩ := r.vc i Vi hi
   have e1 : γ.vv[i]? = some vi := by rw [uE ei] at hvi; injection hvi with hvi; subst hvi; exact ei
   rcases jH hj with hj | ⟨rfl,hj⟩
   ·obtain ⟨vj',_,ej,_⟩ := r.vc j Vj hj
    have e2 : γ.vv[j]? = some vj := by rw [uE ej] at hvj; injection hvj with hvj; subst hvj; exact ej
    exact r.vd i j Vi Vj vi vj g hij hi hj e1 e2 hg
   ·rw [hnew] at hvj
    injection hvj with hvj
    subst hvj
    intro h
    exact hv i Vi vi g hi e1 h hg
  ·rw [hnew] at hvi
   injection hvi with hvi
   subst hvi
   rcases jH hj with hj | ⟨rfl,_⟩
   ·obtain ⟨vj',_,ej,_⟩ := r.vc j Vj hj
    have e2 : γ.vv[j]? = some vj := by rw [uE ej] at hvj; injection hvj with hvj; subst hvj; exact ej
    exact hv j Vj vj g hj e2 hg
   ·exact absurd rfl hij
 ·obtain ⟨O,hO1,hOg⟩ := hO
  refine ⟨O,hO1.1,hO1.2.1,fun g' hg' => ⟨(hO1.2.2 g' hg').1,(hO1.2.2 g' hg').2.1,fun hh' => ?_⟩⟩
  rcases hh' with h | h | ⟨j,U,u,h1,h2,h3⟩
  ·exact (hO1.2.2 g' hg').2.2 (.inl h)
  ·exact (hO1.2.2 g' hg').2.2 (.inr (.inl h))
  ·rcases jH h1 with h1 | ⟨rfl,h1⟩
   ·obtain ⟨u',_,eu,_⟩ := r.vc j U h1
    have e1 : γ.vv[j]? = some u := by rw [uE eu] at h2; injection h2 with h2; subst h2; exact eu
    exact (hO1.2.2 g' hg').2.2 (.inr (.inr ⟨j,U,u,h1,e1,h3⟩))
   ·rw [hnew] at h2
    injection h2 with h2
    subst h2
    exact hOg g' h3 hg'
theorem zO (w : World) (o : Obj) : (w.alloc o).heap[w.heap.size]? = some o := by
 show (w.heap.push o)[w.heap.size]? = some o
 simp
theorem yM (w : World) (o : Obj) : (w.alloc o).heap.size = w.heap.size + 1 := by
 show (w.heap.push o).size = _
 simp
theorem Rel.fresh (r : Rel X σ a w γ C) : ¬ C w.heap.size ∧ w.heap.size ∉ γ.bl ∧ ∀ (j : Nat) (V : Vc) (v : Value),σ.vecs[j]? = some (some V) → γ.vv[j]? = some v → v.ownBlock ≠ some w.heap.size := by
 refine ⟨fun h => by have := (r.cc _ h).2.1; omega,fun h => by have := r.bl_lt h; omega,fun j V v hV hv h => ?_⟩
 obtain ⟨v',us,h1,h2,_⟩ := r.vc j V hV
 rw [h1] at hv
 injection hv with hv
 subst hv
 have := (h2.lt _ h).2
 omega
/-- The cells that a variable of the value d gets. -/
def D.boxCells : D → Option (List D)
 | .agg xs => some (xs.map .p)
 | .p x => some [.p x]
 | .nil => some [.nil]
 | .ptr b o => some [.ptr b o]
 | .vref j => some [.vref j]
 | .fn f bs => some [.fn f bs]
 | .aggd ds => some ds
 | _ => none
theorem eW (r : Rel X σ a w γ C) {j : Nat} {v : Value} (h : γ.vv[j]? = some v) (hj : ∃ V,σ.vecs[j]? = some (some V)) : v.oneCell' = true := by
 obtain ⟨V,hV⟩ := hj
 obtain ⟨v',us,h1,h2,_⟩ := r.vc j V hV
 rw [h1] at h
 injection h with h
 subst h
 rcases h2.2 with ⟨rfl,_⟩ | ⟨g,cap,cur,rfl,_⟩ <;> rfl
/-- Do all own slices that the value names live? -/
def D.live (σ : St) : D → Bool
 | .vref j => match σ.vecs[j]? with
  | some (some _) => true
  | _ => false
 | _ => true
theorem nQ (r : Rel X σ a w γ C) {d : D} {u : Value} {ds : List D} (h : RD w C γ d u) (hb : d.boxCells = some ds) (hlv : d.live σ = true) :
  ∃ us : List Value,u.cells = us.toArray ∧ us.length = ds.length ∧ ∀ (j : Nat) (e : D) (v : Value),ds[j]? = some e → us[j]? = some v → RD w C γ e v ∧ v.oneCell' = true := by
 cases h with
 | any => simp [D.boxCells] at hb
 | p x u h =>
  simp only [D.boxCells,Option.some.injEq] at hb
  subst hb
  refine ⟨[u],rK h.one,rfl,fun j e v he hv => ?_⟩
  cases j with
  | zero => simp at he hv; subst he; subst hv; exact ⟨.p _ _ h,h.one⟩
  | succ j => simp at he
 | agg xs us hl hR =>
  simp only [D.boxCells,Option.some.injEq] at hb
  subst hb
  refine ⟨us,rfl,by simp [hl],fun j e v he hv => ?_⟩
  simp only [List.getElem?_map] at he
  cases hx : xs[j]? with
  | none => rw [hx] at he; simp at he
  | some x =>
   rw [hx] at he
   simp only [Zg,Option.some.injEq] at he
   subst he
   have := hR j x v hx hv
   exact ⟨.p _ _ this,this.one⟩
 | tup => simp [D.boxCells] at hb
 | nil =>
  simp only [D.boxCells,Option.some.injEq] at hb
  subst hb
  refine ⟨[.slice none 0 0],rfl,rfl,fun j e v he hv => ?_⟩
  cases j with
  | zero => simp at he hv; subst he; subst hv; exact ⟨.nil,rfl⟩
  | succ j => simp at he
 | ptr bx off g hg =>
  simp only [D.boxCells,Option.some.injEq] at hb
  subst hb
  refine ⟨[_],rfl,rfl,fun j e v he hv => ?_⟩
  cases j with
  | zero => simp at he hv; subst he; subst hv; exact ⟨.ptr _ _ g hg,rfl⟩
  | succ j => simp at he
 | ept => simp [D.boxCells] at hb
 | vref j v hv =>
  simp only [D.boxCells,Option.some.injEq] at hb
  subst hb
  have h1 : ∃ V,σ.vecs[j]? = some (some V) := by
   unfold D.live at hlv
   split at hlv
   ·rename_i heq; injection heq with heq; subst heq; split at hlv
    ·rename_i V hV; exact ⟨V,hV⟩
    ·cases hlv
   ·rename_i hne; exact absurd rfl (hne j)
  have ho := eW r hv h1
  refine ⟨[u],rK ho,rfl,fun k e v' he hv' => ?_⟩
  cases k with
  | zero => simp at he hv'; subst he; subst hv'; exact ⟨.vref _ _ hv,ho⟩
  | succ k => simp at he
 | vpt => simp [D.boxCells] at hb
 | bsl => simp [D.boxCells] at hb
 | fn f bs us hl hR =>
  simp only [D.boxCells,Option.some.injEq] at hb
  subst hb
  refine ⟨[_],rfl,rfl,fun j e v he hv => ?_⟩
  cases j with
  | zero => simp at he hv; subst he; subst hv; exact ⟨.fn f bs us hl hR,rfl⟩
  | succ j => simp at he
 | aggd ds' us hl h1 hR =>
  simp only [D.boxCells,Option.some.injEq] at hb
  subst hb
  exact ⟨us,rfl,hl,fun j e v he hv => ⟨hR j e v he hv,h1 v (List.mem_of_getElem? hv)⟩⟩
theorem kBA {i : TI} {P : Program} {t : Nat} (hi : TI.Is P t i) : i.zero.cells.toList.length = (i.zero.cells.toList.map zd).length ∧
  ∀ (j : Nat) (d : D) (u : Value),(i.zero.cells.toList.map zd)[j]? = some d → i.zero.cells.toList[j]? = some u → RD w C γ d u ∧ u.oneCell' = true := by
 refine ⟨by simp,fun j x u hx hu => ?_⟩
 simp only [List.getElem?_map,hu,Zg,Option.some.injEq] at hx
 subst hx
 have := hi.zone
 rw [Array.all_eq_true'] at this
 have h1 := this u (Array.mem_toList_iff.1 (List.mem_of_getElem? hu))
 exact ⟨hBA _ _ _ _ h1,h1⟩
/-- A new variable's state. -/
def St.addBox (σ : St) (x : Bx) : St := { σ with boxes := σ.boxes ++ [x] }
def St.addVec (σ : St) (V : Vc) : St := { σ with vecs := σ.vecs ++ [some V] }
theorem Rel.newBox (r : Rel X σ a w γ C) (x : Bx) (us : List Value) (hl : us.length = x.cells.length)
  (hR : ∀ (j : Nat) (d : D) (u : Value),x.cells[j]? = some d → us[j]? = some u → RD w C γ d u ∧ u.oneCell' = true) :
  Rel X (σ.addBox x) a (w.alloc (.cells us.toArray x.ty)) { γ with bl := γ.bl ++ [w.heap.size] } C := by
 have hg := World.grownBy_alloc w (.cells us.toArray x.ty) none
 have hh : ∀ g,g < w.heap.size → (w.alloc (.cells us.toArray x.ty)).heap[g]? = w.heap[g]? := fun g h => hg.block g h (by simp)
 have k : Kp C C w (w.alloc (.cells us.toArray x.ty)) := ⟨fun g h => h,fun g h => hh g (r.cc g h).2.1⟩
 exact (r.grow0 hg).addBox w.heap.size x us r.size_le r.fresh.1 r.fresh.2.1 (by obtain ⟨O,h1,h2⟩ := r.growFr0 hg; exact ⟨O,h1,fun h => absurd (h2 _ h) (by omega)⟩) r.fresh.2.2 (zO _ _) hl
  fun j d u hd hu => ⟨(hR j d u hd hu).1.keep k (GhLe.refl _),(hR j d u hd hu).2⟩
/-- A variable is written. -/
theorem Rel.setBox (r : Rel X σ a w γ C) {bx : Nat} {x : Bx} (hx : σ.boxes[bx]? = some x) {g : Nat} (hg : γ.bl[bx]? = some g) (us : List Value) (cs : List D) (hl : us.length = cs.length)
  (hR : ∀ (j : Nat) (d : D) (u : Value),cs[j]? = some d → us[j]? = some u → RD w C γ d u ∧ u.oneCell' = true) :
  Rel X { σ with boxes := σ.boxes.set bx { x with cells := cs } } a (w.setRow g us.toArray) γ C := by
 have hother : ∀ k,k ≠ g → (w.setRow g us.toArray).heap[k]? = w.heap[k]? := fun k hk => setRow_other w g k _ hk
 have hgm : g ∈ γ.bl := List.mem_of_getElem? hg
 have k : Kp C C w (w.setRow g us.toArray) := ⟨fun _ h => h,fun g' h => hother g' (fun e => by subst e; exact (r.cc _ h).2.2 hgm)⟩
 have hgrow : w.grownBy (w.setRow g us.toArray) (some g) := ⟨rfl,rfl,rfl,by simp,fun k _ hk => hother k (fun e => hk (by rw [e]))⟩
 refine ⟨r.sz,fun t d h => (r.sl t d h).keep k (GhLe.refl _),by simp [r.bl],?_,r.bn,r.bge,r.vl,?_,r.vd,?_,?_,?_,by simpa using r.bp⟩
 ·intro by' y hy
  rw [List.getElem?_set] at hy
  split at hy
  ·rename_i he
   subst he
   split at hy
   ·injection hy with hy
    subst hy
    obtain ⟨g',vs,h1,h2,h3,h4⟩ := r.bx bx x hx
    rw [hg] at h1
    injection h1 with h1
    subst h1
    exact ⟨g,us,hg,setRow_heap w g _ _ _ _ h2,hl,fun j d u hd hu => ⟨(hR j d u hd hu).1.keep k (GhLe.refl _),(hR j d u hd hu).2⟩⟩
   ·cases hy
  ·rename_i hne
   obtain ⟨g',vs,h1,h2,h3,h4⟩ := r.bx by' y hy
   have hgg : g' ≠ g := fun e => by
    subst e
    have l1 := (List.getElem?_eq_some_iff.1 h1)
    have l2 := (List.getElem?_eq_some_iff.1 hg)
    obtain ⟨q1,e1⟩ := l1
    obtain ⟨q2,e2⟩ := l2
    exact hne ((List.getElem_inj (h₀ := q2) (h₁ := q1) r.bn).1 (e2.trans e1.symm))
   exact ⟨g',vs,h1,(hother g' hgg).trans h2,h3,fun j d u hd hu => ⟨(h4 j d u hd hu).1.keep k (GhLe.refl _),(h4 j d u hd hu).2⟩⟩
 ·intro j V hV
  obtain ⟨v,vs,h1,h2,h3,h4,h5⟩ := r.vc j V hV
  refine ⟨v,vs,h1,h2.kept hgrow ?_,h3,fun i x u hx hu => (h4 i x u hx hu).keep k,h5⟩
  cases hv : v.ownBlock with
  | none => exact .inl rfl
  | some g' => right; intro e; injection e with e; subst e; exact (h5 _ hv).1 hgm
 ·refine r.gr.grow hgrow (fun g' e hlt => ?_)
  injection e with e
  subst e
  exact r.bge g hgm
 ·intro g' h
  exact ⟨(r.cc g' h).1,by simpa using (r.cc g' h).2.1,(r.cc g' h).2.2⟩
 ·obtain ⟨O,hO⟩ := r.fr
  exact ⟨O,hO.keep (by simp) (fun _ h => h) (fun g' h => k.h g' h) (fun g' _ h => hother g' (fun e => h (by subst e; exact .inr (.inl hgm)))) fun g' _ h => h⟩
end
end Go.Proofs.Ytldcoekbgfaomaa
end
section
namespace Go.Proofs.Ytldcoekbgfaomaa
open Go.RowKit
open Classical
def D.demote (j : Nat) : D → D
 | .vref i => if i = j then .any else .vref i
 | .vpt i o => if i = j then .any else .vpt i o
 | .aggd _ => .any
 | d => d
def St.demote (σ : St) (j : Nat) : St := { σ with slots := σ.slots.map (D.demote j),boxes := σ.boxes.map fun x => { x with cells := x.cells.map (D.demote j) } }
def St.setVec (σ : St) (j : Nat) (V : Vc) : St := { σ with vecs := σ.vecs.set j (some V) }
/-- append onto own slice j. -/
noncomputable def cG (b : Tb) (σ : St) (dst : Option Tmp) (j : Nat) (e : TypeId) (src : D) : Option St :=
 match σ.vecs[j]?,src.pure?,b.T e with
 | some (some V),some (.sl m ys),some te =>
  if V.e = e ∧ V.sz = te.size ∧ 0 < te.size ∧ 0 < te.bytes ∧ ys.length = m * te.size ∧ (V.n + m) * te.bytes ≤ 140737488355328 then
   some (((σ.demote j).setVec j { V with n := V.n + m,xs := V.xs ++ ys }).put dst (.vref j))
  else none
 | _,_,_ => none
def rB (sz : Nat) : List D → Option (List P1)
 | [] => some []
 | d :: ds => match d.cells?,rB sz ds with
  | some cs,some r => if cs.length = sz then some (cs ++ r) else none
  | _,_ => none
noncomputable def bB (b : Tb) (σ : St) (dst : Option Tmp) (t : TypeId) (n : Nat) (parts : List (Nat × Operand)) : Option St :=
 match b.T t with
 | some i => match i.und with
  | .slice e => match b.T e with
   | some te => if parts.map (·.1) = List.range n ∧ n ≤ 16777216 ∧ n * te.size ≤ 16777216 then
     (rB te.size (parts.map fun p => σ.ev p.2)).map fun cs => if b.N dst = true then (σ.addBox ⟨e,cs.map .p⟩).put dst (.bsl σ.boxes.length 0 n (n * te.size)) else if b.O dst = true then (σ.addVec ⟨e,te.size,n,cs⟩).put dst (.vref σ.vecs.length) else σ.put dst (.p (.sl n cs)) else none
   | none => none
  | _ => none
 | none => none
noncomputable def kO (b : Tb) (σ : St) (dst : Option Tmp) (t : TypeId) (l c : D) : Option St :=
 match b.T t,l,c with
 | some i,.p (.v (.int _ l)),.p (.v (.int _ c)) => match i.und with
  | .slice e => match b.T e with
   | some te => if 0 ≤ l ∧ l ≤ c ∧ c * te.bytes ≤ 140737488355328 ∧ 0 < te.bytes ∧ te.size = 1 ∧ te.zero.oneCell' = true then
     some ((σ.addVec ⟨e,1,l.toNat,List.replicate l.toNat (zp te.zero)⟩).put dst (.vref σ.vecs.length)) else none
   | none => none
  | _ => none
 | _,_,_ => none
noncomputable def iC (b : Tb) (σ : St) (dst : Option Tmp) (t : TypeId) (ad x : D) : Option St :=
 match b.T t,ad with
 | some i,.ptr bx off => match σ.boxes[bx]?,x.boxCells with
  | some y,some cs => if cs.length = i.size ∧ off + i.size ≤ y.cells.length ∧ x.live σ = true then
    some ({ σ with boxes := σ.boxes.set bx { y with cells := y.cells.take off ++ cs ++ y.cells.drop (off + i.size) } }.put dst .any) else none
  | _,_ => none
 | some i,.vpt j off => match σ.vecs[j]?,x.cells? with
  | some (some V),some cs => if cs.length = i.size ∧ off + i.size ≤ V.xs.length then
    some ((σ.setVec j { V with xs := V.xs.take off ++ cs ++ V.xs.drop (off + i.size) }).put dst .any) else none
  | _,_ => none
 | _,_ => none
noncomputable def nD (b : Tb) (σ : St) (dst : Option Tmp) (t : TypeId) (s x : D) : Option St :=
 match b.T t with
 | some i => match i.und with
  | .slice e => match s with
   | .vref j => cG b σ dst j e x
   | .nil => match b.T e with
    | some te => cG b (σ.addVec ⟨e,te.size,0,[]⟩) dst σ.vecs.length e x
    | none => none
   | _ => none
  | _ => none
 | none => none
/-- What an operation does that makes or writes memory. -/
noncomputable def fop (b : Tb) (σ : St) (dst : Option Tmp) : Op → Option St
 | .alloc e => match b.T e with
  | some i => some ((σ.addBox ⟨e,i.zero.cells.toList.map zd⟩).put dst (.ptr σ.boxes.length 0))
  | none => none
 | .box e x => match (σ.ev x).boxCells with
  | some cs => if (σ.ev x).live σ = true then some ((σ.addBox ⟨e,cs⟩).put dst (.ptr σ.boxes.length 0)) else none
  | none => none
 | .buildSlice t n parts => bB b σ dst t n parts.toList
 | .makeSlice t l c => kO b σ dst t (σ.ev l) (σ.ev c)
 | .store t ad x => iC b σ dst t (σ.ev ad) (σ.ev x)
 | .call c => match c.callee,c.argTypes.toList,c.args.toList with
  | .builtin .append,[t,t'],[s,x] => if t' = t then nD b σ dst t (σ.ev s) (σ.ev x) else none
  | _,_,_ => none
 | _ => none
/-- Those that leave every block as it was. -/
def Op.growsB : Op → Bool
 | .store _ _ _ => false
 | .call c => match c.callee with
  | .builtin .append => false
  | _ => true
 | _ => true
section
variable {X : Cx} {b : Tb} {σ : St} {a : Act} {w : World} {γ : Gh} {C : Nat → Prop}
/-- What is shown of such an operation. -/
def bY (X : Cx) (a : Act) (o : Oper) (w : World) (grows : Bool) (σ' : St) : Prop :=
 ∃ (nx : Next) (v : Value) (w' : World),(execOp a.eval o).run X.P w = .ok nx w' ∧ (nx = .value v ∨ (nx = .skip ∧ v = undef)) ∧ (grows = true → w.grownBy w' none) ∧ Sat X σ' (a.put o.dst v) w'
theorem lBA (hb : b.Ok X.P) (r : Rel X σ a w γ C) (dst : Option Tmp) (e ty : TypeId) (pos : String) (after : Array Edge) (guard : Option (Nat × Bool)) {σ' : St} (h : fop b σ dst (.alloc e) = some σ') :
  bY X a ⟨dst,.alloc e,ty,pos,after,guard⟩ w true σ' := by
 simp only [fop] at h
 split at h
 ·rename_i i hT
  injection h with h
  subst h
  have hi := hb.t e i hT
  obtain ⟨z1,z2⟩ := kBA (w := w) (C := C) (γ := γ) hi
  refine ⟨.value (.pointer (some ⟨w.heap.size,0,none⟩)),_,w.alloc (.cells i.zero.cells.toList.toArray e),?_,.inl rfl,fun _ => World.grownBy_alloc _ _ _,?_⟩
  ·simp [execOp,Instr.alloc,vG w hi,newVar,newRow]
  ·have r1 := r.newBox ⟨e,i.zero.cells.toList.map zd⟩ i.zero.cells.toList z1 z2
   refine ⟨_,_,r1.put dst _ _ (.ptr _ _ _ ?_)⟩
   show (γ.bl ++ [w.heap.size])[σ.boxes.length]? = _
   rw [← r.bl]
   exact pE
 ·cases h
theorem iGA (r : Rel X σ a w γ C) (dst : Option Tmp) (e ty : TypeId) (x : Operand) (pos : String) (after : Array Edge) (guard : Option (Nat × Bool)) {σ' : St} (h : fop b σ dst (.box e x) = some σ') :
  bY X a ⟨dst,.box e x,ty,pos,after,guard⟩ w true σ' := by
 simp only [fop] at h
 split at h
 ·rename_i cs hcs
  split at h
  ·rename_i hlv
   injection h with h
   subst h
   obtain ⟨us,h1,h2,h3⟩ := nQ r (lE r x) hcs hlv
   refine ⟨.value (.pointer (some ⟨w.heap.size,0,none⟩)),_,w.alloc (.cells us.toArray e),?_,.inl rfl,fun _ => World.grownBy_alloc _ _ _,?_⟩
   ·simp [execOp,Instr.box,newVar,newRow,h1]
   ·have r1 := r.newBox ⟨e,cs⟩ us h2 h3
    refine ⟨_,_,r1.put dst _ _ (.ptr _ _ _ ?_)⟩
    show (γ.bl ++ [w.heap.size])[σ.boxes.length]? = _
    rw [← r.bl]
    exact pE
  ·cases h
 ·cases h
theorem rT (sz : Nat) : ∀ (ds : List D) (k : Nat) (cells out : List P1),rB sz ds = some out → (k + ds.length) * sz ≤ cells.length →
  uC (fun i => some (i * sz,sz)) cells ((List.range' k ds.length).zip ds) = some (cells.take (k * sz) ++ out ++ cells.drop ((k + ds.length) * sz))
 | [],k,cells,out,h,_ => by
  simp only [rB,Option.some.injEq] at h
  subst h
  simp [uC]
 | d :: ds,k,cells,out,h,hl => by
  simp only [rB] at h
  split at h
  ·rename_i cs r h1 h2
   split at h
   ·rename_i hcs
    injection h with h
    subst h
    simp only [Zl,List.range'_succ,List.zip_cons_cons,uC,h1]
    have e0 : (k + (ds.length + 1)) * sz = k * sz + sz + ds.length * sz := by rw [Nat.add_mul,Nat.add_mul]; omega
    have hl' : k * sz + sz + ds.length * sz ≤ cells.length := by simp only [Zl] at hl; omega
    rw [if_pos ⟨hcs,by omega⟩]
    have e1 : (k + 1) * sz = k * sz + sz := by rw [Nat.add_mul,Nat.one_mul]
    have e2 : (k + 1 + ds.length) * sz = k * sz + sz + ds.length * sz := by rw [Nat.add_mul,e1]
    have ih := rT sz ds (k + 1) (cells.take (k * sz) ++ cs ++ cells.drop (k * sz + sz)) r h2 (by rw [e2]; simp [hcs]; omega)
    rw [ih,e1,e2,e0]
    congr 1
    have l1 : (cells.take (k * sz)).length = k * sz := by simp; omega
    have l2 : (cells.take (k * sz) ++ cs).length = k * sz + sz := by simp [hcs]; omega
    rw [List.take_append_of_le_length (by omega),List.take_of_length_le (by omega)]
    rw [List.drop_append,List.drop_of_length_le (by omega),l2,List.drop_drop]
    simp only [ZM,List.append_assoc]
    congr 4
    omega
   ·cases h
  ·cases h
theorem uM {sz : Nat} : ∀ {ds : List D} {out : List P1},rB sz ds = some out → out.length = ds.length * sz
 | [],out,h => by
  simp only [rB,Option.some.injEq] at h
  subst h
  simp
 | d :: ds,out,h => by
  simp only [rB] at h
  split at h
  ·rename_i cs r h1 h2
   split at h
   ·rename_i hcs
    injection h with h
    subst h
    rw [List.length_append,hcs,uM h2,List.length_cons,Nat.succ_mul,Nat.add_comm]
   ·cases h
  ·cases h
theorem bT (hb : b.Ok X.P) (r : Rel X σ a w γ C) (dst : Option Tmp) (t ty : TypeId) (n : Nat) (parts : Array (Nat × Operand)) (pos : String) (after : Array Edge) (guard : Option (Nat × Bool)) {σ' : St}
  (h : fop b σ dst (.buildSlice t n parts) = some σ') : bY X a ⟨dst,.buildSlice t n parts,ty,pos,after,guard⟩ w true σ' := by
 simp only [fop,bB] at h
 split at h
 ·rename_i i hT
  split at h
  ·rename_i e hund
   split at h
   ·rename_i te he
    split at h
    ·rename_i hc
     obtain ⟨hpr,hn1,hsz⟩ := hc
     obtain ⟨out,hout,rfl⟩ := Option.map_eq_some_iff.1 h
     have hi := hb.t t i hT
     have hte := hb.t e te he
     have a1 : (underlying t).run X.P w = .ok (.slice e) w := by rw [fG w hi,hund]
     -- the zero row
     let zr : List Value := ((Array.range (n * te.size)).map fun k => (if n * te.size = 0 then #[] else te.zero.cells)[k % (if n * te.size = 0 then #[] else te.zero.cells).size]!).toList
     have hzl : zr.length = n * te.size := by simp [zr]
     have hz1 : ∀ u ∈ zr,u.oneCell' = true := by
      intro u hu
      simp only [zr,Array.toList_map,List.mem_map] at hu
      obtain ⟨k,hk,rfl⟩ := hu
      have hk' : k < n * te.size := by simpa using hk
      have hne : ¬ n * te.size = 0 := by omega
      simp only [if_neg hne]
      have hs : 0 < te.zero.cells.size := by
       rw [hte.zsz]
       rcases Nat.eq_zero_or_pos te.size with h0 | h0
       ·rw [h0] at hne; simp at hne
       ·exact h0
      have hlt := Nat.mod_lt k hs
      have := hte.zone
      rw [Array.all_eq_true'] at this
      have e1 : te.zero.cells[k % te.zero.cells.size]! = te.zero.cells[k % te.zero.cells.size] := getElem!_pos te.zero.cells (k % te.zero.cells.size) hlt
      rw [e1]
      exact this _ (Array.getElem_mem hlt)
     have hlen : parts.toList.length = n := by
      have := congrArg List.length hpr
      simpa using this
     obtain ⟨vs,hf,hvl,hvR⟩ := kR (C := C) (γ := γ) (w := w) (place := fun i => some (i * te.size,te.size)) (parts.toList.map fun p => (p.1,σ.ev p.2)) (parts.toList.map fun p => (p.1,a.eval p.2)) (zr.map zp)
      out zr (by
       have e1 : (parts.toList.map fun p => (p.1,σ.ev p.2)) = (List.range' 0 (parts.toList.map fun p => σ.ev p.2).length).zip (parts.toList.map fun p => σ.ev p.2) := by
        rw [List.length_map,hlen,← List.range_eq_range',← hpr]
        apply List.ext_getElem?
        intro j
        simp only [List.getElem?_map]
        cases hj : parts.toList[j]? <;> simp [List.zip,hj]
       rw [e1,rT te.size _ 0 (zr.map zp) out hout (by simp [hzl,hlen])]
       have : (parts.toList.map fun p => σ.ev p.2).length = n := by simpa using hlen
       rw [this,List.drop_of_length_le (by simp [hzl])]
       simp) (by simp) (by
       intro j x u hx hu
       simp only [List.getElem?_map,hu,Zg,Option.some.injEq] at hx
       subst hx
       exact gBA _ _ _ (hz1 u (List.mem_of_getElem? hu))) (by simp) (by
       intro j p q hp hq
       simp only [List.getElem?_map] at hp hq
       cases hj : parts.toList[j]? with
       | none => rw [hj] at hp; simp at hp
       | some pr =>
        rw [hj] at hp hq
        simp only [Zg,Option.some.injEq] at hp hq
        subst hp
        subst hq
        exact ⟨rfl,lE r _⟩)
     have hgr := World.grownBy_alloc w (.cells vs.toArray e) none
     refine ⟨.value (.slice (some ⟨w.heap.size,0,none⟩) n n),_,w.alloc (.cells vs.toArray e),?_,.inl rfl,fun _ => hgr,?_⟩
     ·have ep : (parts.map fun (i,x) => (i,a.eval x)).toList = parts.toList.map fun p => (p.1,a.eval p.2) := by
       simp
      simp only [execOp]
      refine xJ ?_
      simp only [Instr.buildSlice,Sem.run_bind,a1,Result.andThen_ok,wE w hte,ep]
      rw [if_neg (by omega)]
      have hf' : Instr.fill (fun i => some (i * te.size,te.size)) ((Array.range (n * te.size)).map fun k => (if n * te.size = 0 then #[] else te.zero.cells)[k % (if n * te.size = 0 then #[] else te.zero.cells).size]!) (parts.toList.map fun p => (p.1,a.eval p.2)) = some vs.toArray := by
       have : zr.toArray = ((Array.range (n * te.size)).map fun k => (if n * te.size = 0 then #[] else te.zero.cells)[k % (if n * te.size = 0 then #[] else te.zero.cells).size]!) := Array.toArray_toList
       rw [← this]
       exact hf
      by_cases h0 : n * te.size = 0
      ·simp only [h0,Zr] at hf' ⊢
       simp only [pure_bind,hf']
       simp [newRow]
      ·simp only [h0,Zq] at hf' ⊢
       simp only [Sem.run_bind,vG w hte,Result.andThen_ok,pure_bind,hf']
       simp [newRow]
     ·have hvR' : ∀ (j : Nat) (x : P1) (u : Value),out[j]? = some x → vs[j]? = some u → R1 (w.alloc (.cells vs.toArray e)) C x u := fun j x u hx hu =>
       (hvR j x u hx hu).keep ⟨fun g hg => hg,fun g hg => hgr.block g (r.cc g hg).2.1 (by simp)⟩
      by_cases hN : b.N dst = true
      ·rw [if_pos hN]
       have r1 := r.newBox ⟨e,out.map .p⟩ vs (by simpa using hvl) (fun j d u hd hu => by
        simp only [List.getElem?_map] at hd
        obtain ⟨x,hx,rfl⟩ := Option.map_eq_some_iff.1 hd
        have := hvR j x u hx hu
        exact ⟨.p _ _ this,this.one⟩)
       refine ⟨_,_,r1.put dst _ _ (.bsl _ 0 n _ w.heap.size n ?_ (Nat.le_refl _) (by simp only [maxLen]; omega))⟩
       show (γ.bl ++ [_])[σ.boxes.length]? = _
       rw [← r.bl]
       exact pE
      rw [if_neg hN]
      by_cases hO : b.O dst = true
      ·rw [if_pos hO]
       have hol : out.length = n * te.size := by
        have := uM hout
        rw [List.length_map,hlen] at this
        exact this
       have hown : (w.alloc (.cells vs.toArray e)).ownsRow X.B e te.size (.slice (some ⟨w.heap.size,0,none⟩) n n) n vs := by
        refine ⟨by omega,.inr ⟨w.heap.size,n,vs.toArray,rfl,r.size_le,zO _ _,Nat.le_refl _,by simp only [maxLen]; omega,by simp; omega,?_⟩⟩
        rw [List.take_of_length_le (by simp; omega)]
       have r1 := (r.grow0 hgr).addVec ⟨e,te.size,n,out⟩ _ _ hown hvl (fun j x u hx hu => hvR' j x u hx hu) (by
        intro g hg
        simp [Value.ownBlock] at hg
        subst hg
        exact ⟨r.fresh.2.1,r.fresh.1⟩) (by
        intro j U u g hU hu hg
        simp [Value.ownBlock] at hg
        subst hg
        exact r.fresh.2.2 j U u hU hu) (by
        obtain ⟨O,h1,h2⟩ := r.growFr0 hgr
        refine ⟨O,h1,fun g hg h => ?_⟩
        simp [Value.ownBlock] at hg
        subst hg
        exact absurd (h2 _ h) (by omega))
       refine ⟨_,_,r1.put dst _ _ (.vref _ _ ?_)⟩
       show (γ.vv ++ [_])[σ.vecs.length]? = _
       rw [← r.vl]
       exact pE
      ·rw [if_neg hO]
       have r1 := r.grow hgr (fun g => g = w.heap.size) (fun g hg => by subst hg; exact ⟨Nat.le_refl _,by rw [yM]; omega⟩)
       refine ⟨_,_,r1.put dst _ _ (.p _ _ (.sl n w.heap.size 0 n out vs (Nat.le_refl _) ?_ (.inr rfl) hvl ?_ ?_))⟩
       ·simp only [maxLen]
        omega
       ·intro j u hu
        rw [cell_of_row _ _ _ _ _ _ (zO w _)]
        simpa using hu
       ·intro j x u hx hu
        exact (hvR j x u hx hu).keep ⟨fun g hg => .inl hg,fun g hg => hgr.block g (r.cc g hg).2.1 (by simp)⟩
    ·cases h
   ·cases h
  ·cases h
 ·cases h
end
end Go.Proofs.Ytldcoekbgfaomaa
end
section
namespace Go.Proofs.Ytldcoekbgfaomaa
open Go.RowKit
open Classical
section
variable {X : Cx} {b : Tb} {σ : St} {a : Act} {w : World} {γ : Gh} {C : Nat → Prop}
theorem rU (hb : b.Ok X.P) (r : Rel X σ a w γ C) (dst : Option Tmp) (t ty : TypeId) (l c : Operand) (pos : String) (after : Array Edge) (guard : Option (Nat × Bool)) {σ' : St}
  (h : fop b σ dst (.makeSlice t l c) = some σ') : bY X a ⟨dst,.makeSlice t l c,ty,pos,after,guard⟩ w true σ' := by
 simp only [fop,kO] at h
 split at h
 ·rename_i i kl l' kc c' hT hl hc
  have el := dK (hl ▸ lE r l)
  have ec := dK (hc ▸ lE r c)
  split at h
  ·rename_i e hund
   split at h
   ·rename_i te he
    split at h
    ·rename_i hcd
     obtain ⟨c1,c2,c3,c4,c5,c6⟩ := hcd
     injection h with h
     subst h
     have hi := hb.t t i hT
     have hte := hb.t e te he
     obtain ⟨f,q1,q2,q3,q4⟩ := hte.info
     have hcap : c'.toNat ≤ 140737488355328 := by
      have h1 : (c'.toNat : Int) * (te.bytes : Int) ≤ 140737488355328 := by rw [Int.toNat_of_nonneg (by omega)]; exact c3
      have h2 : c'.toNat * te.bytes ≤ 140737488355328 := by
       have e : ((c'.toNat * te.bytes : Nat) : Int) ≤ 140737488355328 := by rw [Int.natCast_mul]; exact h1
       omega
      exact Nat.le_trans (Nat.le_mul_of_pos_right _ c4) h2
     have hzs : te.zero.cells = #[te.zero] := rK c6
     have hrun := run_make w t e f te.zero (by rw [hi.und,hund]) q1 q2 kl kc l' c' c1 c2 (by rw [q4,Int.mul_comm]; omega) (by omega)
     rw [q3,c5,Nat.mul_one,hzs] at hrun
     have hgr := World.grownBy_alloc w (.cells (madeCells #[te.zero] c'.toNat) e) none
     refine ⟨.value (.slice (some ⟨w.heap.size,0,none⟩) l'.toNat c'.toNat),_,_,?_,.inl rfl,fun _ => hgr,?_⟩
     ·simp only [execOp,el,ec]
      exact xJ hrun
     ·have hown : (w.alloc (.cells (madeCells #[te.zero] c'.toNat) e)).ownsRow X.B e 1 (.slice (some ⟨w.heap.size,0,none⟩) l'.toNat c'.toNat) l'.toNat (List.replicate l'.toNat te.zero) := by
       refine ⟨by simp,.inr ⟨w.heap.size,c'.toNat,madeCells #[te.zero] c'.toNat,rfl,r.size_le,zO _ _,by omega,by simp only [maxLen]; omega,by simp [size_madeCells],?_⟩⟩
       rw [toList_madeCells_one,Nat.mul_one,List.take_replicate]
       congr 1
       omega
      have r1 := (r.grow0 hgr).addVec ⟨e,1,l'.toNat,List.replicate l'.toNat (zp te.zero)⟩ _ _ hown (by simp) (by
       intro i x u hx hu
       rw [List.getElem?_replicate] at hx hu
       split at hx
       ·rename_i hlt
        rw [if_pos hlt] at hu
        injection hx with hx
        injection hu with hu
        subst hx
        subst hu
        exact gBA _ _ _ c6
       ·cases hx) (by
       intro g hg
       simp [Value.ownBlock] at hg
       subst hg
       exact ⟨r.fresh.2.1,r.fresh.1⟩) (by
       intro j U u g hU hu hg
       simp [Value.ownBlock] at hg
       subst hg
       exact r.fresh.2.2 j U u hU hu) (by
       obtain ⟨O,h1,h2⟩ := r.growFr0 hgr
       refine ⟨O,h1,fun g hg h => ?_⟩
       simp [Value.ownBlock] at hg
       subst hg
       exact absurd (h2 _ h) (by omega))
      refine ⟨_,_,r1.put dst _ _ (.vref _ _ ?_)⟩
      show (γ.vv ++ [_])[σ.vecs.length]? = _
      rw [← r.vl]
      exact pE
    ·cases h
   ·cases h
  ·cases h
 ·cases h
/-- A store of a row of cells. -/
theorem aO {P : Program} {t : TypeId} {i : TI} (hi : TI.Is P t i) (g o : Nat) (e : TypeId) (cur us : List Value) (v : Value) (hv : v.cells = us.toArray) (hl : us.length = i.size)
  (hg : w.heap[g]? = some (.cells cur.toArray e (0,0))) (hfit : o + i.size ≤ cur.length) (h1 : ∀ u ∈ us,u.oneCell' = true) :
  (storeVar t ⟨g,o,none⟩ v).run P w = .ok () (w.setRow g (cur.take o ++ us ++ cur.drop (o + i.size)).toArray) := by
 have hst := run_storeCells_at P g o e us 0 cur.toArray w hg (by simp; omega) h1
 simp only [ZD] at hst
 simp only [storeVar,Sem.run_bind,wE w hi,Result.andThen_ok,hv]
 rw [if_neg (by simp [hl])]
 rw [hst,hl]
theorem cY {R : D → Value → Prop} {cs ds : List D} {us vs : List Value} (hl : us.length = cs.length) (hR : ∀ (j : Nat) (d : D) (u : Value),cs[j]? = some d → us[j]? = some u → R d u)
  (hl2 : vs.length = ds.length) (hR2 : ∀ (j : Nat) (d : D) (u : Value),ds[j]? = some d → vs[j]? = some u → R d u) (o n : Nat) :
  (us.take o ++ vs ++ us.drop (o + n)).length = (cs.take o ++ ds ++ cs.drop (o + n)).length ∧
  ∀ (j : Nat) (d : D) (u : Value),(cs.take o ++ ds ++ cs.drop (o + n))[j]? = some d → (us.take o ++ vs ++ us.drop (o + n))[j]? = some u → R d u := by
 refine ⟨by simp [hl,hl2],fun j x u hx hu => ?_⟩
 simp only [List.append_assoc,List.getElem?_append,List.length_take,List.getElem?_take,List.getElem?_drop] at hx hu
 rw [hl,hl2] at hu
 split at hx
 ·rename_i h1
  rw [if_pos h1] at hu
  split at hx
  ·rename_i h2
   rw [if_pos h2] at hu
   exact hR j x u hx hu
  ·cases hx
 ·rename_i h1
  rw [if_neg h1] at hu
  split at hx
  ·rename_i h2
   rw [if_pos h2] at hu
   exact hR2 _ x u hx hu
  ·rename_i h2
   rw [if_neg h2] at hu
   exact hR _ x u hx hu
theorem fW {R : P1 → Value → Prop} {cs ds : List P1} {us vs : List Value} (hl : us.length = cs.length) (hR : ∀ (j : Nat) (d : P1) (u : Value),cs[j]? = some d → us[j]? = some u → R d u)
  (hl2 : vs.length = ds.length) (hR2 : ∀ (j : Nat) (d : P1) (u : Value),ds[j]? = some d → vs[j]? = some u → R d u) (o n : Nat) :
  (us.take o ++ vs ++ us.drop (o + n)).length = (cs.take o ++ ds ++ cs.drop (o + n)).length ∧
  ∀ (j : Nat) (d : P1) (u : Value),(cs.take o ++ ds ++ cs.drop (o + n))[j]? = some d → (us.take o ++ vs ++ us.drop (o + n))[j]? = some u → R d u := by
 refine ⟨by simp [hl,hl2],fun j x u hx hu => ?_⟩
 simp only [List.append_assoc,List.getElem?_append,List.length_take,List.getElem?_take,List.getElem?_drop] at hx hu
 rw [hl,hl2] at hu
 split at hx
 ·rename_i h1
  rw [if_pos h1] at hu
  split at hx
  ·rename_i h2
   rw [if_pos h2] at hu
   exact hR j x u hx hu
  ·cases hx
 ·rename_i h1
  rw [if_neg h1] at hu
  split at hx
  ·rename_i h2
   rw [if_pos h2] at hu
   exact hR2 _ x u hx hu
  ·rename_i h2
   rw [if_neg h2] at hu
   exact hR _ x u hx hu
theorem gW {α : Type} {us cur vs : List α} {off k : Nat} (e : us = cur.take us.length) (hv : vs.length = k) (h : off + k ≤ us.length) :
  (cur.take off ++ vs ++ cur.drop (off + k)).take us.length = us.take off ++ vs ++ us.drop (off + k) := by
 have hc : cur = us ++ cur.drop us.length := by
  conv => lhs; rw [← List.take_append_drop us.length cur]
  rw [← e]
 generalize cur.drop us.length = rest at hc
 subst hc
 rw [show (us ++ rest).take off = us.take off from List.take_append_of_le_length (by omega),show (us ++ rest).drop (off + k) = us.drop (off + k) ++ rest from List.drop_append_of_le_length (by omega),← List.append_assoc]
 exact List.take_left' (by simp [hv]; omega)
theorem oQ {cs : List P1} {us : List Value} (hl : us.length = cs.length) (h : ∀ (j : Nat) (x : P1) (u : Value),cs[j]? = some x → us[j]? = some u → R1 w C x u) : ∀ u ∈ us,u.oneCell' = true := by
 intro u hu
 obtain ⟨j,hj,rfl⟩ := List.getElem_of_mem hu
 exact (h j _ _ (List.getElem?_eq_getElem (by omega)) (List.getElem?_eq_getElem hj)).one
/-- Own slice j is put into another state. -/
theorem Rel.setVec (r : Rel X σ a w γ C) {j : Nat} {V V' : Vc} (hV : σ.vecs[j]? = some (some V)) {v : Value} (hv : γ.vv[j]? = some v) {w' : World} (hg : w.grownBy w' v.ownBlock) (us : List Value)
  (hown : w'.ownsRow 0 V'.e V'.sz v V'.n us) (hl : us.length = V'.xs.length) (hR : ∀ (i : Nat) (x : P1) (u : Value),V'.xs[i]? = some x → us[i]? = some u → R1 w C x u) :
  Rel X (σ.setVec j V') a w' γ C := by
 obtain ⟨v0,us0,q1,q2,q3,q4,q5⟩ := r.vc j V hV
 rw [hv] at q1
 injection q1 with q1
 subst q1
 have hh : ∀ g,g < w.heap.size → v.ownBlock ≠ some g → w'.heap[g]? = w.heap[g]? := fun g h hne => hg.block g h (Ne.symm hne)
 have k : Kp C C w w' := ⟨fun _ h => h,fun g h => hh g (r.cc g h).2.1 (fun e => (q5 g e).2.1 h)⟩
 refine ⟨r.sz,fun t d h => (r.sl t d h).keep k (GhLe.refl _),r.bl,?_,r.bn,r.bge,by simp [St.setVec,r.vl],?_,?_,?_,?_,?_,r.bp⟩
 ·intro bx x hx
  obtain ⟨g,vs,h1,h2,h3,h4⟩ := r.bx bx x hx
  refine ⟨g,vs,h1,?_,h3,fun j d u hd hu => ⟨(h4 j d u hd hu).1.keep k (GhLe.refl _),(h4 j d u hd hu).2⟩⟩
  rw [hh g (Array.getElem?_eq_some_iff.1 h2).1 (fun e => (q5 g e).1 (List.mem_of_getElem? h1))]
  exact h2
 ·intro i U hU
  simp only [St.setVec,List.getElem?_set] at hU
  split at hU
  ·rename_i he
   subst he
   split at hU
   ·injection hU with hU
    injection hU with hU
    subst hU
    exact ⟨v,us,hv,hown,hl,fun i x u hx hu => (hR i x u hx hu).keep k,q5⟩
   ·cases hU
  ·rename_i hne
   obtain ⟨vi,vs,h1,h2,h3,h4,h5⟩ := r.vc i U hU
   refine ⟨vi,vs,h1,h2.kept hg ?_,h3,fun i x u hx hu => (h4 i x u hx hu).keep k,h5⟩
   cases hvi : vi.ownBlock with
   | none => exact .inl rfl
   | some g => exact .inr fun e => r.vd i j U V vi v g (Ne.symm hne) hU hV h1 hv hvi e.symm
 ·intro p q Vp Vq vp vq g hpq hp hq hvp hvq hgp
  have live : ∀ (i : Nat) (U : Vc),(σ.setVec j V').vecs[i]? = some (some U) → ∃ U',σ.vecs[i]? = some (some U') := by
   intro i U hU
   simp only [St.setVec,List.getElem?_set] at hU
   split at hU
   ·rename_i he; subst he; exact ⟨V,hV⟩
   ·exact ⟨U,hU⟩
  obtain ⟨Up,hp'⟩ := live p Vp hp
  obtain ⟨Uq,hq'⟩ := live q Vq hq
  exact r.vd p q Up Uq vp vq g hpq hp' hq' hvp hvq hgp
 ·exact r.gr.grow hg (fun g e _ => (q5 g e).2.2)
 ·intro g h
  exact ⟨(r.cc g h).1,Nat.lt_of_lt_of_le (r.cc g h).2.1 hg.size,(r.cc g h).2.2⟩
 ·obtain ⟨O,hO⟩ := r.fr
  refine ⟨O,hO.keep hg.size (fun _ h => h) (fun g h => k.h g h) (fun g hlt h => hh g hlt fun e => h (.inr (.inr ⟨j,V,v,hV,hv,e⟩))) fun g _ h => ?_⟩
  rcases h with h | h | ⟨i,U,u,h1,h2,h3⟩
  ·exact .inl h
  ·exact .inr (.inl h)
  ·simp only [St.setVec,List.getElem?_set] at h1
   split at h1
   ·rename_i he
    subst he
    exact .inr (.inr ⟨j,V,u,hV,h2,h3⟩)
   ·exact .inr (.inr ⟨i,U,u,h1,h2,h3⟩)
theorem mBA (hb : b.Ok X.P) (r : Rel X σ a w γ C) (dst : Option Tmp) (t ty : TypeId) (ad x : Operand) (pos : String) (after : Array Edge) (guard : Option (Nat × Bool)) {σ' : St}
  (h : fop b σ dst (.store t ad x) = some σ') : bY X a ⟨dst,.store t ad x,ty,pos,after,guard⟩ w false σ' := by
 simp only [fop,iC] at h
 split at h
 ·rename_i i bx off hT had
  split at h
  ·rename_i y cs hy hcs
   split at h
   ·rename_i hc
    obtain ⟨hc1,hc2,hlv⟩ := hc
    injection h with h
    subst h
    have hi := hb.t t i hT
    have hra := lE r ad
    rw [had] at hra
    generalize hu : a.eval ad = u at hra
    cases hra with | ptr _ _ g hg =>
    obtain ⟨vs,k1,k2,k3⟩ := nQ r (lE r x) hcs hlv
    obtain ⟨g',us,h1,h2,h3,h4⟩ := r.bx bx y hy
    rw [hg] at h1
    injection h1 with h1
    subst h1
    have hone : ∀ u ∈ vs,u.oneCell' = true := by
     intro u hu
     obtain ⟨j,hj,rfl⟩ := List.getElem_of_mem hu
     exact (k3 j _ _ (List.getElem?_eq_getElem (by omega)) (List.getElem?_eq_getElem hj)).2
    have hrun := aO (w := w) hi g off y.ty us vs (a.eval x) k1 (by rw [k2,hc1]) h2 (by rw [h3]; exact hc2) hone
    obtain ⟨s1,s2⟩ := cY (R := fun d u => RD w C γ d u ∧ u.oneCell' = true) h3 h4 k2 k3 off i.size
    refine ⟨.skip,undef,w.setRow g (us.take off ++ vs ++ us.drop (off + i.size)).toArray,?_,.inr ⟨rfl,rfl⟩,(fun h => by cases h),?_⟩
    ·simp only [execOp,hu]
     simp only [Sem.run_bind,Instr.storeAt,Instr.sureAddr,Sem.run_pure,Result.andThen_ok,hrun]
    ·exact ⟨_,_,(r.setBox hy hg _ _ s1 s2).put dst .any undef (.any _)⟩
   ·cases h
  ·cases h
 ·rename_i i j off hT had
  split at h
  ·rename_i V cs hV hcs
   split at h
   ·rename_i hc
    obtain ⟨hc1,hc2⟩ := hc
    injection h with h
    subst h
    have hi := hb.t t i hT
    have hra := lE r ad
    rw [had] at hra
    generalize hu : a.eval ad = u at hra
    cases hra with | vpt _ _ g n c hg =>
    obtain ⟨vs,k1,k2,k3⟩ := nT (lE r x) hcs
    obtain ⟨v,us,h1,h2,h3,h4,h5⟩ := r.vc j V hV
    rw [hg] at h1
    injection h1 with h1
    subst h1
    have hone := oQ k2 k3
    rcases h2.2 with ⟨hq,_⟩ | ⟨g',cap,cur,hq,hbg,hheap,hnc,hcm,hcs',htake⟩
    ·simp at hq
    ·simp only [Value.slice.injEq,Option.some.injEq,Addr.mk.injEq,Zs,Zt] at hq
     obtain ⟨rfl,hnn,hcc⟩ := hq
     have hcurl : us.length ≤ cur.toList.length := by rw [← htake]; simp; omega
     have hrun := aO (w := w) hi g off V.e cur.toList vs (a.eval x) k1 (by rw [k2,hc1]) (by simpa using hheap) (by omega) hone
     obtain ⟨s1,s2⟩ := fW (R := fun d u => R1 w C d u) h3 h4 k2 k3 off i.size
     have hgr : w.grownBy (w.setRow g (cur.toList.take off ++ vs ++ cur.toList.drop (off + i.size)).toArray) (some g) := ⟨rfl,rfl,rfl,by simp,fun k _ hk => setRow_other w g k _ (fun e => hk (by rw [e]))⟩
     refine ⟨.skip,undef,w.setRow g (cur.toList.take off ++ vs ++ cur.toList.drop (off + i.size)).toArray,?_,.inr ⟨rfl,rfl⟩,(fun h => by cases h),?_⟩
     ·simp only [execOp,hu]
      simp only [Sem.run_bind,Instr.storeAt,Instr.sureAddr,Sem.run_pure,Result.andThen_ok,hrun]
     ·have hul : us.length = V.n * V.sz := h2.1
      have r1 := r.setVec (V' := { V with xs := V.xs.take off ++ cs ++ V.xs.drop (off + i.size) }) hV hg hgr (us.take off ++ vs ++ us.drop (off + i.size)) (by
       refine ⟨by simp [k2,hc1]; omega,.inr ⟨g,cap,_,by simp [hnn,hcc],hbg,setRow_heap w g _ _ _ _ hheap,hnc,hcm,?_,?_⟩⟩
       ·simp only [List.size_toArray,List.length_append,List.length_take,List.length_drop,Array.length_toList,k2,hc1]
        have : cur.toList.length = cap * V.sz := by simpa using hcs'
        simp only [Array.length_toList] at hcurl this
        omega
       ·rw [← hul]
        have e1 : us = cur.toList.take us.length := by rw [hul]; exact htake.symm
        exact gW e1 (by rw [k2,hc1]) (by omega)) s1 s2
      exact ⟨_,_,r1.put dst .any undef (.any _)⟩
   ·cases h
  ·cases h
 ·cases h
end
end Go.Proofs.Ytldcoekbgfaomaa
end
section
namespace Go.Proofs.Ytldcoekbgfaomaa
open Go.RowKit
open Classical
section
variable {X : Cx} {b : Tb} {σ : St} {a : Act} {w : World} {γ : Gh} {C : Nat → Prop}
theorem aP {P : Program} (base : Nat) (t ty e : TypeId) (i : TypeInfo) (size : Nat) (ht : P.underlying t = some (.slice e)) (hi : P.info? e = some i)
  (v : Value) (n : Nat) (xs : List Value) (hown : w.ownsRow base e size v n xs) (c : Nat) : (Builtin.append_ #[t,t] ty #[v,.slice none 0 c]).run P w = .ok v w := by
 rcases hown.2 with ⟨rfl,rfl⟩ | ⟨g,cap,cur,rfl,_,_,hnc,_⟩
 ·simp [Builtin.append_,run_underlying ht,sizeOf,typeInfo,hi,Builtin.lenOf,Builtin.firstCells]
 ·simp [Builtin.append_,run_underlying ht,sizeOf,typeInfo,hi,Builtin.lenOf,Builtin.firstCells,hnc,storeCells]
theorem sT {w' : World} {j : Nat} {v' : Value} (k : Kp C C w w') {d : D} {u : Value} (h : RD w C γ d u) : RD w' C { γ with vv := γ.vv.set j v' } (d.demote j) u := by
 have hle : ∀ i v,i ≠ j → γ.vv[i]? = some v → (γ.vv.set j v')[i]? = some v := fun i v hne h => by rw [List.getElem?_set_ne (Ne.symm hne)]; exact h
 cases h with
 | any => exact .any _
 | aggd ds us hl h1 h => exact .any _
 | p x u h => exact .p _ _ (h.keep k)
 | agg xs us hl h => exact .agg xs us hl fun j x u hx hu => (h j x u hx hu).keep k
 | tup ds us hl h => exact .tup ds us hl fun j x u hx hu => (h j x u hx hu).keep k
 | nil => exact .nil
 | ptr b off g h => exact .ptr b off g h
 | ept xs off g o us hg hl hcell h =>
  exact .ept xs off g o us (k.c g hg) hl (fun j u hu => (World.cell?_of_block (k.h g hg)).trans (hcell j u hu)) fun j x u hx hu => (h j x u hx hu).keep k
 | vref i v h =>
  simp only [D.demote]
  split
  ·exact .any _
  ·rename_i hne; exact .vref i _ (hle i _ hne h)
 | vpt i off g n c h =>
  simp only [D.demote]
  split
  ·exact .any _
  ·rename_i hne; exact .vpt i off g n c (hle i _ hne h)
 | fn f bs us hl h => exact .fn f bs us hl h
 | bsl b off n k g c h hn hc => exact .bsl b off n k g c h hn hc
/-- Own slice j has been appended to. -/
theorem Rel.appendedA (r : Rel X σ a w γ C) {j : Nat} {V V' : Vc} (hV : σ.vecs[j]? = some (some V)) {v v' : Value} (hv : γ.vv[j]? = some v) {w' : World} (hg : w.grownBy w' v.ownBlock) (us : List Value)
  (hown : w'.ownsRow 0 V'.e V'.sz v' V'.n us) (hl : us.length = V'.xs.length) (hR : ∀ (i : Nat) (x : P1) (u : Value),V'.xs[i]? = some x → us[i]? = some u → R1 w C x u)
  (hat : ∀ g,v'.ownBlock = some g → v.ownBlock = some g ∨ w.heap.size ≤ g) :
  Rel X ((σ.demote j).setVec j V') a w' { γ with vv := γ.vv.set j v' } C := by
 obtain ⟨v0,us0,q1,q2,q3,q4,q5⟩ := r.vc j V hV
 rw [hv] at q1
 injection q1 with q1
 subst q1
 have hh : ∀ g,g < w.heap.size → v.ownBlock ≠ some g → w'.heap[g]? = w.heap[g]? := fun g h hne => hg.block g h (Ne.symm hne)
 have k : Kp C C w w' := ⟨fun _ h => h,fun g h => hh g (r.cc g h).2.1 (fun e => (q5 g e).2.1 h)⟩
 have hjl : j < γ.vv.length := (List.getElem?_eq_some_iff.1 hv).1
 have hblk : ∀ g,v'.ownBlock = some g → g ∉ γ.bl ∧ (¬ C g ∧ X.Z g) ∧ ∀ (i : Nat) (U : Vc) (u : Value),i ≠ j → σ.vecs[i]? = some (some U) → γ.vv[i]? = some u → u.ownBlock ≠ some g := by
  intro g hgv
  rcases hat g hgv with hgv | h
  ·exact ⟨(q5 g hgv).1,⟨(q5 g hgv).2.1,(q5 g hgv).2.2⟩,fun i U u hij hU hu hug => r.vd i j U V u v g hij hU hV hu hv hug hgv⟩
  ·refine ⟨fun hm => by have := r.bl_lt hm; omega,⟨fun hc => by have := (r.cc g hc).2.1; omega,X.zn _ (Nat.le_trans r.size_le h)⟩,fun i U u _ hU hu hug => ?_⟩
   obtain ⟨u',us',e1,e2,_⟩ := r.vc i U hU
   rw [hu] at e1
   injection e1 with e1
   subst e1
   have := (e2.lt _ hug).2
   omega
 refine ⟨by simp [St.setVec,St.demote,r.sz],?_,by simp [St.setVec,St.demote,r.bl],?_,r.bn,r.bge,by simp [St.setVec,St.demote,r.vl],?_,?_,?_,?_,?_,⟨by simpa [St.setVec,St.demote] using r.bp.1,r.bp.2⟩⟩
 ·intro t d h
  simp only [St.setVec,St.demote,List.getElem?_map] at h
  obtain ⟨d0,hd0,rfl⟩ := Option.map_eq_some_iff.1 h
  exact sT k (r.sl t d0 hd0)
 ·intro bx x hx
  simp only [St.setVec,St.demote,List.getElem?_map] at hx
  obtain ⟨x0,hx0,rfl⟩ := Option.map_eq_some_iff.1 hx
  obtain ⟨g,vs,h1,h2,h3,h4⟩ := r.bx bx x0 hx0
  refine ⟨g,vs,h1,?_,by simpa using h3,fun q d u hd hu => ?_⟩
  ·rw [hh g (Array.getElem?_eq_some_iff.1 h2).1 (fun e => (q5 g e).1 (List.mem_of_getElem? h1))]
   exact h2
  ·simp only [List.getElem?_map] at hd
   obtain ⟨d0,hd0,rfl⟩ := Option.map_eq_some_iff.1 hd
   exact ⟨sT k (h4 q d0 u hd0 hu).1,(h4 q d0 u hd0 hu).2⟩
 ·intro i U hU
  simp only [St.setVec,St.demote,List.getElem?_set] at hU
  split at hU
  ·rename_i he
   subst he
   split at hU
   ·injection hU with hU
    injection hU with hU
    subst hU
    exact ⟨v',us,by simp [hjl],hown,hl,fun i x u hx hu => (hR i x u hx hu).keep k,fun g hgv => ⟨(hblk g hgv).1,(hblk g hgv).2.1.1,(hblk g hgv).2.1.2⟩⟩
   ·cases hU
  ·rename_i hne
   obtain ⟨vi,vs,h1,h2,h3,h4,h5⟩ := r.vc i U hU
   refine ⟨vi,vs,by rw [List.getElem?_set_ne hne]; exact h1,h2.kept hg ?_,h3,fun i x u hx hu => (h4 i x u hx hu).keep k,h5⟩
   cases hvi : vi.ownBlock with
   | none => exact .inl rfl
   | some g => exact .inr fun e => r.vd i j U V vi v g (Ne.symm hne) hU hV h1 hv hvi e.symm
 ·intro p q Vp Vq vp vq g hpq hp hq hvp hvq hgp
  have live : ∀ (i : Nat) (U : Vc),i ≠ j → ((σ.demote j).setVec j V').vecs[i]? = some (some U) → σ.vecs[i]? = some (some U) := by
   intro i U hne hU
   simp only [St.setVec,St.demote,List.getElem?_set_ne (Ne.symm hne)] at hU
   exact hU
  by_cases hpj : p = j
  ·subst hpj
   simp only [List.getElem?_set_self hjl,Option.some.injEq] at hvp
   subst hvp
   simp only [List.getElem?_set_ne hpq] at hvq
   exact (hblk g hgp).2.2 q Vq vq (Ne.symm hpq) (live q Vq (Ne.symm hpq) hq) hvq
  ·simp only [List.getElem?_set_ne (Ne.symm hpj)] at hvp
   by_cases hqj : q = j
   ·subst hqj
    simp only [List.getElem?_set_self hjl,Option.some.injEq] at hvq
    subst hvq
    intro hgq
    exact (hblk g hgq).2.2 p Vp vp hpj (live p Vp hpj hp) hvp hgp
   ·simp only [List.getElem?_set_ne (Ne.symm hqj)] at hvq
    exact r.vd p q Vp Vq vp vq g hpq (live p Vp hpj hp) (live q Vq hqj hq) hvp hvq hgp
 ·exact r.gr.grow hg (fun g e _ => (q5 g e).2.2)
 ·intro g h
  exact ⟨(r.cc g h).1,Nat.lt_of_lt_of_le (r.cc g h).2.1 hg.size,(r.cc g h).2.2⟩
 ·obtain ⟨O,hO⟩ := r.fr
  refine ⟨O,hO.keep hg.size (fun _ h => h) (fun g h => k.h g h) (fun g hlt h => hh g hlt fun e => h (.inr (.inr ⟨j,V,v,hV,hv,e⟩))) fun g hlt h => ?_⟩
  rcases h with h | h | ⟨i,U,u,h1,h2,h3⟩
  ·exact .inl h
  ·exact .inr (.inl h)
  ·by_cases hij : i = j
   ·subst hij
    simp only [List.getElem?_set_self hjl,Option.some.injEq] at h2
    subst h2
    rcases hat g h3 with hat | hat
    ·exact .inr (.inr ⟨i,V,v,hV,hv,hat⟩)
    ·omega
   ·simp only [St.setVec,St.demote,List.getElem?_set_ne (Ne.symm hij)] at h1
    simp only [List.getElem?_set_ne (Ne.symm hij)] at h2
    exact .inr (.inr ⟨i,U,u,h1,h2,h3⟩)
theorem Rel.appended (r : Rel X σ a w γ C) {j : Nat} {V V' : Vc} (hV : σ.vecs[j]? = some (some V)) {v v' : Value} (hv : γ.vv[j]? = some v) {w' : World} (hg : w.grownBy w' v.ownBlock) (us : List Value)
  (hown : w'.ownsRow 0 V'.e V'.sz v' V'.n us) (hl : us.length = V'.xs.length) (hR : ∀ (i : Nat) (x : P1) (u : Value),V'.xs[i]? = some x → us[i]? = some u → R1 w C x u)
  (hat : v'.ownBlock = v.ownBlock ∨ v'.ownBlock = some w.heap.size) :
  Rel X ((σ.demote j).setVec j V') a w' { γ with vv := γ.vv.set j v' } C :=
 r.appendedA hV hv hg us hown hl hR fun g hgv => by
  rcases hat with h | h
  ·exact .inl (h ▸ hgv)
  ·rw [h] at hgv
   injection hgv with hgv
   exact .inr (Nat.le_of_eq hgv)
theorem gZ (hb : b.Ok X.P) (r : Rel X σ a w γ C) (dst : Option Tmp) (t ty e : TypeId) {i : TI} (hT : b.T t = some i) (hund : i.und = .slice e) {j : Nat} {src : D} {σ' : St} (h : cG b σ dst j e src = some σ')
  {v u : Value} (hv : γ.vv[j]? = some v) (hu : RD w C γ src u) :
  ∃ v' w',(Builtin.append_ #[t,t] ty #[v,u]).run X.P w = .ok v' w' ∧ Sat X σ' (a.put dst v') w' := by
 unfold cG at h
 split at h
 ·rename_i V m ys te hV hsrc he
  split at h
  ·rename_i hc
   obtain ⟨c1,c2,c3,c4,c5,c6⟩ := hc
   injection h with h
   subst h
   have hi := hb.t t i hT
   have hte := hb.t e te he
   obtain ⟨f,f1,f2,f3,f4⟩ := hte.info
   have ht : X.P.underlying t = some (.slice e) := by rw [hi.und,hund]
   obtain ⟨v0,us,q1,q2,q3,q4,q5⟩ := r.vc j V hV
   rw [hv] at q1
   injection q1 with q1
   subst q1
   rw [c1,c2] at q2
   have hr1 := wL hu hsrc
   have hlen : V.n + m ≤ 140737488355328 := Nat.le_trans (Nat.le_mul_of_pos_right _ c4) c6
   have hjl : j < γ.vv.length := (List.getElem?_eq_some_iff.1 hv).1
   have fin : ∀ (v' : Value) (w' : World) (news : List Value),w.grownBy w' v.ownBlock → w'.ownsRow 0 e te.size v' (V.n + m) (us ++ news) → news.length = ys.length →
     (∀ (i : Nat) (x : P1) (u : Value),ys[i]? = some x → news[i]? = some u → R1 w C x u) → (v'.ownBlock = v.ownBlock ∨ v'.ownBlock = some w.heap.size) →
     Sat X (((σ.demote j).setVec j { V with n := V.n + m,xs := V.xs ++ ys }).put dst (.vref j)) (a.put dst v') w' := by
    intro v' w' news hg hown hnl hnR hat
    have r1 := r.appended (V' := { V with n := V.n + m,xs := V.xs ++ ys }) hV hv hg (us ++ news) (by simp only [c1,c2]; exact hown) (by simp [q3,hnl]) (by
     intro i x u hx hu
     simp only [List.getElem?_append] at hx hu
     rw [q3] at hu
     split at hx
     ·rename_i hlt; rw [if_pos hlt] at hu; exact q4 i x u hx hu
     ·rename_i hlt; rw [if_neg hlt] at hu; exact hnR _ x u hx hu) hat
    exact ⟨_,_,r1.put dst (.vref j) v' (.vref _ _ (by simp [hjl]))⟩
   cases hr1 with
   | nil A c =>
    cases A with
    | none =>
     refine ⟨v,w,aP 0 t ty e f te.size ht f1 v V.n us q2 c,?_⟩
     exact fin v w [] ⟨rfl,rfl,rfl,Nat.le_refl _,fun _ _ _ => rfl⟩ (by simpa using q2) rfl (fun i x u hx => by simp at hx) (.inl rfl)
    | some ad =>
     obtain ⟨v',w',hrun,h2,h3,_,h5⟩ := run_append_own_at (P := X.P) w 0 t ty e f te.zero te.size te.bytes ht f1 f2 f3 f4 hte.zsz c3 v V.n us q2 ad 0 c [] (by simp) (by simp) (by simp) (by simp only [maxLen]; omega) (by simpa using c6) (Nat.zero_le _)
     exact ⟨v',w',hrun,fin v' w' [] h3 h2 rfl (fun i x u hx => by simp at hx) h5⟩
   | sl n g o c xs vs hn hcm hg hl hcell hR =>
    obtain ⟨v',w',hrun,h2,h3,_,h5⟩ := run_append_own_at (P := X.P) w 0 t ty e f te.zero te.size te.bytes ht f1 f2 f3 f4 hte.zsz c3 v V.n us q2 ⟨g,o,none⟩ m c vs (by rw [hl]; exact c5)
     (fun j u hu => by rw [oH]; exact hcell j u hu) (oQ hl hR) (by simp only [maxLen]; omega) c6 (Nat.zero_le _)
    exact ⟨v',w',hrun,fin v' w' vs h3 h2 hl hR h5⟩
  ·cases h
 ·cases h
theorem gAA (hb : b.Ok X.P) (r : Rel X σ a w γ C) (dst : Option Tmp) (c : Call) (ty : TypeId) (pos : String) (after : Array Edge) (guard : Option (Nat × Bool)) {σ' : St}
  (h : fop b σ dst (.call c) = some σ') : bY X a ⟨dst,.call c,ty,pos,after,guard⟩ w false σ' := by
 simp only [fop] at h
 split at h
 ·rename_i t t' s x hcal hat hargs
  split at h
  ·rename_i htt
   subst htt
   have e1 : c.argTypes = #[t',t'] := by apply Array.ext'; simpa using hat
   have e2 : c.args.map a.eval = #[a.eval s,a.eval x] := by apply Array.ext'; simp [hargs]
   unfold nD at h
   split at h
   ·rename_i i hT
    split at h
    ·rename_i e hund
     split at h
     ·rename_i j hs
      have hr := lE r s
      rw [hs] at hr
      generalize hu : a.eval s = v at hr
      cases hr with | vref _ _ hv =>
      obtain ⟨v',w',hrun,hsat⟩ := gZ hb r dst t' ty e hT hund h hv (lE r x)
      refine ⟨.value v',v',w',?_,.inl rfl,(fun h => by cases h),hsat⟩
      simp only [execOp,vH hcal,builtin,e1,e2,hu]
      exact xJ hrun
     ·rename_i hs
      split at h
      ·rename_i te he
       have hr := lE r s
       rw [hs] at hr
       generalize hu : a.eval s = v at hr
       cases hr
       have r1 := r.addVec ⟨e,te.size,0,[]⟩ (.slice none 0 0) [] (World.ownsRow_nil _ _ _ _) rfl (fun i x u hx => by simp at hx) (fun g hg => by simp [Value.ownBlock] at hg) (fun j U u g _ _ hg => by simp [Value.ownBlock] at hg) (by obtain ⟨O,h⟩ := r.fr; exact ⟨O,h,fun g hg => by simp [Value.ownBlock] at hg⟩)
       have hle : GhLe γ { γ with vv := γ.vv ++ [.slice none 0 0] } := ⟨fun _ _ h => h,fun _ _ h => uE h⟩
       have hx1 : RD w C { γ with vv := γ.vv ++ [.slice none 0 0] } (σ.ev x) (a.eval x) := (lE r x).keep (Kp.refl _ _) hle
       obtain ⟨v',w',hrun,hsat⟩ := gZ hb r1 dst t' ty e hT hund h (by rw [← r.vl]; exact pE) hx1
       refine ⟨.value v',v',w',?_,.inl rfl,(fun h => by cases h),hsat⟩
       simp only [execOp,vH hcal,builtin,e1,e2,hu]
       exact xJ hrun
      ·cases h
     ·cases h
    ·cases h
   ·cases h
  ·cases h
 ·cases h
/-- **What the table says an operation does,it does.** -/
theorem nBA (hb : b.Ok X.P) (r : Rel X σ a w γ C) {o : Oper} {σ' : St} (h : fop b σ o.dst o.op = some σ') : bY X a o w (Op.growsB o.op) σ' := by
 obtain ⟨dst,op,ty,pos,after,guard⟩ := o
 simp only at h ⊢
 have h0 := h
 unfold fop at h
 split at h
 ·exact lBA hb r dst _ ty pos after guard h0
 ·exact iGA r dst _ ty _ pos after guard h0
 ·exact bT hb r dst _ ty _ _ pos after guard h0
 ·exact rU hb r dst _ ty _ _ pos after guard h0
 ·exact mBA hb r dst _ ty _ _ pos after guard h0
 ·rename_i c
  split at h
  ·rename_i hcal _ _
   have : Op.growsB (.call c) = false := by simp [Op.growsB,hcal]
   rw [this]
   exact gAA hb r dst c ty pos after guard h0
  ·cases h
 ·cases h
end
end Go.Proofs.Ytldcoekbgfaomaa
end
section
namespace Go.Proofs.Ytldcoekbgfaomaa
open Go.RowKit
open Classical
structure Wide (F : Fence) : Prop where
 fn : ∀ f,F.fn f
 depth : F.depth = none
 alive : F.alive = false
def Ent (P : Program) (f : FuncId) : Prop := ∃ fn,P.funcs[f]? = some fn ∧ fn.body.isNone = false ∧ (fn.name == "runtime.NumGoroutine") = false
def RVs (w : World) (C : Nat → Prop) (ds : List PV) (vs : List Value) : Prop :=
 vs.length = ds.length ∧ ∀ (j : Nat) (d : PV) (u : Value),ds[j]? = some d → vs[j]? = some u → RV w C d u
/-- **Called with pure data ds the function returns the pure value r,and turns nothing that was there.** -/
structure ACalls (P : Program) (f : FuncId) (ds : List PV) (r : D) : Prop where
 en : Ent P f
 h : ∀ (F : Fence) (n : Nat) (C : Nat → Prop) (w : World) (vs : List Value),Wide F → F.round = none → (∀ g,C g → g < w.heap.size) → RVs w C ds vs →
  CallsIn F n P f vs.toArray w fun e w' => ∃ v,e = .returned v ∧ RD w' (fun g => C g ∨ (w.heap.size ≤ g ∧ g < w'.heap.size)) ⟨[],[]⟩ r v ∧ w.grownBy w' none
/-- The blocks that a call leaves: those that came in,those that are new but for the result's own. -/
def pEA (C : Nat → Prop) (w w' : World) (v : Value) (g : Nat) : Prop := C g ∨ ((w.heap.size ≤ g ∧ g < w'.heap.size) ∧ v.ownBlock ≠ some g)
/-- **Called with pure data ds the function returns a new slice V that nobody else holds,and turns nothing that was there.** -/
structure ACallsO (P : Program) (f : FuncId) (ds : List PV) (V : Vc) : Prop where
 en : Ent P f
 h : ∀ (F : Fence) (n : Nat) (C : Nat → Prop) (w : World) (vs : List Value),Wide F → F.round = none → (∀ g,C g → g < w.heap.size) → RVs w C ds vs →
  CallsIn F n P f vs.toArray w fun e w' => ∃ v us,e = .returned v ∧ w'.ownsRow w.heap.size V.e V.sz v V.n us ∧ us.length = V.xs.length ∧
   (∀ (i : Nat) (x : P1) (u : Value),V.xs[i]? = some x → us[i]? = some u → R1 w' (pEA C w w' v) x u) ∧ w.grownBy w' none
/-- Called with an own slice and a function,the function puts other cells into the slice,and turns nothing else that was there. -/
structure ACallsS (P : Program) (f g : FuncId) (e : TypeId) (sz n : Nat) (xs xs' : List P1) : Prop where
 en : Ent P f
 h : ∀ (F : Fence) (k : Nat) (C : Nat → Prop) (w : World) (v : Value) (us : List Value),Wide F → w.ownsRow 0 e sz v n us → us.length = xs.length →
  (∀ (i : Nat) (x : P1) (u : Value),xs[i]? = some x → us[i]? = some u → R1 w C x u) →
  CallsIn F k P f #[v,.func (.func g) #[] #[]] w fun ed w' => (∃ r,ed = .returned r) ∧ w.grownBy w' v.ownBlock ∧ ∃ us',w'.ownsRow 0 e sz v n us' ∧ us'.length = xs'.length ∧
   ∀ (i : Nat) (x : P1) (u : Value),xs'[i]? = some x → us'[i]? = some u → R1 w C x u
/-- The cells of a variable that somebody lends. -/
structure Lent (w : World) (C : Nat → Prop) (g : Nat) (ty : TypeId) (cs : List P1) (us : List Value) : Prop where
 hp : w.heap[g]? = some (.cells us.toArray ty (0,0))
 ln : us.length = cs.length
 rl : ∀ (j : Nat) (x : P1) (u : Value),cs[j]? = some x → us[j]? = some u → R1 w C x u
 nc : ¬ C g
/-- **Called with the address of a variable of cells cs,and pure data ds,the function returns the pure value r,and turns nothing that was there.** -/
structure ACallsR (P : Program) (f : FuncId) (ty : TypeId) (cs : List P1) (ds : List PV) (r : D) : Prop where
 en : Ent P f
 h : ∀ (F : Fence) (n : Nat) (C : Nat → Prop) (w : World) (g : Nat) (us vs : List Value),Wide F → F.round = none → (∀ g,C g → g < w.heap.size) → Lent w C g ty cs us → RVs w C ds vs →
  CallsIn F n P f (Value.pointer (some ⟨g,0,none⟩) :: vs).toArray w fun e w' => ∃ v,e = .returned v ∧ RD w' (fun k => C k ∨ (w.heap.size ≤ k ∧ k < w'.heap.size)) ⟨[],[]⟩ r v ∧ w.grownBy w' none
/-- **.. and leaves the cells cs' in it; it turns nothing else that was there.** -/
structure ACallsM (P : Program) (f : FuncId) (ty : TypeId) (cs cs' : List P1) (ds : List PV) (r : D) : Prop where
 en : Ent P f
 h : ∀ (F : Fence) (n : Nat) (C : Nat → Prop) (w : World) (g : Nat) (us vs : List Value),Wide F → F.round = none → (∀ g,C g → g < w.heap.size) → Lent w C g ty cs us → RVs w C ds vs →
  CallsIn F n P f (Value.pointer (some ⟨g,0,none⟩) :: vs).toArray w fun e w' => ∃ v us',e = .returned v ∧ Lent w' (fun k => C k ∨ (w.heap.size ≤ k ∧ k < w'.heap.size)) g ty cs' us' ∧
   RD w' (fun k => C k ∨ (w.heap.size ≤ k ∧ k < w'.heap.size)) ⟨[],[]⟩ r v ∧ w.grownBy w' (some g)
/-- **Called with an own slice V and pure data ds the function returns an own slice V',and turns nothing but V.** -/
structure ACallsV (P : Program) (f : FuncId) (V V' : Vc) (ds : List PV) : Prop where
 en : Ent P f
 h : ∀ (F : Fence) (n : Nat) (C : Nat → Prop) (w : World) (v : Value) (us vs : List Value),Wide F → F.round = none → (∀ g,C g → g < w.heap.size) → w.ownsRow 0 V.e V.sz v V.n us → us.length = V.xs.length →
  (∀ (i : Nat) (x : P1) (u : Value),V.xs[i]? = some x → us[i]? = some u → R1 w C x u) → (∀ g,v.ownBlock = some g → ¬ C g) → RVs w C ds vs →
  CallsIn F n P f (v :: vs).toArray w fun e w' => ∃ v' us',e = .returned v' ∧ w'.ownsRow 0 V'.e V'.sz v' V'.n us' ∧ us'.length = V'.xs.length ∧
   (∀ (i : Nat) (x : P1) (u : Value),V'.xs[i]? = some x → us'[i]? = some u → R1 w' (fun _ => True) x u) ∧ (∀ g,v'.ownBlock = some g → v.ownBlock = some g ∨ w.heap.size ≤ g) ∧ w.grownBy w' v.ownBlock
def D.pv? : D → Option PV
 | .p x => some (.p x)
 | .agg xs => some (.agg xs)
 | .nil => some (.p (.sl 0 []))
 | .fn f [] => some (.p (.v (.func (.func f) #[] #[])))
 | _ => none
def uA : List D → Option (List PV)
 | [] => some []
 | d :: ds => match d.pv?,uA ds with
  | some x,some xs => some (x :: xs)
  | _,_ => none
/-- A call of a Go function with pure arguments. -/
def aA (σ : St) : Op → Option (FuncId × List PV)
 | .call c => match c.callee with
  | .value f => match σ.ev f,uA (c.args.toList.map σ.ev) with
   | .fn g [],some ds => some (g,ds)
   | .p (.v (.func (.func g) bound caps)),some ds => if bound = #[] ∧ caps = #[] then some (g,ds) else none
   | _,_ => none
  | _ => none
 | _ => none
noncomputable def AOp (P : Program) (b : Tb) (o : Oper) (σ : St) (K : St → Prop) : Prop :=
 match aA σ o.op with
 | some (f,ds) => (∃ r,ACalls P f ds r ∧ K (σ.put o.dst r)) ∨ ∃ V,ACallsO P f ds V ∧ K ((σ.addVec V).put o.dst (.vref σ.vecs.length))
 | none => match qop b σ o.op with
  | some d => K (σ.put o.dst d)
  | none => match fop b σ o.dst o.op with
   | some σ' => K σ'
   | none => False
/-- What the captured variables hold. -/
def pD (σ : St) : List Nat → Option (List P1)
 | [] => some []
 | b :: bs => match σ.boxes[b]? with
  | some ⟨_,[d]⟩ => match d.pure?,pD σ bs with
   | some x,some xs => some (x :: xs)
   | _,_ => none
  | _ => none
/-- A function value over variables as data. -/
def D.pvC? (σ : St) : D → Option PV
 | .fn f bs => (pD σ bs).map fun xs => .p (.clo f xs)
 | .bsl b off n k => match σ.boxes[b]? with
  | some x => (eA x.cells).map fun xs => .p (.sl n ((xs.drop off).take k))
  | none => none
 | d => d.pv?
def zM (σ : St) : List D → Option (List PV)
 | [] => some []
 | d :: ds => match d.pvC? σ,zM σ ds with
  | some x,some xs => some (x :: xs)
  | _,_ => none
/-- nil taken by its letter. -/
def D.pvN? : D → Option PV
 | .nil => some (.p (.v (.slice none 0 0)))
 | d => d.pv?
def aN : List D → Option (List PV)
 | [] => some []
 | d :: ds => match d.pvN?,aN ds with
  | some x,some xs => some (x :: xs)
  | _,_ => none
/-- Data in which no byte lies. -/
inductive NoU8 : P1 → Prop
 | v (x : Value) (h : ∀ n,x ≠ .int .u8 n) : NoU8 (.v x)
 | sl (n : Nat) (xs : List P1) (h : ∀ x ∈ xs,NoU8 x) (h0 : xs = [] → n = 0) : NoU8 (.sl n xs)
inductive PV.No : PV → Prop
 | p (x : P1) (h : NoU8 x) : PV.No (.p x)
 | agg (xs : List P1) (h : ∀ x ∈ xs,NoU8 x) : PV.No (.agg xs)
inductive D.No : D → Prop
 | p (x : P1) (h : NoU8 x) : D.No (.p x)
 | agg (xs : List P1) (h : ∀ x ∈ xs,NoU8 x) : D.No (.agg xs)
 | tup (ds : List PV) (h : ∀ d ∈ ds,PV.No d) : D.No (.tup ds)
def D.pvL? (σ : St) : D → Option PV
 | .bsl b off n k => match σ.boxes[b]? with
  | some x => (eA x.cells).map fun xs => .p (.sl n ((xs.drop off).take k))
  | none => none
 | d => d.pv?
def bN (σ : St) : List D → Option (List PV)
 | [] => some []
 | d :: ds => match d.pvL? σ,bN σ ds with
  | some x,some xs => some (x :: xs)
  | _,_ => none
def vM : List D → List Nat
 | [] => []
 | .bsl b _ _ _ :: ds => b :: vM ds
 | _ :: ds => vM ds
/-- Cells as pure data; an own slice is taken by its letter. -/
def PUp : List D → List P1 → Prop
 | [],[] => True
 | d :: ds,x :: xs => (d.pure? = some x ∨ ∃ j A n c,d = .vref j ∧ x = .v (.slice A n c)) ∧ PUp ds xs
 | _,_ => False
def D.cellR (σ : St) : D → Bool
 | .vref j => match σ.vecs[j]? with
  | some (some _) => true
  | _ => false
 | d => d.pure?.isSome
/-- Variables of bytes alone. -/
def yP (σ : St) (bs : List Nat) : Prop := ∀ b ∈ bs,∃ x,σ.boxes[b]? = some x ∧ ∀ d ∈ x.cells,∃ n,d = .p (.v (.int .u8 n))
/-- A call that gets slices of own variables of bytes,and hands back data without bytes. -/
inductive AOpL (P : Program) (o : Oper) (σ : St) (K : St → Prop) : Prop
 | l (c : Call) (fo : Operand) (f : FuncId) (ds : List PV) (r : D) (ho : o.op = .call c) (hc : c.callee = .value fo) (hf : σ.ev fo = .fn f [])
   (ha : bN σ (c.args.toList.map σ.ev) = some ds) (hu : yP σ (vM (c.args.toList.map σ.ev))) (hr : ACalls P f ds r) (hno : r.No) (hk : K (σ.put o.dst r))
 | r (c : Call) (fo : Operand) (f : FuncId) (x : Operand) (xs : List Operand) (b : Nat) (ty : TypeId) (cells : List D) (ds : List PV) (r : D) (ho : o.op = .call c) (hc : c.callee = .value fo) (hf : σ.ev fo = .fn f [])
   (ha : c.args.toList = x :: xs) (hx : σ.ev x = .ptr b 0) (hb : σ.boxes[b]? = some ⟨ty,cells⟩) (hcs : cells.all (D.cellR σ) = true) (hv : uA (xs.map σ.ev) = some ds) (hr : ∀ cs,PUp cells cs → ACallsR P f ty cs ds r) (hk : K (σ.put o.dst r))
/-- The calls of another kind: yield; a call that gets function values over own variables and hands back a plain value; a call that gets nil. -/
inductive AOpX (P : Program) (o : Oper) (σ : St) (K : St → Prop) : Prop
 | l (h : AOpL P o σ K)
 | y (c : Call) (fo : Operand) (l : Nat) (d : PV) (ys : List PV) (k : Nat) (ho : o.op = .call c) (hc : c.callee = .value fo) (hf : σ.ev fo = .p (.v (.func (.yield l) #[] #[])))
   (ha : uA (c.args.toList.map σ.ev) = some [d]) (hm : σ.df = [.yld l ys k]) (hy : ys[k]? = some d) (hk : K (St.put { σ with df := [.yld l ys (k + 1)] } o.dst (.p (.v (.bool true)))))
 | c (c : Call) (fo : Operand) (f : FuncId) (ds : List PV) (x : Value) (ho : o.op = .call c) (hc : c.callee = .value fo) (hf : σ.ev fo = .fn f [])
   (ha : zM σ (c.args.toList.map σ.ev) = some ds) (hr : ACalls P f ds (.p (.v x))) (hk : K (σ.put o.dst (.p (.v x))))
 | s (c : Call) (fo : Operand) (f g : FuncId) (j : Nat) (V : Vc) (xs' : List P1) (ho : o.op = .call c) (hc : c.callee = .value fo) (hf : σ.ev fo = .fn f [])
   (ha : c.args.toList.map σ.ev = [.vref j,.fn g []]) (hV : σ.vecs[j]? = some (some V)) (hr : ACallsS P f g V.e V.sz V.n V.xs xs') (hk : K ((σ.setVec j { V with xs := xs' }).put o.dst .any))
 | n (c : Call) (fo : Operand) (f : FuncId) (ds : List PV) (r : D) (ho : o.op = .call c) (hc : c.callee = .value fo) (hf : σ.ev fo = .fn f [])
   (ha : aN (c.args.toList.map σ.ev) = some ds) (hr : ACalls P f ds r) (hk : K (σ.put o.dst r))
 | no (c : Call) (fo : Operand) (f : FuncId) (ds : List PV) (V : Vc) (ho : o.op = .call c) (hc : c.callee = .value fo) (hf : σ.ev fo = .fn f [])
   (ha : aN (c.args.toList.map σ.ev) = some ds) (hr : ACallsO P f ds V) (hk : K ((σ.addVec V).put o.dst (.vref σ.vecs.length)))
 | m (c : Call) (fo : Operand) (f : FuncId) (x : Operand) (xs : List Operand) (b : Nat) (ty : TypeId) (cells : List D) (cs cs' : List P1) (ds : List PV) (r : D) (ho : o.op = .call c) (hc : c.callee = .value fo) (hf : σ.ev fo = .fn f [])
   (ha : c.args.toList = x :: xs) (hx : σ.ev x = .ptr b 0) (hb : σ.boxes[b]? = some ⟨ty,cells⟩) (hcs : eA cells = some cs) (hv : uA (xs.map σ.ev) = some ds) (hr : ACallsM P f ty cs cs' ds r)
   (hk : K (St.put { σ with boxes := σ.boxes.set b ⟨ty,cs'.map .p⟩ } o.dst r))
 | v (c : Call) (fo : Operand) (f : FuncId) (x : Operand) (xs : List Operand) (j : Nat) (V V' : Vc) (ds : List PV) (ho : o.op = .call c) (hc : c.callee = .value fo) (hf : σ.ev fo = .fn f [])
   (ha : c.args.toList = x :: xs) (hx : σ.ev x = .vref j) (hV : σ.vecs[j]? = some (some V)) (hv : uA (xs.map σ.ev) = some ds) (hr : ACallsV P f V V' ds) (hp : ∀ y ∈ V'.xs,∃ u,y = .v u)
   (hk : K (((σ.demote j).setVec j V').put o.dst (.vref j)))
/-- Is the operation carried out? -/
def gd (σ : St) (ops : Array Oper) (o : Oper) : Option Bool :=
 match o.guard with
 | none => some true
 | some (j,want) => match (ops[j]?).bind (·.dst) with
  | some t => match σ.slots.getD t .any with
   | .p (.v (.bool x)) => some (x == want)
   | .tup [] => some false
   | _ => none
  | none => none
noncomputable def kE (P : Program) (b : Tb) (ops : Array Oper) : List Nat → St → (St → Prop) → Prop
 | [],σ,K => K σ
 | i :: rest,σ,K => match ops[i]? with
  | none => False
  | some o => match gd σ ops o with
   | some true => AOp P b o σ (fun σ' => kE P b ops rest σ' K) ∨ AOpX P o σ (fun σ' => kE P b ops rest σ' K)
   | some false => kE P b ops rest (σ.put o.dst (.tup [])) K
   | none => False
section
variable {X : Cx} {b : Tb} {σ : St} {a : Act} {w : World} {γ : Gh} {C : Nat → Prop}
theorem zP {d : D} {p : PV} {u : Value} (hp : d.pv? = some p) (h : RD w C γ d u) : RV w C p u := by
 cases h <;> simp [D.pv?] at hp
 ·subst hp; exact .p _ _ (by assumption)
 ·subst hp; exact .agg _ _ (by assumption) (by assumption)
 ·subst hp; exact .p _ _ (.nil _ _)
 ·rename_i f bs us hl hR
  cases bs with
  | nil =>
   simp at hp
   subst hp
   have : us = [] := List.eq_nil_of_length_eq_zero (by simpa using hl)
   subst this
   exact .p _ _ (.v _ rfl)
  | cons b bs => simp at hp
theorem vK : ∀ {ds : List D} {ps : List PV} {us : List Value},uA ds = some ps → us.length = ds.length → (∀ (j : Nat) (d : D) (u : Value),ds[j]? = some d → us[j]? = some u → RD w C γ d u) → RVs w C ps us
 | [],ps,us,hp,hl,h => by
  simp only [uA,Option.some.injEq] at hp
  subst hp
  exact ⟨by simpa using hl,fun j d u hd => by simp at hd⟩
 | d :: ds,ps,us,hp,hl,h => by
  simp only [uA] at hp
  split at hp
  ·rename_i x xs h1 h2
   injection hp with hp
   subst hp
   cases us with
   | nil => simp at hl
   | cons u us =>
    obtain ⟨i1,i2⟩ := vK h2 (us := us) (by simpa using hl) (fun j d v hd hv => h (j + 1) d v (by simpa using hd) (by simpa using hv))
    refine ⟨by simp [i1],fun j y v hy hv => ?_⟩
    cases j with
    | zero => simp at hy hv; subst hy; subst hv; exact zP h1 (h 0 d u rfl rfl)
    | succ j => exact i2 j y v (by simpa using hy) (by simpa using hv)
  ·cases hp
theorem yE {F : Fence} {o : Oper} (h : ∀ c,o.op ≠ .defer c) : o.semAt F.round a.eval = execOp a.eval o := Oper.semAt_eq _ _ _ h
theorem lR : RD w C γ (.tup []) undef := .tup [] [] rfl (fun j d u h => by simp at h)
theorem oBA (r : Rel X σ a w γ C) {ops : Array Oper} {o : Oper} {t : Bool} (h : gd σ ops o = some t) : Region.wanted o (yielded ops a.tmps) = t := by
 unfold gd at h
 split at h
 ·rename_i hg
  injection h with h
  subst h
  simp [Region.wanted,hg]
 ·rename_i j want hg
  split at h
  ·rename_i tt ht
   split at h
   ·rename_i x hx
    injection h with h
    subst h
    have hr := lE r (.tmp tt)
    simp only [St.ev,hx] at hr
    have hv := tN hr
    simp only [Act.eval] at hv
    have hlt : tt < a.tmps.size := by
     rcases Nat.lt_or_ge tt a.tmps.size with h1 | h1
     ·exact h1
     ·rw [Array.getD_eq_getD_getElem?,Array.getElem?_eq_none h1] at hv
      simp [undef] at hv
    have h2 : a.tmps[tt]? = some (.bool x) := by
     rw [Array.getElem?_eq_getElem hlt]
     rw [Array.getD_eq_getD_getElem?,Array.getElem?_eq_getElem hlt] at hv
     simpa using hv
    simp [Region.wanted,hg,yielded,ht,h2]
   ·rename_i hx
    injection h with h
    subst h
    have hr := lE r (.tmp tt)
    simp only [St.ev,hx] at hr
    simp only [Act.eval] at hr
    have hv : a.tmps.getD tt undef = undef := by
     generalize a.tmps.getD tt undef = u at hr
     cases hr with
     | tup _ us hl _ =>
      have : us = [] := List.eq_nil_of_length_eq_zero (by simpa using hl)
      subst this
      rfl
    have h2 : a.tmps[tt]? = none ∨ a.tmps[tt]? = some undef := by
     rcases Nat.lt_or_ge tt a.tmps.size with h1 | h1
     ·right
      rw [Array.getElem?_eq_getElem h1]
      rw [Array.getD_eq_getD_getElem?,Array.getElem?_eq_getElem h1] at hv
      simpa using hv
     ·left
      exact Array.getElem?_eq_none h1
    rcases h2 with h2 | h2 <;> simp [Region.wanted,hg,yielded,ht,h2,undef]
   ·cases h
  ·cases h
theorem oG {c : Call} {f : Operand} {g : FuncId} (hc : c.callee = .value f) (hf : a.eval f = .func (.func g) #[] #[]) {P : Program} (en : Ent P g) (dst : Option Tmp) (ty : TypeId) (pos : String) (after : Array Edge) (guard : Option (Nat × Bool)) (W : World) :
  (execOp a.eval ⟨dst,.call c,ty,pos,after,guard⟩).run P W = .ok (.enter g (c.args.map a.eval)) W := by
 obtain ⟨fn,h1,h2,h3⟩ := en
 have h4 : ¬ fn.name = "runtime.NumGoroutine" := by simpa using h3
 have h5 : ¬ fn.body = none := by intro h; rw [h] at h2; cases h2
 simp only [execOp,resolve,hc,hf,Deferred.ofValue,pure_bind,invoke,callFunc]
 simp [h1,h4,h5]
theorem ACalls.any {P : Program} {f : FuncId} {ds : List PV} {r : D} (h : ACalls P f ds r) {F : Fence} (hF : Wide F) (n : Nat) (C : Nat → Prop) (w : World) (vs : List Value) (hC : ∀ g,C g → g < w.heap.size) (hv : RVs w C ds vs) :
  CallsIn F n P f vs.toArray w fun e w' => ∃ v,e = .returned v ∧ RD w' (fun g => C g ∨ (w.heap.size ≤ g ∧ g < w'.heap.size)) ⟨[],[]⟩ r v ∧ w.grownBy w' none :=
 h.h F.plain n C w vs ⟨hF.fn,hF.depth,hF.alive⟩ rfl hC hv
theorem tT (r : Rel X σ a w γ C) {op : Op} {f : FuncId} {ds : List PV} (h : aA σ op = some (f,ds)) :
  ∃ c fo,op = .call c ∧ c.callee = .value fo ∧ a.eval fo = .func (.func f) #[] #[] ∧ RVs w C ds (c.args.toList.map a.eval) := by
 unfold aA at h
 split at h
 ·rename_i c
  split at h
  ·rename_i fo hc
   split at h
   ·rename_i g ds' hf hds
    injection h with h
    injection h with h1 h2
    subst h1
    subst h2
    have hr := lE r fo
    rw [hf] at hr
    generalize hu : a.eval fo = u at hr
    cases hr with | fn _ _ us hl _ =>
    have : us = [] := List.eq_nil_of_length_eq_zero (by simpa using hl)
    subst this
    refine ⟨c,fo,rfl,hc,by rw [hu],vK (γ := γ) hds (by simp) (fun j d u hd hu => ?_)⟩
    simp only [List.getElem?_map] at hd hu
    cases hj : c.args.toList[j]? with
    | none => rw [hj] at hd; simp at hd
    | some y =>
     rw [hj] at hd hu
     simp only [Zg,Option.some.injEq] at hd hu
     subst hd
     subst hu
     exact lE r y
   ·rename_i g bound caps ds' hf hds
    split at h
    ·rename_i hbc
     obtain ⟨rfl,rfl⟩ := hbc
     injection h with h
     injection h with h1 h2
     subst h1
     subst h2
     have hr := lE r fo
     rw [hf] at hr
     have hu := xX hr
     refine ⟨c,fo,rfl,hc,hu,vK (γ := γ) hds (by simp) (fun j d u hd hu => ?_)⟩
     simp only [List.getElem?_map] at hd hu
     cases hj : c.args.toList[j]? with
     | none => rw [hj] at hd; simp at hd
     | some y =>
      rw [hj] at hd hu
      simp only [Zg,Option.some.injEq] at hd hu
      subst hd
      subst hu
      exact lE r y
    ·cases h
   ·cases h
  ·cases h
 ·cases h
theorem GhLe.empty (γ : Gh) : GhLe ⟨[],[]⟩ γ := ⟨fun b g h => by simp at h,fun j v h => by simp at h⟩
/-- What is shown of a call. -/
theorem sK (r : Rel X σ a w γ C) (dst : Option Tmp) {rr : D} {v : Value} {w' : World} (hr : RD w' (fun g => C g ∨ (w.heap.size ≤ g ∧ g < w'.heap.size)) ⟨[],[]⟩ rr v) (hg : w.grownBy w' none) :
  Sat X (σ.put dst rr) (a.put dst v) w' := by
 have r1 := r.grow hg (fun g => w.heap.size ≤ g ∧ g < w'.heap.size) (fun g h => h)
 exact ⟨_,_,r1.put dst rr v (hr.keep (Kp.refl _ _) (GhLe.empty γ))⟩
theorem ACallsO.any {P : Program} {f : FuncId} {ds : List PV} {V : Vc} (h : ACallsO P f ds V) {F : Fence} (hF : Wide F) (n : Nat) (C : Nat → Prop) (w : World) (vs : List Value) (hC : ∀ g,C g → g < w.heap.size) (hv : RVs w C ds vs) :
  CallsIn F n P f vs.toArray w fun e w' => ∃ v us,e = .returned v ∧ w'.ownsRow w.heap.size V.e V.sz v V.n us ∧ us.length = V.xs.length ∧
   (∀ (i : Nat) (x : P1) (u : Value),V.xs[i]? = some x → us[i]? = some u → R1 w' (pEA C w w' v) x u) ∧ w.grownBy w' none :=
 h.h F.plain n C w vs ⟨hF.fn,hF.depth,hF.alive⟩ rfl hC hv
theorem lO (r : Rel X σ a w γ C) (dst : Option Tmp) {V : Vc} {v : Value} {us : List Value} {w' : World} (ho : w'.ownsRow w.heap.size V.e V.sz v V.n us) (hl : us.length = V.xs.length)
  (hR : ∀ (i : Nat) (x : P1) (u : Value),V.xs[i]? = some x → us[i]? = some u → R1 w' (pEA C w w' v) x u) (hg : w.grownBy w' none) :
  Sat X ((σ.addVec V).put dst (.vref σ.vecs.length)) (a.put dst v) w' := by
 have r1 := r.grow hg (fun g => (w.heap.size ≤ g ∧ g < w'.heap.size) ∧ v.ownBlock ≠ some g) (fun g h => h.1)
 have hnb : ∀ g,v.ownBlock = some g → g ∉ γ.bl ∧ ¬ (C g ∨ ((w.heap.size ≤ g ∧ g < w'.heap.size) ∧ v.ownBlock ≠ some g)) := by
  intro g hgv
  have hge := (oI ho hgv).1
  refine ⟨fun hm => ?_,fun hc => ?_⟩
  ·have := r.bl_lt hm
   omega
  ·rcases hc with hc | hc
   ·have := (r.cc g hc).2.1
    omega
   ·exact hc.2 hgv
 have r2 := r1.addVec V v us (qT ho r.size_le) hl hR hnb (by
  intro j U u g hU hu hgv hug
  obtain ⟨u',us',h1,h2,_⟩ := r.vc j U hU
  rw [h1] at hu
  injection hu with hu
  subst hu
  have h3 := (oI h2 hug).2
  have h4 := (oI ho hgv).1
  omega) (by
  obtain ⟨O,h1,h2⟩ := r.growFr hg (fun g => (w.heap.size ≤ g ∧ g < w'.heap.size) ∧ v.ownBlock ≠ some g) (fun g h => h.1.1)
  exact ⟨O,h1,fun g hgv h => absurd (h2 g h) (by have := (oI ho hgv).1; omega)⟩)
 refine ⟨_,_,r2.put dst _ _ (.vref _ _ ?_)⟩
 show (γ.vv ++ [_])[σ.vecs.length]? = _
 rw [← r.vl]
 exact pE
theorem vJ {op : Op} {d : D} (h : qop b σ op = some d) : ∀ c,op ≠ .defer c := by rintro c rfl; simp [qop] at h
theorem bO {dst : Option Tmp} {op : Op} {d : St} (h : fop b σ dst op = some d) : ∀ c,op ≠ .defer c := by rintro c rfl; simp [fop] at h
/-- One operation,as the walk has it. -/
theorem jGA (hX : Wide X.F) (hb : b.Ok X.P) {o : Oper} {K : St → Prop} (h : AOp X.P b o σ K) (hs : Sat X σ a w) {Q : Exit → Act → World → Prop} {N : Act → World → Prop} (hN : ∀ σ' a' w',K σ' → Sat X σ' a' w' → N a' w') :
  o.wpIn X.F X.n X.P a w N Q := by
 obtain ⟨γ,C,r⟩ := hs
 refine ⟨fun f _ => hX.fn f,?_⟩
 unfold AOp at h
 split at h
 ·rename_i f ds hcall
  obtain ⟨c,fo,hop,hc,hf,hv⟩ := tT r hcall
  obtain ⟨dst,op,ty,pos,after,guard⟩ := o
  simp only at hop h
  subst hop
  have e : (c.args.toList.map a.eval).toArray = c.args.map a.eval := by apply Array.ext'; simp
  rcases h with ⟨rr,hac,hK⟩ | ⟨V,hac,hK⟩
  ·rw [yE (by intro c h; cases h),oG hc hf hac.en]
   refine ⟨fun hd => by simp [hX.depth] at hd,?_⟩
   have := hac.any hX (X.n - 1) C w _ (fun g hg => (r.cc g hg).2.1) hv
   rw [e] at this
   refine this.mono fun e w' he => ?_
   obtain ⟨v,rfl,hr,hg⟩ := he
   exact hN _ _ _ hK (sK r dst hr hg)
  ·rw [yE (by intro c h; cases h),oG hc hf hac.en]
   refine ⟨fun hd => by simp [hX.depth] at hd,?_⟩
   have := hac.any hX (X.n - 1) C w _ (fun g hg => (r.cc g hg).2.1) hv
   rw [e] at this
   refine this.mono fun e w' he => ?_
   obtain ⟨v,us,rfl,h1,h2,h3,h4⟩ := he
   exact hN _ _ _ hK (lO r dst h1 h2 h3 h4)
 ·split at h
  ·rename_i d hq
   obtain ⟨v,hv,hy⟩ := qU hb r hq
   rw [yE (vJ hq),hy w (fun _ => Agree.refl w)]
   exact hN _ _ _ h ⟨γ,C,r.put o.dst d v hv⟩
  ·split at h
   ·rename_i σ' hf
    obtain ⟨nx,v,w',hrun,hnx,_,hsat⟩ := nBA hb r hf
    rw [yE (bO hf),hrun]
    rcases hnx with rfl | ⟨rfl,rfl⟩
    ·exact hN _ _ _ h hsat
    ·exact hN _ _ _ h hsat
   ·exact h.elim
theorem pQ (r : Rel X σ a w γ C) : ∀ {bs : List Nat} {xs : List P1} {us : List Value},pD σ bs = some xs → us.length = bs.length →
  (∀ (j b : Nat) (u : Value),bs[j]? = some b → us[j]? = some u → ∃ g,γ.bl[b]? = some g ∧ u = .pointer (some ⟨g,0,none⟩)) →
  ∃ (gs : List Nat) (vs : List Value),us = gs.map (fun g => Value.pointer (some ⟨g,0,none⟩)) ∧ gs.length = xs.length ∧ vs.length = xs.length ∧ (∀ g ∈ gs,g ∈ γ.bl) ∧
   (∀ (j g : Nat) (v : Value),gs[j]? = some g → vs[j]? = some v → w.cell? ⟨g,0,none⟩ = some v) ∧ ∀ (j : Nat) (x : P1) (v : Value),xs[j]? = some x → vs[j]? = some v → R1 w C x v
 | [],xs,us,h,hl,hu => by
  simp only [pD,Option.some.injEq] at h
  subst h
  have : us = [] := List.eq_nil_of_length_eq_zero (by simpa using hl)
  subst this
  exact ⟨[],[],rfl,rfl,rfl,fun g h => by simp at h,fun j g v h => by simp at h,fun j x v h => by simp at h⟩
 | b :: bs,xs,us,h,hl,hu => by
  cases us with
  | nil => simp at hl
  | cons u us =>
  simp only [pD] at h
  split at h
  ·rename_i ty d hb
   split at h
   ·rename_i x xs' hx hxs
    injection h with h
    subst h
    obtain ⟨gs,vs,i1,i2,i3,i4,i5,i6⟩ := pQ r hxs (by simpa using hl) (fun j b u hb hu' => hu (j + 1) b u (by simpa using hb) (by simpa using hu'))
    obtain ⟨g,hg,rfl⟩ := hu 0 b u rfl rfl
    obtain ⟨g',ws,h1,h2,h3,h4⟩ := r.bx b _ hb
    rw [hg] at h1
    injection h1 with h1
    subst h1
    cases ws with
    | nil => simp at h3
    | cons v ws =>
    have hd := (h4 0 d v rfl rfl).1
    refine ⟨g :: gs,v :: vs,by simp [i1],by simp [i2],by simp [i3],?_,?_,?_⟩
    ·intro g' hg'
     rcases List.mem_cons.1 hg' with rfl | hg'
     ·exact List.mem_of_getElem? hg
     ·exact i4 g' hg'
    ·intro j g' v' hg' hv'
     cases j with
     | zero =>
      simp at hg' hv'
      subst hg'
      subst hv'
      rw [cell_of_row _ _ _ _ _ _ h2]
      simp
     | succ j => exact i5 j g' v' (by simpa using hg') (by simpa using hv')
    ·intro j y v' hy hv'
     cases j with
     | zero =>
      simp at hy hv'
      subst hy
      subst hv'
      exact wL hd hx
     | succ j => exact i6 j y v' (by simpa using hy) (by simpa using hv')
   ·cases h
  ·cases h
theorem dL : ∀ (cs : List D) (xs : List P1) (us : List Value),eA cs = some xs → us.length = cs.length → (∀ (j : Nat) (d : D) (u : Value),cs[j]? = some d → us[j]? = some u → RD w C γ d u ∧ u.oneCell' = true) →
  us.length = xs.length ∧ ∀ (j : Nat) (x : P1) (u : Value),xs[j]? = some x → us[j]? = some u → R1 w C x u
 | [],xs,us,h,hl,_ => by
  simp only [eA,Option.some.injEq] at h
  subst h
  exact ⟨by simpa using hl,fun j x u hx => by simp at hx⟩
 | c :: cs,xs,us,h,hl,hR => by
  cases us with
  | nil => simp at hl
  | cons u us =>
  simp only [eA] at h
  split at h
  ·rename_i x xs' q1 q2
   injection h with h
   subst h
   obtain ⟨e1,e2⟩ := dL cs xs' us q2 (by simpa using hl) (fun j d u hd hu => hR (j + 1) d u (by simpa using hd) (by simpa using hu))
   refine ⟨by simp [e1],fun j y v hy hv => ?_⟩
   cases j with
   | zero => simp at hy hv; subst hy; subst hv; exact wL (hR 0 c u rfl rfl).1 q1
   | succ j => exact e2 j y v (by simpa using hy) (by simpa using hv)
  ·cases h
/-- A slice of an own variable,read while nobody writes it. -/
theorem pBA (r : Rel X σ a w γ C) {b off n k g c : Nat} {x : Bx} {xs : List P1} (hx : σ.boxes[b]? = some x) (hxs : eA x.cells = some xs) (hg : γ.bl[b]? = some g) (hn : n ≤ c) (hc : c ≤ maxLen) :
  RV w (fun g' => C g' ∨ g' = g) (.p (.sl n ((xs.drop off).take k))) (.slice (some ⟨g,off,none⟩) n c) := by
 have kk : Kp C (fun g' => C g' ∨ g' = g) w w := ⟨fun _ h => .inl h,fun _ _ => rfl⟩
 obtain ⟨g',us,h1,h2,h3,h4⟩ := r.bx b x hx
 rw [hg] at h1
 injection h1 with h1
 subst h1
 obtain ⟨e1,e2⟩ := dL x.cells xs us hxs h3 h4
 obtain ⟨s1,s2⟩ := eR e1 e2 off k
 refine .p _ _ (.sl n g off c _ ((us.drop off).take k) hn hc (.inr rfl) s1 (fun j u hu => ?_) fun j x u hx hu => (s2 j x u hx hu).keep kk)
 rw [cell_of_row _ _ _ _ _ _ h2]
 rw [List.getElem?_take] at hu
 split at hu
 ·rw [List.getElem?_drop] at hu
  simpa using hu
 ·cases hu
theorem iZ (r : Rel X σ a w γ C) {d : D} {p : PV} {u : Value} (hp : d.pvC? σ = some p) (h : RD w C γ d u) : RV w (fun g => C g ∨ g ∈ γ.bl) p u := by
 have k : Kp C (fun g => C g ∨ g ∈ γ.bl) w w := ⟨fun _ h => .inl h,fun _ _ => rfl⟩
 have gen : d.pv? = some p → RV w (fun g => C g ∨ g ∈ γ.bl) p u := fun hp => (zP hp h).keep k
 cases h with
 | fn f bs us hl hR =>
  simp only [D.pvC?] at hp
  obtain ⟨xs,hxs,rfl⟩ := Option.map_eq_some_iff.1 hp
  obtain ⟨gs,vs,rfl,i2,i3,i4,i5,i6⟩ := pQ r hxs hl hR
  exact .p _ _ (.clo f xs gs vs i2 i3 (fun g hg => .inr (i4 g hg)) i5 fun j x v hx hv => (i6 j x v hx hv).keep k)
 | bsl b off n kk g c hg hn hcm =>
  simp only [D.pvC?] at hp
  split at hp
  ·rename_i x hx
   obtain ⟨xs,hxs,rfl⟩ := Option.map_eq_some_iff.1 hp
   exact (pBA r hx hxs hg hn hcm).keep ⟨fun g' h => h.elim .inl (fun e => by subst e; exact .inr (List.mem_of_getElem? hg)),fun _ _ => rfl⟩
  ·cases hp
 | _ => exact gen hp
theorem uT (r : Rel X σ a w γ C) : ∀ {ds : List D} {ps : List PV} {us : List Value},zM σ ds = some ps → us.length = ds.length → (∀ (j : Nat) (d : D) (u : Value),ds[j]? = some d → us[j]? = some u → RD w C γ d u) → RVs w (fun g => C g ∨ g ∈ γ.bl) ps us
 | [],ps,us,hp,hl,h => by
  simp only [zM,Option.some.injEq] at hp
  subst hp
  exact ⟨by simpa using hl,fun j d u hd => by simp at hd⟩
 | d :: ds,ps,us,hp,hl,h => by
  simp only [zM] at hp
  split at hp
  ·rename_i x xs h1 h2
   injection hp with hp
   subst hp
   cases us with
   | nil => simp at hl
   | cons u us =>
    obtain ⟨i1,i2⟩ := uT r h2 (us := us) (by simpa using hl) (fun j d v hd hv => h (j + 1) d v (by simpa using hd) (by simpa using hv))
    refine ⟨by simp [i1],fun j y v hy hv => ?_⟩
    cases j with
    | zero => simp at hy hv; subst hy; subst hv; exact iZ r h1 (h 0 d u rfl rfl)
    | succ j => exact i2 j y v (by simpa using hy) (by simpa using hv)
  ·cases hp
theorem qEA {d : D} {p : PV} {u : Value} (hp : d.pvN? = some p) (h : RD w C γ d u) : RV w C p u := by
 have gen : d.pv? = some p → RV w C p u := fun hp => zP hp h
 cases h with
 | nil =>
  simp only [D.pvN?,Option.some.injEq] at hp
  subst hp
  exact .p _ _ (.v _ rfl)
 | _ => exact gen hp
theorem aQ : ∀ {ds : List D} {ps : List PV} {us : List Value},aN ds = some ps → us.length = ds.length → (∀ (j : Nat) (d : D) (u : Value),ds[j]? = some d → us[j]? = some u → RD w C γ d u) → RVs w C ps us
 | [],ps,us,hp,hl,h => by
  simp only [aN,Option.some.injEq] at hp
  subst hp
  exact ⟨by simpa using hl,fun j d u hd => by simp at hd⟩
 | d :: ds,ps,us,hp,hl,h => by
  simp only [aN] at hp
  split at hp
  ·rename_i x xs h1 h2
   injection hp with hp
   subst hp
   cases us with
   | nil => simp at hl
   | cons u us =>
    obtain ⟨i1,i2⟩ := aQ h2 (us := us) (by simpa using hl) (fun j d v hd hv => h (j + 1) d v (by simpa using hd) (by simpa using hv))
    refine ⟨by simp [i1],fun j y v hy hv => ?_⟩
    cases j with
    | zero => simp at hy hv; subst hy; subst hv; exact qEA h1 (h 0 d u rfl rfl)
    | succ j => exact i2 j y v (by simpa using hy) (by simpa using hv)
  ·cases hp
theorem bP (r : Rel X σ a w γ C) (c : Call) : ∀ (j : Nat) (d : D) (u : Value),(c.args.toList.map σ.ev)[j]? = some d → (c.args.toList.map a.eval)[j]? = some u → RD w C γ d u := by
 intro j d u hd hu
 simp only [List.getElem?_map] at hd hu
 cases hj : c.args.toList[j]? with
 | none => rw [hj] at hd; simp at hd
 | some y =>
  rw [hj] at hd hu
  simp only [Zg,Option.some.injEq] at hd hu
  subst hd
  subst hu
  exact lE r y
theorem cP (r : Rel X σ a w γ C) {fo : Operand} {f : FuncId} (h : σ.ev fo = .fn f []) : a.eval fo = .func (.func f) #[] #[] := by
 have hr := lE r fo
 rw [h] at hr
 generalize a.eval fo = u at hr
 cases hr with | fn _ _ us hl _ =>
 have : us = [] := List.eq_nil_of_length_eq_zero (by simpa using hl)
 subst this
 rfl
theorem dY {c : Call} {f : Operand} {l : Nat} (hc : c.callee = .value f) (hf : a.eval f = .func (.yield l) #[] #[]) {P : Program} (dst : Option Tmp) (ty : TypeId) (pos : String) (after : Array Edge) (guard : Option (Nat × Bool)) (W : World) :
  (execOp a.eval ⟨dst,.call c,ty,pos,after,guard⟩).run P W = (Instr.yield l (c.args.map a.eval)).run P W := by
 simp only [execOp,resolve,hc,hf,Deferred.ofValue,pure_bind,invoke]
 simp
/-- An item has come: the state behind the call of yield. -/
theorem Rel.yielded (r : Rel X σ a w γ C) {l : Nat} {ys : List PV} {k : Nat} {m : List Mk} (hm : σ.df = .yld l ys k :: m) {O O' : Nat → Prop} {w' : World} (hO : Apart X σ.df a.defers w γ σ.vecs C O)
  (h1 : ∀ g,O g → O' g) (h2 : ∀ g,O' g → O g ∨ (w.heap.size ≤ g ∧ g < w'.heap.size)) (hJ : X.J (.yld l ys (k + 1) :: m) O' C w') (hg : GrZ w w' O)
  (hd : DfOk w' O' m a.defers) : Rel X { σ with df := .yld l ys (k + 1) :: m } a w' γ C := by
 have hh : ∀ g,Held γ σ.vecs C g → w'.heap[g]? = w.heap[g]? := fun g h => hg.block g (Held.lt r h) fun ho => (hO.2.2 g ho).2.2 h
 refine r.move (ds' := a.defers) hg.size hh (fun _ h => h) (fun g h => ?_) ?_ (fun g h => ⟨(r.cc g h).1,Nat.lt_of_lt_of_le (r.cc g h).2.1 hg.size,fun hb => ?_⟩) ⟨O',hJ,hd,fun g h => ?_⟩ ?_
 ·rcases h with h | h | ⟨j,V,v,q1,q2,q3⟩
  ·exact h.elim
  ·exact r.bge g h
  ·obtain ⟨v',us,e1,_,_,_,e5⟩ := r.vc j V q1
   rw [q2] at e1
   injection e1 with e1
   subst e1
   exact (e5 g q3).2.2
 ·exact r.gr.trans hg fun g _ h => (hO.2.2 g h).2.1
 ·rcases hb with hb | hb | ⟨j,V,v,q1,q2,q3⟩
  ·exact hb
  ·exact (r.cc g h).2.2 hb
  ·obtain ⟨v',us,e1,_,_,_,e5⟩ := r.vc j V q1
   rw [q2] at e1
   injection e1 with e1
   subst e1
   exact (e5 g q3).2.1 h
 ·rcases h2 g h with h | h
  ·exact ⟨Nat.lt_of_lt_of_le (hO.2.2 g h).1 hg.size,(hO.2.2 g h).2⟩
  ·refine ⟨h.2,X.zn g (Nat.le_trans r.size_le h.1),fun hx => ?_⟩
   have := Held.lt r hx
   omega
 ·have := r.bp
  rw [hm] at this
  exact this
def U8 (w : World) (g : Nat) : Prop := ∀ (o : Nat) (u : Value),w.cell? ⟨g,o,none⟩ = some u → ∃ n,u = .int .u8 n
theorem R1.lend {w : World} {C C' : Nat → Prop} (hC : ∀ g,C g → C' g ∨ U8 w g) {x : P1} {u : Value} (h : R1 w C x u) (hn : NoU8 x) : R1 w C' x u := by
 induction h with
 | v x h => exact .v x h
 | nil A c => exact .nil A c
 | sl n g o c xs us hn1 hc hg hl hcell h ih =>
  cases hn with | sl _ _ h1 h0 =>
  cases xs with
  | nil =>
   rw [h0 rfl]
   exact .nil _ _
  | cons x xs =>
   cases us with
   | nil => simp at hl
   | cons u us =>
   have hx := h 0 x u rfl rfl
   have hnx := h1 x (by simp)
   have hcu := hcell 0 u rfl
   have hg' : C' g := by
    rcases hC g hg with h' | h'
    ·exact h'
    ·obtain ⟨n,rfl⟩ := h' _ _ hcu
     cases hx with
     | v _ _ => cases hnx with | v _ hv => exact absurd rfl (hv n)
   exact .sl n g o c _ _ hn1 hc hg' hl hcell fun j x u hx hu => ih j x u hx hu (h1 x (List.mem_of_getElem? hx))
 | clo => cases hn
theorem RV.lend {w : World} {C C' : Nat → Prop} (hC : ∀ g,C g → C' g ∨ U8 w g) {d : PV} {u : Value} (h : RV w C d u) (hn : d.No) : RV w C' d u := by
 cases h with
 | p x u h => cases hn with | p _ hn => exact .p _ _ (h.lend hC hn)
 | agg xs us hl h => cases hn with | agg _ hn => exact .agg xs us hl fun j x u hx hu => (h j x u hx hu).lend hC (hn x (List.mem_of_getElem? hx))
theorem RD.lend {w : World} {C C' : Nat → Prop} {γ : Gh} (hC : ∀ g,C g → C' g ∨ U8 w g) {d : D} {u : Value} (h : RD w C γ d u) (hn : d.No) : RD w C' γ d u := by
 cases hn with
 | p _ hn => cases h with | p _ _ h => exact .p _ _ (h.lend hC hn)
 | agg _ hn => cases h with | agg _ us hl h => exact .agg _ us hl fun j x u hx hu => (h j x u hx hu).lend hC (hn x (List.mem_of_getElem? hx))
 | tup _ hn => cases h with | tup _ us hl h => exact .tup _ us hl fun j x u hx hu => (h j x u hx hu).lend hC (hn x (List.mem_of_getElem? hx))
theorem rEA (r : Rel X σ a w γ C) {d : D} {p : PV} {u : Value} (hp : d.pvL? σ = some p) (h : RD w C γ d u) : RV w (fun g => C g ∨ ∃ b ∈ vM [d],γ.bl[b]? = some g) p u := by
 have k : Kp C (fun g => C g ∨ ∃ b ∈ vM [d],γ.bl[b]? = some g) w w := ⟨fun _ h => .inl h,fun _ _ => rfl⟩
 have gen : d.pv? = some p → RV w (fun g => C g ∨ ∃ b ∈ vM [d],γ.bl[b]? = some g) p u := fun hp => (zP hp h).keep k
 cases h with
 | bsl b off n kk g c hg hn hcm =>
  simp only [D.pvL?] at hp
  split at hp
  ·rename_i x hx
   obtain ⟨xs,hxs,rfl⟩ := Option.map_eq_some_iff.1 hp
   exact (pBA r hx hxs hg hn hcm).keep ⟨fun g' h => h.elim .inl (fun e => by subst e; exact .inr ⟨b,by simp [vM],hg⟩),fun _ _ => rfl⟩
  ·cases hp
 | _ => exact gen hp
theorem eY (d : D) (ds : List D) : vM (d :: ds) = vM [d] ++ vM ds := by cases d <;> rfl
theorem vT (r : Rel X σ a w γ C) : ∀ {ds : List D} {ps : List PV} {us : List Value},bN σ ds = some ps → us.length = ds.length → (∀ (j : Nat) (d : D) (u : Value),ds[j]? = some d → us[j]? = some u → RD w C γ d u) →
  RVs w (fun g => C g ∨ ∃ b ∈ vM ds,γ.bl[b]? = some g) ps us
 | [],ps,us,hp,hl,h => by
  simp only [bN,Option.some.injEq] at hp
  subst hp
  exact ⟨by simpa using hl,fun j d u hd => by simp at hd⟩
 | d :: ds,ps,us,hp,hl,h => by
  simp only [bN] at hp
  split at hp
  ·rename_i x xs h1 h2
   injection hp with hp
   subst hp
   cases us with
   | nil => simp at hl
   | cons u us =>
    obtain ⟨i1,i2⟩ := vT r h2 (us := us) (by simpa using hl) (fun j d v hd hv => h (j + 1) d v (by simpa using hd) (by simpa using hv))
    refine ⟨by simp [i1],fun j y v hy hv => ?_⟩
    rw [eY]
    cases j with
    | zero =>
     simp at hy hv
     subst hy
     subst hv
     exact (rEA r h1 (h 0 d u rfl rfl)).keep ⟨fun g hg => hg.elim .inl (fun ⟨b,hb,hg⟩ => .inr ⟨b,List.mem_append.2 (.inl hb),hg⟩),fun _ _ => rfl⟩
    | succ j => exact (i2 j y v (by simpa using hy) (by simpa using hv)).keep ⟨fun g hg => hg.elim .inl (fun ⟨b,hb,hg⟩ => .inr ⟨b,List.mem_append.2 (.inr hb),hg⟩),fun _ _ => rfl⟩
  ·cases hp
theorem mR (r : Rel X σ a w γ C) (xs : List Operand) : ∀ (j : Nat) (d : D) (u : Value),(xs.map σ.ev)[j]? = some d → (xs.map a.eval)[j]? = some u → RD w C γ d u := by
 intro j d u hd hu
 rw [List.getElem?_map] at hd hu
 obtain ⟨x,hx,rfl⟩ := Option.map_eq_some_iff.1 hd
 rw [hx] at hu
 injection hu with hu
 subst hu
 exact lE r x
/-- A variable that is lent. -/
theorem sEA (r : Rel X σ a w γ C) {x : Operand} {b : Nat} {ty : TypeId} {cells : List D} {cs : List P1} (hx : σ.ev x = .ptr b 0) (hb : σ.boxes[b]? = some ⟨ty,cells⟩) (hcs : eA cells = some cs) :
  ∃ g us,γ.bl[b]? = some g ∧ Lent w C g ty cs us ∧ a.eval x = .pointer (some ⟨g,0,none⟩) := by
 obtain ⟨g,us,h1,h2,h3,h4⟩ := r.bx b _ hb
 obtain ⟨q1,q2⟩ := dL cells cs us hcs h3 h4
 refine ⟨g,us,h1,⟨h2,q1,q2,fun hc => (r.cc g hc).2.2 (List.mem_of_getElem? h1)⟩,?_⟩
 have hv := lE r x
 rw [hx] at hv
 generalize a.eval x = u at hv
 cases hv with | ptr _ _ g' h => rw [h1] at h; injection h with h; rw [h]
theorem qBA (r : Rel X σ a w γ C) {x : Operand} {b : Nat} {ty : TypeId} {cells : List D} (hx : σ.ev x = .ptr b 0) (hb : σ.boxes[b]? = some ⟨ty,cells⟩) (hcs : cells.all (D.cellR σ) = true) :
  ∃ g us cs,γ.bl[b]? = some g ∧ PUp cells cs ∧ Lent w C g ty cs us ∧ a.eval x = .pointer (some ⟨g,0,none⟩) := by
 obtain ⟨g,us,h1,h2,h3,h4⟩ := r.bx b _ hb
 have key : ∀ (cells : List D) (us : List Value),cells.all (D.cellR σ) = true → us.length = cells.length → (∀ (j : Nat) (d : D) (u : Value),cells[j]? = some d → us[j]? = some u → RD w C γ d u ∧ u.oneCell' = true) →
   ∃ cs,PUp cells cs ∧ us.length = cs.length ∧ ∀ (j : Nat) (x : P1) (u : Value),cs[j]? = some x → us[j]? = some u → R1 w C x u := by
  intro cells
  induction cells with
  | nil =>
   intro us _ hl _
   exact ⟨[],trivial,hl,fun j x u h => by simp at h⟩
  | cons d ds ih =>
   intro us hc hl hR
   cases us with
   | nil => simp at hl
   | cons u us =>
    rw [List.all_cons,Bool.and_eq_true] at hc
    obtain ⟨cs,i1,i2,i3⟩ := ih us hc.2 (by simpa using hl) (fun j d v hd hv => hR (j + 1) d v (by simpa using hd) (by simpa using hv))
    obtain ⟨q1,q2⟩ := hR 0 d u rfl rfl
    have one : ∃ x,(d.pure? = some x ∨ ∃ j A n c,d = .vref j ∧ x = .v (.slice A n c)) ∧ R1 w C x u := by
     by_cases hv : ∃ j,d = .vref j
     ·obtain ⟨j,rfl⟩ := hv
      have hc1 := hc.1
      simp only [D.cellR] at hc1
      split at hc1
      ·rename_i V hV
       cases q1 with | vref _ _ hj =>
       obtain ⟨v',us',e1,e2,_⟩ := r.vc j V hV
       rw [hj] at e1
       injection e1 with e1
       subst e1
       have : ∃ A n c,u = .slice A n c := by
        rcases e2.2 with ⟨e,_⟩ | ⟨g',cap,cur,e,_⟩
        ·exact ⟨_,_,_,e⟩
        ·exact ⟨_,_,_,e⟩
       obtain ⟨A,n,c,rfl⟩ := this
       exact ⟨_,.inr ⟨j,A,n,c,rfl,rfl⟩,.v _ rfl⟩
      ·cases hc1
     ·have hc1 : d.pure?.isSome = true := by
       have := hc.1
       unfold D.cellR at this
       split at this
       ·exact absurd ⟨_,rfl⟩ hv
       ·exact this
      obtain ⟨x,hx⟩ := Option.isSome_iff_exists.1 hc1
      exact ⟨x,.inl hx,wL q1 hx⟩
    obtain ⟨x,p1,p2⟩ := one
    refine ⟨x :: cs,⟨p1,i1⟩,by simp [i2],fun j y v hy hv => ?_⟩
    cases j with
    | zero => simp at hy hv; subst hy; subst hv; exact p2
    | succ j => exact i3 j y v (by simpa using hy) (by simpa using hv)
 obtain ⟨cs,k1,k2,k3⟩ := key cells us hcs h3 h4
 refine ⟨g,us,cs,h1,k1,⟨h2,k2,k3,fun hc => (r.cc g hc).2.2 (List.mem_of_getElem? h1)⟩,?_⟩
 have hv := lE r x
 rw [hx] at hv
 generalize a.eval x = u at hv
 cases hv with | ptr _ _ g' h => rw [h1] at h; injection h with h; rw [h]
/-- A lent variable comes back with other cells. -/
theorem Rel.lend (r : Rel X σ a w γ C) {b g : Nat} {ty : TypeId} {cells : List D} {cs' : List P1} {us' : List Value} {w' : World} (hb : σ.boxes[b]? = some ⟨ty,cells⟩) (hg : γ.bl[b]? = some g) (hgr : w.grownBy w' (some g))
  (hL : Lent w' (fun k => C k ∨ (w.heap.size ≤ k ∧ k < w'.heap.size)) g ty cs' us') : Rel X { σ with boxes := σ.boxes.set b ⟨ty,cs'.map .p⟩ } a w' γ (fun k => C k ∨ (w.heap.size ≤ k ∧ k < w'.heap.size)) := by
 have hgm : g ∈ γ.bl := List.mem_of_getElem? hg
 have hother : ∀ k,k < w.heap.size → k ≠ g → w'.heap[k]? = w.heap[k]? := fun k h hk => hgr.block k h (fun e => hk (by injection e))
 have k : Kp C (fun k => C k ∨ (w.heap.size ≤ k ∧ k < w'.heap.size)) w w' := ⟨fun _ h => .inl h,fun g' h => hother g' (r.cc g' h).2.1 (fun e => by subst e; exact (r.cc _ h).2.2 hgm)⟩
 refine ⟨r.sz,fun t d h => (r.sl t d h).keep k (GhLe.refl _),by simp [r.bl],?_,r.bn,r.bge,r.vl,?_,r.vd,?_,?_,?_,by simpa using r.bp⟩
 ·intro by' y hy
  rw [List.getElem?_set] at hy
  split at hy
  ·rename_i he
   subst he
   split at hy
   ·injection hy with hy
    subst hy
    refine ⟨g,us',hg,hL.hp,by simp [hL.ln],fun j d u hd hu => ?_⟩
    rw [List.getElem?_map] at hd
    obtain ⟨x,hx,rfl⟩ := Option.map_eq_some_iff.1 hd
    have h1 := hL.rl j x u hx hu
    exact ⟨.p _ _ h1,h1.one⟩
   ·cases hy
  ·rename_i hne
   obtain ⟨g',vs,h1,h2,h3,h4⟩ := r.bx by' y hy
   have hgg : g' ≠ g := fun e => by
    subst e
    have l1 := (List.getElem?_eq_some_iff.1 h1)
    have l2 := (List.getElem?_eq_some_iff.1 hg)
    obtain ⟨q1,e1⟩ := l1
    obtain ⟨q2,e2⟩ := l2
    exact hne ((List.getElem_inj (h₀ := q2) (h₁ := q1) r.bn).1 (e2.trans e1.symm))
   exact ⟨g',vs,h1,(hother g' (Array.getElem?_eq_some_iff.1 h2).1 hgg).trans h2,h3,fun j d u hd hu => ⟨(h4 j d u hd hu).1.keep k (GhLe.refl _),(h4 j d u hd hu).2⟩⟩
 ·intro j V hV
  obtain ⟨v,vs,h1,h2,h3,h4,h5⟩ := r.vc j V hV
  refine ⟨v,vs,h1,h2.kept hgr ?_,h3,fun i x u hx hu => (h4 i x u hx hu).keep k,fun g' hgv => ⟨(h5 g' hgv).1,fun hc => ?_,(h5 g' hgv).2.2⟩⟩
  ·cases hv : v.ownBlock with
   | none => exact .inl rfl
   | some g' => right; intro e; injection e with e; subst e; exact (h5 _ hv).1 hgm
  ·rcases hc with hc | hc
   ·exact (h5 g' hgv).2.1 hc
   ·have := (h2.lt g' hgv).2
    omega
 ·refine r.gr.grow hgr (fun g' e hlt => ?_)
  injection e with e
  subst e
  exact r.bge g hgm
 ·intro g' h
  rcases h with h | h
  ·exact ⟨(r.cc g' h).1,Nat.lt_of_lt_of_le (r.cc g' h).2.1 hgr.size,(r.cc g' h).2.2⟩
  ·exact ⟨.inr (Nat.le_trans r.size_le h.1),h.2,fun hm => by have := r.bl_lt hm; omega⟩
 ·obtain ⟨O,hO⟩ := r.fr
  refine ⟨O,hO.keep hgr.size (fun _ h => .inl h) (fun g' h => k.h g' h) (fun g' hlt h => hother g' hlt (fun e => h (by subst e; exact .inr (.inl hgm)))) fun g' hlt h => ?_⟩
  rcases h with (h | h) | h
  ·exact .inl h
  ·omega
  ·exact .inr h
theorem jZ (hX : Wide X.F) {o : Oper} {K : St → Prop} (h : AOpL X.P o σ K) (hs : Sat X σ a w) {Q : Exit → Act → World → Prop} {N : Act → World → Prop} (hN : ∀ σ' a' w',w.grownBy w' none → K σ' → Sat X σ' a' w' → N a' w') :
  o.wpIn X.F X.n X.P a w N Q := by
 obtain ⟨γ,C,r⟩ := hs
 refine ⟨fun f _ => hX.fn f,?_⟩
 obtain ⟨dst,op,ty,pos,after,guard⟩ := o
 cases h with
 | l c fo f ds rr ho hc hf ha hu hr hno hk =>
  simp only at ho hk
  subst ho
  have e : (c.args.toList.map a.eval).toArray = c.args.map a.eval := by apply Array.ext'; simp
  have hv := vT r ha (by simp) (bP r c)
  rw [yE (by intro c h; cases h),oG hc (cP r hf) hr.en]
  refine ⟨fun hd => by simp [hX.depth] at hd,?_⟩
  have := hr.any hX (X.n - 1) _ w _ (fun g hg => hg.elim (fun h => (r.cc g h).2.1) (fun ⟨b,_,hg⟩ => r.bl_lt (List.mem_of_getElem? hg))) hv
  rw [e] at this
  refine this.mono fun e w' he => ?_
  obtain ⟨v,rfl,hr1,hg⟩ := he
  refine hN _ _ _ hg hk (sK r dst (hr1.lend (fun g hgg => ?_) hno) hg)
  rcases hgg with (h | ⟨b,hb,hbg⟩) | h
  ·exact .inl (.inl h)
  ·right
   obtain ⟨x,hx,hall⟩ := hu b hb
   obtain ⟨g',us,h1,h2,h3,h4⟩ := r.bx b x hx
   rw [hbg] at h1
   injection h1 with h1
   subst h1
   intro o u hou
   have hh : w'.heap[g]? = some (.cells us.toArray x.ty (0,0)) := (hg.block g (r.bl_lt (List.mem_of_getElem? hbg)) (by simp)).trans h2
   rw [cell_of_row _ _ _ _ _ _ hh] at hou
   have hou' : us[o]? = some u := by simpa using hou
   have hlt : o < x.cells.length := by have := (List.getElem?_eq_some_iff.1 hou').1; omega
   obtain ⟨n,hn⟩ := hall _ (List.getElem_mem hlt)
   have := (h4 o _ u (List.getElem?_eq_getElem hlt) hou').1
   rw [hn] at this
   exact ⟨n,xX this⟩
  ·exact .inl (.inr h)
 | r c fo f x xs b ty cells ds rr ho hc hf ha hx hb hcs hv hr0 hk =>
  simp only at ho hk
  subst ho
  obtain ⟨g,us,cs,hg,hcs,hL,hev⟩ := qBA r hx hb hcs
  have hr := hr0 cs hcs
  have hv2 := vK (γ := γ) (w := w) (C := C) hv (by simp) (mR r xs)
  have hargs : c.args.map a.eval = (Value.pointer (some ⟨g,0,none⟩) :: xs.map a.eval).toArray := by apply Array.ext'; simp [ha,hev]
  rw [yE (by intro c h; cases h),oG hc (cP r hf) hr.en,hargs]
  refine ⟨fun hd => by simp [hX.depth] at hd,?_⟩
  refine (hr.h X.F.plain (X.n - 1) C w g us _ ⟨hX.fn,hX.depth,hX.alive⟩ rfl (fun g h => (r.cc g h).2.1) hL hv2).mono fun e w' he => ?_
  obtain ⟨v,rfl,hr1,hgr⟩ := he
  exact hN _ _ _ hgr hk (sK r dst hr1 hgr)
theorem tEA (hX : Wide X.F) {o : Oper} {K : St → Prop} (h : AOpX X.P o σ K) (hs : Sat X σ a w) {Q : Exit → Act → World → Prop} {N : Act → World → Prop} (hN : ∀ σ' a' w',K σ' → Sat X σ' a' w' → N a' w') :
  o.wpIn X.F X.n X.P a w N Q := by
 have hs0 := hs
 obtain ⟨γ,C,r⟩ := hs
 refine ⟨fun f _ => hX.fn f,?_⟩
 obtain ⟨dst,op,ty,pos,after,guard⟩ := o
 cases h with
 | l h => exact (jZ hX h hs0 fun σ' a' w' _ => hN σ' a' w').2
 | y c fo l d ys k ho hc hf ha hm hy hk =>
  simp only at ho hk
  subst ho
  have hv := xX (by have := lE r fo; rwa [hf] at this)
  obtain ⟨v1,v2⟩ := vK (γ := γ) (w := w) (C := C) ha (by simp) (bP r c)
  obtain ⟨u,hu⟩ : ∃ u,c.args.toList.map a.eval = [u] := by
   match h : c.args.toList.map a.eval,v1 with
   | [u],_ => exact ⟨u,rfl⟩
  have eu : c.args.map a.eval = #[u] := by apply Array.ext'; simpa using hu
  have hdu : RV w C d u := v2 0 d u rfl (by rw [hu]; rfl)
  obtain ⟨O,hO⟩ := r.fr
  have hJ := hO.1
  rw [hm] at hJ
  obtain ⟨fn,tmps,assign,body,hrun,hround⟩ := X.yi l ys k [] O C w d u hJ hy hdu (fun g h => ⟨(hO.2.2 g h).1,fun hc => (hO.2.2 g h).2.2 (.inl hc)⟩) (fun g h => (r.cc g h).2.1)
  rw [yE (by intro c h; cases h),dY hc hv,eu,hrun]
  refine ⟨fun hd => by simp [hX.depth] at hd,hround.mono fun e w' he => ?_⟩
  obtain ⟨rfl,O',h1,h2,h3,h4⟩ := he
  have hdf : DfOk w' O' [] a.defers := by
   have := hO.2.1
   rw [hm] at this
   exact this
  exact hN _ _ _ hk ⟨γ,C,(r.yielded hm hO h1 h2 h3 h4 hdf).put dst _ _ (.p _ _ (.v _ rfl))⟩
 | c c fo f ds x ho hc hf ha hr hk =>
  simp only at ho hk
  subst ho
  have e : (c.args.toList.map a.eval).toArray = c.args.map a.eval := by apply Array.ext'; simp
  have hv := uT r ha (by simp) (bP r c)
  rw [yE (by intro c h; cases h),oG hc (cP r hf) hr.en]
  refine ⟨fun hd => by simp [hX.depth] at hd,?_⟩
  have := hr.any hX (X.n - 1) (fun g => C g ∨ g ∈ γ.bl) w _ (fun g hg => hg.elim (fun h => (r.cc g h).2.1) (fun h => r.bl_lt h)) hv
  rw [e] at this
  refine this.mono fun e w' he => ?_
  obtain ⟨v,rfl,hr1,hg⟩ := he
  refine hN _ _ _ hk (sK r dst (.p _ _ ?_) hg)
  cases hr1 with | p _ _ h =>
  cases h with | v _ h => exact .v _ h
 | s c fo f g j V xs' ho hc hf ha hV hr hk =>
  simp only at ho hk
  subst ho
  obtain ⟨v,us,q1,q2,q3,q4,q5⟩ := r.vc j V hV
  have hargs : c.args.map a.eval = #[v,.func (.func g) #[] #[]] := by
   have hl : c.args.toList.length = 2 := by have := congrArg List.length ha; simpa using this
   match hx : c.args.toList,hl with
   | [x,y],_ =>
    rw [hx] at ha
    simp only [ZG,ZH,List.cons.injEq,Zs] at ha
    have e1 : a.eval x = v := by
     have h1 := lE r x
     rw [ha.1] at h1
     generalize a.eval x = u at h1
     cases h1 with | vref _ _ h1 => rw [q1] at h1; injection h1 with h1; exact h1.symm
    have e2 := cP r ha.2
    apply Array.ext'
    simp [hx,e1,e2]
  rw [yE (by intro c h; cases h),oG hc (cP r hf) hr.en,hargs]
  refine ⟨fun hd => by simp [hX.depth] at hd,?_⟩
  refine ((hr.h X.F.plain (X.n - 1) C w v us ⟨hX.fn,hX.depth,hX.alive⟩ q2 q3 q4)).mono fun e w' he => ?_
  obtain ⟨⟨rv,rfl⟩,hg,us',h1,h2,h3⟩ := he
  exact hN _ _ _ hk ⟨γ,C,(r.setVec (V' := { V with xs := xs' }) hV q1 hg us' h1 h2 h3).put dst .any rv (.any _)⟩
 | n c fo f ds rr ho hc hf ha hr hk =>
  simp only at ho hk
  subst ho
  have e : (c.args.toList.map a.eval).toArray = c.args.map a.eval := by apply Array.ext'; simp
  have hv := aQ (γ := γ) (w := w) (C := C) ha (by simp) (bP r c)
  rw [yE (by intro c h; cases h),oG hc (cP r hf) hr.en]
  refine ⟨fun hd => by simp [hX.depth] at hd,?_⟩
  have := hr.any hX (X.n - 1) C w _ (fun g hg => (r.cc g hg).2.1) hv
  rw [e] at this
  refine this.mono fun e w' he => ?_
  obtain ⟨v,rfl,hr1,hg⟩ := he
  exact hN _ _ _ hk (sK r dst hr1 hg)
 | no c fo f ds V ho hc hf ha hr hk =>
  simp only at ho hk
  subst ho
  have e : (c.args.toList.map a.eval).toArray = c.args.map a.eval := by apply Array.ext'; simp
  have hv := aQ (γ := γ) (w := w) (C := C) ha (by simp) (bP r c)
  rw [yE (by intro c h; cases h),oG hc (cP r hf) hr.en]
  refine ⟨fun hd => by simp [hX.depth] at hd,?_⟩
  have := hr.any hX (X.n - 1) C w _ (fun g hg => (r.cc g hg).2.1) hv
  rw [e] at this
  refine this.mono fun e w' he => ?_
  obtain ⟨v,us,rfl,h1,h2,h3,h4⟩ := he
  exact hN _ _ _ hk (lO r dst h1 h2 h3 h4)
 | m c fo f x xs b ty cells cs cs' ds rr ho hc hf ha hx hb hcs hv hr hk =>
  simp only at ho hk
  subst ho
  obtain ⟨g,us,hg,hL,hev⟩ := sEA r hx hb hcs
  have hv2 := vK (γ := γ) (w := w) (C := C) hv (by simp) (mR r xs)
  have hargs : c.args.map a.eval = (Value.pointer (some ⟨g,0,none⟩) :: xs.map a.eval).toArray := by apply Array.ext'; simp [ha,hev]
  rw [yE (by intro c h; cases h),oG hc (cP r hf) hr.en,hargs]
  refine ⟨fun hd => by simp [hX.depth] at hd,?_⟩
  refine (hr.h X.F.plain (X.n - 1) C w g us _ ⟨hX.fn,hX.depth,hX.alive⟩ rfl (fun g h => (r.cc g h).2.1) hL hv2).mono fun e w' he => ?_
  obtain ⟨v,us',rfl,hL',hr1,hgr⟩ := he
  exact hN _ _ _ hk ⟨_,_,(r.lend hb hg hgr hL').put dst rr v (hr1.keep (Kp.refl _ _) (GhLe.empty γ))⟩
 | v c fo f x xs j V V' ds ho hc hf ha hx hV hv hr hp hk =>
  simp only at ho hk
  subst ho
  obtain ⟨v,us,q1,q2,q3,q4,q5⟩ := r.vc j V hV
  have hjl : j < γ.vv.length := (List.getElem?_eq_some_iff.1 q1).1
  have hv2 := vK (γ := γ) (w := w) (C := C) hv (by simp) (mR r xs)
  have hev : a.eval x = v := by
   have h1 := lE r x
   rw [hx] at h1
   generalize a.eval x = u at h1
   cases h1 with | vref _ _ h1 => rw [q1] at h1; injection h1 with h1; exact h1.symm
  have hargs : c.args.map a.eval = (v :: xs.map a.eval).toArray := by apply Array.ext'; simp [ha,hev]
  rw [yE (by intro c h; cases h),oG hc (cP r hf) hr.en,hargs]
  refine ⟨fun hd => by simp [hX.depth] at hd,?_⟩
  refine (hr.h X.F.plain (X.n - 1) C w v us _ ⟨hX.fn,hX.depth,hX.alive⟩ rfl (fun g h => (r.cc g h).2.1) q2 q3 q4 (fun g hg => (q5 g hg).2.1) hv2).mono fun e w' he => ?_
  obtain ⟨v',us',rfl,h1,h2,h3,h4,h5⟩ := he
  have r1 := r.appendedA hV q1 h5 us' h1 h2 (fun i x u hx hu => by
   have h6 := h3 i x u hx hu
   obtain ⟨y,rfl⟩ := hp x (List.mem_of_getElem? hx)
   cases h6 with | v _ h6 => exact .v _ h6) h4
  exact hN _ _ _ hk ⟨_,_,r1.put dst (.vref j) v' (.vref _ _ (by simp [hjl]))⟩
theorem dP (hX : Wide X.F) (hb : b.Ok X.P) {ops : Array Oper} {Q : Exit → Act → World → Prop} : ∀ (l : List Nat) {σ : St} {K : St → Prop} {a : Act} {w : World},kE X.P b ops l σ K → Sat X σ a w → (∀ σ' a' w',K σ' → Sat X σ' a' w' → Q .normal a' w') →
  wpOpsIn X.F X.n X.P ops Q l a w
 | [],σ,K,a,w,h,hs,hQ => hQ σ a w h hs
 | i :: rest,σ,K,a,w,h,hs,hQ => by
  simp only [kE] at h
  simp only [wpOpsIn]
  cases ho : ops[i]? with
  | none => rw [ho] at h; exact h.elim
  | some o =>
   rw [ho] at h
   simp only at h ⊢
   obtain ⟨γ,C,r⟩ := hs
   cases hg : gd σ ops o with
   | none => rw [hg] at h; exact h.elim
   | some t =>
    rw [hg] at h
    rw [oBA r hg]
    cases t with
    | true =>
     simp only [Zr]
     rcases h with h | h
     ·exact jGA hX hb h ⟨γ,C,r⟩ fun σ' a' w' hK hs' => dP hX hb rest hK hs' hQ
     ·exact tEA hX h ⟨γ,C,r⟩ fun σ' a' w' hK hs' => dP hX hb rest hK hs' hQ
    | false =>
     simp only [Zf,Zq]
     exact ⟨fun f _ => hX.fn f,dP hX hb rest h ⟨γ,C,r.put o.dst (.tup []) undef lR⟩ hQ⟩
end
/-! ### Control -/
/-- Code,on abstract states. -/
def AW (X : Cx) (c : Code) (Q : Exit → St → Prop) (σ : St) : Prop :=
 ∀ a w,Sat X σ a w → c.wpIn X.F X.n X.P (fun e a' w' => ∃ σ',Q e σ' ∧ Sat X σ' a' w') a w
def Ex.seq (N : St → Prop) (Q : Exit → St → Prop) : Exit → St → Prop
 | .normal,σ => N σ
 | e,σ => Q e σ
def Ex.block (id : Nat) (Q : Exit → St → Prop) : Exit → St → Prop
 | .exit i,σ => if i = id then Q .normal σ else Q (.exit i) σ
 | e,σ => Q e σ
section
variable {X : Cx} {b : Tb} {σ : St} {Q : Exit → St → Prop}
theorem hAA (hX : Wide X.F) (hb : b.Ok X.P) {id : Nat} {ops : Array Oper} (h : kE X.P b ops (List.range ops.size) σ (Q .normal)) : AW X (.region id ops false) Q σ :=
 fun _ _ hs => wpIn_region (dP hX hb _ h hs fun σ' _ _ hQ hs' => ⟨σ',hQ,hs'⟩)
theorem cA {x y : Code} (h : AW X x (Ex.seq (AW X y Q) Q) σ) : AW X (.seq x y) Q σ := by
 intro a w hs
 refine wpIn_seq (wpIn_mono (h a w hs) fun e a' w' he => ?_)
 obtain ⟨σ',h1,h2⟩ := he
 cases e with
 | normal => exact h1 a' w' h2
 | _ => exact ⟨σ',h1,h2⟩
theorem uB (h : Q .normal σ) : AW X .skip Q σ := fun _ _ hs => wpIn_skip ⟨σ,h,hs⟩
theorem rBA {l : Nat} (h : Q .normal σ) : AW X (.label l) Q σ := fun _ _ hs => wpIn_label ⟨σ,h,hs⟩
theorem oD {id : Nat} (h : Q (.exit id) σ) : AW X (.exit id) Q σ := fun _ _ hs => wpIn_exit ⟨σ,h,hs⟩
theorem bC (h : Q .ret σ) : AW X .ret Q σ := fun _ _ hs => wpIn_ret ⟨σ,h,hs⟩
theorem oB {c : Operand} {x y : Code} (t : Bool) (hc : σ.ev c = .p (.v (.bool t))) (ht : t = true → AW X x Q σ) (hf : t = false → AW X y Q σ) : AW X (.cond c x y) Q σ := by
 intro a w hs
 have hev : a.eval c = .bool t := by
  obtain ⟨γ,C,r⟩ := hs
  have := lE r c
  rw [hc] at this
  exact tN this
 cases t with
 | true => exact wpIn_cond_true hev (ht rfl a w hs)
 | false => exact wpIn_cond_false hev (hf rfl a w hs)
theorem tB {id : Nat} {c : Code} (h : AW X c (Ex.block id Q) σ) : AW X (.block id c) Q σ := by
 intro a w hs
 refine wpIn_block (wpIn_mono (h a w hs) fun e a' w' he => ?_)
 obtain ⟨σ',h1,h2⟩ := he
 cases e with
 | exit i =>
  simp only [Ex.block] at h1
  simp only [Exit.inBlock]
  split at h1
  ·rename_i hi; rw [if_pos hi]; exact ⟨σ',h1,h2⟩
  ·rename_i hi; rw [if_neg hi]; exact ⟨σ',h1,h2⟩
 | _ => exact ⟨σ',h1,h2⟩
/-- σ says no less than σ'. -/
def Wk (X : Cx) (σ σ' : St) : Prop := ∀ a w,Sat X σ a w → Sat X σ' a w
theorem Wk.refl (X : Cx) (σ : St) : Wk X σ σ := fun _ _ h => h
theorem Wk.trans {X : Cx} {σ σ' σ'' : St} (h : Wk X σ σ') (h' : Wk X σ' σ'') : Wk X σ σ'' := fun a w hs => h' a w (h a w hs)
theorem iW {c : Code} {σ' : St} (hw : Wk X σ σ') (h : AW X c Q σ') : AW X c Q σ := fun a w hs => h a w (hw a w hs)
theorem nR {S : Nat → Prop} (h : ∃ k,S k) : ∃ k,S k ∧ ∀ j,S j → k ≤ j := by
 obtain ⟨k,hk⟩ := h
 induction k using Nat.strongRecOn with
 | _ k ih =>
  by_cases hl : ∃ j,j < k ∧ S j
  ·obtain ⟨j,hj,hs⟩ := hl
   exact ih j hj hs
  ·exact ⟨k,hk,fun j hj => by
    rcases Nat.lt_or_ge j k with h | h
    ·exact absurd ⟨j,h,hj⟩ hl
    ·exact h⟩
/-- A loop: its states by an index; the index goes down. -/
theorem rD {c : Code} {ι : Type} (J : ι → Prop) (I : ι → St) (μ : ι → Nat) (i0 : ι) (h0 : J i0) (hw : Wk X σ (I i0))
  (hr : ∀ i,J i → AW X c (Ex.seq (fun σ' => ∃ i',J i' ∧ μ i' < μ i ∧ Wk X σ' (I i')) Q) (I i)) : AW X (.loop c) Q σ := by
 intro a w hs
 let S : Act → World → Nat → Prop := fun a w k => ∃ i,J i ∧ Sat X (I i) a w ∧ μ i = k
 let m : Act → World → Nat := fun a w => if h : ∃ k,S a w k then (nR h).choose else 0
 have hm : ∀ a w i,J i → Sat X (I i) a w → m a w ≤ μ i := fun a w i hJ hs => by
  have h : ∃ k,S a w k := ⟨μ i,i,hJ,hs,rfl⟩
  simp only [m,dif_pos h]
  exact (nR h).choose_spec.2 _ ⟨i,hJ,hs,rfl⟩
 refine wpIn_loop (fun a w => ∃ i,J i ∧ Sat X (I i) a w) m ⟨i0,h0,hw a w hs⟩ ?_
 rintro a w ⟨i,hJ,hsi⟩
 have hex : ∃ k,S a w k := ⟨μ i,i,hJ,hsi,rfl⟩
 obtain ⟨j,hJj,hsj,hj⟩ := (nR hex).choose_spec.1
 have hmj : m a w = μ j := by simp only [m,dif_pos hex]; exact hj.symm
 refine wpIn_mono (hr j hJj a w hsj) fun e a' w' he => ?_
 obtain ⟨σ',h1,h2⟩ := he
 cases e with
 | normal =>
  obtain ⟨i',hJ',hlt,hwk⟩ := h1
  have hs' := hwk a' w' h2
  exact ⟨⟨i',hJ',hs'⟩,by rw [hmj]; exact Nat.lt_of_le_of_lt (hm a' w' i' hJ' hs') hlt⟩
 | _ => exact ⟨σ',h1,h2⟩
end
end Go.Proofs.Ytldcoekbgfaomaa
end
section
namespace Go.Proofs.Ytldcoekbgfaomaa
open Go.RowKit
open Classical
/-! ### Forgetting -/
def leD (d d' : D) : Prop := d' = .any ∨ d = d'
def leL : List D → List D → Prop
 | [],[] => True
 | d :: ds,e :: es => leD d e ∧ leL ds es
 | _,_ => False
def leB : List Bx → List Bx → Prop
 | _,[] => True
 | x :: xs,y :: ys => x.ty = y.ty ∧ leL x.cells y.cells ∧ leB xs ys
 | [],_ :: _ => False
def leV : List (Option Vc) → List (Option Vc) → Prop
 | _,[] => True
 | v :: vs,u :: us => (u = none ∨ v = u) ∧ leV vs us
 | [],_ :: _ => False
def D.inB (nb nv : Nat) : D → Bool
 | .ptr b _ => decide (b < nb)
 | .fn _ bs => bs.all fun b => decide (b < nb)
 | .bsl b _ _ _ => decide (b < nb)
 | .vref j => decide (j < nv)
 | .vpt j _ => decide (j < nv)
 | .aggd _ => false
 | _ => true
structure LeS (σ σ' : St) : Prop where
 df : σ.df = σ'.df
 sl : leL σ.slots σ'.slots
 bx : leB σ.boxes σ'.boxes
 vc : leV σ.vecs σ'.vecs
 sc : (decide (vL σ'.df ≤ σ'.boxes.length) && σ'.slots.all fun d => d.inB σ'.boxes.length σ'.vecs.length) = true
 bc : (σ'.boxes.all fun x => x.cells.all fun d => d.inB σ'.boxes.length σ'.vecs.length) = true
theorem fY : ∀ {l l' : List D},leL l l' → l.length = l'.length ∧ ∀ (i : Nat) (d' : D),l'[i]? = some d' → ∃ d,l[i]? = some d ∧ leD d d'
 | [],[],_ => ⟨rfl,fun i d h => by simp at h⟩
 | d :: ds,e :: es,h => by
  obtain ⟨h1,h2⟩ := fY h.2
  refine ⟨by simp [h1],fun i d' hd => ?_⟩
  cases i with
  | zero => simp at hd; subst hd; exact ⟨d,rfl,h.1⟩
  | succ i => exact h2 i d' (by simpa using hd)
 | [],_ :: _,h => h.elim
 | _ :: _,[],h => h.elim
theorem sBA : ∀ {l l' : List Bx},leB l l' → l'.length ≤ l.length ∧ ∀ (i : Nat) (y : Bx),l'[i]? = some y → ∃ x,l[i]? = some x ∧ x.ty = y.ty ∧ leL x.cells y.cells
 | l,[],_ => ⟨by simp,fun i d h => by simp at h⟩
 | x :: xs,y :: ys,h => by
  obtain ⟨h1,h2⟩ := sBA h.2.2
  refine ⟨by simpa using h1,fun i y' hd => ?_⟩
  cases i with
  | zero => simp at hd; subst hd; exact ⟨x,rfl,h.1,h.2.1⟩
  | succ i => exact h2 i y' (by simpa using hd)
 | [],_ :: _,h => h.elim
theorem tBA : ∀ {l l' : List (Option Vc)},leV l l' → l'.length ≤ l.length ∧ ∀ (i : Nat) (V : Vc),l'[i]? = some (some V) → l[i]? = some (some V)
 | l,[],_ => ⟨by simp,fun i d h => by simp at h⟩
 | v :: vs,u :: us,h => by
  obtain ⟨h1,h2⟩ := tBA h.2
  refine ⟨by simpa using h1,fun i V hd => ?_⟩
  cases i with
  | zero =>
   simp at hd
   subst hd
   rcases h.1 with h | h
   ·cases h
   ·subst h; rfl
  | succ i => exact h2 i V (by simpa using hd)
 | [],_ :: _,h => h.elim
theorem RD.cut {w : World} {C : Nat → Prop} {γ : Gh} {nb nv : Nat} {d : D} {u : Value} (h : RD w C γ d u) (hi : d.inB nb nv = true) : RD w C ⟨γ.bl.take nb,γ.vv.take nv⟩ d u := by
 cases h with
 | any => exact .any _
 | aggd ds us hl h1 h => cases hi
 | p x u h => exact .p _ _ h
 | agg xs us hl h => exact .agg xs us hl h
 | tup ds us hl h => exact .tup ds us hl h
 | nil => exact .nil
 | ptr b off g h => exact .ptr b off g (by simp [D.inB] at hi; simp only [List.getElem?_take,if_pos hi]; exact h)
 | ept xs off g o us hg hl hcell h => exact .ept xs off g o us hg hl hcell h
 | vref j v h => exact .vref j _ (by simp [D.inB] at hi; simp only [List.getElem?_take,if_pos hi]; exact h)
 | vpt j off g n c h => exact .vpt j off g n c (by simp [D.inB] at hi; simp only [List.getElem?_take,if_pos hi]; exact h)
 | bsl b off n k g c h hn hc => exact .bsl b off n k g c (by simp [D.inB] at hi; simp only [List.getElem?_take,if_pos hi]; exact h) hn hc
 | fn f bs us hl h =>
  refine .fn f bs us hl fun j b u hb hu => ?_
  obtain ⟨g,h1,h2⟩ := h j b u hb hu
  refine ⟨g,?_,h2⟩
  simp only [D.inB,List.all_eq_true,Zp] at hi
  have := hi b (List.mem_of_getElem? hb)
  simp only [List.getElem?_take,if_pos this]
  exact h1
theorem RD.le {w : World} {C : Nat → Prop} {γ : Gh} {d d' : D} {u : Value} (h : RD w C γ d u) (hl : leD d d') : RD w C γ d' u := by
 rcases hl with rfl | rfl
 ·exact .any _
 ·exact h
theorem rC {X : Cx} {σ σ' : St} (h : LeS σ σ') : Wk X σ σ' := by
 rintro a w ⟨γ,C,r⟩
 obtain ⟨l1,l2⟩ := fY h.sl
 obtain ⟨b1,b2⟩ := sBA h.bx
 obtain ⟨v1,v2⟩ := tBA h.vc
 have hsc0 := h.sc
 have hbc := h.bc
 simp only [Bool.and_eq_true,Zp] at hsc0
 obtain ⟨hpn,hsc⟩ := hsc0
 simp only [List.all_eq_true] at hsc hbc
 refine ⟨⟨γ.bl.take σ'.boxes.length,γ.vv.take σ'.vecs.length⟩,C,by rw [r.sz]; exact l1,?_,by simp [r.bl,b1],?_,?_,?_,by simp [r.vl,v1],?_,?_,r.gr,?_,?_,hpn,?_⟩
 ·intro t d hd
  obtain ⟨d0,hd0,hle⟩ := l2 t d hd
  exact ((r.sl t d0 hd0).le hle).cut (hsc d (List.mem_of_getElem? hd))
 ·intro bx y hy
  obtain ⟨x,hx,hty,hcl⟩ := b2 bx y hy
  obtain ⟨g,us,h1,h2,h3,h4⟩ := r.bx bx x hx
  obtain ⟨c1,c2⟩ := fY hcl
  have hlt : bx < σ'.boxes.length := (List.getElem?_eq_some_iff.1 hy).1
  refine ⟨g,us,by simp only [List.getElem?_take,if_pos hlt]; exact h1,by rw [← hty]; exact h2,h3.trans c1,fun j d u hd hu => ?_⟩
  obtain ⟨d0,hd0,hle⟩ := c2 j d hd
  exact ⟨((h4 j d0 u hd0 hu).1.le hle).cut (hbc y (List.mem_of_getElem? hy) d (List.mem_of_getElem? hd)),(h4 j d0 u hd0 hu).2⟩
 ·exact List.Sublist.nodup (List.take_sublist _ _) r.bn
 ·exact fun g hg => r.bge g (List.mem_of_mem_take hg)
 ·intro j V hV
  obtain ⟨v,us,h1,h2,h3,h4,h5⟩ := r.vc j V (v2 j V hV)
  have hlt : j < σ'.vecs.length := (List.getElem?_eq_some_iff.1 hV).1
  exact ⟨v,us,by simp only [List.getElem?_take,if_pos hlt]; exact h1,h2,h3,h4,fun g hg => ⟨fun hm => (h5 g hg).1 (List.mem_of_mem_take hm),(h5 g hg).2⟩⟩
 ·intro i j Vi Vj vi vj g hij hi hj hvi hvj hg
  have e : ∀ (k : Nat) (v : Value),(γ.vv.take σ'.vecs.length)[k]? = some v → γ.vv[k]? = some v := by
   intro k v h
   rw [List.getElem?_take] at h
   split at h
   ·exact h
   ·cases h
  exact r.vd i j Vi Vj vi vj g hij (v2 i Vi hi) (v2 j Vj hj) (e i vi hvi) (e j vj hvj) hg
 ·exact fun g hg => ⟨(r.cc g hg).1,(r.cc g hg).2.1,fun hm => (r.cc g hg).2.2 (List.mem_of_mem_take hm)⟩
 ·obtain ⟨O,h1,h2,h3⟩ := r.fr
  rw [h.df] at h1 h2
  refine ⟨O,h1,h2,fun g hg => ⟨(h3 g hg).1,(h3 g hg).2.1,fun hh => (h3 g hg).2.2 ?_⟩⟩
  rcases hh with hh | hh | ⟨j,V,v,q1,q2,q3⟩
  ·exact .inl hh
  ·exact .inr (.inl (List.mem_of_mem_take hh))
  ·refine .inr (.inr ⟨j,V,v,v2 j V q1,?_,q3⟩)
   rw [List.getElem?_take] at q2
   split at q2
   ·exact q2
   ·cases q2
 ·intro b g hb hg
  have := r.bp.2 b g (by rw [h.df]; exact hb) hg
  have hlt : b < σ'.boxes.length := Nat.lt_of_lt_of_le hb hpn
  simp only [List.getElem?_take,if_pos hlt]
  exact this
/-! ### An own slice is given up: it may be read for ever -/
def D.freeze (j : Nat) (V : Vc) : D → D
 | .vref i => if i = j then .p (.sl V.n V.xs) else .vref i
 | .vpt i o => if i = j then .any else .vpt i o
 | .aggd _ => .any
 | d => d
def St.freeze (σ : St) (j : Nat) (V : Vc) : St :=
 { σ with slots := σ.slots.map (D.freeze j V),boxes := σ.boxes.map fun x => { x with cells := x.cells.map (D.freeze j V) },vecs := σ.vecs.set j none }
theorem uBA {w : World} {C : Nat → Prop} {base : Nat} {V : Vc} {v : Value} {us : List Value} (h : w.ownsRow base V.e V.sz v V.n us) (hl : us.length = V.xs.length)
  (hR : ∀ (i : Nat) (x : P1) (u : Value),V.xs[i]? = some x → us[i]? = some u → R1 w C x u) (hC : ∀ g,v.ownBlock = some g → C g) : R1 w C (.sl V.n V.xs) v := by
 rcases h.2 with ⟨rfl,h0⟩ | ⟨g,cap,cur,rfl,hb,hh,hnc,hcm,hcs,ht⟩
 ·have : V.xs = [] := by
   have := h.1
   rw [h0] at this
   simp at this
   subst this
   exact List.eq_nil_of_length_eq_zero hl.symm
  rw [h0,this]
  exact .nil _ _
 ·exact .sl V.n g 0 cap V.xs us hnc hcm (hC g rfl) hl (fun j u hu => by
   have := h.cells (g := g) rfl j u hu
   rwa [oH] at this) hR
theorem wT {X : Cx} {σ : St} (j : Nat) (V : Vc) (hV : σ.vecs[j]? = some (some V)) : Wk X σ (σ.freeze j V) := by
 rintro a w ⟨γ,C,r⟩
 obtain ⟨v,us,q1,q2,q3,q4,q5⟩ := r.vc j V hV
 let C' : Nat → Prop := fun g => C g ∨ v.ownBlock = some g
 have k : Kp C C' w w := ⟨fun g h => .inl h,fun _ _ => rfl⟩
 have hfr : ∀ (d : D) (u : Value),RD w C γ d u → RD w C' γ (d.freeze j V) u := by
  intro d u h
  have h' := h.keep k (GhLe.refl γ)
  cases h with
  | vref i _ hi =>
   simp only [D.freeze]
   split
   ·rename_i he
    subst he
    rw [q1] at hi
    injection hi with hi
    subst hi
    exact .p _ _ (uBA q2 q3 (fun i x u hx hu => (q4 i x u hx hu).keep k) fun g hg => .inr hg)
   ·exact h'
  | vpt i off g n c hi =>
   simp only [D.freeze]
   split
   ·exact .any _
   ·exact h'
  | aggd => exact .any _
  | _ => exact h'
 refine ⟨γ,C',by simp [St.freeze,r.sz],?_,by simp [St.freeze,r.bl],?_,r.bn,r.bge,by simp [St.freeze,r.vl],?_,?_,r.gr,?_,?_,by simpa [St.freeze] using r.bp⟩
 ·intro t d h
  simp only [St.freeze,List.getElem?_map] at h
  obtain ⟨d0,hd0,rfl⟩ := Option.map_eq_some_iff.1 h
  exact hfr _ _ (r.sl t d0 hd0)
 ·intro bx x hx
  simp only [St.freeze,List.getElem?_map] at hx
  obtain ⟨x0,hx0,rfl⟩ := Option.map_eq_some_iff.1 hx
  obtain ⟨g,vs,h1,h2,h3,h4⟩ := r.bx bx x0 hx0
  refine ⟨g,vs,h1,h2,by simpa using h3,fun q d u hd hu => ?_⟩
  simp only [List.getElem?_map] at hd
  obtain ⟨d0,hd0,rfl⟩ := Option.map_eq_some_iff.1 hd
  exact ⟨hfr _ _ (h4 q d0 u hd0 hu).1,(h4 q d0 u hd0 hu).2⟩
 ·intro i U hU
  simp only [St.freeze,List.getElem?_set] at hU
  split at hU
  ·split at hU <;> simp at hU
  ·rename_i hne
   obtain ⟨vi,vs,h1,h2,h3,h4,h5⟩ := r.vc i U hU
   refine ⟨vi,vs,h1,h2,h3,fun i x u hx hu => (h4 i x u hx hu).keep k,fun g hg => ⟨(h5 g hg).1,fun hc => ?_,(h5 g hg).2.2⟩⟩
   rcases hc with hc | hc
   ·exact (h5 g hg).2.1 hc
   ·exact r.vd i j U V vi v g (Ne.symm hne) hU hV h1 q1 hg hc
 ·intro p q Vp Vq vp vq g hpq hp hq hvp hvq hgp
  have live : ∀ (i : Nat) (U : Vc),(σ.freeze j V).vecs[i]? = some (some U) → σ.vecs[i]? = some (some U) := by
   intro i U hU
   simp only [St.freeze,List.getElem?_set] at hU
   split at hU
   ·split at hU <;> simp at hU
   ·exact hU
  exact r.vd p q Vp Vq vp vq g hpq (live p Vp hp) (live q Vq hq) hvp hvq hgp
 ·intro g hc
  rcases hc with hc | hc
  ·exact r.cc g hc
  ·exact ⟨X.zc g (q5 g hc).2.2,(q2.lt g hc).2,(q5 g hc).1⟩
 ·obtain ⟨O,hO⟩ := r.fr
  refine ⟨O,hO.keep (Nat.le_refl _) (fun g h => .inl h) (fun _ _ => rfl) (fun _ _ _ => rfl) fun g _ h => ?_⟩
  rcases h with (h | h) | h | ⟨i,U,u,h1,h2,h3⟩
  ·exact .inl h
  ·exact .inr (.inr ⟨j,V,v,hV,q1,h⟩)
  ·exact .inr (.inl h)
  ·simp only [St.freeze,List.getElem?_set] at h1
   split at h1
   ·split at h1 <;> simp at h1
   ·exact .inr (.inr ⟨i,U,u,h1,h2,h3⟩)
/-! ### A nil slice in a slot,or in a variable's cell,is an own slice without elements -/
def St.nilSlot (σ : St) (t : Nat) (e : TypeId) (sz : Nat) : St := { (σ.addVec ⟨e,sz,0,[]⟩) with slots := σ.slots.set t (.vref σ.vecs.length) }
def St.nilCell (σ : St) (bx k : Nat) (y : Bx) (e : TypeId) (sz : Nat) : St := { (σ.addVec ⟨e,sz,0,[]⟩) with boxes := σ.boxes.set bx { y with cells := y.cells.set k (.vref σ.vecs.length) } }
theorem oR {X : Cx} {σ : St} {a : Act} {w : World} {γ : Gh} {C : Nat → Prop} (r : Rel X σ a w γ C) (e : TypeId) (sz : Nat) : Rel X (σ.addVec ⟨e,sz,0,[]⟩) a w { γ with vv := γ.vv ++ [.slice none 0 0] } C :=
 r.addVec ⟨e,sz,0,[]⟩ (.slice none 0 0) [] (World.ownsRow_nil _ _ _ _) rfl (fun i x u hx => by simp at hx) (fun g hg => by simp [Value.ownBlock] at hg) (fun j U u g _ _ hg => by simp [Value.ownBlock] at hg) (by obtain ⟨O,h⟩ := r.fr; exact ⟨O,h,fun g hg => by simp [Value.ownBlock] at hg⟩)
theorem gY {X : Cx} {σ : St} (t : Nat) (e : TypeId) (sz : Nat) (ht : σ.slots[t]? = some .nil) : Wk X σ (σ.nilSlot t e sz) := by
 rintro a w ⟨γ,C,r⟩
 have r1 := oR r e sz
 have hv : a.tmps.getD t undef = .slice none 0 0 := by
  have h := r.sl t _ ht
  generalize a.tmps.getD t undef = u at h
  cases h; rfl
 have hnew : (γ.vv ++ [Value.slice none 0 0])[σ.vecs.length]? = some (.slice none 0 0) := by rw [← r.vl]; exact pE
 refine ⟨_,C,by simpa [St.nilSlot] using r.sz,?_,r1.bl,r1.bx,r1.bn,r1.bge,r1.vl,r1.vc,r1.vd,r1.gr,r1.cc,r1.fr,r1.bp⟩
 intro i d hd
 simp only [St.nilSlot,List.getElem?_set] at hd
 split at hd
 ·rename_i he
  subst he
  split at hd
  ·injection hd with hd
   subst hd
   rw [hv]
   exact .vref _ _ hnew
  ·cases hd
 ·exact r1.sl i d hd
theorem pR {X : Cx} {σ : St} (bx k : Nat) (y : Bx) (e : TypeId) (sz : Nat) (hy : σ.boxes[bx]? = some y) (hk : y.cells[k]? = some .nil) : Wk X σ (σ.nilCell bx k y e sz) := by
 rintro a w ⟨γ,C,r⟩
 have r1 := oR r e sz
 have hnew : (γ.vv ++ [Value.slice none 0 0])[σ.vecs.length]? = some (.slice none 0 0) := by rw [← r.vl]; exact pE
 refine ⟨_,C,r1.sz,r1.sl,by simpa [St.nilCell] using r.bl,?_,r1.bn,r1.bge,r1.vl,r1.vc,r1.vd,r1.gr,r1.cc,r1.fr,⟨by simpa [St.nilCell,St.addVec] using r.bp.1,r.bp.2⟩⟩
 intro i x hx
 simp only [St.nilCell,List.getElem?_set] at hx
 split at hx
 ·rename_i he
  subst he
  split at hx
  ·injection hx with hx
   subst hx
   obtain ⟨g,us,h1,h2,h3,h4⟩ := r1.bx bx y hy
   refine ⟨g,us,h1,h2,by simpa using h3,fun j d u hd hu => ?_⟩
   simp only [List.getElem?_set] at hd
   split at hd
   ·rename_i hkj
    subst hkj
    split at hd
    ·injection hd with hd
     subst hd
     obtain ⟨h5,h6⟩ := h4 k _ u hk hu
     cases h5
     exact ⟨.vref _ _ hnew,rfl⟩
    ·cases hd
   ·exact h4 j d u hd hu
  ·cases hx
 ·exact r1.bx i x hx
/-! ### A function's entry,its results -/
noncomputable def mE (b : Tb) (σ : St) : ResultVar → Option PV
 | .tmp t => (σ.slots.getD t .any).pv?
 | .cell t ty => match pA b σ ty (σ.slots.getD t .any) with
  | some d => d.pv?
  | none => none
noncomputable def mI (b : Tb) (σ : St) : List ResultVar → Option (List PV)
 | [] => some []
 | r :: rs => match mE b σ r,mI b σ rs with
  | some x,some xs => some (x :: xs)
  | _,_ => none
noncomputable def vI (b : Tb) (σ : St) (rs : List ResultVar) : Option D :=
 match mI b σ rs with
 | some [x] => some x.d
 | some xs => some (.tup xs)
 | none => none
theorem qR (b : Tb) (σ : St) (m : List Mk) : ∀ rs,mI b { σ with df := m } rs = mI b σ rs
 | [] => rfl
 | r :: rs => by
  have h : mE b { σ with df := m } r = mE b σ r := by cases r <;> rfl
  simp only [mI,h,qR b σ m rs]
theorem rR (b : Tb) (σ : St) (m : List Mk) (rs : List ResultVar) : vI b { σ with df := m } rs = vI b σ rs := by
 unfold vI
 rw [qR]
def Ret (b : Tb) (rs : Array ResultVar) (r : D) : Exit → St → Prop
 | .normal,σ | .ret,σ => vI b σ rs.toList = some r
 | _,_ => False
def cN (ts : Array Value) : ResultVar → Sem Value
 | .tmp t => pure (ts.getD t undef)
 | .cell p t => do loadVar t (← asAddr (ts.getD p undef))
theorem wK (fn : Func) (ts : Array Value) : results fn ts = (do let vs ← fn.results.mapM (cN ts); pure (if h : vs.size = 1 then vs[0] else .tuple vs)) := by
 unfold results
 have e : (fun (x : ResultVar) => (match x with | .tmp t => pure (ts.getD t undef) | .cell a t => do loadVar t (← asAddr (ts.getD a undef)) : Sem Value)) = cN ts := by
  funext x
  cases x <;> rfl
 rw [← e]
 rfl
theorem sR {X : Cx} {b : Tb} {σ : St} {a : Act} {w : World} {γ : Gh} {C : Nat → Prop} (hb : b.Ok X.P) (r : Rel X σ a w γ C) : ∀ {rs : List ResultVar} {xs : List PV},mI b σ rs = some xs →
  ∃ vs : List Value,(rs.mapM (cN a.tmps)).run X.P w = .ok vs w ∧ RVs w C xs vs
 | [],xs,h => by
  simp only [mI,Option.some.injEq] at h
  subst h
  exact ⟨[],rfl,rfl,fun j d u hd => by simp at hd⟩
 | rv :: rs,xs,h => by
  simp only [mI] at h
  split at h
  ·rename_i x xs' h1 h2
   injection h with h
   subst h
   obtain ⟨vs,i1,i2,i3⟩ := sR hb r h2
   have one : ∃ v,(cN a.tmps rv).run X.P w = .ok v w ∧ RV w C x v := by
    cases rv with
    | tmp t =>
     simp only [mE] at h1
     exact ⟨_,rfl,zP h1 (lE r (.tmp t))⟩
    | cell p t =>
     simp only [mE] at h1
     split at h1
     ·rename_i d hd
      obtain ⟨z,hz,hrun⟩ := cW hb r hd (lE r (.tmp p))
      refine ⟨z,?_,zP h1 hz⟩
      have hr := hrun w (Agree.refl w)
      simp only [Instr.loadAt,Act.eval] at hr
      simp only [cN]
      generalize a.tmps.getD p undef = u at hr ⊢
      cases u with
      | pointer q =>
       cases q with
       | none => simp [Instr.sureAddr] at hr
       | some ad => simpa [Instr.sureAddr,asAddr] using hr
      | _ => simp [Instr.sureAddr] at hr
     ·cases h1
   obtain ⟨v,o1,o2⟩ := one
   refine ⟨v :: vs,?_,by simp [i2],fun j d u hd hu => ?_⟩
   ·simp only [List.mapM_cons,Sem.run_bind,o1,Result.andThen_ok,i1,Sem.run_pure]
   ·cases j with
    | zero => simp at hd hu; subst hd; subst hu; exact o2
    | succ j => exact i3 j d u (by simpa using hd) (by simpa using hu)
  ·cases h
theorem tR {X : Cx} {b : Tb} {σ : St} {a : Act} {w : World} {γ : Gh} {C : Nat → Prop} (hb : b.Ok X.P) (r : Rel X σ a w γ C) {fn : Func} {d : D} (h : vI b σ fn.results.toList = some d) :
  ∃ v,(results fn a.tmps).run X.P w = .ok v w ∧ RD w C ⟨[],[]⟩ d v := by
 unfold vI at h
 have key : ∀ xs,mI b σ fn.results.toList = some xs → ∃ vs : List Value,(results fn a.tmps).run X.P w = .ok (if h : vs.length = 1 then vs[0] else .tuple vs.toArray) w ∧ RVs w C xs vs := by
  intro xs hxs
  obtain ⟨vs,h1,h2⟩ := sR hb r hxs
  refine ⟨vs,?_,h2⟩
  rw [wK,Array.mapM_eq_mapM_toList]
  simp only [Sem.run_bind,Sem.run_map,h1,Result.andThen_ok,Sem.run_pure]
  rfl
 split at h
 ·rename_i x hx
  injection h with h
  subst h
  obtain ⟨vs,h1,h2,h3⟩ := key _ hx
  have hl : vs.length = 1 := h2
  refine ⟨vs[0],by rw [h1,dif_pos hl],(h3 0 x _ rfl (List.getElem?_eq_getElem (by omega))).rd⟩
 ·rename_i xs hne hx
  injection h with h
  subst h
  obtain ⟨vs,h1,h2,h3⟩ := key _ hx
  have hl : ¬ vs.length = 1 := by
   rw [h2]
   intro h
   match xs,h with
   | [x],_ => exact hne x rfl
  exact ⟨_,by rw [h1,dif_neg hl],.tup xs vs h2 h3⟩
 ·cases h
/-- The surroundings of a function's call: it turns new blocks alone. -/
def vBA (m : List Mk) (_ _ : Nat → Prop) (_ : World) : Prop := ∀ l ys k m',m ≠ .yld l ys k :: m'
def Cx.plain (F : Fence) (n : Nat) (P : Program) (w : World) (C : Nat → Prop) : Cx :=
 ⟨F,n,P,w,C,fun g => w.heap.size ≤ g,vBA,[],fun _ h => h,fun _ h => .inr h,fun _ _ _ _ _ _ h _ _ _ => h,fun l ys k m O C w y u h => absurd rfl (h l ys k m)⟩
structure Cx.Pl (X : Cx) : Prop where
 z : ∀ g,X.Z g → X.B ≤ g
 j : ∀ m O C w,X.J (.coll :: m) O C w
theorem Cx.plain_pl (F : Fence) (n : Nat) (P : Program) (w : World) (C : Nat → Prop) : (Cx.plain F n P w C).Pl := ⟨fun _ h => h,fun m O C w l ys k m' h => by cases h⟩
theorem GrZ.plain {w w' : World} (h : GrZ w w' (fun g => w.heap.size ≤ g)) : w.grownBy w' none := ⟨h.os,h.tape,h.output,h.size,fun k hk _ => h.block k hk (by omega)⟩
theorem bQ {P : Program} {fn : Func} {F : Fence} {n : Nat} {C : Nat → Prop} {w : World} {vs : List Value} {ds : List PV} (hC : ∀ g,C g → g < w.heap.size) (hv : RVs w C ds vs) :
  Rel (.plain F n P w C) ⟨[],ds.map PV.d ++ List.replicate (fn.ntmps - ds.length) .any,[],[]⟩ { tmps := vs.toArray ++ Array.replicate (fn.ntmps - vs.toArray.size) undef,defers := [] } w ⟨[],[]⟩ C := by
 refine ⟨by simp [hv.1],?_,rfl,fun bx x hx => by simp at hx,List.nodup_nil,fun g hg => by simp at hg,rfl,fun j V hV => by simp at hV,fun i j Vi Vj vi vj g _ hi => by simp at hi,
  GrZ.refl _ _,fun g hg => ⟨.inl hg,hC g hg,by simp⟩,⟨fun _ => False,fun l ys k m h => (by cases h),rfl,fun _ h => h.elim⟩,Nat.le_refl _,fun b g hb => by simp [vL] at hb⟩
 intro t d hd
 simp only [List.getElem?_append,Zh] at hd
 split at hd
 ·rename_i hlt
  simp only [List.getElem?_map] at hd
  obtain ⟨p,hp,rfl⟩ := Option.map_eq_some_iff.1 hd
  have hlt' : t < vs.length := by rw [hv.1]; exact hlt
  have : (vs.toArray ++ Array.replicate (fn.ntmps - vs.toArray.size) undef).getD t undef = vs[t] := by
   rw [Array.getD_eq_getD_getElem?,Array.getElem?_append_left (by simpa using hlt')]
   simp [hlt']
  show RD w C ⟨[],[]⟩ p.d ((vs.toArray ++ Array.replicate (fn.ntmps - vs.toArray.size) undef).getD t undef)
  rw [this]
  exact (hv.2 t p _ hp (List.getElem?_eq_getElem hlt')).rd
 ·rw [List.getElem?_replicate] at hd
  split at hd
  ·injection hd with hd; subst hd; exact .any _
  ·cases hd
/-- Leaving past the marks of finished ranges. -/
theorem gG {F : Fence} {n : Nat} {P : Program} {fn : Func} {tmps : Array Value} {R : Ending → World → Prop} : ∀ (m : List Mk) {O : Nat → Prop} (ds : List Deferred) (w : World),DfOk w O m ds →
  (∀ w',GrZ w w' O → w'.heap.size = w.heap.size → ∃ v,(results fn tmps).run P w' = .ok v w' ∧ R (.returned v) w') → LeavesInM F n P fn tmps R ds .returning w
 | [],O,ds,w,h,hr => by
  have : ds = [] := h
  subst this
  exact hr w (GrZ.refl _ _) rfl
 | .coll :: m,O,ds,w,h,hr => by
  obtain ⟨D,ds',rfl,h2,h3,h4⟩ := h
  refine ⟨by simp,.inl ⟨D,_,rfl,run_takeDeferred h3,gG m ds' _ (h4.keep (fun _ h => h) fun g hg => World.putObj_heap_other hg.2) fun w' hg hs => ?_⟩⟩
  refine hr w' ?_ (hs.trans World.putObj_size)
  refine ⟨hg.os,hg.tape,hg.output,by rw [hs,World.putObj_size]; exact Nat.le_refl _,fun k hk hn => ?_⟩
  rw [hg.block k (by simpa using hk) (fun h => hn h.1)]
  exact World.putObj_heap_other (fun e => hn (by rw [e]; exact h2))
 | .pin _ :: m,O,ds,w,h,hr => gG m ds w h hr
 | .yld _ _ _ :: m,O,ds,w,h,hr => gG m ds w h hr
/-- The world when the marks are gone. -/
theorem Rel.left {X : Cx} {σ : St} {a : Act} {w w' : World} {γ : Gh} {C O : Nat → Prop} (r : Rel X σ a w γ C) (hO : Apart X σ.df a.defers w γ σ.vecs C O) (hg : GrZ w w' O) (hs : w'.heap.size = w.heap.size) :
  Rel (.plain X.F X.n X.P X.w0 X.C0) { σ with df := [] } { a with defers := [] } w' γ C ∨ ¬ X.Pl := by
 by_cases hp : X.Pl
 ·refine .inl (r.move (by omega) (fun g h => hg.block g (Held.lt r h) fun h' => (hO.2.2 g h').2.2 h) (fun _ h => h) (fun g h => ?_) ?_ (fun g h => ⟨(r.cc g h).1,by rw [hs]; exact (r.cc g h).2.1,fun hh => ?_⟩)
   ⟨fun _ => False,fun l ys k m h => (by cases h),rfl,fun _ h => h.elim⟩ ⟨Nat.zero_le _,fun b g h => by simp [vL] at h⟩)
  ·rcases h with h | h | ⟨j,V,v,h1,h2,h3⟩
   ·exact h.elim
   ·exact hp.z g (r.bge g h)
   ·obtain ⟨v',us,q1,_,_,_,q5⟩ := r.vc j V h1
    rw [h2] at q1
    injection q1 with q1
    subst q1
    exact hp.z g (q5 g h3).2.2
  ·exact ⟨hg.os.trans r.gr.os,hg.tape.trans r.gr.tape,hg.output.trans r.gr.output,by rw [hs]; exact r.gr.size,fun k hk hn => by
    have hz : ¬ X.Z k := fun hz => hn (hp.z k hz)
    exact (hg.block k (Nat.lt_of_lt_of_le hk r.gr.size) (fun h => hz (hO.2.2 k h).2.1)).trans (r.gr.block k hk hz)⟩
  ·rcases hh with hh | hh | ⟨j,V,v,h1,h2,h3⟩
   ·exact hh
   ·exact (r.cc g h).2.2 hh
   ·obtain ⟨v',us,q1,_,_,_,q5⟩ := r.vc j V h1
    rw [h2] at q1
    injection q1 with q1
    subst q1
    exact (q5 g h3).2.1 h
 ·exact .inr hp
/-- The post of a function whose result is a slice of its own. -/
def kGA (t : Nat) (V : Vc) : Exit → St → Prop
 | .normal,σ | .ret,σ => ∃ j,σ.slots[t]? = some (.vref j) ∧ σ.vecs[j]? = some (some V)
 | _,_ => False
theorem eK {σ : St} {t : Nat} {V : Vc} (j : Nat) (h1 : σ.df = []) (h2 : σ.slots[t]? = some (.vref j)) (h3 : σ.vecs[j]? = some (some V)) : kGA t V .ret σ := ⟨j,h2,h3⟩
/-- **A contract out of the walk of the function's body.** -/
theorem wC {P : Program} {b : Tb} {f : FuncId} {fn : Func} {c : Code} {ds : List PV} {r : D} (hb : b.Ok P) (hf : P.funcs[f]? = some fn) (hbody : fn.body = some c) (hname : (fn.name == "runtime.NumGoroutine") = false)
  (h : ∀ X : Cx,X.P = P → Wide X.F → X.F.round = none → X.Pl → AW X c (Ret b fn.results r) ⟨[],ds.map PV.d ++ List.replicate (fn.ntmps - ds.length) .any,[],[]⟩) : ACalls P f ds r := by
 refine ⟨⟨fn,hf,by rw [hbody]; rfl,hname⟩,fun F n C w vs hF hro hC hv => ?_⟩
 refine callsIn_of_wp_marks hf hbody (hF.fn f) ?_ hro
 have hw := h (.plain F n P w C) rfl hF hro (Cx.plain_pl _ _ _ _ _) _ _ ⟨_,_,bQ (fn := fn) hC hv⟩
 refine wpIn_mono hw fun e a' w' he => ?_
 obtain ⟨σ',h1,γ,C',r'⟩ := he
 have fin : vI b σ' fn.results.toList = some r → LeavesInM F n P fn a'.tmps (fun e w' => ∃ v',e = .returned v' ∧ RD w' (fun g => C g ∨ (w.heap.size ≤ g ∧ g < w'.heap.size)) ⟨[],[]⟩ r v' ∧ w.grownBy w' none) a'.defers .returning w' := by
  intro hres
  obtain ⟨O,hO⟩ := r'.fr
  refine gG _ _ _ hO.2.1 fun w2 hg hs => ?_
  rcases r'.left hO hg hs with r2 | hn
  ·obtain ⟨v,hv1,hv2⟩ := tR hb r2 (fn := fn) ((rR b σ' [] _).trans hres)
   refine ⟨v,hv1,v,rfl,hv2.keep ⟨fun g hg => ?_,fun _ _ => rfl⟩ (GhLe.refl _),r2.gr.plain⟩
   obtain ⟨c1,c2,_⟩ := r2.cc g hg
   rcases c1 with c1 | c1
   ·exact .inl c1
   ·exact .inr ⟨c1,c2⟩
  ·exact absurd (Cx.plain_pl _ _ _ _ _) hn
 cases e with
 | normal => exact fin h1
 | ret => exact fin h1
 | exit id => exact h1.elim
 | goto l => exact h1.elim
 | panic ch => exact h1.elim
 | outgrown => exact h1.elim
theorem wH {P : Program} {f : FuncId} {fn : Func} {c : Code} {ds : List PV} {t : Nat} {V : Vc} (hf : P.funcs[f]? = some fn) (hbody : fn.body = some c) (hname : (fn.name == "runtime.NumGoroutine") = false)
  (hres : fn.results = #[.tmp t])
  (h : ∀ X : Cx,X.P = P → Wide X.F → X.F.round = none → X.Pl → AW X c (kGA t V) ⟨[],ds.map PV.d ++ List.replicate (fn.ntmps - ds.length) .any,[],[]⟩) : ACallsO P f ds V := by
 refine ⟨⟨fn,hf,by rw [hbody]; rfl,hname⟩,fun F n C w vs hF hro hC hv => ?_⟩
 refine callsIn_of_wp_marks hf hbody (hF.fn f) ?_ hro
 have hw := h (.plain F n P w C) rfl hF hro (Cx.plain_pl _ _ _ _ _) _ _ ⟨_,_,bQ (fn := fn) hC hv⟩
 refine wpIn_mono hw fun e a' w' he => ?_
 obtain ⟨σ',h1,γ,C',r'⟩ := he
 have fin : (∃ j,σ'.slots[t]? = some (.vref j) ∧ σ'.vecs[j]? = some (some V)) → LeavesInM F n P fn a'.tmps (fun e w' => ∃ v' us,e = .returned v' ∧ w'.ownsRow w.heap.size V.e V.sz v' V.n us ∧ us.length = V.xs.length ∧
   (∀ (i : Nat) (x : P1) (u : Value),V.xs[i]? = some x → us[i]? = some u → R1 w' (pEA C w w' v') x u) ∧ w.grownBy w' none) a'.defers .returning w' := by
  rintro ⟨j,hs,hV⟩
  obtain ⟨O,hO⟩ := r'.fr
  refine gG _ _ _ hO.2.1 fun w2 hg hsz => ?_
  rcases r'.left hO hg hsz with r2 | hn
  ·obtain ⟨v,us,q1,q2,q3,q4,q5⟩ := r2.vc j V hV
   have hrd := r2.sl t _ hs
   have hval : a'.tmps.getD t undef = v := by
    change RD _ _ _ _ (a'.tmps.getD t undef) at hrd
    generalize a'.tmps.getD t undef = u at hrd
    cases hrd with
    | vref _ _ hj => rw [q1] at hj; injection hj with hj; exact hj.symm
   refine ⟨v,?_,v,us,rfl,fAA q2 (fun g hg => (q5 g hg).2.2),q3,?_,r2.gr.plain⟩
   ·rw [wK,hres,← hval]
    simp [cN]
   ·intro i x u hx hu
    refine (q4 i x u hx hu).keep ⟨fun g hg => ?_,fun _ _ => rfl⟩
    obtain ⟨c1,c2,_⟩ := r2.cc g hg
    rcases c1 with c1 | c1
    ·exact .inl c1
    ·exact .inr ⟨⟨c1,c2⟩,fun hgv => (q5 g hgv).2.1 hg⟩
  ·exact absurd (Cx.plain_pl _ _ _ _ _) hn
 cases e with
 | normal => exact fin h1
 | ret => exact fin h1
 | exit id => exact h1.elim
 | goto l => exact h1.elim
 | panic ch => exact h1.elim
 | outgrown => exact h1.elim
/-- An own result is pure data once nobody writes it any more. -/
theorem ACallsO.pure {P : Program} {f : FuncId} {ds : List PV} {V : Vc} (h : ACallsO P f ds V) : ACalls P f ds (.p (.sl V.n V.xs)) :=
 ⟨h.en,fun F n C w vs hF hro hC hv => (h.h F n C w vs hF hro hC hv).mono fun e w' he => by
  obtain ⟨v,us,rfl,h1,h2,h3,h4⟩ := he
  refine ⟨v,rfl,.p _ _ (uBA h1 h2 (fun i x u hx hu => (h3 i x u hx hu).keep ⟨fun g hg => ?_,fun _ _ => rfl⟩) fun g hg => .inr (oI h1 hg)),h4⟩
  rcases hg with hg | hg
  ·exact .inl hg
  ·exact .inr hg.1⟩
end Go.Proofs.Ytldcoekbgfaomaa
end
section
namespace Go.Proofs.Ytldcoekbgfaomaa
open Go.RowKit
open Classical
section
variable {F : Fence} {n : Nat} {P : Program} {ops : Array Oper} {Q : Exit → Act → World → Prop} {late : Nat → Bool}
/-- Whatever order is picked from here on; what is not late leaves every block as it was. -/
def Gm (F : Fence) (n : Nat) (P : Program) (ops : Array Oper) (Q : Exit → Act → World → Prop) (late : Nat → Bool) : Nat → Array Bool → Act → World → Prop
 | 0,L,a,w => Region.ready .any ops L = [] ∧ Q .normal a w
 | fuel + 1,L,a,w => (Region.ready .any ops L = [] → Q .normal a w) ∧
  ∀ i ∈ Region.ready .any ops L,wpOpIn F n P ops Q i (fun a' w' => (late i = true ∨ w.grownBy w' none) ∧ Gm F n P ops Q late fuel (L.setIfInBounds i true) a' w') a w
theorem iY : ∀ (fuel : Nat) (L : Array Bool) (a : Act) (w : World),Gm F n P ops Q late fuel L a w → wpAnyIn F n P .any ops Q fuel L a w
 | 0,_,_,_,h => h
 | fuel + 1,_,_,_,h => ⟨h.1,fun i hi => wpOpIn_mono (fun a' w' h' => iY fuel _ a' w' h'.2) (h.2 i hi)⟩
/-- The operation yields v,or it is passed over. -/
def Qy (P : Program) (ops : Array Oper) (o : Oper) (v : Value) (a : Act) (w : World) : Prop :=
 (Region.wanted o (yielded ops a.tmps) = true ∧ Yld P a o w v ∧ (∀ c,o.op ≠ .defer c) ∧ ∀ f,o.about P w a.eval = some f → F.fn f) ∨
 (Region.wanted o (yielded ops a.tmps) = false ∧ v = undef)
theorem Qy.wpOpIn (hF : Wide F) {i : Nat} {o : Oper} {v : Value} {a : Act} {w : World} (hi : ops[i]? = some o) (hy : Qy (F := F) P ops o v a w) {K : Act → World → Prop} (h : K (a.put o.dst v) w) : wpOpIn F n P ops Q i K a w := by
 unfold Go.wpOpIn
 simp only [hi]
 rcases hy with ⟨hw,hv,hd,_⟩ | ⟨hw,rfl⟩
 ·simp only [hw,Zr,Oper.wpIn]
  rw [yE hd,hv w (fun _ => Agree.refl w)]
  exact ⟨fun f _ => hF.fn f,h⟩
 ·simp only [hw,Zf,Zq]
  exact ⟨fun f _ => hF.fn f,h⟩
theorem Agree.of_grown {w w' : World} (h : w.grownBy w' none) : Agree w w' := fun g hg => h.block g hg (by simp)
theorem Agree.trans {w w' w'' : World} (h : Agree w w') (hs : w.heap.size ≤ w'.heap.size) (h' : Agree w' w'') : Agree w w'' := fun g hg => (h' g (by omega)).trans (h g hg)
theorem Qy.later (hF : Wide F) {o : Oper} {v : Value} {a a' : Act} {w w' : World} (hy : Qy (F := F) P ops o v a w) (he : execOp a'.eval o = execOp a.eval o) (hw : Region.wanted o (yielded ops a'.tmps) = Region.wanted o (yielded ops a.tmps))
  (hag : Op.isLoad o.op = true → w.grownBy w' none) : Qy (F := F) P ops o v a' w' := by
 rcases hy with ⟨h1,h2,h3,_⟩ | ⟨h1,h2⟩
 ·refine .inl ⟨by rw [hw]; exact h1,fun W hW => ?_,h3,fun f _ => hF.fn f⟩
  rw [he]
  exact h2 W fun hl => (Agree.of_grown (hag hl)).trans (hag hl).size (hW hl)
 ·exact .inr ⟨by rw [hw]; exact h1,h2⟩
/-- Operation j,apart from i: i's value may be in its place already. -/
theorem lGA (hF : Wide F) {j : Nat} {oi oj : Oper} {v : Value} (hj : ops[j]? = some oj) (hap : oi.apart ops oj = true)
  (hsi : ∀ cs b,oi.op ≠ .select cs b) (hsj : ∀ cs b,oj.op ≠ .select cs b) (hdj : ∀ c,oj.op ≠ .defer c)
  (hQ : ∀ c a w,¬ Q (.panic c) a w) {K : Act → World → Prop} {a : Act} {w : World} (hg : Op.isLoad oi.op = true → ∀ a' w',K a' w' → w.grownBy w' none)
  (hy : Qy (F := F) P ops oi v a w) (h : wpOpIn F n P ops Q j K (a.put oi.dst v) w) :
  wpOpIn F n P ops Q j (fun a' w' => Qy (F := F) P ops oi v a' w' ∧ K (a'.put oi.dst v) w') a w := by
 obtain ⟨h1,h2,h3⟩ := Oper.apart_spec hap
 have fin : ∀ (u : Value) (w' : World),K ((a.put oi.dst v).put oj.dst u) w' → Qy (F := F) P ops oi v (a.put oj.dst u) w' ∧ K ((a.put oj.dst u).put oi.dst v) w' := by
  intro u w' hK
  refine ⟨hy.later hF (execOp_put oi hsi a oj.dst u h3) (wanted_put oi a oj.dst u h3) (fun hl => hg hl _ _ hK),?_⟩
  rw [← Act.put_comm a v u h2]
  exact hK
 unfold wpOpIn at *
 simp only [hj] at *
 rw [wanted_put oj a oi.dst v h1] at h
 split
 ·rename_i hw
  simp only [hw,Zr] at h
  unfold Oper.wpIn at *
  refine ⟨fun f _ => hF.fn f,?_⟩
  have h := h.2
  rw [yE hdj] at h ⊢
  rw [execOp_put oj hsj a oi.dst v h1] at h
  generalize (execOp a.eval oj).run P w = r at *
  cases r with
  | ok x w' =>
   cases x <;> simp only [Oper.uponIn] at h ⊢
   case value u => exact fin u w' h
   case skip => exact fin undef w' h
   case defer d =>
    have e0 : execOp ({ a with defers := d :: a.defers } : Act).eval oi = execOp a.eval oi := rfl
    have h' : K (({ a.put oi.dst v with defers := d :: (a.put oi.dst v).defers } : Act).put oj.dst undef) w' := h
    refine ⟨hy.later hF ((execOp_put oi hsi _ oj.dst undef h3).trans e0) (wanted_put oi _ oj.dst undef h3) (fun hl => hg hl _ _ h'),?_⟩
    rw [← Act.put_comm _ v undef h2,← Act.put_defers]
    exact h'
   case enter f args =>
    refine ⟨h.1,CallsIn.mono h.2 fun e w'' he => ?_⟩
    cases e with
    | returned u => exact fin u w'' he
    | panicked c => exact absurd he (hQ _ _ _)
    | outgrown => exact he
   case row row args => exact ⟨h.1,RowsIn.mono h.2 fun u w'' he => fin u w'' he⟩
   case round l f tmps assign body =>
    refine ⟨h.1,RoundIn.mono h.2 fun e w'' he => ?_⟩
    cases e with
    | returned u => exact fin u w'' he
    | panicked c => exact absurd he (hQ _ _ _)
    | outgrown => exact he
  | halt x w' =>
   cases x <;> simp only [Oper.uponIn] at h ⊢
   case panic u => exact absurd h (hQ _ _ _)
 ·rename_i hw
  simp only [hw] at h
  exact ⟨fun f _ => hF.fn f,fin undef w h.2⟩
/-- j waits for i. -/
def anc (ops : Array Oper) : Nat → Nat → Nat → Bool
 | 0,_,_ => false
 | f + 1,j,i => match ops[j]? with
  | some o => o.after.toList.any fun e => Region.binds .any e && (e.on == i || anc ops f e.on i)
  | none => false
def Closed (ops : Array Oper) (L : Array Bool) : Prop :=
 ∀ (k : Nat),L.getD k false = true → ∀ o,ops[k]? = some o → ∀ e ∈ o.after.toList,Region.binds .any e = true → L.getD e.on false = true
theorem uR {L : Array Bool} (hc : Closed ops L) : ∀ (f j i : Nat),anc ops f j i = true → (∀ o,ops[j]? = some o → ∀ e ∈ o.after.toList,Region.binds .any e = true → L.getD e.on false = true) → L.getD i false = true
 | 0,j,i,h,_ => by simp [anc] at h
 | f + 1,j,i,h,hp => by
  simp only [anc] at h
  split at h
  ·rename_i o ho
   rw [List.any_eq_true] at h
   obtain ⟨e,he,h⟩ := h
   rw [Bool.and_eq_true,Bool.or_eq_true] at h
   have h1 := hp o ho e he h.1
   rcases h.2 with h2 | h2
   ·have : e.on = i := by simpa using h2
    rw [← this]; exact h1
   ·exact uR hc f e.on i h2 fun o' ho' e' he' hb' => hc e.on h1 o' ho' e' he' hb'
  ·cases h
theorem cQ {L : Array Bool} {j : Nat} (h : j ∈ Region.ready .any ops L) : L.getD j true = false ∧ ∃ o,ops[j]? = some o ∧ ∀ e ∈ o.after.toList,Region.binds .any e = true → L.getD e.on false = true := by
 obtain ⟨h1,o,ho,h2⟩ := mem_ready.1 h
 exact ⟨h1,o,ho,fun e he hb => h2 e (by simpa using he) hb⟩
theorem mO {L : Array Bool} {j k : Nat} {x : Bool} : (L.setIfInBounds j true).getD k x = if j = k ∧ j < L.size then true else L.getD k x := by
 simp only [Array.getD_eq_getD_getElem?,Array.getElem?_setIfInBounds]
 by_cases h : j = k
 ·subst h
  by_cases h2 : j < L.size
  ·simp [h2]
  ·simp [h2]
 ·simp [h]
theorem Closed.next {L : Array Bool} (hc : Closed ops L) {j : Nat} (hj : j ∈ Region.ready .any ops L) : Closed ops (L.setIfInBounds j true) := by
 obtain ⟨_,oj,hoj,hall⟩ := cQ hj
 intro k hk o ho e he hb
 rw [mO] at hk ⊢
 split
 ·rfl
 ·split at hk
  ·rename_i h1
   obtain ⟨rfl,_⟩ := h1
   rw [hoj] at ho
   injection ho with ho
   subst ho
   exact hall e he hb
  ·exact hc k hk o ho e he hb
/-- May number i be taken first? -/
def sU (ops : Array Oper) (late : Nat → Bool) (L : Array Bool) (i : Nat) : Bool :=
 (List.range ops.size).all fun j => !late j || L.getD j true || j == i || anc ops ops.size j i
theorem jW (hF : Wide F) {i : Nat} {oi : Oper} {v : Value} (hi : ops[i]? = some oi) (hsel : ∀ (j : Nat) (o : Oper) cs b,ops[j]? = some o → o.op ≠ .select cs b)
  (hdef : ∀ (j : Nat) (o : Oper) c,ops[j]? = some o → o.op ≠ .defer c) (hQ : ∀ c a w,¬ Q (.panic c) a w) :
  ∀ (fuel : Nat) (L : Array Bool) (a : Act) (w : World),Closed ops L → L.size = ops.size →
   (∀ j oj,ops[j]? = some oj → j ≠ i → L.getD j true = false → (∀ e ∈ oj.after,Region.binds .any e = true → e.on ≠ i) → oi.apart ops oj = true) →
   (Op.isLoad oi.op = true → ∀ j,late j = true → L.getD j true = false → j ≠ i → anc ops ops.size j i = true) →
   i ∈ Region.ready .any ops L → Qy (F := F) P ops oi v a w →
   Gm F n P ops Q late fuel (L.setIfInBounds i true) (a.put oi.dst v) w → Gm F n P ops Q late (fuel + 1) L a w := by
 intro fuel
 induction fuel with
 | zero =>
  intro L a w _ _ _ _ hr hy H
  refine ⟨fun h => (by rw [h] at hr; cases hr),fun j hj => ?_⟩
  by_cases hji : j = i
  ·subst hji; exact hy.wpOpIn hF hi ⟨.inr ⟨rfl,rfl,rfl,Nat.le_refl _,fun _ _ _ => rfl⟩,H⟩
  ·have := ready_mono hj hji
   rw [H.1] at this
   cases this
 | succ fuel ih =>
  intro L a w hcl hsz hfree hlate hr hy H
  refine ⟨fun h => (by rw [h] at hr; cases hr),fun j hj => ?_⟩
  by_cases hji : j = i
  ·subst hji; exact hy.wpOpIn hF hi ⟨.inr ⟨rfl,rfl,rfl,Nat.le_refl _,fun _ _ _ => rfl⟩,H⟩
  ·have h1 := H.2 j (ready_mono hj hji)
   obtain ⟨hjun,oj,hoj,hall⟩ := cQ hj
   have hi0 : L.getD i true = false := (cQ hr).1
   have hil : i < ops.size := (Array.getElem?_eq_some_iff.1 hi).1
   have hi0' : L.getD i false = false := by
    rw [Array.getD_eq_getD_getElem?,Array.getElem?_eq_getElem (by omega)] at hi0 ⊢
    exact hi0
   have hnot : ∀ e ∈ oj.after,Region.binds .any e = true → e.on ≠ i := fun e he hb heq => by
    have h1 := hall e (by simpa using he) hb
    rw [heq,hi0'] at h1
    cases h1
   have hnl : Op.isLoad oi.op = true → late j = false := fun hl => by
    cases hlj : late j with
    | false => rfl
    | true =>
     have h2 := hlate hl j hlj hjun hji
     have := uR hcl _ j i h2 fun o ho e he hb => by
      rw [hoj] at ho
      injection ho with ho
      subst ho
      exact hall e he hb
     rw [hi0'] at this
     cases this
   have h2 := lGA hF hoj (hfree j oj hoj hji hjun hnot) (fun cs b => hsel i oi cs b hi) (fun cs b => hsel j oj cs b hoj) (fun c => hdef j oj c hoj) hQ
    (fun hl a' w' hK => by
     rcases hK.1 with h | h
     ·rw [hnl hl] at h; cases h
     ·exact h) hy h1
   have hun : ∀ k,k ≠ j → (L.setIfInBounds j true).getD k true = false → L.getD k true = false := fun k hk h => by
    rw [mO,if_neg (by intro h'; exact hk h'.1.symm)] at h
    exact h
   have hunj : ∀ k,(L.setIfInBounds j true).getD k true = false → k ≠ j := fun k h e => by
    subst e
    rw [mO] at h
    have : k < L.size := by rw [hsz]; exact (Array.getElem?_eq_some_iff.1 hoj).1
    rw [if_pos ⟨rfl,this⟩] at h
    cases h
   refine wpOpIn_mono (fun a' w' h3 => ⟨h3.2.1,ih (L.setIfInBounds j true) a' w' (hcl.next hj) (by simp [hsz]) ?_ ?_ (ready_mono hr (Ne.symm hji)) h3.1 ?_⟩) h2
   ·exact fun k ok hk hki hu hno => hfree k ok hk hki (hun k (hunj k hu) hu) hno
   ·exact fun hl k hlk hu hki => hlate hl k hlk (hun k (hunj k hu) hu) hki
   ·rw [Array.setIfInBounds_comm _ _ hji]
    exact h3.2.2
/-- An order that serves all: what is taken first (true),and what must come next. -/
def wBA (ops : Array Oper) (late : Nat → Bool) : List (Nat × Bool) → Array Bool → Bool
 | [],L => (Region.ready .any ops L).isEmpty
 | (i,q) :: r,L =>
  (if q then (Region.ready .any ops L).contains i && Region.free .any ops L i && (match ops[i]? with | some o => !Op.isLoad o.op || sU ops late L i | none => false)
   else (Region.ready .any ops L) == [i]) && wBA ops late r (L.setIfInBounds i true)
def uN (ops : Array Oper) : Bool := ops.toList.all fun o => match o.op with
 | .defer _ => false
 | _ => true
def yL (ops : Array Oper) (j : Nat) : Bool := match ops[j]? with
 | some o => !Op.growsB o.op
 | none => false
def vR (ops : Array Oper) (ord : List (Nat × Bool)) : Bool :=
 Region.noSelect ops && uN ops && ord.length == ops.size && wBA ops (yL ops) ord (Array.replicate ops.size false)
theorem eP (h : uN ops = true) : ∀ (j : Nat) (o : Oper) c,ops[j]? = some o → o.op ≠ .defer c := by
 intro j o c ho hd
 simp only [uN,List.all_eq_true] at h
 have := h o (by simpa using Array.mem_of_getElem? ho)
 rw [hd] at this
 cases this
/-- The walk in that order. -/
def wR (F : Fence) (n : Nat) (P : Program) (ops : Array Oper) (Q : Exit → Act → World → Prop) (late : Nat → Bool) : List (Nat × Bool) → Act → World → Prop
 | [],a,w => Q .normal a w
 | (i,q) :: r,a,w =>
  if q = true then ∃ o v,ops[i]? = some o ∧ Qy (F := F) P ops o v a w ∧ wR F n P ops Q late r (a.put o.dst v) w
  else wpOpIn F n P ops Q i (fun a' w' => (late i = true ∨ w.grownBy w' none) ∧ wR F n P ops Q late r a' w') a w
theorem tU (hF : Wide F) (hs : Region.noSelect ops = true) (hd : uN ops = true) (hQ : ∀ c a w,¬ Q (.panic c) a w) : ∀ (ord : List (Nat × Bool)) (L : Array Bool) (a : Act) (w : World),Closed ops L → L.size = ops.size →
  wBA ops late ord L = true → wR F n P ops Q late ord a w → Gm F n P ops Q late ord.length L a w
 | [],L,a,w,_,_,h,hg => by
  simp only [wBA,List.isEmpty_iff] at h
  exact ⟨h,hg⟩
 | (i,q) :: r,L,a,w,hc,hsz,h,hg => by
  simp only [wBA,Bool.and_eq_true] at h
  obtain ⟨h1,h2⟩ := h
  cases q with
  | true =>
   simp only [Zr,Bool.and_eq_true] at h1
   obtain ⟨⟨hr,hf⟩,hl⟩ := h1
   simp only [wR,Zr] at hg
   obtain ⟨o,v,ho,hy,hg⟩ := hg
   have hri : i ∈ Region.ready .any ops L := by simpa using hr
   refine jW hF ho (Region.noSelect_spec hs) (eP hd) hQ r.length L a w hc hsz (Region.free_spec ho hf) ?_ hri hy (tU hF hs hd hQ r _ _ _ (hc.next hri) (by simp [hsz]) h2 hg)
   intro hload j hlj hun hji
   rw [ho] at hl
   simp only [hload,Bool.not_true,Bool.false_or] at hl
   simp only [sU,List.all_eq_true,List.mem_range] at hl
   have hjl : j < ops.size := by
    rcases Nat.lt_or_ge j L.size with h' | h'
    ·omega
    ·rw [Array.getD_eq_getD_getElem?,Array.getElem?_eq_none h'] at hun; cases hun
   have := hl j hjl
   simp only [hlj,hun,Bool.not_true,Bool.false_or,Bool.or_eq_true,ZJ] at this
   rcases this with h | h
   ·exact absurd h hji
   ·exact h
  | false =>
   simp only [Zf,Zq,ZJ] at h1
   simp only [wR,Zf,Zq] at hg
   have hri : i ∈ Region.ready .any ops L := by rw [h1]; simp
   refine ⟨(fun h0 => by rw [h1] at h0; cases h0),fun j hj => ?_⟩
   rw [h1] at hj
   simp only [List.mem_singleton] at hj
   subst hj
   exact wpOpIn_mono (fun a' w' h => ⟨h.1,tU hF hs hd hQ r _ _ _ (hc.next hri) (by simp [hsz]) h2 h.2⟩) hg
/-- **A region that draws its order,walked in one.** -/
theorem xR (hF : Wide F) {id : Nat} {a : Act} {w : World} (hm : P.follows .mixedOrders = true) {ord : List (Nat × Bool)} (hok : vR ops ord = true) {Q' : Exit → Act → World → Prop}
  (h : wR F n P ops (fun e a w => e = .normal ∧ Q' .normal a w) (yL ops) ord a { w with drawn := w.drawn + 1 }) : (Code.region id ops true).wpIn F n P Q' a w := by
 simp only [vR,Bool.and_eq_true,ZJ] at hok
 obtain ⟨⟨⟨h1,h2⟩,h3⟩,h4⟩ := hok
 refine wpIn_mono (Q := fun e a w => e = .normal ∧ Q' .normal a w) ?_ (fun e a w he => by obtain ⟨rfl,h⟩ := he; exact h)
 refine wpIn_region_any hm (iY (late := yL ops) _ _ _ _ ?_)
 have hc : Closed ops (Array.replicate ops.size false) := by
  intro k hk o ho e he hb
  rw [Array.getD_eq_getD_getElem?,Array.getElem?_replicate] at hk
  split at hk <;> cases hk
 have := tU hF h1 h2 (fun c a w h => by cases h.1) ord _ a _ hc (by simp) h4 h
 rw [h3] at this
 exact this
end
end Go.Proofs.Ytldcoekbgfaomaa
end
section
namespace Go.Proofs.Ytldcoekbgfaomaa
open Go.RowKit
open Classical
noncomputable def sD (P : Program) (b : Tb) (ops : Array Oper) : List (Nat × Bool) → St → (St → Prop) → Prop
 | [],σ,K => K σ
 | (i,q) :: rest,σ,K => match ops[i]? with
  | none => False
  | some o => match gd σ ops o with
   | some true => if q = true then (match qop b σ o.op with
     | some d => sD P b ops rest (σ.put o.dst d) K
     | none => False)
    else AOp P b o σ (fun σ' => sD P b ops rest σ' K) ∨ AOpL P o σ (fun σ' => sD P b ops rest σ' K)
   | some false => sD P b ops rest (σ.put o.dst (.tup [])) K
   | none => False
section
variable {X : Cx} {b : Tb} {σ : St} {a : Act} {w : World} {γ : Gh} {C : Nat → Prop}
theorem dN (w : World) (row : Option Nat) : w.grownBy w row := ⟨rfl,rfl,rfl,Nat.le_refl _,fun _ _ _ => rfl⟩
/-- One operation in a region that draws. -/
theorem kZ (hX : Wide X.F) (hb : b.Ok X.P) {ops : Array Oper} {i : Nat} {o : Oper} (ho : ops[i]? = some o) (hw : Region.wanted o (yielded ops a.tmps) = true) {K : St → Prop} (h : AOp X.P b o σ K) (hs : Sat X σ a w)
  {Q : Exit → Act → World → Prop} {N : Act → World → Prop} (hN : ∀ σ' a' w',K σ' → Sat X σ' a' w' → N a' w') :
  wpOpIn X.F X.n X.P ops Q i (fun a' w' => (yL ops i = true ∨ w.grownBy w' none) ∧ N a' w') a w := by
 unfold wpOpIn
 simp only [ho,hw,Zr]
 obtain ⟨γ,C,r⟩ := hs
 refine ⟨fun f _ => hX.fn f,?_⟩
 unfold AOp at h
 split at h
 ·rename_i f ds hcall
  obtain ⟨c,fo,hop,hc,hf,hv⟩ := tT r hcall
  obtain ⟨dst,op,ty,pos,after,guard⟩ := o
  simp only at hop h
  subst hop
  have e : (c.args.toList.map a.eval).toArray = c.args.map a.eval := by apply Array.ext'; simp
  rcases h with ⟨rr,hac,hK⟩ | ⟨V,hac,hK⟩
  ·rw [yE (by intro c h; cases h),oG hc hf hac.en]
   refine ⟨fun hd => by simp [hX.depth] at hd,?_⟩
   have := hac.any hX (X.n - 1) C w _ (fun g hg => (r.cc g hg).2.1) hv
   rw [e] at this
   refine this.mono fun e w' he => ?_
   obtain ⟨v,rfl,hr,hg⟩ := he
   exact ⟨.inr hg,hN _ _ _ hK (sK r dst hr hg)⟩
  ·rw [yE (by intro c h; cases h),oG hc hf hac.en]
   refine ⟨fun hd => by simp [hX.depth] at hd,?_⟩
   have := hac.any hX (X.n - 1) C w _ (fun g hg => (r.cc g hg).2.1) hv
   rw [e] at this
   refine this.mono fun e w' he => ?_
   obtain ⟨v,us,rfl,h1,h2,h3,h4⟩ := he
   exact ⟨.inr h4,hN _ _ _ hK (lO r dst h1 h2 h3 h4)⟩
 ·split at h
  ·rename_i d hq
   obtain ⟨v,hv,hy⟩ := qU hb r hq
   rw [yE (vJ hq),hy w (fun _ => Agree.refl w)]
   exact ⟨.inr (dN w _),hN _ _ _ h ⟨γ,C,r.put o.dst d v hv⟩⟩
  ·split at h
   ·rename_i σ' hf
    obtain ⟨nx,v,w',hrun,hnx,hgr,hsat⟩ := nBA hb r hf
    have hl : yL ops i = true ∨ w.grownBy w' none := by
     unfold yL
     rw [ho]
     cases hgb : Op.growsB o.op with
     | true => exact .inr (hgr hgb)
     | false => left; simp [hgb]
    rw [yE (bO hf),hrun]
    rcases hnx with rfl | ⟨rfl,rfl⟩
    ·exact ⟨hl,hN _ _ _ h hsat⟩
    ·exact ⟨hl,hN _ _ _ h hsat⟩
   ·exact h.elim
theorem lW (hX : Wide X.F) {ops : Array Oper} {i : Nat} {o : Oper} (ho : ops[i]? = some o) (hw : Region.wanted o (yielded ops a.tmps) = true) {K : St → Prop} (h : AOpL X.P o σ K) (hs : Sat X σ a w)
  {Q : Exit → Act → World → Prop} {N : Act → World → Prop} (hN : ∀ σ' a' w',K σ' → Sat X σ' a' w' → N a' w') :
  wpOpIn X.F X.n X.P ops Q i (fun a' w' => (yL ops i = true ∨ w.grownBy w' none) ∧ N a' w') a w := by
 unfold wpOpIn
 simp only [ho,hw,Zr]
 exact jZ hX h hs fun σ' a' w' hg hK hs' => ⟨.inr hg,hN σ' a' w' hK hs'⟩
theorem zL (hX : Wide X.F) (hb : b.Ok X.P) {ops : Array Oper} {Q : Exit → Act → World → Prop} : ∀ (l : List (Nat × Bool)) {σ : St} {K : St → Prop} {a : Act} {w : World},sD X.P b ops l σ K → Sat X σ a w →
  (∀ σ' a' w',K σ' → Sat X σ' a' w' → Q .normal a' w') → wR X.F X.n X.P ops Q (yL ops) l a w
 | [],σ,K,a,w,h,hs,hQ => hQ σ a w h hs
 | (i,q) :: rest,σ,K,a,w,h,hs,hQ => by
  simp only [sD] at h
  cases ho : ops[i]? with
  | none => rw [ho] at h; exact h.elim
  | some o =>
   rw [ho] at h
   simp only at h
   obtain ⟨γ,C,r⟩ := hs
   cases hg : gd σ ops o with
   | none => rw [hg] at h; exact h.elim
   | some t =>
    rw [hg] at h
    have hwt := oBA r hg
    cases t with
    | true =>
     cases q with
     | true =>
      simp only [Zr] at h
      cases hq : qop b σ o.op with
      | none => rw [hq] at h; exact h.elim
      | some d =>
       rw [hq] at h
       obtain ⟨v,hv,hy⟩ := qU hb r hq
       simp only [wR,Zr]
       exact ⟨o,v,ho,.inl ⟨hwt,hy,vJ hq,fun f _ => hX.fn f⟩,zL hX hb rest h ⟨γ,C,r.put o.dst d v hv⟩ hQ⟩
     | false =>
      simp only [wR,Zf,Zq] at h ⊢
      rcases h with h | h
      ·exact kZ hX hb ho hwt h ⟨γ,C,r⟩ fun σ' a' w' hK hs' => zL hX hb rest hK hs' hQ
      ·exact lW hX ho hwt h ⟨γ,C,r⟩ fun σ' a' w' hK hs' => zL hX hb rest hK hs' hQ
    | false =>
     have hr := r.put o.dst (.tup []) undef lR
     have ih := zL hX hb rest h ⟨γ,C,hr⟩ hQ
     cases q with
     | true =>
      simp only [wR,Zr]
      exact ⟨o,undef,ho,.inr ⟨hwt,rfl⟩,ih⟩
     | false =>
      simp only [wR,Zf,Zq]
      unfold wpOpIn
      simp only [ho,hwt,Zf,Zq]
      exact ⟨fun f _ => hX.fn f,.inr (dN w _),ih⟩
theorem Sat.drew (h : Sat X σ a w) : Sat X σ a { w with drawn := w.drawn + 1 } := by
 obtain ⟨γ,C,r⟩ := h
 exact ⟨γ,C,r.grow0 ⟨rfl,rfl,rfl,Nat.le_refl _,fun _ _ _ => rfl⟩⟩
/-- **A region that draws its order.** -/
theorem xBA (hX : Wide X.F) (hb : b.Ok X.P) (hm : X.P.follows .mixedOrders = true) {id : Nat} {ops : Array Oper} (ord : List (Nat × Bool)) (hok : vR ops ord = true) {Q : Exit → St → Prop} (h : sD X.P b ops ord σ (Q .normal)) :
  AW X (.region id ops true) Q σ :=
 fun _ _ hs => xR hX hm hok (zL hX hb ord h hs.drew fun σ' _ _ hQ hs' => ⟨rfl,σ',hQ,hs'⟩)
end
end Go.Proofs.Ytldcoekbgfaomaa
end
