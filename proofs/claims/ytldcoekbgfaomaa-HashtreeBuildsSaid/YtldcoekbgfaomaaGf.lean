/- The walk of the code of hash trees, part Gf of the proof. No conditions. -/
import Derived.WalkKit
import Derived.ProofKit
import Derived.OpenShut
import Derived.ShutString
import Derived.ChangeOld
import Derived.SizedLaws
import Derived.Deep.Slices
import Derived.Carry
import Derived.Test.YtldcoekbgfaomaaGe
section
namespace Go.Proofs.Ytldcoekbgfaomaa
open Go.RowKit Go.ChangeShapes Go.WideShapes

section
variable {H : Type} {enc : TypeId × Value → H} {W : World}
/-- All that is there. -/
def AllC (W : World) (g : Nat) : Prop := g < W.heap.size

theorem list2 {α : Type} : ∀ {l : List α}, l.length = 2 → ∃ a b, l = [a, b]
  | [a, b], _ => ⟨a, b, rfl⟩
theorem list3 {α : Type} : ∀ {l : List α}, l.length = 3 → ∃ a b c, l = [a, b, c]
  | [a, b, c], _ => ⟨a, b, c, rfl⟩
theorem opn_sl {α : Type} (F : α → List P1) (k : Nat) (hF : ∀ a, (F a).length = k) (hk0 : 0 < k) {t e : TypeId} (ht : Try.prog.underlying t = some (.slice e)) (hk : Try.prog.cellsOf e = k)
    (hE : ∀ (n : Nat) (cs : List Value) (x : DataW H × List MemPlace), DataW.trod enc Try.prog W 0 (fun _ => true) true n e cs = some x → cs.length = k → ∃ a : α, ∀ (j : Nat) (y : P1) (u : Value), (F a)[j]? = some y → cs[j]? = some u → R1 W (AllC W) y u)
    {n : Nat} {v : Value} {x : DataW H × List MemPlace} (h : DataW.trod enc Try.prog W 0 (fun _ => true) true n t [v] = some x) : ∃ l : List α, R1 W (AllC W) (.sl l.length (l.flatMap F)) v := by
  rcases Go.Deep.open_slice ht h with ⟨hv, _⟩ | ⟨a, len, cap, m, fu, D, Pl, hv, _, hl, hm, hmm, _, hel⟩
  · simp only [List.cons.injEq,Zs] at hv
    subst hv
    exact ⟨[], .nil _ _⟩
  · simp only [List.cons.injEq,Zs] at hv
    subst hv
    simp only [Zr] at hmm
    subst hmm
    have key : ∀ q, q ≤ len → ∃ (l : List α) (us : List Value), l.length = q ∧ us.length = q * k ∧ (∀ (j : Nat) (u : Value), us[j]? = some u → W.cell? (a.add j) = some u) ∧
        ∀ (j : Nat) (y : P1) (u : Value), (l.flatMap F)[j]? = some y → us[j]? = some u → R1 W (AllC W) y u := by
      intro q
      induction q with
      | zero => exact fun _ => ⟨[], [], rfl, by simp, fun j u h => by simp at h, fun j y u h => by simp at h⟩
      | succ q ih =>
        intro hq
        obtain ⟨l, us, h1, h2, h3, h4⟩ := ih (by omega)
        obtain ⟨cs, c1, c2⟩ := hel q (by omega)
        rw [hk] at c1
        obtain ⟨_, c3, c4⟩ := World.cells?_some c1
        obtain ⟨al, ha⟩ := hE fu cs _ c2 c3
        have hfl : (l.flatMap F).length = q * k := by rw [flat_length F k hF, h1]
        refine ⟨l ++ [al], us ++ cs, by simp [h1], by rw [List.length_append, h2, c3, Nat.succ_mul], fun j u hu => ?_, fun j y u hy hu => ?_⟩
        · rw [List.getElem?_append] at hu
          split at hu
          · exact h3 j u hu
          · rename_i hj
            have hlt := (List.getElem?_eq_some_iff.1 hu).1
            have := c4 (j - us.length) (by omega)
            rw [hu, Go.Deep.add_add, show q * k + (j - us.length) = j from by omega] at this
            exact this
        · rw [List.flatMap_append, List.getElem?_append, hfl] at hy
          rw [List.getElem?_append, h2] at hu
          split at hy
          · rename_i hj
            rw [if_pos hj] at hu
            exact h4 j y u hy hu
          · rename_i hj
            rw [if_neg hj] at hu
            exact ha _ y u (by simpa using hy) hu
    obtain ⟨l, us, h1, h2, h3, h4⟩ := key len (Nat.le_refl _)
    refine ⟨l, ?_⟩
    rw [h1]
    rcases Nat.eq_zero_or_pos len with h0 | h0
    · subst h0
      rw [List.length_eq_zero_iff.1 h1]
      exact .nil _ _
    · have hp : 0 < us.length := by rw [h2]; exact Nat.mul_pos h0 hk0
      have hc := h3 0 us[0] (List.getElem?_eq_getElem hp)
      have hspot : a.spot = none := by
        have e : a.add 0 = a := by unfold Addr.add; simp
        rw [e] at hc
        unfold World.cell? at hc
        split at hc
        · split at hc
          · cases hc
          · rename_i hs
            cases hsp : a.spot with
            | none => rfl
            | some s => rw [hsp] at hs; simp at hs
        · cases hc
      obtain ⟨g, o, sp⟩ := a
      simp only at hspot
      subst hspot
      refine .sl len g o _ _ us hl hm ?_ (by rw [h2, flat_length F k hF, h1]) (fun j u hu => by have := h3 j u hu; rwa [add_lit] at this) h4
      exact World.block_lt_of_cell? W _ hc
theorem opn_int {t : TypeId} {k : IntKind} (ht : Try.prog.underlying t = some (.int k)) {n : Nat} {cs : List Value} {x : DataW H × List MemPlace} (h : DataW.trod enc Try.prog W 0 (fun _ => true) true n t cs = some x) : ∃ m, cs = [.int k m] := by
  obtain ⟨m, hm, _⟩ := DataW.trod_int ht h
  exact ⟨m, hm⟩
theorem opn_ints {t e : TypeId} {k : IntKind} (ht : Try.prog.underlying t = some (.slice e)) (he : Try.prog.underlying e = some (.int k)) (hc : Try.prog.cellsOf e = 1) {n : Nat} {v : Value} {x : DataW H × List MemPlace} (h : DataW.trod enc Try.prog W 0 (fun _ => true) true n t [v] = some x) :
    ∃ l : List Int, R1 W (AllC W) (.sl l.length (l.map fun a => .v (.int k a))) v := by
  obtain ⟨l, hl⟩ := opn_sl (fun a : Int => [P1.v (.int k a)]) 1 (fun _ => rfl) (by omega) ht hc (fun n cs x hx _ => by
    obtain ⟨m, rfl⟩ := opn_int he hx
    refine ⟨m, fun j y u hy hu => ?_⟩
    cases j with
    | zero => simp at hy hu; subst hy; subst hu; exact .v _ rfl
    | succ j => simp at hy) h
  refine ⟨l, ?_⟩
  have e : l.flatMap (fun a : Int => [P1.v (.int k a)]) = l.map fun a => .v (.int k a) := by
    clear hl
    induction l with
    | nil => rfl
    | cons a l ih => exact congrArg (P1.v (.int k a) :: ·) ih
  rwa [e] at hl
theorem opn_sec {n : Nat} {cs : List Value} {x : DataW H × List MemPlace} (h : DataW.trod enc Try.prog W 0 (fun _ => true) true n 50 cs = some x) : ∃ s : List Int, ∀ (j : Nat) (y : P1) (u : Value), (sec8 s)[j]? = some y → cs[j]? = some u → R1 W (AllC W) y u := by
  obtain ⟨xs, m, _, _, hl, hxl, hel⟩ := DataW.trod_array Try.underlying50 h
  have c5 : Try.prog.cellsOf 5 = 1 := by kernel_rfl
  have c50 : Try.prog.cellsOf 50 = 8 := by kernel_rfl
  have each : ∀ i, i < 8 → ∃ z, cs[i]? = some (.int .u8 z) := by
    intro i hi
    have := hel i hi
    rw [c5, Nat.mul_one, List.getElem?_eq_getElem (by omega)] at this
    obtain ⟨z, hz⟩ := opn_int Try.underlying5 this
    refine ⟨z, ?_⟩
    have h1 := congrArg (fun l => l[0]?) hz
    simp only [List.getElem?_take,List.getElem?_drop,ZD] at h1
    simpa using h1
  refine ⟨cs.map fun u => match u with | .int _ z => z | _ => 0, fun j y u hy hu => ?_⟩
  have hj : j < 8 := by have := (List.getElem?_eq_some_iff.1 hu).1; omega
  obtain ⟨z, hz⟩ := each j hj
  rw [hu] at hz
  injection hz with hz
  subst hz
  rw [sec8_at _ _ hj] at hy
  injection hy with hy
  subst hy
  rw [List.getD_eq_getElem?_getD, List.getElem?_map, hu]
  exact .v _ rfl
theorem opn_secs {n : Nat} {v : Value} {x : DataW H × List MemPlace} (h : DataW.trod enc Try.prog W 0 (fun _ => true) true n 22 [v] = some x) : ∃ l : List (List Int), R1 W (AllC W) (secs l) v :=
  opn_sl sec8 8 sec8_length (by omega) Try.underlying22 (by kernel_rfl) (fun n cs x hx _ => opn_sec hx) h
theorem opn_ext {n : Nat} {cs : List Value} {x : DataW H × List MemPlace} (h : DataW.trod enc Try.prog W 0 (fun _ => true) true n 35 cs = some x) : ∃ e : Int × Int, cs = [.int .i64 e.1, .int .i64 e.2] := by
  obtain ⟨xs, m, _, _, hl, hxl, hel⟩ := DataW.trod_struct Try.underlying35 h
  have c3 : Try.prog.cellsOf 3 = 1 := by kernel_rfl
  have c35 : Try.prog.cellsOf 35 = 2 := by kernel_rfl
  rw [c35] at hl
  obtain ⟨u0, u1, rfl⟩ := list2 hl
  have h0 : DataW.trod enc Try.prog W 0 (fun _ => true) true m 3 (([u0, u1].drop 0).take (Try.prog.cellsOf 3)) = xs[0]? := hel 0 _ rfl
  have h1 : DataW.trod enc Try.prog W 0 (fun _ => true) true m 3 (([u0, u1].drop 1).take (Try.prog.cellsOf 3)) = xs[1]? := hel 1 _ rfl
  have hx2 : xs.length = 2 := hxl
  rw [List.getElem?_eq_getElem (by omega), c3] at h0 h1
  obtain ⟨z0, e0⟩ := opn_int Try.underlying3 h0
  obtain ⟨z1, e1⟩ := opn_int Try.underlying3 h1
  simp at e0 e1
  exact ⟨(z0, z1), by simp [e0, e1]⟩
theorem opn_lvls {n : Nat} {v : Value} {x : DataW H × List MemPlace} (h : DataW.trod enc Try.prog W 0 (fun _ => true) true n 24 [v] = some x) : ∃ l : List (List Int), R1 W (AllC W) (lvls l) v := by
  obtain ⟨l, hl⟩ := opn_sl (fun a : List Int => [u64s a]) 1 (fun _ => rfl) (by omega) Try.underlying24 (by kernel_rfl) (fun n cs x hx hc => by
    match cs, hc with
    | [u], _ =>
    obtain ⟨r, hr⟩ := opn_ints Try.underlying60 Try.underlying58 (by kernel_rfl) hx
    refine ⟨r, fun j y u' hy hu => ?_⟩
    cases j with
    | zero => simp at hy hu; subst hy; subst hu; exact hr
    | succ j => simp at hy) h
  refine ⟨l, ?_⟩
  have e : ∀ l : List (List Int), l.flatMap (fun a : List Int => [u64s a]) = l.map u64s := by
    intro l
    induction l with
    | nil => rfl
    | cons a l ih => simp only [List.flatMap_cons,ZG,ZL,ZM,ih]
  rwa [e] at hl
theorem opn_tree {n : Nat} {cs : List Value} {x : DataW H × List MemPlace} (h : DataW.trod enc Try.prog W 0 (fun _ => true) true n 26 cs = some x) : ∃ t : Tr, RV W (AllC W) (trP t) (.agg cs.toArray) := by
  obtain ⟨xs, m, _, _, hl, hxl, hel⟩ := DataW.trod_struct Try.underlying26 h
  have c3 : Try.prog.cellsOf 3 = 1 := by kernel_rfl
  have c24 : Try.prog.cellsOf 24 = 1 := by kernel_rfl
  have c26 : Try.prog.cellsOf 26 = 3 := by kernel_rfl
  rw [c26] at hl
  obtain ⟨u0, u1, u2, rfl⟩ := list3 hl
  have h0 : DataW.trod enc Try.prog W 0 (fun _ => true) true m 3 (([u0, u1, u2].drop 0).take (Try.prog.cellsOf 3)) = xs[0]? := hel 0 _ rfl
  have h1 : DataW.trod enc Try.prog W 0 (fun _ => true) true m 3 (([u0, u1, u2].drop 1).take (Try.prog.cellsOf 3)) = xs[1]? := hel 1 _ rfl
  have h2 : DataW.trod enc Try.prog W 0 (fun _ => true) true m 24 (([u0, u1, u2].drop 2).take (Try.prog.cellsOf 24)) = xs[2]? := hel 2 _ rfl
  have hx2 : xs.length = 3 := hxl
  rw [List.getElem?_eq_getElem (by omega)] at h0 h1 h2
  rw [c3] at h0 h1
  rw [c24] at h2
  obtain ⟨z0, e0⟩ := opn_int Try.underlying3 h0
  obtain ⟨z1, e1⟩ := opn_int Try.underlying3 h1
  obtain ⟨l, hlv⟩ := opn_lvls (show DataW.trod enc Try.prog W 0 (fun _ => true) true m 24 [u2] = some _ from h2)
  simp at e0 e1
  subst e0
  subst e1
  refine ⟨⟨z0, z1, l⟩, .agg _ [.int .i64 z0, .int .i64 z1, u2] rfl fun j y u hy hu => ?_⟩
  match j with
  | 0 => simp at hy hu; subst hy; subst hu; exact .v _ rfl
  | 1 => simp at hy hu; subst hy; subst hu; exact .v _ rfl
  | 2 => simp at hy hu; subst hy; subst hu; exact hlv
  | j + 3 => simp at hy
end
theorem rvs_nil {W : World} {C : Nat → Prop} : RVs W C [] [] := ⟨rfl, fun j d u h => by simp at h⟩
theorem rvs_cons {W : World} {C : Nat → Prop} {d : PV} {v : Value} {ds : List PV} {vs : List Value} (h : RV W C d v) (hs : RVs W C ds vs) : RVs W C (d :: ds) (v :: vs) := by
  refine ⟨by simp [hs.1], fun j x u hx hu => ?_⟩
  cases j with
  | zero => simp at hx hu; subst hx; subst hu; exact h
  | succ j => exact hs.2 j x u (by simpa using hx) (by simpa using hu)
theorem rv_tree {H : Type} {enc : TypeId × Value → H} {W : World} {cs : Array Value} {d : DataW H} {p : List MemPlace} (h : DataW.Trod enc Try.prog W 0 (fun _ => true) true 26 (.agg cs) d p) : ∃ t : Tr, RV W (AllC W) (trP t) (.agg cs) := by
  obtain ⟨m, hm⟩ := h
  exact opn_tree (show DataW.trod enc Try.prog W 0 (fun _ => true) true m 26 cs.toList = some _ from hm)
theorem rv_ext {H : Type} {enc : TypeId × Value → H} {W : World} {cs : Array Value} {d : DataW H} {p : List MemPlace} (h : DataW.Trod enc Try.prog W 0 (fun _ => true) true 35 (.agg cs) d p) : ∃ e : Int × Int, RV W (AllC W) (.agg [i64 e.1, i64 e.2]) (.agg cs) := by
  obtain ⟨m, hm⟩ := h
  obtain ⟨e, he⟩ := opn_ext (show DataW.trod enc Try.prog W 0 (fun _ => true) true m 35 cs.toList = some _ from hm)
  refine ⟨e, ?_⟩
  obtain ⟨l⟩ := cs
  simp only at he
  subst he
  exact .agg _ _ rfl fun j y u hy hu => by
    match j with
    | 0 => simp at hy hu; subst hy; subst hu; exact .v _ rfl
    | 1 => simp at hy hu; subst hy; subst hu; exact .v _ rfl
    | j + 2 => simp at hy
theorem rv_secs {H : Type} {enc : TypeId × Value → H} {W : World} {v : Value} {d : DataW H} {p : List MemPlace} (hv : v.cells = #[v]) (h : DataW.Trod enc Try.prog W 0 (fun _ => true) true 22 v d p) : ∃ l : List (List Int), RV W (AllC W) (.p (secs l)) v := by
  obtain ⟨m, hm⟩ := h
  rw [hv] at hm
  obtain ⟨l, hl⟩ := opn_secs hm
  exact ⟨l, .p _ _ hl⟩
/-- From a contract to the row's call. -/
theorem row_call {f : FuncId} {ds : List PV} (h : ACalls Try.prog f ds (.p (bv true))) {W : World} {vs : List Value} (hv : RVs W (AllC W) ds vs) :
    Calls Try.prog f vs.toArray W fun e W' => e = .returned (.bool true) ∧ Below W.heap.size W W' := by
  refine ((callsIn_wide (n := 0)).1 (h.h Fence.wide 0 (AllC W) W vs ⟨fun _ => trivial, rfl, rfl⟩ rfl (fun _ hg => hg) hv)).mono ?_
  rintro e W' ⟨v, rfl, hr, hg⟩
  exact ⟨by rw [rd_v hr], hg.os, hg.tape, hg.output, hg.size, fun k hk => hg.block k hk (by simp)⟩
theorem row_lt {H : Type} {enc : TypeId × Value → H} {W : World} {t : TypeId} {v : Value} {d : DataW H} {p : List MemPlace} (h : DataW.Trod enc Try.prog W 0 (fun _ => true) true t v d p) : ∀ x ∈ p, x.block < W.heap.size := by
  obtain ⟨m, hm⟩ := h
  exact DataW.trod_lt m _ _ _ hm
end Go.Proofs.Ytldcoekbgfaomaa
end
section
namespace Go.Proofs.Ytldcoekbgfaomaa
open Go.RowKit
/-- Is the tree small enough for the law? -/
def fewB (t : Tr) : Bool := decide (t.lv.length ≤ 12 ∧ t.size ≤ 100 ∧ ∀ r ∈ t.lv, r.length ≤ 100)
theorem c24b (t : Tr) : ACalls Try.prog 24 [trP t] (.p (bv (fewB t))) := c24 t
theorem k23t (t : Tr) : ACalls Try.prog 23 [trP t, trP t] (.p (bv true)) := by
  have := c23 t t
  rwa [show decide _ = true from decide_eq_true ⟨rfl, rfl, rfl⟩] at this
theorem k29t (l : List (Int × Int)) : ACalls Try.prog 29 [.p (exts l), .p (exts l)] (.p (bv true)) := by
  have := c29 l l
  rwa [show decide _ = true from decide_eq_true rfl] at this
theorem k40t (l : List Int) : ACalls Try.prog 40 [.p (u64s l), .p (u64s l)] (.p (bv true)) := by
  have := c40 l l
  rwa [show decide _ = true from decide_eq_true rfl] at this
end Go.Proofs.Ytldcoekbgfaomaa
end
section
namespace Go.Proofs.Ytldcoekbgfaomaa
open Go.RowKit Go.ChangeShapes Go.WideShapes
/-- What a proof of a leaf is asked with. -/
structure VIn where
  root : Int
  size : Int
  leaf : Int
  index : Int
  data : List (List Int)
  proof : List Int
theorem list6 {α : Type} : ∀ {l : List α}, l.length = 6 → ∃ a b c d e f, l = [a, b, c, d, e, f]
  | [a, b, c, d, e, f], _ => ⟨a, b, c, d, e, f, rfl⟩
theorem wf_i64 {n : Int} (h : (Lit.int .i64 n).wf = true) : -9223372036854775808 ≤ n ∧ n ≤ 9223372036854775807 := by
  simp [Lit.wf, IntKind.min, IntKind.max, IntKind.signed, IntKind.bits] at h
  omega
theorem wf_u8 {n : Int} (h : (Lit.int .u8 n).wf = true) : 0 ≤ n ∧ n ≤ 255 := by
  simp [Lit.wf, IntKind.min, IntKind.max, IntKind.signed, IntKind.bits] at h
  omega
theorem opn_intw {H : Type} {enc : TypeId × Value → H} {W : World} {t : TypeId} {k : IntKind} (ht : Try.prog.underlying t = some (.int k)) {n : Nat} {cs : List Value} {x : DataW H × List MemPlace} (h : DataW.trod enc Try.prog W 0 (fun _ => true) true n t cs = some x) : ∃ m, cs = [.int k m] ∧ (Lit.int k m).wf = true := by
  obtain ⟨m, hm, _, hw⟩ := DataW.trod_int ht h
  exact ⟨m, hm, hw⟩
theorem rv_vin {H : Type} {enc : TypeId × Value → H} {W : World} {cs : Array Value} {d : DataW H} {p : List MemPlace} (h : DataW.Trod enc Try.prog W 0 (fun _ => true) true 63 (.agg cs) d p) : ∃ v : VIn, RV W (AllC W) (.agg [u64 v.root, i64 v.size, i64 v.leaf, i64 v.index, secs v.data, u64s v.proof]) (.agg cs) ∧ (-9223372036854775808 ≤ v.index ∧ v.index ≤ 9223372036854775807) := by
  obtain ⟨n, h⟩ := h
  obtain ⟨l⟩ := cs
  obtain ⟨xs, m, _, _, hl, hxl, hel⟩ := DataW.trod_struct Try.underlying63 (show DataW.trod enc Try.prog W 0 (fun _ => true) true n 63 l = some _ from h)
  have c63 : Try.prog.cellsOf 63 = 6 := by kernel_rfl
  rw [c63] at hl
  obtain ⟨u0, u1, u2, u3, u4, u5, rfl⟩ := list6 hl
  have hx2 : xs.length = 6 := hxl
  have h0 : DataW.trod enc Try.prog W 0 (fun _ => true) true m 58 (([u0, u1, u2, u3, u4, u5].drop 0).take (Try.prog.cellsOf 58)) = xs[0]? := hel 0 _ rfl
  rw [List.getElem?_eq_getElem (by omega), show Try.prog.cellsOf 58 = 1 by kernel_rfl] at h0
  have h1 : DataW.trod enc Try.prog W 0 (fun _ => true) true m 3 (([u0, u1, u2, u3, u4, u5].drop 1).take (Try.prog.cellsOf 3)) = xs[1]? := hel 1 _ rfl
  rw [List.getElem?_eq_getElem (by omega), show Try.prog.cellsOf 3 = 1 by kernel_rfl] at h1
  have h2 : DataW.trod enc Try.prog W 0 (fun _ => true) true m 3 (([u0, u1, u2, u3, u4, u5].drop 2).take (Try.prog.cellsOf 3)) = xs[2]? := hel 2 _ rfl
  rw [List.getElem?_eq_getElem (by omega), show Try.prog.cellsOf 3 = 1 by kernel_rfl] at h2
  have h3 : DataW.trod enc Try.prog W 0 (fun _ => true) true m 3 (([u0, u1, u2, u3, u4, u5].drop 3).take (Try.prog.cellsOf 3)) = xs[3]? := hel 3 _ rfl
  rw [List.getElem?_eq_getElem (by omega), show Try.prog.cellsOf 3 = 1 by kernel_rfl] at h3
  have h4 : DataW.trod enc Try.prog W 0 (fun _ => true) true m 22 (([u0, u1, u2, u3, u4, u5].drop 4).take (Try.prog.cellsOf 22)) = xs[4]? := hel 4 _ rfl
  rw [List.getElem?_eq_getElem (by omega), show Try.prog.cellsOf 22 = 1 by kernel_rfl] at h4
  have h5 : DataW.trod enc Try.prog W 0 (fun _ => true) true m 60 (([u0, u1, u2, u3, u4, u5].drop 5).take (Try.prog.cellsOf 60)) = xs[5]? := hel 5 _ rfl
  rw [List.getElem?_eq_getElem (by omega), show Try.prog.cellsOf 60 = 1 by kernel_rfl] at h5
  obtain ⟨z0, e0, w0⟩ := opn_intw Try.underlying58 h0
  simp at e0
  subst e0
  obtain ⟨z1, e1, w1⟩ := opn_intw Try.underlying3 h1
  simp at e1
  subst e1
  obtain ⟨z2, e2, w2⟩ := opn_intw Try.underlying3 h2
  simp at e2
  subst e2
  obtain ⟨z3, e3, w3⟩ := opn_intw Try.underlying3 h3
  simp at e3
  subst e3
  obtain ⟨z4, r4⟩ := opn_secs (show DataW.trod enc Try.prog W 0 (fun _ => true) true m 22 [u4] = some _ from h4)
  obtain ⟨z5, r5⟩ := opn_ints Try.underlying60 Try.underlying58 (by kernel_rfl) (show DataW.trod enc Try.prog W 0 (fun _ => true) true m 60 [u5] = some _ from h5)
  refine ⟨⟨z0, z1, z2, z3, z4, z5⟩, .agg _ [.int .u64 z0, .int .i64 z1, .int .i64 z2, .int .i64 z3, u4, u5] rfl fun j y u hy hu => ?_, wf_i64 w3⟩
  match j with
  | 0 => simp at hy hu; subst hy; subst hu; exact .v _ rfl
  | 1 => simp at hy hu; subst hy; subst hu; exact .v _ rfl
  | 2 => simp at hy hu; subst hy; subst hu; exact .v _ rfl
  | 3 => simp at hy hu; subst hy; subst hu; exact .v _ rfl
  | 4 => simp at hy hu; subst hy; subst hu; exact r4
  | 5 => simp at hy hu; subst hy; subst hu; exact r5
  | j + 6 => simp at hy
theorem rv_change {H : Type} {enc : TypeId × Value → H} {W : World} {cs : Array Value} {d : DataW H} {p : List MemPlace} (h : DataW.Trod enc Try.prog W 0 (fun _ => true) true 47 (.agg cs) d p) : ∃ v : Int × Int × List (List Int), RV W (AllC W) (.agg [i64 v.1, i64 v.2.1, secs v.2.2]) (.agg cs) := by
  obtain ⟨n, h⟩ := h
  obtain ⟨l⟩ := cs
  obtain ⟨xs, m, _, _, hl, hxl, hel⟩ := DataW.trod_struct Try.underlying47 (show DataW.trod enc Try.prog W 0 (fun _ => true) true n 47 l = some _ from h)
  have c47 : Try.prog.cellsOf 47 = 3 := by kernel_rfl
  rw [c47] at hl
  obtain ⟨u0, u1, u2, rfl⟩ := list3 hl
  have hx2 : xs.length = 3 := hxl
  have h0 : DataW.trod enc Try.prog W 0 (fun _ => true) true m 3 (([u0, u1, u2].drop 0).take (Try.prog.cellsOf 3)) = xs[0]? := hel 0 _ rfl
  rw [List.getElem?_eq_getElem (by omega), show Try.prog.cellsOf 3 = 1 by kernel_rfl] at h0
  have h1 : DataW.trod enc Try.prog W 0 (fun _ => true) true m 3 (([u0, u1, u2].drop 1).take (Try.prog.cellsOf 3)) = xs[1]? := hel 1 _ rfl
  rw [List.getElem?_eq_getElem (by omega), show Try.prog.cellsOf 3 = 1 by kernel_rfl] at h1
  have h2 : DataW.trod enc Try.prog W 0 (fun _ => true) true m 22 (([u0, u1, u2].drop 2).take (Try.prog.cellsOf 22)) = xs[2]? := hel 2 _ rfl
  rw [List.getElem?_eq_getElem (by omega), show Try.prog.cellsOf 22 = 1 by kernel_rfl] at h2
  obtain ⟨z0, e0, w0⟩ := opn_intw Try.underlying3 h0
  simp at e0
  subst e0
  obtain ⟨z1, e1, w1⟩ := opn_intw Try.underlying3 h1
  simp at e1
  subst e1
  obtain ⟨z2, r2⟩ := opn_secs (show DataW.trod enc Try.prog W 0 (fun _ => true) true m 22 [u2] = some _ from h2)
  refine ⟨⟨z0, z1, z2⟩, .agg _ [.int .i64 z0, .int .i64 z1, u2] rfl fun j y u hy hu => ?_⟩
  match j with
  | 0 => simp at hy hu; subst hy; subst hu; exact .v _ rfl
  | 1 => simp at hy hu; subst hy; subst hu; exact .v _ rfl
  | 2 => simp at hy hu; subst hy; subst hu; exact r2
  | j + 3 => simp at hy
theorem rv_place {H : Type} {enc : TypeId × Value → H} {W : World} {cs : Array Value} {d : DataW H} {p : List MemPlace} (h : DataW.Trod enc Try.prog W 0 (fun _ => true) true 71 (.agg cs) d p) : ∃ v : Int × Int, RV W (AllC W) (.agg [u8 v.1, u8 v.2]) (.agg cs) ∧ (0 ≤ v.1 ∧ v.1 ≤ 255) ∧ (0 ≤ v.2 ∧ v.2 ≤ 255) := by
  obtain ⟨n, h⟩ := h
  obtain ⟨l⟩ := cs
  obtain ⟨xs, m, _, _, hl, hxl, hel⟩ := DataW.trod_array Try.underlying71 (show DataW.trod enc Try.prog W 0 (fun _ => true) true n 71 l = some _ from h)
  have c5 : Try.prog.cellsOf 5 = 1 := by kernel_rfl
  have c71 : Try.prog.cellsOf 71 = 2 := by kernel_rfl
  rw [c71] at hl
  have each : ∀ i, i < 2 → ∃ z, l[i]? = some (.int .u8 z) ∧ (Lit.int .u8 z).wf = true := by
    intro i hi
    have := hel i hi
    rw [c5, Nat.mul_one, List.getElem?_eq_getElem (by omega)] at this
    obtain ⟨z, hz, hw⟩ := opn_intw Try.underlying5 this
    refine ⟨z, ?_, hw⟩
    have h1 := congrArg (fun l => l[0]?) hz
    simp only [List.getElem?_take,List.getElem?_drop,ZD] at h1
    simpa using h1
  obtain ⟨u0, u1, rfl⟩ := list2 hl
  obtain ⟨z0, e0, w0⟩ := each 0 (Nat.succ_pos 1)
  obtain ⟨z1, e1, w1⟩ := each 1 (Nat.lt_succ_self 1)
  simp only [Zd,Zc,Option.some.injEq] at e0 e1
  subst e0
  subst e1
  refine ⟨⟨z0, z1⟩, .agg _ [.int .u8 z0, .int .u8 z1] rfl fun j y u hy hu => ?_, wf_u8 w0, wf_u8 w1⟩
  match j with
  | 0 => simp at hy hu; subst hy; subst hu; exact .v _ rfl
  | 1 => simp at hy hu; subst hy; subst hu; exact .v _ rfl
  | j + 2 => simp at hy
end Go.Proofs.Ytldcoekbgfaomaa
end
