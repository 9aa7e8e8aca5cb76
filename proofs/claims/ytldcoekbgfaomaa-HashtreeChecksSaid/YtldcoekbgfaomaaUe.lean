/- The walks of the code that the statement reaches, and the plain laws behind them, part Ue. No conditions. -/
import Derived.WalkKit
import Derived.ProofKit
import Derived.OpenShut
import Derived.ShutString
import Derived.ChangeOld
import Derived.SizedLaws
import Derived.Deep.Slices
import Derived.Carry
import Derived.Test.YtldcoekbgfaomaaRows
import Derived.Test.YtldcoekbgfaomaaUd
set_option linter.unusedVariables false
set_option linter.unusedSimpArgs false
section
namespace Go.Proofs.Ytldcoekbgfaomaa
open Go.RowKit
set_option maxRecDepth 20000
set_option maxHeartbeats 4000000
attribute [local irreducible] AOps AOpsD AW
def tsel (a b : Tr) (i : Nat) : Tr := if i = 0 then a else b
def twoC (a b : Tr) : List P1 := trC a ++ trC b
def selC (a b : Tr) (i : Nat) : List P1 := trC (tsel a b i)
theorem selC_len (a b : Tr) (i : Nat) : (selC a b i).length = 3 := rfl
theorem selC_take (a b : Tr) (i : Nat) : (List.map D.p (selC a b i)).take 3 = List.map D.p (selC a b i) := rfl
theorem pureAll_p : ∀ xs : List P1, pureAll (xs.map D.p) = some xs
  | [] => rfl
  | x :: xs => by simp only [ZG,pureAll,D.pure?,pureAll_p xs]
theorem c31s (a b : Tr) (i : Nat) : ACalls Try.prog 31 [.agg (selC a b i)] (.p (i64 (refChk (tsel a b i)))) := c31 (tsel a b i)
theorem two_part (a b : Tr) (i : Nat) (h : i < 2) : ((twoC a b).drop (i * 3)).take 3 = selC a b i := by
  have hi : i = 0 ∨ i = 1 := by omega
  rcases hi with rfl | rfl <;> rfl
theorem two_len (a b : Tr) : (twoC a b).length = 6 := rfl
theorem diff_bad {a b : Tr} {i : Nat} (hi : i < 2) (h1 : 1 ≤ i → refChk a = 0) (h : ¬ refChk (tsel a b i) = 0) : D.tup [.p (.sl 0 []), .p (i64 (refChk (tsel a b i)))] = .tup [.p (exts (refDiff a b).1), .p (i64 (refDiff a b).2)] := by
  have hi : i = 0 ∨ i = 1 := by omega
  rcases hi with rfl | rfl
  · change ¬ refChk a = 0 at h
    rw [refDiff, if_pos h]; rfl
  · rw [refDiff, if_neg (not_not_intro (h1 (Nat.le_refl _)))]
    change ¬ refChk b = 0 at h
    rw [if_pos h]; rfl
theorem map_at_n (f : Nat → P1) (l : List Nat) (i : Nat) (h : i < l.length) : (l.map f)[i]? = some (f (l.getD i 0)) := by
  simp [h]
theorem fcells_at0 (top : Nat) (X : List Nat) : (fcells top 0 X)[0]? = some (.p (natP X)) := fcells_at top 0 X (Nat.zero_le _) (by omega)
theorem set_at (l : List D) (i : Nat) (x : D) (h : i < l.length) : (l.set i x)[i]? = some x := by simp [h]
theorem fcells_dem (top n : Nat) (X : List Nat) (j : Nat) : (fcells top n X).map (D.demote j) = fcells top n X := by
  unfold fcells
  rw [List.map_map]
  apply List.map_congr_left
  intro k _
  simp only [Function.comp]
  split
  · rfl
  · split <;> rfl
theorem fcells_in (top n : Nat) (X : List Nat) (nb nv : Nat) : ((fcells top n X).all fun d => d.inB nb nv) = true := by
  rw [List.all_eq_true]
  intro d hd
  obtain ⟨j, _, rfl⟩ := List.mem_map.1 hd
  split
  · rfl
  · split <;> rfl
theorem fcset_in (top n : Nat) (X : List Nat) (m nb nv : Nat) (h : 0 < nv) : (((fcells top n X).set m (.vref 0)).all fun d => d.inB nb nv) = true := by
  have h1 := fcells_in top n X nb nv
  rw [List.all_eq_true] at h1 ⊢
  intro d hd
  rcases List.mem_or_eq_of_mem_set hd with hd | hd
  · exact h1 d hd
  · subst hd
    exact decide_eq_true h
theorem bc3 {x y z : Bx} {f : D → Bool} (h1 : x.cells.all f = true) (h2 : y.cells.all f = true) (h3 : z.cells.all f = true) : ([x, y, z].all fun x => x.cells.all f) = true := by
  simp [h1, h2, h3]
theorem fcells_frz (top n : Nat) (X : List Nat) (j : Nat) (V : Vc) : (fcells top n X).map (D.freeze j V) = fcells top n X := by
  unfold fcells
  rw [List.map_map]
  apply List.map_congr_left
  intro k _
  simp only [Function.comp]
  split
  · rfl
  · split <;> rfl
theorem fc_again (top n : Nat) (X : List Nat) (m : Nat) (h : m < 16) (d : D) : ((((fcells top n X).set m d).map (D.demote 0)).take m ++ [.vref 0] ++ (((fcells top n X).set m d).map (D.demote 0)).drop (m + 1)) = (fcells top n X).set m (.vref 0) := by
  rw [splice_set _ _ _ (by simp [fcells_length]; exact h), List.map_set, fcells_dem, List.set_set]
theorem fc_next (top m : Nat) (X Y : List Nat) (hm : m ≤ top) (h : m < 16) : leL (((fcells top (m + 1) X).set m (.vref 0)).map (D.freeze 0 ⟨3, 1, Y.length, Y.map fun n : Nat => i64 (n : Int)⟩)) (fcells top m Y) := by
  have key : ∀ (l l' : List D), l.length = l'.length → (∀ (i : Nat) (d d' : D), l[i]? = some d → l'[i]? = some d' → leD d d') → leL l l' := by
    intro l
    induction l with
    | nil =>
      intro l' hl _
      have : l' = [] := List.eq_nil_of_length_eq_zero (by simpa using hl.symm)
      subst this
      trivial
    | cons d l ih =>
      intro l' hl hd
      cases l' with
      | nil => simp at hl
      | cons d' l' => exact ⟨hd 0 d d' rfl rfl, ih l' (by simpa using hl) fun i d d' h1 h2 => hd (i + 1) d d' (by simpa using h1) (by simpa using h2)⟩
  refine key _ _ (by simp [fcells_length]) fun i d d' h1 h2 => ?_
  rw [List.getElem?_map, List.getElem?_set] at h1
  by_cases hi : i < 16
  · rw [fcells_length] at h1
    simp only [fcells,List.getElem?_map,List.getElem?_range hi,Zg,Option.some.injEq] at h1 h2
    by_cases hmi : m = i
    · subst hmi
      rw [if_pos rfl, if_pos h] at h1
      rw [if_neg (by omega), if_pos ⟨rfl, hm⟩] at h2
      simp only [Zg,Option.some.injEq,D.freeze,Zr] at h1
      exact .inr (h1.symm.trans h2)
    · rw [if_neg hmi] at h1
      by_cases hlt : i < m
      · rw [if_pos hlt] at h2
        simp only [Zg,Option.some.injEq] at h1
        rw [if_pos (by omega)] at h1
        exact .inr (h1.symm.trans h2)
      · rw [if_neg hlt, if_neg (by omega)] at h2
        exact .inl h2.symm
  · rw [if_neg (by omega), List.getElem?_eq_none (by rw [fcells_length]; omega)] at h1
    cases h1
theorem fc_start (top : Nat) (h : top + 1 < 16) : leL (List.replicate 16 D.nil) (fcells top (top + 1) []) := by
  have key : ∀ (l l' : List D), l.length = l'.length → (∀ (i : Nat) (d d' : D), l[i]? = some d → l'[i]? = some d' → leD d d') → leL l l' := by
    intro l
    induction l with
    | nil =>
      intro l' hl _
      have : l' = [] := List.eq_nil_of_length_eq_zero (by simpa using hl.symm)
      subst this
      trivial
    | cons d l ih =>
      intro l' hl hd
      cases l' with
      | nil => simp at hl
      | cons d' l' => exact ⟨hd 0 d d' rfl rfl, ih l' (by simpa using hl) fun i d d' h1 h2 => hd (i + 1) d d' (by simpa using h1) (by simpa using h2)⟩
  refine key _ _ (by simp [fcells_length]) fun i d d' h1 h2 => ?_
  have hi : i < 16 := by have := (List.getElem?_eq_some_iff.1 h2).1; rwa [fcells_length] at this
  rw [List.getElem?_replicate, if_pos hi] at h1
  simp only [fcells,List.getElem?_map,List.getElem?_range hi,Zg,Option.some.injEq] at h2
  injection h1 with h1
  subst h1
  split at h2
  · exact .inr h2
  · rw [if_neg (by omega)] at h2
    exact .inl h2.symm
theorem few_len {a b : List (List Int)} {n : Nat} {X : List Nat} (hl : a.length ≤ 13) (h : BfI a b (a.length - 1) n X) : X.length ≤ 4096 := by
  by_cases h1 : n ≤ a.length - 1
  · have h2 := (h.st h1).few
    have h3 : 2 ^ (a.length - 1) ≤ 2 ^ 12 := Nat.pow_le_pow_right (by omega) (by omega)
    have h4 : X.length ≤ X.length * 2 ^ n := Nat.le_mul_of_pos_right _ (Nat.pow_pos (by omega))
    omega
  · have := h.le
    rw [h.nil (by omega)]
    simp
theorem vis_len {a : List (List Int)} {n : Nat} {V : List Nat} (hl : a.length ≤ 13) (h : V.length * 2 ^ n ≤ 2 ^ (a.length - 1)) : V.length ≤ 4096 := by
  have h3 : 2 ^ (a.length - 1) ≤ 2 ^ 12 := Nat.pow_le_pow_right (by omega) (by omega)
  have h4 : V.length ≤ V.length * 2 ^ n := Nat.le_mul_of_pos_right _ (Nat.pow_pos (by omega))
  omega
theorem extRaw_take (S F : Nat) (X : List Nat) (j : Nat) (h : j < X.length) : extRaw S F (X.take (j + 1)) = extRaw S F (X.take j) ++ [(((X.getD j 0 * F : Nat) : Int), min (F : Int) ((S : Int) - ((X.getD j 0 * F : Nat) : Int)))] := by
  rw [List.take_succ_eq_append_getElem h]
  unfold extRaw
  rw [List.map_append]
  congr 1
  simp [h]
theorem extRaw_length (S F : Nat) (X : List Nat) : (extRaw S F X).length = X.length := by simp [extRaw]
theorem c27 (a b : Tr) : ACalls Try.prog 27 [trP a, trP b] (.tup [.p (exts (refDiff a b).1), .p (i64 (refDiff a b).2)]) := by
  obtain ⟨sa, fa, la⟩ := a
  obtain ⟨sb, fb, lb⟩ := b
  refine acalls_of tb_ok Try.func27 (c := _) rfl (by kernel_rfl) ?_
  intro X hP hX hro hpl
  have hb : tb.Ok X.P := hP ▸ tb_ok
  change AW X _ _ ⟨[], [.agg [i64 sa, i64 fa, lvls la], .agg [i64 sb, i64 fb, lvls lb], .any, .any, .any, .any, .any, .any, .any, .any, .any, .any, .any, .any, .any, .any, .any, .any, .any, .any, .any, .any, .any, .any, .any, .any, .any, .any, .any, .any, .any, .any, .any, .any, .any, .any, .any, .any, .any, .any, .any, .any, .any, .any, .any, .any, .any, .any, .any, .any, .any, .any, .any, .any, .any, .any, .any, .any, .any, .any, .any, .any, .any, .any, .any, .any, .any, .any, .any, .any, .any, .any, .any, .any, .any, .any, .any, .any, .any, .any, .any, .any, .any, .any, .any, .any, .any, .any, .any, .any, .any, .any, .any, .any, .any, .any, .any, .any, .any, .any, .any, .any, .any, .any, .any, .any, .any, .any, .any, .any, .any, .any, .any, .any, .any, .any, .any, .any, .any, .any, .any, .any, .any, .any, .any, .any, .any, .any, .any, .any, .any, .any, .any, .any, .any, .any, .any, .any, .any, .any, .any, .any, .any, .any, .any, .any, .any, .any, .any, .any], [], []⟩
  refine aw_seq ?_
  refine aw_regK hX hb [0, 1, 2, 3] rfl (σ' := ?s1) (fun K hK => ?h1) ?n1
  case h1 =>
    iterate 4 (refine st_op rfl (by simp (disch := omega) only [stepf,callOf,qop,fop,St.ev,St.put,cd,zd,Value.oneCell',tb_T,TypeDesc.aggB,getD_0,getD_s,Ze,Zd,Zc,Za,Zb,Zr,ZE,ZF,Zf,Zq,Zg,i64_w,Zt,Zs,ZM,ZL,Zl,Zo,ZG,ZH,St.addBox,D.boxCells,D.live,t1,ti1,t3,ti3,t24,ti24,t26,ti26,t58,ti58,t60,ti60,Zh,map_at_l,map_at_i,map_at_n] <;> exact rfl) ?_)
    refine aops_nil ?_
    exact hK
  refine exq_n ?_
  refine aw_seq ?_
  refine aw_seq ?_
  refine aw_regK hX hb [0, 1, 2, 3, 4] rfl (σ' := ?s2) (fun K hK => ?h2) ?n2
  case h2 =>
    iterate 5 (refine st_op rfl (by simp (disch := omega) only [stepf,callOf,qop,fop,St.ev,St.put,cd,zd,Value.oneCell',tb_T,TypeDesc.aggB,getD_0,getD_s,Ze,Zd,Zc,Za,Zb,Zr,ZE,ZF,Zf,Zq,Zg,i64_w,Zt,Zs,Zl,Zo,Zv,Zw,Zj,Zk,Zx,Zy,qLoad,bload,pload,pureAll,D.pure?,ZC,ZD,tb_N,tbO_N,tbW_N,tb_O,fBuildSlice,catCells,D.cells?,range_1,range_2,range_3,range_4,range_5,ZG,ZH,ZL,ZM,ZN,sec8_length,Nat.reduceAdd,Nat.reduceMul,qLen,t1,ti1,t2,ti2,t3,ti3,t5,ti5,t22,ti22,t24,ti24,t26,ti26,t50,ti50,t58,ti58,t60,ti60,t125,ti125,Zh,map_at_l,map_at_i,map_at_n] <;> exact rfl) ?_)
    refine aops_nil ?_
    exact hK
  refine exq_n ?_
  refine aw_block ?_
  refine aw_loop (ι := Nat) (fun i => i ≤ 2 ∧ (1 ≤ i → refChk ⟨sa, fa, la⟩ = 0) ∧ (2 ≤ i → refChk ⟨sb, fb, lb⟩ = 0)) (fun i => ⟨[], [.any, .any, .ptr 0 0, .ptr 1 0, .any, .any, .any, .any, .any, .any, .any, .any, .any, .any, .any, .any, .any, .any, .any, .any, .any, .any, .p (.sl 2 (twoC ⟨sa, fa, la⟩ ⟨sb, fb, lb⟩)), .p (i64 2), .p (i64 i), .any, .any, .any, .any, .any, .any, .any, .any, .any, .any, .any, .any, .any, .any, .any, .any, .any, .any, .any, .any, .any, .any, .any, .any, .any, .any, .any, .any, .any, .any, .any, .any, .any, .any, .any, .any, .any, .any, .any, .any, .any, .any, .any, .any, .any, .any, .any, .any, .any, .any, .any, .any, .any, .any, .any, .any, .any, .any, .any, .any, .any, .any, .any, .any, .any, .any, .any, .any, .any, .any, .any, .any, .any, .any, .any, .any, .any, .any, .any, .any, .any, .any, .any, .any, .any, .any, .any, .any, .any, .any, .any, .any, .any, .any, .any, .any, .any, .any, .any, .any, .any, .any, .any, .any, .any, .any, .any, .any, .any, .any, .any, .any, .any, .any, .any, .any, .any, .any, .any, .any, .any, .any, .any, .any, .any], [⟨26, [.p (i64 sa), .p (i64 fa), .p (lvls la)]⟩, ⟨26, [.p (i64 sb), .p (i64 fb), .p (lvls lb)]⟩], []⟩) (fun i => 2 - i) 0 (by exact ⟨Nat.zero_le _, fun h => by omega, fun h => by omega⟩) (wk_le ⟨rfl, leL_a (leL_a (leL_r rfl (leL_r rfl (leL_a (leL_a (leL_a (leL_a (leL_a (leL_a (leL_a (leL_a (leL_a (leL_a (leL_a (leL_a (leL_a (leL_a (leL_a (leL_a (leL_a (leL_a (leL_r rfl (leL_r rfl (leL_r rfl (leL_a (leL_a (leL_a (leL_a (leL_a (leL_a (leL_a (leL_a (leL_a (leL_a (leL_a (leL_a (leL_a (leL_a (leL_a (leL_a (leL_a (leL_a (leL_a (leL_a (leL_a (leL_a (leL_a (leL_a (leL_a (leL_a (leL_a (leL_a (leL_a (leL_a (leL_a (leL_a (leL_a (leL_a (leL_a (leL_a (leL_a (leL_a (leL_a (leL_a (leL_a (leL_a (leL_a (leL_a (leL_a (leL_a (leL_a (leL_a (leL_a (leL_a (leL_a (leL_a (leL_a (leL_a (leL_a (leL_a (leL_a (leL_a (leL_a (leL_a (leL_a (leL_a (leL_a (leL_a (leL_a (leL_a (leL_a (leL_a (leL_a (leL_a (leL_a (leL_a (leL_a (leL_a (leL_a (leL_a (leL_a (leL_a (leL_a (leL_a (leL_a (leL_a (leL_a (leL_a (leL_a (leL_a (leL_a (leL_a (leL_a (leL_a (leL_a (leL_a (leL_a (leL_a (leL_a (leL_a (leL_a (leL_a (leL_a (leL_a (leL_a (leL_a (leL_a (leL_a (leL_a (leL_a (leL_a (leL_a (leL_a (leL_a (leL_a (leL_a (leL_a (leL_a (leL_a (leL_a (leL_a (leL_a (leL_a (leL_a (leL_a (leL_a (leL_a (leL_a (leL_a (leL_nil)))))))))))))))))))))))))))))))))))))))))))))))))))))))))))))))))))))))))))))))))))))))))))))))))))))))))))))))))))))))))))))))))))))))))))))))))))))), (leB_r rfl (leL_r rfl (leL_r rfl (leL_r rfl (leL_nil)))) (leB_r rfl (leL_r rfl (leL_r rfl (leL_r rfl (leL_nil)))) (leB_nil _))), (leV_nil _), rfl, rfl⟩) ?_
  rintro i ⟨hi, h1, h2⟩
  have htl := two_len ⟨sa, fa, la⟩ ⟨sb, fb, lb⟩
  refine aw_seq ?_
  refine aw_regK hX hb [0] rfl (σ' := ?s3) (fun K hK => ?h3) ?n3
  case h3 =>
    (refine st_op rfl (by simp (disch := omega) only [stepf,callOf,qop,fop,St.ev,St.put,cd,zd,Value.oneCell',tb_T,TypeDesc.aggB,getD_0,getD_s,Ze,Zd,Zc,Za,Zb,Zr,ZE,ZF,Zf,Zq,Zg,i64_w,Zt,Zs,qBin,iop,t3,ti3,t24,ti24,t58,ti58,t60,ti60,Zh,map_at_l,map_at_i,map_at_n] <;> exact rfl) ?_)
    refine aops_nil ?_
    exact hK
  refine exq_n ?_
  refine aw_seq ?_
  refine aw_cond _ rfl (fun hc0 => ?_) (fun hc0 => ?_)
  · try simp only [Zp,Zi,ZK,ZJ,ne_eq,Zn,Zm,ZB,ZA,ZI,not_or,not_and,Zu] at hc0
    refine aw_skip ?_
    refine exq_n ?_
    refine aw_seq ?_
    refine aw_block ?_
    refine aw_seq ?_
    refine aw_regK hX hb [0, 1, 2, 3] rfl (σ' := ?s4) (fun K hK => ?h4) ?n4
    case h4 =>
      iterate 4 (refine st_op rfl (by simp (disch := omega) only [stepf,callOf,qop,fop,St.ev,St.put,cd,zd,Value.oneCell',tb_T,TypeDesc.aggB,getD_0,getD_s,Ze,Zd,Zc,Za,Zb,Zr,ZE,ZF,Zf,Zq,Zg,i64_w,Zt,Zs,Int.toNat_zero,Int.toNat_one,toNat_pred,toNat_succ,qIndexAddr,ZO,Nat.mul_one,ZC,Nat.zero_mul,Zh,Zl,Zo,Zv,Zw,Zj,Zk,Zx,Zy,qLoad,bload,pload,pureAll,D.pure?,ZD,ZM,ZL,ZG,ZH,St.addBox,Value.cells,fStore,D.boxCells,D.live,D.cells?,ZN,St.setVec,t3,ti3,t5,ti5,t22,ti22,t24,ti24,t26,ti26,t27,ti27,t50,ti50,t58,ti58,t60,ti60,t125,ti125,map_at_l,map_at_i,map_at_n,two_part,selC_len] <;> exact rfl) ?_)
      refine aops_nil ?_
      exact hK
    refine exq_n ?_
    refine aw_seq ?_
    refine aw_regK hX hb [0, 1, 2] rfl (σ' := ?s5) (fun K hK => ?h5) ?n5
    case h5 =>
      (refine st_op rfl (by simp (disch := omega) only [stepf,callOf,qop,fop,St.ev,St.put,cd,zd,Value.oneCell',tb_T,TypeDesc.aggB,getD_0,getD_s,Ze,Zd,Zc,Za,Zb,Zr,ZE,ZF,Zf,Zq,Zg,i64_w,Zt,Zs,Zl,Zo,Zv,Zw,Zj,Zk,Zx,Zy,qLoad,bload,pload,pureAll,D.pure?,ZC,ZD,pvAll,D.pv?,t3,ti3,t24,ti24,t26,ti26,t58,ti58,t60,ti60,Zh,map_at_l,map_at_i,map_at_n,selC_len,selC_take,pureAll_p] <;> exact rfl) ?_)
      refine st_call rfl (by simp only [callOf,St.ev,getD_0,getD_s,pvAll,D.pv?,ZG,ZH,zd,cd,Value.oneCell',Zr] <;> exact rfl) (acK hP (c31s ⟨sa, fa, la⟩ ⟨sb, fb, lb⟩ i)) (by simp only [St.put,Za,Zb] <;> exact rfl) ?_
      (refine st_op rfl (by simp (disch := omega) only [stepf,callOf,qop,fop,St.ev,St.put,cd,zd,Value.oneCell',tb_T,TypeDesc.aggB,getD_0,getD_s,Ze,Zd,Zc,Za,Zb,Zr,ZE,ZF,Zf,Zq,Zg,i64_w,Zt,Zs,Zl,Zo,Zv,Zw,Zj,Zk,Zx,Zy,qLoad,bload,pload,pureAll,D.pure?,ZC,ZD,pvAll,D.pv?,t3,ti3,t24,ti24,t26,ti26,t58,ti58,t60,ti60,Zh,map_at_l,map_at_i,map_at_n,selC_len,selC_take,pureAll_p] <;> exact rfl) ?_)
      refine aops_nil ?_
      exact hK
    refine exq_n ?_
    refine aw_seq ?_
    refine aw_regK hX hb [0, 1] rfl (σ' := ?s6) (fun K hK => ?h6) ?n6
    case h6 =>
      iterate 2 (refine st_op rfl (by simp (disch := omega) only [stepf,callOf,qop,fop,St.ev,St.put,cd,zd,Value.oneCell',tb_T,TypeDesc.aggB,getD_0,getD_s,Ze,Zd,Zc,Za,Zb,Zr,ZE,ZF,Zf,Zq,Zg,i64_w,Zt,Zs,qBin,iop,t27,ti27,Zh,map_at_l,map_at_i,map_at_n] <;> exact rfl) ?_)
      refine aops_nil ?_
      exact hK
    refine exq_n ?_
    refine aw_cond _ rfl (fun hc1 => ?_) (fun hc1 => ?_)
    · try simp only [Zp,Zi,ZK,ZJ,ne_eq,Zn,Zm,ZB,ZA,ZI,not_or,not_and,Zu] at hc1
      refine aw_seq ?_
      refine aw_regK hX hb [0, 1, 2] rfl (σ' := ?s7) (fun K hK => ?h7) ?n7
      case h7 =>
        iterate 3 (refine st_op rfl (by simp (disch := omega) only [stepf,callOf,qop,fop,St.ev,St.put,cd,zd,Value.oneCell',tb_T,TypeDesc.aggB,getD_0,getD_s,Ze,Zd,Zc,Za,Zb,Zr,ZE,ZF,Zf,Zq,Zg,i64_w,Zt,Zs,Zh,map_at_l,map_at_i,map_at_n] <;> exact rfl) ?_)
        refine aops_nil ?_
        exact hK
      refine exq_n ?_
      refine aw_ret ?_
      refine exb_r ?_
      refine exq_r ?_
      refine exq_r ?_
      refine exb_r ?_
      refine exq_r ?_
      exact ret_r rfl (resOf_two rfl rfl (by first | rfl | (first | exact diff_bad (by omega) h1 hc1 | (rw [refDiff, if_neg (not_not_intro (h1 (by omega))), if_neg (not_not_intro (h2 (by omega))), if_pos hc2]; rfl) | (rw [refDiff, if_neg (not_not_intro hch0), if_neg (not_not_intro hch1), if_neg (by rintro (h | h) <;> exact h rfl)]; dsimp only; rw [foundN_L, ← hX0, refExt_merge, Int.toNat_natCast, Int.toNat_natCast, show X.take j = X from List.take_of_length_le (by omega)]))))
    · try simp only [Zp,Zi,ZK,ZJ,ne_eq,Zn,Zm,ZB,ZA,ZI,not_or,not_and,Zu] at hc1
      refine aw_skip ?_
      refine exb_n ?_
      refine exq_n ?_
      refine aw_regK hX hb [0, 1] rfl (σ' := ?s8) (fun K hK => ?h8) ?n8
      case h8 =>
        iterate 2 (refine st_op rfl (by simp (disch := omega) only [stepf,callOf,qop,fop,St.ev,St.put,cd,zd,Value.oneCell',tb_T,TypeDesc.aggB,getD_0,getD_s,Ze,Zd,Zc,Za,Zb,Zr,ZE,ZF,Zf,Zq,Zg,i64_w,Zt,Zs,qBin,iop,t1,ti1,t3,ti3,t24,ti24,t58,ti58,t60,ti60,Zh,map_at_l,map_at_i,map_at_n] <;> exact rfl) ?_)
        refine aops_nil ?_
        exact hK
      refine exq_n ?_
      exact ⟨i + 1, by (have hi2 : i = 0 ∨ i = 1 := by omega); rcases hi2 with rfl | rfl; exact ⟨by omega, fun _ => hc1, fun h => by omega⟩; exact ⟨by omega, fun _ => h1 (by omega), fun _ => hc1⟩, by (try dsimp only); omega, wk_le ⟨rfl, leL_a (leL_a (leL_r rfl (leL_r rfl (leL_a (leL_a (leL_a (leL_a (leL_a (leL_a (leL_a (leL_a (leL_a (leL_a (leL_a (leL_a (leL_a (leL_a (leL_a (leL_a (leL_a (leL_a (leL_r rfl (leL_r rfl (leL_r rfl (leL_a (leL_a (leL_a (leL_a (leL_a (leL_a (leL_a (leL_a (leL_a (leL_a (leL_a (leL_a (leL_a (leL_a (leL_a (leL_a (leL_a (leL_a (leL_a (leL_a (leL_a (leL_a (leL_a (leL_a (leL_a (leL_a (leL_a (leL_a (leL_a (leL_a (leL_a (leL_a (leL_a (leL_a (leL_a (leL_a (leL_a (leL_a (leL_a (leL_a (leL_a (leL_a (leL_a (leL_a (leL_a (leL_a (leL_a (leL_a (leL_a (leL_a (leL_a (leL_a (leL_a (leL_a (leL_a (leL_a (leL_a (leL_a (leL_a (leL_a (leL_a (leL_a (leL_a (leL_a (leL_a (leL_a (leL_a (leL_a (leL_a (leL_a (leL_a (leL_a (leL_a (leL_a (leL_a (leL_a (leL_a (leL_a (leL_a (leL_a (leL_a (leL_a (leL_a (leL_a (leL_a (leL_a (leL_a (leL_a (leL_a (leL_a (leL_a (leL_a (leL_a (leL_a (leL_a (leL_a (leL_a (leL_a (leL_a (leL_a (leL_a (leL_a (leL_a (leL_a (leL_a (leL_a (leL_a (leL_a (leL_a (leL_a (leL_a (leL_a (leL_a (leL_a (leL_a (leL_a (leL_a (leL_a (leL_a (leL_a (leL_a (leL_a (leL_a (leL_a (leL_a (leL_nil)))))))))))))))))))))))))))))))))))))))))))))))))))))))))))))))))))))))))))))))))))))))))))))))))))))))))))))))))))))))))))))))))))))))))))))))))))))), (leB_r rfl (leL_r rfl (leL_r rfl (leL_r rfl (leL_nil)))) (leB_r rfl (leL_r rfl (leL_r rfl (leL_r rfl (leL_nil)))) (leB_nil _))), (leV_nil _), rfl, rfl⟩⟩
  · try simp only [Zp,Zi,ZK,ZJ,ne_eq,Zn,Zm,ZB,ZA,ZI,not_or,not_and,Zu] at hc0
    refine aw_exit ?_
    refine exq_e ?_
    refine exq_e ?_
    refine exb_h ?_
    refine exq_n ?_
    refine aw_seq ?_
    refine aw_seq ?_
    refine aw_regJ hX hb [0, 1, 2, 3, 4, 5, 6, 7, 8, 9, 10, 11] rfl (ts := [34, 35, 36, 37, 38, 39, 40, 41, 42, 43, 44]) (t := 45) (d := .p (bv (sa ≠ sb ∨ fa ≠ fb))) (σ' := ?s9) ?j9 ?h9 ?n9
    case j9 => simp only [St.join,List.foldl,Za,Zb]; exact rfl
    case h9 =>
      iterate 6 (all_goals refine st_op rfl (by simp (disch := omega) only [stepf,callOf,qop,fop,St.ev,St.put,cd,zd,Value.oneCell',tb_T,TypeDesc.aggB,getD_0,getD_s,Ze,Zd,Zc,Za,Zb,Zr,ZE,ZF,Zf,Zq,Zg,i64_w,Zt,Zs,qFieldAddr,fieldOf,Zl,Zo,Zv,Zw,Zj,Zk,Zx,Zy,qLoad,bload,pload,pureAll,D.pure?,ZC,ZD,qBin,iop,t1,ti1,t2,ti2,t3,ti3,t24,ti24,t26,ti26,t35,ti35,t40,ti40,t58,ti58,t60,ti60,Zh,map_at_l,map_at_i,map_at_n] <;> exact rfl) ?_)
      iterate 5 (all_goals first | (refine st_g1 rfl rfl rfl (by simp (disch := omega) only [stepf,callOf,qop,fop,St.ev,St.put,cd,zd,Value.oneCell',tb_T,TypeDesc.aggB,getD_0,getD_s,Ze,Zd,Zc,Za,Zb,Zr,ZE,ZF,Zf,Zq,Zg,i64_w,Zt,Zs,qFieldAddr,fieldOf,Zl,Zo,Zv,Zw,Zj,Zk,Zx,Zy,qLoad,bload,pload,pureAll,D.pure?,ZC,ZD,qBin,iop,t1,ti1,t2,ti2,t3,ti3,t24,ti24,t26,ti26,t35,ti35,t40,ti40,t58,ti58,t60,ti60,Zh,map_at_l,map_at_i,map_at_n] <;> exact rfl) ?_) | (first | (refine st_g0 rfl rfl rfl (by simp only [St.put,Za,Zb] <;> exact rfl) ?_) | (refine st_gu rfl rfl rfl (by simp only [St.put,Za,Zb] <;> exact rfl) ?_)) | (refine st_split rfl rfl rfl (by simp only [Za,Zb] <;> exact rfl) (by simp only [Za,Zb] <;> exact rfl) (fun hg => ?_) (fun hg => ?_) <;> (try simp only [Zp,Zi,ZJ,ZK,ne_eq,Zn,Zm,Bool.not_eq_true,Zu] at hg) <;> first | (refine st_g1 rfl rfl rfl (by simp (disch := omega) only [stepf,callOf,qop,fop,St.ev,St.put,cd,zd,Value.oneCell',tb_T,TypeDesc.aggB,getD_0,getD_s,Ze,Zd,Zc,Za,Zb,Zr,ZE,ZF,Zf,Zq,Zg,i64_w,Zt,Zs,qFieldAddr,fieldOf,Zl,Zo,Zv,Zw,Zj,Zk,Zx,Zy,qLoad,bload,pload,pureAll,D.pure?,ZC,ZD,qBin,iop,t1,ti1,t2,ti2,t3,ti3,t24,ti24,t26,ti26,t35,ti35,t40,ti40,t58,ti58,t60,ti60,Zh,map_at_l,map_at_i,map_at_n] <;> exact rfl) ?_) | (first | (refine st_g0 rfl rfl rfl (by simp only [St.put,Za,Zb] <;> exact rfl) ?_) | (refine st_gu rfl rfl rfl (by simp only [St.put,Za,Zb] <;> exact rfl) ?_))))
      (all_goals refine st_op rfl (by simp (disch := omega) only [stepf,callOf,qop,fop,St.ev,St.put,cd,zd,Value.oneCell',tb_T,TypeDesc.aggB,getD_0,getD_s,Ze,Zd,Zc,Za,Zb,Zr,ZE,ZF,Zf,Zq,Zg,i64_w,Zt,Zs,qFieldAddr,fieldOf,Zl,Zo,Zv,Zw,Zj,Zk,Zx,Zy,qLoad,bload,pload,pureAll,D.pure?,ZC,ZD,qBin,iop,t1,ti1,t2,ti2,t3,ti3,t24,ti24,t26,ti26,t35,ti35,t40,ti40,t58,ti58,t60,ti60,Zh,map_at_l,map_at_i,map_at_n] <;> exact rfl) ?_)
      all_goals refine aops_nil ?_
      all_goals refine ⟨rfl, ?_, leB_self _, leV_self _, rfl, rfl⟩
      all_goals repeat' (first | exact leL_nil | refine leL_a ?_ | refine leL_r rfl ?_ | refine leL_r ?_ ?_)
      all_goals refine jn ?_
      all_goals ((try simp only [Zp,Zi,ZJ,ZK,Bool.not_eq_true,Zm,Zn,ne_eq,Zf,true_iff,false_iff,iff_true,iff_false] at *) <;> omega)
    refine exq_n ?_
    refine aw_cond _ rfl (fun hc2 => ?_) (fun hc2 => ?_)
    · try simp only [Zp,Zi,ZK,ZJ,ne_eq,Zn,Zm,ZB,ZA,ZI,not_or,not_and,Zu] at hc2
      refine aw_seq ?_
      refine aw_regK hX hb [0, 1] rfl (σ' := ?s10) (fun K hK => ?h10) ?n10
      case h10 =>
        iterate 2 (refine st_op rfl (by simp (disch := omega) only [stepf,callOf,qop,fop,St.ev,St.put,cd,zd,Value.oneCell',tb_T,TypeDesc.aggB,getD_0,getD_s,Ze,Zd,Zc,Za,Zb,Zr,ZE,ZF,Zf,Zq,Zg,i64_w,Zt,Zs,t5,ti5,t22,ti22,t50,ti50,Zh,map_at_l,map_at_i,map_at_n] <;> exact rfl) ?_)
        refine aops_nil ?_
        exact hK
      refine exq_n ?_
      refine aw_ret ?_
      refine exq_r ?_
      exact ret_r rfl (resOf_two rfl rfl (by first | rfl | (first | exact diff_bad (by omega) h1 hc1 | (rw [refDiff, if_neg (not_not_intro (h1 (by omega))), if_neg (not_not_intro (h2 (by omega))), if_pos hc2]; rfl) | (rw [refDiff, if_neg (not_not_intro hch0), if_neg (not_not_intro hch1), if_neg (by rintro (h | h) <;> exact h rfl)]; dsimp only; rw [foundN_L, ← hX0, refExt_merge, Int.toNat_natCast, Int.toNat_natCast, show X.take j = X from List.take_of_length_le (by omega)]))))
    · try simp only [Zp,Zi,ZK,ZJ,ne_eq,Zn,Zm,ZB,ZA,ZI,not_or,not_and,Zu] at hc2
      obtain ⟨hch0, hch1⟩ : refChk ⟨sa, fa, la⟩ = 0 ∧ refChk ⟨sb, fb, lb⟩ = 0 := ⟨h1 (by omega), h2 (by omega)⟩
      obtain ⟨rfl, rfl⟩ : sa = sb ∧ fa = fb := hc2
      have hab : Alike la lb := refChk_alike hch0 hch1 rfl rfl
      have hrow := (refChk_row hch0).1
      have hfw := refChk_few hch0
      obtain ⟨S, F, hS, hF, q1, q2, q3, q4, q5, q6⟩ := refChk_ok hch0
      dsimp only at hS hF q5 q6 hrow hfw
      subst hS
      subst hF
      have ek : ((la.length : Int) - 1) = ((la.length - 1 : Nat) : Int) := by omega
      have hhv : Halves la := by rw [← q6]; exact halves_of _ _ (Nat.le_refl _)
      have hlast : 1 ≤ (la.getD (la.length - 1) []).length := Nat.le_of_eq (sh_last q5 (fun h => by rw [h] at hfw; exact absurd hfw.1 (by simp))).symm
      have hsm := hab.small
      have hrw := hab.row
      have hln := hab.len
      refine aw_skip ?_
      refine exq_n ?_
      refine aw_seq ?_
      refine aw_regK hX hb [0] rfl (σ' := ?s11) (fun K hK => ?h11) ?n11
      case h11 =>
        (refine st_op rfl (by simp (disch := omega) only [stepf,callOf,qop,fop,St.ev,St.put,cd,zd,Value.oneCell',tb_T,TypeDesc.aggB,getD_0,getD_s,Ze,Zd,Zc,Za,Zb,Zr,ZE,ZF,Zf,Zq,Zg,i64_w,Zt,Zs,ZM,ZL,Zl,Zo,ZG,ZH,St.addBox,Value.cells,t3,ti3,t87,ti87,t126,ti126,Zh,map_at_l,map_at_i,map_at_n] <;> exact rfl) ?_)
        refine aops_nil ?_
        exact hK
      refine exq_n ?_
      refine aw_seq ?_
      refine aw_regK hX hb [0, 1, 2, 3, 4] rfl (σ' := ?s12) (fun K hK => ?h12) ?n12
      case h12 =>
        iterate 5 (refine st_op rfl (by simp (disch := omega) only [stepf,callOf,qop,fop,St.ev,St.put,cd,zd,Value.oneCell',tb_T,TypeDesc.aggB,getD_0,getD_s,Ze,Zd,Zc,Za,Zb,Zr,ZE,ZF,Zf,Zq,Zg,i64_w,Zt,Zs,qFieldAddr,fieldOf,Zl,Zo,Zv,Zw,Zj,Zk,Zx,Zy,qLoad,bload,pload,pureAll,D.pure?,ZC,ZD,qLen,qBin,iop,t1,ti1,t2,ti2,t3,ti3,t5,ti5,t22,ti22,t24,ti24,t26,ti26,t47,ti47,t50,ti50,t58,ti58,t60,ti60,Zh,map_at_l,map_at_i,map_at_n,ek] <;> exact rfl) ?_)
        refine aops_nil ?_
        exact hK
      refine exq_n ?_
      refine aw_seq ?_
      refine aw_seq ?_
      refine aw_regK hX hb [0, 1] rfl (σ' := ?s13) (fun K hK => ?h13) ?n13
      case h13 =>
        iterate 2 (refine st_op rfl (by simp (disch := omega) only [stepf,callOf,qop,fop,St.ev,St.put,cd,zd,Value.oneCell',tb_T,TypeDesc.aggB,getD_0,getD_s,Ze,Zd,Zc,Za,Zb,Zr,ZE,ZF,Zf,Zq,Zg,i64_w,Zt,Zs,t5,ti5,t50,ti50,Zh,map_at_l,map_at_i,map_at_n] <;> exact rfl) ?_)
        refine aops_nil ?_
        exact hK
      refine exq_n ?_
      refine aw_block ?_
      refine aw_loop (ι := Int × List Nat) (fun p => -1 ≤ p.1 ∧ BfI la lb (la.length - 1) (p.1 + 1).toNat p.2) (fun p => ⟨[], [.any, .any, .ptr 0 0, .ptr 1 0, .any, .any, .any, .any, .any, .ptr 2 0, .p (i64 ((la.length - 1) : Nat)), .p (i64 p.1), .any, .any, .any, .any, .any, .any, .any, .any, .any, .any, .any, .any, .any, .any, .any, .any, .any, .any, .any, .any, .any, .any, .any, .any, .any, .any, .any, .any, .any, .any, .any, .any, .any, .any, .any, .any, .any, .any, .any, .any, .any, .any, .any, .any, .any, .any, .any, .any, .any, .any, .any, .any, .any, .any, .any, .any, .any, .any, .any, .any, .any, .any, .any, .any, .any, .any, .any, .any, .any, .any, .any, .any, .any, .any, .any, .any, .any, .any, .any, .any, .any, .any, .any, .any, .any, .any, .any, .any, .any, .any, .any, .any, .any, .any, .any, .any, .any, .any, .any, .any, .any, .any, .any, .any, .any, .any, .any, .any, .any, .any, .any, .any, .any, .any, .any, .any, .any, .any, .any, .any, .any, .any, .any, .any, .any, .any, .any, .any, .any, .any, .any, .any, .any, .any, .any, .any, .any, .any], [⟨26, [.p (i64 (S : Int)), .p (i64 (F : Int)), .p (lvls la)]⟩, ⟨26, [.p (i64 (S : Int)), .p (i64 (F : Int)), .p (lvls lb)]⟩, ⟨126, fcells (la.length - 1) (p.1 + 1).toNat p.2⟩], []⟩) (fun p => (p.1 + 1).toNat) (((la.length - 1 : Nat) : Int), []) (by exact ⟨by dsimp only; omega, by dsimp only; rw [toNat_succ]; exact bf_start _ _ _⟩) (wk_le ⟨rfl, leL_a (leL_a (leL_r rfl (leL_r rfl (leL_a (leL_a (leL_a (leL_a (leL_a (leL_r rfl (leL_r rfl (leL_r rfl (leL_a (leL_a (leL_a (leL_a (leL_a (leL_a (leL_a (leL_a (leL_a (leL_a (leL_a (leL_a (leL_a (leL_a (leL_a (leL_a (leL_a (leL_a (leL_a (leL_a (leL_a (leL_a (leL_a (leL_a (leL_a (leL_a (leL_a (leL_a (leL_a (leL_a (leL_a (leL_a (leL_a (leL_a (leL_a (leL_a (leL_a (leL_a (leL_a (leL_a (leL_a (leL_a (leL_a (leL_a (leL_a (leL_a (leL_a (leL_a (leL_a (leL_a (leL_a (leL_a (leL_a (leL_a (leL_a (leL_a (leL_a (leL_a (leL_a (leL_a (leL_a (leL_a (leL_a (leL_a (leL_a (leL_a (leL_a (leL_a (leL_a (leL_a (leL_a (leL_a (leL_a (leL_a (leL_a (leL_a (leL_a (leL_a (leL_a (leL_a (leL_a (leL_a (leL_a (leL_a (leL_a (leL_a (leL_a (leL_a (leL_a (leL_a (leL_a (leL_a (leL_a (leL_a (leL_a (leL_a (leL_a (leL_a (leL_a (leL_a (leL_a (leL_a (leL_a (leL_a (leL_a (leL_a (leL_a (leL_a (leL_a (leL_a (leL_a (leL_a (leL_a (leL_a (leL_a (leL_a (leL_a (leL_a (leL_a (leL_a (leL_a (leL_a (leL_a (leL_a (leL_a (leL_a (leL_a (leL_a (leL_a (leL_a (leL_a (leL_a (leL_a (leL_a (leL_a (leL_a (leL_a (leL_a (leL_nil)))))))))))))))))))))))))))))))))))))))))))))))))))))))))))))))))))))))))))))))))))))))))))))))))))))))))))))))))))))))))))))))))))))))))))))))))))))), (leB_r rfl (leL_r rfl (leL_r rfl (leL_r rfl (leL_nil)))) (leB_r rfl (leL_r rfl (leL_r rfl (leL_r rfl (leL_nil)))) (leB_r rfl (by first | exact fc_start _ (by omega) | (dsimp only; rw [show ((m : Int) - 1 + 1).toNat = m by omega]; exact fc_next (la.length - 1) m X _ (by omega) (by omega))) (leB_nil _)))), (leV_nil _), rfl, (bc3 rfl rfl (fcells_in _ _ _ _ _))⟩) ?_
      rintro ⟨lvI, X⟩ ⟨hlv, hI⟩
      dsimp only at hlv hI ⊢
      refine aw_seq ?_
      refine aw_seq ?_
      refine aw_regK hX hb [0, 1] rfl (σ' := ?s14) (fun K hK => ?h14) ?n14
      case h14 =>
        iterate 2 (refine st_op rfl (by simp (disch := omega) only [stepf,callOf,qop,fop,St.ev,St.put,cd,zd,Value.oneCell',tb_T,TypeDesc.aggB,getD_0,getD_s,Ze,Zd,Zc,Za,Zb,Zr,ZE,ZF,Zf,Zq,Zg,i64_w,Zt,Zs,qBin,iop,t3,ti3,Zh,map_at_l,map_at_i,map_at_n] <;> exact rfl) ?_)
        refine aops_nil ?_
        exact hK
      refine exq_n ?_
      refine aw_cond _ rfl (fun hc3 => ?_) (fun hc3 => ?_)
      · try simp only [Zp,Zi,ZK,ZJ,ne_eq,Zn,Zm,ZB,ZA,ZI,not_or,not_and,Zu] at hc3
        obtain ⟨m, rfl⟩ : ∃ m : Nat, lvI = m := ⟨lvI.toNat, by omega⟩
        rw [toNat_succ m] at hI ⊢
        have hml := hI.le
        have hXl := few_len (by omega) hI
        obtain ⟨hv1, hv2, hv3⟩ := vis_ok hhv hlast (by omega) (by omega) hI
        rw [Nat.add_sub_cancel] at hv1 hv2 hv3
        have hvl := vis_len (by omega) hv2
        have hlam := hsm m
        have hlbm := hrw m
        have hnx := bf_next hhv hlast (by omega) (by omega) hI
        rw [Nat.add_sub_cancel] at hnx
        refine aw_skip ?_
        refine exq_n ?_
        refine aw_seq ?_
        refine aw_block ?_
        refine aw_seq ?_
        refine aw_regK hX hb [0, 1] rfl (σ' := ?s15) (fun K hK => ?h15) ?n15
        case h15 =>
          iterate 2 (refine st_op rfl (by simp (disch := omega) only [stepf,callOf,qop,fop,St.ev,St.put,cd,zd,Value.oneCell',tb_T,TypeDesc.aggB,getD_0,getD_s,Ze,Zd,Zc,Za,Zb,Zr,ZE,ZF,Zf,Zq,Zg,i64_w,Zt,Zs,tb_N,tbO_N,tbW_N,tb_O,fBuildSlice,catCells,D.cells?,D.pure?,range_1,range_2,range_3,range_4,range_5,ZG,ZH,ZL,ZM,ZN,Zl,Zo,sec8_length,Nat.reduceAdd,Nat.reduceMul,t1,ti1,t3,ti3,t87,ti87,Zh,map_at_l,map_at_i,map_at_n] <;> exact rfl) ?_)
          refine aops_nil ?_
          exact hK
        refine exq_n ?_
        refine aw_seq ?_
        refine aw_seq ?_
        refine aw_regK hX hb [0, 1, 2] rfl (σ' := ?s16) (fun K hK => ?h16) ?n16
        case h16 =>
          iterate 3 (refine st_op rfl (by simp (disch := omega) only [stepf,callOf,qop,fop,St.ev,St.put,cd,zd,Value.oneCell',tb_T,TypeDesc.aggB,getD_0,getD_s,Ze,Zd,Zc,Za,Zb,Zr,ZE,ZF,Zf,Zq,Zg,i64_w,Zt,Zs,qBin,iop,t3,ti3,Zh,map_at_l,map_at_i,map_at_n] <;> exact rfl) ?_)
          refine aops_nil ?_
          exact hK
        refine exq_n ?_
        refine aw_wkJ (σ' := ⟨[], [.any, .any, .ptr 0 0, .ptr 1 0, .any, .any, .any, .any, .any, .ptr 2 0, .p (i64 ((la.length - 1) : Nat)), .p (i64 (m : Int)), .p (natP (visL la (la.length - 1) (m + 1) X)), .any, .any, .any, .any, .any, .any, .any, .any, .any, .any, .any, .any, .any, .any, .any, .any, .any, .any, .any, .any, .any, .any, .any, .any, .any, .any, .any, .any, .any, .any, .any, .any, .any, .any, .any, .any, .any, .any, .any, .any, .any, .any, .any, .any, .any, .any, .any, .any, .any, .any, .any, .any, .any, .any, .any, .any, .any, .any, .any, .any, .any, .any, .any, .any, .any, .any, .any, .any, .any, .any, .any, .any, .any, .any, .any, .any, .any, .any, .any, .any, .any, .any, .any, .any, .any, .any, .any, .any, .any, .any, .any, .any, .any, .any, .any, .any, .any, .any, .any, .any, .any, .any, .any, .any, .any, .any, .any, .any, .any, .any, .any, .any, .any, .any, .any, .any, .any, .any, .any, .any, .any, .any, .any, .any, .any, .any, .any, .any, .any, .any, .any, .any, .any, .any, .any, .any, .any], [⟨26, [.p (i64 (S : Int)), .p (i64 (F : Int)), .p (lvls la)]⟩, ⟨26, [.p (i64 (S : Int)), .p (i64 (F : Int)), .p (lvls lb)]⟩, ⟨126, fcells (la.length - 1) (m + 1) X⟩], []⟩) ?_ ?_
        · refine aw_cond _ rfl (fun hc4 => ?_) (fun hc4 => ?_)
          · try simp only [Zp,Zi,ZK,ZJ,ne_eq,Zn,Zm,ZB,ZA,ZI,not_or,not_and,Zu] at hc4
            have hmt : m + 1 ≤ la.length - 1 := by omega
            have fcm := fcells_at (la.length - 1) (m + 1) X hmt (by omega)
            have hin := (hI.st hmt).inr
            have hsm1 := hsm (m + 1)
            refine aw_seq ?_
            refine aw_regK hX hb [0] rfl (σ' := ?s17) (fun K hK => ?h17) ?n17
            case h17 =>
              (refine st_op rfl (by simp (disch := omega) only [stepf,callOf,qop,fop,St.ev,St.put,cd,zd,Value.oneCell',tb_T,TypeDesc.aggB,getD_0,getD_s,Ze,Zd,Zc,Za,Zb,Zr,ZE,ZF,Zf,Zq,Zg,i64_w,Zt,Zs,Zh,map_at_l,map_at_i,map_at_n] <;> exact rfl) ?_)
              refine aops_nil ?_
              exact hK
            refine exq_n ?_
            refine aw_nil 12 3 1 rfl (σ' := ?s18) ?h18 ?n18
            case h18 => simp only [St.nilSlot,St.addVec,Za,Zb,Zl,Zo,ZL,ZM]; exact rfl
            refine aw_seq ?_
            refine aw_regK hX hb [0, 1, 2, 3, 4, 5] rfl (σ' := ?s19) (fun K hK => ?h19) ?n19
            case h19 =>
              iterate 6 (refine st_op rfl (by simp (disch := omega) only [stepf,callOf,qop,fop,St.ev,St.put,cd,zd,Value.oneCell',tb_T,TypeDesc.aggB,getD_0,getD_s,Ze,Zd,Zc,Za,Zb,Zr,ZE,ZF,Zf,Zq,Zg,i64_w,Zt,Zs,qBin,iop,Int.toNat_zero,Int.toNat_one,toNat_pred,toNat_succ,qIndexAddr,ZO,Nat.mul_one,ZC,Nat.zero_mul,Zh,Zl,Zo,Zv,Zw,Zj,Zk,Zx,Zy,qLoad,bload,pload,pureAll,D.pure?,ZD,qLen,t1,ti1,t3,ti3,t58,ti58,t60,ti60,t87,ti87,t126,ti126,map_at_l,map_at_i,map_at_n,fcm] <;> exact rfl) ?_)
              refine aops_nil ?_
              exact hK
            refine exq_n ?_
            refine aw_block ?_
            refine aw_loop (ι := Nat) (fun j => j ≤ X.length) (fun j => ⟨[], [.any, .any, .ptr 0 0, .ptr 1 0, .any, .any, .any, .any, .any, .ptr 2 0, .p (i64 ((la.length - 1) : Nat)), .p (i64 (m : Int)), .vref 0, .any, .any, .any, .any, .any, .any, .any, .any, .any, .any, .any, .any, .any, .any, .any, .any, .any, .any, .any, .any, .any, .any, .any, .any, .any, .any, .any, .any, .any, .any, .any, .any, .any, .any, .any, .any, .any, .any, .any, .any, .any, .any, .any, .any, .any, .any, .any, .any, .any, .p (natP X), .p (i64 X.length), .p (i64 j), .any, .any, .any, .any, .any, .any, .any, .any, .any, .any, .any, .any, .any, .any, .any, .any, .any, .any, .any, .any, .any, .any, .any, .any, .any, .any, .any, .any, .any, .any, .any, .any, .any, .any, .any, .any, .any, .any, .any, .any, .any, .any, .any, .any, .any, .any, .any, .any, .any, .any, .any, .any, .any, .any, .any, .any, .any, .any, .any, .any, .any, .any, .any, .any, .any, .any, .any, .any, .any, .any, .any, .any, .any, .any, .any, .any, .any, .any, .any, .any, .any, .any, .any, .any, .any], [⟨26, [.p (i64 (S : Int)), .p (i64 (F : Int)), .p (lvls la)]⟩, ⟨26, [.p (i64 (S : Int)), .p (i64 (F : Int)), .p (lvls lb)]⟩, ⟨126, fcells (la.length - 1) (m + 1) X⟩], [some ⟨3, 1, (kids la m (X.take j)).length, (kids la m (X.take j)).map fun n : Nat => i64 (n : Int)⟩]⟩) (fun j => X.length - j) 0 (by exact Nat.zero_le _) (wk_le ⟨rfl, leL_a (leL_a (leL_r (by first | rfl | (first | (rw [kids_take la m X j (by omega), kid, if_pos (by omega)]; simp) | (rw [kids_take la m X j (by omega), kid, if_neg (by omega)]; simp))) (leL_r (by first | rfl | (first | (rw [kids_take la m X j (by omega), kid, if_pos (by omega)]; simp) | (rw [kids_take la m X j (by omega), kid, if_neg (by omega)]; simp))) (leL_a (leL_a (leL_a (leL_a (leL_a (leL_r (by first | rfl | (first | (rw [kids_take la m X j (by omega), kid, if_pos (by omega)]; simp) | (rw [kids_take la m X j (by omega), kid, if_neg (by omega)]; simp))) (leL_r (by first | rfl | (first | (rw [kids_take la m X j (by omega), kid, if_pos (by omega)]; simp) | (rw [kids_take la m X j (by omega), kid, if_neg (by omega)]; simp))) (leL_r (by first | rfl | (first | (rw [kids_take la m X j (by omega), kid, if_pos (by omega)]; simp) | (rw [kids_take la m X j (by omega), kid, if_neg (by omega)]; simp))) (leL_r (by first | rfl | (first | (rw [kids_take la m X j (by omega), kid, if_pos (by omega)]; simp) | (rw [kids_take la m X j (by omega), kid, if_neg (by omega)]; simp))) (leL_a (leL_a (leL_a (leL_a (leL_a (leL_a (leL_a (leL_a (leL_a (leL_a (leL_a (leL_a (leL_a (leL_a (leL_a (leL_a (leL_a (leL_a (leL_a (leL_a (leL_a (leL_a (leL_a (leL_a (leL_a (leL_a (leL_a (leL_a (leL_a (leL_a (leL_a (leL_a (leL_a (leL_a (leL_a (leL_a (leL_a (leL_a (leL_a (leL_a (leL_a (leL_a (leL_a (leL_a (leL_a (leL_a (leL_a (leL_a (leL_a (leL_r (by first | rfl | (first | (rw [kids_take la m X j (by omega), kid, if_pos (by omega)]; simp) | (rw [kids_take la m X j (by omega), kid, if_neg (by omega)]; simp))) (leL_r (by first | rfl | (first | (rw [kids_take la m X j (by omega), kid, if_pos (by omega)]; simp) | (rw [kids_take la m X j (by omega), kid, if_neg (by omega)]; simp))) (leL_r (by first | rfl | (first | (rw [kids_take la m X j (by omega), kid, if_pos (by omega)]; simp) | (rw [kids_take la m X j (by omega), kid, if_neg (by omega)]; simp))) (leL_a (leL_a (leL_a (leL_a (leL_a (leL_a (leL_a (leL_a (leL_a (leL_a (leL_a (leL_a (leL_a (leL_a (leL_a (leL_a (leL_a (leL_a (leL_a (leL_a (leL_a (leL_a (leL_a (leL_a (leL_a (leL_a (leL_a (leL_a (leL_a (leL_a (leL_a (leL_a (leL_a (leL_a (leL_a (leL_a (leL_a (leL_a (leL_a (leL_a (leL_a (leL_a (leL_a (leL_a (leL_a (leL_a (leL_a (leL_a (leL_a (leL_a (leL_a (leL_a (leL_a (leL_a (leL_a (leL_a (leL_a (leL_a (leL_a (leL_a (leL_a (leL_a (leL_a (leL_a (leL_a (leL_a (leL_a (leL_a (leL_a (leL_a (leL_a (leL_a (leL_a (leL_a (leL_a (leL_a (leL_a (leL_a (leL_a (leL_a (leL_a (leL_a (leL_a (leL_a (leL_a (leL_nil)))))))))))))))))))))))))))))))))))))))))))))))))))))))))))))))))))))))))))))))))))))))))))))))))))))))))))))))))))))))))))))))))))))))))))))))))))))), (leB_r rfl (leL_r (by first | rfl | (first | (rw [kids_take la m X j (by omega), kid, if_pos (by omega)]; simp) | (rw [kids_take la m X j (by omega), kid, if_neg (by omega)]; simp))) (leL_r (by first | rfl | (first | (rw [kids_take la m X j (by omega), kid, if_pos (by omega)]; simp) | (rw [kids_take la m X j (by omega), kid, if_neg (by omega)]; simp))) (leL_r (by first | rfl | (first | (rw [kids_take la m X j (by omega), kid, if_pos (by omega)]; simp) | (rw [kids_take la m X j (by omega), kid, if_neg (by omega)]; simp))) (leL_nil)))) (leB_r rfl (leL_r (by first | rfl | (first | (rw [kids_take la m X j (by omega), kid, if_pos (by omega)]; simp) | (rw [kids_take la m X j (by omega), kid, if_neg (by omega)]; simp))) (leL_r (by first | rfl | (first | (rw [kids_take la m X j (by omega), kid, if_pos (by omega)]; simp) | (rw [kids_take la m X j (by omega), kid, if_neg (by omega)]; simp))) (leL_r (by first | rfl | (first | (rw [kids_take la m X j (by omega), kid, if_pos (by omega)]; simp) | (rw [kids_take la m X j (by omega), kid, if_neg (by omega)]; simp))) (leL_nil)))) (leB_r rfl (by first | exact leL_self _ | exact leL_eq (by simp only [fcells_dem,fcells_frz])) (leB_nil _)))), (leV_r (by first | rfl | (first | (rw [kids_take la m X j (by omega), kid, if_pos (by omega)]; simp) | (rw [kids_take la m X j (by omega), kid, if_neg (by omega)]; simp))) (leV_nil _)), rfl, (bc3 rfl rfl (fcells_in _ _ _ _ _))⟩) ?_
            rintro j hJ
            have hkl := kids_length la m (X.take j)
            rw [List.length_take] at hkl
            refine aw_seq ?_
            refine aw_regK hX hb [0] rfl (σ' := ?s20) (fun K hK => ?h20) ?n20
            case h20 =>
              (refine st_op rfl (by simp (disch := omega) only [stepf,callOf,qop,fop,St.ev,St.put,cd,zd,Value.oneCell',tb_T,TypeDesc.aggB,getD_0,getD_s,Ze,Zd,Zc,Za,Zb,Zr,ZE,ZF,Zf,Zq,Zg,i64_w,Zt,Zs,qBin,iop,t3,ti3,t5,ti5,t22,ti22,t50,ti50,t58,ti58,t60,ti60,t63,ti63,Zh,map_at_l,map_at_i,map_at_n] <;> exact rfl) ?_)
              refine aops_nil ?_
              exact hK
            refine exq_n ?_
            refine aw_seq ?_
            refine aw_cond _ rfl (fun hc5 => ?_) (fun hc5 => ?_)
            · try simp only [Zp,Zi,ZK,ZJ,ne_eq,Zn,Zm,ZB,ZA,ZI,not_or,not_and,Zu] at hc5
              have hxj := hin _ (getD_mem X 0 j (by omega))
              refine aw_skip ?_
              refine exq_n ?_
              refine aw_seq ?_
              refine aw_block ?_
              refine aw_seq ?_
              refine aw_regK hX hb [0, 1, 2] rfl (σ' := ?s21) (fun K hK => ?h21) ?n21
              case h21 =>
                iterate 3 (refine st_op rfl (by simp (disch := omega) only [stepf,callOf,qop,fop,St.ev,St.put,cd,zd,Value.oneCell',tb_T,TypeDesc.aggB,getD_0,getD_s,Ze,Zd,Zc,Za,Zb,Zr,ZE,ZF,Zf,Zq,Zg,i64_w,Zt,Zs,Int.toNat_zero,Int.toNat_one,toNat_pred,toNat_succ,qIndexAddr,ZO,Nat.mul_one,ZC,Nat.zero_mul,Zh,Zl,Zo,Zv,Zw,Zj,Zk,Zx,Zy,qLoad,bload,pload,pureAll,D.pure?,ZD,t3,ti3,t87,ti87,map_at_l,map_at_i,map_at_n] <;> exact rfl) ?_)
                refine aops_nil ?_
                exact hK
              refine exq_n ?_
              refine aw_seq ?_
              refine aw_regK hX hb [0, 1, 2, 3, 4, 5] rfl (σ' := ?s22) (fun K hK => ?h22) ?n22
              case h22 =>
                iterate 6 (refine st_op rfl (by simp (disch := omega) only [stepf,callOf,qop,fop,St.ev,St.put,cd,zd,Value.oneCell',tb_T,TypeDesc.aggB,getD_0,getD_s,Ze,Zd,Zc,Za,Zb,Zr,ZE,ZF,Zf,Zq,Zg,i64_w,Zt,Zs,qBin,iop,tb_N,tbO_N,tbW_N,tb_O,fBuildSlice,catCells,D.cells?,D.pure?,range_1,range_2,range_3,range_4,range_5,ZG,ZH,ZL,ZM,ZN,Zl,Zo,sec8_length,Nat.reduceAdd,Nat.reduceMul,fAppend,appV,St.demote,D.demote,St.setVec,Zh,List.length_append,ZC,Nat.mul_one,reduceIte,t1,ti1,t2,ti2,t3,ti3,t5,ti5,t69,ti69,t71,ti71,t87,ti87,map_at_l,map_at_i,map_at_n] <;> exact rfl) ?_)
                refine aops_nil ?_
                exact hK
              refine exq_n ?_
              refine aw_seq ?_
              refine aw_regK hX hb [0, 1, 2, 3, 4, 5, 6, 7, 8, 9] rfl (σ' := ?s23) (fun K hK => ?h23) ?n23
              case h23 =>
                iterate 10 (refine st_op rfl (by simp (disch := omega) only [stepf,callOf,qop,fop,St.ev,St.put,cd,zd,Value.oneCell',tb_T,TypeDesc.aggB,getD_0,getD_s,Ze,Zd,Zc,Za,Zb,Zr,ZE,ZF,Zf,Zq,Zg,i64_w,Zt,Zs,qBin,iop,qFieldAddr,fieldOf,Zl,Zo,Zv,Zw,Zj,Zk,Zx,Zy,qLoad,bload,pload,pureAll,D.pure?,ZC,ZD,Int.toNat_zero,Int.toNat_one,toNat_pred,toNat_succ,qIndexAddr,ZO,Nat.mul_one,Nat.zero_mul,Zh,qLen,t1,ti1,t2,ti2,t3,ti3,t4,ti4,t5,ti5,t24,ti24,t26,ti26,t35,ti35,t40,ti40,t58,ti58,t60,ti60,t75,ti75,t77,ti77,t87,ti87,t88,ti88,t90,ti90,map_at_l,map_at_i,map_at_n] <;> exact rfl) ?_)
                refine aops_nil ?_
                exact hK
              refine exq_n ?_
              refine aw_cond _ rfl (fun hc6 => ?_) (fun hc6 => ?_)
              · try simp only [Zp,Zi,ZK,ZJ,ne_eq,Zn,Zm,ZB,ZA,ZI,not_or,not_and,Zu] at hc6
                refine aw_regK hX hb [0, 1, 2, 3, 4, 5, 6] rfl (σ' := ?s24) (fun K hK => ?h24) ?n24
                case h24 =>
                  iterate 7 (refine st_op rfl (by simp (disch := omega) only [stepf,callOf,qop,fop,St.ev,St.put,cd,zd,Value.oneCell',tb_T,TypeDesc.aggB,getD_0,getD_s,Ze,Zd,Zc,Za,Zb,Zr,ZE,ZF,Zf,Zq,Zg,i64_w,Zt,Zs,qBin,iop,tb_N,tbO_N,tbW_N,tb_O,fBuildSlice,catCells,D.cells?,D.pure?,range_1,range_2,range_3,range_4,range_5,ZG,ZH,ZL,ZM,ZN,Zl,Zo,sec8_length,Nat.reduceAdd,Nat.reduceMul,fAppend,appV,St.demote,D.demote,St.setVec,Zh,List.length_append,ZC,Nat.mul_one,reduceIte,t1,ti1,t2,ti2,t3,ti3,t5,ti5,t87,ti87,t88,ti88,map_at_l,map_at_i,map_at_n] <;> exact rfl) ?_)
                  refine aops_nil ?_
                  exact hK
                refine exb_n ?_
                refine exq_n ?_
                refine aw_regK hX hb [0, 1] rfl (σ' := ?s25) (fun K hK => ?h25) ?n25
                case h25 =>
                  iterate 2 (refine st_op rfl (by simp (disch := omega) only [stepf,callOf,qop,fop,St.ev,St.put,cd,zd,Value.oneCell',tb_T,TypeDesc.aggB,getD_0,getD_s,Ze,Zd,Zc,Za,Zb,Zr,ZE,ZF,Zf,Zq,Zg,i64_w,Zt,Zs,qBin,iop,t1,ti1,t3,ti3,Zh,map_at_l,map_at_i,map_at_n] <;> exact rfl) ?_)
                  refine aops_nil ?_
                  exact hK
                refine exq_n ?_
                exact ⟨j + 1, by (try dsimp only); omega, by (try dsimp only); omega, wk_le ⟨rfl, leL_a (leL_a (leL_r (by first | rfl | (first | (rw [kids_take la m X j (by omega), kid, if_pos (by omega)]; simp) | (rw [kids_take la m X j (by omega), kid, if_neg (by omega)]; simp))) (leL_r (by first | rfl | (first | (rw [kids_take la m X j (by omega), kid, if_pos (by omega)]; simp) | (rw [kids_take la m X j (by omega), kid, if_neg (by omega)]; simp))) (leL_a (leL_a (leL_a (leL_a (leL_a (leL_r (by first | rfl | (first | (rw [kids_take la m X j (by omega), kid, if_pos (by omega)]; simp) | (rw [kids_take la m X j (by omega), kid, if_neg (by omega)]; simp))) (leL_r (by first | rfl | (first | (rw [kids_take la m X j (by omega), kid, if_pos (by omega)]; simp) | (rw [kids_take la m X j (by omega), kid, if_neg (by omega)]; simp))) (leL_r (by first | rfl | (first | (rw [kids_take la m X j (by omega), kid, if_pos (by omega)]; simp) | (rw [kids_take la m X j (by omega), kid, if_neg (by omega)]; simp))) (leL_r (by first | rfl | (first | (rw [kids_take la m X j (by omega), kid, if_pos (by omega)]; simp) | (rw [kids_take la m X j (by omega), kid, if_neg (by omega)]; simp))) (leL_a (leL_a (leL_a (leL_a (leL_a (leL_a (leL_a (leL_a (leL_a (leL_a (leL_a (leL_a (leL_a (leL_a (leL_a (leL_a (leL_a (leL_a (leL_a (leL_a (leL_a (leL_a (leL_a (leL_a (leL_a (leL_a (leL_a (leL_a (leL_a (leL_a (leL_a (leL_a (leL_a (leL_a (leL_a (leL_a (leL_a (leL_a (leL_a (leL_a (leL_a (leL_a (leL_a (leL_a (leL_a (leL_a (leL_a (leL_a (leL_a (leL_r (by first | rfl | (first | (rw [kids_take la m X j (by omega), kid, if_pos (by omega)]; simp) | (rw [kids_take la m X j (by omega), kid, if_neg (by omega)]; simp))) (leL_r (by first | rfl | (first | (rw [kids_take la m X j (by omega), kid, if_pos (by omega)]; simp) | (rw [kids_take la m X j (by omega), kid, if_neg (by omega)]; simp))) (leL_r (by first | rfl | (first | (rw [kids_take la m X j (by omega), kid, if_pos (by omega)]; simp) | (rw [kids_take la m X j (by omega), kid, if_neg (by omega)]; simp))) (leL_a (leL_a (leL_a (leL_a (leL_a (leL_a (leL_a (leL_a (leL_a (leL_a (leL_a (leL_a (leL_a (leL_a (leL_a (leL_a (leL_a (leL_a (leL_a (leL_a (leL_a (leL_a (leL_a (leL_a (leL_a (leL_a (leL_a (leL_a (leL_a (leL_a (leL_a (leL_a (leL_a (leL_a (leL_a (leL_a (leL_a (leL_a (leL_a (leL_a (leL_a (leL_a (leL_a (leL_a (leL_a (leL_a (leL_a (leL_a (leL_a (leL_a (leL_a (leL_a (leL_a (leL_a (leL_a (leL_a (leL_a (leL_a (leL_a (leL_a (leL_a (leL_a (leL_a (leL_a (leL_a (leL_a (leL_a (leL_a (leL_a (leL_a (leL_a (leL_a (leL_a (leL_a (leL_a (leL_a (leL_a (leL_a (leL_a (leL_a (leL_a (leL_a (leL_a (leL_a (leL_a (leL_nil)))))))))))))))))))))))))))))))))))))))))))))))))))))))))))))))))))))))))))))))))))))))))))))))))))))))))))))))))))))))))))))))))))))))))))))))))))))), (leB_r rfl (leL_r (by first | rfl | (first | (rw [kids_take la m X j (by omega), kid, if_pos (by omega)]; simp) | (rw [kids_take la m X j (by omega), kid, if_neg (by omega)]; simp))) (leL_r (by first | rfl | (first | (rw [kids_take la m X j (by omega), kid, if_pos (by omega)]; simp) | (rw [kids_take la m X j (by omega), kid, if_neg (by omega)]; simp))) (leL_r (by first | rfl | (first | (rw [kids_take la m X j (by omega), kid, if_pos (by omega)]; simp) | (rw [kids_take la m X j (by omega), kid, if_neg (by omega)]; simp))) (leL_nil)))) (leB_r rfl (leL_r (by first | rfl | (first | (rw [kids_take la m X j (by omega), kid, if_pos (by omega)]; simp) | (rw [kids_take la m X j (by omega), kid, if_neg (by omega)]; simp))) (leL_r (by first | rfl | (first | (rw [kids_take la m X j (by omega), kid, if_pos (by omega)]; simp) | (rw [kids_take la m X j (by omega), kid, if_neg (by omega)]; simp))) (leL_r (by first | rfl | (first | (rw [kids_take la m X j (by omega), kid, if_pos (by omega)]; simp) | (rw [kids_take la m X j (by omega), kid, if_neg (by omega)]; simp))) (leL_nil)))) (leB_r rfl (by first | exact leL_self _ | exact leL_eq (by simp only [fcells_dem,fcells_frz])) (leB_nil _)))), (leV_r (by first | rfl | (first | (rw [kids_take la m X j (by omega), kid, if_pos (by omega)]; simp) | (rw [kids_take la m X j (by omega), kid, if_neg (by omega)]; simp))) (leV_nil _)), rfl, (bc3 rfl rfl (fcells_in _ _ _ _ _))⟩⟩
              · try simp only [Zp,Zi,ZK,ZJ,ne_eq,Zn,Zm,ZB,ZA,ZI,not_or,not_and,Zu] at hc6
                refine aw_skip ?_
                refine exb_n ?_
                refine exq_n ?_
                refine aw_regK hX hb [0, 1] rfl (σ' := ?s26) (fun K hK => ?h26) ?n26
                case h26 =>
                  iterate 2 (refine st_op rfl (by simp (disch := omega) only [stepf,callOf,qop,fop,St.ev,St.put,cd,zd,Value.oneCell',tb_T,TypeDesc.aggB,getD_0,getD_s,Ze,Zd,Zc,Za,Zb,Zr,ZE,ZF,Zf,Zq,Zg,i64_w,Zt,Zs,qBin,iop,t1,ti1,t3,ti3,Zh,map_at_l,map_at_i,map_at_n] <;> exact rfl) ?_)
                  refine aops_nil ?_
                  exact hK
                refine exq_n ?_
                exact ⟨j + 1, by (try dsimp only); omega, by (try dsimp only); omega, wk_le ⟨rfl, leL_a (leL_a (leL_r (by first | rfl | (first | (rw [kids_take la m X j (by omega), kid, if_pos (by omega)]; simp) | (rw [kids_take la m X j (by omega), kid, if_neg (by omega)]; simp))) (leL_r (by first | rfl | (first | (rw [kids_take la m X j (by omega), kid, if_pos (by omega)]; simp) | (rw [kids_take la m X j (by omega), kid, if_neg (by omega)]; simp))) (leL_a (leL_a (leL_a (leL_a (leL_a (leL_r (by first | rfl | (first | (rw [kids_take la m X j (by omega), kid, if_pos (by omega)]; simp) | (rw [kids_take la m X j (by omega), kid, if_neg (by omega)]; simp))) (leL_r (by first | rfl | (first | (rw [kids_take la m X j (by omega), kid, if_pos (by omega)]; simp) | (rw [kids_take la m X j (by omega), kid, if_neg (by omega)]; simp))) (leL_r (by first | rfl | (first | (rw [kids_take la m X j (by omega), kid, if_pos (by omega)]; simp) | (rw [kids_take la m X j (by omega), kid, if_neg (by omega)]; simp))) (leL_r (by first | rfl | (first | (rw [kids_take la m X j (by omega), kid, if_pos (by omega)]; simp) | (rw [kids_take la m X j (by omega), kid, if_neg (by omega)]; simp))) (leL_a (leL_a (leL_a (leL_a (leL_a (leL_a (leL_a (leL_a (leL_a (leL_a (leL_a (leL_a (leL_a (leL_a (leL_a (leL_a (leL_a (leL_a (leL_a (leL_a (leL_a (leL_a (leL_a (leL_a (leL_a (leL_a (leL_a (leL_a (leL_a (leL_a (leL_a (leL_a (leL_a (leL_a (leL_a (leL_a (leL_a (leL_a (leL_a (leL_a (leL_a (leL_a (leL_a (leL_a (leL_a (leL_a (leL_a (leL_a (leL_a (leL_r (by first | rfl | (first | (rw [kids_take la m X j (by omega), kid, if_pos (by omega)]; simp) | (rw [kids_take la m X j (by omega), kid, if_neg (by omega)]; simp))) (leL_r (by first | rfl | (first | (rw [kids_take la m X j (by omega), kid, if_pos (by omega)]; simp) | (rw [kids_take la m X j (by omega), kid, if_neg (by omega)]; simp))) (leL_r (by first | rfl | (first | (rw [kids_take la m X j (by omega), kid, if_pos (by omega)]; simp) | (rw [kids_take la m X j (by omega), kid, if_neg (by omega)]; simp))) (leL_a (leL_a (leL_a (leL_a (leL_a (leL_a (leL_a (leL_a (leL_a (leL_a (leL_a (leL_a (leL_a (leL_a (leL_a (leL_a (leL_a (leL_a (leL_a (leL_a (leL_a (leL_a (leL_a (leL_a (leL_a (leL_a (leL_a (leL_a (leL_a (leL_a (leL_a (leL_a (leL_a (leL_a (leL_a (leL_a (leL_a (leL_a (leL_a (leL_a (leL_a (leL_a (leL_a (leL_a (leL_a (leL_a (leL_a (leL_a (leL_a (leL_a (leL_a (leL_a (leL_a (leL_a (leL_a (leL_a (leL_a (leL_a (leL_a (leL_a (leL_a (leL_a (leL_a (leL_a (leL_a (leL_a (leL_a (leL_a (leL_a (leL_a (leL_a (leL_a (leL_a (leL_a (leL_a (leL_a (leL_a (leL_a (leL_a (leL_a (leL_a (leL_a (leL_a (leL_a (leL_a (leL_nil)))))))))))))))))))))))))))))))))))))))))))))))))))))))))))))))))))))))))))))))))))))))))))))))))))))))))))))))))))))))))))))))))))))))))))))))))))))), (leB_r rfl (leL_r (by first | rfl | (first | (rw [kids_take la m X j (by omega), kid, if_pos (by omega)]; simp) | (rw [kids_take la m X j (by omega), kid, if_neg (by omega)]; simp))) (leL_r (by first | rfl | (first | (rw [kids_take la m X j (by omega), kid, if_pos (by omega)]; simp) | (rw [kids_take la m X j (by omega), kid, if_neg (by omega)]; simp))) (leL_r (by first | rfl | (first | (rw [kids_take la m X j (by omega), kid, if_pos (by omega)]; simp) | (rw [kids_take la m X j (by omega), kid, if_neg (by omega)]; simp))) (leL_nil)))) (leB_r rfl (leL_r (by first | rfl | (first | (rw [kids_take la m X j (by omega), kid, if_pos (by omega)]; simp) | (rw [kids_take la m X j (by omega), kid, if_neg (by omega)]; simp))) (leL_r (by first | rfl | (first | (rw [kids_take la m X j (by omega), kid, if_pos (by omega)]; simp) | (rw [kids_take la m X j (by omega), kid, if_neg (by omega)]; simp))) (leL_r (by first | rfl | (first | (rw [kids_take la m X j (by omega), kid, if_pos (by omega)]; simp) | (rw [kids_take la m X j (by omega), kid, if_neg (by omega)]; simp))) (leL_nil)))) (leB_r rfl (by first | exact leL_self _ | exact leL_eq (by simp only [fcells_dem,fcells_frz])) (leB_nil _)))), (leV_r (by first | rfl | (first | (rw [kids_take la m X j (by omega), kid, if_pos (by omega)]; simp) | (rw [kids_take la m X j (by omega), kid, if_neg (by omega)]; simp))) (leV_nil _)), rfl, (bc3 rfl rfl (fcells_in _ _ _ _ _))⟩⟩
            · try simp only [Zp,Zi,ZK,ZJ,ne_eq,Zn,Zm,ZB,ZA,ZI,not_or,not_and,Zu] at hc5
              refine aw_exit ?_
              refine exq_e ?_
              refine exq_e ?_
              refine exb_h ?_
              refine exj_n (wk_frz 0 rfl (σ1 := ?s27) ?h27 ?n27)
              case h27 => simp only [St.freeze,D.freeze,ZG,ZH,Za,Zb,Zr,reduceIte,Nat.reduceEqDiff]; exact rfl
              exact wk_le ⟨rfl, leL_a (leL_a (leL_r (by first | rfl | (first | (rw [visL, if_pos (by omega), Nat.add_sub_cancel, show X.take j = X from List.take_of_length_le (by omega)]) | (rw [visL, if_neg (by omega)]; rfl))) (leL_r (by first | rfl | (first | (rw [visL, if_pos (by omega), Nat.add_sub_cancel, show X.take j = X from List.take_of_length_le (by omega)]) | (rw [visL, if_neg (by omega)]; rfl))) (leL_a (leL_a (leL_a (leL_a (leL_a (leL_r (by first | rfl | (first | (rw [visL, if_pos (by omega), Nat.add_sub_cancel, show X.take j = X from List.take_of_length_le (by omega)]) | (rw [visL, if_neg (by omega)]; rfl))) (leL_r (by first | rfl | (first | (rw [visL, if_pos (by omega), Nat.add_sub_cancel, show X.take j = X from List.take_of_length_le (by omega)]) | (rw [visL, if_neg (by omega)]; rfl))) (leL_r (by first | rfl | (first | (rw [visL, if_pos (by omega), Nat.add_sub_cancel, show X.take j = X from List.take_of_length_le (by omega)]) | (rw [visL, if_neg (by omega)]; rfl))) (leL_r (by first | rfl | (first | (rw [visL, if_pos (by omega), Nat.add_sub_cancel, show X.take j = X from List.take_of_length_le (by omega)]) | (rw [visL, if_neg (by omega)]; rfl))) (leL_a (leL_a (leL_a (leL_a (leL_a (leL_a (leL_a (leL_a (leL_a (leL_a (leL_a (leL_a (leL_a (leL_a (leL_a (leL_a (leL_a (leL_a (leL_a (leL_a (leL_a (leL_a (leL_a (leL_a (leL_a (leL_a (leL_a (leL_a (leL_a (leL_a (leL_a (leL_a (leL_a (leL_a (leL_a (leL_a (leL_a (leL_a (leL_a (leL_a (leL_a (leL_a (leL_a (leL_a (leL_a (leL_a (leL_a (leL_a (leL_a (leL_a (leL_a (leL_a (leL_a (leL_a (leL_a (leL_a (leL_a (leL_a (leL_a (leL_a (leL_a (leL_a (leL_a (leL_a (leL_a (leL_a (leL_a (leL_a (leL_a (leL_a (leL_a (leL_a (leL_a (leL_a (leL_a (leL_a (leL_a (leL_a (leL_a (leL_a (leL_a (leL_a (leL_a (leL_a (leL_a (leL_a (leL_a (leL_a (leL_a (leL_a (leL_a (leL_a (leL_a (leL_a (leL_a (leL_a (leL_a (leL_a (leL_a (leL_a (leL_a (leL_a (leL_a (leL_a (leL_a (leL_a (leL_a (leL_a (leL_a (leL_a (leL_a (leL_a (leL_a (leL_a (leL_a (leL_a (leL_a (leL_a (leL_a (leL_a (leL_a (leL_a (leL_a (leL_a (leL_a (leL_a (leL_a (leL_a (leL_a (leL_a (leL_a (leL_a (leL_a (leL_a (leL_a (leL_a (leL_a (leL_nil)))))))))))))))))))))))))))))))))))))))))))))))))))))))))))))))))))))))))))))))))))))))))))))))))))))))))))))))))))))))))))))))))))))))))))))))))))))), (leB_r rfl (leL_r (by first | rfl | (first | (rw [visL, if_pos (by omega), Nat.add_sub_cancel, show X.take j = X from List.take_of_length_le (by omega)]) | (rw [visL, if_neg (by omega)]; rfl))) (leL_r (by first | rfl | (first | (rw [visL, if_pos (by omega), Nat.add_sub_cancel, show X.take j = X from List.take_of_length_le (by omega)]) | (rw [visL, if_neg (by omega)]; rfl))) (leL_r (by first | rfl | (first | (rw [visL, if_pos (by omega), Nat.add_sub_cancel, show X.take j = X from List.take_of_length_le (by omega)]) | (rw [visL, if_neg (by omega)]; rfl))) (leL_nil)))) (leB_r rfl (leL_r (by first | rfl | (first | (rw [visL, if_pos (by omega), Nat.add_sub_cancel, show X.take j = X from List.take_of_length_le (by omega)]) | (rw [visL, if_neg (by omega)]; rfl))) (leL_r (by first | rfl | (first | (rw [visL, if_pos (by omega), Nat.add_sub_cancel, show X.take j = X from List.take_of_length_le (by omega)]) | (rw [visL, if_neg (by omega)]; rfl))) (leL_r (by first | rfl | (first | (rw [visL, if_pos (by omega), Nat.add_sub_cancel, show X.take j = X from List.take_of_length_le (by omega)]) | (rw [visL, if_neg (by omega)]; rfl))) (leL_nil)))) (leB_r rfl (by first | exact leL_self _ | exact leL_eq (by simp only [fcells_dem,fcells_frz])) (leB_nil _)))), (leV_nil _), rfl, (bc3 rfl rfl (fcells_in _ _ _ _ _))⟩
          · try simp only [Zp,Zi,ZK,ZJ,ne_eq,Zn,Zm,ZB,ZA,ZI,not_or,not_and,Zu] at hc4
            refine aw_skip ?_
            exact exj_n (wk_le ⟨rfl, leL_a (leL_a (leL_r (by first | rfl | (first | (rw [visL, if_pos (by omega), Nat.add_sub_cancel, show X.take j = X from List.take_of_length_le (by omega)]) | (rw [visL, if_neg (by omega)]; rfl))) (leL_r (by first | rfl | (first | (rw [visL, if_pos (by omega), Nat.add_sub_cancel, show X.take j = X from List.take_of_length_le (by omega)]) | (rw [visL, if_neg (by omega)]; rfl))) (leL_a (leL_a (leL_a (leL_a (leL_a (leL_r (by first | rfl | (first | (rw [visL, if_pos (by omega), Nat.add_sub_cancel, show X.take j = X from List.take_of_length_le (by omega)]) | (rw [visL, if_neg (by omega)]; rfl))) (leL_r (by first | rfl | (first | (rw [visL, if_pos (by omega), Nat.add_sub_cancel, show X.take j = X from List.take_of_length_le (by omega)]) | (rw [visL, if_neg (by omega)]; rfl))) (leL_r (by first | rfl | (first | (rw [visL, if_pos (by omega), Nat.add_sub_cancel, show X.take j = X from List.take_of_length_le (by omega)]) | (rw [visL, if_neg (by omega)]; rfl))) (leL_r (by first | rfl | (first | (rw [visL, if_pos (by omega), Nat.add_sub_cancel, show X.take j = X from List.take_of_length_le (by omega)]) | (rw [visL, if_neg (by omega)]; rfl))) (leL_a (leL_a (leL_a (leL_a (leL_a (leL_a (leL_a (leL_a (leL_a (leL_a (leL_a (leL_a (leL_a (leL_a (leL_a (leL_a (leL_a (leL_a (leL_a (leL_a (leL_a (leL_a (leL_a (leL_a (leL_a (leL_a (leL_a (leL_a (leL_a (leL_a (leL_a (leL_a (leL_a (leL_a (leL_a (leL_a (leL_a (leL_a (leL_a (leL_a (leL_a (leL_a (leL_a (leL_a (leL_a (leL_a (leL_a (leL_a (leL_a (leL_a (leL_a (leL_a (leL_a (leL_a (leL_a (leL_a (leL_a (leL_a (leL_a (leL_a (leL_a (leL_a (leL_a (leL_a (leL_a (leL_a (leL_a (leL_a (leL_a (leL_a (leL_a (leL_a (leL_a (leL_a (leL_a (leL_a (leL_a (leL_a (leL_a (leL_a (leL_a (leL_a (leL_a (leL_a (leL_a (leL_a (leL_a (leL_a (leL_a (leL_a (leL_a (leL_a (leL_a (leL_a (leL_a (leL_a (leL_a (leL_a (leL_a (leL_a (leL_a (leL_a (leL_a (leL_a (leL_a (leL_a (leL_a (leL_a (leL_a (leL_a (leL_a (leL_a (leL_a (leL_a (leL_a (leL_a (leL_a (leL_a (leL_a (leL_a (leL_a (leL_a (leL_a (leL_a (leL_a (leL_a (leL_a (leL_a (leL_a (leL_a (leL_a (leL_a (leL_a (leL_a (leL_a (leL_a (leL_a (leL_nil)))))))))))))))))))))))))))))))))))))))))))))))))))))))))))))))))))))))))))))))))))))))))))))))))))))))))))))))))))))))))))))))))))))))))))))))))))))), (leB_r rfl (leL_r (by first | rfl | (first | (rw [visL, if_pos (by omega), Nat.add_sub_cancel, show X.take j = X from List.take_of_length_le (by omega)]) | (rw [visL, if_neg (by omega)]; rfl))) (leL_r (by first | rfl | (first | (rw [visL, if_pos (by omega), Nat.add_sub_cancel, show X.take j = X from List.take_of_length_le (by omega)]) | (rw [visL, if_neg (by omega)]; rfl))) (leL_r (by first | rfl | (first | (rw [visL, if_pos (by omega), Nat.add_sub_cancel, show X.take j = X from List.take_of_length_le (by omega)]) | (rw [visL, if_neg (by omega)]; rfl))) (leL_nil)))) (leB_r rfl (leL_r (by first | rfl | (first | (rw [visL, if_pos (by omega), Nat.add_sub_cancel, show X.take j = X from List.take_of_length_le (by omega)]) | (rw [visL, if_neg (by omega)]; rfl))) (leL_r (by first | rfl | (first | (rw [visL, if_pos (by omega), Nat.add_sub_cancel, show X.take j = X from List.take_of_length_le (by omega)]) | (rw [visL, if_neg (by omega)]; rfl))) (leL_r (by first | rfl | (first | (rw [visL, if_pos (by omega), Nat.add_sub_cancel, show X.take j = X from List.take_of_length_le (by omega)]) | (rw [visL, if_neg (by omega)]; rfl))) (leL_nil)))) (leB_r rfl (by first | exact leL_self _ | exact leL_eq (by simp only [fcells_dem,fcells_frz])) (leB_nil _)))), (leV_nil _), rfl, (bc3 rfl rfl (fcells_in _ _ _ _ _))⟩)
        refine exq_n ?_
        refine aw_seq ?_
        refine aw_regK hX hb [0, 1, 2] rfl (σ' := ?s28) (fun K hK => ?h28) ?n28
        case h28 =>
          iterate 3 (refine st_op rfl (by simp (disch := omega) only [stepf,callOf,qop,fop,St.ev,St.put,cd,zd,Value.oneCell',tb_T,TypeDesc.aggB,getD_0,getD_s,Ze,Zd,Zc,Za,Zb,Zr,ZE,ZF,Zf,Zq,Zg,i64_w,Zt,Zs,qLen,t3,ti3,t5,ti5,t87,ti87,t88,ti88,t90,ti90,Zh,map_at_l,map_at_i,map_at_n] <;> exact rfl) ?_)
          refine aops_nil ?_
          exact hK
        refine exq_n ?_
        have hfn := fcells_nil (la.length - 1) (m + 1) X m (by omega) (by omega)
        refine aw_nilc 2 m ⟨126, fcells (la.length - 1) (m + 1) X⟩ 3 1 rfl hfn (σ' := ?s80) ?h80 ?n80
        case h80 => simp only [St.nilCell,St.addVec,Za,Zb,Zl,Zo,ZL,ZM]; exact rfl
        refine aw_block ?_
        refine aw_loop (ι := Nat) (fun j => j ≤ (visL la (la.length - 1) (m + 1) X).length) (fun j => ⟨[], [.any, .any, .ptr 0 0, .ptr 1 0, .any, .any, .any, .any, .any, .ptr 2 0, .p (i64 ((la.length - 1) : Nat)), .p (i64 (m : Int)), .any, .any, .any, .any, .any, .any, .any, .any, .any, .any, .any, .any, .any, .any, .any, .any, .any, .any, .any, .any, .any, .any, .any, .any, .any, .any, .any, .any, .any, .any, .any, .any, .any, .any, .any, .any, .any, .any, .any, .any, .any, .any, .any, .any, .any, .any, .any, .any, .any, .any, .any, .any, .any, .any, .any, .any, .any, .any, .any, .any, .any, .any, .any, .any, .any, .any, .any, .any, .any, .any, .any, .any, .any, .any, .any, .any, .any, .any, .p (natP (visL la (la.length - 1) (m + 1) X)), .p (i64 (visL la (la.length - 1) (m + 1) X).length), .p (i64 j), .any, .any, .any, .any, .any, .any, .any, .any, .any, .any, .any, .any, .any, .any, .any, .any, .any, .any, .any, .any, .any, .any, .any, .any, .any, .any, .any, .any, .any, .any, .any, .any, .any, .any, .any, .any, .any, .any, .any, .any, .any, .any, .any, .any, .any, .any, .any, .any, .any, .any, .any, .any, .any, .any, .any, .any, .any], [⟨26, [.p (i64 (S : Int)), .p (i64 (F : Int)), .p (lvls la)]⟩, ⟨26, [.p (i64 (S : Int)), .p (i64 (F : Int)), .p (lvls lb)]⟩, ⟨126, ((fcells (la.length - 1) (m + 1) X).set m (.vref 0))⟩], [some ⟨3, 1, (((visL la (la.length - 1) (m + 1) X).take j).filter (differs la lb m)).length, (((visL la (la.length - 1) (m + 1) X).take j).filter (differs la lb m)).map fun n : Nat => i64 (n : Int)⟩]⟩) (fun j => (visL la (la.length - 1) (m + 1) X).length - j) 0 (by exact Nat.zero_le _) (wk_le ⟨rfl, leL_a (leL_a (leL_r (by first | rfl | (first | (rw [filter_take _ _ j (by omega), hdf]; simp))) (leL_r (by first | rfl | (first | (rw [filter_take _ _ j (by omega), hdf]; simp))) (leL_a (leL_a (leL_a (leL_a (leL_a (leL_r (by first | rfl | (first | (rw [filter_take _ _ j (by omega), hdf]; simp))) (leL_r (by first | rfl | (first | (rw [filter_take _ _ j (by omega), hdf]; simp))) (leL_r (by first | rfl | (first | (rw [filter_take _ _ j (by omega), hdf]; simp))) (leL_a (leL_a (leL_a (leL_a (leL_a (leL_a (leL_a (leL_a (leL_a (leL_a (leL_a (leL_a (leL_a (leL_a (leL_a (leL_a (leL_a (leL_a (leL_a (leL_a (leL_a (leL_a (leL_a (leL_a (leL_a (leL_a (leL_a (leL_a (leL_a (leL_a (leL_a (leL_a (leL_a (leL_a (leL_a (leL_a (leL_a (leL_a (leL_a (leL_a (leL_a (leL_a (leL_a (leL_a (leL_a (leL_a (leL_a (leL_a (leL_a (leL_a (leL_a (leL_a (leL_a (leL_a (leL_a (leL_a (leL_a (leL_a (leL_a (leL_a (leL_a (leL_a (leL_a (leL_a (leL_a (leL_a (leL_a (leL_a (leL_a (leL_a (leL_a (leL_a (leL_a (leL_a (leL_a (leL_a (leL_a (leL_a (leL_r (by first | rfl | (first | (rw [filter_take _ _ j (by omega), hdf]; simp))) (leL_r (by first | rfl | (first | (rw [filter_take _ _ j (by omega), hdf]; simp))) (leL_r (by first | rfl | (first | (rw [filter_take _ _ j (by omega), hdf]; simp))) (leL_a (leL_a (leL_a (leL_a (leL_a (leL_a (leL_a (leL_a (leL_a (leL_a (leL_a (leL_a (leL_a (leL_a (leL_a (leL_a (leL_a (leL_a (leL_a (leL_a (leL_a (leL_a (leL_a (leL_a (leL_a (leL_a (leL_a (leL_a (leL_a (leL_a (leL_a (leL_a (leL_a (leL_a (leL_a (leL_a (leL_a (leL_a (leL_a (leL_a (leL_a (leL_a (leL_a (leL_a (leL_a (leL_a (leL_a (leL_a (leL_a (leL_a (leL_a (leL_a (leL_a (leL_a (leL_a (leL_a (leL_a (leL_nil)))))))))))))))))))))))))))))))))))))))))))))))))))))))))))))))))))))))))))))))))))))))))))))))))))))))))))))))))))))))))))))))))))))))))))))))))))))), (leB_r rfl (leL_r (by first | rfl | (first | (rw [filter_take _ _ j (by omega), hdf]; simp))) (leL_r (by first | rfl | (first | (rw [filter_take _ _ j (by omega), hdf]; simp))) (leL_r (by first | rfl | (first | (rw [filter_take _ _ j (by omega), hdf]; simp))) (leL_nil)))) (leB_r rfl (leL_r (by first | rfl | (first | (rw [filter_take _ _ j (by omega), hdf]; simp))) (leL_r (by first | rfl | (first | (rw [filter_take _ _ j (by omega), hdf]; simp))) (leL_r (by first | rfl | (first | (rw [filter_take _ _ j (by omega), hdf]; simp))) (leL_nil)))) (leB_r rfl (by first | exact leL_self _ | exact leL_eq (fc_again _ _ _ m (by omega) _)) (leB_nil _)))), (leV_r (by first | rfl | (first | (rw [filter_take _ _ j (by omega), hdf]; simp))) (leV_nil _)), rfl, (bc3 rfl rfl (fcset_in _ _ _ _ _ _ (Nat.succ_pos _)))⟩) ?_
        rintro j hJ
        have hfl := List.length_filter_le (differs la lb m) ((visL la (la.length - 1) (m + 1) X).take j)
        rw [List.length_take] at hfl
        have hfc := fcells_length (la.length - 1) (m + 1) X
        have hfd : ((((fcells (la.length - 1) (m + 1) X).set m (.vref 0))).map (D.demote 0)).length = 16 := by rw [List.length_map, List.length_set, hfc]
        have hfs : (((fcells (la.length - 1) (m + 1) X).set m (.vref 0))).length = 16 := by rw [List.length_set, hfc]
        refine aw_seq ?_
        refine aw_regK hX hb [0] rfl (σ' := ?s29) (fun K hK => ?h29) ?n29
        case h29 =>
          (refine st_op rfl (by simp (disch := omega) only [stepf,callOf,qop,fop,St.ev,St.put,cd,zd,Value.oneCell',tb_T,TypeDesc.aggB,getD_0,getD_s,Ze,Zd,Zc,Za,Zb,Zr,ZE,ZF,Zf,Zq,Zg,i64_w,Zt,Zs,qBin,iop,t3,ti3,Zh,map_at_l,map_at_i,map_at_n] <;> exact rfl) ?_)
          refine aops_nil ?_
          exact hK
        refine exq_n ?_
        refine aw_seq ?_
        refine aw_cond _ rfl (fun hc7 => ?_) (fun hc7 => ?_)
        · try simp only [Zp,Zi,ZK,ZJ,ne_eq,Zn,Zm,ZB,ZA,ZI,not_or,not_and,Zu] at hc7
          have hxj := hv1 _ (getD_mem (visL la (la.length - 1) (m + 1) X) 0 j (by omega))
          refine aw_skip ?_
          refine exq_n ?_
          refine aw_seq ?_
          refine aw_block ?_
          refine aw_seq ?_
          refine aw_regK hX hb [0, 1, 2] rfl (σ' := ?s30) (fun K hK => ?h30) ?n30
          case h30 =>
            iterate 3 (refine st_op rfl (by simp (disch := omega) only [stepf,callOf,qop,fop,St.ev,St.put,cd,zd,Value.oneCell',tb_T,TypeDesc.aggB,getD_0,getD_s,Ze,Zd,Zc,Za,Zb,Zr,ZE,ZF,Zf,Zq,Zg,i64_w,Zt,Zs,Int.toNat_zero,Int.toNat_one,toNat_pred,toNat_succ,qIndexAddr,ZO,Nat.mul_one,ZC,Nat.zero_mul,Zh,Zl,Zo,Zv,Zw,Zj,Zk,Zx,Zy,qLoad,bload,pload,pureAll,D.pure?,ZD,t3,ti3,t5,ti5,t87,ti87,t88,ti88,t90,ti90,map_at_l,map_at_i,map_at_n] <;> exact rfl) ?_)
            refine aops_nil ?_
            exact hK
          refine exq_n ?_
          refine aw_seq ?_
          refine aw_regD hX hb (try_mixed hP) [(0, true), (1, true), (2, true), (3, true), (4, true), (5, true), (6, true), (7, true), (8, true), (9, true), (10, true), (11, true), (12, true), (13, true), (14, true), (15, true), (16, true)] (by kernel_rfl) (σ' := ?s31) (fun K hK => ?h31) ?n31
          case h31 =>
            iterate 17 (refine sd_q rfl (by simp (disch := omega) only [qop,fop,St.ev,St.put,cd,zd,Value.oneCell',tb_T,TypeDesc.aggB,getD_0,getD_s,Ze,Zd,Zc,Za,Zb,Zr,ZE,ZF,Zf,Zq,Zg,i64_w,Zt,Zs,qFieldAddr,fieldOf,Zl,Zo,Zv,Zw,Zj,Zk,Zx,Zy,qLoad,bload,pload,pureAll,D.pure?,ZC,ZD,Int.toNat_zero,Int.toNat_one,toNat_pred,toNat_succ,qIndexAddr,ZO,Nat.mul_one,Nat.zero_mul,Zh,qBin,iop,t2,ti2,t3,ti3,t24,ti24,t26,ti26,t58,ti58,t60,ti60,t101,ti101,map_at_l,map_at_i,map_at_n] <;> exact rfl) (by simp only [St.put,Za,Zb] <;> exact rfl) ?_)
            refine aopsd_nil ?_
            exact hK
          refine exq_n ?_
          refine aw_cond _ rfl (fun hc8 => ?_) (fun hc8 => ?_)
          · try simp only [Zp,Zi,ZK,ZJ,ne_eq,Zn,Zm,ZB,ZA,ZI,not_or,not_and,Zu] at hc8
            have hdf : differs la lb m ((visL la (la.length - 1) (m + 1) X).getD j 0) = true := decide_eq_true hc8
            refine aw_regK hX hb [0, 1, 2, 3, 4, 5, 6, 7, 8] rfl (σ' := ?s32) (fun K hK => ?h32) ?n32
            case h32 =>
              iterate 9 (refine st_op rfl (by simp (disch := omega) only [stepf,callOf,qop,fop,St.ev,St.put,cd,zd,Value.oneCell',tb_T,TypeDesc.aggB,getD_0,getD_s,Ze,Zd,Zc,Za,Zb,Zr,ZE,ZF,Zf,Zq,Zg,i64_w,Zt,Zs,Int.toNat_zero,Int.toNat_one,toNat_pred,toNat_succ,qIndexAddr,ZO,Nat.mul_one,ZC,Nat.zero_mul,Zh,Zl,Zo,Zv,Zw,Zj,Zk,Zx,Zy,qLoad,bload,pload,pureAll,D.pure?,ZD,tb_N,tbO_N,tbW_N,tb_O,fBuildSlice,catCells,D.cells?,range_1,range_2,range_3,range_4,range_5,ZG,ZH,ZL,ZM,ZN,sec8_length,Nat.reduceAdd,Nat.reduceMul,fAppend,appV,St.demote,D.demote,St.setVec,List.length_append,reduceIte,fStore,D.boxCells,D.live,t1,ti1,t3,ti3,t87,ti87,t115,ti115,t117,ti117,t118,ti118,t126,ti126,map_at_l,map_at_i,map_at_n,set_at] <;> exact rfl) ?_)
              refine aops_nil ?_
              exact hK
            refine exb_n ?_
            refine exq_n ?_
            refine aw_regK hX hb [0, 1] rfl (σ' := ?s33) (fun K hK => ?h33) ?n33
            case h33 =>
              iterate 2 (refine st_op rfl (by simp (disch := omega) only [stepf,callOf,qop,fop,St.ev,St.put,cd,zd,Value.oneCell',tb_T,TypeDesc.aggB,getD_0,getD_s,Ze,Zd,Zc,Za,Zb,Zr,ZE,ZF,Zf,Zq,Zg,i64_w,Zt,Zs,qBin,iop,t1,ti1,t3,ti3,Zh,map_at_l,map_at_i,map_at_n] <;> exact rfl) ?_)
              refine aops_nil ?_
              exact hK
            refine exq_n ?_
            exact ⟨j + 1, by (try dsimp only); omega, by (try dsimp only); omega, wk_le ⟨rfl, leL_a (leL_a (leL_r (by first | rfl | (first | (rw [filter_take _ _ j (by omega), hdf]; simp))) (leL_r (by first | rfl | (first | (rw [filter_take _ _ j (by omega), hdf]; simp))) (leL_a (leL_a (leL_a (leL_a (leL_a (leL_r (by first | rfl | (first | (rw [filter_take _ _ j (by omega), hdf]; simp))) (leL_r (by first | rfl | (first | (rw [filter_take _ _ j (by omega), hdf]; simp))) (leL_r (by first | rfl | (first | (rw [filter_take _ _ j (by omega), hdf]; simp))) (leL_a (leL_a (leL_a (leL_a (leL_a (leL_a (leL_a (leL_a (leL_a (leL_a (leL_a (leL_a (leL_a (leL_a (leL_a (leL_a (leL_a (leL_a (leL_a (leL_a (leL_a (leL_a (leL_a (leL_a (leL_a (leL_a (leL_a (leL_a (leL_a (leL_a (leL_a (leL_a (leL_a (leL_a (leL_a (leL_a (leL_a (leL_a (leL_a (leL_a (leL_a (leL_a (leL_a (leL_a (leL_a (leL_a (leL_a (leL_a (leL_a (leL_a (leL_a (leL_a (leL_a (leL_a (leL_a (leL_a (leL_a (leL_a (leL_a (leL_a (leL_a (leL_a (leL_a (leL_a (leL_a (leL_a (leL_a (leL_a (leL_a (leL_a (leL_a (leL_a (leL_a (leL_a (leL_a (leL_a (leL_a (leL_a (leL_r (by first | rfl | (first | (rw [filter_take _ _ j (by omega), hdf]; simp))) (leL_r (by first | rfl | (first | (rw [filter_take _ _ j (by omega), hdf]; simp))) (leL_r (by first | rfl | (first | (rw [filter_take _ _ j (by omega), hdf]; simp))) (leL_a (leL_a (leL_a (leL_a (leL_a (leL_a (leL_a (leL_a (leL_a (leL_a (leL_a (leL_a (leL_a (leL_a (leL_a (leL_a (leL_a (leL_a (leL_a (leL_a (leL_a (leL_a (leL_a (leL_a (leL_a (leL_a (leL_a (leL_a (leL_a (leL_a (leL_a (leL_a (leL_a (leL_a (leL_a (leL_a (leL_a (leL_a (leL_a (leL_a (leL_a (leL_a (leL_a (leL_a (leL_a (leL_a (leL_a (leL_a (leL_a (leL_a (leL_a (leL_a (leL_a (leL_a (leL_a (leL_a (leL_a (leL_nil)))))))))))))))))))))))))))))))))))))))))))))))))))))))))))))))))))))))))))))))))))))))))))))))))))))))))))))))))))))))))))))))))))))))))))))))))))))), (leB_r rfl (leL_r (by first | rfl | (first | (rw [filter_take _ _ j (by omega), hdf]; simp))) (leL_r (by first | rfl | (first | (rw [filter_take _ _ j (by omega), hdf]; simp))) (leL_r (by first | rfl | (first | (rw [filter_take _ _ j (by omega), hdf]; simp))) (leL_nil)))) (leB_r rfl (leL_r (by first | rfl | (first | (rw [filter_take _ _ j (by omega), hdf]; simp))) (leL_r (by first | rfl | (first | (rw [filter_take _ _ j (by omega), hdf]; simp))) (leL_r (by first | rfl | (first | (rw [filter_take _ _ j (by omega), hdf]; simp))) (leL_nil)))) (leB_r rfl (by first | exact leL_self _ | exact leL_eq (fc_again _ _ _ m (by omega) _)) (leB_nil _)))), (leV_r (by first | rfl | (first | (rw [filter_take _ _ j (by omega), hdf]; simp))) (leV_nil _)), rfl, (bc3 rfl rfl (fcset_in _ _ _ _ _ _ (Nat.succ_pos _)))⟩⟩
          · try simp only [Zp,Zi,ZK,ZJ,ne_eq,Zn,Zm,ZB,ZA,ZI,not_or,not_and,Zu] at hc8
            have hdf : differs la lb m ((visL la (la.length - 1) (m + 1) X).getD j 0) = false := decide_eq_false (not_not_intro hc8)
            refine aw_skip ?_
            refine exb_n ?_
            refine exq_n ?_
            refine aw_regK hX hb [0, 1] rfl (σ' := ?s34) (fun K hK => ?h34) ?n34
            case h34 =>
              iterate 2 (refine st_op rfl (by simp (disch := omega) only [stepf,callOf,qop,fop,St.ev,St.put,cd,zd,Value.oneCell',tb_T,TypeDesc.aggB,getD_0,getD_s,Ze,Zd,Zc,Za,Zb,Zr,ZE,ZF,Zf,Zq,Zg,i64_w,Zt,Zs,qBin,iop,t1,ti1,t3,ti3,Zh,map_at_l,map_at_i,map_at_n] <;> exact rfl) ?_)
              refine aops_nil ?_
              exact hK
            refine exq_n ?_
            exact ⟨j + 1, by (try dsimp only); omega, by (try dsimp only); omega, wk_le ⟨rfl, leL_a (leL_a (leL_r (by first | rfl | (first | (rw [filter_take _ _ j (by omega), hdf]; simp))) (leL_r (by first | rfl | (first | (rw [filter_take _ _ j (by omega), hdf]; simp))) (leL_a (leL_a (leL_a (leL_a (leL_a (leL_r (by first | rfl | (first | (rw [filter_take _ _ j (by omega), hdf]; simp))) (leL_r (by first | rfl | (first | (rw [filter_take _ _ j (by omega), hdf]; simp))) (leL_r (by first | rfl | (first | (rw [filter_take _ _ j (by omega), hdf]; simp))) (leL_a (leL_a (leL_a (leL_a (leL_a (leL_a (leL_a (leL_a (leL_a (leL_a (leL_a (leL_a (leL_a (leL_a (leL_a (leL_a (leL_a (leL_a (leL_a (leL_a (leL_a (leL_a (leL_a (leL_a (leL_a (leL_a (leL_a (leL_a (leL_a (leL_a (leL_a (leL_a (leL_a (leL_a (leL_a (leL_a (leL_a (leL_a (leL_a (leL_a (leL_a (leL_a (leL_a (leL_a (leL_a (leL_a (leL_a (leL_a (leL_a (leL_a (leL_a (leL_a (leL_a (leL_a (leL_a (leL_a (leL_a (leL_a (leL_a (leL_a (leL_a (leL_a (leL_a (leL_a (leL_a (leL_a (leL_a (leL_a (leL_a (leL_a (leL_a (leL_a (leL_a (leL_a (leL_a (leL_a (leL_a (leL_a (leL_r (by first | rfl | (first | (rw [filter_take _ _ j (by omega), hdf]; simp))) (leL_r (by first | rfl | (first | (rw [filter_take _ _ j (by omega), hdf]; simp))) (leL_r (by first | rfl | (first | (rw [filter_take _ _ j (by omega), hdf]; simp))) (leL_a (leL_a (leL_a (leL_a (leL_a (leL_a (leL_a (leL_a (leL_a (leL_a (leL_a (leL_a (leL_a (leL_a (leL_a (leL_a (leL_a (leL_a (leL_a (leL_a (leL_a (leL_a (leL_a (leL_a (leL_a (leL_a (leL_a (leL_a (leL_a (leL_a (leL_a (leL_a (leL_a (leL_a (leL_a (leL_a (leL_a (leL_a (leL_a (leL_a (leL_a (leL_a (leL_a (leL_a (leL_a (leL_a (leL_a (leL_a (leL_a (leL_a (leL_a (leL_a (leL_a (leL_a (leL_a (leL_a (leL_a (leL_nil)))))))))))))))))))))))))))))))))))))))))))))))))))))))))))))))))))))))))))))))))))))))))))))))))))))))))))))))))))))))))))))))))))))))))))))))))))))), (leB_r rfl (leL_r (by first | rfl | (first | (rw [filter_take _ _ j (by omega), hdf]; simp))) (leL_r (by first | rfl | (first | (rw [filter_take _ _ j (by omega), hdf]; simp))) (leL_r (by first | rfl | (first | (rw [filter_take _ _ j (by omega), hdf]; simp))) (leL_nil)))) (leB_r rfl (leL_r (by first | rfl | (first | (rw [filter_take _ _ j (by omega), hdf]; simp))) (leL_r (by first | rfl | (first | (rw [filter_take _ _ j (by omega), hdf]; simp))) (leL_r (by first | rfl | (first | (rw [filter_take _ _ j (by omega), hdf]; simp))) (leL_nil)))) (leB_r rfl (by first | exact leL_self _ | exact leL_eq (fc_again _ _ _ m (by omega) _)) (leB_nil _)))), (leV_r (by first | rfl | (first | (rw [filter_take _ _ j (by omega), hdf]; simp))) (leV_nil _)), rfl, (bc3 rfl rfl (fcset_in _ _ _ _ _ _ (Nat.succ_pos _)))⟩⟩
        · try simp only [Zp,Zi,ZK,ZJ,ne_eq,Zn,Zm,ZB,ZA,ZI,not_or,not_and,Zu] at hc7
          refine aw_exit ?_
          refine exq_e ?_
          refine exq_e ?_
          refine exb_h ?_
          refine exb_n ?_
          refine exq_n ?_
          rw [show (visL la (la.length - 1) (m + 1) X).take j = (visL la (la.length - 1) (m + 1) X) from List.take_of_length_le (by omega)]
          refine aw_frz 0 rfl (σ' := ?s36) ?h36 ?n36
          case h36 => simp only [St.freeze,D.freeze,ZG,ZH,Za,Zb,Zr,reduceIte,Nat.reduceEqDiff]; exact rfl
          refine aw_regK hX hb [0, 1, 2] rfl (σ' := ?s35) (fun K hK => ?h35) ?n35
          case h35 =>
            iterate 3 (refine st_op rfl (by simp (disch := omega) only [stepf,callOf,qop,fop,St.ev,St.put,cd,zd,Value.oneCell',tb_T,TypeDesc.aggB,getD_0,getD_s,Ze,Zd,Zc,Za,Zb,Zr,ZE,ZF,Zf,Zq,Zg,i64_w,Zt,Zs,qBin,iop,t1,ti1,t3,ti3,t4,ti4,t54,ti54,Zh,map_at_l,map_at_i,map_at_n] <;> exact rfl) ?_)
            refine aops_nil ?_
            exact hK
          refine exq_n ?_
          exact ⟨((m : Int) - 1, ((visL la (la.length - 1) (m + 1) X).filter (differs la lb m))), by exact ⟨by dsimp only; omega, by dsimp only; rw [show ((m : Int) - 1 + 1).toNat = m by omega]; exact hnx⟩, by (try dsimp only); omega, wk_le ⟨rfl, leL_a (leL_a (leL_r rfl (leL_r rfl (leL_a (leL_a (leL_a (leL_a (leL_a (leL_r rfl (leL_r rfl (leL_r rfl (leL_a (leL_a (leL_a (leL_a (leL_a (leL_a (leL_a (leL_a (leL_a (leL_a (leL_a (leL_a (leL_a (leL_a (leL_a (leL_a (leL_a (leL_a (leL_a (leL_a (leL_a (leL_a (leL_a (leL_a (leL_a (leL_a (leL_a (leL_a (leL_a (leL_a (leL_a (leL_a (leL_a (leL_a (leL_a (leL_a (leL_a (leL_a (leL_a (leL_a (leL_a (leL_a (leL_a (leL_a (leL_a (leL_a (leL_a (leL_a (leL_a (leL_a (leL_a (leL_a (leL_a (leL_a (leL_a (leL_a (leL_a (leL_a (leL_a (leL_a (leL_a (leL_a (leL_a (leL_a (leL_a (leL_a (leL_a (leL_a (leL_a (leL_a (leL_a (leL_a (leL_a (leL_a (leL_a (leL_a (leL_a (leL_a (leL_a (leL_a (leL_a (leL_a (leL_a (leL_a (leL_a (leL_a (leL_a (leL_a (leL_a (leL_a (leL_a (leL_a (leL_a (leL_a (leL_a (leL_a (leL_a (leL_a (leL_a (leL_a (leL_a (leL_a (leL_a (leL_a (leL_a (leL_a (leL_a (leL_a (leL_a (leL_a (leL_a (leL_a (leL_a (leL_a (leL_a (leL_a (leL_a (leL_a (leL_a (leL_a (leL_a (leL_a (leL_a (leL_a (leL_a (leL_a (leL_a (leL_a (leL_a (leL_a (leL_a (leL_a (leL_a (leL_a (leL_a (leL_a (leL_a (leL_a (leL_nil)))))))))))))))))))))))))))))))))))))))))))))))))))))))))))))))))))))))))))))))))))))))))))))))))))))))))))))))))))))))))))))))))))))))))))))))))))))), (leB_r rfl (leL_r rfl (leL_r rfl (leL_r rfl (leL_nil)))) (leB_r rfl (leL_r rfl (leL_r rfl (leL_r rfl (leL_nil)))) (leB_r rfl (by first | exact fc_start _ (by omega) | (dsimp only; rw [show ((m : Int) - 1 + 1).toNat = m by omega]; exact fc_next (la.length - 1) m X _ (by omega) (by omega))) (leB_nil _)))), (leV_nil _), rfl, (bc3 rfl rfl (fcells_in _ _ _ _ _))⟩⟩
      · try simp only [Zp,Zi,ZK,ZJ,ne_eq,Zn,Zm,ZB,ZA,ZI,not_or,not_and,Zu] at hc3
        obtain rfl : lvI = -1 := by omega
        rw [show ((-1 : Int) + 1).toNat = 0 from rfl] at hI ⊢
        have hX0 := (hI.st (Nat.zero_le _)).all.1 rfl
        have hXl := few_len (by omega) hI
        have hXa : X.Pairwise (· < ·) := by rw [hX0]; exact (foundN_asc la lb _ 0).1
        have hXS : ∀ x ∈ X, x * F < S := fun x hx => leaf_lt q3 (by have := (hI.st (Nat.zero_le _)).inr x hx; rw [hrow] at this; simpa using this)
        refine aw_exit ?_
        refine exq_e ?_
        refine exq_e ?_
        refine exb_h ?_
        refine exq_n ?_
        refine aw_seq ?_
        refine aw_regK hX hb [0] rfl (σ' := ?s37) (fun K hK => ?h37) ?n37
        case h37 =>
          (refine st_op rfl (by simp (disch := omega) only [stepf,callOf,qop,fop,St.ev,St.put,cd,zd,Value.oneCell',tb_T,TypeDesc.aggB,getD_0,getD_s,Ze,Zd,Zc,Za,Zb,Zr,ZE,ZF,Zf,Zq,Zg,i64_w,Zt,Zs,Zh,map_at_l,map_at_i,map_at_n] <;> exact rfl) ?_)
          refine aops_nil ?_
          exact hK
        refine exq_n ?_
        refine aw_nil 17 35 2 rfl (σ' := ?s38) ?h38 ?n38
        case h38 => simp only [St.nilSlot,St.addVec,Za,Zb,Zl,Zo,ZL,ZM]; exact rfl
        refine aw_seq ?_
        refine aw_seq ?_
        refine aw_regK hX hb [0, 1, 2, 3] rfl (σ' := ?s39) (fun K hK => ?h39) ?n39
        case h39 =>
          iterate 4 (refine st_op rfl (by simp (disch := omega) only [stepf,callOf,qop,fop,St.ev,St.put,cd,zd,Value.oneCell',tb_T,TypeDesc.aggB,getD_0,getD_s,Ze,Zd,Zc,Za,Zb,Zr,ZE,ZF,Zf,Zq,Zg,i64_w,Zt,Zs,Int.toNat_zero,Int.toNat_one,toNat_pred,toNat_succ,qIndexAddr,ZO,Nat.mul_one,ZC,Nat.zero_mul,Zh,Zl,Zo,Zv,Zw,Zj,Zk,Zx,Zy,qLoad,bload,pload,pureAll,D.pure?,ZD,qLen,t3,ti3,t87,ti87,t126,ti126,map_at_l,map_at_i,map_at_n,fcells_at0] <;> exact rfl) ?_)
          refine aops_nil ?_
          exact hK
        refine exq_n ?_
        refine aw_block ?_
        refine aw_loop (ι := Nat) (fun j => j ≤ X.length) (fun j => ⟨[], [.any, .any, .ptr 0 0, .ptr 1 0, .any, .any, .any, .any, .any, .any, .any, .any, .any, .any, .any, .any, .any, .vref 0, .any, .any, .any, .any, .any, .any, .any, .any, .any, .any, .any, .any, .any, .any, .any, .any, .any, .any, .any, .any, .any, .any, .any, .any, .any, .any, .any, .any, .any, .any, .any, .any, .any, .any, .any, .any, .any, .any, .any, .any, .any, .any, .any, .any, .any, .any, .any, .any, .any, .any, .any, .any, .any, .any, .any, .any, .any, .any, .any, .any, .any, .any, .any, .any, .any, .any, .any, .any, .any, .any, .any, .any, .any, .any, .any, .any, .any, .any, .any, .any, .any, .any, .any, .any, .any, .any, .any, .any, .any, .any, .any, .any, .any, .any, .any, .any, .any, .any, .any, .any, .any, .any, .any, .any, .any, .p (natP X), .p (i64 X.length), .p (i64 j), .any, .any, .any, .any, .any, .any, .any, .any, .any, .any, .any, .any, .any, .any, .any, .any, .any, .any, .any, .any, .any, .any, .any, .any], [⟨26, [.p (i64 (S : Int)), .p (i64 (F : Int)), .p (lvls la)]⟩, ⟨26, [.p (i64 (S : Int)), .p (i64 (F : Int)), .p (lvls lb)]⟩], [some ⟨35, 2, (extRaw S F (X.take j)).length, extCells (extRaw S F (X.take j))⟩]⟩) (fun j => X.length - j) 0 (by exact Nat.zero_le _) (wk_le ⟨rfl, leL_a (leL_a (leL_r (by first | rfl | (rw [extRaw_take S F X j (by omega), ← extCells_snoc]; simp)) (leL_r (by first | rfl | (rw [extRaw_take S F X j (by omega), ← extCells_snoc]; simp)) (leL_a (leL_a (leL_a (leL_a (leL_a (leL_a (leL_a (leL_a (leL_a (leL_a (leL_a (leL_a (leL_a (leL_r (by first | rfl | (rw [extRaw_take S F X j (by omega), ← extCells_snoc]; simp)) (leL_a (leL_a (leL_a (leL_a (leL_a (leL_a (leL_a (leL_a (leL_a (leL_a (leL_a (leL_a (leL_a (leL_a (leL_a (leL_a (leL_a (leL_a (leL_a (leL_a (leL_a (leL_a (leL_a (leL_a (leL_a (leL_a (leL_a (leL_a (leL_a (leL_a (leL_a (leL_a (leL_a (leL_a (leL_a (leL_a (leL_a (leL_a (leL_a (leL_a (leL_a (leL_a (leL_a (leL_a (leL_a (leL_a (leL_a (leL_a (leL_a (leL_a (leL_a (leL_a (leL_a (leL_a (leL_a (leL_a (leL_a (leL_a (leL_a (leL_a (leL_a (leL_a (leL_a (leL_a (leL_a (leL_a (leL_a (leL_a (leL_a (leL_a (leL_a (leL_a (leL_a (leL_a (leL_a (leL_a (leL_a (leL_a (leL_a (leL_a (leL_a (leL_a (leL_a (leL_a (leL_a (leL_a (leL_a (leL_a (leL_a (leL_a (leL_a (leL_a (leL_a (leL_a (leL_a (leL_a (leL_a (leL_a (leL_a (leL_a (leL_a (leL_a (leL_a (leL_a (leL_a (leL_r (by first | rfl | (rw [extRaw_take S F X j (by omega), ← extCells_snoc]; simp)) (leL_r (by first | rfl | (rw [extRaw_take S F X j (by omega), ← extCells_snoc]; simp)) (leL_r (by first | rfl | (rw [extRaw_take S F X j (by omega), ← extCells_snoc]; simp)) (leL_a (leL_a (leL_a (leL_a (leL_a (leL_a (leL_a (leL_a (leL_a (leL_a (leL_a (leL_a (leL_a (leL_a (leL_a (leL_a (leL_a (leL_a (leL_a (leL_a (leL_a (leL_a (leL_a (leL_a (leL_nil)))))))))))))))))))))))))))))))))))))))))))))))))))))))))))))))))))))))))))))))))))))))))))))))))))))))))))))))))))))))))))))))))))))))))))))))))))))), (leB_r rfl (leL_r (by first | rfl | (rw [extRaw_take S F X j (by omega), ← extCells_snoc]; simp)) (leL_r (by first | rfl | (rw [extRaw_take S F X j (by omega), ← extCells_snoc]; simp)) (leL_r (by first | rfl | (rw [extRaw_take S F X j (by omega), ← extCells_snoc]; simp)) (leL_nil)))) (leB_r rfl (leL_r (by first | rfl | (rw [extRaw_take S F X j (by omega), ← extCells_snoc]; simp)) (leL_r (by first | rfl | (rw [extRaw_take S F X j (by omega), ← extCells_snoc]; simp)) (leL_r (by first | rfl | (rw [extRaw_take S F X j (by omega), ← extCells_snoc]; simp)) (leL_nil)))) (leB_nil _))), (leV_r (by first | rfl | (rw [extRaw_take S F X j (by omega), ← extCells_snoc]; simp)) (leV_nil _)), rfl, rfl⟩) ?_
        rintro j hJ
        have hel := extRaw_length S F (X.take j)
        rw [List.length_take] at hel
        refine aw_seq ?_
        refine aw_regK hX hb [0] rfl (σ' := ?s40) (fun K hK => ?h40) ?n40
        case h40 =>
          (refine st_op rfl (by simp (disch := omega) only [stepf,callOf,qop,fop,St.ev,St.put,cd,zd,Value.oneCell',tb_T,TypeDesc.aggB,getD_0,getD_s,Ze,Zd,Zc,Za,Zb,Zr,ZE,ZF,Zf,Zq,Zg,i64_w,Zt,Zs,qBin,iop,t3,ti3,t24,ti24,t26,ti26,t58,ti58,t60,ti60,t125,ti125,Zh,map_at_l,map_at_i,map_at_n] <;> exact rfl) ?_)
          refine aops_nil ?_
          exact hK
        refine exq_n ?_
        refine aw_seq ?_
        refine aw_cond _ rfl (fun hc9 => ?_) (fun hc9 => ?_)
        · try simp only [Zp,Zi,ZK,ZJ,ne_eq,Zn,Zm,ZB,ZA,ZI,not_or,not_and,Zu] at hc9
          refine aw_skip ?_
          refine exq_n ?_
          refine aw_seq ?_
          refine aw_block ?_
          refine aw_seq ?_
          refine aw_regK hX hb [0, 1, 2] rfl (σ' := ?s41) (fun K hK => ?h41) ?n41
          case h41 =>
            iterate 3 (refine st_op rfl (by simp (disch := omega) only [stepf,callOf,qop,fop,St.ev,St.put,cd,zd,Value.oneCell',tb_T,TypeDesc.aggB,getD_0,getD_s,Ze,Zd,Zc,Za,Zb,Zr,ZE,ZF,Zf,Zq,Zg,i64_w,Zt,Zs,Int.toNat_zero,Int.toNat_one,toNat_pred,toNat_succ,qIndexAddr,ZO,Nat.mul_one,ZC,Nat.zero_mul,Zh,Zl,Zo,Zv,Zw,Zj,Zk,Zx,Zy,qLoad,bload,pload,pureAll,D.pure?,ZD,t3,ti3,t24,ti24,t26,ti26,t58,ti58,t60,ti60,t87,ti87,t125,ti125,map_at_l,map_at_i,map_at_n] <;> exact rfl) ?_)
            refine aops_nil ?_
            exact hK
          refine exq_n ?_
          have hxm := hXS _ (getD_mem X 0 j (by omega))
          refine aw_regK hX hb [0, 1, 2, 3, 4, 5, 6, 7, 8, 9, 10, 11, 12, 13, 14, 15, 16, 17, 18] rfl (σ' := ?s42) (fun K hK => ?h42) ?n42
          case h42 =>
            iterate 19 (refine st_op rfl (by simp (disch := omega) only [stepf,callOf,qop,fop,St.ev,St.put,cd,zd,Value.oneCell',tb_T,TypeDesc.aggB,getD_0,getD_s,Ze,Zd,Zc,Za,Zb,Zr,ZE,ZF,Zf,Zq,Zg,i64_w,Zt,Zs,qFieldAddr,fieldOf,Zl,Zo,Zv,Zw,Zj,Zk,Zx,Zy,qLoad,bload,pload,pureAll,D.pure?,ZC,ZD,qBin,iop,min_ite,tb_W,tbO_W,qBuild,qBuildD,D.cell1,range_1,range_2,range_3,range_4,range_5,List.all_cons,List.all_nil,bfill,TI.place,TI.zeros,TI.kindOk,D.cells?,zp,Value.cells,ZQ,ZP,tb_N,tbO_N,tbW_N,tb_O,fBuildSlice,catCells,ZG,ZH,ZL,ZM,ZN,sec8_length,Nat.reduceAdd,Nat.reduceMul,fAppend,appV,St.demote,D.demote,St.setVec,Zh,List.length_append,Nat.mul_one,reduceIte,t1,ti1,t2,ti2,t3,ti3,t4,ti4,t5,ti5,t22,ti22,t24,ti24,t26,ti26,t35,ti35,t40,ti40,t50,ti50,t58,ti58,t60,ti60,t75,ti75,t133,ti133,t136,ti136,t139,ti139,t144,ti144,t145,ti145,map_at_l,map_at_i,map_at_n,mul_cast,extCells_length] <;> exact rfl) ?_)
            refine aops_nil ?_
            exact hK
          refine exb_n ?_
          refine exq_n ?_
          refine aw_regK hX hb [0, 1] rfl (σ' := ?s43) (fun K hK => ?h43) ?n43
          case h43 =>
            iterate 2 (refine st_op rfl (by simp (disch := omega) only [stepf,callOf,qop,fop,St.ev,St.put,cd,zd,Value.oneCell',tb_T,TypeDesc.aggB,getD_0,getD_s,Ze,Zd,Zc,Za,Zb,Zr,ZE,ZF,Zf,Zq,Zg,i64_w,Zt,Zs,qBin,iop,t1,ti1,t3,ti3,t24,ti24,t26,ti26,t58,ti58,t60,ti60,t125,ti125,Zh,map_at_l,map_at_i,map_at_n] <;> exact rfl) ?_)
            refine aops_nil ?_
            exact hK
          refine exq_n ?_
          exact ⟨j + 1, by (try dsimp only); omega, by (try dsimp only); omega, wk_le ⟨rfl, leL_a (leL_a (leL_r (by first | rfl | (rw [extRaw_take S F X j (by omega), ← extCells_snoc]; simp)) (leL_r (by first | rfl | (rw [extRaw_take S F X j (by omega), ← extCells_snoc]; simp)) (leL_a (leL_a (leL_a (leL_a (leL_a (leL_a (leL_a (leL_a (leL_a (leL_a (leL_a (leL_a (leL_a (leL_r (by first | rfl | (rw [extRaw_take S F X j (by omega), ← extCells_snoc]; simp)) (leL_a (leL_a (leL_a (leL_a (leL_a (leL_a (leL_a (leL_a (leL_a (leL_a (leL_a (leL_a (leL_a (leL_a (leL_a (leL_a (leL_a (leL_a (leL_a (leL_a (leL_a (leL_a (leL_a (leL_a (leL_a (leL_a (leL_a (leL_a (leL_a (leL_a (leL_a (leL_a (leL_a (leL_a (leL_a (leL_a (leL_a (leL_a (leL_a (leL_a (leL_a (leL_a (leL_a (leL_a (leL_a (leL_a (leL_a (leL_a (leL_a (leL_a (leL_a (leL_a (leL_a (leL_a (leL_a (leL_a (leL_a (leL_a (leL_a (leL_a (leL_a (leL_a (leL_a (leL_a (leL_a (leL_a (leL_a (leL_a (leL_a (leL_a (leL_a (leL_a (leL_a (leL_a (leL_a (leL_a (leL_a (leL_a (leL_a (leL_a (leL_a (leL_a (leL_a (leL_a (leL_a (leL_a (leL_a (leL_a (leL_a (leL_a (leL_a (leL_a (leL_a (leL_a (leL_a (leL_a (leL_a (leL_a (leL_a (leL_a (leL_a (leL_a (leL_a (leL_a (leL_a (leL_r (by first | rfl | (rw [extRaw_take S F X j (by omega), ← extCells_snoc]; simp)) (leL_r (by first | rfl | (rw [extRaw_take S F X j (by omega), ← extCells_snoc]; simp)) (leL_r (by first | rfl | (rw [extRaw_take S F X j (by omega), ← extCells_snoc]; simp)) (leL_a (leL_a (leL_a (leL_a (leL_a (leL_a (leL_a (leL_a (leL_a (leL_a (leL_a (leL_a (leL_a (leL_a (leL_a (leL_a (leL_a (leL_a (leL_a (leL_a (leL_a (leL_a (leL_a (leL_a (leL_nil)))))))))))))))))))))))))))))))))))))))))))))))))))))))))))))))))))))))))))))))))))))))))))))))))))))))))))))))))))))))))))))))))))))))))))))))))))))), (leB_r rfl (leL_r (by first | rfl | (rw [extRaw_take S F X j (by omega), ← extCells_snoc]; simp)) (leL_r (by first | rfl | (rw [extRaw_take S F X j (by omega), ← extCells_snoc]; simp)) (leL_r (by first | rfl | (rw [extRaw_take S F X j (by omega), ← extCells_snoc]; simp)) (leL_nil)))) (leB_r rfl (leL_r (by first | rfl | (rw [extRaw_take S F X j (by omega), ← extCells_snoc]; simp)) (leL_r (by first | rfl | (rw [extRaw_take S F X j (by omega), ← extCells_snoc]; simp)) (leL_r (by first | rfl | (rw [extRaw_take S F X j (by omega), ← extCells_snoc]; simp)) (leL_nil)))) (leB_nil _))), (leV_r (by first | rfl | (rw [extRaw_take S F X j (by omega), ← extCells_snoc]; simp)) (leV_nil _)), rfl, rfl⟩⟩
        · try simp only [Zp,Zi,ZK,ZJ,ne_eq,Zn,Zm,ZB,ZA,ZI,not_or,not_and,Zu] at hc9
          refine aw_exit ?_
          refine exq_e ?_
          refine exq_e ?_
          refine exb_h ?_
          refine exq_n ?_
          refine aw_seq ?_
          refine aw_frz 0 rfl (σ' := ?s45) ?h45 ?n45
          case h45 => simp only [St.freeze,D.freeze,ZG,ZH,Za,Zb,Zr,reduceIte,Nat.reduceEqDiff]; exact rfl
          refine aw_regK hX hb [0, 1, 2, 3] rfl (σ' := ?s44) (fun K hK => ?h44) ?n44
          case h44 =>
            (refine st_op rfl (by simp (disch := omega) only [stepf,callOf,qop,fop,St.ev,St.put,cd,zd,Value.oneCell',tb_T,TypeDesc.aggB,getD_0,getD_s,Ze,Zd,Zc,Za,Zb,Zr,ZE,ZF,Zf,Zq,Zg,i64_w,Zt,Zs,pvAll,D.pv?,t3,ti3,t35,ti35,t40,ti40,t148,ti148,t149,ti149,Zh,map_at_l,map_at_i,map_at_n] <;> exact rfl) ?_)
            refine st_call rfl (by simp only [callOf,St.ev,getD_0,getD_s,pvAll,D.pv?,ZG,ZH,zd,cd,Value.oneCell',Zr] <;> exact rfl) (acK hP (c73 (extRaw S F (X.take j)) 0 (by rw [extRaw_length, List.length_take]; omega) (goodE_raw q3 q2 fun x hx => hXS x (List.mem_of_mem_take hx)) (ascE_raw q3 _ 0 (hXa.sublist (List.take_sublist _ _)) (fun x hx => hXS x (List.mem_of_mem_take hx)) (fun _ _ => Int.natCast_nonneg _)))) (by simp only [St.put,Za,Zb] <;> exact rfl) ?_
            iterate 2 (refine st_op rfl (by simp (disch := omega) only [stepf,callOf,qop,fop,St.ev,St.put,cd,zd,Value.oneCell',tb_T,TypeDesc.aggB,getD_0,getD_s,Ze,Zd,Zc,Za,Zb,Zr,ZE,ZF,Zf,Zq,Zg,i64_w,Zt,Zs,pvAll,D.pv?,t3,ti3,t35,ti35,t40,ti40,t148,ti148,t149,ti149,Zh,map_at_l,map_at_i,map_at_n] <;> exact rfl) ?_)
            refine aops_nil ?_
            exact hK
          refine exq_n ?_
          refine aw_ret ?_
          exact ret_r rfl (resOf_two rfl rfl (by first | rfl | (first | exact diff_bad (by omega) h1 hc1 | (rw [refDiff, if_neg (not_not_intro (h1 (by omega))), if_neg (not_not_intro (h2 (by omega))), if_pos hc2]; rfl) | (rw [refDiff, if_neg (not_not_intro hch0), if_neg (not_not_intro hch1), if_neg (by rintro (h | h) <;> exact h rfl)]; dsimp only; rw [foundN_L, ← hX0, refExt_merge, Int.toNat_natCast, Int.toNat_natCast, show X.take j = X from List.take_of_length_le (by omega)]))))
end Go.Proofs.Ytldcoekbgfaomaa
end
section
namespace Go.Proofs.Ytldcoekbgfaomaa
open Go.RowKit
set_option maxRecDepth 20000
set_option maxHeartbeats 4000000
attribute [local irreducible] AOps AOpsD AW
def isU8 : D → Bool
  | .p (.v (.int .u8 _)) => true
  | _ => false
theorem isU8_ok {d : D} (h : isU8 d = true) : ∃ n, d = .p (.v (.int .u8 n)) := by
  unfold isU8 at h
  split at h
  · exact ⟨_, rfl⟩
  · cases h
theorem bo1 {σ : St} {l : List Nat} {b : Nat} {x : Bx} (hl : l = [b]) (hx : σ.boxes[b]? = some x) (h : x.cells.all isU8 = true) : BytesOnly σ l := by
  subst hl
  intro c hc
  simp only [List.mem_singleton] at hc
  subst hc
  exact ⟨x, hx, fun d hd => isU8_ok (List.all_eq_true.1 h d hd)⟩
theorem nou_u64 (n : Int) : NoU8 (u64 n) := .v _ (fun k h => by cases h)
theorem nou_i64 (n : Int) : NoU8 (i64 n) := .v _ (fun k h => by cases h)
theorem nou_u64s (l : List Int) : NoU8 (u64s l) := .sl _ _ (fun x hx => by obtain ⟨n, _, rfl⟩ := List.mem_map.1 hx; exact nou_u64 n) (fun h => by have := congrArg List.length h; simpa using this)
theorem nou_lvls (l : List (List Int)) : NoU8 (lvls l) := .sl _ _ (fun x hx => by obtain ⟨n, _, rfl⟩ := List.mem_map.1 hx; exact nou_u64s n) (fun h => by have := congrArg List.length h; simpa using this)
theorem no_u64 (n : Int) : D.No (.p (u64 n)) := .p _ (nou_u64 n)
theorem no_tree (a b c : Int) (lv : List (List Int)) : D.No (.tup [.agg [i64 a, i64 b, lvls lv], .p (i64 c)]) := .tup _ (fun d hd => by
  simp only [List.mem_cons,List.not_mem_nil,or_false] at hd
  rcases hd with rfl | rfl
  · refine .agg _ (fun x hx => ?_)
    simp only [List.mem_cons,List.not_mem_nil,or_false] at hx
    rcases hx with rfl | rfl | rfl
    · exact nou_i64 a
    · exact nou_i64 b
    · exact nou_lvls lv
  · exact .p _ (nou_i64 c))
def LA : List (List Int) := [[1, 0, 0, 0, 0, 0, 0, 0], [2, 0, 0, 0, 0, 0, 0, 0], [3, 0, 0, 0, 0, 0, 0, 0], [4, 0, 0, 0, 0, 0, 0, 0], [5, 0, 0, 0, 0, 0, 0, 0]]
def LB : List (List Int) := [[1, 0, 0, 0, 0, 0, 0, 0], [2, 0, 0, 0, 0, 0, 0, 0], [3, 0, 0, 0, 0, 0, 0, 0], [4, 0, 0, 0, 0, 0, 0, 0], [9, 0, 0, 0, 0, 0, 0, 0]]
def dA : Int := 8581494753980282981
def dB : Int := 6571624168811679103
def dC : Int := 1000385178391007780
def d9 : Int := 9341425990259583453
theorem dA_val : secsD [[1, 0, 0, 0, 0, 0, 0, 0], [2, 0, 0, 0, 0, 0, 0, 0]] = dA := by kernel_rfl
theorem dB_val : secsD [[3, 0, 0, 0, 0, 0, 0, 0], [4, 0, 0, 0, 0, 0, 0, 0]] = dB := by kernel_rfl
theorem dC_val : secsD [[5, 0, 0, 0, 0, 0, 0, 0]] = dC := by kernel_rfl
theorem d9_val : secsD [[9, 0, 0, 0, 0, 0, 0, 0]] = d9 := by kernel_rfl
theorem dR_val : pairD (pairD dA dB) dC = 6302506858429732562 := by kernel_rfl
theorem dS_val : pairD (pairD dA dB) d9 = 17037982916381769732 := by kernel_rfl
def lv3 (x y z : Int) : List (List Int) := [[x, y, z], [pairD x y, z], [pairD (pairD x y) z]]
theorem levels3 (x y z : Int) : levelsOf [x, y, z] = lv3 x y z := by
  rw [levelsOf_more (by simp), show upL [x, y, z] = [pairD x y, z] from rfl, levelsOf_more (by simp), show upL [pairD x y, z] = [pairD (pairD x y) z] from rfl, levelsOf_one (by simp)]
  rfl
theorem sh3 (x y z : Int) : shT (5 : Int).toNat (2 : Int).toNat (lv3 x y z) = true := by
  show sh false (nLeaves 5 2) (lv3 x y z) = true
  rw [show nLeaves 5 2 = 3 by decide]
  rfl
theorem chk3 (x y z : Int) : refChk ⟨5, 2, lv3 x y z⟩ = 0 := refChk_0 (show ¬ ((5 : Int) < 1 ∨ 4096 < (5 : Int)) by decide) (show ¬ ((2 : Int) < 1 ∨ 4096 < (2 : Int)) by decide) (sh3 x y z) (levels3 x y z)
theorem build3 : refBuild LA 2 = (⟨5, 2, lv3 dA dB dC⟩, 0) := by
  rw [refBuild, if_neg (by decide), if_neg (by decide)]
  have h : leafD LA ((2 : Int)).toNat = [dA, dB, dC] := by
    rw [← dA_val, ← dB_val, ← dC_val]
    rfl
  rw [h, treeOf, levels3]
  rfl
theorem proof3 (x y z : Int) : refPrf ⟨5, 2, lv3 x y z⟩ 2 = ([pairD x y], 0) := by
  rw [refPrf, if_neg (not_not_intro (chk3 x y z))]
  show (if (2 : Int) < 0 ∨ (([x, y, z] : List Int).length : Int) ≤ 2 then _ else _) = _
  rw [if_neg (show ¬ ((2 : Int) < 0 ∨ (([x, y, z] : List Int).length : Int) ≤ 2) by simp)]
  show (proofOf [x, y, z] 2, (0 : Int)) = _
  rw [proofOf_more (by simp), if_neg (show ¬ hasO 2 [x, y, z].length from (by decide : ¬ hasO 2 3)), show upL [x, y, z] = [pairD x y, z] from rfl, show 2 / 2 = 1 from rfl, proofOf_more (by simp), if_pos (show hasO 1 [pairD x y, z].length from (by decide : hasO 1 2)), show upL [pairD x y, z] = [pairD (pairD x y) z] from rfl, proofOf_one (by simp)]
  rfl
theorem proof0 (x y z : Int) : refPrf ⟨5, 2, lv3 x y z⟩ 0 = ([y, z], 0) := by
  rw [refPrf, if_neg (not_not_intro (chk3 x y z))]
  show (if (0 : Int) < 0 ∨ (([x, y, z] : List Int).length : Int) ≤ 0 then _ else _) = _
  rw [if_neg (show ¬ ((0 : Int) < 0 ∨ (([x, y, z] : List Int).length : Int) ≤ 0) by simp)]
  show (proofOf [x, y, z] 0, (0 : Int)) = _
  rw [proofOf_more (by simp), if_pos (show hasO 0 [x, y, z].length from (by decide : hasO 0 3)), show upL [x, y, z] = [pairD x y, z] from rfl, show 0 / 2 = 0 from rfl, proofOf_more (by simp), if_pos (show hasO 0 [pairD x y, z].length from (by decide : hasO 0 2)), show upL [pairD x y, z] = [pairD (pairD x y) z] from rfl, proofOf_one (by simp)]
  rfl
theorem upd3 : refUpd ⟨5, 2, lv3 dA dB dC⟩ LB 4 1 = (⟨5, 2, lv3 dA dB d9⟩, 0) := by
  rw [refUpd_0 (chk3 dA dB dC) (by rfl) (by decide)]
  have h : updL LB ((2 : Int)).toNat ((lv3 dA dB dC).getD 0 []) 4 1 = [dA, dB, d9] := by
    rw [← d9_val]
    rfl
  show (treeOf 5 2 (updL LB ((2 : Int)).toNat ((lv3 dA dB dC).getD 0 []) 4 1), (0 : Int)) = _
  rw [h, treeOf, levels3]
theorem diff3 : refDiff ⟨5, 2, lv3 dA dB dC⟩ ⟨5, 2, lv3 dA dB d9⟩ = ([(4, 1)], 0) := by
  rw [refDiff, if_neg (not_not_intro (chk3 dA dB dC)), if_neg (not_not_intro (chk3 dA dB d9)), if_neg (by decide)]
  have h : foundL (lv3 dA dB dC) (lv3 dA dB d9) 2 0 = [2] := by
    have n2 : ¬ nodeSame (lv3 dA dB dC) (lv3 dA dB d9) 2 0 := by
      show ¬ (1 ≤ 0 ∨ pairD (pairD dA dB) dC = pairD (pairD dA dB) d9)
      rw [dR_val, dS_val]
      decide
    have n1 : nodeSame (lv3 dA dB dC) (lv3 dA dB d9) 1 0 := .inr rfl
    have n1' : ¬ nodeSame (lv3 dA dB dC) (lv3 dA dB d9) 1 1 := by
      show ¬ (2 ≤ 1 ∨ dC = d9)
      decide
    have n0 : ¬ nodeSame (lv3 dA dB dC) (lv3 dA dB d9) 0 2 := by
      show ¬ (3 ≤ 2 ∨ dC = d9)
      decide
    have n0' : nodeSame (lv3 dA dB dC) (lv3 dA dB d9) 0 3 := .inl (Nat.le_refl 3)
    rw [foundL, if_neg n2, foundL, if_pos n1, foundL, if_neg n1', foundL, if_neg n0, foundL, if_pos n0']
    rfl
  show (refExt 5 2 (foundL (lv3 dA dB dC) (lv3 dA dB d9) 2 0), (0 : Int)) = _
  rw [h]
  rfl
theorem k62a : ACalls Try.prog 62 [.p (.sl 2 [u8 1, u8 0, u8 0, u8 0, u8 0, u8 0, u8 0, u8 0, u8 2, u8 0, u8 0, u8 0, u8 0, u8 0, u8 0, u8 0])] (.p (u64 dA)) := dA_val ▸ c62 [[1, 0, 0, 0, 0, 0, 0, 0], [2, 0, 0, 0, 0, 0, 0, 0]] (by decide)
theorem k62b : ACalls Try.prog 62 [.p (.sl 2 [u8 3, u8 0, u8 0, u8 0, u8 0, u8 0, u8 0, u8 0, u8 4, u8 0, u8 0, u8 0, u8 0, u8 0, u8 0, u8 0])] (.p (u64 dB)) := dB_val ▸ c62 [[3, 0, 0, 0, 0, 0, 0, 0], [4, 0, 0, 0, 0, 0, 0, 0]] (by decide)
theorem k62c : ACalls Try.prog 62 [.p (.sl 1 [u8 5, u8 0, u8 0, u8 0, u8 0, u8 0, u8 0, u8 0])] (.p (u64 dC)) := dC_val ▸ c62 [[5, 0, 0, 0, 0, 0, 0, 0]] (by decide)
@[reducible] def tP (x y z : Int) : PV := .agg [i64 5, i64 2, lvls (lv3 x y z)]
theorem k21 : ACalls Try.prog 21 [.p (.sl 5 [u8 1, u8 0, u8 0, u8 0, u8 0, u8 0, u8 0, u8 0, u8 2, u8 0, u8 0, u8 0, u8 0, u8 0, u8 0, u8 0, u8 3, u8 0, u8 0, u8 0, u8 0, u8 0, u8 0, u8 0, u8 4, u8 0, u8 0, u8 0, u8 0, u8 0, u8 0, u8 0, u8 5, u8 0, u8 0, u8 0, u8 0, u8 0, u8 0, u8 0]), .p (i64 2)] (.tup [tP dA dB dC, .p (i64 0)]) := by
  have := c21 LA 2
  rw [build3] at this
  exact this
theorem k37a : ACalls Try.prog 37 [tP dA dB dC, .p (i64 2)] (.tup [.p (u64s [pairD dA dB]), .p (i64 0)]) := by
  have := c37 ⟨5, 2, lv3 dA dB dC⟩ 2
  rw [proof3] at this
  exact this
theorem k37b : ACalls Try.prog 37 [tP dA dB dC, .p (i64 0)] (.tup [.p (u64s [dB, dC]), .p (i64 0)]) := by
  have := c37 ⟨5, 2, lv3 dA dB dC⟩ 0
  rw [proof0] at this
  exact this
theorem k25 : ACalls Try.prog 25 [tP dA dB dC, .p (.sl 5 [u8 1, u8 0, u8 0, u8 0, u8 0, u8 0, u8 0, u8 0, u8 2, u8 0, u8 0, u8 0, u8 0, u8 0, u8 0, u8 0, u8 3, u8 0, u8 0, u8 0, u8 0, u8 0, u8 0, u8 0, u8 4, u8 0, u8 0, u8 0, u8 0, u8 0, u8 0, u8 0, u8 9, u8 0, u8 0, u8 0, u8 0, u8 0, u8 0, u8 0]), .agg [i64 4, i64 1]] (.tup [tP dA dB d9, .p (i64 0)]) := by
  have := c25 ⟨5, 2, lv3 dA dB dC⟩ LB 4 1
  rw [upd3] at this
  exact this
theorem k27 : ACalls Try.prog 27 [tP dA dB dC, tP dA dB d9] (.tup [.p (exts [(4, 1)]), .p (i64 0)]) := by
  have := c27 ⟨5, 2, lv3 dA dB dC⟩ ⟨5, 2, lv3 dA dB d9⟩
  rw [diff3] at this
  exact this
theorem k23 : ACalls Try.prog 23 [tP dA dB dC, tP dA dB dC] (.p (bv true)) := by
  have := c23 ⟨5, 2, lv3 dA dB dC⟩ ⟨5, 2, lv3 dA dB dC⟩
  rwa [show decide _ = true from decide_eq_true ⟨rfl, rfl, rfl⟩] at this
theorem k40 (l : List Int) : ACalls Try.prog 40 [.p (u64s l), .p (u64s l)] (.p (bv true)) := by
  have := c40 l l
  rwa [show decide (l = l) = true from decide_eq_true rfl] at this
theorem k29 : ACalls Try.prog 29 [.p (exts [(4, 1)]), .p (exts [(4, 1)])] (.p (bv true)) := by
  have := c29 [(4, 1)] [(4, 1)]
  rwa [show decide _ = true from decide_eq_true rfl] at this
theorem c20  : ACalls Try.prog 20 [] (.p (bv true)) := by
  refine acalls_of tb_ok Try.func20 (c := _) rfl (by kernel_rfl) ?_
  intro X hP hX hro hpl
  have hb : tb.Ok X.P := hP ▸ tb_ok
  change AW X _ _ ⟨[], [.any, .any, .any, .any, .any, .any, .any, .any, .any, .any, .any, .any, .any, .any, .any, .any, .any, .any, .any, .any, .any, .any, .any, .any, .any, .any, .any, .any, .any, .any, .any, .any, .any, .any, .any, .any, .any, .any, .any, .any, .any, .any, .any, .any, .any, .any, .any, .any, .any, .any, .any, .any, .any, .any, .any, .any, .any, .any, .any, .any, .any, .any, .any, .any, .any, .any, .any, .any, .any, .any, .any, .any, .any, .any, .any, .any, .any, .any, .any, .any, .any, .any, .any, .any, .any, .any, .any, .any, .any, .any, .any, .any, .any, .any, .any, .any, .any, .any, .any, .any, .any, .any, .any, .any, .any, .any, .any, .any, .any, .any, .any, .any, .any, .any, .any, .any, .any, .any, .any, .any, .any, .any, .any], [], []⟩
  refine aw_seq ?_
  refine aw_regK hX hb [0] rfl (σ' := ?s1) (fun K hK => ?h1) ?n1
  case h1 =>
    (refine st_op rfl (by simp (disch := omega) only [stepf,callOf,qop,fop,St.ev,St.put,cd,zd,Value.oneCell',tb_T,TypeDesc.aggB,getD_0,getD_s,Ze,Zd,Zc,Za,Zb,Zr,ZE,ZF,Zf,Zq,Zg,i64_w,Zt,Zs] <;> exact rfl) ?_)
    refine aops_nil ?_
    exact hK
  refine exq_n ?_
  refine aw_seq ?_
  refine aw_regK hX (tbN_ok [21] hb) [0, 1, 2, 3, 4, 5, 6] rfl (σ' := ?s2) (fun K hK => ?h2) ?n2
  case h2 =>
    iterate 7 (refine st_op rfl (by simp (disch := omega) only [stepf,callOf,qop,fop,St.ev,St.put,cd,zd,Value.oneCell',tb_T,TypeDesc.aggB,getD_0,getD_s,Ze,Zd,Zc,Za,Zb,Zr,ZE,ZF,Zf,Zq,Zg,i64_w,Zt,Zs,tb_W,tbO_W,qBuild,qBuildD,D.cell1,range_1,range_2,range_3,range_4,range_5,List.all_cons,List.all_nil,bfill,TI.place,TI.zeros,TI.kindOk,D.cells?,D.pure?,zp,Value.cells,ZQ,ZP,Zl,Zo,tb_N,tbO_N,tbW_N,tb_O,fBuildSlice,catCells,ZG,ZH,ZL,ZM,ZN,sec8_length,Nat.reduceAdd,Nat.reduceMul,t1,ti1,t2,ti2,t3,ti3,t4,ti4,t5,ti5,t22,ti22,t50,ti50,Zv,Zw,Zj,Zk,Zx,Zy,Int.reduceToNat,Nat.reduceSub,Nat.reduceLeDiff,tbN_T,tbN_W,tbN_hit,St.addBox] <;> exact rfl) ?_)
    refine aops_nil ?_
    exact hK
  refine exq_n ?_
  refine aw_seq ?_
  refine aw_regD hX hb (try_mixed hP) [(0, true), (1, true), (3, true), (4, true), (6, true), (7, true), (2, false), (5, false), (8, false), (9, true), (10, true), (11, true)] (by kernel_rfl) (σ' := ?s3) (fun K hK => ?h3) ?n3
  case h3 =>
    iterate 6 (refine sd_q rfl (by simp (disch := omega) only [qop,fop,St.ev,St.put,cd,zd,Value.oneCell',tb_T,TypeDesc.aggB,getD_0,getD_s,Ze,Zd,Zc,Za,Zb,Zr,ZE,ZF,Zf,Zq,Zg,i64_w,Zt,Zs,imp_self,Int.toNat_one,Int.toNat_zero,Nat.one_mul,qSlice,bnd,Option.isSome_none,ZP,Option.map_none,implies_true,forall_const,ZO,Nat.sub_zero,pvAll,D.pv?,t1,ti1,t2,ti2,t3,ti3,t4,ti4,t5,ti5,t22,ti22,t24,ti24,t26,ti26,t27,ti27,t50,ti50,t58,ti58,t60,ti60,Zv,Zw,Zj,Zk,Zx,Zy,ZM,ZL,ZN,Zl,Zo,Int.reduceToNat,Nat.reduceMul,Nat.reduceAdd,Nat.reduceSub,Nat.reduceLeDiff] <;> exact rfl) (by simp only [St.put,Za,Zb] <;> exact rfl) ?_)
    refine sd_len rfl rfl (by simp only [St.ev,getD_0,getD_s,zd,cd,Value.oneCell',Zr] <;> exact rfl) (by simp only [pvAllL,capCells,D.pvC?,D.pvN?,D.pvL?,pureAll,D.pv?,D.pure?,St.ev,getD_0,getD_s,zd,cd,Value.oneCell',Zr,ZG,ZH,Zd,Zc,Zg,Zv,Zw,Zj,Zk,Zx,Zy,ZM,ZL,ZN,Zl,Zo,Int.reduceToNat,Nat.reduceMul,Nat.reduceAdd,Nat.reduceSub,Nat.reduceLeDiff] <;> exact rfl) (by exact bo1 rfl rfl rfl) (acK hP (k62a)) (no_u64 _) (by simp only [St.put,Za,Zb] <;> exact rfl) ?_
    refine sd_len rfl rfl (by simp only [St.ev,getD_0,getD_s,zd,cd,Value.oneCell',Zr] <;> exact rfl) (by simp only [pvAllL,capCells,D.pvC?,D.pvN?,D.pvL?,pureAll,D.pv?,D.pure?,St.ev,getD_0,getD_s,zd,cd,Value.oneCell',Zr,ZG,ZH,Zd,Zc,Zg,Zv,Zw,Zj,Zk,Zx,Zy,ZM,ZL,ZN,Zl,Zo,Int.reduceToNat,Nat.reduceMul,Nat.reduceAdd,Nat.reduceSub,Nat.reduceLeDiff] <;> exact rfl) (by exact bo1 rfl rfl rfl) (acK hP (k62b)) (no_u64 _) (by simp only [St.put,Za,Zb] <;> exact rfl) ?_
    refine sd_len rfl rfl (by simp only [St.ev,getD_0,getD_s,zd,cd,Value.oneCell',Zr] <;> exact rfl) (by simp only [pvAllL,capCells,D.pvC?,D.pvN?,D.pvL?,pureAll,D.pv?,D.pure?,St.ev,getD_0,getD_s,zd,cd,Value.oneCell',Zr,ZG,ZH,Zd,Zc,Zg,Zv,Zw,Zj,Zk,Zx,Zy,ZM,ZL,ZN,Zl,Zo,Int.reduceToNat,Nat.reduceMul,Nat.reduceAdd,Nat.reduceSub,Nat.reduceLeDiff] <;> exact rfl) (by exact bo1 rfl rfl rfl) (acK hP (k62c)) (no_u64 _) (by simp only [St.put,Za,Zb] <;> exact rfl) ?_
    iterate 3 (refine sd_q rfl (by simp (disch := omega) only [qop,fop,St.ev,St.put,cd,zd,Value.oneCell',tb_T,TypeDesc.aggB,getD_0,getD_s,Ze,Zd,Zc,Za,Zb,Zr,ZE,ZF,Zf,Zq,Zg,i64_w,Zt,Zs,imp_self,Int.toNat_one,Int.toNat_zero,Nat.one_mul,qSlice,bnd,Option.isSome_none,ZP,Option.map_none,implies_true,forall_const,ZO,Nat.sub_zero,pvAll,D.pv?,t1,ti1,t2,ti2,t3,ti3,t4,ti4,t5,ti5,t22,ti22,t24,ti24,t26,ti26,t27,ti27,t50,ti50,t58,ti58,t60,ti60,Zv,Zw,Zj,Zk,Zx,Zy,ZM,ZL,ZN,Zl,Zo,Int.reduceToNat,Nat.reduceMul,Nat.reduceAdd,Nat.reduceSub,Nat.reduceLeDiff] <;> exact rfl) (by simp only [St.put,Za,Zb] <;> exact rfl) ?_)
    refine aopsd_nil ?_
    exact hK
  refine exq_n ?_
  refine aw_seq ?_
  refine aw_regK hX hb [0, 1, 2, 3, 4, 5, 6, 7] rfl (σ' := ?s4) (fun K hK => ?h4) ?n4
  case h4 =>
    (refine st_op rfl (by simp (disch := omega) only [stepf,callOf,qop,fop,St.ev,St.put,cd,zd,Value.oneCell',tb_T,TypeDesc.aggB,getD_0,getD_s,Ze,Zd,Zc,Za,Zb,Zr,ZE,ZF,Zf,Zq,Zg,i64_w,Zt,Zs,pvAll,D.pv?,qTup,PV.d,ZM,ZL,Zl,Zo,ZG,ZH,St.addBox,Value.cells,fStore,D.boxCells,D.live,D.cells?,D.pure?,Zv,Zw,Zj,Zk,Zx,Zy,ZN,St.setVec,ZC,t1,ti1,t2,ti2,t3,ti3,t5,ti5,t22,ti22,t24,ti24,t26,ti26,t35,ti35,t50,ti50,t58,ti58,t60,ti60] <;> exact rfl) ?_)
    refine st_len rfl rfl (by simp only [St.ev,getD_0,getD_s,zd,cd,Value.oneCell',Zr] <;> exact rfl) (by simp only [pvAllL,capCells,D.pvC?,D.pvN?,D.pvL?,pureAll,D.pv?,D.pure?,St.ev,getD_0,getD_s,zd,cd,Value.oneCell',Zr,ZG,ZH,Zd,Zc,Zg,Zv,Zw,Zj,Zk,Zx,Zy,ZM,ZL,ZN,Zl,Zo,Int.reduceToNat,Nat.reduceMul,Nat.reduceAdd,Nat.reduceSub,Nat.reduceLeDiff] <;> exact rfl) (by exact bo1 rfl rfl rfl) (acK hP (k21)) (no_tree _ _ _ _) (by simp only [St.put,Za,Zb] <;> exact rfl) ?_
    iterate 6 (refine st_op rfl (by simp (disch := omega) only [stepf,callOf,qop,fop,St.ev,St.put,cd,zd,Value.oneCell',tb_T,TypeDesc.aggB,getD_0,getD_s,Ze,Zd,Zc,Za,Zb,Zr,ZE,ZF,Zf,Zq,Zg,i64_w,Zt,Zs,pvAll,D.pv?,qTup,PV.d,ZM,ZL,Zl,Zo,ZG,ZH,St.addBox,Value.cells,fStore,D.boxCells,D.live,D.cells?,D.pure?,Zv,Zw,Zj,Zk,Zx,Zy,ZN,St.setVec,ZC,t1,ti1,t2,ti2,t3,ti3,t5,ti5,t22,ti22,t24,ti24,t26,ti26,t35,ti35,t50,ti50,t58,ti58,t60,ti60] <;> exact rfl) ?_)
    refine aops_nil ?_
    exact hK
  refine exq_n ?_
  refine aw_seq ?_
  refine aw_regK hX hb [0, 1, 2, 3, 4, 5, 6, 7, 8, 9, 10, 11, 12, 13, 14, 15, 16, 17, 18] rfl (σ' := ?s5) (fun K hK => ?h5) ?n5
  case h5 =>
    iterate 6 (refine st_op rfl (by simp (disch := omega) only [stepf,callOf,qop,fop,St.ev,St.put,cd,zd,Value.oneCell',tb_T,TypeDesc.aggB,getD_0,getD_s,Ze,Zd,Zc,Za,Zb,Zr,ZE,ZF,Zf,Zq,Zg,i64_w,Zt,Zs,tb_N,tbO_N,tbW_N,tb_O,fBuildSlice,catCells,D.cells?,D.pure?,range_1,range_2,range_3,range_4,range_5,ZG,ZH,ZL,ZM,ZN,Zl,Zo,sec8_length,Nat.reduceAdd,Nat.reduceMul,pvAll,D.pv?,tb_W,tbO_W,qBuild,qBuildD,D.cell1,List.all_cons,List.all_nil,bfill,TI.place,TI.zeros,TI.kindOk,zp,Value.cells,ZQ,ZP,St.addBox,fStore,D.boxCells,D.live,Zv,Zw,Zj,Zk,Zx,Zy,St.setVec,ZC,t1,ti1,t2,ti2,t3,ti3,t4,ti4,t5,ti5,t22,ti22,t24,ti24,t26,ti26,t35,ti35,t40,ti40,t47,ti47,t50,ti50,t58,ti58,t60,ti60,t63,ti63,Int.reduceToNat,Nat.reduceSub,Nat.reduceLeDiff] <;> exact rfl) ?_)
    refine st_call rfl (by simp only [callOf,St.ev,getD_0,getD_s,pvAll,D.pv?,ZG,ZH,zd,cd,Value.oneCell',Zr] <;> exact rfl) (acK hP (c63 _ _)) (by simp only [St.put,Za,Zb] <;> exact rfl) ?_
    iterate 4 (refine st_op rfl (by simp (disch := omega) only [stepf,callOf,qop,fop,St.ev,St.put,cd,zd,Value.oneCell',tb_T,TypeDesc.aggB,getD_0,getD_s,Ze,Zd,Zc,Za,Zb,Zr,ZE,ZF,Zf,Zq,Zg,i64_w,Zt,Zs,tb_N,tbO_N,tbW_N,tb_O,fBuildSlice,catCells,D.cells?,D.pure?,range_1,range_2,range_3,range_4,range_5,ZG,ZH,ZL,ZM,ZN,Zl,Zo,sec8_length,Nat.reduceAdd,Nat.reduceMul,pvAll,D.pv?,tb_W,tbO_W,qBuild,qBuildD,D.cell1,List.all_cons,List.all_nil,bfill,TI.place,TI.zeros,TI.kindOk,zp,Value.cells,ZQ,ZP,St.addBox,fStore,D.boxCells,D.live,Zv,Zw,Zj,Zk,Zx,Zy,St.setVec,ZC,t1,ti1,t2,ti2,t3,ti3,t4,ti4,t5,ti5,t22,ti22,t24,ti24,t26,ti26,t35,ti35,t40,ti40,t47,ti47,t50,ti50,t58,ti58,t60,ti60,t63,ti63,Int.reduceToNat,Nat.reduceSub,Nat.reduceLeDiff] <;> exact rfl) ?_)
    refine st_call rfl (by simp only [callOf,St.ev,getD_0,getD_s,pvAll,D.pv?,ZG,ZH,zd,cd,Value.oneCell',Zr] <;> exact rfl) (acK hP (c63 _ _)) (by simp only [St.put,Za,Zb] <;> exact rfl) ?_
    (refine st_op rfl (by simp (disch := omega) only [stepf,callOf,qop,fop,St.ev,St.put,cd,zd,Value.oneCell',tb_T,TypeDesc.aggB,getD_0,getD_s,Ze,Zd,Zc,Za,Zb,Zr,ZE,ZF,Zf,Zq,Zg,i64_w,Zt,Zs,tb_N,tbO_N,tbW_N,tb_O,fBuildSlice,catCells,D.cells?,D.pure?,range_1,range_2,range_3,range_4,range_5,ZG,ZH,ZL,ZM,ZN,Zl,Zo,sec8_length,Nat.reduceAdd,Nat.reduceMul,pvAll,D.pv?,tb_W,tbO_W,qBuild,qBuildD,D.cell1,List.all_cons,List.all_nil,bfill,TI.place,TI.zeros,TI.kindOk,zp,Value.cells,ZQ,ZP,St.addBox,fStore,D.boxCells,D.live,Zv,Zw,Zj,Zk,Zx,Zy,St.setVec,ZC,t1,ti1,t2,ti2,t3,ti3,t4,ti4,t5,ti5,t22,ti22,t24,ti24,t26,ti26,t35,ti35,t40,ti40,t47,ti47,t50,ti50,t58,ti58,t60,ti60,t63,ti63,Int.reduceToNat,Nat.reduceSub,Nat.reduceLeDiff] <;> exact rfl) ?_)
    refine st_call rfl (by simp only [callOf,St.ev,getD_0,getD_s,pvAll,D.pv?,ZG,ZH,zd,cd,Value.oneCell',Zr] <;> exact rfl) (acK hP (c63 _ _)) (by simp only [St.put,Za,Zb] <;> exact rfl) ?_
    iterate 5 (refine st_op rfl (by simp (disch := omega) only [stepf,callOf,qop,fop,St.ev,St.put,cd,zd,Value.oneCell',tb_T,TypeDesc.aggB,getD_0,getD_s,Ze,Zd,Zc,Za,Zb,Zr,ZE,ZF,Zf,Zq,Zg,i64_w,Zt,Zs,tb_N,tbO_N,tbW_N,tb_O,fBuildSlice,catCells,D.cells?,D.pure?,range_1,range_2,range_3,range_4,range_5,ZG,ZH,ZL,ZM,ZN,Zl,Zo,sec8_length,Nat.reduceAdd,Nat.reduceMul,pvAll,D.pv?,tb_W,tbO_W,qBuild,qBuildD,D.cell1,List.all_cons,List.all_nil,bfill,TI.place,TI.zeros,TI.kindOk,zp,Value.cells,ZQ,ZP,St.addBox,fStore,D.boxCells,D.live,Zv,Zw,Zj,Zk,Zx,Zy,St.setVec,ZC,t1,ti1,t2,ti2,t3,ti3,t4,ti4,t5,ti5,t22,ti22,t24,ti24,t26,ti26,t35,ti35,t40,ti40,t47,ti47,t50,ti50,t58,ti58,t60,ti60,t63,ti63,Int.reduceToNat,Nat.reduceSub,Nat.reduceLeDiff] <;> exact rfl) ?_)
    refine aops_nil ?_
    exact hK
  refine exq_n ?_
  refine aw_seq ?_
  refine aw_regK hX hb [0, 1, 2, 3, 4, 5, 6] rfl (σ' := ?s6) (fun K hK => ?h6) ?n6
  case h6 =>
    (refine st_op rfl (by simp (disch := omega) only [stepf,callOf,qop,fop,St.ev,St.put,cd,zd,Value.oneCell',tb_T,TypeDesc.aggB,getD_0,getD_s,Ze,Zd,Zc,Za,Zb,Zr,ZE,ZF,Zf,Zq,Zg,i64_w,Zt,Zs,Zl,Zo,Zv,Zw,Zj,Zk,Zx,Zy,qLoad,bload,pload,pureAll,D.pure?,ZC,ZD,pvAll,D.pv?,qTup,PV.d,t1,ti1,t2,ti2,t3,ti3,t4,ti4,t5,ti5,t24,ti24,t26,ti26,t54,ti54,t58,ti58,t60,ti60,ZM,ZL,ZN,Int.reduceToNat,Nat.reduceMul,Nat.reduceAdd,Nat.reduceSub,Nat.reduceLeDiff] <;> exact rfl) ?_)
    refine st_call rfl (by simp only [callOf,St.ev,getD_0,getD_s,pvAll,D.pv?,ZG,ZH,zd,cd,Value.oneCell',Zr] <;> exact rfl) (acK hP (k37a)) (by simp only [St.put,Za,Zb] <;> exact rfl) ?_
    iterate 5 (refine st_op rfl (by simp (disch := omega) only [stepf,callOf,qop,fop,St.ev,St.put,cd,zd,Value.oneCell',tb_T,TypeDesc.aggB,getD_0,getD_s,Ze,Zd,Zc,Za,Zb,Zr,ZE,ZF,Zf,Zq,Zg,i64_w,Zt,Zs,Zl,Zo,Zv,Zw,Zj,Zk,Zx,Zy,qLoad,bload,pload,pureAll,D.pure?,ZC,ZD,pvAll,D.pv?,qTup,PV.d,t1,ti1,t2,ti2,t3,ti3,t4,ti4,t5,ti5,t24,ti24,t26,ti26,t54,ti54,t58,ti58,t60,ti60,ZM,ZL,ZN,Int.reduceToNat,Nat.reduceMul,Nat.reduceAdd,Nat.reduceSub,Nat.reduceLeDiff] <;> exact rfl) ?_)
    refine aops_nil ?_
    exact hK
  refine exq_n ?_
  refine aw_seq ?_
  refine aw_regK hX hb [0, 1, 2, 3, 4, 5, 6] rfl (σ' := ?s7) (fun K hK => ?h7) ?n7
  case h7 =>
    (refine st_op rfl (by simp (disch := omega) only [stepf,callOf,qop,fop,St.ev,St.put,cd,zd,Value.oneCell',tb_T,TypeDesc.aggB,getD_0,getD_s,Ze,Zd,Zc,Za,Zb,Zr,ZE,ZF,Zf,Zq,Zg,i64_w,Zt,Zs,Zl,Zo,Zv,Zw,Zj,Zk,Zx,Zy,qLoad,bload,pload,pureAll,D.pure?,ZC,ZD,pvAll,D.pv?,qTup,PV.d,t1,ti1,t3,ti3,t5,ti5,t24,ti24,t26,ti26,t58,ti58,t60,ti60,ZM,ZL,ZN,Int.reduceToNat,Nat.reduceMul,Nat.reduceAdd,Nat.reduceSub,Nat.reduceLeDiff] <;> exact rfl) ?_)
    refine st_call rfl (by simp only [callOf,St.ev,getD_0,getD_s,pvAll,D.pv?,ZG,ZH,zd,cd,Value.oneCell',Zr] <;> exact rfl) (acK hP (k37b)) (by simp only [St.put,Za,Zb] <;> exact rfl) ?_
    iterate 5 (refine st_op rfl (by simp (disch := omega) only [stepf,callOf,qop,fop,St.ev,St.put,cd,zd,Value.oneCell',tb_T,TypeDesc.aggB,getD_0,getD_s,Ze,Zd,Zc,Za,Zb,Zr,ZE,ZF,Zf,Zq,Zg,i64_w,Zt,Zs,Zl,Zo,Zv,Zw,Zj,Zk,Zx,Zy,qLoad,bload,pload,pureAll,D.pure?,ZC,ZD,pvAll,D.pv?,qTup,PV.d,t1,ti1,t3,ti3,t5,ti5,t24,ti24,t26,ti26,t58,ti58,t60,ti60,ZM,ZL,ZN,Int.reduceToNat,Nat.reduceMul,Nat.reduceAdd,Nat.reduceSub,Nat.reduceLeDiff] <;> exact rfl) ?_)
    refine aops_nil ?_
    exact hK
  refine exq_n ?_
  refine aw_seq ?_
  refine aw_regK hX hb [0, 1, 2, 3] rfl (σ' := ?s8) (fun K hK => ?h8) ?n8
  case h8 =>
    iterate 4 (refine st_op rfl (by simp (disch := omega) only [stepf,callOf,qop,fop,St.ev,St.put,cd,zd,Value.oneCell',tb_T,TypeDesc.aggB,getD_0,getD_s,Ze,Zd,Zc,Za,Zb,Zr,ZE,ZF,Zf,Zq,Zg,i64_w,Zt,Zs,tb_W,tbO_W,qBuild,qBuildD,D.cell1,range_1,range_2,range_3,range_4,range_5,List.all_cons,List.all_nil,bfill,TI.place,TI.zeros,TI.kindOk,D.cells?,D.pure?,zp,Value.cells,ZQ,ZP,Zl,Zo,Int.toNat_zero,Int.toNat_one,toNat_pred,toNat_succ,qIndexAddr,ZO,Nat.mul_one,ZC,Nat.zero_mul,Zh,fStore,D.boxCells,D.live,Zv,Zw,Zj,Zk,Zx,Zy,ZM,ZL,ZN,ZG,ZH,St.setVec,t1,ti1,t3,ti3,t4,ti4,t5,ti5,t22,ti22,t50,ti50,t58,ti58,t60,ti60,t63,ti63,Int.reduceToNat,Nat.reduceMul,Nat.reduceAdd,Nat.reduceSub,Nat.reduceLeDiff] <;> exact rfl) ?_)
    refine aops_nil ?_
    exact hK
  refine exq_n ?_
  refine aw_seq ?_
  refine aw_regK hX hb [0, 1, 2, 3, 4, 5, 6, 7, 8, 9] rfl (σ' := ?s9) (fun K hK => ?h9) ?n9
  case h9 =>
    iterate 3 (refine st_op rfl (by simp (disch := omega) only [stepf,callOf,qop,fop,St.ev,St.put,cd,zd,Value.oneCell',tb_T,TypeDesc.aggB,getD_0,getD_s,Ze,Zd,Zc,Za,Zb,Zr,ZE,ZF,Zf,Zq,Zg,i64_w,Zt,Zs,Zl,Zo,Zv,Zw,Zj,Zk,Zx,Zy,qLoad,bload,pload,pureAll,D.pure?,ZC,ZD,tb_W,tbO_W,qBuild,qBuildD,D.cell1,range_1,range_2,range_3,range_4,range_5,List.all_cons,List.all_nil,bfill,TI.place,TI.zeros,TI.kindOk,D.cells?,zp,Value.cells,ZQ,ZP,pvAll,D.pv?,qTup,PV.d,ZM,ZL,ZG,ZH,St.addBox,fStore,D.boxCells,D.live,ZN,St.setVec,t1,ti1,t3,ti3,t4,ti4,t5,ti5,t22,ti22,t24,ti24,t26,ti26,t35,ti35,t50,ti50,t58,ti58,t60,ti60,t69,ti69,t71,ti71,Int.reduceToNat,Nat.reduceMul,Nat.reduceAdd,Nat.reduceSub,Nat.reduceLeDiff] <;> exact rfl) ?_)
    refine st_len rfl rfl (by simp only [St.ev,getD_0,getD_s,zd,cd,Value.oneCell',Zr] <;> exact rfl) (by simp only [pvAllL,capCells,D.pvC?,D.pvN?,D.pvL?,pureAll,D.pv?,D.pure?,St.ev,getD_0,getD_s,zd,cd,Value.oneCell',Zr,ZG,ZH,Zd,Zc,Zg,Zv,Zw,Zj,Zk,Zx,Zy,ZM,ZL,ZN,Zl,Zo,Int.reduceToNat,Nat.reduceMul,Nat.reduceAdd,Nat.reduceSub,Nat.reduceLeDiff] <;> exact rfl) (by exact bo1 rfl rfl rfl) (acK hP (k25)) (no_tree _ _ _ _) (by simp only [St.put,Za,Zb] <;> exact rfl) ?_
    iterate 6 (refine st_op rfl (by simp (disch := omega) only [stepf,callOf,qop,fop,St.ev,St.put,cd,zd,Value.oneCell',tb_T,TypeDesc.aggB,getD_0,getD_s,Ze,Zd,Zc,Za,Zb,Zr,ZE,ZF,Zf,Zq,Zg,i64_w,Zt,Zs,Zl,Zo,Zv,Zw,Zj,Zk,Zx,Zy,qLoad,bload,pload,pureAll,D.pure?,ZC,ZD,tb_W,tbO_W,qBuild,qBuildD,D.cell1,range_1,range_2,range_3,range_4,range_5,List.all_cons,List.all_nil,bfill,TI.place,TI.zeros,TI.kindOk,D.cells?,zp,Value.cells,ZQ,ZP,pvAll,D.pv?,qTup,PV.d,ZM,ZL,ZG,ZH,St.addBox,fStore,D.boxCells,D.live,ZN,St.setVec,t1,ti1,t3,ti3,t4,ti4,t5,ti5,t22,ti22,t24,ti24,t26,ti26,t35,ti35,t50,ti50,t58,ti58,t60,ti60,t69,ti69,t71,ti71,Int.reduceToNat,Nat.reduceMul,Nat.reduceAdd,Nat.reduceSub,Nat.reduceLeDiff] <;> exact rfl) ?_)
    refine aops_nil ?_
    exact hK
  refine exq_n ?_
  refine aw_seq ?_
  refine aw_regK hX hb [0, 1, 2, 3, 4, 5, 6, 7] rfl (σ' := ?s10) (fun K hK => ?h10) ?n10
  case h10 =>
    iterate 2 (refine st_op rfl (by simp (disch := omega) only [stepf,callOf,qop,fop,St.ev,St.put,cd,zd,Value.oneCell',tb_T,TypeDesc.aggB,getD_0,getD_s,Ze,Zd,Zc,Za,Zb,Zr,ZE,ZF,Zf,Zq,Zg,i64_w,Zt,Zs,Zl,Zo,Zv,Zw,Zj,Zk,Zx,Zy,qLoad,bload,pload,pureAll,D.pure?,ZC,ZD,pvAll,D.pv?,qTup,PV.d,t1,ti1,t3,ti3,t4,ti4,t5,ti5,t24,ti24,t26,ti26,t27,ti27,t35,ti35,t40,ti40,t58,ti58,t60,ti60,t75,ti75,t77,ti77,t87,ti87,t88,ti88,t90,ti90,ZM,ZL,ZN,Int.reduceToNat,Nat.reduceMul,Nat.reduceAdd,Nat.reduceSub,Nat.reduceLeDiff] <;> exact rfl) ?_)
    refine st_call rfl (by simp only [callOf,St.ev,getD_0,getD_s,pvAll,D.pv?,ZG,ZH,zd,cd,Value.oneCell',Zr] <;> exact rfl) (acK hP (k27)) (by simp only [St.put,Za,Zb] <;> exact rfl) ?_
    iterate 5 (refine st_op rfl (by simp (disch := omega) only [stepf,callOf,qop,fop,St.ev,St.put,cd,zd,Value.oneCell',tb_T,TypeDesc.aggB,getD_0,getD_s,Ze,Zd,Zc,Za,Zb,Zr,ZE,ZF,Zf,Zq,Zg,i64_w,Zt,Zs,Zl,Zo,Zv,Zw,Zj,Zk,Zx,Zy,qLoad,bload,pload,pureAll,D.pure?,ZC,ZD,pvAll,D.pv?,qTup,PV.d,t1,ti1,t3,ti3,t4,ti4,t5,ti5,t24,ti24,t26,ti26,t27,ti27,t35,ti35,t40,ti40,t58,ti58,t60,ti60,t75,ti75,t77,ti77,t87,ti87,t88,ti88,t90,ti90,ZM,ZL,ZN,Int.reduceToNat,Nat.reduceMul,Nat.reduceAdd,Nat.reduceSub,Nat.reduceLeDiff] <;> exact rfl) ?_)
    refine aops_nil ?_
    exact hK
  refine exq_n ?_
  refine aw_seq ?_
  refine aw_regK hX hb [0, 1, 2, 3, 4, 5, 6, 7, 8, 9, 10, 11, 12, 13, 14, 15, 16, 17, 18, 19, 20, 21, 22, 23, 24, 25, 26, 27, 28, 29, 30, 31, 32, 33, 34, 35, 36, 37, 38, 39, 40, 41, 42, 43, 44] rfl (σ' := ?s11) (fun K hK => ?h11) ?n11
  case h11 =>
    iterate 3 (refine st_op rfl (by simp (disch := omega) only [stepf,callOf,qop,fop,St.ev,St.put,cd,zd,Value.oneCell',tb_T,TypeDesc.aggB,getD_0,getD_s,Ze,Zd,Zc,Za,Zb,Zr,ZE,ZF,Zf,Zq,Zg,i64_w,Zt,Zs,qBin,iop,Zl,Zo,Zv,Zw,Zj,Zk,Zx,Zy,qLoad,bload,pload,pureAll,D.pure?,ZC,ZD,pvAll,D.pv?,tb_N,tbO_N,tbW_N,tb_O,fBuildSlice,catCells,D.cells?,range_1,range_2,range_3,range_4,range_5,ZG,ZH,ZL,ZM,ZN,sec8_length,Nat.reduceAdd,Nat.reduceMul,tb_W,tbO_W,qBuild,qBuildD,D.cell1,List.all_cons,List.all_nil,bfill,TI.place,TI.zeros,TI.kindOk,zp,Value.cells,ZQ,ZP,t1,ti1,t2,ti2,t3,ti3,t4,ti4,t5,ti5,t22,ti22,t24,ti24,t26,ti26,t27,ti27,t35,ti35,t40,ti40,t50,ti50,t58,ti58,t60,ti60,t63,ti63,t87,ti87,t88,ti88,t90,ti90,t101,ti101,t115,ti115,t117,ti117,t118,ti118,Int.reduceToNat,Nat.reduceSub,Nat.reduceLeDiff] <;> exact rfl) ?_)
    iterate 2 (all_goals first | (refine st_g1 rfl rfl rfl (by simp (disch := omega) only [stepf,callOf,qop,fop,St.ev,St.put,cd,zd,Value.oneCell',tb_T,TypeDesc.aggB,getD_0,getD_s,Ze,Zd,Zc,Za,Zb,Zr,ZE,ZF,Zf,Zq,Zg,i64_w,Zt,Zs,qBin,iop,Zl,Zo,Zv,Zw,Zj,Zk,Zx,Zy,qLoad,bload,pload,pureAll,D.pure?,ZC,ZD,pvAll,D.pv?,tb_N,tbO_N,tbW_N,tb_O,fBuildSlice,catCells,D.cells?,range_1,range_2,range_3,range_4,range_5,ZG,ZH,ZL,ZM,ZN,sec8_length,Nat.reduceAdd,Nat.reduceMul,tb_W,tbO_W,qBuild,qBuildD,D.cell1,List.all_cons,List.all_nil,bfill,TI.place,TI.zeros,TI.kindOk,zp,Value.cells,ZQ,ZP,t1,ti1,t2,ti2,t3,ti3,t4,ti4,t5,ti5,t22,ti22,t24,ti24,t26,ti26,t27,ti27,t35,ti35,t40,ti40,t50,ti50,t58,ti58,t60,ti60,t63,ti63,t87,ti87,t88,ti88,t90,ti90,t101,ti101,t115,ti115,t117,ti117,t118,ti118,Int.reduceToNat,Nat.reduceSub,Nat.reduceLeDiff] <;> exact rfl) ?_) | (first | (refine st_g0 rfl rfl rfl (by simp only [St.put,Za,Zb] <;> exact rfl) ?_) | (refine st_gu rfl rfl rfl (by simp only [St.put,Za,Zb] <;> exact rfl) ?_)) | (refine st_split rfl rfl rfl (by simp only [Za,Zb] <;> exact rfl) (by simp only [Za,Zb] <;> exact rfl) (fun hg => ?_) (fun hg => ?_) <;> (try simp only [Zp,Zi,ZJ,ZK,ne_eq,Zn,Zm,Bool.not_eq_true,Zu] at hg) <;> first | (refine st_g1 rfl rfl rfl (by simp (disch := omega) only [stepf,callOf,qop,fop,St.ev,St.put,cd,zd,Value.oneCell',tb_T,TypeDesc.aggB,getD_0,getD_s,Ze,Zd,Zc,Za,Zb,Zr,ZE,ZF,Zf,Zq,Zg,i64_w,Zt,Zs,qBin,iop,Zl,Zo,Zv,Zw,Zj,Zk,Zx,Zy,qLoad,bload,pload,pureAll,D.pure?,ZC,ZD,pvAll,D.pv?,tb_N,tbO_N,tbW_N,tb_O,fBuildSlice,catCells,D.cells?,range_1,range_2,range_3,range_4,range_5,ZG,ZH,ZL,ZM,ZN,sec8_length,Nat.reduceAdd,Nat.reduceMul,tb_W,tbO_W,qBuild,qBuildD,D.cell1,List.all_cons,List.all_nil,bfill,TI.place,TI.zeros,TI.kindOk,zp,Value.cells,ZQ,ZP,t1,ti1,t2,ti2,t3,ti3,t4,ti4,t5,ti5,t22,ti22,t24,ti24,t26,ti26,t27,ti27,t35,ti35,t40,ti40,t50,ti50,t58,ti58,t60,ti60,t63,ti63,t87,ti87,t88,ti88,t90,ti90,t101,ti101,t115,ti115,t117,ti117,t118,ti118,Int.reduceToNat,Nat.reduceSub,Nat.reduceLeDiff] <;> exact rfl) ?_) | (first | (refine st_g0 rfl rfl rfl (by simp only [St.put,Za,Zb] <;> exact rfl) ?_) | (refine st_gu rfl rfl rfl (by simp only [St.put,Za,Zb] <;> exact rfl) ?_))))
    all_goals first | (refine st_gc rfl rfl rfl (by simp only [callOf,St.ev,getD_0,getD_s,pvAll,D.pv?,ZG,ZH,zd,cd,Value.oneCell',Zr] <;> exact rfl) (acK hP (k23)) (by simp only [St.put,Za,Zb] <;> exact rfl) ?_) | (first | (refine st_g0 rfl rfl rfl (by simp only [St.put,Za,Zb] <;> exact rfl) ?_) | (refine st_gu rfl rfl rfl (by simp only [St.put,Za,Zb] <;> exact rfl) ?_)) | (refine st_split rfl rfl rfl (by simp only [Za,Zb] <;> exact rfl) (by simp only [Za,Zb] <;> exact rfl) (fun hg => ?_) (fun hg => ?_) <;> (try simp only [Zp,Zi,ZJ,ZK,ne_eq,Zn,Zm,Bool.not_eq_true,Zu] at hg) <;> first | (refine st_gc rfl rfl rfl (by simp only [callOf,St.ev,getD_0,getD_s,pvAll,D.pv?,ZG,ZH,zd,cd,Value.oneCell',Zr] <;> exact rfl) (acK hP (k23)) (by simp only [St.put,Za,Zb] <;> exact rfl) ?_) | (first | (refine st_g0 rfl rfl rfl (by simp only [St.put,Za,Zb] <;> exact rfl) ?_) | (refine st_gu rfl rfl rfl (by simp only [St.put,Za,Zb] <;> exact rfl) ?_)))
    iterate 2 (refine st_op rfl (by simp (disch := omega) only [stepf,callOf,qop,fop,St.ev,St.put,cd,zd,Value.oneCell',tb_T,TypeDesc.aggB,getD_0,getD_s,Ze,Zd,Zc,Za,Zb,Zr,ZE,ZF,Zf,Zq,Zg,i64_w,Zt,Zs,qBin,iop,Zl,Zo,Zv,Zw,Zj,Zk,Zx,Zy,qLoad,bload,pload,pureAll,D.pure?,ZC,ZD,pvAll,D.pv?,tb_N,tbO_N,tbW_N,tb_O,fBuildSlice,catCells,D.cells?,range_1,range_2,range_3,range_4,range_5,ZG,ZH,ZL,ZM,ZN,sec8_length,Nat.reduceAdd,Nat.reduceMul,tb_W,tbO_W,qBuild,qBuildD,D.cell1,List.all_cons,List.all_nil,bfill,TI.place,TI.zeros,TI.kindOk,zp,Value.cells,ZQ,ZP,t1,ti1,t2,ti2,t3,ti3,t4,ti4,t5,ti5,t22,ti22,t24,ti24,t26,ti26,t27,ti27,t35,ti35,t40,ti40,t50,ti50,t58,ti58,t60,ti60,t63,ti63,t87,ti87,t88,ti88,t90,ti90,t101,ti101,t115,ti115,t117,ti117,t118,ti118,Int.reduceToNat,Nat.reduceSub,Nat.reduceLeDiff] <;> exact rfl) ?_)
    iterate 2 (all_goals first | (refine st_g1 rfl rfl rfl (by simp (disch := omega) only [stepf,callOf,qop,fop,St.ev,St.put,cd,zd,Value.oneCell',tb_T,TypeDesc.aggB,getD_0,getD_s,Ze,Zd,Zc,Za,Zb,Zr,ZE,ZF,Zf,Zq,Zg,i64_w,Zt,Zs,qBin,iop,Zl,Zo,Zv,Zw,Zj,Zk,Zx,Zy,qLoad,bload,pload,pureAll,D.pure?,ZC,ZD,pvAll,D.pv?,tb_N,tbO_N,tbW_N,tb_O,fBuildSlice,catCells,D.cells?,range_1,range_2,range_3,range_4,range_5,ZG,ZH,ZL,ZM,ZN,sec8_length,Nat.reduceAdd,Nat.reduceMul,tb_W,tbO_W,qBuild,qBuildD,D.cell1,List.all_cons,List.all_nil,bfill,TI.place,TI.zeros,TI.kindOk,zp,Value.cells,ZQ,ZP,t1,ti1,t2,ti2,t3,ti3,t4,ti4,t5,ti5,t22,ti22,t24,ti24,t26,ti26,t27,ti27,t35,ti35,t40,ti40,t50,ti50,t58,ti58,t60,ti60,t63,ti63,t87,ti87,t88,ti88,t90,ti90,t101,ti101,t115,ti115,t117,ti117,t118,ti118,Int.reduceToNat,Nat.reduceSub,Nat.reduceLeDiff] <;> exact rfl) ?_) | (first | (refine st_g0 rfl rfl rfl (by simp only [St.put,Za,Zb] <;> exact rfl) ?_) | (refine st_gu rfl rfl rfl (by simp only [St.put,Za,Zb] <;> exact rfl) ?_)) | (refine st_split rfl rfl rfl (by simp only [Za,Zb] <;> exact rfl) (by simp only [Za,Zb] <;> exact rfl) (fun hg => ?_) (fun hg => ?_) <;> (try simp only [Zp,Zi,ZJ,ZK,ne_eq,Zn,Zm,Bool.not_eq_true,Zu] at hg) <;> first | (refine st_g1 rfl rfl rfl (by simp (disch := omega) only [stepf,callOf,qop,fop,St.ev,St.put,cd,zd,Value.oneCell',tb_T,TypeDesc.aggB,getD_0,getD_s,Ze,Zd,Zc,Za,Zb,Zr,ZE,ZF,Zf,Zq,Zg,i64_w,Zt,Zs,qBin,iop,Zl,Zo,Zv,Zw,Zj,Zk,Zx,Zy,qLoad,bload,pload,pureAll,D.pure?,ZC,ZD,pvAll,D.pv?,tb_N,tbO_N,tbW_N,tb_O,fBuildSlice,catCells,D.cells?,range_1,range_2,range_3,range_4,range_5,ZG,ZH,ZL,ZM,ZN,sec8_length,Nat.reduceAdd,Nat.reduceMul,tb_W,tbO_W,qBuild,qBuildD,D.cell1,List.all_cons,List.all_nil,bfill,TI.place,TI.zeros,TI.kindOk,zp,Value.cells,ZQ,ZP,t1,ti1,t2,ti2,t3,ti3,t4,ti4,t5,ti5,t22,ti22,t24,ti24,t26,ti26,t27,ti27,t35,ti35,t40,ti40,t50,ti50,t58,ti58,t60,ti60,t63,ti63,t87,ti87,t88,ti88,t90,ti90,t101,ti101,t115,ti115,t117,ti117,t118,ti118,Int.reduceToNat,Nat.reduceSub,Nat.reduceLeDiff] <;> exact rfl) ?_) | (first | (refine st_g0 rfl rfl rfl (by simp only [St.put,Za,Zb] <;> exact rfl) ?_) | (refine st_gu rfl rfl rfl (by simp only [St.put,Za,Zb] <;> exact rfl) ?_))))
    iterate 2 (refine st_op rfl (by simp (disch := omega) only [stepf,callOf,qop,fop,St.ev,St.put,cd,zd,Value.oneCell',tb_T,TypeDesc.aggB,getD_0,getD_s,Ze,Zd,Zc,Za,Zb,Zr,ZE,ZF,Zf,Zq,Zg,i64_w,Zt,Zs,qBin,iop,Zl,Zo,Zv,Zw,Zj,Zk,Zx,Zy,qLoad,bload,pload,pureAll,D.pure?,ZC,ZD,pvAll,D.pv?,tb_N,tbO_N,tbW_N,tb_O,fBuildSlice,catCells,D.cells?,range_1,range_2,range_3,range_4,range_5,ZG,ZH,ZL,ZM,ZN,sec8_length,Nat.reduceAdd,Nat.reduceMul,tb_W,tbO_W,qBuild,qBuildD,D.cell1,List.all_cons,List.all_nil,bfill,TI.place,TI.zeros,TI.kindOk,zp,Value.cells,ZQ,ZP,t1,ti1,t2,ti2,t3,ti3,t4,ti4,t5,ti5,t22,ti22,t24,ti24,t26,ti26,t27,ti27,t35,ti35,t40,ti40,t50,ti50,t58,ti58,t60,ti60,t63,ti63,t87,ti87,t88,ti88,t90,ti90,t101,ti101,t115,ti115,t117,ti117,t118,ti118,Int.reduceToNat,Nat.reduceSub,Nat.reduceLeDiff] <;> exact rfl) ?_)
    iterate 3 (all_goals first | (refine st_g1 rfl rfl rfl (by simp (disch := omega) only [stepf,callOf,qop,fop,St.ev,St.put,cd,zd,Value.oneCell',tb_T,TypeDesc.aggB,getD_0,getD_s,Ze,Zd,Zc,Za,Zb,Zr,ZE,ZF,Zf,Zq,Zg,i64_w,Zt,Zs,qBin,iop,Zl,Zo,Zv,Zw,Zj,Zk,Zx,Zy,qLoad,bload,pload,pureAll,D.pure?,ZC,ZD,pvAll,D.pv?,tb_N,tbO_N,tbW_N,tb_O,fBuildSlice,catCells,D.cells?,range_1,range_2,range_3,range_4,range_5,ZG,ZH,ZL,ZM,ZN,sec8_length,Nat.reduceAdd,Nat.reduceMul,tb_W,tbO_W,qBuild,qBuildD,D.cell1,List.all_cons,List.all_nil,bfill,TI.place,TI.zeros,TI.kindOk,zp,Value.cells,ZQ,ZP,t1,ti1,t2,ti2,t3,ti3,t4,ti4,t5,ti5,t22,ti22,t24,ti24,t26,ti26,t27,ti27,t35,ti35,t40,ti40,t50,ti50,t58,ti58,t60,ti60,t63,ti63,t87,ti87,t88,ti88,t90,ti90,t101,ti101,t115,ti115,t117,ti117,t118,ti118,Int.reduceToNat,Nat.reduceSub,Nat.reduceLeDiff] <;> exact rfl) ?_) | (first | (refine st_g0 rfl rfl rfl (by simp only [St.put,Za,Zb] <;> exact rfl) ?_) | (refine st_gu rfl rfl rfl (by simp only [St.put,Za,Zb] <;> exact rfl) ?_)) | (refine st_split rfl rfl rfl (by simp only [Za,Zb] <;> exact rfl) (by simp only [Za,Zb] <;> exact rfl) (fun hg => ?_) (fun hg => ?_) <;> (try simp only [Zp,Zi,ZJ,ZK,ne_eq,Zn,Zm,Bool.not_eq_true,Zu] at hg) <;> first | (refine st_g1 rfl rfl rfl (by simp (disch := omega) only [stepf,callOf,qop,fop,St.ev,St.put,cd,zd,Value.oneCell',tb_T,TypeDesc.aggB,getD_0,getD_s,Ze,Zd,Zc,Za,Zb,Zr,ZE,ZF,Zf,Zq,Zg,i64_w,Zt,Zs,qBin,iop,Zl,Zo,Zv,Zw,Zj,Zk,Zx,Zy,qLoad,bload,pload,pureAll,D.pure?,ZC,ZD,pvAll,D.pv?,tb_N,tbO_N,tbW_N,tb_O,fBuildSlice,catCells,D.cells?,range_1,range_2,range_3,range_4,range_5,ZG,ZH,ZL,ZM,ZN,sec8_length,Nat.reduceAdd,Nat.reduceMul,tb_W,tbO_W,qBuild,qBuildD,D.cell1,List.all_cons,List.all_nil,bfill,TI.place,TI.zeros,TI.kindOk,zp,Value.cells,ZQ,ZP,t1,ti1,t2,ti2,t3,ti3,t4,ti4,t5,ti5,t22,ti22,t24,ti24,t26,ti26,t27,ti27,t35,ti35,t40,ti40,t50,ti50,t58,ti58,t60,ti60,t63,ti63,t87,ti87,t88,ti88,t90,ti90,t101,ti101,t115,ti115,t117,ti117,t118,ti118,Int.reduceToNat,Nat.reduceSub,Nat.reduceLeDiff] <;> exact rfl) ?_) | (first | (refine st_g0 rfl rfl rfl (by simp only [St.put,Za,Zb] <;> exact rfl) ?_) | (refine st_gu rfl rfl rfl (by simp only [St.put,Za,Zb] <;> exact rfl) ?_))))
    all_goals first | (refine st_gc rfl rfl rfl (by simp only [callOf,St.ev,getD_0,getD_s,pvAll,D.pv?,ZG,ZH,zd,cd,Value.oneCell',Zr] <;> exact rfl) (acK hP (c63 _ _)) (by simp only [St.put,Za,Zb] <;> exact rfl) ?_) | (first | (refine st_g0 rfl rfl rfl (by simp only [St.put,Za,Zb] <;> exact rfl) ?_) | (refine st_gu rfl rfl rfl (by simp only [St.put,Za,Zb] <;> exact rfl) ?_)) | (refine st_split rfl rfl rfl (by simp only [Za,Zb] <;> exact rfl) (by simp only [Za,Zb] <;> exact rfl) (fun hg => ?_) (fun hg => ?_) <;> (try simp only [Zp,Zi,ZJ,ZK,ne_eq,Zn,Zm,Bool.not_eq_true,Zu] at hg) <;> first | (refine st_gc rfl rfl rfl (by simp only [callOf,St.ev,getD_0,getD_s,pvAll,D.pv?,ZG,ZH,zd,cd,Value.oneCell',Zr] <;> exact rfl) (acK hP (c63 _ _)) (by simp only [St.put,Za,Zb] <;> exact rfl) ?_) | (first | (refine st_g0 rfl rfl rfl (by simp only [St.put,Za,Zb] <;> exact rfl) ?_) | (refine st_gu rfl rfl rfl (by simp only [St.put,Za,Zb] <;> exact rfl) ?_)))
    (all_goals first | (refine st_g1 rfl rfl rfl (by simp (disch := omega) only [stepf,callOf,qop,fop,St.ev,St.put,cd,zd,Value.oneCell',tb_T,TypeDesc.aggB,getD_0,getD_s,Ze,Zd,Zc,Za,Zb,Zr,ZE,ZF,Zf,Zq,Zg,i64_w,Zt,Zs,qBin,iop,Zl,Zo,Zv,Zw,Zj,Zk,Zx,Zy,qLoad,bload,pload,pureAll,D.pure?,ZC,ZD,pvAll,D.pv?,tb_N,tbO_N,tbW_N,tb_O,fBuildSlice,catCells,D.cells?,range_1,range_2,range_3,range_4,range_5,ZG,ZH,ZL,ZM,ZN,sec8_length,Nat.reduceAdd,Nat.reduceMul,tb_W,tbO_W,qBuild,qBuildD,D.cell1,List.all_cons,List.all_nil,bfill,TI.place,TI.zeros,TI.kindOk,zp,Value.cells,ZQ,ZP,t1,ti1,t2,ti2,t3,ti3,t4,ti4,t5,ti5,t22,ti22,t24,ti24,t26,ti26,t27,ti27,t35,ti35,t40,ti40,t50,ti50,t58,ti58,t60,ti60,t63,ti63,t87,ti87,t88,ti88,t90,ti90,t101,ti101,t115,ti115,t117,ti117,t118,ti118,Int.reduceToNat,Nat.reduceSub,Nat.reduceLeDiff] <;> exact rfl) ?_) | (first | (refine st_g0 rfl rfl rfl (by simp only [St.put,Za,Zb] <;> exact rfl) ?_) | (refine st_gu rfl rfl rfl (by simp only [St.put,Za,Zb] <;> exact rfl) ?_)) | (refine st_split rfl rfl rfl (by simp only [Za,Zb] <;> exact rfl) (by simp only [Za,Zb] <;> exact rfl) (fun hg => ?_) (fun hg => ?_) <;> (try simp only [Zp,Zi,ZJ,ZK,ne_eq,Zn,Zm,Bool.not_eq_true,Zu] at hg) <;> first | (refine st_g1 rfl rfl rfl (by simp (disch := omega) only [stepf,callOf,qop,fop,St.ev,St.put,cd,zd,Value.oneCell',tb_T,TypeDesc.aggB,getD_0,getD_s,Ze,Zd,Zc,Za,Zb,Zr,ZE,ZF,Zf,Zq,Zg,i64_w,Zt,Zs,qBin,iop,Zl,Zo,Zv,Zw,Zj,Zk,Zx,Zy,qLoad,bload,pload,pureAll,D.pure?,ZC,ZD,pvAll,D.pv?,tb_N,tbO_N,tbW_N,tb_O,fBuildSlice,catCells,D.cells?,range_1,range_2,range_3,range_4,range_5,ZG,ZH,ZL,ZM,ZN,sec8_length,Nat.reduceAdd,Nat.reduceMul,tb_W,tbO_W,qBuild,qBuildD,D.cell1,List.all_cons,List.all_nil,bfill,TI.place,TI.zeros,TI.kindOk,zp,Value.cells,ZQ,ZP,t1,ti1,t2,ti2,t3,ti3,t4,ti4,t5,ti5,t22,ti22,t24,ti24,t26,ti26,t27,ti27,t35,ti35,t40,ti40,t50,ti50,t58,ti58,t60,ti60,t63,ti63,t87,ti87,t88,ti88,t90,ti90,t101,ti101,t115,ti115,t117,ti117,t118,ti118,Int.reduceToNat,Nat.reduceSub,Nat.reduceLeDiff] <;> exact rfl) ?_) | (first | (refine st_g0 rfl rfl rfl (by simp only [St.put,Za,Zb] <;> exact rfl) ?_) | (refine st_gu rfl rfl rfl (by simp only [St.put,Za,Zb] <;> exact rfl) ?_))))
    all_goals first | (refine st_gc rfl rfl rfl (by simp only [callOf,St.ev,getD_0,getD_s,pvAll,D.pv?,ZG,ZH,zd,cd,Value.oneCell',Zr] <;> exact rfl) (acK hP (k40 _)) (by simp only [St.put,Za,Zb] <;> exact rfl) ?_) | (first | (refine st_g0 rfl rfl rfl (by simp only [St.put,Za,Zb] <;> exact rfl) ?_) | (refine st_gu rfl rfl rfl (by simp only [St.put,Za,Zb] <;> exact rfl) ?_)) | (refine st_split rfl rfl rfl (by simp only [Za,Zb] <;> exact rfl) (by simp only [Za,Zb] <;> exact rfl) (fun hg => ?_) (fun hg => ?_) <;> (try simp only [Zp,Zi,ZJ,ZK,ne_eq,Zn,Zm,Bool.not_eq_true,Zu] at hg) <;> first | (refine st_gc rfl rfl rfl (by simp only [callOf,St.ev,getD_0,getD_s,pvAll,D.pv?,ZG,ZH,zd,cd,Value.oneCell',Zr] <;> exact rfl) (acK hP (k40 _)) (by simp only [St.put,Za,Zb] <;> exact rfl) ?_) | (first | (refine st_g0 rfl rfl rfl (by simp only [St.put,Za,Zb] <;> exact rfl) ?_) | (refine st_gu rfl rfl rfl (by simp only [St.put,Za,Zb] <;> exact rfl) ?_)))
    iterate 2 (refine st_op rfl (by simp (disch := omega) only [stepf,callOf,qop,fop,St.ev,St.put,cd,zd,Value.oneCell',tb_T,TypeDesc.aggB,getD_0,getD_s,Ze,Zd,Zc,Za,Zb,Zr,ZE,ZF,Zf,Zq,Zg,i64_w,Zt,Zs,qBin,iop,Zl,Zo,Zv,Zw,Zj,Zk,Zx,Zy,qLoad,bload,pload,pureAll,D.pure?,ZC,ZD,pvAll,D.pv?,tb_N,tbO_N,tbW_N,tb_O,fBuildSlice,catCells,D.cells?,range_1,range_2,range_3,range_4,range_5,ZG,ZH,ZL,ZM,ZN,sec8_length,Nat.reduceAdd,Nat.reduceMul,tb_W,tbO_W,qBuild,qBuildD,D.cell1,List.all_cons,List.all_nil,bfill,TI.place,TI.zeros,TI.kindOk,zp,Value.cells,ZQ,ZP,t1,ti1,t2,ti2,t3,ti3,t4,ti4,t5,ti5,t22,ti22,t24,ti24,t26,ti26,t27,ti27,t35,ti35,t40,ti40,t50,ti50,t58,ti58,t60,ti60,t63,ti63,t87,ti87,t88,ti88,t90,ti90,t101,ti101,t115,ti115,t117,ti117,t118,ti118,Int.reduceToNat,Nat.reduceSub,Nat.reduceLeDiff] <;> exact rfl) ?_)
    iterate 2 (all_goals first | (refine st_g1 rfl rfl rfl (by simp (disch := omega) only [stepf,callOf,qop,fop,St.ev,St.put,cd,zd,Value.oneCell',tb_T,TypeDesc.aggB,getD_0,getD_s,Ze,Zd,Zc,Za,Zb,Zr,ZE,ZF,Zf,Zq,Zg,i64_w,Zt,Zs,qBin,iop,Zl,Zo,Zv,Zw,Zj,Zk,Zx,Zy,qLoad,bload,pload,pureAll,D.pure?,ZC,ZD,pvAll,D.pv?,tb_N,tbO_N,tbW_N,tb_O,fBuildSlice,catCells,D.cells?,range_1,range_2,range_3,range_4,range_5,ZG,ZH,ZL,ZM,ZN,sec8_length,Nat.reduceAdd,Nat.reduceMul,tb_W,tbO_W,qBuild,qBuildD,D.cell1,List.all_cons,List.all_nil,bfill,TI.place,TI.zeros,TI.kindOk,zp,Value.cells,ZQ,ZP,t1,ti1,t2,ti2,t3,ti3,t4,ti4,t5,ti5,t22,ti22,t24,ti24,t26,ti26,t27,ti27,t35,ti35,t40,ti40,t50,ti50,t58,ti58,t60,ti60,t63,ti63,t87,ti87,t88,ti88,t90,ti90,t101,ti101,t115,ti115,t117,ti117,t118,ti118,Int.reduceToNat,Nat.reduceSub,Nat.reduceLeDiff] <;> exact rfl) ?_) | (first | (refine st_g0 rfl rfl rfl (by simp only [St.put,Za,Zb] <;> exact rfl) ?_) | (refine st_gu rfl rfl rfl (by simp only [St.put,Za,Zb] <;> exact rfl) ?_)) | (refine st_split rfl rfl rfl (by simp only [Za,Zb] <;> exact rfl) (by simp only [Za,Zb] <;> exact rfl) (fun hg => ?_) (fun hg => ?_) <;> (try simp only [Zp,Zi,ZJ,ZK,ne_eq,Zn,Zm,Bool.not_eq_true,Zu] at hg) <;> first | (refine st_g1 rfl rfl rfl (by simp (disch := omega) only [stepf,callOf,qop,fop,St.ev,St.put,cd,zd,Value.oneCell',tb_T,TypeDesc.aggB,getD_0,getD_s,Ze,Zd,Zc,Za,Zb,Zr,ZE,ZF,Zf,Zq,Zg,i64_w,Zt,Zs,qBin,iop,Zl,Zo,Zv,Zw,Zj,Zk,Zx,Zy,qLoad,bload,pload,pureAll,D.pure?,ZC,ZD,pvAll,D.pv?,tb_N,tbO_N,tbW_N,tb_O,fBuildSlice,catCells,D.cells?,range_1,range_2,range_3,range_4,range_5,ZG,ZH,ZL,ZM,ZN,sec8_length,Nat.reduceAdd,Nat.reduceMul,tb_W,tbO_W,qBuild,qBuildD,D.cell1,List.all_cons,List.all_nil,bfill,TI.place,TI.zeros,TI.kindOk,zp,Value.cells,ZQ,ZP,t1,ti1,t2,ti2,t3,ti3,t4,ti4,t5,ti5,t22,ti22,t24,ti24,t26,ti26,t27,ti27,t35,ti35,t40,ti40,t50,ti50,t58,ti58,t60,ti60,t63,ti63,t87,ti87,t88,ti88,t90,ti90,t101,ti101,t115,ti115,t117,ti117,t118,ti118,Int.reduceToNat,Nat.reduceSub,Nat.reduceLeDiff] <;> exact rfl) ?_) | (first | (refine st_g0 rfl rfl rfl (by simp only [St.put,Za,Zb] <;> exact rfl) ?_) | (refine st_gu rfl rfl rfl (by simp only [St.put,Za,Zb] <;> exact rfl) ?_))))
    iterate 2 (refine st_op rfl (by simp (disch := omega) only [stepf,callOf,qop,fop,St.ev,St.put,cd,zd,Value.oneCell',tb_T,TypeDesc.aggB,getD_0,getD_s,Ze,Zd,Zc,Za,Zb,Zr,ZE,ZF,Zf,Zq,Zg,i64_w,Zt,Zs,qBin,iop,Zl,Zo,Zv,Zw,Zj,Zk,Zx,Zy,qLoad,bload,pload,pureAll,D.pure?,ZC,ZD,pvAll,D.pv?,tb_N,tbO_N,tbW_N,tb_O,fBuildSlice,catCells,D.cells?,range_1,range_2,range_3,range_4,range_5,ZG,ZH,ZL,ZM,ZN,sec8_length,Nat.reduceAdd,Nat.reduceMul,tb_W,tbO_W,qBuild,qBuildD,D.cell1,List.all_cons,List.all_nil,bfill,TI.place,TI.zeros,TI.kindOk,zp,Value.cells,ZQ,ZP,t1,ti1,t2,ti2,t3,ti3,t4,ti4,t5,ti5,t22,ti22,t24,ti24,t26,ti26,t27,ti27,t35,ti35,t40,ti40,t50,ti50,t58,ti58,t60,ti60,t63,ti63,t87,ti87,t88,ti88,t90,ti90,t101,ti101,t115,ti115,t117,ti117,t118,ti118,Int.reduceToNat,Nat.reduceSub,Nat.reduceLeDiff] <;> exact rfl) ?_)
    iterate 4 (all_goals first | (refine st_g1 rfl rfl rfl (by simp (disch := omega) only [stepf,callOf,qop,fop,St.ev,St.put,cd,zd,Value.oneCell',tb_T,TypeDesc.aggB,getD_0,getD_s,Ze,Zd,Zc,Za,Zb,Zr,ZE,ZF,Zf,Zq,Zg,i64_w,Zt,Zs,qBin,iop,Zl,Zo,Zv,Zw,Zj,Zk,Zx,Zy,qLoad,bload,pload,pureAll,D.pure?,ZC,ZD,pvAll,D.pv?,tb_N,tbO_N,tbW_N,tb_O,fBuildSlice,catCells,D.cells?,range_1,range_2,range_3,range_4,range_5,ZG,ZH,ZL,ZM,ZN,sec8_length,Nat.reduceAdd,Nat.reduceMul,tb_W,tbO_W,qBuild,qBuildD,D.cell1,List.all_cons,List.all_nil,bfill,TI.place,TI.zeros,TI.kindOk,zp,Value.cells,ZQ,ZP,t1,ti1,t2,ti2,t3,ti3,t4,ti4,t5,ti5,t22,ti22,t24,ti24,t26,ti26,t27,ti27,t35,ti35,t40,ti40,t50,ti50,t58,ti58,t60,ti60,t63,ti63,t87,ti87,t88,ti88,t90,ti90,t101,ti101,t115,ti115,t117,ti117,t118,ti118,Int.reduceToNat,Nat.reduceSub,Nat.reduceLeDiff] <;> exact rfl) ?_) | (first | (refine st_g0 rfl rfl rfl (by simp only [St.put,Za,Zb] <;> exact rfl) ?_) | (refine st_gu rfl rfl rfl (by simp only [St.put,Za,Zb] <;> exact rfl) ?_)) | (refine st_split rfl rfl rfl (by simp only [Za,Zb] <;> exact rfl) (by simp only [Za,Zb] <;> exact rfl) (fun hg => ?_) (fun hg => ?_) <;> (try simp only [Zp,Zi,ZJ,ZK,ne_eq,Zn,Zm,Bool.not_eq_true,Zu] at hg) <;> first | (refine st_g1 rfl rfl rfl (by simp (disch := omega) only [stepf,callOf,qop,fop,St.ev,St.put,cd,zd,Value.oneCell',tb_T,TypeDesc.aggB,getD_0,getD_s,Ze,Zd,Zc,Za,Zb,Zr,ZE,ZF,Zf,Zq,Zg,i64_w,Zt,Zs,qBin,iop,Zl,Zo,Zv,Zw,Zj,Zk,Zx,Zy,qLoad,bload,pload,pureAll,D.pure?,ZC,ZD,pvAll,D.pv?,tb_N,tbO_N,tbW_N,tb_O,fBuildSlice,catCells,D.cells?,range_1,range_2,range_3,range_4,range_5,ZG,ZH,ZL,ZM,ZN,sec8_length,Nat.reduceAdd,Nat.reduceMul,tb_W,tbO_W,qBuild,qBuildD,D.cell1,List.all_cons,List.all_nil,bfill,TI.place,TI.zeros,TI.kindOk,zp,Value.cells,ZQ,ZP,t1,ti1,t2,ti2,t3,ti3,t4,ti4,t5,ti5,t22,ti22,t24,ti24,t26,ti26,t27,ti27,t35,ti35,t40,ti40,t50,ti50,t58,ti58,t60,ti60,t63,ti63,t87,ti87,t88,ti88,t90,ti90,t101,ti101,t115,ti115,t117,ti117,t118,ti118,Int.reduceToNat,Nat.reduceSub,Nat.reduceLeDiff] <;> exact rfl) ?_) | (first | (refine st_g0 rfl rfl rfl (by simp only [St.put,Za,Zb] <;> exact rfl) ?_) | (refine st_gu rfl rfl rfl (by simp only [St.put,Za,Zb] <;> exact rfl) ?_))))
    all_goals first | (refine st_gc rfl rfl rfl (by simp only [callOf,St.ev,getD_0,getD_s,pvAll,D.pv?,ZG,ZH,zd,cd,Value.oneCell',Zr] <;> exact rfl) (acK hP (k40 _)) (by simp only [St.put,Za,Zb] <;> exact rfl) ?_) | (first | (refine st_g0 rfl rfl rfl (by simp only [St.put,Za,Zb] <;> exact rfl) ?_) | (refine st_gu rfl rfl rfl (by simp only [St.put,Za,Zb] <;> exact rfl) ?_)) | (refine st_split rfl rfl rfl (by simp only [Za,Zb] <;> exact rfl) (by simp only [Za,Zb] <;> exact rfl) (fun hg => ?_) (fun hg => ?_) <;> (try simp only [Zp,Zi,ZJ,ZK,ne_eq,Zn,Zm,Bool.not_eq_true,Zu] at hg) <;> first | (refine st_gc rfl rfl rfl (by simp only [callOf,St.ev,getD_0,getD_s,pvAll,D.pv?,ZG,ZH,zd,cd,Value.oneCell',Zr] <;> exact rfl) (acK hP (k40 _)) (by simp only [St.put,Za,Zb] <;> exact rfl) ?_) | (first | (refine st_g0 rfl rfl rfl (by simp only [St.put,Za,Zb] <;> exact rfl) ?_) | (refine st_gu rfl rfl rfl (by simp only [St.put,Za,Zb] <;> exact rfl) ?_)))
    iterate 2 (refine st_op rfl (by simp (disch := omega) only [stepf,callOf,qop,fop,St.ev,St.put,cd,zd,Value.oneCell',tb_T,TypeDesc.aggB,getD_0,getD_s,Ze,Zd,Zc,Za,Zb,Zr,ZE,ZF,Zf,Zq,Zg,i64_w,Zt,Zs,qBin,iop,Zl,Zo,Zv,Zw,Zj,Zk,Zx,Zy,qLoad,bload,pload,pureAll,D.pure?,ZC,ZD,pvAll,D.pv?,tb_N,tbO_N,tbW_N,tb_O,fBuildSlice,catCells,D.cells?,range_1,range_2,range_3,range_4,range_5,ZG,ZH,ZL,ZM,ZN,sec8_length,Nat.reduceAdd,Nat.reduceMul,tb_W,tbO_W,qBuild,qBuildD,D.cell1,List.all_cons,List.all_nil,bfill,TI.place,TI.zeros,TI.kindOk,zp,Value.cells,ZQ,ZP,t1,ti1,t2,ti2,t3,ti3,t4,ti4,t5,ti5,t22,ti22,t24,ti24,t26,ti26,t27,ti27,t35,ti35,t40,ti40,t50,ti50,t58,ti58,t60,ti60,t63,ti63,t87,ti87,t88,ti88,t90,ti90,t101,ti101,t115,ti115,t117,ti117,t118,ti118,Int.reduceToNat,Nat.reduceSub,Nat.reduceLeDiff] <;> exact rfl) ?_)
    iterate 2 (all_goals first | (refine st_g1 rfl rfl rfl (by simp (disch := omega) only [stepf,callOf,qop,fop,St.ev,St.put,cd,zd,Value.oneCell',tb_T,TypeDesc.aggB,getD_0,getD_s,Ze,Zd,Zc,Za,Zb,Zr,ZE,ZF,Zf,Zq,Zg,i64_w,Zt,Zs,qBin,iop,Zl,Zo,Zv,Zw,Zj,Zk,Zx,Zy,qLoad,bload,pload,pureAll,D.pure?,ZC,ZD,pvAll,D.pv?,tb_N,tbO_N,tbW_N,tb_O,fBuildSlice,catCells,D.cells?,range_1,range_2,range_3,range_4,range_5,ZG,ZH,ZL,ZM,ZN,sec8_length,Nat.reduceAdd,Nat.reduceMul,tb_W,tbO_W,qBuild,qBuildD,D.cell1,List.all_cons,List.all_nil,bfill,TI.place,TI.zeros,TI.kindOk,zp,Value.cells,ZQ,ZP,t1,ti1,t2,ti2,t3,ti3,t4,ti4,t5,ti5,t22,ti22,t24,ti24,t26,ti26,t27,ti27,t35,ti35,t40,ti40,t50,ti50,t58,ti58,t60,ti60,t63,ti63,t87,ti87,t88,ti88,t90,ti90,t101,ti101,t115,ti115,t117,ti117,t118,ti118,Int.reduceToNat,Nat.reduceSub,Nat.reduceLeDiff] <;> exact rfl) ?_) | (first | (refine st_g0 rfl rfl rfl (by simp only [St.put,Za,Zb] <;> exact rfl) ?_) | (refine st_gu rfl rfl rfl (by simp only [St.put,Za,Zb] <;> exact rfl) ?_)) | (refine st_split rfl rfl rfl (by simp only [Za,Zb] <;> exact rfl) (by simp only [Za,Zb] <;> exact rfl) (fun hg => ?_) (fun hg => ?_) <;> (try simp only [Zp,Zi,ZJ,ZK,ne_eq,Zn,Zm,Bool.not_eq_true,Zu] at hg) <;> first | (refine st_g1 rfl rfl rfl (by simp (disch := omega) only [stepf,callOf,qop,fop,St.ev,St.put,cd,zd,Value.oneCell',tb_T,TypeDesc.aggB,getD_0,getD_s,Ze,Zd,Zc,Za,Zb,Zr,ZE,ZF,Zf,Zq,Zg,i64_w,Zt,Zs,qBin,iop,Zl,Zo,Zv,Zw,Zj,Zk,Zx,Zy,qLoad,bload,pload,pureAll,D.pure?,ZC,ZD,pvAll,D.pv?,tb_N,tbO_N,tbW_N,tb_O,fBuildSlice,catCells,D.cells?,range_1,range_2,range_3,range_4,range_5,ZG,ZH,ZL,ZM,ZN,sec8_length,Nat.reduceAdd,Nat.reduceMul,tb_W,tbO_W,qBuild,qBuildD,D.cell1,List.all_cons,List.all_nil,bfill,TI.place,TI.zeros,TI.kindOk,zp,Value.cells,ZQ,ZP,t1,ti1,t2,ti2,t3,ti3,t4,ti4,t5,ti5,t22,ti22,t24,ti24,t26,ti26,t27,ti27,t35,ti35,t40,ti40,t50,ti50,t58,ti58,t60,ti60,t63,ti63,t87,ti87,t88,ti88,t90,ti90,t101,ti101,t115,ti115,t117,ti117,t118,ti118,Int.reduceToNat,Nat.reduceSub,Nat.reduceLeDiff] <;> exact rfl) ?_) | (first | (refine st_g0 rfl rfl rfl (by simp only [St.put,Za,Zb] <;> exact rfl) ?_) | (refine st_gu rfl rfl rfl (by simp only [St.put,Za,Zb] <;> exact rfl) ?_))))
    iterate 2 (refine st_op rfl (by simp (disch := omega) only [stepf,callOf,qop,fop,St.ev,St.put,cd,zd,Value.oneCell',tb_T,TypeDesc.aggB,getD_0,getD_s,Ze,Zd,Zc,Za,Zb,Zr,ZE,ZF,Zf,Zq,Zg,i64_w,Zt,Zs,qBin,iop,Zl,Zo,Zv,Zw,Zj,Zk,Zx,Zy,qLoad,bload,pload,pureAll,D.pure?,ZC,ZD,pvAll,D.pv?,tb_N,tbO_N,tbW_N,tb_O,fBuildSlice,catCells,D.cells?,range_1,range_2,range_3,range_4,range_5,ZG,ZH,ZL,ZM,ZN,sec8_length,Nat.reduceAdd,Nat.reduceMul,tb_W,tbO_W,qBuild,qBuildD,D.cell1,List.all_cons,List.all_nil,bfill,TI.place,TI.zeros,TI.kindOk,zp,Value.cells,ZQ,ZP,t1,ti1,t2,ti2,t3,ti3,t4,ti4,t5,ti5,t22,ti22,t24,ti24,t26,ti26,t27,ti27,t35,ti35,t40,ti40,t50,ti50,t58,ti58,t60,ti60,t63,ti63,t87,ti87,t88,ti88,t90,ti90,t101,ti101,t115,ti115,t117,ti117,t118,ti118,Int.reduceToNat,Nat.reduceSub,Nat.reduceLeDiff] <;> exact rfl) ?_)
    iterate 2 (all_goals first | (refine st_g1 rfl rfl rfl (by simp (disch := omega) only [stepf,callOf,qop,fop,St.ev,St.put,cd,zd,Value.oneCell',tb_T,TypeDesc.aggB,getD_0,getD_s,Ze,Zd,Zc,Za,Zb,Zr,ZE,ZF,Zf,Zq,Zg,i64_w,Zt,Zs,qBin,iop,Zl,Zo,Zv,Zw,Zj,Zk,Zx,Zy,qLoad,bload,pload,pureAll,D.pure?,ZC,ZD,pvAll,D.pv?,tb_N,tbO_N,tbW_N,tb_O,fBuildSlice,catCells,D.cells?,range_1,range_2,range_3,range_4,range_5,ZG,ZH,ZL,ZM,ZN,sec8_length,Nat.reduceAdd,Nat.reduceMul,tb_W,tbO_W,qBuild,qBuildD,D.cell1,List.all_cons,List.all_nil,bfill,TI.place,TI.zeros,TI.kindOk,zp,Value.cells,ZQ,ZP,t1,ti1,t2,ti2,t3,ti3,t4,ti4,t5,ti5,t22,ti22,t24,ti24,t26,ti26,t27,ti27,t35,ti35,t40,ti40,t50,ti50,t58,ti58,t60,ti60,t63,ti63,t87,ti87,t88,ti88,t90,ti90,t101,ti101,t115,ti115,t117,ti117,t118,ti118,Int.reduceToNat,Nat.reduceSub,Nat.reduceLeDiff] <;> exact rfl) ?_) | (first | (refine st_g0 rfl rfl rfl (by simp only [St.put,Za,Zb] <;> exact rfl) ?_) | (refine st_gu rfl rfl rfl (by simp only [St.put,Za,Zb] <;> exact rfl) ?_)) | (refine st_split rfl rfl rfl (by simp only [Za,Zb] <;> exact rfl) (by simp only [Za,Zb] <;> exact rfl) (fun hg => ?_) (fun hg => ?_) <;> (try simp only [Zp,Zi,ZJ,ZK,ne_eq,Zn,Zm,Bool.not_eq_true,Zu] at hg) <;> first | (refine st_g1 rfl rfl rfl (by simp (disch := omega) only [stepf,callOf,qop,fop,St.ev,St.put,cd,zd,Value.oneCell',tb_T,TypeDesc.aggB,getD_0,getD_s,Ze,Zd,Zc,Za,Zb,Zr,ZE,ZF,Zf,Zq,Zg,i64_w,Zt,Zs,qBin,iop,Zl,Zo,Zv,Zw,Zj,Zk,Zx,Zy,qLoad,bload,pload,pureAll,D.pure?,ZC,ZD,pvAll,D.pv?,tb_N,tbO_N,tbW_N,tb_O,fBuildSlice,catCells,D.cells?,range_1,range_2,range_3,range_4,range_5,ZG,ZH,ZL,ZM,ZN,sec8_length,Nat.reduceAdd,Nat.reduceMul,tb_W,tbO_W,qBuild,qBuildD,D.cell1,List.all_cons,List.all_nil,bfill,TI.place,TI.zeros,TI.kindOk,zp,Value.cells,ZQ,ZP,t1,ti1,t2,ti2,t3,ti3,t4,ti4,t5,ti5,t22,ti22,t24,ti24,t26,ti26,t27,ti27,t35,ti35,t40,ti40,t50,ti50,t58,ti58,t60,ti60,t63,ti63,t87,ti87,t88,ti88,t90,ti90,t101,ti101,t115,ti115,t117,ti117,t118,ti118,Int.reduceToNat,Nat.reduceSub,Nat.reduceLeDiff] <;> exact rfl) ?_) | (first | (refine st_g0 rfl rfl rfl (by simp only [St.put,Za,Zb] <;> exact rfl) ?_) | (refine st_gu rfl rfl rfl (by simp only [St.put,Za,Zb] <;> exact rfl) ?_))))
    iterate 2 (refine st_op rfl (by simp (disch := omega) only [stepf,callOf,qop,fop,St.ev,St.put,cd,zd,Value.oneCell',tb_T,TypeDesc.aggB,getD_0,getD_s,Ze,Zd,Zc,Za,Zb,Zr,ZE,ZF,Zf,Zq,Zg,i64_w,Zt,Zs,qBin,iop,Zl,Zo,Zv,Zw,Zj,Zk,Zx,Zy,qLoad,bload,pload,pureAll,D.pure?,ZC,ZD,pvAll,D.pv?,tb_N,tbO_N,tbW_N,tb_O,fBuildSlice,catCells,D.cells?,range_1,range_2,range_3,range_4,range_5,ZG,ZH,ZL,ZM,ZN,sec8_length,Nat.reduceAdd,Nat.reduceMul,tb_W,tbO_W,qBuild,qBuildD,D.cell1,List.all_cons,List.all_nil,bfill,TI.place,TI.zeros,TI.kindOk,zp,Value.cells,ZQ,ZP,t1,ti1,t2,ti2,t3,ti3,t4,ti4,t5,ti5,t22,ti22,t24,ti24,t26,ti26,t27,ti27,t35,ti35,t40,ti40,t50,ti50,t58,ti58,t60,ti60,t63,ti63,t87,ti87,t88,ti88,t90,ti90,t101,ti101,t115,ti115,t117,ti117,t118,ti118,Int.reduceToNat,Nat.reduceSub,Nat.reduceLeDiff] <;> exact rfl) ?_)
    iterate 3 (all_goals first | (refine st_g1 rfl rfl rfl (by simp (disch := omega) only [stepf,callOf,qop,fop,St.ev,St.put,cd,zd,Value.oneCell',tb_T,TypeDesc.aggB,getD_0,getD_s,Ze,Zd,Zc,Za,Zb,Zr,ZE,ZF,Zf,Zq,Zg,i64_w,Zt,Zs,qBin,iop,Zl,Zo,Zv,Zw,Zj,Zk,Zx,Zy,qLoad,bload,pload,pureAll,D.pure?,ZC,ZD,pvAll,D.pv?,tb_N,tbO_N,tbW_N,tb_O,fBuildSlice,catCells,D.cells?,range_1,range_2,range_3,range_4,range_5,ZG,ZH,ZL,ZM,ZN,sec8_length,Nat.reduceAdd,Nat.reduceMul,tb_W,tbO_W,qBuild,qBuildD,D.cell1,List.all_cons,List.all_nil,bfill,TI.place,TI.zeros,TI.kindOk,zp,Value.cells,ZQ,ZP,t1,ti1,t2,ti2,t3,ti3,t4,ti4,t5,ti5,t22,ti22,t24,ti24,t26,ti26,t27,ti27,t35,ti35,t40,ti40,t50,ti50,t58,ti58,t60,ti60,t63,ti63,t87,ti87,t88,ti88,t90,ti90,t101,ti101,t115,ti115,t117,ti117,t118,ti118,Int.reduceToNat,Nat.reduceSub,Nat.reduceLeDiff] <;> exact rfl) ?_) | (first | (refine st_g0 rfl rfl rfl (by simp only [St.put,Za,Zb] <;> exact rfl) ?_) | (refine st_gu rfl rfl rfl (by simp only [St.put,Za,Zb] <;> exact rfl) ?_)) | (refine st_split rfl rfl rfl (by simp only [Za,Zb] <;> exact rfl) (by simp only [Za,Zb] <;> exact rfl) (fun hg => ?_) (fun hg => ?_) <;> (try simp only [Zp,Zi,ZJ,ZK,ne_eq,Zn,Zm,Bool.not_eq_true,Zu] at hg) <;> first | (refine st_g1 rfl rfl rfl (by simp (disch := omega) only [stepf,callOf,qop,fop,St.ev,St.put,cd,zd,Value.oneCell',tb_T,TypeDesc.aggB,getD_0,getD_s,Ze,Zd,Zc,Za,Zb,Zr,ZE,ZF,Zf,Zq,Zg,i64_w,Zt,Zs,qBin,iop,Zl,Zo,Zv,Zw,Zj,Zk,Zx,Zy,qLoad,bload,pload,pureAll,D.pure?,ZC,ZD,pvAll,D.pv?,tb_N,tbO_N,tbW_N,tb_O,fBuildSlice,catCells,D.cells?,range_1,range_2,range_3,range_4,range_5,ZG,ZH,ZL,ZM,ZN,sec8_length,Nat.reduceAdd,Nat.reduceMul,tb_W,tbO_W,qBuild,qBuildD,D.cell1,List.all_cons,List.all_nil,bfill,TI.place,TI.zeros,TI.kindOk,zp,Value.cells,ZQ,ZP,t1,ti1,t2,ti2,t3,ti3,t4,ti4,t5,ti5,t22,ti22,t24,ti24,t26,ti26,t27,ti27,t35,ti35,t40,ti40,t50,ti50,t58,ti58,t60,ti60,t63,ti63,t87,ti87,t88,ti88,t90,ti90,t101,ti101,t115,ti115,t117,ti117,t118,ti118,Int.reduceToNat,Nat.reduceSub,Nat.reduceLeDiff] <;> exact rfl) ?_) | (first | (refine st_g0 rfl rfl rfl (by simp only [St.put,Za,Zb] <;> exact rfl) ?_) | (refine st_gu rfl rfl rfl (by simp only [St.put,Za,Zb] <;> exact rfl) ?_))))
    all_goals first | (refine st_gc rfl rfl rfl (by simp only [callOf,St.ev,getD_0,getD_s,pvAll,D.pv?,ZG,ZH,zd,cd,Value.oneCell',Zr] <;> exact rfl) (acK hP (k29)) (by simp only [St.put,Za,Zb] <;> exact rfl) ?_) | (first | (refine st_g0 rfl rfl rfl (by simp only [St.put,Za,Zb] <;> exact rfl) ?_) | (refine st_gu rfl rfl rfl (by simp only [St.put,Za,Zb] <;> exact rfl) ?_)) | (refine st_split rfl rfl rfl (by simp only [Za,Zb] <;> exact rfl) (by simp only [Za,Zb] <;> exact rfl) (fun hg => ?_) (fun hg => ?_) <;> (try simp only [Zp,Zi,ZJ,ZK,ne_eq,Zn,Zm,Bool.not_eq_true,Zu] at hg) <;> first | (refine st_gc rfl rfl rfl (by simp only [callOf,St.ev,getD_0,getD_s,pvAll,D.pv?,ZG,ZH,zd,cd,Value.oneCell',Zr] <;> exact rfl) (acK hP (k29)) (by simp only [St.put,Za,Zb] <;> exact rfl) ?_) | (first | (refine st_g0 rfl rfl rfl (by simp only [St.put,Za,Zb] <;> exact rfl) ?_) | (refine st_gu rfl rfl rfl (by simp only [St.put,Za,Zb] <;> exact rfl) ?_)))
    iterate 2 (refine st_op rfl (by simp (disch := omega) only [stepf,callOf,qop,fop,St.ev,St.put,cd,zd,Value.oneCell',tb_T,TypeDesc.aggB,getD_0,getD_s,Ze,Zd,Zc,Za,Zb,Zr,ZE,ZF,Zf,Zq,Zg,i64_w,Zt,Zs,qBin,iop,Zl,Zo,Zv,Zw,Zj,Zk,Zx,Zy,qLoad,bload,pload,pureAll,D.pure?,ZC,ZD,pvAll,D.pv?,tb_N,tbO_N,tbW_N,tb_O,fBuildSlice,catCells,D.cells?,range_1,range_2,range_3,range_4,range_5,ZG,ZH,ZL,ZM,ZN,sec8_length,Nat.reduceAdd,Nat.reduceMul,tb_W,tbO_W,qBuild,qBuildD,D.cell1,List.all_cons,List.all_nil,bfill,TI.place,TI.zeros,TI.kindOk,zp,Value.cells,ZQ,ZP,t1,ti1,t2,ti2,t3,ti3,t4,ti4,t5,ti5,t22,ti22,t24,ti24,t26,ti26,t27,ti27,t35,ti35,t40,ti40,t50,ti50,t58,ti58,t60,ti60,t63,ti63,t87,ti87,t88,ti88,t90,ti90,t101,ti101,t115,ti115,t117,ti117,t118,ti118,Int.reduceToNat,Nat.reduceSub,Nat.reduceLeDiff] <;> exact rfl) ?_)
    refine aops_nil ?_
    exact hK
  refine exq_n ?_
  refine aw_ret ?_
  exact ret_r rfl (resOf_one rfl rfl)
end Go.Proofs.Ytldcoekbgfaomaa
end
section
namespace Go.Proofs.Ytldcoekbgfaomaa
open Go.RowKit Go.ChangeShapes Go.WideShapes
section
variable {H : Type} {enc : TypeId × Value → H} {W : World}
/-- All that is there. -/
def AllC (W : World) (g : Nat) : Prop := g < W.heap.size
theorem list3 {α : Type} : ∀ {l : List α}, l.length = 3 → ∃ a b c, l = [a, b, c]
  | [a, b, c], _ => ⟨a, b, c, rfl⟩
theorem opn_sl {α : Type} (F : α → List P1) (k : Nat) (hF : ∀ a, (F a).length = k) (hk0 : 0 < k) {t e : TypeId} (ht : Try.prog.underlying t = some (.slice e)) (hk : Try.prog.cellsOf e = k)
    (hE : ∀ (n : Nat) (cs : List Value) (x : DataW H × List MemPlace), DataW.trod enc Try.prog W 0 (fun _ => true) true n e cs = some x → cs.length = k → ∃ a : α, ∀ (j : Nat) (y : P1) (u : Value), (F a)[j]? = some y → cs[j]? = some u → R1 W (AllC W) y u)
    {n : Nat} {v : Value} {x : DataW H × List MemPlace} (h : DataW.trod enc Try.prog W 0 (fun _ => true) true n t [v] = some x) : ∃ l : List α, R1 W (AllC W) (.sl l.length (l.flatMap F)) v := by
  rcases Go.Deep.open_slice ht h with ⟨hv, _⟩ | ⟨a, len, cap, m, fu, D, Pl, hv, _, hl, hm, hmm, _, hel⟩
  · simp only [List.cons.injEq,Zs] at hv
    subst hv
    exact ⟨[], .nil _ _⟩
  · simp only [List.cons.injEq,Zs] at hv
    subst hv
    simp only [Zr] at hmm
    subst hmm
    have key : ∀ q, q ≤ len → ∃ (l : List α) (us : List Value), l.length = q ∧ us.length = q * k ∧ (∀ (j : Nat) (u : Value), us[j]? = some u → W.cell? (a.add j) = some u) ∧
        ∀ (j : Nat) (y : P1) (u : Value), (l.flatMap F)[j]? = some y → us[j]? = some u → R1 W (AllC W) y u := by
      intro q
      induction q with
      | zero => exact fun _ => ⟨[], [], rfl, by simp, fun j u h => by simp at h, fun j y u h => by simp at h⟩
      | succ q ih =>
        intro hq
        obtain ⟨l, us, h1, h2, h3, h4⟩ := ih (by omega)
        obtain ⟨cs, c1, c2⟩ := hel q (by omega)
        rw [hk] at c1
        obtain ⟨_, c3, c4⟩ := World.cells?_some c1
        obtain ⟨al, ha⟩ := hE fu cs _ c2 c3
        have hfl : (l.flatMap F).length = q * k := by rw [flat_length F k hF, h1]
        refine ⟨l ++ [al], us ++ cs, by simp [h1], by rw [List.length_append, h2, c3, Nat.succ_mul], fun j u hu => ?_, fun j y u hy hu => ?_⟩
        · rw [List.getElem?_append] at hu
          split at hu
          · exact h3 j u hu
          · rename_i hj
            have hlt := (List.getElem?_eq_some_iff.1 hu).1
            have := c4 (j - us.length) (by omega)
            rw [hu, Go.Deep.add_add, show q * k + (j - us.length) = j from by omega] at this
            exact this
        · rw [List.flatMap_append, List.getElem?_append, hfl] at hy
          rw [List.getElem?_append, h2] at hu
          split at hy
          · rename_i hj
            rw [if_pos hj] at hu
            exact h4 j y u hy hu
          · rename_i hj
            rw [if_neg hj] at hu
            exact ha _ y u (by simpa using hy) hu
    obtain ⟨l, us, h1, h2, h3, h4⟩ := key len (Nat.le_refl _)
    refine ⟨l, ?_⟩
    rw [h1]
    rcases Nat.eq_zero_or_pos len with h0 | h0
    · subst h0
      rw [List.length_eq_zero_iff.1 h1]
      exact .nil _ _
    · have hp : 0 < us.length := by rw [h2]; exact Nat.mul_pos h0 hk0
      have hc := h3 0 us[0] (List.getElem?_eq_getElem hp)
      have hspot : a.spot = none := by
        have e : a.add 0 = a := by unfold Addr.add; simp
        rw [e] at hc
        unfold World.cell? at hc
        split at hc
        · split at hc
          · cases hc
          · rename_i hs
            cases hsp : a.spot with
            | none => rfl
            | some s => rw [hsp] at hs; simp at hs
        · cases hc
      obtain ⟨g, o, sp⟩ := a
      simp only at hspot
      subst hspot
      refine .sl len g o _ _ us hl hm ?_ (by rw [h2, flat_length F k hF, h1]) (fun j u hu => by have := h3 j u hu; rwa [add_lit] at this) h4
      exact World.block_lt_of_cell? W _ hc
theorem opn_int {t : TypeId} {k : IntKind} (ht : Try.prog.underlying t = some (.int k)) {n : Nat} {cs : List Value} {x : DataW H × List MemPlace} (h : DataW.trod enc Try.prog W 0 (fun _ => true) true n t cs = some x) : ∃ m, cs = [.int k m] := by
  obtain ⟨m, hm, _⟩ := DataW.trod_int ht h
  exact ⟨m, hm⟩
theorem opn_ints {t e : TypeId} {k : IntKind} (ht : Try.prog.underlying t = some (.slice e)) (he : Try.prog.underlying e = some (.int k)) (hc : Try.prog.cellsOf e = 1) {n : Nat} {v : Value} {x : DataW H × List MemPlace} (h : DataW.trod enc Try.prog W 0 (fun _ => true) true n t [v] = some x) :
    ∃ l : List Int, R1 W (AllC W) (.sl l.length (l.map fun a => .v (.int k a))) v := by
  obtain ⟨l, hl⟩ := opn_sl (fun a : Int => [P1.v (.int k a)]) 1 (fun _ => rfl) (by omega) ht hc (fun n cs x hx _ => by
    obtain ⟨m, rfl⟩ := opn_int he hx
    refine ⟨m, fun j y u hy hu => ?_⟩
    cases j with
    | zero => simp at hy hu; subst hy; subst hu; exact .v _ rfl
    | succ j => simp at hy) h
  refine ⟨l, ?_⟩
  have e : l.flatMap (fun a : Int => [P1.v (.int k a)]) = l.map fun a => .v (.int k a) := by
    clear hl
    induction l with
    | nil => rfl
    | cons a l ih => exact congrArg (P1.v (.int k a) :: ·) ih
  rwa [e] at hl
theorem opn_lvls {n : Nat} {v : Value} {x : DataW H × List MemPlace} (h : DataW.trod enc Try.prog W 0 (fun _ => true) true n 24 [v] = some x) : ∃ l : List (List Int), R1 W (AllC W) (lvls l) v := by
  obtain ⟨l, hl⟩ := opn_sl (fun a : List Int => [u64s a]) 1 (fun _ => rfl) (by omega) Try.underlying24 (by kernel_rfl) (fun n cs x hx hc => by
    match cs, hc with
    | [u], _ =>
    obtain ⟨r, hr⟩ := opn_ints Try.underlying60 Try.underlying58 (by kernel_rfl) hx
    refine ⟨r, fun j y u' hy hu => ?_⟩
    cases j with
    | zero => simp at hy hu; subst hy; subst hu; exact hr
    | succ j => simp at hy) h
  refine ⟨l, ?_⟩
  have e : ∀ l : List (List Int), l.flatMap (fun a : List Int => [u64s a]) = l.map u64s := by
    intro l
    induction l with
    | nil => rfl
    | cons a l ih => simp only [List.flatMap_cons,ZG,ZL,ZM,ih]
  rwa [e] at hl
theorem opn_tree {n : Nat} {cs : List Value} {x : DataW H × List MemPlace} (h : DataW.trod enc Try.prog W 0 (fun _ => true) true n 26 cs = some x) : ∃ t : Tr, RV W (AllC W) (trP t) (.agg cs.toArray) := by
  obtain ⟨xs, m, _, _, hl, hxl, hel⟩ := DataW.trod_struct Try.underlying26 h
  have c3 : Try.prog.cellsOf 3 = 1 := by kernel_rfl
  have c24 : Try.prog.cellsOf 24 = 1 := by kernel_rfl
  have c26 : Try.prog.cellsOf 26 = 3 := by kernel_rfl
  rw [c26] at hl
  obtain ⟨u0, u1, u2, rfl⟩ := list3 hl
  have h0 : DataW.trod enc Try.prog W 0 (fun _ => true) true m 3 (([u0, u1, u2].drop 0).take (Try.prog.cellsOf 3)) = xs[0]? := hel 0 _ rfl
  have h1 : DataW.trod enc Try.prog W 0 (fun _ => true) true m 3 (([u0, u1, u2].drop 1).take (Try.prog.cellsOf 3)) = xs[1]? := hel 1 _ rfl
  have h2 : DataW.trod enc Try.prog W 0 (fun _ => true) true m 24 (([u0, u1, u2].drop 2).take (Try.prog.cellsOf 24)) = xs[2]? := hel 2 _ rfl
  have hx2 : xs.length = 3 := hxl
  rw [List.getElem?_eq_getElem (by omega)] at h0 h1 h2
  rw [c3] at h0 h1
  rw [c24] at h2
  obtain ⟨z0, e0⟩ := opn_int Try.underlying3 h0
  obtain ⟨z1, e1⟩ := opn_int Try.underlying3 h1
  obtain ⟨l, hlv⟩ := opn_lvls (show DataW.trod enc Try.prog W 0 (fun _ => true) true m 24 [u2] = some _ from h2)
  simp at e0 e1
  subst e0
  subst e1
  refine ⟨⟨z0, z1, l⟩, .agg _ [.int .i64 z0, .int .i64 z1, u2] rfl fun j y u hy hu => ?_⟩
  match j with
  | 0 => simp at hy hu; subst hy; subst hu; exact .v _ rfl
  | 1 => simp at hy hu; subst hy; subst hu; exact .v _ rfl
  | 2 => simp at hy hu; subst hy; subst hu; exact hlv
  | j + 3 => simp at hy
end
theorem rvs_nil {W : World} {C : Nat → Prop} : RVs W C [] [] := ⟨rfl, fun j d u h => by simp at h⟩
theorem rvs_cons {W : World} {C : Nat → Prop} {d : PV} {v : Value} {ds : List PV} {vs : List Value} (h : RV W C d v) (hs : RVs W C ds vs) : RVs W C (d :: ds) (v :: vs) := by
  refine ⟨by simp [hs.1], fun j x u hx hu => ?_⟩
  cases j with
  | zero => simp at hx hu; subst hx; subst hu; exact h
  | succ j => exact hs.2 j x u (by simpa using hx) (by simpa using hu)
theorem rv_tree {H : Type} {enc : TypeId × Value → H} {W : World} {cs : Array Value} {d : DataW H} {p : List MemPlace} (h : DataW.Trod enc Try.prog W 0 (fun _ => true) true 26 (.agg cs) d p) : ∃ t : Tr, RV W (AllC W) (trP t) (.agg cs) := by
  obtain ⟨m, hm⟩ := h
  exact opn_tree (show DataW.trod enc Try.prog W 0 (fun _ => true) true m 26 cs.toList = some _ from hm)
/-- From a contract to the row's call. -/
theorem row_call {f : FuncId} {ds : List PV} (h : ACalls Try.prog f ds (.p (bv true))) {W : World} {vs : List Value} (hv : RVs W (AllC W) ds vs) :
    Calls Try.prog f vs.toArray W fun e W' => e = .returned (.bool true) ∧ Below W.heap.size W W' := by
  refine ((callsIn_wide (n := 0)).1 (h.h Fence.wide 0 (AllC W) W vs ⟨fun _ => trivial, rfl, rfl⟩ rfl (fun _ hg => hg) hv)).mono ?_
  rintro e W' ⟨v, rfl, hr, hg⟩
  exact ⟨by rw [rd_v hr], hg.os, hg.tape, hg.output, hg.size, fun k hk => hg.block k hk (by simp)⟩
theorem row_lt {H : Type} {enc : TypeId × Value → H} {W : World} {t : TypeId} {v : Value} {d : DataW H} {p : List MemPlace} (h : DataW.Trod enc Try.prog W 0 (fun _ => true) true t v d p) : ∀ x ∈ p, x.block < W.heap.size := by
  obtain ⟨m, hm⟩ := h
  exact DataW.trod_lt m _ _ _ hm
end Go.Proofs.Ytldcoekbgfaomaa
end
section
namespace Go.Proofs.Ytldcoekbgfaomaa
open Go.RowKit
/-- Is the tree small enough for the law? -/
def fewB (t : Tr) : Bool := decide (t.lv.length ≤ 12 ∧ t.size ≤ 100 ∧ ∀ r ∈ t.lv, r.length ≤ 100)
theorem c24b (t : Tr) : ACalls Try.prog 24 [trP t] (.p (bv (fewB t))) := c24 t
end Go.Proofs.Ytldcoekbgfaomaa
end
section
namespace Go.Proofs.Ytldcoekbgfaomaa
open Go.RowKit
set_option maxRecDepth 20000
set_option maxHeartbeats 4000000
attribute [local irreducible] AOps AOpsD AW
theorem c8 (t : Tr) : ACalls Try.prog 8 [trP t] (.p (bv true)) := by
  obtain ⟨s, f, lv⟩ := t
  refine acalls_of tb_ok Try.func8 (c := _) rfl (by kernel_rfl) ?_
  intro X hP hX hro hpl
  have hb : tb.Ok X.P := hP ▸ tb_ok
  change AW X _ _ ⟨[], [.agg [i64 s, i64 f, lvls lv], .any, .any, .any, .any, .any, .any, .any, .any, .any, .any, .any, .any, .any, .any, .any, .any, .any, .any, .any, .any, .any], [], []⟩
  refine aw_seq ?_
  refine aw_regK hX hb [0, 1] rfl (σ' := ?s1) (fun K hK => ?h1) ?n1
  case h1 =>
    iterate 2 (refine st_op rfl (by simp (disch := omega) only [stepf,callOf,qop,fop,St.ev,St.put,cd,zd,Value.oneCell',tb_T,TypeDesc.aggB,getD_0,getD_s,Ze,Zd,Zc,Za,Zb,Zr,ZE,ZF,Zf,Zq,Zg,i64_w,Zt,Zs,ZM,ZL,Zl,Zo,ZG,ZH,St.addBox,D.boxCells,D.live,t3,ti3,t24,ti24,t26,ti26,t58,ti58,t60,ti60] <;> exact rfl) ?_)
    refine aops_nil ?_
    exact hK
  refine exq_n ?_
  refine aw_seq ?_
  refine aw_seq ?_
  refine aw_regK hX hb [0, 1, 2] rfl (σ' := ?s2) (fun K hK => ?h2) ?n2
  case h2 =>
    (refine st_op rfl (by simp (disch := omega) only [stepf,callOf,qop,fop,St.ev,St.put,cd,zd,Value.oneCell',tb_T,TypeDesc.aggB,getD_0,getD_s,Ze,Zd,Zc,Za,Zb,Zr,ZE,ZF,Zf,Zq,Zg,i64_w,Zt,Zs,Zl,Zo,Zv,Zw,Zj,Zk,Zx,Zy,qLoad,bload,pload,pureAll,D.pure?,ZC,ZD,pvAll,D.pv?,Bool.not_true,Bool.not_false,t1,ti1,t3,ti3,t4,ti4,t24,ti24,t26,ti26,t58,ti58,t60,ti60] <;> exact rfl) ?_)
    refine st_call rfl (by simp only [callOf,St.ev,getD_0,getD_s,pvAll,D.pv?,ZG,ZH,zd,cd,Value.oneCell',Zr] <;> exact rfl) (acK hP (c24b ⟨s, f, lv⟩)) (by simp only [St.put,Za,Zb] <;> exact rfl) ?_
    (refine st_op rfl (by simp (disch := omega) only [stepf,callOf,qop,fop,St.ev,St.put,cd,zd,Value.oneCell',tb_T,TypeDesc.aggB,getD_0,getD_s,Ze,Zd,Zc,Za,Zb,Zr,ZE,ZF,Zf,Zq,Zg,i64_w,Zt,Zs,Zl,Zo,Zv,Zw,Zj,Zk,Zx,Zy,qLoad,bload,pload,pureAll,D.pure?,ZC,ZD,pvAll,D.pv?,Bool.not_true,Bool.not_false,t1,ti1,t3,ti3,t4,ti4,t24,ti24,t26,ti26,t58,ti58,t60,ti60] <;> exact rfl) ?_)
    refine aops_nil ?_
    exact hK
  refine exq_n ?_
  refine aw_cond _ rfl (fun hc0 => ?_) (fun hc0 => ?_)
  · try simp only [Zp,Zi,ZK,ZJ,ne_eq,Zn,Zm,ZB,ZA,ZI,not_or,not_and,Zu] at hc0
    refine aw_seq ?_
    refine aw_regK hX hb [0, 1] rfl (σ' := ?s3) (fun K hK => ?h3) ?n3
    case h3 =>
      refine st_call rfl (by simp only [callOf,St.ev,getD_0,getD_s,pvAll,D.pv?,ZG,ZH,zd,cd,Value.oneCell',Zr] <;> exact rfl) (acK hP (c20)) (by simp only [St.put,Za,Zb] <;> exact rfl) ?_
      (refine st_op rfl (by simp (disch := omega) only [stepf,callOf,qop,fop,St.ev,St.put,cd,zd,Value.oneCell',tb_T,TypeDesc.aggB,getD_0,getD_s,Ze,Zd,Zc,Za,Zb,Zr,ZE,ZF,Zf,Zq,Zg,i64_w,Zt,Zs,pvAll,D.pv?] <;> exact rfl) ?_)
      refine aops_nil ?_
      exact hK
    refine exq_n ?_
    refine aw_ret ?_
    refine exq_r ?_
    exact ret_r rfl (resOf_one rfl rfl)
  · try simp only [Zp,Zi,ZK,ZJ,ne_eq,Zn,Zm,ZB,ZA,ZI,not_or,not_and,Zu] at hc0
    refine aw_skip ?_
    refine exq_n ?_
    refine aw_seq ?_
    refine aw_regD hX hb (try_mixed hP) [(0, true), (2, true), (1, false), (3, false), (4, true), (5, true), (6, true), (8, true), (7, false), (9, false), (10, true), (11, true), (12, true), (13, false), (14, true), (15, true)] (by kernel_rfl) (σ' := ?s4) (fun K hK => ?h4) ?n4
    case h4 =>
      iterate 2 (refine sd_q rfl (by simp (disch := omega) only [qop,fop,St.ev,St.put,cd,zd,Value.oneCell',tb_T,TypeDesc.aggB,getD_0,getD_s,Ze,Zd,Zc,Za,Zb,Zr,ZE,ZF,Zf,Zq,Zg,i64_w,Zt,Zs,Zl,Zo,Zv,Zw,Zj,Zk,Zx,Zy,qLoad,bload,pload,pureAll,D.pure?,ZC,ZD,pvAll,D.pv?,qBin,iop,t1,ti1,t3,ti3,t24,ti24,t26,ti26,t35,ti35,t58,ti58,t60,ti60,beq_self_eq_true,decide_true,eq_self] <;> exact rfl) (by simp only [St.put,Za,Zb] <;> exact rfl) ?_)
      refine sd_call rfl (by simp only [callOf,St.ev,getD_0,getD_s,pvAll,D.pv?,ZG,ZH,zd,cd,Value.oneCell',Zr] <;> exact rfl) (acK hP (c31 ⟨s, f, lv⟩)) (by simp only [St.put,Za,Zb] <;> exact rfl) ?_
      refine sd_call rfl (by simp only [callOf,St.ev,getD_0,getD_s,pvAll,D.pv?,ZG,ZH,zd,cd,Value.oneCell',Zr] <;> exact rfl) (acK hP (c34 ⟨s, f, lv⟩)) (by simp only [St.put,Za,Zb] <;> exact rfl) ?_
      iterate 2 (refine sd_q rfl (by simp (disch := omega) only [qop,fop,St.ev,St.put,cd,zd,Value.oneCell',tb_T,TypeDesc.aggB,getD_0,getD_s,Ze,Zd,Zc,Za,Zb,Zr,ZE,ZF,Zf,Zq,Zg,i64_w,Zt,Zs,Zl,Zo,Zv,Zw,Zj,Zk,Zx,Zy,qLoad,bload,pload,pureAll,D.pure?,ZC,ZD,pvAll,D.pv?,qBin,iop,t1,ti1,t3,ti3,t24,ti24,t26,ti26,t35,ti35,t58,ti58,t60,ti60,beq_self_eq_true,decide_true,eq_self] <;> exact rfl) (by simp only [St.put,Za,Zb] <;> exact rfl) ?_)
      iterate 2 (all_goals first | (refine sd_g1 rfl rfl rfl (by simp (disch := omega) only [qop,fop,St.ev,St.put,cd,zd,Value.oneCell',tb_T,TypeDesc.aggB,getD_0,getD_s,Ze,Zd,Zc,Za,Zb,Zr,ZE,ZF,Zf,Zq,Zg,i64_w,Zt,Zs,Zl,Zo,Zv,Zw,Zj,Zk,Zx,Zy,qLoad,bload,pload,pureAll,D.pure?,ZC,ZD,pvAll,D.pv?,qBin,iop,t1,ti1,t3,ti3,t24,ti24,t26,ti26,t35,ti35,t58,ti58,t60,ti60,beq_self_eq_true,decide_true,eq_self] <;> exact rfl) rfl (by simp only [St.put,Za,Zb] <;> exact rfl) ?_) | (first | (refine sd_g0 rfl rfl rfl (by simp only [St.put,Za,Zb] <;> exact rfl) ?_) | (refine sd_gu rfl rfl rfl (by simp only [St.put,Za,Zb] <;> exact rfl) ?_)) | (refine sd_split rfl rfl rfl (by simp only [Za,Zb] <;> exact rfl) (by simp only [Za,Zb] <;> exact rfl) (fun hg => ?_) (fun hg => ?_) <;> (try simp only [Zp,Zi,ZJ,ZK,ne_eq,Zn,Zm,Bool.not_eq_true,Zu] at hg) <;> first | (refine sd_g1 rfl rfl rfl (by simp (disch := omega) only [qop,fop,St.ev,St.put,cd,zd,Value.oneCell',tb_T,TypeDesc.aggB,getD_0,getD_s,Ze,Zd,Zc,Za,Zb,Zr,ZE,ZF,Zf,Zq,Zg,i64_w,Zt,Zs,Zl,Zo,Zv,Zw,Zj,Zk,Zx,Zy,qLoad,bload,pload,pureAll,D.pure?,ZC,ZD,pvAll,D.pv?,qBin,iop,t1,ti1,t3,ti3,t24,ti24,t26,ti26,t35,ti35,t58,ti58,t60,ti60,beq_self_eq_true,decide_true,eq_self] <;> exact rfl) rfl (by simp only [St.put,Za,Zb] <;> exact rfl) ?_) | (first | (refine sd_g0 rfl rfl rfl (by simp only [St.put,Za,Zb] <;> exact rfl) ?_) | (refine sd_gu rfl rfl rfl (by simp only [St.put,Za,Zb] <;> exact rfl) ?_))))
      all_goals first | (refine sd_gc rfl rfl rfl (by simp only [callOf,St.ev,getD_0,getD_s,pvAll,D.pv?,ZG,ZH,zd,cd,Value.oneCell',Zr] <;> exact rfl) (acK hP (c35 ⟨s, f, lv⟩)) (by simp only [St.put,Za,Zb] <;> exact rfl) ?_) | (first | (refine sd_g0 rfl rfl rfl (by simp only [St.put,Za,Zb] <;> exact rfl) ?_) | (refine sd_gu rfl rfl rfl (by simp only [St.put,Za,Zb] <;> exact rfl) ?_)) | (refine sd_split rfl rfl rfl (by simp only [Za,Zb] <;> exact rfl) (by simp only [Za,Zb] <;> exact rfl) (fun hg => ?_) (fun hg => ?_) <;> (try simp only [Zp,Zi,ZJ,ZK,ne_eq,Zn,Zm,Bool.not_eq_true,Zu] at hg) <;> first | (refine sd_gc rfl rfl rfl (by simp only [callOf,St.ev,getD_0,getD_s,pvAll,D.pv?,ZG,ZH,zd,cd,Value.oneCell',Zr] <;> exact rfl) (acK hP (c35 ⟨s, f, lv⟩)) (by simp only [St.put,Za,Zb] <;> exact rfl) ?_) | (first | (refine sd_g0 rfl rfl rfl (by simp only [St.put,Za,Zb] <;> exact rfl) ?_) | (refine sd_gu rfl rfl rfl (by simp only [St.put,Za,Zb] <;> exact rfl) ?_)))
      all_goals first | (refine sd_gc rfl rfl rfl (by simp only [callOf,St.ev,getD_0,getD_s,pvAll,D.pv?,ZG,ZH,zd,cd,Value.oneCell',Zr] <;> exact rfl) (acK hP (c36 ⟨s, f, lv⟩)) (by simp only [St.put,Za,Zb] <;> exact rfl) ?_) | (first | (refine sd_g0 rfl rfl rfl (by simp only [St.put,Za,Zb] <;> exact rfl) ?_) | (refine sd_gu rfl rfl rfl (by simp only [St.put,Za,Zb] <;> exact rfl) ?_)) | (refine sd_split rfl rfl rfl (by simp only [Za,Zb] <;> exact rfl) (by simp only [Za,Zb] <;> exact rfl) (fun hg => ?_) (fun hg => ?_) <;> (try simp only [Zp,Zi,ZJ,ZK,ne_eq,Zn,Zm,Bool.not_eq_true,Zu] at hg) <;> first | (refine sd_gc rfl rfl rfl (by simp only [callOf,St.ev,getD_0,getD_s,pvAll,D.pv?,ZG,ZH,zd,cd,Value.oneCell',Zr] <;> exact rfl) (acK hP (c36 ⟨s, f, lv⟩)) (by simp only [St.put,Za,Zb] <;> exact rfl) ?_) | (first | (refine sd_g0 rfl rfl rfl (by simp only [St.put,Za,Zb] <;> exact rfl) ?_) | (refine sd_gu rfl rfl rfl (by simp only [St.put,Za,Zb] <;> exact rfl) ?_)))
      (all_goals first | (refine sd_g1 rfl rfl rfl (by simp (disch := omega) only [qop,fop,St.ev,St.put,cd,zd,Value.oneCell',tb_T,TypeDesc.aggB,getD_0,getD_s,Ze,Zd,Zc,Za,Zb,Zr,ZE,ZF,Zf,Zq,Zg,i64_w,Zt,Zs,Zl,Zo,Zv,Zw,Zj,Zk,Zx,Zy,qLoad,bload,pload,pureAll,D.pure?,ZC,ZD,pvAll,D.pv?,qBin,iop,t1,ti1,t3,ti3,t24,ti24,t26,ti26,t35,ti35,t58,ti58,t60,ti60,beq_self_eq_true,decide_true,eq_self] <;> exact rfl) rfl (by simp only [St.put,Za,Zb] <;> exact rfl) ?_) | (first | (refine sd_g0 rfl rfl rfl (by simp only [St.put,Za,Zb] <;> exact rfl) ?_) | (refine sd_gu rfl rfl rfl (by simp only [St.put,Za,Zb] <;> exact rfl) ?_)) | (refine sd_split rfl rfl rfl (by simp only [Za,Zb] <;> exact rfl) (by simp only [Za,Zb] <;> exact rfl) (fun hg => ?_) (fun hg => ?_) <;> (try simp only [Zp,Zi,ZJ,ZK,ne_eq,Zn,Zm,Bool.not_eq_true,Zu] at hg) <;> first | (refine sd_g1 rfl rfl rfl (by simp (disch := omega) only [qop,fop,St.ev,St.put,cd,zd,Value.oneCell',tb_T,TypeDesc.aggB,getD_0,getD_s,Ze,Zd,Zc,Za,Zb,Zr,ZE,ZF,Zf,Zq,Zg,i64_w,Zt,Zs,Zl,Zo,Zv,Zw,Zj,Zk,Zx,Zy,qLoad,bload,pload,pureAll,D.pure?,ZC,ZD,pvAll,D.pv?,qBin,iop,t1,ti1,t3,ti3,t24,ti24,t26,ti26,t35,ti35,t58,ti58,t60,ti60,beq_self_eq_true,decide_true,eq_self] <;> exact rfl) rfl (by simp only [St.put,Za,Zb] <;> exact rfl) ?_) | (first | (refine sd_g0 rfl rfl rfl (by simp only [St.put,Za,Zb] <;> exact rfl) ?_) | (refine sd_gu rfl rfl rfl (by simp only [St.put,Za,Zb] <;> exact rfl) ?_))))
      iterate 2 (refine sd_q rfl (by simp (disch := omega) only [qop,fop,St.ev,St.put,cd,zd,Value.oneCell',tb_T,TypeDesc.aggB,getD_0,getD_s,Ze,Zd,Zc,Za,Zb,Zr,ZE,ZF,Zf,Zq,Zg,i64_w,Zt,Zs,Zl,Zo,Zv,Zw,Zj,Zk,Zx,Zy,qLoad,bload,pload,pureAll,D.pure?,ZC,ZD,pvAll,D.pv?,qBin,iop,t1,ti1,t3,ti3,t24,ti24,t26,ti26,t35,ti35,t58,ti58,t60,ti60,beq_self_eq_true,decide_true,eq_self] <;> exact rfl) (by simp only [St.put,Za,Zb] <;> exact rfl) ?_)
      all_goals first | (refine sd_gc rfl rfl rfl (by simp only [callOf,St.ev,getD_0,getD_s,pvAll,D.pv?,ZG,ZH,zd,cd,Value.oneCell',Zr] <;> exact rfl) (acK hP (c20)) (by simp only [St.put,Za,Zb] <;> exact rfl) ?_) | (first | (refine sd_g0 rfl rfl rfl (by simp only [St.put,Za,Zb] <;> exact rfl) ?_) | (refine sd_gu rfl rfl rfl (by simp only [St.put,Za,Zb] <;> exact rfl) ?_)) | (refine sd_split rfl rfl rfl (by simp only [Za,Zb] <;> exact rfl) (by simp only [Za,Zb] <;> exact rfl) (fun hg => ?_) (fun hg => ?_) <;> (try simp only [Zp,Zi,ZJ,ZK,ne_eq,Zn,Zm,Bool.not_eq_true,Zu] at hg) <;> first | (refine sd_gc rfl rfl rfl (by simp only [callOf,St.ev,getD_0,getD_s,pvAll,D.pv?,ZG,ZH,zd,cd,Value.oneCell',Zr] <;> exact rfl) (acK hP (c20)) (by simp only [St.put,Za,Zb] <;> exact rfl) ?_) | (first | (refine sd_g0 rfl rfl rfl (by simp only [St.put,Za,Zb] <;> exact rfl) ?_) | (refine sd_gu rfl rfl rfl (by simp only [St.put,Za,Zb] <;> exact rfl) ?_)))
      iterate 2 (refine sd_q rfl (by simp (disch := omega) only [qop,fop,St.ev,St.put,cd,zd,Value.oneCell',tb_T,TypeDesc.aggB,getD_0,getD_s,Ze,Zd,Zc,Za,Zb,Zr,ZE,ZF,Zf,Zq,Zg,i64_w,Zt,Zs,Zl,Zo,Zv,Zw,Zj,Zk,Zx,Zy,qLoad,bload,pload,pureAll,D.pure?,ZC,ZD,pvAll,D.pv?,qBin,iop,t1,ti1,t3,ti3,t24,ti24,t26,ti26,t35,ti35,t58,ti58,t60,ti60,beq_self_eq_true,decide_true,eq_self] <;> exact rfl) (by simp only [St.put,Za,Zb] <;> exact rfl) ?_)
      refine aopsd_nil ?_
      exact hK
    refine exq_n ?_
    refine aw_ret ?_
    exact ret_r rfl (resOf_one rfl rfl)
end Go.Proofs.Ytldcoekbgfaomaa
end
section
namespace Go.Proofs.Ytldcoekbgfaomaa
open Go.RowKit
theorem rowOwn : ownKnob Try.prog.godebug = none := by kernel_rfl
theorem rowLaid : laidOutB Try.prog = true := by kernel_rfl
theorem rowMaps : mapsRowed Try.pinned.checked.prog = true := by kernel_rfl
theorem rowHeard : Try.pinned.checked.prog.stopsHeard = true := by kernel_rfl
theorem rowGreat : (Try.pinned.checked.prog.mayEnter && ((Try.pinned.checked.prog.make == some Rows.hashtreeBuildsRow.make) && (Rows.hashtreeBuildsRow.lifted == Try.pinned.checked.prog.liftsFinal))) = true := by kernel_rfl
theorem rowEnter : Try.pinned.checked.prog.mayEnter = true := by have h := rowGreat; rw [Bool.and_eq_true, Bool.and_eq_true] at h; exact h.1
theorem rowMake : (Try.pinned.checked.prog.make == some Rows.hashtreeBuildsRow.make) = true := by have h := rowGreat; rw [Bool.and_eq_true, Bool.and_eq_true] at h; exact h.2.1
theorem rowLift : (Rows.hashtreeBuildsRow.lifted == Try.pinned.checked.prog.liftsFinal) = true := by have h := rowGreat; rw [Bool.and_eq_true, Bool.and_eq_true] at h; exact h.2.2
end Go.Proofs.Ytldcoekbgfaomaa
end
