/- The walks of the code that the statement reaches, and the plain laws behind them, part Ue. No conditions. -/
import Derived.Test.YtldcoekbgfaomaaRows
import Derived.WalkKit
import Derived.ProofKit
import Derived.Test.YtldcoekbgfaomaaUd
set_option linter.unusedVariables false
set_option linter.unusedSimpArgs false
section
namespace Go.Proofs.Ytldcoekbgfaomaa
open Go.RowKit
set_option maxRecDepth 20000
set_option maxHeartbeats 4000000
attribute [local irreducible] AOps AOpsD AW
theorem part_slice (l : List (List Int)) (a b : Nat) (x y : Int) (hx : x = ((min l.length a : Nat) : Int)) (hy : y = ((min l.length b : Nat) : Int)) (hab : a ≤ b) : P1.sl (y.toNat - x.toNat) (((secCells l).drop (x.toNat * 8)).take ((y.toNat - x.toNat) * 8)) = secs ((l.drop a).take (b - a)) := by
  subst hx
  subst hy
  rw [Int.toNat_natCast, Int.toNat_natCast]
  have := secs_slice l (min l.length a) (min l.length b - min l.length a) (by omega)
  have e : (l.drop (min l.length a)).take (min l.length b - min l.length a) = (l.drop a).take (b - a) := by
    apply List.ext_getElem?
    intro j
    simp only [List.getElem?_take,List.getElem?_drop]
    by_cases h1 : l.length ≤ a
    · rw [Nat.min_eq_left h1, List.getElem?_eq_none (show l.length ≤ l.length + j by omega), List.getElem?_eq_none (show l.length ≤ a + j by omega)]
      split <;> split <;> rfl
    · rw [Nat.min_eq_right (show a ≤ l.length by omega)]
      by_cases h2 : j < min l.length b - a
      · rw [if_pos h2, if_pos (by omega)]
      · rw [if_neg h2]
        split
        · rw [List.getElem?_eq_none (by omega)]
        · rfl
  rw [this, e]
noncomputable instance collDec (l m : List (List Int)) (n : Nat) : Decidable (Coll l m n) := Classical.propDecidable _
theorem k33 (l m : List (List Int)) (w i : Nat) (x y : P1) (hx : x = secs (secAt l w i)) (hy : y = secs (secAt m w i)) : ACalls Try.prog 33 [.p x, .p y] (.p (bv (decide (SameAt l m w i)))) := by
  subst hx
  subst hy
  exact c33 _ _
theorem min_nat (a b : Nat) : min (a : Int) (b : Int) = ((min a b : Nat) : Int) := by omega
theorem min_nat2 (a b c : Nat) : min (a : Int) ((b : Int) + (c : Int)) = ((min a (b + c) : Nat) : Int) := by omega
theorem secAt_part (l : List (List Int)) (w i : Nat) : (l.drop (i * w)).take (i * w + w - i * w) = secAt l w i := by rw [Nat.add_sub_cancel_left]; rfl
theorem sec_part (l : List (List Int)) (w i : Nat) (x y : Int) (hx : x = ((min l.length (i * w) : Nat) : Int)) (hy : y = ((min l.length (i * w + w) : Nat) : Int)) : P1.sl (y.toNat - x.toNat) (((secCells l).drop (x.toNat * 8)).take ((y.toNat - x.toNat) * 8)) = secs (secAt l w i) := by
  rw [part_slice l (i * w) (i * w + w) x y hx hy (Nat.le_add_right _ _), secAt_part]
theorem sec_partN (l : List (List Int)) (w i x y : Nat) (hx : x = min l.length (i * w)) (hy : y = min l.length (i * w + w)) : P1.sl (y - x) (((secCells l).drop (x * 8)).take ((y - x) * 8)) = secs (secAt l w i) := sec_part l w i (x : Int) (y : Int) (by rw [hx]) (by rw [hy])
theorem two_mul_pow (n k : Nat) : (2 : Int) * ((n * 2 ^ k : Nat) : Int) = ((n * 2 ^ (k + 1) : Nat) : Int) := by
  rw [Nat.pow_succ, ← Nat.mul_assoc]
  simp
  omega
theorem lvB_few {l : List (List Int)} {n : Nat} (hl : l.length ≤ 4096) (hn : 1 ≤ n) : (lvB l n).length ≤ 13 := levelsOf_few 12 _ (by
  rw [leafD_length]
  exact Nat.le_trans (nLeaves_le hn) (by simpa using hl))
theorem lvB_small {l : List (List Int)} {n : Nat} (hl : l.length ≤ 4096) (hn : 1 ≤ n) (k : Nat) : ((lvB l n).getD k []).length ≤ 4096 := by
  by_cases hk : k < (lvB l n).length
  · exact levelsOf_small 4096 (leafD l n) (by rw [leafD_length]; exact Nat.le_trans (nLeaves_le hn) hl) _ (getD_mem _ [] k hk)
  · rw [List.getD_eq_getElem?_getD, List.getElem?_eq_none (by omega)]
    simp
theorem lvB_alike {l m : List (List Int)} {n : Nat} (hm : m.length = l.length) : (lvB m n).length = (lvB l n).length ∧ ∀ k, ((lvB m n).getD k []).length = ((lvB l n).getD k []).length := by
  have hl := levelsOf_lens _ (leafD m n) (leafD l n) (Nat.le_refl _) (by rw [leafD_length, leafD_length, hm])
  exact ⟨by simpa using congrArg List.length hl, fun k => by rw [getD_len, getD_len, hl]⟩
theorem wide_le {n k i : Nat} (hn : n ≤ 4096) (hk : k ≤ 13) (hi : i ≤ 4096) : n * 2 ^ k ≤ 33554432 ∧ i * (n * 2 ^ k) ≤ 137438953472 := by
  have h1 : 2 ^ k ≤ 2 ^ 13 := Nat.pow_le_pow_right (by omega) hk
  have h2 : n * 2 ^ k ≤ 4096 * 2 ^ 13 := Nat.mul_le_mul hn h1
  have h3 : i * (n * 2 ^ k) ≤ 4096 * (4096 * 2 ^ 13) := Nat.mul_le_mul hi h2
  omega
theorem c32 (l m : List (List Int)) (n : Nat) (h : 1 ≤ l.length ∧ l.length ≤ 4096) (hm : m.length = l.length) (hn : 1 ≤ n ∧ n ≤ 4096) : ACalls Try.prog 32 [trP (bT l n), trP (bT m n), .p (secs l), .p (secs m)] (.p (bv (decide (Coll l m n)))) := by
  refine acalls_of tb_ok Try.func32 (c := _) rfl (by kernel_rfl) ?_
  intro X hP hX hro hpl
  have hb : tb.Ok X.P := hP ▸ tb_ok
  change AW X _ _ ⟨[], [.agg [i64 (l.length : Int), i64 (n : Int), lvls (levelsOf (leafD l n))], .agg [i64 (m.length : Int), i64 (n : Int), lvls (levelsOf (leafD m n))], .p (secs l), .p (secs m), .any, .any, .any, .any, .any, .any, .any, .any, .any, .any, .any, .any, .any, .any, .any, .any, .any, .any, .any, .any, .any, .any, .any, .any, .any, .any, .any, .any, .any, .any, .any, .any, .any, .any, .any, .any, .any, .any, .any, .any, .any, .any, .any, .any, .any, .any, .any, .any, .any, .any, .any, .any, .any, .any, .any, .any, .any, .any, .any, .any, .any, .any, .any, .any, .any, .any, .any, .any, .any, .any, .any, .any, .any, .any], [], []⟩
  have hfw : (levelsOf (leafD l n)).length ≤ 13 := lvB_few h.2 hn.1
  have hal : (levelsOf (leafD m n)).length = (levelsOf (leafD l n)).length := (lvB_alike hm).1
  refine aw_seq ?_
  refine aw_regK hX hb [0, 1, 2] rfl (σ' := ?s1) (fun K hK => ?h1) ?n1
  case h1 =>
    iterate 3 (refine st_op rfl (by simp (disch := omega) only [stepf,callOf,qop,fop,St.ev,St.put,cd,zd,Value.oneCell',tb_T,TypeDesc.aggB,getD_0,getD_s,Ze,Zd,Zc,Za,Zb,Zr,ZE,ZF,Zf,Zq,Zg,i64_w,Zt,Zs,ZM,ZL,Zl,Zo,ZG,ZH,St.addBox,D.boxCells,D.live,t1,ti1,t3,ti3,t24,ti24,t26,ti26,t58,ti58,t60,ti60,Zh,map_at_l,map_at_i,mul_cast,secCells_length,min_nat,min_nat2] <;> exact rfl) ?_)
    refine aops_nil ?_
    exact hK
  refine exq_n ?_
  refine aw_seq ?_
  refine aw_regK hX hb [0, 1, 2] rfl (σ' := ?s2) (fun K hK => ?h2) ?n2
  case h2 =>
    iterate 3 (refine st_op rfl (by simp (disch := omega) only [stepf,callOf,qop,fop,St.ev,St.put,cd,zd,Value.oneCell',tb_T,TypeDesc.aggB,getD_0,getD_s,Ze,Zd,Zc,Za,Zb,Zr,ZE,ZF,Zf,Zq,Zg,i64_w,Zt,Zs,qFieldAddr,fieldOf,Zl,Zo,Zv,Zw,Zj,Zk,Zx,Zy,qLoad,bload,pload,pureAll,D.pure?,ZC,ZD,t1,ti1,t3,ti3,t4,ti4,t24,ti24,t26,ti26,t58,ti58,t60,ti60,Zh,map_at_l,map_at_i,mul_cast,secCells_length,min_nat,min_nat2] <;> exact rfl) ?_)
    refine aops_nil ?_
    exact hK
  refine exq_n ?_
  refine aw_seq ?_
  refine aw_seq ?_
  refine aw_regK hX hb [0, 1, 2, 3] rfl (σ' := ?s3) (fun K hK => ?h3) ?n3
  case h3 =>
    iterate 4 (refine st_op rfl (by simp (disch := omega) only [stepf,callOf,qop,fop,St.ev,St.put,cd,zd,Value.oneCell',tb_T,TypeDesc.aggB,getD_0,getD_s,Ze,Zd,Zc,Za,Zb,Zr,ZE,ZF,Zf,Zq,Zg,i64_w,Zt,Zs,qFieldAddr,fieldOf,Zl,Zo,Zv,Zw,Zj,Zk,Zx,Zy,qLoad,bload,pload,pureAll,D.pure?,ZC,ZD,qLen,t2,ti2,t3,ti3,t4,ti4,t24,ti24,t26,ti26,t58,ti58,t60,ti60,Zh,map_at_l,map_at_i,mul_cast,secCells_length,min_nat,min_nat2] <;> exact rfl) ?_)
    refine aops_nil ?_
    exact hK
  refine exq_n ?_
  refine aw_block ?_
  refine aw_loop (ι := Nat) (fun k => k ≤ (levelsOf (leafD l n)).length ∧ (∀ q, q < k → ∀ i, i < ((lvB l n).getD q []).length → ¬ BadAt l m n q i)) (fun k => ⟨[], [.any, .any, .p (secs l), .p (secs m), .ptr 0 0, .ptr 1 0, .any, .any, .any, .p (i64 (n * 2 ^ k : Nat)), .any, .any, .any, .any, .any, .any, .any, .any, .p (i64 (levelsOf (leafD l n)).length), .p (i64 k), .any, .any, .any, .any, .any, .any, .any, .any, .any, .any, .any, .any, .any, .any, .any, .any, .any, .any, .any, .any, .any, .any, .any, .any, .any, .any, .any, .any, .any, .any, .any, .any, .any, .any, .any, .any, .any, .any, .any, .any, .any, .any, .any, .any, .any, .any, .any, .any, .any, .any, .any, .any, .any, .any, .any, .any, .any, .any], [⟨26, [.p (i64 (l.length : Int)), .p (i64 (n : Int)), .p (lvls (levelsOf (leafD l n)))]⟩, ⟨26, [.p (i64 (m.length : Int)), .p (i64 (n : Int)), .p (lvls (levelsOf (leafD m n)))]⟩], []⟩) (fun k => (levelsOf (leafD l n)).length - k) 0 (by exact ⟨Nat.zero_le _, fun q hq => by omega⟩) (wk_le ⟨rfl, leL_a (leL_a (leL_r (by first | rfl | (simp)) (leL_r (by first | rfl | (simp)) (leL_r (by first | rfl | (simp)) (leL_r (by first | rfl | (simp)) (leL_a (leL_a (leL_a (leL_r (by first | rfl | (simp)) (leL_a (leL_a (leL_a (leL_a (leL_a (leL_a (leL_a (leL_a (leL_r (by first | rfl | (simp)) (leL_r (by first | rfl | (simp)) (leL_a (leL_a (leL_a (leL_a (leL_a (leL_a (leL_a (leL_a (leL_a (leL_a (leL_a (leL_a (leL_a (leL_a (leL_a (leL_a (leL_a (leL_a (leL_a (leL_a (leL_a (leL_a (leL_a (leL_a (leL_a (leL_a (leL_a (leL_a (leL_a (leL_a (leL_a (leL_a (leL_a (leL_a (leL_a (leL_a (leL_a (leL_a (leL_a (leL_a (leL_a (leL_a (leL_a (leL_a (leL_a (leL_a (leL_a (leL_a (leL_a (leL_a (leL_a (leL_a (leL_a (leL_a (leL_a (leL_a (leL_a (leL_a (leL_nil)))))))))))))))))))))))))))))))))))))))))))))))))))))))))))))))))))))))))))))), (leB_r rfl (leL_r (by first | rfl | (simp)) (leL_r (by first | rfl | (simp)) (leL_r (by first | rfl | (simp)) (leL_nil)))) (leB_r rfl (leL_r (by first | rfl | (simp)) (leL_r (by first | rfl | (simp)) (leL_r (by first | rfl | (simp)) (leL_nil)))) (leB_nil _))), (leV_nil _), rfl, rfl⟩) ?_
  rintro k ⟨hk, hno⟩
  have hw0 := wide_le (i := 0) hn.2 (show k ≤ 13 by omega) (by omega)
  refine aw_seq ?_
  refine aw_regK hX hb [0] rfl (σ' := ?s4) (fun K hK => ?h4) ?n4
  case h4 =>
    (refine st_op rfl (by simp (disch := omega) only [stepf,callOf,qop,fop,St.ev,St.put,cd,zd,Value.oneCell',tb_T,TypeDesc.aggB,getD_0,getD_s,Ze,Zd,Zc,Za,Zb,Zr,ZE,ZF,Zf,Zq,Zg,i64_w,Zt,Zs,qBin,iop,t3,ti3,Zh,map_at_l,map_at_i,mul_cast,secCells_length,min_nat,min_nat2] <;> exact rfl) ?_)
    refine aops_nil ?_
    exact hK
  refine exq_n ?_
  refine aw_seq ?_
  refine aw_cond _ rfl (fun hc0 => ?_) (fun hc0 => ?_)
  · try simp only [Zp,Zi,ZK,ZJ,ne_eq,Zn,Zm,ZB,ZA,ZI,not_or,not_and,Zu] at hc0
    have hsm : ((levelsOf (leafD l n)).getD k []).length ≤ 4096 := lvB_small h.2 hn.1 k
    have hak : ((levelsOf (leafD m n)).getD k []).length = ((levelsOf (leafD l n)).getD k []).length := (lvB_alike hm).2 k
    refine aw_skip ?_
    refine exq_n ?_
    refine aw_seq ?_
    refine aw_block ?_
    refine aw_seq ?_
    refine aw_regK hX hb [0, 1] rfl (σ' := ?s5) (fun K hK => ?h5) ?n5
    case h5 =>
      iterate 2 (refine st_op rfl (by simp (disch := omega) only [stepf,callOf,qop,fop,St.ev,St.put,cd,zd,Value.oneCell',tb_T,TypeDesc.aggB,getD_0,getD_s,Ze,Zd,Zc,Za,Zb,Zr,ZE,ZF,Zf,Zq,Zg,i64_w,Zt,Zs,Zh,map_at_l,map_at_i,mul_cast,secCells_length,min_nat,min_nat2] <;> exact rfl) ?_)
      refine aops_nil ?_
      exact hK
    refine exq_n ?_
    refine aw_seq ?_
    refine aw_seq ?_
    refine aw_regK hX hb [0, 1, 2, 3, 4, 5, 6] rfl (σ' := ?s6) (fun K hK => ?h6) ?n6
    case h6 =>
      iterate 7 (refine st_op rfl (by simp (disch := omega) only [stepf,callOf,qop,fop,St.ev,St.put,cd,zd,Value.oneCell',tb_T,TypeDesc.aggB,getD_0,getD_s,Ze,Zd,Zc,Za,Zb,Zr,ZE,ZF,Zf,Zq,Zg,i64_w,Zt,Zs,qFieldAddr,fieldOf,Zl,Zo,Zv,Zw,Zj,Zk,Zx,Zy,qLoad,bload,pload,pureAll,D.pure?,ZC,ZD,Int.toNat_zero,Int.toNat_one,toNat_pred,toNat_succ,qIndexAddr,ZO,Nat.mul_one,Nat.zero_mul,Zh,qLen,t2,ti2,t3,ti3,t4,ti4,t5,ti5,t22,ti22,t24,ti24,t26,ti26,t50,ti50,t58,ti58,t60,ti60,map_at_l,map_at_i,mul_cast,secCells_length,min_nat,min_nat2] <;> exact rfl) ?_)
      refine aops_nil ?_
      exact hK
    refine exq_n ?_
    refine aw_block ?_
    refine aw_loop (ι := Nat) (fun i => i ≤ ((levelsOf (leafD l n)).getD k []).length ∧ ∀ j, j < i → ¬ BadAt l m n k j) (fun i => ⟨[], [.any, .any, .p (secs l), .p (secs m), .ptr 0 0, .ptr 1 0, .any, .any, .any, .p (i64 (n * 2 ^ k : Nat)), .p (i64 k), .any, .any, .any, .any, .any, .any, .any, .p (i64 (levelsOf (leafD l n)).length), .p (i64 k), .any, .any, .any, .any, .any, .any, .any, .p (i64 ((levelsOf (leafD l n)).getD k []).length), .p (i64 i), .any, .any, .any, .any, .any, .any, .any, .any, .any, .any, .any, .any, .any, .any, .any, .any, .any, .any, .any, .any, .any, .any, .any, .any, .any, .any, .any, .any, .any, .any, .any, .any, .any, .any, .any, .any, .any, .any, .any, .any, .any, .any, .any, .any, .any, .any, .any, .any, .any], [⟨26, [.p (i64 (l.length : Int)), .p (i64 (n : Int)), .p (lvls (levelsOf (leafD l n)))]⟩, ⟨26, [.p (i64 (m.length : Int)), .p (i64 (n : Int)), .p (lvls (levelsOf (leafD m n)))]⟩], []⟩) (fun i => ((levelsOf (leafD l n)).getD k []).length - i) 0 (by exact ⟨Nat.zero_le _, fun j hj => by omega⟩) (wk_le ⟨rfl, leL_a (leL_a (leL_r rfl (leL_r rfl (leL_r rfl (leL_r rfl (leL_a (leL_a (leL_a (leL_r rfl (leL_r rfl (leL_a (leL_a (leL_a (leL_a (leL_a (leL_a (leL_a (leL_r rfl (leL_r rfl (leL_a (leL_a (leL_a (leL_a (leL_a (leL_a (leL_a (leL_r rfl (leL_r rfl (leL_a (leL_a (leL_a (leL_a (leL_a (leL_a (leL_a (leL_a (leL_a (leL_a (leL_a (leL_a (leL_a (leL_a (leL_a (leL_a (leL_a (leL_a (leL_a (leL_a (leL_a (leL_a (leL_a (leL_a (leL_a (leL_a (leL_a (leL_a (leL_a (leL_a (leL_a (leL_a (leL_a (leL_a (leL_a (leL_a (leL_a (leL_a (leL_a (leL_a (leL_a (leL_a (leL_a (leL_a (leL_a (leL_a (leL_a (leL_a (leL_a (leL_nil)))))))))))))))))))))))))))))))))))))))))))))))))))))))))))))))))))))))))))))), (leB_r rfl (leL_r rfl (leL_r rfl (leL_r rfl (leL_nil)))) (leB_r rfl (leL_r rfl (leL_r rfl (leL_r rfl (leL_nil)))) (leB_nil _))), (leV_nil _), rfl, rfl⟩) ?_
    rintro i ⟨hi, hni⟩
    refine aw_seq ?_
    refine aw_regK hX hb [0] rfl (σ' := ?s7) (fun K hK => ?h7) ?n7
    case h7 =>
      (refine st_op rfl (by simp (disch := omega) only [stepf,callOf,qop,fop,St.ev,St.put,cd,zd,Value.oneCell',tb_T,TypeDesc.aggB,getD_0,getD_s,Ze,Zd,Zc,Za,Zb,Zr,ZE,ZF,Zf,Zq,Zg,i64_w,Zt,Zs,qBin,iop,t3,ti3,t27,ti27,Zh,map_at_l,map_at_i,mul_cast,secCells_length,min_nat,min_nat2] <;> exact rfl) ?_)
      refine aops_nil ?_
      exact hK
    refine exq_n ?_
    refine aw_seq ?_
    refine aw_cond _ rfl (fun hc1 => ?_) (fun hc1 => ?_)
    · try simp only [Zp,Zi,ZK,ZJ,ne_eq,Zn,Zm,ZB,ZA,ZI,not_or,not_and,Zu] at hc1
      have hwi := wide_le (i := i) hn.2 (show k ≤ 13 by omega) (by omega)
      refine aw_skip ?_
      refine exq_n ?_
      refine aw_seq ?_
      refine aw_block ?_
      refine aw_seq ?_
      refine aw_regK hX hb [0, 1] rfl (σ' := ?s8) (fun K hK => ?h8) ?n8
      case h8 =>
        iterate 2 (refine st_op rfl (by simp (disch := omega) only [stepf,callOf,qop,fop,St.ev,St.put,cd,zd,Value.oneCell',tb_T,TypeDesc.aggB,getD_0,getD_s,Ze,Zd,Zc,Za,Zb,Zr,ZE,ZF,Zf,Zq,Zg,i64_w,Zt,Zs,Zh,map_at_l,map_at_i,mul_cast,secCells_length,min_nat,min_nat2] <;> exact rfl) ?_)
        refine aops_nil ?_
        exact hK
      refine exq_n ?_
      refine aw_seq ?_
      refine aw_regK hX hb [0, 1, 2, 3, 4, 5, 6, 7, 8, 9, 10, 11, 12, 13, 14, 15] rfl (σ' := ?s9) (fun K hK => ?h9) ?n9
      case h9 =>
        iterate 16 (refine st_op rfl (by simp (disch := omega) only [stepf,callOf,qop,fop,St.ev,St.put,cd,zd,Value.oneCell',tb_T,TypeDesc.aggB,getD_0,getD_s,Ze,Zd,Zc,Za,Zb,Zr,ZE,ZF,Zf,Zq,Zg,i64_w,Zt,Zs,qLen,qBin,iop,min_ite,t2,ti2,t3,ti3,t5,ti5,t22,ti22,t35,ti35,t40,ti40,t50,ti50,Zh,map_at_l,map_at_i,mul_cast,secCells_length,min_nat,min_nat2] <;> exact rfl) ?_)
        refine aops_nil ?_
        exact hK
      refine exq_n ?_
      refine aw_seq ?_
      refine aw_regDJ hX hb (try_mixed hP) [(0, true), (1, true), (2, true), (3, true), (4, true), (5, true), (6, true), (7, true), (8, true), (9, true), (10, true), (11, true), (12, true), (13, true), (14, true), (15, true), (16, true), (17, true), (18, true), (19, true), (20, true), (21, true), (22, true), (23, true), (24, true), (25, true), (26, false), (27, true), (28, true)] (by kernel_rfl) (ts := [45, 46, 47, 48, 49, 50, 51, 52, 53, 54, 55, 56, 57, 58, 59, 60, 61, 62, 63, 64, 65, 66, 67, 68, 69, 70, 71, 72]) (t := 73) (d := .p (bv (BadAt l m n k i))) (σ' := ?s10) ?j10 ?h10 ?n10
      case j10 => simp only [St.join,List.foldl,Za,Zb]; exact rfl
      case h10 =>
        iterate 18 (all_goals refine sd_q rfl (by simp (disch := omega) only [qop,fop,St.ev,St.put,cd,zd,Value.oneCell',tb_T,TypeDesc.aggB,getD_0,getD_s,Ze,Zd,Zc,Za,Zb,Zr,ZE,ZF,Zf,Zq,Zg,i64_w,Zt,Zs,qFieldAddr,fieldOf,Zl,Zo,Zv,Zw,Zj,Zk,Zx,Zy,qLoad,bload,pload,pureAll,D.pure?,ZC,ZD,Int.toNat_zero,Int.toNat_one,toNat_pred,toNat_succ,qIndexAddr,ZO,Nat.mul_one,Nat.zero_mul,Zh,qBin,iop,imp_self,Nat.one_mul,qSlice,bnd,Option.isSome_none,ZP,Option.map_none,implies_true,forall_const,Nat.sub_zero,pvAll,D.pv?,Bool.not_true,Bool.not_false,t2,ti2,t3,ti3,t4,ti4,t5,ti5,t22,ti22,t24,ti24,t26,ti26,t47,ti47,t50,ti50,t54,ti54,t58,ti58,t60,ti60,t63,ti63,t69,ti69,t71,ti71,map_at_l,map_at_i,mul_cast,secCells_length,min_nat,min_nat2] <;> exact rfl) (by simp only [St.put,Za,Zb] <;> exact rfl) ?_)
        iterate 8 (all_goals first | (refine sd_g1 rfl rfl rfl (by simp (disch := omega) only [qop,fop,St.ev,St.put,cd,zd,Value.oneCell',tb_T,TypeDesc.aggB,getD_0,getD_s,Ze,Zd,Zc,Za,Zb,Zr,ZE,ZF,Zf,Zq,Zg,i64_w,Zt,Zs,qFieldAddr,fieldOf,Zl,Zo,Zv,Zw,Zj,Zk,Zx,Zy,qLoad,bload,pload,pureAll,D.pure?,ZC,ZD,Int.toNat_zero,Int.toNat_one,toNat_pred,toNat_succ,qIndexAddr,ZO,Nat.mul_one,Nat.zero_mul,Zh,qBin,iop,imp_self,Nat.one_mul,qSlice,bnd,Option.isSome_none,ZP,Option.map_none,implies_true,forall_const,Nat.sub_zero,pvAll,D.pv?,Bool.not_true,Bool.not_false,t2,ti2,t3,ti3,t4,ti4,t5,ti5,t22,ti22,t24,ti24,t26,ti26,t47,ti47,t50,ti50,t54,ti54,t58,ti58,t60,ti60,t63,ti63,t69,ti69,t71,ti71,map_at_l,map_at_i,mul_cast,secCells_length,min_nat,min_nat2] <;> exact rfl) rfl (by simp only [St.put,Za,Zb] <;> exact rfl) ?_) | (first | (refine sd_g0 rfl rfl rfl (by simp only [St.put,Za,Zb] <;> exact rfl) ?_) | (refine sd_gu rfl rfl rfl (by simp only [St.put,Za,Zb] <;> exact rfl) ?_)) | (refine sd_split rfl rfl rfl (by simp only [Za,Zb] <;> exact rfl) (by simp only [Za,Zb] <;> exact rfl) (fun hg => ?_) (fun hg => ?_) <;> (try simp only [Zp,Zi,ZJ,ZK,ne_eq,Zn,Zm,Bool.not_eq_true,Zu] at hg) <;> first | (refine sd_g1 rfl rfl rfl (by simp (disch := omega) only [qop,fop,St.ev,St.put,cd,zd,Value.oneCell',tb_T,TypeDesc.aggB,getD_0,getD_s,Ze,Zd,Zc,Za,Zb,Zr,ZE,ZF,Zf,Zq,Zg,i64_w,Zt,Zs,qFieldAddr,fieldOf,Zl,Zo,Zv,Zw,Zj,Zk,Zx,Zy,qLoad,bload,pload,pureAll,D.pure?,ZC,ZD,Int.toNat_zero,Int.toNat_one,toNat_pred,toNat_succ,qIndexAddr,ZO,Nat.mul_one,Nat.zero_mul,Zh,qBin,iop,imp_self,Nat.one_mul,qSlice,bnd,Option.isSome_none,ZP,Option.map_none,implies_true,forall_const,Nat.sub_zero,pvAll,D.pv?,Bool.not_true,Bool.not_false,t2,ti2,t3,ti3,t4,ti4,t5,ti5,t22,ti22,t24,ti24,t26,ti26,t47,ti47,t50,ti50,t54,ti54,t58,ti58,t60,ti60,t63,ti63,t69,ti69,t71,ti71,map_at_l,map_at_i,mul_cast,secCells_length,min_nat,min_nat2] <;> exact rfl) rfl (by simp only [St.put,Za,Zb] <;> exact rfl) ?_) | (first | (refine sd_g0 rfl rfl rfl (by simp only [St.put,Za,Zb] <;> exact rfl) ?_) | (refine sd_gu rfl rfl rfl (by simp only [St.put,Za,Zb] <;> exact rfl) ?_))))
        all_goals first | (refine sd_gc rfl rfl rfl (by simp only [callOf,St.ev,getD_0,getD_s,pvAll,D.pv?,ZG,ZH,zd,cd,Value.oneCell',Zr] <;> exact rfl) (acK hP (k33 l m (n * 2 ^ k) i _ _ (sec_partN l _ i _ _ rfl rfl) (sec_partN m _ i _ _ (by rw [hm]) (by rw [hm])))) (by simp only [St.put,Za,Zb] <;> exact rfl) ?_) | (first | (refine sd_g0 rfl rfl rfl (by simp only [St.put,Za,Zb] <;> exact rfl) ?_) | (refine sd_gu rfl rfl rfl (by simp only [St.put,Za,Zb] <;> exact rfl) ?_)) | (refine sd_split rfl rfl rfl (by simp only [Za,Zb] <;> exact rfl) (by simp only [Za,Zb] <;> exact rfl) (fun hg => ?_) (fun hg => ?_) <;> (try simp only [Zp,Zi,ZJ,ZK,ne_eq,Zn,Zm,Bool.not_eq_true,Zu] at hg) <;> first | (refine sd_gc rfl rfl rfl (by simp only [callOf,St.ev,getD_0,getD_s,pvAll,D.pv?,ZG,ZH,zd,cd,Value.oneCell',Zr] <;> exact rfl) (acK hP (k33 l m (n * 2 ^ k) i _ _ (sec_partN l _ i _ _ rfl rfl) (sec_partN m _ i _ _ (by rw [hm]) (by rw [hm])))) (by simp only [St.put,Za,Zb] <;> exact rfl) ?_) | (first | (refine sd_g0 rfl rfl rfl (by simp only [St.put,Za,Zb] <;> exact rfl) ?_) | (refine sd_gu rfl rfl rfl (by simp only [St.put,Za,Zb] <;> exact rfl) ?_)))
        (all_goals first | (refine sd_g1 rfl rfl rfl (by simp (disch := omega) only [qop,fop,St.ev,St.put,cd,zd,Value.oneCell',tb_T,TypeDesc.aggB,getD_0,getD_s,Ze,Zd,Zc,Za,Zb,Zr,ZE,ZF,Zf,Zq,Zg,i64_w,Zt,Zs,qFieldAddr,fieldOf,Zl,Zo,Zv,Zw,Zj,Zk,Zx,Zy,qLoad,bload,pload,pureAll,D.pure?,ZC,ZD,Int.toNat_zero,Int.toNat_one,toNat_pred,toNat_succ,qIndexAddr,ZO,Nat.mul_one,Nat.zero_mul,Zh,qBin,iop,imp_self,Nat.one_mul,qSlice,bnd,Option.isSome_none,ZP,Option.map_none,implies_true,forall_const,Nat.sub_zero,pvAll,D.pv?,Bool.not_true,Bool.not_false,t2,ti2,t3,ti3,t4,ti4,t5,ti5,t22,ti22,t24,ti24,t26,ti26,t47,ti47,t50,ti50,t54,ti54,t58,ti58,t60,ti60,t63,ti63,t69,ti69,t71,ti71,map_at_l,map_at_i,mul_cast,secCells_length,min_nat,min_nat2] <;> exact rfl) rfl (by simp only [St.put,Za,Zb] <;> exact rfl) ?_) | (first | (refine sd_g0 rfl rfl rfl (by simp only [St.put,Za,Zb] <;> exact rfl) ?_) | (refine sd_gu rfl rfl rfl (by simp only [St.put,Za,Zb] <;> exact rfl) ?_)) | (refine sd_split rfl rfl rfl (by simp only [Za,Zb] <;> exact rfl) (by simp only [Za,Zb] <;> exact rfl) (fun hg => ?_) (fun hg => ?_) <;> (try simp only [Zp,Zi,ZJ,ZK,ne_eq,Zn,Zm,Bool.not_eq_true,Zu] at hg) <;> first | (refine sd_g1 rfl rfl rfl (by simp (disch := omega) only [qop,fop,St.ev,St.put,cd,zd,Value.oneCell',tb_T,TypeDesc.aggB,getD_0,getD_s,Ze,Zd,Zc,Za,Zb,Zr,ZE,ZF,Zf,Zq,Zg,i64_w,Zt,Zs,qFieldAddr,fieldOf,Zl,Zo,Zv,Zw,Zj,Zk,Zx,Zy,qLoad,bload,pload,pureAll,D.pure?,ZC,ZD,Int.toNat_zero,Int.toNat_one,toNat_pred,toNat_succ,qIndexAddr,ZO,Nat.mul_one,Nat.zero_mul,Zh,qBin,iop,imp_self,Nat.one_mul,qSlice,bnd,Option.isSome_none,ZP,Option.map_none,implies_true,forall_const,Nat.sub_zero,pvAll,D.pv?,Bool.not_true,Bool.not_false,t2,ti2,t3,ti3,t4,ti4,t5,ti5,t22,ti22,t24,ti24,t26,ti26,t47,ti47,t50,ti50,t54,ti54,t58,ti58,t60,ti60,t63,ti63,t69,ti69,t71,ti71,map_at_l,map_at_i,mul_cast,secCells_length,min_nat,min_nat2] <;> exact rfl) rfl (by simp only [St.put,Za,Zb] <;> exact rfl) ?_) | (first | (refine sd_g0 rfl rfl rfl (by simp only [St.put,Za,Zb] <;> exact rfl) ?_) | (refine sd_gu rfl rfl rfl (by simp only [St.put,Za,Zb] <;> exact rfl) ?_))))
        (all_goals refine sd_q rfl (by simp (disch := omega) only [qop,fop,St.ev,St.put,cd,zd,Value.oneCell',tb_T,TypeDesc.aggB,getD_0,getD_s,Ze,Zd,Zc,Za,Zb,Zr,ZE,ZF,Zf,Zq,Zg,i64_w,Zt,Zs,qFieldAddr,fieldOf,Zl,Zo,Zv,Zw,Zj,Zk,Zx,Zy,qLoad,bload,pload,pureAll,D.pure?,ZC,ZD,Int.toNat_zero,Int.toNat_one,toNat_pred,toNat_succ,qIndexAddr,ZO,Nat.mul_one,Nat.zero_mul,Zh,qBin,iop,imp_self,Nat.one_mul,qSlice,bnd,Option.isSome_none,ZP,Option.map_none,implies_true,forall_const,Nat.sub_zero,pvAll,D.pv?,Bool.not_true,Bool.not_false,t2,ti2,t3,ti3,t4,ti4,t5,ti5,t22,ti22,t24,ti24,t26,ti26,t47,ti47,t50,ti50,t54,ti54,t58,ti58,t60,ti60,t63,ti63,t69,ti69,t71,ti71,map_at_l,map_at_i,mul_cast,secCells_length,min_nat,min_nat2] <;> exact rfl) (by simp only [St.put,Za,Zb] <;> exact rfl) ?_)
        all_goals refine aopsd_nil ?_
        all_goals refine ⟨rfl, ?_, leB_self _, leV_self _, rfl, rfl⟩
        all_goals repeat' (first | exact leL_nil | refine leL_a ?_ | refine leL_r rfl ?_ | refine leL_r ?_ ?_)
        all_goals refine jn ?_
        all_goals ((simp only [BadAt,Zp,Zi,ZJ,ZK,Bool.not_eq_true,Zm,ne_eq,Zf,ZB,ZA] at *) <;> simp_all)
      refine exq_n ?_
      refine aw_cond _ rfl (fun hc2 => ?_) (fun hc2 => ?_)
      · try simp only [Zp,Zi,ZK,ZJ,ne_eq,Zn,Zm,ZB,ZA,ZI,not_or,not_and,Zu] at hc2
        refine aw_seq ?_
        refine aw_regK hX hb [0] rfl (σ' := ?s11) (fun K hK => ?h11) ?n11
        case h11 =>
          (refine st_op rfl (by simp (disch := omega) only [stepf,callOf,qop,fop,St.ev,St.put,cd,zd,Value.oneCell',tb_T,TypeDesc.aggB,getD_0,getD_s,Ze,Zd,Zc,Za,Zb,Zr,ZE,ZF,Zf,Zq,Zg,i64_w,Zt,Zs,Zh,map_at_l,map_at_i,mul_cast,secCells_length,min_nat,min_nat2] <;> exact rfl) ?_)
          refine aops_nil ?_
          exact hK
        refine exq_n ?_
        refine aw_ret ?_
        refine exb_r ?_
        refine exq_r ?_
        refine exq_r ?_
        refine exb_r ?_
        refine exq_r ?_
        refine exb_r ?_
        refine exq_r ?_
        refine exq_r ?_
        refine exb_r ?_
        refine exq_r ?_
        exact ret_r rfl (resOf_one rfl (by first | rfl | (first | exact jt ⟨k, (show k < (levelsOf (leafD l n)).length by omega), i, (show i < ((levelsOf (leafD l n)).getD k []).length by omega), hc2⟩ | (refine jf ?_; rintro ⟨q, hq, i, hi, hb⟩; exact hno q (Nat.lt_of_lt_of_le hq (show (levelsOf (leafD l n)).length ≤ k by omega)) i hi hb))))
      · try simp only [Zp,Zi,ZK,ZJ,ne_eq,Zn,Zm,ZB,ZA,ZI,not_or,not_and,Zu] at hc2
        refine aw_skip ?_
        refine exb_n ?_
        refine exq_n ?_
        refine aw_regK hX hb [0, 1] rfl (σ' := ?s12) (fun K hK => ?h12) ?n12
        case h12 =>
          iterate 2 (refine st_op rfl (by simp (disch := omega) only [stepf,callOf,qop,fop,St.ev,St.put,cd,zd,Value.oneCell',tb_T,TypeDesc.aggB,getD_0,getD_s,Ze,Zd,Zc,Za,Zb,Zr,ZE,ZF,Zf,Zq,Zg,i64_w,Zt,Zs,qBin,iop,t1,ti1,t3,ti3,Zh,map_at_l,map_at_i,mul_cast,secCells_length,min_nat,min_nat2] <;> exact rfl) ?_)
          refine aops_nil ?_
          exact hK
        refine exq_n ?_
        exact ⟨i + 1, by refine ⟨by omega, fun j hj => ?_⟩; rcases Nat.lt_or_eq_of_le (show j ≤ i by omega) with hj1 | rfl; exact hni j hj1; exact hc2, by (try dsimp only); omega, wk_le ⟨rfl, leL_a (leL_a (leL_r rfl (leL_r rfl (leL_r rfl (leL_r rfl (leL_a (leL_a (leL_a (leL_r rfl (leL_r rfl (leL_a (leL_a (leL_a (leL_a (leL_a (leL_a (leL_a (leL_r rfl (leL_r rfl (leL_a (leL_a (leL_a (leL_a (leL_a (leL_a (leL_a (leL_r rfl (leL_r rfl (leL_a (leL_a (leL_a (leL_a (leL_a (leL_a (leL_a (leL_a (leL_a (leL_a (leL_a (leL_a (leL_a (leL_a (leL_a (leL_a (leL_a (leL_a (leL_a (leL_a (leL_a (leL_a (leL_a (leL_a (leL_a (leL_a (leL_a (leL_a (leL_a (leL_a (leL_a (leL_a (leL_a (leL_a (leL_a (leL_a (leL_a (leL_a (leL_a (leL_a (leL_a (leL_a (leL_a (leL_a (leL_a (leL_a (leL_a (leL_a (leL_a (leL_nil)))))))))))))))))))))))))))))))))))))))))))))))))))))))))))))))))))))))))))))), (leB_r rfl (leL_r rfl (leL_r rfl (leL_r rfl (leL_nil)))) (leB_r rfl (leL_r rfl (leL_r rfl (leL_r rfl (leL_nil)))) (leB_nil _))), (leV_nil _), rfl, rfl⟩⟩
    · try simp only [Zp,Zi,ZK,ZJ,ne_eq,Zn,Zm,ZB,ZA,ZI,not_or,not_and,Zu] at hc1
      obtain rfl : i = ((levelsOf (leafD l n)).getD k []).length := by omega
      have hw1 := (wide_le (i := 0) hn.2 (show k + 1 ≤ 13 by omega) (by omega)).1
      refine aw_exit ?_
      refine exq_e ?_
      refine exq_e ?_
      refine exb_h ?_
      refine exq_n ?_
      refine aw_regK hX hb [0, 1, 2] rfl (σ' := ?s13) (fun K hK => ?h13) ?n13
      case h13 =>
        iterate 3 (refine st_op rfl (by simp (disch := omega) only [stepf,callOf,qop,fop,St.ev,St.put,cd,zd,Value.oneCell',tb_T,TypeDesc.aggB,getD_0,getD_s,Ze,Zd,Zc,Za,Zb,Zr,ZE,ZF,Zf,Zq,Zg,i64_w,Zt,Zs,qBin,iop,t2,ti2,t3,ti3,t4,ti4,t24,ti24,t26,ti26,t35,ti35,t40,ti40,t58,ti58,t60,ti60,t75,ti75,Zh,map_at_l,map_at_i,mul_cast,secCells_length,min_nat,min_nat2,two_mul_pow] <;> exact rfl) ?_)
        refine aops_nil ?_
        exact hK
      refine exb_n ?_
      refine exq_n ?_
      refine aw_regK hX hb [0, 1] rfl (σ' := ?s14) (fun K hK => ?h14) ?n14
      case h14 =>
        iterate 2 (refine st_op rfl (by simp (disch := omega) only [stepf,callOf,qop,fop,St.ev,St.put,cd,zd,Value.oneCell',tb_T,TypeDesc.aggB,getD_0,getD_s,Ze,Zd,Zc,Za,Zb,Zr,ZE,ZF,Zf,Zq,Zg,i64_w,Zt,Zs,qBin,iop,t1,ti1,t3,ti3,t5,ti5,t77,ti77,t87,ti87,t88,ti88,t90,ti90,Zh,map_at_l,map_at_i,mul_cast,secCells_length,min_nat,min_nat2] <;> exact rfl) ?_)
        refine aops_nil ?_
        exact hK
      refine exq_n ?_
      exact ⟨k + 1, by refine ⟨by omega, fun q hq => ?_⟩; rcases Nat.lt_or_eq_of_le (show q ≤ k by omega) with hq1 | rfl; exact hno q hq1; exact hni, by (try dsimp only); omega, wk_le ⟨rfl, leL_a (leL_a (leL_r (by first | rfl | (simp)) (leL_r (by first | rfl | (simp)) (leL_r (by first | rfl | (simp)) (leL_r (by first | rfl | (simp)) (leL_a (leL_a (leL_a (leL_r (by first | rfl | (simp)) (leL_a (leL_a (leL_a (leL_a (leL_a (leL_a (leL_a (leL_a (leL_r (by first | rfl | (simp)) (leL_r (by first | rfl | (simp)) (leL_a (leL_a (leL_a (leL_a (leL_a (leL_a (leL_a (leL_a (leL_a (leL_a (leL_a (leL_a (leL_a (leL_a (leL_a (leL_a (leL_a (leL_a (leL_a (leL_a (leL_a (leL_a (leL_a (leL_a (leL_a (leL_a (leL_a (leL_a (leL_a (leL_a (leL_a (leL_a (leL_a (leL_a (leL_a (leL_a (leL_a (leL_a (leL_a (leL_a (leL_a (leL_a (leL_a (leL_a (leL_a (leL_a (leL_a (leL_a (leL_a (leL_a (leL_a (leL_a (leL_a (leL_a (leL_a (leL_a (leL_a (leL_a (leL_nil)))))))))))))))))))))))))))))))))))))))))))))))))))))))))))))))))))))))))))))), (leB_r rfl (leL_r (by first | rfl | (simp)) (leL_r (by first | rfl | (simp)) (leL_r (by first | rfl | (simp)) (leL_nil)))) (leB_r rfl (leL_r (by first | rfl | (simp)) (leL_r (by first | rfl | (simp)) (leL_r (by first | rfl | (simp)) (leL_nil)))) (leB_nil _))), (leV_nil _), rfl, rfl⟩⟩
  · try simp only [Zp,Zi,ZK,ZJ,ne_eq,Zn,Zm,ZB,ZA,ZI,not_or,not_and,Zu] at hc0
    refine aw_exit ?_
    refine exq_e ?_
    refine exq_e ?_
    refine exb_h ?_
    refine exq_n ?_
    refine aw_seq ?_
    refine aw_regK hX hb [0] rfl (σ' := ?s15) (fun K hK => ?h15) ?n15
    case h15 =>
      (refine st_op rfl (by simp (disch := omega) only [stepf,callOf,qop,fop,St.ev,St.put,cd,zd,Value.oneCell',tb_T,TypeDesc.aggB,getD_0,getD_s,Ze,Zd,Zc,Za,Zb,Zr,ZE,ZF,Zf,Zq,Zg,i64_w,Zt,Zs,Zh,map_at_l,map_at_i,mul_cast,secCells_length,min_nat,min_nat2] <;> exact rfl) ?_)
      refine aops_nil ?_
      exact hK
    refine exq_n ?_
    refine aw_ret ?_
    exact ret_r rfl (resOf_one rfl (by first | rfl | (first | exact jt ⟨k, (show k < (levelsOf (leafD l n)).length by omega), i, (show i < ((levelsOf (leafD l n)).getD k []).length by omega), hc2⟩ | (refine jf ?_; rintro ⟨q, hq, i, hi, hb⟩; exact hno q (Nat.lt_of_lt_of_le hq (show (levelsOf (leafD l n)).length ≤ k by omega)) i hi hb))))
end Go.Proofs.Ytldcoekbgfaomaa
end
section
namespace Go.Proofs.Ytldcoekbgfaomaa
open Go.RowKit
set_option maxRecDepth 20000
set_option maxHeartbeats 4000000
attribute [local irreducible] AOps AOpsD AW
/-- What is marked of L places. -/
def markL (L : Nat) (p : Nat → Bool) : List P1 := (List.range L).map fun s => bv (p s)
theorem markL_length (L : Nat) (p : Nat → Bool) : (markL L p).length = L := by simp [markL]
theorem markL_at {L s : Nat} (p : Nat → Bool) (h : s < L) : (markL L p)[s]? = some (bv (p s)) := by simp [markL, h]
theorem markL_congr {L : Nat} {p q : Nat → Bool} (h : ∀ s, s < L → p s = q s) : markL L p = markL L q := List.map_congr_left fun s hs => by rw [h s (List.mem_range.1 hs)]
theorem markL_start (L : Nat) : List.replicate L (bv false) = markL L (covL []) := by
  apply List.ext_getElem?
  intro s
  by_cases h : s < L
  · rw [markL_at _ h, List.getElem?_replicate, if_pos h]; rfl
  · rw [List.getElem?_eq_none (by simp; omega), List.getElem?_eq_none (by simp [markL]; omega)]
theorem markL_in (L : Nat) (p : Nat → Bool) (a : Nat) : markL L p = markL L (fun s => p s || decide (a ≤ s ∧ s < a + 0)) := markL_congr fun s _ => by
  rw [decide_eq_false (by omega), Bool.or_false]
theorem markL_set {L : Nat} (p : Nat → Bool) {a z : Nat} (h : a + z < L) : (markL L (fun s => p s || decide (a ≤ s ∧ s < a + z))).take (a + z) ++ [bv true] ++ (markL L (fun s => p s || decide (a ≤ s ∧ s < a + z))).drop (a + z + 1) = markL L (fun s => p s || decide (a ≤ s ∧ s < a + (z + 1))) := by
  rw [splice1 _ _ _ (by rw [markL_length]; exact h)]
  apply List.ext_getElem?
  intro s
  rw [List.getElem?_set, markL_length]
  by_cases h1 : a + z = s
  · subst h1
    rw [if_pos rfl, if_pos h, markL_at _ h, decide_eq_true (by omega), Bool.or_true]
  · rw [if_neg h1]
    by_cases h2 : s < L
    · rw [markL_at _ h2, markL_at _ h2, decide_eq_decide.2 (show (a ≤ s ∧ s < a + z) ↔ (a ≤ s ∧ s < a + (z + 1)) by omega)]
    · rw [List.getElem?_eq_none (by rw [markL_length]; omega), List.getElem?_eq_none (by rw [markL_length]; omega)]
theorem markL_out {L : Nat} {es : List (Int × Int)} {j a c : Nat} (hj : j < es.length) (he : es.getD j (0, 0) = ((a : Int), (c : Int))) : markL L (fun s => covL (es.take j) s || decide (a ≤ s ∧ s < a + c)) = markL L (covL (es.take (j + 1))) := markL_congr fun s _ => by
  rw [getD_take_succ_e es j hj, he]
  simp only [covL,List.any_append,List.any_cons,List.any_nil,Bool.or_false]
  congr 1
  apply decide_eq_decide.2
  omega
theorem ext_nat {es : List (Int × Int)} {L : Nat} (h : ∀ e ∈ es, 0 ≤ e.1 ∧ 1 ≤ e.2 ∧ e.1 + e.2 ≤ (L : Int)) {j : Nat} (hj : j < es.length) : ∃ a c : Nat, es.getD j (0, 0) = ((a : Int), (c : Int)) ∧ 1 ≤ c ∧ a + c ≤ L := by
  have := h _ (getD_mem es (0, 0) j hj)
  generalize es.getD j (0, 0) = e at *
  obtain ⟨u, v⟩ := e
  dsimp only at this
  exact ⟨u.toNat, v.toNat, by rw [Int.toNat_of_nonneg (by omega), Int.toNat_of_nonneg (by omega)], by omega, by omega⟩
theorem k22b (l : List (List Int)) (n : Nat) (h : 1 ≤ l.length ∧ l.length ≤ 4096) (hn : 1 ≤ n ∧ n ≤ 4096) : ACalls Try.prog 22 [.p (secs l), .p (i64 n)] (.tup [trP (bT l n), .p (i64 0)]) := by
  have := c22 l (n : Int)
  rwa [build_ok h hn] at this
theorem k27b (l m : List (List Int)) (n : Nat) (h : 1 ≤ l.length ∧ l.length ≤ 4096) (hn : 1 ≤ n ∧ n ≤ 4096) (hm : m.length = l.length) : ACalls Try.prog 27 [trP (bT l n), trP (bT m n)] (.tup [.p (exts (dE l m n)), .p (i64 0)]) := by
  have := c27 (bT l n) (bT m n)
  rwa [diff_bT h hn hm] at this
theorem c7 (l m : List (List Int)) (leaf : Int) (hleaf : 0 ≤ leaf ∧ leaf ≤ 255) : ACalls Try.prog 7 [.p (secs l), .p (secs m), .p (.v (.int .u8 leaf))] (.p (bv true)) := by
  obtain ⟨n, hn1, hn2, hnm⟩ := leaf_n hleaf
  refine acalls_of tb_ok Try.func7 (c := _) rfl (by kernel_rfl) ?_
  intro X hP hX hro hpl
  have hb : tb.Ok X.P := hP ▸ tb_ok
  change AW X _ _ ⟨[], [.p (secs l), .p (secs m), .p (.v (.int .u8 leaf)), .any, .any, .any, .any, .any, .any, .any, .any, .any, .any, .any, .any, .any, .any, .any, .any, .any, .any, .any, .any, .any, .any, .any, .any, .any, .any, .any, .any, .any, .any, .any, .any, .any, .any, .any, .any, .any, .any, .any, .any, .any, .any, .any, .any, .any, .any, .any, .any, .any, .any, .any, .any, .any, .any, .any, .any, .any, .any, .any, .any, .any, .any, .any, .any, .any, .any, .any, .any, .any, .any, .any, .any, .any, .any, .any, .any, .any, .any, .any, .any, .any, .any, .any, .any, .any, .any, .any, .any, .any, .any, .any, .any, .any, .any, .any, .any, .any, .any, .any, .any, .any, .any, .any, .any, .any, .any, .any, .any, .any, .any, .any, .any, .any, .any, .any, .any, .any, .any, .any, .any, .any, .any, .any, .any, .any, .any, .any, .any, .any, .any, .any, .any, .any, .any, .any, .any, .any, .any, .any, .any, .any, .any, .any, .any, .any, .any, .any, .any, .any, .any, .any, .any, .any, .any, .any, .any, .any, .any, .any, .any, .any, .any, .any, .any, .any, .any, .any, .any, .any, .any, .any, .any, .any, .any, .any, .any, .any, .any, .any, .any], [], []⟩
  refine aw_seq ?_
  refine aw_regK hX hb [0] rfl (σ' := ?s1) (fun K hK => ?h1) ?n1
  case h1 =>
    (refine st_op rfl (by simp (disch := omega) only [stepf,callOf,qop,fop,St.ev,St.put,cd,zd,Value.oneCell',tb_T,TypeDesc.aggB,getD_0,getD_s,Ze,Zd,Zc,Za,Zb,Zr,ZE,ZF,Zf,Zq,Zg,i64_w,Zt,Zs,Zh,map_at_l,map_at_i,mul_cast,bT_size,bT_leaf,bT_lv,secCells_length,extCells_length,extCells_at0,extCells_at1,extCells_part,markL_length,markL_at,List.take_length] <;> exact rfl) ?_)
    refine aops_nil ?_
    exact hK
  refine exq_n ?_
  refine aw_seq ?_
  refine aw_regK hX hb [0, 1, 2, 3, 4] rfl (σ' := ?s2) (fun K hK => ?h2) ?n2
  case h2 =>
    iterate 5 (refine st_op rfl (by simp (disch := omega) only [stepf,callOf,qop,fop,St.ev,St.put,cd,zd,Value.oneCell',tb_T,TypeDesc.aggB,getD_0,getD_s,Ze,Zd,Zc,Za,Zb,Zr,ZE,ZF,Zf,Zq,Zg,i64_w,Zt,Zs,qBin,iop,qConv,t1,ti1,t2,ti2,t3,ti3,t5,ti5,t24,ti24,t26,ti26,t27,ti27,t58,ti58,t60,ti60,Zh,map_at_l,map_at_i,mul_cast,bT_size,bT_leaf,bT_lv,secCells_length,extCells_length,extCells_at0,extCells_at1,extCells_part,markL_length,markL_at,List.take_length,hnm,Int.sub_add_cancel,not_twenty_zero,ne_eq,not_false_eq_true] <;> exact rfl) ?_)
    refine aops_nil ?_
    exact hK
  refine exq_n ?_
  refine aw_seq ?_
  refine aw_seq ?_
  refine aw_regJ hX hb [0, 1, 2, 3, 4, 5, 6, 7, 8, 9, 10, 11, 12, 13, 14] rfl (ts := [29, 30, 31, 32, 33, 34, 35, 36, 37, 38, 39, 40, 41, 42]) (t := 43) (d := .p (bv (l.length < 1 ∨ 100 < l.length ∨ l.length ≠ m.length))) (σ' := ?s3) ?j3 ?h3 ?n3
  case j3 => simp only [St.join,List.foldl,Za,Zb]; exact rfl
  case h3 =>
    iterate 4 (all_goals refine st_op rfl (by simp (disch := omega) only [stepf,callOf,qop,fop,St.ev,St.put,cd,zd,Value.oneCell',tb_T,TypeDesc.aggB,getD_0,getD_s,Ze,Zd,Zc,Za,Zb,Zr,ZE,ZF,Zf,Zq,Zg,i64_w,Zt,Zs,qLen,qBin,iop,t1,ti1,t3,ti3,t5,ti5,t22,ti22,t35,ti35,t40,ti40,t50,ti50,Zh,map_at_l,map_at_i,mul_cast,bT_size,bT_leaf,bT_lv,secCells_length,extCells_length,extCells_at0,extCells_at1,extCells_part,markL_length,markL_at,List.take_length] <;> exact rfl) ?_)
    iterate 3 (all_goals first | (refine st_g1 rfl rfl rfl (by simp (disch := omega) only [stepf,callOf,qop,fop,St.ev,St.put,cd,zd,Value.oneCell',tb_T,TypeDesc.aggB,getD_0,getD_s,Ze,Zd,Zc,Za,Zb,Zr,ZE,ZF,Zf,Zq,Zg,i64_w,Zt,Zs,qLen,qBin,iop,t1,ti1,t3,ti3,t5,ti5,t22,ti22,t35,ti35,t40,ti40,t50,ti50,Zh,map_at_l,map_at_i,mul_cast,bT_size,bT_leaf,bT_lv,secCells_length,extCells_length,extCells_at0,extCells_at1,extCells_part,markL_length,markL_at,List.take_length] <;> exact rfl) ?_) | (first | (refine st_g0 rfl rfl rfl (by simp only [St.put,Za,Zb] <;> exact rfl) ?_) | (refine st_gu rfl rfl rfl (by simp only [St.put,Za,Zb] <;> exact rfl) ?_)) | (refine st_split rfl rfl rfl (by simp only [Za,Zb] <;> exact rfl) (by simp only [Za,Zb] <;> exact rfl) (fun hg => ?_) (fun hg => ?_) <;> (try simp only [Zp,Zi,ZJ,ZK,ne_eq,Zn,Zm,Bool.not_eq_true,Zu] at hg) <;> first | (refine st_g1 rfl rfl rfl (by simp (disch := omega) only [stepf,callOf,qop,fop,St.ev,St.put,cd,zd,Value.oneCell',tb_T,TypeDesc.aggB,getD_0,getD_s,Ze,Zd,Zc,Za,Zb,Zr,ZE,ZF,Zf,Zq,Zg,i64_w,Zt,Zs,qLen,qBin,iop,t1,ti1,t3,ti3,t5,ti5,t22,ti22,t35,ti35,t40,ti40,t50,ti50,Zh,map_at_l,map_at_i,mul_cast,bT_size,bT_leaf,bT_lv,secCells_length,extCells_length,extCells_at0,extCells_at1,extCells_part,markL_length,markL_at,List.take_length] <;> exact rfl) ?_) | (first | (refine st_g0 rfl rfl rfl (by simp only [St.put,Za,Zb] <;> exact rfl) ?_) | (refine st_gu rfl rfl rfl (by simp only [St.put,Za,Zb] <;> exact rfl) ?_))))
    iterate 2 (all_goals refine st_op rfl (by simp (disch := omega) only [stepf,callOf,qop,fop,St.ev,St.put,cd,zd,Value.oneCell',tb_T,TypeDesc.aggB,getD_0,getD_s,Ze,Zd,Zc,Za,Zb,Zr,ZE,ZF,Zf,Zq,Zg,i64_w,Zt,Zs,qLen,qBin,iop,t1,ti1,t3,ti3,t5,ti5,t22,ti22,t35,ti35,t40,ti40,t50,ti50,Zh,map_at_l,map_at_i,mul_cast,bT_size,bT_leaf,bT_lv,secCells_length,extCells_length,extCells_at0,extCells_at1,extCells_part,markL_length,markL_at,List.take_length] <;> exact rfl) ?_)
    iterate 5 (all_goals first | (refine st_g1 rfl rfl rfl (by simp (disch := omega) only [stepf,callOf,qop,fop,St.ev,St.put,cd,zd,Value.oneCell',tb_T,TypeDesc.aggB,getD_0,getD_s,Ze,Zd,Zc,Za,Zb,Zr,ZE,ZF,Zf,Zq,Zg,i64_w,Zt,Zs,qLen,qBin,iop,t1,ti1,t3,ti3,t5,ti5,t22,ti22,t35,ti35,t40,ti40,t50,ti50,Zh,map_at_l,map_at_i,mul_cast,bT_size,bT_leaf,bT_lv,secCells_length,extCells_length,extCells_at0,extCells_at1,extCells_part,markL_length,markL_at,List.take_length] <;> exact rfl) ?_) | (first | (refine st_g0 rfl rfl rfl (by simp only [St.put,Za,Zb] <;> exact rfl) ?_) | (refine st_gu rfl rfl rfl (by simp only [St.put,Za,Zb] <;> exact rfl) ?_)) | (refine st_split rfl rfl rfl (by simp only [Za,Zb] <;> exact rfl) (by simp only [Za,Zb] <;> exact rfl) (fun hg => ?_) (fun hg => ?_) <;> (try simp only [Zp,Zi,ZJ,ZK,ne_eq,Zn,Zm,Bool.not_eq_true,Zu] at hg) <;> first | (refine st_g1 rfl rfl rfl (by simp (disch := omega) only [stepf,callOf,qop,fop,St.ev,St.put,cd,zd,Value.oneCell',tb_T,TypeDesc.aggB,getD_0,getD_s,Ze,Zd,Zc,Za,Zb,Zr,ZE,ZF,Zf,Zq,Zg,i64_w,Zt,Zs,qLen,qBin,iop,t1,ti1,t3,ti3,t5,ti5,t22,ti22,t35,ti35,t40,ti40,t50,ti50,Zh,map_at_l,map_at_i,mul_cast,bT_size,bT_leaf,bT_lv,secCells_length,extCells_length,extCells_at0,extCells_at1,extCells_part,markL_length,markL_at,List.take_length] <;> exact rfl) ?_) | (first | (refine st_g0 rfl rfl rfl (by simp only [St.put,Za,Zb] <;> exact rfl) ?_) | (refine st_gu rfl rfl rfl (by simp only [St.put,Za,Zb] <;> exact rfl) ?_))))
    (all_goals refine st_op rfl (by simp (disch := omega) only [stepf,callOf,qop,fop,St.ev,St.put,cd,zd,Value.oneCell',tb_T,TypeDesc.aggB,getD_0,getD_s,Ze,Zd,Zc,Za,Zb,Zr,ZE,ZF,Zf,Zq,Zg,i64_w,Zt,Zs,qLen,qBin,iop,t1,ti1,t3,ti3,t5,ti5,t22,ti22,t35,ti35,t40,ti40,t50,ti50,Zh,map_at_l,map_at_i,mul_cast,bT_size,bT_leaf,bT_lv,secCells_length,extCells_length,extCells_at0,extCells_at1,extCells_part,markL_length,markL_at,List.take_length] <;> exact rfl) ?_)
    all_goals refine aops_nil ?_
    all_goals refine ⟨rfl, ?_, leB_self _, leV_self _, rfl, rfl⟩
    all_goals repeat' (first | exact leL_nil | refine leL_a ?_ | refine leL_r rfl ?_ | refine leL_r ?_ ?_)
    all_goals refine jn ?_
    all_goals ((try simp only [Zp,Zi,ZJ,ZK,Bool.not_eq_true,Zm,Zn,ne_eq,Zf,true_iff,false_iff,iff_true,iff_false] at *) <;> omega)
  refine exq_n ?_
  refine aw_cond _ rfl (fun hc0 => ?_) (fun hc0 => ?_)
  · try simp only [Zp,Zi,ZK,ZJ,ne_eq,Zn,Zm,ZB,ZA,ZI,not_or,not_and,Zu] at hc0
    refine aw_seq ?_
    refine aw_regK hX hb [0, 1] rfl (σ' := ?s4) (fun K hK => ?h4) ?n4
    case h4 =>
      refine st_call rfl (by simp only [callOf,St.ev,getD_0,getD_s,pvAll,D.pv?,ZG,ZH,zd,cd,Value.oneCell',Zr] <;> exact rfl) (acK hP (c20)) (by simp only [St.put,Za,Zb] <;> exact rfl) ?_
      (refine st_op rfl (by simp (disch := omega) only [stepf,callOf,qop,fop,St.ev,St.put,cd,zd,Value.oneCell',tb_T,TypeDesc.aggB,getD_0,getD_s,Ze,Zd,Zc,Za,Zb,Zr,ZE,ZF,Zf,Zq,Zg,i64_w,Zt,Zs,pvAll,D.pv?,Zh,map_at_l,map_at_i,mul_cast,bT_size,bT_leaf,bT_lv,secCells_length,extCells_length,extCells_at0,extCells_at1,extCells_part,markL_length,markL_at,List.take_length] <;> exact rfl) ?_)
      refine aops_nil ?_
      exact hK
    refine exq_n ?_
    refine aw_ret ?_
    refine exq_r ?_
    exact ret_r rfl (resOf_one rfl rfl)
  · try simp only [Zp,Zi,ZK,ZJ,ne_eq,Zn,Zm,ZB,ZA,ZI,not_or,not_and,Zu] at hc0
    have hm : m.length = l.length := by omega
    have hin := dE_in (l := l) (m := m) hn1
    have hdl := dE_length l m n
    have hfw := lvB_few (l := l) (n := n) (by omega) hn1
    have hp : (2 : Nat) ^ ((lvB l n).length - 1) ≤ 2 ^ 12 := Nat.pow_le_pow_right (by omega) (by omega)
    refine aw_skip ?_
    refine exq_n ?_
    refine aw_seq ?_
    refine aw_regK hX hb [0, 1, 2, 3, 4, 5, 6, 7, 8] rfl (σ' := ?s5) (fun K hK => ?h5) ?n5
    case h5 =>
      iterate 2 (refine st_op rfl (by simp (disch := omega) only [stepf,callOf,qop,fop,St.ev,St.put,cd,zd,Value.oneCell',tb_T,TypeDesc.aggB,getD_0,getD_s,Ze,Zd,Zc,Za,Zb,Zr,ZE,ZF,Zf,Zq,Zg,i64_w,Zt,Zs,pvAll,D.pv?,qTup,PV.d,ZM,ZL,Zl,Zo,ZG,ZH,St.addBox,Value.cells,fStore,D.boxCells,D.live,D.cells?,D.pure?,Zv,Zw,Zj,Zk,Zx,Zy,ZN,St.setVec,ZC,t1,ti1,t3,ti3,t5,ti5,t22,ti22,t24,ti24,t26,ti26,t47,ti47,t50,ti50,t58,ti58,t60,ti60,Zh,map_at_l,map_at_i,mul_cast,bT_size,bT_leaf,bT_lv,secCells_length,extCells_length,extCells_at0,extCells_at1,extCells_part,markL_length,markL_at,List.take_length] <;> exact rfl) ?_)
      refine st_call rfl (by simp only [callOf,St.ev,getD_0,getD_s,pvAll,D.pv?,ZG,ZH,zd,cd,Value.oneCell',Zr] <;> exact rfl) (acK hP (k22b l n (by omega) (by omega))) (by simp only [St.put,Za,Zb] <;> exact rfl) ?_
      iterate 6 (refine st_op rfl (by simp (disch := omega) only [stepf,callOf,qop,fop,St.ev,St.put,cd,zd,Value.oneCell',tb_T,TypeDesc.aggB,getD_0,getD_s,Ze,Zd,Zc,Za,Zb,Zr,ZE,ZF,Zf,Zq,Zg,i64_w,Zt,Zs,pvAll,D.pv?,qTup,PV.d,ZM,ZL,Zl,Zo,ZG,ZH,St.addBox,Value.cells,fStore,D.boxCells,D.live,D.cells?,D.pure?,Zv,Zw,Zj,Zk,Zx,Zy,ZN,St.setVec,ZC,t1,ti1,t3,ti3,t5,ti5,t22,ti22,t24,ti24,t26,ti26,t47,ti47,t50,ti50,t58,ti58,t60,ti60,Zh,map_at_l,map_at_i,mul_cast,bT_size,bT_leaf,bT_lv,secCells_length,extCells_length,extCells_at0,extCells_at1,extCells_part,markL_length,markL_at,List.take_length] <;> exact rfl) ?_)
      refine aops_nil ?_
      exact hK
    refine exq_n ?_
    refine aw_seq ?_
    refine aw_regK hX hb [0, 1, 2, 3, 4, 5, 6, 7, 8] rfl (σ' := ?s6) (fun K hK => ?h6) ?n6
    case h6 =>
      iterate 2 (refine st_op rfl (by simp (disch := omega) only [stepf,callOf,qop,fop,St.ev,St.put,cd,zd,Value.oneCell',tb_T,TypeDesc.aggB,getD_0,getD_s,Ze,Zd,Zc,Za,Zb,Zr,ZE,ZF,Zf,Zq,Zg,i64_w,Zt,Zs,pvAll,D.pv?,qTup,PV.d,ZM,ZL,Zl,Zo,ZG,ZH,St.addBox,Value.cells,fStore,D.boxCells,D.live,D.cells?,D.pure?,Zv,Zw,Zj,Zk,Zx,Zy,ZN,St.setVec,ZC,t1,ti1,t3,ti3,t4,ti4,t5,ti5,t22,ti22,t24,ti24,t26,ti26,t50,ti50,t54,ti54,t58,ti58,t60,ti60,Zh,map_at_l,map_at_i,mul_cast,bT_size,bT_leaf,bT_lv,secCells_length,extCells_length,extCells_at0,extCells_at1,extCells_part,markL_length,markL_at,List.take_length] <;> exact rfl) ?_)
      refine st_call rfl (by simp only [callOf,St.ev,getD_0,getD_s,pvAll,D.pv?,ZG,ZH,zd,cd,Value.oneCell',Zr] <;> exact rfl) (acK hP (k22b m n (by omega) (by omega))) (by simp only [St.put,Za,Zb] <;> exact rfl) ?_
      iterate 6 (refine st_op rfl (by simp (disch := omega) only [stepf,callOf,qop,fop,St.ev,St.put,cd,zd,Value.oneCell',tb_T,TypeDesc.aggB,getD_0,getD_s,Ze,Zd,Zc,Za,Zb,Zr,ZE,ZF,Zf,Zq,Zg,i64_w,Zt,Zs,pvAll,D.pv?,qTup,PV.d,ZM,ZL,Zl,Zo,ZG,ZH,St.addBox,Value.cells,fStore,D.boxCells,D.live,D.cells?,D.pure?,Zv,Zw,Zj,Zk,Zx,Zy,ZN,St.setVec,ZC,t1,ti1,t3,ti3,t4,ti4,t5,ti5,t22,ti22,t24,ti24,t26,ti26,t50,ti50,t54,ti54,t58,ti58,t60,ti60,Zh,map_at_l,map_at_i,mul_cast,bT_size,bT_leaf,bT_lv,secCells_length,extCells_length,extCells_at0,extCells_at1,extCells_part,markL_length,markL_at,List.take_length] <;> exact rfl) ?_)
      refine aops_nil ?_
      exact hK
    refine exq_n ?_
    refine aw_seq ?_
    refine aw_seq ?_
    refine aw_regK hX hb [0, 1, 2, 3, 4, 5, 6, 7, 8, 9, 10, 11, 12] rfl (σ' := ?s7) (fun K hK => ?h7) ?n7
    case h7 =>
      iterate 3 (refine st_op rfl (by simp (disch := omega) only [stepf,callOf,qop,fop,St.ev,St.put,cd,zd,Value.oneCell',tb_T,TypeDesc.aggB,getD_0,getD_s,Ze,Zd,Zc,Za,Zb,Zr,ZE,ZF,Zf,Zq,Zg,i64_w,Zt,Zs,qBin,iop,Zl,Zo,Zv,Zw,Zj,Zk,Zx,Zy,qLoad,bload,pload,pureAll,D.pure?,ZC,ZD,pvAll,D.pv?,t1,ti1,t3,ti3,t5,ti5,t22,ti22,t24,ti24,t26,ti26,t50,ti50,t58,ti58,t60,ti60,t63,ti63,Zh,map_at_l,map_at_i,mul_cast,bT_size,bT_leaf,bT_lv,secCells_length,extCells_length,extCells_at0,extCells_at1,extCells_part,markL_length,markL_at,List.take_length,beq_self_eq_true,decide_true,eq_self,bne_self_eq_false] <;> exact rfl) ?_)
      iterate 2 (all_goals first | (refine st_g1 rfl rfl rfl (by simp (disch := omega) only [stepf,callOf,qop,fop,St.ev,St.put,cd,zd,Value.oneCell',tb_T,TypeDesc.aggB,getD_0,getD_s,Ze,Zd,Zc,Za,Zb,Zr,ZE,ZF,Zf,Zq,Zg,i64_w,Zt,Zs,qBin,iop,Zl,Zo,Zv,Zw,Zj,Zk,Zx,Zy,qLoad,bload,pload,pureAll,D.pure?,ZC,ZD,pvAll,D.pv?,t1,ti1,t3,ti3,t5,ti5,t22,ti22,t24,ti24,t26,ti26,t50,ti50,t58,ti58,t60,ti60,t63,ti63,Zh,map_at_l,map_at_i,mul_cast,bT_size,bT_leaf,bT_lv,secCells_length,extCells_length,extCells_at0,extCells_at1,extCells_part,markL_length,markL_at,List.take_length,beq_self_eq_true,decide_true,eq_self,bne_self_eq_false] <;> exact rfl) ?_) | (first | (refine st_g0 rfl rfl rfl (by simp only [St.put,Za,Zb] <;> exact rfl) ?_) | (refine st_gu rfl rfl rfl (by simp only [St.put,Za,Zb] <;> exact rfl) ?_)) | (refine st_split rfl rfl rfl (by simp only [Za,Zb] <;> exact rfl) (by simp only [Za,Zb] <;> exact rfl) (fun hg => ?_) (fun hg => ?_) <;> (try simp only [Zp,Zi,ZJ,ZK,ne_eq,Zn,Zm,Bool.not_eq_true,Zu] at hg) <;> first | (refine st_g1 rfl rfl rfl (by simp (disch := omega) only [stepf,callOf,qop,fop,St.ev,St.put,cd,zd,Value.oneCell',tb_T,TypeDesc.aggB,getD_0,getD_s,Ze,Zd,Zc,Za,Zb,Zr,ZE,ZF,Zf,Zq,Zg,i64_w,Zt,Zs,qBin,iop,Zl,Zo,Zv,Zw,Zj,Zk,Zx,Zy,qLoad,bload,pload,pureAll,D.pure?,ZC,ZD,pvAll,D.pv?,t1,ti1,t3,ti3,t5,ti5,t22,ti22,t24,ti24,t26,ti26,t50,ti50,t58,ti58,t60,ti60,t63,ti63,Zh,map_at_l,map_at_i,mul_cast,bT_size,bT_leaf,bT_lv,secCells_length,extCells_length,extCells_at0,extCells_at1,extCells_part,markL_length,markL_at,List.take_length,beq_self_eq_true,decide_true,eq_self,bne_self_eq_false] <;> exact rfl) ?_) | (first | (refine st_g0 rfl rfl rfl (by simp only [St.put,Za,Zb] <;> exact rfl) ?_) | (refine st_gu rfl rfl rfl (by simp only [St.put,Za,Zb] <;> exact rfl) ?_))))
      iterate 2 (refine st_op rfl (by simp (disch := omega) only [stepf,callOf,qop,fop,St.ev,St.put,cd,zd,Value.oneCell',tb_T,TypeDesc.aggB,getD_0,getD_s,Ze,Zd,Zc,Za,Zb,Zr,ZE,ZF,Zf,Zq,Zg,i64_w,Zt,Zs,qBin,iop,Zl,Zo,Zv,Zw,Zj,Zk,Zx,Zy,qLoad,bload,pload,pureAll,D.pure?,ZC,ZD,pvAll,D.pv?,t1,ti1,t3,ti3,t5,ti5,t22,ti22,t24,ti24,t26,ti26,t50,ti50,t58,ti58,t60,ti60,t63,ti63,Zh,map_at_l,map_at_i,mul_cast,bT_size,bT_leaf,bT_lv,secCells_length,extCells_length,extCells_at0,extCells_at1,extCells_part,markL_length,markL_at,List.take_length,beq_self_eq_true,decide_true,eq_self,bne_self_eq_false] <;> exact rfl) ?_)
      iterate 4 (all_goals first | (refine st_g1 rfl rfl rfl (by simp (disch := omega) only [stepf,callOf,qop,fop,St.ev,St.put,cd,zd,Value.oneCell',tb_T,TypeDesc.aggB,getD_0,getD_s,Ze,Zd,Zc,Za,Zb,Zr,ZE,ZF,Zf,Zq,Zg,i64_w,Zt,Zs,qBin,iop,Zl,Zo,Zv,Zw,Zj,Zk,Zx,Zy,qLoad,bload,pload,pureAll,D.pure?,ZC,ZD,pvAll,D.pv?,t1,ti1,t3,ti3,t5,ti5,t22,ti22,t24,ti24,t26,ti26,t50,ti50,t58,ti58,t60,ti60,t63,ti63,Zh,map_at_l,map_at_i,mul_cast,bT_size,bT_leaf,bT_lv,secCells_length,extCells_length,extCells_at0,extCells_at1,extCells_part,markL_length,markL_at,List.take_length,beq_self_eq_true,decide_true,eq_self,bne_self_eq_false] <;> exact rfl) ?_) | (first | (refine st_g0 rfl rfl rfl (by simp only [St.put,Za,Zb] <;> exact rfl) ?_) | (refine st_gu rfl rfl rfl (by simp only [St.put,Za,Zb] <;> exact rfl) ?_)) | (refine st_split rfl rfl rfl (by simp only [Za,Zb] <;> exact rfl) (by simp only [Za,Zb] <;> exact rfl) (fun hg => ?_) (fun hg => ?_) <;> (try simp only [Zp,Zi,ZJ,ZK,ne_eq,Zn,Zm,Bool.not_eq_true,Zu] at hg) <;> first | (refine st_g1 rfl rfl rfl (by simp (disch := omega) only [stepf,callOf,qop,fop,St.ev,St.put,cd,zd,Value.oneCell',tb_T,TypeDesc.aggB,getD_0,getD_s,Ze,Zd,Zc,Za,Zb,Zr,ZE,ZF,Zf,Zq,Zg,i64_w,Zt,Zs,qBin,iop,Zl,Zo,Zv,Zw,Zj,Zk,Zx,Zy,qLoad,bload,pload,pureAll,D.pure?,ZC,ZD,pvAll,D.pv?,t1,ti1,t3,ti3,t5,ti5,t22,ti22,t24,ti24,t26,ti26,t50,ti50,t58,ti58,t60,ti60,t63,ti63,Zh,map_at_l,map_at_i,mul_cast,bT_size,bT_leaf,bT_lv,secCells_length,extCells_length,extCells_at0,extCells_at1,extCells_part,markL_length,markL_at,List.take_length,beq_self_eq_true,decide_true,eq_self,bne_self_eq_false] <;> exact rfl) ?_) | (first | (refine st_g0 rfl rfl rfl (by simp only [St.put,Za,Zb] <;> exact rfl) ?_) | (refine st_gu rfl rfl rfl (by simp only [St.put,Za,Zb] <;> exact rfl) ?_))))
      all_goals first | (refine st_gc rfl rfl rfl (by simp only [callOf,St.ev,getD_0,getD_s,pvAll,D.pv?,ZG,ZH,zd,cd,Value.oneCell',Zr] <;> exact rfl) (acK hP (c32 l m n (by omega) (by omega) (by omega))) (by simp only [St.put,Za,Zb] <;> exact rfl) ?_) | (first | (refine st_g0 rfl rfl rfl (by simp only [St.put,Za,Zb] <;> exact rfl) ?_) | (refine st_gu rfl rfl rfl (by simp only [St.put,Za,Zb] <;> exact rfl) ?_)) | (refine st_split rfl rfl rfl (by simp only [Za,Zb] <;> exact rfl) (by simp only [Za,Zb] <;> exact rfl) (fun hg => ?_) (fun hg => ?_) <;> (try simp only [Zp,Zi,ZJ,ZK,ne_eq,Zn,Zm,Bool.not_eq_true,Zu] at hg) <;> first | (refine st_gc rfl rfl rfl (by simp only [callOf,St.ev,getD_0,getD_s,pvAll,D.pv?,ZG,ZH,zd,cd,Value.oneCell',Zr] <;> exact rfl) (acK hP (c32 l m n (by omega) (by omega) (by omega))) (by simp only [St.put,Za,Zb] <;> exact rfl) ?_) | (first | (refine st_g0 rfl rfl rfl (by simp only [St.put,Za,Zb] <;> exact rfl) ?_) | (refine st_gu rfl rfl rfl (by simp only [St.put,Za,Zb] <;> exact rfl) ?_)))
      (refine st_op rfl (by simp (disch := omega) only [stepf,callOf,qop,fop,St.ev,St.put,cd,zd,Value.oneCell',tb_T,TypeDesc.aggB,getD_0,getD_s,Ze,Zd,Zc,Za,Zb,Zr,ZE,ZF,Zf,Zq,Zg,i64_w,Zt,Zs,qBin,iop,Zl,Zo,Zv,Zw,Zj,Zk,Zx,Zy,qLoad,bload,pload,pureAll,D.pure?,ZC,ZD,pvAll,D.pv?,t1,ti1,t3,ti3,t5,ti5,t22,ti22,t24,ti24,t26,ti26,t50,ti50,t58,ti58,t60,ti60,t63,ti63,Zh,map_at_l,map_at_i,mul_cast,bT_size,bT_leaf,bT_lv,secCells_length,extCells_length,extCells_at0,extCells_at1,extCells_part,markL_length,markL_at,List.take_length,beq_self_eq_true,decide_true,eq_self,bne_self_eq_false] <;> exact rfl) ?_)
      refine aops_nil ?_
      exact hK
    refine exq_n ?_
    refine aw_cond _ rfl (fun hc1 => ?_) (fun hc1 => ?_)
    · try simp only [Zp,Zi,ZK,ZJ,ne_eq,Zn,Zm,ZB,ZA,ZI,not_or,not_and,Zu] at hc1
      refine aw_seq ?_
      refine aw_regK hX hb [0, 1] rfl (σ' := ?s8) (fun K hK => ?h8) ?n8
      case h8 =>
        refine st_call rfl (by simp only [callOf,St.ev,getD_0,getD_s,pvAll,D.pv?,ZG,ZH,zd,cd,Value.oneCell',Zr] <;> exact rfl) (acK hP (c20)) (by simp only [St.put,Za,Zb] <;> exact rfl) ?_
        (refine st_op rfl (by simp (disch := omega) only [stepf,callOf,qop,fop,St.ev,St.put,cd,zd,Value.oneCell',tb_T,TypeDesc.aggB,getD_0,getD_s,Ze,Zd,Zc,Za,Zb,Zr,ZE,ZF,Zf,Zq,Zg,i64_w,Zt,Zs,pvAll,D.pv?,Zh,map_at_l,map_at_i,mul_cast,bT_size,bT_leaf,bT_lv,secCells_length,extCells_length,extCells_at0,extCells_at1,extCells_part,markL_length,markL_at,List.take_length] <;> exact rfl) ?_)
        refine aops_nil ?_
        exact hK
      refine exq_n ?_
      refine aw_ret ?_
      refine exq_r ?_
      exact ret_r rfl (resOf_one rfl rfl)
    · try simp only [Zp,Zi,ZK,ZJ,ne_eq,Zn,Zm,ZB,ZA,ZI,not_or,not_and,Zu] at hc1
      refine aw_skip ?_
      refine exq_n ?_
      refine aw_seq ?_
      refine aw_regK hX hb [0, 1, 2, 3, 4, 5, 6, 7, 8] rfl (σ' := ?s9) (fun K hK => ?h9) ?n9
      case h9 =>
        iterate 2 (refine st_op rfl (by simp (disch := omega) only [stepf,callOf,qop,fop,St.ev,St.put,cd,zd,Value.oneCell',tb_T,TypeDesc.aggB,getD_0,getD_s,Ze,Zd,Zc,Za,Zb,Zr,ZE,ZF,Zf,Zq,Zg,i64_w,Zt,Zs,pvAll,D.pv?,qTup,PV.d,ZM,ZL,Zl,Zo,ZG,ZH,St.addBox,Value.cells,fStore,D.boxCells,D.live,D.cells?,D.pure?,Zv,Zw,Zj,Zk,Zx,Zy,ZN,St.setVec,ZC,t1,ti1,t3,ti3,t4,ti4,t5,ti5,t22,ti22,t24,ti24,t26,ti26,t35,ti35,t40,ti40,t50,ti50,t58,ti58,t60,ti60,t71,ti71,t75,ti75,Zh,map_at_l,map_at_i,mul_cast,bT_size,bT_leaf,bT_lv,secCells_length,extCells_length,extCells_at0,extCells_at1,extCells_part,markL_length,markL_at,List.take_length] <;> exact rfl) ?_)
        refine st_call rfl (by simp only [callOf,St.ev,getD_0,getD_s,pvAll,D.pv?,ZG,ZH,zd,cd,Value.oneCell',Zr] <;> exact rfl) (acK hP (k21b l n (by omega) (by omega))) (by simp only [St.put,Za,Zb] <;> exact rfl) ?_
        iterate 6 (refine st_op rfl (by simp (disch := omega) only [stepf,callOf,qop,fop,St.ev,St.put,cd,zd,Value.oneCell',tb_T,TypeDesc.aggB,getD_0,getD_s,Ze,Zd,Zc,Za,Zb,Zr,ZE,ZF,Zf,Zq,Zg,i64_w,Zt,Zs,pvAll,D.pv?,qTup,PV.d,ZM,ZL,Zl,Zo,ZG,ZH,St.addBox,Value.cells,fStore,D.boxCells,D.live,D.cells?,D.pure?,Zv,Zw,Zj,Zk,Zx,Zy,ZN,St.setVec,ZC,t1,ti1,t3,ti3,t4,ti4,t5,ti5,t22,ti22,t24,ti24,t26,ti26,t35,ti35,t40,ti40,t50,ti50,t58,ti58,t60,ti60,t71,ti71,t75,ti75,Zh,map_at_l,map_at_i,mul_cast,bT_size,bT_leaf,bT_lv,secCells_length,extCells_length,extCells_at0,extCells_at1,extCells_part,markL_length,markL_at,List.take_length] <;> exact rfl) ?_)
        refine aops_nil ?_
        exact hK
      refine exq_n ?_
      refine aw_seq ?_
      refine aw_regK hX hb [0, 1, 2, 3, 4, 5, 6, 7, 8] rfl (σ' := ?s10) (fun K hK => ?h10) ?n10
      case h10 =>
        iterate 2 (refine st_op rfl (by simp (disch := omega) only [stepf,callOf,qop,fop,St.ev,St.put,cd,zd,Value.oneCell',tb_T,TypeDesc.aggB,getD_0,getD_s,Ze,Zd,Zc,Za,Zb,Zr,ZE,ZF,Zf,Zq,Zg,i64_w,Zt,Zs,pvAll,D.pv?,qTup,PV.d,ZM,ZL,Zl,Zo,ZG,ZH,St.addBox,Value.cells,fStore,D.boxCells,D.live,D.cells?,D.pure?,Zv,Zw,Zj,Zk,Zx,Zy,ZN,St.setVec,ZC,t1,ti1,t3,ti3,t5,ti5,t22,ti22,t24,ti24,t26,ti26,t50,ti50,t58,ti58,t60,ti60,t77,ti77,t87,ti87,t88,ti88,t90,ti90,Zh,map_at_l,map_at_i,mul_cast,bT_size,bT_leaf,bT_lv,secCells_length,extCells_length,extCells_at0,extCells_at1,extCells_part,markL_length,markL_at,List.take_length] <;> exact rfl) ?_)
        refine st_call rfl (by simp only [callOf,St.ev,getD_0,getD_s,pvAll,D.pv?,ZG,ZH,zd,cd,Value.oneCell',Zr] <;> exact rfl) (acK hP (k21b m n (by omega) (by omega))) (by simp only [St.put,Za,Zb] <;> exact rfl) ?_
        iterate 6 (refine st_op rfl (by simp (disch := omega) only [stepf,callOf,qop,fop,St.ev,St.put,cd,zd,Value.oneCell',tb_T,TypeDesc.aggB,getD_0,getD_s,Ze,Zd,Zc,Za,Zb,Zr,ZE,ZF,Zf,Zq,Zg,i64_w,Zt,Zs,pvAll,D.pv?,qTup,PV.d,ZM,ZL,Zl,Zo,ZG,ZH,St.addBox,Value.cells,fStore,D.boxCells,D.live,D.cells?,D.pure?,Zv,Zw,Zj,Zk,Zx,Zy,ZN,St.setVec,ZC,t1,ti1,t3,ti3,t5,ti5,t22,ti22,t24,ti24,t26,ti26,t50,ti50,t58,ti58,t60,ti60,t77,ti77,t87,ti87,t88,ti88,t90,ti90,Zh,map_at_l,map_at_i,mul_cast,bT_size,bT_leaf,bT_lv,secCells_length,extCells_length,extCells_at0,extCells_at1,extCells_part,markL_length,markL_at,List.take_length] <;> exact rfl) ?_)
        refine aops_nil ?_
        exact hK
      refine exq_n ?_
      refine aw_seq ?_
      refine aw_regK hX hb [0, 1, 2, 3, 4, 5, 6, 7] rfl (σ' := ?s11) (fun K hK => ?h11) ?n11
      case h11 =>
        iterate 2 (refine st_op rfl (by simp (disch := omega) only [stepf,callOf,qop,fop,St.ev,St.put,cd,zd,Value.oneCell',tb_T,TypeDesc.aggB,getD_0,getD_s,Ze,Zd,Zc,Za,Zb,Zr,ZE,ZF,Zf,Zq,Zg,i64_w,Zt,Zs,Zl,Zo,Zv,Zw,Zj,Zk,Zx,Zy,qLoad,bload,pload,pureAll,D.pure?,ZC,ZD,pvAll,D.pv?,qTup,PV.d,t1,ti1,t3,ti3,t5,ti5,t24,ti24,t26,ti26,t27,ti27,t58,ti58,t60,ti60,t87,ti87,t88,ti88,Zh,map_at_l,map_at_i,mul_cast,bT_size,bT_leaf,bT_lv,secCells_length,extCells_length,extCells_at0,extCells_at1,extCells_part,markL_length,markL_at,List.take_length] <;> exact rfl) ?_)
        refine st_call rfl (by simp only [callOf,St.ev,getD_0,getD_s,pvAll,D.pv?,ZG,ZH,zd,cd,Value.oneCell',Zr] <;> exact rfl) (acK hP (k27b l m n (by omega) (by omega) (by omega))) (by simp only [St.put,Za,Zb] <;> exact rfl) ?_
        iterate 5 (refine st_op rfl (by simp (disch := omega) only [stepf,callOf,qop,fop,St.ev,St.put,cd,zd,Value.oneCell',tb_T,TypeDesc.aggB,getD_0,getD_s,Ze,Zd,Zc,Za,Zb,Zr,ZE,ZF,Zf,Zq,Zg,i64_w,Zt,Zs,Zl,Zo,Zv,Zw,Zj,Zk,Zx,Zy,qLoad,bload,pload,pureAll,D.pure?,ZC,ZD,pvAll,D.pv?,qTup,PV.d,t1,ti1,t3,ti3,t5,ti5,t24,ti24,t26,ti26,t27,ti27,t58,ti58,t60,ti60,t87,ti87,t88,ti88,Zh,map_at_l,map_at_i,mul_cast,bT_size,bT_leaf,bT_lv,secCells_length,extCells_length,extCells_at0,extCells_at1,extCells_part,markL_length,markL_at,List.take_length] <;> exact rfl) ?_)
        refine aops_nil ?_
        exact hK
      refine exq_n ?_
      refine aw_seq ?_
      refine aw_seq ?_
      refine aw_regK hX hb [0, 1, 2, 3, 4, 5, 6, 7, 8, 9] rfl (σ' := ?s12) (fun K hK => ?h12) ?n12
      case h12 =>
        iterate 3 (refine st_op rfl (by simp (disch := omega) only [stepf,callOf,qop,fop,St.ev,St.put,cd,zd,Value.oneCell',tb_T,TypeDesc.aggB,getD_0,getD_s,Ze,Zd,Zc,Za,Zb,Zr,ZE,ZF,Zf,Zq,Zg,i64_w,Zt,Zs,qBin,iop,t3,ti3,t5,ti5,t27,ti27,t87,ti87,t88,ti88,t90,ti90,Zh,map_at_l,map_at_i,mul_cast,bT_size,bT_leaf,bT_lv,secCells_length,extCells_length,extCells_at0,extCells_at1,extCells_part,markL_length,markL_at,List.take_length,beq_self_eq_true,decide_true,eq_self,bne_self_eq_false] <;> exact rfl) ?_)
        iterate 2 (all_goals first | (refine st_g1 rfl rfl rfl (by simp (disch := omega) only [stepf,callOf,qop,fop,St.ev,St.put,cd,zd,Value.oneCell',tb_T,TypeDesc.aggB,getD_0,getD_s,Ze,Zd,Zc,Za,Zb,Zr,ZE,ZF,Zf,Zq,Zg,i64_w,Zt,Zs,qBin,iop,t3,ti3,t5,ti5,t27,ti27,t87,ti87,t88,ti88,t90,ti90,Zh,map_at_l,map_at_i,mul_cast,bT_size,bT_leaf,bT_lv,secCells_length,extCells_length,extCells_at0,extCells_at1,extCells_part,markL_length,markL_at,List.take_length,beq_self_eq_true,decide_true,eq_self,bne_self_eq_false] <;> exact rfl) ?_) | (first | (refine st_g0 rfl rfl rfl (by simp only [St.put,Za,Zb] <;> exact rfl) ?_) | (refine st_gu rfl rfl rfl (by simp only [St.put,Za,Zb] <;> exact rfl) ?_)) | (refine st_split rfl rfl rfl (by simp only [Za,Zb] <;> exact rfl) (by simp only [Za,Zb] <;> exact rfl) (fun hg => ?_) (fun hg => ?_) <;> (try simp only [Zp,Zi,ZJ,ZK,ne_eq,Zn,Zm,Bool.not_eq_true,Zu] at hg) <;> first | (refine st_g1 rfl rfl rfl (by simp (disch := omega) only [stepf,callOf,qop,fop,St.ev,St.put,cd,zd,Value.oneCell',tb_T,TypeDesc.aggB,getD_0,getD_s,Ze,Zd,Zc,Za,Zb,Zr,ZE,ZF,Zf,Zq,Zg,i64_w,Zt,Zs,qBin,iop,t3,ti3,t5,ti5,t27,ti27,t87,ti87,t88,ti88,t90,ti90,Zh,map_at_l,map_at_i,mul_cast,bT_size,bT_leaf,bT_lv,secCells_length,extCells_length,extCells_at0,extCells_at1,extCells_part,markL_length,markL_at,List.take_length,beq_self_eq_true,decide_true,eq_self,bne_self_eq_false] <;> exact rfl) ?_) | (first | (refine st_g0 rfl rfl rfl (by simp only [St.put,Za,Zb] <;> exact rfl) ?_) | (refine st_gu rfl rfl rfl (by simp only [St.put,Za,Zb] <;> exact rfl) ?_))))
        iterate 2 (refine st_op rfl (by simp (disch := omega) only [stepf,callOf,qop,fop,St.ev,St.put,cd,zd,Value.oneCell',tb_T,TypeDesc.aggB,getD_0,getD_s,Ze,Zd,Zc,Za,Zb,Zr,ZE,ZF,Zf,Zq,Zg,i64_w,Zt,Zs,qBin,iop,t3,ti3,t5,ti5,t27,ti27,t87,ti87,t88,ti88,t90,ti90,Zh,map_at_l,map_at_i,mul_cast,bT_size,bT_leaf,bT_lv,secCells_length,extCells_length,extCells_at0,extCells_at1,extCells_part,markL_length,markL_at,List.take_length,beq_self_eq_true,decide_true,eq_self,bne_self_eq_false] <;> exact rfl) ?_)
        iterate 2 (all_goals first | (refine st_g1 rfl rfl rfl (by simp (disch := omega) only [stepf,callOf,qop,fop,St.ev,St.put,cd,zd,Value.oneCell',tb_T,TypeDesc.aggB,getD_0,getD_s,Ze,Zd,Zc,Za,Zb,Zr,ZE,ZF,Zf,Zq,Zg,i64_w,Zt,Zs,qBin,iop,t3,ti3,t5,ti5,t27,ti27,t87,ti87,t88,ti88,t90,ti90,Zh,map_at_l,map_at_i,mul_cast,bT_size,bT_leaf,bT_lv,secCells_length,extCells_length,extCells_at0,extCells_at1,extCells_part,markL_length,markL_at,List.take_length,beq_self_eq_true,decide_true,eq_self,bne_self_eq_false] <;> exact rfl) ?_) | (first | (refine st_g0 rfl rfl rfl (by simp only [St.put,Za,Zb] <;> exact rfl) ?_) | (refine st_gu rfl rfl rfl (by simp only [St.put,Za,Zb] <;> exact rfl) ?_)) | (refine st_split rfl rfl rfl (by simp only [Za,Zb] <;> exact rfl) (by simp only [Za,Zb] <;> exact rfl) (fun hg => ?_) (fun hg => ?_) <;> (try simp only [Zp,Zi,ZJ,ZK,ne_eq,Zn,Zm,Bool.not_eq_true,Zu] at hg) <;> first | (refine st_g1 rfl rfl rfl (by simp (disch := omega) only [stepf,callOf,qop,fop,St.ev,St.put,cd,zd,Value.oneCell',tb_T,TypeDesc.aggB,getD_0,getD_s,Ze,Zd,Zc,Za,Zb,Zr,ZE,ZF,Zf,Zq,Zg,i64_w,Zt,Zs,qBin,iop,t3,ti3,t5,ti5,t27,ti27,t87,ti87,t88,ti88,t90,ti90,Zh,map_at_l,map_at_i,mul_cast,bT_size,bT_leaf,bT_lv,secCells_length,extCells_length,extCells_at0,extCells_at1,extCells_part,markL_length,markL_at,List.take_length,beq_self_eq_true,decide_true,eq_self,bne_self_eq_false] <;> exact rfl) ?_) | (first | (refine st_g0 rfl rfl rfl (by simp only [St.put,Za,Zb] <;> exact rfl) ?_) | (refine st_gu rfl rfl rfl (by simp only [St.put,Za,Zb] <;> exact rfl) ?_))))
        (refine st_op rfl (by simp (disch := omega) only [stepf,callOf,qop,fop,St.ev,St.put,cd,zd,Value.oneCell',tb_T,TypeDesc.aggB,getD_0,getD_s,Ze,Zd,Zc,Za,Zb,Zr,ZE,ZF,Zf,Zq,Zg,i64_w,Zt,Zs,qBin,iop,t3,ti3,t5,ti5,t27,ti27,t87,ti87,t88,ti88,t90,ti90,Zh,map_at_l,map_at_i,mul_cast,bT_size,bT_leaf,bT_lv,secCells_length,extCells_length,extCells_at0,extCells_at1,extCells_part,markL_length,markL_at,List.take_length,beq_self_eq_true,decide_true,eq_self,bne_self_eq_false] <;> exact rfl) ?_)
        refine aops_nil ?_
        exact hK
      refine exq_n ?_
      refine aw_cond _ rfl (fun hc2 => ?_) (fun hc2 => ?_)
      · try simp only [Zp,Zi,ZK,ZJ,ne_eq,Zn,Zm,ZB,ZA,ZI,not_or,not_and,Zu] at hc2
        cases hc2
      · try simp only [Zp,Zi,ZK,ZJ,ne_eq,Zn,Zm,ZB,ZA,ZI,not_or,not_and,Zu] at hc2
        refine aw_skip ?_
        refine exq_n ?_
        refine aw_seq ?_
        refine aw_regK hX hb [0, 1, 2, 3] rfl (σ' := ?s13) (fun K hK => ?h13) ?n13
        case h13 =>
          iterate 4 (refine st_op rfl (by simp (disch := omega) only [stepf,callOf,qop,fop,St.ev,St.put,cd,zd,Value.oneCell',tb_T,TypeDesc.aggB,getD_0,getD_s,Ze,Zd,Zc,Za,Zb,Zr,ZE,ZF,Zf,Zq,Zg,i64_w,Zt,Zs,qLen,fMakeSlice,St.addVec,t3,ti3,t4,ti4,t5,ti5,t22,ti22,t50,ti50,t54,ti54,t101,ti101,Zh,map_at_l,map_at_i,mul_cast,bT_size,bT_leaf,bT_lv,secCells_length,extCells_length,extCells_at0,extCells_at1,extCells_part,markL_length,markL_at,List.take_length,zp,ZO] <;> exact rfl) ?_)
          refine aops_nil ?_
          exact hK
        refine exq_n ?_
        refine aw_seq ?_
        refine aw_seq ?_
        refine aw_regK hX hb [0, 1, 2] rfl (σ' := ?s14) (fun K hK => ?h14) ?n14
        case h14 =>
          iterate 3 (refine st_op rfl (by simp (disch := omega) only [stepf,callOf,qop,fop,St.ev,St.put,cd,zd,Value.oneCell',tb_T,TypeDesc.aggB,getD_0,getD_s,Ze,Zd,Zc,Za,Zb,Zr,ZE,ZF,Zf,Zq,Zg,i64_w,Zt,Zs,qLen,t3,ti3,t35,ti35,t40,ti40,Zh,map_at_l,map_at_i,mul_cast,bT_size,bT_leaf,bT_lv,secCells_length,extCells_length,extCells_at0,extCells_at1,extCells_part,markL_length,markL_at,List.take_length] <;> exact rfl) ?_)
          refine aops_nil ?_
          exact hK
        refine exq_n ?_
        refine aw_block ?_
        refine aw_loop (ι := Nat) (fun j => j ≤ (dE l m n).length) (fun j => ⟨[], [.p (secs l), .p (secs m), .any, .any, .any, .any, .any, .p (i64 n), .any, .any, .any, .any, .any, .any, .any, .any, .any, .any, .vref 0, .any, .any, .any, .any, .any, .any, .any, .any, .any, .any, .any, .any, .any, .any, .any, .any, .any, .any, .any, .any, .any, .any, .any, .any, .any, .any, .any, .any, .any, .any, .any, .any, .any, .any, .any, .any, .any, .any, .any, .any, .any, .any, .any, .any, .any, .any, .any, .any, .any, .any, .any, .any, .any, .any, .any, .any, .any, .any, .any, .any, .any, .any, .any, .any, .any, .any, .any, .any, .any, .any, .any, .any, .any, .any, .any, .any, .any, .any, .any, .any, .any, .any, .any, .p (exts (dE l m n)), .p (i64 (dE l m n).length), .p (i64 j), .any, .any, .any, .any, .any, .any, .any, .any, .any, .any, .any, .any, .any, .any, .any, .any, .any, .any, .any, .any, .any, .any, .any, .any, .any, .any, .any, .any, .any, .any, .any, .any, .any, .any, .any, .any, .any, .any, .any, .any, .any, .any, .any, .any, .any, .any, .any, .any, .any, .any, .any, .any, .any, .any, .any, .any, .any, .any, .any, .any, .any, .any, .any, .any, .any, .any, .any, .any, .any, .any, .any, .any, .any, .any, .any, .any, .any, .any], [], [some ⟨4, 1, l.length, markL l.length (covL ((dE l m n).take j))⟩]⟩) (fun j => (dE l m n).length - j) 0 (by exact Nat.zero_le _) (wk_le ⟨rfl, leL_r (by first | rfl | (first | (rw [markL_start]; rfl) | (rw [markL_out (by omega) hac]))) (leL_r (by first | rfl | (first | (rw [markL_start]; rfl) | (rw [markL_out (by omega) hac]))) (leL_a (leL_a (leL_a (leL_a (leL_a (leL_r (by first | rfl | (first | (rw [markL_start]; rfl) | (rw [markL_out (by omega) hac]))) (leL_a (leL_a (leL_a (leL_a (leL_a (leL_a (leL_a (leL_a (leL_a (leL_a (leL_r (by first | rfl | (first | (rw [markL_start]; rfl) | (rw [markL_out (by omega) hac]))) (leL_a (leL_a (leL_a (leL_a (leL_a (leL_a (leL_a (leL_a (leL_a (leL_a (leL_a (leL_a (leL_a (leL_a (leL_a (leL_a (leL_a (leL_a (leL_a (leL_a (leL_a (leL_a (leL_a (leL_a (leL_a (leL_a (leL_a (leL_a (leL_a (leL_a (leL_a (leL_a (leL_a (leL_a (leL_a (leL_a (leL_a (leL_a (leL_a (leL_a (leL_a (leL_a (leL_a (leL_a (leL_a (leL_a (leL_a (leL_a (leL_a (leL_a (leL_a (leL_a (leL_a (leL_a (leL_a (leL_a (leL_a (leL_a (leL_a (leL_a (leL_a (leL_a (leL_a (leL_a (leL_a (leL_a (leL_a (leL_a (leL_a (leL_a (leL_a (leL_a (leL_a (leL_a (leL_a (leL_a (leL_a (leL_a (leL_a (leL_a (leL_a (leL_a (leL_a (leL_r (by first | rfl | (first | (rw [markL_start]; rfl) | (rw [markL_out (by omega) hac]))) (leL_r (by first | rfl | (first | (rw [markL_start]; rfl) | (rw [markL_out (by omega) hac]))) (leL_r (by first | rfl | (first | (rw [markL_start]; rfl) | (rw [markL_out (by omega) hac]))) (leL_a (leL_a (leL_a (leL_a (leL_a (leL_a (leL_a (leL_a (leL_a (leL_a (leL_a (leL_a (leL_a (leL_a (leL_a (leL_a (leL_a (leL_a (leL_a (leL_a (leL_a (leL_a (leL_a (leL_a (leL_a (leL_a (leL_a (leL_a (leL_a (leL_a (leL_a (leL_a (leL_a (leL_a (leL_a (leL_a (leL_a (leL_a (leL_a (leL_a (leL_a (leL_a (leL_a (leL_a (leL_a (leL_a (leL_a (leL_a (leL_a (leL_a (leL_a (leL_a (leL_a (leL_a (leL_a (leL_a (leL_a (leL_a (leL_a (leL_a (leL_a (leL_a (leL_a (leL_a (leL_a (leL_a (leL_a (leL_a (leL_a (leL_a (leL_a (leL_a (leL_a (leL_a (leL_a (leL_a (leL_a (leL_a (leL_nil))))))))))))))))))))))))))))))))))))))))))))))))))))))))))))))))))))))))))))))))))))))))))))))))))))))))))))))))))))))))))))))))))))))))))))))))))))))))))))))))))))))))))))))))))))))), (leB_nil _), (leV_r (by first | rfl | (first | (rw [markL_start]; rfl) | (rw [markL_out (by omega) hac]))) (leV_nil _)), rfl, rfl⟩) ?_
        rintro j hj
        refine aw_seq ?_
        refine aw_regK hX hb [0] rfl (σ' := ?s15) (fun K hK => ?h15) ?n15
        case h15 =>
          (refine st_op rfl (by simp (disch := omega) only [stepf,callOf,qop,fop,St.ev,St.put,cd,zd,Value.oneCell',tb_T,TypeDesc.aggB,getD_0,getD_s,Ze,Zd,Zc,Za,Zb,Zr,ZE,ZF,Zf,Zq,Zg,i64_w,Zt,Zs,qBin,iop,t3,ti3,Zh,map_at_l,map_at_i,mul_cast,bT_size,bT_leaf,bT_lv,secCells_length,extCells_length,extCells_at0,extCells_at1,extCells_part,markL_length,markL_at,List.take_length] <;> exact rfl) ?_)
          refine aops_nil ?_
          exact hK
        refine exq_n ?_
        refine aw_seq ?_
        refine aw_cond _ rfl (fun hc3 => ?_) (fun hc3 => ?_)
        · try simp only [Zp,Zi,ZK,ZJ,ne_eq,Zn,Zm,ZB,ZA,ZI,not_or,not_and,Zu] at hc3
          obtain ⟨a, c, hac, hcp, hca⟩ := ext_nat hin (show j < (dE l m n).length by omega)
          refine aw_skip ?_
          refine exq_n ?_
          refine aw_seq ?_
          refine aw_block ?_
          refine aw_seq ?_
          refine aw_regK hX hb [0, 1, 2, 3] rfl (σ' := ?s16) (fun K hK => ?h16) ?n16
          case h16 =>
            iterate 4 (refine st_op rfl (by simp (disch := omega) only [stepf,callOf,qop,fop,St.ev,St.put,cd,zd,Value.oneCell',tb_T,TypeDesc.aggB,getD_0,getD_s,Ze,Zd,Zc,Za,Zb,Zr,ZE,ZF,Zf,Zq,Zg,i64_w,Zt,Zs,Int.toNat_zero,Int.toNat_one,toNat_pred,toNat_succ,qIndexAddr,ZO,Nat.mul_one,ZC,Nat.zero_mul,Zh,Zl,Zo,Zv,Zw,Zj,Zk,Zx,Zy,qLoad,bload,pload,pureAll,D.pure?,ZD,ZM,ZL,ZG,ZH,St.addBox,Value.cells,fStore,D.boxCells,D.live,D.cells?,ZN,St.setVec,t3,ti3,t35,ti35,t40,ti40,map_at_l,map_at_i,mul_cast,bT_size,bT_leaf,bT_lv,secCells_length,extCells_length,extCells_at0,extCells_at1,extCells_part,markL_length,markL_at,List.take_length,hac] <;> exact rfl) ?_)
            refine aops_nil ?_
            exact hK
          refine exq_n ?_
          refine aw_seq ?_
          refine aw_seq ?_
          refine aw_regJ hX hb [0, 1, 2, 3, 4, 5, 6, 7, 8, 9, 10, 11, 12, 13, 14, 15, 16, 17, 18, 19, 20, 21, 22, 23, 24] rfl (ts := [108, 109, 110, 111, 112, 113, 114, 115, 116, 117, 118, 119, 120, 121, 122, 123, 124, 125, 126, 127, 128, 129, 130, 131]) (t := 132) (d := .p (bv ((a : Int) < 0 ∨ (c : Int) < 1 ∨ (l.length : Int) < (a : Int) ∨ (l.length : Int) - (a : Int) < (c : Int)))) (σ' := ?s17) ?j17 ?h17 ?n17
          case j17 => simp only [St.join,List.foldl,Za,Zb]; exact rfl
          case h17 =>
            iterate 4 (all_goals refine st_op rfl (by simp (disch := omega) only [stepf,callOf,qop,fop,St.ev,St.put,cd,zd,Value.oneCell',tb_T,TypeDesc.aggB,getD_0,getD_s,Ze,Zd,Zc,Za,Zb,Zr,ZE,ZF,Zf,Zq,Zg,i64_w,Zt,Zs,qFieldAddr,fieldOf,Zl,Zo,Zv,Zw,Zj,Zk,Zx,Zy,qLoad,bload,pload,pureAll,D.pure?,ZC,ZD,qBin,iop,qLen,t1,ti1,t3,ti3,t5,ti5,t22,ti22,t24,ti24,t26,ti26,t35,ti35,t50,ti50,t58,ti58,t60,ti60,t87,ti87,t115,ti115,t117,ti117,t118,ti118,t125,ti125,t126,ti126,Zh,map_at_l,map_at_i,mul_cast,bT_size,bT_leaf,bT_lv,secCells_length,extCells_length,extCells_at0,extCells_at1,extCells_part,markL_length,markL_at,List.take_length] <;> exact rfl) ?_)
            iterate 3 (all_goals first | (refine st_g1 rfl rfl rfl (by simp (disch := omega) only [stepf,callOf,qop,fop,St.ev,St.put,cd,zd,Value.oneCell',tb_T,TypeDesc.aggB,getD_0,getD_s,Ze,Zd,Zc,Za,Zb,Zr,ZE,ZF,Zf,Zq,Zg,i64_w,Zt,Zs,qFieldAddr,fieldOf,Zl,Zo,Zv,Zw,Zj,Zk,Zx,Zy,qLoad,bload,pload,pureAll,D.pure?,ZC,ZD,qBin,iop,qLen,t1,ti1,t3,ti3,t5,ti5,t22,ti22,t24,ti24,t26,ti26,t35,ti35,t50,ti50,t58,ti58,t60,ti60,t87,ti87,t115,ti115,t117,ti117,t118,ti118,t125,ti125,t126,ti126,Zh,map_at_l,map_at_i,mul_cast,bT_size,bT_leaf,bT_lv,secCells_length,extCells_length,extCells_at0,extCells_at1,extCells_part,markL_length,markL_at,List.take_length] <;> exact rfl) ?_) | (first | (refine st_g0 rfl rfl rfl (by simp only [St.put,Za,Zb] <;> exact rfl) ?_) | (refine st_gu rfl rfl rfl (by simp only [St.put,Za,Zb] <;> exact rfl) ?_)) | (refine st_split rfl rfl rfl (by simp only [Za,Zb] <;> exact rfl) (by simp only [Za,Zb] <;> exact rfl) (fun hg => ?_) (fun hg => ?_) <;> (try simp only [Zp,Zi,ZJ,ZK,ne_eq,Zn,Zm,Bool.not_eq_true,Zu] at hg) <;> first | (refine st_g1 rfl rfl rfl (by simp (disch := omega) only [stepf,callOf,qop,fop,St.ev,St.put,cd,zd,Value.oneCell',tb_T,TypeDesc.aggB,getD_0,getD_s,Ze,Zd,Zc,Za,Zb,Zr,ZE,ZF,Zf,Zq,Zg,i64_w,Zt,Zs,qFieldAddr,fieldOf,Zl,Zo,Zv,Zw,Zj,Zk,Zx,Zy,qLoad,bload,pload,pureAll,D.pure?,ZC,ZD,qBin,iop,qLen,t1,ti1,t3,ti3,t5,ti5,t22,ti22,t24,ti24,t26,ti26,t35,ti35,t50,ti50,t58,ti58,t60,ti60,t87,ti87,t115,ti115,t117,ti117,t118,ti118,t125,ti125,t126,ti126,Zh,map_at_l,map_at_i,mul_cast,bT_size,bT_leaf,bT_lv,secCells_length,extCells_length,extCells_at0,extCells_at1,extCells_part,markL_length,markL_at,List.take_length] <;> exact rfl) ?_) | (first | (refine st_g0 rfl rfl rfl (by simp only [St.put,Za,Zb] <;> exact rfl) ?_) | (refine st_gu rfl rfl rfl (by simp only [St.put,Za,Zb] <;> exact rfl) ?_))))
            iterate 2 (all_goals refine st_op rfl (by simp (disch := omega) only [stepf,callOf,qop,fop,St.ev,St.put,cd,zd,Value.oneCell',tb_T,TypeDesc.aggB,getD_0,getD_s,Ze,Zd,Zc,Za,Zb,Zr,ZE,ZF,Zf,Zq,Zg,i64_w,Zt,Zs,qFieldAddr,fieldOf,Zl,Zo,Zv,Zw,Zj,Zk,Zx,Zy,qLoad,bload,pload,pureAll,D.pure?,ZC,ZD,qBin,iop,qLen,t1,ti1,t3,ti3,t5,ti5,t22,ti22,t24,ti24,t26,ti26,t35,ti35,t50,ti50,t58,ti58,t60,ti60,t87,ti87,t115,ti115,t117,ti117,t118,ti118,t125,ti125,t126,ti126,Zh,map_at_l,map_at_i,mul_cast,bT_size,bT_leaf,bT_lv,secCells_length,extCells_length,extCells_at0,extCells_at1,extCells_part,markL_length,markL_at,List.take_length] <;> exact rfl) ?_)
            iterate 5 (all_goals first | (refine st_g1 rfl rfl rfl (by simp (disch := omega) only [stepf,callOf,qop,fop,St.ev,St.put,cd,zd,Value.oneCell',tb_T,TypeDesc.aggB,getD_0,getD_s,Ze,Zd,Zc,Za,Zb,Zr,ZE,ZF,Zf,Zq,Zg,i64_w,Zt,Zs,qFieldAddr,fieldOf,Zl,Zo,Zv,Zw,Zj,Zk,Zx,Zy,qLoad,bload,pload,pureAll,D.pure?,ZC,ZD,qBin,iop,qLen,t1,ti1,t3,ti3,t5,ti5,t22,ti22,t24,ti24,t26,ti26,t35,ti35,t50,ti50,t58,ti58,t60,ti60,t87,ti87,t115,ti115,t117,ti117,t118,ti118,t125,ti125,t126,ti126,Zh,map_at_l,map_at_i,mul_cast,bT_size,bT_leaf,bT_lv,secCells_length,extCells_length,extCells_at0,extCells_at1,extCells_part,markL_length,markL_at,List.take_length] <;> exact rfl) ?_) | (first | (refine st_g0 rfl rfl rfl (by simp only [St.put,Za,Zb] <;> exact rfl) ?_) | (refine st_gu rfl rfl rfl (by simp only [St.put,Za,Zb] <;> exact rfl) ?_)) | (refine st_split rfl rfl rfl (by simp only [Za,Zb] <;> exact rfl) (by simp only [Za,Zb] <;> exact rfl) (fun hg => ?_) (fun hg => ?_) <;> (try simp only [Zp,Zi,ZJ,ZK,ne_eq,Zn,Zm,Bool.not_eq_true,Zu] at hg) <;> first | (refine st_g1 rfl rfl rfl (by simp (disch := omega) only [stepf,callOf,qop,fop,St.ev,St.put,cd,zd,Value.oneCell',tb_T,TypeDesc.aggB,getD_0,getD_s,Ze,Zd,Zc,Za,Zb,Zr,ZE,ZF,Zf,Zq,Zg,i64_w,Zt,Zs,qFieldAddr,fieldOf,Zl,Zo,Zv,Zw,Zj,Zk,Zx,Zy,qLoad,bload,pload,pureAll,D.pure?,ZC,ZD,qBin,iop,qLen,t1,ti1,t3,ti3,t5,ti5,t22,ti22,t24,ti24,t26,ti26,t35,ti35,t50,ti50,t58,ti58,t60,ti60,t87,ti87,t115,ti115,t117,ti117,t118,ti118,t125,ti125,t126,ti126,Zh,map_at_l,map_at_i,mul_cast,bT_size,bT_leaf,bT_lv,secCells_length,extCells_length,extCells_at0,extCells_at1,extCells_part,markL_length,markL_at,List.take_length] <;> exact rfl) ?_) | (first | (refine st_g0 rfl rfl rfl (by simp only [St.put,Za,Zb] <;> exact rfl) ?_) | (refine st_gu rfl rfl rfl (by simp only [St.put,Za,Zb] <;> exact rfl) ?_))))
            iterate 2 (all_goals refine st_op rfl (by simp (disch := omega) only [stepf,callOf,qop,fop,St.ev,St.put,cd,zd,Value.oneCell',tb_T,TypeDesc.aggB,getD_0,getD_s,Ze,Zd,Zc,Za,Zb,Zr,ZE,ZF,Zf,Zq,Zg,i64_w,Zt,Zs,qFieldAddr,fieldOf,Zl,Zo,Zv,Zw,Zj,Zk,Zx,Zy,qLoad,bload,pload,pureAll,D.pure?,ZC,ZD,qBin,iop,qLen,t1,ti1,t3,ti3,t5,ti5,t22,ti22,t24,ti24,t26,ti26,t35,ti35,t50,ti50,t58,ti58,t60,ti60,t87,ti87,t115,ti115,t117,ti117,t118,ti118,t125,ti125,t126,ti126,Zh,map_at_l,map_at_i,mul_cast,bT_size,bT_leaf,bT_lv,secCells_length,extCells_length,extCells_at0,extCells_at1,extCells_part,markL_length,markL_at,List.take_length] <;> exact rfl) ?_)
            iterate 8 (all_goals first | (refine st_g1 rfl rfl rfl (by simp (disch := omega) only [stepf,callOf,qop,fop,St.ev,St.put,cd,zd,Value.oneCell',tb_T,TypeDesc.aggB,getD_0,getD_s,Ze,Zd,Zc,Za,Zb,Zr,ZE,ZF,Zf,Zq,Zg,i64_w,Zt,Zs,qFieldAddr,fieldOf,Zl,Zo,Zv,Zw,Zj,Zk,Zx,Zy,qLoad,bload,pload,pureAll,D.pure?,ZC,ZD,qBin,iop,qLen,t1,ti1,t3,ti3,t5,ti5,t22,ti22,t24,ti24,t26,ti26,t35,ti35,t50,ti50,t58,ti58,t60,ti60,t87,ti87,t115,ti115,t117,ti117,t118,ti118,t125,ti125,t126,ti126,Zh,map_at_l,map_at_i,mul_cast,bT_size,bT_leaf,bT_lv,secCells_length,extCells_length,extCells_at0,extCells_at1,extCells_part,markL_length,markL_at,List.take_length] <;> exact rfl) ?_) | (first | (refine st_g0 rfl rfl rfl (by simp only [St.put,Za,Zb] <;> exact rfl) ?_) | (refine st_gu rfl rfl rfl (by simp only [St.put,Za,Zb] <;> exact rfl) ?_)) | (refine st_split rfl rfl rfl (by simp only [Za,Zb] <;> exact rfl) (by simp only [Za,Zb] <;> exact rfl) (fun hg => ?_) (fun hg => ?_) <;> (try simp only [Zp,Zi,ZJ,ZK,ne_eq,Zn,Zm,Bool.not_eq_true,Zu] at hg) <;> first | (refine st_g1 rfl rfl rfl (by simp (disch := omega) only [stepf,callOf,qop,fop,St.ev,St.put,cd,zd,Value.oneCell',tb_T,TypeDesc.aggB,getD_0,getD_s,Ze,Zd,Zc,Za,Zb,Zr,ZE,ZF,Zf,Zq,Zg,i64_w,Zt,Zs,qFieldAddr,fieldOf,Zl,Zo,Zv,Zw,Zj,Zk,Zx,Zy,qLoad,bload,pload,pureAll,D.pure?,ZC,ZD,qBin,iop,qLen,t1,ti1,t3,ti3,t5,ti5,t22,ti22,t24,ti24,t26,ti26,t35,ti35,t50,ti50,t58,ti58,t60,ti60,t87,ti87,t115,ti115,t117,ti117,t118,ti118,t125,ti125,t126,ti126,Zh,map_at_l,map_at_i,mul_cast,bT_size,bT_leaf,bT_lv,secCells_length,extCells_length,extCells_at0,extCells_at1,extCells_part,markL_length,markL_at,List.take_length] <;> exact rfl) ?_) | (first | (refine st_g0 rfl rfl rfl (by simp only [St.put,Za,Zb] <;> exact rfl) ?_) | (refine st_gu rfl rfl rfl (by simp only [St.put,Za,Zb] <;> exact rfl) ?_))))
            (all_goals refine st_op rfl (by simp (disch := omega) only [stepf,callOf,qop,fop,St.ev,St.put,cd,zd,Value.oneCell',tb_T,TypeDesc.aggB,getD_0,getD_s,Ze,Zd,Zc,Za,Zb,Zr,ZE,ZF,Zf,Zq,Zg,i64_w,Zt,Zs,qFieldAddr,fieldOf,Zl,Zo,Zv,Zw,Zj,Zk,Zx,Zy,qLoad,bload,pload,pureAll,D.pure?,ZC,ZD,qBin,iop,qLen,t1,ti1,t3,ti3,t5,ti5,t22,ti22,t24,ti24,t26,ti26,t35,ti35,t50,ti50,t58,ti58,t60,ti60,t87,ti87,t115,ti115,t117,ti117,t118,ti118,t125,ti125,t126,ti126,Zh,map_at_l,map_at_i,mul_cast,bT_size,bT_leaf,bT_lv,secCells_length,extCells_length,extCells_at0,extCells_at1,extCells_part,markL_length,markL_at,List.take_length] <;> exact rfl) ?_)
            all_goals refine aops_nil ?_
            all_goals refine ⟨rfl, ?_, leB_self _, leV_self _, rfl, rfl⟩
            all_goals repeat' (first | exact leL_nil | refine leL_a ?_ | refine leL_r rfl ?_ | refine leL_r ?_ ?_)
            all_goals refine jn ?_
            all_goals ((try simp only [Zp,Zi,ZJ,ZK,Bool.not_eq_true,Zm,Zn,ne_eq,Zf,true_iff,false_iff,iff_true,iff_false] at *) <;> omega)
          refine exq_n ?_
          refine aw_cond _ rfl (fun hc4 => ?_) (fun hc4 => ?_)
          · try simp only [Zp,Zi,ZK,ZJ,ne_eq,Zn,Zm,ZB,ZA,ZI,not_or,not_and,Zu] at hc4
            exfalso; omega
          · try simp only [Zp,Zi,ZK,ZJ,ne_eq,Zn,Zm,ZB,ZA,ZI,not_or,not_and,Zu] at hc4
            refine aw_skip ?_
            refine exq_n ?_
            refine aw_seq ?_
            refine aw_regK hX hb [0, 1, 2] rfl (σ' := ?s18) (fun K hK => ?h18) ?n18
            case h18 =>
              iterate 3 (refine st_op rfl (by simp (disch := omega) only [stepf,callOf,qop,fop,St.ev,St.put,cd,zd,Value.oneCell',tb_T,TypeDesc.aggB,getD_0,getD_s,Ze,Zd,Zc,Za,Zb,Zr,ZE,ZF,Zf,Zq,Zg,i64_w,Zt,Zs,qFieldAddr,fieldOf,Zl,Zo,Zv,Zw,Zj,Zk,Zx,Zy,qLoad,bload,pload,pureAll,D.pure?,ZC,ZD,t1,ti1,t3,ti3,t5,ti5,t22,ti22,t35,ti35,t50,ti50,t133,ti133,Zh,map_at_l,map_at_i,mul_cast,bT_size,bT_leaf,bT_lv,secCells_length,extCells_length,extCells_at0,extCells_at1,extCells_part,markL_length,markL_at,List.take_length] <;> exact rfl) ?_)
              refine aops_nil ?_
              exact hK
            refine exq_n ?_
            refine aw_block ?_
            refine aw_loop (ι := Nat) (fun z => z ≤ c) (fun z => ⟨[], [.p (secs l), .p (secs m), .any, .any, .any, .any, .any, .p (i64 n), .any, .any, .any, .any, .any, .any, .any, .any, .any, .any, .vref 0, .any, .ptr 0 0, .any, .any, .any, .any, .any, .any, .any, .any, .any, .any, .any, .any, .any, .any, .any, .any, .any, .any, .any, .any, .any, .any, .any, .any, .any, .any, .any, .any, .any, .any, .any, .any, .any, .any, .any, .any, .any, .any, .any, .any, .any, .any, .any, .any, .any, .any, .any, .any, .any, .any, .any, .any, .any, .any, .any, .any, .any, .any, .any, .any, .any, .any, .any, .any, .any, .any, .any, .any, .any, .any, .any, .any, .any, .any, .any, .any, .any, .any, .any, .any, .any, .p (exts (dE l m n)), .p (i64 (dE l m n).length), .p (i64 j), .any, .any, .any, .any, .any, .any, .any, .any, .any, .any, .any, .any, .any, .any, .any, .any, .any, .any, .any, .any, .any, .any, .any, .any, .any, .any, .any, .any, .any, .p (i64 c), .p (i64 z), .any, .any, .any, .any, .any, .any, .any, .any, .any, .any, .any, .any, .any, .any, .any, .any, .any, .any, .any, .any, .any, .any, .any, .any, .any, .any, .any, .any, .any, .any, .any, .any, .any, .any, .any, .any, .any, .any, .any, .any, .any, .any, .any, .any, .any, .any, .any], [⟨35, [.p (i64 (a : Int)), .p (i64 (c : Int))]⟩], [some ⟨4, 1, l.length, markL l.length (fun s => covL ((dE l m n).take j) s || decide (a ≤ s ∧ s < a + z))⟩]⟩) (fun z => c - z) 0 (by exact Nat.zero_le _) (wk_le ⟨rfl, leL_r (by first | rfl | (first | (rw [← markL_set _ (show a + z < l.length by omega)]) | (rw [markL_in _ _ a]))) (leL_r (by first | rfl | (first | (rw [← markL_set _ (show a + z < l.length by omega)]) | (rw [markL_in _ _ a]))) (leL_a (leL_a (leL_a (leL_a (leL_a (leL_r (by first | rfl | (first | (rw [← markL_set _ (show a + z < l.length by omega)]) | (rw [markL_in _ _ a]))) (leL_a (leL_a (leL_a (leL_a (leL_a (leL_a (leL_a (leL_a (leL_a (leL_a (leL_r (by first | rfl | (first | (rw [← markL_set _ (show a + z < l.length by omega)]) | (rw [markL_in _ _ a]))) (leL_a (leL_r (by first | rfl | (first | (rw [← markL_set _ (show a + z < l.length by omega)]) | (rw [markL_in _ _ a]))) (leL_a (leL_a (leL_a (leL_a (leL_a (leL_a (leL_a (leL_a (leL_a (leL_a (leL_a (leL_a (leL_a (leL_a (leL_a (leL_a (leL_a (leL_a (leL_a (leL_a (leL_a (leL_a (leL_a (leL_a (leL_a (leL_a (leL_a (leL_a (leL_a (leL_a (leL_a (leL_a (leL_a (leL_a (leL_a (leL_a (leL_a (leL_a (leL_a (leL_a (leL_a (leL_a (leL_a (leL_a (leL_a (leL_a (leL_a (leL_a (leL_a (leL_a (leL_a (leL_a (leL_a (leL_a (leL_a (leL_a (leL_a (leL_a (leL_a (leL_a (leL_a (leL_a (leL_a (leL_a (leL_a (leL_a (leL_a (leL_a (leL_a (leL_a (leL_a (leL_a (leL_a (leL_a (leL_a (leL_a (leL_a (leL_a (leL_a (leL_a (leL_a (leL_r (by first | rfl | (first | (rw [← markL_set _ (show a + z < l.length by omega)]) | (rw [markL_in _ _ a]))) (leL_r (by first | rfl | (first | (rw [← markL_set _ (show a + z < l.length by omega)]) | (rw [markL_in _ _ a]))) (leL_r (by first | rfl | (first | (rw [← markL_set _ (show a + z < l.length by omega)]) | (rw [markL_in _ _ a]))) (leL_a (leL_a (leL_a (leL_a (leL_a (leL_a (leL_a (leL_a (leL_a (leL_a (leL_a (leL_a (leL_a (leL_a (leL_a (leL_a (leL_a (leL_a (leL_a (leL_a (leL_a (leL_a (leL_a (leL_a (leL_a (leL_a (leL_a (leL_a (leL_a (leL_r (by first | rfl | (first | (rw [← markL_set _ (show a + z < l.length by omega)]) | (rw [markL_in _ _ a]))) (leL_r (by first | rfl | (first | (rw [← markL_set _ (show a + z < l.length by omega)]) | (rw [markL_in _ _ a]))) (leL_a (leL_a (leL_a (leL_a (leL_a (leL_a (leL_a (leL_a (leL_a (leL_a (leL_a (leL_a (leL_a (leL_a (leL_a (leL_a (leL_a (leL_a (leL_a (leL_a (leL_a (leL_a (leL_a (leL_a (leL_a (leL_a (leL_a (leL_a (leL_a (leL_a (leL_a (leL_a (leL_a (leL_a (leL_a (leL_a (leL_a (leL_a (leL_a (leL_a (leL_a (leL_a (leL_a (leL_a (leL_a (leL_a (leL_a (leL_nil))))))))))))))))))))))))))))))))))))))))))))))))))))))))))))))))))))))))))))))))))))))))))))))))))))))))))))))))))))))))))))))))))))))))))))))))))))))))))))))))))))))))))))))))))))))), (leB_r rfl (leL_r (by first | rfl | (first | (rw [← markL_set _ (show a + z < l.length by omega)]) | (rw [markL_in _ _ a]))) (leL_r (by first | rfl | (first | (rw [← markL_set _ (show a + z < l.length by omega)]) | (rw [markL_in _ _ a]))) (leL_nil))) (leB_nil _)), (leV_r (by first | rfl | (first | (rw [← markL_set _ (show a + z < l.length by omega)]) | (rw [markL_in _ _ a]))) (leV_nil _)), rfl, rfl⟩) ?_
            rintro z hz
            refine aw_seq ?_
            refine aw_regK hX hb [0] rfl (σ' := ?s19) (fun K hK => ?h19) ?n19
            case h19 =>
              (refine st_op rfl (by simp (disch := omega) only [stepf,callOf,qop,fop,St.ev,St.put,cd,zd,Value.oneCell',tb_T,TypeDesc.aggB,getD_0,getD_s,Ze,Zd,Zc,Za,Zb,Zr,ZE,ZF,Zf,Zq,Zg,i64_w,Zt,Zs,qBin,iop,t3,ti3,Zh,map_at_l,map_at_i,mul_cast,bT_size,bT_leaf,bT_lv,secCells_length,extCells_length,extCells_at0,extCells_at1,extCells_part,markL_length,markL_at,List.take_length] <;> exact rfl) ?_)
              refine aops_nil ?_
              exact hK
            refine exq_n ?_
            refine aw_seq ?_
            refine aw_cond _ rfl (fun hc5 => ?_) (fun hc5 => ?_)
            · try simp only [Zp,Zi,ZK,ZJ,ne_eq,Zn,Zm,ZB,ZA,ZI,not_or,not_and,Zu] at hc5
              have hoff : ((a : Int) + (z : Int)).toNat = a + z := by omega
              refine aw_skip ?_
              refine exq_n ?_
              refine aw_seq ?_
              refine aw_block ?_
              refine aw_seq ?_
              refine aw_regK hX hb [0, 1] rfl (σ' := ?s20) (fun K hK => ?h20) ?n20
              case h20 =>
                iterate 2 (refine st_op rfl (by simp (disch := omega) only [stepf,callOf,qop,fop,St.ev,St.put,cd,zd,Value.oneCell',tb_T,TypeDesc.aggB,getD_0,getD_s,Ze,Zd,Zc,Za,Zb,Zr,ZE,ZF,Zf,Zq,Zg,i64_w,Zt,Zs,Zh,map_at_l,map_at_i,mul_cast,bT_size,bT_leaf,bT_lv,secCells_length,extCells_length,extCells_at0,extCells_at1,extCells_part,markL_length,markL_at,List.take_length] <;> exact rfl) ?_)
                refine aops_nil ?_
                exact hK
              refine exq_n ?_
              refine aw_regK hX hb [0, 1, 2, 3, 4, 5, 6] rfl (σ' := ?s21) (fun K hK => ?h21) ?n21
              case h21 =>
                iterate 7 (refine st_op rfl (by simp (disch := omega) only [stepf,callOf,qop,fop,St.ev,St.put,cd,zd,Value.oneCell',tb_T,TypeDesc.aggB,getD_0,getD_s,Ze,Zd,Zc,Za,Zb,Zr,ZE,ZF,Zf,Zq,Zg,i64_w,Zt,Zs,qFieldAddr,fieldOf,Zl,Zo,Zv,Zw,Zj,Zk,Zx,Zy,qLoad,bload,pload,pureAll,D.pure?,ZC,ZD,qBin,iop,Int.toNat_zero,Int.toNat_one,toNat_pred,toNat_succ,qIndexAddr,ZO,Nat.mul_one,Nat.zero_mul,Zh,fStore,D.boxCells,D.live,D.cells?,ZM,ZL,ZN,ZG,ZH,St.setVec,t3,ti3,t4,ti4,t24,ti24,t26,ti26,t35,ti35,t40,ti40,t54,ti54,t58,ti58,t60,ti60,t75,ti75,t139,ti139,map_at_l,map_at_i,mul_cast,bT_size,bT_leaf,bT_lv,secCells_length,extCells_length,extCells_at0,extCells_at1,extCells_part,markL_length,markL_at,List.take_length,hoff] <;> exact rfl) ?_)
                refine aops_nil ?_
                exact hK
              refine exb_n ?_
              refine exq_n ?_
              refine aw_regK hX hb [0, 1] rfl (σ' := ?s22) (fun K hK => ?h22) ?n22
              case h22 =>
                iterate 2 (refine st_op rfl (by simp (disch := omega) only [stepf,callOf,qop,fop,St.ev,St.put,cd,zd,Value.oneCell',tb_T,TypeDesc.aggB,getD_0,getD_s,Ze,Zd,Zc,Za,Zb,Zr,ZE,ZF,Zf,Zq,Zg,i64_w,Zt,Zs,qBin,iop,t1,ti1,t3,ti3,t144,ti144,Zh,map_at_l,map_at_i,mul_cast,bT_size,bT_leaf,bT_lv,secCells_length,extCells_length,extCells_at0,extCells_at1,extCells_part,markL_length,markL_at,List.take_length] <;> exact rfl) ?_)
                refine aops_nil ?_
                exact hK
              refine exq_n ?_
              exact ⟨z + 1, by (try dsimp only); omega, by (try dsimp only); omega, wk_le ⟨rfl, leL_r (by first | rfl | (first | (rw [← markL_set _ (show a + z < l.length by omega)]) | (rw [markL_in _ _ a]))) (leL_r (by first | rfl | (first | (rw [← markL_set _ (show a + z < l.length by omega)]) | (rw [markL_in _ _ a]))) (leL_a (leL_a (leL_a (leL_a (leL_a (leL_r (by first | rfl | (first | (rw [← markL_set _ (show a + z < l.length by omega)]) | (rw [markL_in _ _ a]))) (leL_a (leL_a (leL_a (leL_a (leL_a (leL_a (leL_a (leL_a (leL_a (leL_a (leL_r (by first | rfl | (first | (rw [← markL_set _ (show a + z < l.length by omega)]) | (rw [markL_in _ _ a]))) (leL_a (leL_r (by first | rfl | (first | (rw [← markL_set _ (show a + z < l.length by omega)]) | (rw [markL_in _ _ a]))) (leL_a (leL_a (leL_a (leL_a (leL_a (leL_a (leL_a (leL_a (leL_a (leL_a (leL_a (leL_a (leL_a (leL_a (leL_a (leL_a (leL_a (leL_a (leL_a (leL_a (leL_a (leL_a (leL_a (leL_a (leL_a (leL_a (leL_a (leL_a (leL_a (leL_a (leL_a (leL_a (leL_a (leL_a (leL_a (leL_a (leL_a (leL_a (leL_a (leL_a (leL_a (leL_a (leL_a (leL_a (leL_a (leL_a (leL_a (leL_a (leL_a (leL_a (leL_a (leL_a (leL_a (leL_a (leL_a (leL_a (leL_a (leL_a (leL_a (leL_a (leL_a (leL_a (leL_a (leL_a (leL_a (leL_a (leL_a (leL_a (leL_a (leL_a (leL_a (leL_a (leL_a (leL_a (leL_a (leL_a (leL_a (leL_a (leL_a (leL_a (leL_a (leL_r (by first | rfl | (first | (rw [← markL_set _ (show a + z < l.length by omega)]) | (rw [markL_in _ _ a]))) (leL_r (by first | rfl | (first | (rw [← markL_set _ (show a + z < l.length by omega)]) | (rw [markL_in _ _ a]))) (leL_r (by first | rfl | (first | (rw [← markL_set _ (show a + z < l.length by omega)]) | (rw [markL_in _ _ a]))) (leL_a (leL_a (leL_a (leL_a (leL_a (leL_a (leL_a (leL_a (leL_a (leL_a (leL_a (leL_a (leL_a (leL_a (leL_a (leL_a (leL_a (leL_a (leL_a (leL_a (leL_a (leL_a (leL_a (leL_a (leL_a (leL_a (leL_a (leL_a (leL_a (leL_r (by first | rfl | (first | (rw [← markL_set _ (show a + z < l.length by omega)]) | (rw [markL_in _ _ a]))) (leL_r (by first | rfl | (first | (rw [← markL_set _ (show a + z < l.length by omega)]) | (rw [markL_in _ _ a]))) (leL_a (leL_a (leL_a (leL_a (leL_a (leL_a (leL_a (leL_a (leL_a (leL_a (leL_a (leL_a (leL_a (leL_a (leL_a (leL_a (leL_a (leL_a (leL_a (leL_a (leL_a (leL_a (leL_a (leL_a (leL_a (leL_a (leL_a (leL_a (leL_a (leL_a (leL_a (leL_a (leL_a (leL_a (leL_a (leL_a (leL_a (leL_a (leL_a (leL_a (leL_a (leL_a (leL_a (leL_a (leL_a (leL_a (leL_a (leL_nil))))))))))))))))))))))))))))))))))))))))))))))))))))))))))))))))))))))))))))))))))))))))))))))))))))))))))))))))))))))))))))))))))))))))))))))))))))))))))))))))))))))))))))))))))))))), (leB_r rfl (leL_r (by first | rfl | (first | (rw [← markL_set _ (show a + z < l.length by omega)]) | (rw [markL_in _ _ a]))) (leL_r (by first | rfl | (first | (rw [← markL_set _ (show a + z < l.length by omega)]) | (rw [markL_in _ _ a]))) (leL_nil))) (leB_nil _)), (leV_r (by first | rfl | (first | (rw [← markL_set _ (show a + z < l.length by omega)]) | (rw [markL_in _ _ a]))) (leV_nil _)), rfl, rfl⟩⟩
            · try simp only [Zp,Zi,ZK,ZJ,ne_eq,Zn,Zm,ZB,ZA,ZI,not_or,not_and,Zu] at hc5
              obtain rfl : z = c := by omega
              refine aw_exit ?_
              refine exq_e ?_
              refine exq_e ?_
              refine exb_h ?_
              refine exb_n ?_
              refine exq_n ?_
              refine aw_regK hX hb [0, 1] rfl (σ' := ?s23) (fun K hK => ?h23) ?n23
              case h23 =>
                iterate 2 (refine st_op rfl (by simp (disch := omega) only [stepf,callOf,qop,fop,St.ev,St.put,cd,zd,Value.oneCell',tb_T,TypeDesc.aggB,getD_0,getD_s,Ze,Zd,Zc,Za,Zb,Zr,ZE,ZF,Zf,Zq,Zg,i64_w,Zt,Zs,qBin,iop,t1,ti1,t3,ti3,t145,ti145,Zh,map_at_l,map_at_i,mul_cast,bT_size,bT_leaf,bT_lv,secCells_length,extCells_length,extCells_at0,extCells_at1,extCells_part,markL_length,markL_at,List.take_length] <;> exact rfl) ?_)
                refine aops_nil ?_
                exact hK
              refine exq_n ?_
              exact ⟨j + 1, by (try dsimp only); omega, by (try dsimp only); omega, wk_le ⟨rfl, leL_r (by first | rfl | (first | (rw [markL_start]; rfl) | (rw [markL_out (by omega) hac]))) (leL_r (by first | rfl | (first | (rw [markL_start]; rfl) | (rw [markL_out (by omega) hac]))) (leL_a (leL_a (leL_a (leL_a (leL_a (leL_r (by first | rfl | (first | (rw [markL_start]; rfl) | (rw [markL_out (by omega) hac]))) (leL_a (leL_a (leL_a (leL_a (leL_a (leL_a (leL_a (leL_a (leL_a (leL_a (leL_r (by first | rfl | (first | (rw [markL_start]; rfl) | (rw [markL_out (by omega) hac]))) (leL_a (leL_a (leL_a (leL_a (leL_a (leL_a (leL_a (leL_a (leL_a (leL_a (leL_a (leL_a (leL_a (leL_a (leL_a (leL_a (leL_a (leL_a (leL_a (leL_a (leL_a (leL_a (leL_a (leL_a (leL_a (leL_a (leL_a (leL_a (leL_a (leL_a (leL_a (leL_a (leL_a (leL_a (leL_a (leL_a (leL_a (leL_a (leL_a (leL_a (leL_a (leL_a (leL_a (leL_a (leL_a (leL_a (leL_a (leL_a (leL_a (leL_a (leL_a (leL_a (leL_a (leL_a (leL_a (leL_a (leL_a (leL_a (leL_a (leL_a (leL_a (leL_a (leL_a (leL_a (leL_a (leL_a (leL_a (leL_a (leL_a (leL_a (leL_a (leL_a (leL_a (leL_a (leL_a (leL_a (leL_a (leL_a (leL_a (leL_a (leL_a (leL_a (leL_a (leL_r (by first | rfl | (first | (rw [markL_start]; rfl) | (rw [markL_out (by omega) hac]))) (leL_r (by first | rfl | (first | (rw [markL_start]; rfl) | (rw [markL_out (by omega) hac]))) (leL_r (by first | rfl | (first | (rw [markL_start]; rfl) | (rw [markL_out (by omega) hac]))) (leL_a (leL_a (leL_a (leL_a (leL_a (leL_a (leL_a (leL_a (leL_a (leL_a (leL_a (leL_a (leL_a (leL_a (leL_a (leL_a (leL_a (leL_a (leL_a (leL_a (leL_a (leL_a (leL_a (leL_a (leL_a (leL_a (leL_a (leL_a (leL_a (leL_a (leL_a (leL_a (leL_a (leL_a (leL_a (leL_a (leL_a (leL_a (leL_a (leL_a (leL_a (leL_a (leL_a (leL_a (leL_a (leL_a (leL_a (leL_a (leL_a (leL_a (leL_a (leL_a (leL_a (leL_a (leL_a (leL_a (leL_a (leL_a (leL_a (leL_a (leL_a (leL_a (leL_a (leL_a (leL_a (leL_a (leL_a (leL_a (leL_a (leL_a (leL_a (leL_a (leL_a (leL_a (leL_a (leL_a (leL_a (leL_a (leL_nil))))))))))))))))))))))))))))))))))))))))))))))))))))))))))))))))))))))))))))))))))))))))))))))))))))))))))))))))))))))))))))))))))))))))))))))))))))))))))))))))))))))))))))))))))))))), (leB_nil _), (leV_r (by first | rfl | (first | (rw [markL_start]; rfl) | (rw [markL_out (by omega) hac]))) (leV_nil _)), rfl, rfl⟩⟩
        · try simp only [Zp,Zi,ZK,ZJ,ne_eq,Zn,Zm,ZB,ZA,ZI,not_or,not_and,Zu] at hc3
          obtain rfl : j = (dE l m n).length := by omega
          refine aw_exit ?_
          refine exq_e ?_
          refine exq_e ?_
          refine exb_h ?_
          refine exq_n ?_
          refine aw_seq ?_
          refine aw_seq ?_
          refine aw_frz 0 rfl (σ' := ?s25) ?h25 ?n25
          case h25 => simp only [St.freeze,D.freeze,ZG,ZH,Za,Zb,Zr,reduceIte,Nat.reduceEqDiff]; exact rfl
          refine aw_regK hX hb [0, 1, 2] rfl (σ' := ?s24) (fun K hK => ?h24) ?n24
          case h24 =>
            iterate 3 (refine st_op rfl (by simp (disch := omega) only [stepf,callOf,qop,fop,St.ev,St.put,cd,zd,Value.oneCell',tb_T,TypeDesc.aggB,getD_0,getD_s,Ze,Zd,Zc,Za,Zb,Zr,ZE,ZF,Zf,Zq,Zg,i64_w,Zt,Zs,qLen,t5,ti5,t22,ti22,t50,ti50,Zh,map_at_l,map_at_i,mul_cast,bT_size,bT_leaf,bT_lv,secCells_length,extCells_length,extCells_at0,extCells_at1,extCells_part,markL_length,markL_at,List.take_length] <;> exact rfl) ?_)
            refine aops_nil ?_
            exact hK
          refine exq_n ?_
          refine aw_block ?_
          refine aw_loop (ι := Nat) (fun s => s ≤ l.length) (fun s => ⟨[], [.p (secs l), .p (secs m), .any, .any, .any, .any, .any, .p (i64 n), .any, .any, .any, .any, .any, .any, .any, .any, .any, .any, .p (.sl l.length (markL l.length (covL (dE l m n)))), .any, .any, .any, .any, .any, .any, .any, .any, .any, .any, .any, .any, .any, .any, .any, .any, .any, .any, .any, .any, .any, .any, .any, .any, .any, .any, .any, .any, .any, .any, .any, .any, .any, .any, .any, .any, .any, .any, .any, .any, .any, .any, .any, .any, .any, .any, .any, .any, .any, .any, .any, .any, .any, .any, .any, .any, .any, .any, .any, .any, .any, .any, .any, .any, .any, .any, .any, .any, .any, .any, .any, .any, .any, .any, .any, .any, .any, .any, .any, .any, .any, .any, .any, .any, .any, .any, .any, .any, .any, .any, .any, .any, .any, .any, .any, .any, .any, .any, .any, .any, .any, .any, .any, .any, .any, .any, .any, .any, .any, .any, .any, .any, .any, .any, .any, .any, .any, .any, .any, .any, .any, .any, .any, .any, .any, .any, .any, .any, .p (i64 l.length), .p (i64 s), .any, .any, .any, .any, .any, .any, .any, .any, .any, .any, .any, .any, .any, .any, .any, .any, .any, .any, .any, .any, .any, .any, .any, .any, .any, .any, .any, .any, .any, .any, .any, .any, .any, .any], [], []⟩) (fun s => l.length - s) 0 (by exact Nat.zero_le _) (wk_le ⟨rfl, leL_r rfl (leL_r rfl (leL_a (leL_a (leL_a (leL_a (leL_a (leL_r rfl (leL_a (leL_a (leL_a (leL_a (leL_a (leL_a (leL_a (leL_a (leL_a (leL_a (leL_r rfl (leL_a (leL_a (leL_a (leL_a (leL_a (leL_a (leL_a (leL_a (leL_a (leL_a (leL_a (leL_a (leL_a (leL_a (leL_a (leL_a (leL_a (leL_a (leL_a (leL_a (leL_a (leL_a (leL_a (leL_a (leL_a (leL_a (leL_a (leL_a (leL_a (leL_a (leL_a (leL_a (leL_a (leL_a (leL_a (leL_a (leL_a (leL_a (leL_a (leL_a (leL_a (leL_a (leL_a (leL_a (leL_a (leL_a (leL_a (leL_a (leL_a (leL_a (leL_a (leL_a (leL_a (leL_a (leL_a (leL_a (leL_a (leL_a (leL_a (leL_a (leL_a (leL_a (leL_a (leL_a (leL_a (leL_a (leL_a (leL_a (leL_a (leL_a (leL_a (leL_a (leL_a (leL_a (leL_a (leL_a (leL_a (leL_a (leL_a (leL_a (leL_a (leL_a (leL_a (leL_a (leL_a (leL_a (leL_a (leL_a (leL_a (leL_a (leL_a (leL_a (leL_a (leL_a (leL_a (leL_a (leL_a (leL_a (leL_a (leL_a (leL_a (leL_a (leL_a (leL_a (leL_a (leL_a (leL_a (leL_a (leL_a (leL_a (leL_a (leL_a (leL_a (leL_a (leL_a (leL_a (leL_a (leL_a (leL_a (leL_a (leL_a (leL_a (leL_a (leL_a (leL_a (leL_a (leL_a (leL_a (leL_r rfl (leL_r rfl (leL_a (leL_a (leL_a (leL_a (leL_a (leL_a (leL_a (leL_a (leL_a (leL_a (leL_a (leL_a (leL_a (leL_a (leL_a (leL_a (leL_a (leL_a (leL_a (leL_a (leL_a (leL_a (leL_a (leL_a (leL_a (leL_a (leL_a (leL_a (leL_a (leL_a (leL_a (leL_a (leL_a (leL_a (leL_nil))))))))))))))))))))))))))))))))))))))))))))))))))))))))))))))))))))))))))))))))))))))))))))))))))))))))))))))))))))))))))))))))))))))))))))))))))))))))))))))))))))))))))))))))))))))), (leB_nil _), (leV_nil _), rfl, rfl⟩) ?_
          rintro s hs
          refine aw_seq ?_
          refine aw_regK hX hb [0] rfl (σ' := ?s26) (fun K hK => ?h26) ?n26
          case h26 =>
            (refine st_op rfl (by simp (disch := omega) only [stepf,callOf,qop,fop,St.ev,St.put,cd,zd,Value.oneCell',tb_T,TypeDesc.aggB,getD_0,getD_s,Ze,Zd,Zc,Za,Zb,Zr,ZE,ZF,Zf,Zq,Zg,i64_w,Zt,Zs,qBin,iop,t3,ti3,t148,ti148,Zh,map_at_l,map_at_i,mul_cast,bT_size,bT_leaf,bT_lv,secCells_length,extCells_length,extCells_at0,extCells_at1,extCells_part,markL_length,markL_at,List.take_length] <;> exact rfl) ?_)
            refine aops_nil ?_
            exact hK
          refine exq_n ?_
          refine aw_seq ?_
          refine aw_cond _ rfl (fun hc6 => ?_) (fun hc6 => ?_)
          · try simp only [Zp,Zi,ZK,ZJ,ne_eq,Zn,Zm,ZB,ZA,ZI,not_or,not_and,Zu] at hc6
            have hcov := dE_cov (l := l) (m := m) (n := n) (by omega) (by omega) hm hc1 (show s < l.length by omega)
            have hsq := Nat.div_mul_le_self s n
            refine aw_skip ?_
            refine exq_n ?_
            refine aw_seq ?_
            refine aw_block ?_
            refine aw_seq ?_
            refine aw_regK hX hb [0, 1] rfl (σ' := ?s27) (fun K hK => ?h27) ?n27
            case h27 =>
              iterate 2 (refine st_op rfl (by simp (disch := omega) only [stepf,callOf,qop,fop,St.ev,St.put,cd,zd,Value.oneCell',tb_T,TypeDesc.aggB,getD_0,getD_s,Ze,Zd,Zc,Za,Zb,Zr,ZE,ZF,Zf,Zq,Zg,i64_w,Zt,Zs,t148,ti148,Zh,map_at_l,map_at_i,mul_cast,bT_size,bT_leaf,bT_lv,secCells_length,extCells_length,extCells_at0,extCells_at1,extCells_part,markL_length,markL_at,List.take_length] <;> exact rfl) ?_)
              refine aops_nil ?_
              exact hK
            refine exq_n ?_
            refine aw_seq ?_
            refine aw_regD hX hb (try_mixed hP) [(0, true), (1, true), (2, true), (3, true), (4, true), (5, true), (6, true), (7, true), (8, true), (9, true), (10, true), (11, true), (12, true), (13, true), (14, true), (15, true), (16, true)] (by kernel_rfl) (σ' := ?s28) (fun K hK => ?h28) ?n28
            case h28 =>
              iterate 17 (refine sd_q rfl (by simp (disch := omega) only [qop,fop,St.ev,St.put,cd,zd,Value.oneCell',tb_T,TypeDesc.aggB,getD_0,getD_s,Ze,Zd,Zc,Za,Zb,Zr,ZE,ZF,Zf,Zq,Zg,i64_w,Zt,Zs,qBin,iop,qLen,min_ite,t3,ti3,t5,ti5,t22,ti22,t50,ti50,t161,ti161,t163,ti163,t164,ti164,Zh,map_at_l,map_at_i,mul_cast,bT_size,bT_leaf,bT_lv,secCells_length,extCells_length,extCells_at0,extCells_at1,extCells_part,markL_length,markL_at,List.take_length,quo_w,quo_nat,min_nat2] <;> exact rfl) (by simp only [St.put,Za,Zb] <;> exact rfl) ?_)
              refine aopsd_nil ?_
              exact hK
            refine exq_n ?_
            refine aw_seq ?_
            refine aw_regD hX hb (try_mixed hP) [(0, true), (1, true), (2, true), (3, true), (4, true), (5, true), (6, true), (7, true), (8, true), (9, true), (10, true), (11, true), (12, false), (13, true), (14, true)] (by kernel_rfl) (σ' := ?s29) (fun K hK => ?h29) ?n29
            case h29 =>
              iterate 12 (refine sd_q rfl (by simp (disch := omega) only [qop,fop,St.ev,St.put,cd,zd,Value.oneCell',tb_T,TypeDesc.aggB,getD_0,getD_s,Ze,Zd,Zc,Za,Zb,Zr,ZE,ZF,Zf,Zq,Zg,i64_w,Zt,Zs,Int.toNat_zero,Int.toNat_one,toNat_pred,toNat_succ,qIndexAddr,ZO,Nat.mul_one,ZC,Nat.zero_mul,Zh,Zl,Zo,Zv,Zw,Zj,Zk,Zx,Zy,qLoad,bload,pload,pureAll,D.pure?,ZD,imp_self,Nat.one_mul,qSlice,bnd,Option.isSome_none,ZP,Option.map_none,implies_true,forall_const,Nat.sub_zero,pvAll,D.pv?,Bool.not_true,Bool.not_false,qBin,iop,t1,ti1,t4,ti4,t5,ti5,t22,ti22,t24,ti24,t50,ti50,t54,ti54,t58,ti58,t60,ti60,t167,ti167,t168,ti168,t170,ti170,t171,ti171,t173,ti173,t174,ti174,t177,ti177,t178,ti178,map_at_l,map_at_i,mul_cast,bT_size,bT_leaf,bT_lv,secCells_length,extCells_length,extCells_at0,extCells_at1,extCells_part,markL_length,markL_at,List.take_length,hcov,beq_self_eq_true,decide_true,eq_self,bne_self_eq_false] <;> exact rfl) (by simp only [St.put,Za,Zb] <;> exact rfl) ?_)
              refine sd_call rfl (by simp only [callOf,St.ev,getD_0,getD_s,pvAll,D.pv?,ZG,ZH,zd,cd,Value.oneCell',Zr] <;> exact rfl) (acK hP (k33 l m n (s / n) _ _ (sec_partN l n (s / n) _ _ (by omega) rfl) (sec_partN m n (s / n) _ _ (by omega) (by rw [hm])))) (by simp only [St.put,Za,Zb] <;> exact rfl) ?_
              iterate 2 (refine sd_q rfl (by simp (disch := omega) only [qop,fop,St.ev,St.put,cd,zd,Value.oneCell',tb_T,TypeDesc.aggB,getD_0,getD_s,Ze,Zd,Zc,Za,Zb,Zr,ZE,ZF,Zf,Zq,Zg,i64_w,Zt,Zs,Int.toNat_zero,Int.toNat_one,toNat_pred,toNat_succ,qIndexAddr,ZO,Nat.mul_one,ZC,Nat.zero_mul,Zh,Zl,Zo,Zv,Zw,Zj,Zk,Zx,Zy,qLoad,bload,pload,pureAll,D.pure?,ZD,imp_self,Nat.one_mul,qSlice,bnd,Option.isSome_none,ZP,Option.map_none,implies_true,forall_const,Nat.sub_zero,pvAll,D.pv?,Bool.not_true,Bool.not_false,qBin,iop,t1,ti1,t4,ti4,t5,ti5,t22,ti22,t24,ti24,t50,ti50,t54,ti54,t58,ti58,t60,ti60,t167,ti167,t168,ti168,t170,ti170,t171,ti171,t173,ti173,t174,ti174,t177,ti177,t178,ti178,map_at_l,map_at_i,mul_cast,bT_size,bT_leaf,bT_lv,secCells_length,extCells_length,extCells_at0,extCells_at1,extCells_part,markL_length,markL_at,List.take_length,hcov,beq_self_eq_true,decide_true,eq_self,bne_self_eq_false] <;> exact rfl) (by simp only [St.put,Za,Zb] <;> exact rfl) ?_)
              refine aopsd_nil ?_
              exact hK
            refine exq_n ?_
            refine aw_cond _ rfl (fun hc7 => ?_) (fun hc7 => ?_)
            · try simp only [Zp,Zi,ZK,ZJ,ne_eq,Zn,Zm,ZB,ZA,ZI,not_or,not_and,Zu] at hc7
              cases hc7
            · try simp only [Zp,Zi,ZK,ZJ,ne_eq,Zn,Zm,ZB,ZA,ZI,not_or,not_and,Zu] at hc7
              refine aw_skip ?_
              refine exb_n ?_
              refine exq_n ?_
              refine aw_regK hX hb [0, 1] rfl (σ' := ?s30) (fun K hK => ?h30) ?n30
              case h30 =>
                iterate 2 (refine st_op rfl (by simp (disch := omega) only [stepf,callOf,qop,fop,St.ev,St.put,cd,zd,Value.oneCell',tb_T,TypeDesc.aggB,getD_0,getD_s,Ze,Zd,Zc,Za,Zb,Zr,ZE,ZF,Zf,Zq,Zg,i64_w,Zt,Zs,qBin,iop,t1,ti1,t3,ti3,t148,ti148,t181,ti181,t185,ti185,Zh,map_at_l,map_at_i,mul_cast,bT_size,bT_leaf,bT_lv,secCells_length,extCells_length,extCells_at0,extCells_at1,extCells_part,markL_length,markL_at,List.take_length] <;> exact rfl) ?_)
                refine aops_nil ?_
                exact hK
              refine exq_n ?_
              exact ⟨s + 1, by (try dsimp only); omega, by (try dsimp only); omega, wk_le ⟨rfl, leL_r rfl (leL_r rfl (leL_a (leL_a (leL_a (leL_a (leL_a (leL_r rfl (leL_a (leL_a (leL_a (leL_a (leL_a (leL_a (leL_a (leL_a (leL_a (leL_a (leL_r rfl (leL_a (leL_a (leL_a (leL_a (leL_a (leL_a (leL_a (leL_a (leL_a (leL_a (leL_a (leL_a (leL_a (leL_a (leL_a (leL_a (leL_a (leL_a (leL_a (leL_a (leL_a (leL_a (leL_a (leL_a (leL_a (leL_a (leL_a (leL_a (leL_a (leL_a (leL_a (leL_a (leL_a (leL_a (leL_a (leL_a (leL_a (leL_a (leL_a (leL_a (leL_a (leL_a (leL_a (leL_a (leL_a (leL_a (leL_a (leL_a (leL_a (leL_a (leL_a (leL_a (leL_a (leL_a (leL_a (leL_a (leL_a (leL_a (leL_a (leL_a (leL_a (leL_a (leL_a (leL_a (leL_a (leL_a (leL_a (leL_a (leL_a (leL_a (leL_a (leL_a (leL_a (leL_a (leL_a (leL_a (leL_a (leL_a (leL_a (leL_a (leL_a (leL_a (leL_a (leL_a (leL_a (leL_a (leL_a (leL_a (leL_a (leL_a (leL_a (leL_a (leL_a (leL_a (leL_a (leL_a (leL_a (leL_a (leL_a (leL_a (leL_a (leL_a (leL_a (leL_a (leL_a (leL_a (leL_a (leL_a (leL_a (leL_a (leL_a (leL_a (leL_a (leL_a (leL_a (leL_a (leL_a (leL_a (leL_a (leL_a (leL_a (leL_a (leL_a (leL_a (leL_a (leL_a (leL_a (leL_a (leL_r rfl (leL_r rfl (leL_a (leL_a (leL_a (leL_a (leL_a (leL_a (leL_a (leL_a (leL_a (leL_a (leL_a (leL_a (leL_a (leL_a (leL_a (leL_a (leL_a (leL_a (leL_a (leL_a (leL_a (leL_a (leL_a (leL_a (leL_a (leL_a (leL_a (leL_a (leL_a (leL_a (leL_a (leL_a (leL_a (leL_a (leL_nil))))))))))))))))))))))))))))))))))))))))))))))))))))))))))))))))))))))))))))))))))))))))))))))))))))))))))))))))))))))))))))))))))))))))))))))))))))))))))))))))))))))))))))))))))))))), (leB_nil _), (leV_nil _), rfl, rfl⟩⟩
          · try simp only [Zp,Zi,ZK,ZJ,ne_eq,Zn,Zm,ZB,ZA,ZI,not_or,not_and,Zu] at hc6
            refine aw_exit ?_
            refine exq_e ?_
            refine exq_e ?_
            refine exb_h ?_
            refine exq_n ?_
            refine aw_seq ?_
            refine aw_regK hX hb [0, 1] rfl (σ' := ?s31) (fun K hK => ?h31) ?n31
            case h31 =>
              refine st_call rfl (by simp only [callOf,St.ev,getD_0,getD_s,pvAll,D.pv?,ZG,ZH,zd,cd,Value.oneCell',Zr] <;> exact rfl) (acK hP (c20)) (by simp only [St.put,Za,Zb] <;> exact rfl) ?_
              (refine st_op rfl (by simp (disch := omega) only [stepf,callOf,qop,fop,St.ev,St.put,cd,zd,Value.oneCell',tb_T,TypeDesc.aggB,getD_0,getD_s,Ze,Zd,Zc,Za,Zb,Zr,ZE,ZF,Zf,Zq,Zg,i64_w,Zt,Zs,pvAll,D.pv?,Zh,map_at_l,map_at_i,mul_cast,bT_size,bT_leaf,bT_lv,secCells_length,extCells_length,extCells_at0,extCells_at1,extCells_part,markL_length,markL_at,List.take_length] <;> exact rfl) ?_)
              refine aops_nil ?_
              exact hK
            refine exq_n ?_
            refine aw_ret ?_
            exact ret_r rfl (resOf_one rfl rfl)
end Go.Proofs.Ytldcoekbgfaomaa
end
section
namespace Go.Proofs.Ytldcoekbgfaomaa
open Go.RowKit
theorem rowOwn : ownKnob Try.prog.godebug = none := by kernel_rfl
theorem rowLaid : laidOutB Try.prog = true := by kernel_rfl
theorem rowMaps : mapsRowed Try.pinned.checked.prog = true := by kernel_rfl
theorem rowHeard : Try.pinned.checked.prog.stopsHeard = true := by kernel_rfl
theorem rowGreat : (Try.pinned.checked.prog.mayEnter && ((Try.pinned.checked.prog.make == some Rows.hashtreeBuildsRow.make) && (Rows.hashtreeBuildsRow.lifted == Try.pinned.checked.prog.liftsFinal))) = true := by kernel_rfl
theorem rowEnter : Try.pinned.checked.prog.mayEnter = true := by have h := rowGreat; rw [Bool.and_eq_true, Bool.and_eq_true] at h; exact h.1
theorem rowMake : (Try.pinned.checked.prog.make == some Rows.hashtreeBuildsRow.make) = true := by have h := rowGreat; rw [Bool.and_eq_true, Bool.and_eq_true] at h; exact h.2.1
theorem rowLift : (Rows.hashtreeBuildsRow.lifted == Try.pinned.checked.prog.liftsFinal) = true := by have h := rowGreat; rw [Bool.and_eq_true, Bool.and_eq_true] at h; exact h.2.2
end Go.Proofs.Ytldcoekbgfaomaa
end
