/- The walks of the code that the statement reaches, and the plain laws behind them, part Ue. No conditions. -/
import Derived.Test.YtldcoekbgfaomaaRows
import Derived.WalkKit
import Derived.ProofKit
import Derived.Test.YtldcoekbgfaomaaUd
set_option linter.unusedVariables false
set_option linter.unusedSimpArgs false
section
namespace Go.Proofs.Ytldcoekbgfaomaa
open Go.RowKit
set_option maxRecDepth 20000
set_option maxHeartbeats 4000000
attribute [local irreducible] AOps AOpsD AW
theorem map_at_s (l : List (List (List Int))) (i : Nat) (h : i < l.length) : (l.map secs)[i]? = some (secs (l.getD i [])) := by
  rw [List.getElem?_map, List.getElem?_eq_getElem h, List.getD_eq_getElem?_getD, List.getElem?_eq_getElem h]
  rfl
theorem flatS_take (l : List (List (List Int))) (i : Nat) (h : i < l.length) : (l.take (i + 1)).flatten = (l.take i).flatten ++ l.getD i [] := by
  rw [List.take_add_one, List.flatten_append, List.getElem?_eq_getElem h, List.getD_eq_getElem?_getD, List.getElem?_eq_getElem h]
  simp
theorem flatS_take_le (l : List (List (List Int))) (i : Nat) : (l.take i).flatten.length ≤ l.flatten.length := by
  have h : l.flatten = (l.take i).flatten ++ (l.drop i).flatten := by rw [← List.flatten_append, List.take_append_drop]
  rw [h, List.length_append]
  omega
theorem secCells_append (l m : List (List Int)) : secCells (l ++ m) = secCells l ++ secCells m := by simp [secCells]
theorem o42 (ls : List (List (List Int))) (h1 : ls.length ≤ 4294967296) (h2 : ls.flatten.length ≤ 4294967296) : ACallsO Try.prog 42 [.p (.sl ls.length (ls.map secs))] ⟨50, 8, ls.flatten.length, secCells ls.flatten⟩ := by
  refine acallsO_of Try.func42 (c := _) rfl (by kernel_rfl) (t := 2) rfl ?_
  intro X hP hX hro hpl
  have hb : tb.Ok X.P := hP ▸ tb_ok
  change AW X _ _ ⟨[], [.p (.sl ls.length (ls.map secs)), .any, .any, .any, .any, .any, .any, .any, .any, .any, .any, .any, .any, .any, .any, .any, .any, .any, .any, .any, .any, .any, .any, .any, .any, .any, .any, .any, .any, .any, .any, .any, .any, .any, .any, .any], [], []⟩
  refine aw_seq ?_
  refine aw_regK hX hb [0] rfl (σ' := ?s1) (fun K hK => ?h1) ?n1
  case h1 =>
    (refine st_op rfl (by simp (disch := omega) only [stepf,callOf,qop,fop,St.ev,St.put,cd,zd,Value.oneCell',tb_T,TypeDesc.aggB,getD_0,getD_s,Ze,Zd,Zc,Za,Zb,Zr,ZE,ZF,Zf,Zq,Zg,i64_w,Zt,Zs,Zh,map_at_s,secCells_length] <;> exact rfl) ?_)
    refine aops_nil ?_
    exact hK
  refine exq_n ?_
  refine aw_seq ?_
  refine aw_regK hX hb [0] rfl (σ' := ?s2) (fun K hK => ?h2) ?n2
  case h2 =>
    (refine st_op rfl (by simp (disch := omega) only [stepf,callOf,qop,fop,St.ev,St.put,cd,zd,Value.oneCell',tb_T,TypeDesc.aggB,getD_0,getD_s,Ze,Zd,Zc,Za,Zb,Zr,ZE,ZF,Zf,Zq,Zg,i64_w,Zt,Zs,Zh,map_at_s,secCells_length] <;> exact rfl) ?_)
    refine aops_nil ?_
    exact hK
  refine exq_n ?_
  refine aw_seq ?_
  refine aw_seq ?_
  refine aw_regK hX hb [0, 1, 2] rfl (σ' := ?s3) (fun K hK => ?h3) ?n3
  case h3 =>
    iterate 3 (refine st_op rfl (by simp (disch := omega) only [stepf,callOf,qop,fop,St.ev,St.put,cd,zd,Value.oneCell',tb_T,TypeDesc.aggB,getD_0,getD_s,Ze,Zd,Zc,Za,Zb,Zr,ZE,ZF,Zf,Zq,Zg,i64_w,Zt,Zs,qLen,t5,ti5,t22,ti22,t50,ti50,t133,ti133,Zh,map_at_s,secCells_length] <;> exact rfl) ?_)
    refine aops_nil ?_
    exact hK
  refine exq_n ?_
  refine aw_block ?_
  refine aw_loop (ι := Nat) (fun j => j ≤ ls.length) (fun j => ⟨[], [.p (.sl ls.length (ls.map secs)), .any, .any, .p (i64 ((ls.take j).flatten.length : Nat)), .any, .any, .any, .any, .any, .p (.sl ls.length (ls.map secs)), .p (i64 ls.length), .p (i64 j), .any, .any, .any, .any, .any, .any, .any, .any, .any, .any, .any, .any, .any, .any, .any, .any, .any, .any, .any, .any, .any, .any, .any, .any], [], []⟩) (fun j => ls.length - j) 0 (by exact Nat.zero_le _) (wk_le ⟨rfl, leL_r (by first | rfl | (rw [flatS_take ls j (by omega), List.length_append]; rfl)) (leL_a (leL_a (leL_r (by first | rfl | (rw [flatS_take ls j (by omega), List.length_append]; rfl)) (leL_a (leL_a (leL_a (leL_a (leL_a (leL_r (by first | rfl | (rw [flatS_take ls j (by omega), List.length_append]; rfl)) (leL_r (by first | rfl | (rw [flatS_take ls j (by omega), List.length_append]; rfl)) (leL_r (by first | rfl | (rw [flatS_take ls j (by omega), List.length_append]; rfl)) (leL_a (leL_a (leL_a (leL_a (leL_a (leL_a (leL_a (leL_a (leL_a (leL_a (leL_a (leL_a (leL_a (leL_a (leL_a (leL_a (leL_a (leL_a (leL_a (leL_a (leL_a (leL_a (leL_a (leL_a (leL_nil)))))))))))))))))))))))))))))))))))), (leB_nil _), (leV_nil _), rfl, rfl⟩) ?_
  rintro j hJ
  have hf := flatS_take_le ls j
  have hf1 := flatS_take_le ls (j + 1)
  refine aw_seq ?_
  refine aw_regK hX hb [0] rfl (σ' := ?s4) (fun K hK => ?h4) ?n4
  case h4 =>
    (refine st_op rfl (by simp (disch := omega) only [stepf,callOf,qop,fop,St.ev,St.put,cd,zd,Value.oneCell',tb_T,TypeDesc.aggB,getD_0,getD_s,Ze,Zd,Zc,Za,Zb,Zr,ZE,ZF,Zf,Zq,Zg,i64_w,Zt,Zs,qBin,iop,t3,ti3,Zh,map_at_s,secCells_length] <;> exact rfl) ?_)
    refine aops_nil ?_
    exact hK
  refine exq_n ?_
  refine aw_seq ?_
  refine aw_cond _ rfl (fun hc0 => ?_) (fun hc0 => ?_)
  · try simp only [Zp,Zi,ZK,ZJ,ne_eq,Zn,Zm,ZB,ZA,ZI,not_or,not_and,Zu] at hc0
    have hft := flatS_take ls j (by omega)
    rw [hft, List.length_append] at hf1
    refine aw_skip ?_
    refine exq_n ?_
    refine aw_seq ?_
    refine aw_block ?_
    refine aw_seq ?_
    refine aw_regK hX hb [0, 1, 2] rfl (σ' := ?s5) (fun K hK => ?h5) ?n5
    case h5 =>
      iterate 3 (refine st_op rfl (by simp (disch := omega) only [stepf,callOf,qop,fop,St.ev,St.put,cd,zd,Value.oneCell',tb_T,TypeDesc.aggB,getD_0,getD_s,Ze,Zd,Zc,Za,Zb,Zr,ZE,ZF,Zf,Zq,Zg,i64_w,Zt,Zs,Int.toNat_zero,Int.toNat_one,toNat_pred,toNat_succ,qIndexAddr,ZO,Nat.mul_one,ZC,Nat.zero_mul,Zh,Zl,Zo,Zv,Zw,Zj,Zk,Zx,Zy,qLoad,bload,pload,pureAll,D.pure?,ZD,t5,ti5,t22,ti22,t50,ti50,t133,ti133,map_at_s,secCells_length] <;> exact rfl) ?_)
      refine aops_nil ?_
      exact hK
    refine exq_n ?_
    refine aw_seq ?_
    refine aw_regK hX hb [0, 1, 2, 3, 4] rfl (σ' := ?s6) (fun K hK => ?h6) ?n6
    case h6 =>
      iterate 5 (refine st_op rfl (by simp (disch := omega) only [stepf,callOf,qop,fop,St.ev,St.put,cd,zd,Value.oneCell',tb_T,TypeDesc.aggB,getD_0,getD_s,Ze,Zd,Zc,Za,Zb,Zr,ZE,ZF,Zf,Zq,Zg,i64_w,Zt,Zs,qLen,qBin,iop,t3,ti3,t5,ti5,t22,ti22,t50,ti50,Zh,map_at_s,secCells_length] <;> exact rfl) ?_)
      refine aops_nil ?_
      exact hK
    refine exq_n ?_
    refine aw_seq ?_
    refine aw_regK hX hb [0, 1] rfl (σ' := ?s7) (fun K hK => ?h7) ?n7
    case h7 =>
      iterate 2 (refine st_op rfl (by simp (disch := omega) only [stepf,callOf,qop,fop,St.ev,St.put,cd,zd,Value.oneCell',tb_T,TypeDesc.aggB,getD_0,getD_s,Ze,Zd,Zc,Za,Zb,Zr,ZE,ZF,Zf,Zq,Zg,i64_w,Zt,Zs,qBin,iop,t3,ti3,Zh,map_at_s,secCells_length] <;> exact rfl) ?_)
      refine aops_nil ?_
      exact hK
    refine exq_n ?_
    refine aw_cond _ rfl (fun hc1 => ?_) (fun hc1 => ?_)
    · try simp only [Zp,Zi,ZK,ZJ,ne_eq,Zn,Zm,ZB,ZA,ZI,not_or,not_and,Zu] at hc1
      exfalso; omega
    · try simp only [Zp,Zi,ZK,ZJ,ne_eq,Zn,Zm,ZB,ZA,ZI,not_or,not_and,Zu] at hc1
      refine aw_skip ?_
      refine exb_n ?_
      refine exq_n ?_
      refine aw_regK hX hb [0, 1] rfl (σ' := ?s8) (fun K hK => ?h8) ?n8
      case h8 =>
        iterate 2 (refine st_op rfl (by simp (disch := omega) only [stepf,callOf,qop,fop,St.ev,St.put,cd,zd,Value.oneCell',tb_T,TypeDesc.aggB,getD_0,getD_s,Ze,Zd,Zc,Za,Zb,Zr,ZE,ZF,Zf,Zq,Zg,i64_w,Zt,Zs,qBin,iop,t1,ti1,t3,ti3,t5,ti5,t22,ti22,t50,ti50,Zh,map_at_s,secCells_length] <;> exact rfl) ?_)
        refine aops_nil ?_
        exact hK
      refine exq_n ?_
      exact ⟨j + 1, by (try dsimp only); omega, by (try dsimp only); omega, wk_le ⟨rfl, leL_r (by first | rfl | (rw [flatS_take ls j (by omega), List.length_append]; rfl)) (leL_a (leL_a (leL_r (by first | rfl | (rw [flatS_take ls j (by omega), List.length_append]; rfl)) (leL_a (leL_a (leL_a (leL_a (leL_a (leL_r (by first | rfl | (rw [flatS_take ls j (by omega), List.length_append]; rfl)) (leL_r (by first | rfl | (rw [flatS_take ls j (by omega), List.length_append]; rfl)) (leL_r (by first | rfl | (rw [flatS_take ls j (by omega), List.length_append]; rfl)) (leL_a (leL_a (leL_a (leL_a (leL_a (leL_a (leL_a (leL_a (leL_a (leL_a (leL_a (leL_a (leL_a (leL_a (leL_a (leL_a (leL_a (leL_a (leL_a (leL_a (leL_a (leL_a (leL_a (leL_a (leL_nil)))))))))))))))))))))))))))))))))))), (leB_nil _), (leV_nil _), rfl, rfl⟩⟩
  · try simp only [Zp,Zi,ZK,ZJ,ne_eq,Zn,Zm,ZB,ZA,ZI,not_or,not_and,Zu] at hc0
    refine aw_exit ?_
    refine exq_e ?_
    refine exq_e ?_
    refine exb_h ?_
    refine exq_n ?_
    refine aw_seq ?_
    obtain rfl : j = ls.length := by omega
    rw [List.take_length]
    refine aw_regK hX hb [0, 1, 2] rfl (σ' := ?s9) (fun K hK => ?h9) ?n9
    case h9 =>
      (refine st_op rfl (by simp (disch := omega) only [stepf,callOf,qop,fop,St.ev,St.put,cd,zd,Value.oneCell',tb_T,TypeDesc.aggB,getD_0,getD_s,Ze,Zd,Zc,Za,Zb,Zr,ZE,ZF,Zf,Zq,Zg,i64_w,Zt,Zs,pvAll,D.pv?,t3,ti3,t5,ti5,t22,ti22,t24,ti24,t50,ti50,t58,ti58,t60,ti60,Zh,map_at_s,secCells_length] <;> exact rfl) ?_)
      refine st_no rfl rfl (by simp only [St.ev,getD_0,getD_s,zd,cd,Value.oneCell',Zr] <;> exact rfl) (by simp only [pvAllN,capCells,D.pvC?,D.pvN?,D.pvL?,pureAll,D.pv?,D.pure?,St.ev,getD_0,getD_s,zd,cd,Value.oneCell',Zr,ZG,ZH,Zd,Zc,Zg] <;> exact rfl) (acKO hP (o80 _ h2)) (by simp only [St.addVec,St.put,ZL,ZM,Zl,Zo,Za,Zb] <;> exact rfl) ?_
      (refine st_op rfl (by simp (disch := omega) only [stepf,callOf,qop,fop,St.ev,St.put,cd,zd,Value.oneCell',tb_T,TypeDesc.aggB,getD_0,getD_s,Ze,Zd,Zc,Za,Zb,Zr,ZE,ZF,Zf,Zq,Zg,i64_w,Zt,Zs,pvAll,D.pv?,t3,ti3,t5,ti5,t22,ti22,t24,ti24,t50,ti50,t58,ti58,t60,ti60,Zh,map_at_s,secCells_length] <;> exact rfl) ?_)
      refine aops_nil ?_
      exact hK
    refine exq_n ?_
    refine aw_seq ?_
    refine aw_seq ?_
    refine aw_regK hX hb [0, 1, 2] rfl (σ' := ?s10) (fun K hK => ?h10) ?n10
    case h10 =>
      iterate 3 (refine st_op rfl (by simp (disch := omega) only [stepf,callOf,qop,fop,St.ev,St.put,cd,zd,Value.oneCell',tb_T,TypeDesc.aggB,getD_0,getD_s,Ze,Zd,Zc,Za,Zb,Zr,ZE,ZF,Zf,Zq,Zg,i64_w,Zt,Zs,qLen,t5,ti5,t22,ti22,t50,ti50,t133,ti133,Zh,map_at_s,secCells_length] <;> exact rfl) ?_)
      refine aops_nil ?_
      exact hK
    refine exq_n ?_
    refine aw_block ?_
    refine aw_loop (ι := Nat) (fun k => k ≤ ls.length) (fun k => ⟨[], [.any, .any, .any, .any, .any, .any, .vref 0, .any, .any, .any, .any, .any, .any, .any, .any, .any, .any, .any, .any, .any, .any, .any, .any, .any, .any, .p (.sl ls.length (ls.map secs)), .p (i64 ls.length), .p (i64 k), .any, .any, .any, .any, .any, .any, .any, .any], [], [some ⟨50, 8, (ls.take k).flatten.length, secCells (ls.take k).flatten⟩]⟩) (fun k => ls.length - k) 0 (by exact Nat.zero_le _) (wk_le ⟨rfl, leL_a (leL_a (leL_a (leL_a (leL_a (leL_a (leL_r (by first | rfl | (rw [flatS_take ls k (by omega), List.length_append, secCells_append])) (leL_a (leL_a (leL_a (leL_a (leL_a (leL_a (leL_a (leL_a (leL_a (leL_a (leL_a (leL_a (leL_a (leL_a (leL_a (leL_a (leL_a (leL_a (leL_r (by first | rfl | (rw [flatS_take ls k (by omega), List.length_append, secCells_append])) (leL_r (by first | rfl | (rw [flatS_take ls k (by omega), List.length_append, secCells_append])) (leL_r (by first | rfl | (rw [flatS_take ls k (by omega), List.length_append, secCells_append])) (leL_a (leL_a (leL_a (leL_a (leL_a (leL_a (leL_a (leL_a (leL_nil)))))))))))))))))))))))))))))))))))), (leB_nil _), (leV_r (by first | rfl | (rw [flatS_take ls k (by omega), List.length_append, secCells_append])) (leV_nil _)), rfl, rfl⟩) ?_
    rintro k hJ
    have hf := flatS_take_le ls k
    have hf1 := flatS_take_le ls (k + 1)
    refine aw_seq ?_
    refine aw_regK hX hb [0] rfl (σ' := ?s11) (fun K hK => ?h11) ?n11
    case h11 =>
      (refine st_op rfl (by simp (disch := omega) only [stepf,callOf,qop,fop,St.ev,St.put,cd,zd,Value.oneCell',tb_T,TypeDesc.aggB,getD_0,getD_s,Ze,Zd,Zc,Za,Zb,Zr,ZE,ZF,Zf,Zq,Zg,i64_w,Zt,Zs,qBin,iop,t3,ti3,t24,ti24,t26,ti26,t27,ti27,t58,ti58,t60,ti60,Zh,map_at_s,secCells_length] <;> exact rfl) ?_)
      refine aops_nil ?_
      exact hK
    refine exq_n ?_
    refine aw_seq ?_
    refine aw_cond _ rfl (fun hc2 => ?_) (fun hc2 => ?_)
    · try simp only [Zp,Zi,ZK,ZJ,ne_eq,Zn,Zm,ZB,ZA,ZI,not_or,not_and,Zu] at hc2
      have hft := flatS_take ls k (by omega)
      rw [hft, List.length_append] at hf1
      refine aw_skip ?_
      refine exq_n ?_
      refine aw_seq ?_
      refine aw_block ?_
      refine aw_seq ?_
      refine aw_regK hX hb [0, 1, 2] rfl (σ' := ?s12) (fun K hK => ?h12) ?n12
      case h12 =>
        iterate 3 (refine st_op rfl (by simp (disch := omega) only [stepf,callOf,qop,fop,St.ev,St.put,cd,zd,Value.oneCell',tb_T,TypeDesc.aggB,getD_0,getD_s,Ze,Zd,Zc,Za,Zb,Zr,ZE,ZF,Zf,Zq,Zg,i64_w,Zt,Zs,Int.toNat_zero,Int.toNat_one,toNat_pred,toNat_succ,qIndexAddr,ZO,Nat.mul_one,ZC,Nat.zero_mul,Zh,Zl,Zo,Zv,Zw,Zj,Zk,Zx,Zy,qLoad,bload,pload,pureAll,D.pure?,ZD,t5,ti5,t22,ti22,t27,ti27,t50,ti50,t133,ti133,map_at_s,secCells_length] <;> exact rfl) ?_)
        refine aops_nil ?_
        exact hK
      refine exq_n ?_
      refine aw_regK hX hb [0, 1, 2, 3] rfl (σ' := ?s13) (fun K hK => ?h13) ?n13
      case h13 =>
        iterate 4 (refine st_op rfl (by simp (disch := omega) only [stepf,callOf,qop,fop,St.ev,St.put,cd,zd,Value.oneCell',tb_T,TypeDesc.aggB,getD_0,getD_s,Ze,Zd,Zc,Za,Zb,Zr,ZE,ZF,Zf,Zq,Zg,i64_w,Zt,Zs,fAppend,appV,St.demote,D.demote,St.setVec,D.pure?,ZG,ZH,Zh,Zl,Zo,List.length_append,ZC,Nat.mul_one,reduceIte,t5,ti5,t22,ti22,t50,ti50,map_at_s,secCells_length] <;> exact rfl) ?_)
        refine aops_nil ?_
        exact hK
      refine exb_n ?_
      refine exq_n ?_
      refine aw_regK hX hb [0, 1] rfl (σ' := ?s14) (fun K hK => ?h14) ?n14
      case h14 =>
        iterate 2 (refine st_op rfl (by simp (disch := omega) only [stepf,callOf,qop,fop,St.ev,St.put,cd,zd,Value.oneCell',tb_T,TypeDesc.aggB,getD_0,getD_s,Ze,Zd,Zc,Za,Zb,Zr,ZE,ZF,Zf,Zq,Zg,i64_w,Zt,Zs,qBin,iop,t1,ti1,t3,ti3,t27,ti27,Zh,map_at_s,secCells_length] <;> exact rfl) ?_)
        refine aops_nil ?_
        exact hK
      refine exq_n ?_
      exact ⟨k + 1, by (try dsimp only); omega, by (try dsimp only); omega, wk_le ⟨rfl, leL_a (leL_a (leL_a (leL_a (leL_a (leL_a (leL_r (by first | rfl | (rw [flatS_take ls k (by omega), List.length_append, secCells_append])) (leL_a (leL_a (leL_a (leL_a (leL_a (leL_a (leL_a (leL_a (leL_a (leL_a (leL_a (leL_a (leL_a (leL_a (leL_a (leL_a (leL_a (leL_a (leL_r (by first | rfl | (rw [flatS_take ls k (by omega), List.length_append, secCells_append])) (leL_r (by first | rfl | (rw [flatS_take ls k (by omega), List.length_append, secCells_append])) (leL_r (by first | rfl | (rw [flatS_take ls k (by omega), List.length_append, secCells_append])) (leL_a (leL_a (leL_a (leL_a (leL_a (leL_a (leL_a (leL_a (leL_nil)))))))))))))))))))))))))))))))))))), (leB_nil _), (leV_r (by first | rfl | (rw [flatS_take ls k (by omega), List.length_append, secCells_append])) (leV_nil _)), rfl, rfl⟩⟩
    · try simp only [Zp,Zi,ZK,ZJ,ne_eq,Zn,Zm,ZB,ZA,ZI,not_or,not_and,Zu] at hc2
      refine aw_exit ?_
      refine exq_e ?_
      refine exq_e ?_
      refine exb_h ?_
      refine exq_n ?_
      refine aw_seq ?_
      refine aw_regK hX hb [0, 1] rfl (σ' := ?s15) (fun K hK => ?h15) ?n15
      case h15 =>
        iterate 2 (refine st_op rfl (by simp (disch := omega) only [stepf,callOf,qop,fop,St.ev,St.put,cd,zd,Value.oneCell',tb_T,TypeDesc.aggB,getD_0,getD_s,Ze,Zd,Zc,Za,Zb,Zr,ZE,ZF,Zf,Zq,Zg,i64_w,Zt,Zs,t3,ti3,t35,ti35,Zh,map_at_s,secCells_length] <;> exact rfl) ?_)
        refine aops_nil ?_
        exact hK
      refine exq_n ?_
      refine aw_ret ?_
      obtain rfl : k = ls.length := by omega
      rw [List.take_length]
      exact reto_r 0 rfl rfl rfl
end Go.Proofs.Ytldcoekbgfaomaa
end
section
namespace Go.Proofs.Ytldcoekbgfaomaa
open Go.RowKit
def topD (row : List Int) : Int := if h : row.length ≤ 1 then row.getD 0 0 else topD (upL row)
  termination_by row.length
  decreasing_by rw [upL_length]; omega
theorem topD_one {row : List Int} (h : row.length ≤ 1) : topD row = row.getD 0 0 := by rw [topD, dif_pos h]
theorem topD_more {row : List Int} (h : ¬ row.length ≤ 1) : topD row = topD (upL row) := by rw [topD, dif_neg h]
/-- The digest of the last level. -/
def rtD (row : List Int) : Int := ((levelsOf row).getD ((levelsOf row).length - 1) []).getD 0 0
theorem rtD_top : ∀ (k : Nat) (row : List Int), row.length ≤ k → rtD row = topD row
  | k, row, hk => by
    by_cases h : row.length ≤ 1
    · rw [topD_one h, rtD, levelsOf_one h]; rfl
    · have hu := upL_length row
      match k, hk with
      | 0, hk => omega
      | k + 1, hk =>
        rw [topD_more h, ← rtD_top k (upL row) (by omega), rtD, rtD, levelsOf_more h]
        obtain ⟨r, hr⟩ := levelsOf_head (upL row)
        rw [hr]
        simp
def nd (m : List Int) (i : Nat) (d : Int) : Int := if i % 2 = 1 then pairD (m.getD (i - 1) 0) d else if i + 1 < m.length then pairD d (m.getD (i + 1) 0) else d
theorem upL_set : ∀ (m : List Int) (i : Nat) (d : Int), i < m.length → upL (m.set i d) = (upL m).set (i / 2) (nd m i d)
  | [], i, d, h => by simp at h
  | [a], i, d, h => by
    obtain rfl : i = 0 := by simpa using h
    simp [upL, nd]
  | a :: b :: r, 0, d, h => by simp [upL, nd]
  | a :: b :: r, 1, d, h => by simp [upL, nd]
  | a :: b :: r, i + 2, d, h => by
    have ih := upL_set r i d (by simpa using h)
    have e1 : (i + 2) / 2 = i / 2 + 1 := by omega
    have e2 : nd (a :: b :: r) (i + 2) d = nd r i d := by
      have e3 : (i + 2) % 2 = i % 2 := by omega
      unfold nd
      rw [e3]
      by_cases h1 : i % 2 = 1
      · obtain ⟨j, rfl⟩ : ∃ j, i = j + 1 := ⟨i - 1, by omega⟩
        rw [if_pos h1, if_pos h1]
        simp
      · rw [if_neg h1, if_neg h1]
        by_cases h2 : i + 1 < r.length
        · rw [if_pos h2, if_pos (by simp only [Zl]; omega)]
          simp
        · rw [if_neg h2, if_neg (by simp only [Zl]; omega)]
    rw [e1, e2]
    simp [upL, ih]
theorem ver_top (root : Int) : ∀ (k : Nat) (m : List Int) (i : Nat) (d : Int), m.length ≤ k → i < m.length → verL root m.length i d (proofOf m i) = decide (topD (m.set i d) = root)
  | k, m, i, d, hk, hi => by
    by_cases h : m.length ≤ 1
    · obtain rfl : i = 0 := by omega
      rw [verL_one h, proofOf_one h, topD_one (by simpa using h)]
      match m, h, hi with
      | [x], _, _ => simp
    · have hu := upL_length m
      match k, hk with
      | 0, hk => omega
      | k + 1, hk =>
        have hp : verP i m.length (proofOf m i) = proofOf (upL m) (i / 2) := by
          rw [proofOf_more h, verP]
          by_cases ho : hasO i m.length
          · rw [if_pos ho, if_pos ho]; rfl
          · rw [if_neg ho, if_neg ho]; rfl
        have hd : verD i m.length d (proofOf m i) = nd m i d := by
          rw [proofOf_more h, verD, nd]
          by_cases ho : hasO i m.length
          · rw [if_pos ho, if_pos ho]
            by_cases h1 : i % 2 = 1
            · rw [if_pos h1, if_pos h1, otherI, if_pos h1]; rfl
            · have h2 : i + 1 < m.length := by unfold hasO at ho; omega
              rw [if_neg h1, if_neg h1, if_pos h2, otherI, if_neg h1]; rfl
          · rw [if_neg ho]
            unfold hasO at ho
            rw [if_neg (by omega), if_neg (by omega)]
        rw [verL_step h (fun ho => by rw [proofOf_more h, if_pos ho]; simp), hp, hd, ← hu, ver_top root k (upL m) (i / 2) (nd m i d) (by omega) (by omega), ← upL_set m i d hi,
          show topD (m.set i d) = topD (upL (m.set i d)) from topD_more (by simpa using h)]
theorem proof_bT {l : List (List Int)} {n i : Nat} (h : 1 ≤ l.length ∧ l.length ≤ 4096) (hn : 1 ≤ n ∧ n ≤ 4096) (hi : i < nLeaves l.length n) : refPrf (bT l n) (i : Int) = (proofOf (leafD l n) i, 0) := by
  rw [refPrf, if_neg (not_not_intro (bT_chk h hn)), bT_row, if_neg (by rw [leafD_length]; omega)]
  rfl
/-- What is verified of a leaf. -/
theorem ver_bT {root : Int} {l d : List (List Int)} {n i : Nat} (h : 1 ≤ l.length ∧ l.length ≤ 4096) (hn : 1 ≤ n ∧ n ≤ 4096) (hi : i < nLeaves l.length n) :
    refVer root (l.length : Int) (n : Int) (i : Int) d (proofOf (leafD l n) i) = (decide (d.length = min n (l.length - i * n)) && decide (topD ((leafD l n).set i (secsD d)) = root)) := by
  have hil := leaf_lt hn.1 hi
  have hlim : ¬ ((l.length : Int) < 1 ∨ 4096 < (l.length : Int) ∨ (n : Int) < 1 ∨ 4096 < (n : Int)) := by omega
  by_cases hd : d.length = min n (l.length - i * n)
  · have hd' : (d.length : Int) = min (n : Int) ((l.length : Int) - (i : Int) * n) := by rw [mul_cast]; omega
    rw [refVer_3 hlim ⟨by omega, by omega, hd'⟩]
    have := ver_top root _ (leafD l n) i (secsD d) (Nat.le_refl _) (by rw [leafD_length]; exact hi)
    rw [leafD_length] at this
    rw [this, decide_eq_true hd, Bool.true_and]
  · rw [refVer_2 hlim (.inr (.inr fun hd' => hd (by rw [mul_cast] at hd'; omega))), decide_eq_false hd, Bool.false_and]
theorem leafD_at {l : List (List Int)} {n i : Nat} (hi : i < nLeaves l.length n) : (leafD l n)[i]? = some (secsD (secAt l n i)) := by simp [leafD, hi]
theorem secAt_length (l : List (List Int)) (n i : Nat) : (secAt l n i).length = min n (l.length - i * n) := by simp [secAt]
theorem ver_own {l : List (List Int)} {n i : Nat} (h : 1 ≤ l.length ∧ l.length ≤ 4096) (hn : 1 ≤ n ∧ n ≤ 4096) (hi : i < nLeaves l.length n) :
    refVer (rtD (leafD l n)) (l.length : Int) (n : Int) (i : Int) (secAt l n i) (proofOf (leafD l n) i) = true := by
  rw [ver_bT h hn hi, decide_eq_true (secAt_length l n i), Bool.true_and]
  have e : (leafD l n).set i (secsD (secAt l n i)) = leafD l n := by
    apply List.ext_getElem?
    intro j
    rw [List.getElem?_set]
    split
    · rename_i hj
      subst hj
      rw [leafD_at hi, if_pos (by rw [leafD_length]; exact hi)]
    · rfl
  rw [e, rtD_top _ _ (Nat.le_refl _), decide_eq_true rfl]
/-- l with other sectors in leaf i. -/
def putS (l d : List (List Int)) (n i : Nat) : List (List Int) := l.take (i * n) ++ (d ++ l.drop (i * n + d.length))
theorem putS_length {l d : List (List Int)} {n i : Nat} (hd : d.length = min n (l.length - i * n)) (hil : i * n ≤ l.length) : (putS l d n i).length = l.length := by
  simp [putS]
  omega
theorem leafD_put {l d : List (List Int)} {n i : Nat} (hn : 1 ≤ n) (hi : i < nLeaves l.length n) (hd : d.length = min n (l.length - i * n)) : leafD (putS l d n i) n = (leafD l n).set i (secsD d) := by
  have hil := leaf_lt hn hi
  have hpl := putS_length hd (Nat.le_of_lt hil)
  have hat : ∀ j, (putS l d n i)[j]? = if j < i * n then l[j]? else if j < i * n + d.length then d[j - i * n]? else l[j]? := by
    intro j
    unfold putS
    rw [List.getElem?_append, List.length_take, Nat.min_eq_left (Nat.le_of_lt hil)]
    by_cases h1 : j < i * n
    · rw [if_pos h1, if_pos h1, List.getElem?_take, if_pos h1]
    · rw [if_neg h1, if_neg h1, List.getElem?_append]
      by_cases h2 : j < i * n + d.length
      · rw [if_pos (by omega), if_pos h2]
      · rw [if_neg (by omega), if_neg h2, List.getElem?_drop]
        congr 1
        omega
  apply List.ext_getElem?
  intro k
  rw [List.getElem?_set, leafD_length]
  by_cases hk : k < nLeaves l.length n
  · rw [leafD_at (by rw [hpl]; exact hk)]
    by_cases hik : i = k
    · subst hik
      rw [if_pos rfl, if_pos hi]
      congr 2
      apply List.ext_getElem?
      intro j
      unfold secAt
      rw [List.getElem?_take]
      by_cases hj : j < n
      · rw [if_pos hj, List.getElem?_drop, hat, if_neg (by omega)]
        by_cases h2 : i * n + j < i * n + d.length
        · rw [if_pos h2]
          congr 1
          omega
        · rw [if_neg h2, List.getElem?_eq_none (by omega), List.getElem?_eq_none (by omega)]
      · rw [if_neg hj, List.getElem?_eq_none (by omega)]
    · rw [if_neg hik, leafD_at hk]
      congr 2
      refine secAt_same fun j h1 h2 => ?_
      rw [hat]
      have hkl := leaf_lt hn hk
      rcases Nat.lt_or_gt_of_ne hik with h3 | h3
      · have h4 : (i + 1) * n ≤ k * n := Nat.mul_le_mul_right _ h3
        rw [Nat.succ_mul] at h4
        rw [if_neg (by omega), if_neg (by omega)]
      · have h4 : (k + 1) * n ≤ i * n := Nat.mul_le_mul_right _ h3
        rw [Nat.succ_mul] at h4
        rw [if_pos (by omega)]
  · rw [List.getElem?_eq_none (by rw [leafD_length, hpl]; omega), if_neg (by omega), List.getElem?_eq_none (by rw [leafD_length]; omega)]
theorem ver_put {l d : List (List Int)} {n i : Nat} (h : 1 ≤ l.length ∧ l.length ≤ 4096) (hn : 1 ≤ n ∧ n ≤ 4096) (hi : i < nLeaves l.length n) (hd : d.length = min n (l.length - i * n)) :
    refVer (rtD (leafD l n)) (l.length : Int) (n : Int) (i : Int) d (proofOf (leafD l n) i) = (rtD (leafD (putS l d n i) n) == rtD (leafD l n)) := by
  rw [ver_bT h hn hi, decide_eq_true hd, Bool.true_and, leafD_put hn.1 hi hd, rtD_top _ ((leafD l n).set i (secsD d)) (Nat.le_refl _)]
  rfl
theorem ver_no {l d : List (List Int)} {n i : Nat} (h : 1 ≤ l.length ∧ l.length ≤ 4096) (hn : 1 ≤ n ∧ n ≤ 4096) (hi : i < nLeaves l.length n) (hd : ¬ d.length = min n (l.length - i * n)) :
    refVer (rtD (leafD l n)) (l.length : Int) (n : Int) (i : Int) d (proofOf (leafD l n) i) = false := by
  rw [ver_bT h hn hi, decide_eq_false hd, Bool.false_and]
theorem pick_i {p : Int} {N : Nat} (h : 0 ≤ p ∧ p ≤ 255) (hN : 1 ≤ N) : ∃ i : Nat, p.tmod (N : Int) = (i : Int) ∧ i < N := by
  have h1 := Int.tmod_nonneg (N : Int) h.1
  have h2 := Int.tmod_lt_of_pos p (show (0 : Int) < (N : Int) by omega)
  exact ⟨(p.tmod (N : Int)).toNat, by omega, by omega⟩
theorem take_slice (l : List (List Int)) (a : Nat) (h : a ≤ l.length) : P1.sl (((a : Nat) : Int).toNat - (0 : Int).toNat) (((secCells l).drop ((0 : Int).toNat * 8)).take ((((a : Nat) : Int).toNat - (0 : Int).toNat) * 8)) = secs (l.take a) := by
  have := secs_slice l 0 a (by omega)
  simpa using this
theorem drop_slice (l : List (List Int)) (a k c : Nat) (hk : (k : Int) = c) (h : a + k ≤ l.length) : P1.sl (((l.length : Nat) : Int).toNat - ((a + k : Nat) : Int).toNat) (((secCells l).drop (((a + k : Nat) : Int).toNat * 8)).take ((((l.length : Nat) : Int).toNat - ((a + k : Nat) : Int).toNat) * 8)) = secs (l.drop (a + c)) := by
  have := secs_slice l (a + k) (l.length - (a + k)) (by omega)
  have hk' : k = c := by omega
  subst hk'
  have e : (l.drop (a + k)).take (l.length - (a + k)) = l.drop (a + k) := List.take_of_length_le (by simp)
  rw [e] at this
  rw [Int.toNat_natCast, Int.toNat_natCast]
  exact this
/-! ### Contracts -/
theorem k37b' (l : List (List Int)) (n i : Nat) (h : 1 ≤ l.length ∧ l.length ≤ 4096) (hn : 1 ≤ n ∧ n ≤ 4096) (hi : i < nLeaves l.length n) : ACalls Try.prog 37 [trP (bT l n), .p (i64 i)] (.tup [.p (u64s (proofOf (leafD l n) i)), .p (i64 0)]) := by
  have := c37 (bT l n) i
  rwa [proof_bT h hn hi] at this
theorem k35r (l : List (List Int)) (n : Nat) (h : 1 ≤ l.length ∧ l.length ≤ 4096) (hn : 1 ≤ n ∧ n ≤ 4096) : ACalls Try.prog 35 [trP (bT l n)] (.p (u64 (rtD (leafD l n)))) := k35b l n h hn
theorem k39a (l : List (List Int)) (n i K M : Nat) (h : 1 ≤ l.length ∧ l.length ≤ 4096) (hn : 1 ≤ n ∧ n ≤ 4096) (hi : i < nLeaves l.length n) (hx : P1.sl K (((secCells l).drop M).take (K * 8)) = secs (secAt l n i)) :
    ACalls Try.prog 39 [.p (u64 (rtD (leafD l n))), .p (i64 l.length), .p (i64 n), .p (i64 i), .p (.sl K (((secCells l).drop M).take (K * 8))), .p (u64s (proofOf (leafD l n) i))] (.p (bv true)) := by
  have := c39 (rtD (leafD l n)) l.length n i (secAt l n i) (proofOf (leafD l n) i)
  rw [ver_own h hn hi] at this
  rw [hx]
  exact this
theorem k42 (l d : List (List Int)) (n i : Nat) (x y : P1) (h1 : l.length ≤ 4096) (h2 : d.length ≤ 4096) (hx : x = secs (l.take (i * n))) (hy : y = secs (l.drop (i * n + d.length))) : ACalls Try.prog 42 [.p (.sl 3 [x, secs d, y])] (.p (secs (putS l d n i))) := by
  have := (o42 [l.take (i * n), d, l.drop (i * n + d.length)] (by simp) (by simp; omega)).pure
  subst hx
  subst hy
  have e : [l.take (i * n), d, l.drop (i * n + d.length)].flatten = putS l d n i := by simp [putS]
  rw [e] at this
  exact this
end Go.Proofs.Ytldcoekbgfaomaa
end
section
namespace Go.Proofs.Ytldcoekbgfaomaa
open Go.RowKit
set_option maxRecDepth 20000
set_option maxHeartbeats 4000000
attribute [local irreducible] AOps AOpsD AW
theorem okWide_array {P : Program} {w : World} {r : Reach} {base : Nat} {t e : TypeId} {n : Nat} {v : Value} (ht : P.underlying t = some (.array n e)) (h : Value.okWide P w r base t v) : ∃ cs, v = .agg cs ∧ cs.size = P.cellsOf t := by
  simp only [Value.okWide,ht] at h
  obtain ⟨cs, h1, h2, _⟩ := h
  exact ⟨cs, h1, h2⟩
theorem c11 (l : List (List Int)) (p0 p1 : Int) (d : List (List Int)) (h0 : 0 ≤ p0 ∧ p0 ≤ 255) (h1 : 0 ≤ p1 ∧ p1 ≤ 255) : ACalls Try.prog 11 [.p (secs l), .agg [u8 p0, u8 p1], .p (secs d)] (.p (bv true)) := by
  obtain ⟨n, hn1, hn2, hnm⟩ := leaf_n h0
  refine acalls_of tb_ok Try.func11 (c := _) rfl (by kernel_rfl) ?_
  intro X hP hX hro hpl
  have hb : tb.Ok X.P := hP ▸ tb_ok
  change AW X _ _ ⟨[], [.p (secs l), .agg [u8 p0, u8 p1], .p (secs d), .any, .any, .any, .any, .any, .any, .any, .any, .any, .any, .any, .any, .any, .any, .any, .any, .any, .any, .any, .any, .any, .any, .any, .any, .any, .any, .any, .any, .any, .any, .any, .any, .any, .any, .any, .any, .any, .any, .any, .any, .any, .any, .any, .any, .any, .any, .any, .any, .any, .any, .any, .any, .any, .any, .any, .any, .any, .any, .any, .any, .any, .any, .any, .any, .any, .any, .any, .any, .any, .any, .any, .any, .any, .any, .any, .any, .any, .any, .any, .any, .any, .any, .any, .any, .any, .any, .any, .any, .any, .any, .any, .any, .any, .any, .any, .any, .any, .any, .any, .any, .any, .any, .any, .any, .any, .any, .any, .any, .any, .any, .any, .any, .any, .any, .any, .any, .any, .any, .any, .any, .any, .any, .any, .any, .any, .any, .any, .any, .any, .any, .any, .any, .any, .any, .any, .any, .any, .any, .any, .any, .any, .any, .any, .any, .any, .any, .any, .any, .any, .any, .any, .any], [], []⟩
  refine aw_seq ?_
  refine aw_regK hX hb [0, 1] rfl (σ' := ?s1) (fun K hK => ?h1) ?n1
  case h1 =>
    iterate 2 (refine st_op rfl (by simp (disch := omega) only [stepf,callOf,qop,fop,St.ev,St.put,cd,zd,Value.oneCell',tb_T,TypeDesc.aggB,getD_0,getD_s,Ze,Zd,Zc,Za,Zb,Zr,ZE,ZF,Zf,Zq,Zg,i64_w,Zt,Zs,ZM,ZL,Zl,Zo,ZG,ZH,St.addBox,D.boxCells,D.live,t1,ti1,t5,ti5,t71,ti71,Zh,map_at_l,map_at_i,mul_cast,bT_size,bT_leaf,bT_lv,secCells_length] <;> exact rfl) ?_)
    refine aops_nil ?_
    exact hK
  refine exq_n ?_
  refine aw_seq ?_
  refine aw_regK hX hb [0, 1, 2, 3, 4, 5] rfl (σ' := ?s2) (fun K hK => ?h2) ?n2
  case h2 =>
    iterate 6 (refine st_op rfl (by simp (disch := omega) only [stepf,callOf,qop,fop,St.ev,St.put,cd,zd,Value.oneCell',tb_T,TypeDesc.aggB,getD_0,getD_s,Ze,Zd,Zc,Za,Zb,Zr,ZE,ZF,Zf,Zq,Zg,i64_w,Zt,Zs,Int.toNat_zero,Int.toNat_one,toNat_pred,toNat_succ,qIndexAddr,ZO,Nat.mul_one,ZC,Nat.zero_mul,Zh,Zl,Zo,Zv,Zw,Zj,Zk,Zx,Zy,qLoad,bload,pload,pureAll,D.pure?,ZD,qBin,iop,qConv,t1,ti1,t3,ti3,t4,ti4,t5,ti5,t22,ti22,t50,ti50,t71,ti71,map_at_l,map_at_i,mul_cast,bT_size,bT_leaf,bT_lv,secCells_length,hnm,Int.sub_add_cancel,not_twenty_zero,ne_eq,not_false_eq_true] <;> exact rfl) ?_)
    refine aops_nil ?_
    exact hK
  refine exq_n ?_
  refine aw_seq ?_
  refine aw_seq ?_
  refine aw_regJ hX hb [0, 1, 2, 3, 4, 5, 6, 7, 8, 9, 10, 11, 12] rfl (ts := [24, 25, 26, 27, 28, 29, 30, 31, 32, 33, 34, 35]) (t := 36) (d := .p (bv (l.length < 1 ∨ 100 < l.length ∨ 100 < d.length))) (σ' := ?s3) ?j3 ?h3 ?n3
  case j3 => simp only [St.join,List.foldl,Za,Zb]; exact rfl
  case h3 =>
    iterate 4 (all_goals refine st_op rfl (by simp (disch := omega) only [stepf,callOf,qop,fop,St.ev,St.put,cd,zd,Value.oneCell',tb_T,TypeDesc.aggB,getD_0,getD_s,Ze,Zd,Zc,Za,Zb,Zr,ZE,ZF,Zf,Zq,Zg,i64_w,Zt,Zs,qLen,qBin,iop,t1,ti1,t2,ti2,t3,ti3,t5,ti5,t22,ti22,t24,ti24,t26,ti26,t27,ti27,t35,ti35,t50,ti50,t58,ti58,t60,ti60,Zh,map_at_l,map_at_i,mul_cast,bT_size,bT_leaf,bT_lv,secCells_length] <;> exact rfl) ?_)
    iterate 3 (all_goals first | (refine st_g1 rfl rfl rfl (by simp (disch := omega) only [stepf,callOf,qop,fop,St.ev,St.put,cd,zd,Value.oneCell',tb_T,TypeDesc.aggB,getD_0,getD_s,Ze,Zd,Zc,Za,Zb,Zr,ZE,ZF,Zf,Zq,Zg,i64_w,Zt,Zs,qLen,qBin,iop,t1,ti1,t2,ti2,t3,ti3,t5,ti5,t22,ti22,t24,ti24,t26,ti26,t27,ti27,t35,ti35,t50,ti50,t58,ti58,t60,ti60,Zh,map_at_l,map_at_i,mul_cast,bT_size,bT_leaf,bT_lv,secCells_length] <;> exact rfl) ?_) | (first | (refine st_g0 rfl rfl rfl (by simp only [St.put,Za,Zb] <;> exact rfl) ?_) | (refine st_gu rfl rfl rfl (by simp only [St.put,Za,Zb] <;> exact rfl) ?_)) | (refine st_split rfl rfl rfl (by simp only [Za,Zb] <;> exact rfl) (by simp only [Za,Zb] <;> exact rfl) (fun hg => ?_) (fun hg => ?_) <;> (try simp only [Zp,Zi,ZJ,ZK,ne_eq,Zn,Zm,Bool.not_eq_true,Zu] at hg) <;> first | (refine st_g1 rfl rfl rfl (by simp (disch := omega) only [stepf,callOf,qop,fop,St.ev,St.put,cd,zd,Value.oneCell',tb_T,TypeDesc.aggB,getD_0,getD_s,Ze,Zd,Zc,Za,Zb,Zr,ZE,ZF,Zf,Zq,Zg,i64_w,Zt,Zs,qLen,qBin,iop,t1,ti1,t2,ti2,t3,ti3,t5,ti5,t22,ti22,t24,ti24,t26,ti26,t27,ti27,t35,ti35,t50,ti50,t58,ti58,t60,ti60,Zh,map_at_l,map_at_i,mul_cast,bT_size,bT_leaf,bT_lv,secCells_length] <;> exact rfl) ?_) | (first | (refine st_g0 rfl rfl rfl (by simp only [St.put,Za,Zb] <;> exact rfl) ?_) | (refine st_gu rfl rfl rfl (by simp only [St.put,Za,Zb] <;> exact rfl) ?_))))
    iterate 2 (all_goals refine st_op rfl (by simp (disch := omega) only [stepf,callOf,qop,fop,St.ev,St.put,cd,zd,Value.oneCell',tb_T,TypeDesc.aggB,getD_0,getD_s,Ze,Zd,Zc,Za,Zb,Zr,ZE,ZF,Zf,Zq,Zg,i64_w,Zt,Zs,qLen,qBin,iop,t1,ti1,t2,ti2,t3,ti3,t5,ti5,t22,ti22,t24,ti24,t26,ti26,t27,ti27,t35,ti35,t50,ti50,t58,ti58,t60,ti60,Zh,map_at_l,map_at_i,mul_cast,bT_size,bT_leaf,bT_lv,secCells_length] <;> exact rfl) ?_)
    iterate 3 (all_goals first | (refine st_g1 rfl rfl rfl (by simp (disch := omega) only [stepf,callOf,qop,fop,St.ev,St.put,cd,zd,Value.oneCell',tb_T,TypeDesc.aggB,getD_0,getD_s,Ze,Zd,Zc,Za,Zb,Zr,ZE,ZF,Zf,Zq,Zg,i64_w,Zt,Zs,qLen,qBin,iop,t1,ti1,t2,ti2,t3,ti3,t5,ti5,t22,ti22,t24,ti24,t26,ti26,t27,ti27,t35,ti35,t50,ti50,t58,ti58,t60,ti60,Zh,map_at_l,map_at_i,mul_cast,bT_size,bT_leaf,bT_lv,secCells_length] <;> exact rfl) ?_) | (first | (refine st_g0 rfl rfl rfl (by simp only [St.put,Za,Zb] <;> exact rfl) ?_) | (refine st_gu rfl rfl rfl (by simp only [St.put,Za,Zb] <;> exact rfl) ?_)) | (refine st_split rfl rfl rfl (by simp only [Za,Zb] <;> exact rfl) (by simp only [Za,Zb] <;> exact rfl) (fun hg => ?_) (fun hg => ?_) <;> (try simp only [Zp,Zi,ZJ,ZK,ne_eq,Zn,Zm,Bool.not_eq_true,Zu] at hg) <;> first | (refine st_g1 rfl rfl rfl (by simp (disch := omega) only [stepf,callOf,qop,fop,St.ev,St.put,cd,zd,Value.oneCell',tb_T,TypeDesc.aggB,getD_0,getD_s,Ze,Zd,Zc,Za,Zb,Zr,ZE,ZF,Zf,Zq,Zg,i64_w,Zt,Zs,qLen,qBin,iop,t1,ti1,t2,ti2,t3,ti3,t5,ti5,t22,ti22,t24,ti24,t26,ti26,t27,ti27,t35,ti35,t50,ti50,t58,ti58,t60,ti60,Zh,map_at_l,map_at_i,mul_cast,bT_size,bT_leaf,bT_lv,secCells_length] <;> exact rfl) ?_) | (first | (refine st_g0 rfl rfl rfl (by simp only [St.put,Za,Zb] <;> exact rfl) ?_) | (refine st_gu rfl rfl rfl (by simp only [St.put,Za,Zb] <;> exact rfl) ?_))))
    (all_goals refine st_op rfl (by simp (disch := omega) only [stepf,callOf,qop,fop,St.ev,St.put,cd,zd,Value.oneCell',tb_T,TypeDesc.aggB,getD_0,getD_s,Ze,Zd,Zc,Za,Zb,Zr,ZE,ZF,Zf,Zq,Zg,i64_w,Zt,Zs,qLen,qBin,iop,t1,ti1,t2,ti2,t3,ti3,t5,ti5,t22,ti22,t24,ti24,t26,ti26,t27,ti27,t35,ti35,t50,ti50,t58,ti58,t60,ti60,Zh,map_at_l,map_at_i,mul_cast,bT_size,bT_leaf,bT_lv,secCells_length] <;> exact rfl) ?_)
    all_goals refine aops_nil ?_
    all_goals refine ⟨rfl, ?_, leB_self _, leV_self _, rfl, rfl⟩
    all_goals repeat' (first | exact leL_nil | refine leL_a ?_ | refine leL_r rfl ?_ | refine leL_r ?_ ?_)
    all_goals refine jn ?_
    all_goals ((try simp only [Zp,Zi,ZJ,ZK,Bool.not_eq_true,Zm,Zn,ne_eq,Zf,true_iff,false_iff,iff_true,iff_false] at *) <;> omega)
  refine exq_n ?_
  refine aw_cond _ rfl (fun hc0 => ?_) (fun hc0 => ?_)
  · try simp only [Zp,Zi,ZK,ZJ,ne_eq,Zn,Zm,ZB,ZA,ZI,not_or,not_and,Zu] at hc0
    refine aw_seq ?_
    refine aw_regK hX hb [0, 1] rfl (σ' := ?s4) (fun K hK => ?h4) ?n4
    case h4 =>
      refine st_call rfl (by simp only [callOf,St.ev,getD_0,getD_s,pvAll,D.pv?,ZG,ZH,zd,cd,Value.oneCell',Zr] <;> exact rfl) (acK hP (c20)) (by simp only [St.put,Za,Zb] <;> exact rfl) ?_
      (refine st_op rfl (by simp (disch := omega) only [stepf,callOf,qop,fop,St.ev,St.put,cd,zd,Value.oneCell',tb_T,TypeDesc.aggB,getD_0,getD_s,Ze,Zd,Zc,Za,Zb,Zr,ZE,ZF,Zf,Zq,Zg,i64_w,Zt,Zs,pvAll,D.pv?,Zh,map_at_l,map_at_i,mul_cast,bT_size,bT_leaf,bT_lv,secCells_length] <;> exact rfl) ?_)
      refine aops_nil ?_
      exact hK
    refine exq_n ?_
    refine aw_ret ?_
    refine exq_r ?_
    exact ret_r rfl (resOf_one rfl rfl)
  · try simp only [Zp,Zi,ZK,ZJ,ne_eq,Zn,Zm,ZB,ZA,ZI,not_or,not_and,Zu] at hc0
    have hs1 := bT_some l n
    have hN := nLeaves_pos (s := l.length) (n := n) hn1 (by omega)
    have hz : (((levelsOf (leafD l n)).length : Int) == 0) = false := beq_eq_false_iff_ne.2 (by omega)
    have hlen : (((levelsOf (leafD l n)).getD 0 []).length : Int) = (nLeaves l.length n : Nat) := by rw [show (levelsOf (leafD l n)).getD 0 [] = leafD l n from bT_row l n, leafD_length]
    have hz0 : ((((levelsOf (leafD l n)).getD 0 []).length : Int) == 0) = false := beq_eq_false_iff_ne.2 (by omega)
    have hnz : ((nLeaves l.length n : Nat) : Int) ≠ 0 := by omega
    obtain ⟨i, hpi, hi⟩ := pick_i (p := p1) (N := nLeaves l.length n) h1 hN
    have hp64 : IntKind.i64.wrap p1 = p1 := i64_w (by omega)
    have hil := leaf_lt hn1 hi
    obtain ⟨k, hk⟩ : ∃ k, k = min n (l.length - i * n) := ⟨_, rfl⟩
    have hfr : min (l.length : Int) ((i * n : Nat) : Int) = ((i * n : Nat) : Int) := by omega
    have hto : min (l.length : Int) (((i * n : Nat) : Int) + (n : Int)) = ((i * n + k : Nat) : Int) := by omega
    have hsub : ((i * n + k : Nat) : Int) - ((i * n : Nat) : Int) = (k : Int) := by omega
    have hin : i * n ≤ 100 := by omega
    have hnl := nLeaves_le (s := l.length) (n := n) hn1
    refine aw_skip ?_
    refine exq_n ?_
    refine aw_seq ?_
    refine aw_regK hX hb [0, 1, 2, 3, 4, 5, 6, 7, 8] rfl (σ' := ?s5) (fun K hK => ?h5) ?n5
    case h5 =>
      iterate 2 (refine st_op rfl (by simp (disch := omega) only [stepf,callOf,qop,fop,St.ev,St.put,cd,zd,Value.oneCell',tb_T,TypeDesc.aggB,getD_0,getD_s,Ze,Zd,Zc,Za,Zb,Zr,ZE,ZF,Zf,Zq,Zg,i64_w,Zt,Zs,pvAll,D.pv?,qTup,PV.d,ZM,ZL,Zl,Zo,ZG,ZH,St.addBox,Value.cells,fStore,D.boxCells,D.live,D.cells?,D.pure?,Zv,Zw,Zj,Zk,Zx,Zy,ZN,St.setVec,ZC,t1,ti1,t3,ti3,t5,ti5,t22,ti22,t24,ti24,t26,ti26,t35,ti35,t40,ti40,t50,ti50,t58,ti58,t60,ti60,Zh,map_at_l,map_at_i,mul_cast,bT_size,bT_leaf,bT_lv,secCells_length] <;> exact rfl) ?_)
      refine st_call rfl (by simp only [callOf,St.ev,getD_0,getD_s,pvAll,D.pv?,ZG,ZH,zd,cd,Value.oneCell',Zr] <;> exact rfl) (acK hP (k21b l n (by omega) (by omega))) (by simp only [St.put,Za,Zb] <;> exact rfl) ?_
      iterate 6 (refine st_op rfl (by simp (disch := omega) only [stepf,callOf,qop,fop,St.ev,St.put,cd,zd,Value.oneCell',tb_T,TypeDesc.aggB,getD_0,getD_s,Ze,Zd,Zc,Za,Zb,Zr,ZE,ZF,Zf,Zq,Zg,i64_w,Zt,Zs,pvAll,D.pv?,qTup,PV.d,ZM,ZL,Zl,Zo,ZG,ZH,St.addBox,Value.cells,fStore,D.boxCells,D.live,D.cells?,D.pure?,Zv,Zw,Zj,Zk,Zx,Zy,ZN,St.setVec,ZC,t1,ti1,t3,ti3,t5,ti5,t22,ti22,t24,ti24,t26,ti26,t35,ti35,t40,ti40,t50,ti50,t58,ti58,t60,ti60,Zh,map_at_l,map_at_i,mul_cast,bT_size,bT_leaf,bT_lv,secCells_length] <;> exact rfl) ?_)
      refine aops_nil ?_
      exact hK
    refine exq_n ?_
    refine aw_seq ?_
    refine aw_seq ?_
    refine aw_regK hX hb [0, 1, 2, 3, 4, 5, 6, 7, 8, 9, 10, 11, 12, 13, 14, 15] rfl (σ' := ?s6) (fun K hK => ?h6) ?n6
    case h6 =>
      iterate 3 (refine st_op rfl (by simp (disch := omega) only [stepf,callOf,qop,fop,St.ev,St.put,cd,zd,Value.oneCell',tb_T,TypeDesc.aggB,getD_0,getD_s,Ze,Zd,Zc,Za,Zb,Zr,ZE,ZF,Zf,Zq,Zg,i64_w,Zt,Zs,qBin,iop,qFieldAddr,fieldOf,Zl,Zo,Zv,Zw,Zj,Zk,Zx,Zy,qLoad,bload,pload,pureAll,D.pure?,ZC,ZD,qLen,Int.toNat_zero,Int.toNat_one,toNat_pred,toNat_succ,qIndexAddr,ZO,Nat.mul_one,Nat.zero_mul,Zh,t2,ti2,t3,ti3,t4,ti4,t5,ti5,t22,ti22,t24,ti24,t26,ti26,t27,ti27,t47,ti47,t50,ti50,t54,ti54,t58,ti58,t60,ti60,map_at_l,map_at_i,mul_cast,bT_size,bT_leaf,bT_lv,secCells_length,beq_self_eq_true,decide_true,eq_self,bne_self_eq_false,hz,hz0] <;> exact rfl) ?_)
      iterate 4 (all_goals first | (refine st_g1 rfl rfl rfl (by simp (disch := omega) only [stepf,callOf,qop,fop,St.ev,St.put,cd,zd,Value.oneCell',tb_T,TypeDesc.aggB,getD_0,getD_s,Ze,Zd,Zc,Za,Zb,Zr,ZE,ZF,Zf,Zq,Zg,i64_w,Zt,Zs,qBin,iop,qFieldAddr,fieldOf,Zl,Zo,Zv,Zw,Zj,Zk,Zx,Zy,qLoad,bload,pload,pureAll,D.pure?,ZC,ZD,qLen,Int.toNat_zero,Int.toNat_one,toNat_pred,toNat_succ,qIndexAddr,ZO,Nat.mul_one,Nat.zero_mul,Zh,t2,ti2,t3,ti3,t4,ti4,t5,ti5,t22,ti22,t24,ti24,t26,ti26,t27,ti27,t47,ti47,t50,ti50,t54,ti54,t58,ti58,t60,ti60,map_at_l,map_at_i,mul_cast,bT_size,bT_leaf,bT_lv,secCells_length,beq_self_eq_true,decide_true,eq_self,bne_self_eq_false,hz,hz0] <;> exact rfl) ?_) | (first | (refine st_g0 rfl rfl rfl (by simp only [St.put,Za,Zb] <;> exact rfl) ?_) | (refine st_gu rfl rfl rfl (by simp only [St.put,Za,Zb] <;> exact rfl) ?_)) | (refine st_split rfl rfl rfl (by simp only [Za,Zb] <;> exact rfl) (by simp only [Za,Zb] <;> exact rfl) (fun hg => ?_) (fun hg => ?_) <;> (try simp only [Zp,Zi,ZJ,ZK,ne_eq,Zn,Zm,Bool.not_eq_true,Zu] at hg) <;> first | (refine st_g1 rfl rfl rfl (by simp (disch := omega) only [stepf,callOf,qop,fop,St.ev,St.put,cd,zd,Value.oneCell',tb_T,TypeDesc.aggB,getD_0,getD_s,Ze,Zd,Zc,Za,Zb,Zr,ZE,ZF,Zf,Zq,Zg,i64_w,Zt,Zs,qBin,iop,qFieldAddr,fieldOf,Zl,Zo,Zv,Zw,Zj,Zk,Zx,Zy,qLoad,bload,pload,pureAll,D.pure?,ZC,ZD,qLen,Int.toNat_zero,Int.toNat_one,toNat_pred,toNat_succ,qIndexAddr,ZO,Nat.mul_one,Nat.zero_mul,Zh,t2,ti2,t3,ti3,t4,ti4,t5,ti5,t22,ti22,t24,ti24,t26,ti26,t27,ti27,t47,ti47,t50,ti50,t54,ti54,t58,ti58,t60,ti60,map_at_l,map_at_i,mul_cast,bT_size,bT_leaf,bT_lv,secCells_length,beq_self_eq_true,decide_true,eq_self,bne_self_eq_false,hz,hz0] <;> exact rfl) ?_) | (first | (refine st_g0 rfl rfl rfl (by simp only [St.put,Za,Zb] <;> exact rfl) ?_) | (refine st_gu rfl rfl rfl (by simp only [St.put,Za,Zb] <;> exact rfl) ?_))))
      iterate 2 (refine st_op rfl (by simp (disch := omega) only [stepf,callOf,qop,fop,St.ev,St.put,cd,zd,Value.oneCell',tb_T,TypeDesc.aggB,getD_0,getD_s,Ze,Zd,Zc,Za,Zb,Zr,ZE,ZF,Zf,Zq,Zg,i64_w,Zt,Zs,qBin,iop,qFieldAddr,fieldOf,Zl,Zo,Zv,Zw,Zj,Zk,Zx,Zy,qLoad,bload,pload,pureAll,D.pure?,ZC,ZD,qLen,Int.toNat_zero,Int.toNat_one,toNat_pred,toNat_succ,qIndexAddr,ZO,Nat.mul_one,Nat.zero_mul,Zh,t2,ti2,t3,ti3,t4,ti4,t5,ti5,t22,ti22,t24,ti24,t26,ti26,t27,ti27,t47,ti47,t50,ti50,t54,ti54,t58,ti58,t60,ti60,map_at_l,map_at_i,mul_cast,bT_size,bT_leaf,bT_lv,secCells_length,beq_self_eq_true,decide_true,eq_self,bne_self_eq_false,hz,hz0] <;> exact rfl) ?_)
      iterate 6 (all_goals first | (refine st_g1 rfl rfl rfl (by simp (disch := omega) only [stepf,callOf,qop,fop,St.ev,St.put,cd,zd,Value.oneCell',tb_T,TypeDesc.aggB,getD_0,getD_s,Ze,Zd,Zc,Za,Zb,Zr,ZE,ZF,Zf,Zq,Zg,i64_w,Zt,Zs,qBin,iop,qFieldAddr,fieldOf,Zl,Zo,Zv,Zw,Zj,Zk,Zx,Zy,qLoad,bload,pload,pureAll,D.pure?,ZC,ZD,qLen,Int.toNat_zero,Int.toNat_one,toNat_pred,toNat_succ,qIndexAddr,ZO,Nat.mul_one,Nat.zero_mul,Zh,t2,ti2,t3,ti3,t4,ti4,t5,ti5,t22,ti22,t24,ti24,t26,ti26,t27,ti27,t47,ti47,t50,ti50,t54,ti54,t58,ti58,t60,ti60,map_at_l,map_at_i,mul_cast,bT_size,bT_leaf,bT_lv,secCells_length,beq_self_eq_true,decide_true,eq_self,bne_self_eq_false,hz,hz0] <;> exact rfl) ?_) | (first | (refine st_g0 rfl rfl rfl (by simp only [St.put,Za,Zb] <;> exact rfl) ?_) | (refine st_gu rfl rfl rfl (by simp only [St.put,Za,Zb] <;> exact rfl) ?_)) | (refine st_split rfl rfl rfl (by simp only [Za,Zb] <;> exact rfl) (by simp only [Za,Zb] <;> exact rfl) (fun hg => ?_) (fun hg => ?_) <;> (try simp only [Zp,Zi,ZJ,ZK,ne_eq,Zn,Zm,Bool.not_eq_true,Zu] at hg) <;> first | (refine st_g1 rfl rfl rfl (by simp (disch := omega) only [stepf,callOf,qop,fop,St.ev,St.put,cd,zd,Value.oneCell',tb_T,TypeDesc.aggB,getD_0,getD_s,Ze,Zd,Zc,Za,Zb,Zr,ZE,ZF,Zf,Zq,Zg,i64_w,Zt,Zs,qBin,iop,qFieldAddr,fieldOf,Zl,Zo,Zv,Zw,Zj,Zk,Zx,Zy,qLoad,bload,pload,pureAll,D.pure?,ZC,ZD,qLen,Int.toNat_zero,Int.toNat_one,toNat_pred,toNat_succ,qIndexAddr,ZO,Nat.mul_one,Nat.zero_mul,Zh,t2,ti2,t3,ti3,t4,ti4,t5,ti5,t22,ti22,t24,ti24,t26,ti26,t27,ti27,t47,ti47,t50,ti50,t54,ti54,t58,ti58,t60,ti60,map_at_l,map_at_i,mul_cast,bT_size,bT_leaf,bT_lv,secCells_length,beq_self_eq_true,decide_true,eq_self,bne_self_eq_false,hz,hz0] <;> exact rfl) ?_) | (first | (refine st_g0 rfl rfl rfl (by simp only [St.put,Za,Zb] <;> exact rfl) ?_) | (refine st_gu rfl rfl rfl (by simp only [St.put,Za,Zb] <;> exact rfl) ?_))))
      (refine st_op rfl (by simp (disch := omega) only [stepf,callOf,qop,fop,St.ev,St.put,cd,zd,Value.oneCell',tb_T,TypeDesc.aggB,getD_0,getD_s,Ze,Zd,Zc,Za,Zb,Zr,ZE,ZF,Zf,Zq,Zg,i64_w,Zt,Zs,qBin,iop,qFieldAddr,fieldOf,Zl,Zo,Zv,Zw,Zj,Zk,Zx,Zy,qLoad,bload,pload,pureAll,D.pure?,ZC,ZD,qLen,Int.toNat_zero,Int.toNat_one,toNat_pred,toNat_succ,qIndexAddr,ZO,Nat.mul_one,Nat.zero_mul,Zh,t2,ti2,t3,ti3,t4,ti4,t5,ti5,t22,ti22,t24,ti24,t26,ti26,t27,ti27,t47,ti47,t50,ti50,t54,ti54,t58,ti58,t60,ti60,map_at_l,map_at_i,mul_cast,bT_size,bT_leaf,bT_lv,secCells_length,beq_self_eq_true,decide_true,eq_self,bne_self_eq_false,hz,hz0] <;> exact rfl) ?_)
      refine aops_nil ?_
      exact hK
    refine exq_n ?_
    refine aw_cond _ rfl (fun hc1 => ?_) (fun hc1 => ?_)
    · try simp only [Zp,Zi,ZK,ZJ,ne_eq,Zn,Zm,ZB,ZA,ZI,not_or,not_and,Zu] at hc1
      cases hc1
    · try simp only [Zp,Zi,ZK,ZJ,ne_eq,Zn,Zm,ZB,ZA,ZI,not_or,not_and,Zu] at hc1
      refine aw_skip ?_
      refine exq_n ?_
      refine aw_seq ?_
      refine aw_regD hX hb (try_mixed hP) [(0, true), (1, true), (2, true), (3, true), (4, true), (5, true), (6, true), (7, true), (8, true), (9, true)] (by kernel_rfl) (σ' := ?s7) (fun K hK => ?h7) ?n7
      case h7 =>
        iterate 10 (refine sd_q rfl (by simp (disch := omega) only [qop,fop,St.ev,St.put,cd,zd,Value.oneCell',tb_T,TypeDesc.aggB,getD_0,getD_s,Ze,Zd,Zc,Za,Zb,Zr,ZE,ZF,Zf,Zq,Zg,i64_w,Zt,Zs,Int.toNat_zero,Int.toNat_one,toNat_pred,toNat_succ,qIndexAddr,ZO,Nat.mul_one,ZC,Nat.zero_mul,Zh,Zl,Zo,Zv,Zw,Zj,Zk,Zx,Zy,qLoad,bload,pload,pureAll,D.pure?,ZD,qConv,qFieldAddr,fieldOf,qLen,qBin,iop,t1,ti1,t2,ti2,t3,ti3,t4,ti4,t5,ti5,t22,ti22,t24,ti24,t26,ti26,t50,ti50,t58,ti58,t60,ti60,t63,ti63,t71,ti71,map_at_l,map_at_i,mul_cast,bT_size,bT_leaf,bT_lv,secCells_length,hlen,hpi,hp64,hnz,ne_eq,not_false_eq_true] <;> exact rfl) (by simp only [St.put,Za,Zb] <;> exact rfl) ?_)
        refine aopsd_nil ?_
        exact hK
      refine exq_n ?_
      refine aw_seq ?_
      refine aw_regK hX hb [0, 1, 2, 3, 4, 5, 6, 7] rfl (σ' := ?s8) (fun K hK => ?h8) ?n8
      case h8 =>
        iterate 2 (refine st_op rfl (by simp (disch := omega) only [stepf,callOf,qop,fop,St.ev,St.put,cd,zd,Value.oneCell',tb_T,TypeDesc.aggB,getD_0,getD_s,Ze,Zd,Zc,Za,Zb,Zr,ZE,ZF,Zf,Zq,Zg,i64_w,Zt,Zs,Zl,Zo,Zv,Zw,Zj,Zk,Zx,Zy,qLoad,bload,pload,pureAll,D.pure?,ZC,ZD,pvAll,D.pv?,qTup,PV.d,t1,ti1,t3,ti3,t5,ti5,t24,ti24,t26,ti26,t58,ti58,t60,ti60,t69,ti69,t71,ti71,Zh,map_at_l,map_at_i,mul_cast,bT_size,bT_leaf,bT_lv,secCells_length] <;> exact rfl) ?_)
        refine st_call rfl (by simp only [callOf,St.ev,getD_0,getD_s,pvAll,D.pv?,ZG,ZH,zd,cd,Value.oneCell',Zr] <;> exact rfl) (acK hP (k37b' l n i (by omega) (by omega) hi)) (by simp only [St.put,Za,Zb] <;> exact rfl) ?_
        iterate 5 (refine st_op rfl (by simp (disch := omega) only [stepf,callOf,qop,fop,St.ev,St.put,cd,zd,Value.oneCell',tb_T,TypeDesc.aggB,getD_0,getD_s,Ze,Zd,Zc,Za,Zb,Zr,ZE,ZF,Zf,Zq,Zg,i64_w,Zt,Zs,Zl,Zo,Zv,Zw,Zj,Zk,Zx,Zy,qLoad,bload,pload,pureAll,D.pure?,ZC,ZD,pvAll,D.pv?,qTup,PV.d,t1,ti1,t3,ti3,t5,ti5,t24,ti24,t26,ti26,t58,ti58,t60,ti60,t69,ti69,t71,ti71,Zh,map_at_l,map_at_i,mul_cast,bT_size,bT_leaf,bT_lv,secCells_length] <;> exact rfl) ?_)
        refine aops_nil ?_
        exact hK
      refine exq_n ?_
      refine aw_seq ?_
      refine aw_regK hX hb [0, 1, 2, 3, 4, 5, 6, 7, 8, 9, 10, 11, 12, 13, 14, 15] rfl (σ' := ?s9) (fun K hK => ?h9) ?n9
      case h9 =>
        iterate 16 (refine st_op rfl (by simp (disch := omega) only [stepf,callOf,qop,fop,St.ev,St.put,cd,zd,Value.oneCell',tb_T,TypeDesc.aggB,getD_0,getD_s,Ze,Zd,Zc,Za,Zb,Zr,ZE,ZF,Zf,Zq,Zg,i64_w,Zt,Zs,qLen,qBin,iop,min_ite,t3,ti3,t4,ti4,t5,ti5,t22,ti22,t24,ti24,t26,ti26,t35,ti35,t40,ti40,t50,ti50,t58,ti58,t60,ti60,t75,ti75,t77,ti77,t87,ti87,t88,ti88,t90,ti90,Zh,map_at_l,map_at_i,mul_cast,bT_size,bT_leaf,bT_lv,secCells_length,hfr,hto] <;> exact rfl) ?_)
        refine aops_nil ?_
        exact hK
      refine exq_n ?_
      refine aw_seq ?_
      refine aw_seq ?_
      refine aw_regD hX hb (try_mixed hP) [(0, true), (1, true), (2, true), (3, true), (5, true), (6, true), (7, true), (8, true), (9, true), (10, true), (11, true), (12, true), (13, true), (4, false), (14, false), (15, true), (16, true)] (by kernel_rfl) (σ' := ?s10) (fun K hK => ?h10) ?n10
      case h10 =>
        iterate 3 (refine sd_q rfl (by simp (disch := omega) only [qop,fop,St.ev,St.put,cd,zd,Value.oneCell',tb_T,TypeDesc.aggB,getD_0,getD_s,Ze,Zd,Zc,Za,Zb,Zr,ZE,ZF,Zf,Zq,Zg,i64_w,Zt,Zs,qBin,iop,Zl,Zo,Zv,Zw,Zj,Zk,Zx,Zy,qLoad,bload,pload,pureAll,D.pure?,ZC,ZD,pvAll,D.pv?,qLen,imp_self,Int.toNat_one,Int.toNat_zero,Nat.one_mul,qSlice,bnd,Option.isSome_none,ZP,Option.map_none,implies_true,forall_const,ZO,Nat.sub_zero,Bool.not_true,Bool.not_false,t3,ti3,t4,ti4,t5,ti5,t22,ti22,t24,ti24,t26,ti26,t27,ti27,t35,ti35,t50,ti50,t58,ti58,t60,ti60,t87,ti87,t88,ti88,t90,ti90,t101,ti101,Zh,map_at_l,map_at_i,mul_cast,bT_size,bT_leaf,bT_lv,secCells_length,beq_self_eq_true,decide_true,eq_self,bne_self_eq_false] <;> exact rfl) (by simp only [St.put,Za,Zb] <;> exact rfl) ?_)
        iterate 10 (all_goals first | (refine sd_g1 rfl rfl rfl (by simp (disch := omega) only [qop,fop,St.ev,St.put,cd,zd,Value.oneCell',tb_T,TypeDesc.aggB,getD_0,getD_s,Ze,Zd,Zc,Za,Zb,Zr,ZE,ZF,Zf,Zq,Zg,i64_w,Zt,Zs,qBin,iop,Zl,Zo,Zv,Zw,Zj,Zk,Zx,Zy,qLoad,bload,pload,pureAll,D.pure?,ZC,ZD,pvAll,D.pv?,qLen,imp_self,Int.toNat_one,Int.toNat_zero,Nat.one_mul,qSlice,bnd,Option.isSome_none,ZP,Option.map_none,implies_true,forall_const,ZO,Nat.sub_zero,Bool.not_true,Bool.not_false,t3,ti3,t4,ti4,t5,ti5,t22,ti22,t24,ti24,t26,ti26,t27,ti27,t35,ti35,t50,ti50,t58,ti58,t60,ti60,t87,ti87,t88,ti88,t90,ti90,t101,ti101,Zh,map_at_l,map_at_i,mul_cast,bT_size,bT_leaf,bT_lv,secCells_length,beq_self_eq_true,decide_true,eq_self,bne_self_eq_false] <;> exact rfl) rfl (by simp only [St.put,Za,Zb] <;> exact rfl) ?_) | (first | (refine sd_g0 rfl rfl rfl (by simp only [St.put,Za,Zb] <;> exact rfl) ?_) | (refine sd_gu rfl rfl rfl (by simp only [St.put,Za,Zb] <;> exact rfl) ?_)) | (refine sd_split rfl rfl rfl (by simp only [Za,Zb] <;> exact rfl) (by simp only [Za,Zb] <;> exact rfl) (fun hg => ?_) (fun hg => ?_) <;> (try simp only [Zp,Zi,ZJ,ZK,ne_eq,Zn,Zm,Bool.not_eq_true,Zu] at hg) <;> first | (refine sd_g1 rfl rfl rfl (by simp (disch := omega) only [qop,fop,St.ev,St.put,cd,zd,Value.oneCell',tb_T,TypeDesc.aggB,getD_0,getD_s,Ze,Zd,Zc,Za,Zb,Zr,ZE,ZF,Zf,Zq,Zg,i64_w,Zt,Zs,qBin,iop,Zl,Zo,Zv,Zw,Zj,Zk,Zx,Zy,qLoad,bload,pload,pureAll,D.pure?,ZC,ZD,pvAll,D.pv?,qLen,imp_self,Int.toNat_one,Int.toNat_zero,Nat.one_mul,qSlice,bnd,Option.isSome_none,ZP,Option.map_none,implies_true,forall_const,ZO,Nat.sub_zero,Bool.not_true,Bool.not_false,t3,ti3,t4,ti4,t5,ti5,t22,ti22,t24,ti24,t26,ti26,t27,ti27,t35,ti35,t50,ti50,t58,ti58,t60,ti60,t87,ti87,t88,ti88,t90,ti90,t101,ti101,Zh,map_at_l,map_at_i,mul_cast,bT_size,bT_leaf,bT_lv,secCells_length,beq_self_eq_true,decide_true,eq_self,bne_self_eq_false] <;> exact rfl) rfl (by simp only [St.put,Za,Zb] <;> exact rfl) ?_) | (first | (refine sd_g0 rfl rfl rfl (by simp only [St.put,Za,Zb] <;> exact rfl) ?_) | (refine sd_gu rfl rfl rfl (by simp only [St.put,Za,Zb] <;> exact rfl) ?_))))
        all_goals first | (refine sd_gc rfl rfl rfl (by simp only [callOf,St.ev,getD_0,getD_s,pvAll,D.pv?,ZG,ZH,zd,cd,Value.oneCell',Zr] <;> exact rfl) (acK hP (k35r l n (by omega) (by omega))) (by simp only [St.put,Za,Zb] <;> exact rfl) ?_) | (first | (refine sd_g0 rfl rfl rfl (by simp only [St.put,Za,Zb] <;> exact rfl) ?_) | (refine sd_gu rfl rfl rfl (by simp only [St.put,Za,Zb] <;> exact rfl) ?_)) | (refine sd_split rfl rfl rfl (by simp only [Za,Zb] <;> exact rfl) (by simp only [Za,Zb] <;> exact rfl) (fun hg => ?_) (fun hg => ?_) <;> (try simp only [Zp,Zi,ZJ,ZK,ne_eq,Zn,Zm,Bool.not_eq_true,Zu] at hg) <;> first | (refine sd_gc rfl rfl rfl (by simp only [callOf,St.ev,getD_0,getD_s,pvAll,D.pv?,ZG,ZH,zd,cd,Value.oneCell',Zr] <;> exact rfl) (acK hP (k35r l n (by omega) (by omega))) (by simp only [St.put,Za,Zb] <;> exact rfl) ?_) | (first | (refine sd_g0 rfl rfl rfl (by simp only [St.put,Za,Zb] <;> exact rfl) ?_) | (refine sd_gu rfl rfl rfl (by simp only [St.put,Za,Zb] <;> exact rfl) ?_)))
        all_goals first | (refine sd_gc rfl rfl rfl (by simp only [callOf,St.ev,getD_0,getD_s,pvAll,D.pv?,ZG,ZH,zd,cd,Value.oneCell',Zr] <;> exact rfl) (acK hP (k39a l n i _ _ (by omega) (by omega) hi (secAt_slice l n i (by omega) _ (by omega)))) (by simp only [St.put,Za,Zb] <;> exact rfl) ?_) | (first | (refine sd_g0 rfl rfl rfl (by simp only [St.put,Za,Zb] <;> exact rfl) ?_) | (refine sd_gu rfl rfl rfl (by simp only [St.put,Za,Zb] <;> exact rfl) ?_)) | (refine sd_split rfl rfl rfl (by simp only [Za,Zb] <;> exact rfl) (by simp only [Za,Zb] <;> exact rfl) (fun hg => ?_) (fun hg => ?_) <;> (try simp only [Zp,Zi,ZJ,ZK,ne_eq,Zn,Zm,Bool.not_eq_true,Zu] at hg) <;> first | (refine sd_gc rfl rfl rfl (by simp only [callOf,St.ev,getD_0,getD_s,pvAll,D.pv?,ZG,ZH,zd,cd,Value.oneCell',Zr] <;> exact rfl) (acK hP (k39a l n i _ _ (by omega) (by omega) hi (secAt_slice l n i (by omega) _ (by omega)))) (by simp only [St.put,Za,Zb] <;> exact rfl) ?_) | (first | (refine sd_g0 rfl rfl rfl (by simp only [St.put,Za,Zb] <;> exact rfl) ?_) | (refine sd_gu rfl rfl rfl (by simp only [St.put,Za,Zb] <;> exact rfl) ?_)))
        (all_goals first | (refine sd_g1 rfl rfl rfl (by simp (disch := omega) only [qop,fop,St.ev,St.put,cd,zd,Value.oneCell',tb_T,TypeDesc.aggB,getD_0,getD_s,Ze,Zd,Zc,Za,Zb,Zr,ZE,ZF,Zf,Zq,Zg,i64_w,Zt,Zs,qBin,iop,Zl,Zo,Zv,Zw,Zj,Zk,Zx,Zy,qLoad,bload,pload,pureAll,D.pure?,ZC,ZD,pvAll,D.pv?,qLen,imp_self,Int.toNat_one,Int.toNat_zero,Nat.one_mul,qSlice,bnd,Option.isSome_none,ZP,Option.map_none,implies_true,forall_const,ZO,Nat.sub_zero,Bool.not_true,Bool.not_false,t3,ti3,t4,ti4,t5,ti5,t22,ti22,t24,ti24,t26,ti26,t27,ti27,t35,ti35,t50,ti50,t58,ti58,t60,ti60,t87,ti87,t88,ti88,t90,ti90,t101,ti101,Zh,map_at_l,map_at_i,mul_cast,bT_size,bT_leaf,bT_lv,secCells_length,beq_self_eq_true,decide_true,eq_self,bne_self_eq_false] <;> exact rfl) rfl (by simp only [St.put,Za,Zb] <;> exact rfl) ?_) | (first | (refine sd_g0 rfl rfl rfl (by simp only [St.put,Za,Zb] <;> exact rfl) ?_) | (refine sd_gu rfl rfl rfl (by simp only [St.put,Za,Zb] <;> exact rfl) ?_)) | (refine sd_split rfl rfl rfl (by simp only [Za,Zb] <;> exact rfl) (by simp only [Za,Zb] <;> exact rfl) (fun hg => ?_) (fun hg => ?_) <;> (try simp only [Zp,Zi,ZJ,ZK,ne_eq,Zn,Zm,Bool.not_eq_true,Zu] at hg) <;> first | (refine sd_g1 rfl rfl rfl (by simp (disch := omega) only [qop,fop,St.ev,St.put,cd,zd,Value.oneCell',tb_T,TypeDesc.aggB,getD_0,getD_s,Ze,Zd,Zc,Za,Zb,Zr,ZE,ZF,Zf,Zq,Zg,i64_w,Zt,Zs,qBin,iop,Zl,Zo,Zv,Zw,Zj,Zk,Zx,Zy,qLoad,bload,pload,pureAll,D.pure?,ZC,ZD,pvAll,D.pv?,qLen,imp_self,Int.toNat_one,Int.toNat_zero,Nat.one_mul,qSlice,bnd,Option.isSome_none,ZP,Option.map_none,implies_true,forall_const,ZO,Nat.sub_zero,Bool.not_true,Bool.not_false,t3,ti3,t4,ti4,t5,ti5,t22,ti22,t24,ti24,t26,ti26,t27,ti27,t35,ti35,t50,ti50,t58,ti58,t60,ti60,t87,ti87,t88,ti88,t90,ti90,t101,ti101,Zh,map_at_l,map_at_i,mul_cast,bT_size,bT_leaf,bT_lv,secCells_length,beq_self_eq_true,decide_true,eq_self,bne_self_eq_false] <;> exact rfl) rfl (by simp only [St.put,Za,Zb] <;> exact rfl) ?_) | (first | (refine sd_g0 rfl rfl rfl (by simp only [St.put,Za,Zb] <;> exact rfl) ?_) | (refine sd_gu rfl rfl rfl (by simp only [St.put,Za,Zb] <;> exact rfl) ?_))))
        (refine sd_q rfl (by simp (disch := omega) only [qop,fop,St.ev,St.put,cd,zd,Value.oneCell',tb_T,TypeDesc.aggB,getD_0,getD_s,Ze,Zd,Zc,Za,Zb,Zr,ZE,ZF,Zf,Zq,Zg,i64_w,Zt,Zs,qBin,iop,Zl,Zo,Zv,Zw,Zj,Zk,Zx,Zy,qLoad,bload,pload,pureAll,D.pure?,ZC,ZD,pvAll,D.pv?,qLen,imp_self,Int.toNat_one,Int.toNat_zero,Nat.one_mul,qSlice,bnd,Option.isSome_none,ZP,Option.map_none,implies_true,forall_const,ZO,Nat.sub_zero,Bool.not_true,Bool.not_false,t3,ti3,t4,ti4,t5,ti5,t22,ti22,t24,ti24,t26,ti26,t27,ti27,t35,ti35,t50,ti50,t58,ti58,t60,ti60,t87,ti87,t88,ti88,t90,ti90,t101,ti101,Zh,map_at_l,map_at_i,mul_cast,bT_size,bT_leaf,bT_lv,secCells_length,beq_self_eq_true,decide_true,eq_self,bne_self_eq_false] <;> exact rfl) (by simp only [St.put,Za,Zb] <;> exact rfl) ?_)
        refine aopsd_nil ?_
        exact hK
      refine exq_n ?_
      refine aw_cond _ rfl (fun hc2 => ?_) (fun hc2 => ?_)
      · try simp only [Zp,Zi,ZK,ZJ,ne_eq,Zn,Zm,ZB,ZA,ZI,not_or,not_and,Zu] at hc2
        cases hc2
      · try simp only [Zp,Zi,ZK,ZJ,ne_eq,Zn,Zm,ZB,ZA,ZI,not_or,not_and,Zu] at hc2
        refine aw_skip ?_
        refine exq_n ?_
        refine aw_seq ?_
        refine aw_regK hX hb [0, 1, 2, 3, 4, 5, 6, 7, 8, 9] rfl (σ' := ?s11) (fun K hK => ?h11) ?n11
        case h11 =>
          (refine st_op rfl (by simp (disch := omega) only [stepf,callOf,qop,fop,St.ev,St.put,cd,zd,Value.oneCell',tb_T,TypeDesc.aggB,getD_0,getD_s,Ze,Zd,Zc,Za,Zb,Zr,ZE,ZF,Zf,Zq,Zg,i64_w,Zt,Zs,Zl,Zo,Zv,Zw,Zj,Zk,Zx,Zy,qLoad,bload,pload,pureAll,D.pure?,ZC,ZD,pvAll,D.pv?,qLen,t2,ti2,t3,ti3,t5,ti5,t22,ti22,t24,ti24,t26,ti26,t35,ti35,t50,ti50,t58,ti58,t60,ti60,Zh,map_at_l,map_at_i,mul_cast,bT_size,bT_leaf,bT_lv,secCells_length] <;> exact rfl) ?_)
          refine st_call rfl (by simp only [callOf,St.ev,getD_0,getD_s,pvAll,D.pv?,ZG,ZH,zd,cd,Value.oneCell',Zr] <;> exact rfl) (acK hP (k35r l n (by omega) (by omega))) (by simp only [St.put,Za,Zb] <;> exact rfl) ?_
          iterate 6 (refine st_op rfl (by simp (disch := omega) only [stepf,callOf,qop,fop,St.ev,St.put,cd,zd,Value.oneCell',tb_T,TypeDesc.aggB,getD_0,getD_s,Ze,Zd,Zc,Za,Zb,Zr,ZE,ZF,Zf,Zq,Zg,i64_w,Zt,Zs,Zl,Zo,Zv,Zw,Zj,Zk,Zx,Zy,qLoad,bload,pload,pureAll,D.pure?,ZC,ZD,pvAll,D.pv?,qLen,t2,ti2,t3,ti3,t5,ti5,t22,ti22,t24,ti24,t26,ti26,t35,ti35,t50,ti50,t58,ti58,t60,ti60,Zh,map_at_l,map_at_i,mul_cast,bT_size,bT_leaf,bT_lv,secCells_length] <;> exact rfl) ?_)
          refine st_call rfl (by simp only [callOf,St.ev,getD_0,getD_s,pvAll,D.pv?,ZG,ZH,zd,cd,Value.oneCell',Zr] <;> exact rfl) (acK hP (c39 (rtD (leafD l n)) l.length n i d (proofOf (leafD l n) i))) (by simp only [St.put,Za,Zb] <;> exact rfl) ?_
          (refine st_op rfl (by simp (disch := omega) only [stepf,callOf,qop,fop,St.ev,St.put,cd,zd,Value.oneCell',tb_T,TypeDesc.aggB,getD_0,getD_s,Ze,Zd,Zc,Za,Zb,Zr,ZE,ZF,Zf,Zq,Zg,i64_w,Zt,Zs,Zl,Zo,Zv,Zw,Zj,Zk,Zx,Zy,qLoad,bload,pload,pureAll,D.pure?,ZC,ZD,pvAll,D.pv?,qLen,t2,ti2,t3,ti3,t5,ti5,t22,ti22,t24,ti24,t26,ti26,t35,ti35,t50,ti50,t58,ti58,t60,ti60,Zh,map_at_l,map_at_i,mul_cast,bT_size,bT_leaf,bT_lv,secCells_length] <;> exact rfl) ?_)
          refine aops_nil ?_
          exact hK
        refine exq_n ?_
        refine aw_seq ?_
        refine aw_seq ?_
        refine aw_regK hX hb [0, 1, 2, 3, 4, 5] rfl (σ' := ?s12) (fun K hK => ?h12) ?n12
        case h12 =>
          iterate 6 (refine st_op rfl (by simp (disch := omega) only [stepf,callOf,qop,fop,St.ev,St.put,cd,zd,Value.oneCell',tb_T,TypeDesc.aggB,getD_0,getD_s,Ze,Zd,Zc,Za,Zb,Zr,ZE,ZF,Zf,Zq,Zg,i64_w,Zt,Zs,qLen,qBin,iop,t2,ti2,t3,ti3,t5,ti5,t22,ti22,t50,ti50,t115,ti115,t117,ti117,t118,ti118,Zh,map_at_l,map_at_i,mul_cast,bT_size,bT_leaf,bT_lv,secCells_length,hsub] <;> exact rfl) ?_)
          refine aops_nil ?_
          exact hK
        refine exq_n ?_
        refine aw_cond _ rfl (fun hc3 => ?_) (fun hc3 => ?_)
        · try simp only [Zp,Zi,ZK,ZJ,ne_eq,Zn,Zm,ZB,ZA,ZI,not_or,not_and,Zu] at hc3
          have hno := ver_no (l := l) (d := d) (n := n) (i := i) (by omega) (by omega) hi (by omega)
          refine aw_seq ?_
          refine aw_regK hX hb [0, 1, 2, 3, 4, 5] rfl (σ' := ?s13) (fun K hK => ?h13) ?n13
          case h13 =>
            iterate 3 (refine st_op rfl (by simp (disch := omega) only [stepf,callOf,qop,fop,St.ev,St.put,cd,zd,Value.oneCell',tb_T,TypeDesc.aggB,getD_0,getD_s,Ze,Zd,Zc,Za,Zb,Zr,ZE,ZF,Zf,Zq,Zg,i64_w,Zt,Zs,Bool.not_true,Bool.not_false,pvAll,D.pv?,t3,ti3,t4,ti4,t24,ti24,t26,ti26,t58,ti58,t60,ti60,t125,ti125,Zh,map_at_l,map_at_i,mul_cast,bT_size,bT_leaf,bT_lv,secCells_length,beq_self_eq_true,decide_true,eq_self,bne_self_eq_false,hno] <;> exact rfl) ?_)
            all_goals first | (refine st_gc rfl rfl rfl (by simp only [callOf,St.ev,getD_0,getD_s,pvAll,D.pv?,ZG,ZH,zd,cd,Value.oneCell',Zr] <;> exact rfl) (acK hP (c20)) (by simp only [St.put,Za,Zb] <;> exact rfl) ?_) | (first | (refine st_g0 rfl rfl rfl (by simp only [St.put,Za,Zb] <;> exact rfl) ?_) | (refine st_gu rfl rfl rfl (by simp only [St.put,Za,Zb] <;> exact rfl) ?_)) | (refine st_split rfl rfl rfl (by simp only [Za,Zb] <;> exact rfl) (by simp only [Za,Zb] <;> exact rfl) (fun hg => ?_) (fun hg => ?_) <;> (try simp only [Zp,Zi,ZJ,ZK,ne_eq,Zn,Zm,Bool.not_eq_true,Zu] at hg) <;> first | (refine st_gc rfl rfl rfl (by simp only [callOf,St.ev,getD_0,getD_s,pvAll,D.pv?,ZG,ZH,zd,cd,Value.oneCell',Zr] <;> exact rfl) (acK hP (c20)) (by simp only [St.put,Za,Zb] <;> exact rfl) ?_) | (first | (refine st_g0 rfl rfl rfl (by simp only [St.put,Za,Zb] <;> exact rfl) ?_) | (refine st_gu rfl rfl rfl (by simp only [St.put,Za,Zb] <;> exact rfl) ?_)))
            iterate 2 (refine st_op rfl (by simp (disch := omega) only [stepf,callOf,qop,fop,St.ev,St.put,cd,zd,Value.oneCell',tb_T,TypeDesc.aggB,getD_0,getD_s,Ze,Zd,Zc,Za,Zb,Zr,ZE,ZF,Zf,Zq,Zg,i64_w,Zt,Zs,Bool.not_true,Bool.not_false,pvAll,D.pv?,t3,ti3,t4,ti4,t24,ti24,t26,ti26,t58,ti58,t60,ti60,t125,ti125,Zh,map_at_l,map_at_i,mul_cast,bT_size,bT_leaf,bT_lv,secCells_length,beq_self_eq_true,decide_true,eq_self,bne_self_eq_false,hno] <;> exact rfl) ?_)
            refine aops_nil ?_
            exact hK
          refine exq_n ?_
          refine aw_ret ?_
          refine exq_r ?_
          exact ret_r rfl (resOf_one rfl rfl)
        · try simp only [Zp,Zi,ZK,ZJ,ne_eq,Zn,Zm,ZB,ZA,ZI,not_or,not_and,Zu] at hc3
          have hkd : d.length = min n (l.length - i * n) := by omega
          have hyes := ver_put (l := l) (d := d) (n := n) (i := i) (by omega) (by omega) hi hkd
          have hpl := putS_length hkd (Nat.le_of_lt hil)
          refine aw_skip ?_
          refine exq_n ?_
          refine aw_seq ?_
          refine aw_regD hX hb (try_mixed hP) [(0, true), (1, true), (2, true), (3, true), (4, true), (5, true), (6, true), (7, false), (8, false), (9, true)] (by kernel_rfl) (σ' := ?s14) (fun K hK => ?h14) ?n14
          case h14 =>
            iterate 7 (refine sd_q rfl (by simp (disch := omega) only [qop,fop,St.ev,St.put,cd,zd,Value.oneCell',tb_T,TypeDesc.aggB,getD_0,getD_s,Ze,Zd,Zc,Za,Zb,Zr,ZE,ZF,Zf,Zq,Zg,i64_w,Zt,Zs,imp_self,Int.toNat_one,Int.toNat_zero,Nat.one_mul,qSlice,bnd,Option.isSome_none,ZP,Option.map_none,implies_true,forall_const,ZO,Nat.sub_zero,tb_N,tbO_N,tbW_N,tb_O,fBuildSlice,catCells,D.cells?,D.pure?,range_1,range_2,range_3,range_4,range_5,ZG,ZH,ZL,ZM,ZN,Zl,Zo,sec8_length,Nat.reduceAdd,Nat.reduceMul,pvAll,D.pv?,t1,ti1,t2,ti2,t3,ti3,t5,ti5,t22,ti22,t50,ti50,t87,ti87,t126,ti126,t133,ti133,Zh,map_at_l,map_at_i,mul_cast,bT_size,bT_leaf,bT_lv,secCells_length] <;> exact rfl) (by simp only [St.put,Za,Zb] <;> exact rfl) ?_)
            (refine sd_op rfl (by simp (disch := omega) only [stepf,callOf,qop,fop,St.ev,St.put,cd,zd,Value.oneCell',tb_T,TypeDesc.aggB,getD_0,getD_s,Ze,Zd,Zc,Za,Zb,Zr,ZE,ZF,Zf,Zq,Zg,i64_w,Zt,Zs,imp_self,Int.toNat_one,Int.toNat_zero,Nat.one_mul,qSlice,bnd,Option.isSome_none,ZP,Option.map_none,implies_true,forall_const,ZO,Nat.sub_zero,tb_N,tbO_N,tbW_N,tb_O,fBuildSlice,catCells,D.cells?,D.pure?,range_1,range_2,range_3,range_4,range_5,ZG,ZH,ZL,ZM,ZN,Zl,Zo,sec8_length,Nat.reduceAdd,Nat.reduceMul,pvAll,D.pv?,t1,ti1,t2,ti2,t3,ti3,t5,ti5,t22,ti22,t50,ti50,t87,ti87,t126,ti126,t133,ti133,Zh,map_at_l,map_at_i,mul_cast,bT_size,bT_leaf,bT_lv,secCells_length] <;> exact rfl) ?_)
            refine sd_call rfl (by simp only [callOf,St.ev,getD_0,getD_s,pvAll,D.pv?,ZG,ZH,zd,cd,Value.oneCell',Zr] <;> exact rfl) (acK hP (k42 l d n i _ _ (by omega) (by omega) (take_slice l (i * n) (by omega)) (drop_slice l (i * n) k d.length (by omega) (by omega)))) (by simp only [St.put,Za,Zb] <;> exact rfl) ?_
            (refine sd_q rfl (by simp (disch := omega) only [qop,fop,St.ev,St.put,cd,zd,Value.oneCell',tb_T,TypeDesc.aggB,getD_0,getD_s,Ze,Zd,Zc,Za,Zb,Zr,ZE,ZF,Zf,Zq,Zg,i64_w,Zt,Zs,imp_self,Int.toNat_one,Int.toNat_zero,Nat.one_mul,qSlice,bnd,Option.isSome_none,ZP,Option.map_none,implies_true,forall_const,ZO,Nat.sub_zero,tb_N,tbO_N,tbW_N,tb_O,fBuildSlice,catCells,D.cells?,D.pure?,range_1,range_2,range_3,range_4,range_5,ZG,ZH,ZL,ZM,ZN,Zl,Zo,sec8_length,Nat.reduceAdd,Nat.reduceMul,pvAll,D.pv?,t1,ti1,t2,ti2,t3,ti3,t5,ti5,t22,ti22,t50,ti50,t87,ti87,t126,ti126,t133,ti133,Zh,map_at_l,map_at_i,mul_cast,bT_size,bT_leaf,bT_lv,secCells_length] <;> exact rfl) (by simp only [St.put,Za,Zb] <;> exact rfl) ?_)
            refine aopsd_nil ?_
            exact hK
          refine exq_n ?_
          refine aw_seq ?_
          refine aw_regK hX hb [0, 1, 2, 3, 4, 5, 6, 7, 8] rfl (σ' := ?s15) (fun K hK => ?h15) ?n15
          case h15 =>
            iterate 2 (refine st_op rfl (by simp (disch := omega) only [stepf,callOf,qop,fop,St.ev,St.put,cd,zd,Value.oneCell',tb_T,TypeDesc.aggB,getD_0,getD_s,Ze,Zd,Zc,Za,Zb,Zr,ZE,ZF,Zf,Zq,Zg,i64_w,Zt,Zs,pvAll,D.pv?,qTup,PV.d,ZM,ZL,Zl,Zo,ZG,ZH,St.addBox,Value.cells,fStore,D.boxCells,D.live,D.cells?,D.pure?,Zv,Zw,Zj,Zk,Zx,Zy,ZN,St.setVec,ZC,t1,ti1,t3,ti3,t4,ti4,t5,ti5,t22,ti22,t24,ti24,t26,ti26,t35,ti35,t40,ti40,t50,ti50,t58,ti58,t60,ti60,t75,ti75,t136,ti136,t139,ti139,Zh,map_at_l,map_at_i,mul_cast,bT_size,bT_leaf,bT_lv,secCells_length] <;> exact rfl) ?_)
            refine st_call rfl (by simp only [callOf,St.ev,getD_0,getD_s,pvAll,D.pv?,ZG,ZH,zd,cd,Value.oneCell',Zr] <;> exact rfl) (acK hP (k21b (putS l d n i) n (by rw [hpl]; omega) (by omega))) (by simp only [St.put,Za,Zb] <;> exact rfl) ?_
            iterate 6 (refine st_op rfl (by simp (disch := omega) only [stepf,callOf,qop,fop,St.ev,St.put,cd,zd,Value.oneCell',tb_T,TypeDesc.aggB,getD_0,getD_s,Ze,Zd,Zc,Za,Zb,Zr,ZE,ZF,Zf,Zq,Zg,i64_w,Zt,Zs,pvAll,D.pv?,qTup,PV.d,ZM,ZL,Zl,Zo,ZG,ZH,St.addBox,Value.cells,fStore,D.boxCells,D.live,D.cells?,D.pure?,Zv,Zw,Zj,Zk,Zx,Zy,ZN,St.setVec,ZC,t1,ti1,t3,ti3,t4,ti4,t5,ti5,t22,ti22,t24,ti24,t26,ti26,t35,ti35,t40,ti40,t50,ti50,t58,ti58,t60,ti60,t75,ti75,t136,ti136,t139,ti139,Zh,map_at_l,map_at_i,mul_cast,bT_size,bT_leaf,bT_lv,secCells_length] <;> exact rfl) ?_)
            refine aops_nil ?_
            exact hK
          refine exq_n ?_
          refine aw_seq ?_
          refine aw_regD hX hb (try_mixed hP) [(0, true), (1, true), (2, true), (3, true), (4, true), (6, true), (5, false), (7, false), (8, true), (9, true), (10, true), (11, true), (12, false), (13, true), (14, true)] (by kernel_rfl) (σ' := ?s16) (fun K hK => ?h16) ?n16
          case h16 =>
            iterate 3 (refine sd_q rfl (by simp (disch := omega) only [qop,fop,St.ev,St.put,cd,zd,Value.oneCell',tb_T,TypeDesc.aggB,getD_0,getD_s,Ze,Zd,Zc,Za,Zb,Zr,ZE,ZF,Zf,Zq,Zg,i64_w,Zt,Zs,qBin,iop,Zl,Zo,Zv,Zw,Zj,Zk,Zx,Zy,qLoad,bload,pload,pureAll,D.pure?,ZC,ZD,pvAll,D.pv?,t3,ti3,t4,ti4,t24,ti24,t26,ti26,t27,ti27,t35,ti35,t58,ti58,t60,ti60,t144,ti144,t145,ti145,t148,ti148,t149,ti149,Zh,map_at_l,map_at_i,mul_cast,bT_size,bT_leaf,bT_lv,secCells_length,beq_self_eq_true,decide_true,eq_self,bne_self_eq_false,hyes] <;> exact rfl) (by simp only [St.put,Za,Zb] <;> exact rfl) ?_)
            iterate 3 (all_goals first | (refine sd_g1 rfl rfl rfl (by simp (disch := omega) only [qop,fop,St.ev,St.put,cd,zd,Value.oneCell',tb_T,TypeDesc.aggB,getD_0,getD_s,Ze,Zd,Zc,Za,Zb,Zr,ZE,ZF,Zf,Zq,Zg,i64_w,Zt,Zs,qBin,iop,Zl,Zo,Zv,Zw,Zj,Zk,Zx,Zy,qLoad,bload,pload,pureAll,D.pure?,ZC,ZD,pvAll,D.pv?,t3,ti3,t4,ti4,t24,ti24,t26,ti26,t27,ti27,t35,ti35,t58,ti58,t60,ti60,t144,ti144,t145,ti145,t148,ti148,t149,ti149,Zh,map_at_l,map_at_i,mul_cast,bT_size,bT_leaf,bT_lv,secCells_length,beq_self_eq_true,decide_true,eq_self,bne_self_eq_false,hyes] <;> exact rfl) rfl (by simp only [St.put,Za,Zb] <;> exact rfl) ?_) | (first | (refine sd_g0 rfl rfl rfl (by simp only [St.put,Za,Zb] <;> exact rfl) ?_) | (refine sd_gu rfl rfl rfl (by simp only [St.put,Za,Zb] <;> exact rfl) ?_)) | (refine sd_split rfl rfl rfl (by simp only [Za,Zb] <;> exact rfl) (by simp only [Za,Zb] <;> exact rfl) (fun hg => ?_) (fun hg => ?_) <;> (try simp only [Zp,Zi,ZJ,ZK,ne_eq,Zn,Zm,Bool.not_eq_true,Zu] at hg) <;> first | (refine sd_g1 rfl rfl rfl (by simp (disch := omega) only [qop,fop,St.ev,St.put,cd,zd,Value.oneCell',tb_T,TypeDesc.aggB,getD_0,getD_s,Ze,Zd,Zc,Za,Zb,Zr,ZE,ZF,Zf,Zq,Zg,i64_w,Zt,Zs,qBin,iop,Zl,Zo,Zv,Zw,Zj,Zk,Zx,Zy,qLoad,bload,pload,pureAll,D.pure?,ZC,ZD,pvAll,D.pv?,t3,ti3,t4,ti4,t24,ti24,t26,ti26,t27,ti27,t35,ti35,t58,ti58,t60,ti60,t144,ti144,t145,ti145,t148,ti148,t149,ti149,Zh,map_at_l,map_at_i,mul_cast,bT_size,bT_leaf,bT_lv,secCells_length,beq_self_eq_true,decide_true,eq_self,bne_self_eq_false,hyes] <;> exact rfl) rfl (by simp only [St.put,Za,Zb] <;> exact rfl) ?_) | (first | (refine sd_g0 rfl rfl rfl (by simp only [St.put,Za,Zb] <;> exact rfl) ?_) | (refine sd_gu rfl rfl rfl (by simp only [St.put,Za,Zb] <;> exact rfl) ?_))))
            all_goals first | (refine sd_gc rfl rfl rfl (by simp only [callOf,St.ev,getD_0,getD_s,pvAll,D.pv?,ZG,ZH,zd,cd,Value.oneCell',Zr] <;> exact rfl) (acK hP (k35r (putS l d n i) n (by rw [hpl]; omega) (by omega))) (by simp only [St.put,Za,Zb] <;> exact rfl) ?_) | (first | (refine sd_g0 rfl rfl rfl (by simp only [St.put,Za,Zb] <;> exact rfl) ?_) | (refine sd_gu rfl rfl rfl (by simp only [St.put,Za,Zb] <;> exact rfl) ?_)) | (refine sd_split rfl rfl rfl (by simp only [Za,Zb] <;> exact rfl) (by simp only [Za,Zb] <;> exact rfl) (fun hg => ?_) (fun hg => ?_) <;> (try simp only [Zp,Zi,ZJ,ZK,ne_eq,Zn,Zm,Bool.not_eq_true,Zu] at hg) <;> first | (refine sd_gc rfl rfl rfl (by simp only [callOf,St.ev,getD_0,getD_s,pvAll,D.pv?,ZG,ZH,zd,cd,Value.oneCell',Zr] <;> exact rfl) (acK hP (k35r (putS l d n i) n (by rw [hpl]; omega) (by omega))) (by simp only [St.put,Za,Zb] <;> exact rfl) ?_) | (first | (refine sd_g0 rfl rfl rfl (by simp only [St.put,Za,Zb] <;> exact rfl) ?_) | (refine sd_gu rfl rfl rfl (by simp only [St.put,Za,Zb] <;> exact rfl) ?_)))
            all_goals first | (refine sd_gc rfl rfl rfl (by simp only [callOf,St.ev,getD_0,getD_s,pvAll,D.pv?,ZG,ZH,zd,cd,Value.oneCell',Zr] <;> exact rfl) (acK hP (k35r l n (by omega) (by omega))) (by simp only [St.put,Za,Zb] <;> exact rfl) ?_) | (first | (refine sd_g0 rfl rfl rfl (by simp only [St.put,Za,Zb] <;> exact rfl) ?_) | (refine sd_gu rfl rfl rfl (by simp only [St.put,Za,Zb] <;> exact rfl) ?_)) | (refine sd_split rfl rfl rfl (by simp only [Za,Zb] <;> exact rfl) (by simp only [Za,Zb] <;> exact rfl) (fun hg => ?_) (fun hg => ?_) <;> (try simp only [Zp,Zi,ZJ,ZK,ne_eq,Zn,Zm,Bool.not_eq_true,Zu] at hg) <;> first | (refine sd_gc rfl rfl rfl (by simp only [callOf,St.ev,getD_0,getD_s,pvAll,D.pv?,ZG,ZH,zd,cd,Value.oneCell',Zr] <;> exact rfl) (acK hP (k35r l n (by omega) (by omega))) (by simp only [St.put,Za,Zb] <;> exact rfl) ?_) | (first | (refine sd_g0 rfl rfl rfl (by simp only [St.put,Za,Zb] <;> exact rfl) ?_) | (refine sd_gu rfl rfl rfl (by simp only [St.put,Za,Zb] <;> exact rfl) ?_)))
            iterate 2 (all_goals first | (refine sd_g1 rfl rfl rfl (by simp (disch := omega) only [qop,fop,St.ev,St.put,cd,zd,Value.oneCell',tb_T,TypeDesc.aggB,getD_0,getD_s,Ze,Zd,Zc,Za,Zb,Zr,ZE,ZF,Zf,Zq,Zg,i64_w,Zt,Zs,qBin,iop,Zl,Zo,Zv,Zw,Zj,Zk,Zx,Zy,qLoad,bload,pload,pureAll,D.pure?,ZC,ZD,pvAll,D.pv?,t3,ti3,t4,ti4,t24,ti24,t26,ti26,t27,ti27,t35,ti35,t58,ti58,t60,ti60,t144,ti144,t145,ti145,t148,ti148,t149,ti149,Zh,map_at_l,map_at_i,mul_cast,bT_size,bT_leaf,bT_lv,secCells_length,beq_self_eq_true,decide_true,eq_self,bne_self_eq_false,hyes] <;> exact rfl) rfl (by simp only [St.put,Za,Zb] <;> exact rfl) ?_) | (first | (refine sd_g0 rfl rfl rfl (by simp only [St.put,Za,Zb] <;> exact rfl) ?_) | (refine sd_gu rfl rfl rfl (by simp only [St.put,Za,Zb] <;> exact rfl) ?_)) | (refine sd_split rfl rfl rfl (by simp only [Za,Zb] <;> exact rfl) (by simp only [Za,Zb] <;> exact rfl) (fun hg => ?_) (fun hg => ?_) <;> (try simp only [Zp,Zi,ZJ,ZK,ne_eq,Zn,Zm,Bool.not_eq_true,Zu] at hg) <;> first | (refine sd_g1 rfl rfl rfl (by simp (disch := omega) only [qop,fop,St.ev,St.put,cd,zd,Value.oneCell',tb_T,TypeDesc.aggB,getD_0,getD_s,Ze,Zd,Zc,Za,Zb,Zr,ZE,ZF,Zf,Zq,Zg,i64_w,Zt,Zs,qBin,iop,Zl,Zo,Zv,Zw,Zj,Zk,Zx,Zy,qLoad,bload,pload,pureAll,D.pure?,ZC,ZD,pvAll,D.pv?,t3,ti3,t4,ti4,t24,ti24,t26,ti26,t27,ti27,t35,ti35,t58,ti58,t60,ti60,t144,ti144,t145,ti145,t148,ti148,t149,ti149,Zh,map_at_l,map_at_i,mul_cast,bT_size,bT_leaf,bT_lv,secCells_length,beq_self_eq_true,decide_true,eq_self,bne_self_eq_false,hyes] <;> exact rfl) rfl (by simp only [St.put,Za,Zb] <;> exact rfl) ?_) | (first | (refine sd_g0 rfl rfl rfl (by simp only [St.put,Za,Zb] <;> exact rfl) ?_) | (refine sd_gu rfl rfl rfl (by simp only [St.put,Za,Zb] <;> exact rfl) ?_))))
            iterate 2 (refine sd_q rfl (by simp (disch := omega) only [qop,fop,St.ev,St.put,cd,zd,Value.oneCell',tb_T,TypeDesc.aggB,getD_0,getD_s,Ze,Zd,Zc,Za,Zb,Zr,ZE,ZF,Zf,Zq,Zg,i64_w,Zt,Zs,qBin,iop,Zl,Zo,Zv,Zw,Zj,Zk,Zx,Zy,qLoad,bload,pload,pureAll,D.pure?,ZC,ZD,pvAll,D.pv?,t3,ti3,t4,ti4,t24,ti24,t26,ti26,t27,ti27,t35,ti35,t58,ti58,t60,ti60,t144,ti144,t145,ti145,t148,ti148,t149,ti149,Zh,map_at_l,map_at_i,mul_cast,bT_size,bT_leaf,bT_lv,secCells_length,beq_self_eq_true,decide_true,eq_self,bne_self_eq_false,hyes] <;> exact rfl) (by simp only [St.put,Za,Zb] <;> exact rfl) ?_)
            all_goals first | (refine sd_gc rfl rfl rfl (by simp only [callOf,St.ev,getD_0,getD_s,pvAll,D.pv?,ZG,ZH,zd,cd,Value.oneCell',Zr] <;> exact rfl) (acK hP (c20)) (by simp only [St.put,Za,Zb] <;> exact rfl) ?_) | (first | (refine sd_g0 rfl rfl rfl (by simp only [St.put,Za,Zb] <;> exact rfl) ?_) | (refine sd_gu rfl rfl rfl (by simp only [St.put,Za,Zb] <;> exact rfl) ?_)) | (refine sd_split rfl rfl rfl (by simp only [Za,Zb] <;> exact rfl) (by simp only [Za,Zb] <;> exact rfl) (fun hg => ?_) (fun hg => ?_) <;> (try simp only [Zp,Zi,ZJ,ZK,ne_eq,Zn,Zm,Bool.not_eq_true,Zu] at hg) <;> first | (refine sd_gc rfl rfl rfl (by simp only [callOf,St.ev,getD_0,getD_s,pvAll,D.pv?,ZG,ZH,zd,cd,Value.oneCell',Zr] <;> exact rfl) (acK hP (c20)) (by simp only [St.put,Za,Zb] <;> exact rfl) ?_) | (first | (refine sd_g0 rfl rfl rfl (by simp only [St.put,Za,Zb] <;> exact rfl) ?_) | (refine sd_gu rfl rfl rfl (by simp only [St.put,Za,Zb] <;> exact rfl) ?_)))
            iterate 2 (refine sd_q rfl (by simp (disch := omega) only [qop,fop,St.ev,St.put,cd,zd,Value.oneCell',tb_T,TypeDesc.aggB,getD_0,getD_s,Ze,Zd,Zc,Za,Zb,Zr,ZE,ZF,Zf,Zq,Zg,i64_w,Zt,Zs,qBin,iop,Zl,Zo,Zv,Zw,Zj,Zk,Zx,Zy,qLoad,bload,pload,pureAll,D.pure?,ZC,ZD,pvAll,D.pv?,t3,ti3,t4,ti4,t24,ti24,t26,ti26,t27,ti27,t35,ti35,t58,ti58,t60,ti60,t144,ti144,t145,ti145,t148,ti148,t149,ti149,Zh,map_at_l,map_at_i,mul_cast,bT_size,bT_leaf,bT_lv,secCells_length,beq_self_eq_true,decide_true,eq_self,bne_self_eq_false,hyes] <;> exact rfl) (by simp only [St.put,Za,Zb] <;> exact rfl) ?_)
            refine aopsd_nil ?_
            exact hK
          refine exq_n ?_
          refine aw_ret ?_
          exact ret_r rfl (resOf_one rfl rfl)
end Go.Proofs.Ytldcoekbgfaomaa
end
section
namespace Go.Proofs.Ytldcoekbgfaomaa
open Go.RowKit
theorem rowOwn : ownKnob Try.prog.godebug = none := by kernel_rfl
theorem rowLaid : laidOutB Try.prog = true := by kernel_rfl
theorem rowMaps : mapsRowed Try.pinned.checked.prog = true := by kernel_rfl
theorem rowHeard : Try.pinned.checked.prog.stopsHeard = true := by kernel_rfl
theorem rowGreat : (Try.pinned.checked.prog.mayEnter && ((Try.pinned.checked.prog.make == some Rows.hashtreeBuildsRow.make) && (Rows.hashtreeBuildsRow.lifted == Try.pinned.checked.prog.liftsFinal))) = true := by kernel_rfl
theorem rowEnter : Try.pinned.checked.prog.mayEnter = true := by have h := rowGreat; rw [Bool.and_eq_true, Bool.and_eq_true] at h; exact h.1
theorem rowMake : (Try.pinned.checked.prog.make == some Rows.hashtreeBuildsRow.make) = true := by have h := rowGreat; rw [Bool.and_eq_true, Bool.and_eq_true] at h; exact h.2.1
theorem rowLift : (Rows.hashtreeBuildsRow.lifted == Try.pinned.checked.prog.liftsFinal) = true := by have h := rowGreat; rw [Bool.and_eq_true, Bool.and_eq_true] at h; exact h.2.2
end Go.Proofs.Ytldcoekbgfaomaa
end
