/- The walks of the code that the statement reaches, and the plain laws behind them, part Uc. No conditions. -/
import Derived.Test.YtldcoekbgfaomaaUb
set_option linter.unusedVariables false
set_option linter.unusedSimpArgs false
section
namespace Go.Proofs.Ytldcoekbgfaomaa
open Go.RowKit
set_option maxRecDepth 20000
set_option maxHeartbeats 4000000
attribute [local irreducible] AOps AOpsD AW
theorem c26 (t : Tr) (l : List (List Int)) (es ec : Int) : ACalls Try.prog 26 [trP t, .p (secs l), .agg [i64 es, i64 ec]] (.tup [trP (refUpd t l es ec).1, .p (i64 (refUpd t l es ec).2)]) := by
  obtain ⟨s, f, lv⟩ := t
  refine acalls_of tb_ok Try.func26 (c := _) rfl (by kernel_rfl) ?_
  intro X hP hX hro hpl
  have hb : tb.Ok X.P := hP ▸ tb_ok
  change AW X _ _ ⟨[], [.agg [i64 s, i64 f, lvls lv], .p (secs l), .agg [i64 es, i64 ec], .any, .any, .any, .any, .any, .any, .any, .any, .any, .any, .any, .any, .any, .any, .any, .any, .any, .any, .any, .any, .any, .any, .any, .any, .any, .any, .any, .any, .any, .any, .any, .any, .any, .any, .any, .any, .any, .any, .any, .any, .any, .any, .any, .any, .any, .any, .any, .any, .any, .any, .any, .any, .any, .any, .any, .any, .any, .any, .any, .any, .any, .any, .any, .any, .any, .any, .any, .any, .any, .any, .any, .any, .any, .any, .any, .any, .any, .any, .any, .any, .any, .any, .any, .any, .any, .any, .any, .any, .any, .any, .any, .any, .any, .any, .any, .any, .any, .any, .any, .any, .any, .any, .any, .any], [], []⟩
  refine aw_seq ?_
  refine aw_regK hX hb [0, 1, 2, 3] rfl (σ' := ?s1) (fun K hK => ?h1) ?n1
  case h1 =>
    iterate 4 (refine st_op rfl (by simp (disch := omega) only [stepf,callOf,qop,fop,St.ev,St.put,cd,zd,Value.oneCell',tb_T,TypeDesc.aggB,getD_0,getD_s,Ze,Zd,Zc,Za,Zb,Zr,ZE,ZF,Zf,Zq,Zg,i64_w,Zt,Zs,ZM,ZL,Zl,Zo,ZG,ZH,St.addBox,D.boxCells,D.live,Value.cells,t2,ti2,t3,ti3,t24,ti24,t26,ti26,t35,ti35,t58,ti58,t60,ti60,map_at_l,map_at_i,Zh,add_one_mul_cast,mul_cast] <;> exact rfl) ?_)
    refine aops_nil ?_
    exact hK
  refine exq_n ?_
  refine aw_seq ?_
  refine aw_seq ?_
  refine aw_regK hX hb [0, 1, 2] rfl (σ' := ?s2) (fun K hK => ?h2) ?n2
  case h2 =>
    (refine st_op rfl (by simp (disch := omega) only [stepf,callOf,qop,fop,St.ev,St.put,cd,zd,Value.oneCell',tb_T,TypeDesc.aggB,getD_0,getD_s,Ze,Zd,Zc,Za,Zb,Zr,ZE,ZF,Zf,Zq,Zg,i64_w,Zt,Zs,Zl,Zo,Zv,Zw,Zj,Zk,Zx,Zy,qLoad,bload,pload,pureAll,D.pure?,ZC,ZD,pvAll,D.pv?,t3,ti3,t24,ti24,t26,ti26,t58,ti58,t60,ti60,map_at_l,map_at_i,Zh,add_one_mul_cast,mul_cast] <;> exact rfl) ?_)
    refine st_call rfl (by simp only [callOf,St.ev,getD_0,getD_s,pvAll,D.pv?,ZG,ZH,zd,cd,Value.oneCell',Zr] <;> exact rfl) (acK hP (c34 ⟨s, f, lv⟩)) (by simp only [St.put,Za,Zb] <;> exact rfl) ?_
    (refine st_op rfl (by simp (disch := omega) only [stepf,callOf,qop,fop,St.ev,St.put,cd,zd,Value.oneCell',tb_T,TypeDesc.aggB,getD_0,getD_s,Ze,Zd,Zc,Za,Zb,Zr,ZE,ZF,Zf,Zq,Zg,i64_w,Zt,Zs,Zl,Zo,Zv,Zw,Zj,Zk,Zx,Zy,qLoad,bload,pload,pureAll,D.pure?,ZC,ZD,pvAll,D.pv?,t3,ti3,t24,ti24,t26,ti26,t58,ti58,t60,ti60,map_at_l,map_at_i,Zh,add_one_mul_cast,mul_cast] <;> exact rfl) ?_)
    refine aops_nil ?_
    exact hK
  refine exq_n ?_
  refine aw_seq ?_
  refine aw_regK hX hb [0, 1] rfl (σ' := ?s3) (fun K hK => ?h3) ?n3
  case h3 =>
    iterate 2 (refine st_op rfl (by simp (disch := omega) only [stepf,callOf,qop,fop,St.ev,St.put,cd,zd,Value.oneCell',tb_T,TypeDesc.aggB,getD_0,getD_s,Ze,Zd,Zc,Za,Zb,Zr,ZE,ZF,Zf,Zq,Zg,i64_w,Zt,Zs,qBin,iop,t3,ti3,map_at_l,map_at_i,Zh,add_one_mul_cast,mul_cast] <;> exact rfl) ?_)
    refine aops_nil ?_
    exact hK
  refine exq_n ?_
  refine aw_cond _ rfl (fun hc0 => ?_) (fun hc0 => ?_)
  · try simp only [Zp,Zi,ZK,ZJ,ne_eq,Zn,Zm,ZB,ZA,ZI,not_or,not_and,Zu] at hc0
    refine aw_seq ?_
    refine aw_regK hX hb [0, 1, 2, 3] rfl (σ' := ?s4) (fun K hK => ?h4) ?n4
    case h4 =>
      iterate 4 (refine st_op rfl (by simp (disch := omega) only [stepf,callOf,qop,fop,St.ev,St.put,cd,zd,Value.oneCell',tb_T,TypeDesc.aggB,getD_0,getD_s,Ze,Zd,Zc,Za,Zb,Zr,ZE,ZF,Zf,Zq,Zg,i64_w,Zt,Zs,tb_W,tbO_W,qBuild,qBuildD,D.cell1,range_1,range_2,range_3,range_4,range_5,List.all_cons,List.all_nil,bfill,TI.place,TI.zeros,TI.kindOk,D.cells?,D.pure?,zp,Value.cells,ZQ,ZP,Zl,Zo,fStore,D.boxCells,D.live,Zv,Zw,Zj,Zk,Zx,Zy,ZM,ZL,ZN,ZG,ZH,St.setVec,ZC,t3,ti3,t24,ti24,t26,ti26,t58,ti58,t60,ti60,map_at_l,map_at_i,Zh,add_one_mul_cast,mul_cast] <;> exact rfl) ?_)
      refine aops_nil ?_
      exact hK
    refine exq_n ?_
    refine aw_ret ?_
    refine exq_r ?_
    exact ret_r rfl (resOf_two (by simp only [resVal,qLoad,bload,tb_T,TypeDesc.aggB,pureAll,D.pure?,D.pv?,getD_0,getD_s,Zd,Zc,Zw,Zk,Zv,Zj,Zx,Zl,Zo,Zr,reduceIte,Nat.reduceAdd,Nat.reduceLeDiff,Zg,Zf,t3,ti3,t24,ti24,t26,ti26,t58,ti58,t60,ti60] <;> exact rfl) rfl (by first | rfl | (first | (rw [refUpd_e hc0]; rfl) | (rw [refUpd_6 hc0 (show (l.length : Int) ≠ (S : Int) by omega)]; rfl) | (rw [refUpd_2 hc0 (show (l.length : Int) = (S : Int) by omega) hc2]; rfl) | (rw [refUpd_0 hc0 (show (l.length : Int) = (S : Int) by omega) (by dsimp only; omega), hds, List.take_of_length_le (by rw [updL, List.length_map, List.length_range]; omega)]; rfl))))
  · try simp only [Zp,Zi,ZK,ZJ,ne_eq,Zn,Zm,ZB,ZA,ZI,not_or,not_and,Zu] at hc0
    obtain ⟨S, F, hS, hF, q1, q2, q3, q4, q5, q6⟩ := refChk_ok hc0
    dsimp only at hS hF q5 q6
    subst hS
    subst hF
    have hhd := sh_head q5
    have hnl := nLeaves_le (s := S) (n := F) q3
    refine aw_skip ?_
    refine exq_n ?_
    refine aw_seq ?_
    refine aw_seq ?_
    refine aw_regK hX hb [0, 1, 2, 3, 4] rfl (σ' := ?s5) (fun K hK => ?h5) ?n5
    case h5 =>
      iterate 5 (refine st_op rfl (by simp (disch := omega) only [stepf,callOf,qop,fop,St.ev,St.put,cd,zd,Value.oneCell',tb_T,TypeDesc.aggB,getD_0,getD_s,Ze,Zd,Zc,Za,Zb,Zr,ZE,ZF,Zf,Zq,Zg,i64_w,Zt,Zs,qLen,qFieldAddr,fieldOf,Zl,Zo,Zv,Zw,Zj,Zk,Zx,Zy,qLoad,bload,pload,pureAll,D.pure?,ZC,ZD,qBin,iop,t1,ti1,t3,ti3,t5,ti5,t22,ti22,t24,ti24,t26,ti26,t50,ti50,t58,ti58,t60,ti60,map_at_l,map_at_i,Zh,add_one_mul_cast,mul_cast] <;> exact rfl) ?_)
      refine aops_nil ?_
      exact hK
    refine exq_n ?_
    refine aw_cond _ rfl (fun hc1 => ?_) (fun hc1 => ?_)
    · try simp only [Zp,Zi,ZK,ZJ,ne_eq,Zn,Zm,ZB,ZA,ZI,not_or,not_and,Zu] at hc1
      refine aw_seq ?_
      refine aw_regK hX hb [0, 1, 2] rfl (σ' := ?s6) (fun K hK => ?h6) ?n6
      case h6 =>
        iterate 3 (refine st_op rfl (by simp (disch := omega) only [stepf,callOf,qop,fop,St.ev,St.put,cd,zd,Value.oneCell',tb_T,TypeDesc.aggB,getD_0,getD_s,Ze,Zd,Zc,Za,Zb,Zr,ZE,ZF,Zf,Zq,Zg,i64_w,Zt,Zs,tb_W,tbO_W,qBuild,qBuildD,D.cell1,range_1,range_2,range_3,range_4,range_5,List.all_cons,List.all_nil,bfill,TI.place,TI.zeros,TI.kindOk,D.cells?,D.pure?,zp,Value.cells,ZQ,ZP,Zl,Zo,fStore,D.boxCells,D.live,Zv,Zw,Zj,Zk,Zx,Zy,ZM,ZL,ZN,ZG,ZH,St.setVec,ZC,t3,ti3,t24,ti24,t26,ti26,t58,ti58,t60,ti60,map_at_l,map_at_i,Zh,add_one_mul_cast,mul_cast] <;> exact rfl) ?_)
        refine aops_nil ?_
        exact hK
      refine exq_n ?_
      refine aw_ret ?_
      refine exq_r ?_
      exact ret_r rfl (resOf_two (by simp only [resVal,qLoad,bload,tb_T,TypeDesc.aggB,pureAll,D.pure?,D.pv?,getD_0,getD_s,Zd,Zc,Zw,Zk,Zv,Zj,Zx,Zl,Zo,Zr,reduceIte,Nat.reduceAdd,Nat.reduceLeDiff,Zg,Zf,t3,ti3,t24,ti24,t26,ti26,t58,ti58,t60,ti60] <;> exact rfl) rfl (by first | rfl | (first | (rw [refUpd_e hc0]; rfl) | (rw [refUpd_6 hc0 (show (l.length : Int) ≠ (S : Int) by omega)]; rfl) | (rw [refUpd_2 hc0 (show (l.length : Int) = (S : Int) by omega) hc2]; rfl) | (rw [refUpd_0 hc0 (show (l.length : Int) = (S : Int) by omega) (by dsimp only; omega), hds, List.take_of_length_le (by rw [updL, List.length_map, List.length_range]; omega)]; rfl))))
    · try simp only [Zp,Zi,ZK,ZJ,ne_eq,Zn,Zm,ZB,ZA,ZI,not_or,not_and,Zu] at hc1
      refine aw_skip ?_
      refine exq_n ?_
      refine aw_seq ?_
      refine aw_seq ?_
      refine aw_regJ hX hb [0, 1, 2, 3, 4, 5, 6, 7, 8, 9, 10, 11, 12, 13, 14, 15, 16, 17, 18, 19, 20, 21, 22, 23, 24] rfl (ts := [24, 25, 26, 27, 28, 29, 30, 31, 32, 33, 34, 35, 36, 37, 38, 39, 40, 41, 42, 43, 44, 45, 46, 47]) (t := 48) (d := .p (bv (es < 0 ∨ ec < 0 ∨ (S : Int) < es ∨ (S : Int) - es < ec))) (σ' := ?s7) ?j7 ?h7 ?n7
      case j7 => simp only [St.join,List.foldl,Za,Zb]; exact rfl
      case h7 =>
        iterate 4 (all_goals refine st_op rfl (by simp (disch := omega) only [stepf,callOf,qop,fop,St.ev,St.put,cd,zd,Value.oneCell',tb_T,TypeDesc.aggB,getD_0,getD_s,Ze,Zd,Zc,Za,Zb,Zr,ZE,ZF,Zf,Zq,Zg,i64_w,Zt,Zs,qFieldAddr,fieldOf,Zl,Zo,Zv,Zw,Zj,Zk,Zx,Zy,qLoad,bload,pload,pureAll,D.pure?,ZC,ZD,qBin,iop,t1,ti1,t3,ti3,t5,ti5,t22,ti22,t24,ti24,t26,ti26,t27,ti27,t35,ti35,t40,ti40,t47,ti47,t50,ti50,t58,ti58,t60,ti60,map_at_l,map_at_i,Zh,add_one_mul_cast,mul_cast] <;> exact rfl) ?_)
        iterate 3 (all_goals first | (refine st_g1 rfl rfl rfl (by simp (disch := omega) only [stepf,callOf,qop,fop,St.ev,St.put,cd,zd,Value.oneCell',tb_T,TypeDesc.aggB,getD_0,getD_s,Ze,Zd,Zc,Za,Zb,Zr,ZE,ZF,Zf,Zq,Zg,i64_w,Zt,Zs,qFieldAddr,fieldOf,Zl,Zo,Zv,Zw,Zj,Zk,Zx,Zy,qLoad,bload,pload,pureAll,D.pure?,ZC,ZD,qBin,iop,t1,ti1,t3,ti3,t5,ti5,t22,ti22,t24,ti24,t26,ti26,t27,ti27,t35,ti35,t40,ti40,t47,ti47,t50,ti50,t58,ti58,t60,ti60,map_at_l,map_at_i,Zh,add_one_mul_cast,mul_cast] <;> exact rfl) ?_) | (first | (refine st_g0 rfl rfl rfl (by simp only [St.put,Za,Zb] <;> exact rfl) ?_) | (refine st_gu rfl rfl rfl (by simp only [St.put,Za,Zb] <;> exact rfl) ?_)) | (refine st_split rfl rfl rfl (by simp only [Za,Zb] <;> exact rfl) (by simp only [Za,Zb] <;> exact rfl) (fun hg => ?_) (fun hg => ?_) <;> (try simp only [Zp,Zi,ZJ,ZK,ne_eq,Zn,Zm,Bool.not_eq_true,Zu] at hg) <;> first | (refine st_g1 rfl rfl rfl (by simp (disch := omega) only [stepf,callOf,qop,fop,St.ev,St.put,cd,zd,Value.oneCell',tb_T,TypeDesc.aggB,getD_0,getD_s,Ze,Zd,Zc,Za,Zb,Zr,ZE,ZF,Zf,Zq,Zg,i64_w,Zt,Zs,qFieldAddr,fieldOf,Zl,Zo,Zv,Zw,Zj,Zk,Zx,Zy,qLoad,bload,pload,pureAll,D.pure?,ZC,ZD,qBin,iop,t1,ti1,t3,ti3,t5,ti5,t22,ti22,t24,ti24,t26,ti26,t27,ti27,t35,ti35,t40,ti40,t47,ti47,t50,ti50,t58,ti58,t60,ti60,map_at_l,map_at_i,Zh,add_one_mul_cast,mul_cast] <;> exact rfl) ?_) | (first | (refine st_g0 rfl rfl rfl (by simp only [St.put,Za,Zb] <;> exact rfl) ?_) | (refine st_gu rfl rfl rfl (by simp only [St.put,Za,Zb] <;> exact rfl) ?_))))
        iterate 2 (all_goals refine st_op rfl (by simp (disch := omega) only [stepf,callOf,qop,fop,St.ev,St.put,cd,zd,Value.oneCell',tb_T,TypeDesc.aggB,getD_0,getD_s,Ze,Zd,Zc,Za,Zb,Zr,ZE,ZF,Zf,Zq,Zg,i64_w,Zt,Zs,qFieldAddr,fieldOf,Zl,Zo,Zv,Zw,Zj,Zk,Zx,Zy,qLoad,bload,pload,pureAll,D.pure?,ZC,ZD,qBin,iop,t1,ti1,t3,ti3,t5,ti5,t22,ti22,t24,ti24,t26,ti26,t27,ti27,t35,ti35,t40,ti40,t47,ti47,t50,ti50,t58,ti58,t60,ti60,map_at_l,map_at_i,Zh,add_one_mul_cast,mul_cast] <;> exact rfl) ?_)
        iterate 5 (all_goals first | (refine st_g1 rfl rfl rfl (by simp (disch := omega) only [stepf,callOf,qop,fop,St.ev,St.put,cd,zd,Value.oneCell',tb_T,TypeDesc.aggB,getD_0,getD_s,Ze,Zd,Zc,Za,Zb,Zr,ZE,ZF,Zf,Zq,Zg,i64_w,Zt,Zs,qFieldAddr,fieldOf,Zl,Zo,Zv,Zw,Zj,Zk,Zx,Zy,qLoad,bload,pload,pureAll,D.pure?,ZC,ZD,qBin,iop,t1,ti1,t3,ti3,t5,ti5,t22,ti22,t24,ti24,t26,ti26,t27,ti27,t35,ti35,t40,ti40,t47,ti47,t50,ti50,t58,ti58,t60,ti60,map_at_l,map_at_i,Zh,add_one_mul_cast,mul_cast] <;> exact rfl) ?_) | (first | (refine st_g0 rfl rfl rfl (by simp only [St.put,Za,Zb] <;> exact rfl) ?_) | (refine st_gu rfl rfl rfl (by simp only [St.put,Za,Zb] <;> exact rfl) ?_)) | (refine st_split rfl rfl rfl (by simp only [Za,Zb] <;> exact rfl) (by simp only [Za,Zb] <;> exact rfl) (fun hg => ?_) (fun hg => ?_) <;> (try simp only [Zp,Zi,ZJ,ZK,ne_eq,Zn,Zm,Bool.not_eq_true,Zu] at hg) <;> first | (refine st_g1 rfl rfl rfl (by simp (disch := omega) only [stepf,callOf,qop,fop,St.ev,St.put,cd,zd,Value.oneCell',tb_T,TypeDesc.aggB,getD_0,getD_s,Ze,Zd,Zc,Za,Zb,Zr,ZE,ZF,Zf,Zq,Zg,i64_w,Zt,Zs,qFieldAddr,fieldOf,Zl,Zo,Zv,Zw,Zj,Zk,Zx,Zy,qLoad,bload,pload,pureAll,D.pure?,ZC,ZD,qBin,iop,t1,ti1,t3,ti3,t5,ti5,t22,ti22,t24,ti24,t26,ti26,t27,ti27,t35,ti35,t40,ti40,t47,ti47,t50,ti50,t58,ti58,t60,ti60,map_at_l,map_at_i,Zh,add_one_mul_cast,mul_cast] <;> exact rfl) ?_) | (first | (refine st_g0 rfl rfl rfl (by simp only [St.put,Za,Zb] <;> exact rfl) ?_) | (refine st_gu rfl rfl rfl (by simp only [St.put,Za,Zb] <;> exact rfl) ?_))))
        iterate 2 (all_goals refine st_op rfl (by simp (disch := omega) only [stepf,callOf,qop,fop,St.ev,St.put,cd,zd,Value.oneCell',tb_T,TypeDesc.aggB,getD_0,getD_s,Ze,Zd,Zc,Za,Zb,Zr,ZE,ZF,Zf,Zq,Zg,i64_w,Zt,Zs,qFieldAddr,fieldOf,Zl,Zo,Zv,Zw,Zj,Zk,Zx,Zy,qLoad,bload,pload,pureAll,D.pure?,ZC,ZD,qBin,iop,t1,ti1,t3,ti3,t5,ti5,t22,ti22,t24,ti24,t26,ti26,t27,ti27,t35,ti35,t40,ti40,t47,ti47,t50,ti50,t58,ti58,t60,ti60,map_at_l,map_at_i,Zh,add_one_mul_cast,mul_cast] <;> exact rfl) ?_)
        iterate 8 (all_goals first | (refine st_g1 rfl rfl rfl (by simp (disch := omega) only [stepf,callOf,qop,fop,St.ev,St.put,cd,zd,Value.oneCell',tb_T,TypeDesc.aggB,getD_0,getD_s,Ze,Zd,Zc,Za,Zb,Zr,ZE,ZF,Zf,Zq,Zg,i64_w,Zt,Zs,qFieldAddr,fieldOf,Zl,Zo,Zv,Zw,Zj,Zk,Zx,Zy,qLoad,bload,pload,pureAll,D.pure?,ZC,ZD,qBin,iop,t1,ti1,t3,ti3,t5,ti5,t22,ti22,t24,ti24,t26,ti26,t27,ti27,t35,ti35,t40,ti40,t47,ti47,t50,ti50,t58,ti58,t60,ti60,map_at_l,map_at_i,Zh,add_one_mul_cast,mul_cast] <;> exact rfl) ?_) | (first | (refine st_g0 rfl rfl rfl (by simp only [St.put,Za,Zb] <;> exact rfl) ?_) | (refine st_gu rfl rfl rfl (by simp only [St.put,Za,Zb] <;> exact rfl) ?_)) | (refine st_split rfl rfl rfl (by simp only [Za,Zb] <;> exact rfl) (by simp only [Za,Zb] <;> exact rfl) (fun hg => ?_) (fun hg => ?_) <;> (try simp only [Zp,Zi,ZJ,ZK,ne_eq,Zn,Zm,Bool.not_eq_true,Zu] at hg) <;> first | (refine st_g1 rfl rfl rfl (by simp (disch := omega) only [stepf,callOf,qop,fop,St.ev,St.put,cd,zd,Value.oneCell',tb_T,TypeDesc.aggB,getD_0,getD_s,Ze,Zd,Zc,Za,Zb,Zr,ZE,ZF,Zf,Zq,Zg,i64_w,Zt,Zs,qFieldAddr,fieldOf,Zl,Zo,Zv,Zw,Zj,Zk,Zx,Zy,qLoad,bload,pload,pureAll,D.pure?,ZC,ZD,qBin,iop,t1,ti1,t3,ti3,t5,ti5,t22,ti22,t24,ti24,t26,ti26,t27,ti27,t35,ti35,t40,ti40,t47,ti47,t50,ti50,t58,ti58,t60,ti60,map_at_l,map_at_i,Zh,add_one_mul_cast,mul_cast] <;> exact rfl) ?_) | (first | (refine st_g0 rfl rfl rfl (by simp only [St.put,Za,Zb] <;> exact rfl) ?_) | (refine st_gu rfl rfl rfl (by simp only [St.put,Za,Zb] <;> exact rfl) ?_))))
        (all_goals refine st_op rfl (by simp (disch := omega) only [stepf,callOf,qop,fop,St.ev,St.put,cd,zd,Value.oneCell',tb_T,TypeDesc.aggB,getD_0,getD_s,Ze,Zd,Zc,Za,Zb,Zr,ZE,ZF,Zf,Zq,Zg,i64_w,Zt,Zs,qFieldAddr,fieldOf,Zl,Zo,Zv,Zw,Zj,Zk,Zx,Zy,qLoad,bload,pload,pureAll,D.pure?,ZC,ZD,qBin,iop,t1,ti1,t3,ti3,t5,ti5,t22,ti22,t24,ti24,t26,ti26,t27,ti27,t35,ti35,t40,ti40,t47,ti47,t50,ti50,t58,ti58,t60,ti60,map_at_l,map_at_i,Zh,add_one_mul_cast,mul_cast] <;> exact rfl) ?_)
        all_goals refine aops_nil ?_
        all_goals refine ⟨rfl, ?_, leB_self _, leV_self _, rfl, rfl⟩
        all_goals repeat' (first | exact leL_nil | refine leL_a ?_ | refine leL_r rfl ?_ | refine leL_r ?_ ?_)
        all_goals refine jn ?_
        all_goals ((try simp only [Zp,Zi,ZJ,ZK,Bool.not_eq_true,Zm,Zn,ne_eq,Zf,true_iff,false_iff,iff_true,iff_false] at *) <;> omega)
      refine exq_n ?_
      refine aw_cond _ rfl (fun hc2 => ?_) (fun hc2 => ?_)
      · try simp only [Zp,Zi,ZK,ZJ,ne_eq,Zn,Zm,ZB,ZA,ZI,not_or,not_and,Zu] at hc2
        refine aw_seq ?_
        refine aw_regK hX hb [0, 1, 2] rfl (σ' := ?s8) (fun K hK => ?h8) ?n8
        case h8 =>
          iterate 3 (refine st_op rfl (by simp (disch := omega) only [stepf,callOf,qop,fop,St.ev,St.put,cd,zd,Value.oneCell',tb_T,TypeDesc.aggB,getD_0,getD_s,Ze,Zd,Zc,Za,Zb,Zr,ZE,ZF,Zf,Zq,Zg,i64_w,Zt,Zs,tb_W,tbO_W,qBuild,qBuildD,D.cell1,range_1,range_2,range_3,range_4,range_5,List.all_cons,List.all_nil,bfill,TI.place,TI.zeros,TI.kindOk,D.cells?,D.pure?,zp,Value.cells,ZQ,ZP,Zl,Zo,fStore,D.boxCells,D.live,Zv,Zw,Zj,Zk,Zx,Zy,ZM,ZL,ZN,ZG,ZH,St.setVec,ZC,t2,ti2,t3,ti3,t24,ti24,t26,ti26,t58,ti58,t60,ti60,map_at_l,map_at_i,Zh,add_one_mul_cast,mul_cast] <;> exact rfl) ?_)
          refine aops_nil ?_
          exact hK
        refine exq_n ?_
        refine aw_ret ?_
        refine exq_r ?_
        exact ret_r rfl (resOf_two (by simp only [resVal,qLoad,bload,tb_T,TypeDesc.aggB,pureAll,D.pure?,D.pv?,getD_0,getD_s,Zd,Zc,Zw,Zk,Zv,Zj,Zx,Zl,Zo,Zr,reduceIte,Nat.reduceAdd,Nat.reduceLeDiff,Zg,Zf,t3,ti3,t24,ti24,t26,ti26,t58,ti58,t60,ti60] <;> exact rfl) rfl (by first | rfl | (first | (rw [refUpd_e hc0]; rfl) | (rw [refUpd_6 hc0 (show (l.length : Int) ≠ (S : Int) by omega)]; rfl) | (rw [refUpd_2 hc0 (show (l.length : Int) = (S : Int) by omega) hc2]; rfl) | (rw [refUpd_0 hc0 (show (l.length : Int) = (S : Int) by omega) (by dsimp only; omega), hds, List.take_of_length_le (by rw [updL, List.length_map, List.length_range]; omega)]; rfl))))
      · try simp only [Zp,Zi,ZK,ZJ,ne_eq,Zn,Zm,ZB,ZA,ZI,not_or,not_and,Zu] at hc2
        refine aw_skip ?_
        refine exq_n ?_
        refine aw_seq ?_
        refine aw_regK hX hb [0] rfl (σ' := ?s9) (fun K hK => ?h9) ?n9
        case h9 =>
          (refine st_op rfl (by simp (disch := omega) only [stepf,callOf,qop,fop,St.ev,St.put,cd,zd,Value.oneCell',tb_T,TypeDesc.aggB,getD_0,getD_s,Ze,Zd,Zc,Za,Zb,Zr,ZE,ZF,Zf,Zq,Zg,i64_w,Zt,Zs,map_at_l,map_at_i,Zh,add_one_mul_cast,mul_cast] <;> exact rfl) ?_)
          refine aops_nil ?_
          exact hK
        refine exq_n ?_
        refine aw_nil 9 58 1 rfl (σ' := ?s10) ?h10 ?n10
        case h10 => simp only [St.nilSlot,St.addVec,Za,Zb,Zl,Zo,ZL,ZM]; exact rfl
        refine aw_seq ?_
        refine aw_seq ?_
        refine aw_regK hX hb [0] rfl (σ' := ?s11) (fun K hK => ?h11) ?n11
        case h11 =>
          (refine st_op rfl (by simp (disch := omega) only [stepf,callOf,qop,fop,St.ev,St.put,cd,zd,Value.oneCell',tb_T,TypeDesc.aggB,getD_0,getD_s,Ze,Zd,Zc,Za,Zb,Zr,ZE,ZF,Zf,Zq,Zg,i64_w,Zt,Zs,map_at_l,map_at_i,Zh,add_one_mul_cast,mul_cast] <;> exact rfl) ?_)
          refine aops_nil ?_
          exact hK
        refine exq_n ?_
        refine aw_block ?_
        refine aw_loop (ι := Nat × List Int) (fun p => p.1 ≤ nLeaves S F ∧ p.2 = (updL l F (lv.getD 0 []) es ec).take p.1) (fun p => ⟨[], [.any, .p (secs l), .any, .ptr 0 0, .any, .ptr 1 0, .ptr 2 0, .p (i64 0), .any, .vref 0, .p (i64 p.1), .any, .any, .any, .any, .any, .any, .any, .any, .any, .any, .any, .any, .any, .any, .any, .any, .any, .any, .any, .any, .any, .any, .any, .any, .any, .any, .any, .any, .any, .any, .any, .any, .any, .any, .any, .any, .any, .any, .any, .any, .any, .any, .any, .any, .any, .any, .any, .any, .any, .any, .any, .any, .any, .any, .any, .any, .any, .any, .any, .any, .any, .any, .any, .any, .any, .any, .any, .any, .any, .any, .any, .any, .any, .any, .any, .any, .any, .any, .any, .any, .any, .any, .any, .any, .any, .any, .any, .any, .any, .any, .any, .any, .any, .any, .any, .any], [⟨26, [.p (i64 (S : Int)), .p (i64 (F : Int)), .p (lvls lv)]⟩, ⟨35, [.p (i64 es), .p (i64 ec)]⟩, ⟨26, [.p (i64 0), .p (i64 0), .nil]⟩], [some ⟨58, 1, p.2.length, p.2.map u64⟩]⟩) (fun p => nLeaves S F - p.1) (0, []) (by exact ⟨Nat.zero_le _, rfl⟩) (wk_le ⟨rfl, leL_a (leL_r (by first | rfl | (first | (dsimp only; rw [show updV l F (lv.getD 0 []) es ec i = secsD (secAt l F i) from if_pos hc4]; simp) | (dsimp only; rw [show updV l F (lv.getD 0 []) es ec i = (lv.getD 0 []).getD i 0 from if_neg (by omega)]; simp))) (leL_a (leL_r (by first | rfl | (first | (dsimp only; rw [show updV l F (lv.getD 0 []) es ec i = secsD (secAt l F i) from if_pos hc4]; simp) | (dsimp only; rw [show updV l F (lv.getD 0 []) es ec i = (lv.getD 0 []).getD i 0 from if_neg (by omega)]; simp))) (leL_a (leL_r (by first | rfl | (first | (dsimp only; rw [show updV l F (lv.getD 0 []) es ec i = secsD (secAt l F i) from if_pos hc4]; simp) | (dsimp only; rw [show updV l F (lv.getD 0 []) es ec i = (lv.getD 0 []).getD i 0 from if_neg (by omega)]; simp))) (leL_r (by first | rfl | (first | (dsimp only; rw [show updV l F (lv.getD 0 []) es ec i = secsD (secAt l F i) from if_pos hc4]; simp) | (dsimp only; rw [show updV l F (lv.getD 0 []) es ec i = (lv.getD 0 []).getD i 0 from if_neg (by omega)]; simp))) (leL_r (by first | rfl | (first | (dsimp only; rw [show updV l F (lv.getD 0 []) es ec i = secsD (secAt l F i) from if_pos hc4]; simp) | (dsimp only; rw [show updV l F (lv.getD 0 []) es ec i = (lv.getD 0 []).getD i 0 from if_neg (by omega)]; simp))) (leL_a (leL_r (by first | rfl | (first | (dsimp only; rw [show updV l F (lv.getD 0 []) es ec i = secsD (secAt l F i) from if_pos hc4]; simp) | (dsimp only; rw [show updV l F (lv.getD 0 []) es ec i = (lv.getD 0 []).getD i 0 from if_neg (by omega)]; simp))) (leL_r (by first | rfl | (first | (dsimp only; rw [show updV l F (lv.getD 0 []) es ec i = secsD (secAt l F i) from if_pos hc4]; simp) | (dsimp only; rw [show updV l F (lv.getD 0 []) es ec i = (lv.getD 0 []).getD i 0 from if_neg (by omega)]; simp))) (leL_a (leL_a (leL_a (leL_a (leL_a (leL_a (leL_a (leL_a (leL_a (leL_a (leL_a (leL_a (leL_a (leL_a (leL_a (leL_a (leL_a (leL_a (leL_a (leL_a (leL_a (leL_a (leL_a (leL_a (leL_a (leL_a (leL_a (leL_a (leL_a (leL_a (leL_a (leL_a (leL_a (leL_a (leL_a (leL_a (leL_a (leL_a (leL_a (leL_a (leL_a (leL_a (leL_a (leL_a (leL_a (leL_a (leL_a (leL_a (leL_a (leL_a (leL_a (leL_a (leL_a (leL_a (leL_a (leL_a (leL_a (leL_a (leL_a (leL_a (leL_a (leL_a (leL_a (leL_a (leL_a (leL_a (leL_a (leL_a (leL_a (leL_a (leL_a (leL_a (leL_a (leL_a (leL_a (leL_a (leL_a (leL_a (leL_a (leL_a (leL_a (leL_a (leL_a (leL_a (leL_a (leL_a (leL_a (leL_a (leL_a (leL_a (leL_a (leL_a (leL_a (leL_a (leL_a (leL_a (leL_nil))))))))))))))))))))))))))))))))))))))))))))))))))))))))))))))))))))))))))))))))))))))))))))))))))))))))))), (leB_r rfl (leL_r (by first | rfl | (first | (dsimp only; rw [show updV l F (lv.getD 0 []) es ec i = secsD (secAt l F i) from if_pos hc4]; simp) | (dsimp only; rw [show updV l F (lv.getD 0 []) es ec i = (lv.getD 0 []).getD i 0 from if_neg (by omega)]; simp))) (leL_r (by first | rfl | (first | (dsimp only; rw [show updV l F (lv.getD 0 []) es ec i = secsD (secAt l F i) from if_pos hc4]; simp) | (dsimp only; rw [show updV l F (lv.getD 0 []) es ec i = (lv.getD 0 []).getD i 0 from if_neg (by omega)]; simp))) (leL_r (by first | rfl | (first | (dsimp only; rw [show updV l F (lv.getD 0 []) es ec i = secsD (secAt l F i) from if_pos hc4]; simp) | (dsimp only; rw [show updV l F (lv.getD 0 []) es ec i = (lv.getD 0 []).getD i 0 from if_neg (by omega)]; simp))) (leL_nil)))) (leB_r rfl (leL_r (by first | rfl | (first | (dsimp only; rw [show updV l F (lv.getD 0 []) es ec i = secsD (secAt l F i) from if_pos hc4]; simp) | (dsimp only; rw [show updV l F (lv.getD 0 []) es ec i = (lv.getD 0 []).getD i 0 from if_neg (by omega)]; simp))) (leL_r (by first | rfl | (first | (dsimp only; rw [show updV l F (lv.getD 0 []) es ec i = secsD (secAt l F i) from if_pos hc4]; simp) | (dsimp only; rw [show updV l F (lv.getD 0 []) es ec i = (lv.getD 0 []).getD i 0 from if_neg (by omega)]; simp))) (leL_nil))) (leB_r rfl (leL_r (by first | rfl | (first | (dsimp only; rw [show updV l F (lv.getD 0 []) es ec i = secsD (secAt l F i) from if_pos hc4]; simp) | (dsimp only; rw [show updV l F (lv.getD 0 []) es ec i = (lv.getD 0 []).getD i 0 from if_neg (by omega)]; simp))) (leL_r (by first | rfl | (first | (dsimp only; rw [show updV l F (lv.getD 0 []) es ec i = secsD (secAt l F i) from if_pos hc4]; simp) | (dsimp only; rw [show updV l F (lv.getD 0 []) es ec i = (lv.getD 0 []).getD i 0 from if_neg (by omega)]; simp))) (leL_r (by first | rfl | (first | (dsimp only; rw [show updV l F (lv.getD 0 []) es ec i = secsD (secAt l F i) from if_pos hc4]; simp) | (dsimp only; rw [show updV l F (lv.getD 0 []) es ec i = (lv.getD 0 []).getD i 0 from if_neg (by omega)]; simp))) (leL_nil)))) (leB_nil _)))), (leV_r (by first | rfl | (first | (dsimp only; rw [show updV l F (lv.getD 0 []) es ec i = secsD (secAt l F i) from if_pos hc4]; simp) | (dsimp only; rw [show updV l F (lv.getD 0 []) es ec i = (lv.getD 0 []).getD i 0 from if_neg (by omega)]; simp))) (leV_nil _)), rfl, rfl⟩) ?_
        rintro ⟨i, ds⟩ ⟨hi, hds⟩
        dsimp only at hi hds ⊢
        have hdl : ds.length = i := by rw [hds, List.length_take, updL, List.length_map, List.length_range, hhd.2]; omega
        refine aw_seq ?_
        refine aw_seq ?_
        refine aw_regK hX hb [0, 1, 2, 3, 4, 5, 6] rfl (σ' := ?s12) (fun K hK => ?h12) ?n12
        case h12 =>
          iterate 7 (refine st_op rfl (by simp (disch := omega) only [stepf,callOf,qop,fop,St.ev,St.put,cd,zd,Value.oneCell',tb_T,TypeDesc.aggB,getD_0,getD_s,Ze,Zd,Zc,Za,Zb,Zr,ZE,ZF,Zf,Zq,Zg,i64_w,Zt,Zs,qFieldAddr,fieldOf,Zl,Zo,Zv,Zw,Zj,Zk,Zx,Zy,qLoad,bload,pload,pureAll,D.pure?,ZC,ZD,Int.toNat_zero,Int.toNat_one,toNat_pred,toNat_succ,qIndexAddr,ZO,Nat.mul_one,Nat.zero_mul,Zh,qLen,qBin,iop,t2,ti2,t3,ti3,t4,ti4,t5,ti5,t24,ti24,t26,ti26,t50,ti50,t54,ti54,t58,ti58,t60,ti60,map_at_l,map_at_i,add_one_mul_cast,mul_cast] <;> exact rfl) ?_)
          refine aops_nil ?_
          exact hK
        refine exq_n ?_
        refine aw_cond _ rfl (fun hc3 => ?_) (fun hc3 => ?_)
        · try simp only [Zp,Zi,ZK,ZJ,ne_eq,Zn,Zm,ZB,ZA,ZI,not_or,not_and,Zu] at hc3
          refine aw_skip ?_
          refine exq_n ?_
          refine aw_seq ?_
          refine aw_block ?_
          refine aw_seq ?_
          refine aw_regK hX hb [0, 1, 2, 3, 4, 5, 6, 7] rfl (σ' := ?s13) (fun K hK => ?h13) ?n13
          case h13 =>
            iterate 8 (refine st_op rfl (by simp (disch := omega) only [stepf,callOf,qop,fop,St.ev,St.put,cd,zd,Value.oneCell',tb_T,TypeDesc.aggB,getD_0,getD_s,Ze,Zd,Zc,Za,Zb,Zr,ZE,ZF,Zf,Zq,Zg,i64_w,Zt,Zs,qFieldAddr,fieldOf,Zl,Zo,Zv,Zw,Zj,Zk,Zx,Zy,qLoad,bload,pload,pureAll,D.pure?,ZC,ZD,Int.toNat_zero,Int.toNat_one,toNat_pred,toNat_succ,qIndexAddr,ZO,Nat.mul_one,Nat.zero_mul,Zh,t2,ti2,t3,ti3,t5,ti5,t22,ti22,t24,ti24,t26,ti26,t50,ti50,t58,ti58,t60,ti60,t63,ti63,map_at_l,map_at_i,add_one_mul_cast,mul_cast] <;> exact rfl) ?_)
            refine aops_nil ?_
            exact hK
          refine exq_n ?_
          refine aw_seq ?_
          refine aw_seq ?_
          have hm := leaf_mul q3 (by omega : i < nLeaves S F)
          refine aw_regJ hX hb [0, 1, 2, 3, 4, 5, 6, 7, 8, 9, 10, 11, 12, 13, 14, 15, 16, 17, 18, 19, 20, 21, 22, 23, 24] rfl (ts := [66, 67, 68, 69, 70, 71, 72, 73, 74, 75, 76, 77, 78, 79, 80, 81, 82, 83, 84, 85, 86, 87, 88, 89]) (t := 90) (d := .p (bv (0 < ec ∧ es < ((i * F + F : Nat) : Int) ∧ ((i * F : Nat) : Int) < es + ec))) (σ' := ?s14) ?j14 ?h14 ?n14
          case j14 => simp only [St.join,List.foldl,Za,Zb]; exact rfl
          case h14 =>
            iterate 4 (all_goals refine st_op rfl (by simp (disch := omega) only [stepf,callOf,qop,fop,St.ev,St.put,cd,zd,Value.oneCell',tb_T,TypeDesc.aggB,getD_0,getD_s,Ze,Zd,Zc,Za,Zb,Zr,ZE,ZF,Zf,Zq,Zg,i64_w,Zt,Zs,qFieldAddr,fieldOf,Zl,Zo,Zv,Zw,Zj,Zk,Zx,Zy,qLoad,bload,pload,pureAll,D.pure?,ZC,ZD,qBin,iop,t1,ti1,t3,ti3,t4,ti4,t5,ti5,t24,ti24,t26,ti26,t35,ti35,t40,ti40,t58,ti58,t60,ti60,t69,ti69,t71,ti71,t75,ti75,t77,ti77,t87,ti87,t88,ti88,t90,ti90,map_at_l,map_at_i,Zh,add_one_mul_cast,mul_cast] <;> exact rfl) ?_)
            iterate 8 (all_goals first | (refine st_g1 rfl rfl rfl (by simp (disch := omega) only [stepf,callOf,qop,fop,St.ev,St.put,cd,zd,Value.oneCell',tb_T,TypeDesc.aggB,getD_0,getD_s,Ze,Zd,Zc,Za,Zb,Zr,ZE,ZF,Zf,Zq,Zg,i64_w,Zt,Zs,qFieldAddr,fieldOf,Zl,Zo,Zv,Zw,Zj,Zk,Zx,Zy,qLoad,bload,pload,pureAll,D.pure?,ZC,ZD,qBin,iop,t1,ti1,t3,ti3,t4,ti4,t5,ti5,t24,ti24,t26,ti26,t35,ti35,t40,ti40,t58,ti58,t60,ti60,t69,ti69,t71,ti71,t75,ti75,t77,ti77,t87,ti87,t88,ti88,t90,ti90,map_at_l,map_at_i,Zh,add_one_mul_cast,mul_cast] <;> exact rfl) ?_) | (first | (refine st_g0 rfl rfl rfl (by simp only [St.put,Za,Zb] <;> exact rfl) ?_) | (refine st_gu rfl rfl rfl (by simp only [St.put,Za,Zb] <;> exact rfl) ?_)) | (refine st_split rfl rfl rfl (by simp only [Za,Zb] <;> exact rfl) (by simp only [Za,Zb] <;> exact rfl) (fun hg => ?_) (fun hg => ?_) <;> (try simp only [Zp,Zi,ZJ,ZK,ne_eq,Zn,Zm,Bool.not_eq_true,Zu] at hg) <;> first | (refine st_g1 rfl rfl rfl (by simp (disch := omega) only [stepf,callOf,qop,fop,St.ev,St.put,cd,zd,Value.oneCell',tb_T,TypeDesc.aggB,getD_0,getD_s,Ze,Zd,Zc,Za,Zb,Zr,ZE,ZF,Zf,Zq,Zg,i64_w,Zt,Zs,qFieldAddr,fieldOf,Zl,Zo,Zv,Zw,Zj,Zk,Zx,Zy,qLoad,bload,pload,pureAll,D.pure?,ZC,ZD,qBin,iop,t1,ti1,t3,ti3,t4,ti4,t5,ti5,t24,ti24,t26,ti26,t35,ti35,t40,ti40,t58,ti58,t60,ti60,t69,ti69,t71,ti71,t75,ti75,t77,ti77,t87,ti87,t88,ti88,t90,ti90,map_at_l,map_at_i,Zh,add_one_mul_cast,mul_cast] <;> exact rfl) ?_) | (first | (refine st_g0 rfl rfl rfl (by simp only [St.put,Za,Zb] <;> exact rfl) ?_) | (refine st_gu rfl rfl rfl (by simp only [St.put,Za,Zb] <;> exact rfl) ?_))))
            iterate 2 (all_goals refine st_op rfl (by simp (disch := omega) only [stepf,callOf,qop,fop,St.ev,St.put,cd,zd,Value.oneCell',tb_T,TypeDesc.aggB,getD_0,getD_s,Ze,Zd,Zc,Za,Zb,Zr,ZE,ZF,Zf,Zq,Zg,i64_w,Zt,Zs,qFieldAddr,fieldOf,Zl,Zo,Zv,Zw,Zj,Zk,Zx,Zy,qLoad,bload,pload,pureAll,D.pure?,ZC,ZD,qBin,iop,t1,ti1,t3,ti3,t4,ti4,t5,ti5,t24,ti24,t26,ti26,t35,ti35,t40,ti40,t58,ti58,t60,ti60,t69,ti69,t71,ti71,t75,ti75,t77,ti77,t87,ti87,t88,ti88,t90,ti90,map_at_l,map_at_i,Zh,add_one_mul_cast,mul_cast] <;> exact rfl) ?_)
            iterate 10 (all_goals first | (refine st_g1 rfl rfl rfl (by simp (disch := omega) only [stepf,callOf,qop,fop,St.ev,St.put,cd,zd,Value.oneCell',tb_T,TypeDesc.aggB,getD_0,getD_s,Ze,Zd,Zc,Za,Zb,Zr,ZE,ZF,Zf,Zq,Zg,i64_w,Zt,Zs,qFieldAddr,fieldOf,Zl,Zo,Zv,Zw,Zj,Zk,Zx,Zy,qLoad,bload,pload,pureAll,D.pure?,ZC,ZD,qBin,iop,t1,ti1,t3,ti3,t4,ti4,t5,ti5,t24,ti24,t26,ti26,t35,ti35,t40,ti40,t58,ti58,t60,ti60,t69,ti69,t71,ti71,t75,ti75,t77,ti77,t87,ti87,t88,ti88,t90,ti90,map_at_l,map_at_i,Zh,add_one_mul_cast,mul_cast] <;> exact rfl) ?_) | (first | (refine st_g0 rfl rfl rfl (by simp only [St.put,Za,Zb] <;> exact rfl) ?_) | (refine st_gu rfl rfl rfl (by simp only [St.put,Za,Zb] <;> exact rfl) ?_)) | (refine st_split rfl rfl rfl (by simp only [Za,Zb] <;> exact rfl) (by simp only [Za,Zb] <;> exact rfl) (fun hg => ?_) (fun hg => ?_) <;> (try simp only [Zp,Zi,ZJ,ZK,ne_eq,Zn,Zm,Bool.not_eq_true,Zu] at hg) <;> first | (refine st_g1 rfl rfl rfl (by simp (disch := omega) only [stepf,callOf,qop,fop,St.ev,St.put,cd,zd,Value.oneCell',tb_T,TypeDesc.aggB,getD_0,getD_s,Ze,Zd,Zc,Za,Zb,Zr,ZE,ZF,Zf,Zq,Zg,i64_w,Zt,Zs,qFieldAddr,fieldOf,Zl,Zo,Zv,Zw,Zj,Zk,Zx,Zy,qLoad,bload,pload,pureAll,D.pure?,ZC,ZD,qBin,iop,t1,ti1,t3,ti3,t4,ti4,t5,ti5,t24,ti24,t26,ti26,t35,ti35,t40,ti40,t58,ti58,t60,ti60,t69,ti69,t71,ti71,t75,ti75,t77,ti77,t87,ti87,t88,ti88,t90,ti90,map_at_l,map_at_i,Zh,add_one_mul_cast,mul_cast] <;> exact rfl) ?_) | (first | (refine st_g0 rfl rfl rfl (by simp only [St.put,Za,Zb] <;> exact rfl) ?_) | (refine st_gu rfl rfl rfl (by simp only [St.put,Za,Zb] <;> exact rfl) ?_))))
            (all_goals refine st_op rfl (by simp (disch := omega) only [stepf,callOf,qop,fop,St.ev,St.put,cd,zd,Value.oneCell',tb_T,TypeDesc.aggB,getD_0,getD_s,Ze,Zd,Zc,Za,Zb,Zr,ZE,ZF,Zf,Zq,Zg,i64_w,Zt,Zs,qFieldAddr,fieldOf,Zl,Zo,Zv,Zw,Zj,Zk,Zx,Zy,qLoad,bload,pload,pureAll,D.pure?,ZC,ZD,qBin,iop,t1,ti1,t3,ti3,t4,ti4,t5,ti5,t24,ti24,t26,ti26,t35,ti35,t40,ti40,t58,ti58,t60,ti60,t69,ti69,t71,ti71,t75,ti75,t77,ti77,t87,ti87,t88,ti88,t90,ti90,map_at_l,map_at_i,Zh,add_one_mul_cast,mul_cast] <;> exact rfl) ?_)
            all_goals refine aops_nil ?_
            all_goals refine ⟨rfl, ?_, leB_self _, leV_self _, rfl, rfl⟩
            all_goals repeat' (first | exact leL_nil | refine leL_a ?_ | refine leL_r rfl ?_ | refine leL_r ?_ ?_)
            all_goals refine jn ?_
            all_goals ((try simp only [Zp,Zi,ZJ,ZK,Bool.not_eq_true,Zm,Zn,ne_eq,Zf,true_iff,false_iff,iff_true,iff_false] at *) <;> omega)
          refine exq_n ?_
          refine aw_cond _ rfl (fun hc4 => ?_) (fun hc4 => ?_)
          · try simp only [Zp,Zi,ZK,ZJ,ne_eq,Zn,Zm,ZB,ZA,ZI,not_or,not_and,Zu] at hc4
            refine aw_regK hX hb [0, 1, 2, 3, 4, 5, 6] rfl (σ' := ?s15) (fun K hK => ?h15) ?n15
            case h15 =>
              iterate 4 (refine st_op rfl (by simp (disch := omega) only [stepf,callOf,qop,fop,St.ev,St.put,cd,zd,Value.oneCell',tb_T,TypeDesc.aggB,getD_0,getD_s,Ze,Zd,Zc,Za,Zb,Zr,ZE,ZF,Zf,Zq,Zg,i64_w,Zt,Zs,qFieldAddr,fieldOf,Zl,Zo,Zv,Zw,Zj,Zk,Zx,Zy,qLoad,bload,pload,pureAll,D.pure?,ZC,ZD,pvAll,D.pv?,t1,ti1,t3,ti3,t5,ti5,t22,ti22,t24,ti24,t26,ti26,t50,ti50,t58,ti58,t60,ti60,t69,ti69,map_at_l,map_at_i,Zh,add_one_mul_cast,mul_cast] <;> exact rfl) ?_)
              refine st_call rfl (by simp only [callOf,St.ev,getD_0,getD_s,pvAll,D.pv?,ZG,ZH,zd,cd,Value.oneCell',Zr] <;> exact rfl) (acK hP (c69 l F i (by omega) (by omega) (by omega))) (by simp only [St.put,Za,Zb] <;> exact rfl) ?_
              refine st_call rfl (by simp only [callOf,St.ev,getD_0,getD_s,pvAll,D.pv?,ZG,ZH,zd,cd,Value.oneCell',Zr] <;> exact rfl) (acK hP (c62 _ (by rw [secAt, List.length_take]; omega))) (by simp only [St.put,Za,Zb] <;> exact rfl) ?_
              (refine st_op rfl (by simp (disch := omega) only [stepf,callOf,qop,fop,St.ev,St.put,cd,zd,Value.oneCell',tb_T,TypeDesc.aggB,getD_0,getD_s,Ze,Zd,Zc,Za,Zb,Zr,ZE,ZF,Zf,Zq,Zg,i64_w,Zt,Zs,qFieldAddr,fieldOf,Zl,Zo,Zv,Zw,Zj,Zk,Zx,Zy,qLoad,bload,pload,pureAll,D.pure?,ZC,ZD,pvAll,D.pv?,t1,ti1,t3,ti3,t5,ti5,t22,ti22,t24,ti24,t26,ti26,t50,ti50,t58,ti58,t60,ti60,t69,ti69,map_at_l,map_at_i,Zh,add_one_mul_cast,mul_cast] <;> exact rfl) ?_)
              refine aops_nil ?_
              exact hK
            refine exq_n ?_
            refine aw_regK hX hb [0, 1, 2, 3, 4] rfl (σ' := ?s16) (fun K hK => ?h16) ?n16
            case h16 =>
              iterate 5 (refine st_op rfl (by simp (disch := omega) only [stepf,callOf,qop,fop,St.ev,St.put,cd,zd,Value.oneCell',tb_T,TypeDesc.aggB,getD_0,getD_s,Ze,Zd,Zc,Za,Zb,Zr,ZE,ZF,Zf,Zq,Zg,i64_w,Zt,Zs,tb_N,tbO_N,tbW_N,tb_O,fBuildSlice,catCells,D.cells?,D.pure?,range_1,range_2,range_3,range_4,range_5,ZG,ZH,ZL,ZM,ZN,Zl,Zo,sec8_length,Nat.reduceAdd,Nat.reduceMul,fAppend,appV,St.demote,D.demote,St.setVec,Zh,List.length_append,ZC,Nat.mul_one,reduceIte,t1,ti1,t58,ti58,t60,ti60,map_at_l,map_at_i,add_one_mul_cast,mul_cast] <;> exact rfl) ?_)
              refine aops_nil ?_
              exact hK
            refine exb_n ?_
            refine exq_n ?_
            refine aw_regK hX hb [0, 1, 2] rfl (σ' := ?s17) (fun K hK => ?h17) ?n17
            case h17 =>
              iterate 3 (refine st_op rfl (by simp (disch := omega) only [stepf,callOf,qop,fop,St.ev,St.put,cd,zd,Value.oneCell',tb_T,TypeDesc.aggB,getD_0,getD_s,Ze,Zd,Zc,Za,Zb,Zr,ZE,ZF,Zf,Zq,Zg,i64_w,Zt,Zs,qBin,iop,t1,ti1,t3,ti3,t58,ti58,map_at_l,map_at_i,Zh,add_one_mul_cast,mul_cast] <;> exact rfl) ?_)
              refine aops_nil ?_
              exact hK
            refine exq_n ?_
            exact ⟨(i + 1, ds ++ [updV l F (lv.getD 0 []) es ec i]), by exact ⟨by dsimp only; omega, by dsimp only; rw [hds]; exact (range_map_take (updV l F (lv.getD 0 []) es ec) _ i (by omega)).symm⟩, by (try dsimp only); omega, wk_le ⟨rfl, leL_a (leL_r (by first | rfl | (first | (dsimp only; rw [show updV l F (lv.getD 0 []) es ec i = secsD (secAt l F i) from if_pos hc4]; simp) | (dsimp only; rw [show updV l F (lv.getD 0 []) es ec i = (lv.getD 0 []).getD i 0 from if_neg (by omega)]; simp))) (leL_a (leL_r (by first | rfl | (first | (dsimp only; rw [show updV l F (lv.getD 0 []) es ec i = secsD (secAt l F i) from if_pos hc4]; simp) | (dsimp only; rw [show updV l F (lv.getD 0 []) es ec i = (lv.getD 0 []).getD i 0 from if_neg (by omega)]; simp))) (leL_a (leL_r (by first | rfl | (first | (dsimp only; rw [show updV l F (lv.getD 0 []) es ec i = secsD (secAt l F i) from if_pos hc4]; simp) | (dsimp only; rw [show updV l F (lv.getD 0 []) es ec i = (lv.getD 0 []).getD i 0 from if_neg (by omega)]; simp))) (leL_r (by first | rfl | (first | (dsimp only; rw [show updV l F (lv.getD 0 []) es ec i = secsD (secAt l F i) from if_pos hc4]; simp) | (dsimp only; rw [show updV l F (lv.getD 0 []) es ec i = (lv.getD 0 []).getD i 0 from if_neg (by omega)]; simp))) (leL_r (by first | rfl | (first | (dsimp only; rw [show updV l F (lv.getD 0 []) es ec i = secsD (secAt l F i) from if_pos hc4]; simp) | (dsimp only; rw [show updV l F (lv.getD 0 []) es ec i = (lv.getD 0 []).getD i 0 from if_neg (by omega)]; simp))) (leL_a (leL_r (by first | rfl | (first | (dsimp only; rw [show updV l F (lv.getD 0 []) es ec i = secsD (secAt l F i) from if_pos hc4]; simp) | (dsimp only; rw [show updV l F (lv.getD 0 []) es ec i = (lv.getD 0 []).getD i 0 from if_neg (by omega)]; simp))) (leL_r (by first | rfl | (first | (dsimp only; rw [show updV l F (lv.getD 0 []) es ec i = secsD (secAt l F i) from if_pos hc4]; simp) | (dsimp only; rw [show updV l F (lv.getD 0 []) es ec i = (lv.getD 0 []).getD i 0 from if_neg (by omega)]; simp))) (leL_a (leL_a (leL_a (leL_a (leL_a (leL_a (leL_a (leL_a (leL_a (leL_a (leL_a (leL_a (leL_a (leL_a (leL_a (leL_a (leL_a (leL_a (leL_a (leL_a (leL_a (leL_a (leL_a (leL_a (leL_a (leL_a (leL_a (leL_a (leL_a (leL_a (leL_a (leL_a (leL_a (leL_a (leL_a (leL_a (leL_a (leL_a (leL_a (leL_a (leL_a (leL_a (leL_a (leL_a (leL_a (leL_a (leL_a (leL_a (leL_a (leL_a (leL_a (leL_a (leL_a (leL_a (leL_a (leL_a (leL_a (leL_a (leL_a (leL_a (leL_a (leL_a (leL_a (leL_a (leL_a (leL_a (leL_a (leL_a (leL_a (leL_a (leL_a (leL_a (leL_a (leL_a (leL_a (leL_a (leL_a (leL_a (leL_a (leL_a (leL_a (leL_a (leL_a (leL_a (leL_a (leL_a (leL_a (leL_a (leL_a (leL_a (leL_a (leL_a (leL_a (leL_a (leL_a (leL_a (leL_nil))))))))))))))))))))))))))))))))))))))))))))))))))))))))))))))))))))))))))))))))))))))))))))))))))))))))))), (leB_r rfl (leL_r (by first | rfl | (first | (dsimp only; rw [show updV l F (lv.getD 0 []) es ec i = secsD (secAt l F i) from if_pos hc4]; simp) | (dsimp only; rw [show updV l F (lv.getD 0 []) es ec i = (lv.getD 0 []).getD i 0 from if_neg (by omega)]; simp))) (leL_r (by first | rfl | (first | (dsimp only; rw [show updV l F (lv.getD 0 []) es ec i = secsD (secAt l F i) from if_pos hc4]; simp) | (dsimp only; rw [show updV l F (lv.getD 0 []) es ec i = (lv.getD 0 []).getD i 0 from if_neg (by omega)]; simp))) (leL_r (by first | rfl | (first | (dsimp only; rw [show updV l F (lv.getD 0 []) es ec i = secsD (secAt l F i) from if_pos hc4]; simp) | (dsimp only; rw [show updV l F (lv.getD 0 []) es ec i = (lv.getD 0 []).getD i 0 from if_neg (by omega)]; simp))) (leL_nil)))) (leB_r rfl (leL_r (by first | rfl | (first | (dsimp only; rw [show updV l F (lv.getD 0 []) es ec i = secsD (secAt l F i) from if_pos hc4]; simp) | (dsimp only; rw [show updV l F (lv.getD 0 []) es ec i = (lv.getD 0 []).getD i 0 from if_neg (by omega)]; simp))) (leL_r (by first | rfl | (first | (dsimp only; rw [show updV l F (lv.getD 0 []) es ec i = secsD (secAt l F i) from if_pos hc4]; simp) | (dsimp only; rw [show updV l F (lv.getD 0 []) es ec i = (lv.getD 0 []).getD i 0 from if_neg (by omega)]; simp))) (leL_nil))) (leB_r rfl (leL_r (by first | rfl | (first | (dsimp only; rw [show updV l F (lv.getD 0 []) es ec i = secsD (secAt l F i) from if_pos hc4]; simp) | (dsimp only; rw [show updV l F (lv.getD 0 []) es ec i = (lv.getD 0 []).getD i 0 from if_neg (by omega)]; simp))) (leL_r (by first | rfl | (first | (dsimp only; rw [show updV l F (lv.getD 0 []) es ec i = secsD (secAt l F i) from if_pos hc4]; simp) | (dsimp only; rw [show updV l F (lv.getD 0 []) es ec i = (lv.getD 0 []).getD i 0 from if_neg (by omega)]; simp))) (leL_r (by first | rfl | (first | (dsimp only; rw [show updV l F (lv.getD 0 []) es ec i = secsD (secAt l F i) from if_pos hc4]; simp) | (dsimp only; rw [show updV l F (lv.getD 0 []) es ec i = (lv.getD 0 []).getD i 0 from if_neg (by omega)]; simp))) (leL_nil)))) (leB_nil _)))), (leV_r (by first | rfl | (first | (dsimp only; rw [show updV l F (lv.getD 0 []) es ec i = secsD (secAt l F i) from if_pos hc4]; simp) | (dsimp only; rw [show updV l F (lv.getD 0 []) es ec i = (lv.getD 0 []).getD i 0 from if_neg (by omega)]; simp))) (leV_nil _)), rfl, rfl⟩⟩
          · try simp only [Zp,Zi,ZK,ZJ,ne_eq,Zn,Zm,ZB,ZA,ZI,not_or,not_and,Zu] at hc4
            refine aw_skip ?_
            refine exq_n ?_
            refine aw_regK hX hb [0, 1, 2, 3, 4] rfl (σ' := ?s18) (fun K hK => ?h18) ?n18
            case h18 =>
              iterate 5 (refine st_op rfl (by simp (disch := omega) only [stepf,callOf,qop,fop,St.ev,St.put,cd,zd,Value.oneCell',tb_T,TypeDesc.aggB,getD_0,getD_s,Ze,Zd,Zc,Za,Zb,Zr,ZE,ZF,Zf,Zq,Zg,i64_w,Zt,Zs,tb_N,tbO_N,tbW_N,tb_O,fBuildSlice,catCells,D.cells?,D.pure?,range_1,range_2,range_3,range_4,range_5,ZG,ZH,ZL,ZM,ZN,Zl,Zo,sec8_length,Nat.reduceAdd,Nat.reduceMul,fAppend,appV,St.demote,D.demote,St.setVec,Zh,List.length_append,ZC,Nat.mul_one,reduceIte,t1,ti1,t58,ti58,t60,ti60,map_at_l,map_at_i,add_one_mul_cast,mul_cast] <;> exact rfl) ?_)
              refine aops_nil ?_
              exact hK
            refine exb_n ?_
            refine exq_n ?_
            refine aw_regK hX hb [0, 1, 2] rfl (σ' := ?s19) (fun K hK => ?h19) ?n19
            case h19 =>
              iterate 3 (refine st_op rfl (by simp (disch := omega) only [stepf,callOf,qop,fop,St.ev,St.put,cd,zd,Value.oneCell',tb_T,TypeDesc.aggB,getD_0,getD_s,Ze,Zd,Zc,Za,Zb,Zr,ZE,ZF,Zf,Zq,Zg,i64_w,Zt,Zs,qBin,iop,t1,ti1,t3,ti3,t58,ti58,map_at_l,map_at_i,Zh,add_one_mul_cast,mul_cast] <;> exact rfl) ?_)
              refine aops_nil ?_
              exact hK
            refine exq_n ?_
            exact ⟨(i + 1, ds ++ [updV l F (lv.getD 0 []) es ec i]), by exact ⟨by dsimp only; omega, by dsimp only; rw [hds]; exact (range_map_take (updV l F (lv.getD 0 []) es ec) _ i (by omega)).symm⟩, by (try dsimp only); omega, wk_le ⟨rfl, leL_a (leL_r (by first | rfl | (first | (dsimp only; rw [show updV l F (lv.getD 0 []) es ec i = secsD (secAt l F i) from if_pos hc4]; simp) | (dsimp only; rw [show updV l F (lv.getD 0 []) es ec i = (lv.getD 0 []).getD i 0 from if_neg (by omega)]; simp))) (leL_a (leL_r (by first | rfl | (first | (dsimp only; rw [show updV l F (lv.getD 0 []) es ec i = secsD (secAt l F i) from if_pos hc4]; simp) | (dsimp only; rw [show updV l F (lv.getD 0 []) es ec i = (lv.getD 0 []).getD i 0 from if_neg (by omega)]; simp))) (leL_a (leL_r (by first | rfl | (first | (dsimp only; rw [show updV l F (lv.getD 0 []) es ec i = secsD (secAt l F i) from if_pos hc4]; simp) | (dsimp only; rw [show updV l F (lv.getD 0 []) es ec i = (lv.getD 0 []).getD i 0 from if_neg (by omega)]; simp))) (leL_r (by first | rfl | (first | (dsimp only; rw [show updV l F (lv.getD 0 []) es ec i = secsD (secAt l F i) from if_pos hc4]; simp) | (dsimp only; rw [show updV l F (lv.getD 0 []) es ec i = (lv.getD 0 []).getD i 0 from if_neg (by omega)]; simp))) (leL_r (by first | rfl | (first | (dsimp only; rw [show updV l F (lv.getD 0 []) es ec i = secsD (secAt l F i) from if_pos hc4]; simp) | (dsimp only; rw [show updV l F (lv.getD 0 []) es ec i = (lv.getD 0 []).getD i 0 from if_neg (by omega)]; simp))) (leL_a (leL_r (by first | rfl | (first | (dsimp only; rw [show updV l F (lv.getD 0 []) es ec i = secsD (secAt l F i) from if_pos hc4]; simp) | (dsimp only; rw [show updV l F (lv.getD 0 []) es ec i = (lv.getD 0 []).getD i 0 from if_neg (by omega)]; simp))) (leL_r (by first | rfl | (first | (dsimp only; rw [show updV l F (lv.getD 0 []) es ec i = secsD (secAt l F i) from if_pos hc4]; simp) | (dsimp only; rw [show updV l F (lv.getD 0 []) es ec i = (lv.getD 0 []).getD i 0 from if_neg (by omega)]; simp))) (leL_a (leL_a (leL_a (leL_a (leL_a (leL_a (leL_a (leL_a (leL_a (leL_a (leL_a (leL_a (leL_a (leL_a (leL_a (leL_a (leL_a (leL_a (leL_a (leL_a (leL_a (leL_a (leL_a (leL_a (leL_a (leL_a (leL_a (leL_a (leL_a (leL_a (leL_a (leL_a (leL_a (leL_a (leL_a (leL_a (leL_a (leL_a (leL_a (leL_a (leL_a (leL_a (leL_a (leL_a (leL_a (leL_a (leL_a (leL_a (leL_a (leL_a (leL_a (leL_a (leL_a (leL_a (leL_a (leL_a (leL_a (leL_a (leL_a (leL_a (leL_a (leL_a (leL_a (leL_a (leL_a (leL_a (leL_a (leL_a (leL_a (leL_a (leL_a (leL_a (leL_a (leL_a (leL_a (leL_a (leL_a (leL_a (leL_a (leL_a (leL_a (leL_a (leL_a (leL_a (leL_a (leL_a (leL_a (leL_a (leL_a (leL_a (leL_a (leL_a (leL_a (leL_a (leL_a (leL_a (leL_nil))))))))))))))))))))))))))))))))))))))))))))))))))))))))))))))))))))))))))))))))))))))))))))))))))))))))))), (leB_r rfl (leL_r (by first | rfl | (first | (dsimp only; rw [show updV l F (lv.getD 0 []) es ec i = secsD (secAt l F i) from if_pos hc4]; simp) | (dsimp only; rw [show updV l F (lv.getD 0 []) es ec i = (lv.getD 0 []).getD i 0 from if_neg (by omega)]; simp))) (leL_r (by first | rfl | (first | (dsimp only; rw [show updV l F (lv.getD 0 []) es ec i = secsD (secAt l F i) from if_pos hc4]; simp) | (dsimp only; rw [show updV l F (lv.getD 0 []) es ec i = (lv.getD 0 []).getD i 0 from if_neg (by omega)]; simp))) (leL_r (by first | rfl | (first | (dsimp only; rw [show updV l F (lv.getD 0 []) es ec i = secsD (secAt l F i) from if_pos hc4]; simp) | (dsimp only; rw [show updV l F (lv.getD 0 []) es ec i = (lv.getD 0 []).getD i 0 from if_neg (by omega)]; simp))) (leL_nil)))) (leB_r rfl (leL_r (by first | rfl | (first | (dsimp only; rw [show updV l F (lv.getD 0 []) es ec i = secsD (secAt l F i) from if_pos hc4]; simp) | (dsimp only; rw [show updV l F (lv.getD 0 []) es ec i = (lv.getD 0 []).getD i 0 from if_neg (by omega)]; simp))) (leL_r (by first | rfl | (first | (dsimp only; rw [show updV l F (lv.getD 0 []) es ec i = secsD (secAt l F i) from if_pos hc4]; simp) | (dsimp only; rw [show updV l F (lv.getD 0 []) es ec i = (lv.getD 0 []).getD i 0 from if_neg (by omega)]; simp))) (leL_nil))) (leB_r rfl (leL_r (by first | rfl | (first | (dsimp only; rw [show updV l F (lv.getD 0 []) es ec i = secsD (secAt l F i) from if_pos hc4]; simp) | (dsimp only; rw [show updV l F (lv.getD 0 []) es ec i = (lv.getD 0 []).getD i 0 from if_neg (by omega)]; simp))) (leL_r (by first | rfl | (first | (dsimp only; rw [show updV l F (lv.getD 0 []) es ec i = secsD (secAt l F i) from if_pos hc4]; simp) | (dsimp only; rw [show updV l F (lv.getD 0 []) es ec i = (lv.getD 0 []).getD i 0 from if_neg (by omega)]; simp))) (leL_r (by first | rfl | (first | (dsimp only; rw [show updV l F (lv.getD 0 []) es ec i = secsD (secAt l F i) from if_pos hc4]; simp) | (dsimp only; rw [show updV l F (lv.getD 0 []) es ec i = (lv.getD 0 []).getD i 0 from if_neg (by omega)]; simp))) (leL_nil)))) (leB_nil _)))), (leV_r (by first | rfl | (first | (dsimp only; rw [show updV l F (lv.getD 0 []) es ec i = secsD (secAt l F i) from if_pos hc4]; simp) | (dsimp only; rw [show updV l F (lv.getD 0 []) es ec i = (lv.getD 0 []).getD i 0 from if_neg (by omega)]; simp))) (leV_nil _)), rfl, rfl⟩⟩
        · try simp only [Zp,Zi,ZK,ZJ,ne_eq,Zn,Zm,ZB,ZA,ZI,not_or,not_and,Zu] at hc3
          refine aw_exit ?_
          refine exq_e ?_
          refine exq_e ?_
          refine exb_h ?_
          refine exq_n ?_
          refine aw_seq ?_
          refine aw_frz 0 rfl (σ' := ?s21) ?h21 ?n21
          case h21 => simp only [St.freeze,D.freeze,ZG,ZH,Za,Zb,Zr,reduceIte,Nat.reduceEqDiff]; exact rfl
          refine aw_regK hX hb [0, 1, 2, 3, 4, 5, 6, 7] rfl (σ' := ?s20) (fun K hK => ?h20) ?n20
          case h20 =>
            iterate 5 (refine st_op rfl (by simp (disch := omega) only [stepf,callOf,qop,fop,St.ev,St.put,cd,zd,Value.oneCell',tb_T,TypeDesc.aggB,getD_0,getD_s,Ze,Zd,Zc,Za,Zb,Zr,ZE,ZF,Zf,Zq,Zg,i64_w,Zt,Zs,qFieldAddr,fieldOf,Zl,Zo,Zv,Zw,Zj,Zk,Zx,Zy,qLoad,bload,pload,pureAll,D.pure?,ZC,ZD,pvAll,D.pv?,fStore,D.boxCells,D.live,D.cells?,ZM,ZL,ZN,ZG,ZH,St.setVec,t1,ti1,t3,ti3,t24,ti24,t26,ti26,t58,ti58,t60,ti60,t101,ti101,map_at_l,map_at_i,Zh,add_one_mul_cast,mul_cast] <;> exact rfl) ?_)
            refine st_call rfl (by simp only [callOf,St.ev,getD_0,getD_s,pvAll,D.pv?,ZG,ZH,zd,cd,Value.oneCell',Zr] <;> exact rfl) (acK hP (c70 S F ds (by omega))) (by simp only [St.put,Za,Zb] <;> exact rfl) ?_
            iterate 2 (refine st_op rfl (by simp (disch := omega) only [stepf,callOf,qop,fop,St.ev,St.put,cd,zd,Value.oneCell',tb_T,TypeDesc.aggB,getD_0,getD_s,Ze,Zd,Zc,Za,Zb,Zr,ZE,ZF,Zf,Zq,Zg,i64_w,Zt,Zs,qFieldAddr,fieldOf,Zl,Zo,Zv,Zw,Zj,Zk,Zx,Zy,qLoad,bload,pload,pureAll,D.pure?,ZC,ZD,pvAll,D.pv?,fStore,D.boxCells,D.live,D.cells?,ZM,ZL,ZN,ZG,ZH,St.setVec,t1,ti1,t3,ti3,t24,ti24,t26,ti26,t58,ti58,t60,ti60,t101,ti101,map_at_l,map_at_i,Zh,add_one_mul_cast,mul_cast] <;> exact rfl) ?_)
            refine aops_nil ?_
            exact hK
          refine exq_n ?_
          refine aw_ret ?_
          exact ret_r rfl (resOf_two (by simp only [resVal,qLoad,bload,tb_T,TypeDesc.aggB,pureAll,D.pure?,D.pv?,getD_0,getD_s,Zd,Zc,Zw,Zk,Zv,Zj,Zx,Zl,Zo,Zr,reduceIte,Nat.reduceAdd,Nat.reduceLeDiff,Zg,Zf,t3,ti3,t24,ti24,t26,ti26,t58,ti58,t60,ti60] <;> exact rfl) rfl (by first | rfl | (first | (rw [refUpd_e hc0]; rfl) | (rw [refUpd_6 hc0 (show (l.length : Int) ≠ (S : Int) by omega)]; rfl) | (rw [refUpd_2 hc0 (show (l.length : Int) = (S : Int) by omega) hc2]; rfl) | (rw [refUpd_0 hc0 (show (l.length : Int) = (S : Int) by omega) (by dsimp only; omega), hds, List.take_of_length_le (by rw [updL, List.length_map, List.length_range]; omega)]; rfl))))
end Go.Proofs.Ytldcoekbgfaomaa
end
section
namespace Go.Proofs.Ytldcoekbgfaomaa
def nodeSame (a b : List (List Int)) (k i : Nat) : Prop := (a.getD k []).length ≤ i ∨ (a.getD k []).getD i 0 = (b.getD k []).getD i 0
instance (a b : List (List Int)) (k i : Nat) : Decidable (nodeSame a b k i) := by unfold nodeSame; infer_instance
def foundL (a b : List (List Int)) : Nat → Nat → List Int
  | 0, i => if nodeSame a b 0 i then [] else [(i : Int)]
  | k + 1, i => if nodeSame a b (k + 1) i then [] else foundL a b k (2 * i) ++ foundL a b k (2 * i + 1)
/-- Two lists of levels with rows of the same lengths. -/
structure Alike (a b : List (List Int)) : Prop where
  len : a.length = b.length
  row : ∀ k, (a.getD k []).length = (b.getD k []).length
  small : ∀ k, (a.getD k []).length ≤ 4096
  few : a.length ≤ 40
/-- One leaf more. -/
def extStep (S F : Nat) (out : List (Int × Int)) (x : Int) : List (Int × Int) :=
  let e : Int × Int := (x * F, min (S : Int) (x * F + F) - x * F)
  if 0 < out.length ∧ (out.getD (out.length - 1) (0, 0)).1 + (out.getD (out.length - 1) (0, 0)).2 = e.1 then
    out.take (out.length - 1) ++ [((out.getD (out.length - 1) (0, 0)).1, (out.getD (out.length - 1) (0, 0)).2 + e.2)]
  else out ++ [e]
def refExt (S F : Nat) (l : List Int) : List (Int × Int) := l.foldl (extStep S F) []
/-- What the extents so far may be. -/
def ExtSmall (n : Nat) (out : List (Int × Int)) : Prop := out.length ≤ n ∧ ∀ e ∈ out, 0 ≤ e.1 ∧ e.1 ≤ 4096 ∧ 0 ≤ e.2 ∧ e.2 ≤ 4096 * n
end Go.Proofs.Ytldcoekbgfaomaa
end
section
namespace Go.Proofs.Ytldcoekbgfaomaa
theorem extStep_t {S F : Nat} {out : List (Int × Int)} {x : Int} (h : 0 < out.length ∧ (out.getD (out.length - 1) (0, 0)).1 + (out.getD (out.length - 1) (0, 0)).2 = x * F) :
    extStep S F out x = out.take (out.length - 1) ++ [((out.getD (out.length - 1) (0, 0)).1, (out.getD (out.length - 1) (0, 0)).2 + (min (S : Int) (x * F + F) - x * F))] := if_pos h
theorem extStep_f {S F : Nat} {out : List (Int × Int)} {x : Int} (h : ¬ (0 < out.length ∧ (out.getD (out.length - 1) (0, 0)).1 + (out.getD (out.length - 1) (0, 0)).2 = x * F)) :
    extStep S F out x = out ++ [(x * F, min (S : Int) (x * F + F) - x * F)] := if_neg h
theorem ExtSmall.step {n S F : Nat} {out : List (Int × Int)} {x : Int} (h : ExtSmall n out) (h0 : 0 ≤ x * (F : Int)) (h1 : x * (F : Int) < S) (hS : S ≤ 4096) : ExtSmall (n + 1) (extStep S F out x) := by
  obtain ⟨q1, q2⟩ := h
  by_cases hc : 0 < out.length ∧ (out.getD (out.length - 1) (0, 0)).1 + (out.getD (out.length - 1) (0, 0)).2 = x * F
  · rw [extStep_t hc]
    have hl := q2 _ (getD_mem out (0, 0) (out.length - 1) (by omega))
    refine ⟨by simp; omega, fun e he => ?_⟩
    rcases List.mem_append.1 he with he | he
    · have := q2 e (List.mem_of_mem_take he)
      omega
    · simp only [List.mem_singleton] at he
      subst he
      dsimp only
      omega
  · rw [extStep_f hc]
    refine ⟨by simp; omega, fun e he => ?_⟩
    rcases List.mem_append.1 he with he | he
    · have := q2 e he
      omega
    · simp only [List.mem_singleton] at he
      subst he
      dsimp only
      omega
theorem tmod_two (i : Nat) : (i : Int).tmod 2 = ((i % 2 : Nat) : Int) := by
  rw [Int.tmod_eq_emod_of_nonneg (by omega)]; omega
theorem not_two_zero : ((2 : Int) = 0) = False := by simp
end Go.Proofs.Ytldcoekbgfaomaa
end
section
namespace Go.Proofs.Ytldcoekbgfaomaa
open Go.RowKit
set_option maxRecDepth 20000
set_option maxHeartbeats 4000000
attribute [local irreducible] AOps AOpsD AW
theorem c78 (i n : Nat) (hi : i ≤ 4294967296) : ACalls Try.prog 78 [.p (i64 i), .p (i64 n)] (.tup [.p (i64 (if i % 2 = 1 then (i - 1 : Nat) else (i + 1 : Nat))), .p (bv (decide (i % 2 = 1 ∨ i + 1 < n)))]) := by
  refine acalls_of tb_ok Try.func78 (c := _) rfl (by kernel_rfl) ?_
  intro X hP hX hro hpl
  have hb : tb.Ok X.P := hP ▸ tb_ok
  change AW X _ _ ⟨[], [.p (i64 i), .p (i64 n), .any, .any, .any, .any, .any, .any, .any, .any, .any, .any, .any, .any, .any, .any, .any], [], []⟩
  refine aw_seq ?_
  refine aw_regK hX hb [0, 1] rfl (σ' := ?s1) (fun K hK => ?h1) ?n1
  case h1 =>
    iterate 2 (refine st_op rfl (by simp (disch := omega) only [stepf,callOf,qop,fop,St.ev,St.put,cd,zd,Value.oneCell',tb_T,TypeDesc.aggB,getD_0,getD_s,Ze,Zd,Zc,Za,Zb,Zr,ZE,ZF,Zf,Zq,Zg,i64_w,Zt,Zs,ne_eq,not_true_eq_false,not_false_eq_true,tmod_two,not_two_zero] <;> exact rfl) ?_)
    refine aops_nil ?_
    exact hK
  refine exq_n ?_
  refine aw_seq ?_
  refine aw_seq ?_
  refine aw_regK hX hb [0, 1, 2] rfl (σ' := ?s2) (fun K hK => ?h2) ?n2
  case h2 =>
    iterate 3 (refine st_op rfl (by simp (disch := omega) only [stepf,callOf,qop,fop,St.ev,St.put,cd,zd,Value.oneCell',tb_T,TypeDesc.aggB,getD_0,getD_s,Ze,Zd,Zc,Za,Zb,Zr,ZE,ZF,Zf,Zq,Zg,i64_w,Zt,Zs,qBin,iop,t1,ti1,t2,ti2,t3,ti3,ne_eq,not_true_eq_false,not_false_eq_true,tmod_two,not_two_zero] <;> exact rfl) ?_)
    refine aops_nil ?_
    exact hK
  refine exq_n ?_
  refine aw_cond _ rfl (fun hc0 => ?_) (fun hc0 => ?_)
  · try simp only [Zp,Zi,ZK,ZJ,ne_eq,Zn,Zm,ZB,ZA,ZI,not_or,not_and,Zu] at hc0
    refine aw_seq ?_
    refine aw_regK hX hb [0, 1, 2, 3] rfl (σ' := ?s3) (fun K hK => ?h3) ?n3
    case h3 =>
      iterate 4 (refine st_op rfl (by simp (disch := omega) only [stepf,callOf,qop,fop,St.ev,St.put,cd,zd,Value.oneCell',tb_T,TypeDesc.aggB,getD_0,getD_s,Ze,Zd,Zc,Za,Zb,Zr,ZE,ZF,Zf,Zq,Zg,i64_w,Zt,Zs,qBin,iop,t1,ti1,t3,ti3,ne_eq,not_true_eq_false,not_false_eq_true,tmod_two,not_two_zero] <;> exact rfl) ?_)
      refine aops_nil ?_
      exact hK
    refine exq_n ?_
    refine aw_ret ?_
    refine exq_r ?_
    exact ret_r rfl (resOf_two rfl rfl (by first | rfl | (first | ((have h : i % 2 = 1 := by omega); rw [if_pos h, decide_eq_true (Or.inl h : i % 2 = 1 ∨ i + 1 < n), (show ((i - 1 : Nat) : Int) = (i : Int) - 1 by omega)] <;> rfl) | ((have h : ¬ i % 2 = 1 := by omega); rw [if_neg h, (show decide (i % 2 = 1 ∨ i + 1 < n) = decide ((i : Int) + 1 < (n : Int)) from decide_eq_decide.2 (by omega))] <;> rfl))))
  · try simp only [Zp,Zi,ZK,ZJ,ne_eq,Zn,Zm,ZB,ZA,ZI,not_or,not_and,Zu] at hc0
    refine aw_skip ?_
    refine exq_n ?_
    refine aw_seq ?_
    refine aw_regK hX hb [0, 1, 2, 3, 4, 5, 6, 7] rfl (σ' := ?s4) (fun K hK => ?h4) ?n4
    case h4 =>
      iterate 8 (refine st_op rfl (by simp (disch := omega) only [stepf,callOf,qop,fop,St.ev,St.put,cd,zd,Value.oneCell',tb_T,TypeDesc.aggB,getD_0,getD_s,Ze,Zd,Zc,Za,Zb,Zr,ZE,ZF,Zf,Zq,Zg,i64_w,Zt,Zs,qBin,iop,t1,ti1,t3,ti3,ne_eq,not_true_eq_false,not_false_eq_true,tmod_two,not_two_zero] <;> exact rfl) ?_)
      refine aops_nil ?_
      exact hK
    refine exq_n ?_
    refine aw_ret ?_
    exact ret_r rfl (resOf_two rfl rfl (by first | rfl | (first | ((have h : i % 2 = 1 := by omega); rw [if_pos h, decide_eq_true (Or.inl h : i % 2 = 1 ∨ i + 1 < n), (show ((i - 1 : Nat) : Int) = (i : Int) - 1 by omega)] <;> rfl) | ((have h : ¬ i % 2 = 1 := by omega); rw [if_neg h, (show decide (i % 2 = 1 ∨ i + 1 < n) = decide ((i : Int) + 1 < (n : Int)) from decide_eq_decide.2 (by omega))] <;> rfl))))
end Go.Proofs.Ytldcoekbgfaomaa
end
section
namespace Go.Proofs.Ytldcoekbgfaomaa
theorem levelsOf_lens : ∀ (n : Nat) (ra rb : List Int), ra.length ≤ n → ra.length = rb.length → (levelsOf ra).map List.length = (levelsOf rb).map List.length
  | n, ra, rb, hn, he => by
    by_cases h : ra.length ≤ 1
    · rw [levelsOf_one h, levelsOf_one (l := rb) (by omega)]
      simp [he]
    · rw [levelsOf_more h, levelsOf_more (l := rb) (by omega)]
      cases n with
      | zero => omega
      | succ n =>
        have hu := upL_length ra
        have hv := upL_length rb
        simp only [ZG,he]
        rw [levelsOf_lens n (upL ra) (upL rb) (by omega) (by omega)]
theorem levelsOf_small : ∀ (n : Nat) (ra : List Int), ra.length ≤ n → ∀ r ∈ levelsOf ra, r.length ≤ n
  | n, ra, hn, r, hr => by
    by_cases h : ra.length ≤ 1
    · rw [levelsOf_one h] at hr
      simp only [List.mem_singleton] at hr
      subst hr
      exact hn
    · rw [levelsOf_more h] at hr
      have hu := upL_length ra
      cases n with
      | zero => omega
      | succ n =>
        rcases List.mem_cons.1 hr with rfl | hr
        · exact hn
        · have := levelsOf_small n (upL ra) (by omega) r hr
          omega
theorem levelsOf_few : ∀ (m : Nat) (ra : List Int), ra.length ≤ 2 ^ m → (levelsOf ra).length ≤ m + 1
  | m, ra, hm => by
    by_cases h : ra.length ≤ 1
    · rw [levelsOf_one h]; simp
    · rw [levelsOf_more h]
      have hu := upL_length ra
      cases m with
      | zero => simp at hm; omega
      | succ m =>
        have hp : 2 ^ (m + 1) = 2 ^ m * 2 := Nat.pow_succ ..
        have := levelsOf_few m (upL ra) (by omega)
        simp only [Zl]
        omega
theorem getD_len (a : List (List Int)) (k : Nat) : (a.getD k []).length = (a.map List.length).getD k 0 := by
  simp only [List.getD_eq_getElem?_getD,List.getElem?_map]
  cases a[k]? <;> simp
theorem refChk_row {t : Tr} (h : refChk t = 0) : (t.lv.getD 0 []).length = nLeaves t.size.toNat t.leaf.toNat ∧ (t.lv.getD 0 []).length ≤ 4096 := by
  obtain ⟨S, F, hS, hF, q1, q2, q3, q4, q5, q6⟩ := refChk_ok h
  have h1 := (sh_head q5).2
  have h2 := nLeaves_le (s := S) (n := F) q3
  rw [hS, hF]
  exact ⟨h1, by omega⟩
theorem refChk_alike {a b : Tr} (ha : refChk a = 0) (hb : refChk b = 0) (hs : a.size = b.size) (hf : a.leaf = b.leaf) : Alike a.lv b.lv := by
  obtain ⟨_, _, _, _, _, _, _, _, _, q6⟩ := refChk_ok ha
  obtain ⟨_, _, _, _, _, _, _, _, _, r6⟩ := refChk_ok hb
  obtain ⟨h1, h2⟩ := refChk_row ha
  obtain ⟨h3, h4⟩ := refChk_row hb
  have hl := levelsOf_lens _ (a.lv.getD 0 []) (b.lv.getD 0 []) (Nat.le_refl _) (by rw [h1, h3, hs, hf])
  rw [q6, r6] at hl
  refine ⟨by simpa using congrArg List.length hl, fun k => by rw [getD_len, getD_len, hl], fun k => ?_, ?_⟩
  · by_cases hk : k < a.lv.length
    · refine levelsOf_small 4096 (a.lv.getD 0 []) h2 _ ?_
      rw [q6]
      exact getD_mem a.lv [] k hk
    · rw [List.getD_eq_getElem?_getD, List.getElem?_eq_none (by omega)]
      simp
  · have := levelsOf_few 12 (a.lv.getD 0 []) (by simpa using h2)
    rw [q6] at this
    omega
theorem refChk_few {t : Tr} (h : refChk t = 0) : 1 ≤ t.lv.length ∧ t.lv.length ≤ 13 := by
  obtain ⟨_, _, _, _, _, _, _, _, q5, q6⟩ := refChk_ok h
  have := levelsOf_few 12 (t.lv.getD 0 []) (by simpa using (refChk_row h).2)
  rw [q6] at this
  have := (sh_head q5).1
  omega
def refDiff (a b : Tr) : List (Int × Int) × Int :=
  if refChk a ≠ 0 then ([], refChk a) else if refChk b ≠ 0 then ([], refChk b) else if a.size ≠ b.size ∨ a.leaf ≠ b.leaf then ([], 22)
  else (refExt a.size.toNat a.leaf.toNat (foundL a.lv b.lv (a.lv.length - 1) 0), 0)
end Go.Proofs.Ytldcoekbgfaomaa
end
section
namespace Go.Proofs.Ytldcoekbgfaomaa
def otherI (i : Nat) : Nat := if i % 2 = 1 then i - 1 else i + 1
def hasO (i n : Nat) : Prop := i % 2 = 1 ∨ i + 1 < n
instance (i n : Nat) : Decidable (hasO i n) := by unfold hasO; infer_instance
theorem c78' (i n : Nat) (hi : i ≤ 4294967296) : ACalls Try.prog 78 [.p (i64 i), .p (i64 n)] (.tup [.p (i64 (otherI i)), .p (bv (decide (hasO i n)))]) := by
  have h := c78 i n hi
  unfold otherI
  by_cases h1 : i % 2 = 1
  · rw [if_pos h1] at h ⊢; exact h
  · rw [if_neg h1] at h ⊢; exact h
theorem otherI_lt {i n : Nat} (h : i < n) (ho : hasO i n) : otherI i < n := by
  unfold otherI
  unfold hasO at ho
  split <;> omega
def proofOf (m : List Int) (i : Nat) : List Int :=
  if h : m.length ≤ 1 then [] else (if hasO i m.length then [m.getD (otherI i) 0] else []) ++ proofOf (upL m) (i / 2)
  termination_by m.length
  decreasing_by rw [upL_length]; omega
theorem proofOf_one {m : List Int} {i : Nat} (h : m.length ≤ 1) : proofOf m i = [] := by rw [proofOf, dif_pos h]
theorem proofOf_more {m : List Int} {i : Nat} (h : ¬ m.length ≤ 1) : proofOf m i = (if hasO i m.length then [m.getD (otherI i) 0] else []) ++ proofOf (upL m) (i / 2) := by rw [proofOf, dif_neg h]
def refPrf (t : Tr) (leaf : Int) : List Int × Int :=
  if refChk t ≠ 0 then ([], refChk t) else if leaf < 0 ∨ ((t.lv.getD 0 []).length : Int) ≤ leaf then ([], 2) else (proofOf (t.lv.getD 0 []) leaf.toNat, 0)
theorem drop_head {lv : List (List Int)} {k : Nat} {m : List Int} {r : List (List Int)} (h : lv.drop k = m :: r) : lv.getD k [] = m ∧ k < lv.length ∧ lv.drop (k + 1) = r := by
  have hk : k < lv.length := by
    rcases Nat.lt_or_ge k lv.length with h1 | h1
    · exact h1
    · rw [List.drop_of_length_le h1] at h; cases h
  rw [drop_cons_l lv k hk] at h
  injection h with h1 h2
  exact ⟨h1, hk, h2⟩
theorem level_at {lv : List (List Int)} {k : Nat} {m : List Int} (h : levelsOf m = lv.drop k) : lv.getD k [] = m ∧ k < lv.length := by
  obtain ⟨r, hr⟩ := levelsOf_head m
  rw [hr] at h
  obtain ⟨h1, h2, _⟩ := drop_head h.symm
  exact ⟨h1, h2⟩
theorem level_next {lv : List (List Int)} {k : Nat} {m : List Int} (h : levelsOf m = lv.drop k) (h1 : ¬ m.length ≤ 1) : levelsOf (upL m) = lv.drop (k + 1) := by
  rw [levelsOf_more h1] at h
  exact (drop_head h.symm).2.2.symm
theorem level_more {lv : List (List Int)} {k : Nat} {m : List Int} (h : levelsOf m = lv.drop k) : ¬ m.length ≤ 1 ↔ k + 1 < lv.length := by
  have hl := congrArg List.length h
  rw [List.length_drop] at hl
  constructor
  · intro h1
    rw [levelsOf_more h1] at hl
    obtain ⟨r, hr⟩ := levelsOf_head (upL m)
    rw [hr] at hl
    simp only [Zl] at hl
    omega
  · intro h1 h2
    rw [levelsOf_one h2] at hl
    simp only [List.length_singleton] at hl
    omega
def verL (root : Int) (n i : Nat) (d : Int) (p : List Int) : Bool :=
  if h : n ≤ 1 then decide (p.length = 0 ∧ d = root)
  else if hasO i n then (if p.length = 0 then false else verL root ((n + 1) / 2) (i / 2) (if i % 2 = 1 then pairD (p.getD 0 0) d else pairD d (p.getD 0 0)) (p.drop 1))
  else verL root ((n + 1) / 2) (i / 2) d p
  termination_by n
  decreasing_by all_goals omega
def verD (i n : Nat) (d : Int) (p : List Int) : Int := if hasO i n then (if i % 2 = 1 then pairD (p.getD 0 0) d else pairD d (p.getD 0 0)) else d
def verP (i n : Nat) (p : List Int) : List Int := if hasO i n then p.drop 1 else p
theorem verL_one {root : Int} {n i : Nat} {d : Int} {p : List Int} (h : n ≤ 1) : verL root n i d p = decide (p.length = 0 ∧ d = root) := by rw [verL, dif_pos h]
theorem verL_bad {root : Int} {n i : Nat} {d : Int} {p : List Int} (h : ¬ n ≤ 1) (ho : hasO i n) (hp : p.length = 0) : verL root n i d p = false := by rw [verL, dif_neg h, if_pos ho, if_pos hp]
theorem verL_step {root : Int} {n i : Nat} {d : Int} {p : List Int} (h : ¬ n ≤ 1) (hp : hasO i n → p.length ≠ 0) : verL root n i d p = verL root ((n + 1) / 2) (i / 2) (verD i n d p) (verP i n p) := by
  rw [verL, dif_neg h]
  by_cases ho : hasO i n
  · rw [if_pos ho, if_neg (hp ho), verD, verP, if_pos ho, if_pos ho]
  · rw [if_neg ho, verD, verP, if_neg ho, if_neg ho]
def verOk (size leaf index : Int) (data : List (List Int)) : Prop := 0 ≤ index ∧ index < nLeaves size.toNat leaf.toNat ∧ (data.length : Int) = min leaf (size - index * leaf)
instance (size leaf index : Int) (data : List (List Int)) : Decidable (verOk size leaf index data) := by unfold verOk; infer_instance
def refVer (root size leaf index : Int) (data : List (List Int)) (proof : List Int) : Bool :=
  if size < 1 ∨ 4096 < size ∨ leaf < 1 ∨ 4096 < leaf then false
  else if ¬ verOk size leaf index data then false
  else verL root (nLeaves size.toNat leaf.toNat) index.toNat (secsD data) proof
theorem mul_small {x y : Int} (h : 0 ≤ x ∧ x ≤ 4096 ∧ 0 ≤ y ∧ y ≤ 4096) : 0 ≤ x * y ∧ x * y ≤ 16777216 :=
  ⟨Int.mul_nonneg h.1 h.2.2.1, Int.le_trans (Int.mul_le_mul h.2.1 h.2.2.2 h.2.2.1 (by omega)) (by omega)⟩
theorem mul_w {x y : Int} (h : 0 ≤ x ∧ x ≤ 4096 ∧ 0 ≤ y ∧ y ≤ 4096) : IntKind.i64.wrap (x * y) = x * y := i64_w (by have := mul_small h; omega)
theorem sub_mul_w {s x y : Int} (h : 0 ≤ x ∧ x ≤ 4096 ∧ 0 ≤ y ∧ y ≤ 4096 ∧ 0 ≤ s ∧ s ≤ 4096) : IntKind.i64.wrap (s - x * y) = s - x * y := i64_w (by have := mul_small (x := x) (y := y) ⟨h.1, h.2.1, h.2.2.1, h.2.2.2.1⟩; omega)
theorem refVer_1 {root size leaf index : Int} {data : List (List Int)} {proof : List Int} (h : size < 1 ∨ 4096 < size ∨ leaf < 1 ∨ 4096 < leaf) : refVer root size leaf index data proof = false := if_pos h
theorem refVer_2 {root index : Int} {S F : Nat} {data : List (List Int)} {proof : List Int} (h : ¬ ((S : Int) < 1 ∨ 4096 < (S : Int) ∨ (F : Int) < 1 ∨ 4096 < (F : Int)))
    (h2 : index < 0 ∨ (nLeaves S F : Int) ≤ index ∨ ¬ (data.length : Int) = min (F : Int) ((S : Int) - index * F)) : refVer root S F index data proof = false := by
  rw [refVer, if_neg h, if_pos]
  rintro ⟨q1, q2, q3⟩
  rcases h2 with h2 | h2 | h2
  · omega
  · exact absurd q2 (by rw [Int.toNat_natCast, Int.toNat_natCast]; omega)
  · exact h2 q3
theorem refVer_3 {root : Int} {S F x : Nat} {data : List (List Int)} {proof : List Int} (h : ¬ ((S : Int) < 1 ∨ 4096 < (S : Int) ∨ (F : Int) < 1 ∨ 4096 < (F : Int)))
    (h2 : ¬ (x : Int) < 0 ∧ ¬ (nLeaves S F : Int) ≤ (x : Int) ∧ (data.length : Int) = min (F : Int) ((S : Int) - (x : Int) * F)) : refVer root S F x data proof = verL root (nLeaves S F) x (secsD data) proof := by
  rw [refVer, if_neg h, if_neg]
  · simp only [ZO]
  · intro hn
    refine hn ⟨by omega, ?_, h2.2.2⟩
    rw [Int.toNat_natCast, Int.toNat_natCast]
    omega
end Go.Proofs.Ytldcoekbgfaomaa
end
section
namespace Go.Proofs.Ytldcoekbgfaomaa
open Go.RowKit
set_option maxRecDepth 20000
set_option maxHeartbeats 4000000
attribute [local irreducible] AOps AOpsD AW
theorem c38 (t : Tr) (leaf : Int) : ACalls Try.prog 38 [trP t, .p (i64 leaf)] (.tup [.p (u64s (refPrf t leaf).1), .p (i64 (refPrf t leaf).2)]) := by
  obtain ⟨s, f, lv⟩ := t
  refine acalls_of tb_ok Try.func38 (c := _) rfl (by kernel_rfl) ?_
  intro X hP hX hro hpl
  have hb : tb.Ok X.P := hP ▸ tb_ok
  change AW X _ _ ⟨[], [.agg [i64 s, i64 f, lvls lv], .p (i64 leaf), .any, .any, .any, .any, .any, .any, .any, .any, .any, .any, .any, .any, .any, .any, .any, .any, .any, .any, .any, .any, .any, .any, .any, .any, .any, .any, .any, .any, .any, .any, .any, .any, .any, .any, .any, .any, .any, .any, .any, .any, .any, .any, .any, .any, .any, .any, .any, .any, .any, .any, .any, .any, .any, .any, .any, .any, .any, .any, .any], [], []⟩
  refine aw_seq ?_
  refine aw_regK hX hb [0, 1, 2] rfl (σ' := ?s1) (fun K hK => ?h1) ?n1
  case h1 =>
    iterate 3 (refine st_op rfl (by simp (disch := omega) only [stepf,callOf,qop,fop,St.ev,St.put,cd,zd,Value.oneCell',tb_T,TypeDesc.aggB,getD_0,getD_s,Ze,Zd,Zc,Za,Zb,Zr,ZE,ZF,Zf,Zq,Zg,i64_w,Zt,Zs,ZM,ZL,Zl,Zo,ZG,ZH,St.addBox,D.boxCells,D.live,t3,ti3,t24,ti24,t26,ti26,t58,ti58,t60,ti60,map_at_l,map_at_i,Zh,quo_w,ne_eq,not_true_eq_false,not_false_eq_true,not_two_zero] <;> exact rfl) ?_)
    refine aops_nil ?_
    exact hK
  refine exq_n ?_
  refine aw_seq ?_
  refine aw_seq ?_
  refine aw_regK hX hb [0, 1, 2] rfl (σ' := ?s2) (fun K hK => ?h2) ?n2
  case h2 =>
    (refine st_op rfl (by simp (disch := omega) only [stepf,callOf,qop,fop,St.ev,St.put,cd,zd,Value.oneCell',tb_T,TypeDesc.aggB,getD_0,getD_s,Ze,Zd,Zc,Za,Zb,Zr,ZE,ZF,Zf,Zq,Zg,i64_w,Zt,Zs,Zl,Zo,Zv,Zw,Zj,Zk,Zx,Zy,qLoad,bload,pload,pureAll,D.pure?,ZC,ZD,pvAll,D.pv?,t2,ti2,t3,ti3,t24,ti24,t26,ti26,t58,ti58,t60,ti60,map_at_l,map_at_i,Zh,quo_w,ne_eq,not_true_eq_false,not_false_eq_true,not_two_zero] <;> exact rfl) ?_)
    refine st_call rfl (by simp only [callOf,St.ev,getD_0,getD_s,pvAll,D.pv?,ZG,ZH,zd,cd,Value.oneCell',Zr] <;> exact rfl) (acK hP (c34 ⟨s, f, lv⟩)) (by simp only [St.put,Za,Zb] <;> exact rfl) ?_
    (refine st_op rfl (by simp (disch := omega) only [stepf,callOf,qop,fop,St.ev,St.put,cd,zd,Value.oneCell',tb_T,TypeDesc.aggB,getD_0,getD_s,Ze,Zd,Zc,Za,Zb,Zr,ZE,ZF,Zf,Zq,Zg,i64_w,Zt,Zs,Zl,Zo,Zv,Zw,Zj,Zk,Zx,Zy,qLoad,bload,pload,pureAll,D.pure?,ZC,ZD,pvAll,D.pv?,t2,ti2,t3,ti3,t24,ti24,t26,ti26,t58,ti58,t60,ti60,map_at_l,map_at_i,Zh,quo_w,ne_eq,not_true_eq_false,not_false_eq_true,not_two_zero] <;> exact rfl) ?_)
    refine aops_nil ?_
    exact hK
  refine exq_n ?_
  refine aw_seq ?_
  refine aw_regK hX hb [0, 1] rfl (σ' := ?s3) (fun K hK => ?h3) ?n3
  case h3 =>
    iterate 2 (refine st_op rfl (by simp (disch := omega) only [stepf,callOf,qop,fop,St.ev,St.put,cd,zd,Value.oneCell',tb_T,TypeDesc.aggB,getD_0,getD_s,Ze,Zd,Zc,Za,Zb,Zr,ZE,ZF,Zf,Zq,Zg,i64_w,Zt,Zs,qBin,iop,t3,ti3,map_at_l,map_at_i,Zh,quo_w,ne_eq,not_true_eq_false,not_false_eq_true,not_two_zero] <;> exact rfl) ?_)
    refine aops_nil ?_
    exact hK
  refine exq_n ?_
  refine aw_cond _ rfl (fun hc0 => ?_) (fun hc0 => ?_)
  · try simp only [Zp,Zi,ZK,ZJ,ne_eq,Zn,Zm,ZB,ZA,ZI,not_or,not_and,Zu] at hc0
    refine aw_seq ?_
    refine aw_regK hX hb [0, 1, 2] rfl (σ' := ?s4) (fun K hK => ?h4) ?n4
    case h4 =>
      iterate 3 (refine st_op rfl (by simp (disch := omega) only [stepf,callOf,qop,fop,St.ev,St.put,cd,zd,Value.oneCell',tb_T,TypeDesc.aggB,getD_0,getD_s,Ze,Zd,Zc,Za,Zb,Zr,ZE,ZF,Zf,Zq,Zg,i64_w,Zt,Zs,map_at_l,map_at_i,Zh,quo_w,ne_eq,not_true_eq_false,not_false_eq_true,not_two_zero] <;> exact rfl) ?_)
      refine aops_nil ?_
      exact hK
    refine exq_n ?_
    refine aw_ret ?_
    refine exq_r ?_
    exact ret_r rfl (resOf_two rfl rfl (by first | rfl | (first | (rw [refPrf, if_pos hc0]; rfl) | (rw [refPrf, if_neg (not_not_intro hc0), if_pos hc1]; rfl) | (rw [refPrf, if_neg (not_not_intro hc0), if_neg (by dsimp only; omega), show proofOf (lv.getD 0 []) ((x : Int)).toNat = out from by rw [Int.toNat_natCast, ← ho, proofOf_one (by omega), List.append_nil]] <;> rfl))))
  · try simp only [Zp,Zi,ZK,ZJ,ne_eq,Zn,Zm,ZB,ZA,ZI,not_or,not_and,Zu] at hc0
    obtain ⟨S, F, hS, hF, q1, q2, q3, q4, q5, q6⟩ := refChk_ok hc0
    dsimp only at hS hF q5 q6
    subst hS
    subst hF
    have hfw := refChk_few hc0
    have hrw := (refChk_row hc0).2
    dsimp only at hfw hrw
    refine aw_skip ?_
    refine exq_n ?_
    refine aw_seq ?_
    refine aw_seq ?_
    refine aw_regJ hX hb [0, 1, 2, 3, 4, 5, 6, 7, 8, 9, 10] rfl (ts := [16, 17, 18, 19, 20, 21, 22, 23, 24, 25]) (t := 26) (d := .p (bv (leaf < 0 ∨ ((lv.getD 0 []).length : Int) ≤ leaf))) (σ' := ?s5) ?j5 ?h5 ?n5
    case j5 => simp only [St.join,List.foldl,Za,Zb]; exact rfl
    case h5 =>
      iterate 3 (all_goals refine st_op rfl (by simp (disch := omega) only [stepf,callOf,qop,fop,St.ev,St.put,cd,zd,Value.oneCell',tb_T,TypeDesc.aggB,getD_0,getD_s,Ze,Zd,Zc,Za,Zb,Zr,ZE,ZF,Zf,Zq,Zg,i64_w,Zt,Zs,qBin,iop,qFieldAddr,fieldOf,Zl,Zo,Zv,Zw,Zj,Zk,Zx,Zy,qLoad,bload,pload,pureAll,D.pure?,ZC,ZD,Int.toNat_zero,Int.toNat_one,toNat_pred,toNat_succ,qIndexAddr,ZO,Nat.mul_one,Nat.zero_mul,Zh,qLen,t1,ti1,t2,ti2,t3,ti3,t5,ti5,t22,ti22,t24,ti24,t26,ti26,t50,ti50,t58,ti58,t60,ti60,map_at_l,map_at_i,quo_w,ne_eq,not_true_eq_false,not_false_eq_true,not_two_zero] <;> exact rfl) ?_)
      iterate 7 (all_goals first | (refine st_g1 rfl rfl rfl (by simp (disch := omega) only [stepf,callOf,qop,fop,St.ev,St.put,cd,zd,Value.oneCell',tb_T,TypeDesc.aggB,getD_0,getD_s,Ze,Zd,Zc,Za,Zb,Zr,ZE,ZF,Zf,Zq,Zg,i64_w,Zt,Zs,qBin,iop,qFieldAddr,fieldOf,Zl,Zo,Zv,Zw,Zj,Zk,Zx,Zy,qLoad,bload,pload,pureAll,D.pure?,ZC,ZD,Int.toNat_zero,Int.toNat_one,toNat_pred,toNat_succ,qIndexAddr,ZO,Nat.mul_one,Nat.zero_mul,Zh,qLen,t1,ti1,t2,ti2,t3,ti3,t5,ti5,t22,ti22,t24,ti24,t26,ti26,t50,ti50,t58,ti58,t60,ti60,map_at_l,map_at_i,quo_w,ne_eq,not_true_eq_false,not_false_eq_true,not_two_zero] <;> exact rfl) ?_) | (first | (refine st_g0 rfl rfl rfl (by simp only [St.put,Za,Zb] <;> exact rfl) ?_) | (refine st_gu rfl rfl rfl (by simp only [St.put,Za,Zb] <;> exact rfl) ?_)) | (refine st_split rfl rfl rfl (by simp only [Za,Zb] <;> exact rfl) (by simp only [Za,Zb] <;> exact rfl) (fun hg => ?_) (fun hg => ?_) <;> (try simp only [Zp,Zi,ZJ,ZK,ne_eq,Zn,Zm,Bool.not_eq_true,Zu] at hg) <;> first | (refine st_g1 rfl rfl rfl (by simp (disch := omega) only [stepf,callOf,qop,fop,St.ev,St.put,cd,zd,Value.oneCell',tb_T,TypeDesc.aggB,getD_0,getD_s,Ze,Zd,Zc,Za,Zb,Zr,ZE,ZF,Zf,Zq,Zg,i64_w,Zt,Zs,qBin,iop,qFieldAddr,fieldOf,Zl,Zo,Zv,Zw,Zj,Zk,Zx,Zy,qLoad,bload,pload,pureAll,D.pure?,ZC,ZD,Int.toNat_zero,Int.toNat_one,toNat_pred,toNat_succ,qIndexAddr,ZO,Nat.mul_one,Nat.zero_mul,Zh,qLen,t1,ti1,t2,ti2,t3,ti3,t5,ti5,t22,ti22,t24,ti24,t26,ti26,t50,ti50,t58,ti58,t60,ti60,map_at_l,map_at_i,quo_w,ne_eq,not_true_eq_false,not_false_eq_true,not_two_zero] <;> exact rfl) ?_) | (first | (refine st_g0 rfl rfl rfl (by simp only [St.put,Za,Zb] <;> exact rfl) ?_) | (refine st_gu rfl rfl rfl (by simp only [St.put,Za,Zb] <;> exact rfl) ?_))))
      (all_goals refine st_op rfl (by simp (disch := omega) only [stepf,callOf,qop,fop,St.ev,St.put,cd,zd,Value.oneCell',tb_T,TypeDesc.aggB,getD_0,getD_s,Ze,Zd,Zc,Za,Zb,Zr,ZE,ZF,Zf,Zq,Zg,i64_w,Zt,Zs,qBin,iop,qFieldAddr,fieldOf,Zl,Zo,Zv,Zw,Zj,Zk,Zx,Zy,qLoad,bload,pload,pureAll,D.pure?,ZC,ZD,Int.toNat_zero,Int.toNat_one,toNat_pred,toNat_succ,qIndexAddr,ZO,Nat.mul_one,Nat.zero_mul,Zh,qLen,t1,ti1,t2,ti2,t3,ti3,t5,ti5,t22,ti22,t24,ti24,t26,ti26,t50,ti50,t58,ti58,t60,ti60,map_at_l,map_at_i,quo_w,ne_eq,not_true_eq_false,not_false_eq_true,not_two_zero] <;> exact rfl) ?_)
      all_goals refine aops_nil ?_
      all_goals refine ⟨rfl, ?_, leB_self _, leV_self _, rfl, rfl⟩
      all_goals repeat' (first | exact leL_nil | refine leL_a ?_ | refine leL_r rfl ?_ | refine leL_r ?_ ?_)
      all_goals refine jn ?_
      all_goals ((try simp only [Zp,Zi,ZJ,ZK,Bool.not_eq_true,Zm,Zn,ne_eq,Zf,true_iff,false_iff,iff_true,iff_false] at *) <;> omega)
    refine exq_n ?_
    refine aw_cond _ rfl (fun hc1 => ?_) (fun hc1 => ?_)
    · try simp only [Zp,Zi,ZK,ZJ,ne_eq,Zn,Zm,ZB,ZA,ZI,not_or,not_and,Zu] at hc1
      refine aw_seq ?_
      refine aw_regK hX hb [0, 1] rfl (σ' := ?s6) (fun K hK => ?h6) ?n6
      case h6 =>
        iterate 2 (refine st_op rfl (by simp (disch := omega) only [stepf,callOf,qop,fop,St.ev,St.put,cd,zd,Value.oneCell',tb_T,TypeDesc.aggB,getD_0,getD_s,Ze,Zd,Zc,Za,Zb,Zr,ZE,ZF,Zf,Zq,Zg,i64_w,Zt,Zs,t2,ti2,map_at_l,map_at_i,Zh,quo_w,ne_eq,not_true_eq_false,not_false_eq_true,not_two_zero] <;> exact rfl) ?_)
        refine aops_nil ?_
        exact hK
      refine exq_n ?_
      refine aw_ret ?_
      refine exq_r ?_
      exact ret_r rfl (resOf_two rfl rfl (by first | rfl | (first | (rw [refPrf, if_pos hc0]; rfl) | (rw [refPrf, if_neg (not_not_intro hc0), if_pos hc1]; rfl) | (rw [refPrf, if_neg (not_not_intro hc0), if_neg (by dsimp only; omega), show proofOf (lv.getD 0 []) ((x : Int)).toNat = out from by rw [Int.toNat_natCast, ← ho, proofOf_one (by omega), List.append_nil]] <;> rfl))))
    · try simp only [Zp,Zi,ZK,ZJ,ne_eq,Zn,Zm,ZB,ZA,ZI,not_or,not_and,Zu] at hc1
      obtain ⟨x, hxl⟩ : ∃ x : Nat, leaf = x := ⟨leaf.toNat, by omega⟩
      subst hxl
      refine aw_skip ?_
      refine exq_n ?_
      refine aw_seq ?_
      refine aw_regK hX hb [0] rfl (σ' := ?s7) (fun K hK => ?h7) ?n7
      case h7 =>
        (refine st_op rfl (by simp (disch := omega) only [stepf,callOf,qop,fop,St.ev,St.put,cd,zd,Value.oneCell',tb_T,TypeDesc.aggB,getD_0,getD_s,Ze,Zd,Zc,Za,Zb,Zr,ZE,ZF,Zf,Zq,Zg,i64_w,Zt,Zs,map_at_l,map_at_i,Zh,quo_w,ne_eq,not_true_eq_false,not_false_eq_true,not_two_zero] <;> exact rfl) ?_)
        refine aops_nil ?_
        exact hK
      refine exq_n ?_
      refine aw_nil 7 58 1 rfl (σ' := ?s8) ?h8 ?n8
      case h8 => simp only [St.nilSlot,St.addVec,Za,Zb,Zl,Zo,ZL,ZM]; exact rfl
      refine aw_seq ?_
      refine aw_seq ?_
      refine aw_regK hX hb [0] rfl (σ' := ?s9) (fun K hK => ?h9) ?n9
      case h9 =>
        (refine st_op rfl (by simp (disch := omega) only [stepf,callOf,qop,fop,St.ev,St.put,cd,zd,Value.oneCell',tb_T,TypeDesc.aggB,getD_0,getD_s,Ze,Zd,Zc,Za,Zb,Zr,ZE,ZF,Zf,Zq,Zg,i64_w,Zt,Zs,map_at_l,map_at_i,Zh,quo_w,ne_eq,not_true_eq_false,not_false_eq_true,not_two_zero] <;> exact rfl) ?_)
        refine aops_nil ?_
        exact hK
      refine exq_n ?_
      refine aw_block ?_
      refine aw_loop (ι := Nat × Nat × List Int × List Int) (fun p => levelsOf p.2.2.1 = lv.drop p.1 ∧ p.2.1 < p.2.2.1.length ∧ p.2.2.1.length ≤ 4096 ∧ p.2.2.2 ++ proofOf p.2.2.1 p.2.1 = proofOf (lv.getD 0 []) x ∧ p.2.2.2.length ≤ p.1) (fun p => ⟨[], [.any, .p (i64 p.2.1), .ptr 0 0, .any, .any, .p (i64 0), .any, .vref 0, .p (i64 p.1), .any, .any, .any, .any, .any, .any, .any, .any, .any, .any, .any, .any, .any, .any, .any, .any, .any, .any, .any, .any, .any, .any, .any, .any, .any, .any, .any, .any, .any, .any, .any, .any, .any, .any, .any, .any, .any, .any, .any, .any, .any, .any, .any, .any, .any, .any, .any, .any, .any, .any, .any, .any], [⟨26, [.p (i64 (S : Int)), .p (i64 (F : Int)), .p (lvls lv)]⟩], [some ⟨58, 1, p.2.2.2.length, p.2.2.2.map u64⟩]⟩) (fun p => lv.length - p.1) (0, x, lv.getD 0 [], []) (by exact ⟨q6, by dsimp only; omega, hrw, rfl, Nat.le_refl _⟩) (wk_le ⟨rfl, leL_a (leL_r (by first | rfl | (first | (dsimp only; rw [hkm] at hc3 ⊢; rw [if_pos hc3]; simp) | (dsimp only; rw [hkm] at hc3; rw [if_neg hc3]; simp) | exact congrArg (fun k => D.p (i64 k)) (by dsimp only; omega))) (leL_r (by first | rfl | (first | (dsimp only; rw [hkm] at hc3 ⊢; rw [if_pos hc3]; simp) | (dsimp only; rw [hkm] at hc3; rw [if_neg hc3]; simp) | exact congrArg (fun k => D.p (i64 k)) (by dsimp only; omega))) (leL_a (leL_a (leL_r (by first | rfl | (first | (dsimp only; rw [hkm] at hc3 ⊢; rw [if_pos hc3]; simp) | (dsimp only; rw [hkm] at hc3; rw [if_neg hc3]; simp) | exact congrArg (fun k => D.p (i64 k)) (by dsimp only; omega))) (leL_a (leL_r (by first | rfl | (first | (dsimp only; rw [hkm] at hc3 ⊢; rw [if_pos hc3]; simp) | (dsimp only; rw [hkm] at hc3; rw [if_neg hc3]; simp) | exact congrArg (fun k => D.p (i64 k)) (by dsimp only; omega))) (leL_r (by first | rfl | (first | (dsimp only; rw [hkm] at hc3 ⊢; rw [if_pos hc3]; simp) | (dsimp only; rw [hkm] at hc3; rw [if_neg hc3]; simp) | exact congrArg (fun k => D.p (i64 k)) (by dsimp only; omega))) (leL_a (leL_a (leL_a (leL_a (leL_a (leL_a (leL_a (leL_a (leL_a (leL_a (leL_a (leL_a (leL_a (leL_a (leL_a (leL_a (leL_a (leL_a (leL_a (leL_a (leL_a (leL_a (leL_a (leL_a (leL_a (leL_a (leL_a (leL_a (leL_a (leL_a (leL_a (leL_a (leL_a (leL_a (leL_a (leL_a (leL_a (leL_a (leL_a (leL_a (leL_a (leL_a (leL_a (leL_a (leL_a (leL_a (leL_a (leL_a (leL_a (leL_a (leL_a (leL_a (leL_nil))))))))))))))))))))))))))))))))))))))))))))))))))))))))))))), (leB_r rfl (leL_r (by first | rfl | (first | (dsimp only; rw [hkm] at hc3 ⊢; rw [if_pos hc3]; simp) | (dsimp only; rw [hkm] at hc3; rw [if_neg hc3]; simp) | exact congrArg (fun k => D.p (i64 k)) (by dsimp only; omega))) (leL_r (by first | rfl | (first | (dsimp only; rw [hkm] at hc3 ⊢; rw [if_pos hc3]; simp) | (dsimp only; rw [hkm] at hc3; rw [if_neg hc3]; simp) | exact congrArg (fun k => D.p (i64 k)) (by dsimp only; omega))) (leL_r (by first | rfl | (first | (dsimp only; rw [hkm] at hc3 ⊢; rw [if_pos hc3]; simp) | (dsimp only; rw [hkm] at hc3; rw [if_neg hc3]; simp) | exact congrArg (fun k => D.p (i64 k)) (by dsimp only; omega))) (leL_nil)))) (leB_nil _)), (leV_r (by first | rfl | (first | (dsimp only; rw [hkm] at hc3 ⊢; rw [if_pos hc3]; simp) | (dsimp only; rw [hkm] at hc3; rw [if_neg hc3]; simp) | exact congrArg (fun k => D.p (i64 k)) (by dsimp only; omega))) (leV_nil _)), rfl, rfl⟩) ?_
      rintro ⟨k, i, m, out⟩ ⟨hm, hi, hm4, ho, hol⟩
      dsimp only at hm hi hm4 ho hol ⊢
      obtain ⟨hkm, hkl⟩ := level_at hm
      have hmm := level_more hm
      refine aw_seq ?_
      refine aw_seq ?_
      refine aw_regK hX hb [0, 1, 2, 3, 4, 5] rfl (σ' := ?s10) (fun K hK => ?h10) ?n10
      case h10 =>
        iterate 6 (refine st_op rfl (by simp (disch := omega) only [stepf,callOf,qop,fop,St.ev,St.put,cd,zd,Value.oneCell',tb_T,TypeDesc.aggB,getD_0,getD_s,Ze,Zd,Zc,Za,Zb,Zr,ZE,ZF,Zf,Zq,Zg,i64_w,Zt,Zs,qBin,iop,qFieldAddr,fieldOf,Zl,Zo,Zv,Zw,Zj,Zk,Zx,Zy,qLoad,bload,pload,pureAll,D.pure?,ZC,ZD,qLen,t1,ti1,t2,ti2,t3,ti3,t24,ti24,t26,ti26,t27,ti27,t58,ti58,t60,ti60,map_at_l,map_at_i,Zh,quo_w,ne_eq,not_true_eq_false,not_false_eq_true,not_two_zero] <;> exact rfl) ?_)
        refine aops_nil ?_
        exact hK
      refine exq_n ?_
      refine aw_cond _ rfl (fun hc2 => ?_) (fun hc2 => ?_)
      · try simp only [Zp,Zi,ZK,ZJ,ne_eq,Zn,Zm,ZB,ZA,ZI,not_or,not_and,Zu] at hc2
        refine aw_skip ?_
        refine exq_n ?_
        refine aw_seq ?_
        refine aw_block ?_
        refine aw_seq ?_
        refine aw_seq ?_
        refine aw_regK hX hb [0, 1, 2, 3, 4, 5, 6, 7, 8, 9, 10, 11, 12] rfl (σ' := ?s11) (fun K hK => ?h11) ?n11
        case h11 =>
          iterate 7 (refine st_op rfl (by simp (disch := omega) only [stepf,callOf,qop,fop,St.ev,St.put,cd,zd,Value.oneCell',tb_T,TypeDesc.aggB,getD_0,getD_s,Ze,Zd,Zc,Za,Zb,Zr,ZE,ZF,Zf,Zq,Zg,i64_w,Zt,Zs,qFieldAddr,fieldOf,Zl,Zo,Zv,Zw,Zj,Zk,Zx,Zy,qLoad,bload,pload,pureAll,D.pure?,ZC,ZD,Int.toNat_zero,Int.toNat_one,toNat_pred,toNat_succ,qIndexAddr,ZO,Nat.mul_one,Nat.zero_mul,Zh,qLen,pvAll,D.pv?,qTup,PV.d,t1,ti1,t2,ti2,t3,ti3,t24,ti24,t26,ti26,t35,ti35,t40,ti40,t58,ti58,t60,ti60,map_at_l,map_at_i,quo_w,ne_eq,not_true_eq_false,not_false_eq_true,not_two_zero] <;> exact rfl) ?_)
          refine st_call rfl (by simp only [callOf,St.ev,getD_0,getD_s,pvAll,D.pv?,ZG,ZH,zd,cd,Value.oneCell',Zr] <;> exact rfl) (acK hP (c78' i (lv.getD k []).length (by omega))) (by simp only [St.put,Za,Zb] <;> exact rfl) ?_
          iterate 5 (refine st_op rfl (by simp (disch := omega) only [stepf,callOf,qop,fop,St.ev,St.put,cd,zd,Value.oneCell',tb_T,TypeDesc.aggB,getD_0,getD_s,Ze,Zd,Zc,Za,Zb,Zr,ZE,ZF,Zf,Zq,Zg,i64_w,Zt,Zs,qFieldAddr,fieldOf,Zl,Zo,Zv,Zw,Zj,Zk,Zx,Zy,qLoad,bload,pload,pureAll,D.pure?,ZC,ZD,Int.toNat_zero,Int.toNat_one,toNat_pred,toNat_succ,qIndexAddr,ZO,Nat.mul_one,Nat.zero_mul,Zh,qLen,pvAll,D.pv?,qTup,PV.d,t1,ti1,t2,ti2,t3,ti3,t24,ti24,t26,ti26,t35,ti35,t40,ti40,t58,ti58,t60,ti60,map_at_l,map_at_i,quo_w,ne_eq,not_true_eq_false,not_false_eq_true,not_two_zero] <;> exact rfl) ?_)
          refine aops_nil ?_
          exact hK
        refine exq_n ?_
        refine aw_seq ?_
        refine aw_regK hX hb [0] rfl (σ' := ?s12) (fun K hK => ?h12) ?n12
        case h12 =>
          (refine st_op rfl (by simp (disch := omega) only [stepf,callOf,qop,fop,St.ev,St.put,cd,zd,Value.oneCell',tb_T,TypeDesc.aggB,getD_0,getD_s,Ze,Zd,Zc,Za,Zb,Zr,ZE,ZF,Zf,Zq,Zg,i64_w,Zt,Zs,map_at_l,map_at_i,Zh,quo_w,ne_eq,not_true_eq_false,not_false_eq_true,not_two_zero] <;> exact rfl) ?_)
          refine aops_nil ?_
          exact hK
        refine exq_n ?_
        refine aw_cond _ rfl (fun hc3 => ?_) (fun hc3 => ?_)
        · try simp only [Zp,Zi,ZK,ZJ,ne_eq,Zn,Zm,ZB,ZA,ZI,not_or,not_and,Zu] at hc3
          have hoi : otherI i < (lv.getD k []).length := otherI_lt (by rw [hkm]; exact hi) hc3
          refine aw_regK hX hb [0, 1, 2, 3, 4, 5, 6, 7, 8, 9, 10, 11] rfl (σ' := ?s13) (fun K hK => ?h13) ?n13
          case h13 =>
            iterate 12 (refine st_op rfl (by simp (disch := omega) only [stepf,callOf,qop,fop,St.ev,St.put,cd,zd,Value.oneCell',tb_T,TypeDesc.aggB,getD_0,getD_s,Ze,Zd,Zc,Za,Zb,Zr,ZE,ZF,Zf,Zq,Zg,i64_w,Zt,Zs,qFieldAddr,fieldOf,Zl,Zo,Zv,Zw,Zj,Zk,Zx,Zy,qLoad,bload,pload,pureAll,D.pure?,ZC,ZD,Int.toNat_zero,Int.toNat_one,toNat_pred,toNat_succ,qIndexAddr,ZO,Nat.mul_one,Nat.zero_mul,Zh,tb_N,tbO_N,tbW_N,tb_O,fBuildSlice,catCells,D.cells?,range_1,range_2,range_3,range_4,range_5,ZG,ZH,ZL,ZM,ZN,sec8_length,Nat.reduceAdd,Nat.reduceMul,fAppend,appV,St.demote,D.demote,St.setVec,List.length_append,reduceIte,t1,ti1,t2,ti2,t3,ti3,t4,ti4,t5,ti5,t22,ti22,t24,ti24,t26,ti26,t47,ti47,t50,ti50,t54,ti54,t58,ti58,t60,ti60,map_at_l,map_at_i,quo_w,ne_eq,not_true_eq_false,not_false_eq_true,not_two_zero] <;> exact rfl) ?_)
            refine aops_nil ?_
            exact hK
          refine exq_n ?_
          refine aw_regK hX hb [0, 1, 2] rfl (σ' := ?s14) (fun K hK => ?h14) ?n14
          case h14 =>
            iterate 3 (refine st_op rfl (by simp (disch := omega) only [stepf,callOf,qop,fop,St.ev,St.put,cd,zd,Value.oneCell',tb_T,TypeDesc.aggB,getD_0,getD_s,Ze,Zd,Zc,Za,Zb,Zr,ZE,ZF,Zf,Zq,Zg,i64_w,Zt,Zs,qBin,iop,t1,ti1,t2,ti2,t3,ti3,t58,ti58,map_at_l,map_at_i,Zh,quo_w,ne_eq,not_true_eq_false,not_false_eq_true,not_two_zero] <;> exact rfl) ?_)
            refine aops_nil ?_
            exact hK
          refine exb_n ?_
          refine exq_n ?_
          refine aw_regK hX hb [0, 1, 2] rfl (σ' := ?s15) (fun K hK => ?h15) ?n15
          case h15 =>
            iterate 3 (refine st_op rfl (by simp (disch := omega) only [stepf,callOf,qop,fop,St.ev,St.put,cd,zd,Value.oneCell',tb_T,TypeDesc.aggB,getD_0,getD_s,Ze,Zd,Zc,Za,Zb,Zr,ZE,ZF,Zf,Zq,Zg,i64_w,Zt,Zs,qBin,iop,t1,ti1,t3,ti3,map_at_l,map_at_i,Zh,quo_w,ne_eq,not_true_eq_false,not_false_eq_true,not_two_zero] <;> exact rfl) ?_)
            refine aops_nil ?_
            exact hK
          refine exq_n ?_
          exact ⟨(k + 1, i / 2, upL m, out ++ (if hasO i m.length then [m.getD (otherI i) 0] else [])), by (have hu := upL_length m); (have hml : ¬ m.length ≤ 1 := hmm.2 (by omega)); refine ⟨level_next hm hml, by dsimp only; omega, by dsimp only; omega, ?_, ?_⟩; (dsimp only; rw [← ho, proofOf_more hml, List.append_assoc]); (dsimp only; split <;> simp <;> omega), by (try dsimp only); omega, wk_le ⟨rfl, leL_a (leL_r (by first | rfl | (first | (dsimp only; rw [hkm] at hc3 ⊢; rw [if_pos hc3]; simp) | (dsimp only; rw [hkm] at hc3; rw [if_neg hc3]; simp) | exact congrArg (fun k => D.p (i64 k)) (by dsimp only; omega))) (leL_r (by first | rfl | (first | (dsimp only; rw [hkm] at hc3 ⊢; rw [if_pos hc3]; simp) | (dsimp only; rw [hkm] at hc3; rw [if_neg hc3]; simp) | exact congrArg (fun k => D.p (i64 k)) (by dsimp only; omega))) (leL_a (leL_a (leL_r (by first | rfl | (first | (dsimp only; rw [hkm] at hc3 ⊢; rw [if_pos hc3]; simp) | (dsimp only; rw [hkm] at hc3; rw [if_neg hc3]; simp) | exact congrArg (fun k => D.p (i64 k)) (by dsimp only; omega))) (leL_a (leL_r (by first | rfl | (first | (dsimp only; rw [hkm] at hc3 ⊢; rw [if_pos hc3]; simp) | (dsimp only; rw [hkm] at hc3; rw [if_neg hc3]; simp) | exact congrArg (fun k => D.p (i64 k)) (by dsimp only; omega))) (leL_r (by first | rfl | (first | (dsimp only; rw [hkm] at hc3 ⊢; rw [if_pos hc3]; simp) | (dsimp only; rw [hkm] at hc3; rw [if_neg hc3]; simp) | exact congrArg (fun k => D.p (i64 k)) (by dsimp only; omega))) (leL_a (leL_a (leL_a (leL_a (leL_a (leL_a (leL_a (leL_a (leL_a (leL_a (leL_a (leL_a (leL_a (leL_a (leL_a (leL_a (leL_a (leL_a (leL_a (leL_a (leL_a (leL_a (leL_a (leL_a (leL_a (leL_a (leL_a (leL_a (leL_a (leL_a (leL_a (leL_a (leL_a (leL_a (leL_a (leL_a (leL_a (leL_a (leL_a (leL_a (leL_a (leL_a (leL_a (leL_a (leL_a (leL_a (leL_a (leL_a (leL_a (leL_a (leL_a (leL_a (leL_nil))))))))))))))))))))))))))))))))))))))))))))))))))))))))))))), (leB_r rfl (leL_r (by first | rfl | (first | (dsimp only; rw [hkm] at hc3 ⊢; rw [if_pos hc3]; simp) | (dsimp only; rw [hkm] at hc3; rw [if_neg hc3]; simp) | exact congrArg (fun k => D.p (i64 k)) (by dsimp only; omega))) (leL_r (by first | rfl | (first | (dsimp only; rw [hkm] at hc3 ⊢; rw [if_pos hc3]; simp) | (dsimp only; rw [hkm] at hc3; rw [if_neg hc3]; simp) | exact congrArg (fun k => D.p (i64 k)) (by dsimp only; omega))) (leL_r (by first | rfl | (first | (dsimp only; rw [hkm] at hc3 ⊢; rw [if_pos hc3]; simp) | (dsimp only; rw [hkm] at hc3; rw [if_neg hc3]; simp) | exact congrArg (fun k => D.p (i64 k)) (by dsimp only; omega))) (leL_nil)))) (leB_nil _)), (leV_r (by first | rfl | (first | (dsimp only; rw [hkm] at hc3 ⊢; rw [if_pos hc3]; simp) | (dsimp only; rw [hkm] at hc3; rw [if_neg hc3]; simp) | exact congrArg (fun k => D.p (i64 k)) (by dsimp only; omega))) (leV_nil _)), rfl, rfl⟩⟩
        · try simp only [Zp,Zi,ZK,ZJ,ne_eq,Zn,Zm,ZB,ZA,ZI,not_or,not_and,Zu] at hc3
          refine aw_skip ?_
          refine exq_n ?_
          refine aw_regK hX hb [0, 1, 2] rfl (σ' := ?s16) (fun K hK => ?h16) ?n16
          case h16 =>
            iterate 3 (refine st_op rfl (by simp (disch := omega) only [stepf,callOf,qop,fop,St.ev,St.put,cd,zd,Value.oneCell',tb_T,TypeDesc.aggB,getD_0,getD_s,Ze,Zd,Zc,Za,Zb,Zr,ZE,ZF,Zf,Zq,Zg,i64_w,Zt,Zs,qBin,iop,t1,ti1,t2,ti2,t3,ti3,t58,ti58,map_at_l,map_at_i,Zh,quo_w,ne_eq,not_true_eq_false,not_false_eq_true,not_two_zero] <;> exact rfl) ?_)
            refine aops_nil ?_
            exact hK
          refine exb_n ?_
          refine exq_n ?_
          refine aw_regK hX hb [0, 1, 2] rfl (σ' := ?s17) (fun K hK => ?h17) ?n17
          case h17 =>
            iterate 3 (refine st_op rfl (by simp (disch := omega) only [stepf,callOf,qop,fop,St.ev,St.put,cd,zd,Value.oneCell',tb_T,TypeDesc.aggB,getD_0,getD_s,Ze,Zd,Zc,Za,Zb,Zr,ZE,ZF,Zf,Zq,Zg,i64_w,Zt,Zs,qBin,iop,t1,ti1,t3,ti3,map_at_l,map_at_i,Zh,quo_w,ne_eq,not_true_eq_false,not_false_eq_true,not_two_zero] <;> exact rfl) ?_)
            refine aops_nil ?_
            exact hK
          refine exq_n ?_
          exact ⟨(k + 1, i / 2, upL m, out ++ (if hasO i m.length then [m.getD (otherI i) 0] else [])), by (have hu := upL_length m); (have hml : ¬ m.length ≤ 1 := hmm.2 (by omega)); refine ⟨level_next hm hml, by dsimp only; omega, by dsimp only; omega, ?_, ?_⟩; (dsimp only; rw [← ho, proofOf_more hml, List.append_assoc]); (dsimp only; split <;> simp <;> omega), by (try dsimp only); omega, wk_le ⟨rfl, leL_a (leL_r (by first | rfl | (first | (dsimp only; rw [hkm] at hc3 ⊢; rw [if_pos hc3]; simp) | (dsimp only; rw [hkm] at hc3; rw [if_neg hc3]; simp) | exact congrArg (fun k => D.p (i64 k)) (by dsimp only; omega))) (leL_r (by first | rfl | (first | (dsimp only; rw [hkm] at hc3 ⊢; rw [if_pos hc3]; simp) | (dsimp only; rw [hkm] at hc3; rw [if_neg hc3]; simp) | exact congrArg (fun k => D.p (i64 k)) (by dsimp only; omega))) (leL_a (leL_a (leL_r (by first | rfl | (first | (dsimp only; rw [hkm] at hc3 ⊢; rw [if_pos hc3]; simp) | (dsimp only; rw [hkm] at hc3; rw [if_neg hc3]; simp) | exact congrArg (fun k => D.p (i64 k)) (by dsimp only; omega))) (leL_a (leL_r (by first | rfl | (first | (dsimp only; rw [hkm] at hc3 ⊢; rw [if_pos hc3]; simp) | (dsimp only; rw [hkm] at hc3; rw [if_neg hc3]; simp) | exact congrArg (fun k => D.p (i64 k)) (by dsimp only; omega))) (leL_r (by first | rfl | (first | (dsimp only; rw [hkm] at hc3 ⊢; rw [if_pos hc3]; simp) | (dsimp only; rw [hkm] at hc3; rw [if_neg hc3]; simp) | exact congrArg (fun k => D.p (i64 k)) (by dsimp only; omega))) (leL_a (leL_a (leL_a (leL_a (leL_a (leL_a (leL_a (leL_a (leL_a (leL_a (leL_a (leL_a (leL_a (leL_a (leL_a (leL_a (leL_a (leL_a (leL_a (leL_a (leL_a (leL_a (leL_a (leL_a (leL_a (leL_a (leL_a (leL_a (leL_a (leL_a (leL_a (leL_a (leL_a (leL_a (leL_a (leL_a (leL_a (leL_a (leL_a (leL_a (leL_a (leL_a (leL_a (leL_a (leL_a (leL_a (leL_a (leL_a (leL_a (leL_a (leL_a (leL_a (leL_nil))))))))))))))))))))))))))))))))))))))))))))))))))))))))))))), (leB_r rfl (leL_r (by first | rfl | (first | (dsimp only; rw [hkm] at hc3 ⊢; rw [if_pos hc3]; simp) | (dsimp only; rw [hkm] at hc3; rw [if_neg hc3]; simp) | exact congrArg (fun k => D.p (i64 k)) (by dsimp only; omega))) (leL_r (by first | rfl | (first | (dsimp only; rw [hkm] at hc3 ⊢; rw [if_pos hc3]; simp) | (dsimp only; rw [hkm] at hc3; rw [if_neg hc3]; simp) | exact congrArg (fun k => D.p (i64 k)) (by dsimp only; omega))) (leL_r (by first | rfl | (first | (dsimp only; rw [hkm] at hc3 ⊢; rw [if_pos hc3]; simp) | (dsimp only; rw [hkm] at hc3; rw [if_neg hc3]; simp) | exact congrArg (fun k => D.p (i64 k)) (by dsimp only; omega))) (leL_nil)))) (leB_nil _)), (leV_r (by first | rfl | (first | (dsimp only; rw [hkm] at hc3 ⊢; rw [if_pos hc3]; simp) | (dsimp only; rw [hkm] at hc3; rw [if_neg hc3]; simp) | exact congrArg (fun k => D.p (i64 k)) (by dsimp only; omega))) (leV_nil _)), rfl, rfl⟩⟩
      · try simp only [Zp,Zi,ZK,ZJ,ne_eq,Zn,Zm,ZB,ZA,ZI,not_or,not_and,Zu] at hc2
        refine aw_exit ?_
        refine exq_e ?_
        refine exq_e ?_
        refine exb_h ?_
        refine exq_n ?_
        refine aw_seq ?_
        refine aw_regK hX hb [0, 1, 2] rfl (σ' := ?s18) (fun K hK => ?h18) ?n18
        case h18 =>
          iterate 3 (refine st_op rfl (by simp (disch := omega) only [stepf,callOf,qop,fop,St.ev,St.put,cd,zd,Value.oneCell',tb_T,TypeDesc.aggB,getD_0,getD_s,Ze,Zd,Zc,Za,Zb,Zr,ZE,ZF,Zf,Zq,Zg,i64_w,Zt,Zs,t58,ti58,t60,ti60,map_at_l,map_at_i,Zh,quo_w,ne_eq,not_true_eq_false,not_false_eq_true,not_two_zero] <;> exact rfl) ?_)
          refine aops_nil ?_
          exact hK
        refine exq_n ?_
        refine aw_frz 0 rfl (σ' := ?s19) ?h19 ?n19
        case h19 => simp only [St.freeze,D.freeze,ZG,ZH,Za,Zb,Zr,reduceIte,Nat.reduceEqDiff]; exact rfl
        refine aw_ret ?_
        exact ret_r rfl (resOf_two rfl rfl (by first | rfl | (first | (rw [refPrf, if_pos hc0]; rfl) | (rw [refPrf, if_neg (not_not_intro hc0), if_pos hc1]; rfl) | (rw [refPrf, if_neg (not_not_intro hc0), if_neg (by dsimp only; omega), show proofOf (lv.getD 0 []) ((x : Int)).toNat = out from by rw [Int.toNat_natCast, ← ho, proofOf_one (by omega), List.append_nil]] <;> rfl))))
end Go.Proofs.Ytldcoekbgfaomaa
end
section
namespace Go.Proofs.Ytldcoekbgfaomaa
open Go.RowKit
set_option maxRecDepth 20000
set_option maxHeartbeats 4000000
attribute [local irreducible] AOps AOpsD AW
theorem c41 (root size leaf index : Int) (data : List (List Int)) (proof : List Int) (hd : data.length ≤ 4294967296) (hi64 : -9223372036854775808 ≤ index ∧ index ≤ 9223372036854775807) : ACalls Try.prog 41 [.p (u64 root), .p (i64 size), .p (i64 leaf), .p (i64 index), .p (secs data), .p (u64s proof)] (.p (bv (refVer root size leaf index data proof))) := by
  refine acalls_of tb_ok Try.func41 (c := _) rfl (by kernel_rfl) ?_
  intro X hP hX hro hpl
  have hb : tb.Ok X.P := hP ▸ tb_ok
  change AW X _ _ ⟨[], [.p (u64 root), .p (i64 size), .p (i64 leaf), .p (i64 index), .p (secs data), .p (u64s proof), .any, .any, .any, .any, .any, .any, .any, .any, .any, .any, .any, .any, .any, .any, .any, .any, .any, .any, .any, .any, .any, .any, .any, .any, .any, .any, .any, .any, .any, .any, .any, .any, .any, .any, .any, .any, .any, .any, .any, .any, .any, .any, .any, .any, .any, .any, .any, .any, .any, .any, .any, .any, .any, .any, .any, .any, .any, .any, .any, .any, .any, .any, .any, .any, .any, .any, .any, .any, .any, .any, .any, .any, .any, .any, .any, .any, .any, .any, .any, .any, .any, .any, .any, .any, .any, .any, .any, .any, .any], [], []⟩
  refine aw_seq ?_
  refine aw_regK hX hb [0] rfl (σ' := ?s1) (fun K hK => ?h1) ?n1
  case h1 =>
    (refine st_op rfl (by simp (disch := omega) only [stepf,callOf,qop,fop,St.ev,St.put,cd,zd,Value.oneCell',tb_T,TypeDesc.aggB,getD_0,getD_s,Ze,Zd,Zc,Za,Zb,Zr,ZE,ZF,Zf,Zq,Zg,i64_w,Zt,Zs,map_at_i,Zh,quo_w,ne_eq,not_true_eq_false,not_false_eq_true,tmod_two,not_two_zero,mul_cast] <;> exact rfl) ?_)
    refine aops_nil ?_
    exact hK
  refine exq_n ?_
  refine aw_seq ?_
  refine aw_seq ?_
  refine aw_regJ hX hb [0, 1, 2, 3, 4, 5, 6, 7, 8, 9, 10, 11, 12, 13] rfl (ts := [17, 18, 19, 20, 21, 22, 23, 24, 25, 26, 27, 28, 29]) (t := 30) (d := .p (bv (size < 1 ∨ 4096 < size ∨ leaf < 1 ∨ 4096 < leaf))) (σ' := ?s2) ?j2 ?h2 ?n2
  case j2 => simp only [St.join,List.foldl,Za,Zb]; exact rfl
  case h2 =>
    iterate 3 (all_goals refine st_op rfl (by simp (disch := omega) only [stepf,callOf,qop,fop,St.ev,St.put,cd,zd,Value.oneCell',tb_T,TypeDesc.aggB,getD_0,getD_s,Ze,Zd,Zc,Za,Zb,Zr,ZE,ZF,Zf,Zq,Zg,i64_w,Zt,Zs,qBin,iop,t1,ti1,t2,ti2,t3,ti3,t5,ti5,t22,ti22,t24,ti24,t26,ti26,t27,ti27,t50,ti50,t58,ti58,t60,ti60,map_at_i,Zh,quo_w,ne_eq,not_true_eq_false,not_false_eq_true,tmod_two,not_two_zero,mul_cast] <;> exact rfl) ?_)
    iterate 2 (all_goals first | (refine st_g1 rfl rfl rfl (by simp (disch := omega) only [stepf,callOf,qop,fop,St.ev,St.put,cd,zd,Value.oneCell',tb_T,TypeDesc.aggB,getD_0,getD_s,Ze,Zd,Zc,Za,Zb,Zr,ZE,ZF,Zf,Zq,Zg,i64_w,Zt,Zs,qBin,iop,t1,ti1,t2,ti2,t3,ti3,t5,ti5,t22,ti22,t24,ti24,t26,ti26,t27,ti27,t50,ti50,t58,ti58,t60,ti60,map_at_i,Zh,quo_w,ne_eq,not_true_eq_false,not_false_eq_true,tmod_two,not_two_zero,mul_cast] <;> exact rfl) ?_) | (first | (refine st_g0 rfl rfl rfl (by simp only [St.put,Za,Zb] <;> exact rfl) ?_) | (refine st_gu rfl rfl rfl (by simp only [St.put,Za,Zb] <;> exact rfl) ?_)) | (refine st_split rfl rfl rfl (by simp only [Za,Zb] <;> exact rfl) (by simp only [Za,Zb] <;> exact rfl) (fun hg => ?_) (fun hg => ?_) <;> (try simp only [Zp,Zi,ZJ,ZK,ne_eq,Zn,Zm,Bool.not_eq_true,Zu] at hg) <;> first | (refine st_g1 rfl rfl rfl (by simp (disch := omega) only [stepf,callOf,qop,fop,St.ev,St.put,cd,zd,Value.oneCell',tb_T,TypeDesc.aggB,getD_0,getD_s,Ze,Zd,Zc,Za,Zb,Zr,ZE,ZF,Zf,Zq,Zg,i64_w,Zt,Zs,qBin,iop,t1,ti1,t2,ti2,t3,ti3,t5,ti5,t22,ti22,t24,ti24,t26,ti26,t27,ti27,t50,ti50,t58,ti58,t60,ti60,map_at_i,Zh,quo_w,ne_eq,not_true_eq_false,not_false_eq_true,tmod_two,not_two_zero,mul_cast] <;> exact rfl) ?_) | (first | (refine st_g0 rfl rfl rfl (by simp only [St.put,Za,Zb] <;> exact rfl) ?_) | (refine st_gu rfl rfl rfl (by simp only [St.put,Za,Zb] <;> exact rfl) ?_))))
    iterate 2 (all_goals refine st_op rfl (by simp (disch := omega) only [stepf,callOf,qop,fop,St.ev,St.put,cd,zd,Value.oneCell',tb_T,TypeDesc.aggB,getD_0,getD_s,Ze,Zd,Zc,Za,Zb,Zr,ZE,ZF,Zf,Zq,Zg,i64_w,Zt,Zs,qBin,iop,t1,ti1,t2,ti2,t3,ti3,t5,ti5,t22,ti22,t24,ti24,t26,ti26,t27,ti27,t50,ti50,t58,ti58,t60,ti60,map_at_i,Zh,quo_w,ne_eq,not_true_eq_false,not_false_eq_true,tmod_two,not_two_zero,mul_cast] <;> exact rfl) ?_)
    iterate 2 (all_goals first | (refine st_g1 rfl rfl rfl (by simp (disch := omega) only [stepf,callOf,qop,fop,St.ev,St.put,cd,zd,Value.oneCell',tb_T,TypeDesc.aggB,getD_0,getD_s,Ze,Zd,Zc,Za,Zb,Zr,ZE,ZF,Zf,Zq,Zg,i64_w,Zt,Zs,qBin,iop,t1,ti1,t2,ti2,t3,ti3,t5,ti5,t22,ti22,t24,ti24,t26,ti26,t27,ti27,t50,ti50,t58,ti58,t60,ti60,map_at_i,Zh,quo_w,ne_eq,not_true_eq_false,not_false_eq_true,tmod_two,not_two_zero,mul_cast] <;> exact rfl) ?_) | (first | (refine st_g0 rfl rfl rfl (by simp only [St.put,Za,Zb] <;> exact rfl) ?_) | (refine st_gu rfl rfl rfl (by simp only [St.put,Za,Zb] <;> exact rfl) ?_)) | (refine st_split rfl rfl rfl (by simp only [Za,Zb] <;> exact rfl) (by simp only [Za,Zb] <;> exact rfl) (fun hg => ?_) (fun hg => ?_) <;> (try simp only [Zp,Zi,ZJ,ZK,ne_eq,Zn,Zm,Bool.not_eq_true,Zu] at hg) <;> first | (refine st_g1 rfl rfl rfl (by simp (disch := omega) only [stepf,callOf,qop,fop,St.ev,St.put,cd,zd,Value.oneCell',tb_T,TypeDesc.aggB,getD_0,getD_s,Ze,Zd,Zc,Za,Zb,Zr,ZE,ZF,Zf,Zq,Zg,i64_w,Zt,Zs,qBin,iop,t1,ti1,t2,ti2,t3,ti3,t5,ti5,t22,ti22,t24,ti24,t26,ti26,t27,ti27,t50,ti50,t58,ti58,t60,ti60,map_at_i,Zh,quo_w,ne_eq,not_true_eq_false,not_false_eq_true,tmod_two,not_two_zero,mul_cast] <;> exact rfl) ?_) | (first | (refine st_g0 rfl rfl rfl (by simp only [St.put,Za,Zb] <;> exact rfl) ?_) | (refine st_gu rfl rfl rfl (by simp only [St.put,Za,Zb] <;> exact rfl) ?_))))
    iterate 2 (all_goals refine st_op rfl (by simp (disch := omega) only [stepf,callOf,qop,fop,St.ev,St.put,cd,zd,Value.oneCell',tb_T,TypeDesc.aggB,getD_0,getD_s,Ze,Zd,Zc,Za,Zb,Zr,ZE,ZF,Zf,Zq,Zg,i64_w,Zt,Zs,qBin,iop,t1,ti1,t2,ti2,t3,ti3,t5,ti5,t22,ti22,t24,ti24,t26,ti26,t27,ti27,t50,ti50,t58,ti58,t60,ti60,map_at_i,Zh,quo_w,ne_eq,not_true_eq_false,not_false_eq_true,tmod_two,not_two_zero,mul_cast] <;> exact rfl) ?_)
    iterate 2 (all_goals first | (refine st_g1 rfl rfl rfl (by simp (disch := omega) only [stepf,callOf,qop,fop,St.ev,St.put,cd,zd,Value.oneCell',tb_T,TypeDesc.aggB,getD_0,getD_s,Ze,Zd,Zc,Za,Zb,Zr,ZE,ZF,Zf,Zq,Zg,i64_w,Zt,Zs,qBin,iop,t1,ti1,t2,ti2,t3,ti3,t5,ti5,t22,ti22,t24,ti24,t26,ti26,t27,ti27,t50,ti50,t58,ti58,t60,ti60,map_at_i,Zh,quo_w,ne_eq,not_true_eq_false,not_false_eq_true,tmod_two,not_two_zero,mul_cast] <;> exact rfl) ?_) | (first | (refine st_g0 rfl rfl rfl (by simp only [St.put,Za,Zb] <;> exact rfl) ?_) | (refine st_gu rfl rfl rfl (by simp only [St.put,Za,Zb] <;> exact rfl) ?_)) | (refine st_split rfl rfl rfl (by simp only [Za,Zb] <;> exact rfl) (by simp only [Za,Zb] <;> exact rfl) (fun hg => ?_) (fun hg => ?_) <;> (try simp only [Zp,Zi,ZJ,ZK,ne_eq,Zn,Zm,Bool.not_eq_true,Zu] at hg) <;> first | (refine st_g1 rfl rfl rfl (by simp (disch := omega) only [stepf,callOf,qop,fop,St.ev,St.put,cd,zd,Value.oneCell',tb_T,TypeDesc.aggB,getD_0,getD_s,Ze,Zd,Zc,Za,Zb,Zr,ZE,ZF,Zf,Zq,Zg,i64_w,Zt,Zs,qBin,iop,t1,ti1,t2,ti2,t3,ti3,t5,ti5,t22,ti22,t24,ti24,t26,ti26,t27,ti27,t50,ti50,t58,ti58,t60,ti60,map_at_i,Zh,quo_w,ne_eq,not_true_eq_false,not_false_eq_true,tmod_two,not_two_zero,mul_cast] <;> exact rfl) ?_) | (first | (refine st_g0 rfl rfl rfl (by simp only [St.put,Za,Zb] <;> exact rfl) ?_) | (refine st_gu rfl rfl rfl (by simp only [St.put,Za,Zb] <;> exact rfl) ?_))))
    (all_goals refine st_op rfl (by simp (disch := omega) only [stepf,callOf,qop,fop,St.ev,St.put,cd,zd,Value.oneCell',tb_T,TypeDesc.aggB,getD_0,getD_s,Ze,Zd,Zc,Za,Zb,Zr,ZE,ZF,Zf,Zq,Zg,i64_w,Zt,Zs,qBin,iop,t1,ti1,t2,ti2,t3,ti3,t5,ti5,t22,ti22,t24,ti24,t26,ti26,t27,ti27,t50,ti50,t58,ti58,t60,ti60,map_at_i,Zh,quo_w,ne_eq,not_true_eq_false,not_false_eq_true,tmod_two,not_two_zero,mul_cast] <;> exact rfl) ?_)
    all_goals refine aops_nil ?_
    all_goals refine ⟨rfl, ?_, leB_self _, leV_self _, rfl, rfl⟩
    all_goals repeat' (first | exact leL_nil | refine leL_a ?_ | refine leL_r rfl ?_ | refine leL_r ?_ ?_)
    all_goals refine jn ?_
    all_goals ((try simp only [Zp,Zi,ZJ,ZK,Bool.not_eq_true,Zm,Zn,ne_eq,Zf,true_iff,false_iff,iff_true,iff_false] at *) <;> omega)
  refine exq_n ?_
  refine aw_cond _ rfl (fun hc0 => ?_) (fun hc0 => ?_)
  · try simp only [Zp,Zi,ZK,ZJ,ne_eq,Zn,Zm,ZB,ZA,ZI,not_or,not_and,Zu] at hc0
    refine aw_seq ?_
    refine aw_regK hX hb [0] rfl (σ' := ?s3) (fun K hK => ?h3) ?n3
    case h3 =>
      (refine st_op rfl (by simp (disch := omega) only [stepf,callOf,qop,fop,St.ev,St.put,cd,zd,Value.oneCell',tb_T,TypeDesc.aggB,getD_0,getD_s,Ze,Zd,Zc,Za,Zb,Zr,ZE,ZF,Zf,Zq,Zg,i64_w,Zt,Zs,map_at_i,Zh,quo_w,ne_eq,not_true_eq_false,not_false_eq_true,tmod_two,not_two_zero,mul_cast] <;> exact rfl) ?_)
      refine aops_nil ?_
      exact hK
    refine exq_n ?_
    refine aw_ret ?_
    refine exq_r ?_
    exact ret_r rfl (resOf_one rfl (by first | rfl | (first | (rw [refVer_1 hc0]; rfl) | (rw [refVer_2 (by omega) hc1]; rfl) | (rw [refVer_3 (by omega) hc1, ← hv, verL_bad (by omega) hc3 (by omega)]; rfl) | (rw [refVer_3 (by omega) hc1, ← hv, verL_one (by omega)]; rfl))))
  · try simp only [Zp,Zi,ZK,ZJ,ne_eq,Zn,Zm,ZB,ZA,ZI,not_or,not_and,Zu] at hc0
    obtain ⟨S, hS⟩ : ∃ S : Nat, size = S := ⟨size.toNat, by omega⟩
    subst hS
    obtain ⟨F, hF⟩ : ∃ F : Nat, leaf = F := ⟨leaf.toNat, by omega⟩
    subst hF
    have hnl := nLeaves_le (s := S) (n := F) (by omega)
    refine aw_skip ?_
    refine exq_n ?_
    refine aw_seq ?_
    refine aw_regK hX hb [0, 1, 2, 3] rfl (σ' := ?s4) (fun K hK => ?h4) ?n4
    case h4 =>
      iterate 2 (refine st_op rfl (by simp (disch := omega) only [stepf,callOf,qop,fop,St.ev,St.put,cd,zd,Value.oneCell',tb_T,TypeDesc.aggB,getD_0,getD_s,Ze,Zd,Zc,Za,Zb,Zr,ZE,ZF,Zf,Zq,Zg,i64_w,Zt,Zs,pvAll,D.pv?,t1,ti1,t2,ti2,t3,ti3,map_at_i,Zh,quo_w,ne_eq,not_true_eq_false,not_false_eq_true,tmod_two,not_two_zero,mul_cast] <;> exact rfl) ?_)
      refine st_call rfl (by simp only [callOf,St.ev,getD_0,getD_s,pvAll,D.pv?,ZG,ZH,zd,cd,Value.oneCell',Zr] <;> exact rfl) (acK hP (c68 S F (by omega) (by omega))) (by simp only [St.put,Za,Zb] <;> exact rfl) ?_
      (refine st_op rfl (by simp (disch := omega) only [stepf,callOf,qop,fop,St.ev,St.put,cd,zd,Value.oneCell',tb_T,TypeDesc.aggB,getD_0,getD_s,Ze,Zd,Zc,Za,Zb,Zr,ZE,ZF,Zf,Zq,Zg,i64_w,Zt,Zs,pvAll,D.pv?,t1,ti1,t2,ti2,t3,ti3,map_at_i,Zh,quo_w,ne_eq,not_true_eq_false,not_false_eq_true,tmod_two,not_two_zero,mul_cast] <;> exact rfl) ?_)
      refine aops_nil ?_
      exact hK
    refine exq_n ?_
    refine aw_seq ?_
    refine aw_seq ?_
    refine aw_regJ hX hb [0, 1, 2, 3, 4, 5, 6, 7, 8, 9, 10, 11, 12, 13, 14, 15, 16, 17, 18] rfl (ts := [34, 35, 36, 37, 38, 39, 40, 41, 42, 43, 44, 45, 46, 47, 48, 49, 50, 51]) (t := 52) (d := .p (bv (index < 0 ∨ (nLeaves S F : Int) ≤ index ∨ (data.length : Int) ≠ min (F : Int) ((S : Int) - index * F)))) (σ' := ?s5) ?j5 ?h5 ?n5
    case j5 => simp only [St.join,List.foldl,Za,Zb]; exact rfl
    case h5 =>
      iterate 3 (all_goals refine st_op rfl (by simp (disch := omega) only [stepf,callOf,qop,fop,St.ev,St.put,cd,zd,Value.oneCell',tb_T,TypeDesc.aggB,getD_0,getD_s,Ze,Zd,Zc,Za,Zb,Zr,ZE,ZF,Zf,Zq,Zg,i64_w,Zt,Zs,qBin,iop,qLen,min_ite,t1,ti1,t2,ti2,t3,ti3,t4,ti4,t5,ti5,t22,ti22,t35,ti35,t40,ti40,t47,ti47,t50,ti50,map_at_i,Zh,quo_w,ne_eq,not_true_eq_false,not_false_eq_true,tmod_two,not_two_zero,mul_cast,mul_w,sub_mul_w] <;> exact rfl) ?_)
      iterate 3 (all_goals first | (refine st_g1 rfl rfl rfl (by simp (disch := omega) only [stepf,callOf,qop,fop,St.ev,St.put,cd,zd,Value.oneCell',tb_T,TypeDesc.aggB,getD_0,getD_s,Ze,Zd,Zc,Za,Zb,Zr,ZE,ZF,Zf,Zq,Zg,i64_w,Zt,Zs,qBin,iop,qLen,min_ite,t1,ti1,t2,ti2,t3,ti3,t4,ti4,t5,ti5,t22,ti22,t35,ti35,t40,ti40,t47,ti47,t50,ti50,map_at_i,Zh,quo_w,ne_eq,not_true_eq_false,not_false_eq_true,tmod_two,not_two_zero,mul_cast,mul_w,sub_mul_w] <;> exact rfl) ?_) | (first | (refine st_g0 rfl rfl rfl (by simp only [St.put,Za,Zb] <;> exact rfl) ?_) | (refine st_gu rfl rfl rfl (by simp only [St.put,Za,Zb] <;> exact rfl) ?_)) | (refine st_split rfl rfl rfl (by simp only [Za,Zb] <;> exact rfl) (by simp only [Za,Zb] <;> exact rfl) (fun hg => ?_) (fun hg => ?_) <;> (try simp only [Zp,Zi,ZJ,ZK,ne_eq,Zn,Zm,Bool.not_eq_true,Zu] at hg) <;> first | (refine st_g1 rfl rfl rfl (by simp (disch := omega) only [stepf,callOf,qop,fop,St.ev,St.put,cd,zd,Value.oneCell',tb_T,TypeDesc.aggB,getD_0,getD_s,Ze,Zd,Zc,Za,Zb,Zr,ZE,ZF,Zf,Zq,Zg,i64_w,Zt,Zs,qBin,iop,qLen,min_ite,t1,ti1,t2,ti2,t3,ti3,t4,ti4,t5,ti5,t22,ti22,t35,ti35,t40,ti40,t47,ti47,t50,ti50,map_at_i,Zh,quo_w,ne_eq,not_true_eq_false,not_false_eq_true,tmod_two,not_two_zero,mul_cast,mul_w,sub_mul_w] <;> exact rfl) ?_) | (first | (refine st_g0 rfl rfl rfl (by simp only [St.put,Za,Zb] <;> exact rfl) ?_) | (refine st_gu rfl rfl rfl (by simp only [St.put,Za,Zb] <;> exact rfl) ?_))))
      iterate 2 (all_goals refine st_op rfl (by simp (disch := omega) only [stepf,callOf,qop,fop,St.ev,St.put,cd,zd,Value.oneCell',tb_T,TypeDesc.aggB,getD_0,getD_s,Ze,Zd,Zc,Za,Zb,Zr,ZE,ZF,Zf,Zq,Zg,i64_w,Zt,Zs,qBin,iop,qLen,min_ite,t1,ti1,t2,ti2,t3,ti3,t4,ti4,t5,ti5,t22,ti22,t35,ti35,t40,ti40,t47,ti47,t50,ti50,map_at_i,Zh,quo_w,ne_eq,not_true_eq_false,not_false_eq_true,tmod_two,not_two_zero,mul_cast,mul_w,sub_mul_w] <;> exact rfl) ?_)
      iterate 10 (all_goals first | (refine st_g1 rfl rfl rfl (by simp (disch := omega) only [stepf,callOf,qop,fop,St.ev,St.put,cd,zd,Value.oneCell',tb_T,TypeDesc.aggB,getD_0,getD_s,Ze,Zd,Zc,Za,Zb,Zr,ZE,ZF,Zf,Zq,Zg,i64_w,Zt,Zs,qBin,iop,qLen,min_ite,t1,ti1,t2,ti2,t3,ti3,t4,ti4,t5,ti5,t22,ti22,t35,ti35,t40,ti40,t47,ti47,t50,ti50,map_at_i,Zh,quo_w,ne_eq,not_true_eq_false,not_false_eq_true,tmod_two,not_two_zero,mul_cast,mul_w,sub_mul_w] <;> exact rfl) ?_) | (first | (refine st_g0 rfl rfl rfl (by simp only [St.put,Za,Zb] <;> exact rfl) ?_) | (refine st_gu rfl rfl rfl (by simp only [St.put,Za,Zb] <;> exact rfl) ?_)) | (refine st_split rfl rfl rfl (by simp only [Za,Zb] <;> exact rfl) (by simp only [Za,Zb] <;> exact rfl) (fun hg => ?_) (fun hg => ?_) <;> (try simp only [Zp,Zi,ZJ,ZK,ne_eq,Zn,Zm,Bool.not_eq_true,Zu] at hg) <;> first | (refine st_g1 rfl rfl rfl (by simp (disch := omega) only [stepf,callOf,qop,fop,St.ev,St.put,cd,zd,Value.oneCell',tb_T,TypeDesc.aggB,getD_0,getD_s,Ze,Zd,Zc,Za,Zb,Zr,ZE,ZF,Zf,Zq,Zg,i64_w,Zt,Zs,qBin,iop,qLen,min_ite,t1,ti1,t2,ti2,t3,ti3,t4,ti4,t5,ti5,t22,ti22,t35,ti35,t40,ti40,t47,ti47,t50,ti50,map_at_i,Zh,quo_w,ne_eq,not_true_eq_false,not_false_eq_true,tmod_two,not_two_zero,mul_cast,mul_w,sub_mul_w] <;> exact rfl) ?_) | (first | (refine st_g0 rfl rfl rfl (by simp only [St.put,Za,Zb] <;> exact rfl) ?_) | (refine st_gu rfl rfl rfl (by simp only [St.put,Za,Zb] <;> exact rfl) ?_))))
      (all_goals refine st_op rfl (by simp (disch := omega) only [stepf,callOf,qop,fop,St.ev,St.put,cd,zd,Value.oneCell',tb_T,TypeDesc.aggB,getD_0,getD_s,Ze,Zd,Zc,Za,Zb,Zr,ZE,ZF,Zf,Zq,Zg,i64_w,Zt,Zs,qBin,iop,qLen,min_ite,t1,ti1,t2,ti2,t3,ti3,t4,ti4,t5,ti5,t22,ti22,t35,ti35,t40,ti40,t47,ti47,t50,ti50,map_at_i,Zh,quo_w,ne_eq,not_true_eq_false,not_false_eq_true,tmod_two,not_two_zero,mul_cast,mul_w,sub_mul_w] <;> exact rfl) ?_)
      all_goals refine aops_nil ?_
      all_goals refine ⟨rfl, ?_, leB_self _, leV_self _, rfl, rfl⟩
      all_goals repeat' (first | exact leL_nil | refine leL_a ?_ | refine leL_r rfl ?_ | refine leL_r ?_ ?_)
      all_goals refine jn ?_
      all_goals ((try simp only [Zp,Zi,ZJ,ZK,Bool.not_eq_true,Zm,Zn,ne_eq,Zf,true_iff,false_iff,iff_true,iff_false] at *) <;> omega)
    refine exq_n ?_
    refine aw_cond _ rfl (fun hc1 => ?_) (fun hc1 => ?_)
    · try simp only [Zp,Zi,ZK,ZJ,ne_eq,Zn,Zm,ZB,ZA,ZI,not_or,not_and,Zu] at hc1
      refine aw_seq ?_
      refine aw_regK hX hb [0] rfl (σ' := ?s6) (fun K hK => ?h6) ?n6
      case h6 =>
        (refine st_op rfl (by simp (disch := omega) only [stepf,callOf,qop,fop,St.ev,St.put,cd,zd,Value.oneCell',tb_T,TypeDesc.aggB,getD_0,getD_s,Ze,Zd,Zc,Za,Zb,Zr,ZE,ZF,Zf,Zq,Zg,i64_w,Zt,Zs,map_at_i,Zh,quo_w,ne_eq,not_true_eq_false,not_false_eq_true,tmod_two,not_two_zero,mul_cast] <;> exact rfl) ?_)
        refine aops_nil ?_
        exact hK
      refine exq_n ?_
      refine aw_ret ?_
      refine exq_r ?_
      exact ret_r rfl (resOf_one rfl (by first | rfl | (first | (rw [refVer_1 hc0]; rfl) | (rw [refVer_2 (by omega) hc1]; rfl) | (rw [refVer_3 (by omega) hc1, ← hv, verL_bad (by omega) hc3 (by omega)]; rfl) | (rw [refVer_3 (by omega) hc1, ← hv, verL_one (by omega)]; rfl))))
    · try simp only [Zp,Zi,ZK,ZJ,ne_eq,Zn,Zm,ZB,ZA,ZI,not_or,not_and,Zu] at hc1
      obtain ⟨x, hx⟩ : ∃ x : Nat, index = x := ⟨index.toNat, by omega⟩
      subst hx
      refine aw_skip ?_
      refine exq_n ?_
      refine aw_seq ?_
      refine aw_regK hX hb [0, 1, 2] rfl (σ' := ?s7) (fun K hK => ?h7) ?n7
      case h7 =>
        (refine st_op rfl (by simp (disch := omega) only [stepf,callOf,qop,fop,St.ev,St.put,cd,zd,Value.oneCell',tb_T,TypeDesc.aggB,getD_0,getD_s,Ze,Zd,Zc,Za,Zb,Zr,ZE,ZF,Zf,Zq,Zg,i64_w,Zt,Zs,pvAll,D.pv?,t4,ti4,t5,ti5,t22,ti22,t50,ti50,t54,ti54,map_at_i,Zh,quo_w,ne_eq,not_true_eq_false,not_false_eq_true,tmod_two,not_two_zero,mul_cast] <;> exact rfl) ?_)
        refine st_call rfl (by simp only [callOf,St.ev,getD_0,getD_s,pvAll,D.pv?,ZG,ZH,zd,cd,Value.oneCell',Zr] <;> exact rfl) (acK hP (c62 _ hd)) (by simp only [St.put,Za,Zb] <;> exact rfl) ?_
        (refine st_op rfl (by simp (disch := omega) only [stepf,callOf,qop,fop,St.ev,St.put,cd,zd,Value.oneCell',tb_T,TypeDesc.aggB,getD_0,getD_s,Ze,Zd,Zc,Za,Zb,Zr,ZE,ZF,Zf,Zq,Zg,i64_w,Zt,Zs,pvAll,D.pv?,t4,ti4,t5,ti5,t22,ti22,t50,ti50,t54,ti54,map_at_i,Zh,quo_w,ne_eq,not_true_eq_false,not_false_eq_true,tmod_two,not_two_zero,mul_cast] <;> exact rfl) ?_)
        refine aops_nil ?_
        exact hK
      refine exq_n ?_
      refine aw_seq ?_
      refine aw_block ?_
      refine aw_loop (ι := Nat × Nat × Int × List Int) (fun p => p.1 ≤ 4096 ∧ p.2.1 ≤ 4096 ∧ verL root p.1 p.2.1 p.2.2.1 p.2.2.2 = verL root (nLeaves S F) x (secsD data) proof) (fun p => ⟨[], [.p (u64 root), .any, .any, .p (i64 p.2.1), .any, .p (u64s p.2.2.2), .any, .any, .any, .any, .any, .any, .any, .p (i64 p.1), .p (u64 p.2.2.1), .any, .any, .any, .any, .any, .any, .any, .any, .any, .any, .any, .any, .any, .any, .any, .any, .any, .any, .any, .any, .any, .any, .any, .any, .any, .any, .any, .any, .any, .any, .any, .any, .any, .any, .any, .any, .any, .any, .any, .any, .any, .any, .any, .any, .any, .any, .any, .any, .any, .any, .any, .any, .any, .any, .any, .any, .any, .any, .any, .any, .any, .any, .any, .any, .any, .any, .any, .any, .any, .any, .any, .any, .any, .any, .any, .any, .any, .any, .any, .any], [], []⟩) (fun p => p.1) (nLeaves S F, x, secsD data, proof) (by exact ⟨by dsimp only; omega, by dsimp only; omega, rfl⟩) (wk_le ⟨rfl, leL_r (by first | rfl | (first | (dsimp only; rw [verP, if_pos hc3]; simp [List.take_of_length_le]) | (dsimp only; rw [verP, if_neg hc3]) | (dsimp only; rw [verD, if_pos hc3, if_pos (by omega)]) | (dsimp only; rw [verD, if_pos hc3, if_neg (by omega)]) | (dsimp only; rw [verD, if_neg hc3]) | exact congrArg (fun k => D.p (i64 k)) (by dsimp only; omega))) (leL_a (leL_a (leL_r (by first | rfl | (first | (dsimp only; rw [verP, if_pos hc3]; simp [List.take_of_length_le]) | (dsimp only; rw [verP, if_neg hc3]) | (dsimp only; rw [verD, if_pos hc3, if_pos (by omega)]) | (dsimp only; rw [verD, if_pos hc3, if_neg (by omega)]) | (dsimp only; rw [verD, if_neg hc3]) | exact congrArg (fun k => D.p (i64 k)) (by dsimp only; omega))) (leL_a (leL_r (by first | rfl | (first | (dsimp only; rw [verP, if_pos hc3]; simp [List.take_of_length_le]) | (dsimp only; rw [verP, if_neg hc3]) | (dsimp only; rw [verD, if_pos hc3, if_pos (by omega)]) | (dsimp only; rw [verD, if_pos hc3, if_neg (by omega)]) | (dsimp only; rw [verD, if_neg hc3]) | exact congrArg (fun k => D.p (i64 k)) (by dsimp only; omega))) (leL_a (leL_a (leL_a (leL_a (leL_a (leL_a (leL_a (leL_r (by first | rfl | (first | (dsimp only; rw [verP, if_pos hc3]; simp [List.take_of_length_le]) | (dsimp only; rw [verP, if_neg hc3]) | (dsimp only; rw [verD, if_pos hc3, if_pos (by omega)]) | (dsimp only; rw [verD, if_pos hc3, if_neg (by omega)]) | (dsimp only; rw [verD, if_neg hc3]) | exact congrArg (fun k => D.p (i64 k)) (by dsimp only; omega))) (leL_r (by first | rfl | (first | (dsimp only; rw [verP, if_pos hc3]; simp [List.take_of_length_le]) | (dsimp only; rw [verP, if_neg hc3]) | (dsimp only; rw [verD, if_pos hc3, if_pos (by omega)]) | (dsimp only; rw [verD, if_pos hc3, if_neg (by omega)]) | (dsimp only; rw [verD, if_neg hc3]) | exact congrArg (fun k => D.p (i64 k)) (by dsimp only; omega))) (leL_a (leL_a (leL_a (leL_a (leL_a (leL_a (leL_a (leL_a (leL_a (leL_a (leL_a (leL_a (leL_a (leL_a (leL_a (leL_a (leL_a (leL_a (leL_a (leL_a (leL_a (leL_a (leL_a (leL_a (leL_a (leL_a (leL_a (leL_a (leL_a (leL_a (leL_a (leL_a (leL_a (leL_a (leL_a (leL_a (leL_a (leL_a (leL_a (leL_a (leL_a (leL_a (leL_a (leL_a (leL_a (leL_a (leL_a (leL_a (leL_a (leL_a (leL_a (leL_a (leL_a (leL_a (leL_a (leL_a (leL_a (leL_a (leL_a (leL_a (leL_a (leL_a (leL_a (leL_a (leL_a (leL_a (leL_a (leL_a (leL_a (leL_a (leL_a (leL_a (leL_a (leL_a (leL_a (leL_a (leL_a (leL_a (leL_a (leL_a (leL_nil))))))))))))))))))))))))))))))))))))))))))))))))))))))))))))))))))))))))))))))))))))))))))))))), (leB_nil _), (leV_nil _), rfl, rfl⟩) ?_
      rintro ⟨n, i, d, pr⟩ ⟨hn, hi, hv⟩
      dsimp only at hn hi hv ⊢
      refine aw_seq ?_
      refine aw_seq ?_
      refine aw_regK hX hb [0, 1] rfl (σ' := ?s8) (fun K hK => ?h8) ?n8
      case h8 =>
        iterate 2 (refine st_op rfl (by simp (disch := omega) only [stepf,callOf,qop,fop,St.ev,St.put,cd,zd,Value.oneCell',tb_T,TypeDesc.aggB,getD_0,getD_s,Ze,Zd,Zc,Za,Zb,Zr,ZE,ZF,Zf,Zq,Zg,i64_w,Zt,Zs,qBin,iop,t1,ti1,t3,ti3,map_at_i,Zh,quo_w,ne_eq,not_true_eq_false,not_false_eq_true,tmod_two,not_two_zero,mul_cast] <;> exact rfl) ?_)
        refine aops_nil ?_
        exact hK
      refine exq_n ?_
      refine aw_cond _ rfl (fun hc2 => ?_) (fun hc2 => ?_)
      · try simp only [Zp,Zi,ZK,ZJ,ne_eq,Zn,Zm,ZB,ZA,ZI,not_or,not_and,Zu] at hc2
        refine aw_skip ?_
        refine exq_n ?_
        refine aw_block ?_
        refine aw_seq ?_
        refine aw_seq ?_
        refine aw_regK hX hb [0, 1, 2, 3, 4, 5, 6, 7] rfl (σ' := ?s9) (fun K hK => ?h9) ?n9
        case h9 =>
          iterate 2 (refine st_op rfl (by simp (disch := omega) only [stepf,callOf,qop,fop,St.ev,St.put,cd,zd,Value.oneCell',tb_T,TypeDesc.aggB,getD_0,getD_s,Ze,Zd,Zc,Za,Zb,Zr,ZE,ZF,Zf,Zq,Zg,i64_w,Zt,Zs,pvAll,D.pv?,qTup,PV.d,t1,ti1,t3,ti3,t58,ti58,t60,ti60,map_at_i,Zh,quo_w,ne_eq,not_true_eq_false,not_false_eq_true,tmod_two,not_two_zero,mul_cast] <;> exact rfl) ?_)
          refine st_call rfl (by simp only [callOf,St.ev,getD_0,getD_s,pvAll,D.pv?,ZG,ZH,zd,cd,Value.oneCell',Zr] <;> exact rfl) (acK hP (c78' i n (by omega))) (by simp only [St.put,Za,Zb] <;> exact rfl) ?_
          iterate 5 (refine st_op rfl (by simp (disch := omega) only [stepf,callOf,qop,fop,St.ev,St.put,cd,zd,Value.oneCell',tb_T,TypeDesc.aggB,getD_0,getD_s,Ze,Zd,Zc,Za,Zb,Zr,ZE,ZF,Zf,Zq,Zg,i64_w,Zt,Zs,pvAll,D.pv?,qTup,PV.d,t1,ti1,t3,ti3,t58,ti58,t60,ti60,map_at_i,Zh,quo_w,ne_eq,not_true_eq_false,not_false_eq_true,tmod_two,not_two_zero,mul_cast] <;> exact rfl) ?_)
          refine aops_nil ?_
          exact hK
        refine exq_n ?_
        refine aw_seq ?_
        refine aw_regK hX hb [0] rfl (σ' := ?s10) (fun K hK => ?h10) ?n10
        case h10 =>
          (refine st_op rfl (by simp (disch := omega) only [stepf,callOf,qop,fop,St.ev,St.put,cd,zd,Value.oneCell',tb_T,TypeDesc.aggB,getD_0,getD_s,Ze,Zd,Zc,Za,Zb,Zr,ZE,ZF,Zf,Zq,Zg,i64_w,Zt,Zs,map_at_i,Zh,quo_w,ne_eq,not_true_eq_false,not_false_eq_true,tmod_two,not_two_zero,mul_cast] <;> exact rfl) ?_)
          refine aops_nil ?_
          exact hK
        refine exq_n ?_
        refine aw_cond _ rfl (fun hc3 => ?_) (fun hc3 => ?_)
        · try simp only [Zp,Zi,ZK,ZJ,ne_eq,Zn,Zm,ZB,ZA,ZI,not_or,not_and,Zu] at hc3
          refine aw_seq ?_
          refine aw_seq ?_
          refine aw_regK hX hb [0, 1, 2] rfl (σ' := ?s11) (fun K hK => ?h11) ?n11
          case h11 =>
            iterate 3 (refine st_op rfl (by simp (disch := omega) only [stepf,callOf,qop,fop,St.ev,St.put,cd,zd,Value.oneCell',tb_T,TypeDesc.aggB,getD_0,getD_s,Ze,Zd,Zc,Za,Zb,Zr,ZE,ZF,Zf,Zq,Zg,i64_w,Zt,Zs,qLen,qBin,iop,t3,ti3,t5,ti5,t58,ti58,t60,ti60,map_at_i,Zh,quo_w,ne_eq,not_true_eq_false,not_false_eq_true,tmod_two,not_two_zero,mul_cast] <;> exact rfl) ?_)
            refine aops_nil ?_
            exact hK
          refine exq_n ?_
          refine aw_cond _ rfl (fun hc4 => ?_) (fun hc4 => ?_)
          · try simp only [Zp,Zi,ZK,ZJ,ne_eq,Zn,Zm,ZB,ZA,ZI,not_or,not_and,Zu] at hc4
            refine aw_seq ?_
            refine aw_regK hX hb [0] rfl (σ' := ?s12) (fun K hK => ?h12) ?n12
            case h12 =>
              (refine st_op rfl (by simp (disch := omega) only [stepf,callOf,qop,fop,St.ev,St.put,cd,zd,Value.oneCell',tb_T,TypeDesc.aggB,getD_0,getD_s,Ze,Zd,Zc,Za,Zb,Zr,ZE,ZF,Zf,Zq,Zg,i64_w,Zt,Zs,map_at_i,Zh,quo_w,ne_eq,not_true_eq_false,not_false_eq_true,tmod_two,not_two_zero,mul_cast] <;> exact rfl) ?_)
              refine aops_nil ?_
              exact hK
            refine exq_n ?_
            refine aw_ret ?_
            refine exq_r ?_
            refine exq_r ?_
            refine exb_r ?_
            refine exq_r ?_
            refine exb_r ?_
            refine exq_r ?_
            exact ret_r rfl (resOf_one rfl (by first | rfl | (first | (rw [refVer_1 hc0]; rfl) | (rw [refVer_2 (by omega) hc1]; rfl) | (rw [refVer_3 (by omega) hc1, ← hv, verL_bad (by omega) hc3 (by omega)]; rfl) | (rw [refVer_3 (by omega) hc1, ← hv, verL_one (by omega)]; rfl))))
          · try simp only [Zp,Zi,ZK,ZJ,ne_eq,Zn,Zm,ZB,ZA,ZI,not_or,not_and,Zu] at hc4
            refine aw_skip ?_
            refine exq_n ?_
            refine aw_seq ?_
            refine aw_seq ?_
            refine aw_regK hX hb [0, 1, 2] rfl (σ' := ?s13) (fun K hK => ?h13) ?n13
            case h13 =>
              iterate 3 (refine st_op rfl (by simp (disch := omega) only [stepf,callOf,qop,fop,St.ev,St.put,cd,zd,Value.oneCell',tb_T,TypeDesc.aggB,getD_0,getD_s,Ze,Zd,Zc,Za,Zb,Zr,ZE,ZF,Zf,Zq,Zg,i64_w,Zt,Zs,qBin,iop,t1,ti1,t2,ti2,t3,ti3,map_at_i,Zh,quo_w,ne_eq,not_true_eq_false,not_false_eq_true,tmod_two,not_two_zero,mul_cast] <;> exact rfl) ?_)
              refine aops_nil ?_
              exact hK
            refine exq_n ?_
            refine aw_cond _ rfl (fun hc5 => ?_) (fun hc5 => ?_)
            · try simp only [Zp,Zi,ZK,ZJ,ne_eq,Zn,Zm,ZB,ZA,ZI,not_or,not_and,Zu] at hc5
              refine aw_regK hX hb [0, 1, 2, 3, 4, 5] rfl (σ' := ?s14) (fun K hK => ?h14) ?n14
              case h14 =>
                iterate 4 (refine st_op rfl (by simp (disch := omega) only [stepf,callOf,qop,fop,St.ev,St.put,cd,zd,Value.oneCell',tb_T,TypeDesc.aggB,getD_0,getD_s,Ze,Zd,Zc,Za,Zb,Zr,ZE,ZF,Zf,Zq,Zg,i64_w,Zt,Zs,Int.toNat_zero,Int.toNat_one,toNat_pred,toNat_succ,qIndexAddr,ZO,Nat.mul_one,ZC,Nat.zero_mul,Zh,Zl,Zo,Zv,Zw,Zj,Zk,Zx,Zy,qLoad,bload,pload,pureAll,D.pure?,ZD,pvAll,D.pv?,t3,ti3,t5,ti5,t22,ti22,t50,ti50,t58,ti58,t60,ti60,t63,ti63,t71,ti71,map_at_i,quo_w,ne_eq,not_true_eq_false,not_false_eq_true,tmod_two,not_two_zero,mul_cast] <;> exact rfl) ?_)
                refine st_call rfl (by simp only [callOf,St.ev,getD_0,getD_s,pvAll,D.pv?,ZG,ZH,zd,cd,Value.oneCell',Zr] <;> exact rfl) (acK hP (c63 _ _)) (by simp only [St.put,Za,Zb] <;> exact rfl) ?_
                (refine st_op rfl (by simp (disch := omega) only [stepf,callOf,qop,fop,St.ev,St.put,cd,zd,Value.oneCell',tb_T,TypeDesc.aggB,getD_0,getD_s,Ze,Zd,Zc,Za,Zb,Zr,ZE,ZF,Zf,Zq,Zg,i64_w,Zt,Zs,Int.toNat_zero,Int.toNat_one,toNat_pred,toNat_succ,qIndexAddr,ZO,Nat.mul_one,ZC,Nat.zero_mul,Zh,Zl,Zo,Zv,Zw,Zj,Zk,Zx,Zy,qLoad,bload,pload,pureAll,D.pure?,ZD,pvAll,D.pv?,t3,ti3,t5,ti5,t22,ti22,t50,ti50,t58,ti58,t60,ti60,t63,ti63,t71,ti71,map_at_i,quo_w,ne_eq,not_true_eq_false,not_false_eq_true,tmod_two,not_two_zero,mul_cast] <;> exact rfl) ?_)
                refine aops_nil ?_
                exact hK
              refine exq_n ?_
              refine aw_regK hX hb [0, 1, 2] rfl (σ' := ?s15) (fun K hK => ?h15) ?n15
              case h15 =>
                iterate 3 (refine st_op rfl (by simp (disch := omega) only [stepf,callOf,qop,fop,St.ev,St.put,cd,zd,Value.oneCell',tb_T,TypeDesc.aggB,getD_0,getD_s,Ze,Zd,Zc,Za,Zb,Zr,ZE,ZF,Zf,Zq,Zg,i64_w,Zt,Zs,imp_self,Int.toNat_one,Int.toNat_zero,Nat.one_mul,qSlice,bnd,Option.isSome_none,ZP,Option.map_none,implies_true,forall_const,ZO,Nat.sub_zero,t1,ti1,t5,ti5,t58,ti58,t60,ti60,map_at_i,Zh,quo_w,ne_eq,not_true_eq_false,not_false_eq_true,tmod_two,not_two_zero,mul_cast] <;> exact rfl) ?_)
                refine aops_nil ?_
                exact hK
              refine exq_n ?_
              refine aw_regK hX hb [0, 1, 2, 3, 4, 5, 6] rfl (σ' := ?s16) (fun K hK => ?h16) ?n16
              case h16 =>
                iterate 7 (refine st_op rfl (by simp (disch := omega) only [stepf,callOf,qop,fop,St.ev,St.put,cd,zd,Value.oneCell',tb_T,TypeDesc.aggB,getD_0,getD_s,Ze,Zd,Zc,Za,Zb,Zr,ZE,ZF,Zf,Zq,Zg,i64_w,Zt,Zs,qBin,iop,t1,ti1,t2,ti2,t3,ti3,map_at_i,Zh,quo_w,ne_eq,not_true_eq_false,not_false_eq_true,tmod_two,not_two_zero,mul_cast] <;> exact rfl) ?_)
                refine aops_nil ?_
                exact hK
              refine exb_n ?_
              refine exq_n ?_
              exact ⟨((n + 1) / 2, i / 2, verD i n d pr, verP i n pr), by exact ⟨by dsimp only; omega, by dsimp only; omega, by dsimp only; rw [← verL_step (by omega) (by first | (intro _; omega) | (intro h; exact absurd h hc3))]; exact hv⟩, by (try dsimp only); omega, wk_le ⟨rfl, leL_r (by first | rfl | (first | (dsimp only; rw [verP, if_pos hc3]; simp [List.take_of_length_le]) | (dsimp only; rw [verP, if_neg hc3]) | (dsimp only; rw [verD, if_pos hc3, if_pos (by omega)]) | (dsimp only; rw [verD, if_pos hc3, if_neg (by omega)]) | (dsimp only; rw [verD, if_neg hc3]) | exact congrArg (fun k => D.p (i64 k)) (by dsimp only; omega))) (leL_a (leL_a (leL_r (by first | rfl | (first | (dsimp only; rw [verP, if_pos hc3]; simp [List.take_of_length_le]) | (dsimp only; rw [verP, if_neg hc3]) | (dsimp only; rw [verD, if_pos hc3, if_pos (by omega)]) | (dsimp only; rw [verD, if_pos hc3, if_neg (by omega)]) | (dsimp only; rw [verD, if_neg hc3]) | exact congrArg (fun k => D.p (i64 k)) (by dsimp only; omega))) (leL_a (leL_r (by first | rfl | (first | (dsimp only; rw [verP, if_pos hc3]; simp [List.take_of_length_le]) | (dsimp only; rw [verP, if_neg hc3]) | (dsimp only; rw [verD, if_pos hc3, if_pos (by omega)]) | (dsimp only; rw [verD, if_pos hc3, if_neg (by omega)]) | (dsimp only; rw [verD, if_neg hc3]) | exact congrArg (fun k => D.p (i64 k)) (by dsimp only; omega))) (leL_a (leL_a (leL_a (leL_a (leL_a (leL_a (leL_a (leL_r (by first | rfl | (first | (dsimp only; rw [verP, if_pos hc3]; simp [List.take_of_length_le]) | (dsimp only; rw [verP, if_neg hc3]) | (dsimp only; rw [verD, if_pos hc3, if_pos (by omega)]) | (dsimp only; rw [verD, if_pos hc3, if_neg (by omega)]) | (dsimp only; rw [verD, if_neg hc3]) | exact congrArg (fun k => D.p (i64 k)) (by dsimp only; omega))) (leL_r (by first | rfl | (first | (dsimp only; rw [verP, if_pos hc3]; simp [List.take_of_length_le]) | (dsimp only; rw [verP, if_neg hc3]) | (dsimp only; rw [verD, if_pos hc3, if_pos (by omega)]) | (dsimp only; rw [verD, if_pos hc3, if_neg (by omega)]) | (dsimp only; rw [verD, if_neg hc3]) | exact congrArg (fun k => D.p (i64 k)) (by dsimp only; omega))) (leL_a (leL_a (leL_a (leL_a (leL_a (leL_a (leL_a (leL_a (leL_a (leL_a (leL_a (leL_a (leL_a (leL_a (leL_a (leL_a (leL_a (leL_a (leL_a (leL_a (leL_a (leL_a (leL_a (leL_a (leL_a (leL_a (leL_a (leL_a (leL_a (leL_a (leL_a (leL_a (leL_a (leL_a (leL_a (leL_a (leL_a (leL_a (leL_a (leL_a (leL_a (leL_a (leL_a (leL_a (leL_a (leL_a (leL_a (leL_a (leL_a (leL_a (leL_a (leL_a (leL_a (leL_a (leL_a (leL_a (leL_a (leL_a (leL_a (leL_a (leL_a (leL_a (leL_a (leL_a (leL_a (leL_a (leL_a (leL_a (leL_a (leL_a (leL_a (leL_a (leL_a (leL_a (leL_a (leL_a (leL_a (leL_a (leL_a (leL_a (leL_nil))))))))))))))))))))))))))))))))))))))))))))))))))))))))))))))))))))))))))))))))))))))))))))))), (leB_nil _), (leV_nil _), rfl, rfl⟩⟩
            · try simp only [Zp,Zi,ZK,ZJ,ne_eq,Zn,Zm,ZB,ZA,ZI,not_or,not_and,Zu] at hc5
              refine aw_regK hX hb [0, 1, 2, 3, 4, 5] rfl (σ' := ?s17) (fun K hK => ?h17) ?n17
              case h17 =>
                iterate 4 (refine st_op rfl (by simp (disch := omega) only [stepf,callOf,qop,fop,St.ev,St.put,cd,zd,Value.oneCell',tb_T,TypeDesc.aggB,getD_0,getD_s,Ze,Zd,Zc,Za,Zb,Zr,ZE,ZF,Zf,Zq,Zg,i64_w,Zt,Zs,Int.toNat_zero,Int.toNat_one,toNat_pred,toNat_succ,qIndexAddr,ZO,Nat.mul_one,ZC,Nat.zero_mul,Zh,Zl,Zo,Zv,Zw,Zj,Zk,Zx,Zy,qLoad,bload,pload,pureAll,D.pure?,ZD,pvAll,D.pv?,t3,ti3,t4,ti4,t5,ti5,t22,ti22,t24,ti24,t26,ti26,t35,ti35,t40,ti40,t50,ti50,t58,ti58,t60,ti60,t63,ti63,t75,ti75,t77,ti77,t87,ti87,t88,ti88,t90,ti90,map_at_i,quo_w,ne_eq,not_true_eq_false,not_false_eq_true,tmod_two,not_two_zero,mul_cast] <;> exact rfl) ?_)
                refine st_call rfl (by simp only [callOf,St.ev,getD_0,getD_s,pvAll,D.pv?,ZG,ZH,zd,cd,Value.oneCell',Zr] <;> exact rfl) (acK hP (c63 _ _)) (by simp only [St.put,Za,Zb] <;> exact rfl) ?_
                (refine st_op rfl (by simp (disch := omega) only [stepf,callOf,qop,fop,St.ev,St.put,cd,zd,Value.oneCell',tb_T,TypeDesc.aggB,getD_0,getD_s,Ze,Zd,Zc,Za,Zb,Zr,ZE,ZF,Zf,Zq,Zg,i64_w,Zt,Zs,Int.toNat_zero,Int.toNat_one,toNat_pred,toNat_succ,qIndexAddr,ZO,Nat.mul_one,ZC,Nat.zero_mul,Zh,Zl,Zo,Zv,Zw,Zj,Zk,Zx,Zy,qLoad,bload,pload,pureAll,D.pure?,ZD,pvAll,D.pv?,t3,ti3,t4,ti4,t5,ti5,t22,ti22,t24,ti24,t26,ti26,t35,ti35,t40,ti40,t50,ti50,t58,ti58,t60,ti60,t63,ti63,t75,ti75,t77,ti77,t87,ti87,t88,ti88,t90,ti90,map_at_i,quo_w,ne_eq,not_true_eq_false,not_false_eq_true,tmod_two,not_two_zero,mul_cast] <;> exact rfl) ?_)
                refine aops_nil ?_
                exact hK
              refine exq_n ?_
              refine aw_regK hX hb [0, 1, 2] rfl (σ' := ?s18) (fun K hK => ?h18) ?n18
              case h18 =>
                iterate 3 (refine st_op rfl (by simp (disch := omega) only [stepf,callOf,qop,fop,St.ev,St.put,cd,zd,Value.oneCell',tb_T,TypeDesc.aggB,getD_0,getD_s,Ze,Zd,Zc,Za,Zb,Zr,ZE,ZF,Zf,Zq,Zg,i64_w,Zt,Zs,imp_self,Int.toNat_one,Int.toNat_zero,Nat.one_mul,qSlice,bnd,Option.isSome_none,ZP,Option.map_none,implies_true,forall_const,ZO,Nat.sub_zero,t1,ti1,t5,ti5,t58,ti58,t60,ti60,map_at_i,Zh,quo_w,ne_eq,not_true_eq_false,not_false_eq_true,tmod_two,not_two_zero,mul_cast] <;> exact rfl) ?_)
                refine aops_nil ?_
                exact hK
              refine exq_n ?_
              refine aw_regK hX hb [0, 1, 2, 3, 4, 5, 6] rfl (σ' := ?s19) (fun K hK => ?h19) ?n19
              case h19 =>
                iterate 7 (refine st_op rfl (by simp (disch := omega) only [stepf,callOf,qop,fop,St.ev,St.put,cd,zd,Value.oneCell',tb_T,TypeDesc.aggB,getD_0,getD_s,Ze,Zd,Zc,Za,Zb,Zr,ZE,ZF,Zf,Zq,Zg,i64_w,Zt,Zs,qBin,iop,t1,ti1,t2,ti2,t3,ti3,map_at_i,Zh,quo_w,ne_eq,not_true_eq_false,not_false_eq_true,tmod_two,not_two_zero,mul_cast] <;> exact rfl) ?_)
                refine aops_nil ?_
                exact hK
              refine exb_n ?_
              refine exq_n ?_
              exact ⟨((n + 1) / 2, i / 2, verD i n d pr, verP i n pr), by exact ⟨by dsimp only; omega, by dsimp only; omega, by dsimp only; rw [← verL_step (by omega) (by first | (intro _; omega) | (intro h; exact absurd h hc3))]; exact hv⟩, by (try dsimp only); omega, wk_le ⟨rfl, leL_r (by first | rfl | (first | (dsimp only; rw [verP, if_pos hc3]; simp [List.take_of_length_le]) | (dsimp only; rw [verP, if_neg hc3]) | (dsimp only; rw [verD, if_pos hc3, if_pos (by omega)]) | (dsimp only; rw [verD, if_pos hc3, if_neg (by omega)]) | (dsimp only; rw [verD, if_neg hc3]) | exact congrArg (fun k => D.p (i64 k)) (by dsimp only; omega))) (leL_a (leL_a (leL_r (by first | rfl | (first | (dsimp only; rw [verP, if_pos hc3]; simp [List.take_of_length_le]) | (dsimp only; rw [verP, if_neg hc3]) | (dsimp only; rw [verD, if_pos hc3, if_pos (by omega)]) | (dsimp only; rw [verD, if_pos hc3, if_neg (by omega)]) | (dsimp only; rw [verD, if_neg hc3]) | exact congrArg (fun k => D.p (i64 k)) (by dsimp only; omega))) (leL_a (leL_r (by first | rfl | (first | (dsimp only; rw [verP, if_pos hc3]; simp [List.take_of_length_le]) | (dsimp only; rw [verP, if_neg hc3]) | (dsimp only; rw [verD, if_pos hc3, if_pos (by omega)]) | (dsimp only; rw [verD, if_pos hc3, if_neg (by omega)]) | (dsimp only; rw [verD, if_neg hc3]) | exact congrArg (fun k => D.p (i64 k)) (by dsimp only; omega))) (leL_a (leL_a (leL_a (leL_a (leL_a (leL_a (leL_a (leL_r (by first | rfl | (first | (dsimp only; rw [verP, if_pos hc3]; simp [List.take_of_length_le]) | (dsimp only; rw [verP, if_neg hc3]) | (dsimp only; rw [verD, if_pos hc3, if_pos (by omega)]) | (dsimp only; rw [verD, if_pos hc3, if_neg (by omega)]) | (dsimp only; rw [verD, if_neg hc3]) | exact congrArg (fun k => D.p (i64 k)) (by dsimp only; omega))) (leL_r (by first | rfl | (first | (dsimp only; rw [verP, if_pos hc3]; simp [List.take_of_length_le]) | (dsimp only; rw [verP, if_neg hc3]) | (dsimp only; rw [verD, if_pos hc3, if_pos (by omega)]) | (dsimp only; rw [verD, if_pos hc3, if_neg (by omega)]) | (dsimp only; rw [verD, if_neg hc3]) | exact congrArg (fun k => D.p (i64 k)) (by dsimp only; omega))) (leL_a (leL_a (leL_a (leL_a (leL_a (leL_a (leL_a (leL_a (leL_a (leL_a (leL_a (leL_a (leL_a (leL_a (leL_a (leL_a (leL_a (leL_a (leL_a (leL_a (leL_a (leL_a (leL_a (leL_a (leL_a (leL_a (leL_a (leL_a (leL_a (leL_a (leL_a (leL_a (leL_a (leL_a (leL_a (leL_a (leL_a (leL_a (leL_a (leL_a (leL_a (leL_a (leL_a (leL_a (leL_a (leL_a (leL_a (leL_a (leL_a (leL_a (leL_a (leL_a (leL_a (leL_a (leL_a (leL_a (leL_a (leL_a (leL_a (leL_a (leL_a (leL_a (leL_a (leL_a (leL_a (leL_a (leL_a (leL_a (leL_a (leL_a (leL_a (leL_a (leL_a (leL_a (leL_a (leL_a (leL_a (leL_a (leL_a (leL_a (leL_nil))))))))))))))))))))))))))))))))))))))))))))))))))))))))))))))))))))))))))))))))))))))))))))))), (leB_nil _), (leV_nil _), rfl, rfl⟩⟩
        · try simp only [Zp,Zi,ZK,ZJ,ne_eq,Zn,Zm,ZB,ZA,ZI,not_or,not_and,Zu] at hc3
          refine aw_skip ?_
          refine exq_n ?_
          refine aw_regK hX hb [0, 1, 2, 3, 4, 5, 6] rfl (σ' := ?s20) (fun K hK => ?h20) ?n20
          case h20 =>
            iterate 7 (refine st_op rfl (by simp (disch := omega) only [stepf,callOf,qop,fop,St.ev,St.put,cd,zd,Value.oneCell',tb_T,TypeDesc.aggB,getD_0,getD_s,Ze,Zd,Zc,Za,Zb,Zr,ZE,ZF,Zf,Zq,Zg,i64_w,Zt,Zs,qBin,iop,t1,ti1,t2,ti2,t3,ti3,map_at_i,Zh,quo_w,ne_eq,not_true_eq_false,not_false_eq_true,tmod_two,not_two_zero,mul_cast] <;> exact rfl) ?_)
            refine aops_nil ?_
            exact hK
          refine exb_n ?_
          refine exq_n ?_
          exact ⟨((n + 1) / 2, i / 2, verD i n d pr, verP i n pr), by exact ⟨by dsimp only; omega, by dsimp only; omega, by dsimp only; rw [← verL_step (by omega) (by first | (intro _; omega) | (intro h; exact absurd h hc3))]; exact hv⟩, by (try dsimp only); omega, wk_le ⟨rfl, leL_r (by first | rfl | (first | (dsimp only; rw [verP, if_pos hc3]; simp [List.take_of_length_le]) | (dsimp only; rw [verP, if_neg hc3]) | (dsimp only; rw [verD, if_pos hc3, if_pos (by omega)]) | (dsimp only; rw [verD, if_pos hc3, if_neg (by omega)]) | (dsimp only; rw [verD, if_neg hc3]) | exact congrArg (fun k => D.p (i64 k)) (by dsimp only; omega))) (leL_a (leL_a (leL_r (by first | rfl | (first | (dsimp only; rw [verP, if_pos hc3]; simp [List.take_of_length_le]) | (dsimp only; rw [verP, if_neg hc3]) | (dsimp only; rw [verD, if_pos hc3, if_pos (by omega)]) | (dsimp only; rw [verD, if_pos hc3, if_neg (by omega)]) | (dsimp only; rw [verD, if_neg hc3]) | exact congrArg (fun k => D.p (i64 k)) (by dsimp only; omega))) (leL_a (leL_r (by first | rfl | (first | (dsimp only; rw [verP, if_pos hc3]; simp [List.take_of_length_le]) | (dsimp only; rw [verP, if_neg hc3]) | (dsimp only; rw [verD, if_pos hc3, if_pos (by omega)]) | (dsimp only; rw [verD, if_pos hc3, if_neg (by omega)]) | (dsimp only; rw [verD, if_neg hc3]) | exact congrArg (fun k => D.p (i64 k)) (by dsimp only; omega))) (leL_a (leL_a (leL_a (leL_a (leL_a (leL_a (leL_a (leL_r (by first | rfl | (first | (dsimp only; rw [verP, if_pos hc3]; simp [List.take_of_length_le]) | (dsimp only; rw [verP, if_neg hc3]) | (dsimp only; rw [verD, if_pos hc3, if_pos (by omega)]) | (dsimp only; rw [verD, if_pos hc3, if_neg (by omega)]) | (dsimp only; rw [verD, if_neg hc3]) | exact congrArg (fun k => D.p (i64 k)) (by dsimp only; omega))) (leL_r (by first | rfl | (first | (dsimp only; rw [verP, if_pos hc3]; simp [List.take_of_length_le]) | (dsimp only; rw [verP, if_neg hc3]) | (dsimp only; rw [verD, if_pos hc3, if_pos (by omega)]) | (dsimp only; rw [verD, if_pos hc3, if_neg (by omega)]) | (dsimp only; rw [verD, if_neg hc3]) | exact congrArg (fun k => D.p (i64 k)) (by dsimp only; omega))) (leL_a (leL_a (leL_a (leL_a (leL_a (leL_a (leL_a (leL_a (leL_a (leL_a (leL_a (leL_a (leL_a (leL_a (leL_a (leL_a (leL_a (leL_a (leL_a (leL_a (leL_a (leL_a (leL_a (leL_a (leL_a (leL_a (leL_a (leL_a (leL_a (leL_a (leL_a (leL_a (leL_a (leL_a (leL_a (leL_a (leL_a (leL_a (leL_a (leL_a (leL_a (leL_a (leL_a (leL_a (leL_a (leL_a (leL_a (leL_a (leL_a (leL_a (leL_a (leL_a (leL_a (leL_a (leL_a (leL_a (leL_a (leL_a (leL_a (leL_a (leL_a (leL_a (leL_a (leL_a (leL_a (leL_a (leL_a (leL_a (leL_a (leL_a (leL_a (leL_a (leL_a (leL_a (leL_a (leL_a (leL_a (leL_a (leL_a (leL_a (leL_nil))))))))))))))))))))))))))))))))))))))))))))))))))))))))))))))))))))))))))))))))))))))))))))))), (leB_nil _), (leV_nil _), rfl, rfl⟩⟩
      · try simp only [Zp,Zi,ZK,ZJ,ne_eq,Zn,Zm,ZB,ZA,ZI,not_or,not_and,Zu] at hc2
        refine aw_exit ?_
        refine exq_e ?_
        refine exq_e ?_
        refine exb_h ?_
        refine exq_n ?_
        refine aw_seq ?_
        refine aw_regJ hX hb [0, 1, 2, 3, 4, 5, 6, 7, 8] rfl (ts := [87, 88, 89, 90, 91, 92, 93, 94]) (t := 12) (d := .p (bv (pr.length = 0 ∧ d = root))) (σ' := ?s21) ?j21 ?h21 ?n21
        case j21 => simp only [St.join,List.foldl,Za,Zb]; exact rfl
        case h21 =>
          iterate 4 (all_goals refine st_op rfl (by simp (disch := omega) only [stepf,callOf,qop,fop,St.ev,St.put,cd,zd,Value.oneCell',tb_T,TypeDesc.aggB,getD_0,getD_s,Ze,Zd,Zc,Za,Zb,Zr,ZE,ZF,Zf,Zq,Zg,i64_w,Zt,Zs,qLen,qBin,iop,t3,ti3,t5,ti5,t58,ti58,t60,ti60,t87,ti87,t88,ti88,t90,ti90,map_at_i,Zh,quo_w,ne_eq,not_true_eq_false,not_false_eq_true,tmod_two,not_two_zero,mul_cast] <;> exact rfl) ?_)
          iterate 3 (all_goals first | (refine st_g1 rfl rfl rfl (by simp (disch := omega) only [stepf,callOf,qop,fop,St.ev,St.put,cd,zd,Value.oneCell',tb_T,TypeDesc.aggB,getD_0,getD_s,Ze,Zd,Zc,Za,Zb,Zr,ZE,ZF,Zf,Zq,Zg,i64_w,Zt,Zs,qLen,qBin,iop,t3,ti3,t5,ti5,t58,ti58,t60,ti60,t87,ti87,t88,ti88,t90,ti90,map_at_i,Zh,quo_w,ne_eq,not_true_eq_false,not_false_eq_true,tmod_two,not_two_zero,mul_cast] <;> exact rfl) ?_) | (first | (refine st_g0 rfl rfl rfl (by simp only [St.put,Za,Zb] <;> exact rfl) ?_) | (refine st_gu rfl rfl rfl (by simp only [St.put,Za,Zb] <;> exact rfl) ?_)) | (refine st_split rfl rfl rfl (by simp only [Za,Zb] <;> exact rfl) (by simp only [Za,Zb] <;> exact rfl) (fun hg => ?_) (fun hg => ?_) <;> (try simp only [Zp,Zi,ZJ,ZK,ne_eq,Zn,Zm,Bool.not_eq_true,Zu] at hg) <;> first | (refine st_g1 rfl rfl rfl (by simp (disch := omega) only [stepf,callOf,qop,fop,St.ev,St.put,cd,zd,Value.oneCell',tb_T,TypeDesc.aggB,getD_0,getD_s,Ze,Zd,Zc,Za,Zb,Zr,ZE,ZF,Zf,Zq,Zg,i64_w,Zt,Zs,qLen,qBin,iop,t3,ti3,t5,ti5,t58,ti58,t60,ti60,t87,ti87,t88,ti88,t90,ti90,map_at_i,Zh,quo_w,ne_eq,not_true_eq_false,not_false_eq_true,tmod_two,not_two_zero,mul_cast] <;> exact rfl) ?_) | (first | (refine st_g0 rfl rfl rfl (by simp only [St.put,Za,Zb] <;> exact rfl) ?_) | (refine st_gu rfl rfl rfl (by simp only [St.put,Za,Zb] <;> exact rfl) ?_))))
          iterate 2 (all_goals refine st_op rfl (by simp (disch := omega) only [stepf,callOf,qop,fop,St.ev,St.put,cd,zd,Value.oneCell',tb_T,TypeDesc.aggB,getD_0,getD_s,Ze,Zd,Zc,Za,Zb,Zr,ZE,ZF,Zf,Zq,Zg,i64_w,Zt,Zs,qLen,qBin,iop,t3,ti3,t5,ti5,t58,ti58,t60,ti60,t87,ti87,t88,ti88,t90,ti90,map_at_i,Zh,quo_w,ne_eq,not_true_eq_false,not_false_eq_true,tmod_two,not_two_zero,mul_cast] <;> exact rfl) ?_)
          all_goals refine aops_nil ?_
          all_goals refine ⟨rfl, ?_, leB_self _, leV_self _, rfl, rfl⟩
          all_goals repeat' (first | exact leL_nil | refine leL_a ?_ | refine leL_r rfl ?_ | refine leL_r ?_ ?_)
          all_goals refine jn ?_
          all_goals ((try simp only [Zp,Zi,ZJ,ZK,Bool.not_eq_true,Zm,Zn,ne_eq,Zf,true_iff,false_iff,iff_true,iff_false] at *) <;> omega)
        refine exq_n ?_
        refine aw_ret ?_
        exact ret_r rfl (resOf_one rfl (by first | rfl | (first | (rw [refVer_1 hc0]; rfl) | (rw [refVer_2 (by omega) hc1]; rfl) | (rw [refVer_3 (by omega) hc1, ← hv, verL_bad (by omega) hc3 (by omega)]; rfl) | (rw [refVer_3 (by omega) hc1, ← hv, verL_one (by omega)]; rfl))))
end Go.Proofs.Ytldcoekbgfaomaa
end
section
namespace Go.Proofs.Ytldcoekbgfaomaa
open Go.RowKit
set_option maxRecDepth 20000
set_option maxHeartbeats 4000000
attribute [local irreducible] AOps AOpsD AW
def limI (s f : Int) : Int := if s < 1 ∨ 4096 < s then 2 else if f < 1 ∨ 4096 < f then 1 else 0
theorem c64 (s f : Int) : ACalls Try.prog 64 [.p (i64 s), .p (i64 f)] (.p (i64 (limI s f))) := by
  refine acalls_of tb_ok Try.func64 (c := _) rfl (by kernel_rfl) ?_
  intro X hP hX hro hpl
  have hb : tb.Ok X.P := hP ▸ tb_ok
  change AW X _ _ ⟨[], [.p (i64 s), .p (i64 f), .any, .any, .any, .any, .any, .any, .any, .any, .any, .any, .any, .any, .any, .any, .any, .any, .any], [], []⟩
  refine aw_seq ?_
  refine aw_regK hX hb [0] rfl (σ' := ?s1) (fun K hK => ?h1) ?n1
  case h1 =>
    (refine st_op rfl (by simp (disch := omega) only [stepf,callOf,qop,fop,St.ev,St.put,cd,zd,Value.oneCell',tb_T,TypeDesc.aggB,getD_0,getD_s,Ze,Zd,Zc,Za,Zb,Zr,ZE,ZF,Zf,Zq,Zg,i64_w,Zt,Zs] <;> exact rfl) ?_)
    refine aops_nil ?_
    exact hK
  refine exq_n ?_
  refine aw_seq ?_
  refine aw_block ?_
  refine aw_seq ?_
  refine aw_regJ hX hb [0, 1, 2, 3, 4, 5, 6] rfl (ts := [6, 7, 8, 9, 10, 11]) (t := 5) (d := .p (bv (s < 1 ∨ 4096 < s))) (σ' := ?s2) ?j2 ?h2 ?n2
  case j2 => simp only [St.join,List.foldl,Za,Zb]; exact rfl
  case h2 =>
    iterate 3 (all_goals refine st_op rfl (by simp (disch := omega) only [stepf,callOf,qop,fop,St.ev,St.put,cd,zd,Value.oneCell',tb_T,TypeDesc.aggB,getD_0,getD_s,Ze,Zd,Zc,Za,Zb,Zr,ZE,ZF,Zf,Zq,Zg,i64_w,Zt,Zs,qBin,iop,t1,ti1,t3,ti3] <;> exact rfl) ?_)
    iterate 2 (all_goals first | (refine st_g1 rfl rfl rfl (by simp (disch := omega) only [stepf,callOf,qop,fop,St.ev,St.put,cd,zd,Value.oneCell',tb_T,TypeDesc.aggB,getD_0,getD_s,Ze,Zd,Zc,Za,Zb,Zr,ZE,ZF,Zf,Zq,Zg,i64_w,Zt,Zs,qBin,iop,t1,ti1,t3,ti3] <;> exact rfl) ?_) | (first | (refine st_g0 rfl rfl rfl (by simp only [St.put,Za,Zb] <;> exact rfl) ?_) | (refine st_gu rfl rfl rfl (by simp only [St.put,Za,Zb] <;> exact rfl) ?_)) | (refine st_split rfl rfl rfl (by simp only [Za,Zb] <;> exact rfl) (by simp only [Za,Zb] <;> exact rfl) (fun hg => ?_) (fun hg => ?_) <;> (try simp only [Zp,Zi,ZJ,ZK,ne_eq,Zn,Zm,Bool.not_eq_true,Zu] at hg) <;> first | (refine st_g1 rfl rfl rfl (by simp (disch := omega) only [stepf,callOf,qop,fop,St.ev,St.put,cd,zd,Value.oneCell',tb_T,TypeDesc.aggB,getD_0,getD_s,Ze,Zd,Zc,Za,Zb,Zr,ZE,ZF,Zf,Zq,Zg,i64_w,Zt,Zs,qBin,iop,t1,ti1,t3,ti3] <;> exact rfl) ?_) | (first | (refine st_g0 rfl rfl rfl (by simp only [St.put,Za,Zb] <;> exact rfl) ?_) | (refine st_gu rfl rfl rfl (by simp only [St.put,Za,Zb] <;> exact rfl) ?_))))
    iterate 2 (all_goals refine st_op rfl (by simp (disch := omega) only [stepf,callOf,qop,fop,St.ev,St.put,cd,zd,Value.oneCell',tb_T,TypeDesc.aggB,getD_0,getD_s,Ze,Zd,Zc,Za,Zb,Zr,ZE,ZF,Zf,Zq,Zg,i64_w,Zt,Zs,qBin,iop,t1,ti1,t3,ti3] <;> exact rfl) ?_)
    all_goals refine aops_nil ?_
    all_goals refine ⟨rfl, ?_, leB_self _, leV_self _, rfl, rfl⟩
    all_goals repeat' (first | exact leL_nil | refine leL_a ?_ | refine leL_r rfl ?_ | refine leL_r ?_ ?_)
    all_goals refine jn ?_
    all_goals ((try simp only [Zp,Zi,ZJ,ZK,Bool.not_eq_true,Zm,Zn,ne_eq,Zf,true_iff,false_iff,iff_true,iff_false] at *) <;> omega)
  refine exq_n ?_
  refine aw_cond _ rfl (fun hc0 => ?_) (fun hc0 => ?_)
  · try simp only [Zp,Zi,ZK,ZJ,ne_eq,Zn,Zm,ZB,ZA,ZI,not_or,not_and,Zu] at hc0
    refine aw_seq ?_
    refine aw_regK hX hb [0] rfl (σ' := ?s3) (fun K hK => ?h3) ?n3
    case h3 =>
      (refine st_op rfl (by simp (disch := omega) only [stepf,callOf,qop,fop,St.ev,St.put,cd,zd,Value.oneCell',tb_T,TypeDesc.aggB,getD_0,getD_s,Ze,Zd,Zc,Za,Zb,Zr,ZE,ZF,Zf,Zq,Zg,i64_w,Zt,Zs,t2,ti2] <;> exact rfl) ?_)
      refine aops_nil ?_
      exact hK
    refine exq_n ?_
    refine aw_ret ?_
    refine exb_r ?_
    refine exq_r ?_
    exact ret_r rfl (resOf_one rfl (by first | rfl | (first | (rw [limI, if_pos hc0]; rfl) | (rw [limI, if_neg (not_or.2 hc0), if_pos hc1]; rfl) | (rw [limI, if_neg (not_or.2 hc0), if_neg (not_or.2 hc1)]; rfl))))
  · try simp only [Zp,Zi,ZK,ZJ,ne_eq,Zn,Zm,ZB,ZA,ZI,not_or,not_and,Zu] at hc0
    refine aw_seq ?_
    refine aw_regJ hX hb [0, 1, 2, 3, 4, 5, 6] rfl (ts := [13, 14, 15, 16, 17, 18]) (t := 12) (d := .p (bv (f < 1 ∨ 4096 < f))) (σ' := ?s4) ?j4 ?h4 ?n4
    case j4 => simp only [St.join,List.foldl,Za,Zb]; exact rfl
    case h4 =>
      iterate 3 (all_goals refine st_op rfl (by simp (disch := omega) only [stepf,callOf,qop,fop,St.ev,St.put,cd,zd,Value.oneCell',tb_T,TypeDesc.aggB,getD_0,getD_s,Ze,Zd,Zc,Za,Zb,Zr,ZE,ZF,Zf,Zq,Zg,i64_w,Zt,Zs,qBin,iop,t1,ti1,t3,ti3] <;> exact rfl) ?_)
      iterate 2 (all_goals first | (refine st_g1 rfl rfl rfl (by simp (disch := omega) only [stepf,callOf,qop,fop,St.ev,St.put,cd,zd,Value.oneCell',tb_T,TypeDesc.aggB,getD_0,getD_s,Ze,Zd,Zc,Za,Zb,Zr,ZE,ZF,Zf,Zq,Zg,i64_w,Zt,Zs,qBin,iop,t1,ti1,t3,ti3] <;> exact rfl) ?_) | (first | (refine st_g0 rfl rfl rfl (by simp only [St.put,Za,Zb] <;> exact rfl) ?_) | (refine st_gu rfl rfl rfl (by simp only [St.put,Za,Zb] <;> exact rfl) ?_)) | (refine st_split rfl rfl rfl (by simp only [Za,Zb] <;> exact rfl) (by simp only [Za,Zb] <;> exact rfl) (fun hg => ?_) (fun hg => ?_) <;> (try simp only [Zp,Zi,ZJ,ZK,ne_eq,Zn,Zm,Bool.not_eq_true,Zu] at hg) <;> first | (refine st_g1 rfl rfl rfl (by simp (disch := omega) only [stepf,callOf,qop,fop,St.ev,St.put,cd,zd,Value.oneCell',tb_T,TypeDesc.aggB,getD_0,getD_s,Ze,Zd,Zc,Za,Zb,Zr,ZE,ZF,Zf,Zq,Zg,i64_w,Zt,Zs,qBin,iop,t1,ti1,t3,ti3] <;> exact rfl) ?_) | (first | (refine st_g0 rfl rfl rfl (by simp only [St.put,Za,Zb] <;> exact rfl) ?_) | (refine st_gu rfl rfl rfl (by simp only [St.put,Za,Zb] <;> exact rfl) ?_))))
      iterate 2 (all_goals refine st_op rfl (by simp (disch := omega) only [stepf,callOf,qop,fop,St.ev,St.put,cd,zd,Value.oneCell',tb_T,TypeDesc.aggB,getD_0,getD_s,Ze,Zd,Zc,Za,Zb,Zr,ZE,ZF,Zf,Zq,Zg,i64_w,Zt,Zs,qBin,iop,t1,ti1,t3,ti3] <;> exact rfl) ?_)
      all_goals refine aops_nil ?_
      all_goals refine ⟨rfl, ?_, leB_self _, leV_self _, rfl, rfl⟩
      all_goals repeat' (first | exact leL_nil | refine leL_a ?_ | refine leL_r rfl ?_ | refine leL_r ?_ ?_)
      all_goals refine jn ?_
      all_goals ((try simp only [Zp,Zi,ZJ,ZK,Bool.not_eq_true,Zm,Zn,ne_eq,Zf,true_iff,false_iff,iff_true,iff_false] at *) <;> omega)
    refine exq_n ?_
    refine aw_cond _ rfl (fun hc1 => ?_) (fun hc1 => ?_)
    · try simp only [Zp,Zi,ZK,ZJ,ne_eq,Zn,Zm,ZB,ZA,ZI,not_or,not_and,Zu] at hc1
      refine aw_seq ?_
      refine aw_regK hX hb [0] rfl (σ' := ?s5) (fun K hK => ?h5) ?n5
      case h5 =>
        (refine st_op rfl (by simp (disch := omega) only [stepf,callOf,qop,fop,St.ev,St.put,cd,zd,Value.oneCell',tb_T,TypeDesc.aggB,getD_0,getD_s,Ze,Zd,Zc,Za,Zb,Zr,ZE,ZF,Zf,Zq,Zg,i64_w,Zt,Zs,t1,ti1] <;> exact rfl) ?_)
        refine aops_nil ?_
        exact hK
      refine exq_n ?_
      refine aw_ret ?_
      refine exb_r ?_
      refine exq_r ?_
      exact ret_r rfl (resOf_one rfl (by first | rfl | (first | (rw [limI, if_pos hc0]; rfl) | (rw [limI, if_neg (not_or.2 hc0), if_pos hc1]; rfl) | (rw [limI, if_neg (not_or.2 hc0), if_neg (not_or.2 hc1)]; rfl))))
    · try simp only [Zp,Zi,ZK,ZJ,ne_eq,Zn,Zm,ZB,ZA,ZI,not_or,not_and,Zu] at hc1
      refine aw_skip ?_
      refine exb_n ?_
      refine exq_n ?_
      refine aw_seq ?_
      refine aw_regK hX hb [0] rfl (σ' := ?s6) (fun K hK => ?h6) ?n6
      case h6 =>
        (refine st_op rfl (by simp (disch := omega) only [stepf,callOf,qop,fop,St.ev,St.put,cd,zd,Value.oneCell',tb_T,TypeDesc.aggB,getD_0,getD_s,Ze,Zd,Zc,Za,Zb,Zr,ZE,ZF,Zf,Zq,Zg,i64_w,Zt,Zs] <;> exact rfl) ?_)
        refine aops_nil ?_
        exact hK
      refine exq_n ?_
      refine aw_ret ?_
      exact ret_r rfl (resOf_one rfl (by first | rfl | (first | (rw [limI, if_pos hc0]; rfl) | (rw [limI, if_neg (not_or.2 hc0), if_pos hc1]; rfl) | (rw [limI, if_neg (not_or.2 hc0), if_neg (not_or.2 hc1)]; rfl))))
theorem c76 (s n : Nat) (hs : 1 ≤ s ∧ s ≤ 4294967296) (hn : 1 ≤ n ∧ n ≤ 4294967296) : ACalls Try.prog 76 [.p (i64 s), .p (i64 n)] (.p (i64 (nLeaves s n))) := by
  refine acalls_of tb_ok Try.func76 (c := _) rfl (by kernel_rfl) ?_
  intro X hP hX hro hpl
  have hb : tb.Ok X.P := hP ▸ tb_ok
  change AW X _ _ ⟨[], [.p (i64 s), .p (i64 n), .any, .any, .any, .any, .any, .any, .any, .any, .any], [], []⟩
  refine aw_seq ?_
  refine aw_regK hX hb [0] rfl (σ' := ?s1) (fun K hK => ?h1) ?n1
  case h1 =>
    (refine st_op rfl (by simp (disch := omega) only [stepf,callOf,qop,fop,St.ev,St.put,cd,zd,Value.oneCell',tb_T,TypeDesc.aggB,getD_0,getD_s,Ze,Zd,Zc,Za,Zb,Zr,ZE,ZF,Zf,Zq,Zg,i64_w,Zt,Zs,quo_w,ne_eq,not_true_eq_false,not_false_eq_true] <;> exact rfl) ?_)
    refine aops_nil ?_
    exact hK
  refine exq_n ?_
  refine aw_seq ?_
  refine aw_regK hX hb [0, 1, 2, 3, 4, 5, 6] rfl (σ' := ?s2) (fun K hK => ?h2) ?n2
  case h2 =>
    iterate 7 (refine st_op rfl (by simp (disch := omega) only [stepf,callOf,qop,fop,St.ev,St.put,cd,zd,Value.oneCell',tb_T,TypeDesc.aggB,getD_0,getD_s,Ze,Zd,Zc,Za,Zb,Zr,ZE,ZF,Zf,Zq,Zg,i64_w,Zt,Zs,qBin,iop,t1,ti1,t3,ti3,t5,ti5,quo_w,ne_eq,not_true_eq_false,not_false_eq_true] <;> exact rfl) ?_)
    refine aops_nil ?_
    exact hK
  refine exq_n ?_
  refine aw_ret ?_
  exact ret_r rfl (resOf_one rfl (by first | rfl | (rw [← quo_int, show ((s + n - 1 : Nat) : Int) = (s : Int) + n - 1 by omega]; rfl)))
end Go.Proofs.Ytldcoekbgfaomaa
end
section
namespace Go.Proofs.Ytldcoekbgfaomaa
open Go.RowKit
set_option maxRecDepth 20000
set_option maxHeartbeats 4000000
attribute [local irreducible] AOps AOpsD AW
theorem c40 (a b : List Int) : ACalls Try.prog 40 [.p (u64s a), .p (u64s b)] (.p (bv (decide (a = b)))) := by
  refine acalls_of tb_ok Try.func40 (c := _) rfl (by kernel_rfl) ?_
  intro X hP hX hro hpl
  have hb : tb.Ok X.P := hP ▸ tb_ok
  change AW X _ _ ⟨[], [.p (u64s a), .p (u64s b), .any, .any, .any, .any, .any, .any, .any, .any, .any, .any, .any, .any, .any, .any, .any, .any, .any, .any, .any, .any, .any, .any, .any, .any], [], []⟩
  refine aw_len (t := 0) rfl fun hl => ?_
  unfold maxLen at hl
  refine aw_seq ?_
  refine aw_regK hX hb [0] rfl (σ' := ?s1) (fun K hK => ?h1) ?n1
  case h1 =>
    (refine st_op rfl (by simp (disch := omega) only [stepf,callOf,qop,fop,St.ev,St.put,cd,zd,Value.oneCell',tb_T,TypeDesc.aggB,getD_0,getD_s,Ze,Zd,Zc,Za,Zb,Zr,ZE,ZF,Zf,Zq,Zg,i64_w,Zt,Zs,map_at_i,Zh] <;> exact rfl) ?_)
    refine aops_nil ?_
    exact hK
  refine exq_n ?_
  refine aw_seq ?_
  refine aw_seq ?_
  refine aw_regK hX hb [0, 1, 2, 3, 4] rfl (σ' := ?s2) (fun K hK => ?h2) ?n2
  case h2 =>
    iterate 5 (refine st_op rfl (by simp (disch := omega) only [stepf,callOf,qop,fop,St.ev,St.put,cd,zd,Value.oneCell',tb_T,TypeDesc.aggB,getD_0,getD_s,Ze,Zd,Zc,Za,Zb,Zr,ZE,ZF,Zf,Zq,Zg,i64_w,Zt,Zs,qLen,qBin,iop,t1,ti1,t3,ti3,t58,ti58,t60,ti60,map_at_i,Zh] <;> exact rfl) ?_)
    refine aops_nil ?_
    exact hK
  refine exq_n ?_
  refine aw_cond _ rfl (fun hc0 => ?_) (fun hc0 => ?_)
  · try simp only [Zp,Zi,ZK,ZJ,ne_eq,Zn,Zm,ZB,ZA,ZI,not_or,not_and,Zu] at hc0
    refine aw_seq ?_
    refine aw_regK hX hb [0] rfl (σ' := ?s3) (fun K hK => ?h3) ?n3
    case h3 =>
      (refine st_op rfl (by simp (disch := omega) only [stepf,callOf,qop,fop,St.ev,St.put,cd,zd,Value.oneCell',tb_T,TypeDesc.aggB,getD_0,getD_s,Ze,Zd,Zc,Za,Zb,Zr,ZE,ZF,Zf,Zq,Zg,i64_w,Zt,Zs,map_at_i,Zh] <;> exact rfl) ?_)
      refine aops_nil ?_
      exact hK
    refine exq_n ?_
    refine aw_ret ?_
    refine exq_r ?_
    exact ret_r rfl (resOf_one rfl (by first | rfl | (first | (refine jf ?_; rintro rfl; exact hc2 rfl) | (refine jf ?_; rintro rfl; exact hc0 rfl) | exact jt (take_all_eq hc0 he (by omega)))))
  · try simp only [Zp,Zi,ZK,ZJ,ne_eq,Zn,Zm,ZB,ZA,ZI,not_or,not_and,Zu] at hc0
    refine aw_skip ?_
    refine exq_n ?_
    refine aw_seq ?_
    refine aw_seq ?_
    refine aw_regK hX hb [0, 1, 2] rfl (σ' := ?s4) (fun K hK => ?h4) ?n4
    case h4 =>
      iterate 3 (refine st_op rfl (by simp (disch := omega) only [stepf,callOf,qop,fop,St.ev,St.put,cd,zd,Value.oneCell',tb_T,TypeDesc.aggB,getD_0,getD_s,Ze,Zd,Zc,Za,Zb,Zr,ZE,ZF,Zf,Zq,Zg,i64_w,Zt,Zs,qLen,t58,ti58,t60,ti60,map_at_i,Zh] <;> exact rfl) ?_)
      refine aops_nil ?_
      exact hK
    refine exq_n ?_
    refine aw_block ?_
    refine aw_loop (ι := Nat) (fun i => i ≤ a.length ∧ a.take i = b.take i) (fun i => ⟨[], [.p (u64s a), .p (u64s b), .any, .any, .any, .any, .any, .any, .any, .any, .any, .any, .p (i64 (a.length : Int)), .p (i64 i), .any, .any, .any, .any, .any, .any, .any, .any, .any, .any, .any, .any], [], []⟩) (fun i => a.length - i) 0 (by exact ⟨Nat.zero_le _, rfl⟩) (wk_le ⟨rfl, leL_r rfl (leL_r rfl (leL_a (leL_a (leL_a (leL_a (leL_a (leL_a (leL_a (leL_a (leL_a (leL_a (leL_r rfl (leL_r rfl (leL_a (leL_a (leL_a (leL_a (leL_a (leL_a (leL_a (leL_a (leL_a (leL_a (leL_a (leL_a (leL_nil)))))))))))))))))))))))))), (leB_nil _), (leV_nil _), rfl, rfl⟩) ?_
    rintro i ⟨hi, he⟩
    refine aw_seq ?_
    refine aw_regK hX hb [0] rfl (σ' := ?s5) (fun K hK => ?h5) ?n5
    case h5 =>
      (refine st_op rfl (by simp (disch := omega) only [stepf,callOf,qop,fop,St.ev,St.put,cd,zd,Value.oneCell',tb_T,TypeDesc.aggB,getD_0,getD_s,Ze,Zd,Zc,Za,Zb,Zr,ZE,ZF,Zf,Zq,Zg,i64_w,Zt,Zs,qBin,iop,t3,ti3,map_at_i,Zh] <;> exact rfl) ?_)
      refine aops_nil ?_
      exact hK
    refine exq_n ?_
    refine aw_seq ?_
    refine aw_cond _ rfl (fun hc1 => ?_) (fun hc1 => ?_)
    · try simp only [Zp,Zi,ZK,ZJ,ne_eq,Zn,Zm,ZB,ZA,ZI,not_or,not_and,Zu] at hc1
      refine aw_skip ?_
      refine exq_n ?_
      refine aw_seq ?_
      refine aw_block ?_
      refine aw_seq ?_
      refine aw_regK hX hb [0, 1] rfl (σ' := ?s6) (fun K hK => ?h6) ?n6
      case h6 =>
        iterate 2 (refine st_op rfl (by simp (disch := omega) only [stepf,callOf,qop,fop,St.ev,St.put,cd,zd,Value.oneCell',tb_T,TypeDesc.aggB,getD_0,getD_s,Ze,Zd,Zc,Za,Zb,Zr,ZE,ZF,Zf,Zq,Zg,i64_w,Zt,Zs,map_at_i,Zh] <;> exact rfl) ?_)
        refine aops_nil ?_
        exact hK
      refine exq_n ?_
      refine aw_seq ?_
      refine aw_regD hX hb (try_mixed hP) [(0, true), (1, true), (2, true), (3, true), (4, true), (5, true), (6, true), (7, true), (8, true)] (by kernel_rfl) (σ' := ?s7) (fun K hK => ?h7) ?n7
      case h7 =>
        iterate 9 (refine sd_q rfl (by simp (disch := omega) only [qop,fop,St.ev,St.put,cd,zd,Value.oneCell',tb_T,TypeDesc.aggB,getD_0,getD_s,Ze,Zd,Zc,Za,Zb,Zr,ZE,ZF,Zf,Zq,Zg,i64_w,Zt,Zs,Int.toNat_zero,Int.toNat_one,toNat_pred,toNat_succ,qIndexAddr,ZO,Nat.mul_one,ZC,Nat.zero_mul,Zh,Zl,Zo,Zv,Zw,Zj,Zk,Zx,Zy,qLoad,bload,pload,pureAll,D.pure?,ZD,qBin,iop,t1,ti1,t5,ti5,t22,ti22,t50,ti50,t58,ti58,t60,ti60,map_at_i] <;> exact rfl) (by simp only [St.put,Za,Zb] <;> exact rfl) ?_)
        refine aopsd_nil ?_
        exact hK
      refine exq_n ?_
      refine aw_cond _ rfl (fun hc2 => ?_) (fun hc2 => ?_)
      · try simp only [Zp,Zi,ZK,ZJ,ne_eq,Zn,Zm,ZB,ZA,ZI,not_or,not_and,Zu] at hc2
        refine aw_seq ?_
        refine aw_regK hX hb [0] rfl (σ' := ?s8) (fun K hK => ?h8) ?n8
        case h8 =>
          (refine st_op rfl (by simp (disch := omega) only [stepf,callOf,qop,fop,St.ev,St.put,cd,zd,Value.oneCell',tb_T,TypeDesc.aggB,getD_0,getD_s,Ze,Zd,Zc,Za,Zb,Zr,ZE,ZF,Zf,Zq,Zg,i64_w,Zt,Zs,map_at_i,Zh] <;> exact rfl) ?_)
          refine aops_nil ?_
          exact hK
        refine exq_n ?_
        refine aw_ret ?_
        refine exb_r ?_
        refine exq_r ?_
        refine exq_r ?_
        refine exb_r ?_
        refine exq_r ?_
        exact ret_r rfl (resOf_one rfl (by first | rfl | (first | (refine jf ?_; rintro rfl; exact hc2 rfl) | (refine jf ?_; rintro rfl; exact hc0 rfl) | exact jt (take_all_eq hc0 he (by omega)))))
      · try simp only [Zp,Zi,ZK,ZJ,ne_eq,Zn,Zm,ZB,ZA,ZI,not_or,not_and,Zu] at hc2
        refine aw_skip ?_
        refine exb_n ?_
        refine exq_n ?_
        refine aw_regK hX hb [0, 1] rfl (σ' := ?s9) (fun K hK => ?h9) ?n9
        case h9 =>
          iterate 2 (refine st_op rfl (by simp (disch := omega) only [stepf,callOf,qop,fop,St.ev,St.put,cd,zd,Value.oneCell',tb_T,TypeDesc.aggB,getD_0,getD_s,Ze,Zd,Zc,Za,Zb,Zr,ZE,ZF,Zf,Zq,Zg,i64_w,Zt,Zs,qBin,iop,t1,ti1,t3,ti3,map_at_i,Zh] <;> exact rfl) ?_)
          refine aops_nil ?_
          exact hK
        refine exq_n ?_
        exact ⟨i + 1, by exact ⟨by omega, by rw [getD_take_succ a i (by omega), getD_take_succ b i (by omega), he, hc2]⟩, by (try dsimp only); omega, wk_le ⟨rfl, leL_r rfl (leL_r rfl (leL_a (leL_a (leL_a (leL_a (leL_a (leL_a (leL_a (leL_a (leL_a (leL_a (leL_r rfl (leL_r rfl (leL_a (leL_a (leL_a (leL_a (leL_a (leL_a (leL_a (leL_a (leL_a (leL_a (leL_a (leL_a (leL_nil)))))))))))))))))))))))))), (leB_nil _), (leV_nil _), rfl, rfl⟩⟩
    · try simp only [Zp,Zi,ZK,ZJ,ne_eq,Zn,Zm,ZB,ZA,ZI,not_or,not_and,Zu] at hc1
      refine aw_exit ?_
      refine exq_e ?_
      refine exq_e ?_
      refine exb_h ?_
      refine exq_n ?_
      refine aw_seq ?_
      refine aw_regK hX hb [0] rfl (σ' := ?s10) (fun K hK => ?h10) ?n10
      case h10 =>
        (refine st_op rfl (by simp (disch := omega) only [stepf,callOf,qop,fop,St.ev,St.put,cd,zd,Value.oneCell',tb_T,TypeDesc.aggB,getD_0,getD_s,Ze,Zd,Zc,Za,Zb,Zr,ZE,ZF,Zf,Zq,Zg,i64_w,Zt,Zs,map_at_i,Zh] <;> exact rfl) ?_)
        refine aops_nil ?_
        exact hK
      refine exq_n ?_
      refine aw_ret ?_
      exact ret_r rfl (resOf_one rfl (by first | rfl | (first | (refine jf ?_; rintro rfl; exact hc2 rfl) | (refine jf ?_; rintro rfl; exact hc0 rfl) | exact jt (take_all_eq hc0 he (by omega)))))
end Go.Proofs.Ytldcoekbgfaomaa
end
section
namespace Go.Proofs.Ytldcoekbgfaomaa
open Go.RowKit
set_option maxRecDepth 20000
set_option maxHeartbeats 4000000
attribute [local irreducible] AOps AOpsD AW
theorem intCells_ext (x y : Int) : IntCells .i64 2 [i64 x, i64 y] = True := eq_true ⟨rfl, by intro z hz; simp at hz; rcases hz with rfl | rfl <;> exact ⟨_, rfl⟩⟩
theorem ext_eq {e e' : Int × Int} : ([i64 e.1, i64 e.2] : List P1) = [i64 e'.1, i64 e'.2] ↔ e = e' := by
  constructor
  · intro h
    simp only [List.cons.injEq,P1.v.injEq,Value.int.injEq,Zs,Zt] at h
    exact Prod.ext h.1 h.2
  · rintro rfl; rfl
theorem c29 (a b : List (Int × Int)) : ACalls Try.prog 29 [.p (exts a), .p (exts b)] (.p (bv (decide (a = b)))) := by
  refine acalls_of tb_ok Try.func29 (c := _) rfl (by kernel_rfl) ?_
  intro X hP hX hro hpl
  have hb : tb.Ok X.P := hP ▸ tb_ok
  change AW X _ _ ⟨[], [.p (exts a), .p (exts b), .any, .any, .any, .any, .any, .any, .any, .any, .any, .any, .any, .any, .any, .any, .any, .any, .any, .any, .any, .any, .any, .any, .any, .any], [], []⟩
  refine aw_len (t := 0) rfl fun hl => ?_
  unfold maxLen at hl
  refine aw_seq ?_
  refine aw_regK hX hb [0] rfl (σ' := ?s1) (fun K hK => ?h1) ?n1
  case h1 =>
    (refine st_op rfl (by simp (disch := omega) only [stepf,callOf,qop,fop,St.ev,St.put,cd,zd,Value.oneCell',tb_T,TypeDesc.aggB,getD_0,getD_s,Ze,Zd,Zc,Za,Zb,Zr,ZE,ZF,Zf,Zq,Zg,i64_w,Zt,Zs,extCells_length,extCells_part,e35,intCells_ext,and_self] <;> exact rfl) ?_)
    refine aops_nil ?_
    exact hK
  refine exq_n ?_
  refine aw_seq ?_
  refine aw_seq ?_
  refine aw_regK hX hb [0, 1, 2, 3, 4] rfl (σ' := ?s2) (fun K hK => ?h2) ?n2
  case h2 =>
    iterate 5 (refine st_op rfl (by simp (disch := omega) only [stepf,callOf,qop,fop,St.ev,St.put,cd,zd,Value.oneCell',tb_T,TypeDesc.aggB,getD_0,getD_s,Ze,Zd,Zc,Za,Zb,Zr,ZE,ZF,Zf,Zq,Zg,i64_w,Zt,Zs,qLen,qBin,iop,t1,ti1,t3,ti3,t35,ti35,t40,ti40,extCells_length,extCells_part,e35,intCells_ext,and_self] <;> exact rfl) ?_)
    refine aops_nil ?_
    exact hK
  refine exq_n ?_
  refine aw_cond _ rfl (fun hc0 => ?_) (fun hc0 => ?_)
  · try simp only [Zp,Zi,ZK,ZJ,ne_eq,Zn,Zm,ZB,ZA,ZI,not_or,not_and,Zu] at hc0
    refine aw_seq ?_
    refine aw_regK hX hb [0] rfl (σ' := ?s3) (fun K hK => ?h3) ?n3
    case h3 =>
      (refine st_op rfl (by simp (disch := omega) only [stepf,callOf,qop,fop,St.ev,St.put,cd,zd,Value.oneCell',tb_T,TypeDesc.aggB,getD_0,getD_s,Ze,Zd,Zc,Za,Zb,Zr,ZE,ZF,Zf,Zq,Zg,i64_w,Zt,Zs,extCells_length,extCells_part,e35,intCells_ext,and_self] <;> exact rfl) ?_)
      refine aops_nil ?_
      exact hK
    refine exq_n ?_
    refine aw_ret ?_
    refine exq_r ?_
    exact ret_r rfl (resOf_one rfl (by first | rfl | (first | (refine jf ?_; rintro rfl; exact hc2 rfl) | (refine jf ?_; rintro rfl; exact hc0 rfl) | exact jt (take_all_eq hc0 he (by omega)))))
  · try simp only [Zp,Zi,ZK,ZJ,ne_eq,Zn,Zm,ZB,ZA,ZI,not_or,not_and,Zu] at hc0
    refine aw_skip ?_
    refine exq_n ?_
    refine aw_seq ?_
    refine aw_seq ?_
    refine aw_regK hX hb [0, 1, 2] rfl (σ' := ?s4) (fun K hK => ?h4) ?n4
    case h4 =>
      iterate 3 (refine st_op rfl (by simp (disch := omega) only [stepf,callOf,qop,fop,St.ev,St.put,cd,zd,Value.oneCell',tb_T,TypeDesc.aggB,getD_0,getD_s,Ze,Zd,Zc,Za,Zb,Zr,ZE,ZF,Zf,Zq,Zg,i64_w,Zt,Zs,qLen,t3,ti3,t35,ti35,t40,ti40,extCells_length,extCells_part,e35,intCells_ext,and_self] <;> exact rfl) ?_)
      refine aops_nil ?_
      exact hK
    refine exq_n ?_
    refine aw_block ?_
    refine aw_loop (ι := Nat) (fun i => i ≤ a.length ∧ a.take i = b.take i) (fun i => ⟨[], [.p (exts a), .p (exts b), .any, .any, .any, .any, .any, .any, .any, .any, .any, .any, .p (i64 (a.length : Int)), .p (i64 i), .any, .any, .any, .any, .any, .any, .any, .any, .any, .any, .any, .any], [], []⟩) (fun i => a.length - i) 0 (by exact ⟨Nat.zero_le _, rfl⟩) (wk_le ⟨rfl, leL_r rfl (leL_r rfl (leL_a (leL_a (leL_a (leL_a (leL_a (leL_a (leL_a (leL_a (leL_a (leL_a (leL_r rfl (leL_r rfl (leL_a (leL_a (leL_a (leL_a (leL_a (leL_a (leL_a (leL_a (leL_a (leL_a (leL_a (leL_a (leL_nil)))))))))))))))))))))))))), (leB_nil _), (leV_nil _), rfl, rfl⟩) ?_
    rintro i ⟨hi, he⟩
    refine aw_seq ?_
    refine aw_regK hX hb [0] rfl (σ' := ?s5) (fun K hK => ?h5) ?n5
    case h5 =>
      (refine st_op rfl (by simp (disch := omega) only [stepf,callOf,qop,fop,St.ev,St.put,cd,zd,Value.oneCell',tb_T,TypeDesc.aggB,getD_0,getD_s,Ze,Zd,Zc,Za,Zb,Zr,ZE,ZF,Zf,Zq,Zg,i64_w,Zt,Zs,qBin,iop,t3,ti3,extCells_length,extCells_part,e35,intCells_ext,and_self] <;> exact rfl) ?_)
      refine aops_nil ?_
      exact hK
    refine exq_n ?_
    refine aw_seq ?_
    refine aw_cond _ rfl (fun hc1 => ?_) (fun hc1 => ?_)
    · try simp only [Zp,Zi,ZK,ZJ,ne_eq,Zn,Zm,ZB,ZA,ZI,not_or,not_and,Zu] at hc1
      refine aw_skip ?_
      refine exq_n ?_
      refine aw_seq ?_
      refine aw_block ?_
      refine aw_seq ?_
      refine aw_regK hX hb [0, 1] rfl (σ' := ?s6) (fun K hK => ?h6) ?n6
      case h6 =>
        iterate 2 (refine st_op rfl (by simp (disch := omega) only [stepf,callOf,qop,fop,St.ev,St.put,cd,zd,Value.oneCell',tb_T,TypeDesc.aggB,getD_0,getD_s,Ze,Zd,Zc,Za,Zb,Zr,ZE,ZF,Zf,Zq,Zg,i64_w,Zt,Zs,extCells_length,extCells_part,e35,intCells_ext,and_self] <;> exact rfl) ?_)
        refine aops_nil ?_
        exact hK
      refine exq_n ?_
      refine aw_seq ?_
      refine aw_regD hX hb (try_mixed hP) [(0, true), (1, true), (2, true), (3, true), (4, true), (5, true), (6, true), (7, true), (8, true)] (by kernel_rfl) (σ' := ?s7) (fun K hK => ?h7) ?n7
      case h7 =>
        iterate 9 (refine sd_q rfl (by simp (disch := omega) only [qop,fop,St.ev,St.put,cd,zd,Value.oneCell',tb_T,TypeDesc.aggB,getD_0,getD_s,Ze,Zd,Zc,Za,Zb,Zr,ZE,ZF,Zf,Zq,Zg,i64_w,Zt,Zs,Int.toNat_zero,Int.toNat_one,toNat_pred,toNat_succ,qIndexAddr,ZO,Nat.mul_one,ZC,Nat.zero_mul,Zh,Zl,Zo,Zv,Zw,Zj,Zk,Zx,Zy,qLoad,bload,pload,pureAll,D.pure?,ZD,qBin,iop,t1,ti1,t3,ti3,t5,ti5,t22,ti22,t35,ti35,t40,ti40,t50,ti50,extCells_length,extCells_part,e35,intCells_ext,and_self] <;> exact rfl) (by simp only [St.put,Za,Zb] <;> exact rfl) ?_)
        refine aopsd_nil ?_
        exact hK
      refine exq_n ?_
      refine aw_cond _ rfl (fun hc2 => ?_) (fun hc2 => ?_)
      · try simp only [Zp,Zi,ZK,ZJ,ne_eq,Zn,Zm,ZB,ZA,ZI,not_or,not_and,Zu,ext_eq] at hc2
        refine aw_seq ?_
        refine aw_regK hX hb [0] rfl (σ' := ?s8) (fun K hK => ?h8) ?n8
        case h8 =>
          (refine st_op rfl (by simp (disch := omega) only [stepf,callOf,qop,fop,St.ev,St.put,cd,zd,Value.oneCell',tb_T,TypeDesc.aggB,getD_0,getD_s,Ze,Zd,Zc,Za,Zb,Zr,ZE,ZF,Zf,Zq,Zg,i64_w,Zt,Zs,extCells_length,extCells_part,e35,intCells_ext,and_self] <;> exact rfl) ?_)
          refine aops_nil ?_
          exact hK
        refine exq_n ?_
        refine aw_ret ?_
        refine exb_r ?_
        refine exq_r ?_
        refine exq_r ?_
        refine exb_r ?_
        refine exq_r ?_
        exact ret_r rfl (resOf_one rfl (by first | rfl | (first | (refine jf ?_; rintro rfl; exact hc2 rfl) | (refine jf ?_; rintro rfl; exact hc0 rfl) | exact jt (take_all_eq hc0 he (by omega)))))
      · try simp only [Zp,Zi,ZK,ZJ,ne_eq,Zn,Zm,ZB,ZA,ZI,not_or,not_and,Zu,ext_eq] at hc2
        refine aw_skip ?_
        refine exb_n ?_
        refine exq_n ?_
        refine aw_regK hX hb [0, 1] rfl (σ' := ?s9) (fun K hK => ?h9) ?n9
        case h9 =>
          iterate 2 (refine st_op rfl (by simp (disch := omega) only [stepf,callOf,qop,fop,St.ev,St.put,cd,zd,Value.oneCell',tb_T,TypeDesc.aggB,getD_0,getD_s,Ze,Zd,Zc,Za,Zb,Zr,ZE,ZF,Zf,Zq,Zg,i64_w,Zt,Zs,qBin,iop,t1,ti1,t3,ti3,extCells_length,extCells_part,e35,intCells_ext,and_self] <;> exact rfl) ?_)
          refine aops_nil ?_
          exact hK
        refine exq_n ?_
        exact ⟨i + 1, by exact ⟨by omega, by rw [getD_take_succ_e a i (by omega), getD_take_succ_e b i (by omega), he, hc2]⟩, by (try dsimp only); omega, wk_le ⟨rfl, leL_r rfl (leL_r rfl (leL_a (leL_a (leL_a (leL_a (leL_a (leL_a (leL_a (leL_a (leL_a (leL_a (leL_r rfl (leL_r rfl (leL_a (leL_a (leL_a (leL_a (leL_a (leL_a (leL_a (leL_a (leL_a (leL_a (leL_a (leL_a (leL_nil)))))))))))))))))))))))))), (leB_nil _), (leV_nil _), rfl, rfl⟩⟩
    · try simp only [Zp,Zi,ZK,ZJ,ne_eq,Zn,Zm,ZB,ZA,ZI,not_or,not_and,Zu] at hc1
      refine aw_exit ?_
      refine exq_e ?_
      refine exq_e ?_
      refine exb_h ?_
      refine exq_n ?_
      refine aw_seq ?_
      refine aw_regK hX hb [0] rfl (σ' := ?s10) (fun K hK => ?h10) ?n10
      case h10 =>
        (refine st_op rfl (by simp (disch := omega) only [stepf,callOf,qop,fop,St.ev,St.put,cd,zd,Value.oneCell',tb_T,TypeDesc.aggB,getD_0,getD_s,Ze,Zd,Zc,Za,Zb,Zr,ZE,ZF,Zf,Zq,Zg,i64_w,Zt,Zs,extCells_length,extCells_part,e35,intCells_ext,and_self] <;> exact rfl) ?_)
        refine aops_nil ?_
        exact hK
      refine exq_n ?_
      refine aw_ret ?_
      exact ret_r rfl (resOf_one rfl (by first | rfl | (first | (refine jf ?_; rintro rfl; exact hc2 rfl) | (refine jf ?_; rintro rfl; exact hc0 rfl) | exact jt (take_all_eq hc0 he (by omega)))))
end Go.Proofs.Ytldcoekbgfaomaa
end
section
namespace Go.Proofs.Ytldcoekbgfaomaa
open Go.RowKit
set_option maxRecDepth 20000
set_option maxHeartbeats 4000000
attribute [local irreducible] AOps AOpsD AW
theorem o106 (h79 : ∀ a b : Int, ACalls Try.prog 79 [.p (u64 a), .p (u64 b)] (.p (u64 (pairD a b)))) (l : List Int) (hl : l.length ≤ 4294967296) : ACallsO Try.prog 106 [.p (u64s l), .p (.v (.func (.func 79) #[] #[]))] ⟨58, 1, (upL l).length, (upL l).map u64⟩ := by
  refine acallsO_of Try.func106 (c := _) rfl (by kernel_rfl) (t := 4) rfl ?_
  intro X hP hX hro hpl
  have hb : tb.Ok X.P := hP ▸ tb_ok
  change AW X _ _ ⟨[], [.p (u64s l), .p (.v (.func (.func 79) #[] #[])), .any, .any, .any, .any, .any, .any, .any, .any, .any, .any, .any, .any, .any, .any, .any, .any, .any, .any, .any, .any, .any, .any, .any, .any, .any, .any, .any, .any, .any, .any, .any, .any, .any, .any, .any, .any, .any, .any], [], []⟩
  refine aw_seq ?_
  refine aw_regK hX hb [0] rfl (σ' := ?s1) (fun K hK => ?h1) ?n1
  case h1 =>
    (refine st_op rfl (by simp (disch := omega) only [stepf,callOf,qop,fop,St.ev,St.put,cd,zd,Value.oneCell',tb_T,TypeDesc.aggB,getD_0,getD_s,Ze,Zd,Zc,Za,Zb,Zr,ZE,ZF,Zf,Zq,Zg,i64_w,Zt,Zs,map_at_i,Zh] <;> exact rfl) ?_)
    refine aops_nil ?_
    exact hK
  refine exq_n ?_
  refine aw_seq ?_
  refine aw_regK hX hb [0] rfl (σ' := ?s2) (fun K hK => ?h2) ?n2
  case h2 =>
    (refine st_op rfl (by simp (disch := omega) only [stepf,callOf,qop,fop,St.ev,St.put,cd,zd,Value.oneCell',tb_T,TypeDesc.aggB,getD_0,getD_s,Ze,Zd,Zc,Za,Zb,Zr,ZE,ZF,Zf,Zq,Zg,i64_w,Zt,Zs,map_at_i,Zh] <;> exact rfl) ?_)
    refine aops_nil ?_
    exact hK
  refine exq_n ?_
  refine aw_nil 5 58 1 rfl (σ' := ?s3) ?h3 ?n3
  case h3 => simp only [St.nilSlot,St.addVec,Za,Zb,Zl,Zo,ZL,ZM]; exact rfl
  refine aw_seq ?_
  refine aw_seq ?_
  refine aw_regK hX hb [0] rfl (σ' := ?s4) (fun K hK => ?h4) ?n4
  case h4 =>
    (refine st_op rfl (by simp (disch := omega) only [stepf,callOf,qop,fop,St.ev,St.put,cd,zd,Value.oneCell',tb_T,TypeDesc.aggB,getD_0,getD_s,Ze,Zd,Zc,Za,Zb,Zr,ZE,ZF,Zf,Zq,Zg,i64_w,Zt,Zs,map_at_i,Zh] <;> exact rfl) ?_)
    refine aops_nil ?_
    exact hK
  refine exq_n ?_
  refine aw_block ?_
  refine aw_loop (ι := Nat × List Int) (fun p => p.1 % 2 = 0 ∧ p.1 ≤ l.length + 1 ∧ p.2 = upL (l.take p.1)) (fun p => ⟨[], [.p (u64s l), .p (.v (.func (.func 79) #[] #[])), .any, .any, .any, .vref 0, .p (i64 p.1), .any, .any, .any, .any, .any, .any, .any, .any, .any, .any, .any, .any, .any, .any, .any, .any, .any, .any, .any, .any, .any, .any, .any, .any, .any, .any, .any, .any, .any, .any, .any, .any, .any], [], [some ⟨58, 1, p.2.length, p.2.map u64⟩]⟩) (fun p => l.length + 1 - p.1) (0, []) (by exact ⟨rfl, Nat.zero_le _, rfl⟩) (wk_le ⟨rfl, leL_r (by first | rfl | ((first | rw [upL_take2 l i h2 (by omega), ← ho] | rw [upL_take1 l i h2 (by omega) (by omega), ← ho]) <;> simp)) (leL_r (by first | rfl | ((first | rw [upL_take2 l i h2 (by omega), ← ho] | rw [upL_take1 l i h2 (by omega) (by omega), ← ho]) <;> simp)) (leL_a (leL_a (leL_a (leL_r (by first | rfl | ((first | rw [upL_take2 l i h2 (by omega), ← ho] | rw [upL_take1 l i h2 (by omega) (by omega), ← ho]) <;> simp)) (leL_r (by first | rfl | ((first | rw [upL_take2 l i h2 (by omega), ← ho] | rw [upL_take1 l i h2 (by omega) (by omega), ← ho]) <;> simp)) (leL_a (leL_a (leL_a (leL_a (leL_a (leL_a (leL_a (leL_a (leL_a (leL_a (leL_a (leL_a (leL_a (leL_a (leL_a (leL_a (leL_a (leL_a (leL_a (leL_a (leL_a (leL_a (leL_a (leL_a (leL_a (leL_a (leL_a (leL_a (leL_a (leL_a (leL_a (leL_a (leL_a (leL_nil)))))))))))))))))))))))))))))))))))))))), (leB_nil _), (leV_r (by first | rfl | ((first | rw [upL_take2 l i h2 (by omega), ← ho] | rw [upL_take1 l i h2 (by omega) (by omega), ← ho]) <;> simp)) (leV_nil _)), rfl, rfl⟩) ?_
  rintro ⟨i, o⟩ ⟨h2, hi, ho⟩
  dsimp only at h2 hi ho ⊢
  have hol : o.length ≤ l.length := by rw [ho, upL_length, List.length_take]; omega
  have ei : ((i : Int) + 1).toNat = i + 1 := by omega
  refine aw_seq ?_
  refine aw_seq ?_
  refine aw_regK hX hb [0, 1, 2, 3] rfl (σ' := ?s5) (fun K hK => ?h5) ?n5
  case h5 =>
    iterate 4 (refine st_op rfl (by simp (disch := omega) only [stepf,callOf,qop,fop,St.ev,St.put,cd,zd,Value.oneCell',tb_T,TypeDesc.aggB,getD_0,getD_s,Ze,Zd,Zc,Za,Zb,Zr,ZE,ZF,Zf,Zq,Zg,i64_w,Zt,Zs,qLen,qBin,iop,t3,ti3,t58,ti58,t60,ti60,map_at_i,Zh] <;> exact rfl) ?_)
    refine aops_nil ?_
    exact hK
  refine exq_n ?_
  refine aw_cond _ rfl (fun hc0 => ?_) (fun hc0 => ?_)
  · try simp only [Zp,Zi,ZK,ZJ,ne_eq,Zn,Zm,ZB,ZA,ZI,not_or,not_and,Zu] at hc0
    refine aw_skip ?_
    refine exq_n ?_
    refine aw_seq ?_
    refine aw_block ?_
    refine aw_seq ?_
    refine aw_regK hX hb [0, 1, 2, 3, 4] rfl (σ' := ?s6) (fun K hK => ?h6) ?n6
    case h6 =>
      iterate 5 (refine st_op rfl (by simp (disch := omega) only [stepf,callOf,qop,fop,St.ev,St.put,cd,zd,Value.oneCell',tb_T,TypeDesc.aggB,getD_0,getD_s,Ze,Zd,Zc,Za,Zb,Zr,ZE,ZF,Zf,Zq,Zg,i64_w,Zt,Zs,qBin,iop,qLen,t1,ti1,t3,ti3,t58,ti58,t60,ti60,map_at_i,Zh] <;> exact rfl) ?_)
      refine aops_nil ?_
      exact hK
    refine exq_n ?_
    refine aw_cond _ rfl (fun hc1 => ?_) (fun hc1 => ?_)
    · try simp only [Zp,Zi,ZK,ZJ,ne_eq,Zn,Zm,ZB,ZA,ZI,not_or,not_and,Zu] at hc1
      refine aw_regD hX hb (try_mixed hP) [(0, true), (1, true), (2, true), (3, true), (4, true), (5, true), (6, true), (7, true), (8, true), (9, true), (10, true), (11, false), (12, false), (13, false), (14, true)] (by kernel_rfl) (σ' := ?s7) (fun K hK => ?h7) ?n7
      case h7 =>
        iterate 11 (refine sd_q rfl (by simp (disch := omega) only [qop,fop,St.ev,St.put,cd,zd,Value.oneCell',tb_T,TypeDesc.aggB,getD_0,getD_s,Ze,Zd,Zc,Za,Zb,Zr,ZE,ZF,Zf,Zq,Zg,i64_w,Zt,Zs,Int.toNat_zero,Int.toNat_one,toNat_pred,toNat_succ,qIndexAddr,ZO,Nat.mul_one,ZC,Nat.zero_mul,Zh,Zl,Zo,Zv,Zw,Zj,Zk,Zx,Zy,qLoad,bload,pload,pureAll,D.pure?,ZD,qBin,iop,pvAll,D.pv?,tb_N,tbO_N,tbW_N,tb_O,fBuildSlice,catCells,D.cells?,range_1,range_2,range_3,range_4,range_5,ZG,ZH,ZL,ZM,ZN,sec8_length,Nat.reduceAdd,Nat.reduceMul,fAppend,appV,St.demote,D.demote,St.setVec,List.length_append,reduceIte,t1,ti1,t3,ti3,t5,ti5,t22,ti22,t24,ti24,t26,ti26,t27,ti27,t50,ti50,t58,ti58,t60,ti60,map_at_i,ei] <;> exact rfl) (by simp only [St.put,Za,Zb] <;> exact rfl) ?_)
        refine sd_call rfl (by simp only [callOf,St.ev,getD_0,getD_s,pvAll,D.pv?,ZG,ZH,zd,cd,Value.oneCell',Zr] <;> exact rfl) (acK hP (h79 _ _)) (by simp only [St.put,Za,Zb] <;> exact rfl) ?_
        iterate 2 (refine sd_op rfl (by simp (disch := omega) only [stepf,callOf,qop,fop,St.ev,St.put,cd,zd,Value.oneCell',tb_T,TypeDesc.aggB,getD_0,getD_s,Ze,Zd,Zc,Za,Zb,Zr,ZE,ZF,Zf,Zq,Zg,i64_w,Zt,Zs,Int.toNat_zero,Int.toNat_one,toNat_pred,toNat_succ,qIndexAddr,ZO,Nat.mul_one,ZC,Nat.zero_mul,Zh,Zl,Zo,Zv,Zw,Zj,Zk,Zx,Zy,qLoad,bload,pload,pureAll,D.pure?,ZD,qBin,iop,pvAll,D.pv?,tb_N,tbO_N,tbW_N,tb_O,fBuildSlice,catCells,D.cells?,range_1,range_2,range_3,range_4,range_5,ZG,ZH,ZL,ZM,ZN,sec8_length,Nat.reduceAdd,Nat.reduceMul,fAppend,appV,St.demote,D.demote,St.setVec,List.length_append,reduceIte,t1,ti1,t3,ti3,t5,ti5,t22,ti22,t24,ti24,t26,ti26,t27,ti27,t50,ti50,t58,ti58,t60,ti60,map_at_i,ei] <;> exact rfl) ?_)
        (refine sd_q rfl (by simp (disch := omega) only [qop,fop,St.ev,St.put,cd,zd,Value.oneCell',tb_T,TypeDesc.aggB,getD_0,getD_s,Ze,Zd,Zc,Za,Zb,Zr,ZE,ZF,Zf,Zq,Zg,i64_w,Zt,Zs,Int.toNat_zero,Int.toNat_one,toNat_pred,toNat_succ,qIndexAddr,ZO,Nat.mul_one,ZC,Nat.zero_mul,Zh,Zl,Zo,Zv,Zw,Zj,Zk,Zx,Zy,qLoad,bload,pload,pureAll,D.pure?,ZD,qBin,iop,pvAll,D.pv?,tb_N,tbO_N,tbW_N,tb_O,fBuildSlice,catCells,D.cells?,range_1,range_2,range_3,range_4,range_5,ZG,ZH,ZL,ZM,ZN,sec8_length,Nat.reduceAdd,Nat.reduceMul,fAppend,appV,St.demote,D.demote,St.setVec,List.length_append,reduceIte,t1,ti1,t3,ti3,t5,ti5,t22,ti22,t24,ti24,t26,ti26,t27,ti27,t50,ti50,t58,ti58,t60,ti60,map_at_i,ei] <;> exact rfl) (by simp only [St.put,Za,Zb] <;> exact rfl) ?_)
        refine aopsd_nil ?_
        exact hK
      refine exb_n ?_
      refine exq_n ?_
      refine aw_regK hX hb [0, 1, 2] rfl (σ' := ?s8) (fun K hK => ?h8) ?n8
      case h8 =>
        iterate 3 (refine st_op rfl (by simp (disch := omega) only [stepf,callOf,qop,fop,St.ev,St.put,cd,zd,Value.oneCell',tb_T,TypeDesc.aggB,getD_0,getD_s,Ze,Zd,Zc,Za,Zb,Zr,ZE,ZF,Zf,Zq,Zg,i64_w,Zt,Zs,qBin,iop,t2,ti2,t3,ti3,map_at_i,Zh] <;> exact rfl) ?_)
        refine aops_nil ?_
        exact hK
      refine exq_n ?_
      exact ⟨(i + 2, upL (l.take (i + 2))), by exact ⟨by dsimp only; omega, by dsimp only; omega, rfl⟩, by (try dsimp only); omega, wk_le ⟨rfl, leL_r (by first | rfl | ((first | rw [upL_take2 l i h2 (by omega), ← ho] | rw [upL_take1 l i h2 (by omega) (by omega), ← ho]) <;> simp)) (leL_r (by first | rfl | ((first | rw [upL_take2 l i h2 (by omega), ← ho] | rw [upL_take1 l i h2 (by omega) (by omega), ← ho]) <;> simp)) (leL_a (leL_a (leL_a (leL_r (by first | rfl | ((first | rw [upL_take2 l i h2 (by omega), ← ho] | rw [upL_take1 l i h2 (by omega) (by omega), ← ho]) <;> simp)) (leL_r (by first | rfl | ((first | rw [upL_take2 l i h2 (by omega), ← ho] | rw [upL_take1 l i h2 (by omega) (by omega), ← ho]) <;> simp)) (leL_a (leL_a (leL_a (leL_a (leL_a (leL_a (leL_a (leL_a (leL_a (leL_a (leL_a (leL_a (leL_a (leL_a (leL_a (leL_a (leL_a (leL_a (leL_a (leL_a (leL_a (leL_a (leL_a (leL_a (leL_a (leL_a (leL_a (leL_a (leL_a (leL_a (leL_a (leL_a (leL_a (leL_nil)))))))))))))))))))))))))))))))))))))))), (leB_nil _), (leV_r (by first | rfl | ((first | rw [upL_take2 l i h2 (by omega), ← ho] | rw [upL_take1 l i h2 (by omega) (by omega), ← ho]) <;> simp)) (leV_nil _)), rfl, rfl⟩⟩
    · try simp only [Zp,Zi,ZK,ZJ,ne_eq,Zn,Zm,ZB,ZA,ZI,not_or,not_and,Zu] at hc1
      refine aw_regK hX hb [0, 1, 2, 3, 4, 5, 6, 7] rfl (σ' := ?s9) (fun K hK => ?h9) ?n9
      case h9 =>
        iterate 8 (refine st_op rfl (by simp (disch := omega) only [stepf,callOf,qop,fop,St.ev,St.put,cd,zd,Value.oneCell',tb_T,TypeDesc.aggB,getD_0,getD_s,Ze,Zd,Zc,Za,Zb,Zr,ZE,ZF,Zf,Zq,Zg,i64_w,Zt,Zs,Int.toNat_zero,Int.toNat_one,toNat_pred,toNat_succ,qIndexAddr,ZO,Nat.mul_one,ZC,Nat.zero_mul,Zh,Zl,Zo,Zv,Zw,Zj,Zk,Zx,Zy,qLoad,bload,pload,pureAll,D.pure?,ZD,tb_N,tbO_N,tbW_N,tb_O,fBuildSlice,catCells,D.cells?,range_1,range_2,range_3,range_4,range_5,ZG,ZH,ZL,ZM,ZN,sec8_length,Nat.reduceAdd,Nat.reduceMul,fAppend,appV,St.demote,D.demote,St.setVec,List.length_append,reduceIte,t1,ti1,t3,ti3,t5,ti5,t35,ti35,t58,ti58,t60,ti60,map_at_i] <;> exact rfl) ?_)
        refine aops_nil ?_
        exact hK
      refine exb_n ?_
      refine exq_n ?_
      refine aw_regK hX hb [0, 1, 2] rfl (σ' := ?s10) (fun K hK => ?h10) ?n10
      case h10 =>
        iterate 3 (refine st_op rfl (by simp (disch := omega) only [stepf,callOf,qop,fop,St.ev,St.put,cd,zd,Value.oneCell',tb_T,TypeDesc.aggB,getD_0,getD_s,Ze,Zd,Zc,Za,Zb,Zr,ZE,ZF,Zf,Zq,Zg,i64_w,Zt,Zs,qBin,iop,t2,ti2,t3,ti3,map_at_i,Zh] <;> exact rfl) ?_)
        refine aops_nil ?_
        exact hK
      refine exq_n ?_
      exact ⟨(i + 2, upL (l.take (i + 2))), by exact ⟨by dsimp only; omega, by dsimp only; omega, rfl⟩, by (try dsimp only); omega, wk_le ⟨rfl, leL_r (by first | rfl | ((first | rw [upL_take2 l i h2 (by omega), ← ho] | rw [upL_take1 l i h2 (by omega) (by omega), ← ho]) <;> simp)) (leL_r (by first | rfl | ((first | rw [upL_take2 l i h2 (by omega), ← ho] | rw [upL_take1 l i h2 (by omega) (by omega), ← ho]) <;> simp)) (leL_a (leL_a (leL_a (leL_r (by first | rfl | ((first | rw [upL_take2 l i h2 (by omega), ← ho] | rw [upL_take1 l i h2 (by omega) (by omega), ← ho]) <;> simp)) (leL_r (by first | rfl | ((first | rw [upL_take2 l i h2 (by omega), ← ho] | rw [upL_take1 l i h2 (by omega) (by omega), ← ho]) <;> simp)) (leL_a (leL_a (leL_a (leL_a (leL_a (leL_a (leL_a (leL_a (leL_a (leL_a (leL_a (leL_a (leL_a (leL_a (leL_a (leL_a (leL_a (leL_a (leL_a (leL_a (leL_a (leL_a (leL_a (leL_a (leL_a (leL_a (leL_a (leL_a (leL_a (leL_a (leL_a (leL_a (leL_a (leL_nil)))))))))))))))))))))))))))))))))))))))), (leB_nil _), (leV_r (by first | rfl | ((first | rw [upL_take2 l i h2 (by omega), ← ho] | rw [upL_take1 l i h2 (by omega) (by omega), ← ho]) <;> simp)) (leV_nil _)), rfl, rfl⟩⟩
  · try simp only [Zp,Zi,ZK,ZJ,ne_eq,Zn,Zm,ZB,ZA,ZI,not_or,not_and,Zu] at hc0
    refine aw_exit ?_
    refine exq_e ?_
    refine exq_e ?_
    refine exb_h ?_
    refine exq_n ?_
    refine aw_seq ?_
    refine aw_regK hX hb [0, 1] rfl (σ' := ?s11) (fun K hK => ?h11) ?n11
    case h11 =>
      iterate 2 (refine st_op rfl (by simp (disch := omega) only [stepf,callOf,qop,fop,St.ev,St.put,cd,zd,Value.oneCell',tb_T,TypeDesc.aggB,getD_0,getD_s,Ze,Zd,Zc,Za,Zb,Zr,ZE,ZF,Zf,Zq,Zg,i64_w,Zt,Zs,t5,ti5,map_at_i,Zh] <;> exact rfl) ?_)
      refine aops_nil ?_
      exact hK
    refine exq_n ?_
    refine aw_ret ?_
    exact reto_r 0 rfl rfl (by first | rfl | (rw [ho, List.take_of_length_le (by omega)]; rfl))
end Go.Proofs.Ytldcoekbgfaomaa
end
section
namespace Go.Proofs.Ytldcoekbgfaomaa
open Go.RowKit
set_option maxRecDepth 20000
set_option maxHeartbeats 4000000
attribute [local irreducible] AOps AOpsD AW
theorem c77 (a b : List (List Int)) : ACalls Try.prog 77 [.p (lvls a), .p (lvls b), .p (.v (.func (.func 40) #[] #[]))] (.p (bv (decide (a = b)))) := by
  refine acalls_of tb_ok Try.func77 (c := _) rfl (by kernel_rfl) ?_
  intro X hP hX hro hpl
  have hb : tb.Ok X.P := hP ▸ tb_ok
  change AW X _ _ ⟨[], [.p (lvls a), .p (lvls b), .p (.v (.func (.func 40) #[] #[])), .any, .any, .any, .any, .any, .any, .any, .any, .any, .any, .any, .any, .any, .any, .any, .any, .any, .any, .any, .any, .any, .any, .any, .any, .any, .any, .any, .any, .any], [], []⟩
  refine aw_len (t := 0) rfl fun hl => ?_
  unfold maxLen at hl
  refine aw_seq ?_
  refine aw_regK hX hb [0] rfl (σ' := ?s1) (fun K hK => ?h1) ?n1
  case h1 =>
    (refine st_op rfl (by simp (disch := omega) only [stepf,callOf,qop,fop,St.ev,St.put,cd,zd,Value.oneCell',tb_T,TypeDesc.aggB,getD_0,getD_s,Ze,Zd,Zc,Za,Zb,Zr,ZE,ZF,Zf,Zq,Zg,i64_w,Zt,Zs,map_at_l,Zh] <;> exact rfl) ?_)
    refine aops_nil ?_
    exact hK
  refine exq_n ?_
  refine aw_seq ?_
  refine aw_seq ?_
  refine aw_regK hX hb [0, 1, 2, 3, 4] rfl (σ' := ?s2) (fun K hK => ?h2) ?n2
  case h2 =>
    iterate 5 (refine st_op rfl (by simp (disch := omega) only [stepf,callOf,qop,fop,St.ev,St.put,cd,zd,Value.oneCell',tb_T,TypeDesc.aggB,getD_0,getD_s,Ze,Zd,Zc,Za,Zb,Zr,ZE,ZF,Zf,Zq,Zg,i64_w,Zt,Zs,qLen,qBin,iop,t1,ti1,t3,ti3,t24,ti24,t58,ti58,t60,ti60,map_at_l,Zh] <;> exact rfl) ?_)
    refine aops_nil ?_
    exact hK
  refine exq_n ?_
  refine aw_cond _ rfl (fun hc0 => ?_) (fun hc0 => ?_)
  · try simp only [Zp,Zi,ZK,ZJ,ne_eq,Zn,Zm,ZB,ZA,ZI,not_or,not_and,Zu] at hc0
    refine aw_seq ?_
    refine aw_regK hX hb [0] rfl (σ' := ?s3) (fun K hK => ?h3) ?n3
    case h3 =>
      (refine st_op rfl (by simp (disch := omega) only [stepf,callOf,qop,fop,St.ev,St.put,cd,zd,Value.oneCell',tb_T,TypeDesc.aggB,getD_0,getD_s,Ze,Zd,Zc,Za,Zb,Zr,ZE,ZF,Zf,Zq,Zg,i64_w,Zt,Zs,map_at_l,Zh] <;> exact rfl) ?_)
      refine aops_nil ?_
      exact hK
    refine exq_n ?_
    refine aw_ret ?_
    refine exq_r ?_
    exact ret_r rfl (resOf_one rfl (by first | rfl | (first | (refine jf ?_; rintro rfl; exact hc2 rfl) | (refine jf ?_; rintro rfl; exact hc0 rfl) | exact jt (take_all_eq hc0 he (by omega)))))
  · try simp only [Zp,Zi,ZK,ZJ,ne_eq,Zn,Zm,ZB,ZA,ZI,not_or,not_and,Zu] at hc0
    refine aw_skip ?_
    refine exq_n ?_
    refine aw_seq ?_
    refine aw_seq ?_
    refine aw_regK hX hb [0, 1, 2] rfl (σ' := ?s4) (fun K hK => ?h4) ?n4
    case h4 =>
      iterate 3 (refine st_op rfl (by simp (disch := omega) only [stepf,callOf,qop,fop,St.ev,St.put,cd,zd,Value.oneCell',tb_T,TypeDesc.aggB,getD_0,getD_s,Ze,Zd,Zc,Za,Zb,Zr,ZE,ZF,Zf,Zq,Zg,i64_w,Zt,Zs,qLen,t24,ti24,t58,ti58,t60,ti60,map_at_l,Zh] <;> exact rfl) ?_)
      refine aops_nil ?_
      exact hK
    refine exq_n ?_
    refine aw_block ?_
    refine aw_loop (ι := Nat) (fun i => i ≤ a.length ∧ a.take i = b.take i) (fun i => ⟨[], [.p (lvls a), .p (lvls b), .p (.v (.func (.func 40) #[] #[])), .any, .any, .any, .any, .any, .any, .any, .any, .any, .any, .any, .any, .p (lvls a), .p (i64 (a.length : Int)), .p (i64 i), .any, .any, .any, .any, .any, .any, .any, .any, .any, .any, .any, .any, .any, .any], [], []⟩) (fun i => a.length - i) 0 (by exact ⟨Nat.zero_le _, rfl⟩) (wk_le ⟨rfl, leL_r rfl (leL_r rfl (leL_r rfl (leL_a (leL_a (leL_a (leL_a (leL_a (leL_a (leL_a (leL_a (leL_a (leL_a (leL_a (leL_a (leL_r rfl (leL_r rfl (leL_r rfl (leL_a (leL_a (leL_a (leL_a (leL_a (leL_a (leL_a (leL_a (leL_a (leL_a (leL_a (leL_a (leL_a (leL_a (leL_nil)))))))))))))))))))))))))))))))), (leB_nil _), (leV_nil _), rfl, rfl⟩) ?_
    rintro i ⟨hi, he⟩
    refine aw_seq ?_
    refine aw_regK hX hb [0] rfl (σ' := ?s5) (fun K hK => ?h5) ?n5
    case h5 =>
      (refine st_op rfl (by simp (disch := omega) only [stepf,callOf,qop,fop,St.ev,St.put,cd,zd,Value.oneCell',tb_T,TypeDesc.aggB,getD_0,getD_s,Ze,Zd,Zc,Za,Zb,Zr,ZE,ZF,Zf,Zq,Zg,i64_w,Zt,Zs,qBin,iop,t3,ti3,map_at_l,Zh] <;> exact rfl) ?_)
      refine aops_nil ?_
      exact hK
    refine exq_n ?_
    refine aw_seq ?_
    refine aw_cond _ rfl (fun hc1 => ?_) (fun hc1 => ?_)
    · try simp only [Zp,Zi,ZK,ZJ,ne_eq,Zn,Zm,ZB,ZA,ZI,not_or,not_and,Zu] at hc1
      refine aw_skip ?_
      refine exq_n ?_
      refine aw_seq ?_
      refine aw_block ?_
      refine aw_seq ?_
      refine aw_regK hX hb [0, 1, 2, 3, 4] rfl (σ' := ?s6) (fun K hK => ?h6) ?n6
      case h6 =>
        iterate 5 (refine st_op rfl (by simp (disch := omega) only [stepf,callOf,qop,fop,St.ev,St.put,cd,zd,Value.oneCell',tb_T,TypeDesc.aggB,getD_0,getD_s,Ze,Zd,Zc,Za,Zb,Zr,ZE,ZF,Zf,Zq,Zg,i64_w,Zt,Zs,Int.toNat_zero,Int.toNat_one,toNat_pred,toNat_succ,qIndexAddr,ZO,Nat.mul_one,ZC,Nat.zero_mul,Zh,Zl,Zo,Zv,Zw,Zj,Zk,Zx,Zy,qLoad,bload,pload,pureAll,D.pure?,ZD,t24,ti24,t58,ti58,t60,ti60,map_at_l] <;> exact rfl) ?_)
        refine aops_nil ?_
        exact hK
      refine exq_n ?_
      refine aw_seq ?_
      refine aw_regK hX hb [0, 1, 2, 3, 4] rfl (σ' := ?s7) (fun K hK => ?h7) ?n7
      case h7 =>
        iterate 5 (refine st_op rfl (by simp (disch := omega) only [stepf,callOf,qop,fop,St.ev,St.put,cd,zd,Value.oneCell',tb_T,TypeDesc.aggB,getD_0,getD_s,Ze,Zd,Zc,Za,Zb,Zr,ZE,ZF,Zf,Zq,Zg,i64_w,Zt,Zs,Int.toNat_zero,Int.toNat_one,toNat_pred,toNat_succ,qIndexAddr,ZO,Nat.mul_one,ZC,Nat.zero_mul,Zh,Zl,Zo,Zv,Zw,Zj,Zk,Zx,Zy,qLoad,bload,pload,pureAll,D.pure?,ZD,t1,ti1,t5,ti5,t22,ti22,t24,ti24,t50,ti50,t58,ti58,t60,ti60,map_at_l] <;> exact rfl) ?_)
        refine aops_nil ?_
        exact hK
      refine exq_n ?_
      refine aw_seq ?_
      refine aw_regK hX hb [0, 1, 2, 3, 4] rfl (σ' := ?s8) (fun K hK => ?h8) ?n8
      case h8 =>
        iterate 3 (refine st_op rfl (by simp (disch := omega) only [stepf,callOf,qop,fop,St.ev,St.put,cd,zd,Value.oneCell',tb_T,TypeDesc.aggB,getD_0,getD_s,Ze,Zd,Zc,Za,Zb,Zr,ZE,ZF,Zf,Zq,Zg,i64_w,Zt,Zs,pvAll,D.pv?,Bool.not_true,Bool.not_false,t2,ti2,t3,ti3,t4,ti4,t24,ti24,t26,ti26,t27,ti27,t58,ti58,t60,ti60,map_at_l,Zh] <;> exact rfl) ?_)
        refine st_call rfl (by simp only [callOf,St.ev,getD_0,getD_s,pvAll,D.pv?,ZG,ZH,zd,cd,Value.oneCell',Zr] <;> exact rfl) (acK hP (c40 _ _)) (by simp only [St.put,Za,Zb] <;> exact rfl) ?_
        (refine st_op rfl (by simp (disch := omega) only [stepf,callOf,qop,fop,St.ev,St.put,cd,zd,Value.oneCell',tb_T,TypeDesc.aggB,getD_0,getD_s,Ze,Zd,Zc,Za,Zb,Zr,ZE,ZF,Zf,Zq,Zg,i64_w,Zt,Zs,pvAll,D.pv?,Bool.not_true,Bool.not_false,t2,ti2,t3,ti3,t4,ti4,t24,ti24,t26,ti26,t27,ti27,t58,ti58,t60,ti60,map_at_l,Zh] <;> exact rfl) ?_)
        refine aops_nil ?_
        exact hK
      refine exq_n ?_
      refine aw_cond _ rfl (fun hc2 => ?_) (fun hc2 => ?_)
      · try simp only [Zp,Zi,ZK,ZJ,ne_eq,Zn,Zm,ZB,ZA,ZI,not_or,not_and,Zu] at hc2
        refine aw_seq ?_
        refine aw_regK hX hb [0] rfl (σ' := ?s9) (fun K hK => ?h9) ?n9
        case h9 =>
          (refine st_op rfl (by simp (disch := omega) only [stepf,callOf,qop,fop,St.ev,St.put,cd,zd,Value.oneCell',tb_T,TypeDesc.aggB,getD_0,getD_s,Ze,Zd,Zc,Za,Zb,Zr,ZE,ZF,Zf,Zq,Zg,i64_w,Zt,Zs,map_at_l,Zh] <;> exact rfl) ?_)
          refine aops_nil ?_
          exact hK
        refine exq_n ?_
        refine aw_ret ?_
        refine exb_r ?_
        refine exq_r ?_
        refine exq_r ?_
        refine exb_r ?_
        refine exq_r ?_
        exact ret_r rfl (resOf_one rfl (by first | rfl | (first | (refine jf ?_; rintro rfl; exact hc2 rfl) | (refine jf ?_; rintro rfl; exact hc0 rfl) | exact jt (take_all_eq hc0 he (by omega)))))
      · try simp only [Zp,Zi,ZK,ZJ,ne_eq,Zn,Zm,ZB,ZA,ZI,not_or,not_and,Zu] at hc2
        refine aw_skip ?_
        refine exb_n ?_
        refine exq_n ?_
        refine aw_regK hX hb [0, 1] rfl (σ' := ?s10) (fun K hK => ?h10) ?n10
        case h10 =>
          iterate 2 (refine st_op rfl (by simp (disch := omega) only [stepf,callOf,qop,fop,St.ev,St.put,cd,zd,Value.oneCell',tb_T,TypeDesc.aggB,getD_0,getD_s,Ze,Zd,Zc,Za,Zb,Zr,ZE,ZF,Zf,Zq,Zg,i64_w,Zt,Zs,qBin,iop,t1,ti1,t3,ti3,map_at_l,Zh] <;> exact rfl) ?_)
          refine aops_nil ?_
          exact hK
        refine exq_n ?_
        exact ⟨i + 1, by exact ⟨by omega, by rw [getD_take_succ_l a i (by omega), getD_take_succ_l b i (by omega), he, hc2]⟩, by (try dsimp only); omega, wk_le ⟨rfl, leL_r rfl (leL_r rfl (leL_r rfl (leL_a (leL_a (leL_a (leL_a (leL_a (leL_a (leL_a (leL_a (leL_a (leL_a (leL_a (leL_a (leL_r rfl (leL_r rfl (leL_r rfl (leL_a (leL_a (leL_a (leL_a (leL_a (leL_a (leL_a (leL_a (leL_a (leL_a (leL_a (leL_a (leL_a (leL_a (leL_nil)))))))))))))))))))))))))))))))), (leB_nil _), (leV_nil _), rfl, rfl⟩⟩
    · try simp only [Zp,Zi,ZK,ZJ,ne_eq,Zn,Zm,ZB,ZA,ZI,not_or,not_and,Zu] at hc1
      refine aw_exit ?_
      refine exq_e ?_
      refine exq_e ?_
      refine exb_h ?_
      refine exq_n ?_
      refine aw_seq ?_
      refine aw_regK hX hb [0] rfl (σ' := ?s11) (fun K hK => ?h11) ?n11
      case h11 =>
        (refine st_op rfl (by simp (disch := omega) only [stepf,callOf,qop,fop,St.ev,St.put,cd,zd,Value.oneCell',tb_T,TypeDesc.aggB,getD_0,getD_s,Ze,Zd,Zc,Za,Zb,Zr,ZE,ZF,Zf,Zq,Zg,i64_w,Zt,Zs,map_at_l,Zh] <;> exact rfl) ?_)
        refine aops_nil ?_
        exact hK
      refine exq_n ?_
      refine aw_ret ?_
      exact ret_r rfl (resOf_one rfl (by first | rfl | (first | (refine jf ?_; rintro rfl; exact hc2 rfl) | (refine jf ?_; rintro rfl; exact hc0 rfl) | exact jt (take_all_eq hc0 he (by omega)))))
end Go.Proofs.Ytldcoekbgfaomaa
end
section
namespace Go.Proofs.Ytldcoekbgfaomaa
open Go.RowKit
set_option maxRecDepth 20000
set_option maxHeartbeats 4000000
attribute [local irreducible] AOps AOpsD AW
theorem c67 (h79 : ∀ a b : Int, ACalls Try.prog 79 [.p (u64 a), .p (u64 b)] (.p (u64 (pairD a b)))) (s f : Int) (l : List Int) (hl : l.length ≤ 4294967296) (hl1 : 1 ≤ l.length) : ACalls Try.prog 67 [.p (i64 s), .p (i64 f), .p (u64s l)] (.agg [i64 s, i64 f, lvls (levelsOf l)]) := by
  refine acalls_of tb_ok Try.func67 (c := _) rfl (by kernel_rfl) ?_
  intro X hP hX hro hpl
  have hb : tb.Ok X.P := hP ▸ tb_ok
  change AW X _ _ ⟨[], [.p (i64 s), .p (i64 f), .p (u64s l), .any, .any, .any, .any, .any, .any, .any, .any, .any, .any, .any, .any, .any, .any, .any, .any, .any, .any, .any, .any], [], []⟩
  refine aw_seq ?_
  refine aw_regK hX hb [0] rfl (σ' := ?s1) (fun K hK => ?h1) ?n1
  case h1 =>
    (refine st_op rfl (by simp (disch := omega) only [stepf,callOf,qop,fop,St.ev,St.put,cd,zd,Value.oneCell',tb_T,TypeDesc.aggB,getD_0,getD_s,Ze,Zd,Zc,Za,Zb,Zr,ZE,ZF,Zf,Zq,Zg,i64_w,Zt,Zs,ZM,ZL,Zl,Zo,ZG,ZH,St.addBox,Value.cells,t3,ti3,t24,ti24,t26,ti26,t58,ti58,t60,ti60] <;> exact rfl) ?_)
    refine aops_nil ?_
    exact hK
  refine exq_n ?_
  refine aw_scope ?_
  refine aw_seq ?_
  refine aw_regK hX (tbW_ok 26 hb) [0, 1, 2, 3, 4] rfl (σ' := ?s2) (fun K hK => ?h2) ?n2
  case h2 =>
    iterate 5 (refine st_op rfl (by simp (disch := omega) only [stepf,callOf,qop,fop,St.ev,St.put,cd,zd,Value.oneCell',tb_T,TypeDesc.aggB,getD_0,getD_s,Ze,Zd,Zc,Za,Zb,Zr,ZE,ZF,Zf,Zq,Zg,i64_w,Zt,Zs,tb_W,tbO_W,qBuild,qBuildD,D.cell1,range_1,range_2,range_3,range_4,range_5,List.all_cons,List.all_nil,bfill,TI.place,TI.zeros,TI.kindOk,D.cells?,D.pure?,zp,Value.cells,ZQ,ZP,Zl,Zo,ZM,ZL,ZG,ZH,St.addBox,fStore,D.boxCells,D.live,Zv,Zw,Zj,Zk,Zx,Zy,ZN,St.setVec,ZC,t1,ti1,t3,ti3,t24,ti24,t26,ti26,t58,ti58,t60,ti60,tbW_T,tbW_hit,qBuildW,setCells] <;> exact rfl) ?_)
    refine aops_nil ?_
    exact hK
  refine exq_n ?_
  refine aw_wk (wk_nilCell 1 2 _ 60 1 rfl rfl) ?_
  change AW X _ _ ⟨[], [.p (i64 s), .p (i64 f), .p (u64s l), .any, .any, .any, .ptr 0 0, .ptr 1 0, .p (i64 s), .p (i64 f), .aggd [.p (i64 s), .p (i64 f), .nil], .any, .any, .any, .any, .any, .any, .any, .any, .any, .any, .any, .any], [⟨26, [.p (i64 0), .p (i64 0), .nil]⟩, ⟨26, [.p (i64 s), .p (i64 f), .vref 0]⟩], [some ⟨60, 1, 0, []⟩]⟩
  refine aw_seq ?_
  refine aw_label ?_
  refine exq_n ?_
  refine aw_seq ?_
  refine aw_block ?_
  refine aw_loop (ι := List Int × List (List Int)) (fun p => 1 ≤ p.1.length ∧ p.1.length ≤ l.length ∧ p.2 ++ levelsOf p.1 = levelsOf l) (fun p => ⟨[], [.p (i64 s), .p (i64 f), .p (u64s p.1), .any, .any, .any, .ptr 0 0, .ptr 1 0, .any, .any, .any, .any, .any, .any, .any, .any, .any, .any, .any, .any, .any, .any, .any], [⟨26, [.p (i64 0), .p (i64 0), .nil]⟩, ⟨26, [.p (i64 s), .p (i64 f), .vref 0]⟩], [some ⟨60, 1, p.2.length, p.2.map u64s⟩]⟩) (fun p => p.1.length) (l, []) (by exact ⟨hl1, Nat.le_refl _, rfl⟩) (wk_le ⟨rfl, leL_r (by first | rfl | (simp)) (leL_r (by first | rfl | (simp)) (leL_r (by first | rfl | (simp)) (leL_a (leL_a (leL_a (leL_r (by first | rfl | (simp)) (leL_r (by first | rfl | (simp)) (leL_a (leL_a (leL_a (leL_a (leL_a (leL_a (leL_a (leL_a (leL_a (leL_a (leL_a (leL_a (leL_a (leL_a (leL_a (leL_nil))))))))))))))))))))))), (leB_r rfl (leL_r (by first | rfl | (simp)) (leL_r (by first | rfl | (simp)) (leL_r (by first | rfl | (simp)) (leL_nil)))) (leB_r rfl (leL_r (by first | rfl | (simp)) (leL_r (by first | rfl | (simp)) (leL_r (by first | rfl | (simp)) (leL_nil)))) (leB_nil _))), (leV_r (by first | rfl | (simp)) (leV_nil _)), rfl, rfl⟩) ?_
  rintro ⟨m, ls⟩ ⟨hm1, hml, hm⟩
  dsimp only at hm1 hml hm ⊢
  have hls : ls.length ≤ l.length + 1 := by
    have h1 := levelsOf_length_le l.length l (Nat.le_refl _)
    rw [← hm, List.length_append] at h1
    omega
  refine aw_block ?_
  refine aw_seq ?_
  refine aw_regK hX hb [0, 1, 2, 3, 4, 5, 6] rfl (σ' := ?s3) (fun K hK => ?h3) ?n3
  case h3 =>
    iterate 7 (refine st_op rfl (by simp (disch := omega) only [stepf,callOf,qop,fop,St.ev,St.put,cd,zd,Value.oneCell',tb_T,TypeDesc.aggB,getD_0,getD_s,Ze,Zd,Zc,Za,Zb,Zr,ZE,ZF,Zf,Zq,Zg,i64_w,Zt,Zs,qFieldAddr,fieldOf,Zl,Zo,Zv,Zw,Zj,Zk,Zx,Zy,qLoad,bload,pload,pureAll,D.pure?,ZC,ZD,tb_N,tbO_N,tbW_N,tb_O,fBuildSlice,catCells,D.cells?,range_1,range_2,range_3,range_4,range_5,ZG,ZH,ZL,ZM,ZN,sec8_length,Nat.reduceAdd,Nat.reduceMul,fAppend,appV,St.demote,D.demote,St.setVec,Zh,List.length_append,Nat.mul_one,reduceIte,fStore,D.boxCells,D.live,t1,ti1,t2,ti2,t3,ti3,t24,ti24,t26,ti26,t58,ti58,t60,ti60] <;> exact rfl) ?_)
    refine aops_nil ?_
    exact hK
  refine exq_n ?_
  refine aw_seq ?_
  refine aw_seq ?_
  refine aw_regK hX hb [0, 1, 2] rfl (σ' := ?s4) (fun K hK => ?h4) ?n4
  case h4 =>
    iterate 3 (refine st_op rfl (by simp (disch := omega) only [stepf,callOf,qop,fop,St.ev,St.put,cd,zd,Value.oneCell',tb_T,TypeDesc.aggB,getD_0,getD_s,Ze,Zd,Zc,Za,Zb,Zr,ZE,ZF,Zf,Zq,Zg,i64_w,Zt,Zs,qLen,qBin,iop,t1,ti1,t2,ti2,t3,ti3,t58,ti58,t60,ti60] <;> exact rfl) ?_)
    refine aops_nil ?_
    exact hK
  refine exq_n ?_
  refine aw_cond _ rfl (fun hc0 => ?_) (fun hc0 => ?_)
  · try simp only [Zp,Zi,ZK,ZJ,ne_eq,Zn,Zm,ZB,ZA,ZI,not_or,not_and,Zu] at hc0
    refine aw_exit ?_
    refine exq_e ?_
    refine exb_m (by decide) ?_
    refine exq_e ?_
    refine exb_h ?_
    refine exq_n ?_
    refine aw_seq ?_
    refine aw_frz 0 rfl (σ' := ?s6) ?h6 ?n6
    case h6 => simp only [St.freeze,D.freeze,ZG,ZH,Za,Zb,Zr,reduceIte,Nat.reduceEqDiff]; exact rfl
    refine aw_regK hX hb [0, 1] rfl (σ' := ?s5) (fun K hK => ?h5) ?n5
    case h5 =>
      iterate 2 (refine st_op rfl (by simp (disch := omega) only [stepf,callOf,qop,fop,St.ev,St.put,cd,zd,Value.oneCell',tb_T,TypeDesc.aggB,getD_0,getD_s,Ze,Zd,Zc,Za,Zb,Zr,ZE,ZF,Zf,Zq,Zg,i64_w,Zt,Zs,Zl,Zo,Zv,Zw,Zj,Zk,Zx,Zy,qLoad,bload,pload,pureAll,D.pure?,ZC,ZD,fStore,D.boxCells,D.live,D.cells?,ZM,ZL,ZN,ZG,ZH,St.setVec,t3,ti3,t5,ti5,t22,ti22,t24,ti24,t26,ti26,t50,ti50,t58,ti58,t60,ti60] <;> exact rfl) ?_)
      refine aops_nil ?_
      exact hK
    refine exq_n ?_
    refine aw_ret ?_
    refine exs_r ?_
    exact ret_r rfl (resOf_one (by simp only [resVal,qLoad,bload,tb_T,TypeDesc.aggB,pureAll,D.pure?,D.pv?,getD_0,getD_s,Zd,Zc,Zw,Zk,Zv,Zj,Zx,Zl,Zo,Zr,reduceIte,Nat.reduceAdd,Nat.reduceLeDiff,Zg,Zf,t3,ti3,t24,ti24,t26,ti26,t58,ti58,t60,ti60] <;> exact rfl) (by first | rfl | (rw [← hm, levelsOf_one (l := m) (by omega)]; refine congrArg D.agg ?_; refine congrArg (fun x => [i64 s, i64 f, x]) ?_; simp [lvls])))
  · try simp only [Zp,Zi,ZK,ZJ,ne_eq,Zn,Zm,ZB,ZA,ZI,not_or,not_and,Zu] at hc0
    refine aw_skip ?_
    refine exq_n ?_
    refine aw_regK hX hb [0, 1, 2] rfl (σ' := ?s7) (fun K hK => ?h7) ?n7
    case h7 =>
      (refine st_op rfl (by simp (disch := omega) only [stepf,callOf,qop,fop,St.ev,St.put,cd,zd,Value.oneCell',tb_T,TypeDesc.aggB,getD_0,getD_s,Ze,Zd,Zc,Za,Zb,Zr,ZE,ZF,Zf,Zq,Zg,i64_w,Zt,Zs,pvAll,D.pv?,t2,ti2,t58,ti58,t60,ti60,t115,ti115] <;> exact rfl) ?_)
      refine st_call rfl (by simp only [callOf,St.ev,getD_0,getD_s,pvAll,D.pv?,ZG,ZH,zd,cd,Value.oneCell',Zr] <;> exact rfl) (acK hP ((o106 h79 m (by omega)).pure)) (by simp only [St.put,Za,Zb] <;> exact rfl) ?_
      (refine st_op rfl (by simp (disch := omega) only [stepf,callOf,qop,fop,St.ev,St.put,cd,zd,Value.oneCell',tb_T,TypeDesc.aggB,getD_0,getD_s,Ze,Zd,Zc,Za,Zb,Zr,ZE,ZF,Zf,Zq,Zg,i64_w,Zt,Zs,pvAll,D.pv?,t2,ti2,t58,ti58,t60,ti60,t115,ti115] <;> exact rfl) ?_)
      refine aops_nil ?_
      exact hK
    refine exb_n ?_
    refine exq_n ?_
    exact ⟨(upL m, ls ++ [m]), by have hu := upL_length m; refine ⟨by dsimp only; omega, by dsimp only; omega, ?_⟩; dsimp only; rw [← hm, levelsOf_more (l := m) (by omega), List.append_assoc]; rfl, by have hu := upL_length m; dsimp only; omega, wk_le ⟨rfl, leL_r (by first | rfl | (simp)) (leL_r (by first | rfl | (simp)) (leL_r (by first | rfl | (simp)) (leL_a (leL_a (leL_a (leL_r (by first | rfl | (simp)) (leL_r (by first | rfl | (simp)) (leL_a (leL_a (leL_a (leL_a (leL_a (leL_a (leL_a (leL_a (leL_a (leL_a (leL_a (leL_a (leL_a (leL_a (leL_a (leL_nil))))))))))))))))))))))), (leB_r rfl (leL_r (by first | rfl | (simp)) (leL_r (by first | rfl | (simp)) (leL_r (by first | rfl | (simp)) (leL_nil)))) (leB_r rfl (leL_r (by first | rfl | (simp)) (leL_r (by first | rfl | (simp)) (leL_r (by first | rfl | (simp)) (leL_nil)))) (leB_nil _))), (leV_r (by first | rfl | (simp)) (leV_nil _)), rfl, rfl⟩⟩
end Go.Proofs.Ytldcoekbgfaomaa
end
section
namespace Go.Proofs.Ytldcoekbgfaomaa
/-- What the check knows before level i, with n nodes to come (0: none may come). -/
def ShN (S F : Nat) (lv : List (List Int)) (i n : Nat) : Prop := (n = 0 → i = lv.length ∧ shT S F lv = true) ∧ (n ≠ 0 → shT S F lv = sh false n (lv.drop i))
theorem shN_start {S F : Nat} {lv : List (List Int)} (h : 1 ≤ nLeaves S F) : ShN S F lv 0 (nLeaves S F) := ⟨fun h0 => by omega, fun _ => rfl⟩
theorem shN_bad {S F i n : Nat} {lv : List (List Int)} (h : ShN S F lv i n) (hi : i < lv.length) (hb : (lv.getD i []).length ≠ n ∨ (n = 1 ∧ i + 1 < lv.length)) : shT S F lv = false := by
  have hn : n ≠ 0 := fun h0 => by have := (h.1 h0).1; omega
  rw [h.2 hn, drop_cons_l lv i hi]
  by_cases h1 : (lv.getD i []).length = n
  · rcases hb with hb | ⟨rfl, hb⟩
    · exact absurd h1 hb
    · rw [drop_cons_l lv (i + 1) hb]
      simp only [sh,h1,decide_true,Bool.not_true,Bool.and_false,Bool.false_and]
  · simp only [sh,decide_eq_false h1,Bool.false_and]
theorem shN_step {S F i n : Nat} {lv : List (List Int)} (h : ShN S F lv i n) (hi : i < lv.length) (h1 : (lv.getD i []).length = n) (h2 : ¬ (n = 1 ∧ i + 1 < lv.length)) :
    ShN S F lv (i + 1) (((if n = 1 then 0 else n) + 1) / 2) := by
  have hn : n ≠ 0 := fun h0 => by have := (h.1 h0).1; omega
  have hs := h.2 hn
  rw [drop_cons_l lv i hi] at hs
  by_cases hn1 : n = 1
  · subst hn1
    rw [if_pos rfl]
    refine ⟨fun _ => ⟨by omega, ?_⟩, fun h0 => by omega⟩
    rw [hs, List.drop_of_length_le (by omega)]
    simp only [sh,h1,decide_true,Bool.not_false,Bool.and_self]
  · rw [if_neg hn1]
    refine ⟨fun h0 => by omega, fun _ => ?_⟩
    rw [hs]
    simp only [sh,h1,decide_true,Bool.not_false,Bool.and_self,Bool.true_and,decide_eq_false hn1]
theorem shN_end {S F n : Nat} {lv : List (List Int)} (h : ShN S F lv lv.length n) : shT S F lv = decide (n = 0) := by
  by_cases hn : n = 0
  · rw [(h.1 hn).2, decide_eq_true hn]
  · rw [h.2 hn, List.drop_length, decide_eq_false hn]; rfl
end Go.Proofs.Ytldcoekbgfaomaa
end
section
namespace Go.Proofs.Ytldcoekbgfaomaa
open Go.RowKit
set_option maxRecDepth 20000
set_option maxHeartbeats 4000000
attribute [local irreducible] AOps AOpsD AW
/-- Items that are bytes. -/
def byteItems (l : List Int) : List PV := l.map fun b => .p (u8 b)
theorem byteItems_length (l : List Int) : (byteItems l).length = l.length := by simp [byteItems]
theorem byteItems_at (l : List Int) (i : Nat) (h : i < l.length) : (byteItems l)[i]? = some (.p (u8 (l.getD i 0))) := by simp [byteItems, h]
theorem byteItems_of {l : List Int} {k : Nat} {y : PV} (h : (byteItems l)[k]? = some y) : k < l.length ∧ y = .p (u8 (l.getD k 0)) := by
  have hk : k < l.length := by have := (List.getElem?_eq_some_iff.1 h).1; simpa [byteItems] using this
  rw [byteItems_at l k hk] at h
  injection h with h
  exact ⟨hk, h.symm⟩
theorem bytesOf_item (l : List (List Int)) (i k : Nat) (hi : i < l.length) (hk : k < 8) : (bytesOf l).getD (8 * i + k) 0 = (l.getD i []).getD k 0 := by
  have h1 : bytesOf l = bytesOf (l.take i) ++ secBytes (l.getD i []) ++ bytesOf (l.drop (i + 1)) := by
    have e1 : l = l.take i ++ l.getD i [] :: l.drop (i + 1) := by
      simp [hi]
    conv => lhs; rw [e1]
    simp [bytesOf]
  have h2 : (bytesOf (l.take i)).length = 8 * i := by rw [bytesOf_length, List.length_take]; omega
  rw [List.getD_eq_getElem?_getD, h1, List.append_assoc, List.getElem?_append_right (by omega), h2, show 8 * i + k - 8 * i = k by omega, List.getElem?_append_left (by rw [secBytes_length]; exact hk)]
  simp [secBytes, hk]
/-- The sixteen bytes of a pair, of which i and i are there. -/
def pairB (a b : Int) (i j : Nat) : Int := if j < i then shb a j else if 8 ≤ j ∧ j < 8 + i then shb b ((j - 8 : Nat) : Int) else 0
def pairC (a b : Int) (i : Nat) : List D := (List.range 16).map fun j => .p (u8 (pairB a b i j))
theorem pairC_length (a b : Int) (i : Nat) : (pairC a b i).length = 16 := by simp [pairC]
theorem pairC_step (a b : Int) (i : Nat) (h : i < 8) : ((pairC a b i).set i (.p (u8 (shb a i)))).set (8 + i) (.p (u8 (shb b i))) = pairC a b (i + 1) := by
  apply List.ext_getElem?
  intro j
  simp only [pairC,List.getElem?_set,List.length_set,Zh,List.length_range,List.getElem?_map]
  by_cases hj : j < 16
  · rw [List.getElem?_range hj]
    simp only [Zg]
    by_cases h1 : 8 + i = j
    · subst h1
      rw [if_pos rfl, if_pos (by omega)]
      simp only [pairB]
      rw [if_neg (by omega), if_pos (by omega), show 8 + i - 8 = i by omega]
    · rw [if_neg h1]
      by_cases h2 : i = j
      · subst h2
        rw [if_pos rfl, if_pos (by omega)]
        simp only [pairB]
        rw [if_pos (by omega)]
      · rw [if_neg h2]
        congr 3
        simp only [pairB]
        by_cases h3 : j < i
        · rw [if_pos h3, if_pos (show j < i + 1 by omega)]
        · rw [if_neg h3, if_neg (show ¬ j < i + 1 by omega)]
          by_cases h4 : 8 ≤ j ∧ j < 8 + i
          · rw [if_pos h4, if_pos (show 8 ≤ j ∧ j < 8 + (i + 1) by omega)]
          · rw [if_neg h4, if_neg (show ¬ (8 ≤ j ∧ j < 8 + (i + 1)) by omega)]
  · rw [List.getElem?_eq_none (by simp; omega), if_neg (by omega), if_neg (by omega)]
    rfl
theorem splice_set (l : List D) (i : Nat) (x : D) (h : i < l.length) : l.take i ++ [x] ++ l.drop (i + 1) = l.set i x := by
  rw [List.set_eq_take_append_cons_drop, if_pos h]
  simp
theorem pureAll_map (f : Nat → P1) : ∀ l : List Nat, pureAll (l.map fun j => D.p (f j)) = some (l.map f)
  | [] => rfl
  | x :: l => by simp only [ZG,pureAll,D.pure?,pureAll_map f l]
theorem pairC_pure (a b : Int) : pureAll (pairC a b 8) = some ((wordBytes a ++ wordBytes b).map u8) := by
  rw [pairC, pureAll_map fun j => u8 (pairB a b 8 j)]
  rfl
theorem s121 (l : List Int) : SeqC Try.prog 121 [bytes l] (byteItems l) := by
  refine seq_of Try.func121 (c := _) rfl (by kernel_rfl) rfl ?_
  intro X ll hP hX _
  have hb : tb.Ok X.P := hP ▸ tb_ok
  change AW X _ _ ⟨[.yld ll (byteItems l) 0], [.p (.v (.func (.yield ll) #[] #[])), .ept [bytes l] 0, .any, .any, .any, .any, .any, .any, .any, .any, .any, .any, .any, .any, .any, .any], [], []⟩
  
  refine aw_seq ?_
  refine aw_regK hX hb [0, 1, 2] rfl (σ' := ?s1) (fun K hK => ?h1) ?n1
  case h1 =>
    iterate 3 (refine st_op rfl (by simp (disch := omega) only [stepf,callOf,qop,fop,St.ev,St.put,cd,zd,Value.oneCell',tb_T,TypeDesc.aggB,getD_0,getD_s,Ze,Zd,Zc,Za,Zb,Zr,ZE,ZF,Zf,Zq,Zg,i64_w,Zt,Zs,Zl,Zo,Zv,Zw,Zj,Zk,Zx,Zy,qLoad,bload,pload,pureAll,D.pure?,ZC,ZD,qLen,t1,ti1,t5,ti5,t88,ti88,map_at_i] <;> exact rfl) ?_)
    refine aops_nil ?_
    exact hK
  refine exq_n ?_
  refine aw_len (t := 5) rfl fun hl => ?_
  unfold maxLen at hl
  refine aw_block ?_
  refine aw_loop (ι := Nat) (fun i => i ≤ l.length) (fun i => ⟨[.yld ll (byteItems l) i], [.p (.v (.func (.yield ll) #[] #[])), .any, .any, .any, .any, .p (bytes l), .p (i64 l.length), .p (i64 i), .any, .any, .any, .any, .any, .any, .any, .any], [], []⟩) (fun i => l.length - i) 0 (by exact Nat.zero_le _) (wk_le ⟨rfl, leL_r rfl (leL_a (leL_a (leL_a (leL_a (leL_r rfl (leL_r rfl (leL_r rfl (leL_a (leL_a (leL_a (leL_a (leL_a (leL_a (leL_a (leL_a (leL_nil)))))))))))))))), (leB_nil _), (leV_nil _), rfl, rfl⟩) ?_
  rintro i hJ
  refine aw_seq ?_
  refine aw_regK hX hb [0] rfl (σ' := ?s2) (fun K hK => ?h2) ?n2
  case h2 =>
    (refine st_op rfl (by simp (disch := omega) only [stepf,callOf,qop,fop,St.ev,St.put,cd,zd,Value.oneCell',tb_T,TypeDesc.aggB,getD_0,getD_s,Ze,Zd,Zc,Za,Zb,Zr,ZE,ZF,Zf,Zq,Zg,i64_w,Zt,Zs,qBin,iop,t3,ti3,map_at_i] <;> exact rfl) ?_)
    refine aops_nil ?_
    exact hK
  refine exq_n ?_
  refine aw_seq ?_
  refine aw_cond _ rfl (fun hc0 => ?_) (fun hc0 => ?_)
  · try simp only [Zp,Zi,ZK,ZJ,ne_eq,Zn,Zm,ZB,ZA,ZI,not_or,not_and,Zu] at hc0
    refine aw_skip ?_
    refine exq_n ?_
    refine aw_seq ?_
    refine aw_block ?_
    refine aw_seq ?_
    refine aw_regK hX hb [0, 1, 2] rfl (σ' := ?s3) (fun K hK => ?h3) ?n3
    case h3 =>
      iterate 3 (refine st_op rfl (by simp (disch := omega) only [stepf,callOf,qop,fop,St.ev,St.put,cd,zd,Value.oneCell',tb_T,TypeDesc.aggB,getD_0,getD_s,Ze,Zd,Zc,Za,Zb,Zr,ZE,ZF,Zf,Zq,Zg,i64_w,Zt,Zs,Int.toNat_zero,Int.toNat_one,toNat_pred,toNat_succ,qIndexAddr,ZO,Nat.mul_one,ZC,Nat.zero_mul,Zh,Zl,Zo,Zv,Zw,Zj,Zk,Zx,Zy,qLoad,bload,pload,pureAll,D.pure?,ZD,t5,ti5,t88,ti88,map_at_i] <;> exact rfl) ?_)
      refine aops_nil ?_
      exact hK
    refine exq_n ?_
    refine aw_seq ?_
    refine aw_regK hX hb [0, 1, 2, 3] rfl (σ' := ?s4) (fun K hK => ?h4) ?n4
    case h4 =>
      iterate 2 (refine st_op rfl (by simp (disch := omega) only [stepf,callOf,qop,fop,St.ev,St.put,cd,zd,Value.oneCell',tb_T,TypeDesc.aggB,getD_0,getD_s,Ze,Zd,Zc,Za,Zb,Zr,ZE,ZF,Zf,Zq,Zg,i64_w,Zt,Zs,pvAll,D.pv?,Bool.not_true,Bool.not_false,t4,ti4,t5,ti5,map_at_i] <;> exact rfl) ?_)
      refine st_y rfl rfl (by simp only [St.ev,getD_0,getD_s,zd,cd,Value.oneCell',Zr] <;> exact rfl) (by simp only [pvAll,capCells,D.pvC?,D.pvN?,D.pvL?,pureAll,D.pv?,D.pure?,St.ev,getD_0,getD_s,zd,cd,Value.oneCell',Zr,ZG,ZH,Zd,Zc,Zg] <;> exact rfl) rfl (byteItems_at l i (by omega)) (by simp only [St.put,Za,Zb] <;> exact rfl) ?_
      (refine st_op rfl (by simp (disch := omega) only [stepf,callOf,qop,fop,St.ev,St.put,cd,zd,Value.oneCell',tb_T,TypeDesc.aggB,getD_0,getD_s,Ze,Zd,Zc,Za,Zb,Zr,ZE,ZF,Zf,Zq,Zg,i64_w,Zt,Zs,pvAll,D.pv?,Bool.not_true,Bool.not_false,t4,ti4,t5,ti5,map_at_i] <;> exact rfl) ?_)
      refine aops_nil ?_
      exact hK
    refine exq_n ?_
    refine aw_cond _ rfl (fun hc1 => ?_) (fun hc1 => ?_)
    · try simp only [Zp,Zi,ZK,ZJ,ne_eq,Zn,Zm,ZB,ZA,ZI,not_or,not_and,Zu] at hc1
      cases hc1
    · try simp only [Zp,Zi,ZK,ZJ,ne_eq,Zn,Zm,ZB,ZA,ZI,not_or,not_and,Zu] at hc1
      refine aw_skip ?_
      refine exb_n ?_
      refine exq_n ?_
      refine aw_regK hX hb [0, 1] rfl (σ' := ?s5) (fun K hK => ?h5) ?n5
      case h5 =>
        iterate 2 (refine st_op rfl (by simp (disch := omega) only [stepf,callOf,qop,fop,St.ev,St.put,cd,zd,Value.oneCell',tb_T,TypeDesc.aggB,getD_0,getD_s,Ze,Zd,Zc,Za,Zb,Zr,ZE,ZF,Zf,Zq,Zg,i64_w,Zt,Zs,qBin,iop,t1,ti1,t3,ti3,map_at_i] <;> exact rfl) ?_)
        refine aops_nil ?_
        exact hK
      refine exq_n ?_
      exact ⟨i + 1, by (try dsimp only); omega, by (try dsimp only); omega, wk_le ⟨rfl, leL_r rfl (leL_a (leL_a (leL_a (leL_a (leL_r rfl (leL_r rfl (leL_r rfl (leL_a (leL_a (leL_a (leL_a (leL_a (leL_a (leL_a (leL_a (leL_nil)))))))))))))))), (leB_nil _), (leV_nil _), rfl, rfl⟩⟩
  · try simp only [Zp,Zi,ZK,ZJ,ne_eq,Zn,Zm,ZB,ZA,ZI,not_or,not_and,Zu] at hc0
    refine aw_exit ?_
    refine exq_e ?_
    refine exq_e ?_
    refine exb_h ?_
    exact rets_n rfl (by first | rfl | ((have : i = l.length := by omega); subst this; exact (byteItems_length l).symm))
theorem s105 (l : List (List Int)) : SeqC Try.prog 105 [secs l] (byteItems (bytesOf l)) := by
  refine seq_of Try.func105 (c := _) rfl (by kernel_rfl) rfl ?_
  intro X ll hP hX _
  have hb : tb.Ok X.P := hP ▸ tb_ok
  change AW X _ _ ⟨[.yld ll (byteItems (bytesOf l)) 0], [.p (.v (.func (.yield ll) #[] #[])), .ept [secs l] 0, .any, .any, .any, .any, .any, .any, .any, .any, .any, .any, .any, .any, .any, .any, .any, .any, .any, .any, .any, .any, .any], [], []⟩
  refine aw_seq ?_
  refine aw_regK hX hb [0, 1, 2] rfl (σ' := ?s1) (fun K hK => ?h1) ?n1
  case h1 =>
    iterate 3 (refine st_op rfl (by simp (disch := omega) only [stepf,callOf,qop,fop,St.ev,St.put,cd,zd,Value.oneCell',tb_T,TypeDesc.aggB,getD_0,getD_s,Ze,Zd,Zc,Za,Zb,Zr,ZE,ZF,Zf,Zq,Zg,i64_w,Zt,Zs,Zl,Zo,Zv,Zw,Zj,Zk,Zx,Zy,qLoad,bload,pload,pureAll,D.pure?,ZC,ZD,qLen,t1,ti1,t5,ti5,t22,ti22,t50,ti50,secCells_part,secCells_length,sec8_length,sec8_at] <;> exact rfl) ?_)
    refine aops_nil ?_
    exact hK
  refine exq_n ?_
  refine aw_len (t := 7) rfl fun hl => ?_
  unfold maxLen at hl
  refine aw_block ?_
  refine aw_loop (ι := Nat) (fun i => i ≤ l.length) (fun i => ⟨[.yld ll (byteItems (bytesOf l)) (8 * i)], [.p (.v (.func (.yield ll) #[] #[])), .any, .any, .any, .any, .any, .any, .p (secs l), .p (i64 l.length), .p (i64 i), .any, .any, .any, .any, .any, .any, .any, .any, .any, .any, .any, .any, .any], [], []⟩) (fun i => l.length - i) 0 (by exact Nat.zero_le _) (wk_le ⟨(by first | rfl | ((have : k = 8 := by omega); subst this; rfl)), leL_r (by first | rfl | ((have : k = 8 := by omega); subst this; rfl)) (leL_a (leL_a (leL_a (leL_a (leL_a (leL_a (leL_r (by first | rfl | ((have : k = 8 := by omega); subst this; rfl)) (leL_r (by first | rfl | ((have : k = 8 := by omega); subst this; rfl)) (leL_r (by first | rfl | ((have : k = 8 := by omega); subst this; rfl)) (leL_a (leL_a (leL_a (leL_a (leL_a (leL_a (leL_a (leL_a (leL_a (leL_a (leL_a (leL_a (leL_a (leL_nil))))))))))))))))))))))), (leB_nil _), (leV_nil _), rfl, rfl⟩) ?_
  rintro i hJ
  refine aw_seq ?_
  refine aw_regK hX hb [0] rfl (σ' := ?s2) (fun K hK => ?h2) ?n2
  case h2 =>
    (refine st_op rfl (by simp (disch := omega) only [stepf,callOf,qop,fop,St.ev,St.put,cd,zd,Value.oneCell',tb_T,TypeDesc.aggB,getD_0,getD_s,Ze,Zd,Zc,Za,Zb,Zr,ZE,ZF,Zf,Zq,Zg,i64_w,Zt,Zs,qBin,iop,t3,ti3,secCells_part,secCells_length,sec8_length,sec8_at] <;> exact rfl) ?_)
    refine aops_nil ?_
    exact hK
  refine exq_n ?_
  refine aw_seq ?_
  refine aw_cond _ rfl (fun hc0 => ?_) (fun hc0 => ?_)
  · try simp only [Zp,Zi,ZK,ZJ,ne_eq,Zn,Zm,ZB,ZA,ZI,not_or,not_and,Zu] at hc0
    refine aw_skip ?_
    refine exq_n ?_
    refine aw_seq ?_
    refine aw_block ?_
    refine aw_seq ?_
    refine aw_regK hX hb [0, 1, 2, 3] rfl (σ' := ?s3) (fun K hK => ?h3) ?n3
    case h3 =>
      iterate 4 (refine st_op rfl (by simp (disch := omega) only [stepf,callOf,qop,fop,St.ev,St.put,cd,zd,Value.oneCell',tb_T,TypeDesc.aggB,getD_0,getD_s,Ze,Zd,Zc,Za,Zb,Zr,ZE,ZF,Zf,Zq,Zg,i64_w,Zt,Zs,Int.toNat_zero,Int.toNat_one,toNat_pred,toNat_succ,qIndexAddr,ZO,Nat.mul_one,ZC,Nat.zero_mul,Zh,Zl,Zo,Zv,Zw,Zj,Zk,Zx,Zy,qLoad,bload,pload,pureAll,D.pure?,ZD,ZM,ZL,ZG,ZH,St.addBox,Value.cells,fStore,D.boxCells,D.live,D.cells?,ZN,St.setVec,t4,ti4,t5,ti5,t22,ti22,t50,ti50,secCells_part,secCells_length,sec8_length,sec8_at] <;> exact rfl) ?_)
      refine aops_nil ?_
      exact hK
    refine exq_n ?_
    refine aw_seq ?_
    refine aw_regK hX hb [0, 1] rfl (σ' := ?s4) (fun K hK => ?h4) ?n4
    case h4 =>
      iterate 2 (refine st_op rfl (by simp (disch := omega) only [stepf,callOf,qop,fop,St.ev,St.put,cd,zd,Value.oneCell',tb_T,TypeDesc.aggB,getD_0,getD_s,Ze,Zd,Zc,Za,Zb,Zr,ZE,ZF,Zf,Zq,Zg,i64_w,Zt,Zs,Zl,Zo,Zv,Zw,Zj,Zk,Zx,Zy,qLoad,bload,pload,pureAll,D.pure?,ZC,ZD,t4,ti4,t5,ti5,t50,ti50,secCells_part,secCells_length,sec8_length,sec8_at] <;> exact rfl) ?_)
      refine aops_nil ?_
      exact hK
    refine exq_n ?_
    refine aw_block ?_
    refine aw_loop (ι := Nat) (fun k => k ≤ 8) (fun k => ⟨[.yld ll (byteItems (bytesOf l)) (8 * i + k)], [.p (.v (.func (.yield ll) #[] #[])), .any, .any, .any, .any, .any, .any, .p (secs l), .p (i64 l.length), .p (i64 i), .any, .any, .any, .agg (sec8 (l.getD i [])), .p (i64 k), .any, .any, .any, .any, .any, .any, .any, .any], [], []⟩) (fun k => 8 - k) 0 (by exact Nat.zero_le _) (wk_le ⟨rfl, leL_r rfl (leL_a (leL_a (leL_a (leL_a (leL_a (leL_a (leL_r rfl (leL_r rfl (leL_r rfl (leL_a (leL_a (leL_a (leL_r rfl (leL_r rfl (leL_a (leL_a (leL_a (leL_a (leL_a (leL_a (leL_a (leL_a (leL_nil))))))))))))))))))))))), (leB_nil _), (leV_nil _), rfl, rfl⟩) ?_
    rintro k hJ
    refine aw_seq ?_
    refine aw_regK hX hb [0] rfl (σ' := ?s5) (fun K hK => ?h5) ?n5
    case h5 =>
      (refine st_op rfl (by simp (disch := omega) only [stepf,callOf,qop,fop,St.ev,St.put,cd,zd,Value.oneCell',tb_T,TypeDesc.aggB,getD_0,getD_s,Ze,Zd,Zc,Za,Zb,Zr,ZE,ZF,Zf,Zq,Zg,i64_w,Zt,Zs,qBin,iop,t3,ti3,secCells_part,secCells_length,sec8_length,sec8_at] <;> exact rfl) ?_)
      refine aops_nil ?_
      exact hK
    refine exq_n ?_
    refine aw_seq ?_
    refine aw_cond _ rfl (fun hc1 => ?_) (fun hc1 => ?_)
    · try simp only [Zp,Zi,ZK,ZJ,ne_eq,Zn,Zm,ZB,ZA,ZI,not_or,not_and,Zu] at hc1
      refine aw_skip ?_
      refine exq_n ?_
      refine aw_seq ?_
      refine aw_block ?_
      refine aw_seq ?_
      refine aw_regK hX hb [0, 1] rfl (σ' := ?s6) (fun K hK => ?h6) ?n6
      case h6 =>
        iterate 2 (refine st_op rfl (by simp (disch := omega) only [stepf,callOf,qop,fop,St.ev,St.put,cd,zd,Value.oneCell',tb_T,TypeDesc.aggB,getD_0,getD_s,Ze,Zd,Zc,Za,Zb,Zr,ZE,ZF,Zf,Zq,Zg,i64_w,Zt,Zs,qIndex,pload,ZO,Nat.mul_one,Zh,t5,ti5,t50,ti50,secCells_part,secCells_length,sec8_length,sec8_at] <;> exact rfl) ?_)
        refine aops_nil ?_
        exact hK
      refine exq_n ?_
      refine aw_seq ?_
      refine aw_regK hX hb [0, 1, 2, 3] rfl (σ' := ?s7) (fun K hK => ?h7) ?n7
      case h7 =>
        iterate 2 (refine st_op rfl (by simp (disch := omega) only [stepf,callOf,qop,fop,St.ev,St.put,cd,zd,Value.oneCell',tb_T,TypeDesc.aggB,getD_0,getD_s,Ze,Zd,Zc,Za,Zb,Zr,ZE,ZF,Zf,Zq,Zg,i64_w,Zt,Zs,pvAll,D.pv?,Bool.not_true,Bool.not_false,t4,ti4,t5,ti5,secCells_part,secCells_length,sec8_length,sec8_at] <;> exact rfl) ?_)
        refine st_y rfl rfl (by simp only [St.ev,getD_0,getD_s,zd,cd,Value.oneCell',Zr] <;> exact rfl) (by simp only [pvAll,capCells,D.pvC?,D.pvN?,D.pvL?,pureAll,D.pv?,D.pure?,St.ev,getD_0,getD_s,zd,cd,Value.oneCell',Zr,ZG,ZH,Zd,Zc,Zg] <;> exact rfl) rfl ((byteItems_at _ (8 * i + k) (by rw [bytesOf_length]; omega)).trans (by rw [bytesOf_item l i k (by omega) (by omega)])) (by simp only [St.put,Za,Zb] <;> exact rfl) ?_
        (refine st_op rfl (by simp (disch := omega) only [stepf,callOf,qop,fop,St.ev,St.put,cd,zd,Value.oneCell',tb_T,TypeDesc.aggB,getD_0,getD_s,Ze,Zd,Zc,Za,Zb,Zr,ZE,ZF,Zf,Zq,Zg,i64_w,Zt,Zs,pvAll,D.pv?,Bool.not_true,Bool.not_false,t4,ti4,t5,ti5,secCells_part,secCells_length,sec8_length,sec8_at] <;> exact rfl) ?_)
        refine aops_nil ?_
        exact hK
      refine exq_n ?_
      refine aw_cond _ rfl (fun hc2 => ?_) (fun hc2 => ?_)
      · try simp only [Zp,Zi,ZK,ZJ,ne_eq,Zn,Zm,ZB,ZA,ZI,not_or,not_and,Zu] at hc2
        cases hc2
      · try simp only [Zp,Zi,ZK,ZJ,ne_eq,Zn,Zm,ZB,ZA,ZI,not_or,not_and,Zu] at hc2
        refine aw_skip ?_
        refine exb_n ?_
        refine exq_n ?_
        refine aw_regK hX hb [0, 1] rfl (σ' := ?s8) (fun K hK => ?h8) ?n8
        case h8 =>
          iterate 2 (refine st_op rfl (by simp (disch := omega) only [stepf,callOf,qop,fop,St.ev,St.put,cd,zd,Value.oneCell',tb_T,TypeDesc.aggB,getD_0,getD_s,Ze,Zd,Zc,Za,Zb,Zr,ZE,ZF,Zf,Zq,Zg,i64_w,Zt,Zs,qBin,iop,t1,ti1,t3,ti3,secCells_part,secCells_length,sec8_length,sec8_at] <;> exact rfl) ?_)
          refine aops_nil ?_
          exact hK
        refine exq_n ?_
        exact ⟨k + 1, by (try dsimp only); omega, by (try dsimp only); omega, wk_le ⟨rfl, leL_r rfl (leL_a (leL_a (leL_a (leL_a (leL_a (leL_a (leL_r rfl (leL_r rfl (leL_r rfl (leL_a (leL_a (leL_a (leL_r rfl (leL_r rfl (leL_a (leL_a (leL_a (leL_a (leL_a (leL_a (leL_a (leL_a (leL_nil))))))))))))))))))))))), (leB_nil _), (leV_nil _), rfl, rfl⟩⟩
    · try simp only [Zp,Zi,ZK,ZJ,ne_eq,Zn,Zm,ZB,ZA,ZI,not_or,not_and,Zu] at hc1
      refine aw_exit ?_
      refine exq_e ?_
      refine exq_e ?_
      refine exb_h ?_
      refine exb_n ?_
      refine exq_n ?_
      refine aw_regK hX hb [0, 1] rfl (σ' := ?s9) (fun K hK => ?h9) ?n9
      case h9 =>
        iterate 2 (refine st_op rfl (by simp (disch := omega) only [stepf,callOf,qop,fop,St.ev,St.put,cd,zd,Value.oneCell',tb_T,TypeDesc.aggB,getD_0,getD_s,Ze,Zd,Zc,Za,Zb,Zr,ZE,ZF,Zf,Zq,Zg,i64_w,Zt,Zs,qBin,iop,t1,ti1,t3,ti3,t5,ti5,t22,ti22,t50,ti50,secCells_part,secCells_length,sec8_length,sec8_at] <;> exact rfl) ?_)
        refine aops_nil ?_
        exact hK
      refine exq_n ?_
      exact ⟨i + 1, by (try dsimp only); omega, by (try dsimp only); omega, wk_le ⟨(by first | rfl | ((have : k = 8 := by omega); subst this; rfl)), leL_r (by first | rfl | ((have : k = 8 := by omega); subst this; rfl)) (leL_a (leL_a (leL_a (leL_a (leL_a (leL_a (leL_r (by first | rfl | ((have : k = 8 := by omega); subst this; rfl)) (leL_r (by first | rfl | ((have : k = 8 := by omega); subst this; rfl)) (leL_r (by first | rfl | ((have : k = 8 := by omega); subst this; rfl)) (leL_a (leL_a (leL_a (leL_a (leL_a (leL_a (leL_a (leL_a (leL_a (leL_a (leL_a (leL_a (leL_a (leL_nil))))))))))))))))))))))), (leB_nil _), (leV_nil _), rfl, rfl⟩⟩
  · try simp only [Zp,Zi,ZK,ZJ,ne_eq,Zn,Zm,ZB,ZA,ZI,not_or,not_and,Zu] at hc0
    refine aw_exit ?_
    refine exq_e ?_
    refine exq_e ?_
    refine exb_h ?_
    exact rets_n rfl (by first | rfl | ((have : i = l.length := by omega); subst this; rw [byteItems_length, bytesOf_length, Nat.mul_comm]))
theorem c104 (f : FuncId) (xs : List P1) (bs : List Int) (hs : SeqC Try.prog f xs (byteItems bs)) : ACalls Try.prog 104 [.p (.clo f xs)] (.p (u64 (digest bs))) := by
  refine acalls_of tb_ok Try.func104 (c := _) rfl (by kernel_rfl) ?_
  intro X hP hX hro hpl
  have hb : tb.Ok X.P := hP ▸ tb_ok
  change AW X _ _ ⟨[], [.p (.clo f xs), .any, .any, .any, .any, .any, .any, .any, .any, .any, .any, .any, .any, .any, .any, .any], [], []⟩
  refine aw_seq ?_
  refine aw_regK hX hb [0] rfl (σ' := ?s1) (fun K hK => ?h1) ?n1
  case h1 =>
    (refine st_op rfl (by simp (disch := omega) only [stepf,callOf,qop,fop,St.ev,St.put,cd,zd,Value.oneCell',tb_T,TypeDesc.aggB,getD_0,getD_s,Ze,Zd,Zc,Za,Zb,Zr,ZE,ZF,Zf,Zq,Zg,i64_w,Zt,Zs] <;> exact rfl) ?_)
    refine aops_nil ?_
    exact hK
  refine exq_n ?_
  refine aw_seq ?_
  refine aw_regK hX hb [0, 1] rfl (σ' := ?s2) (fun K hK => ?h2) ?n2
  case h2 =>
    iterate 2 (refine st_op rfl (by simp (disch := omega) only [stepf,callOf,qop,fop,St.ev,St.put,cd,zd,Value.oneCell',tb_T,TypeDesc.aggB,getD_0,getD_s,Ze,Zd,Zc,Za,Zb,Zr,ZE,ZF,Zf,Zq,Zg,i64_w,Zt,Zs,ZM,ZL,Zl,Zo,ZG,ZH,St.addBox,Value.cells,fStore,D.boxCells,D.live,D.cells?,D.pure?,Zv,Zw,Zj,Zk,Zx,Zy,ZN,St.setVec,ZC,t3,ti3,t58,ti58] <;> exact rfl) ?_)
    refine aops_nil ?_
    exact hK
  refine exq_n ?_
  refine aw_seq ?_
  refine aw_seq ?_
  refine aw_regK hX hb [0] rfl (σ' := ?s3) (fun K hK => ?h3) ?n3
  case h3 =>
    (refine st_op rfl (by simp (disch := omega) only [stepf,callOf,qop,fop,St.ev,St.put,cd,zd,Value.oneCell',tb_T,TypeDesc.aggB,getD_0,getD_s,Ze,Zd,Zc,Za,Zb,Zr,ZE,ZF,Zf,Zq,Zg,i64_w,Zt,Zs] <;> exact rfl) ?_)
    refine aops_nil ?_
    exact hK
  refine exq_n ?_
  refine aw_block ?_
  refine aw_rangeE hX hro hpl.j [] [.p (.clo f xs), .any, .p (u64 0), .ptr 0 0, .any, .p (.clo f xs), .any, .any, .any, .any, .any, .any, .any, .any, .any, .any] 1 (fun (k : Nat) => [⟨58, [.p (u64 (hfold (bs.take k)))]⟩]) (fun (k : Nat) => []) [⟨58, [.p (u64 (hfold (bs.take ((byteItems bs).length))))]⟩] [] (wk_le ⟨rfl, leL_r (by first | rfl | (rw [← hfold_take bs k (by omega)]; rfl)) (leL_a (leL_r (by first | rfl | (rw [← hfold_take bs k (by omega)]; rfl)) (leL_r (by first | rfl | (rw [← hfold_take bs k (by omega)]; rfl)) (leL_a (leL_r (by first | rfl | (rw [← hfold_take bs k (by omega)]; rfl)) (leL_a (leL_a (leL_a (leL_a (leL_a (leL_a (leL_a (leL_a (leL_a (leL_a (leL_nil)))))))))))))))), (leB_r rfl (leL_r (by first | rfl | (rw [← hfold_take bs k (by omega)]; rfl)) (leL_nil)) (leB_nil _)), (leV_nil _), rfl, rfl⟩) rfl rfl (hP ▸ (hs)) rfl rfl rfl rfl rfl ?_ ?_
  · intro k y hy
    obtain ⟨hk, rfl⟩ := byteItems_of hy
    unfold RoundOk
    intro X1 hQ hX
    have hP0 := hP; have hP := hQ.trans hP; have hb : tb.Ok X1.P := hP ▸ tb_ok
    change AW X1 _ _ ⟨[.pin 1], [.p (.clo f xs), .any, .p (u64 0), .ptr 0 0, .any, .p (.clo f xs), .p (u8 (bs.getD k 0)), .any, .any, .any, .any, .any, .any, .any, .any, .any], [⟨58, [.p (u64 (hfold (bs.take k)))]⟩], []⟩
    refine aw_regK hX hb [0] rfl (σ' := ?s4) (fun K hK => ?h4) ?n4
    case h4 =>
      (refine st_op rfl (by simp (disch := omega) only [stepf,callOf,qop,fop,St.ev,St.put,cd,zd,Value.oneCell',tb_T,TypeDesc.aggB,getD_0,getD_s,Ze,Zd,Zc,Za,Zb,Zr,ZE,ZF,Zf,Zq,Zg,i64_w,Zt,Zs] <;> exact rfl) ?_)
      refine aops_nil ?_
      exact hK
    refine ⟨rfl, rfl, ?_⟩
    intro X2 hQ2 hX
    have hP := hQ2.trans hP0; have hb : tb.Ok X2.P := hP ▸ tb_ok
    refine aw_block ?_
    refine aw_regK hX hb [0, 1, 2, 3, 4, 5] rfl (σ' := ?s5) (fun K hK => ?h5) ?n5
    case h5 =>
      iterate 6 (refine st_op rfl (by simp (disch := omega) only [stepf,callOf,qop,fop,St.ev,St.put,cd,zd,Value.oneCell',tb_T,TypeDesc.aggB,getD_0,getD_s,Ze,Zd,Zc,Za,Zb,Zr,ZE,ZF,Zf,Zq,Zg,i64_w,Zt,Zs,Zl,Zo,Zv,Zw,Zj,Zk,Zx,Zy,qLoad,bload,pload,pureAll,D.pure?,ZC,ZD,qConv,qBin,iop,fStore,D.boxCells,D.live,D.cells?,ZM,ZL,ZN,ZG,ZH,St.setVec,t3,ti3,t4,ti4,t5,ti5,t58,ti58] <;> exact rfl) ?_)
      refine aops_nil ?_
      exact hK
    refine exb_n ?_
    exact ⟨rfl, wk_le ⟨(by first | rfl | (rw [← hfold_take bs k (by omega)]; rfl)), leL_a (leL_a (leL_a (leL_a (leL_a (leL_a (leL_a (leL_a (leL_a (leL_a (leL_a (leL_a (leL_a (leL_a (leL_a (leL_a (leL_nil)))))))))))))))), (leB_r rfl (leL_r (by first | rfl | (rw [← hfold_take bs k (by omega)]; rfl)) (leL_nil)) (leB_nil _)), (leV_nil _), rfl, rfl⟩⟩
  refine exb_n ?_
  refine exq_n ?_
  refine aw_seq ?_
  refine aw_regK hX hb [0, 1, 2, 3, 4] rfl (σ' := ?s6) (fun K hK => ?h6) ?n6
  case h6 =>
    iterate 5 (refine st_op rfl (by simp (disch := omega) only [stepf,callOf,qop,fop,St.ev,St.put,cd,zd,Value.oneCell',tb_T,TypeDesc.aggB,getD_0,getD_s,Ze,Zd,Zc,Za,Zb,Zr,ZE,ZF,Zf,Zq,Zg,i64_w,Zt,Zs,Zl,Zo,Zv,Zw,Zj,Zk,Zx,Zy,qLoad,bload,pload,pureAll,D.pure?,ZC,ZD,qBin,iop,t3,ti3,t58,ti58,t177,ti177] <;> exact rfl) ?_)
    refine aops_nil ?_
    exact hK
  refine exq_n ?_
  refine aw_ret ?_
  exact ret_rm (resOf_one rfl (by first | rfl | (rw [byteItems_length, List.take_length]; rfl)))
theorem c66 (l : List (List Int)) : ACalls Try.prog 66 [.p (secs l)] (.p (u64 (secsD l))) := by
  refine acalls_of tb_ok Try.func66 (c := _) rfl (by kernel_rfl) ?_
  intro X hP hX hro hpl
  have hb : tb.Ok X.P := hP ▸ tb_ok
  change AW X _ _ ⟨[], [.p (secs l), .any, .any, .any, .any], [], []⟩
  refine aw_seq ?_
  refine aw_regK hX hb [0, 1] rfl (σ' := ?s1) (fun K hK => ?h1) ?n1
  case h1 =>
    iterate 2 (refine st_op rfl (by simp (disch := omega) only [stepf,callOf,qop,fop,St.ev,St.put,cd,zd,Value.oneCell',tb_T,TypeDesc.aggB,getD_0,getD_s,Ze,Zd,Zc,Za,Zb,Zr,ZE,ZF,Zf,Zq,Zg,i64_w,Zt,Zs,ZM,ZL,Zl,Zo,ZG,ZH,St.addBox,D.boxCells,D.live,t5,ti5,t22,ti22,t50,ti50] <;> exact rfl) ?_)
    refine aops_nil ?_
    exact hK
  refine exq_n ?_
  refine aw_seq ?_
  refine aw_regK hX hb [0, 1, 2] rfl (σ' := ?s2) (fun K hK => ?h2) ?n2
  case h2 =>
    (refine st_op rfl (by simp (disch := omega) only [stepf,callOf,qop,fop,St.ev,St.put,cd,zd,Value.oneCell',tb_T,TypeDesc.aggB,getD_0,getD_s,Ze,Zd,Zc,Za,Zb,Zr,ZE,ZF,Zf,Zq,Zg,i64_w,Zt,Zs,capsOf,eq_self,Array.toList,pvAll,D.pv?,t1,ti1,t3,ti3,t4,ti4,t178,ti178] <;> exact rfl) ?_)
    refine st_clo rfl rfl (by simp only [St.ev,getD_0,getD_s,zd,cd,Value.oneCell',Zr] <;> exact rfl) (by simp only [pvAllC,capCells,D.pvC?,D.pvN?,D.pvL?,pureAll,D.pv?,D.pure?,St.ev,getD_0,getD_s,zd,cd,Value.oneCell',Zr,ZG,ZH,Zd,Zc,Zg] <;> exact rfl) (acK hP (c104 105 [secs l] (bytesOf l) (s105 l))) (by simp only [St.put,Za,Zb] <;> exact rfl) ?_
    (refine st_op rfl (by simp (disch := omega) only [stepf,callOf,qop,fop,St.ev,St.put,cd,zd,Value.oneCell',tb_T,TypeDesc.aggB,getD_0,getD_s,Ze,Zd,Zc,Za,Zb,Zr,ZE,ZF,Zf,Zq,Zg,i64_w,Zt,Zs,capsOf,eq_self,Array.toList,pvAll,D.pv?,t1,ti1,t3,ti3,t4,ti4,t178,ti178] <;> exact rfl) ?_)
    refine aops_nil ?_
    exact hK
  refine exq_n ?_
  refine aw_ret ?_
  exact ret_r rfl (resOf_one rfl rfl)
theorem c111 (l : List Int) : ACalls Try.prog 111 [.p (bytes l)] (.p (u64 (digest l))) := by
  refine acalls_of tb_ok Try.func111 (c := _) rfl (by kernel_rfl) ?_
  intro X hP hX hro hpl
  have hb : tb.Ok X.P := hP ▸ tb_ok
  change AW X _ _ ⟨[], [.p (bytes l), .any, .any, .any, .any], [], []⟩
  refine aw_seq ?_
  refine aw_regK hX hb [0, 1] rfl (σ' := ?s1) (fun K hK => ?h1) ?n1
  case h1 =>
    iterate 2 (refine st_op rfl (by simp (disch := omega) only [stepf,callOf,qop,fop,St.ev,St.put,cd,zd,Value.oneCell',tb_T,TypeDesc.aggB,getD_0,getD_s,Ze,Zd,Zc,Za,Zb,Zr,ZE,ZF,Zf,Zq,Zg,i64_w,Zt,Zs,ZM,ZL,Zl,Zo,ZG,ZH,St.addBox,D.boxCells,D.live,t5,ti5,t88,ti88] <;> exact rfl) ?_)
    refine aops_nil ?_
    exact hK
  refine exq_n ?_
  refine aw_seq ?_
  refine aw_regK hX hb [0, 1, 2] rfl (σ' := ?s2) (fun K hK => ?h2) ?n2
  case h2 =>
    (refine st_op rfl (by simp (disch := omega) only [stepf,callOf,qop,fop,St.ev,St.put,cd,zd,Value.oneCell',tb_T,TypeDesc.aggB,getD_0,getD_s,Ze,Zd,Zc,Za,Zb,Zr,ZE,ZF,Zf,Zq,Zg,i64_w,Zt,Zs,capsOf,eq_self,Array.toList,pvAll,D.pv?,t1,ti1,t3,ti3,t4,ti4,t178,ti178] <;> exact rfl) ?_)
    refine st_clo rfl rfl (by simp only [St.ev,getD_0,getD_s,zd,cd,Value.oneCell',Zr] <;> exact rfl) (by simp only [pvAllC,capCells,D.pvC?,D.pvN?,D.pvL?,pureAll,D.pv?,D.pure?,St.ev,getD_0,getD_s,zd,cd,Value.oneCell',Zr,ZG,ZH,Zd,Zc,Zg] <;> exact rfl) (acK hP (c104 121 [bytes l] l (s121 l))) (by simp only [St.put,Za,Zb] <;> exact rfl) ?_
    (refine st_op rfl (by simp (disch := omega) only [stepf,callOf,qop,fop,St.ev,St.put,cd,zd,Value.oneCell',tb_T,TypeDesc.aggB,getD_0,getD_s,Ze,Zd,Zc,Za,Zb,Zr,ZE,ZF,Zf,Zq,Zg,i64_w,Zt,Zs,capsOf,eq_self,Array.toList,pvAll,D.pv?,t1,ti1,t3,ti3,t4,ti4,t178,ti178] <;> exact rfl) ?_)
    refine aops_nil ?_
    exact hK
  refine exq_n ?_
  refine aw_ret ?_
  exact ret_r rfl (resOf_one rfl rfl)
theorem c111p (a b : Int) : ACalls Try.prog 111 [.p (.sl 16 ((wordBytes a ++ wordBytes b).map u8))] (.p (u64 (pairD a b))) := c111 (wordBytes a ++ wordBytes b)
theorem c79 (a b : Int) : ACalls Try.prog 79 [.p (u64 a), .p (u64 b)] (.p (u64 (pairD a b))) := by
  refine acalls_of tb_ok Try.func79 (c := _) rfl (by kernel_rfl) ?_
  intro X hP hX hro hpl
  have hb : tb.Ok X.P := hP ▸ tb_ok
  change AW X _ _ ⟨[], [.p (u64 a), .p (u64 b), .any, .any, .any, .any, .any, .any, .any, .any, .any, .any, .any, .any, .any, .any, .any, .any, .any, .any, .any, .any, .any, .any, .any, .any, .any, .any], [], []⟩
  refine aw_seq ?_
  refine aw_regK hX hb [0] rfl (σ' := ?s1) (fun K hK => ?h1) ?n1
  case h1 =>
    (refine st_op rfl (by simp (disch := omega) only [stepf,callOf,qop,fop,St.ev,St.put,cd,zd,Value.oneCell',tb_T,TypeDesc.aggB,getD_0,getD_s,Ze,Zd,Zc,Za,Zb,Zr,ZE,ZF,Zf,Zq,Zg,i64_w,Zt,Zs,pairC_length,maxLen] <;> exact rfl) ?_)
    refine aops_nil ?_
    exact hK
  refine exq_n ?_
  refine aw_seq ?_
  refine aw_regK hX hb [0] rfl (σ' := ?s2) (fun K hK => ?h2) ?n2
  case h2 =>
    (refine st_op rfl (by simp (disch := omega) only [stepf,callOf,qop,fop,St.ev,St.put,cd,zd,Value.oneCell',tb_T,TypeDesc.aggB,getD_0,getD_s,Ze,Zd,Zc,Za,Zb,Zr,ZE,ZF,Zf,Zq,Zg,i64_w,Zt,Zs,ZM,ZL,Zl,Zo,ZG,ZH,St.addBox,Value.cells,t5,ti5,t171,ti171,pairC_length,maxLen] <;> exact rfl) ?_)
    refine aops_nil ?_
    exact hK
  refine exq_n ?_
  refine aw_seq ?_
  refine aw_seq ?_
  refine aw_regK hX hb [0] rfl (σ' := ?s3) (fun K hK => ?h3) ?n3
  case h3 =>
    (refine st_op rfl (by simp (disch := omega) only [stepf,callOf,qop,fop,St.ev,St.put,cd,zd,Value.oneCell',tb_T,TypeDesc.aggB,getD_0,getD_s,Ze,Zd,Zc,Za,Zb,Zr,ZE,ZF,Zf,Zq,Zg,i64_w,Zt,Zs,pairC_length,maxLen] <;> exact rfl) ?_)
    refine aops_nil ?_
    exact hK
  refine exq_n ?_
  refine aw_block ?_
  refine aw_loop (ι := Nat) (fun i => i ≤ 8) (fun i => ⟨[], [.p (u64 a), .p (u64 b), .any, .any, .any, .ptr 0 0, .any, .p (i64 i), .any, .any, .any, .any, .any, .any, .any, .any, .any, .any, .any, .any, .any, .any, .any, .any, .any, .any, .any, .any], [⟨171, pairC a b i⟩], []⟩) (fun i => 8 - i) 0 (by exact Nat.zero_le _) (wk_le ⟨rfl, leL_r (by first | rfl | (exact (splice_set _ _ _ (by rw [List.length_set, pairC_length]; omega)).trans (pairC_step a b i (by omega)))) (leL_r (by first | rfl | (exact (splice_set _ _ _ (by rw [List.length_set, pairC_length]; omega)).trans (pairC_step a b i (by omega)))) (leL_a (leL_a (leL_a (leL_r (by first | rfl | (exact (splice_set _ _ _ (by rw [List.length_set, pairC_length]; omega)).trans (pairC_step a b i (by omega)))) (leL_a (leL_r (by first | rfl | (exact (splice_set _ _ _ (by rw [List.length_set, pairC_length]; omega)).trans (pairC_step a b i (by omega)))) (leL_a (leL_a (leL_a (leL_a (leL_a (leL_a (leL_a (leL_a (leL_a (leL_a (leL_a (leL_a (leL_a (leL_a (leL_a (leL_a (leL_a (leL_a (leL_a (leL_a (leL_nil)))))))))))))))))))))))))))), (leB_r rfl (leL_eq (by first | rfl | (exact (splice_set _ _ _ (by rw [List.length_set, pairC_length]; omega)).trans (pairC_step a b i (by omega))))) (leB_nil _)), (leV_nil _), rfl, rfl⟩) ?_
  rintro i hJ
  have hpl := pairC_length a b i
  have e8 : ((8 : Int) + (i : Int)).toNat = 8 + i := by omega
  refine aw_seq ?_
  refine aw_regK hX hb [0] rfl (σ' := ?s4) (fun K hK => ?h4) ?n4
  case h4 =>
    (refine st_op rfl (by simp (disch := omega) only [stepf,callOf,qop,fop,St.ev,St.put,cd,zd,Value.oneCell',tb_T,TypeDesc.aggB,getD_0,getD_s,Ze,Zd,Zc,Za,Zb,Zr,ZE,ZF,Zf,Zq,Zg,i64_w,Zt,Zs,qBin,iop,t3,ti3,pairC_length,maxLen] <;> exact rfl) ?_)
    refine aops_nil ?_
    exact hK
  refine exq_n ?_
  refine aw_seq ?_
  refine aw_cond _ rfl (fun hc0 => ?_) (fun hc0 => ?_)
  · try simp only [Zp,Zi,ZK,ZJ,ne_eq,Zn,Zm,ZB,ZA,ZI,not_or,not_and,Zu] at hc0
    refine aw_skip ?_
    refine exq_n ?_
    refine aw_seq ?_
    refine aw_block ?_
    refine aw_seq ?_
    refine aw_regK hX hb [0, 1] rfl (σ' := ?s5) (fun K hK => ?h5) ?n5
    case h5 =>
      iterate 2 (refine st_op rfl (by simp (disch := omega) only [stepf,callOf,qop,fop,St.ev,St.put,cd,zd,Value.oneCell',tb_T,TypeDesc.aggB,getD_0,getD_s,Ze,Zd,Zc,Za,Zb,Zr,ZE,ZF,Zf,Zq,Zg,i64_w,Zt,Zs,pairC_length,maxLen] <;> exact rfl) ?_)
      refine aops_nil ?_
      exact hK
    refine exq_n ?_
    refine aw_regD hX hb (try_mixed hP) [(0, true), (1, true), (2, true), (3, true), (4, true), (5, true), (6, true), (7, true), (8, true), (9, true), (10, true), (11, true), (12, true), (13, true), (14, false), (15, true), (16, false)] (by kernel_rfl) (σ' := ?s6) (fun K hK => ?h6) ?n6
    case h6 =>
      iterate 14 (refine sd_q rfl (by simp (disch := omega) only [qop,fop,St.ev,St.put,cd,zd,Value.oneCell',tb_T,TypeDesc.aggB,getD_0,getD_s,Ze,Zd,Zc,Za,Zb,Zr,ZE,ZF,Zf,Zq,Zg,i64_w,Zt,Zs,qBin,iop,qConv,Int.toNat_zero,Int.toNat_one,toNat_pred,toNat_succ,qIndexAddr,ZO,Nat.mul_one,ZC,Nat.zero_mul,Zh,fStore,D.boxCells,D.live,D.cells?,D.pure?,Zv,Zw,Zj,Zk,Zx,Zy,ZM,ZL,ZN,Zl,Zo,ZG,ZH,St.setVec,t1,ti1,t3,ti3,t5,ti5,t22,ti22,t24,ti24,t50,ti50,t58,ti58,t60,ti60,t171,ti171,pairC_length,maxLen,e8,splice_set,List.length_set] <;> exact rfl) (by simp only [St.put,Za,Zb] <;> exact rfl) ?_)
      (refine sd_op rfl (by simp (disch := omega) only [stepf,callOf,qop,fop,St.ev,St.put,cd,zd,Value.oneCell',tb_T,TypeDesc.aggB,getD_0,getD_s,Ze,Zd,Zc,Za,Zb,Zr,ZE,ZF,Zf,Zq,Zg,i64_w,Zt,Zs,qBin,iop,qConv,Int.toNat_zero,Int.toNat_one,toNat_pred,toNat_succ,qIndexAddr,ZO,Nat.mul_one,ZC,Nat.zero_mul,Zh,fStore,D.boxCells,D.live,D.cells?,D.pure?,Zv,Zw,Zj,Zk,Zx,Zy,ZM,ZL,ZN,Zl,Zo,ZG,ZH,St.setVec,t1,ti1,t3,ti3,t5,ti5,t22,ti22,t24,ti24,t50,ti50,t58,ti58,t60,ti60,t171,ti171,pairC_length,maxLen,e8,splice_set,List.length_set] <;> exact rfl) ?_)
      (refine sd_q rfl (by simp (disch := omega) only [qop,fop,St.ev,St.put,cd,zd,Value.oneCell',tb_T,TypeDesc.aggB,getD_0,getD_s,Ze,Zd,Zc,Za,Zb,Zr,ZE,ZF,Zf,Zq,Zg,i64_w,Zt,Zs,qBin,iop,qConv,Int.toNat_zero,Int.toNat_one,toNat_pred,toNat_succ,qIndexAddr,ZO,Nat.mul_one,ZC,Nat.zero_mul,Zh,fStore,D.boxCells,D.live,D.cells?,D.pure?,Zv,Zw,Zj,Zk,Zx,Zy,ZM,ZL,ZN,Zl,Zo,ZG,ZH,St.setVec,t1,ti1,t3,ti3,t5,ti5,t22,ti22,t24,ti24,t50,ti50,t58,ti58,t60,ti60,t171,ti171,pairC_length,maxLen,e8,splice_set,List.length_set] <;> exact rfl) (by simp only [St.put,Za,Zb] <;> exact rfl) ?_)
      (refine sd_op rfl (by simp (disch := omega) only [stepf,callOf,qop,fop,St.ev,St.put,cd,zd,Value.oneCell',tb_T,TypeDesc.aggB,getD_0,getD_s,Ze,Zd,Zc,Za,Zb,Zr,ZE,ZF,Zf,Zq,Zg,i64_w,Zt,Zs,qBin,iop,qConv,Int.toNat_zero,Int.toNat_one,toNat_pred,toNat_succ,qIndexAddr,ZO,Nat.mul_one,ZC,Nat.zero_mul,Zh,fStore,D.boxCells,D.live,D.cells?,D.pure?,Zv,Zw,Zj,Zk,Zx,Zy,ZM,ZL,ZN,Zl,Zo,ZG,ZH,St.setVec,t1,ti1,t3,ti3,t5,ti5,t22,ti22,t24,ti24,t50,ti50,t58,ti58,t60,ti60,t171,ti171,pairC_length,maxLen,e8,splice_set,List.length_set] <;> exact rfl) ?_)
      refine aopsd_nil ?_
      exact hK
    refine exb_n ?_
    refine exq_n ?_
    refine aw_regK hX hb [0, 1] rfl (σ' := ?s7) (fun K hK => ?h7) ?n7
    case h7 =>
      iterate 2 (refine st_op rfl (by simp (disch := omega) only [stepf,callOf,qop,fop,St.ev,St.put,cd,zd,Value.oneCell',tb_T,TypeDesc.aggB,getD_0,getD_s,Ze,Zd,Zc,Za,Zb,Zr,ZE,ZF,Zf,Zq,Zg,i64_w,Zt,Zs,qBin,iop,t1,ti1,t3,ti3,pairC_length,maxLen] <;> exact rfl) ?_)
      refine aops_nil ?_
      exact hK
    refine exq_n ?_
    exact ⟨i + 1, by (try dsimp only); omega, by (try dsimp only); omega, wk_le ⟨rfl, leL_r (by first | rfl | (exact (splice_set _ _ _ (by rw [List.length_set, pairC_length]; omega)).trans (pairC_step a b i (by omega)))) (leL_r (by first | rfl | (exact (splice_set _ _ _ (by rw [List.length_set, pairC_length]; omega)).trans (pairC_step a b i (by omega)))) (leL_a (leL_a (leL_a (leL_r (by first | rfl | (exact (splice_set _ _ _ (by rw [List.length_set, pairC_length]; omega)).trans (pairC_step a b i (by omega)))) (leL_a (leL_r (by first | rfl | (exact (splice_set _ _ _ (by rw [List.length_set, pairC_length]; omega)).trans (pairC_step a b i (by omega)))) (leL_a (leL_a (leL_a (leL_a (leL_a (leL_a (leL_a (leL_a (leL_a (leL_a (leL_a (leL_a (leL_a (leL_a (leL_a (leL_a (leL_a (leL_a (leL_a (leL_a (leL_nil)))))))))))))))))))))))))))), (leB_r rfl (leL_eq (by first | rfl | (exact (splice_set _ _ _ (by rw [List.length_set, pairC_length]; omega)).trans (pairC_step a b i (by omega))))) (leB_nil _)), (leV_nil _), rfl, rfl⟩⟩
  · try simp only [Zp,Zi,ZK,ZJ,ne_eq,Zn,Zm,ZB,ZA,ZI,not_or,not_and,Zu] at hc0
    refine aw_exit ?_
    refine exq_e ?_
    refine exq_e ?_
    refine exb_h ?_
    refine exq_n ?_
    refine aw_seq ?_
    (have : i = 8 := by omega); subst this
    refine aw_regK hX hb [0, 1, 2] rfl (σ' := ?s8) (fun K hK => ?h8) ?n8
    case h8 =>
      (refine st_op rfl (by simp (disch := omega) only [stepf,callOf,qop,fop,St.ev,St.put,cd,zd,Value.oneCell',tb_T,TypeDesc.aggB,getD_0,getD_s,Ze,Zd,Zc,Za,Zb,Zr,ZE,ZF,Zf,Zq,Zg,i64_w,Zt,Zs,imp_self,Int.toNat_one,Int.toNat_zero,Nat.one_mul,qSlice,bnd,Option.isSome_none,ZP,Option.map_none,implies_true,forall_const,ZO,Nat.sub_zero,pvAll,D.pv?,t3,ti3,t5,ti5,t24,ti24,t26,ti26,t27,ti27,t58,ti58,t60,ti60,t88,ti88,t171,ti171,pairC_length,maxLen] <;> exact rfl) ?_)
      refine st_clo rfl rfl (by simp only [St.ev,getD_0,getD_s,zd,cd,Value.oneCell',Zr] <;> exact rfl) (by simp only [pvAllC,capCells,D.pvC?,D.pvN?,D.pvL?,pureAll,D.pv?,D.pure?,St.ev,getD_0,getD_s,zd,cd,Value.oneCell',Zr,ZG,ZH,Zd,Zc,Zg,pairC_pure] <;> exact rfl) (acK hP (c111p a b)) (by simp only [St.put,Za,Zb] <;> exact rfl) ?_
      (refine st_op rfl (by simp (disch := omega) only [stepf,callOf,qop,fop,St.ev,St.put,cd,zd,Value.oneCell',tb_T,TypeDesc.aggB,getD_0,getD_s,Ze,Zd,Zc,Za,Zb,Zr,ZE,ZF,Zf,Zq,Zg,i64_w,Zt,Zs,imp_self,Int.toNat_one,Int.toNat_zero,Nat.one_mul,qSlice,bnd,Option.isSome_none,ZP,Option.map_none,implies_true,forall_const,ZO,Nat.sub_zero,pvAll,D.pv?,t3,ti3,t5,ti5,t24,ti24,t26,ti26,t27,ti27,t58,ti58,t60,ti60,t88,ti88,t171,ti171,pairC_length,maxLen] <;> exact rfl) ?_)
      refine aops_nil ?_
      exact hK
    refine exq_n ?_
    refine aw_ret ?_
    exact ret_r rfl (resOf_one rfl rfl)
end Go.Proofs.Ytldcoekbgfaomaa
end
section
namespace Go.Proofs.Ytldcoekbgfaomaa
open Go.RowKit
set_option maxRecDepth 20000
set_option maxHeartbeats 4000000
attribute [local irreducible] AOps AOpsD AW
/-- The pieces of a list of sectors, as the items of an iterator. -/
def chunkItems (l : List (List Int)) (n : Nat) : List PV := (List.range (nLeaves l.length n)).map fun i => .p (secs (secAt l n i))
theorem chunkItems_length (l : List (List Int)) (n : Nat) : (chunkItems l n).length = nLeaves l.length n := by simp [chunkItems]
theorem chunkItems_at (l : List (List Int)) (n i : Nat) (h : i < nLeaves l.length n) : (chunkItems l n)[i]? = some (.p (secs (secAt l n i))) := by simp [chunkItems, h]
theorem chunkItems_of {l : List (List Int)} {n k : Nat} {y : PV} (h : (chunkItems l n)[k]? = some y) : k < nLeaves l.length n ∧ y = .p (secs (secAt l n k)) := by
  have hk : k < nLeaves l.length n := by have := (List.getElem?_eq_some_iff.1 h).1; simpa [chunkItems] using this
  rw [chunkItems_at l n k hk] at h
  injection h with h
  exact ⟨hk, h.symm⟩
theorem leafD_take (l : List (List Int)) (n k : Nat) (h : k < nLeaves l.length n) : (leafD l n).take (k + 1) = (leafD l n).take k ++ [secsD (secAt l n k)] := range_map_take _ _ k h
theorem secAt_slice (l : List (List Int)) (n i : Nat) (h : i * n ≤ l.length) (k : Nat) (hk : k = min n (l.length - i * n)) : P1.sl k (((secCells l).drop (i * n * 8)).take (k * 8)) = secs (secAt l n i) := by
  subst hk
  rw [secs_slice l (i * n) (min n (l.length - i * n)) (by omega)]
  congr 1
  · rw [secAt, List.take_eq_take_iff.2]
    simp
theorem limI_ok {s : Nat} {f : Int} (h : limI s f = 0) : ∃ n : Nat, f = n ∧ (1 ≤ s ∧ s ≤ 4096) ∧ 1 ≤ n ∧ n ≤ 4096 := by
  unfold limI at h
  refine ⟨f.toNat, ?_⟩
  split at h
  · simp at h
  · split at h
    · simp at h
    · omega
theorem limI_build {l : List (List Int)} {f : Int} (h : ¬ limI l.length f = 0) : D.tup [trP .zero, .p (i64 (limI l.length f))] = .tup [trP (refBuild l f).1, .p (i64 (refBuild l f).2)] := by
  unfold limI at h ⊢
  unfold refBuild
  split at h
  · rw [if_pos (by assumption), if_pos (by omega)]
  · rename_i h1
    rw [if_neg h1]
    split at h
    · rename_i h2
      rw [if_pos h2, if_neg (by omega), if_pos (by omega)]
    · simp at h
theorem limI_built (l : List (List Int)) {n : Nat} (h1 : 1 ≤ l.length ∧ l.length ≤ 4096) (h2 : 1 ≤ n) (h3 : n ≤ 4096) : D.tup [trP (treeOf l.length n (leafD l n)), .p (i64 0)] = .tup [trP (refBuild l n).1, .p (i64 (refBuild l n).2)] := by
  rw [refBuild, if_neg (by omega), if_neg (by omega)]
  rfl
theorem s103 (l : List (List Int)) (n : Nat) (hn : 1 ≤ n ∧ n ≤ 4294967296) (hl : l.length ≤ 4294967296) : SeqC Try.prog 103 [secs l, i64 n] (chunkItems l n) := by
  refine seq_of Try.func103 (c := _) rfl (by kernel_rfl) rfl ?_
  intro X ll hP hX _
  have hb : tb.Ok X.P := hP ▸ tb_ok
  change AW X _ _ ⟨[.yld ll (chunkItems l n) 0], [.p (.v (.func (.yield ll) #[] #[])), .ept [secs l] 0, .ept [i64 n] 0, .any, .any, .any, .any, .any, .any, .any, .any, .any, .any, .any, .any, .any, .any, .any, .any, .any, .any, .any, .any, .any, .any, .any, .any, .any, .any, .any, .any], [], []⟩
  refine aw_seq ?_
  refine aw_regK hX hb [0] rfl (σ' := ?s1) (fun K hK => ?h1) ?n1
  case h1 =>
    (refine st_op rfl (by simp (disch := omega) only [stepf,callOf,qop,fop,St.ev,St.put,cd,zd,Value.oneCell',tb_T,TypeDesc.aggB,getD_0,getD_s,Ze,Zd,Zc,Za,Zb,Zr,ZE,ZF,Zf,Zq,Zg,i64_w,Zt,Zs,secCells_length,ZO] <;> exact rfl) ?_)
    refine aops_nil ?_
    exact hK
  refine exq_n ?_
  refine aw_block ?_
  refine aw_loop (ι := Nat) (fun i => i ≤ nLeaves l.length n) (fun i => ⟨[.yld ll (chunkItems l n) i], [.p (.v (.func (.yield ll) #[] #[])), .ept [secs l] 0, .ept [i64 n] 0, .any, .p (i64 (i * n : Nat)), .any, .any, .any, .any, .any, .any, .any, .any, .any, .any, .any, .any, .any, .any, .any, .any, .any, .any, .any, .any, .any, .any, .any, .any, .any, .any], [], []⟩) (fun i => nLeaves l.length n - i) 0 (by exact Nat.zero_le _) (wk_le ⟨(by first | rfl | (simp [Nat.succ_mul])), leL_r (by first | rfl | (simp [Nat.succ_mul])) (leL_r (by first | rfl | (simp [Nat.succ_mul])) (leL_r (by first | rfl | (simp [Nat.succ_mul])) (leL_a (leL_r (by first | rfl | (simp [Nat.succ_mul])) (leL_a (leL_a (leL_a (leL_a (leL_a (leL_a (leL_a (leL_a (leL_a (leL_a (leL_a (leL_a (leL_a (leL_a (leL_a (leL_a (leL_a (leL_a (leL_a (leL_a (leL_a (leL_a (leL_a (leL_a (leL_a (leL_a (leL_nil))))))))))))))))))))))))))))))), (leB_nil _), (leV_nil _), rfl, rfl⟩) ?_
  rintro i hJ
  have hin : i * n ≤ l.length + n := by
    rcases Nat.eq_zero_or_pos i with h | h
    · subst h; omega
    · have := leaf_lt (s := l.length) (n := n) (i := i - 1) (by omega) (by omega)
      have e : (i - 1) * n + n = i * n := by rw [← Nat.succ_mul]; congr 1; omega
      omega
  refine aw_seq ?_
  refine aw_seq ?_
  refine aw_regK hX hb [0, 1, 2, 3] rfl (σ' := ?s2) (fun K hK => ?h2) ?n2
  case h2 =>
    iterate 4 (refine st_op rfl (by simp (disch := omega) only [stepf,callOf,qop,fop,St.ev,St.put,cd,zd,Value.oneCell',tb_T,TypeDesc.aggB,getD_0,getD_s,Ze,Zd,Zc,Za,Zb,Zr,ZE,ZF,Zf,Zq,Zg,i64_w,Zt,Zs,Zl,Zo,Zv,Zw,Zj,Zk,Zx,Zy,qLoad,bload,pload,pureAll,D.pure?,ZC,ZD,qLen,qBin,iop,t1,ti1,t3,ti3,t4,ti4,t5,ti5,t22,ti22,t50,ti50,secCells_length,ZO] <;> exact rfl) ?_)
    refine aops_nil ?_
    exact hK
  refine exq_n ?_
  refine aw_cond _ rfl (fun hc0 => ?_) (fun hc0 => ?_)
  · try simp only [Zp,Zi,ZK,ZJ,ne_eq,Zn,Zm,ZB,ZA,ZI,not_or,not_and,Zu] at hc0
    have hil := lt_leaf (s := l.length) (n := n) (i := i) (by omega) (by omega)
    refine aw_skip ?_
    refine exq_n ?_
    refine aw_seq ?_
    refine aw_block ?_
    refine aw_seq ?_
    refine aw_regD hX hb (try_mixed hP) [(0, true), (1, true), (2, true), (3, true), (4, true), (5, true), (6, true)] (by kernel_rfl) (σ' := ?s3) (fun K hK => ?h3) ?n3
    case h3 =>
      iterate 7 (refine sd_q rfl (by simp (disch := omega) only [qop,fop,St.ev,St.put,cd,zd,Value.oneCell',tb_T,TypeDesc.aggB,getD_0,getD_s,Ze,Zd,Zc,Za,Zb,Zr,ZE,ZF,Zf,Zq,Zg,i64_w,Zt,Zs,Zl,Zo,Zv,Zw,Zj,Zk,Zx,Zy,qLoad,bload,pload,pureAll,D.pure?,ZC,ZD,imp_self,Int.toNat_one,Int.toNat_zero,Nat.one_mul,qSlice,bnd,Option.isSome_none,ZP,Option.map_none,implies_true,forall_const,ZO,Nat.sub_zero,qLen,min_ite,t1,ti1,t2,ti2,t3,ti3,t4,ti4,t5,ti5,t22,ti22,t50,ti50,secCells_length] <;> exact rfl) (by simp only [St.put,Za,Zb] <;> exact rfl) ?_)
      refine aopsd_nil ?_
      exact hK
    refine exq_n ?_
    refine aw_seq ?_
    refine aw_regK hX hb [0, 1, 2, 3, 4, 5, 6, 7, 8, 9, 10, 11] rfl (σ' := ?s4) (fun K hK => ?h4) ?n4
    case h4 =>
      iterate 10 (refine st_op rfl (by simp (disch := omega) only [stepf,callOf,qop,fop,St.ev,St.put,cd,zd,Value.oneCell',tb_T,TypeDesc.aggB,getD_0,getD_s,Ze,Zd,Zc,Za,Zb,Zr,ZE,ZF,Zf,Zq,Zg,i64_w,Zt,Zs,Zl,Zo,Zv,Zw,Zj,Zk,Zx,Zy,qLoad,bload,pload,pureAll,D.pure?,ZC,ZD,qBin,iop,imp_self,Int.toNat_one,Int.toNat_zero,Nat.one_mul,qSlice,bnd,Option.isSome_none,ZP,Option.map_none,implies_true,forall_const,ZO,Nat.sub_zero,pvAll,D.pv?,Bool.not_true,Bool.not_false,t1,ti1,t3,ti3,t4,ti4,t5,ti5,t22,ti22,t24,ti24,t26,ti26,t27,ti27,t50,ti50,t58,ti58,t60,ti60,secCells_length] <;> exact rfl) ?_)
      refine st_y rfl rfl (by simp only [St.ev,getD_0,getD_s,zd,cd,Value.oneCell',Zr] <;> exact rfl) (by simp only [pvAll,capCells,D.pvC?,D.pvN?,D.pvL?,pureAll,D.pv?,D.pure?,St.ev,getD_0,getD_s,zd,cd,Value.oneCell',Zr,ZG,ZH,Zd,Zc,Zg] <;> exact rfl) rfl ((chunkItems_at l n i hil).trans (by refine congrArg some (congrArg PV.p ?_); exact (secAt_slice l n i (by omega) _ (by omega)).symm)) (by simp only [St.put,Za,Zb] <;> exact rfl) ?_
      (refine st_op rfl (by simp (disch := omega) only [stepf,callOf,qop,fop,St.ev,St.put,cd,zd,Value.oneCell',tb_T,TypeDesc.aggB,getD_0,getD_s,Ze,Zd,Zc,Za,Zb,Zr,ZE,ZF,Zf,Zq,Zg,i64_w,Zt,Zs,Zl,Zo,Zv,Zw,Zj,Zk,Zx,Zy,qLoad,bload,pload,pureAll,D.pure?,ZC,ZD,qBin,iop,imp_self,Int.toNat_one,Int.toNat_zero,Nat.one_mul,qSlice,bnd,Option.isSome_none,ZP,Option.map_none,implies_true,forall_const,ZO,Nat.sub_zero,pvAll,D.pv?,Bool.not_true,Bool.not_false,t1,ti1,t3,ti3,t4,ti4,t5,ti5,t22,ti22,t24,ti24,t26,ti26,t27,ti27,t50,ti50,t58,ti58,t60,ti60,secCells_length] <;> exact rfl) ?_)
      refine aops_nil ?_
      exact hK
    refine exq_n ?_
    refine aw_cond _ rfl (fun hc1 => ?_) (fun hc1 => ?_)
    · try simp only [Zp,Zi,ZK,ZJ,ne_eq,Zn,Zm,ZB,ZA,ZI,not_or,not_and,Zu] at hc1
      cases hc1
    · try simp only [Zp,Zi,ZK,ZJ,ne_eq,Zn,Zm,ZB,ZA,ZI,not_or,not_and,Zu] at hc1
      refine aw_skip ?_
      refine exb_n ?_
      refine exq_n ?_
      refine aw_regK hX hb [0, 1, 2, 3] rfl (σ' := ?s5) (fun K hK => ?h5) ?n5
      case h5 =>
        iterate 4 (refine st_op rfl (by simp (disch := omega) only [stepf,callOf,qop,fop,St.ev,St.put,cd,zd,Value.oneCell',tb_T,TypeDesc.aggB,getD_0,getD_s,Ze,Zd,Zc,Za,Zb,Zr,ZE,ZF,Zf,Zq,Zg,i64_w,Zt,Zs,Zl,Zo,Zv,Zw,Zj,Zk,Zx,Zy,qLoad,bload,pload,pureAll,D.pure?,ZC,ZD,qBin,iop,t2,ti2,t3,ti3,t4,ti4,secCells_length,ZO] <;> exact rfl) ?_)
        refine aops_nil ?_
        exact hK
      refine exq_n ?_
      exact ⟨i + 1, by (try dsimp only); omega, by (try dsimp only); omega, wk_le ⟨(by first | rfl | (simp [Nat.succ_mul])), leL_r (by first | rfl | (simp [Nat.succ_mul])) (leL_r (by first | rfl | (simp [Nat.succ_mul])) (leL_r (by first | rfl | (simp [Nat.succ_mul])) (leL_a (leL_r (by first | rfl | (simp [Nat.succ_mul])) (leL_a (leL_a (leL_a (leL_a (leL_a (leL_a (leL_a (leL_a (leL_a (leL_a (leL_a (leL_a (leL_a (leL_a (leL_a (leL_a (leL_a (leL_a (leL_a (leL_a (leL_a (leL_a (leL_a (leL_a (leL_a (leL_a (leL_nil))))))))))))))))))))))))))))))), (leB_nil _), (leV_nil _), rfl, rfl⟩⟩
  · try simp only [Zp,Zi,ZK,ZJ,ne_eq,Zn,Zm,ZB,ZA,ZI,not_or,not_and,Zu] at hc0
    refine aw_exit ?_
    refine exq_e ?_
    refine exq_e ?_
    refine exb_h ?_
    exact rets_n rfl (by first | rfl | ((have : ¬ i < nLeaves l.length n := fun h => absurd (leaf_lt (by omega) h) (by omega)); rw [chunkItems_length]; omega))
theorem c65 (l : List (List Int)) (n : Nat) (hn : 1 ≤ n) : ACalls Try.prog 65 [.p (secs l), .p (i64 n)] (.p (.clo 103 [secs l, i64 n])) := by
  refine acallsC_of Try.func65 (c := _) rfl (by kernel_rfl) (t := 4) rfl ?_
  intro X hP hX hro hpl
  have hb : tb.Ok X.P := hP ▸ tb_ok
  change AW X _ _ ⟨[], [.p (secs l), .p (i64 n), .any, .any, .any, .any, .any, .any, .any], [], []⟩
  refine aw_seq ?_
  refine aw_regK hX hb [0, 1, 2] rfl (σ' := ?s1) (fun K hK => ?h1) ?n1
  case h1 =>
    iterate 3 (refine st_op rfl (by simp (disch := omega) only [stepf,callOf,qop,fop,St.ev,St.put,cd,zd,Value.oneCell',tb_T,TypeDesc.aggB,getD_0,getD_s,Ze,Zd,Zc,Za,Zb,Zr,ZE,ZF,Zf,Zq,Zg,i64_w,Zt,Zs,ZM,ZL,Zl,Zo,ZG,ZH,St.addBox,D.boxCells,D.live,t1,ti1,t3,ti3,t5,ti5,t22,ti22,t50,ti50] <;> exact rfl) ?_)
    refine aops_nil ?_
    exact hK
  refine exq_n ?_
  refine aw_seq ?_
  refine aw_seq ?_
  refine aw_regK hX hb [0, 1] rfl (σ' := ?s2) (fun K hK => ?h2) ?n2
  case h2 =>
    iterate 2 (refine st_op rfl (by simp (disch := omega) only [stepf,callOf,qop,fop,St.ev,St.put,cd,zd,Value.oneCell',tb_T,TypeDesc.aggB,getD_0,getD_s,Ze,Zd,Zc,Za,Zb,Zr,ZE,ZF,Zf,Zq,Zg,i64_w,Zt,Zs,Zl,Zo,Zv,Zw,Zj,Zk,Zx,Zy,qLoad,bload,pload,pureAll,D.pure?,ZC,ZD,qBin,iop,t1,ti1,t3,ti3,t5,ti5] <;> exact rfl) ?_)
    refine aops_nil ?_
    exact hK
  refine exq_n ?_
  refine aw_cond _ rfl (fun hc0 => ?_) (fun hc0 => ?_)
  · try simp only [Zp,Zi,ZK,ZJ,ne_eq,Zn,Zm,ZB,ZA,ZI,not_or,not_and,Zu] at hc0
    exfalso; omega
  · try simp only [Zp,Zi,ZK,ZJ,ne_eq,Zn,Zm,ZB,ZA,ZI,not_or,not_and,Zu] at hc0
    refine aw_skip ?_
    refine exq_n ?_
    refine aw_seq ?_
    refine aw_regK hX hb [0, 1] rfl (σ' := ?s3) (fun K hK => ?h3) ?n3
    case h3 =>
      iterate 2 (refine st_op rfl (by simp (disch := omega) only [stepf,callOf,qop,fop,St.ev,St.put,cd,zd,Value.oneCell',tb_T,TypeDesc.aggB,getD_0,getD_s,Ze,Zd,Zc,Za,Zb,Zr,ZE,ZF,Zf,Zq,Zg,i64_w,Zt,Zs,capsOf,eq_self,Array.toList,t2,ti2,t3,ti3] <;> exact rfl) ?_)
      refine aops_nil ?_
      exact hK
    refine exq_n ?_
    refine aw_ret ?_
    exact retc_r [0, 1] rfl (by simp only [capCells,D.pure?,Zd,Zc] <;> exact rfl)
theorem c21 (l : List (List Int)) (leaf : Int) : ACalls Try.prog 21 [.p (secs l), .p (i64 leaf)] (.tup [trP (refBuild l leaf).1, .p (i64 (refBuild l leaf).2)]) := by
  refine acalls_of tb_ok Try.func21 (c := _) rfl (by kernel_rfl) ?_
  intro X hP hX hro hpl
  have hb : tb.Ok X.P := hP ▸ tb_ok
  change AW X _ _ ⟨[], [.p (secs l), .p (i64 leaf), .any, .any, .any, .any, .any, .any, .any, .any, .any, .any, .any, .any, .any, .any, .any, .any, .any, .any, .any, .any, .any, .any, .any, .any, .any, .any, .any, .any, .any], [], []⟩
  refine aw_len (t := 0) rfl fun hl => ?_
  unfold maxLen at hl
  refine aw_seq ?_
  refine aw_regK hX hb [0, 1] rfl (σ' := ?s1) (fun K hK => ?h1) ?n1
  case h1 =>
    iterate 2 (refine st_op rfl (by simp (disch := omega) only [stepf,callOf,qop,fop,St.ev,St.put,cd,zd,Value.oneCell',tb_T,TypeDesc.aggB,getD_0,getD_s,Ze,Zd,Zc,Za,Zb,Zr,ZE,ZF,Zf,Zq,Zg,i64_w,Zt,Zs,ZM,ZL,Zl,Zo,ZG,ZH,St.addBox,Value.cells,t3,ti3,t24,ti24,t26,ti26,t58,ti58,t60,ti60,Zh] <;> exact rfl) ?_)
    refine aops_nil ?_
    exact hK
  refine exq_n ?_
  refine aw_seq ?_
  refine aw_seq ?_
  refine aw_regK hX hb [0, 1, 2, 3, 4] rfl (σ' := ?s2) (fun K hK => ?h2) ?n2
  case h2 =>
    iterate 3 (refine st_op rfl (by simp (disch := omega) only [stepf,callOf,qop,fop,St.ev,St.put,cd,zd,Value.oneCell',tb_T,TypeDesc.aggB,getD_0,getD_s,Ze,Zd,Zc,Za,Zb,Zr,ZE,ZF,Zf,Zq,Zg,i64_w,Zt,Zs,qLen,pvAll,D.pv?,t1,ti1,t3,ti3,t5,ti5,t22,ti22,t50,ti50,Zh] <;> exact rfl) ?_)
    refine st_call rfl (by simp only [callOf,St.ev,getD_0,getD_s,pvAll,D.pv?,ZG,ZH,zd,cd,Value.oneCell',Zr] <;> exact rfl) (acK hP (c64 _ _)) (by simp only [St.put,Za,Zb] <;> exact rfl) ?_
    (refine st_op rfl (by simp (disch := omega) only [stepf,callOf,qop,fop,St.ev,St.put,cd,zd,Value.oneCell',tb_T,TypeDesc.aggB,getD_0,getD_s,Ze,Zd,Zc,Za,Zb,Zr,ZE,ZF,Zf,Zq,Zg,i64_w,Zt,Zs,qLen,pvAll,D.pv?,t1,ti1,t3,ti3,t5,ti5,t22,ti22,t50,ti50,Zh] <;> exact rfl) ?_)
    refine aops_nil ?_
    exact hK
  refine exq_n ?_
  refine aw_seq ?_
  refine aw_regK hX hb [0, 1] rfl (σ' := ?s3) (fun K hK => ?h3) ?n3
  case h3 =>
    iterate 2 (refine st_op rfl (by simp (disch := omega) only [stepf,callOf,qop,fop,St.ev,St.put,cd,zd,Value.oneCell',tb_T,TypeDesc.aggB,getD_0,getD_s,Ze,Zd,Zc,Za,Zb,Zr,ZE,ZF,Zf,Zq,Zg,i64_w,Zt,Zs,qBin,iop,t27,ti27,Zh] <;> exact rfl) ?_)
    refine aops_nil ?_
    exact hK
  refine exq_n ?_
  refine aw_cond _ rfl (fun hc0 => ?_) (fun hc0 => ?_)
  · try simp only [Zp,Zi,ZK,ZJ,ne_eq,Zn,Zm,ZB,ZA,ZI,not_or,not_and,Zu] at hc0
    refine aw_seq ?_
    refine aw_regK hX hb [0, 1, 2, 3] rfl (σ' := ?s4) (fun K hK => ?h4) ?n4
    case h4 =>
      iterate 4 (refine st_op rfl (by simp (disch := omega) only [stepf,callOf,qop,fop,St.ev,St.put,cd,zd,Value.oneCell',tb_T,TypeDesc.aggB,getD_0,getD_s,Ze,Zd,Zc,Za,Zb,Zr,ZE,ZF,Zf,Zq,Zg,i64_w,Zt,Zs,tb_W,tbO_W,qBuild,qBuildD,D.cell1,range_1,range_2,range_3,range_4,range_5,List.all_cons,List.all_nil,bfill,TI.place,TI.zeros,TI.kindOk,D.cells?,D.pure?,zp,Value.cells,ZQ,ZP,Zl,Zo,fStore,D.boxCells,D.live,Zv,Zw,Zj,Zk,Zx,Zy,ZM,ZL,ZN,ZG,ZH,St.setVec,ZC,t3,ti3,t4,ti4,t24,ti24,t26,ti26,t58,ti58,t60,ti60,Zh] <;> exact rfl) ?_)
      refine aops_nil ?_
      exact hK
    refine exq_n ?_
    refine aw_ret ?_
    refine exq_r ?_
    exact ret_rm (resOf_two (by simp only [resVal,qLoad,bload,tb_T,TypeDesc.aggB,pureAll,D.pure?,D.pv?,getD_0,getD_s,Zd,Zc,Zw,Zk,Zv,Zj,Zx,Zl,Zo,Zr,reduceIte,Nat.reduceAdd,Nat.reduceLeDiff,Zg,Zf,t3,ti3,t4,ti4,t24,ti24,t26,ti26,t58,ti58,t60,ti60] <;> exact rfl) rfl (by first | rfl | (first | exact limI_build hc0 | exact limI_built l h1 h2 h3)))
  · try simp only [Zp,Zi,ZK,ZJ,ne_eq,Zn,Zm,ZB,ZA,ZI,not_or,not_and,Zu] at hc0
    obtain ⟨n, hn, h1, h2, h3⟩ := limI_ok hc0
    subst hn
    have hnl := nLeaves_le (s := l.length) (n := n) (by omega)
    refine aw_skip ?_
    refine exq_n ?_
    refine aw_seq ?_
    refine aw_regK hX hb [0] rfl (σ' := ?s5) (fun K hK => ?h5) ?n5
    case h5 =>
      (refine st_op rfl (by simp (disch := omega) only [stepf,callOf,qop,fop,St.ev,St.put,cd,zd,Value.oneCell',tb_T,TypeDesc.aggB,getD_0,getD_s,Ze,Zd,Zc,Za,Zb,Zr,ZE,ZF,Zf,Zq,Zg,i64_w,Zt,Zs,ZM,ZL,Zl,Zo,ZG,ZH,St.addBox,Value.cells,t58,ti58,t60,ti60,Zh] <;> exact rfl) ?_)
      refine aops_nil ?_
      exact hK
    refine exq_n ?_
    refine aw_nilc 1 0 _ 58 1 rfl rfl (σ' := ?s6) ?h6 ?n6
    case h6 => simp only [St.nilCell,St.addVec,Za,Zb,Zl,Zo,ZL,ZM]; exact rfl
    refine aw_seq ?_
    refine aw_seq ?_
    refine aw_regK hX hb [0, 1, 2] rfl (σ' := ?s7) (fun K hK => ?h7) ?n7
    case h7 =>
      iterate 2 (refine st_op rfl (by simp (disch := omega) only [stepf,callOf,qop,fop,St.ev,St.put,cd,zd,Value.oneCell',tb_T,TypeDesc.aggB,getD_0,getD_s,Ze,Zd,Zc,Za,Zb,Zr,ZE,ZF,Zf,Zq,Zg,i64_w,Zt,Zs,pvAll,D.pv?,t1,ti1,t3,ti3,t5,ti5,t22,ti22,t50,ti50,Zh] <;> exact rfl) ?_)
      refine st_call rfl (by simp only [callOf,St.ev,getD_0,getD_s,pvAll,D.pv?,ZG,ZH,zd,cd,Value.oneCell',Zr] <;> exact rfl) (acK hP (c65 l n (by omega))) (by simp only [St.put,Za,Zb] <;> exact rfl) ?_
      refine aops_nil ?_
      exact hK
    refine exq_n ?_
    refine aw_block ?_
    refine aw_rangeE hX hro hpl.j [] [.p (secs l), .p (i64 n), .any, .any, .ptr 0 0, .p (i64 0), .any, .ptr 1 0, .any, .any, .any, .any, .any, .any, .any, .any, .any, .any, .any, .p (.clo 103 [secs l, i64 n]), .any, .any, .any, .any, .any, .any, .any, .any, .any, .any, .any] 2 (fun (k : Nat) => [⟨26, [.p (i64 0), .p (i64 0), .nil]⟩, ⟨60, [.vref 0]⟩]) (fun (k : Nat) => [some ⟨58, 1, ((leafD l n).take k).length, ((leafD l n).take k).map u64⟩]) [⟨26, [.p (i64 0), .p (i64 0), .nil]⟩, ⟨60, [.vref 0]⟩] [some ⟨58, 1, (leafD l n).length, (leafD l n).map u64⟩] (wk_le ⟨rfl, leL_r (by first | rfl | (rw [leafD_take l n k hk]; simp)) (leL_r (by first | rfl | (rw [leafD_take l n k hk]; simp)) (leL_a (leL_a (leL_r (by first | rfl | (rw [leafD_take l n k hk]; simp)) (leL_r (by first | rfl | (rw [leafD_take l n k hk]; simp)) (leL_a (leL_r (by first | rfl | (rw [leafD_take l n k hk]; simp)) (leL_a (leL_a (leL_a (leL_a (leL_a (leL_a (leL_a (leL_a (leL_a (leL_a (leL_a (leL_r (by first | rfl | (rw [leafD_take l n k hk]; simp)) (leL_a (leL_a (leL_a (leL_a (leL_a (leL_a (leL_a (leL_a (leL_a (leL_a (leL_a (leL_nil))))))))))))))))))))))))))))))), (leB_r rfl (leL_r (by first | rfl | (rw [leafD_take l n k hk]; simp)) (leL_r (by first | rfl | (rw [leafD_take l n k hk]; simp)) (leL_r (by first | rfl | (rw [leafD_take l n k hk]; simp)) (leL_nil)))) (leB_r rfl (leL_r (by first | rfl | (rw [leafD_take l n k hk]; simp)) (leL_nil)) (leB_nil _))), (leV_r (by first | rfl | (rw [leafD_take l n k hk]; simp)) (leV_nil _)), rfl, rfl⟩) rfl rfl (hP ▸ (s103 l n (by omega) (by omega))) rfl rfl rfl (by first | rfl | (rw [chunkItems_length, List.take_of_length_le (by rw [leafD_length]; exact Nat.le_refl _)])) (by first | rfl | (rw [chunkItems_length, List.take_of_length_le (by rw [leafD_length]; exact Nat.le_refl _)])) ?_ ?_
    · intro k y hy
      obtain ⟨hk, rfl⟩ := chunkItems_of hy
      have hkl : ((leafD l n).take k).length = k := by rw [List.length_take, leafD_length]; omega
      unfold RoundOk
      intro X1 hQ hX
      have hP0 := hP; have hP := hQ.trans hP; have hb : tb.Ok X1.P := hP ▸ tb_ok
      change AW X1 _ _ ⟨[.pin 2], [.p (secs l), .p (i64 n), .any, .any, .ptr 0 0, .p (i64 0), .any, .ptr 1 0, .any, .any, .any, .any, .any, .any, .any, .any, .any, .any, .any, .p (.clo 103 [secs l, i64 n]), .p (secs (secAt l n k)), .any, .any, .any, .any, .any, .any, .any, .any, .any, .any], [⟨26, [.p (i64 0), .p (i64 0), .nil]⟩, ⟨60, [.vref 0]⟩], [some ⟨58, 1, ((leafD l n).take k).length, ((leafD l n).take k).map u64⟩]⟩
      refine aw_regK hX hb [0] rfl (σ' := ?s8) (fun K hK => ?h8) ?n8
      case h8 =>
        (refine st_op rfl (by simp (disch := omega) only [stepf,callOf,qop,fop,St.ev,St.put,cd,zd,Value.oneCell',tb_T,TypeDesc.aggB,getD_0,getD_s,Ze,Zd,Zc,Za,Zb,Zr,ZE,ZF,Zf,Zq,Zg,i64_w,Zt,Zs,Zh] <;> exact rfl) ?_)
        refine aops_nil ?_
        exact hK
      refine ⟨rfl, rfl, ?_⟩
      intro X2 hQ2 hX
      have hP := hQ2.trans hP0; have hb : tb.Ok X2.P := hP ▸ tb_ok
      refine aw_block ?_
      refine aw_regD hX hb (try_mixed hP) [(0, true), (1, true), (2, false), (3, false), (4, false), (5, false)] (by kernel_rfl) (σ' := ?s9) (fun K hK => ?h9) ?n9
      case h9 =>
        iterate 2 (refine sd_q rfl (by simp (disch := omega) only [qop,fop,St.ev,St.put,cd,zd,Value.oneCell',tb_T,TypeDesc.aggB,getD_0,getD_s,Ze,Zd,Zc,Za,Zb,Zr,ZE,ZF,Zf,Zq,Zg,i64_w,Zt,Zs,Zl,Zo,Zv,Zw,Zj,Zk,Zx,Zy,qLoad,bload,pload,pureAll,D.pure?,ZC,ZD,pvAll,D.pv?,tb_N,tbO_N,tbW_N,tb_O,fBuildSlice,catCells,D.cells?,range_1,range_2,range_3,range_4,range_5,ZG,ZH,ZL,ZM,ZN,sec8_length,Nat.reduceAdd,Nat.reduceMul,fAppend,appV,St.demote,D.demote,St.setVec,Zh,List.length_append,Nat.mul_one,reduceIte,fStore,D.boxCells,D.live,t1,ti1,t5,ti5,t22,ti22,t24,ti24,t50,ti50,t58,ti58,t60,ti60] <;> exact rfl) (by simp only [St.put,Za,Zb] <;> exact rfl) ?_)
        refine sd_call rfl (by simp only [callOf,St.ev,getD_0,getD_s,pvAll,D.pv?,ZG,ZH,zd,cd,Value.oneCell',Zr] <;> exact rfl) (acK hP (c66 _)) (by simp only [St.put,Za,Zb] <;> exact rfl) ?_
        iterate 3 (refine sd_op rfl (by simp (disch := omega) only [stepf,callOf,qop,fop,St.ev,St.put,cd,zd,Value.oneCell',tb_T,TypeDesc.aggB,getD_0,getD_s,Ze,Zd,Zc,Za,Zb,Zr,ZE,ZF,Zf,Zq,Zg,i64_w,Zt,Zs,Zl,Zo,Zv,Zw,Zj,Zk,Zx,Zy,qLoad,bload,pload,pureAll,D.pure?,ZC,ZD,pvAll,D.pv?,tb_N,tbO_N,tbW_N,tb_O,fBuildSlice,catCells,D.cells?,range_1,range_2,range_3,range_4,range_5,ZG,ZH,ZL,ZM,ZN,sec8_length,Nat.reduceAdd,Nat.reduceMul,fAppend,appV,St.demote,D.demote,St.setVec,Zh,List.length_append,Nat.mul_one,reduceIte,fStore,D.boxCells,D.live,t1,ti1,t5,ti5,t22,ti22,t24,ti24,t50,ti50,t58,ti58,t60,ti60] <;> exact rfl) ?_)
        refine aopsd_nil ?_
        exact hK
      refine exb_n ?_
      exact ⟨rfl, wk_le ⟨(by first | rfl | (rw [leafD_take l n k hk]; simp)), leL_a (leL_a (leL_a (leL_a (leL_a (leL_a (leL_a (leL_a (leL_a (leL_a (leL_a (leL_a (leL_a (leL_a (leL_a (leL_a (leL_a (leL_a (leL_a (leL_a (leL_a (leL_a (leL_a (leL_a (leL_a (leL_a (leL_a (leL_a (leL_a (leL_a (leL_a (leL_nil))))))))))))))))))))))))))))))), (leB_r rfl (leL_r (by first | rfl | (rw [leafD_take l n k hk]; simp)) (leL_r (by first | rfl | (rw [leafD_take l n k hk]; simp)) (leL_r (by first | rfl | (rw [leafD_take l n k hk]; simp)) (leL_nil)))) (leB_r rfl (leL_r (by first | rfl | (rw [leafD_take l n k hk]; simp)) (leL_nil)) (leB_nil _))), (leV_r (by first | rfl | (rw [leafD_take l n k hk]; simp)) (leV_nil _)), rfl, rfl⟩⟩
    refine exb_n ?_
    refine exq_n ?_
    refine aw_seq ?_
    refine aw_frz 0 rfl (σ' := ?s11) ?h11 ?n11
    case h11 => simp only [St.freeze,D.freeze,ZG,ZH,Za,Zb,Zr,reduceIte,Nat.reduceEqDiff]; exact rfl
    refine aw_regK hX hb [0, 1, 2, 3, 4, 5, 6] rfl (σ' := ?s10) (fun K hK => ?h10) ?n10
    case h10 =>
      iterate 4 (refine st_op rfl (by simp (disch := omega) only [stepf,callOf,qop,fop,St.ev,St.put,cd,zd,Value.oneCell',tb_T,TypeDesc.aggB,getD_0,getD_s,Ze,Zd,Zc,Za,Zb,Zr,ZE,ZF,Zf,Zq,Zg,i64_w,Zt,Zs,qLen,Zl,Zo,Zv,Zw,Zj,Zk,Zx,Zy,qLoad,bload,pload,pureAll,D.pure?,ZC,ZD,pvAll,D.pv?,fStore,D.boxCells,D.live,D.cells?,ZM,ZL,ZN,ZG,ZH,St.setVec,t1,ti1,t3,ti3,t4,ti4,t5,ti5,t22,ti22,t24,ti24,t26,ti26,t27,ti27,t50,ti50,t58,ti58,t60,ti60,Zh] <;> exact rfl) ?_)
      refine st_call rfl (by simp only [callOf,St.ev,getD_0,getD_s,pvAll,D.pv?,ZG,ZH,zd,cd,Value.oneCell',Zr] <;> exact rfl) (acK hP (c67 c79 _ _ (leafD l n) (by rw [leafD_length]; omega) (by rw [leafD_length]; exact nLeaves_pos (by omega) (by omega)))) (by simp only [St.put,Za,Zb] <;> exact rfl) ?_
      iterate 2 (refine st_op rfl (by simp (disch := omega) only [stepf,callOf,qop,fop,St.ev,St.put,cd,zd,Value.oneCell',tb_T,TypeDesc.aggB,getD_0,getD_s,Ze,Zd,Zc,Za,Zb,Zr,ZE,ZF,Zf,Zq,Zg,i64_w,Zt,Zs,qLen,Zl,Zo,Zv,Zw,Zj,Zk,Zx,Zy,qLoad,bload,pload,pureAll,D.pure?,ZC,ZD,pvAll,D.pv?,fStore,D.boxCells,D.live,D.cells?,ZM,ZL,ZN,ZG,ZH,St.setVec,t1,ti1,t3,ti3,t4,ti4,t5,ti5,t22,ti22,t24,ti24,t26,ti26,t27,ti27,t50,ti50,t58,ti58,t60,ti60,Zh] <;> exact rfl) ?_)
      refine aops_nil ?_
      exact hK
    refine exq_n ?_
    refine aw_ret ?_
    exact ret_rm (resOf_two (by simp only [resVal,qLoad,bload,tb_T,TypeDesc.aggB,pureAll,D.pure?,D.pv?,getD_0,getD_s,Zd,Zc,Zw,Zk,Zv,Zj,Zx,Zl,Zo,Zr,reduceIte,Nat.reduceAdd,Nat.reduceLeDiff,Zg,Zf,t3,ti3,t4,ti4,t24,ti24,t26,ti26,t58,ti58,t60,ti60] <;> exact rfl) rfl (by first | rfl | (first | exact limI_build hc0 | exact limI_built l h1 h2 h3)))
end Go.Proofs.Ytldcoekbgfaomaa
end
