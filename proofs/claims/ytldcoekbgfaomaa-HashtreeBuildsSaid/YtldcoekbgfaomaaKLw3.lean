/- The laws of building, updating, differing. No conditions. -/
import Derived.Test.YtldcoekbgfaomaaGf
namespace Go.Proofs.Ytldcoekbgfaomaa
open Go.RowKit
set_option maxRecDepth 20000
set_option maxHeartbeats 4000000
attribute [local irreducible] AOps AOpsD AW

theorem c3 (l : List (List Int)) (leaf : Int) : ACalls Try.prog 3 [.p (secs l), .p (i64 leaf)] (.p (bv true)) := by
  refine acalls_of tb_ok Try.func3 (c := _) rfl (by kernel_rfl) ?_
  intro X hP hX hro hpl
  have hb : tb.Ok X.P := hP ▸ tb_ok
  change AW X _ _ ⟨[], [.p (secs l), .p (i64 leaf), .any, .any, .any, .any, .any, .any, .any, .any, .any, .any, .any, .any, .any, .any, .any, .any, .any, .any, .any, .any, .any, .any, .any, .any, .any, .any, .any, .any, .any, .any, .any, .any, .any, .any], [], []⟩
  refine aw_seq ?_
  refine aw_regK hX hb [0] rfl (σ' := ?s1) (fun K hK => ?h1) ?n1
  case h1 =>
    (refine st_op rfl (by simp (disch := omega) only [stepf,callOf,qop,fop,St.ev,St.put,cd,zd,Value.oneCell',tb_T,TypeDesc.aggB,getD_0,getD_s,Ze,Zd,Zc,Za,Zb,Zr,ZE,ZF,Zf,Zq,Zg,i64_w,Zt,Zs] <;> exact rfl) ?_)
    refine aops_nil ?_
    exact hK
  refine exq_n ?_
  refine aw_seq ?_
  refine aw_seq ?_
  refine aw_regK hX hb [0, 1, 2] rfl (σ' := ?s2) (fun K hK => ?h2) ?n2
  case h2 =>
    iterate 3 (refine st_op rfl (by simp (disch := omega) only [stepf,callOf,qop,fop,St.ev,St.put,cd,zd,Value.oneCell',tb_T,TypeDesc.aggB,getD_0,getD_s,Ze,Zd,Zc,Za,Zb,Zr,ZE,ZF,Zf,Zq,Zg,i64_w,Zt,Zs,qLen,qBin,iop,t3,ti3,t5,ti5,t22,ti22,t50,ti50] <;> exact rfl) ?_)
    refine aops_nil ?_
    exact hK
  refine exq_n ?_
  refine aw_cond _ rfl (fun hc0 => ?_) (fun hc0 => ?_)
  · try simp only [Zp,Zi,ZK,ZJ,ne_eq,Zn,Zm,ZB,ZA,ZI,not_or,not_and,Zu] at hc0
    refine aw_seq ?_
    refine aw_regK hX hb [0, 1] rfl (σ' := ?s3) (fun K hK => ?h3) ?n3
    case h3 =>
      refine st_call rfl (by simp only [callOf,St.ev,getD_0,getD_s,pvAll,D.pv?,ZG,ZH,zd,cd,Value.oneCell',Zr] <;> exact rfl) (acK hP (c20)) (by simp only [St.put,Za,Zb] <;> exact rfl) ?_
      (refine st_op rfl (by simp (disch := omega) only [stepf,callOf,qop,fop,St.ev,St.put,cd,zd,Value.oneCell',tb_T,TypeDesc.aggB,getD_0,getD_s,Ze,Zd,Zc,Za,Zb,Zr,ZE,ZF,Zf,Zq,Zg,i64_w,Zt,Zs,pvAll,D.pv?] <;> exact rfl) ?_)
      refine aops_nil ?_
      exact hK
    refine exq_n ?_
    refine aw_ret ?_
    refine exq_r ?_
    exact ret_r rfl (resOf_one rfl rfl)
  · try simp only [Zp,Zi,ZK,ZJ,ne_eq,Zn,Zm,ZB,ZA,ZI,not_or,not_and,Zu] at hc0
    refine aw_skip ?_
    refine exq_n ?_
    refine aw_seq ?_
    refine aw_regK hX hb [0, 1, 2, 3, 4, 5, 6, 7, 8] rfl (σ' := ?s4) (fun K hK => ?h4) ?n4
    case h4 =>
      iterate 2 (refine st_op rfl (by simp (disch := omega) only [stepf,callOf,qop,fop,St.ev,St.put,cd,zd,Value.oneCell',tb_T,TypeDesc.aggB,getD_0,getD_s,Ze,Zd,Zc,Za,Zb,Zr,ZE,ZF,Zf,Zq,Zg,i64_w,Zt,Zs,pvAll,D.pv?,qTup,PV.d,ZM,ZL,Zl,Zo,ZG,ZH,St.addBox,Value.cells,fStore,D.boxCells,D.live,D.cells?,D.pure?,Zv,Zw,Zj,Zk,Zx,Zy,ZN,St.setVec,ZC,t1,ti1,t3,ti3,t5,ti5,t22,ti22,t24,ti24,t26,ti26,t50,ti50,t58,ti58,t60,ti60] <;> exact rfl) ?_)
      refine st_call rfl (by simp only [callOf,St.ev,getD_0,getD_s,pvAll,D.pv?,ZG,ZH,zd,cd,Value.oneCell',Zr] <;> exact rfl) (acK hP (c21 l leaf)) (by simp only [St.put,Za,Zb] <;> exact rfl) ?_
      iterate 6 (refine st_op rfl (by simp (disch := omega) only [stepf,callOf,qop,fop,St.ev,St.put,cd,zd,Value.oneCell',tb_T,TypeDesc.aggB,getD_0,getD_s,Ze,Zd,Zc,Za,Zb,Zr,ZE,ZF,Zf,Zq,Zg,i64_w,Zt,Zs,pvAll,D.pv?,qTup,PV.d,ZM,ZL,Zl,Zo,ZG,ZH,St.addBox,Value.cells,fStore,D.boxCells,D.live,D.cells?,D.pure?,Zv,Zw,Zj,Zk,Zx,Zy,ZN,St.setVec,ZC,t1,ti1,t3,ti3,t5,ti5,t22,ti22,t24,ti24,t26,ti26,t50,ti50,t58,ti58,t60,ti60] <;> exact rfl) ?_)
      refine aops_nil ?_
      exact hK
    refine exq_n ?_
    refine aw_seq ?_
    refine aw_regK hX hb [0, 1, 2, 3, 4, 5, 6, 7, 8] rfl (σ' := ?s5) (fun K hK => ?h5) ?n5
    case h5 =>
      iterate 2 (refine st_op rfl (by simp (disch := omega) only [stepf,callOf,qop,fop,St.ev,St.put,cd,zd,Value.oneCell',tb_T,TypeDesc.aggB,getD_0,getD_s,Ze,Zd,Zc,Za,Zb,Zr,ZE,ZF,Zf,Zq,Zg,i64_w,Zt,Zs,pvAll,D.pv?,qTup,PV.d,ZM,ZL,Zl,Zo,ZG,ZH,St.addBox,Value.cells,fStore,D.boxCells,D.live,D.cells?,D.pure?,Zv,Zw,Zj,Zk,Zx,Zy,ZN,St.setVec,ZC,t1,ti1,t3,ti3,t5,ti5,t22,ti22,t24,ti24,t26,ti26,t50,ti50,t58,ti58,t60,ti60] <;> exact rfl) ?_)
      refine st_call rfl (by simp only [callOf,St.ev,getD_0,getD_s,pvAll,D.pv?,ZG,ZH,zd,cd,Value.oneCell',Zr] <;> exact rfl) (acK hP (c22 l leaf)) (by simp only [St.put,Za,Zb] <;> exact rfl) ?_
      iterate 6 (refine st_op rfl (by simp (disch := omega) only [stepf,callOf,qop,fop,St.ev,St.put,cd,zd,Value.oneCell',tb_T,TypeDesc.aggB,getD_0,getD_s,Ze,Zd,Zc,Za,Zb,Zr,ZE,ZF,Zf,Zq,Zg,i64_w,Zt,Zs,pvAll,D.pv?,qTup,PV.d,ZM,ZL,Zl,Zo,ZG,ZH,St.addBox,Value.cells,fStore,D.boxCells,D.live,D.cells?,D.pure?,Zv,Zw,Zj,Zk,Zx,Zy,ZN,St.setVec,ZC,t1,ti1,t3,ti3,t5,ti5,t22,ti22,t24,ti24,t26,ti26,t50,ti50,t58,ti58,t60,ti60] <;> exact rfl) ?_)
      refine aops_nil ?_
      exact hK
    refine exq_n ?_
    refine aw_seq ?_
    refine aw_regK hX hb [0, 1, 2, 3, 4, 5, 6, 7, 8, 9, 10, 11] rfl (σ' := ?s6) (fun K hK => ?h6) ?n6
    case h6 =>
      iterate 2 (refine st_op rfl (by simp (disch := omega) only [stepf,callOf,qop,fop,St.ev,St.put,cd,zd,Value.oneCell',tb_T,TypeDesc.aggB,getD_0,getD_s,Ze,Zd,Zc,Za,Zb,Zr,ZE,ZF,Zf,Zq,Zg,i64_w,Zt,Zs,Zl,Zo,Zv,Zw,Zj,Zk,Zx,Zy,qLoad,bload,pload,pureAll,D.pure?,ZC,ZD,pvAll,D.pv?,qBin,iop,t3,ti3,t5,ti5,t24,ti24,t26,ti26,t27,ti27,t35,ti35,t58,ti58,t60,ti60,beq_self_eq_true,decide_true,eq_self] <;> exact rfl) ?_)
      refine st_call rfl (by simp only [callOf,St.ev,getD_0,getD_s,pvAll,D.pv?,ZG,ZH,zd,cd,Value.oneCell',Zr] <;> exact rfl) (acK hP (k23t (refBuild l leaf).1)) (by simp only [St.put,Za,Zb] <;> exact rfl) ?_
      (refine st_op rfl (by simp (disch := omega) only [stepf,callOf,qop,fop,St.ev,St.put,cd,zd,Value.oneCell',tb_T,TypeDesc.aggB,getD_0,getD_s,Ze,Zd,Zc,Za,Zb,Zr,ZE,ZF,Zf,Zq,Zg,i64_w,Zt,Zs,Zl,Zo,Zv,Zw,Zj,Zk,Zx,Zy,qLoad,bload,pload,pureAll,D.pure?,ZC,ZD,pvAll,D.pv?,qBin,iop,t3,ti3,t5,ti5,t24,ti24,t26,ti26,t27,ti27,t35,ti35,t58,ti58,t60,ti60,beq_self_eq_true,decide_true,eq_self] <;> exact rfl) ?_)
      iterate 3 (all_goals first | (refine st_g1 rfl rfl rfl (by simp (disch := omega) only [stepf,callOf,qop,fop,St.ev,St.put,cd,zd,Value.oneCell',tb_T,TypeDesc.aggB,getD_0,getD_s,Ze,Zd,Zc,Za,Zb,Zr,ZE,ZF,Zf,Zq,Zg,i64_w,Zt,Zs,Zl,Zo,Zv,Zw,Zj,Zk,Zx,Zy,qLoad,bload,pload,pureAll,D.pure?,ZC,ZD,pvAll,D.pv?,qBin,iop,t3,ti3,t5,ti5,t24,ti24,t26,ti26,t27,ti27,t35,ti35,t58,ti58,t60,ti60,beq_self_eq_true,decide_true,eq_self] <;> exact rfl) ?_) | (first | (refine st_g0 rfl rfl rfl (by simp only [St.put,Za,Zb] <;> exact rfl) ?_) | (refine st_gu rfl rfl rfl (by simp only [St.put,Za,Zb] <;> exact rfl) ?_)) | (refine st_split rfl rfl rfl (by simp only [Za,Zb] <;> exact rfl) (by simp only [Za,Zb] <;> exact rfl) (fun hg => ?_) (fun hg => ?_) <;> (try simp only [Zp,Zi,ZJ,ZK,ne_eq,Zn,Zm,Bool.not_eq_true,Zu] at hg) <;> first | (refine st_g1 rfl rfl rfl (by simp (disch := omega) only [stepf,callOf,qop,fop,St.ev,St.put,cd,zd,Value.oneCell',tb_T,TypeDesc.aggB,getD_0,getD_s,Ze,Zd,Zc,Za,Zb,Zr,ZE,ZF,Zf,Zq,Zg,i64_w,Zt,Zs,Zl,Zo,Zv,Zw,Zj,Zk,Zx,Zy,qLoad,bload,pload,pureAll,D.pure?,ZC,ZD,pvAll,D.pv?,qBin,iop,t3,ti3,t5,ti5,t24,ti24,t26,ti26,t27,ti27,t35,ti35,t58,ti58,t60,ti60,beq_self_eq_true,decide_true,eq_self] <;> exact rfl) ?_) | (first | (refine st_g0 rfl rfl rfl (by simp only [St.put,Za,Zb] <;> exact rfl) ?_) | (refine st_gu rfl rfl rfl (by simp only [St.put,Za,Zb] <;> exact rfl) ?_))))
      iterate 2 (refine st_op rfl (by simp (disch := omega) only [stepf,callOf,qop,fop,St.ev,St.put,cd,zd,Value.oneCell',tb_T,TypeDesc.aggB,getD_0,getD_s,Ze,Zd,Zc,Za,Zb,Zr,ZE,ZF,Zf,Zq,Zg,i64_w,Zt,Zs,Zl,Zo,Zv,Zw,Zj,Zk,Zx,Zy,qLoad,bload,pload,pureAll,D.pure?,ZC,ZD,pvAll,D.pv?,qBin,iop,t3,ti3,t5,ti5,t24,ti24,t26,ti26,t27,ti27,t35,ti35,t58,ti58,t60,ti60,beq_self_eq_true,decide_true,eq_self] <;> exact rfl) ?_)
      all_goals first | (refine st_gc rfl rfl rfl (by simp only [callOf,St.ev,getD_0,getD_s,pvAll,D.pv?,ZG,ZH,zd,cd,Value.oneCell',Zr] <;> exact rfl) (acK hP (c20)) (by simp only [St.put,Za,Zb] <;> exact rfl) ?_) | (first | (refine st_g0 rfl rfl rfl (by simp only [St.put,Za,Zb] <;> exact rfl) ?_) | (refine st_gu rfl rfl rfl (by simp only [St.put,Za,Zb] <;> exact rfl) ?_)) | (refine st_split rfl rfl rfl (by simp only [Za,Zb] <;> exact rfl) (by simp only [Za,Zb] <;> exact rfl) (fun hg => ?_) (fun hg => ?_) <;> (try simp only [Zp,Zi,ZJ,ZK,ne_eq,Zn,Zm,Bool.not_eq_true,Zu] at hg) <;> first | (refine st_gc rfl rfl rfl (by simp only [callOf,St.ev,getD_0,getD_s,pvAll,D.pv?,ZG,ZH,zd,cd,Value.oneCell',Zr] <;> exact rfl) (acK hP (c20)) (by simp only [St.put,Za,Zb] <;> exact rfl) ?_) | (first | (refine st_g0 rfl rfl rfl (by simp only [St.put,Za,Zb] <;> exact rfl) ?_) | (refine st_gu rfl rfl rfl (by simp only [St.put,Za,Zb] <;> exact rfl) ?_)))
      iterate 2 (refine st_op rfl (by simp (disch := omega) only [stepf,callOf,qop,fop,St.ev,St.put,cd,zd,Value.oneCell',tb_T,TypeDesc.aggB,getD_0,getD_s,Ze,Zd,Zc,Za,Zb,Zr,ZE,ZF,Zf,Zq,Zg,i64_w,Zt,Zs,Zl,Zo,Zv,Zw,Zj,Zk,Zx,Zy,qLoad,bload,pload,pureAll,D.pure?,ZC,ZD,pvAll,D.pv?,qBin,iop,t3,ti3,t5,ti5,t24,ti24,t26,ti26,t27,ti27,t35,ti35,t58,ti58,t60,ti60,beq_self_eq_true,decide_true,eq_self] <;> exact rfl) ?_)
      refine aops_nil ?_
      exact hK
    refine exq_n ?_
    refine aw_ret ?_
    exact ret_r rfl (resOf_one rfl rfl)

theorem c4 (t : Tr) (l : List (List Int)) (es ec : Int) : ACalls Try.prog 4 [trP t, .p (secs l), .agg [i64 es, i64 ec]] (.p (bv true)) := by
  obtain ⟨s, f, lv⟩ := t
  refine acalls_of tb_ok Try.func4 (c := _) rfl (by kernel_rfl) ?_
  intro X hP hX hro hpl
  have hb : tb.Ok X.P := hP ▸ tb_ok
  change AW X _ _ ⟨[], [.agg [i64 s, i64 f, lvls lv], .p (secs l), .agg [i64 es, i64 ec], .any, .any, .any, .any, .any, .any, .any, .any, .any, .any, .any, .any, .any, .any, .any, .any, .any, .any, .any, .any, .any, .any, .any, .any, .any, .any, .any, .any, .any, .any, .any, .any, .any, .any, .any, .any, .any, .any, .any, .any, .any, .any], [], []⟩
  refine aw_seq ?_
  refine aw_regK hX hb [0, 1, 2] rfl (σ' := ?s1) (fun K hK => ?h1) ?n1
  case h1 =>
    iterate 3 (refine st_op rfl (by simp (disch := omega) only [stepf,callOf,qop,fop,St.ev,St.put,cd,zd,Value.oneCell',tb_T,TypeDesc.aggB,getD_0,getD_s,Ze,Zd,Zc,Za,Zb,Zr,ZE,ZF,Zf,Zq,Zg,i64_w,Zt,Zs,ZM,ZL,Zl,Zo,ZG,ZH,St.addBox,D.boxCells,D.live,t2,ti2,t3,ti3,t24,ti24,t26,ti26,t35,ti35,t58,ti58,t60,ti60] <;> exact rfl) ?_)
    refine aops_nil ?_
    exact hK
  refine exq_n ?_
  refine aw_seq ?_
  refine aw_seq ?_
  refine aw_regJ hX hb [0, 1, 2, 3, 4, 5, 6, 7] rfl (ts := [11, 12, 13, 14, 15, 16, 17]) (t := 18) (d := .p (bv (fewB ⟨s, f, lv⟩ = false ∨ 100 < l.length))) (σ' := ?s2) ?j2 ?h2 ?n2
  case j2 => simp only [St.join,List.foldl,Za,Zb]; exact rfl
  case h2 =>
    (all_goals refine st_op rfl (by simp (disch := omega) only [stepf,callOf,qop,fop,St.ev,St.put,cd,zd,Value.oneCell',tb_T,TypeDesc.aggB,getD_0,getD_s,Ze,Zd,Zc,Za,Zb,Zr,ZE,ZF,Zf,Zq,Zg,i64_w,Zt,Zs,Zl,Zo,Zv,Zw,Zj,Zk,Zx,Zy,qLoad,bload,pload,pureAll,D.pure?,ZC,ZD,pvAll,D.pv?,Bool.not_true,Bool.not_false,qLen,qBin,iop,t1,ti1,t3,ti3,t4,ti4,t5,ti5,t22,ti22,t24,ti24,t26,ti26,t50,ti50,t58,ti58,t60,ti60] <;> exact rfl) ?_)
    refine st_call rfl (by simp only [callOf,St.ev,getD_0,getD_s,pvAll,D.pv?,ZG,ZH,zd,cd,Value.oneCell',Zr] <;> exact rfl) (acK hP (c24b ⟨s, f, lv⟩)) (by simp only [St.put,Za,Zb] <;> exact rfl) ?_
    iterate 2 (all_goals refine st_op rfl (by simp (disch := omega) only [stepf,callOf,qop,fop,St.ev,St.put,cd,zd,Value.oneCell',tb_T,TypeDesc.aggB,getD_0,getD_s,Ze,Zd,Zc,Za,Zb,Zr,ZE,ZF,Zf,Zq,Zg,i64_w,Zt,Zs,Zl,Zo,Zv,Zw,Zj,Zk,Zx,Zy,qLoad,bload,pload,pureAll,D.pure?,ZC,ZD,pvAll,D.pv?,Bool.not_true,Bool.not_false,qLen,qBin,iop,t1,ti1,t3,ti3,t4,ti4,t5,ti5,t22,ti22,t24,ti24,t26,ti26,t50,ti50,t58,ti58,t60,ti60] <;> exact rfl) ?_)
    iterate 3 (all_goals first | (refine st_g1 rfl rfl rfl (by simp (disch := omega) only [stepf,callOf,qop,fop,St.ev,St.put,cd,zd,Value.oneCell',tb_T,TypeDesc.aggB,getD_0,getD_s,Ze,Zd,Zc,Za,Zb,Zr,ZE,ZF,Zf,Zq,Zg,i64_w,Zt,Zs,Zl,Zo,Zv,Zw,Zj,Zk,Zx,Zy,qLoad,bload,pload,pureAll,D.pure?,ZC,ZD,pvAll,D.pv?,Bool.not_true,Bool.not_false,qLen,qBin,iop,t1,ti1,t3,ti3,t4,ti4,t5,ti5,t22,ti22,t24,ti24,t26,ti26,t50,ti50,t58,ti58,t60,ti60] <;> exact rfl) ?_) | (first | (refine st_g0 rfl rfl rfl (by simp only [St.put,Za,Zb] <;> exact rfl) ?_) | (refine st_gu rfl rfl rfl (by simp only [St.put,Za,Zb] <;> exact rfl) ?_)) | (refine st_split rfl rfl rfl (by simp only [Za,Zb] <;> exact rfl) (by simp only [Za,Zb] <;> exact rfl) (fun hg => ?_) (fun hg => ?_) <;> (try simp only [Zp,Zi,ZJ,ZK,ne_eq,Zn,Zm,Bool.not_eq_true,Zu] at hg) <;> first | (refine st_g1 rfl rfl rfl (by simp (disch := omega) only [stepf,callOf,qop,fop,St.ev,St.put,cd,zd,Value.oneCell',tb_T,TypeDesc.aggB,getD_0,getD_s,Ze,Zd,Zc,Za,Zb,Zr,ZE,ZF,Zf,Zq,Zg,i64_w,Zt,Zs,Zl,Zo,Zv,Zw,Zj,Zk,Zx,Zy,qLoad,bload,pload,pureAll,D.pure?,ZC,ZD,pvAll,D.pv?,Bool.not_true,Bool.not_false,qLen,qBin,iop,t1,ti1,t3,ti3,t4,ti4,t5,ti5,t22,ti22,t24,ti24,t26,ti26,t50,ti50,t58,ti58,t60,ti60] <;> exact rfl) ?_) | (first | (refine st_g0 rfl rfl rfl (by simp only [St.put,Za,Zb] <;> exact rfl) ?_) | (refine st_gu rfl rfl rfl (by simp only [St.put,Za,Zb] <;> exact rfl) ?_))))
    (all_goals refine st_op rfl (by simp (disch := omega) only [stepf,callOf,qop,fop,St.ev,St.put,cd,zd,Value.oneCell',tb_T,TypeDesc.aggB,getD_0,getD_s,Ze,Zd,Zc,Za,Zb,Zr,ZE,ZF,Zf,Zq,Zg,i64_w,Zt,Zs,Zl,Zo,Zv,Zw,Zj,Zk,Zx,Zy,qLoad,bload,pload,pureAll,D.pure?,ZC,ZD,pvAll,D.pv?,Bool.not_true,Bool.not_false,qLen,qBin,iop,t1,ti1,t3,ti3,t4,ti4,t5,ti5,t22,ti22,t24,ti24,t26,ti26,t50,ti50,t58,ti58,t60,ti60] <;> exact rfl) ?_)
    all_goals refine aops_nil ?_
    all_goals refine ⟨rfl, ?_, leB_self _, leV_self _, rfl, rfl⟩
    all_goals repeat' (first | exact leL_nil | refine leL_a ?_ | refine leL_r rfl ?_ | refine leL_r ?_ ?_)
    all_goals refine jn ?_
    all_goals (cases hfw : fewB ⟨s, f, lv⟩ <;> simp_all <;> omega)
  refine exq_n ?_
  refine aw_cond _ rfl (fun hc0 => ?_) (fun hc0 => ?_)
  · try simp only [Zp,Zi,ZK,ZJ,ne_eq,Zn,Zm,ZB,ZA,ZI,not_or,not_and,Zu] at hc0
    refine aw_seq ?_
    refine aw_regK hX hb [0, 1] rfl (σ' := ?s3) (fun K hK => ?h3) ?n3
    case h3 =>
      refine st_call rfl (by simp only [callOf,St.ev,getD_0,getD_s,pvAll,D.pv?,ZG,ZH,zd,cd,Value.oneCell',Zr] <;> exact rfl) (acK hP (c20)) (by simp only [St.put,Za,Zb] <;> exact rfl) ?_
      (refine st_op rfl (by simp (disch := omega) only [stepf,callOf,qop,fop,St.ev,St.put,cd,zd,Value.oneCell',tb_T,TypeDesc.aggB,getD_0,getD_s,Ze,Zd,Zc,Za,Zb,Zr,ZE,ZF,Zf,Zq,Zg,i64_w,Zt,Zs,pvAll,D.pv?] <;> exact rfl) ?_)
      refine aops_nil ?_
      exact hK
    refine exq_n ?_
    refine aw_ret ?_
    refine exq_r ?_
    exact ret_r rfl (resOf_one rfl rfl)
  · try simp only [Zp,Zi,ZK,ZJ,ne_eq,Zn,Zm,ZB,ZA,ZI,not_or,not_and,Zu] at hc0
    refine aw_skip ?_
    refine exq_n ?_
    refine aw_seq ?_
    refine aw_regK hX hb [0, 1, 2, 3, 4, 5, 6, 7, 8, 9] rfl (σ' := ?s4) (fun K hK => ?h4) ?n4
    case h4 =>
      iterate 3 (refine st_op rfl (by simp (disch := omega) only [stepf,callOf,qop,fop,St.ev,St.put,cd,zd,Value.oneCell',tb_T,TypeDesc.aggB,getD_0,getD_s,Ze,Zd,Zc,Za,Zb,Zr,ZE,ZF,Zf,Zq,Zg,i64_w,Zt,Zs,Zl,Zo,Zv,Zw,Zj,Zk,Zx,Zy,qLoad,bload,pload,pureAll,D.pure?,ZC,ZD,pvAll,D.pv?,qTup,PV.d,ZM,ZL,ZG,ZH,St.addBox,Value.cells,fStore,D.boxCells,D.live,D.cells?,ZN,St.setVec,t1,ti1,t3,ti3,t5,ti5,t22,ti22,t24,ti24,t26,ti26,t35,ti35,t50,ti50,t58,ti58,t60,ti60] <;> exact rfl) ?_)
      refine st_call rfl (by simp only [callOf,St.ev,getD_0,getD_s,pvAll,D.pv?,ZG,ZH,zd,cd,Value.oneCell',Zr] <;> exact rfl) (acK hP (c25 ⟨s, f, lv⟩ l es ec)) (by simp only [St.put,Za,Zb] <;> exact rfl) ?_
      iterate 6 (refine st_op rfl (by simp (disch := omega) only [stepf,callOf,qop,fop,St.ev,St.put,cd,zd,Value.oneCell',tb_T,TypeDesc.aggB,getD_0,getD_s,Ze,Zd,Zc,Za,Zb,Zr,ZE,ZF,Zf,Zq,Zg,i64_w,Zt,Zs,Zl,Zo,Zv,Zw,Zj,Zk,Zx,Zy,qLoad,bload,pload,pureAll,D.pure?,ZC,ZD,pvAll,D.pv?,qTup,PV.d,ZM,ZL,ZG,ZH,St.addBox,Value.cells,fStore,D.boxCells,D.live,D.cells?,ZN,St.setVec,t1,ti1,t3,ti3,t5,ti5,t22,ti22,t24,ti24,t26,ti26,t35,ti35,t50,ti50,t58,ti58,t60,ti60] <;> exact rfl) ?_)
      refine aops_nil ?_
      exact hK
    refine exq_n ?_
    refine aw_seq ?_
    refine aw_regK hX hb [0, 1, 2, 3, 4, 5, 6, 7, 8, 9] rfl (σ' := ?s5) (fun K hK => ?h5) ?n5
    case h5 =>
      iterate 3 (refine st_op rfl (by simp (disch := omega) only [stepf,callOf,qop,fop,St.ev,St.put,cd,zd,Value.oneCell',tb_T,TypeDesc.aggB,getD_0,getD_s,Ze,Zd,Zc,Za,Zb,Zr,ZE,ZF,Zf,Zq,Zg,i64_w,Zt,Zs,Zl,Zo,Zv,Zw,Zj,Zk,Zx,Zy,qLoad,bload,pload,pureAll,D.pure?,ZC,ZD,pvAll,D.pv?,qTup,PV.d,ZM,ZL,ZG,ZH,St.addBox,Value.cells,fStore,D.boxCells,D.live,D.cells?,ZN,St.setVec,t1,ti1,t3,ti3,t5,ti5,t22,ti22,t24,ti24,t26,ti26,t27,ti27,t35,ti35,t50,ti50,t58,ti58,t60,ti60] <;> exact rfl) ?_)
      refine st_call rfl (by simp only [callOf,St.ev,getD_0,getD_s,pvAll,D.pv?,ZG,ZH,zd,cd,Value.oneCell',Zr] <;> exact rfl) (acK hP (c26 ⟨s, f, lv⟩ l es ec)) (by simp only [St.put,Za,Zb] <;> exact rfl) ?_
      iterate 6 (refine st_op rfl (by simp (disch := omega) only [stepf,callOf,qop,fop,St.ev,St.put,cd,zd,Value.oneCell',tb_T,TypeDesc.aggB,getD_0,getD_s,Ze,Zd,Zc,Za,Zb,Zr,ZE,ZF,Zf,Zq,Zg,i64_w,Zt,Zs,Zl,Zo,Zv,Zw,Zj,Zk,Zx,Zy,qLoad,bload,pload,pureAll,D.pure?,ZC,ZD,pvAll,D.pv?,qTup,PV.d,ZM,ZL,ZG,ZH,St.addBox,Value.cells,fStore,D.boxCells,D.live,D.cells?,ZN,St.setVec,t1,ti1,t3,ti3,t5,ti5,t22,ti22,t24,ti24,t26,ti26,t27,ti27,t35,ti35,t50,ti50,t58,ti58,t60,ti60] <;> exact rfl) ?_)
      refine aops_nil ?_
      exact hK
    refine exq_n ?_
    refine aw_seq ?_
    refine aw_regK hX hb [0, 1, 2, 3, 4, 5, 6, 7, 8, 9, 10, 11] rfl (σ' := ?s6) (fun K hK => ?h6) ?n6
    case h6 =>
      iterate 2 (refine st_op rfl (by simp (disch := omega) only [stepf,callOf,qop,fop,St.ev,St.put,cd,zd,Value.oneCell',tb_T,TypeDesc.aggB,getD_0,getD_s,Ze,Zd,Zc,Za,Zb,Zr,ZE,ZF,Zf,Zq,Zg,i64_w,Zt,Zs,Zl,Zo,Zv,Zw,Zj,Zk,Zx,Zy,qLoad,bload,pload,pureAll,D.pure?,ZC,ZD,pvAll,D.pv?,qBin,iop,t3,ti3,t24,ti24,t26,ti26,t35,ti35,t40,ti40,t58,ti58,t60,ti60,beq_self_eq_true,decide_true,eq_self] <;> exact rfl) ?_)
      refine st_call rfl (by simp only [callOf,St.ev,getD_0,getD_s,pvAll,D.pv?,ZG,ZH,zd,cd,Value.oneCell',Zr] <;> exact rfl) (acK hP (k23t (refUpd ⟨s, f, lv⟩ l es ec).1)) (by simp only [St.put,Za,Zb] <;> exact rfl) ?_
      (refine st_op rfl (by simp (disch := omega) only [stepf,callOf,qop,fop,St.ev,St.put,cd,zd,Value.oneCell',tb_T,TypeDesc.aggB,getD_0,getD_s,Ze,Zd,Zc,Za,Zb,Zr,ZE,ZF,Zf,Zq,Zg,i64_w,Zt,Zs,Zl,Zo,Zv,Zw,Zj,Zk,Zx,Zy,qLoad,bload,pload,pureAll,D.pure?,ZC,ZD,pvAll,D.pv?,qBin,iop,t3,ti3,t24,ti24,t26,ti26,t35,ti35,t40,ti40,t58,ti58,t60,ti60,beq_self_eq_true,decide_true,eq_self] <;> exact rfl) ?_)
      iterate 3 (all_goals first | (refine st_g1 rfl rfl rfl (by simp (disch := omega) only [stepf,callOf,qop,fop,St.ev,St.put,cd,zd,Value.oneCell',tb_T,TypeDesc.aggB,getD_0,getD_s,Ze,Zd,Zc,Za,Zb,Zr,ZE,ZF,Zf,Zq,Zg,i64_w,Zt,Zs,Zl,Zo,Zv,Zw,Zj,Zk,Zx,Zy,qLoad,bload,pload,pureAll,D.pure?,ZC,ZD,pvAll,D.pv?,qBin,iop,t3,ti3,t24,ti24,t26,ti26,t35,ti35,t40,ti40,t58,ti58,t60,ti60,beq_self_eq_true,decide_true,eq_self] <;> exact rfl) ?_) | (first | (refine st_g0 rfl rfl rfl (by simp only [St.put,Za,Zb] <;> exact rfl) ?_) | (refine st_gu rfl rfl rfl (by simp only [St.put,Za,Zb] <;> exact rfl) ?_)) | (refine st_split rfl rfl rfl (by simp only [Za,Zb] <;> exact rfl) (by simp only [Za,Zb] <;> exact rfl) (fun hg => ?_) (fun hg => ?_) <;> (try simp only [Zp,Zi,ZJ,ZK,ne_eq,Zn,Zm,Bool.not_eq_true,Zu] at hg) <;> first | (refine st_g1 rfl rfl rfl (by simp (disch := omega) only [stepf,callOf,qop,fop,St.ev,St.put,cd,zd,Value.oneCell',tb_T,TypeDesc.aggB,getD_0,getD_s,Ze,Zd,Zc,Za,Zb,Zr,ZE,ZF,Zf,Zq,Zg,i64_w,Zt,Zs,Zl,Zo,Zv,Zw,Zj,Zk,Zx,Zy,qLoad,bload,pload,pureAll,D.pure?,ZC,ZD,pvAll,D.pv?,qBin,iop,t3,ti3,t24,ti24,t26,ti26,t35,ti35,t40,ti40,t58,ti58,t60,ti60,beq_self_eq_true,decide_true,eq_self] <;> exact rfl) ?_) | (first | (refine st_g0 rfl rfl rfl (by simp only [St.put,Za,Zb] <;> exact rfl) ?_) | (refine st_gu rfl rfl rfl (by simp only [St.put,Za,Zb] <;> exact rfl) ?_))))
      iterate 2 (refine st_op rfl (by simp (disch := omega) only [stepf,callOf,qop,fop,St.ev,St.put,cd,zd,Value.oneCell',tb_T,TypeDesc.aggB,getD_0,getD_s,Ze,Zd,Zc,Za,Zb,Zr,ZE,ZF,Zf,Zq,Zg,i64_w,Zt,Zs,Zl,Zo,Zv,Zw,Zj,Zk,Zx,Zy,qLoad,bload,pload,pureAll,D.pure?,ZC,ZD,pvAll,D.pv?,qBin,iop,t3,ti3,t24,ti24,t26,ti26,t35,ti35,t40,ti40,t58,ti58,t60,ti60,beq_self_eq_true,decide_true,eq_self] <;> exact rfl) ?_)
      all_goals first | (refine st_gc rfl rfl rfl (by simp only [callOf,St.ev,getD_0,getD_s,pvAll,D.pv?,ZG,ZH,zd,cd,Value.oneCell',Zr] <;> exact rfl) (acK hP (c20)) (by simp only [St.put,Za,Zb] <;> exact rfl) ?_) | (first | (refine st_g0 rfl rfl rfl (by simp only [St.put,Za,Zb] <;> exact rfl) ?_) | (refine st_gu rfl rfl rfl (by simp only [St.put,Za,Zb] <;> exact rfl) ?_)) | (refine st_split rfl rfl rfl (by simp only [Za,Zb] <;> exact rfl) (by simp only [Za,Zb] <;> exact rfl) (fun hg => ?_) (fun hg => ?_) <;> (try simp only [Zp,Zi,ZJ,ZK,ne_eq,Zn,Zm,Bool.not_eq_true,Zu] at hg) <;> first | (refine st_gc rfl rfl rfl (by simp only [callOf,St.ev,getD_0,getD_s,pvAll,D.pv?,ZG,ZH,zd,cd,Value.oneCell',Zr] <;> exact rfl) (acK hP (c20)) (by simp only [St.put,Za,Zb] <;> exact rfl) ?_) | (first | (refine st_g0 rfl rfl rfl (by simp only [St.put,Za,Zb] <;> exact rfl) ?_) | (refine st_gu rfl rfl rfl (by simp only [St.put,Za,Zb] <;> exact rfl) ?_)))
      iterate 2 (refine st_op rfl (by simp (disch := omega) only [stepf,callOf,qop,fop,St.ev,St.put,cd,zd,Value.oneCell',tb_T,TypeDesc.aggB,getD_0,getD_s,Ze,Zd,Zc,Za,Zb,Zr,ZE,ZF,Zf,Zq,Zg,i64_w,Zt,Zs,Zl,Zo,Zv,Zw,Zj,Zk,Zx,Zy,qLoad,bload,pload,pureAll,D.pure?,ZC,ZD,pvAll,D.pv?,qBin,iop,t3,ti3,t24,ti24,t26,ti26,t35,ti35,t40,ti40,t58,ti58,t60,ti60,beq_self_eq_true,decide_true,eq_self] <;> exact rfl) ?_)
      refine aops_nil ?_
      exact hK
    refine exq_n ?_
    refine aw_ret ?_
    exact ret_r rfl (resOf_one rfl rfl)

theorem c5 (a b : Tr) : ACalls Try.prog 5 [trP a, trP b] (.p (bv true)) := by
  obtain ⟨sa, fa, la⟩ := a
  obtain ⟨sb, fb, lb⟩ := b
  refine acalls_of tb_ok Try.func5 (c := _) rfl (by kernel_rfl) ?_
  intro X hP hX hro hpl
  have hb : tb.Ok X.P := hP ▸ tb_ok
  change AW X _ _ ⟨[], [.agg [i64 sa, i64 fa, lvls la], .agg [i64 sb, i64 fb, lvls lb], .any, .any, .any, .any, .any, .any, .any, .any, .any, .any, .any, .any, .any, .any, .any, .any, .any, .any, .any, .any, .any, .any, .any, .any, .any, .any, .any, .any, .any, .any, .any, .any, .any, .any, .any, .any, .any, .any, .any], [], []⟩
  refine aw_seq ?_
  refine aw_regK hX hb [0, 1, 2] rfl (σ' := ?s1) (fun K hK => ?h1) ?n1
  case h1 =>
    iterate 3 (refine st_op rfl (by simp (disch := omega) only [stepf,callOf,qop,fop,St.ev,St.put,cd,zd,Value.oneCell',tb_T,TypeDesc.aggB,getD_0,getD_s,Ze,Zd,Zc,Za,Zb,Zr,ZE,ZF,Zf,Zq,Zg,i64_w,Zt,Zs,ZM,ZL,Zl,Zo,ZG,ZH,St.addBox,D.boxCells,D.live,t1,ti1,t3,ti3,t24,ti24,t26,ti26,t58,ti58,t60,ti60] <;> exact rfl) ?_)
    refine aops_nil ?_
    exact hK
  refine exq_n ?_
  refine aw_seq ?_
  refine aw_seq ?_
  refine aw_regJ hX hb [0, 1, 2, 3, 4, 5, 6, 7] rfl (ts := [9, 10, 11, 12, 13, 14, 15]) (t := 16) (d := .p (bv (fewB ⟨sa, fa, la⟩ = false ∨ fewB ⟨sb, fb, lb⟩ = false))) (σ' := ?s2) ?j2 ?h2 ?n2
  case j2 => simp only [St.join,List.foldl,Za,Zb]; exact rfl
  case h2 =>
    (all_goals refine st_op rfl (by simp (disch := omega) only [stepf,callOf,qop,fop,St.ev,St.put,cd,zd,Value.oneCell',tb_T,TypeDesc.aggB,getD_0,getD_s,Ze,Zd,Zc,Za,Zb,Zr,ZE,ZF,Zf,Zq,Zg,i64_w,Zt,Zs,Zl,Zo,Zv,Zw,Zj,Zk,Zx,Zy,qLoad,bload,pload,pureAll,D.pure?,ZC,ZD,pvAll,D.pv?,Bool.not_true,Bool.not_false,t2,ti2,t3,ti3,t4,ti4,t24,ti24,t26,ti26,t58,ti58,t60,ti60] <;> exact rfl) ?_)
    refine st_call rfl (by simp only [callOf,St.ev,getD_0,getD_s,pvAll,D.pv?,ZG,ZH,zd,cd,Value.oneCell',Zr] <;> exact rfl) (acK hP (c24b ⟨sa, fa, la⟩)) (by simp only [St.put,Za,Zb] <;> exact rfl) ?_
    iterate 2 (all_goals refine st_op rfl (by simp (disch := omega) only [stepf,callOf,qop,fop,St.ev,St.put,cd,zd,Value.oneCell',tb_T,TypeDesc.aggB,getD_0,getD_s,Ze,Zd,Zc,Za,Zb,Zr,ZE,ZF,Zf,Zq,Zg,i64_w,Zt,Zs,Zl,Zo,Zv,Zw,Zj,Zk,Zx,Zy,qLoad,bload,pload,pureAll,D.pure?,ZC,ZD,pvAll,D.pv?,Bool.not_true,Bool.not_false,t2,ti2,t3,ti3,t4,ti4,t24,ti24,t26,ti26,t58,ti58,t60,ti60] <;> exact rfl) ?_)
    (all_goals first | (refine st_g1 rfl rfl rfl (by simp (disch := omega) only [stepf,callOf,qop,fop,St.ev,St.put,cd,zd,Value.oneCell',tb_T,TypeDesc.aggB,getD_0,getD_s,Ze,Zd,Zc,Za,Zb,Zr,ZE,ZF,Zf,Zq,Zg,i64_w,Zt,Zs,Zl,Zo,Zv,Zw,Zj,Zk,Zx,Zy,qLoad,bload,pload,pureAll,D.pure?,ZC,ZD,pvAll,D.pv?,Bool.not_true,Bool.not_false,t2,ti2,t3,ti3,t4,ti4,t24,ti24,t26,ti26,t58,ti58,t60,ti60] <;> exact rfl) ?_) | (first | (refine st_g0 rfl rfl rfl (by simp only [St.put,Za,Zb] <;> exact rfl) ?_) | (refine st_gu rfl rfl rfl (by simp only [St.put,Za,Zb] <;> exact rfl) ?_)) | (refine st_split rfl rfl rfl (by simp only [Za,Zb] <;> exact rfl) (by simp only [Za,Zb] <;> exact rfl) (fun hg => ?_) (fun hg => ?_) <;> (try simp only [Zp,Zi,ZJ,ZK,ne_eq,Zn,Zm,Bool.not_eq_true,Zu] at hg) <;> first | (refine st_g1 rfl rfl rfl (by simp (disch := omega) only [stepf,callOf,qop,fop,St.ev,St.put,cd,zd,Value.oneCell',tb_T,TypeDesc.aggB,getD_0,getD_s,Ze,Zd,Zc,Za,Zb,Zr,ZE,ZF,Zf,Zq,Zg,i64_w,Zt,Zs,Zl,Zo,Zv,Zw,Zj,Zk,Zx,Zy,qLoad,bload,pload,pureAll,D.pure?,ZC,ZD,pvAll,D.pv?,Bool.not_true,Bool.not_false,t2,ti2,t3,ti3,t4,ti4,t24,ti24,t26,ti26,t58,ti58,t60,ti60] <;> exact rfl) ?_) | (first | (refine st_g0 rfl rfl rfl (by simp only [St.put,Za,Zb] <;> exact rfl) ?_) | (refine st_gu rfl rfl rfl (by simp only [St.put,Za,Zb] <;> exact rfl) ?_))))
    all_goals first | (refine st_gc rfl rfl rfl (by simp only [callOf,St.ev,getD_0,getD_s,pvAll,D.pv?,ZG,ZH,zd,cd,Value.oneCell',Zr] <;> exact rfl) (acK hP (c24b ⟨sb, fb, lb⟩)) (by simp only [St.put,Za,Zb] <;> exact rfl) ?_) | (first | (refine st_g0 rfl rfl rfl (by simp only [St.put,Za,Zb] <;> exact rfl) ?_) | (refine st_gu rfl rfl rfl (by simp only [St.put,Za,Zb] <;> exact rfl) ?_)) | (refine st_split rfl rfl rfl (by simp only [Za,Zb] <;> exact rfl) (by simp only [Za,Zb] <;> exact rfl) (fun hg => ?_) (fun hg => ?_) <;> (try simp only [Zp,Zi,ZJ,ZK,ne_eq,Zn,Zm,Bool.not_eq_true,Zu] at hg) <;> first | (refine st_gc rfl rfl rfl (by simp only [callOf,St.ev,getD_0,getD_s,pvAll,D.pv?,ZG,ZH,zd,cd,Value.oneCell',Zr] <;> exact rfl) (acK hP (c24b ⟨sb, fb, lb⟩)) (by simp only [St.put,Za,Zb] <;> exact rfl) ?_) | (first | (refine st_g0 rfl rfl rfl (by simp only [St.put,Za,Zb] <;> exact rfl) ?_) | (refine st_gu rfl rfl rfl (by simp only [St.put,Za,Zb] <;> exact rfl) ?_)))
    (all_goals first | (refine st_g1 rfl rfl rfl (by simp (disch := omega) only [stepf,callOf,qop,fop,St.ev,St.put,cd,zd,Value.oneCell',tb_T,TypeDesc.aggB,getD_0,getD_s,Ze,Zd,Zc,Za,Zb,Zr,ZE,ZF,Zf,Zq,Zg,i64_w,Zt,Zs,Zl,Zo,Zv,Zw,Zj,Zk,Zx,Zy,qLoad,bload,pload,pureAll,D.pure?,ZC,ZD,pvAll,D.pv?,Bool.not_true,Bool.not_false,t2,ti2,t3,ti3,t4,ti4,t24,ti24,t26,ti26,t58,ti58,t60,ti60] <;> exact rfl) ?_) | (first | (refine st_g0 rfl rfl rfl (by simp only [St.put,Za,Zb] <;> exact rfl) ?_) | (refine st_gu rfl rfl rfl (by simp only [St.put,Za,Zb] <;> exact rfl) ?_)) | (refine st_split rfl rfl rfl (by simp only [Za,Zb] <;> exact rfl) (by simp only [Za,Zb] <;> exact rfl) (fun hg => ?_) (fun hg => ?_) <;> (try simp only [Zp,Zi,ZJ,ZK,ne_eq,Zn,Zm,Bool.not_eq_true,Zu] at hg) <;> first | (refine st_g1 rfl rfl rfl (by simp (disch := omega) only [stepf,callOf,qop,fop,St.ev,St.put,cd,zd,Value.oneCell',tb_T,TypeDesc.aggB,getD_0,getD_s,Ze,Zd,Zc,Za,Zb,Zr,ZE,ZF,Zf,Zq,Zg,i64_w,Zt,Zs,Zl,Zo,Zv,Zw,Zj,Zk,Zx,Zy,qLoad,bload,pload,pureAll,D.pure?,ZC,ZD,pvAll,D.pv?,Bool.not_true,Bool.not_false,t2,ti2,t3,ti3,t4,ti4,t24,ti24,t26,ti26,t58,ti58,t60,ti60] <;> exact rfl) ?_) | (first | (refine st_g0 rfl rfl rfl (by simp only [St.put,Za,Zb] <;> exact rfl) ?_) | (refine st_gu rfl rfl rfl (by simp only [St.put,Za,Zb] <;> exact rfl) ?_))))
    (all_goals refine st_op rfl (by simp (disch := omega) only [stepf,callOf,qop,fop,St.ev,St.put,cd,zd,Value.oneCell',tb_T,TypeDesc.aggB,getD_0,getD_s,Ze,Zd,Zc,Za,Zb,Zr,ZE,ZF,Zf,Zq,Zg,i64_w,Zt,Zs,Zl,Zo,Zv,Zw,Zj,Zk,Zx,Zy,qLoad,bload,pload,pureAll,D.pure?,ZC,ZD,pvAll,D.pv?,Bool.not_true,Bool.not_false,t2,ti2,t3,ti3,t4,ti4,t24,ti24,t26,ti26,t58,ti58,t60,ti60] <;> exact rfl) ?_)
    all_goals refine aops_nil ?_
    all_goals refine ⟨rfl, ?_, leB_self _, leV_self _, rfl, rfl⟩
    all_goals repeat' (first | exact leL_nil | refine leL_a ?_ | refine leL_r rfl ?_ | refine leL_r ?_ ?_)
    all_goals refine jn ?_
    all_goals (cases hfw : fewB ⟨sa, fa, la⟩ <;> cases hfx : fewB ⟨sb, fb, lb⟩ <;> simp_all)
  refine exq_n ?_
  refine aw_cond _ rfl (fun hc0 => ?_) (fun hc0 => ?_)
  · try simp only [Zp,Zi,ZK,ZJ,ne_eq,Zn,Zm,ZB,ZA,ZI,not_or,not_and,Zu] at hc0
    refine aw_seq ?_
    refine aw_regK hX hb [0, 1] rfl (σ' := ?s3) (fun K hK => ?h3) ?n3
    case h3 =>
      refine st_call rfl (by simp only [callOf,St.ev,getD_0,getD_s,pvAll,D.pv?,ZG,ZH,zd,cd,Value.oneCell',Zr] <;> exact rfl) (acK hP (c20)) (by simp only [St.put,Za,Zb] <;> exact rfl) ?_
      (refine st_op rfl (by simp (disch := omega) only [stepf,callOf,qop,fop,St.ev,St.put,cd,zd,Value.oneCell',tb_T,TypeDesc.aggB,getD_0,getD_s,Ze,Zd,Zc,Za,Zb,Zr,ZE,ZF,Zf,Zq,Zg,i64_w,Zt,Zs,pvAll,D.pv?] <;> exact rfl) ?_)
      refine aops_nil ?_
      exact hK
    refine exq_n ?_
    refine aw_ret ?_
    refine exq_r ?_
    exact ret_r rfl (resOf_one rfl rfl)
  · try simp only [Zp,Zi,ZK,ZJ,ne_eq,Zn,Zm,ZB,ZA,ZI,not_or,not_and,Zu] at hc0
    refine aw_skip ?_
    refine exq_n ?_
    refine aw_seq ?_
    refine aw_regK hX hb [0, 1, 2, 3, 4, 5, 6, 7] rfl (σ' := ?s4) (fun K hK => ?h4) ?n4
    case h4 =>
      iterate 2 (refine st_op rfl (by simp (disch := omega) only [stepf,callOf,qop,fop,St.ev,St.put,cd,zd,Value.oneCell',tb_T,TypeDesc.aggB,getD_0,getD_s,Ze,Zd,Zc,Za,Zb,Zr,ZE,ZF,Zf,Zq,Zg,i64_w,Zt,Zs,Zl,Zo,Zv,Zw,Zj,Zk,Zx,Zy,qLoad,bload,pload,pureAll,D.pure?,ZC,ZD,pvAll,D.pv?,qTup,PV.d,t1,ti1,t2,ti2,t3,ti3,t5,ti5,t22,ti22,t24,ti24,t26,ti26,t27,ti27,t50,ti50,t58,ti58,t60,ti60] <;> exact rfl) ?_)
      refine st_call rfl (by simp only [callOf,St.ev,getD_0,getD_s,pvAll,D.pv?,ZG,ZH,zd,cd,Value.oneCell',Zr] <;> exact rfl) (acK hP (c27 ⟨sa, fa, la⟩ ⟨sb, fb, lb⟩)) (by simp only [St.put,Za,Zb] <;> exact rfl) ?_
      iterate 5 (refine st_op rfl (by simp (disch := omega) only [stepf,callOf,qop,fop,St.ev,St.put,cd,zd,Value.oneCell',tb_T,TypeDesc.aggB,getD_0,getD_s,Ze,Zd,Zc,Za,Zb,Zr,ZE,ZF,Zf,Zq,Zg,i64_w,Zt,Zs,Zl,Zo,Zv,Zw,Zj,Zk,Zx,Zy,qLoad,bload,pload,pureAll,D.pure?,ZC,ZD,pvAll,D.pv?,qTup,PV.d,t1,ti1,t2,ti2,t3,ti3,t5,ti5,t22,ti22,t24,ti24,t26,ti26,t27,ti27,t50,ti50,t58,ti58,t60,ti60] <;> exact rfl) ?_)
      refine aops_nil ?_
      exact hK
    refine exq_n ?_
    refine aw_seq ?_
    refine aw_regK hX hb [0, 1, 2, 3, 4, 5, 6, 7] rfl (σ' := ?s5) (fun K hK => ?h5) ?n5
    case h5 =>
      iterate 2 (refine st_op rfl (by simp (disch := omega) only [stepf,callOf,qop,fop,St.ev,St.put,cd,zd,Value.oneCell',tb_T,TypeDesc.aggB,getD_0,getD_s,Ze,Zd,Zc,Za,Zb,Zr,ZE,ZF,Zf,Zq,Zg,i64_w,Zt,Zs,Zl,Zo,Zv,Zw,Zj,Zk,Zx,Zy,qLoad,bload,pload,pureAll,D.pure?,ZC,ZD,pvAll,D.pv?,qTup,PV.d,t1,ti1,t2,ti2,t3,ti3,t24,ti24,t26,ti26,t27,ti27,t58,ti58,t60,ti60] <;> exact rfl) ?_)
      refine st_call rfl (by simp only [callOf,St.ev,getD_0,getD_s,pvAll,D.pv?,ZG,ZH,zd,cd,Value.oneCell',Zr] <;> exact rfl) (acK hP (c28 ⟨sa, fa, la⟩ ⟨sb, fb, lb⟩)) (by simp only [St.put,Za,Zb] <;> exact rfl) ?_
      iterate 5 (refine st_op rfl (by simp (disch := omega) only [stepf,callOf,qop,fop,St.ev,St.put,cd,zd,Value.oneCell',tb_T,TypeDesc.aggB,getD_0,getD_s,Ze,Zd,Zc,Za,Zb,Zr,ZE,ZF,Zf,Zq,Zg,i64_w,Zt,Zs,Zl,Zo,Zv,Zw,Zj,Zk,Zx,Zy,qLoad,bload,pload,pureAll,D.pure?,ZC,ZD,pvAll,D.pv?,qTup,PV.d,t1,ti1,t2,ti2,t3,ti3,t24,ti24,t26,ti26,t27,ti27,t58,ti58,t60,ti60] <;> exact rfl) ?_)
      refine aops_nil ?_
      exact hK
    refine exq_n ?_
    refine aw_seq ?_
    refine aw_regK hX hb [0, 1, 2, 3, 4, 5, 6, 7, 8, 9, 10, 11] rfl (σ' := ?s6) (fun K hK => ?h6) ?n6
    case h6 =>
      iterate 2 (refine st_op rfl (by simp (disch := omega) only [stepf,callOf,qop,fop,St.ev,St.put,cd,zd,Value.oneCell',tb_T,TypeDesc.aggB,getD_0,getD_s,Ze,Zd,Zc,Za,Zb,Zr,ZE,ZF,Zf,Zq,Zg,i64_w,Zt,Zs,pvAll,D.pv?,qBin,iop,t3,ti3,t5,ti5,t35,ti35,t40,ti40,beq_self_eq_true,decide_true,eq_self] <;> exact rfl) ?_)
      refine st_call rfl (by simp only [callOf,St.ev,getD_0,getD_s,pvAll,D.pv?,ZG,ZH,zd,cd,Value.oneCell',Zr] <;> exact rfl) (acK hP (k29t (refDiff ⟨sa, fa, la⟩ ⟨sb, fb, lb⟩).1)) (by simp only [St.put,Za,Zb] <;> exact rfl) ?_
      (refine st_op rfl (by simp (disch := omega) only [stepf,callOf,qop,fop,St.ev,St.put,cd,zd,Value.oneCell',tb_T,TypeDesc.aggB,getD_0,getD_s,Ze,Zd,Zc,Za,Zb,Zr,ZE,ZF,Zf,Zq,Zg,i64_w,Zt,Zs,pvAll,D.pv?,qBin,iop,t3,ti3,t5,ti5,t35,ti35,t40,ti40,beq_self_eq_true,decide_true,eq_self] <;> exact rfl) ?_)
      iterate 3 (all_goals first | (refine st_g1 rfl rfl rfl (by simp (disch := omega) only [stepf,callOf,qop,fop,St.ev,St.put,cd,zd,Value.oneCell',tb_T,TypeDesc.aggB,getD_0,getD_s,Ze,Zd,Zc,Za,Zb,Zr,ZE,ZF,Zf,Zq,Zg,i64_w,Zt,Zs,pvAll,D.pv?,qBin,iop,t3,ti3,t5,ti5,t35,ti35,t40,ti40,beq_self_eq_true,decide_true,eq_self] <;> exact rfl) ?_) | (first | (refine st_g0 rfl rfl rfl (by simp only [St.put,Za,Zb] <;> exact rfl) ?_) | (refine st_gu rfl rfl rfl (by simp only [St.put,Za,Zb] <;> exact rfl) ?_)) | (refine st_split rfl rfl rfl (by simp only [Za,Zb] <;> exact rfl) (by simp only [Za,Zb] <;> exact rfl) (fun hg => ?_) (fun hg => ?_) <;> (try simp only [Zp,Zi,ZJ,ZK,ne_eq,Zn,Zm,Bool.not_eq_true,Zu] at hg) <;> first | (refine st_g1 rfl rfl rfl (by simp (disch := omega) only [stepf,callOf,qop,fop,St.ev,St.put,cd,zd,Value.oneCell',tb_T,TypeDesc.aggB,getD_0,getD_s,Ze,Zd,Zc,Za,Zb,Zr,ZE,ZF,Zf,Zq,Zg,i64_w,Zt,Zs,pvAll,D.pv?,qBin,iop,t3,ti3,t5,ti5,t35,ti35,t40,ti40,beq_self_eq_true,decide_true,eq_self] <;> exact rfl) ?_) | (first | (refine st_g0 rfl rfl rfl (by simp only [St.put,Za,Zb] <;> exact rfl) ?_) | (refine st_gu rfl rfl rfl (by simp only [St.put,Za,Zb] <;> exact rfl) ?_))))
      iterate 2 (refine st_op rfl (by simp (disch := omega) only [stepf,callOf,qop,fop,St.ev,St.put,cd,zd,Value.oneCell',tb_T,TypeDesc.aggB,getD_0,getD_s,Ze,Zd,Zc,Za,Zb,Zr,ZE,ZF,Zf,Zq,Zg,i64_w,Zt,Zs,pvAll,D.pv?,qBin,iop,t3,ti3,t5,ti5,t35,ti35,t40,ti40,beq_self_eq_true,decide_true,eq_self] <;> exact rfl) ?_)
      all_goals first | (refine st_gc rfl rfl rfl (by simp only [callOf,St.ev,getD_0,getD_s,pvAll,D.pv?,ZG,ZH,zd,cd,Value.oneCell',Zr] <;> exact rfl) (acK hP (c20)) (by simp only [St.put,Za,Zb] <;> exact rfl) ?_) | (first | (refine st_g0 rfl rfl rfl (by simp only [St.put,Za,Zb] <;> exact rfl) ?_) | (refine st_gu rfl rfl rfl (by simp only [St.put,Za,Zb] <;> exact rfl) ?_)) | (refine st_split rfl rfl rfl (by simp only [Za,Zb] <;> exact rfl) (by simp only [Za,Zb] <;> exact rfl) (fun hg => ?_) (fun hg => ?_) <;> (try simp only [Zp,Zi,ZJ,ZK,ne_eq,Zn,Zm,Bool.not_eq_true,Zu] at hg) <;> first | (refine st_gc rfl rfl rfl (by simp only [callOf,St.ev,getD_0,getD_s,pvAll,D.pv?,ZG,ZH,zd,cd,Value.oneCell',Zr] <;> exact rfl) (acK hP (c20)) (by simp only [St.put,Za,Zb] <;> exact rfl) ?_) | (first | (refine st_g0 rfl rfl rfl (by simp only [St.put,Za,Zb] <;> exact rfl) ?_) | (refine st_gu rfl rfl rfl (by simp only [St.put,Za,Zb] <;> exact rfl) ?_)))
      iterate 2 (refine st_op rfl (by simp (disch := omega) only [stepf,callOf,qop,fop,St.ev,St.put,cd,zd,Value.oneCell',tb_T,TypeDesc.aggB,getD_0,getD_s,Ze,Zd,Zc,Za,Zb,Zr,ZE,ZF,Zf,Zq,Zg,i64_w,Zt,Zs,pvAll,D.pv?,qBin,iop,t3,ti3,t5,ti5,t35,ti35,t40,ti40,beq_self_eq_true,decide_true,eq_self] <;> exact rfl) ?_)
      refine aops_nil ?_
      exact hK
    refine exq_n ?_
    refine aw_ret ?_
    exact ret_r rfl (resOf_one rfl rfl)

end Go.Proofs.Ytldcoekbgfaomaa
