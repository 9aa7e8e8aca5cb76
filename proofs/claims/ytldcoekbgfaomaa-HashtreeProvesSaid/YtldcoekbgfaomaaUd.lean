/- The walks of the code that the statement reaches, and the plain laws behind them, part Ud. No conditions. -/
import Derived.Test.YtldcoekbgfaomaaProg
import Derived.Shelf.SlSortCmp.NoneTotal
import Derived.Shelf.SlicesG.Cmp
import Derived.Ground.SlsfProg
import Derived.Ground.SlgcProg
import Derived.Test.YtldcoekbgfaomaaUc
set_option linter.unusedVariables false
set_option linter.unusedSimpArgs false
section
namespace Go.Proofs.Ytldcoekbgfaomaa
open Go.RowKit
set_option maxRecDepth 20000
set_option maxHeartbeats 4000000
attribute [local irreducible] AOps AOpsD AW
theorem limI_0 {s f : Int} (h : limI s f = 0) : 1 ≤ s ∧ s ≤ 4096 ∧ 1 ≤ f ∧ f ≤ 4096 := by
  unfold limI at h
  split at h
  · cases h
  · split at h
    · cases h
    · omega
theorem refChk_lim {t : Tr} (h : ¬ limI t.size t.leaf = 0) : refChk t = limI t.size t.leaf := by
  unfold limI at h ⊢
  unfold refChk
  split
  · rfl
  · rename_i h0
    rw [if_neg h0] at h
    split
    · rfl
    · rename_i h1
      rw [if_neg h1] at h
      exact absurd rfl h
theorem c31 (t : Tr) : ACalls Try.prog 31 [trP t] (.p (i64 (refChk t))) := by
  obtain ⟨s, f, lv⟩ := t
  refine acalls_of tb_ok Try.func31 (c := _) rfl (by kernel_rfl) ?_
  intro X hP hX hro hpl
  have hb : tb.Ok X.P := hP ▸ tb_ok
  change AW X _ _ ⟨[], [.agg [i64 s, i64 f, lvls lv], .any, .any, .any, .any, .any, .any, .any, .any, .any, .any, .any, .any, .any, .any, .any, .any, .any, .any, .any, .any, .any, .any, .any, .any, .any, .any, .any, .any, .any, .any, .any, .any, .any, .any, .any, .any, .any, .any, .any, .any, .any, .any, .any, .any, .any, .any, .any, .any, .any, .any, .any, .any, .any, .any, .any, .any, .any, .any, .any, .any, .any, .any, .any, .any, .any, .any, .any], [], []⟩
  refine aw_seq ?_
  refine aw_regK hX hb [0, 1] rfl (σ' := ?s1) (fun K hK => ?h1) ?n1
  case h1 =>
    iterate 2 (refine st_op rfl (by simp (disch := omega) only [stepf,callOf,qop,fop,St.ev,St.put,cd,zd,Value.oneCell',tb_T,TypeDesc.aggB,getD_0,getD_s,Ze,Zd,Zc,Za,Zb,Zr,ZE,ZF,Zf,Zq,Zg,i64_w,Zt,Zs,ZM,ZL,Zl,Zo,ZG,ZH,St.addBox,D.boxCells,D.live,t3,ti3,t24,ti24,t26,ti26,t58,ti58,t60,ti60,map_at_l,Zh,quo_w,ne_eq,not_true_eq_false,not_false_eq_true,not_two_zero] <;> exact rfl) ?_)
    refine aops_nil ?_
    exact hK
  refine exq_n ?_
  refine aw_seq ?_
  refine aw_seq ?_
  refine aw_regK hX hb [0, 1, 2, 3, 4, 5] rfl (σ' := ?s2) (fun K hK => ?h2) ?n2
  case h2 =>
    iterate 4 (refine st_op rfl (by simp (disch := omega) only [stepf,callOf,qop,fop,St.ev,St.put,cd,zd,Value.oneCell',tb_T,TypeDesc.aggB,getD_0,getD_s,Ze,Zd,Zc,Za,Zb,Zr,ZE,ZF,Zf,Zq,Zg,i64_w,Zt,Zs,qFieldAddr,fieldOf,Zl,Zo,Zv,Zw,Zj,Zk,Zx,Zy,qLoad,bload,pload,pureAll,D.pure?,ZC,ZD,pvAll,D.pv?,t1,ti1,t3,ti3,t24,ti24,t26,ti26,t58,ti58,t60,ti60,map_at_l,Zh,quo_w,ne_eq,not_true_eq_false,not_false_eq_true,not_two_zero] <;> exact rfl) ?_)
    refine st_call rfl (by simp only [callOf,St.ev,getD_0,getD_s,pvAll,D.pv?,ZG,ZH,zd,cd,Value.oneCell',Zr] <;> exact rfl) (acK hP (c64 s f)) (by simp only [St.put,Za,Zb] <;> exact rfl) ?_
    (refine st_op rfl (by simp (disch := omega) only [stepf,callOf,qop,fop,St.ev,St.put,cd,zd,Value.oneCell',tb_T,TypeDesc.aggB,getD_0,getD_s,Ze,Zd,Zc,Za,Zb,Zr,ZE,ZF,Zf,Zq,Zg,i64_w,Zt,Zs,qFieldAddr,fieldOf,Zl,Zo,Zv,Zw,Zj,Zk,Zx,Zy,qLoad,bload,pload,pureAll,D.pure?,ZC,ZD,pvAll,D.pv?,t1,ti1,t3,ti3,t24,ti24,t26,ti26,t58,ti58,t60,ti60,map_at_l,Zh,quo_w,ne_eq,not_true_eq_false,not_false_eq_true,not_two_zero] <;> exact rfl) ?_)
    refine aops_nil ?_
    exact hK
  refine exq_n ?_
  refine aw_seq ?_
  refine aw_regK hX hb [0, 1] rfl (σ' := ?s3) (fun K hK => ?h3) ?n3
  case h3 =>
    iterate 2 (refine st_op rfl (by simp (disch := omega) only [stepf,callOf,qop,fop,St.ev,St.put,cd,zd,Value.oneCell',tb_T,TypeDesc.aggB,getD_0,getD_s,Ze,Zd,Zc,Za,Zb,Zr,ZE,ZF,Zf,Zq,Zg,i64_w,Zt,Zs,qBin,iop,t3,ti3,t27,ti27,map_at_l,Zh,quo_w,ne_eq,not_true_eq_false,not_false_eq_true,not_two_zero] <;> exact rfl) ?_)
    refine aops_nil ?_
    exact hK
  refine exq_n ?_
  refine aw_cond _ rfl (fun hc0 => ?_) (fun hc0 => ?_)
  · try simp only [Zp,Zi,ZK,ZJ,ne_eq,Zn,Zm,ZB,ZA,ZI,not_or,not_and,Zu] at hc0
    refine aw_seq ?_
    refine aw_regK hX hb [0, 1] rfl (σ' := ?s4) (fun K hK => ?h4) ?n4
    case h4 =>
      iterate 2 (refine st_op rfl (by simp (disch := omega) only [stepf,callOf,qop,fop,St.ev,St.put,cd,zd,Value.oneCell',tb_T,TypeDesc.aggB,getD_0,getD_s,Ze,Zd,Zc,Za,Zb,Zr,ZE,ZF,Zf,Zq,Zg,i64_w,Zt,Zs,t3,ti3,map_at_l,Zh,quo_w,ne_eq,not_true_eq_false,not_false_eq_true,not_two_zero] <;> exact rfl) ?_)
      refine aops_nil ?_
      exact hK
    refine exq_n ?_
    refine aw_ret ?_
    refine exq_r ?_
    exact ret_r rfl (resOf_one rfl (by first | rfl | (first | exact congrArg (fun n => D.p (i64 n)) (refChk_lim (t := ⟨s, f, lv⟩) hc0).symm | exact congrArg (fun n => D.p (i64 n)) (refChk_3 (t := ⟨S, F, lv⟩) (by dsimp only; omega) (by dsimp only; omega) (shN_bad hs (show i < lv.length by omega) hc2)).symm | exact congrArg (fun n => D.p (i64 n)) (refChk_3 (t := ⟨S, F, lv⟩) (by dsimp only; omega) (by dsimp only; omega) (by show shT S F lv = false; rw [show i = lv.length by omega] at hs; rw [shN_end hs]; exact decide_eq_false (by omega))).symm | exact congrArg (fun n => D.p (i64 n)) (refChk_22 (t := ⟨S, F, lv⟩) (by dsimp only; omega) (by dsimp only; omega) hsh hc5).symm | exact congrArg (fun n => D.p (i64 n)) (refChk_0 (t := ⟨S, F, lv⟩) (by dsimp only; omega) (by dsimp only; omega) hsh hc5).symm)))
  · try simp only [Zp,Zi,ZK,ZJ,ne_eq,Zn,Zm,ZB,ZA,ZI,not_or,not_and,Zu] at hc0
    have hlim := limI_0 hc0
    obtain ⟨S, hS⟩ : ∃ S : Nat, s = S := ⟨s.toNat, by omega⟩
    subst hS
    obtain ⟨F, hF⟩ : ∃ F : Nat, f = F := ⟨f.toNat, by omega⟩
    subst hF
    have hnl := nLeaves_le (s := S) (n := F) (by omega)
    refine aw_skip ?_
    refine exq_n ?_
    refine aw_seq ?_
    refine aw_regK hX hb [0, 1, 2, 3, 4, 5] rfl (σ' := ?s5) (fun K hK => ?h5) ?n5
    case h5 =>
      iterate 4 (refine st_op rfl (by simp (disch := omega) only [stepf,callOf,qop,fop,St.ev,St.put,cd,zd,Value.oneCell',tb_T,TypeDesc.aggB,getD_0,getD_s,Ze,Zd,Zc,Za,Zb,Zr,ZE,ZF,Zf,Zq,Zg,i64_w,Zt,Zs,qFieldAddr,fieldOf,Zl,Zo,Zv,Zw,Zj,Zk,Zx,Zy,qLoad,bload,pload,pureAll,D.pure?,ZC,ZD,pvAll,D.pv?,t1,ti1,t3,ti3,t24,ti24,t26,ti26,t58,ti58,t60,ti60,map_at_l,Zh,quo_w,ne_eq,not_true_eq_false,not_false_eq_true,not_two_zero] <;> exact rfl) ?_)
      refine st_call rfl (by simp only [callOf,St.ev,getD_0,getD_s,pvAll,D.pv?,ZG,ZH,zd,cd,Value.oneCell',Zr] <;> exact rfl) (acK hP (c76 S F (by omega) (by omega))) (by simp only [St.put,Za,Zb] <;> exact rfl) ?_
      (refine st_op rfl (by simp (disch := omega) only [stepf,callOf,qop,fop,St.ev,St.put,cd,zd,Value.oneCell',tb_T,TypeDesc.aggB,getD_0,getD_s,Ze,Zd,Zc,Za,Zb,Zr,ZE,ZF,Zf,Zq,Zg,i64_w,Zt,Zs,qFieldAddr,fieldOf,Zl,Zo,Zv,Zw,Zj,Zk,Zx,Zy,qLoad,bload,pload,pureAll,D.pure?,ZC,ZD,pvAll,D.pv?,t1,ti1,t3,ti3,t24,ti24,t26,ti26,t58,ti58,t60,ti60,map_at_l,Zh,quo_w,ne_eq,not_true_eq_false,not_false_eq_true,not_two_zero] <;> exact rfl) ?_)
      refine aops_nil ?_
      exact hK
    refine exq_n ?_
    refine aw_seq ?_
    refine aw_seq ?_
    refine aw_regK hX hb [0, 1, 2, 3] rfl (σ' := ?s6) (fun K hK => ?h6) ?n6
    case h6 =>
      iterate 4 (refine st_op rfl (by simp (disch := omega) only [stepf,callOf,qop,fop,St.ev,St.put,cd,zd,Value.oneCell',tb_T,TypeDesc.aggB,getD_0,getD_s,Ze,Zd,Zc,Za,Zb,Zr,ZE,ZF,Zf,Zq,Zg,i64_w,Zt,Zs,qFieldAddr,fieldOf,Zl,Zo,Zv,Zw,Zj,Zk,Zx,Zy,qLoad,bload,pload,pureAll,D.pure?,ZC,ZD,qLen,t1,ti1,t2,ti2,t3,ti3,t5,ti5,t22,ti22,t24,ti24,t26,ti26,t50,ti50,t58,ti58,t60,ti60,map_at_l,Zh,quo_w,ne_eq,not_true_eq_false,not_false_eq_true,not_two_zero] <;> exact rfl) ?_)
      refine aops_nil ?_
      exact hK
    refine exq_n ?_
    refine aw_block ?_
    refine aw_loop (ι := Nat × Nat) (fun p => p.1 ≤ lv.length ∧ p.2 ≤ 4096 ∧ ShN S F lv p.1 p.2) (fun p => ⟨[], [.any, .ptr 0 0, .any, .any, .p (i64 p.2), .any, .any, .any, .any, .any, .any, .any, .any, .any, .any, .any, .any, .any, .any, .any, .any, .any, .p (lvls lv), .p (i64 (lv.length : Int)), .p (i64 p.1), .any, .any, .any, .any, .any, .any, .any, .any, .any, .any, .any, .any, .any, .any, .any, .any, .any, .any, .any, .any, .any, .any, .any, .any, .any, .any, .any, .any, .any, .any, .any, .any, .any, .any, .any, .any, .any, .any, .any, .any, .any, .any, .any], [⟨26, [.p (i64 (S : Int)), .p (i64 (F : Int)), .p (lvls lv)]⟩], []⟩) (fun p => lv.length - p.1) (0, nLeaves S F) (by exact ⟨Nat.zero_le _, by dsimp only; omega, shN_start (nLeaves_pos (by omega) (by omega))⟩) (wk_le ⟨rfl, leL_a (leL_r (by first | rfl | (refine congrArg (fun k => D.p (i64 k)) ?_; dsimp only; split <;> omega)) (leL_a (leL_a (leL_r (by first | rfl | (refine congrArg (fun k => D.p (i64 k)) ?_; dsimp only; split <;> omega)) (leL_a (leL_a (leL_a (leL_a (leL_a (leL_a (leL_a (leL_a (leL_a (leL_a (leL_a (leL_a (leL_a (leL_a (leL_a (leL_a (leL_a (leL_r (by first | rfl | (refine congrArg (fun k => D.p (i64 k)) ?_; dsimp only; split <;> omega)) (leL_r (by first | rfl | (refine congrArg (fun k => D.p (i64 k)) ?_; dsimp only; split <;> omega)) (leL_r (by first | rfl | (refine congrArg (fun k => D.p (i64 k)) ?_; dsimp only; split <;> omega)) (leL_a (leL_a (leL_a (leL_a (leL_a (leL_a (leL_a (leL_a (leL_a (leL_a (leL_a (leL_a (leL_a (leL_a (leL_a (leL_a (leL_a (leL_a (leL_a (leL_a (leL_a (leL_a (leL_a (leL_a (leL_a (leL_a (leL_a (leL_a (leL_a (leL_a (leL_a (leL_a (leL_a (leL_a (leL_a (leL_a (leL_a (leL_a (leL_a (leL_a (leL_a (leL_a (leL_a (leL_nil)))))))))))))))))))))))))))))))))))))))))))))))))))))))))))))))))))), (leB_r rfl (leL_r (by first | rfl | (refine congrArg (fun k => D.p (i64 k)) ?_; dsimp only; split <;> omega)) (leL_r (by first | rfl | (refine congrArg (fun k => D.p (i64 k)) ?_; dsimp only; split <;> omega)) (leL_r (by first | rfl | (refine congrArg (fun k => D.p (i64 k)) ?_; dsimp only; split <;> omega)) (leL_nil)))) (leB_nil _)), (leV_nil _), rfl, rfl⟩) ?_
    rintro ⟨i, n⟩ ⟨hi, hn, hs⟩
    dsimp only at hi hn hs ⊢
    refine aw_seq ?_
    refine aw_regK hX hb [0] rfl (σ' := ?s7) (fun K hK => ?h7) ?n7
    case h7 =>
      (refine st_op rfl (by simp (disch := omega) only [stepf,callOf,qop,fop,St.ev,St.put,cd,zd,Value.oneCell',tb_T,TypeDesc.aggB,getD_0,getD_s,Ze,Zd,Zc,Za,Zb,Zr,ZE,ZF,Zf,Zq,Zg,i64_w,Zt,Zs,qBin,iop,t3,ti3,t24,ti24,t58,ti58,t60,ti60,map_at_l,Zh,quo_w,ne_eq,not_true_eq_false,not_false_eq_true,not_two_zero] <;> exact rfl) ?_)
      refine aops_nil ?_
      exact hK
    refine exq_n ?_
    refine aw_seq ?_
    refine aw_cond _ rfl (fun hc1 => ?_) (fun hc1 => ?_)
    · try simp only [Zp,Zi,ZK,ZJ,ne_eq,Zn,Zm,ZB,ZA,ZI,not_or,not_and,Zu] at hc1
      refine aw_skip ?_
      refine exq_n ?_
      refine aw_seq ?_
      refine aw_block ?_
      refine aw_seq ?_
      refine aw_regK hX hb [0, 1, 2, 3, 4] rfl (σ' := ?s8) (fun K hK => ?h8) ?n8
      case h8 =>
        iterate 5 (refine st_op rfl (by simp (disch := omega) only [stepf,callOf,qop,fop,St.ev,St.put,cd,zd,Value.oneCell',tb_T,TypeDesc.aggB,getD_0,getD_s,Ze,Zd,Zc,Za,Zb,Zr,ZE,ZF,Zf,Zq,Zg,i64_w,Zt,Zs,Int.toNat_zero,Int.toNat_one,toNat_pred,toNat_succ,qIndexAddr,ZO,Nat.mul_one,ZC,Nat.zero_mul,Zh,Zl,Zo,Zv,Zw,Zj,Zk,Zx,Zy,qLoad,bload,pload,pureAll,D.pure?,ZD,t3,ti3,t5,ti5,t22,ti22,t24,ti24,t26,ti26,t27,ti27,t50,ti50,t58,ti58,t60,ti60,map_at_l,quo_w,ne_eq,not_true_eq_false,not_false_eq_true,not_two_zero] <;> exact rfl) ?_)
        refine aops_nil ?_
        exact hK
      refine exq_n ?_
      refine aw_seq ?_
      refine aw_seq ?_
      refine aw_len (t := 22) rfl fun hll => ?_
      unfold maxLen at hll
      refine aw_regJ hX hb [0, 1, 2, 3, 4, 5, 6, 7, 8, 9, 10, 11, 12, 13, 14, 15] rfl (ts := [29, 30, 31, 32, 33, 34, 35, 36, 37, 38, 39, 40, 41, 42, 43]) (t := 44) (d := .p (bv ((lv.getD i []).length ≠ n ∨ (n = 1 ∧ i + 1 < lv.length)))) (σ' := ?s9) ?j9 ?h9 ?n9
      case j9 => simp only [St.join,List.foldl,Za,Zb]; exact rfl
      case h9 =>
        iterate 5 (all_goals refine st_op rfl (by simp (disch := omega) only [stepf,callOf,qop,fop,St.ev,St.put,cd,zd,Value.oneCell',tb_T,TypeDesc.aggB,getD_0,getD_s,Ze,Zd,Zc,Za,Zb,Zr,ZE,ZF,Zf,Zq,Zg,i64_w,Zt,Zs,qLen,qBin,iop,qFieldAddr,fieldOf,Zl,Zo,Zv,Zw,Zj,Zk,Zx,Zy,qLoad,bload,pload,pureAll,D.pure?,ZC,ZD,t1,ti1,t2,ti2,t3,ti3,t4,ti4,t5,ti5,t24,ti24,t26,ti26,t35,ti35,t40,ti40,t58,ti58,t60,ti60,map_at_l,Zh,quo_w,ne_eq,not_true_eq_false,not_false_eq_true,not_two_zero] <;> exact rfl) ?_)
        iterate 10 (all_goals first | (refine st_g1 rfl rfl rfl (by simp (disch := omega) only [stepf,callOf,qop,fop,St.ev,St.put,cd,zd,Value.oneCell',tb_T,TypeDesc.aggB,getD_0,getD_s,Ze,Zd,Zc,Za,Zb,Zr,ZE,ZF,Zf,Zq,Zg,i64_w,Zt,Zs,qLen,qBin,iop,qFieldAddr,fieldOf,Zl,Zo,Zv,Zw,Zj,Zk,Zx,Zy,qLoad,bload,pload,pureAll,D.pure?,ZC,ZD,t1,ti1,t2,ti2,t3,ti3,t4,ti4,t5,ti5,t24,ti24,t26,ti26,t35,ti35,t40,ti40,t58,ti58,t60,ti60,map_at_l,Zh,quo_w,ne_eq,not_true_eq_false,not_false_eq_true,not_two_zero] <;> exact rfl) ?_) | (first | (refine st_g0 rfl rfl rfl (by simp only [St.put,Za,Zb] <;> exact rfl) ?_) | (refine st_gu rfl rfl rfl (by simp only [St.put,Za,Zb] <;> exact rfl) ?_)) | (refine st_split rfl rfl rfl (by simp only [Za,Zb] <;> exact rfl) (by simp only [Za,Zb] <;> exact rfl) (fun hg => ?_) (fun hg => ?_) <;> (try simp only [Zp,Zi,ZJ,ZK,ne_eq,Zn,Zm,Bool.not_eq_true,Zu] at hg) <;> first | (refine st_g1 rfl rfl rfl (by simp (disch := omega) only [stepf,callOf,qop,fop,St.ev,St.put,cd,zd,Value.oneCell',tb_T,TypeDesc.aggB,getD_0,getD_s,Ze,Zd,Zc,Za,Zb,Zr,ZE,ZF,Zf,Zq,Zg,i64_w,Zt,Zs,qLen,qBin,iop,qFieldAddr,fieldOf,Zl,Zo,Zv,Zw,Zj,Zk,Zx,Zy,qLoad,bload,pload,pureAll,D.pure?,ZC,ZD,t1,ti1,t2,ti2,t3,ti3,t4,ti4,t5,ti5,t24,ti24,t26,ti26,t35,ti35,t40,ti40,t58,ti58,t60,ti60,map_at_l,Zh,quo_w,ne_eq,not_true_eq_false,not_false_eq_true,not_two_zero] <;> exact rfl) ?_) | (first | (refine st_g0 rfl rfl rfl (by simp only [St.put,Za,Zb] <;> exact rfl) ?_) | (refine st_gu rfl rfl rfl (by simp only [St.put,Za,Zb] <;> exact rfl) ?_))))
        (all_goals refine st_op rfl (by simp (disch := omega) only [stepf,callOf,qop,fop,St.ev,St.put,cd,zd,Value.oneCell',tb_T,TypeDesc.aggB,getD_0,getD_s,Ze,Zd,Zc,Za,Zb,Zr,ZE,ZF,Zf,Zq,Zg,i64_w,Zt,Zs,qLen,qBin,iop,qFieldAddr,fieldOf,Zl,Zo,Zv,Zw,Zj,Zk,Zx,Zy,qLoad,bload,pload,pureAll,D.pure?,ZC,ZD,t1,ti1,t2,ti2,t3,ti3,t4,ti4,t5,ti5,t24,ti24,t26,ti26,t35,ti35,t40,ti40,t58,ti58,t60,ti60,map_at_l,Zh,quo_w,ne_eq,not_true_eq_false,not_false_eq_true,not_two_zero] <;> exact rfl) ?_)
        all_goals refine aops_nil ?_
        all_goals refine ⟨rfl, ?_, leB_self _, leV_self _, rfl, rfl⟩
        all_goals repeat' (first | exact leL_nil | refine leL_a ?_ | refine leL_r rfl ?_ | refine leL_r ?_ ?_)
        all_goals refine jn ?_
        all_goals ((try simp only [Zp,Zi,ZJ,ZK,Bool.not_eq_true,Zm,Zn,ne_eq,Zf,true_iff,false_iff,iff_true,iff_false] at *) <;> omega)
      refine exq_n ?_
      refine aw_cond _ rfl (fun hc2 => ?_) (fun hc2 => ?_)
      · try simp only [Zp,Zi,ZK,ZJ,ne_eq,Zn,Zm,ZB,ZA,ZI,not_or,not_and,Zu] at hc2
        refine aw_seq ?_
        refine aw_regK hX hb [0] rfl (σ' := ?s10) (fun K hK => ?h10) ?n10
        case h10 =>
          (refine st_op rfl (by simp (disch := omega) only [stepf,callOf,qop,fop,St.ev,St.put,cd,zd,Value.oneCell',tb_T,TypeDesc.aggB,getD_0,getD_s,Ze,Zd,Zc,Za,Zb,Zr,ZE,ZF,Zf,Zq,Zg,i64_w,Zt,Zs,t3,ti3,map_at_l,Zh,quo_w,ne_eq,not_true_eq_false,not_false_eq_true,not_two_zero] <;> exact rfl) ?_)
          refine aops_nil ?_
          exact hK
        refine exq_n ?_
        refine aw_ret ?_
        refine exq_r ?_
        refine exb_r ?_
        refine exq_r ?_
        refine exq_r ?_
        refine exb_r ?_
        refine exq_r ?_
        exact ret_r rfl (resOf_one rfl (by first | rfl | (first | exact congrArg (fun n => D.p (i64 n)) (refChk_lim (t := ⟨s, f, lv⟩) hc0).symm | exact congrArg (fun n => D.p (i64 n)) (refChk_3 (t := ⟨S, F, lv⟩) (by dsimp only; omega) (by dsimp only; omega) (shN_bad hs (show i < lv.length by omega) hc2)).symm | exact congrArg (fun n => D.p (i64 n)) (refChk_3 (t := ⟨S, F, lv⟩) (by dsimp only; omega) (by dsimp only; omega) (by show shT S F lv = false; rw [show i = lv.length by omega] at hs; rw [shN_end hs]; exact decide_eq_false (by omega))).symm | exact congrArg (fun n => D.p (i64 n)) (refChk_22 (t := ⟨S, F, lv⟩) (by dsimp only; omega) (by dsimp only; omega) hsh hc5).symm | exact congrArg (fun n => D.p (i64 n)) (refChk_0 (t := ⟨S, F, lv⟩) (by dsimp only; omega) (by dsimp only; omega) hsh hc5).symm)))
      · try simp only [Zp,Zi,ZK,ZJ,ne_eq,Zn,Zm,ZB,ZA,ZI,not_or,not_and,Zu] at hc2
        refine aw_skip ?_
        refine exq_n ?_
        refine aw_seq ?_
        refine aw_seq ?_
        refine aw_regK hX hb [0, 1] rfl (σ' := ?s11) (fun K hK => ?h11) ?n11
        case h11 =>
          iterate 2 (refine st_op rfl (by simp (disch := omega) only [stepf,callOf,qop,fop,St.ev,St.put,cd,zd,Value.oneCell',tb_T,TypeDesc.aggB,getD_0,getD_s,Ze,Zd,Zc,Za,Zb,Zr,ZE,ZF,Zf,Zq,Zg,i64_w,Zt,Zs,qBin,iop,t1,ti1,t3,ti3,t4,ti4,map_at_l,Zh,quo_w,ne_eq,not_true_eq_false,not_false_eq_true,not_two_zero] <;> exact rfl) ?_)
          refine aops_nil ?_
          exact hK
        refine exq_n ?_
        refine aw_cond _ rfl (fun hc3 => ?_) (fun hc3 => ?_)
        · try simp only [Zp,Zi,ZK,ZJ,ne_eq,Zn,Zm,ZB,ZA,ZI,not_or,not_and,Zu] at hc3
          refine aw_regK hX hb [0] rfl (σ' := ?s12) (fun K hK => ?h12) ?n12
          case h12 =>
            (refine st_op rfl (by simp (disch := omega) only [stepf,callOf,qop,fop,St.ev,St.put,cd,zd,Value.oneCell',tb_T,TypeDesc.aggB,getD_0,getD_s,Ze,Zd,Zc,Za,Zb,Zr,ZE,ZF,Zf,Zq,Zg,i64_w,Zt,Zs,map_at_l,Zh,quo_w,ne_eq,not_true_eq_false,not_false_eq_true,not_two_zero] <;> exact rfl) ?_)
            refine aops_nil ?_
            exact hK
          refine exq_n ?_
          refine aw_regK hX hb [0, 1, 2, 3] rfl (σ' := ?s13) (fun K hK => ?h13) ?n13
          case h13 =>
            iterate 4 (refine st_op rfl (by simp (disch := omega) only [stepf,callOf,qop,fop,St.ev,St.put,cd,zd,Value.oneCell',tb_T,TypeDesc.aggB,getD_0,getD_s,Ze,Zd,Zc,Za,Zb,Zr,ZE,ZF,Zf,Zq,Zg,i64_w,Zt,Zs,qBin,iop,t1,ti1,t2,ti2,t3,ti3,t4,ti4,t5,ti5,t22,ti22,t47,ti47,t50,ti50,map_at_l,Zh,quo_w,ne_eq,not_true_eq_false,not_false_eq_true,not_two_zero] <;> exact rfl) ?_)
            refine aops_nil ?_
            exact hK
          refine exb_n ?_
          refine exq_n ?_
          refine aw_regK hX hb [0, 1] rfl (σ' := ?s14) (fun K hK => ?h14) ?n14
          case h14 =>
            iterate 2 (refine st_op rfl (by simp (disch := omega) only [stepf,callOf,qop,fop,St.ev,St.put,cd,zd,Value.oneCell',tb_T,TypeDesc.aggB,getD_0,getD_s,Ze,Zd,Zc,Za,Zb,Zr,ZE,ZF,Zf,Zq,Zg,i64_w,Zt,Zs,qBin,iop,t1,ti1,t3,ti3,t5,ti5,t24,ti24,t50,ti50,t58,ti58,t60,ti60,map_at_l,Zh,quo_w,ne_eq,not_true_eq_false,not_false_eq_true,not_two_zero] <;> exact rfl) ?_)
            refine aops_nil ?_
            exact hK
          refine exq_n ?_
          exact ⟨(i + 1, ((if n = 1 then 0 else n) + 1) / 2), by exact ⟨by dsimp only; omega, by dsimp only; split <;> omega, shN_step hs (by omega) (by omega) (by omega)⟩, by (try dsimp only); omega, wk_le ⟨rfl, leL_a (leL_r (by first | rfl | (refine congrArg (fun k => D.p (i64 k)) ?_; dsimp only; split <;> omega)) (leL_a (leL_a (leL_r (by first | rfl | (refine congrArg (fun k => D.p (i64 k)) ?_; dsimp only; split <;> omega)) (leL_a (leL_a (leL_a (leL_a (leL_a (leL_a (leL_a (leL_a (leL_a (leL_a (leL_a (leL_a (leL_a (leL_a (leL_a (leL_a (leL_a (leL_r (by first | rfl | (refine congrArg (fun k => D.p (i64 k)) ?_; dsimp only; split <;> omega)) (leL_r (by first | rfl | (refine congrArg (fun k => D.p (i64 k)) ?_; dsimp only; split <;> omega)) (leL_r (by first | rfl | (refine congrArg (fun k => D.p (i64 k)) ?_; dsimp only; split <;> omega)) (leL_a (leL_a (leL_a (leL_a (leL_a (leL_a (leL_a (leL_a (leL_a (leL_a (leL_a (leL_a (leL_a (leL_a (leL_a (leL_a (leL_a (leL_a (leL_a (leL_a (leL_a (leL_a (leL_a (leL_a (leL_a (leL_a (leL_a (leL_a (leL_a (leL_a (leL_a (leL_a (leL_a (leL_a (leL_a (leL_a (leL_a (leL_a (leL_a (leL_a (leL_a (leL_a (leL_a (leL_nil)))))))))))))))))))))))))))))))))))))))))))))))))))))))))))))))))))), (leB_r rfl (leL_r (by first | rfl | (refine congrArg (fun k => D.p (i64 k)) ?_; dsimp only; split <;> omega)) (leL_r (by first | rfl | (refine congrArg (fun k => D.p (i64 k)) ?_; dsimp only; split <;> omega)) (leL_r (by first | rfl | (refine congrArg (fun k => D.p (i64 k)) ?_; dsimp only; split <;> omega)) (leL_nil)))) (leB_nil _)), (leV_nil _), rfl, rfl⟩⟩
        · try simp only [Zp,Zi,ZK,ZJ,ne_eq,Zn,Zm,ZB,ZA,ZI,not_or,not_and,Zu] at hc3
          refine aw_skip ?_
          refine exq_n ?_
          refine aw_regK hX hb [0, 1, 2, 3] rfl (σ' := ?s15) (fun K hK => ?h15) ?n15
          case h15 =>
            iterate 4 (refine st_op rfl (by simp (disch := omega) only [stepf,callOf,qop,fop,St.ev,St.put,cd,zd,Value.oneCell',tb_T,TypeDesc.aggB,getD_0,getD_s,Ze,Zd,Zc,Za,Zb,Zr,ZE,ZF,Zf,Zq,Zg,i64_w,Zt,Zs,qBin,iop,t1,ti1,t2,ti2,t3,ti3,t4,ti4,t5,ti5,t22,ti22,t47,ti47,t50,ti50,map_at_l,Zh,quo_w,ne_eq,not_true_eq_false,not_false_eq_true,not_two_zero] <;> exact rfl) ?_)
            refine aops_nil ?_
            exact hK
          refine exb_n ?_
          refine exq_n ?_
          refine aw_regK hX hb [0, 1] rfl (σ' := ?s16) (fun K hK => ?h16) ?n16
          case h16 =>
            iterate 2 (refine st_op rfl (by simp (disch := omega) only [stepf,callOf,qop,fop,St.ev,St.put,cd,zd,Value.oneCell',tb_T,TypeDesc.aggB,getD_0,getD_s,Ze,Zd,Zc,Za,Zb,Zr,ZE,ZF,Zf,Zq,Zg,i64_w,Zt,Zs,qBin,iop,t1,ti1,t3,ti3,t5,ti5,t24,ti24,t50,ti50,t58,ti58,t60,ti60,map_at_l,Zh,quo_w,ne_eq,not_true_eq_false,not_false_eq_true,not_two_zero] <;> exact rfl) ?_)
            refine aops_nil ?_
            exact hK
          refine exq_n ?_
          exact ⟨(i + 1, ((if n = 1 then 0 else n) + 1) / 2), by exact ⟨by dsimp only; omega, by dsimp only; split <;> omega, shN_step hs (by omega) (by omega) (by omega)⟩, by (try dsimp only); omega, wk_le ⟨rfl, leL_a (leL_r (by first | rfl | (refine congrArg (fun k => D.p (i64 k)) ?_; dsimp only; split <;> omega)) (leL_a (leL_a (leL_r (by first | rfl | (refine congrArg (fun k => D.p (i64 k)) ?_; dsimp only; split <;> omega)) (leL_a (leL_a (leL_a (leL_a (leL_a (leL_a (leL_a (leL_a (leL_a (leL_a (leL_a (leL_a (leL_a (leL_a (leL_a (leL_a (leL_a (leL_r (by first | rfl | (refine congrArg (fun k => D.p (i64 k)) ?_; dsimp only; split <;> omega)) (leL_r (by first | rfl | (refine congrArg (fun k => D.p (i64 k)) ?_; dsimp only; split <;> omega)) (leL_r (by first | rfl | (refine congrArg (fun k => D.p (i64 k)) ?_; dsimp only; split <;> omega)) (leL_a (leL_a (leL_a (leL_a (leL_a (leL_a (leL_a (leL_a (leL_a (leL_a (leL_a (leL_a (leL_a (leL_a (leL_a (leL_a (leL_a (leL_a (leL_a (leL_a (leL_a (leL_a (leL_a (leL_a (leL_a (leL_a (leL_a (leL_a (leL_a (leL_a (leL_a (leL_a (leL_a (leL_a (leL_a (leL_a (leL_a (leL_a (leL_a (leL_a (leL_a (leL_a (leL_a (leL_nil)))))))))))))))))))))))))))))))))))))))))))))))))))))))))))))))))))), (leB_r rfl (leL_r (by first | rfl | (refine congrArg (fun k => D.p (i64 k)) ?_; dsimp only; split <;> omega)) (leL_r (by first | rfl | (refine congrArg (fun k => D.p (i64 k)) ?_; dsimp only; split <;> omega)) (leL_r (by first | rfl | (refine congrArg (fun k => D.p (i64 k)) ?_; dsimp only; split <;> omega)) (leL_nil)))) (leB_nil _)), (leV_nil _), rfl, rfl⟩⟩
    · try simp only [Zp,Zi,ZK,ZJ,ne_eq,Zn,Zm,ZB,ZA,ZI,not_or,not_and,Zu] at hc1
      refine aw_exit ?_
      refine exq_e ?_
      refine exq_e ?_
      refine exb_h ?_
      refine exq_n ?_
      refine aw_seq ?_
      refine aw_seq ?_
      refine aw_regK hX hb [0, 1] rfl (σ' := ?s17) (fun K hK => ?h17) ?n17
      case h17 =>
        iterate 2 (refine st_op rfl (by simp (disch := omega) only [stepf,callOf,qop,fop,St.ev,St.put,cd,zd,Value.oneCell',tb_T,TypeDesc.aggB,getD_0,getD_s,Ze,Zd,Zc,Za,Zb,Zr,ZE,ZF,Zf,Zq,Zg,i64_w,Zt,Zs,qBin,iop,t3,ti3,t4,ti4,map_at_l,Zh,quo_w,ne_eq,not_true_eq_false,not_false_eq_true,not_two_zero] <;> exact rfl) ?_)
        refine aops_nil ?_
        exact hK
      refine exq_n ?_
      refine aw_cond _ rfl (fun hc4 => ?_) (fun hc4 => ?_)
      · try simp only [Zp,Zi,ZK,ZJ,ne_eq,Zn,Zm,ZB,ZA,ZI,not_or,not_and,Zu] at hc4
        refine aw_seq ?_
        refine aw_regK hX hb [0] rfl (σ' := ?s18) (fun K hK => ?h18) ?n18
        case h18 =>
          (refine st_op rfl (by simp (disch := omega) only [stepf,callOf,qop,fop,St.ev,St.put,cd,zd,Value.oneCell',tb_T,TypeDesc.aggB,getD_0,getD_s,Ze,Zd,Zc,Za,Zb,Zr,ZE,ZF,Zf,Zq,Zg,i64_w,Zt,Zs,t3,ti3,map_at_l,Zh,quo_w,ne_eq,not_true_eq_false,not_false_eq_true,not_two_zero] <;> exact rfl) ?_)
          refine aops_nil ?_
          exact hK
        refine exq_n ?_
        refine aw_ret ?_
        refine exq_r ?_
        exact ret_r rfl (resOf_one rfl (by first | rfl | (first | exact congrArg (fun n => D.p (i64 n)) (refChk_lim (t := ⟨s, f, lv⟩) hc0).symm | exact congrArg (fun n => D.p (i64 n)) (refChk_3 (t := ⟨S, F, lv⟩) (by dsimp only; omega) (by dsimp only; omega) (shN_bad hs (show i < lv.length by omega) hc2)).symm | exact congrArg (fun n => D.p (i64 n)) (refChk_3 (t := ⟨S, F, lv⟩) (by dsimp only; omega) (by dsimp only; omega) (by show shT S F lv = false; rw [show i = lv.length by omega] at hs; rw [shN_end hs]; exact decide_eq_false (by omega))).symm | exact congrArg (fun n => D.p (i64 n)) (refChk_22 (t := ⟨S, F, lv⟩) (by dsimp only; omega) (by dsimp only; omega) hsh hc5).symm | exact congrArg (fun n => D.p (i64 n)) (refChk_0 (t := ⟨S, F, lv⟩) (by dsimp only; omega) (by dsimp only; omega) hsh hc5).symm)))
      · try simp only [Zp,Zi,ZK,ZJ,ne_eq,Zn,Zm,ZB,ZA,ZI,not_or,not_and,Zu] at hc4
        refine aw_skip ?_
        refine exq_n ?_
        refine aw_seq ?_
        have hsh : shT S F lv = true := by
          have e := hs
          rw [show i = lv.length by omega] at e
          rw [shN_end e]; exact decide_eq_true (by omega)
        have hhd := sh_head hsh
        refine aw_regT hX hb (try_mixed hP) [(0, true), (1, true), (2, true), (3, true), (4, true), (5, true), (6, true), (7, true)] 8 [(9, false), (10, false)] 9 [(8, false), (10, false)] (by kernel_rfl) (σ' := ?s19) (fun K hK => ?h19) ?n19
        case h19 =>
          iterate 8 (refine sd_q rfl (by simp (disch := omega) only [qop,fop,St.ev,St.put,cd,zd,Value.oneCell',tb_T,TypeDesc.aggB,getD_0,getD_s,Ze,Zd,Zc,Za,Zb,Zr,ZE,ZF,Zf,Zq,Zg,i64_w,Zt,Zs,qFieldAddr,fieldOf,Zl,Zo,Zv,Zw,Zj,Zk,Zx,Zy,qLoad,bload,pload,pureAll,D.pure?,ZC,ZD,Int.toNat_zero,Int.toNat_one,toNat_pred,toNat_succ,qIndexAddr,ZO,Nat.mul_one,Nat.zero_mul,Zh,pvAll,D.pv?,ZM,ZL,ZG,ZH,St.addBox,Value.cells,fStore,D.boxCells,D.live,D.cells?,ZN,St.setVec,t1,ti1,t2,ti2,t3,ti3,t4,ti4,t24,ti24,t26,ti26,t54,ti54,t58,ti58,t60,ti60,map_at_l,quo_w,ne_eq,not_true_eq_false,not_false_eq_true,not_two_zero] <;> exact rfl) (by simp only [St.put,Za,Zb] <;> exact rfl) ?_)
          refine aopsd_nil ?_
          refine ⟨?_, ?_⟩
          · refine sd_call rfl (by simp only [callOf,St.ev,getD_0,getD_s,pvAll,D.pv?,ZG,ZH,zd,cd,Value.oneCell',Zr] <;> exact rfl) (acK hP (c67 c79 S F (lv.getD 0 []) (by omega) (by have := nLeaves_pos (s := S) (n := F) (by omega) (by omega); omega))) (by simp only [St.put,Za,Zb] <;> exact rfl) ?_
            iterate 2 (refine sd_op rfl (by simp (disch := omega) only [stepf,callOf,qop,fop,St.ev,St.put,cd,zd,Value.oneCell',tb_T,TypeDesc.aggB,getD_0,getD_s,Ze,Zd,Zc,Za,Zb,Zr,ZE,ZF,Zf,Zq,Zg,i64_w,Zt,Zs,qFieldAddr,fieldOf,Zl,Zo,Zv,Zw,Zj,Zk,Zx,Zy,qLoad,bload,pload,pureAll,D.pure?,ZC,ZD,Int.toNat_zero,Int.toNat_one,toNat_pred,toNat_succ,qIndexAddr,ZO,Nat.mul_one,Nat.zero_mul,Zh,pvAll,D.pv?,ZM,ZL,ZG,ZH,St.addBox,Value.cells,fStore,D.boxCells,D.live,D.cells?,ZN,St.setVec,t1,ti1,t2,ti2,t3,ti3,t4,ti4,t24,ti24,t26,ti26,t54,ti54,t58,ti58,t60,ti60,map_at_l,quo_w,ne_eq,not_true_eq_false,not_false_eq_true,not_two_zero] <;> exact rfl) ?_)
            refine aopsd_nil ?_
            exact hK
          · (refine sd_op rfl (by simp (disch := omega) only [stepf,callOf,qop,fop,St.ev,St.put,cd,zd,Value.oneCell',tb_T,TypeDesc.aggB,getD_0,getD_s,Ze,Zd,Zc,Za,Zb,Zr,ZE,ZF,Zf,Zq,Zg,i64_w,Zt,Zs,qFieldAddr,fieldOf,Zl,Zo,Zv,Zw,Zj,Zk,Zx,Zy,qLoad,bload,pload,pureAll,D.pure?,ZC,ZD,Int.toNat_zero,Int.toNat_one,toNat_pred,toNat_succ,qIndexAddr,ZO,Nat.mul_one,Nat.zero_mul,Zh,pvAll,D.pv?,ZM,ZL,ZG,ZH,St.addBox,Value.cells,fStore,D.boxCells,D.live,D.cells?,ZN,St.setVec,t1,ti1,t2,ti2,t3,ti3,t4,ti4,t24,ti24,t26,ti26,t54,ti54,t58,ti58,t60,ti60,map_at_l,quo_w,ne_eq,not_true_eq_false,not_false_eq_true,not_two_zero] <;> exact rfl) ?_)
            refine sd_call rfl (by simp only [callOf,St.ev,getD_0,getD_s,pvAll,D.pv?,ZG,ZH,zd,cd,Value.oneCell',Zr] <;> exact rfl) (acK hP (c67 c79 S F (lv.getD 0 []) (by omega) (by have := nLeaves_pos (s := S) (n := F) (by omega) (by omega); omega))) (by simp only [St.put,Za,Zb] <;> exact rfl) ?_
            (refine sd_op rfl (by simp (disch := omega) only [stepf,callOf,qop,fop,St.ev,St.put,cd,zd,Value.oneCell',tb_T,TypeDesc.aggB,getD_0,getD_s,Ze,Zd,Zc,Za,Zb,Zr,ZE,ZF,Zf,Zq,Zg,i64_w,Zt,Zs,qFieldAddr,fieldOf,Zl,Zo,Zv,Zw,Zj,Zk,Zx,Zy,qLoad,bload,pload,pureAll,D.pure?,ZC,ZD,Int.toNat_zero,Int.toNat_one,toNat_pred,toNat_succ,qIndexAddr,ZO,Nat.mul_one,Nat.zero_mul,Zh,pvAll,D.pv?,ZM,ZL,ZG,ZH,St.addBox,Value.cells,fStore,D.boxCells,D.live,D.cells?,ZN,St.setVec,t1,ti1,t2,ti2,t3,ti3,t4,ti4,t24,ti24,t26,ti26,t54,ti54,t58,ti58,t60,ti60,map_at_l,quo_w,ne_eq,not_true_eq_false,not_false_eq_true,not_two_zero] <;> exact rfl) ?_)
            refine aopsd_nil ?_
            exact hK
        refine exq_n ?_
        refine aw_seq ?_
        refine aw_seq ?_
        refine aw_regK hX hb [0, 1, 2, 3, 4, 5] rfl (σ' := ?s20) (fun K hK => ?h20) ?n20
        case h20 =>
          iterate 4 (refine st_op rfl (by simp (disch := omega) only [stepf,callOf,qop,fop,St.ev,St.put,cd,zd,Value.oneCell',tb_T,TypeDesc.aggB,getD_0,getD_s,Ze,Zd,Zc,Za,Zb,Zr,ZE,ZF,Zf,Zq,Zg,i64_w,Zt,Zs,qFieldAddr,fieldOf,Zl,Zo,Zv,Zw,Zj,Zk,Zx,Zy,qLoad,bload,pload,pureAll,D.pure?,ZC,ZD,pvAll,D.pv?,Bool.not_true,Bool.not_false,t1,ti1,t2,ti2,t3,ti3,t4,ti4,t5,ti5,t22,ti22,t24,ti24,t26,ti26,t35,ti35,t40,ti40,t50,ti50,t58,ti58,t60,ti60,t63,ti63,t69,ti69,t77,ti77,t87,ti87,t88,ti88,t90,ti90,map_at_l,Zh,quo_w,ne_eq,not_true_eq_false,not_false_eq_true,not_two_zero] <;> exact rfl) ?_)
          refine st_call rfl (by simp only [callOf,St.ev,getD_0,getD_s,pvAll,D.pv?,ZG,ZH,zd,cd,Value.oneCell',Zr] <;> exact rfl) (acK hP (c77 _ _)) (by simp only [St.put,Za,Zb] <;> exact rfl) ?_
          (refine st_op rfl (by simp (disch := omega) only [stepf,callOf,qop,fop,St.ev,St.put,cd,zd,Value.oneCell',tb_T,TypeDesc.aggB,getD_0,getD_s,Ze,Zd,Zc,Za,Zb,Zr,ZE,ZF,Zf,Zq,Zg,i64_w,Zt,Zs,qFieldAddr,fieldOf,Zl,Zo,Zv,Zw,Zj,Zk,Zx,Zy,qLoad,bload,pload,pureAll,D.pure?,ZC,ZD,pvAll,D.pv?,Bool.not_true,Bool.not_false,t1,ti1,t2,ti2,t3,ti3,t4,ti4,t5,ti5,t22,ti22,t24,ti24,t26,ti26,t35,ti35,t40,ti40,t50,ti50,t58,ti58,t60,ti60,t63,ti63,t69,ti69,t77,ti77,t87,ti87,t88,ti88,t90,ti90,map_at_l,Zh,quo_w,ne_eq,not_true_eq_false,not_false_eq_true,not_two_zero] <;> exact rfl) ?_)
          refine aops_nil ?_
          exact hK
        refine exq_n ?_
        refine aw_cond _ rfl (fun hc5 => ?_) (fun hc5 => ?_)
        · try simp only [Zp,Zi,ZK,ZJ,ne_eq,Zn,Zm,ZB,ZA,ZI,not_or,not_and,Zu] at hc5
          refine aw_seq ?_
          refine aw_regK hX hb [0] rfl (σ' := ?s21) (fun K hK => ?h21) ?n21
          case h21 =>
            (refine st_op rfl (by simp (disch := omega) only [stepf,callOf,qop,fop,St.ev,St.put,cd,zd,Value.oneCell',tb_T,TypeDesc.aggB,getD_0,getD_s,Ze,Zd,Zc,Za,Zb,Zr,ZE,ZF,Zf,Zq,Zg,i64_w,Zt,Zs,t5,ti5,t22,ti22,t50,ti50,map_at_l,Zh,quo_w,ne_eq,not_true_eq_false,not_false_eq_true,not_two_zero] <;> exact rfl) ?_)
            refine aops_nil ?_
            exact hK
          refine exq_n ?_
          refine aw_ret ?_
          refine exq_r ?_
          exact ret_r rfl (resOf_one rfl (by first | rfl | (first | exact congrArg (fun n => D.p (i64 n)) (refChk_lim (t := ⟨s, f, lv⟩) hc0).symm | exact congrArg (fun n => D.p (i64 n)) (refChk_3 (t := ⟨S, F, lv⟩) (by dsimp only; omega) (by dsimp only; omega) (shN_bad hs (show i < lv.length by omega) hc2)).symm | exact congrArg (fun n => D.p (i64 n)) (refChk_3 (t := ⟨S, F, lv⟩) (by dsimp only; omega) (by dsimp only; omega) (by show shT S F lv = false; rw [show i = lv.length by omega] at hs; rw [shN_end hs]; exact decide_eq_false (by omega))).symm | exact congrArg (fun n => D.p (i64 n)) (refChk_22 (t := ⟨S, F, lv⟩) (by dsimp only; omega) (by dsimp only; omega) hsh hc5).symm | exact congrArg (fun n => D.p (i64 n)) (refChk_0 (t := ⟨S, F, lv⟩) (by dsimp only; omega) (by dsimp only; omega) hsh hc5).symm)))
        · try simp only [Zp,Zi,ZK,ZJ,ne_eq,Zn,Zm,ZB,ZA,ZI,not_or,not_and,Zu] at hc5
          refine aw_skip ?_
          refine exq_n ?_
          refine aw_seq ?_
          refine aw_regK hX hb [0] rfl (σ' := ?s22) (fun K hK => ?h22) ?n22
          case h22 =>
            (refine st_op rfl (by simp (disch := omega) only [stepf,callOf,qop,fop,St.ev,St.put,cd,zd,Value.oneCell',tb_T,TypeDesc.aggB,getD_0,getD_s,Ze,Zd,Zc,Za,Zb,Zr,ZE,ZF,Zf,Zq,Zg,i64_w,Zt,Zs,map_at_l,Zh,quo_w,ne_eq,not_true_eq_false,not_false_eq_true,not_two_zero] <;> exact rfl) ?_)
            refine aops_nil ?_
            exact hK
          refine exq_n ?_
          refine aw_ret ?_
          exact ret_r rfl (resOf_one rfl (by first | rfl | (first | exact congrArg (fun n => D.p (i64 n)) (refChk_lim (t := ⟨s, f, lv⟩) hc0).symm | exact congrArg (fun n => D.p (i64 n)) (refChk_3 (t := ⟨S, F, lv⟩) (by dsimp only; omega) (by dsimp only; omega) (shN_bad hs (show i < lv.length by omega) hc2)).symm | exact congrArg (fun n => D.p (i64 n)) (refChk_3 (t := ⟨S, F, lv⟩) (by dsimp only; omega) (by dsimp only; omega) (by show shT S F lv = false; rw [show i = lv.length by omega] at hs; rw [shN_end hs]; exact decide_eq_false (by omega))).symm | exact congrArg (fun n => D.p (i64 n)) (refChk_22 (t := ⟨S, F, lv⟩) (by dsimp only; omega) (by dsimp only; omega) hsh hc5).symm | exact congrArg (fun n => D.p (i64 n)) (refChk_0 (t := ⟨S, F, lv⟩) (by dsimp only; omega) (by dsimp only; omega) hsh hc5).symm)))
end Go.Proofs.Ytldcoekbgfaomaa
end
section
namespace Go.Proofs.Ytldcoekbgfaomaa
open Go.RowKit
set_option maxRecDepth 20000
set_option maxHeartbeats 4000000
attribute [local irreducible] AOps AOpsD AW
theorem nat_xor_one (i : Nat) : i ^^^ 1 = otherI i := by
  have h1 : (i ^^^ 1) / 2 = i / 2 := by rw [Nat.xor_div_two]; simp
  have h2 : (i ^^^ 1) % 2 = (i + 1) % 2 := by
    have := Nat.xor_mod_two_pow (a := i) (b := 1) (n := 1)
    rw [Nat.pow_one] at this
    rw [this]
    have hi : i % 2 = 0 ∨ i % 2 = 1 := by omega
    rcases hi with h | h
    · rw [h]; show 1 = _; omega
    · rw [h]; show 0 = _; omega
  unfold otherI
  split <;> omega
theorem xor_one (i : Nat) (h : i ≤ 4294967296) : ibits .xor .i64 (i : Int) 1 = (otherI i : Int) := by
  have hb : (BitVec.ofInt 64 (i : Int) ^^^ BitVec.ofInt 64 1).toNat = otherI i := by
    rw [BitVec.toNat_xor]
    have e1 : (BitVec.ofInt 64 (i : Int)).toNat = i := by
      rw [BitVec.toNat_ofInt]
      omega
    have e2 : (BitVec.ofInt 64 (1 : Int)).toNat = 1 := rfl
    rw [e1, e2, nat_xor_one]
  show IntKind.i64.wrap ((BitVec.ofInt 64 (i : Int) ^^^ BitVec.ofInt 64 1).toNat : Int) = _
  rw [hb]
  exact i64_w (by unfold otherI; split <;> omega)
theorem hasO_iff {i n : Nat} (h : i < n) : hasO i n ↔ otherI i < n := by
  unfold hasO otherI
  split <;> omega
/-- Where the collecting of a proof stands: level k, place i. -/
def PrfI (lv : List (List Int)) (T : List Int) (k i : Nat) (out : List Int) : Prop :=
  k ≤ lv.length ∧ i ≤ 4096 ∧ out.length ≤ k ∧ (k < lv.length → levelsOf (lv.getD k []) = lv.drop k ∧ i < (lv.getD k []).length ∧ (lv.getD k []).length ≤ 4096 ∧ out ++ proofOf (lv.getD k []) i = T) ∧ (k = lv.length → out = T)
theorem prfI_step {lv : List (List Int)} {T : List Int} {k i : Nat} {out : List Int} (h : PrfI lv T k i out) (hk : k < lv.length) :
    PrfI lv T (k + 1) (i / 2) (out ++ if otherI i < (lv.getD k []).length then [(lv.getD k []).getD (otherI i) 0] else []) := by
  obtain ⟨h1, h2, h3, h4, _⟩ := h
  obtain ⟨q1, q2, q3, q4⟩ := h4 hk
  generalize hm : lv.getD k [] = m at *
  have hu := upL_length m
  have hmore := level_more q1
  refine ⟨by omega, by omega, by split <;> simp <;> omega, fun hk1 => ?_, fun he => ?_⟩
  · have hml := hmore.2 hk1
    have e := level_next q1 hml
    have e2 := (level_at e).1
    rw [e2]
    refine ⟨e, by omega, by omega, ?_⟩
    rw [← q4, proofOf_more hml, List.append_assoc]
    congr 2
    by_cases ho : otherI i < m.length
    · rw [if_pos ho, if_pos ((hasO_iff q2).2 ho)]
    · rw [if_neg ho, if_neg (fun h => ho ((hasO_iff q2).1 h))]
  · have hml : m.length ≤ 1 := by
      rcases Nat.lt_or_ge 1 m.length with h | h
      · have := hmore.1 (by omega)
        omega
      · exact h
    rw [if_neg (by unfold otherI; split <;> omega), List.append_nil, ← q4, proofOf_one hml, List.append_nil]
theorem c37 (t : Tr) (leaf : Int) : ACalls Try.prog 37 [trP t, .p (i64 leaf)] (.tup [.p (u64s (refPrf t leaf).1), .p (i64 (refPrf t leaf).2)]) := by
  obtain ⟨s, f, lv⟩ := t
  refine acalls_of tb_ok Try.func37 (c := _) rfl (by kernel_rfl) ?_
  intro X hP hX hro hpl
  have hb : tb.Ok X.P := hP ▸ tb_ok
  change AW X _ _ ⟨[], [.agg [i64 s, i64 f, lvls lv], .p (i64 leaf), .any, .any, .any, .any, .any, .any, .any, .any, .any, .any, .any, .any, .any, .any, .any, .any, .any, .any, .any, .any, .any, .any, .any, .any, .any, .any, .any, .any, .any, .any, .any, .any, .any, .any, .any, .any, .any, .any, .any, .any, .any, .any, .any, .any, .any, .any, .any, .any, .any], [], []⟩
  refine aw_seq ?_
  refine aw_regK hX hb [0, 1, 2] rfl (σ' := ?s1) (fun K hK => ?h1) ?n1
  case h1 =>
    iterate 3 (refine st_op rfl (by simp (disch := omega) only [stepf,callOf,qop,fop,St.ev,St.put,cd,zd,Value.oneCell',tb_T,TypeDesc.aggB,getD_0,getD_s,Ze,Zd,Zc,Za,Zb,Zr,ZE,ZF,Zf,Zq,Zg,i64_w,Zt,Zs,ZM,ZL,Zl,Zo,ZG,ZH,St.addBox,D.boxCells,D.live,t3,ti3,t24,ti24,t26,ti26,t58,ti58,t60,ti60,map_at_l,map_at_i,Zh,quo_w,ne_eq,not_true_eq_false,not_false_eq_true,not_two_zero,xor_one] <;> exact rfl) ?_)
    refine aops_nil ?_
    exact hK
  refine exq_n ?_
  refine aw_seq ?_
  refine aw_seq ?_
  refine aw_regK hX hb [0, 1, 2] rfl (σ' := ?s2) (fun K hK => ?h2) ?n2
  case h2 =>
    (refine st_op rfl (by simp (disch := omega) only [stepf,callOf,qop,fop,St.ev,St.put,cd,zd,Value.oneCell',tb_T,TypeDesc.aggB,getD_0,getD_s,Ze,Zd,Zc,Za,Zb,Zr,ZE,ZF,Zf,Zq,Zg,i64_w,Zt,Zs,Zl,Zo,Zv,Zw,Zj,Zk,Zx,Zy,qLoad,bload,pload,pureAll,D.pure?,ZC,ZD,pvAll,D.pv?,t2,ti2,t3,ti3,t24,ti24,t26,ti26,t58,ti58,t60,ti60,map_at_l,map_at_i,Zh,quo_w,ne_eq,not_true_eq_false,not_false_eq_true,not_two_zero,xor_one] <;> exact rfl) ?_)
    refine st_call rfl (by simp only [callOf,St.ev,getD_0,getD_s,pvAll,D.pv?,ZG,ZH,zd,cd,Value.oneCell',Zr] <;> exact rfl) (acK hP (c31 ⟨s, f, lv⟩)) (by simp only [St.put,Za,Zb] <;> exact rfl) ?_
    (refine st_op rfl (by simp (disch := omega) only [stepf,callOf,qop,fop,St.ev,St.put,cd,zd,Value.oneCell',tb_T,TypeDesc.aggB,getD_0,getD_s,Ze,Zd,Zc,Za,Zb,Zr,ZE,ZF,Zf,Zq,Zg,i64_w,Zt,Zs,Zl,Zo,Zv,Zw,Zj,Zk,Zx,Zy,qLoad,bload,pload,pureAll,D.pure?,ZC,ZD,pvAll,D.pv?,t2,ti2,t3,ti3,t24,ti24,t26,ti26,t58,ti58,t60,ti60,map_at_l,map_at_i,Zh,quo_w,ne_eq,not_true_eq_false,not_false_eq_true,not_two_zero,xor_one] <;> exact rfl) ?_)
    refine aops_nil ?_
    exact hK
  refine exq_n ?_
  refine aw_seq ?_
  refine aw_regK hX hb [0, 1] rfl (σ' := ?s3) (fun K hK => ?h3) ?n3
  case h3 =>
    iterate 2 (refine st_op rfl (by simp (disch := omega) only [stepf,callOf,qop,fop,St.ev,St.put,cd,zd,Value.oneCell',tb_T,TypeDesc.aggB,getD_0,getD_s,Ze,Zd,Zc,Za,Zb,Zr,ZE,ZF,Zf,Zq,Zg,i64_w,Zt,Zs,qBin,iop,t27,ti27,map_at_l,map_at_i,Zh,quo_w,ne_eq,not_true_eq_false,not_false_eq_true,not_two_zero,xor_one] <;> exact rfl) ?_)
    refine aops_nil ?_
    exact hK
  refine exq_n ?_
  refine aw_cond _ rfl (fun hc0 => ?_) (fun hc0 => ?_)
  · try simp only [Zp,Zi,ZK,ZJ,ne_eq,Zn,Zm,ZB,ZA,ZI,not_or,not_and,Zu] at hc0
    refine aw_seq ?_
    refine aw_regK hX hb [0, 1, 2] rfl (σ' := ?s4) (fun K hK => ?h4) ?n4
    case h4 =>
      iterate 3 (refine st_op rfl (by simp (disch := omega) only [stepf,callOf,qop,fop,St.ev,St.put,cd,zd,Value.oneCell',tb_T,TypeDesc.aggB,getD_0,getD_s,Ze,Zd,Zc,Za,Zb,Zr,ZE,ZF,Zf,Zq,Zg,i64_w,Zt,Zs,map_at_l,map_at_i,Zh,quo_w,ne_eq,not_true_eq_false,not_false_eq_true,not_two_zero,xor_one] <;> exact rfl) ?_)
      refine aops_nil ?_
      exact hK
    refine exq_n ?_
    refine aw_ret ?_
    refine exq_r ?_
    exact ret_r rfl (resOf_two rfl rfl (by first | rfl | (first | (rw [refPrf, if_pos hc0]; rfl) | (rw [refPrf, if_neg (not_not_intro hc0), if_pos hc1]; rfl) | (rw [refPrf, if_neg (not_not_intro hc0), if_neg (by dsimp only; omega), show proofOf (lv.getD 0 []) ((x : Int)).toNat = out from by rw [Int.toNat_natCast]; exact (hI.2.2.2.2 (by omega)).symm] <;> rfl))))
  · try simp only [Zp,Zi,ZK,ZJ,ne_eq,Zn,Zm,ZB,ZA,ZI,not_or,not_and,Zu] at hc0
    obtain ⟨S, F, hS, hF, q1, q2, q3, q4, q5, q6⟩ := refChk_ok hc0
    dsimp only at hS hF q5 q6
    subst hS
    subst hF
    have hfw := refChk_few hc0
    have hrw := (refChk_row hc0).2
    dsimp only at hfw hrw
    refine aw_skip ?_
    refine exq_n ?_
    refine aw_seq ?_
    refine aw_seq ?_
    refine aw_regJ hX hb [0, 1, 2, 3, 4, 5, 6, 7, 8, 9, 10] rfl (ts := [16, 17, 18, 19, 20, 21, 22, 23, 24, 25]) (t := 26) (d := .p (bv (leaf < 0 ∨ ((lv.getD 0 []).length : Int) ≤ leaf))) (σ' := ?s5) ?j5 ?h5 ?n5
    case j5 => simp only [St.join,List.foldl,Za,Zb]; exact rfl
    case h5 =>
      iterate 3 (all_goals refine st_op rfl (by simp (disch := omega) only [stepf,callOf,qop,fop,St.ev,St.put,cd,zd,Value.oneCell',tb_T,TypeDesc.aggB,getD_0,getD_s,Ze,Zd,Zc,Za,Zb,Zr,ZE,ZF,Zf,Zq,Zg,i64_w,Zt,Zs,qBin,iop,qFieldAddr,fieldOf,Zl,Zo,Zv,Zw,Zj,Zk,Zx,Zy,qLoad,bload,pload,pureAll,D.pure?,ZC,ZD,Int.toNat_zero,Int.toNat_one,toNat_pred,toNat_succ,qIndexAddr,ZO,Nat.mul_one,Nat.zero_mul,Zh,qLen,t1,ti1,t2,ti2,t3,ti3,t5,ti5,t22,ti22,t24,ti24,t26,ti26,t50,ti50,t58,ti58,t60,ti60,map_at_l,map_at_i,quo_w,ne_eq,not_true_eq_false,not_false_eq_true,not_two_zero,xor_one] <;> exact rfl) ?_)
      iterate 7 (all_goals first | (refine st_g1 rfl rfl rfl (by simp (disch := omega) only [stepf,callOf,qop,fop,St.ev,St.put,cd,zd,Value.oneCell',tb_T,TypeDesc.aggB,getD_0,getD_s,Ze,Zd,Zc,Za,Zb,Zr,ZE,ZF,Zf,Zq,Zg,i64_w,Zt,Zs,qBin,iop,qFieldAddr,fieldOf,Zl,Zo,Zv,Zw,Zj,Zk,Zx,Zy,qLoad,bload,pload,pureAll,D.pure?,ZC,ZD,Int.toNat_zero,Int.toNat_one,toNat_pred,toNat_succ,qIndexAddr,ZO,Nat.mul_one,Nat.zero_mul,Zh,qLen,t1,ti1,t2,ti2,t3,ti3,t5,ti5,t22,ti22,t24,ti24,t26,ti26,t50,ti50,t58,ti58,t60,ti60,map_at_l,map_at_i,quo_w,ne_eq,not_true_eq_false,not_false_eq_true,not_two_zero,xor_one] <;> exact rfl) ?_) | (first | (refine st_g0 rfl rfl rfl (by simp only [St.put,Za,Zb] <;> exact rfl) ?_) | (refine st_gu rfl rfl rfl (by simp only [St.put,Za,Zb] <;> exact rfl) ?_)) | (refine st_split rfl rfl rfl (by simp only [Za,Zb] <;> exact rfl) (by simp only [Za,Zb] <;> exact rfl) (fun hg => ?_) (fun hg => ?_) <;> (try simp only [Zp,Zi,ZJ,ZK,ne_eq,Zn,Zm,Bool.not_eq_true,Zu] at hg) <;> first | (refine st_g1 rfl rfl rfl (by simp (disch := omega) only [stepf,callOf,qop,fop,St.ev,St.put,cd,zd,Value.oneCell',tb_T,TypeDesc.aggB,getD_0,getD_s,Ze,Zd,Zc,Za,Zb,Zr,ZE,ZF,Zf,Zq,Zg,i64_w,Zt,Zs,qBin,iop,qFieldAddr,fieldOf,Zl,Zo,Zv,Zw,Zj,Zk,Zx,Zy,qLoad,bload,pload,pureAll,D.pure?,ZC,ZD,Int.toNat_zero,Int.toNat_one,toNat_pred,toNat_succ,qIndexAddr,ZO,Nat.mul_one,Nat.zero_mul,Zh,qLen,t1,ti1,t2,ti2,t3,ti3,t5,ti5,t22,ti22,t24,ti24,t26,ti26,t50,ti50,t58,ti58,t60,ti60,map_at_l,map_at_i,quo_w,ne_eq,not_true_eq_false,not_false_eq_true,not_two_zero,xor_one] <;> exact rfl) ?_) | (first | (refine st_g0 rfl rfl rfl (by simp only [St.put,Za,Zb] <;> exact rfl) ?_) | (refine st_gu rfl rfl rfl (by simp only [St.put,Za,Zb] <;> exact rfl) ?_))))
      (all_goals refine st_op rfl (by simp (disch := omega) only [stepf,callOf,qop,fop,St.ev,St.put,cd,zd,Value.oneCell',tb_T,TypeDesc.aggB,getD_0,getD_s,Ze,Zd,Zc,Za,Zb,Zr,ZE,ZF,Zf,Zq,Zg,i64_w,Zt,Zs,qBin,iop,qFieldAddr,fieldOf,Zl,Zo,Zv,Zw,Zj,Zk,Zx,Zy,qLoad,bload,pload,pureAll,D.pure?,ZC,ZD,Int.toNat_zero,Int.toNat_one,toNat_pred,toNat_succ,qIndexAddr,ZO,Nat.mul_one,Nat.zero_mul,Zh,qLen,t1,ti1,t2,ti2,t3,ti3,t5,ti5,t22,ti22,t24,ti24,t26,ti26,t50,ti50,t58,ti58,t60,ti60,map_at_l,map_at_i,quo_w,ne_eq,not_true_eq_false,not_false_eq_true,not_two_zero,xor_one] <;> exact rfl) ?_)
      all_goals refine aops_nil ?_
      all_goals refine ⟨rfl, ?_, leB_self _, leV_self _, rfl, rfl⟩
      all_goals repeat' (first | exact leL_nil | refine leL_a ?_ | refine leL_r rfl ?_ | refine leL_r ?_ ?_)
      all_goals refine jn ?_
      all_goals ((try simp only [Zp,Zi,ZJ,ZK,Bool.not_eq_true,Zm,Zn,ne_eq,Zf,true_iff,false_iff,iff_true,iff_false] at *) <;> omega)
    refine exq_n ?_
    refine aw_cond _ rfl (fun hc1 => ?_) (fun hc1 => ?_)
    · try simp only [Zp,Zi,ZK,ZJ,ne_eq,Zn,Zm,ZB,ZA,ZI,not_or,not_and,Zu] at hc1
      refine aw_seq ?_
      refine aw_regK hX hb [0, 1] rfl (σ' := ?s6) (fun K hK => ?h6) ?n6
      case h6 =>
        iterate 2 (refine st_op rfl (by simp (disch := omega) only [stepf,callOf,qop,fop,St.ev,St.put,cd,zd,Value.oneCell',tb_T,TypeDesc.aggB,getD_0,getD_s,Ze,Zd,Zc,Za,Zb,Zr,ZE,ZF,Zf,Zq,Zg,i64_w,Zt,Zs,t2,ti2,map_at_l,map_at_i,Zh,quo_w,ne_eq,not_true_eq_false,not_false_eq_true,not_two_zero,xor_one] <;> exact rfl) ?_)
        refine aops_nil ?_
        exact hK
      refine exq_n ?_
      refine aw_ret ?_
      refine exq_r ?_
      exact ret_r rfl (resOf_two rfl rfl (by first | rfl | (first | (rw [refPrf, if_pos hc0]; rfl) | (rw [refPrf, if_neg (not_not_intro hc0), if_pos hc1]; rfl) | (rw [refPrf, if_neg (not_not_intro hc0), if_neg (by dsimp only; omega), show proofOf (lv.getD 0 []) ((x : Int)).toNat = out from by rw [Int.toNat_natCast]; exact (hI.2.2.2.2 (by omega)).symm] <;> rfl))))
    · try simp only [Zp,Zi,ZK,ZJ,ne_eq,Zn,Zm,ZB,ZA,ZI,not_or,not_and,Zu] at hc1
      obtain ⟨x, hxl⟩ : ∃ x : Nat, leaf = x := ⟨leaf.toNat, by omega⟩
      subst hxl
      refine aw_skip ?_
      refine exq_n ?_
      refine aw_seq ?_
      refine aw_regK hX hb [0] rfl (σ' := ?s7) (fun K hK => ?h7) ?n7
      case h7 =>
        (refine st_op rfl (by simp (disch := omega) only [stepf,callOf,qop,fop,St.ev,St.put,cd,zd,Value.oneCell',tb_T,TypeDesc.aggB,getD_0,getD_s,Ze,Zd,Zc,Za,Zb,Zr,ZE,ZF,Zf,Zq,Zg,i64_w,Zt,Zs,map_at_l,map_at_i,Zh,quo_w,ne_eq,not_true_eq_false,not_false_eq_true,not_two_zero,xor_one] <;> exact rfl) ?_)
        refine aops_nil ?_
        exact hK
      refine exq_n ?_
      refine aw_nil 7 58 1 rfl (σ' := ?s8) ?h8 ?n8
      case h8 => simp only [St.nilSlot,St.addVec,Za,Zb,Zl,Zo,ZL,ZM]; exact rfl
      refine aw_seq ?_
      refine aw_seq ?_
      refine aw_regK hX hb [0, 1, 2, 3] rfl (σ' := ?s9) (fun K hK => ?h9) ?n9
      case h9 =>
        iterate 4 (refine st_op rfl (by simp (disch := omega) only [stepf,callOf,qop,fop,St.ev,St.put,cd,zd,Value.oneCell',tb_T,TypeDesc.aggB,getD_0,getD_s,Ze,Zd,Zc,Za,Zb,Zr,ZE,ZF,Zf,Zq,Zg,i64_w,Zt,Zs,qFieldAddr,fieldOf,Zl,Zo,Zv,Zw,Zj,Zk,Zx,Zy,qLoad,bload,pload,pureAll,D.pure?,ZC,ZD,qLen,t2,ti2,t3,ti3,t24,ti24,t26,ti26,t27,ti27,t58,ti58,t60,ti60,map_at_l,map_at_i,Zh,quo_w,ne_eq,not_true_eq_false,not_false_eq_true,not_two_zero,xor_one] <;> exact rfl) ?_)
        refine aops_nil ?_
        exact hK
      refine exq_n ?_
      refine aw_block ?_
      refine aw_loop (ι := Nat × Nat × List Int) (fun p => PrfI lv (proofOf (lv.getD 0 []) x) p.1 p.2.1 p.2.2) (fun p => ⟨[], [.any, .p (i64 p.2.1), .ptr 0 0, .any, .any, .p (i64 0), .any, .vref 0, .any, .any, .any, .any, .any, .any, .any, .any, .any, .any, .any, .any, .any, .any, .any, .any, .any, .any, .any, .any, .p (lvls lv), .p (i64 lv.length), .p (i64 p.1), .any, .any, .any, .any, .any, .any, .any, .any, .any, .any, .any, .any, .any, .any, .any, .any, .any, .any, .any, .any], [⟨26, [.p (i64 (S : Int)), .p (i64 (F : Int)), .p (lvls lv)]⟩], [some ⟨58, 1, p.2.2.length, p.2.2.map u64⟩]⟩) (fun p => lv.length - p.1) (0, x, []) (by exact ⟨by dsimp only; omega, by dsimp only; omega, by simp, fun _ => ⟨q6, by dsimp only; omega, hrw, rfl⟩, fun h => by dsimp only at h; omega⟩) (wk_le ⟨rfl, leL_a (leL_r (by first | rfl | (first | (dsimp only; rw [if_pos (show otherI i < (lv.getD k []).length by omega)]; simp) | (dsimp only; rw [if_neg (show ¬ otherI i < (lv.getD k []).length by omega)]; simp) | exact congrArg (fun k => D.p (i64 k)) (by dsimp only; omega))) (leL_r (by first | rfl | (first | (dsimp only; rw [if_pos (show otherI i < (lv.getD k []).length by omega)]; simp) | (dsimp only; rw [if_neg (show ¬ otherI i < (lv.getD k []).length by omega)]; simp) | exact congrArg (fun k => D.p (i64 k)) (by dsimp only; omega))) (leL_a (leL_a (leL_r (by first | rfl | (first | (dsimp only; rw [if_pos (show otherI i < (lv.getD k []).length by omega)]; simp) | (dsimp only; rw [if_neg (show ¬ otherI i < (lv.getD k []).length by omega)]; simp) | exact congrArg (fun k => D.p (i64 k)) (by dsimp only; omega))) (leL_a (leL_r (by first | rfl | (first | (dsimp only; rw [if_pos (show otherI i < (lv.getD k []).length by omega)]; simp) | (dsimp only; rw [if_neg (show ¬ otherI i < (lv.getD k []).length by omega)]; simp) | exact congrArg (fun k => D.p (i64 k)) (by dsimp only; omega))) (leL_a (leL_a (leL_a (leL_a (leL_a (leL_a (leL_a (leL_a (leL_a (leL_a (leL_a (leL_a (leL_a (leL_a (leL_a (leL_a (leL_a (leL_a (leL_a (leL_a (leL_r (by first | rfl | (first | (dsimp only; rw [if_pos (show otherI i < (lv.getD k []).length by omega)]; simp) | (dsimp only; rw [if_neg (show ¬ otherI i < (lv.getD k []).length by omega)]; simp) | exact congrArg (fun k => D.p (i64 k)) (by dsimp only; omega))) (leL_r (by first | rfl | (first | (dsimp only; rw [if_pos (show otherI i < (lv.getD k []).length by omega)]; simp) | (dsimp only; rw [if_neg (show ¬ otherI i < (lv.getD k []).length by omega)]; simp) | exact congrArg (fun k => D.p (i64 k)) (by dsimp only; omega))) (leL_r (by first | rfl | (first | (dsimp only; rw [if_pos (show otherI i < (lv.getD k []).length by omega)]; simp) | (dsimp only; rw [if_neg (show ¬ otherI i < (lv.getD k []).length by omega)]; simp) | exact congrArg (fun k => D.p (i64 k)) (by dsimp only; omega))) (leL_a (leL_a (leL_a (leL_a (leL_a (leL_a (leL_a (leL_a (leL_a (leL_a (leL_a (leL_a (leL_a (leL_a (leL_a (leL_a (leL_a (leL_a (leL_a (leL_a (leL_nil))))))))))))))))))))))))))))))))))))))))))))))))))), (leB_r rfl (leL_r (by first | rfl | (first | (dsimp only; rw [if_pos (show otherI i < (lv.getD k []).length by omega)]; simp) | (dsimp only; rw [if_neg (show ¬ otherI i < (lv.getD k []).length by omega)]; simp) | exact congrArg (fun k => D.p (i64 k)) (by dsimp only; omega))) (leL_r (by first | rfl | (first | (dsimp only; rw [if_pos (show otherI i < (lv.getD k []).length by omega)]; simp) | (dsimp only; rw [if_neg (show ¬ otherI i < (lv.getD k []).length by omega)]; simp) | exact congrArg (fun k => D.p (i64 k)) (by dsimp only; omega))) (leL_r (by first | rfl | (first | (dsimp only; rw [if_pos (show otherI i < (lv.getD k []).length by omega)]; simp) | (dsimp only; rw [if_neg (show ¬ otherI i < (lv.getD k []).length by omega)]; simp) | exact congrArg (fun k => D.p (i64 k)) (by dsimp only; omega))) (leL_nil)))) (leB_nil _)), (leV_r (by first | rfl | (first | (dsimp only; rw [if_pos (show otherI i < (lv.getD k []).length by omega)]; simp) | (dsimp only; rw [if_neg (show ¬ otherI i < (lv.getD k []).length by omega)]; simp) | exact congrArg (fun k => D.p (i64 k)) (by dsimp only; omega))) (leV_nil _)), rfl, rfl⟩) ?_
      rintro ⟨k, i, out⟩ hI
      dsimp only at hI ⊢
      have hI1 := hI.1
      have hI2 := hI.2.1
      have hI3 := hI.2.2.1
      refine aw_seq ?_
      refine aw_regK hX hb [0] rfl (σ' := ?s10) (fun K hK => ?h10) ?n10
      case h10 =>
        (refine st_op rfl (by simp (disch := omega) only [stepf,callOf,qop,fop,St.ev,St.put,cd,zd,Value.oneCell',tb_T,TypeDesc.aggB,getD_0,getD_s,Ze,Zd,Zc,Za,Zb,Zr,ZE,ZF,Zf,Zq,Zg,i64_w,Zt,Zs,qBin,iop,t3,ti3,map_at_l,map_at_i,Zh,quo_w,ne_eq,not_true_eq_false,not_false_eq_true,not_two_zero,xor_one] <;> exact rfl) ?_)
        refine aops_nil ?_
        exact hK
      refine exq_n ?_
      refine aw_seq ?_
      refine aw_cond _ rfl (fun hc2 => ?_) (fun hc2 => ?_)
      · try simp only [Zp,Zi,ZK,ZJ,ne_eq,Zn,Zm,ZB,ZA,ZI,not_or,not_and,Zu] at hc2
        refine aw_skip ?_
        refine exq_n ?_
        refine aw_seq ?_
        refine aw_block ?_
        refine aw_seq ?_
        refine aw_regK hX hb [0, 1, 2] rfl (σ' := ?s11) (fun K hK => ?h11) ?n11
        case h11 =>
          iterate 3 (refine st_op rfl (by simp (disch := omega) only [stepf,callOf,qop,fop,St.ev,St.put,cd,zd,Value.oneCell',tb_T,TypeDesc.aggB,getD_0,getD_s,Ze,Zd,Zc,Za,Zb,Zr,ZE,ZF,Zf,Zq,Zg,i64_w,Zt,Zs,Int.toNat_zero,Int.toNat_one,toNat_pred,toNat_succ,qIndexAddr,ZO,Nat.mul_one,ZC,Nat.zero_mul,Zh,Zl,Zo,Zv,Zw,Zj,Zk,Zx,Zy,qLoad,bload,pload,pureAll,D.pure?,ZD,t24,ti24,t58,ti58,t60,ti60,map_at_l,map_at_i,quo_w,ne_eq,not_true_eq_false,not_false_eq_true,not_two_zero,xor_one] <;> exact rfl) ?_)
          refine aops_nil ?_
          exact hK
        refine exq_n ?_
        refine aw_seq ?_
        refine aw_seq ?_
        refine aw_regK hX hb [0, 1, 2] rfl (σ' := ?s12) (fun K hK => ?h12) ?n12
        case h12 =>
          iterate 3 (refine st_op rfl (by simp (disch := omega) only [stepf,callOf,qop,fop,St.ev,St.put,cd,zd,Value.oneCell',tb_T,TypeDesc.aggB,getD_0,getD_s,Ze,Zd,Zc,Za,Zb,Zr,ZE,ZF,Zf,Zq,Zg,i64_w,Zt,Zs,qBin,iop,t1,ti1,t3,ti3,t35,ti35,map_at_l,map_at_i,Zh,quo_w,ne_eq,not_true_eq_false,not_false_eq_true,not_two_zero,xor_one] <;> exact rfl) ?_)
          refine aops_nil ?_
          exact hK
        refine exq_n ?_
        refine aw_seq ?_
        refine aw_regK hX hb [0, 1, 2, 3] rfl (σ' := ?s13) (fun K hK => ?h13) ?n13
        case h13 =>
          iterate 4 (refine st_op rfl (by simp (disch := omega) only [stepf,callOf,qop,fop,St.ev,St.put,cd,zd,Value.oneCell',tb_T,TypeDesc.aggB,getD_0,getD_s,Ze,Zd,Zc,Za,Zb,Zr,ZE,ZF,Zf,Zq,Zg,i64_w,Zt,Zs,qLen,qBin,iop,t3,ti3,t58,ti58,t60,ti60,map_at_l,map_at_i,Zh,quo_w,ne_eq,not_true_eq_false,not_false_eq_true,not_two_zero,xor_one] <;> exact rfl) ?_)
          refine aops_nil ?_
          exact hK
        refine exq_n ?_
        refine aw_cond _ rfl (fun hc3 => ?_) (fun hc3 => ?_)
        · try simp only [Zp,Zi,ZK,ZJ,ne_eq,Zn,Zm,ZB,ZA,ZI,not_or,not_and,Zu] at hc3
          refine aw_regK hX hb [0, 1, 2, 3, 4, 5, 6, 7] rfl (σ' := ?s14) (fun K hK => ?h14) ?n14
          case h14 =>
            iterate 8 (refine st_op rfl (by simp (disch := omega) only [stepf,callOf,qop,fop,St.ev,St.put,cd,zd,Value.oneCell',tb_T,TypeDesc.aggB,getD_0,getD_s,Ze,Zd,Zc,Za,Zb,Zr,ZE,ZF,Zf,Zq,Zg,i64_w,Zt,Zs,Int.toNat_zero,Int.toNat_one,toNat_pred,toNat_succ,qIndexAddr,ZO,Nat.mul_one,ZC,Nat.zero_mul,Zh,Zl,Zo,Zv,Zw,Zj,Zk,Zx,Zy,qLoad,bload,pload,pureAll,D.pure?,ZD,tb_N,tbO_N,tbW_N,tb_O,fBuildSlice,catCells,D.cells?,range_1,range_2,range_3,range_4,range_5,ZG,ZH,ZL,ZM,ZN,sec8_length,Nat.reduceAdd,Nat.reduceMul,fAppend,appV,St.demote,D.demote,St.setVec,List.length_append,reduceIte,t1,ti1,t3,ti3,t35,ti35,t40,ti40,t58,ti58,t60,ti60,map_at_l,map_at_i,quo_w,ne_eq,not_true_eq_false,not_false_eq_true,not_two_zero,xor_one] <;> exact rfl) ?_)
            refine aops_nil ?_
            exact hK
          refine exq_n ?_
          refine aw_regK hX hb [0, 1, 2] rfl (σ' := ?s15) (fun K hK => ?h15) ?n15
          case h15 =>
            iterate 3 (refine st_op rfl (by simp (disch := omega) only [stepf,callOf,qop,fop,St.ev,St.put,cd,zd,Value.oneCell',tb_T,TypeDesc.aggB,getD_0,getD_s,Ze,Zd,Zc,Za,Zb,Zr,ZE,ZF,Zf,Zq,Zg,i64_w,Zt,Zs,qBin,iop,t1,ti1,t2,ti2,t3,ti3,t5,ti5,t22,ti22,t47,ti47,t50,ti50,map_at_l,map_at_i,Zh,quo_w,ne_eq,not_true_eq_false,not_false_eq_true,not_two_zero,xor_one] <;> exact rfl) ?_)
            refine aops_nil ?_
            exact hK
          refine exb_n ?_
          refine exq_n ?_
          refine aw_regK hX hb [0, 1] rfl (σ' := ?s16) (fun K hK => ?h16) ?n16
          case h16 =>
            iterate 2 (refine st_op rfl (by simp (disch := omega) only [stepf,callOf,qop,fop,St.ev,St.put,cd,zd,Value.oneCell',tb_T,TypeDesc.aggB,getD_0,getD_s,Ze,Zd,Zc,Za,Zb,Zr,ZE,ZF,Zf,Zq,Zg,i64_w,Zt,Zs,qBin,iop,t1,ti1,t3,ti3,map_at_l,map_at_i,Zh,quo_w,ne_eq,not_true_eq_false,not_false_eq_true,not_two_zero,xor_one] <;> exact rfl) ?_)
            refine aops_nil ?_
            exact hK
          refine exq_n ?_
          exact ⟨(k + 1, i / 2, out ++ if otherI i < (lv.getD k []).length then [(lv.getD k []).getD (otherI i) 0] else []), by exact prfI_step hI (show k < lv.length by omega), by (try dsimp only); omega, wk_le ⟨rfl, leL_a (leL_r (by first | rfl | (first | (dsimp only; rw [if_pos (show otherI i < (lv.getD k []).length by omega)]; simp) | (dsimp only; rw [if_neg (show ¬ otherI i < (lv.getD k []).length by omega)]; simp) | exact congrArg (fun k => D.p (i64 k)) (by dsimp only; omega))) (leL_r (by first | rfl | (first | (dsimp only; rw [if_pos (show otherI i < (lv.getD k []).length by omega)]; simp) | (dsimp only; rw [if_neg (show ¬ otherI i < (lv.getD k []).length by omega)]; simp) | exact congrArg (fun k => D.p (i64 k)) (by dsimp only; omega))) (leL_a (leL_a (leL_r (by first | rfl | (first | (dsimp only; rw [if_pos (show otherI i < (lv.getD k []).length by omega)]; simp) | (dsimp only; rw [if_neg (show ¬ otherI i < (lv.getD k []).length by omega)]; simp) | exact congrArg (fun k => D.p (i64 k)) (by dsimp only; omega))) (leL_a (leL_r (by first | rfl | (first | (dsimp only; rw [if_pos (show otherI i < (lv.getD k []).length by omega)]; simp) | (dsimp only; rw [if_neg (show ¬ otherI i < (lv.getD k []).length by omega)]; simp) | exact congrArg (fun k => D.p (i64 k)) (by dsimp only; omega))) (leL_a (leL_a (leL_a (leL_a (leL_a (leL_a (leL_a (leL_a (leL_a (leL_a (leL_a (leL_a (leL_a (leL_a (leL_a (leL_a (leL_a (leL_a (leL_a (leL_a (leL_r (by first | rfl | (first | (dsimp only; rw [if_pos (show otherI i < (lv.getD k []).length by omega)]; simp) | (dsimp only; rw [if_neg (show ¬ otherI i < (lv.getD k []).length by omega)]; simp) | exact congrArg (fun k => D.p (i64 k)) (by dsimp only; omega))) (leL_r (by first | rfl | (first | (dsimp only; rw [if_pos (show otherI i < (lv.getD k []).length by omega)]; simp) | (dsimp only; rw [if_neg (show ¬ otherI i < (lv.getD k []).length by omega)]; simp) | exact congrArg (fun k => D.p (i64 k)) (by dsimp only; omega))) (leL_r (by first | rfl | (first | (dsimp only; rw [if_pos (show otherI i < (lv.getD k []).length by omega)]; simp) | (dsimp only; rw [if_neg (show ¬ otherI i < (lv.getD k []).length by omega)]; simp) | exact congrArg (fun k => D.p (i64 k)) (by dsimp only; omega))) (leL_a (leL_a (leL_a (leL_a (leL_a (leL_a (leL_a (leL_a (leL_a (leL_a (leL_a (leL_a (leL_a (leL_a (leL_a (leL_a (leL_a (leL_a (leL_a (leL_a (leL_nil))))))))))))))))))))))))))))))))))))))))))))))))))), (leB_r rfl (leL_r (by first | rfl | (first | (dsimp only; rw [if_pos (show otherI i < (lv.getD k []).length by omega)]; simp) | (dsimp only; rw [if_neg (show ¬ otherI i < (lv.getD k []).length by omega)]; simp) | exact congrArg (fun k => D.p (i64 k)) (by dsimp only; omega))) (leL_r (by first | rfl | (first | (dsimp only; rw [if_pos (show otherI i < (lv.getD k []).length by omega)]; simp) | (dsimp only; rw [if_neg (show ¬ otherI i < (lv.getD k []).length by omega)]; simp) | exact congrArg (fun k => D.p (i64 k)) (by dsimp only; omega))) (leL_r (by first | rfl | (first | (dsimp only; rw [if_pos (show otherI i < (lv.getD k []).length by omega)]; simp) | (dsimp only; rw [if_neg (show ¬ otherI i < (lv.getD k []).length by omega)]; simp) | exact congrArg (fun k => D.p (i64 k)) (by dsimp only; omega))) (leL_nil)))) (leB_nil _)), (leV_r (by first | rfl | (first | (dsimp only; rw [if_pos (show otherI i < (lv.getD k []).length by omega)]; simp) | (dsimp only; rw [if_neg (show ¬ otherI i < (lv.getD k []).length by omega)]; simp) | exact congrArg (fun k => D.p (i64 k)) (by dsimp only; omega))) (leV_nil _)), rfl, rfl⟩⟩
        · try simp only [Zp,Zi,ZK,ZJ,ne_eq,Zn,Zm,ZB,ZA,ZI,not_or,not_and,Zu] at hc3
          refine aw_skip ?_
          refine exq_n ?_
          refine aw_regK hX hb [0, 1, 2] rfl (σ' := ?s17) (fun K hK => ?h17) ?n17
          case h17 =>
            iterate 3 (refine st_op rfl (by simp (disch := omega) only [stepf,callOf,qop,fop,St.ev,St.put,cd,zd,Value.oneCell',tb_T,TypeDesc.aggB,getD_0,getD_s,Ze,Zd,Zc,Za,Zb,Zr,ZE,ZF,Zf,Zq,Zg,i64_w,Zt,Zs,qBin,iop,t1,ti1,t2,ti2,t3,ti3,t5,ti5,t22,ti22,t47,ti47,t50,ti50,map_at_l,map_at_i,Zh,quo_w,ne_eq,not_true_eq_false,not_false_eq_true,not_two_zero,xor_one] <;> exact rfl) ?_)
            refine aops_nil ?_
            exact hK
          refine exb_n ?_
          refine exq_n ?_
          refine aw_regK hX hb [0, 1] rfl (σ' := ?s18) (fun K hK => ?h18) ?n18
          case h18 =>
            iterate 2 (refine st_op rfl (by simp (disch := omega) only [stepf,callOf,qop,fop,St.ev,St.put,cd,zd,Value.oneCell',tb_T,TypeDesc.aggB,getD_0,getD_s,Ze,Zd,Zc,Za,Zb,Zr,ZE,ZF,Zf,Zq,Zg,i64_w,Zt,Zs,qBin,iop,t1,ti1,t3,ti3,map_at_l,map_at_i,Zh,quo_w,ne_eq,not_true_eq_false,not_false_eq_true,not_two_zero,xor_one] <;> exact rfl) ?_)
            refine aops_nil ?_
            exact hK
          refine exq_n ?_
          exact ⟨(k + 1, i / 2, out ++ if otherI i < (lv.getD k []).length then [(lv.getD k []).getD (otherI i) 0] else []), by exact prfI_step hI (show k < lv.length by omega), by (try dsimp only); omega, wk_le ⟨rfl, leL_a (leL_r (by first | rfl | (first | (dsimp only; rw [if_pos (show otherI i < (lv.getD k []).length by omega)]; simp) | (dsimp only; rw [if_neg (show ¬ otherI i < (lv.getD k []).length by omega)]; simp) | exact congrArg (fun k => D.p (i64 k)) (by dsimp only; omega))) (leL_r (by first | rfl | (first | (dsimp only; rw [if_pos (show otherI i < (lv.getD k []).length by omega)]; simp) | (dsimp only; rw [if_neg (show ¬ otherI i < (lv.getD k []).length by omega)]; simp) | exact congrArg (fun k => D.p (i64 k)) (by dsimp only; omega))) (leL_a (leL_a (leL_r (by first | rfl | (first | (dsimp only; rw [if_pos (show otherI i < (lv.getD k []).length by omega)]; simp) | (dsimp only; rw [if_neg (show ¬ otherI i < (lv.getD k []).length by omega)]; simp) | exact congrArg (fun k => D.p (i64 k)) (by dsimp only; omega))) (leL_a (leL_r (by first | rfl | (first | (dsimp only; rw [if_pos (show otherI i < (lv.getD k []).length by omega)]; simp) | (dsimp only; rw [if_neg (show ¬ otherI i < (lv.getD k []).length by omega)]; simp) | exact congrArg (fun k => D.p (i64 k)) (by dsimp only; omega))) (leL_a (leL_a (leL_a (leL_a (leL_a (leL_a (leL_a (leL_a (leL_a (leL_a (leL_a (leL_a (leL_a (leL_a (leL_a (leL_a (leL_a (leL_a (leL_a (leL_a (leL_r (by first | rfl | (first | (dsimp only; rw [if_pos (show otherI i < (lv.getD k []).length by omega)]; simp) | (dsimp only; rw [if_neg (show ¬ otherI i < (lv.getD k []).length by omega)]; simp) | exact congrArg (fun k => D.p (i64 k)) (by dsimp only; omega))) (leL_r (by first | rfl | (first | (dsimp only; rw [if_pos (show otherI i < (lv.getD k []).length by omega)]; simp) | (dsimp only; rw [if_neg (show ¬ otherI i < (lv.getD k []).length by omega)]; simp) | exact congrArg (fun k => D.p (i64 k)) (by dsimp only; omega))) (leL_r (by first | rfl | (first | (dsimp only; rw [if_pos (show otherI i < (lv.getD k []).length by omega)]; simp) | (dsimp only; rw [if_neg (show ¬ otherI i < (lv.getD k []).length by omega)]; simp) | exact congrArg (fun k => D.p (i64 k)) (by dsimp only; omega))) (leL_a (leL_a (leL_a (leL_a (leL_a (leL_a (leL_a (leL_a (leL_a (leL_a (leL_a (leL_a (leL_a (leL_a (leL_a (leL_a (leL_a (leL_a (leL_a (leL_a (leL_nil))))))))))))))))))))))))))))))))))))))))))))))))))), (leB_r rfl (leL_r (by first | rfl | (first | (dsimp only; rw [if_pos (show otherI i < (lv.getD k []).length by omega)]; simp) | (dsimp only; rw [if_neg (show ¬ otherI i < (lv.getD k []).length by omega)]; simp) | exact congrArg (fun k => D.p (i64 k)) (by dsimp only; omega))) (leL_r (by first | rfl | (first | (dsimp only; rw [if_pos (show otherI i < (lv.getD k []).length by omega)]; simp) | (dsimp only; rw [if_neg (show ¬ otherI i < (lv.getD k []).length by omega)]; simp) | exact congrArg (fun k => D.p (i64 k)) (by dsimp only; omega))) (leL_r (by first | rfl | (first | (dsimp only; rw [if_pos (show otherI i < (lv.getD k []).length by omega)]; simp) | (dsimp only; rw [if_neg (show ¬ otherI i < (lv.getD k []).length by omega)]; simp) | exact congrArg (fun k => D.p (i64 k)) (by dsimp only; omega))) (leL_nil)))) (leB_nil _)), (leV_r (by first | rfl | (first | (dsimp only; rw [if_pos (show otherI i < (lv.getD k []).length by omega)]; simp) | (dsimp only; rw [if_neg (show ¬ otherI i < (lv.getD k []).length by omega)]; simp) | exact congrArg (fun k => D.p (i64 k)) (by dsimp only; omega))) (leV_nil _)), rfl, rfl⟩⟩
      · try simp only [Zp,Zi,ZK,ZJ,ne_eq,Zn,Zm,ZB,ZA,ZI,not_or,not_and,Zu] at hc2
        refine aw_exit ?_
        refine exq_e ?_
        refine exq_e ?_
        refine exb_h ?_
        refine exq_n ?_
        refine aw_seq ?_
        refine aw_frz 0 rfl (σ' := ?s20) ?h20 ?n20
        case h20 => simp only [St.freeze,D.freeze,ZG,ZH,Za,Zb,Zr,reduceIte,Nat.reduceEqDiff]; exact rfl
        refine aw_regK hX hb [0, 1, 2] rfl (σ' := ?s19) (fun K hK => ?h19) ?n19
        case h19 =>
          iterate 3 (refine st_op rfl (by simp (disch := omega) only [stepf,callOf,qop,fop,St.ev,St.put,cd,zd,Value.oneCell',tb_T,TypeDesc.aggB,getD_0,getD_s,Ze,Zd,Zc,Za,Zb,Zr,ZE,ZF,Zf,Zq,Zg,i64_w,Zt,Zs,t5,ti5,t50,ti50,map_at_l,map_at_i,Zh,quo_w,ne_eq,not_true_eq_false,not_false_eq_true,not_two_zero,xor_one] <;> exact rfl) ?_)
          refine aops_nil ?_
          exact hK
        refine exq_n ?_
        refine aw_ret ?_
        exact ret_r rfl (resOf_two rfl rfl (by first | rfl | (first | (rw [refPrf, if_pos hc0]; rfl) | (rw [refPrf, if_neg (not_not_intro hc0), if_pos hc1]; rfl) | (rw [refPrf, if_neg (not_not_intro hc0), if_neg (by dsimp only; omega), show proofOf (lv.getD 0 []) ((x : Int)).toNat = out from by rw [Int.toNat_natCast]; exact (hI.2.2.2.2 (by omega)).symm] <;> rfl))))
end Go.Proofs.Ytldcoekbgfaomaa
end
section
namespace Go.Proofs.Ytldcoekbgfaomaa
open Go.RowKit
set_option maxRecDepth 20000
set_option maxHeartbeats 4000000
attribute [local irreducible] AOps AOpsD AW
theorem vl_lim {s f : Int} (h : limI s f = 0) : (1 ≤ s ∧ s ≤ 4096 ∧ 1 ≤ f ∧ f ≤ 4096) ∧ nLeaves s.toNat f.toNat ≤ 4096 := by
  have h1 := limI_0 h
  refine ⟨h1, ?_⟩
  have := nLeaves_le (s := s.toNat) (n := f.toNat) (by omega)
  omega
theorem c76' (s f : Int) (h : limI s f = 0) : ACalls Try.prog 76 [.p (i64 s), .p (i64 f)] (.p (i64 (nLeaves s.toNat f.toNat))) := by
  have h1 := limI_0 h
  have := c76 s.toNat f.toNat (by omega) (by omega)
  rwa [Int.toNat_of_nonneg (by omega), Int.toNat_of_nonneg (by omega)] at this
theorem refVer_b {root size leaf index : Int} {data : List (List Int)} {proof : List Int} (h : ¬ limI size leaf = 0 ∨ index < 0 ∨ (nLeaves size.toNat leaf.toNat : Int) ≤ index ∨ ¬ (data.length : Int) = min leaf (size - index * leaf)) :
    refVer root size leaf index data proof = false := by
  by_cases hl : limI size leaf = 0
  · have h1 := limI_0 hl
    rw [refVer, if_neg (by omega), if_pos]
    rintro ⟨q1, q2, q3⟩
    rcases h with h | h | h | h
    · exact h hl
    · omega
    · omega
    · exact h q3
  · unfold limI at hl
    refine refVer_1 ?_
    split at hl
    · omega
    · split at hl
      · omega
      · exact absurd rfl hl
theorem c39 (root size leaf index : Int) (data : List (List Int)) (proof : List Int) : ACalls Try.prog 39 [.p (u64 root), .p (i64 size), .p (i64 leaf), .p (i64 index), .p (secs data), .p (u64s proof)] (.p (bv (refVer root size leaf index data proof))) := by
  refine acalls_of tb_ok Try.func39 (c := _) rfl (by kernel_rfl) ?_
  intro X hP hX hro hpl
  have hb : tb.Ok X.P := hP ▸ tb_ok
  change AW X _ _ ⟨[], [.p (u64 root), .p (i64 size), .p (i64 leaf), .p (i64 index), .p (secs data), .p (u64s proof), .any, .any, .any, .any, .any, .any, .any, .any, .any, .any, .any, .any, .any, .any, .any, .any, .any, .any, .any, .any, .any, .any, .any, .any, .any, .any, .any, .any, .any, .any, .any, .any, .any, .any, .any, .any, .any, .any, .any, .any, .any, .any, .any, .any, .any, .any, .any, .any, .any, .any, .any, .any, .any, .any, .any, .any, .any, .any, .any, .any, .any, .any, .any, .any, .any, .any, .any, .any, .any, .any, .any, .any, .any, .any, .any, .any, .any, .any], [], []⟩
  refine aw_len (t := 4) rfl fun hld => ?_
  unfold maxLen at hld
  refine aw_seq ?_
  refine aw_regK hX hb [0] rfl (σ' := ?s1) (fun K hK => ?h1) ?n1
  case h1 =>
    (refine st_op rfl (by simp (disch := first | omega | (have hvl := vl_lim (by assumption); omega) | fail) only [stepf,callOf,qop,fop,St.ev,St.put,cd,zd,Value.oneCell',tb_T,TypeDesc.aggB,getD_0,getD_s,Ze,Zd,Zc,Za,Zb,Zr,ZE,ZF,Zf,Zq,Zg,i64_w,Zt,Zs,map_at_i,Zh,quo_w,ne_eq,not_true_eq_false,not_false_eq_true,tmod_two,not_two_zero,mul_cast,xor_one] <;> exact rfl) ?_)
    refine aops_nil ?_
    exact hK
  refine exq_n ?_
  refine aw_seq ?_
  refine aw_seq ?_
  refine aw_regJ hX hb [0, 1, 2, 3, 4, 5, 6, 7, 8, 9, 10, 11, 12, 13, 14, 15, 16, 17, 18, 19, 20, 21, 22, 23, 24, 25, 26] rfl (ts := [15, 16, 17, 18, 19, 20, 21, 22, 23, 24, 25, 26, 27, 28, 29, 30, 31, 32, 33, 34, 35, 36, 37, 38, 39, 40]) (t := 41) (d := .p (bv (¬ limI size leaf = 0 ∨ index < 0 ∨ (nLeaves size.toNat leaf.toNat : Int) ≤ index ∨ ¬ (data.length : Int) = min leaf (size - index * leaf)))) (σ' := ?s2) ?j2 ?h2 ?n2
  case j2 => simp only [St.join,List.foldl,Za,Zb]; exact rfl
  case h2 =>
    iterate 2 (all_goals refine st_op rfl (by simp (disch := first | omega | (have hvl := vl_lim (by assumption); omega) | fail) only [stepf,callOf,qop,fop,St.ev,St.put,cd,zd,Value.oneCell',tb_T,TypeDesc.aggB,getD_0,getD_s,Ze,Zd,Zc,Za,Zb,Zr,ZE,ZF,Zf,Zq,Zg,i64_w,Zt,Zs,pvAll,D.pv?,qBin,iop,qLen,min_ite,t1,ti1,t2,ti2,t3,ti3,t4,ti4,t5,ti5,t22,ti22,t24,ti24,t26,ti26,t27,ti27,t35,ti35,t40,ti40,t50,ti50,t58,ti58,t60,ti60,map_at_i,Zh,quo_w,ne_eq,not_true_eq_false,not_false_eq_true,tmod_two,not_two_zero,mul_cast,xor_one,mul_w,sub_mul_w] <;> exact rfl) ?_)
    refine st_call rfl (by simp only [callOf,St.ev,getD_0,getD_s,pvAll,D.pv?,ZG,ZH,zd,cd,Value.oneCell',Zr] <;> exact rfl) (acK hP (c64 _ _)) (by simp only [St.put,Za,Zb] <;> exact rfl) ?_
    iterate 2 (all_goals refine st_op rfl (by simp (disch := first | omega | (have hvl := vl_lim (by assumption); omega) | fail) only [stepf,callOf,qop,fop,St.ev,St.put,cd,zd,Value.oneCell',tb_T,TypeDesc.aggB,getD_0,getD_s,Ze,Zd,Zc,Za,Zb,Zr,ZE,ZF,Zf,Zq,Zg,i64_w,Zt,Zs,pvAll,D.pv?,qBin,iop,qLen,min_ite,t1,ti1,t2,ti2,t3,ti3,t4,ti4,t5,ti5,t22,ti22,t24,ti24,t26,ti26,t27,ti27,t35,ti35,t40,ti40,t50,ti50,t58,ti58,t60,ti60,map_at_i,Zh,quo_w,ne_eq,not_true_eq_false,not_false_eq_true,tmod_two,not_two_zero,mul_cast,xor_one,mul_w,sub_mul_w] <;> exact rfl) ?_)
    iterate 2 (all_goals first | (refine st_g1 rfl rfl rfl (by simp (disch := first | omega | (have hvl := vl_lim (by assumption); omega) | fail) only [stepf,callOf,qop,fop,St.ev,St.put,cd,zd,Value.oneCell',tb_T,TypeDesc.aggB,getD_0,getD_s,Ze,Zd,Zc,Za,Zb,Zr,ZE,ZF,Zf,Zq,Zg,i64_w,Zt,Zs,pvAll,D.pv?,qBin,iop,qLen,min_ite,t1,ti1,t2,ti2,t3,ti3,t4,ti4,t5,ti5,t22,ti22,t24,ti24,t26,ti26,t27,ti27,t35,ti35,t40,ti40,t50,ti50,t58,ti58,t60,ti60,map_at_i,Zh,quo_w,ne_eq,not_true_eq_false,not_false_eq_true,tmod_two,not_two_zero,mul_cast,xor_one,mul_w,sub_mul_w] <;> exact rfl) ?_) | (first | (refine st_g0 rfl rfl rfl (by simp only [St.put,Za,Zb] <;> exact rfl) ?_) | (refine st_gu rfl rfl rfl (by simp only [St.put,Za,Zb] <;> exact rfl) ?_)) | (refine st_split rfl rfl rfl (by simp only [Za,Zb] <;> exact rfl) (by simp only [Za,Zb] <;> exact rfl) (fun hg => ?_) (fun hg => ?_) <;> (try simp only [Zp,Zi,ZJ,ZK,ne_eq,Zn,Zm,Bool.not_eq_true,Zu] at hg) <;> first | (refine st_g1 rfl rfl rfl (by simp (disch := first | omega | (have hvl := vl_lim (by assumption); omega) | fail) only [stepf,callOf,qop,fop,St.ev,St.put,cd,zd,Value.oneCell',tb_T,TypeDesc.aggB,getD_0,getD_s,Ze,Zd,Zc,Za,Zb,Zr,ZE,ZF,Zf,Zq,Zg,i64_w,Zt,Zs,pvAll,D.pv?,qBin,iop,qLen,min_ite,t1,ti1,t2,ti2,t3,ti3,t4,ti4,t5,ti5,t22,ti22,t24,ti24,t26,ti26,t27,ti27,t35,ti35,t40,ti40,t50,ti50,t58,ti58,t60,ti60,map_at_i,Zh,quo_w,ne_eq,not_true_eq_false,not_false_eq_true,tmod_two,not_two_zero,mul_cast,xor_one,mul_w,sub_mul_w] <;> exact rfl) ?_) | (first | (refine st_g0 rfl rfl rfl (by simp only [St.put,Za,Zb] <;> exact rfl) ?_) | (refine st_gu rfl rfl rfl (by simp only [St.put,Za,Zb] <;> exact rfl) ?_))))
    iterate 2 (all_goals refine st_op rfl (by simp (disch := first | omega | (have hvl := vl_lim (by assumption); omega) | fail) only [stepf,callOf,qop,fop,St.ev,St.put,cd,zd,Value.oneCell',tb_T,TypeDesc.aggB,getD_0,getD_s,Ze,Zd,Zc,Za,Zb,Zr,ZE,ZF,Zf,Zq,Zg,i64_w,Zt,Zs,pvAll,D.pv?,qBin,iop,qLen,min_ite,t1,ti1,t2,ti2,t3,ti3,t4,ti4,t5,ti5,t22,ti22,t24,ti24,t26,ti26,t27,ti27,t35,ti35,t40,ti40,t50,ti50,t58,ti58,t60,ti60,map_at_i,Zh,quo_w,ne_eq,not_true_eq_false,not_false_eq_true,tmod_two,not_two_zero,mul_cast,xor_one,mul_w,sub_mul_w] <;> exact rfl) ?_)
    iterate 3 (all_goals first | (refine st_g1 rfl rfl rfl (by simp (disch := first | omega | (have hvl := vl_lim (by assumption); omega) | fail) only [stepf,callOf,qop,fop,St.ev,St.put,cd,zd,Value.oneCell',tb_T,TypeDesc.aggB,getD_0,getD_s,Ze,Zd,Zc,Za,Zb,Zr,ZE,ZF,Zf,Zq,Zg,i64_w,Zt,Zs,pvAll,D.pv?,qBin,iop,qLen,min_ite,t1,ti1,t2,ti2,t3,ti3,t4,ti4,t5,ti5,t22,ti22,t24,ti24,t26,ti26,t27,ti27,t35,ti35,t40,ti40,t50,ti50,t58,ti58,t60,ti60,map_at_i,Zh,quo_w,ne_eq,not_true_eq_false,not_false_eq_true,tmod_two,not_two_zero,mul_cast,xor_one,mul_w,sub_mul_w] <;> exact rfl) ?_) | (first | (refine st_g0 rfl rfl rfl (by simp only [St.put,Za,Zb] <;> exact rfl) ?_) | (refine st_gu rfl rfl rfl (by simp only [St.put,Za,Zb] <;> exact rfl) ?_)) | (refine st_split rfl rfl rfl (by simp only [Za,Zb] <;> exact rfl) (by simp only [Za,Zb] <;> exact rfl) (fun hg => ?_) (fun hg => ?_) <;> (try simp only [Zp,Zi,ZJ,ZK,ne_eq,Zn,Zm,Bool.not_eq_true,Zu] at hg) <;> first | (refine st_g1 rfl rfl rfl (by simp (disch := first | omega | (have hvl := vl_lim (by assumption); omega) | fail) only [stepf,callOf,qop,fop,St.ev,St.put,cd,zd,Value.oneCell',tb_T,TypeDesc.aggB,getD_0,getD_s,Ze,Zd,Zc,Za,Zb,Zr,ZE,ZF,Zf,Zq,Zg,i64_w,Zt,Zs,pvAll,D.pv?,qBin,iop,qLen,min_ite,t1,ti1,t2,ti2,t3,ti3,t4,ti4,t5,ti5,t22,ti22,t24,ti24,t26,ti26,t27,ti27,t35,ti35,t40,ti40,t50,ti50,t58,ti58,t60,ti60,map_at_i,Zh,quo_w,ne_eq,not_true_eq_false,not_false_eq_true,tmod_two,not_two_zero,mul_cast,xor_one,mul_w,sub_mul_w] <;> exact rfl) ?_) | (first | (refine st_g0 rfl rfl rfl (by simp only [St.put,Za,Zb] <;> exact rfl) ?_) | (refine st_gu rfl rfl rfl (by simp only [St.put,Za,Zb] <;> exact rfl) ?_))))
    all_goals first | (refine st_gc rfl rfl rfl (by simp only [callOf,St.ev,getD_0,getD_s,pvAll,D.pv?,ZG,ZH,zd,cd,Value.oneCell',Zr] <;> exact rfl) (acK hP (c76' _ _ (by assumption))) (by simp only [St.put,Za,Zb] <;> exact rfl) ?_) | (first | (refine st_g0 rfl rfl rfl (by simp only [St.put,Za,Zb] <;> exact rfl) ?_) | (refine st_gu rfl rfl rfl (by simp only [St.put,Za,Zb] <;> exact rfl) ?_)) | (refine st_split rfl rfl rfl (by simp only [Za,Zb] <;> exact rfl) (by simp only [Za,Zb] <;> exact rfl) (fun hg => ?_) (fun hg => ?_) <;> (try simp only [Zp,Zi,ZJ,ZK,ne_eq,Zn,Zm,Bool.not_eq_true,Zu] at hg) <;> first | (refine st_gc rfl rfl rfl (by simp only [callOf,St.ev,getD_0,getD_s,pvAll,D.pv?,ZG,ZH,zd,cd,Value.oneCell',Zr] <;> exact rfl) (acK hP (c76' _ _ (by assumption))) (by simp only [St.put,Za,Zb] <;> exact rfl) ?_) | (first | (refine st_g0 rfl rfl rfl (by simp only [St.put,Za,Zb] <;> exact rfl) ?_) | (refine st_gu rfl rfl rfl (by simp only [St.put,Za,Zb] <;> exact rfl) ?_)))
    (all_goals first | (refine st_g1 rfl rfl rfl (by simp (disch := first | omega | (have hvl := vl_lim (by assumption); omega) | fail) only [stepf,callOf,qop,fop,St.ev,St.put,cd,zd,Value.oneCell',tb_T,TypeDesc.aggB,getD_0,getD_s,Ze,Zd,Zc,Za,Zb,Zr,ZE,ZF,Zf,Zq,Zg,i64_w,Zt,Zs,pvAll,D.pv?,qBin,iop,qLen,min_ite,t1,ti1,t2,ti2,t3,ti3,t4,ti4,t5,ti5,t22,ti22,t24,ti24,t26,ti26,t27,ti27,t35,ti35,t40,ti40,t50,ti50,t58,ti58,t60,ti60,map_at_i,Zh,quo_w,ne_eq,not_true_eq_false,not_false_eq_true,tmod_two,not_two_zero,mul_cast,xor_one,mul_w,sub_mul_w] <;> exact rfl) ?_) | (first | (refine st_g0 rfl rfl rfl (by simp only [St.put,Za,Zb] <;> exact rfl) ?_) | (refine st_gu rfl rfl rfl (by simp only [St.put,Za,Zb] <;> exact rfl) ?_)) | (refine st_split rfl rfl rfl (by simp only [Za,Zb] <;> exact rfl) (by simp only [Za,Zb] <;> exact rfl) (fun hg => ?_) (fun hg => ?_) <;> (try simp only [Zp,Zi,ZJ,ZK,ne_eq,Zn,Zm,Bool.not_eq_true,Zu] at hg) <;> first | (refine st_g1 rfl rfl rfl (by simp (disch := first | omega | (have hvl := vl_lim (by assumption); omega) | fail) only [stepf,callOf,qop,fop,St.ev,St.put,cd,zd,Value.oneCell',tb_T,TypeDesc.aggB,getD_0,getD_s,Ze,Zd,Zc,Za,Zb,Zr,ZE,ZF,Zf,Zq,Zg,i64_w,Zt,Zs,pvAll,D.pv?,qBin,iop,qLen,min_ite,t1,ti1,t2,ti2,t3,ti3,t4,ti4,t5,ti5,t22,ti22,t24,ti24,t26,ti26,t27,ti27,t35,ti35,t40,ti40,t50,ti50,t58,ti58,t60,ti60,map_at_i,Zh,quo_w,ne_eq,not_true_eq_false,not_false_eq_true,tmod_two,not_two_zero,mul_cast,xor_one,mul_w,sub_mul_w] <;> exact rfl) ?_) | (first | (refine st_g0 rfl rfl rfl (by simp only [St.put,Za,Zb] <;> exact rfl) ?_) | (refine st_gu rfl rfl rfl (by simp only [St.put,Za,Zb] <;> exact rfl) ?_))))
    iterate 2 (all_goals refine st_op rfl (by simp (disch := first | omega | (have hvl := vl_lim (by assumption); omega) | fail) only [stepf,callOf,qop,fop,St.ev,St.put,cd,zd,Value.oneCell',tb_T,TypeDesc.aggB,getD_0,getD_s,Ze,Zd,Zc,Za,Zb,Zr,ZE,ZF,Zf,Zq,Zg,i64_w,Zt,Zs,pvAll,D.pv?,qBin,iop,qLen,min_ite,t1,ti1,t2,ti2,t3,ti3,t4,ti4,t5,ti5,t22,ti22,t24,ti24,t26,ti26,t27,ti27,t35,ti35,t40,ti40,t50,ti50,t58,ti58,t60,ti60,map_at_i,Zh,quo_w,ne_eq,not_true_eq_false,not_false_eq_true,tmod_two,not_two_zero,mul_cast,xor_one,mul_w,sub_mul_w] <;> exact rfl) ?_)
    iterate 10 (all_goals first | (refine st_g1 rfl rfl rfl (by simp (disch := first | omega | (have hvl := vl_lim (by assumption); omega) | fail) only [stepf,callOf,qop,fop,St.ev,St.put,cd,zd,Value.oneCell',tb_T,TypeDesc.aggB,getD_0,getD_s,Ze,Zd,Zc,Za,Zb,Zr,ZE,ZF,Zf,Zq,Zg,i64_w,Zt,Zs,pvAll,D.pv?,qBin,iop,qLen,min_ite,t1,ti1,t2,ti2,t3,ti3,t4,ti4,t5,ti5,t22,ti22,t24,ti24,t26,ti26,t27,ti27,t35,ti35,t40,ti40,t50,ti50,t58,ti58,t60,ti60,map_at_i,Zh,quo_w,ne_eq,not_true_eq_false,not_false_eq_true,tmod_two,not_two_zero,mul_cast,xor_one,mul_w,sub_mul_w] <;> exact rfl) ?_) | (first | (refine st_g0 rfl rfl rfl (by simp only [St.put,Za,Zb] <;> exact rfl) ?_) | (refine st_gu rfl rfl rfl (by simp only [St.put,Za,Zb] <;> exact rfl) ?_)) | (refine st_split rfl rfl rfl (by simp only [Za,Zb] <;> exact rfl) (by simp only [Za,Zb] <;> exact rfl) (fun hg => ?_) (fun hg => ?_) <;> (try simp only [Zp,Zi,ZJ,ZK,ne_eq,Zn,Zm,Bool.not_eq_true,Zu] at hg) <;> first | (refine st_g1 rfl rfl rfl (by simp (disch := first | omega | (have hvl := vl_lim (by assumption); omega) | fail) only [stepf,callOf,qop,fop,St.ev,St.put,cd,zd,Value.oneCell',tb_T,TypeDesc.aggB,getD_0,getD_s,Ze,Zd,Zc,Za,Zb,Zr,ZE,ZF,Zf,Zq,Zg,i64_w,Zt,Zs,pvAll,D.pv?,qBin,iop,qLen,min_ite,t1,ti1,t2,ti2,t3,ti3,t4,ti4,t5,ti5,t22,ti22,t24,ti24,t26,ti26,t27,ti27,t35,ti35,t40,ti40,t50,ti50,t58,ti58,t60,ti60,map_at_i,Zh,quo_w,ne_eq,not_true_eq_false,not_false_eq_true,tmod_two,not_two_zero,mul_cast,xor_one,mul_w,sub_mul_w] <;> exact rfl) ?_) | (first | (refine st_g0 rfl rfl rfl (by simp only [St.put,Za,Zb] <;> exact rfl) ?_) | (refine st_gu rfl rfl rfl (by simp only [St.put,Za,Zb] <;> exact rfl) ?_))))
    (all_goals refine st_op rfl (by simp (disch := first | omega | (have hvl := vl_lim (by assumption); omega) | fail) only [stepf,callOf,qop,fop,St.ev,St.put,cd,zd,Value.oneCell',tb_T,TypeDesc.aggB,getD_0,getD_s,Ze,Zd,Zc,Za,Zb,Zr,ZE,ZF,Zf,Zq,Zg,i64_w,Zt,Zs,pvAll,D.pv?,qBin,iop,qLen,min_ite,t1,ti1,t2,ti2,t3,ti3,t4,ti4,t5,ti5,t22,ti22,t24,ti24,t26,ti26,t27,ti27,t35,ti35,t40,ti40,t50,ti50,t58,ti58,t60,ti60,map_at_i,Zh,quo_w,ne_eq,not_true_eq_false,not_false_eq_true,tmod_two,not_two_zero,mul_cast,xor_one,mul_w,sub_mul_w] <;> exact rfl) ?_)
    all_goals refine aops_nil ?_
    all_goals refine ⟨rfl, ?_, leB_self _, leV_self _, rfl, rfl⟩
    all_goals repeat' (first | exact leL_nil | refine leL_a ?_ | refine leL_r rfl ?_ | refine leL_r ?_ ?_)
    all_goals refine jn ?_
    all_goals ((try simp only [Zp,Zi,ZJ,ZK,Bool.not_eq_true,Zm,Zn,ne_eq,Zf,true_iff,false_iff,iff_true,iff_false] at *) <;> omega)
  refine exq_n ?_
  refine aw_cond _ rfl (fun hc0 => ?_) (fun hc0 => ?_)
  · try simp only [Zp,Zi,ZK,ZJ,ne_eq,Zn,Zm,ZB,ZA,ZI,not_or,not_and,Zu] at hc0
    refine aw_seq ?_
    refine aw_regK hX hb [0] rfl (σ' := ?s3) (fun K hK => ?h3) ?n3
    case h3 =>
      (refine st_op rfl (by simp (disch := first | omega | (have hvl := vl_lim (by assumption); omega) | fail) only [stepf,callOf,qop,fop,St.ev,St.put,cd,zd,Value.oneCell',tb_T,TypeDesc.aggB,getD_0,getD_s,Ze,Zd,Zc,Za,Zb,Zr,ZE,ZF,Zf,Zq,Zg,i64_w,Zt,Zs,map_at_i,Zh,quo_w,ne_eq,not_true_eq_false,not_false_eq_true,tmod_two,not_two_zero,mul_cast,xor_one] <;> exact rfl) ?_)
      refine aops_nil ?_
      exact hK
    refine exq_n ?_
    refine aw_ret ?_
    refine exq_r ?_
    exact ret_r rfl (resOf_one rfl (by first | rfl | (first | (rw [refVer_b hc0]; rfl) | (rw [refVer_3 (by omega) (by omega), ← hv, verL_bad (by omega) (hho.2 (by omega)) (by omega)]; rfl) | (rw [refVer_3 (by omega) (by omega), ← hv, verL_one (by omega)]; exact congrArg (fun b => D.p (bv b)) (decide_eq_decide.2 And.comm)))))
  · try simp only [Zp,Zi,ZK,ZJ,ne_eq,Zn,Zm,ZB,ZA,ZI,not_or,not_and,Zu] at hc0
    have hl0 : limI size leaf = 0 := by omega
    have hl1 := vl_lim hl0
    obtain ⟨S, hS⟩ : ∃ S : Nat, size = S := ⟨size.toNat, by omega⟩
    subst hS
    obtain ⟨F, hF⟩ : ∃ F : Nat, leaf = F := ⟨leaf.toNat, by omega⟩
    subst hF
    obtain ⟨x, hx⟩ : ∃ x : Nat, index = x := ⟨index.toNat, by omega⟩
    subst hx
    rw [Int.toNat_natCast, Int.toNat_natCast] at hl1 hc0
    refine aw_skip ?_
    refine exq_n ?_
    refine aw_seq ?_
    refine aw_regK hX hb [0, 1, 2] rfl (σ' := ?s4) (fun K hK => ?h4) ?n4
    case h4 =>
      (refine st_op rfl (by simp (disch := first | omega | (have hvl := vl_lim (by assumption); omega) | fail) only [stepf,callOf,qop,fop,St.ev,St.put,cd,zd,Value.oneCell',tb_T,TypeDesc.aggB,getD_0,getD_s,Ze,Zd,Zc,Za,Zb,Zr,ZE,ZF,Zf,Zq,Zg,i64_w,Zt,Zs,pvAll,D.pv?,t4,ti4,t5,ti5,t22,ti22,t50,ti50,map_at_i,Zh,quo_w,ne_eq,not_true_eq_false,not_false_eq_true,tmod_two,not_two_zero,mul_cast,xor_one] <;> exact rfl) ?_)
      refine st_call rfl (by simp only [callOf,St.ev,getD_0,getD_s,pvAll,D.pv?,ZG,ZH,zd,cd,Value.oneCell',Zr] <;> exact rfl) (acK hP (c66 _)) (by simp only [St.put,Za,Zb] <;> exact rfl) ?_
      (refine st_op rfl (by simp (disch := first | omega | (have hvl := vl_lim (by assumption); omega) | fail) only [stepf,callOf,qop,fop,St.ev,St.put,cd,zd,Value.oneCell',tb_T,TypeDesc.aggB,getD_0,getD_s,Ze,Zd,Zc,Za,Zb,Zr,ZE,ZF,Zf,Zq,Zg,i64_w,Zt,Zs,pvAll,D.pv?,t4,ti4,t5,ti5,t22,ti22,t50,ti50,map_at_i,Zh,quo_w,ne_eq,not_true_eq_false,not_false_eq_true,tmod_two,not_two_zero,mul_cast,xor_one] <;> exact rfl) ?_)
      refine aops_nil ?_
      exact hK
    refine exq_n ?_
    refine aw_seq ?_
    refine aw_seq ?_
    refine aw_regK hX hb [0, 1, 2, 3] rfl (σ' := ?s5) (fun K hK => ?h5) ?n5
    case h5 =>
      iterate 2 (refine st_op rfl (by simp (disch := first | omega | (have hvl := vl_lim (by assumption); omega) | fail) only [stepf,callOf,qop,fop,St.ev,St.put,cd,zd,Value.oneCell',tb_T,TypeDesc.aggB,getD_0,getD_s,Ze,Zd,Zc,Za,Zb,Zr,ZE,ZF,Zf,Zq,Zg,i64_w,Zt,Zs,pvAll,D.pv?,t1,ti1,t2,ti2,t3,ti3,map_at_i,Zh,quo_w,ne_eq,not_true_eq_false,not_false_eq_true,tmod_two,not_two_zero,mul_cast,xor_one] <;> exact rfl) ?_)
      refine st_call rfl (by simp only [callOf,St.ev,getD_0,getD_s,pvAll,D.pv?,ZG,ZH,zd,cd,Value.oneCell',Zr] <;> exact rfl) (acK hP (c76' _ _ hl0)) (by simp only [St.put,Za,Zb] <;> exact rfl) ?_
      (refine st_op rfl (by simp (disch := first | omega | (have hvl := vl_lim (by assumption); omega) | fail) only [stepf,callOf,qop,fop,St.ev,St.put,cd,zd,Value.oneCell',tb_T,TypeDesc.aggB,getD_0,getD_s,Ze,Zd,Zc,Za,Zb,Zr,ZE,ZF,Zf,Zq,Zg,i64_w,Zt,Zs,pvAll,D.pv?,t1,ti1,t2,ti2,t3,ti3,map_at_i,Zh,quo_w,ne_eq,not_true_eq_false,not_false_eq_true,tmod_two,not_two_zero,mul_cast,xor_one] <;> exact rfl) ?_)
      refine aops_nil ?_
      exact hK
    refine exq_n ?_
    refine aw_block ?_
    refine aw_loop (ι := Nat × Nat × Int × List Int) (fun p => p.1 ≤ 4096 ∧ p.2.1 < p.1 ∧ verL root p.1 p.2.1 p.2.2.1 p.2.2.2 = verL root (nLeaves S F) x (secsD data) proof) (fun p => ⟨[], [.p (u64 root), .any, .any, .p (i64 p.2.1), .any, .p (u64s p.2.2.2), .any, .any, .any, .any, .any, .any, .any, .p (u64 p.2.2.1), .p (i64 p.1), .any, .any, .any, .any, .any, .any, .any, .any, .any, .any, .any, .any, .any, .any, .any, .any, .any, .any, .any, .any, .any, .any, .any, .any, .any, .any, .any, .any, .any, .any, .any, .any, .any, .any, .any, .any, .any, .any, .any, .any, .any, .any, .any, .any, .any, .any, .any, .any, .any, .any, .any, .any, .any, .any, .any, .any, .any, .any, .any, .any, .any, .any, .any, .any, .any, .any, .any, .any, .any], [], []⟩) (fun p => p.1) (nLeaves S F, x, secsD data, proof) (by exact ⟨by dsimp only; omega, by dsimp only; omega, rfl⟩) (wk_le ⟨rfl, leL_r (by first | rfl | (first | (dsimp only; rw [verP, if_pos (hho.2 (by omega))]; simp [List.take_of_length_le]) | (dsimp only; rw [verP, if_neg (fun h => absurd (hho.1 h) (by omega))]) | (dsimp only; rw [verD, if_pos (hho.2 (by omega)), if_pos (by omega)]) | (dsimp only; rw [verD, if_pos (hho.2 (by omega)), if_neg (by omega)]) | (dsimp only; rw [verD, if_neg (fun h => absurd (hho.1 h) (by omega))]) | exact congrArg (fun k => D.p (i64 k)) (by dsimp only; omega))) (leL_a (leL_a (leL_r (by first | rfl | (first | (dsimp only; rw [verP, if_pos (hho.2 (by omega))]; simp [List.take_of_length_le]) | (dsimp only; rw [verP, if_neg (fun h => absurd (hho.1 h) (by omega))]) | (dsimp only; rw [verD, if_pos (hho.2 (by omega)), if_pos (by omega)]) | (dsimp only; rw [verD, if_pos (hho.2 (by omega)), if_neg (by omega)]) | (dsimp only; rw [verD, if_neg (fun h => absurd (hho.1 h) (by omega))]) | exact congrArg (fun k => D.p (i64 k)) (by dsimp only; omega))) (leL_a (leL_r (by first | rfl | (first | (dsimp only; rw [verP, if_pos (hho.2 (by omega))]; simp [List.take_of_length_le]) | (dsimp only; rw [verP, if_neg (fun h => absurd (hho.1 h) (by omega))]) | (dsimp only; rw [verD, if_pos (hho.2 (by omega)), if_pos (by omega)]) | (dsimp only; rw [verD, if_pos (hho.2 (by omega)), if_neg (by omega)]) | (dsimp only; rw [verD, if_neg (fun h => absurd (hho.1 h) (by omega))]) | exact congrArg (fun k => D.p (i64 k)) (by dsimp only; omega))) (leL_a (leL_a (leL_a (leL_a (leL_a (leL_a (leL_a (leL_r (by first | rfl | (first | (dsimp only; rw [verP, if_pos (hho.2 (by omega))]; simp [List.take_of_length_le]) | (dsimp only; rw [verP, if_neg (fun h => absurd (hho.1 h) (by omega))]) | (dsimp only; rw [verD, if_pos (hho.2 (by omega)), if_pos (by omega)]) | (dsimp only; rw [verD, if_pos (hho.2 (by omega)), if_neg (by omega)]) | (dsimp only; rw [verD, if_neg (fun h => absurd (hho.1 h) (by omega))]) | exact congrArg (fun k => D.p (i64 k)) (by dsimp only; omega))) (leL_r (by first | rfl | (first | (dsimp only; rw [verP, if_pos (hho.2 (by omega))]; simp [List.take_of_length_le]) | (dsimp only; rw [verP, if_neg (fun h => absurd (hho.1 h) (by omega))]) | (dsimp only; rw [verD, if_pos (hho.2 (by omega)), if_pos (by omega)]) | (dsimp only; rw [verD, if_pos (hho.2 (by omega)), if_neg (by omega)]) | (dsimp only; rw [verD, if_neg (fun h => absurd (hho.1 h) (by omega))]) | exact congrArg (fun k => D.p (i64 k)) (by dsimp only; omega))) (leL_a (leL_a (leL_a (leL_a (leL_a (leL_a (leL_a (leL_a (leL_a (leL_a (leL_a (leL_a (leL_a (leL_a (leL_a (leL_a (leL_a (leL_a (leL_a (leL_a (leL_a (leL_a (leL_a (leL_a (leL_a (leL_a (leL_a (leL_a (leL_a (leL_a (leL_a (leL_a (leL_a (leL_a (leL_a (leL_a (leL_a (leL_a (leL_a (leL_a (leL_a (leL_a (leL_a (leL_a (leL_a (leL_a (leL_a (leL_a (leL_a (leL_a (leL_a (leL_a (leL_a (leL_a (leL_a (leL_a (leL_a (leL_a (leL_a (leL_a (leL_a (leL_a (leL_a (leL_a (leL_a (leL_a (leL_a (leL_a (leL_a (leL_nil)))))))))))))))))))))))))))))))))))))))))))))))))))))))))))))))))))))))))))))))))))), (leB_nil _), (leV_nil _), rfl, rfl⟩) ?_
    rintro ⟨n, i, d, pr⟩ ⟨hn, hi, hv⟩
    dsimp only at hn hi hv ⊢
    have hho : hasO i n ↔ otherI i < n := hasO_iff hi
    refine aw_seq ?_
    refine aw_seq ?_
    refine aw_regK hX hb [0, 1] rfl (σ' := ?s6) (fun K hK => ?h6) ?n6
    case h6 =>
      iterate 2 (refine st_op rfl (by simp (disch := first | omega | (have hvl := vl_lim (by assumption); omega) | fail) only [stepf,callOf,qop,fop,St.ev,St.put,cd,zd,Value.oneCell',tb_T,TypeDesc.aggB,getD_0,getD_s,Ze,Zd,Zc,Za,Zb,Zr,ZE,ZF,Zf,Zq,Zg,i64_w,Zt,Zs,qBin,iop,t1,ti1,t3,ti3,t5,ti5,t22,ti22,t47,ti47,t50,ti50,map_at_i,Zh,quo_w,ne_eq,not_true_eq_false,not_false_eq_true,tmod_two,not_two_zero,mul_cast,xor_one] <;> exact rfl) ?_)
      refine aops_nil ?_
      exact hK
    refine exq_n ?_
    refine aw_cond _ rfl (fun hc1 => ?_) (fun hc1 => ?_)
    · try simp only [Zp,Zi,ZK,ZJ,ne_eq,Zn,Zm,ZB,ZA,ZI,not_or,not_and,Zu] at hc1
      refine aw_skip ?_
      refine exq_n ?_
      refine aw_seq ?_
      refine aw_block ?_
      refine aw_seq ?_
      refine aw_seq ?_
      refine aw_regK hX hb [0, 1, 2, 3] rfl (σ' := ?s7) (fun K hK => ?h7) ?n7
      case h7 =>
        iterate 4 (refine st_op rfl (by simp (disch := first | omega | (have hvl := vl_lim (by assumption); omega) | fail) only [stepf,callOf,qop,fop,St.ev,St.put,cd,zd,Value.oneCell',tb_T,TypeDesc.aggB,getD_0,getD_s,Ze,Zd,Zc,Za,Zb,Zr,ZE,ZF,Zf,Zq,Zg,i64_w,Zt,Zs,qBin,iop,t1,ti1,t3,ti3,t4,ti4,t54,ti54,map_at_i,Zh,quo_w,ne_eq,not_true_eq_false,not_false_eq_true,tmod_two,not_two_zero,mul_cast,xor_one] <;> exact rfl) ?_)
        refine aops_nil ?_
        exact hK
      refine exq_n ?_
      refine aw_cond _ rfl (fun hc2 => ?_) (fun hc2 => ?_)
      · try simp only [Zp,Zi,ZK,ZJ,ne_eq,Zn,Zm,ZB,ZA,ZI,not_or,not_and,Zu] at hc2
        refine aw_seq ?_
        refine aw_seq ?_
        refine aw_regK hX hb [0, 1, 2] rfl (σ' := ?s8) (fun K hK => ?h8) ?n8
        case h8 =>
          iterate 3 (refine st_op rfl (by simp (disch := first | omega | (have hvl := vl_lim (by assumption); omega) | fail) only [stepf,callOf,qop,fop,St.ev,St.put,cd,zd,Value.oneCell',tb_T,TypeDesc.aggB,getD_0,getD_s,Ze,Zd,Zc,Za,Zb,Zr,ZE,ZF,Zf,Zq,Zg,i64_w,Zt,Zs,qLen,qBin,iop,t3,ti3,t5,ti5,t58,ti58,t60,ti60,map_at_i,Zh,quo_w,ne_eq,not_true_eq_false,not_false_eq_true,tmod_two,not_two_zero,mul_cast,xor_one] <;> exact rfl) ?_)
          refine aops_nil ?_
          exact hK
        refine exq_n ?_
        refine aw_cond _ rfl (fun hc3 => ?_) (fun hc3 => ?_)
        · try simp only [Zp,Zi,ZK,ZJ,ne_eq,Zn,Zm,ZB,ZA,ZI,not_or,not_and,Zu] at hc3
          refine aw_seq ?_
          refine aw_regK hX hb [0] rfl (σ' := ?s9) (fun K hK => ?h9) ?n9
          case h9 =>
            (refine st_op rfl (by simp (disch := first | omega | (have hvl := vl_lim (by assumption); omega) | fail) only [stepf,callOf,qop,fop,St.ev,St.put,cd,zd,Value.oneCell',tb_T,TypeDesc.aggB,getD_0,getD_s,Ze,Zd,Zc,Za,Zb,Zr,ZE,ZF,Zf,Zq,Zg,i64_w,Zt,Zs,map_at_i,Zh,quo_w,ne_eq,not_true_eq_false,not_false_eq_true,tmod_two,not_two_zero,mul_cast,xor_one] <;> exact rfl) ?_)
            refine aops_nil ?_
            exact hK
          refine exq_n ?_
          refine aw_ret ?_
          refine exq_r ?_
          refine exq_r ?_
          refine exb_r ?_
          refine exq_r ?_
          refine exq_r ?_
          refine exb_r ?_
          refine exq_r ?_
          exact ret_r rfl (resOf_one rfl (by first | rfl | (first | (rw [refVer_b hc0]; rfl) | (rw [refVer_3 (by omega) (by omega), ← hv, verL_bad (by omega) (hho.2 (by omega)) (by omega)]; rfl) | (rw [refVer_3 (by omega) (by omega), ← hv, verL_one (by omega)]; exact congrArg (fun b => D.p (bv b)) (decide_eq_decide.2 And.comm)))))
        · try simp only [Zp,Zi,ZK,ZJ,ne_eq,Zn,Zm,ZB,ZA,ZI,not_or,not_and,Zu] at hc3
          refine aw_skip ?_
          refine exq_n ?_
          refine aw_seq ?_
          refine aw_seq ?_
          refine aw_regK hX hb [0, 1, 2] rfl (σ' := ?s10) (fun K hK => ?h10) ?n10
          case h10 =>
            iterate 3 (refine st_op rfl (by simp (disch := first | omega | (have hvl := vl_lim (by assumption); omega) | fail) only [stepf,callOf,qop,fop,St.ev,St.put,cd,zd,Value.oneCell',tb_T,TypeDesc.aggB,getD_0,getD_s,Ze,Zd,Zc,Za,Zb,Zr,ZE,ZF,Zf,Zq,Zg,i64_w,Zt,Zs,qBin,iop,t2,ti2,t3,ti3,t58,ti58,t60,ti60,map_at_i,Zh,quo_w,ne_eq,not_true_eq_false,not_false_eq_true,tmod_two,not_two_zero,mul_cast,xor_one] <;> exact rfl) ?_)
            refine aops_nil ?_
            exact hK
          refine exq_n ?_
          refine aw_cond _ rfl (fun hc4 => ?_) (fun hc4 => ?_)
          · try simp only [Zp,Zi,ZK,ZJ,ne_eq,Zn,Zm,ZB,ZA,ZI,not_or,not_and,Zu] at hc4
            refine aw_regK hX hb [0, 1, 2, 3, 4, 5] rfl (σ' := ?s11) (fun K hK => ?h11) ?n11
            case h11 =>
              iterate 4 (refine st_op rfl (by simp (disch := first | omega | (have hvl := vl_lim (by assumption); omega) | fail) only [stepf,callOf,qop,fop,St.ev,St.put,cd,zd,Value.oneCell',tb_T,TypeDesc.aggB,getD_0,getD_s,Ze,Zd,Zc,Za,Zb,Zr,ZE,ZF,Zf,Zq,Zg,i64_w,Zt,Zs,Int.toNat_zero,Int.toNat_one,toNat_pred,toNat_succ,qIndexAddr,ZO,Nat.mul_one,ZC,Nat.zero_mul,Zh,Zl,Zo,Zv,Zw,Zj,Zk,Zx,Zy,qLoad,bload,pload,pureAll,D.pure?,ZD,pvAll,D.pv?,t3,ti3,t5,ti5,t22,ti22,t50,ti50,t58,ti58,t60,ti60,t63,ti63,map_at_i,quo_w,ne_eq,not_true_eq_false,not_false_eq_true,tmod_two,not_two_zero,mul_cast,xor_one] <;> exact rfl) ?_)
              refine st_call rfl (by simp only [callOf,St.ev,getD_0,getD_s,pvAll,D.pv?,ZG,ZH,zd,cd,Value.oneCell',Zr] <;> exact rfl) (acK hP (c79 _ _)) (by simp only [St.put,Za,Zb] <;> exact rfl) ?_
              (refine st_op rfl (by simp (disch := first | omega | (have hvl := vl_lim (by assumption); omega) | fail) only [stepf,callOf,qop,fop,St.ev,St.put,cd,zd,Value.oneCell',tb_T,TypeDesc.aggB,getD_0,getD_s,Ze,Zd,Zc,Za,Zb,Zr,ZE,ZF,Zf,Zq,Zg,i64_w,Zt,Zs,Int.toNat_zero,Int.toNat_one,toNat_pred,toNat_succ,qIndexAddr,ZO,Nat.mul_one,ZC,Nat.zero_mul,Zh,Zl,Zo,Zv,Zw,Zj,Zk,Zx,Zy,qLoad,bload,pload,pureAll,D.pure?,ZD,pvAll,D.pv?,t3,ti3,t5,ti5,t22,ti22,t50,ti50,t58,ti58,t60,ti60,t63,ti63,map_at_i,quo_w,ne_eq,not_true_eq_false,not_false_eq_true,tmod_two,not_two_zero,mul_cast,xor_one] <;> exact rfl) ?_)
              refine aops_nil ?_
              exact hK
            refine exq_n ?_
            refine aw_regK hX hb [0, 1, 2] rfl (σ' := ?s12) (fun K hK => ?h12) ?n12
            case h12 =>
              iterate 3 (refine st_op rfl (by simp (disch := first | omega | (have hvl := vl_lim (by assumption); omega) | fail) only [stepf,callOf,qop,fop,St.ev,St.put,cd,zd,Value.oneCell',tb_T,TypeDesc.aggB,getD_0,getD_s,Ze,Zd,Zc,Za,Zb,Zr,ZE,ZF,Zf,Zq,Zg,i64_w,Zt,Zs,imp_self,Int.toNat_one,Int.toNat_zero,Nat.one_mul,qSlice,bnd,Option.isSome_none,ZP,Option.map_none,implies_true,forall_const,ZO,Nat.sub_zero,t1,ti1,t5,ti5,t58,ti58,t60,ti60,map_at_i,Zh,quo_w,ne_eq,not_true_eq_false,not_false_eq_true,tmod_two,not_two_zero,mul_cast,xor_one] <;> exact rfl) ?_)
              refine aops_nil ?_
              exact hK
            refine exq_n ?_
            refine aw_regK hX hb [0, 1, 2] rfl (σ' := ?s13) (fun K hK => ?h13) ?n13
            case h13 =>
              iterate 3 (refine st_op rfl (by simp (disch := first | omega | (have hvl := vl_lim (by assumption); omega) | fail) only [stepf,callOf,qop,fop,St.ev,St.put,cd,zd,Value.oneCell',tb_T,TypeDesc.aggB,getD_0,getD_s,Ze,Zd,Zc,Za,Zb,Zr,ZE,ZF,Zf,Zq,Zg,i64_w,Zt,Zs,qBin,iop,t2,ti2,t3,ti3,t4,ti4,t24,ti24,t26,ti26,t35,ti35,t40,ti40,t58,ti58,t60,ti60,t75,ti75,map_at_i,Zh,quo_w,ne_eq,not_true_eq_false,not_false_eq_true,tmod_two,not_two_zero,mul_cast,xor_one] <;> exact rfl) ?_)
              refine aops_nil ?_
              exact hK
            refine exb_n ?_
            refine exq_n ?_
            refine aw_regK hX hb [0, 1, 2, 3] rfl (σ' := ?s14) (fun K hK => ?h14) ?n14
            case h14 =>
              iterate 4 (refine st_op rfl (by simp (disch := first | omega | (have hvl := vl_lim (by assumption); omega) | fail) only [stepf,callOf,qop,fop,St.ev,St.put,cd,zd,Value.oneCell',tb_T,TypeDesc.aggB,getD_0,getD_s,Ze,Zd,Zc,Za,Zb,Zr,ZE,ZF,Zf,Zq,Zg,i64_w,Zt,Zs,qBin,iop,t1,ti1,t2,ti2,t3,ti3,t5,ti5,t50,ti50,map_at_i,Zh,quo_w,ne_eq,not_true_eq_false,not_false_eq_true,tmod_two,not_two_zero,mul_cast,xor_one] <;> exact rfl) ?_)
              refine aops_nil ?_
              exact hK
            refine exq_n ?_
            exact ⟨((n + 1) / 2, i / 2, verD i n d pr, verP i n pr), by exact ⟨by dsimp only; omega, by dsimp only; omega, by dsimp only; rw [← verL_step (by omega) (by first | (intro _; omega) | (intro h; exact absurd (hho.1 h) (by omega)))]; exact hv⟩, by (try dsimp only); omega, wk_le ⟨rfl, leL_r (by first | rfl | (first | (dsimp only; rw [verP, if_pos (hho.2 (by omega))]; simp [List.take_of_length_le]) | (dsimp only; rw [verP, if_neg (fun h => absurd (hho.1 h) (by omega))]) | (dsimp only; rw [verD, if_pos (hho.2 (by omega)), if_pos (by omega)]) | (dsimp only; rw [verD, if_pos (hho.2 (by omega)), if_neg (by omega)]) | (dsimp only; rw [verD, if_neg (fun h => absurd (hho.1 h) (by omega))]) | exact congrArg (fun k => D.p (i64 k)) (by dsimp only; omega))) (leL_a (leL_a (leL_r (by first | rfl | (first | (dsimp only; rw [verP, if_pos (hho.2 (by omega))]; simp [List.take_of_length_le]) | (dsimp only; rw [verP, if_neg (fun h => absurd (hho.1 h) (by omega))]) | (dsimp only; rw [verD, if_pos (hho.2 (by omega)), if_pos (by omega)]) | (dsimp only; rw [verD, if_pos (hho.2 (by omega)), if_neg (by omega)]) | (dsimp only; rw [verD, if_neg (fun h => absurd (hho.1 h) (by omega))]) | exact congrArg (fun k => D.p (i64 k)) (by dsimp only; omega))) (leL_a (leL_r (by first | rfl | (first | (dsimp only; rw [verP, if_pos (hho.2 (by omega))]; simp [List.take_of_length_le]) | (dsimp only; rw [verP, if_neg (fun h => absurd (hho.1 h) (by omega))]) | (dsimp only; rw [verD, if_pos (hho.2 (by omega)), if_pos (by omega)]) | (dsimp only; rw [verD, if_pos (hho.2 (by omega)), if_neg (by omega)]) | (dsimp only; rw [verD, if_neg (fun h => absurd (hho.1 h) (by omega))]) | exact congrArg (fun k => D.p (i64 k)) (by dsimp only; omega))) (leL_a (leL_a (leL_a (leL_a (leL_a (leL_a (leL_a (leL_r (by first | rfl | (first | (dsimp only; rw [verP, if_pos (hho.2 (by omega))]; simp [List.take_of_length_le]) | (dsimp only; rw [verP, if_neg (fun h => absurd (hho.1 h) (by omega))]) | (dsimp only; rw [verD, if_pos (hho.2 (by omega)), if_pos (by omega)]) | (dsimp only; rw [verD, if_pos (hho.2 (by omega)), if_neg (by omega)]) | (dsimp only; rw [verD, if_neg (fun h => absurd (hho.1 h) (by omega))]) | exact congrArg (fun k => D.p (i64 k)) (by dsimp only; omega))) (leL_r (by first | rfl | (first | (dsimp only; rw [verP, if_pos (hho.2 (by omega))]; simp [List.take_of_length_le]) | (dsimp only; rw [verP, if_neg (fun h => absurd (hho.1 h) (by omega))]) | (dsimp only; rw [verD, if_pos (hho.2 (by omega)), if_pos (by omega)]) | (dsimp only; rw [verD, if_pos (hho.2 (by omega)), if_neg (by omega)]) | (dsimp only; rw [verD, if_neg (fun h => absurd (hho.1 h) (by omega))]) | exact congrArg (fun k => D.p (i64 k)) (by dsimp only; omega))) (leL_a (leL_a (leL_a (leL_a (leL_a (leL_a (leL_a (leL_a (leL_a (leL_a (leL_a (leL_a (leL_a (leL_a (leL_a (leL_a (leL_a (leL_a (leL_a (leL_a (leL_a (leL_a (leL_a (leL_a (leL_a (leL_a (leL_a (leL_a (leL_a (leL_a (leL_a (leL_a (leL_a (leL_a (leL_a (leL_a (leL_a (leL_a (leL_a (leL_a (leL_a (leL_a (leL_a (leL_a (leL_a (leL_a (leL_a (leL_a (leL_a (leL_a (leL_a (leL_a (leL_a (leL_a (leL_a (leL_a (leL_a (leL_a (leL_a (leL_a (leL_a (leL_a (leL_a (leL_a (leL_a (leL_a (leL_a (leL_a (leL_a (leL_nil)))))))))))))))))))))))))))))))))))))))))))))))))))))))))))))))))))))))))))))))))))), (leB_nil _), (leV_nil _), rfl, rfl⟩⟩
          · try simp only [Zp,Zi,ZK,ZJ,ne_eq,Zn,Zm,ZB,ZA,ZI,not_or,not_and,Zu] at hc4
            refine aw_regK hX hb [0, 1, 2, 3, 4, 5] rfl (σ' := ?s15) (fun K hK => ?h15) ?n15
            case h15 =>
              iterate 4 (refine st_op rfl (by simp (disch := first | omega | (have hvl := vl_lim (by assumption); omega) | fail) only [stepf,callOf,qop,fop,St.ev,St.put,cd,zd,Value.oneCell',tb_T,TypeDesc.aggB,getD_0,getD_s,Ze,Zd,Zc,Za,Zb,Zr,ZE,ZF,Zf,Zq,Zg,i64_w,Zt,Zs,Int.toNat_zero,Int.toNat_one,toNat_pred,toNat_succ,qIndexAddr,ZO,Nat.mul_one,ZC,Nat.zero_mul,Zh,Zl,Zo,Zv,Zw,Zj,Zk,Zx,Zy,qLoad,bload,pload,pureAll,D.pure?,ZD,pvAll,D.pv?,t5,ti5,t58,ti58,t60,ti60,t69,ti69,t71,ti71,map_at_i,quo_w,ne_eq,not_true_eq_false,not_false_eq_true,tmod_two,not_two_zero,mul_cast,xor_one] <;> exact rfl) ?_)
              refine st_call rfl (by simp only [callOf,St.ev,getD_0,getD_s,pvAll,D.pv?,ZG,ZH,zd,cd,Value.oneCell',Zr] <;> exact rfl) (acK hP (c79 _ _)) (by simp only [St.put,Za,Zb] <;> exact rfl) ?_
              (refine st_op rfl (by simp (disch := first | omega | (have hvl := vl_lim (by assumption); omega) | fail) only [stepf,callOf,qop,fop,St.ev,St.put,cd,zd,Value.oneCell',tb_T,TypeDesc.aggB,getD_0,getD_s,Ze,Zd,Zc,Za,Zb,Zr,ZE,ZF,Zf,Zq,Zg,i64_w,Zt,Zs,Int.toNat_zero,Int.toNat_one,toNat_pred,toNat_succ,qIndexAddr,ZO,Nat.mul_one,ZC,Nat.zero_mul,Zh,Zl,Zo,Zv,Zw,Zj,Zk,Zx,Zy,qLoad,bload,pload,pureAll,D.pure?,ZD,pvAll,D.pv?,t5,ti5,t58,ti58,t60,ti60,t69,ti69,t71,ti71,map_at_i,quo_w,ne_eq,not_true_eq_false,not_false_eq_true,tmod_two,not_two_zero,mul_cast,xor_one] <;> exact rfl) ?_)
              refine aops_nil ?_
              exact hK
            refine exq_n ?_
            refine aw_regK hX hb [0, 1, 2] rfl (σ' := ?s16) (fun K hK => ?h16) ?n16
            case h16 =>
              iterate 3 (refine st_op rfl (by simp (disch := first | omega | (have hvl := vl_lim (by assumption); omega) | fail) only [stepf,callOf,qop,fop,St.ev,St.put,cd,zd,Value.oneCell',tb_T,TypeDesc.aggB,getD_0,getD_s,Ze,Zd,Zc,Za,Zb,Zr,ZE,ZF,Zf,Zq,Zg,i64_w,Zt,Zs,imp_self,Int.toNat_one,Int.toNat_zero,Nat.one_mul,qSlice,bnd,Option.isSome_none,ZP,Option.map_none,implies_true,forall_const,ZO,Nat.sub_zero,t1,ti1,t5,ti5,t58,ti58,t60,ti60,map_at_i,Zh,quo_w,ne_eq,not_true_eq_false,not_false_eq_true,tmod_two,not_two_zero,mul_cast,xor_one] <;> exact rfl) ?_)
              refine aops_nil ?_
              exact hK
            refine exq_n ?_
            refine aw_regK hX hb [0, 1, 2] rfl (σ' := ?s17) (fun K hK => ?h17) ?n17
            case h17 =>
              iterate 3 (refine st_op rfl (by simp (disch := first | omega | (have hvl := vl_lim (by assumption); omega) | fail) only [stepf,callOf,qop,fop,St.ev,St.put,cd,zd,Value.oneCell',tb_T,TypeDesc.aggB,getD_0,getD_s,Ze,Zd,Zc,Za,Zb,Zr,ZE,ZF,Zf,Zq,Zg,i64_w,Zt,Zs,qBin,iop,t2,ti2,t3,ti3,t4,ti4,t24,ti24,t26,ti26,t35,ti35,t40,ti40,t58,ti58,t60,ti60,t75,ti75,map_at_i,Zh,quo_w,ne_eq,not_true_eq_false,not_false_eq_true,tmod_two,not_two_zero,mul_cast,xor_one] <;> exact rfl) ?_)
              refine aops_nil ?_
              exact hK
            refine exb_n ?_
            refine exq_n ?_
            refine aw_regK hX hb [0, 1, 2, 3] rfl (σ' := ?s18) (fun K hK => ?h18) ?n18
            case h18 =>
              iterate 4 (refine st_op rfl (by simp (disch := first | omega | (have hvl := vl_lim (by assumption); omega) | fail) only [stepf,callOf,qop,fop,St.ev,St.put,cd,zd,Value.oneCell',tb_T,TypeDesc.aggB,getD_0,getD_s,Ze,Zd,Zc,Za,Zb,Zr,ZE,ZF,Zf,Zq,Zg,i64_w,Zt,Zs,qBin,iop,t1,ti1,t2,ti2,t3,ti3,t5,ti5,t50,ti50,map_at_i,Zh,quo_w,ne_eq,not_true_eq_false,not_false_eq_true,tmod_two,not_two_zero,mul_cast,xor_one] <;> exact rfl) ?_)
              refine aops_nil ?_
              exact hK
            refine exq_n ?_
            exact ⟨((n + 1) / 2, i / 2, verD i n d pr, verP i n pr), by exact ⟨by dsimp only; omega, by dsimp only; omega, by dsimp only; rw [← verL_step (by omega) (by first | (intro _; omega) | (intro h; exact absurd (hho.1 h) (by omega)))]; exact hv⟩, by (try dsimp only); omega, wk_le ⟨rfl, leL_r (by first | rfl | (first | (dsimp only; rw [verP, if_pos (hho.2 (by omega))]; simp [List.take_of_length_le]) | (dsimp only; rw [verP, if_neg (fun h => absurd (hho.1 h) (by omega))]) | (dsimp only; rw [verD, if_pos (hho.2 (by omega)), if_pos (by omega)]) | (dsimp only; rw [verD, if_pos (hho.2 (by omega)), if_neg (by omega)]) | (dsimp only; rw [verD, if_neg (fun h => absurd (hho.1 h) (by omega))]) | exact congrArg (fun k => D.p (i64 k)) (by dsimp only; omega))) (leL_a (leL_a (leL_r (by first | rfl | (first | (dsimp only; rw [verP, if_pos (hho.2 (by omega))]; simp [List.take_of_length_le]) | (dsimp only; rw [verP, if_neg (fun h => absurd (hho.1 h) (by omega))]) | (dsimp only; rw [verD, if_pos (hho.2 (by omega)), if_pos (by omega)]) | (dsimp only; rw [verD, if_pos (hho.2 (by omega)), if_neg (by omega)]) | (dsimp only; rw [verD, if_neg (fun h => absurd (hho.1 h) (by omega))]) | exact congrArg (fun k => D.p (i64 k)) (by dsimp only; omega))) (leL_a (leL_r (by first | rfl | (first | (dsimp only; rw [verP, if_pos (hho.2 (by omega))]; simp [List.take_of_length_le]) | (dsimp only; rw [verP, if_neg (fun h => absurd (hho.1 h) (by omega))]) | (dsimp only; rw [verD, if_pos (hho.2 (by omega)), if_pos (by omega)]) | (dsimp only; rw [verD, if_pos (hho.2 (by omega)), if_neg (by omega)]) | (dsimp only; rw [verD, if_neg (fun h => absurd (hho.1 h) (by omega))]) | exact congrArg (fun k => D.p (i64 k)) (by dsimp only; omega))) (leL_a (leL_a (leL_a (leL_a (leL_a (leL_a (leL_a (leL_r (by first | rfl | (first | (dsimp only; rw [verP, if_pos (hho.2 (by omega))]; simp [List.take_of_length_le]) | (dsimp only; rw [verP, if_neg (fun h => absurd (hho.1 h) (by omega))]) | (dsimp only; rw [verD, if_pos (hho.2 (by omega)), if_pos (by omega)]) | (dsimp only; rw [verD, if_pos (hho.2 (by omega)), if_neg (by omega)]) | (dsimp only; rw [verD, if_neg (fun h => absurd (hho.1 h) (by omega))]) | exact congrArg (fun k => D.p (i64 k)) (by dsimp only; omega))) (leL_r (by first | rfl | (first | (dsimp only; rw [verP, if_pos (hho.2 (by omega))]; simp [List.take_of_length_le]) | (dsimp only; rw [verP, if_neg (fun h => absurd (hho.1 h) (by omega))]) | (dsimp only; rw [verD, if_pos (hho.2 (by omega)), if_pos (by omega)]) | (dsimp only; rw [verD, if_pos (hho.2 (by omega)), if_neg (by omega)]) | (dsimp only; rw [verD, if_neg (fun h => absurd (hho.1 h) (by omega))]) | exact congrArg (fun k => D.p (i64 k)) (by dsimp only; omega))) (leL_a (leL_a (leL_a (leL_a (leL_a (leL_a (leL_a (leL_a (leL_a (leL_a (leL_a (leL_a (leL_a (leL_a (leL_a (leL_a (leL_a (leL_a (leL_a (leL_a (leL_a (leL_a (leL_a (leL_a (leL_a (leL_a (leL_a (leL_a (leL_a (leL_a (leL_a (leL_a (leL_a (leL_a (leL_a (leL_a (leL_a (leL_a (leL_a (leL_a (leL_a (leL_a (leL_a (leL_a (leL_a (leL_a (leL_a (leL_a (leL_a (leL_a (leL_a (leL_a (leL_a (leL_a (leL_a (leL_a (leL_a (leL_a (leL_a (leL_a (leL_a (leL_a (leL_a (leL_a (leL_a (leL_a (leL_a (leL_a (leL_a (leL_nil)))))))))))))))))))))))))))))))))))))))))))))))))))))))))))))))))))))))))))))))))))), (leB_nil _), (leV_nil _), rfl, rfl⟩⟩
      · try simp only [Zp,Zi,ZK,ZJ,ne_eq,Zn,Zm,ZB,ZA,ZI,not_or,not_and,Zu] at hc2
        refine aw_skip ?_
        refine exq_n ?_
        refine aw_regK hX hb [0, 1, 2] rfl (σ' := ?s19) (fun K hK => ?h19) ?n19
        case h19 =>
          iterate 3 (refine st_op rfl (by simp (disch := first | omega | (have hvl := vl_lim (by assumption); omega) | fail) only [stepf,callOf,qop,fop,St.ev,St.put,cd,zd,Value.oneCell',tb_T,TypeDesc.aggB,getD_0,getD_s,Ze,Zd,Zc,Za,Zb,Zr,ZE,ZF,Zf,Zq,Zg,i64_w,Zt,Zs,qBin,iop,t2,ti2,t3,ti3,t4,ti4,t24,ti24,t26,ti26,t35,ti35,t40,ti40,t58,ti58,t60,ti60,t75,ti75,map_at_i,Zh,quo_w,ne_eq,not_true_eq_false,not_false_eq_true,tmod_two,not_two_zero,mul_cast,xor_one] <;> exact rfl) ?_)
          refine aops_nil ?_
          exact hK
        refine exb_n ?_
        refine exq_n ?_
        refine aw_regK hX hb [0, 1, 2, 3] rfl (σ' := ?s20) (fun K hK => ?h20) ?n20
        case h20 =>
          iterate 4 (refine st_op rfl (by simp (disch := first | omega | (have hvl := vl_lim (by assumption); omega) | fail) only [stepf,callOf,qop,fop,St.ev,St.put,cd,zd,Value.oneCell',tb_T,TypeDesc.aggB,getD_0,getD_s,Ze,Zd,Zc,Za,Zb,Zr,ZE,ZF,Zf,Zq,Zg,i64_w,Zt,Zs,qBin,iop,t1,ti1,t2,ti2,t3,ti3,t5,ti5,t50,ti50,map_at_i,Zh,quo_w,ne_eq,not_true_eq_false,not_false_eq_true,tmod_two,not_two_zero,mul_cast,xor_one] <;> exact rfl) ?_)
          refine aops_nil ?_
          exact hK
        refine exq_n ?_
        exact ⟨((n + 1) / 2, i / 2, verD i n d pr, verP i n pr), by exact ⟨by dsimp only; omega, by dsimp only; omega, by dsimp only; rw [← verL_step (by omega) (by first | (intro _; omega) | (intro h; exact absurd (hho.1 h) (by omega)))]; exact hv⟩, by (try dsimp only); omega, wk_le ⟨rfl, leL_r (by first | rfl | (first | (dsimp only; rw [verP, if_pos (hho.2 (by omega))]; simp [List.take_of_length_le]) | (dsimp only; rw [verP, if_neg (fun h => absurd (hho.1 h) (by omega))]) | (dsimp only; rw [verD, if_pos (hho.2 (by omega)), if_pos (by omega)]) | (dsimp only; rw [verD, if_pos (hho.2 (by omega)), if_neg (by omega)]) | (dsimp only; rw [verD, if_neg (fun h => absurd (hho.1 h) (by omega))]) | exact congrArg (fun k => D.p (i64 k)) (by dsimp only; omega))) (leL_a (leL_a (leL_r (by first | rfl | (first | (dsimp only; rw [verP, if_pos (hho.2 (by omega))]; simp [List.take_of_length_le]) | (dsimp only; rw [verP, if_neg (fun h => absurd (hho.1 h) (by omega))]) | (dsimp only; rw [verD, if_pos (hho.2 (by omega)), if_pos (by omega)]) | (dsimp only; rw [verD, if_pos (hho.2 (by omega)), if_neg (by omega)]) | (dsimp only; rw [verD, if_neg (fun h => absurd (hho.1 h) (by omega))]) | exact congrArg (fun k => D.p (i64 k)) (by dsimp only; omega))) (leL_a (leL_r (by first | rfl | (first | (dsimp only; rw [verP, if_pos (hho.2 (by omega))]; simp [List.take_of_length_le]) | (dsimp only; rw [verP, if_neg (fun h => absurd (hho.1 h) (by omega))]) | (dsimp only; rw [verD, if_pos (hho.2 (by omega)), if_pos (by omega)]) | (dsimp only; rw [verD, if_pos (hho.2 (by omega)), if_neg (by omega)]) | (dsimp only; rw [verD, if_neg (fun h => absurd (hho.1 h) (by omega))]) | exact congrArg (fun k => D.p (i64 k)) (by dsimp only; omega))) (leL_a (leL_a (leL_a (leL_a (leL_a (leL_a (leL_a (leL_r (by first | rfl | (first | (dsimp only; rw [verP, if_pos (hho.2 (by omega))]; simp [List.take_of_length_le]) | (dsimp only; rw [verP, if_neg (fun h => absurd (hho.1 h) (by omega))]) | (dsimp only; rw [verD, if_pos (hho.2 (by omega)), if_pos (by omega)]) | (dsimp only; rw [verD, if_pos (hho.2 (by omega)), if_neg (by omega)]) | (dsimp only; rw [verD, if_neg (fun h => absurd (hho.1 h) (by omega))]) | exact congrArg (fun k => D.p (i64 k)) (by dsimp only; omega))) (leL_r (by first | rfl | (first | (dsimp only; rw [verP, if_pos (hho.2 (by omega))]; simp [List.take_of_length_le]) | (dsimp only; rw [verP, if_neg (fun h => absurd (hho.1 h) (by omega))]) | (dsimp only; rw [verD, if_pos (hho.2 (by omega)), if_pos (by omega)]) | (dsimp only; rw [verD, if_pos (hho.2 (by omega)), if_neg (by omega)]) | (dsimp only; rw [verD, if_neg (fun h => absurd (hho.1 h) (by omega))]) | exact congrArg (fun k => D.p (i64 k)) (by dsimp only; omega))) (leL_a (leL_a (leL_a (leL_a (leL_a (leL_a (leL_a (leL_a (leL_a (leL_a (leL_a (leL_a (leL_a (leL_a (leL_a (leL_a (leL_a (leL_a (leL_a (leL_a (leL_a (leL_a (leL_a (leL_a (leL_a (leL_a (leL_a (leL_a (leL_a (leL_a (leL_a (leL_a (leL_a (leL_a (leL_a (leL_a (leL_a (leL_a (leL_a (leL_a (leL_a (leL_a (leL_a (leL_a (leL_a (leL_a (leL_a (leL_a (leL_a (leL_a (leL_a (leL_a (leL_a (leL_a (leL_a (leL_a (leL_a (leL_a (leL_a (leL_a (leL_a (leL_a (leL_a (leL_a (leL_a (leL_a (leL_a (leL_a (leL_a (leL_nil)))))))))))))))))))))))))))))))))))))))))))))))))))))))))))))))))))))))))))))))))))), (leB_nil _), (leV_nil _), rfl, rfl⟩⟩
    · try simp only [Zp,Zi,ZK,ZJ,ne_eq,Zn,Zm,ZB,ZA,ZI,not_or,not_and,Zu] at hc1
      refine aw_exit ?_
      refine exq_e ?_
      refine exq_e ?_
      refine exb_h ?_
      refine exq_n ?_
      refine aw_seq ?_
      refine aw_regJ hX hb [0, 1, 2, 3, 4, 5, 6, 7, 8] rfl (ts := [76, 77, 78, 79, 80, 81, 82, 83]) (t := 12) (d := .p (bv (d = root ∧ pr.length = 0))) (σ' := ?s21) ?j21 ?h21 ?n21
      case j21 => simp only [St.join,List.foldl,Za,Zb]; exact rfl
      case h21 =>
        iterate 4 (all_goals refine st_op rfl (by simp (disch := first | omega | (have hvl := vl_lim (by assumption); omega) | fail) only [stepf,callOf,qop,fop,St.ev,St.put,cd,zd,Value.oneCell',tb_T,TypeDesc.aggB,getD_0,getD_s,Ze,Zd,Zc,Za,Zb,Zr,ZE,ZF,Zf,Zq,Zg,i64_w,Zt,Zs,qBin,iop,qLen,t3,ti3,t5,ti5,t58,ti58,t60,ti60,t77,ti77,t87,ti87,t88,ti88,t90,ti90,map_at_i,Zh,quo_w,ne_eq,not_true_eq_false,not_false_eq_true,tmod_two,not_two_zero,mul_cast,xor_one] <;> exact rfl) ?_)
        iterate 3 (all_goals first | (refine st_g1 rfl rfl rfl (by simp (disch := first | omega | (have hvl := vl_lim (by assumption); omega) | fail) only [stepf,callOf,qop,fop,St.ev,St.put,cd,zd,Value.oneCell',tb_T,TypeDesc.aggB,getD_0,getD_s,Ze,Zd,Zc,Za,Zb,Zr,ZE,ZF,Zf,Zq,Zg,i64_w,Zt,Zs,qBin,iop,qLen,t3,ti3,t5,ti5,t58,ti58,t60,ti60,t77,ti77,t87,ti87,t88,ti88,t90,ti90,map_at_i,Zh,quo_w,ne_eq,not_true_eq_false,not_false_eq_true,tmod_two,not_two_zero,mul_cast,xor_one] <;> exact rfl) ?_) | (first | (refine st_g0 rfl rfl rfl (by simp only [St.put,Za,Zb] <;> exact rfl) ?_) | (refine st_gu rfl rfl rfl (by simp only [St.put,Za,Zb] <;> exact rfl) ?_)) | (refine st_split rfl rfl rfl (by simp only [Za,Zb] <;> exact rfl) (by simp only [Za,Zb] <;> exact rfl) (fun hg => ?_) (fun hg => ?_) <;> (try simp only [Zp,Zi,ZJ,ZK,ne_eq,Zn,Zm,Bool.not_eq_true,Zu] at hg) <;> first | (refine st_g1 rfl rfl rfl (by simp (disch := first | omega | (have hvl := vl_lim (by assumption); omega) | fail) only [stepf,callOf,qop,fop,St.ev,St.put,cd,zd,Value.oneCell',tb_T,TypeDesc.aggB,getD_0,getD_s,Ze,Zd,Zc,Za,Zb,Zr,ZE,ZF,Zf,Zq,Zg,i64_w,Zt,Zs,qBin,iop,qLen,t3,ti3,t5,ti5,t58,ti58,t60,ti60,t77,ti77,t87,ti87,t88,ti88,t90,ti90,map_at_i,Zh,quo_w,ne_eq,not_true_eq_false,not_false_eq_true,tmod_two,not_two_zero,mul_cast,xor_one] <;> exact rfl) ?_) | (first | (refine st_g0 rfl rfl rfl (by simp only [St.put,Za,Zb] <;> exact rfl) ?_) | (refine st_gu rfl rfl rfl (by simp only [St.put,Za,Zb] <;> exact rfl) ?_))))
        iterate 2 (all_goals refine st_op rfl (by simp (disch := first | omega | (have hvl := vl_lim (by assumption); omega) | fail) only [stepf,callOf,qop,fop,St.ev,St.put,cd,zd,Value.oneCell',tb_T,TypeDesc.aggB,getD_0,getD_s,Ze,Zd,Zc,Za,Zb,Zr,ZE,ZF,Zf,Zq,Zg,i64_w,Zt,Zs,qBin,iop,qLen,t3,ti3,t5,ti5,t58,ti58,t60,ti60,t77,ti77,t87,ti87,t88,ti88,t90,ti90,map_at_i,Zh,quo_w,ne_eq,not_true_eq_false,not_false_eq_true,tmod_two,not_two_zero,mul_cast,xor_one] <;> exact rfl) ?_)
        all_goals refine aops_nil ?_
        all_goals refine ⟨rfl, ?_, leB_self _, leV_self _, rfl, rfl⟩
        all_goals repeat' (first | exact leL_nil | refine leL_a ?_ | refine leL_r rfl ?_ | refine leL_r ?_ ?_)
        all_goals refine jn ?_
        all_goals ((try simp only [Zp,Zi,ZJ,ZK,Bool.not_eq_true,Zm,Zn,ne_eq,Zf,true_iff,false_iff,iff_true,iff_false] at *) <;> omega)
      refine exq_n ?_
      refine aw_ret ?_
      exact ret_r rfl (resOf_one rfl (by first | rfl | (first | (rw [refVer_b hc0]; rfl) | (rw [refVer_3 (by omega) (by omega), ← hv, verL_bad (by omega) (hho.2 (by omega)) (by omega)]; rfl) | (rw [refVer_3 (by omega) (by omega), ← hv, verL_one (by omega)]; exact congrArg (fun b => D.p (bv b)) (decide_eq_decide.2 And.comm)))))
end Go.Proofs.Ytldcoekbgfaomaa
end
section
namespace Go.Proofs.Ytldcoekbgfaomaa
open Go.RowKit
set_option maxRecDepth 20000
set_option maxHeartbeats 4000000
attribute [local irreducible] AOps AOpsD AW
theorem acallsO_nil {P : Program} {f : FuncId} {V : Vc} (h : ∀ (A : Option Addr) (c : Nat), ACallsO P f [.p (.v (.slice A 0 c))] V) : ACallsO P f [.p (.sl 0 [])] V :=
  ⟨(h none 0).en, fun F n C w vs hF hro hC hv => by
    obtain ⟨h1, h2⟩ := hv
    match vs, h1 with
    | [u], _ =>
    have hu := h2 0 _ u rfl rfl
    cases hu with | p _ _ hu =>
    obtain ⟨A, c, rfl⟩ := hu.sl_form
    refine (h A c).h F n C w [.slice A 0 c] hF hro hC ⟨rfl, fun j d u hd hu => ?_⟩
    cases j with
    | zero => simp at hd hu; subst hd; subst hu; exact .p _ _ (.v _ rfl)
    | succ j => simp at hd⟩
theorem o72a (l : List Int) (h : 0 < l.length) (h2 : l.length ≤ 4294967296) : ACallsO Try.prog 72 [.p (u64s l)] ⟨58, 1, l.length, l.map u64⟩ := by
  refine acallsO_of Try.func72 (c := _) rfl (by kernel_rfl) (t := 2) rfl ?_
  intro X hP hX hro hpl
  have hb : tb.Ok X.P := hP ▸ tb_ok
  change AW X _ _ ⟨[], [.p (u64s l), .any, .any, .any, .any, .any, .any, .any], [], []⟩
  refine aw_seq ?_
  refine aw_regK hX hb [0] rfl (σ' := ?s1) (fun K hK => ?h1) ?n1
  case h1 =>
    (refine st_op rfl (by simp (disch := omega) only [stepf,callOf,qop,fop,St.ev,St.put,cd,zd,Value.oneCell',tb_T,TypeDesc.aggB,getD_0,getD_s,Ze,Zd,Zc,Za,Zb,Zr,ZE,ZF,Zf,Zq,Zg,i64_w,Zt,Zs,Zh,secCells_length,extCells_length] <;> exact rfl) ?_)
    refine aops_nil ?_
    exact hK
  refine exq_n ?_
  refine aw_seq ?_
  refine aw_seq ?_
  refine aw_regK hX hb [0, 1] rfl (σ' := ?s2) (fun K hK => ?h2) ?n2
  case h2 =>
    iterate 2 (refine st_op rfl (by simp (disch := omega) only [stepf,callOf,qop,fop,St.ev,St.put,cd,zd,Value.oneCell',tb_T,TypeDesc.aggB,getD_0,getD_s,Ze,Zd,Zc,Za,Zb,Zr,ZE,ZF,Zf,Zq,Zg,i64_w,Zt,Zs,qBin,iop,t3,ti3,t58,ti58,t60,ti60,Zh,secCells_length,extCells_length] <;> exact rfl) ?_)
    refine aops_nil ?_
    exact hK
  refine exq_n ?_
  refine aw_cond _ rfl (fun hc0 => ?_) (fun hc0 => ?_)
  · try simp only [Zp,Zi,ZK,ZJ,ne_eq,Zn,Zm,ZB,ZA,ZI,not_or,not_and,Zu] at hc0
    cases hc0
  · try simp only [Zp,Zi,ZK,ZJ,ne_eq,Zn,Zm,ZB,ZA,ZI,not_or,not_and,Zu] at hc0
    refine aw_skip ?_
    refine exq_n ?_
    refine aw_seq ?_
    refine aw_regK hX (tbO_ok [5] hb) [0, 1, 2, 3] rfl (σ' := ?s3) (fun K hK => ?h3) ?n3
    case h3 =>
      iterate 4 (refine st_op rfl (by simp (disch := omega) only [stepf,callOf,qop,fop,St.ev,St.put,cd,zd,Value.oneCell',tb_T,TypeDesc.aggB,getD_0,getD_s,Ze,Zd,Zc,Za,Zb,Zr,ZE,ZF,Zf,Zq,Zg,i64_w,Zt,Zs,tb_N,tbO_N,tbW_N,tb_O,fBuildSlice,catCells,D.cells?,D.pure?,range_1,range_2,range_3,range_4,range_5,ZG,ZH,ZL,ZM,ZN,Zl,Zo,sec8_length,Nat.reduceAdd,Nat.reduceMul,fAppend,appV,St.demote,D.demote,St.setVec,Zh,List.length_append,ZC,Nat.mul_one,reduceIte,t5,ti5,t58,ti58,t60,ti60,secCells_length,extCells_length,tbO_T,tbO_hit,tbO_miss,St.addVec] <;> exact rfl) ?_)
      refine aops_nil ?_
      exact hK
    refine exq_n ?_
    refine aw_ret ?_
    exact reto_r 0 rfl rfl rfl
theorem o72b (A : Option Addr) (c : Nat) : ACallsO Try.prog 72 [.p (.v (.slice A 0 c))] ⟨58, 1, 0, []⟩ := by
  refine acallsO_of Try.func72 (c := _) rfl (by kernel_rfl) (t := 2) rfl ?_
  intro X hP hX hro hpl
  have hb : tb.Ok X.P := hP ▸ tb_ok
  change AW X _ _ ⟨[], [.p (.v (.slice A 0 c)), .any, .any, .any, .any, .any, .any, .any], [], []⟩
  refine aw_seq ?_
  refine aw_regK hX hb [0] rfl (σ' := ?s1) (fun K hK => ?h1) ?n1
  case h1 =>
    (refine st_op rfl (by simp (disch := omega) only [stepf,callOf,qop,fop,St.ev,St.put,cd,zd,Value.oneCell',tb_T,TypeDesc.aggB,getD_0,getD_s,Ze,Zd,Zc,Za,Zb,Zr,ZE,ZF,Zf,Zq,Zg,i64_w,Zt,Zs] <;> exact rfl) ?_)
    refine aops_nil ?_
    exact hK
  refine exq_n ?_
  refine aw_seq ?_
  refine aw_seq ?_
  refine aw_regK hX hb [0, 1] rfl (σ' := ?s2) (fun K hK => ?h2) ?n2
  case h2 =>
    iterate 2 (refine st_op rfl (by simp (disch := omega) only [stepf,callOf,qop,fop,St.ev,St.put,cd,zd,Value.oneCell',tb_T,TypeDesc.aggB,getD_0,getD_s,Ze,Zd,Zc,Za,Zb,Zr,ZE,ZF,Zf,Zq,Zg,i64_w,Zt,Zs,qBin,iop,t3,ti3,t58,ti58,t60,ti60] <;> exact rfl) ?_)
    refine aops_nil ?_
    exact hK
  refine exq_n ?_
  refine aw_cond _ rfl (fun hc0 => ?_) (fun hc0 => ?_)
  · try simp only [Zp,Zi,ZK,ZJ,ne_eq,Zn,Zm,ZB,ZA,ZI,not_or,not_and,Zu] at hc0
    refine aw_seq ?_
    refine aw_regK hX hb [0] rfl (σ' := ?s3) (fun K hK => ?h3) ?n3
    case h3 =>
      (refine st_op rfl (by simp (disch := omega) only [stepf,callOf,qop,fop,St.ev,St.put,cd,zd,Value.oneCell',tb_T,TypeDesc.aggB,getD_0,getD_s,Ze,Zd,Zc,Za,Zb,Zr,ZE,ZF,Zf,Zq,Zg,i64_w,Zt,Zs] <;> exact rfl) ?_)
      refine aops_nil ?_
      exact hK
    refine exq_n ?_
    refine aw_nil 2 58 1 rfl (σ' := ?s4) ?h4 ?n4
    case h4 => simp only [St.nilSlot,St.addVec,Za,Zb,Zl,Zo,ZL,ZM]; exact rfl
    refine aw_ret ?_
    refine exq_r ?_
    exact reto_r 0 rfl rfl rfl
  · try simp only [Zp,Zi,ZK,ZJ,ne_eq,Zn,Zm,ZB,ZA,ZI,not_or,not_and,Zu] at hc0
    refine aw_skip ?_
    refine exq_n ?_
    refine aw_seq ?_
    refine aw_slv 0 rfl (σ' := ?s99) ?h99 ?n99
    case h99 => simp only [Za]; exact rfl
    refine aw_regK hX (tbO_ok [5] hb) [0, 1, 2, 3] rfl (σ' := ?s5) (fun K hK => ?h5) ?n5
    case h5 =>
      iterate 4 (refine st_op rfl (by simp (disch := omega) only [stepf,callOf,qop,fop,St.ev,St.put,cd,zd,Value.oneCell',tb_T,TypeDesc.aggB,getD_0,getD_s,Ze,Zd,Zc,Za,Zb,Zr,ZE,ZF,Zf,Zq,Zg,i64_w,Zt,Zs,tb_N,tbO_N,tbW_N,tb_O,fBuildSlice,catCells,D.cells?,D.pure?,range_1,range_2,range_3,range_4,range_5,ZG,ZH,ZL,ZM,ZN,Zl,Zo,sec8_length,Nat.reduceAdd,Nat.reduceMul,fAppend,appV,St.demote,D.demote,St.setVec,Zh,List.length_append,ZC,Nat.mul_one,reduceIte,t5,ti5,t58,ti58,t60,ti60,tbO_T,tbO_hit,tbO_miss,St.addVec] <;> exact rfl) ?_)
      refine aops_nil ?_
      exact hK
    refine exq_n ?_
    refine aw_ret ?_
    exact reto_r 0 rfl rfl rfl
theorem o72 (l : List Int) (h2 : l.length ≤ 4294967296) : ACallsO Try.prog 72 [.p (u64s l)] ⟨58, 1, l.length, l.map u64⟩ := by
  rcases Nat.eq_zero_or_pos l.length with h | h
  · rw [List.length_eq_zero_iff] at h
    subst h
    exact acallsO_nil o72b
  · exact o72a l h h2
end Go.Proofs.Ytldcoekbgfaomaa
end
section
namespace Go.Proofs.Ytldcoekbgfaomaa
open Go.RowKit
set_option maxRecDepth 20000
set_option maxHeartbeats 4000000
attribute [local irreducible] AOps AOpsD AW
/-- The leaves while they are brought up to date: those before i are done. -/
def updP (l : List (List Int)) (F : Nat) (row : List Int) (s c : Int) (i : Nat) : List Int := (List.range row.length).map fun j => if j < i then updV l F row s c j else row.getD j 0
theorem updP_length (l : List (List Int)) (F : Nat) (row : List Int) (s c : Int) (i : Nat) : (updP l F row s c i).length = row.length := by simp [updP]
theorem updV_no {l : List (List Int)} {F : Nat} {row : List Int} {s c : Int} {i : Nat} (h : ¬ (0 < c ∧ s < ((i * F + F : Nat) : Int) ∧ ((i * F : Nat) : Int) < s + c)) : updV l F row s c i = row.getD i 0 := if_neg h
theorem updV_yes {l : List (List Int)} {F : Nat} {row : List Int} {s c : Int} {i : Nat} (h : 0 < c ∧ s < ((i * F + F : Nat) : Int) ∧ ((i * F : Nat) : Int) < s + c) : updV l F row s c i = secsD (secAt l F i) := if_pos h
theorem map_getD (row : List Int) : (List.range row.length).map (fun j => row.getD j 0) = row := by
  apply List.ext_getElem?
  intro j
  by_cases hj : j < row.length
  · simp [hj]
  · rw [List.getElem?_eq_none (by simp; omega), List.getElem?_eq_none (by omega)]
theorem updP_start (l : List (List Int)) {F : Nat} (hF : 1 ≤ F) (row : List Int) (u v : Nat) : updP l F row u v (u / F) = row := by
  unfold updP
  conv => rhs; rw [← map_getD row]
  apply List.map_congr_left
  intro j _
  split
  · rename_i hj
    refine updV_no ?_
    have h1 : (j + 1) * F ≤ u := (Nat.le_div_iff_mul_le hF).1 hj
    rw [Nat.succ_mul] at h1
    omega
  · rfl
theorem updP_step (l : List (List Int)) {F : Nat} (hF : 1 ≤ F) (row : List Int) (u v i : Nat) (hi : i < row.length) (hv : 0 < v) (h1 : u / F ≤ i) (h2 : i ≤ (u + v - 1) / F) :
    (updP l F row u v i).set i (secsD (secAt l F i)) = updP l F row u v (i + 1) := by
  have q1 : u < (i + 1) * F := (Nat.div_lt_iff_lt_mul hF).1 (by omega)
  rw [Nat.succ_mul] at q1
  have q2 : i * F ≤ u + v - 1 := (Nat.le_div_iff_mul_le hF).1 h2
  apply List.ext_getElem?
  intro j
  rw [List.getElem?_set]
  simp only [updP,Zh,List.length_range]
  by_cases hij : i = j
  · subst hij
    rw [if_pos rfl, if_pos hi, List.getElem?_map, List.getElem?_range hi, Option.map_some, if_pos (by omega), updV_yes ⟨by omega, by omega, by omega⟩]
  · rw [if_neg hij]
    simp only [List.getElem?_map]
    cases hr : (List.range row.length)[j]? with
    | none => rfl
    | some k =>
      have hk : k = j := by
        have h3 := (List.getElem?_eq_some_iff.1 hr)
        obtain ⟨h4, h5⟩ := h3
        simpa using h5.symm
      subst hk
      simp only [Zg]
      by_cases h3 : k < i
      · rw [if_pos h3, if_pos (by omega)]
      · rw [if_neg h3, if_neg (by omega)]
theorem updP_end (l : List (List Int)) {F : Nat} (hF : 1 ≤ F) (row : List Int) (u v i : Nat) (h : ¬ (0 < v ∧ i ≤ (u + v - 1) / F)) : updP l F row u v i = updL l F row u v := by
  unfold updP updL
  apply List.map_congr_left
  intro j _
  split
  · rfl
  · rename_i hj
    refine (updV_no ?_).symm
    rintro ⟨q1, q2, q3⟩
    refine h ⟨by omega, ?_⟩
    have : j ≤ (u + v - 1) / F := (Nat.le_div_iff_mul_le hF).2 (by omega)
    omega
theorem quo_nat (u F : Nat) : (u : Int) / (F : Int) = ((u / F : Nat) : Int) := (Int.natCast_ediv u F).symm
theorem quo_pred (u v F : Nat) (h : 0 < v) : ((u : Int) + (v : Int) - 1) / (F : Int) = (((u + v - 1) / F : Nat) : Int) := by
  rw [show (u : Int) + (v : Int) - 1 = ((u + v - 1 : Nat) : Int) by omega]
  exact quo_nat _ _
theorem splice1 (l : List P1) (i : Nat) (x : P1) (h : i < l.length) : l.take i ++ [x] ++ l.drop (i + 1) = l.set i x := by
  rw [List.set_eq_take_append_cons_drop, if_pos h]
  simp
theorem c66e (l : List (List Int)) (n i K M : Nat) (hx : P1.sl K (((secCells l).drop M).take (K * 8)) = secs (secAt l n i)) : ACalls Try.prog 66 [.p (.sl K (((secCells l).drop M).take (K * 8)))] (.p (u64 (secsD (secAt l n i)))) := hx ▸ c66 (secAt l n i)
theorem c25 (t : Tr) (l : List (List Int)) (es ec : Int) : ACalls Try.prog 25 [trP t, .p (secs l), .agg [i64 es, i64 ec]] (.tup [trP (refUpd t l es ec).1, .p (i64 (refUpd t l es ec).2)]) := by
  obtain ⟨s, f, lv⟩ := t
  refine acalls_of tb_ok Try.func25 (c := _) rfl (by kernel_rfl) ?_
  intro X hP hX hro hpl
  have hb : tb.Ok X.P := hP ▸ tb_ok
  change AW X _ _ ⟨[], [.agg [i64 s, i64 f, lvls lv], .p (secs l), .agg [i64 es, i64 ec], .any, .any, .any, .any, .any, .any, .any, .any, .any, .any, .any, .any, .any, .any, .any, .any, .any, .any, .any, .any, .any, .any, .any, .any, .any, .any, .any, .any, .any, .any, .any, .any, .any, .any, .any, .any, .any, .any, .any, .any, .any, .any, .any, .any, .any, .any, .any, .any, .any, .any, .any, .any, .any, .any, .any, .any, .any, .any, .any, .any, .any, .any, .any, .any, .any, .any, .any, .any, .any, .any, .any, .any, .any, .any, .any, .any, .any, .any, .any, .any, .any, .any, .any, .any, .any, .any, .any, .any, .any, .any, .any, .any, .any, .any, .any, .any, .any, .any, .any, .any], [], []⟩
  refine aw_seq ?_
  refine aw_regK hX hb [0, 1, 2, 3] rfl (σ' := ?s1) (fun K hK => ?h1) ?n1
  case h1 =>
    iterate 4 (refine st_op rfl (by simp (disch := omega) only [stepf,callOf,qop,fop,St.ev,St.put,cd,zd,Value.oneCell',tb_T,TypeDesc.aggB,getD_0,getD_s,Ze,Zd,Zc,Za,Zb,Zr,ZE,ZF,Zf,Zq,Zg,i64_w,Zt,Zs,ZM,ZL,Zl,Zo,ZG,ZH,St.addBox,D.boxCells,D.live,Value.cells,t2,ti2,t3,ti3,t24,ti24,t26,ti26,t35,ti35,t58,ti58,t60,ti60,map_at_l,map_at_i,Zh,secCells_length,ZO,add_one_mul_cast,mul_cast,quo_w,quo_nat] <;> exact rfl) ?_)
    refine aops_nil ?_
    exact hK
  refine exq_n ?_
  refine aw_seq ?_
  refine aw_seq ?_
  refine aw_regK hX hb [0, 1, 2] rfl (σ' := ?s2) (fun K hK => ?h2) ?n2
  case h2 =>
    (refine st_op rfl (by simp (disch := omega) only [stepf,callOf,qop,fop,St.ev,St.put,cd,zd,Value.oneCell',tb_T,TypeDesc.aggB,getD_0,getD_s,Ze,Zd,Zc,Za,Zb,Zr,ZE,ZF,Zf,Zq,Zg,i64_w,Zt,Zs,Zl,Zo,Zv,Zw,Zj,Zk,Zx,Zy,qLoad,bload,pload,pureAll,D.pure?,ZC,ZD,pvAll,D.pv?,t3,ti3,t24,ti24,t26,ti26,t58,ti58,t60,ti60,map_at_l,map_at_i,Zh,secCells_length,ZO,add_one_mul_cast,mul_cast,quo_w,quo_nat] <;> exact rfl) ?_)
    refine st_call rfl (by simp only [callOf,St.ev,getD_0,getD_s,pvAll,D.pv?,ZG,ZH,zd,cd,Value.oneCell',Zr] <;> exact rfl) (acK hP (c31 ⟨s, f, lv⟩)) (by simp only [St.put,Za,Zb] <;> exact rfl) ?_
    (refine st_op rfl (by simp (disch := omega) only [stepf,callOf,qop,fop,St.ev,St.put,cd,zd,Value.oneCell',tb_T,TypeDesc.aggB,getD_0,getD_s,Ze,Zd,Zc,Za,Zb,Zr,ZE,ZF,Zf,Zq,Zg,i64_w,Zt,Zs,Zl,Zo,Zv,Zw,Zj,Zk,Zx,Zy,qLoad,bload,pload,pureAll,D.pure?,ZC,ZD,pvAll,D.pv?,t3,ti3,t24,ti24,t26,ti26,t58,ti58,t60,ti60,map_at_l,map_at_i,Zh,secCells_length,ZO,add_one_mul_cast,mul_cast,quo_w,quo_nat] <;> exact rfl) ?_)
    refine aops_nil ?_
    exact hK
  refine exq_n ?_
  refine aw_seq ?_
  refine aw_regK hX hb [0, 1] rfl (σ' := ?s3) (fun K hK => ?h3) ?n3
  case h3 =>
    iterate 2 (refine st_op rfl (by simp (disch := omega) only [stepf,callOf,qop,fop,St.ev,St.put,cd,zd,Value.oneCell',tb_T,TypeDesc.aggB,getD_0,getD_s,Ze,Zd,Zc,Za,Zb,Zr,ZE,ZF,Zf,Zq,Zg,i64_w,Zt,Zs,qBin,iop,t27,ti27,map_at_l,map_at_i,Zh,secCells_length,ZO,add_one_mul_cast,mul_cast,quo_w,quo_nat] <;> exact rfl) ?_)
    refine aops_nil ?_
    exact hK
  refine exq_n ?_
  refine aw_cond _ rfl (fun hc0 => ?_) (fun hc0 => ?_)
  · try simp only [Zp,Zi,ZK,ZJ,ne_eq,Zn,Zm,ZB,ZA,ZI,not_or,not_and,Zu] at hc0
    refine aw_seq ?_
    refine aw_regK hX hb [0, 1, 2, 3] rfl (σ' := ?s4) (fun K hK => ?h4) ?n4
    case h4 =>
      iterate 4 (refine st_op rfl (by simp (disch := omega) only [stepf,callOf,qop,fop,St.ev,St.put,cd,zd,Value.oneCell',tb_T,TypeDesc.aggB,getD_0,getD_s,Ze,Zd,Zc,Za,Zb,Zr,ZE,ZF,Zf,Zq,Zg,i64_w,Zt,Zs,tb_W,tbO_W,qBuild,qBuildD,D.cell1,range_1,range_2,range_3,range_4,range_5,List.all_cons,List.all_nil,bfill,TI.place,TI.zeros,TI.kindOk,D.cells?,D.pure?,zp,Value.cells,ZQ,ZP,Zl,Zo,fStore,D.boxCells,D.live,Zv,Zw,Zj,Zk,Zx,Zy,ZM,ZL,ZN,ZG,ZH,St.setVec,ZC,t3,ti3,t24,ti24,t26,ti26,t58,ti58,t60,ti60,map_at_l,map_at_i,Zh,secCells_length,ZO,add_one_mul_cast,mul_cast,quo_w,quo_nat] <;> exact rfl) ?_)
      refine aops_nil ?_
      exact hK
    refine exq_n ?_
    refine aw_ret ?_
    refine exq_r ?_
    exact ret_r rfl (resOf_two (by simp only [resVal,qLoad,bload,tb_T,TypeDesc.aggB,pureAll,D.pure?,D.pv?,getD_0,getD_s,Zd,Zc,Zw,Zk,Zv,Zj,Zx,Zl,Zo,Zr,reduceIte,Nat.reduceAdd,Nat.reduceLeDiff,Zg,Zf,t3,ti3,t24,ti24,t26,ti26,t58,ti58,t60,ti60] <;> exact rfl) rfl (by first | rfl | (first | (rw [refUpd_e hc0]; rfl) | (rw [refUpd_6 hc0 (show (l.length : Int) ≠ (S : Int) by omega)]; rfl) | (rw [refUpd_2 hc0 (show (l.length : Int) = (S : Int) by omega) hc2]; rfl) | (rw [refUpd_0 hc0 (show (l.length : Int) = (S : Int) by omega) (by dsimp only; omega), updP_end l q3 _ u v i (not_and.2 hc3)]; rfl))))
  · try simp only [Zp,Zi,ZK,ZJ,ne_eq,Zn,Zm,ZB,ZA,ZI,not_or,not_and,Zu] at hc0
    obtain ⟨S, F, hS, hF, q1, q2, q3, q4, q5, q6⟩ := refChk_ok hc0
    dsimp only at hS hF q5 q6
    subst hS
    subst hF
    have hhd := sh_head q5
    have hnl := nLeaves_le (s := S) (n := F) q3
    refine aw_skip ?_
    refine exq_n ?_
    refine aw_seq ?_
    refine aw_block ?_
    refine aw_seq ?_
    refine aw_regK hX hb [0, 1, 2, 3, 4, 5] rfl (σ' := ?s5) (fun K hK => ?h5) ?n5
    case h5 =>
      iterate 6 (refine st_op rfl (by simp (disch := omega) only [stepf,callOf,qop,fop,St.ev,St.put,cd,zd,Value.oneCell',tb_T,TypeDesc.aggB,getD_0,getD_s,Ze,Zd,Zc,Za,Zb,Zr,ZE,ZF,Zf,Zq,Zg,i64_w,Zt,Zs,qLen,qFieldAddr,fieldOf,Zl,Zo,Zv,Zw,Zj,Zk,Zx,Zy,qLoad,bload,pload,pureAll,D.pure?,ZC,ZD,qBin,iop,t1,ti1,t3,ti3,t5,ti5,t22,ti22,t24,ti24,t26,ti26,t50,ti50,t58,ti58,t60,ti60,map_at_l,map_at_i,Zh,secCells_length,ZO,add_one_mul_cast,mul_cast,quo_w,quo_nat] <;> exact rfl) ?_)
      refine aops_nil ?_
      exact hK
    refine exq_n ?_
    refine aw_cond _ rfl (fun hc1 => ?_) (fun hc1 => ?_)
    · try simp only [Zp,Zi,ZK,ZJ,ne_eq,Zn,Zm,ZB,ZA,ZI,not_or,not_and,Zu] at hc1
      refine aw_seq ?_
      refine aw_regK hX hb [0, 1, 2] rfl (σ' := ?s6) (fun K hK => ?h6) ?n6
      case h6 =>
        iterate 3 (refine st_op rfl (by simp (disch := omega) only [stepf,callOf,qop,fop,St.ev,St.put,cd,zd,Value.oneCell',tb_T,TypeDesc.aggB,getD_0,getD_s,Ze,Zd,Zc,Za,Zb,Zr,ZE,ZF,Zf,Zq,Zg,i64_w,Zt,Zs,tb_W,tbO_W,qBuild,qBuildD,D.cell1,range_1,range_2,range_3,range_4,range_5,List.all_cons,List.all_nil,bfill,TI.place,TI.zeros,TI.kindOk,D.cells?,D.pure?,zp,Value.cells,ZQ,ZP,Zl,Zo,fStore,D.boxCells,D.live,Zv,Zw,Zj,Zk,Zx,Zy,ZM,ZL,ZN,ZG,ZH,St.setVec,ZC,t3,ti3,t24,ti24,t26,ti26,t58,ti58,t60,ti60,map_at_l,map_at_i,Zh,secCells_length,ZO,add_one_mul_cast,mul_cast,quo_w,quo_nat] <;> exact rfl) ?_)
        refine aops_nil ?_
        exact hK
      refine exq_n ?_
      refine aw_ret ?_
      refine exb_r ?_
      refine exq_r ?_
      exact ret_r rfl (resOf_two (by simp only [resVal,qLoad,bload,tb_T,TypeDesc.aggB,pureAll,D.pure?,D.pv?,getD_0,getD_s,Zd,Zc,Zw,Zk,Zv,Zj,Zx,Zl,Zo,Zr,reduceIte,Nat.reduceAdd,Nat.reduceLeDiff,Zg,Zf,t3,ti3,t24,ti24,t26,ti26,t58,ti58,t60,ti60] <;> exact rfl) rfl (by first | rfl | (first | (rw [refUpd_e hc0]; rfl) | (rw [refUpd_6 hc0 (show (l.length : Int) ≠ (S : Int) by omega)]; rfl) | (rw [refUpd_2 hc0 (show (l.length : Int) = (S : Int) by omega) hc2]; rfl) | (rw [refUpd_0 hc0 (show (l.length : Int) = (S : Int) by omega) (by dsimp only; omega), updP_end l q3 _ u v i (not_and.2 hc3)]; rfl))))
    · try simp only [Zp,Zi,ZK,ZJ,ne_eq,Zn,Zm,ZB,ZA,ZI,not_or,not_and,Zu] at hc1
      refine aw_seq ?_
      refine aw_regJ hX hb [0, 1, 2, 3, 4, 5, 6, 7, 8, 9, 10, 11, 12, 13, 14, 15, 16, 17, 18, 19, 20, 21, 22, 23, 24, 25] rfl (ts := [25, 26, 27, 28, 29, 30, 31, 32, 33, 34, 35, 36, 37, 38, 39, 40, 41, 42, 43, 44, 45, 46, 47, 48, 49]) (t := 24) (d := .p (bv (es < 0 ∨ ec < 0 ∨ (S : Int) < es ∨ (S : Int) - es < ec))) (σ' := ?s7) ?j7 ?h7 ?n7
      case j7 => simp only [St.join,List.foldl,Za,Zb]; exact rfl
      case h7 =>
        iterate 4 (all_goals refine st_op rfl (by simp (disch := omega) only [stepf,callOf,qop,fop,St.ev,St.put,cd,zd,Value.oneCell',tb_T,TypeDesc.aggB,getD_0,getD_s,Ze,Zd,Zc,Za,Zb,Zr,ZE,ZF,Zf,Zq,Zg,i64_w,Zt,Zs,qFieldAddr,fieldOf,Zl,Zo,Zv,Zw,Zj,Zk,Zx,Zy,qLoad,bload,pload,pureAll,D.pure?,ZC,ZD,qBin,iop,t1,ti1,t3,ti3,t5,ti5,t22,ti22,t24,ti24,t26,ti26,t27,ti27,t35,ti35,t40,ti40,t47,ti47,t50,ti50,t58,ti58,t60,ti60,map_at_l,map_at_i,Zh,secCells_length,ZO,add_one_mul_cast,mul_cast,quo_w,quo_nat] <;> exact rfl) ?_)
        iterate 3 (all_goals first | (refine st_g1 rfl rfl rfl (by simp (disch := omega) only [stepf,callOf,qop,fop,St.ev,St.put,cd,zd,Value.oneCell',tb_T,TypeDesc.aggB,getD_0,getD_s,Ze,Zd,Zc,Za,Zb,Zr,ZE,ZF,Zf,Zq,Zg,i64_w,Zt,Zs,qFieldAddr,fieldOf,Zl,Zo,Zv,Zw,Zj,Zk,Zx,Zy,qLoad,bload,pload,pureAll,D.pure?,ZC,ZD,qBin,iop,t1,ti1,t3,ti3,t5,ti5,t22,ti22,t24,ti24,t26,ti26,t27,ti27,t35,ti35,t40,ti40,t47,ti47,t50,ti50,t58,ti58,t60,ti60,map_at_l,map_at_i,Zh,secCells_length,ZO,add_one_mul_cast,mul_cast,quo_w,quo_nat] <;> exact rfl) ?_) | (first | (refine st_g0 rfl rfl rfl (by simp only [St.put,Za,Zb] <;> exact rfl) ?_) | (refine st_gu rfl rfl rfl (by simp only [St.put,Za,Zb] <;> exact rfl) ?_)) | (refine st_split rfl rfl rfl (by simp only [Za,Zb] <;> exact rfl) (by simp only [Za,Zb] <;> exact rfl) (fun hg => ?_) (fun hg => ?_) <;> (try simp only [Zp,Zi,ZJ,ZK,ne_eq,Zn,Zm,Bool.not_eq_true,Zu] at hg) <;> first | (refine st_g1 rfl rfl rfl (by simp (disch := omega) only [stepf,callOf,qop,fop,St.ev,St.put,cd,zd,Value.oneCell',tb_T,TypeDesc.aggB,getD_0,getD_s,Ze,Zd,Zc,Za,Zb,Zr,ZE,ZF,Zf,Zq,Zg,i64_w,Zt,Zs,qFieldAddr,fieldOf,Zl,Zo,Zv,Zw,Zj,Zk,Zx,Zy,qLoad,bload,pload,pureAll,D.pure?,ZC,ZD,qBin,iop,t1,ti1,t3,ti3,t5,ti5,t22,ti22,t24,ti24,t26,ti26,t27,ti27,t35,ti35,t40,ti40,t47,ti47,t50,ti50,t58,ti58,t60,ti60,map_at_l,map_at_i,Zh,secCells_length,ZO,add_one_mul_cast,mul_cast,quo_w,quo_nat] <;> exact rfl) ?_) | (first | (refine st_g0 rfl rfl rfl (by simp only [St.put,Za,Zb] <;> exact rfl) ?_) | (refine st_gu rfl rfl rfl (by simp only [St.put,Za,Zb] <;> exact rfl) ?_))))
        iterate 2 (all_goals refine st_op rfl (by simp (disch := omega) only [stepf,callOf,qop,fop,St.ev,St.put,cd,zd,Value.oneCell',tb_T,TypeDesc.aggB,getD_0,getD_s,Ze,Zd,Zc,Za,Zb,Zr,ZE,ZF,Zf,Zq,Zg,i64_w,Zt,Zs,qFieldAddr,fieldOf,Zl,Zo,Zv,Zw,Zj,Zk,Zx,Zy,qLoad,bload,pload,pureAll,D.pure?,ZC,ZD,qBin,iop,t1,ti1,t3,ti3,t5,ti5,t22,ti22,t24,ti24,t26,ti26,t27,ti27,t35,ti35,t40,ti40,t47,ti47,t50,ti50,t58,ti58,t60,ti60,map_at_l,map_at_i,Zh,secCells_length,ZO,add_one_mul_cast,mul_cast,quo_w,quo_nat] <;> exact rfl) ?_)
        iterate 5 (all_goals first | (refine st_g1 rfl rfl rfl (by simp (disch := omega) only [stepf,callOf,qop,fop,St.ev,St.put,cd,zd,Value.oneCell',tb_T,TypeDesc.aggB,getD_0,getD_s,Ze,Zd,Zc,Za,Zb,Zr,ZE,ZF,Zf,Zq,Zg,i64_w,Zt,Zs,qFieldAddr,fieldOf,Zl,Zo,Zv,Zw,Zj,Zk,Zx,Zy,qLoad,bload,pload,pureAll,D.pure?,ZC,ZD,qBin,iop,t1,ti1,t3,ti3,t5,ti5,t22,ti22,t24,ti24,t26,ti26,t27,ti27,t35,ti35,t40,ti40,t47,ti47,t50,ti50,t58,ti58,t60,ti60,map_at_l,map_at_i,Zh,secCells_length,ZO,add_one_mul_cast,mul_cast,quo_w,quo_nat] <;> exact rfl) ?_) | (first | (refine st_g0 rfl rfl rfl (by simp only [St.put,Za,Zb] <;> exact rfl) ?_) | (refine st_gu rfl rfl rfl (by simp only [St.put,Za,Zb] <;> exact rfl) ?_)) | (refine st_split rfl rfl rfl (by simp only [Za,Zb] <;> exact rfl) (by simp only [Za,Zb] <;> exact rfl) (fun hg => ?_) (fun hg => ?_) <;> (try simp only [Zp,Zi,ZJ,ZK,ne_eq,Zn,Zm,Bool.not_eq_true,Zu] at hg) <;> first | (refine st_g1 rfl rfl rfl (by simp (disch := omega) only [stepf,callOf,qop,fop,St.ev,St.put,cd,zd,Value.oneCell',tb_T,TypeDesc.aggB,getD_0,getD_s,Ze,Zd,Zc,Za,Zb,Zr,ZE,ZF,Zf,Zq,Zg,i64_w,Zt,Zs,qFieldAddr,fieldOf,Zl,Zo,Zv,Zw,Zj,Zk,Zx,Zy,qLoad,bload,pload,pureAll,D.pure?,ZC,ZD,qBin,iop,t1,ti1,t3,ti3,t5,ti5,t22,ti22,t24,ti24,t26,ti26,t27,ti27,t35,ti35,t40,ti40,t47,ti47,t50,ti50,t58,ti58,t60,ti60,map_at_l,map_at_i,Zh,secCells_length,ZO,add_one_mul_cast,mul_cast,quo_w,quo_nat] <;> exact rfl) ?_) | (first | (refine st_g0 rfl rfl rfl (by simp only [St.put,Za,Zb] <;> exact rfl) ?_) | (refine st_gu rfl rfl rfl (by simp only [St.put,Za,Zb] <;> exact rfl) ?_))))
        iterate 2 (all_goals refine st_op rfl (by simp (disch := omega) only [stepf,callOf,qop,fop,St.ev,St.put,cd,zd,Value.oneCell',tb_T,TypeDesc.aggB,getD_0,getD_s,Ze,Zd,Zc,Za,Zb,Zr,ZE,ZF,Zf,Zq,Zg,i64_w,Zt,Zs,qFieldAddr,fieldOf,Zl,Zo,Zv,Zw,Zj,Zk,Zx,Zy,qLoad,bload,pload,pureAll,D.pure?,ZC,ZD,qBin,iop,t1,ti1,t3,ti3,t5,ti5,t22,ti22,t24,ti24,t26,ti26,t27,ti27,t35,ti35,t40,ti40,t47,ti47,t50,ti50,t58,ti58,t60,ti60,map_at_l,map_at_i,Zh,secCells_length,ZO,add_one_mul_cast,mul_cast,quo_w,quo_nat] <;> exact rfl) ?_)
        iterate 8 (all_goals first | (refine st_g1 rfl rfl rfl (by simp (disch := omega) only [stepf,callOf,qop,fop,St.ev,St.put,cd,zd,Value.oneCell',tb_T,TypeDesc.aggB,getD_0,getD_s,Ze,Zd,Zc,Za,Zb,Zr,ZE,ZF,Zf,Zq,Zg,i64_w,Zt,Zs,qFieldAddr,fieldOf,Zl,Zo,Zv,Zw,Zj,Zk,Zx,Zy,qLoad,bload,pload,pureAll,D.pure?,ZC,ZD,qBin,iop,t1,ti1,t3,ti3,t5,ti5,t22,ti22,t24,ti24,t26,ti26,t27,ti27,t35,ti35,t40,ti40,t47,ti47,t50,ti50,t58,ti58,t60,ti60,map_at_l,map_at_i,Zh,secCells_length,ZO,add_one_mul_cast,mul_cast,quo_w,quo_nat] <;> exact rfl) ?_) | (first | (refine st_g0 rfl rfl rfl (by simp only [St.put,Za,Zb] <;> exact rfl) ?_) | (refine st_gu rfl rfl rfl (by simp only [St.put,Za,Zb] <;> exact rfl) ?_)) | (refine st_split rfl rfl rfl (by simp only [Za,Zb] <;> exact rfl) (by simp only [Za,Zb] <;> exact rfl) (fun hg => ?_) (fun hg => ?_) <;> (try simp only [Zp,Zi,ZJ,ZK,ne_eq,Zn,Zm,Bool.not_eq_true,Zu] at hg) <;> first | (refine st_g1 rfl rfl rfl (by simp (disch := omega) only [stepf,callOf,qop,fop,St.ev,St.put,cd,zd,Value.oneCell',tb_T,TypeDesc.aggB,getD_0,getD_s,Ze,Zd,Zc,Za,Zb,Zr,ZE,ZF,Zf,Zq,Zg,i64_w,Zt,Zs,qFieldAddr,fieldOf,Zl,Zo,Zv,Zw,Zj,Zk,Zx,Zy,qLoad,bload,pload,pureAll,D.pure?,ZC,ZD,qBin,iop,t1,ti1,t3,ti3,t5,ti5,t22,ti22,t24,ti24,t26,ti26,t27,ti27,t35,ti35,t40,ti40,t47,ti47,t50,ti50,t58,ti58,t60,ti60,map_at_l,map_at_i,Zh,secCells_length,ZO,add_one_mul_cast,mul_cast,quo_w,quo_nat] <;> exact rfl) ?_) | (first | (refine st_g0 rfl rfl rfl (by simp only [St.put,Za,Zb] <;> exact rfl) ?_) | (refine st_gu rfl rfl rfl (by simp only [St.put,Za,Zb] <;> exact rfl) ?_))))
        iterate 2 (all_goals refine st_op rfl (by simp (disch := omega) only [stepf,callOf,qop,fop,St.ev,St.put,cd,zd,Value.oneCell',tb_T,TypeDesc.aggB,getD_0,getD_s,Ze,Zd,Zc,Za,Zb,Zr,ZE,ZF,Zf,Zq,Zg,i64_w,Zt,Zs,qFieldAddr,fieldOf,Zl,Zo,Zv,Zw,Zj,Zk,Zx,Zy,qLoad,bload,pload,pureAll,D.pure?,ZC,ZD,qBin,iop,t1,ti1,t3,ti3,t5,ti5,t22,ti22,t24,ti24,t26,ti26,t27,ti27,t35,ti35,t40,ti40,t47,ti47,t50,ti50,t58,ti58,t60,ti60,map_at_l,map_at_i,Zh,secCells_length,ZO,add_one_mul_cast,mul_cast,quo_w,quo_nat] <;> exact rfl) ?_)
        all_goals refine aops_nil ?_
        all_goals refine ⟨rfl, ?_, leB_self _, leV_self _, rfl, rfl⟩
        all_goals repeat' (first | exact leL_nil | refine leL_a ?_ | refine leL_r rfl ?_ | refine leL_r ?_ ?_)
        all_goals refine jn ?_
        all_goals ((try simp only [Zp,Zi,ZJ,ZK,Bool.not_eq_true,Zm,Zn,ne_eq,Zf,true_iff,false_iff,iff_true,iff_false] at *) <;> omega)
      refine exq_n ?_
      refine aw_cond _ rfl (fun hc2 => ?_) (fun hc2 => ?_)
      · try simp only [Zp,Zi,ZK,ZJ,ne_eq,Zn,Zm,ZB,ZA,ZI,not_or,not_and,Zu] at hc2
        refine aw_seq ?_
        refine aw_regK hX hb [0, 1, 2] rfl (σ' := ?s8) (fun K hK => ?h8) ?n8
        case h8 =>
          iterate 3 (refine st_op rfl (by simp (disch := omega) only [stepf,callOf,qop,fop,St.ev,St.put,cd,zd,Value.oneCell',tb_T,TypeDesc.aggB,getD_0,getD_s,Ze,Zd,Zc,Za,Zb,Zr,ZE,ZF,Zf,Zq,Zg,i64_w,Zt,Zs,tb_W,tbO_W,qBuild,qBuildD,D.cell1,range_1,range_2,range_3,range_4,range_5,List.all_cons,List.all_nil,bfill,TI.place,TI.zeros,TI.kindOk,D.cells?,D.pure?,zp,Value.cells,ZQ,ZP,Zl,Zo,fStore,D.boxCells,D.live,Zv,Zw,Zj,Zk,Zx,Zy,ZM,ZL,ZN,ZG,ZH,St.setVec,ZC,t2,ti2,t3,ti3,t5,ti5,t24,ti24,t26,ti26,t50,ti50,t58,ti58,t60,ti60,map_at_l,map_at_i,Zh,secCells_length,ZO,add_one_mul_cast,mul_cast,quo_w,quo_nat] <;> exact rfl) ?_)
          refine aops_nil ?_
          exact hK
        refine exq_n ?_
        refine aw_ret ?_
        refine exb_r ?_
        refine exq_r ?_
        exact ret_r rfl (resOf_two (by simp only [resVal,qLoad,bload,tb_T,TypeDesc.aggB,pureAll,D.pure?,D.pv?,getD_0,getD_s,Zd,Zc,Zw,Zk,Zv,Zj,Zx,Zl,Zo,Zr,reduceIte,Nat.reduceAdd,Nat.reduceLeDiff,Zg,Zf,t3,ti3,t24,ti24,t26,ti26,t58,ti58,t60,ti60] <;> exact rfl) rfl (by first | rfl | (first | (rw [refUpd_e hc0]; rfl) | (rw [refUpd_6 hc0 (show (l.length : Int) ≠ (S : Int) by omega)]; rfl) | (rw [refUpd_2 hc0 (show (l.length : Int) = (S : Int) by omega) hc2]; rfl) | (rw [refUpd_0 hc0 (show (l.length : Int) = (S : Int) by omega) (by dsimp only; omega), updP_end l q3 _ u v i (not_and.2 hc3)]; rfl))))
      · try simp only [Zp,Zi,ZK,ZJ,ne_eq,Zn,Zm,ZB,ZA,ZI,not_or,not_and,Zu] at hc2
        obtain ⟨u, hu⟩ : ∃ u : Nat, es = u := ⟨es.toNat, by omega⟩
        subst hu
        obtain ⟨v, hv⟩ : ∃ v : Nat, ec = v := ⟨ec.toNat, by omega⟩
        subst hv
        have hqu : u / F ≤ u := Nat.div_le_self u F
        refine aw_skip ?_
        refine exb_n ?_
        refine exq_n ?_
        refine aw_seq ?_
        refine aw_regK hX hb [0, 1, 2, 3, 4, 5] rfl (σ' := ?s9) (fun K hK => ?h9) ?n9
        case h9 =>
          iterate 4 (refine st_op rfl (by simp (disch := omega) only [stepf,callOf,qop,fop,St.ev,St.put,cd,zd,Value.oneCell',tb_T,TypeDesc.aggB,getD_0,getD_s,Ze,Zd,Zc,Za,Zb,Zr,ZE,ZF,Zf,Zq,Zg,i64_w,Zt,Zs,qFieldAddr,fieldOf,Zl,Zo,Zv,Zw,Zj,Zk,Zx,Zy,qLoad,bload,pload,pureAll,D.pure?,ZC,ZD,Int.toNat_zero,Int.toNat_one,toNat_pred,toNat_succ,qIndexAddr,ZO,Nat.mul_one,Nat.zero_mul,Zh,pvAll,D.pv?,t2,ti2,t3,ti3,t4,ti4,t24,ti24,t26,ti26,t54,ti54,t58,ti58,t60,ti60,map_at_l,map_at_i,secCells_length,add_one_mul_cast,mul_cast,quo_w,quo_nat] <;> exact rfl) ?_)
          refine st_callO rfl (by simp only [callOf,St.ev,getD_0,getD_s,pvAll,D.pv?,ZG,ZH,zd,cd,Value.oneCell',Zr] <;> exact rfl) (acKO hP (o72 _ (by omega))) (by simp only [St.addVec,St.put,ZL,ZM,Zl,Zo,Za,Zb] <;> exact rfl) ?_
          (refine st_op rfl (by simp (disch := omega) only [stepf,callOf,qop,fop,St.ev,St.put,cd,zd,Value.oneCell',tb_T,TypeDesc.aggB,getD_0,getD_s,Ze,Zd,Zc,Za,Zb,Zr,ZE,ZF,Zf,Zq,Zg,i64_w,Zt,Zs,qFieldAddr,fieldOf,Zl,Zo,Zv,Zw,Zj,Zk,Zx,Zy,qLoad,bload,pload,pureAll,D.pure?,ZC,ZD,Int.toNat_zero,Int.toNat_one,toNat_pred,toNat_succ,qIndexAddr,ZO,Nat.mul_one,Nat.zero_mul,Zh,pvAll,D.pv?,t2,ti2,t3,ti3,t4,ti4,t24,ti24,t26,ti26,t54,ti54,t58,ti58,t60,ti60,map_at_l,map_at_i,secCells_length,add_one_mul_cast,mul_cast,quo_w,quo_nat] <;> exact rfl) ?_)
          refine aops_nil ?_
          exact hK
        refine exq_n ?_
        refine aw_seq ?_
        refine aw_seq ?_
        refine aw_regK hX hb [0, 1, 2, 3, 4, 5] rfl (σ' := ?s10) (fun K hK => ?h10) ?n10
        case h10 =>
          iterate 6 (refine st_op rfl (by simp (disch := omega) only [stepf,callOf,qop,fop,St.ev,St.put,cd,zd,Value.oneCell',tb_T,TypeDesc.aggB,getD_0,getD_s,Ze,Zd,Zc,Za,Zb,Zr,ZE,ZF,Zf,Zq,Zg,i64_w,Zt,Zs,qFieldAddr,fieldOf,Zl,Zo,Zv,Zw,Zj,Zk,Zx,Zy,qLoad,bload,pload,pureAll,D.pure?,ZC,ZD,qBin,iop,t1,ti1,t3,ti3,t5,ti5,t24,ti24,t26,ti26,t35,ti35,t58,ti58,t60,ti60,map_at_l,map_at_i,Zh,secCells_length,ZO,add_one_mul_cast,mul_cast,quo_w,quo_nat] <;> exact rfl) ?_)
          refine aops_nil ?_
          exact hK
        refine exq_n ?_
        refine aw_block ?_
        refine aw_loop (ι := Nat) (fun i => u / F ≤ i ∧ i ≤ 4097) (fun i => ⟨[], [.any, .p (secs l), .any, .ptr 0 0, .any, .ptr 1 0, .ptr 2 0, .p (i64 0), .any, .vref 0, .p (i64 (i : Int)), .any, .any, .any, .any, .any, .any, .any, .any, .any, .any, .any, .any, .any, .any, .any, .any, .any, .any, .any, .any, .any, .any, .any, .any, .any, .any, .any, .any, .any, .any, .any, .any, .any, .any, .any, .any, .any, .any, .any, .any, .any, .any, .any, .any, .any, .any, .any, .any, .any, .any, .any, .any, .any, .any, .any, .any, .any, .any, .any, .any, .any, .any, .any, .any, .any, .any, .any, .any, .any, .any, .any, .any, .any, .any, .any, .any, .any, .any, .any, .any, .any, .any, .any, .any, .any, .any, .any, .any, .any, .any, .any, .any], [⟨26, [.p (i64 (S : Int)), .p (i64 (F : Int)), .p (lvls lv)]⟩, ⟨35, [.p (i64 (u : Int)), .p (i64 (v : Int))]⟩, ⟨26, [.p (i64 0), .p (i64 0), .nil]⟩], [some ⟨58, 1, (updP l F (lv.getD 0 []) u v i).length, (updP l F (lv.getD 0 []) u v i).map u64⟩]⟩) (fun i => 4098 - i) (u / F) (by exact ⟨Nat.le_refl _, by omega⟩) (wk_le ⟨rfl, leL_a (leL_r (by first | rfl | (first | (rw [updP_start l q3]) | (rw [← updP_step l q3 _ u v i (by omega) hc3.1 hui hc3.2]; simp [List.map_set]))) (leL_a (leL_r (by first | rfl | (first | (rw [updP_start l q3]) | (rw [← updP_step l q3 _ u v i (by omega) hc3.1 hui hc3.2]; simp [List.map_set]))) (leL_a (leL_r (by first | rfl | (first | (rw [updP_start l q3]) | (rw [← updP_step l q3 _ u v i (by omega) hc3.1 hui hc3.2]; simp [List.map_set]))) (leL_r (by first | rfl | (first | (rw [updP_start l q3]) | (rw [← updP_step l q3 _ u v i (by omega) hc3.1 hui hc3.2]; simp [List.map_set]))) (leL_r (by first | rfl | (first | (rw [updP_start l q3]) | (rw [← updP_step l q3 _ u v i (by omega) hc3.1 hui hc3.2]; simp [List.map_set]))) (leL_a (leL_r (by first | rfl | (first | (rw [updP_start l q3]) | (rw [← updP_step l q3 _ u v i (by omega) hc3.1 hui hc3.2]; simp [List.map_set]))) (leL_r (by first | rfl | (first | (rw [updP_start l q3]) | (rw [← updP_step l q3 _ u v i (by omega) hc3.1 hui hc3.2]; simp [List.map_set]))) (leL_a (leL_a (leL_a (leL_a (leL_a (leL_a (leL_a (leL_a (leL_a (leL_a (leL_a (leL_a (leL_a (leL_a (leL_a (leL_a (leL_a (leL_a (leL_a (leL_a (leL_a (leL_a (leL_a (leL_a (leL_a (leL_a (leL_a (leL_a (leL_a (leL_a (leL_a (leL_a (leL_a (leL_a (leL_a (leL_a (leL_a (leL_a (leL_a (leL_a (leL_a (leL_a (leL_a (leL_a (leL_a (leL_a (leL_a (leL_a (leL_a (leL_a (leL_a (leL_a (leL_a (leL_a (leL_a (leL_a (leL_a (leL_a (leL_a (leL_a (leL_a (leL_a (leL_a (leL_a (leL_a (leL_a (leL_a (leL_a (leL_a (leL_a (leL_a (leL_a (leL_a (leL_a (leL_a (leL_a (leL_a (leL_a (leL_a (leL_a (leL_a (leL_a (leL_a (leL_a (leL_a (leL_a (leL_a (leL_a (leL_a (leL_a (leL_a (leL_a (leL_nil))))))))))))))))))))))))))))))))))))))))))))))))))))))))))))))))))))))))))))))))))))))))))))))))))))))), (leB_r rfl (leL_r (by first | rfl | (first | (rw [updP_start l q3]) | (rw [← updP_step l q3 _ u v i (by omega) hc3.1 hui hc3.2]; simp [List.map_set]))) (leL_r (by first | rfl | (first | (rw [updP_start l q3]) | (rw [← updP_step l q3 _ u v i (by omega) hc3.1 hui hc3.2]; simp [List.map_set]))) (leL_r (by first | rfl | (first | (rw [updP_start l q3]) | (rw [← updP_step l q3 _ u v i (by omega) hc3.1 hui hc3.2]; simp [List.map_set]))) (leL_nil)))) (leB_r rfl (leL_r (by first | rfl | (first | (rw [updP_start l q3]) | (rw [← updP_step l q3 _ u v i (by omega) hc3.1 hui hc3.2]; simp [List.map_set]))) (leL_r (by first | rfl | (first | (rw [updP_start l q3]) | (rw [← updP_step l q3 _ u v i (by omega) hc3.1 hui hc3.2]; simp [List.map_set]))) (leL_nil))) (leB_r rfl (leL_r (by first | rfl | (first | (rw [updP_start l q3]) | (rw [← updP_step l q3 _ u v i (by omega) hc3.1 hui hc3.2]; simp [List.map_set]))) (leL_r (by first | rfl | (first | (rw [updP_start l q3]) | (rw [← updP_step l q3 _ u v i (by omega) hc3.1 hui hc3.2]; simp [List.map_set]))) (leL_r (by first | rfl | (first | (rw [updP_start l q3]) | (rw [← updP_step l q3 _ u v i (by omega) hc3.1 hui hc3.2]; simp [List.map_set]))) (leL_nil)))) (leB_nil _)))), (leV_r (by first | rfl | (first | (rw [updP_start l q3]) | (rw [← updP_step l q3 _ u v i (by omega) hc3.1 hui hc3.2]; simp [List.map_set]))) (leV_nil _)), rfl, rfl⟩) ?_
        rintro i ⟨hui, hi⟩
        have hlr := updP_length l F (lv.getD 0 []) u v i
        refine aw_seq ?_
        refine aw_seq ?_
        refine aw_regJ hX hb [0, 1, 2, 3, 4, 5, 6, 7, 8, 9, 10, 11, 12, 13, 14, 15] rfl (ts := [61, 62, 63, 64, 65, 66, 67, 68, 69, 70, 71, 72, 73, 74, 75]) (t := 76) (d := .p (bv (0 < v ∧ i ≤ (u + v - 1) / F))) (σ' := ?s11) ?j11 ?h11 ?n11
        case j11 => simp only [St.join,List.foldl,Za,Zb]; exact rfl
        case h11 =>
          iterate 4 (all_goals refine st_op rfl (by simp (disch := omega) only [stepf,callOf,qop,fop,St.ev,St.put,cd,zd,Value.oneCell',tb_T,TypeDesc.aggB,getD_0,getD_s,Ze,Zd,Zc,Za,Zb,Zr,ZE,ZF,Zf,Zq,Zg,i64_w,Zt,Zs,qFieldAddr,fieldOf,Zl,Zo,Zv,Zw,Zj,Zk,Zx,Zy,qLoad,bload,pload,pureAll,D.pure?,ZC,ZD,qBin,iop,t1,ti1,t3,ti3,t4,ti4,t5,ti5,t22,ti22,t24,ti24,t26,ti26,t35,ti35,t40,ti40,t50,ti50,t58,ti58,t60,ti60,t63,ti63,t69,ti69,t71,ti71,t75,ti75,map_at_l,map_at_i,Zh,secCells_length,ZO,add_one_mul_cast,mul_cast,quo_w,quo_nat,quo_pred] <;> exact rfl) ?_)
          iterate 11 (all_goals first | (refine st_g1 rfl rfl rfl (by simp (disch := omega) only [stepf,callOf,qop,fop,St.ev,St.put,cd,zd,Value.oneCell',tb_T,TypeDesc.aggB,getD_0,getD_s,Ze,Zd,Zc,Za,Zb,Zr,ZE,ZF,Zf,Zq,Zg,i64_w,Zt,Zs,qFieldAddr,fieldOf,Zl,Zo,Zv,Zw,Zj,Zk,Zx,Zy,qLoad,bload,pload,pureAll,D.pure?,ZC,ZD,qBin,iop,t1,ti1,t3,ti3,t4,ti4,t5,ti5,t22,ti22,t24,ti24,t26,ti26,t35,ti35,t40,ti40,t50,ti50,t58,ti58,t60,ti60,t63,ti63,t69,ti69,t71,ti71,t75,ti75,map_at_l,map_at_i,Zh,secCells_length,ZO,add_one_mul_cast,mul_cast,quo_w,quo_nat,quo_pred] <;> exact rfl) ?_) | (first | (refine st_g0 rfl rfl rfl (by simp only [St.put,Za,Zb] <;> exact rfl) ?_) | (refine st_gu rfl rfl rfl (by simp only [St.put,Za,Zb] <;> exact rfl) ?_)) | (refine st_split rfl rfl rfl (by simp only [Za,Zb] <;> exact rfl) (by simp only [Za,Zb] <;> exact rfl) (fun hg => ?_) (fun hg => ?_) <;> (try simp only [Zp,Zi,ZJ,ZK,ne_eq,Zn,Zm,Bool.not_eq_true,Zu] at hg) <;> first | (refine st_g1 rfl rfl rfl (by simp (disch := omega) only [stepf,callOf,qop,fop,St.ev,St.put,cd,zd,Value.oneCell',tb_T,TypeDesc.aggB,getD_0,getD_s,Ze,Zd,Zc,Za,Zb,Zr,ZE,ZF,Zf,Zq,Zg,i64_w,Zt,Zs,qFieldAddr,fieldOf,Zl,Zo,Zv,Zw,Zj,Zk,Zx,Zy,qLoad,bload,pload,pureAll,D.pure?,ZC,ZD,qBin,iop,t1,ti1,t3,ti3,t4,ti4,t5,ti5,t22,ti22,t24,ti24,t26,ti26,t35,ti35,t40,ti40,t50,ti50,t58,ti58,t60,ti60,t63,ti63,t69,ti69,t71,ti71,t75,ti75,map_at_l,map_at_i,Zh,secCells_length,ZO,add_one_mul_cast,mul_cast,quo_w,quo_nat,quo_pred] <;> exact rfl) ?_) | (first | (refine st_g0 rfl rfl rfl (by simp only [St.put,Za,Zb] <;> exact rfl) ?_) | (refine st_gu rfl rfl rfl (by simp only [St.put,Za,Zb] <;> exact rfl) ?_))))
          (all_goals refine st_op rfl (by simp (disch := omega) only [stepf,callOf,qop,fop,St.ev,St.put,cd,zd,Value.oneCell',tb_T,TypeDesc.aggB,getD_0,getD_s,Ze,Zd,Zc,Za,Zb,Zr,ZE,ZF,Zf,Zq,Zg,i64_w,Zt,Zs,qFieldAddr,fieldOf,Zl,Zo,Zv,Zw,Zj,Zk,Zx,Zy,qLoad,bload,pload,pureAll,D.pure?,ZC,ZD,qBin,iop,t1,ti1,t3,ti3,t4,ti4,t5,ti5,t22,ti22,t24,ti24,t26,ti26,t35,ti35,t40,ti40,t50,ti50,t58,ti58,t60,ti60,t63,ti63,t69,ti69,t71,ti71,t75,ti75,map_at_l,map_at_i,Zh,secCells_length,ZO,add_one_mul_cast,mul_cast,quo_w,quo_nat,quo_pred] <;> exact rfl) ?_)
          all_goals refine aops_nil ?_
          all_goals refine ⟨rfl, ?_, leB_self _, leV_self _, rfl, rfl⟩
          all_goals repeat' (first | exact leL_nil | refine leL_a ?_ | refine leL_r rfl ?_ | refine leL_r ?_ ?_)
          all_goals refine jn ?_
          all_goals ((try simp only [Zp,Zi,ZJ,ZK,Bool.not_eq_true,Zm,Zn,ne_eq,Zf,true_iff,false_iff,iff_true,iff_false] at *) <;> omega)
        refine exq_n ?_
        refine aw_cond _ rfl (fun hc3 => ?_) (fun hc3 => ?_)
        · try simp only [Zp,Zi,ZK,ZJ,ne_eq,Zn,Zm,ZB,ZA,ZI,not_or,not_and,Zu] at hc3
          refine aw_skip ?_
          refine exq_n ?_
          refine aw_seq ?_
          refine aw_block ?_
          have hil : i * F ≤ u + v - 1 := (Nat.le_div_iff_mul_le q3).1 hc3.2
          have hir : i < nLeaves S F := lt_leaf q3 (by omega)
          have hm := leaf_mul q3 hir
          have hlm : ((updP l F (lv.getD 0 []) u v i).map u64).length = (lv.getD 0 []).length := by rw [List.length_map, updP_length]
          refine aw_regK hX hb [0, 1, 2, 3, 4, 5, 6, 7, 8, 9, 10, 11, 12, 13, 14, 15, 16, 17, 18] rfl (σ' := ?s12) (fun K hK => ?h12) ?n12
          case h12 =>
            iterate 16 (refine st_op rfl (by simp (disch := omega) only [stepf,callOf,qop,fop,St.ev,St.put,cd,zd,Value.oneCell',tb_T,TypeDesc.aggB,getD_0,getD_s,Ze,Zd,Zc,Za,Zb,Zr,ZE,ZF,Zf,Zq,Zg,i64_w,Zt,Zs,qFieldAddr,fieldOf,Zl,Zo,Zv,Zw,Zj,Zk,Zx,Zy,qLoad,bload,pload,pureAll,D.pure?,ZC,ZD,qBin,iop,min_ite,imp_self,Int.toNat_one,Int.toNat_zero,Nat.one_mul,qSlice,bnd,Option.isSome_none,ZP,Option.map_none,implies_true,forall_const,ZO,Nat.sub_zero,pvAll,D.pv?,toNat_pred,toNat_succ,qIndexAddr,Nat.mul_one,Nat.zero_mul,Zh,fStore,D.boxCells,D.live,D.cells?,ZM,ZL,ZN,ZG,ZH,St.setVec,t1,ti1,t3,ti3,t5,ti5,t22,ti22,t24,ti24,t26,ti26,t50,ti50,t58,ti58,t60,ti60,t87,ti87,t88,ti88,t90,ti90,map_at_l,map_at_i,secCells_length,add_one_mul_cast,mul_cast,quo_w,quo_nat,splice1] <;> exact rfl) ?_)
            refine st_call rfl (by simp only [callOf,St.ev,getD_0,getD_s,pvAll,D.pv?,ZG,ZH,zd,cd,Value.oneCell',Zr] <;> exact rfl) (acK hP (c66e l F i _ _ (secAt_slice l F i (by omega) _ (by omega)))) (by simp only [St.put,Za,Zb] <;> exact rfl) ?_
            iterate 2 (refine st_op rfl (by simp (disch := omega) only [stepf,callOf,qop,fop,St.ev,St.put,cd,zd,Value.oneCell',tb_T,TypeDesc.aggB,getD_0,getD_s,Ze,Zd,Zc,Za,Zb,Zr,ZE,ZF,Zf,Zq,Zg,i64_w,Zt,Zs,qFieldAddr,fieldOf,Zl,Zo,Zv,Zw,Zj,Zk,Zx,Zy,qLoad,bload,pload,pureAll,D.pure?,ZC,ZD,qBin,iop,min_ite,imp_self,Int.toNat_one,Int.toNat_zero,Nat.one_mul,qSlice,bnd,Option.isSome_none,ZP,Option.map_none,implies_true,forall_const,ZO,Nat.sub_zero,pvAll,D.pv?,toNat_pred,toNat_succ,qIndexAddr,Nat.mul_one,Nat.zero_mul,Zh,fStore,D.boxCells,D.live,D.cells?,ZM,ZL,ZN,ZG,ZH,St.setVec,t1,ti1,t3,ti3,t5,ti5,t22,ti22,t24,ti24,t26,ti26,t50,ti50,t58,ti58,t60,ti60,t87,ti87,t88,ti88,t90,ti90,map_at_l,map_at_i,secCells_length,add_one_mul_cast,mul_cast,quo_w,quo_nat,splice1] <;> exact rfl) ?_)
            refine aops_nil ?_
            exact hK
          refine exb_n ?_
          refine exq_n ?_
          refine aw_regK hX hb [0, 1, 2] rfl (σ' := ?s13) (fun K hK => ?h13) ?n13
          case h13 =>
            iterate 3 (refine st_op rfl (by simp (disch := omega) only [stepf,callOf,qop,fop,St.ev,St.put,cd,zd,Value.oneCell',tb_T,TypeDesc.aggB,getD_0,getD_s,Ze,Zd,Zc,Za,Zb,Zr,ZE,ZF,Zf,Zq,Zg,i64_w,Zt,Zs,qBin,iop,t1,ti1,t3,ti3,t5,ti5,t77,ti77,t87,ti87,t88,ti88,t90,ti90,map_at_l,map_at_i,Zh,secCells_length,ZO,add_one_mul_cast,mul_cast,quo_w,quo_nat] <;> exact rfl) ?_)
            refine aops_nil ?_
            exact hK
          refine exq_n ?_
          exact ⟨i + 1, by exact ⟨by omega, by omega⟩, by (try dsimp only); omega, wk_le ⟨rfl, leL_a (leL_r (by first | rfl | (first | (rw [updP_start l q3]) | (rw [← updP_step l q3 _ u v i (by omega) hc3.1 hui hc3.2]; simp [List.map_set]))) (leL_a (leL_r (by first | rfl | (first | (rw [updP_start l q3]) | (rw [← updP_step l q3 _ u v i (by omega) hc3.1 hui hc3.2]; simp [List.map_set]))) (leL_a (leL_r (by first | rfl | (first | (rw [updP_start l q3]) | (rw [← updP_step l q3 _ u v i (by omega) hc3.1 hui hc3.2]; simp [List.map_set]))) (leL_r (by first | rfl | (first | (rw [updP_start l q3]) | (rw [← updP_step l q3 _ u v i (by omega) hc3.1 hui hc3.2]; simp [List.map_set]))) (leL_r (by first | rfl | (first | (rw [updP_start l q3]) | (rw [← updP_step l q3 _ u v i (by omega) hc3.1 hui hc3.2]; simp [List.map_set]))) (leL_a (leL_r (by first | rfl | (first | (rw [updP_start l q3]) | (rw [← updP_step l q3 _ u v i (by omega) hc3.1 hui hc3.2]; simp [List.map_set]))) (leL_r (by first | rfl | (first | (rw [updP_start l q3]) | (rw [← updP_step l q3 _ u v i (by omega) hc3.1 hui hc3.2]; simp [List.map_set]))) (leL_a (leL_a (leL_a (leL_a (leL_a (leL_a (leL_a (leL_a (leL_a (leL_a (leL_a (leL_a (leL_a (leL_a (leL_a (leL_a (leL_a (leL_a (leL_a (leL_a (leL_a (leL_a (leL_a (leL_a (leL_a (leL_a (leL_a (leL_a (leL_a (leL_a (leL_a (leL_a (leL_a (leL_a (leL_a (leL_a (leL_a (leL_a (leL_a (leL_a (leL_a (leL_a (leL_a (leL_a (leL_a (leL_a (leL_a (leL_a (leL_a (leL_a (leL_a (leL_a (leL_a (leL_a (leL_a (leL_a (leL_a (leL_a (leL_a (leL_a (leL_a (leL_a (leL_a (leL_a (leL_a (leL_a (leL_a (leL_a (leL_a (leL_a (leL_a (leL_a (leL_a (leL_a (leL_a (leL_a (leL_a (leL_a (leL_a (leL_a (leL_a (leL_a (leL_a (leL_a (leL_a (leL_a (leL_a (leL_a (leL_a (leL_a (leL_a (leL_a (leL_nil))))))))))))))))))))))))))))))))))))))))))))))))))))))))))))))))))))))))))))))))))))))))))))))))))))))), (leB_r rfl (leL_r (by first | rfl | (first | (rw [updP_start l q3]) | (rw [← updP_step l q3 _ u v i (by omega) hc3.1 hui hc3.2]; simp [List.map_set]))) (leL_r (by first | rfl | (first | (rw [updP_start l q3]) | (rw [← updP_step l q3 _ u v i (by omega) hc3.1 hui hc3.2]; simp [List.map_set]))) (leL_r (by first | rfl | (first | (rw [updP_start l q3]) | (rw [← updP_step l q3 _ u v i (by omega) hc3.1 hui hc3.2]; simp [List.map_set]))) (leL_nil)))) (leB_r rfl (leL_r (by first | rfl | (first | (rw [updP_start l q3]) | (rw [← updP_step l q3 _ u v i (by omega) hc3.1 hui hc3.2]; simp [List.map_set]))) (leL_r (by first | rfl | (first | (rw [updP_start l q3]) | (rw [← updP_step l q3 _ u v i (by omega) hc3.1 hui hc3.2]; simp [List.map_set]))) (leL_nil))) (leB_r rfl (leL_r (by first | rfl | (first | (rw [updP_start l q3]) | (rw [← updP_step l q3 _ u v i (by omega) hc3.1 hui hc3.2]; simp [List.map_set]))) (leL_r (by first | rfl | (first | (rw [updP_start l q3]) | (rw [← updP_step l q3 _ u v i (by omega) hc3.1 hui hc3.2]; simp [List.map_set]))) (leL_r (by first | rfl | (first | (rw [updP_start l q3]) | (rw [← updP_step l q3 _ u v i (by omega) hc3.1 hui hc3.2]; simp [List.map_set]))) (leL_nil)))) (leB_nil _)))), (leV_r (by first | rfl | (first | (rw [updP_start l q3]) | (rw [← updP_step l q3 _ u v i (by omega) hc3.1 hui hc3.2]; simp [List.map_set]))) (leV_nil _)), rfl, rfl⟩⟩
        · try simp only [Zp,Zi,ZK,ZJ,ne_eq,Zn,Zm,ZB,ZA,ZI,not_or,not_and,Zu] at hc3
          refine aw_exit ?_
          refine exq_e ?_
          refine exq_e ?_
          refine exb_h ?_
          refine exq_n ?_
          refine aw_seq ?_
          refine aw_frz 0 rfl (σ' := ?s15) ?h15 ?n15
          case h15 => simp only [St.freeze,D.freeze,ZG,ZH,Za,Zb,Zr,reduceIte,Nat.reduceEqDiff]; exact rfl
          refine aw_regK hX hb [0, 1, 2, 3, 4, 5, 6, 7] rfl (σ' := ?s14) (fun K hK => ?h14) ?n14
          case h14 =>
            iterate 5 (refine st_op rfl (by simp (disch := omega) only [stepf,callOf,qop,fop,St.ev,St.put,cd,zd,Value.oneCell',tb_T,TypeDesc.aggB,getD_0,getD_s,Ze,Zd,Zc,Za,Zb,Zr,ZE,ZF,Zf,Zq,Zg,i64_w,Zt,Zs,qFieldAddr,fieldOf,Zl,Zo,Zv,Zw,Zj,Zk,Zx,Zy,qLoad,bload,pload,pureAll,D.pure?,ZC,ZD,pvAll,D.pv?,fStore,D.boxCells,D.live,D.cells?,ZM,ZL,ZN,ZG,ZH,St.setVec,t1,ti1,t3,ti3,t24,ti24,t26,ti26,t58,ti58,t60,ti60,t101,ti101,map_at_l,map_at_i,Zh,secCells_length,ZO,add_one_mul_cast,mul_cast,quo_w,quo_nat] <;> exact rfl) ?_)
            refine st_call rfl (by simp only [callOf,St.ev,getD_0,getD_s,pvAll,D.pv?,ZG,ZH,zd,cd,Value.oneCell',Zr] <;> exact rfl) (acK hP (c67 c79 S F (updP l F (lv.getD 0 []) u v i) (by rw [updP_length]; omega) (by have := nLeaves_pos (s := S) (n := F) q3 q1; rw [updP_length]; omega))) (by simp only [St.put,Za,Zb] <;> exact rfl) ?_
            iterate 2 (refine st_op rfl (by simp (disch := omega) only [stepf,callOf,qop,fop,St.ev,St.put,cd,zd,Value.oneCell',tb_T,TypeDesc.aggB,getD_0,getD_s,Ze,Zd,Zc,Za,Zb,Zr,ZE,ZF,Zf,Zq,Zg,i64_w,Zt,Zs,qFieldAddr,fieldOf,Zl,Zo,Zv,Zw,Zj,Zk,Zx,Zy,qLoad,bload,pload,pureAll,D.pure?,ZC,ZD,pvAll,D.pv?,fStore,D.boxCells,D.live,D.cells?,ZM,ZL,ZN,ZG,ZH,St.setVec,t1,ti1,t3,ti3,t24,ti24,t26,ti26,t58,ti58,t60,ti60,t101,ti101,map_at_l,map_at_i,Zh,secCells_length,ZO,add_one_mul_cast,mul_cast,quo_w,quo_nat] <;> exact rfl) ?_)
            refine aops_nil ?_
            exact hK
          refine exq_n ?_
          refine aw_ret ?_
          exact ret_r rfl (resOf_two (by simp only [resVal,qLoad,bload,tb_T,TypeDesc.aggB,pureAll,D.pure?,D.pv?,getD_0,getD_s,Zd,Zc,Zw,Zk,Zv,Zj,Zx,Zl,Zo,Zr,reduceIte,Nat.reduceAdd,Nat.reduceLeDiff,Zg,Zf,t3,ti3,t24,ti24,t26,ti26,t58,ti58,t60,ti60] <;> exact rfl) rfl (by first | rfl | (first | (rw [refUpd_e hc0]; rfl) | (rw [refUpd_6 hc0 (show (l.length : Int) ≠ (S : Int) by omega)]; rfl) | (rw [refUpd_2 hc0 (show (l.length : Int) = (S : Int) by omega) hc2]; rfl) | (rw [refUpd_0 hc0 (show (l.length : Int) = (S : Int) by omega) (by dsimp only; omega), updP_end l q3 _ u v i (not_and.2 hc3)]; rfl))))
end Go.Proofs.Ytldcoekbgfaomaa
end
section
namespace Go.Proofs.Ytldcoekbgfaomaa
open Go.RowKit
set_option maxRecDepth 20000
set_option maxHeartbeats 4000000
attribute [local irreducible] AOps AOpsD AW
/-- Items that are extents. -/
def extItems (l : List (Int × Int)) : List PV := l.map fun e => .agg [i64 e.1, i64 e.2]
theorem extItems_length (l : List (Int × Int)) : (extItems l).length = l.length := by simp [extItems]
theorem extItems_at (l : List (Int × Int)) (i : Nat) (h : i < l.length) : (extItems l)[i]? = some (.agg [i64 (l.getD i (0, 0)).1, i64 (l.getD i (0, 0)).2]) := by simp [extItems, h]
theorem extItems_of {l : List (Int × Int)} {k : Nat} {y : PV} (h : (extItems l)[k]? = some y) : k < l.length ∧ y = .agg [i64 (l.getD k (0, 0)).1, i64 (l.getD k (0, 0)).2] := by
  have hk : k < l.length := by have := (List.getElem?_eq_some_iff.1 h).1; simpa [extItems] using this
  rw [extItems_at l k hk] at h
  injection h with h
  exact ⟨hk, h.symm⟩
theorem extCells_take (l : List (Int × Int)) (k : Nat) (h : k < l.length) : extCells (l.take (k + 1)) = extCells (l.take k) ++ [i64 (l.getD k (0, 0)).1, i64 (l.getD k (0, 0)).2] := by
  rw [getD_take_succ_e l k h]; simp [extCells]
theorem c110 (p q : Bool) : ACalls Try.prog 110 [.p (bv p), .p (bv q)] (.p (bv (p || q))) := by
  refine acalls_of tb_ok Try.func110 (c := _) rfl (by kernel_rfl) ?_
  intro X hP hX hro hpl
  have hb : tb.Ok X.P := hP ▸ tb_ok
  change AW X _ _ ⟨[], [.p (bv p), .p (bv q), .any, .any, .any, .any, .any, .any, .any], [], []⟩
  refine aw_seq ?_
  refine aw_regK hX hb [0] rfl (σ' := ?s1) (fun K hK => ?h1) ?n1
  case h1 =>
    (refine st_op rfl (by simp (disch := omega) only [stepf,callOf,qop,fop,St.ev,St.put,cd,zd,Value.oneCell',tb_T,TypeDesc.aggB,getD_0,getD_s,Ze,Zd,Zc,Za,Zb,Zr,ZE,ZF,Zf,Zq,Zg,i64_w,Zt,Zs] <;> exact rfl) ?_)
    refine aops_nil ?_
    exact hK
  refine exq_n ?_
  refine aw_seq ?_
  refine aw_regJ hX hb [0, 1, 2, 3, 4] rfl (ts := [5, 6, 7, 8]) (t := 4) (d := .p (bv (p = true ∨ q = true))) (σ' := ?s2) ?j2 ?h2 ?n2
  case j2 => simp only [St.join,List.foldl,Za,Zb]; exact rfl
  case h2 =>
    iterate 2 (all_goals refine st_op rfl (by simp (disch := omega) only [stepf,callOf,qop,fop,St.ev,St.put,cd,zd,Value.oneCell',tb_T,TypeDesc.aggB,getD_0,getD_s,Ze,Zd,Zc,Za,Zb,Zr,ZE,ZF,Zf,Zq,Zg,i64_w,Zt,Zs,t1,ti1,t5,ti5] <;> exact rfl) ?_)
    (all_goals first | (refine st_g1 rfl rfl rfl (by simp (disch := omega) only [stepf,callOf,qop,fop,St.ev,St.put,cd,zd,Value.oneCell',tb_T,TypeDesc.aggB,getD_0,getD_s,Ze,Zd,Zc,Za,Zb,Zr,ZE,ZF,Zf,Zq,Zg,i64_w,Zt,Zs,t1,ti1,t5,ti5] <;> exact rfl) ?_) | (first | (refine st_g0 rfl rfl rfl (by simp only [St.put,Za,Zb] <;> exact rfl) ?_) | (refine st_gu rfl rfl rfl (by simp only [St.put,Za,Zb] <;> exact rfl) ?_)) | (refine st_split rfl rfl rfl (by simp only [Za,Zb] <;> exact rfl) (by simp only [Za,Zb] <;> exact rfl) (fun hg => ?_) (fun hg => ?_) <;> (try simp only [Zp,Zi,ZJ,ZK,ne_eq,Zn,Zm,Bool.not_eq_true,Zu] at hg) <;> first | (refine st_g1 rfl rfl rfl (by simp (disch := omega) only [stepf,callOf,qop,fop,St.ev,St.put,cd,zd,Value.oneCell',tb_T,TypeDesc.aggB,getD_0,getD_s,Ze,Zd,Zc,Za,Zb,Zr,ZE,ZF,Zf,Zq,Zg,i64_w,Zt,Zs,t1,ti1,t5,ti5] <;> exact rfl) ?_) | (first | (refine st_g0 rfl rfl rfl (by simp only [St.put,Za,Zb] <;> exact rfl) ?_) | (refine st_gu rfl rfl rfl (by simp only [St.put,Za,Zb] <;> exact rfl) ?_))))
    iterate 2 (all_goals refine st_op rfl (by simp (disch := omega) only [stepf,callOf,qop,fop,St.ev,St.put,cd,zd,Value.oneCell',tb_T,TypeDesc.aggB,getD_0,getD_s,Ze,Zd,Zc,Za,Zb,Zr,ZE,ZF,Zf,Zq,Zg,i64_w,Zt,Zs,t1,ti1,t5,ti5] <;> exact rfl) ?_)
    all_goals refine aops_nil ?_
    all_goals refine ⟨rfl, ?_, leB_self _, leV_self _, rfl, rfl⟩
    all_goals repeat' (first | exact leL_nil | refine leL_a ?_ | refine leL_r rfl ?_ | refine leL_r ?_ ?_)
    all_goals refine jn ?_
    all_goals (cases p <;> cases q <;> simp_all)
  refine exq_n ?_
  refine aw_ret ?_
  exact ret_r rfl (resOf_one rfl (by first | rfl | (cases p <;> cases q <;> rfl)))
theorem c122 (s c : Nat) (h1 : 1 ≤ c) (h2 : s + c ≤ 4096) : ACalls Try.prog 122 [.agg [i64 s, i64 c]] (.tup [.p (i64 s), .p (i64 (s + c : Nat)), .p (bv true)]) := by
  refine acalls_of tb_ok Try.func122 (c := _) rfl (by kernel_rfl) ?_
  intro X hP hX hro hpl
  have hb : tb.Ok X.P := hP ▸ tb_ok
  change AW X _ _ ⟨[], [.agg [i64 s, i64 c], .any, .any, .any, .any, .any, .any, .any, .any, .any, .any, .any, .any, .any, .any, .any, .any, .any, .any, .any, .any, .any, .any, .any, .any, .any, .any, .any, .any, .any, .any, .any, .any, .any, .any], [], []⟩
  refine aw_seq ?_
  refine aw_regK hX hb [0, 1, 2, 3] rfl (σ' := ?s1) (fun K hK => ?h1) ?n1
  case h1 =>
    iterate 4 (refine st_op rfl (by simp (disch := omega) only [stepf,callOf,qop,fop,St.ev,St.put,cd,zd,Value.oneCell',tb_T,TypeDesc.aggB,getD_0,getD_s,Ze,Zd,Zc,Za,Zb,Zr,ZE,ZF,Zf,Zq,Zg,i64_w,Zt,Zs,ZM,ZL,Zl,Zo,ZG,ZH,St.addBox,D.boxCells,D.live,t3,ti3,t35,ti35] <;> exact rfl) ?_)
    refine aops_nil ?_
    exact hK
  refine exq_n ?_
  refine aw_seq ?_
  refine aw_seq ?_
  refine aw_regK hX hb [0, 1, 2] rfl (σ' := ?s2) (fun K hK => ?h2) ?n2
  case h2 =>
    iterate 3 (refine st_op rfl (by simp (disch := omega) only [stepf,callOf,qop,fop,St.ev,St.put,cd,zd,Value.oneCell',tb_T,TypeDesc.aggB,getD_0,getD_s,Ze,Zd,Zc,Za,Zb,Zr,ZE,ZF,Zf,Zq,Zg,i64_w,Zt,Zs,qFieldAddr,fieldOf,Zl,Zo,Zv,Zw,Zj,Zk,Zx,Zy,qLoad,bload,pload,pureAll,D.pure?,ZC,ZD,qBin,iop,t1,ti1,t3,ti3,t35,ti35] <;> exact rfl) ?_)
    refine aops_nil ?_
    exact hK
  refine exq_n ?_
  refine aw_cond _ rfl (fun hc0 => ?_) (fun hc0 => ?_)
  · try simp only [Zp,Zi,ZK,ZJ,ne_eq,Zn,Zm,ZB,ZA,ZI,not_or,not_and,Zu] at hc0
    omega
  · try simp only [Zp,Zi,ZK,ZJ,ne_eq,Zn,Zm,ZB,ZA,ZI,not_or,not_and,Zu] at hc0
    refine aw_skip ?_
    refine exq_n ?_
    refine aw_seq ?_
    refine aw_regK hX hb [0, 1, 2, 3, 4] rfl (σ' := ?s3) (fun K hK => ?h3) ?n3
    case h3 =>
      iterate 5 (refine st_op rfl (by simp (disch := omega) only [stepf,callOf,qop,fop,St.ev,St.put,cd,zd,Value.oneCell',tb_T,TypeDesc.aggB,getD_0,getD_s,Ze,Zd,Zc,Za,Zb,Zr,ZE,ZF,Zf,Zq,Zg,i64_w,Zt,Zs,qFieldAddr,fieldOf,Zl,Zo,Zv,Zw,Zj,Zk,Zx,Zy,qLoad,bload,pload,pureAll,D.pure?,ZC,ZD,max_ite,t1,ti1,t3,ti3,t35,ti35] <;> exact rfl) ?_)
      refine aops_nil ?_
      exact hK
    refine exq_n ?_
    refine aw_seq ?_
    refine aw_seq ?_
    refine aw_regJ hX hb [0, 1, 2, 3, 4, 5, 6, 7, 8, 9, 10] rfl (ts := [13, 14, 15, 16, 17, 18, 19, 20, 21, 22]) (t := 23) (d := .p (bv (c + s < 4096))) (σ' := ?s4) ?j4 ?h4 ?n4
    case j4 => simp only [St.join,List.foldl,Za,Zb]; exact rfl
    case h4 =>
      iterate 4 (all_goals refine st_op rfl (by simp (disch := omega) only [stepf,callOf,qop,fop,St.ev,St.put,cd,zd,Value.oneCell',tb_T,TypeDesc.aggB,getD_0,getD_s,Ze,Zd,Zc,Za,Zb,Zr,ZE,ZF,Zf,Zq,Zg,i64_w,Zt,Zs,qFieldAddr,fieldOf,Zl,Zo,Zv,Zw,Zj,Zk,Zx,Zy,qLoad,bload,pload,pureAll,D.pure?,ZC,ZD,qBin,iop,t1,ti1,t3,ti3,t5,ti5,t22,ti22,t35,ti35,t50,ti50] <;> exact rfl) ?_)
      iterate 6 (all_goals first | (refine st_g1 rfl rfl rfl (by simp (disch := omega) only [stepf,callOf,qop,fop,St.ev,St.put,cd,zd,Value.oneCell',tb_T,TypeDesc.aggB,getD_0,getD_s,Ze,Zd,Zc,Za,Zb,Zr,ZE,ZF,Zf,Zq,Zg,i64_w,Zt,Zs,qFieldAddr,fieldOf,Zl,Zo,Zv,Zw,Zj,Zk,Zx,Zy,qLoad,bload,pload,pureAll,D.pure?,ZC,ZD,qBin,iop,t1,ti1,t3,ti3,t5,ti5,t22,ti22,t35,ti35,t50,ti50] <;> exact rfl) ?_) | (first | (refine st_g0 rfl rfl rfl (by simp only [St.put,Za,Zb] <;> exact rfl) ?_) | (refine st_gu rfl rfl rfl (by simp only [St.put,Za,Zb] <;> exact rfl) ?_)) | (refine st_split rfl rfl rfl (by simp only [Za,Zb] <;> exact rfl) (by simp only [Za,Zb] <;> exact rfl) (fun hg => ?_) (fun hg => ?_) <;> (try simp only [Zp,Zi,ZJ,ZK,ne_eq,Zn,Zm,Bool.not_eq_true,Zu] at hg) <;> first | (refine st_g1 rfl rfl rfl (by simp (disch := omega) only [stepf,callOf,qop,fop,St.ev,St.put,cd,zd,Value.oneCell',tb_T,TypeDesc.aggB,getD_0,getD_s,Ze,Zd,Zc,Za,Zb,Zr,ZE,ZF,Zf,Zq,Zg,i64_w,Zt,Zs,qFieldAddr,fieldOf,Zl,Zo,Zv,Zw,Zj,Zk,Zx,Zy,qLoad,bload,pload,pureAll,D.pure?,ZC,ZD,qBin,iop,t1,ti1,t3,ti3,t5,ti5,t22,ti22,t35,ti35,t50,ti50] <;> exact rfl) ?_) | (first | (refine st_g0 rfl rfl rfl (by simp only [St.put,Za,Zb] <;> exact rfl) ?_) | (refine st_gu rfl rfl rfl (by simp only [St.put,Za,Zb] <;> exact rfl) ?_))))
      (all_goals refine st_op rfl (by simp (disch := omega) only [stepf,callOf,qop,fop,St.ev,St.put,cd,zd,Value.oneCell',tb_T,TypeDesc.aggB,getD_0,getD_s,Ze,Zd,Zc,Za,Zb,Zr,ZE,ZF,Zf,Zq,Zg,i64_w,Zt,Zs,qFieldAddr,fieldOf,Zl,Zo,Zv,Zw,Zj,Zk,Zx,Zy,qLoad,bload,pload,pureAll,D.pure?,ZC,ZD,qBin,iop,t1,ti1,t3,ti3,t5,ti5,t22,ti22,t35,ti35,t50,ti50] <;> exact rfl) ?_)
      all_goals refine aops_nil ?_
      all_goals refine ⟨rfl, ?_, leB_self _, leV_self _, rfl, rfl⟩
      all_goals repeat' (first | exact leL_nil | refine leL_a ?_ | refine leL_r rfl ?_ | refine leL_r ?_ ?_)
      all_goals refine jn ?_
      all_goals ((try simp only [Zp,Zi,ZJ,ZK,Bool.not_eq_true,Zm,Zn,ne_eq,Zf,true_iff,false_iff,iff_true,iff_false] at *) <;> omega)
    refine exq_n ?_
    refine aw_cond _ rfl (fun hc1 => ?_) (fun hc1 => ?_)
    · try simp only [Zp,Zi,ZK,ZJ,ne_eq,Zn,Zm,ZB,ZA,ZI,not_or,not_and,Zu] at hc1
      refine aw_regK hX hb [0, 1, 2, 3, 4, 5, 6] rfl (σ' := ?s5) (fun K hK => ?h5) ?n5
      case h5 =>
        iterate 7 (refine st_op rfl (by simp (disch := omega) only [stepf,callOf,qop,fop,St.ev,St.put,cd,zd,Value.oneCell',tb_T,TypeDesc.aggB,getD_0,getD_s,Ze,Zd,Zc,Za,Zb,Zr,ZE,ZF,Zf,Zq,Zg,i64_w,Zt,Zs,qFieldAddr,fieldOf,Zl,Zo,Zv,Zw,Zj,Zk,Zx,Zy,qLoad,bload,pload,pureAll,D.pure?,ZC,ZD,qBin,iop,min_ite,t1,ti1,t3,ti3,t24,ti24,t26,ti26,t27,ti27,t35,ti35,t58,ti58,t60,ti60] <;> exact rfl) ?_)
        refine aops_nil ?_
        exact hK
      refine exq_n ?_
      refine aw_seq ?_
      refine aw_regK hX hb [0, 1, 2, 3, 4, 5, 6, 7] rfl (σ' := ?s6) (fun K hK => ?h6) ?n6
      case h6 =>
        iterate 8 (refine st_op rfl (by simp (disch := omega) only [stepf,callOf,qop,fop,St.ev,St.put,cd,zd,Value.oneCell',tb_T,TypeDesc.aggB,getD_0,getD_s,Ze,Zd,Zc,Za,Zb,Zr,ZE,ZF,Zf,Zq,Zg,i64_w,Zt,Zs,qBin,iop,t3,ti3,t5,ti5] <;> exact rfl) ?_)
        refine aops_nil ?_
        exact hK
      refine exq_n ?_
      refine aw_ret ?_
      exact ret_r rfl (resOf_three rfl rfl rfl (by first | rfl | (first | (refine congrArg D.tup ?_; refine congr (congrArg _ (congrArg (fun n => PV.p (i64 n)) (by omega))) (congr (congrArg _ (congrArg (fun n => PV.p (i64 n)) (by omega))) (congrArg (fun b => [PV.p (bv b)]) (decide_eq_true (by omega))))))))
    · try simp only [Zp,Zi,ZK,ZJ,ne_eq,Zn,Zm,ZB,ZA,ZI,not_or,not_and,Zu] at hc1
      refine aw_skip ?_
      refine exq_n ?_
      refine aw_seq ?_
      refine aw_regK hX hb [0, 1, 2, 3, 4, 5, 6, 7] rfl (σ' := ?s7) (fun K hK => ?h7) ?n7
      case h7 =>
        iterate 8 (refine st_op rfl (by simp (disch := omega) only [stepf,callOf,qop,fop,St.ev,St.put,cd,zd,Value.oneCell',tb_T,TypeDesc.aggB,getD_0,getD_s,Ze,Zd,Zc,Za,Zb,Zr,ZE,ZF,Zf,Zq,Zg,i64_w,Zt,Zs,qBin,iop,t3,ti3,t5,ti5] <;> exact rfl) ?_)
        refine aops_nil ?_
        exact hK
      refine exq_n ?_
      refine aw_ret ?_
      exact ret_r rfl (resOf_three rfl rfl rfl (by first | rfl | (first | (refine congrArg D.tup ?_; refine congr (congrArg _ (congrArg (fun n => PV.p (i64 n)) (by omega))) (congr (congrArg _ (congrArg (fun n => PV.p (i64 n)) (by omega))) (congrArg (fun b => [PV.p (bv b)]) (decide_eq_true (by omega))))))))
theorem c118 (f : FuncId) (xs : List P1) (l : List (Int × Int)) (hs : SeqC Try.prog f xs (extItems l)) (hl : l.length ≤ 4294967296) : ACalls Try.prog 118 [.p (.v (.slice none 0 0)), .p (.clo f xs)] (.p (exts l)) := by
  refine acalls_of tb_ok Try.func118 (c := _) rfl (by kernel_rfl) ?_
  intro X hP hX hro hpl
  have hb : tb.Ok X.P := hP ▸ tb_ok
  change AW X _ _ ⟨[], [.p (.v (.slice none 0 0)), .p (.clo f xs), .any, .any, .any, .any, .any, .any, .any, .any, .any, .any, .any], [], []⟩
  refine aw_nilv 0 rfl (σ' := ?s1) ?h1 ?n1
  case h1 => simp only [Za,Zb]; exact rfl
  refine aw_seq ?_
  refine aw_regK hX hb [0, 1] rfl (σ' := ?s2) (fun K hK => ?h2) ?n2
  case h2 =>
    iterate 2 (refine st_op rfl (by simp (disch := omega) only [stepf,callOf,qop,fop,St.ev,St.put,cd,zd,Value.oneCell',tb_T,TypeDesc.aggB,getD_0,getD_s,Ze,Zd,Zc,Za,Zb,Zr,ZE,ZF,Zf,Zq,Zg,i64_w,Zt,Zs,ZM,ZL,Zl,Zo,ZG,ZH,St.addBox,D.boxCells,D.live,t3,ti3,t35,ti35,t40,ti40,extCells_length] <;> exact rfl) ?_)
    refine aops_nil ?_
    exact hK
  refine exq_n ?_
  refine aw_nilc 0 0 _ 35 2 rfl rfl (σ' := ?s3) ?h3 ?n3
  case h3 => simp only [St.nilCell,St.addVec,Za,Zb,Zl,Zo,ZL,ZM]; exact rfl
  refine aw_seq ?_
  refine aw_seq ?_
  refine aw_regK hX hb [0] rfl (σ' := ?s4) (fun K hK => ?h4) ?n4
  case h4 =>
    (refine st_op rfl (by simp (disch := omega) only [stepf,callOf,qop,fop,St.ev,St.put,cd,zd,Value.oneCell',tb_T,TypeDesc.aggB,getD_0,getD_s,Ze,Zd,Zc,Za,Zb,Zr,ZE,ZF,Zf,Zq,Zg,i64_w,Zt,Zs,t1,ti1,extCells_length] <;> exact rfl) ?_)
    refine aops_nil ?_
    exact hK
  refine exq_n ?_
  refine aw_block ?_
  refine aw_rangeE hX hro hpl.j [] [.any, .p (.clo f xs), .ptr 0 0, .any, .any, .any, .p (.clo f xs), .any, .any, .any, .any, .any, .any] 1 (fun (k : Nat) => [⟨40, [.vref 0]⟩]) (fun (k : Nat) => [some ⟨35, 2, (l.take k).length, extCells (l.take k)⟩]) [⟨40, [.vref 0]⟩] [some ⟨35, 2, l.length, extCells l⟩] (wk_le ⟨rfl, leL_a (leL_r (by first | rfl | (rw [extCells_take l k hk]; simp <;> omega)) (leL_r (by first | rfl | (rw [extCells_take l k hk]; simp <;> omega)) (leL_a (leL_a (leL_a (leL_r (by first | rfl | (rw [extCells_take l k hk]; simp <;> omega)) (leL_a (leL_a (leL_a (leL_a (leL_a (leL_a (leL_nil))))))))))))), (leB_r rfl (leL_r (by first | rfl | (rw [extCells_take l k hk]; simp <;> omega)) (leL_nil)) (leB_nil _)), (leV_r (by first | rfl | (rw [extCells_take l k hk]; simp <;> omega)) (leV_nil _)), rfl, rfl⟩) rfl rfl (hP ▸ (hs)) rfl rfl rfl (by first | rfl | (rw [extItems_length, List.take_length])) (by first | rfl | (rw [extItems_length, List.take_length])) ?_ ?_
  · intro k y hy
    obtain ⟨hk, rfl⟩ := extItems_of hy
    have hkl : (l.take k).length = k := by rw [List.length_take]; omega
    unfold RoundOk
    intro X1 hQ hX
    have hP0 := hP; have hP := hQ.trans hP; have hb : tb.Ok X1.P := hP ▸ tb_ok
    change AW X1 _ _ ⟨[.pin 1], [.any, .p (.clo f xs), .ptr 0 0, .any, .any, .any, .p (.clo f xs), .agg [i64 (l.getD k (0, 0)).1, i64 (l.getD k (0, 0)).2], .any, .any, .any, .any, .any], [⟨40, [.vref 0]⟩], [some ⟨35, 2, (l.take k).length, extCells (l.take k)⟩]⟩
    refine aw_regK hX hb [0, 1] rfl (σ' := ?s5) (fun K hK => ?h5) ?n5
    case h5 =>
      iterate 2 (refine st_op rfl (by simp (disch := omega) only [stepf,callOf,qop,fop,St.ev,St.put,cd,zd,Value.oneCell',tb_T,TypeDesc.aggB,getD_0,getD_s,Ze,Zd,Zc,Za,Zb,Zr,ZE,ZF,Zf,Zq,Zg,i64_w,Zt,Zs,ZM,ZL,Zl,Zo,ZG,ZH,St.addBox,Value.cells,fStore,D.boxCells,D.live,D.cells?,D.pure?,Zv,Zw,Zj,Zk,Zx,Zy,ZN,St.setVec,ZC,t3,ti3,t5,ti5,t35,ti35,extCells_length] <;> exact rfl) ?_)
      refine aops_nil ?_
      exact hK
    refine ⟨rfl, rfl, ?_⟩
    intro X2 hQ2 hX
    have hP := hQ2.trans hP0; have hb : tb.Ok X2.P := hP ▸ tb_ok
    refine aw_block ?_
    refine aw_regK hX hb [0, 1, 2, 3, 4] rfl (σ' := ?s6) (fun K hK => ?h6) ?n6
    case h6 =>
      iterate 5 (refine st_op rfl (by simp (disch := omega) only [stepf,callOf,qop,fop,St.ev,St.put,cd,zd,Value.oneCell',tb_T,TypeDesc.aggB,getD_0,getD_s,Ze,Zd,Zc,Za,Zb,Zr,ZE,ZF,Zf,Zq,Zg,i64_w,Zt,Zs,Zl,Zo,Zv,Zw,Zj,Zk,Zx,Zy,qLoad,bload,pload,pureAll,D.pure?,ZC,ZD,tb_N,tbO_N,tbW_N,tb_O,fBuildSlice,catCells,D.cells?,range_1,range_2,range_3,range_4,range_5,ZG,ZH,ZL,ZM,ZN,sec8_length,Nat.reduceAdd,Nat.reduceMul,fAppend,appV,St.demote,D.demote,St.setVec,Zh,List.length_append,Nat.mul_one,reduceIte,fStore,D.boxCells,D.live,t1,ti1,t2,ti2,t3,ti3,t5,ti5,t35,ti35,t40,ti40,extCells_length] <;> exact rfl) ?_)
      refine aops_nil ?_
      exact hK
    refine exb_n ?_
    exact ⟨rfl, wk_le ⟨(by first | rfl | (rw [extCells_take l k hk]; simp <;> omega)), leL_a (leL_a (leL_a (leL_a (leL_a (leL_a (leL_a (leL_a (leL_a (leL_a (leL_a (leL_a (leL_a (leL_nil))))))))))))), (leB_r rfl (leL_r (by first | rfl | (rw [extCells_take l k hk]; simp <;> omega)) (leL_nil)) (leB_nil _)), (leV_r (by first | rfl | (rw [extCells_take l k hk]; simp <;> omega)) (leV_nil _)), rfl, rfl⟩⟩
  refine exb_n ?_
  refine exq_n ?_
  refine aw_seq ?_
  refine aw_frz 0 rfl (σ' := ?s8) ?h8 ?n8
  case h8 => simp only [St.freeze,D.freeze,ZG,ZH,Za,Zb,Zr,reduceIte,Nat.reduceEqDiff]; exact rfl
  refine aw_regK hX hb [0, 1] rfl (σ' := ?s7) (fun K hK => ?h7) ?n7
  case h7 =>
    iterate 2 (refine st_op rfl (by simp (disch := omega) only [stepf,callOf,qop,fop,St.ev,St.put,cd,zd,Value.oneCell',tb_T,TypeDesc.aggB,getD_0,getD_s,Ze,Zd,Zc,Za,Zb,Zr,ZE,ZF,Zf,Zq,Zg,i64_w,Zt,Zs,Zl,Zo,Zv,Zw,Zj,Zk,Zx,Zy,qLoad,bload,pload,pureAll,D.pure?,ZC,ZD,t2,ti2,t3,ti3,t35,ti35,t40,ti40,extCells_length] <;> exact rfl) ?_)
    refine aops_nil ?_
    exact hK
  refine exq_n ?_
  refine aw_ret ?_
  exact ret_rm (resOf_one rfl rfl)
theorem c108 (f : FuncId) (xs : List P1) (l : List (Int × Int)) (hs : SeqC Try.prog f xs (extItems l)) (hl : l.length ≤ 4294967296) : ACalls Try.prog 108 [.p (.clo f xs)] (.p (exts l)) := by
  refine acalls_of tb_ok Try.func108 (c := _) rfl (by kernel_rfl) ?_
  intro X hP hX hro hpl
  have hb : tb.Ok X.P := hP ▸ tb_ok
  change AW X _ _ ⟨[], [.p (.clo f xs), .any, .any, .any, .any], [], []⟩
  refine aw_seq ?_
  refine aw_regK hX hb [0] rfl (σ' := ?s1) (fun K hK => ?h1) ?n1
  case h1 =>
    (refine st_op rfl (by simp (disch := omega) only [stepf,callOf,qop,fop,St.ev,St.put,cd,zd,Value.oneCell',tb_T,TypeDesc.aggB,getD_0,getD_s,Ze,Zd,Zc,Za,Zb,Zr,ZE,ZF,Zf,Zq,Zg,i64_w,Zt,Zs] <;> exact rfl) ?_)
    refine aops_nil ?_
    exact hK
  refine exq_n ?_
  refine aw_seq ?_
  refine aw_regK hX hb [0, 1, 2] rfl (σ' := ?s2) (fun K hK => ?h2) ?n2
  case h2 =>
    (refine st_op rfl (by simp (disch := omega) only [stepf,callOf,qop,fop,St.ev,St.put,cd,zd,Value.oneCell',tb_T,TypeDesc.aggB,getD_0,getD_s,Ze,Zd,Zc,Za,Zb,Zr,ZE,ZF,Zf,Zq,Zg,i64_w,Zt,Zs,pvAll,D.pv?,t3,ti3,t4,ti4,t35,ti35,t40,ti40,t118,ti118,t168,ti168] <;> exact rfl) ?_)
    refine st_nil rfl rfl (by simp only [St.ev,getD_0,getD_s,zd,cd,Value.oneCell',Zr] <;> exact rfl) (by simp only [pvAllN,capCells,D.pvC?,D.pvN?,D.pvL?,pureAll,D.pv?,D.pure?,St.ev,getD_0,getD_s,zd,cd,Value.oneCell',Zr,ZG,ZH,Zd,Zc,Zg] <;> exact rfl) (acK hP (c118 f xs l hs hl)) (by simp only [St.put,Za,Zb] <;> exact rfl) ?_
    (refine st_op rfl (by simp (disch := omega) only [stepf,callOf,qop,fop,St.ev,St.put,cd,zd,Value.oneCell',tb_T,TypeDesc.aggB,getD_0,getD_s,Ze,Zd,Zc,Za,Zb,Zr,ZE,ZF,Zf,Zq,Zg,i64_w,Zt,Zs,pvAll,D.pv?,t3,ti3,t4,ti4,t35,ti35,t40,ti40,t118,ti118,t168,ti168] <;> exact rfl) ?_)
    refine aops_nil ?_
    exact hK
  refine exq_n ?_
  refine aw_ret ?_
  exact ret_r rfl (resOf_one rfl rfl)
theorem c109 (a b : List (Int × Int)) (g : FuncId) : ACalls Try.prog 109 [.p (exts a), .p (exts b), .p (.v (.func (.func g) #[] #[]))] (.p (.clo 119 [exts a, exts b, .v (.func (.func g) #[] #[])])) := by
  refine acallsC_of Try.func109 (c := _) rfl (by kernel_rfl) (t := 6) rfl ?_
  intro X hP hX hro hpl
  have hb : tb.Ok X.P := hP ▸ tb_ok
  change AW X _ _ ⟨[], [.p (exts a), .p (exts b), .p (.v (.func (.func g) #[] #[])), .any, .any, .any, .any, .any], [], []⟩
  refine aw_seq ?_
  refine aw_regK hX hb [0, 1, 2, 3] rfl (σ' := ?s1) (fun K hK => ?h1) ?n1
  case h1 =>
    iterate 4 (refine st_op rfl (by simp (disch := omega) only [stepf,callOf,qop,fop,St.ev,St.put,cd,zd,Value.oneCell',tb_T,TypeDesc.aggB,getD_0,getD_s,Ze,Zd,Zc,Za,Zb,Zr,ZE,ZF,Zf,Zq,Zg,i64_w,Zt,Zs,ZM,ZL,Zl,Zo,ZG,ZH,St.addBox,D.boxCells,D.live,t1,ti1,t2,ti2,t3,ti3,t35,ti35,t40,ti40,t170,ti170] <;> exact rfl) ?_)
    refine aops_nil ?_
    exact hK
  refine exq_n ?_
  refine aw_seq ?_
  refine aw_regK hX hb [0, 1] rfl (σ' := ?s2) (fun K hK => ?h2) ?n2
  case h2 =>
    iterate 2 (refine st_op rfl (by simp (disch := omega) only [stepf,callOf,qop,fop,St.ev,St.put,cd,zd,Value.oneCell',tb_T,TypeDesc.aggB,getD_0,getD_s,Ze,Zd,Zc,Za,Zb,Zr,ZE,ZF,Zf,Zq,Zg,i64_w,Zt,Zs,capsOf,eq_self,Array.toList,t3,ti3,t4,ti4,t5,ti5] <;> exact rfl) ?_)
    refine aops_nil ?_
    exact hK
  refine exq_n ?_
  refine aw_ret ?_
  exact retc_r [0, 1, 2] rfl (by simp only [capCells,D.pure?,Zd,Zc] <;> exact rfl)
end Go.Proofs.Ytldcoekbgfaomaa
end
section
namespace Go.Proofs.Ytldcoekbgfaomaa
open Go.Shelf
def sortL_ren : Go.Shelf.Ren := ⟨fun | 6 => 123 | 15 => 127 | 14 => 126 | 28 => 137 | 29 => 138 | 20 => 129 | 21 => 130 | 22 => 131 | 23 => 132 | 24 => 133 | 25 => 134 | 26 => 135 | 27 => 136 | 46 => 139 | 47 => 140 | 48 => 141 | 49 => 142 | 50 => 143 | 57 => 144 | n => n, fun | 22 => 181 | 24 => 185 | 25 => 190 | 3 => 3 | 39 => 177 | 0 => 0 | 53 => 201 | 55 => 58 | 4 => 4 | 46 => 195 | 45 => 194 | 50 => 131 | 5 => 5 | 9 => 9 | 66 => 203 | 70 => 207 | 76 => 209 | 77 => 108 | n => n, fun | n => n⟩
theorem sortL : Go.Proofs.SlLaysF0.n6 Try.prog sortL_ren := {
  mixed := by kernel_rfl
  f6 := ⟨Try.f123.name, by decide, Try.func123.trans (congrArg some (by kernel_rfl))⟩
  f14 := ⟨Try.f126.name, by decide, Try.func126.trans (congrArg some (by kernel_rfl))⟩
  f15 := Try.func127.trans (congrArg some (by kernel_rfl))
  f20 := ⟨Try.f129.name, by decide, Try.func129.trans (congrArg some (by kernel_rfl))⟩
  f21 := ⟨Try.f130.name, by decide, Try.func130.trans (congrArg some (by kernel_rfl))⟩
  f22 := ⟨Try.f131.name, by decide, Try.func131.trans (congrArg some (by kernel_rfl))⟩
  f23 := ⟨Try.f132.name, by decide, Try.func132.trans (congrArg some (by kernel_rfl))⟩
  f24 := ⟨Try.f133.name, by decide, Try.func133.trans (congrArg some (by kernel_rfl))⟩
  f25 := ⟨Try.f134.name, by decide, Try.func134.trans (congrArg some (by kernel_rfl))⟩
  f26 := ⟨Try.f135.name, by decide, Try.func135.trans (congrArg some (by kernel_rfl))⟩
  f27 := ⟨Try.f136.name, by decide, Try.func136.trans (congrArg some (by kernel_rfl))⟩
  f28 := Try.func137.trans (congrArg some (by kernel_rfl))
  f29 := Try.func138.trans (congrArg some (by kernel_rfl))
  f46 := ⟨Try.f139.name, by decide, Try.func139.trans (congrArg some (by kernel_rfl))⟩
  f47 := Try.func140.trans (congrArg some (by kernel_rfl))
  f48 := Try.func141.trans (congrArg some (by kernel_rfl))
  f49 := ⟨Try.f142.name, by decide, Try.func142.trans (congrArg some (by kernel_rfl))⟩
  f50 := ⟨Try.f143.name, by decide, Try.func143.trans (congrArg some (by kernel_rfl))⟩
  f57 := ⟨Try.f144.name, by decide, Try.func144.trans (congrArg some (by kernel_rfl))⟩
  t0 := Try.underlying0
  a0 := Try.isAgg0
  z0 := Try.sizeOf0
  v0 := Try.zeroValue0
  t3 := Try.underlying3
  a3 := Try.isAgg3
  z3 := Try.sizeOf3
  v3 := Try.zeroValue3
  t4 := Try.underlying4
  a4 := Try.isAgg4
  z4 := Try.sizeOf4
  v4 := Try.zeroValue4
  t5 := Try.underlying5
  a5 := Try.isAgg5
  z5 := Try.sizeOf5
  v5 := Try.zeroValue5
  t9 := Try.underlying9
  a9 := Try.isAgg9
  z9 := Try.sizeOf9
  v9 := Try.zeroValue9
  t22 := Try.underlying181
  a22 := Try.isAgg181
  z22 := Try.sizeOf181
  v22 := Try.zeroValue181
  t25 := Try.underlying190
  a25 := Try.isAgg190
  z25 := Try.sizeOf190
  v25 := Try.zeroValue190
  t39 := Try.underlying177
  a39 := Try.isAgg177
  z39 := Try.sizeOf177
  v39 := Try.zeroValue177
  t45 := Try.underlying194
  a45 := Try.isAgg194
  z45 := Try.sizeOf194
  v45 := Try.zeroValue194
  t46 := Try.underlying195
  a46 := Try.isAgg195
  z46 := Try.sizeOf195
  v46 := Try.zeroValue195
  t50 := Try.underlying131
  a50 := Try.isAgg131
  z50 := Try.sizeOf131
  v50 := Try.zeroValue131
  t53 := Try.underlying201
  a53 := Try.isAgg201
  z53 := Try.sizeOf201
  v53 := Try.zeroValue201
  t55 := Try.underlying58
  a55 := Try.isAgg58
  z55 := Try.sizeOf58
  v55 := Try.zeroValue58
  t66 := Try.underlying203
  a66 := Try.isAgg203
  z66 := Try.sizeOf203
  v66 := Try.zeroValue203
  t70 := Try.underlying207
  a70 := Try.isAgg207
  z70 := Try.sizeOf207
  v70 := Try.zeroValue207
  t76 := Try.underlying209
  a76 := Try.isAgg209
  z76 := Try.sizeOf209
  v76 := Try.zeroValue209
  t77 := Try.underlying108
  a77 := Try.isAgg108
  z77 := Try.sizeOf108
  v77 := Try.zeroValue108 }
def cmpL_ren : Go.Shelf.Ren := ⟨fun | 5 => 125 | 7 => 128 | n => n, fun | 22 => 3 | 3 => 3 | 4 => 4 | n => n, fun | n => n⟩
theorem cmpL : Go.Proofs.SlLaysC2.n5 Try.prog cmpL_ren := {
  mixed := by kernel_rfl
  f5 := ⟨Try.f125.name, by decide, Try.func125.trans (congrArg some (by kernel_rfl))⟩
  f7 := ⟨Try.f128.name, by decide, Try.func128.trans (congrArg some (by kernel_rfl))⟩
  t3 := Try.underlying3
  a3 := Try.isAgg3
  z3 := Try.sizeOf3
  v3 := Try.zeroValue3
  t4 := Try.underlying4
  a4 := Try.isAgg4
  z4 := Try.sizeOf4
  v4 := Try.zeroValue4
  t22 := Try.underlying3
  a22 := Try.isAgg3
  z22 := Try.sizeOf3
  v22 := Try.zeroValue3 }
end Go.Proofs.Ytldcoekbgfaomaa
end
section
namespace Go.Proofs.Ytldcoekbgfaomaa
open Go.RowKit Go.Shelf Go.Lib Go.Sort
theorem callsIn_of {F : Fence} (hF : Wide F) {n : Nat} {P : Program} {f : FuncId} {args : Array Value} {w : World} {R : Ending → World → Prop} (h : Calls P f args w R) : CallsIn F n P f args w R := by
  obtain ⟨fn, depth, alive, round⟩ := F
  obtain ⟨h1, h2, h3⟩ := hF
  simp only at h1 h2 h3
  subst h2
  subst h3
  have e : fn = fun _ => True := by funext x; exact eq_true (h1 x)
  subst e
  exact (callsIn_wide (n := n)).2 h
@[reducible] def EndT : Type := Int × Int × Int
def encE (x : EndT) : List Value := [.int .i64 x.1, .int .i64 x.2.1, .int .i64 x.2.2]
def cmpE (x y : EndT) : Int := Lib.compareInt x.1 y.1
theorem ltE (x y : EndT) : ltOf cmpE x y = decide (x.1 < y.1) := by
  unfold ltOf cmpE Lib.compareInt
  by_cases h1 : x.1 < y.1
  · simp [h1]
  · by_cases h2 : y.1 < x.1 <;> simp [h1, h2]
theorem swoE : SWO (ltOf cmpE) where
  irrefl x := by rw [ltE]; simp
  trans x y z h1 h2 := by rw [ltE] at *; simp at *; omega
  ntrans x y z h1 h2 := by rw [ltE] at *; simp at *; omega
set_option maxHeartbeats 1000000 in
theorem closure124 (x y : EndT) (W : World) : Calls Try.prog 124 #[.agg (encE x).toArray, .agg (encE y).toArray] W fun e w' => e = .returned (.int .i64 (cmpE x y)) ∧ ∃ q os', w' = grow (W.drewN q) os' := by
  have hcon := fun W' => AnyG.cmp_Compare_int cmpL x.1 y.1 W'
  change ∀ W', Calls Try.prog 125 _ _ _ at hcon
  unfold cmpE
  generalize Lib.compareInt x.1 y.1 = r at hcon ⊢
  unfold encE
  go_enter Try.func124, Try.ntmps124
  go_wp2_with (go_at_call 125; refine (hcon _).mono ?_; rintro e w' ⟨rfl, rfl⟩)
  go_ret
  exact ⟨rfl, 0, _, by rw [alloc_eq_grow, alloc_eq_grow, grow_grow]; rfl⟩
def endCells (es : List EndT) : List P1 := es.flatMap fun e => [i64 e.1, i64 e.2.1, i64 e.2.2]
theorem endCells_length (es : List EndT) : (endCells es).length = es.length * 3 := flat_length _ 3 (fun _ => rfl) es
/-- What the sort leaves. -/
def sortE (es : List EndT) : List EndT := if es.length = 0 then [] else (pdq (ltOf cmpE) es.toArray 0 es.length (Lib.bitLen es.length) true true).toList
theorem extract_all {α : Type} (A : Array α) (n : Nat) (h : A.size = n) : A.extract 0 n = A := by
  subst h
  exact Array.extract_size
theorem get_of_some {α : Type} [Inhabited α] {A : Array α} {i : Nat} {x : α} (h : A.toList[i]? = some x) : A[i]! = x := by
  rw [Array.getElem?_toList] at h
  rw [Array.getElem!_eq_getD, Array.getD_eq_getD_getElem?, h]
  rfl
theorem sortE_perm (es : List EndT) : (sortE es).Perm es := by
  unfold sortE
  split
  · rename_i h
    rw [List.length_eq_zero_iff] at h
    subst h
    exact List.Perm.refl _
  · have h := (pdq_sorts (ltOf cmpE) swoE es.toArray 0 es.length (Lib.bitLen es.length) true true (Nat.zero_le _) (by simp) (Or.inl rfl)).1
    have h1 := h.1
    have h2 := h.2.2
    have e1 : es.toArray.extract 0 es.length = es.toArray := extract_all _ _ (by simp)
    have e2 : (pdq (ltOf cmpE) es.toArray 0 es.length (Lib.bitLen es.length) true true).extract 0 es.length = pdq (ltOf cmpE) es.toArray 0 es.length (Lib.bitLen es.length) true true := extract_all _ _ (by rw [h1]; simp)
    rw [e1, e2] at h2
    exact h2
theorem sortE_sorted (es : List EndT) (i j : Nat) (x y : EndT) (hij : i < j) (hi : (sortE es)[i]? = some x) (hj : (sortE es)[j]? = some y) : x.1 ≤ y.1 := by
  have hl := (sortE_perm es).length_eq
  have hjl := (List.getElem?_eq_some_iff.1 hj).1
  rw [hl] at hjl
  clear hl
  unfold sortE at hi hj
  split at hi
  · simp at hi
  · rename_i h0
    rw [if_neg h0] at hj
    have h := (pdq_sorts (ltOf cmpE) swoE es.toArray 0 es.length (Lib.bitLen es.length) true true (Nat.zero_le _) (by simp) (Or.inl rfl)).2 i j (Nat.zero_le _) hij hjl
    rw [get_of_some hi, get_of_some hj, ltE] at h
    simpa using h
theorem flatv_at {α : Type} (f : α → List Value) (n : Nat) (hf : ∀ a, (f a).length = n) (d : α) : ∀ (l : List α) (i k : Nat), i < l.length → k < n → (l.flatMap f)[i * n + k]? = (f (l.getD i d))[k]?
  | [], i, k, h, _ => by simp at h
  | a :: l, 0, k, _, hk => by
    simp only [List.flatMap_cons,Nat.zero_mul,ZC,List.getD_cons_zero]
    rw [List.getElem?_append_left (by rw [hf]; exact hk)]
  | a :: l, i + 1, k, h, hk => by
    simp only [List.flatMap_cons,List.getD_cons_succ]
    have e : (i + 1) * n = i * n + n := Nat.succ_mul ..
    rw [List.getElem?_append_right (by rw [hf]; omega), hf, show (i + 1) * n + k - n = i * n + k by omega]
    exact flatv_at f n hf d l i k (by simpa using h) hk
theorem flatv_length {α : Type} (f : α → List Value) (n : Nat) (hf : ∀ a, (f a).length = n) : ∀ (l : List α), (l.flatMap f).length = l.length * n
  | [] => by simp
  | a :: l => by
    simp only [List.flatMap_cons,List.length_append,hf,flatv_length f n hf l,Zl,Nat.succ_mul]
    omega
theorem get_list {α : Type} [Inhabited α] (l : List α) (i : Nat) (h : i < l.length) : l.toArray[i]! = l.getD i default := by
  rw [Array.getElem!_eq_getD, Array.getD_eq_getD_getElem?, List.getD_eq_getElem?_getD]
  simp
theorem flat_vals (es : List EndT) : flatK encE 3 es.toArray = (es.flatMap encE).toArray := by
  apply Array.ext'
  apply List.ext_getElem?
  intro t
  by_cases ht : t < es.length * 3
  · have h1 := get_flatK encE 3 es.toArray t (by simpa using ht)
    have h2 : t < (flatK encE 3 es.toArray).size := by simpa using ht
    rw [Array.getElem?_toList, Array.getElem?_eq_getElem h2]
    rw [getElem!_pos _ t h2] at h1
    rw [h1]
    have h3 := flatv_at encE 3 (fun _ => rfl) default es (t / 3) (t % 3) (by omega) (by omega)
    rw [show t / 3 * 3 + t % 3 = t by omega] at h3
    show _ = (es.flatMap encE)[t]?
    rw [h3, get_list es (t / 3) (by omega)]
    have hm : t % 3 = 0 ∨ t % 3 = 1 ∨ t % 3 = 2 := by omega
    rcases hm with hm | hm | hm <;> rw [hm] <;> rfl
  · rw [List.getElem?_eq_none (by simp; omega), List.getElem?_eq_none (by show (es.flatMap encE).length ≤ t; rw [flatv_length encE 3 (fun _ => rfl)]; omega)]
theorem frz0 (w : World) (g j : Nat) (cur : Array Value) (e : TypeId) (h : w.heap[g]? = some (.cells cur e (0, 0))) : w.frozen? ⟨g, j, none⟩ = false := frozen_of_row w g j cur e h
/-- **slices.SortFunc at ends of extents.** -/
theorem s123 (es : List EndT) (hl : es.length ≤ 4294967296) : ACallsS Try.prog 123 124 185 3 es.length (endCells es) (endCells (sortE es)) := by
  refine ⟨⟨_, Try.func123, by kernel_rfl, by kernel_rfl⟩, fun F k C w v us hF hown hul hR => callsIn_of hF ?_⟩
  have hus : us = es.flatMap encE := by
    apply List.ext_getElem?
    intro t
    rw [endCells_length] at hul
    by_cases ht : t < es.length * 3
    · have h3 := flatv_at encE 3 (fun _ => rfl) default es (t / 3) (t % 3) (by omega) (by omega)
      have h4 := flat_at (fun e : EndT => [i64 e.1, i64 e.2.1, i64 e.2.2]) 3 (fun _ => rfl) default es (t / 3) (t % 3) (by omega) (by omega)
      rw [show t / 3 * 3 + t % 3 = t by omega] at h3 h4
      have hu : us[t]? = some (us[t]'(by omega)) := List.getElem?_eq_getElem _
      have hm : t % 3 = 0 ∨ t % 3 = 1 ∨ t % 3 = 2 := by omega
      rw [h3, hu]
      rcases hm with hm | hm | hm <;> rw [hm] at h4 ⊢ <;>
      · have hr := hR t _ _ h4 hu
        generalize us[t]'(by omega) = u at hr ⊢
        cases hr
        rfl
    · rw [List.getElem?_eq_none (by omega), List.getElem?_eq_none (by rw [flatv_length encE 3 (fun _ => rfl)]; omega)]
  subst hus
  rcases Nat.eq_zero_or_pos es.length with h0 | h0
  · have hs : sortE es = es := by rw [sortE, if_pos h0, List.length_eq_zero_iff.1 h0]
    rw [hs, h0]
    rw [h0] at hown
    obtain ⟨p, cap, rfl⟩ : ∃ p cap, v = .slice p 0 cap := by
      rcases hown.2 with ⟨rfl, _⟩ | ⟨g, cap, cur, rfl, _⟩
      · exact ⟨_, _, rfl⟩
      · exact ⟨_, _, rfl⟩
    have hcon := AnyF.slices_SortFunc_none sortL p cap (.func (.func 124) #[] #[]) w
    change Calls Try.prog 123 _ _ _ at hcon
    refine hcon.mono ?_
    rintro e w' ⟨rfl, rfl⟩
    exact ⟨⟨_, rfl⟩, ⟨rfl, rfl, rfl, Nat.le_refl _, fun _ _ _ => rfl⟩, _, hown, hul, hR⟩
  · rcases hown.2 with ⟨_, h⟩ | ⟨g, cap, cur, rfl, hbg, hheap, hnc, hcm, hcs, htake⟩
    · omega
    · have eg : ∀ args w, (callFunc 124 args).run Try.prog w = .ok (.enter 124 args) w := enters_of Try.func124 (by kernel_rfl) rfl
      have hlen : (es.flatMap encE).length = es.length * 3 := flatv_length encE 3 (fun _ => rfl) es
      have hH : HoldsK encE 3 w g 0 es.toArray := by
        unfold HoldsK
        rw [flat_vals]
        intro j hj
        simp only [List.size_toArray] at hj
        refine ⟨?_, frz0 w g _ cur 185 hheap⟩
        rw [cell_of_row w g _ cur 185 (0, 0) hheap, get_list _ j hj, Nat.zero_add]
        have h1 : (cur.toList.take (es.length * 3))[j]? = (es.flatMap encE)[j]? := by rw [htake]
        rw [List.getElem?_take, if_pos (by omega)] at h1
        rw [← Array.getElem?_toList, h1, List.getElem?_eq_getElem hj, List.getD_eq_getElem?_getD, List.getElem?_eq_getElem hj]
        rfl
      have hcon := AnyQ.slices_SortFunc_eq sortL 3 Try.isAgg185 Try.sizeOf185 encE (fun _ => rfl) (fun x v hv => by simp [encE] at hv; rcases hv with rfl | rfl | rfl <;> rfl) cmpE swoE 124 #[] g 0 cap es.toArray w eg
        (fun _ _ _ _ x y => closure124 x y _) hH (Array.getElem?_eq_some_iff.1 hheap).1 (by simp; omega)
      change Calls Try.prog 123 _ _ _ at hcon
      simp only [List.size_toArray] at hcon
      refine hcon.mono ?_
      rintro e w' ⟨rfl, n, os, rfl⟩
      have hsE : pdq (ltOf cmpE) es.toArray 0 es.length (Lib.bitLen es.length) true true = (sortE es).toArray := by
        rw [sortE, if_neg (by omega)]
      rw [hsE]
      have hsl : (sortE es).length = es.length := (sortE_perm es).length_eq
      have hlen' : ((sortE es).flatMap encE).length = es.length * 3 := by rw [flatv_length encE 3 (fun _ => rfl), hsl]
      have hlt := (Array.getElem?_eq_some_iff.1 hheap).1
      let cur' : Array Value := putCells id 0 (((sortE es).flatMap encE).toArray) cur
      have hheap' : ∀ k, k < w.heap.size → (sortWorldK encE 3 w g 0 n (sortE es).toArray os).heap[k]? = if k = g then some (.cells cur' 185 (0, 0)) else w.heap[k]? := by
        intro k hk
        unfold sortWorldK putRowK
        rw [flat_vals]
        show ((w.heap.modify g (onCells (putCells id 0 (((sortE es).flatMap encE).toArray)))) ++ os)[k]? = _
        rw [Array.getElem?_append_left (by rw [Array.size_modify]; exact hk), Array.getElem?_modify]
        by_cases hkg : g = k
        · subst hkg
          rw [if_pos rfl, if_pos rfl, hheap]
          rfl
        · rw [if_neg hkg, if_neg (fun h => hkg h.symm)]
      refine ⟨⟨_, rfl⟩, ⟨rfl, rfl, rfl, ?_, fun k hk hne => ?_⟩, (sortE es).flatMap encE, ⟨hlen', .inr ⟨g, cap, cur', rfl, hbg, ?_, hnc, hcm, ?_, ?_⟩⟩, ?_, ?_⟩
      · show w.heap.size ≤ ((w.heap.modify g _) ++ os).size
        rw [Array.size_append, Array.size_modify]
        omega
      · rw [hheap' k hk, if_neg (fun h => hne (by subst h; rfl))]
      · rw [hheap' g hlt, if_pos rfl]
      · show (putCells id 0 _ cur).size = _
        rw [putCells, Array.size_mapIdx]
        exact hcs
      · apply List.ext_getElem?
        intro t
        rw [List.getElem?_take]
        by_cases ht : t < es.length * 3
        · rw [if_pos ht]
          show (putCells id 0 (((sortE es).flatMap encE).toArray) cur).toList[t]? = _
          have htc : t < cur.size := by
            have := Nat.mul_le_mul_right 3 hnc
            omega
          rw [Array.getElem?_toList, putCells, Array.getElem?_mapIdx, Array.getElem?_eq_getElem htc, Option.map_some, if_pos ⟨Nat.zero_le _, by rw [List.size_toArray, hlen']; omega⟩, Nat.sub_zero, get_list _ t (by omega)]
          rw [List.getD_eq_getElem?_getD, List.getElem?_eq_getElem (show t < ((sortE es).flatMap encE).length by omega)]
          rfl
        · rw [if_neg ht, List.getElem?_eq_none (by omega)]
      · rw [hlen', endCells_length, hsl]
      · intro t x u hx hu
        have ht : t < es.length * 3 := by have := (List.getElem?_eq_some_iff.1 hu).1; omega
        have h3 := flatv_at encE 3 (fun _ => rfl) default (sortE es) (t / 3) (t % 3) (by omega) (by omega)
        have h4 := flat_at (fun e : EndT => [i64 e.1, i64 e.2.1, i64 e.2.2]) 3 (fun _ => rfl) default (sortE es) (t / 3) (t % 3) (by omega) (by omega)
        rw [show t / 3 * 3 + t % 3 = t by omega] at h3 h4
        change (endCells (sortE es))[t]? = _ at h4
        rw [hx] at h4
        rw [hu] at h3
        have hm : t % 3 = 0 ∨ t % 3 = 1 ∨ t % 3 = 2 := by omega
        rcases hm with hm | hm | hm <;> rw [hm] at h3 h4 <;>
        · injection h3 with h3
          injection h4 with h4
          subst h3
          subst h4
          exact .v _ rfl
end Go.Proofs.Ytldcoekbgfaomaa
end
section
namespace Go.Proofs.Ytldcoekbgfaomaa
open Go.RowKit
set_option maxRecDepth 20000
set_option maxHeartbeats 4000000
attribute [local irreducible] AOps AOpsD AW
/-- The ends of some extents of list i. -/
def endsOf (i : Nat) (l : List (Int × Int)) : List EndT := l.flatMap fun e => [(e.1, (i : Int), 1), (e.1 + e.2, (i : Int), -1)]
def rawAll (ls : List (List (Int × Int))) : List EndT := ls.zipIdx.flatMap fun p => endsOf p.2 p.1
theorem endsOf_length (i : Nat) (l : List (Int × Int)) : (endsOf i l).length = 2 * l.length := by
  induction l with
  | nil => rfl
  | cons x l ih =>
    simp only [endsOf,List.flatMap_cons,List.length_append,Zl,Zo] at ih ⊢
    omega
theorem endsOf_take (i : Nat) (l : List (Int × Int)) (k : Nat) (h : k < l.length) : endsOf i (l.take (k + 1)) = endsOf i (l.take k) ++ [((l.getD k (0, 0)).1, (i : Int), 1), ((l.getD k (0, 0)).1 + (l.getD k (0, 0)).2, (i : Int), -1)] := by
  rw [getD_take_succ_e l k h]; simp [endsOf]
theorem rawAll_take (ls : List (List (Int × Int))) (i : Nat) (h : i < ls.length) : rawAll (ls.take (i + 1)) = rawAll (ls.take i) ++ endsOf i (ls.getD i []) := by
  have e : ls.take (i + 1) = ls.take i ++ [ls.getD i []] := by rw [List.take_add_one]; simp [h]
  rw [e, rawAll, rawAll, List.zipIdx_append]
  simp [h, Nat.min_eq_left (Nat.le_of_lt h)]
@[reducible] def endsP (es : List EndT) : P1 := .sl es.length (endCells es)
theorem endCells_snoc2 (es : List EndT) (a b c a' b' c' : Int) : endCells es ++ [i64 a, i64 b, i64 c, i64 a', i64 b', i64 c'] = endCells (es ++ [(a, b, c), (a', b', c')]) := by simp [endCells]
theorem endCells_part (l : List EndT) (i : Nat) (h : i < l.length) : ((endCells l).drop (i * 3)).take 3 = [i64 (l.getD i default).1, i64 (l.getD i default).2.1, i64 (l.getD i default).2.2] :=
  flat_part (fun e : EndT => [i64 e.1, i64 e.2.1, i64 e.2.2]) 3 (fun _ => rfl) default l i h
theorem endCells_at0 (l : List EndT) (i : Nat) (h : i < l.length) : (endCells l)[i * 3]? = some (i64 (l.getD i default).1) := flat_at (fun e : EndT => [i64 e.1, i64 e.2.1, i64 e.2.2]) 3 (fun _ => rfl) default l i 0 h (by omega)
/-- An extent within the sectors. -/
def GoodE (e : Int × Int) : Prop := ∃ s c : Nat, e = ((s : Int), (c : Int)) ∧ 1 ≤ c ∧ s + c ≤ 4096
theorem map_at_x (f : List (Int × Int) → P1) (l : List (List (Int × Int))) (i : Nat) (h : i < l.length) : (l.map f)[i]? = some (f (l.getD i [])) := by
  simp [h]
theorem c120 (ls : List (List (Int × Int))) (h2 : ls.length ≤ 2) (hs : ∀ l ∈ ls, l.length ≤ 8192) (hg : ∀ l ∈ ls, ∀ e ∈ l, GoodE e) : ACalls Try.prog 120 [.p (.sl ls.length (ls.map exts))] (.p (endsP (sortE (rawAll ls)))) := by
  refine acalls_of tb_ok Try.func120 (c := _) rfl (by kernel_rfl) ?_
  intro X hP hX hro hpl
  have hb : tb.Ok X.P := hP ▸ tb_ok
  change AW X _ _ ⟨[], [.p (.sl ls.length (ls.map exts)), .any, .any, .any, .any, .any, .any, .any, .any, .any, .any, .any, .any, .any, .any, .any, .any, .any, .any, .any, .any, .any, .any, .any, .any, .any, .any, .any, .any, .any, .any, .any, .any, .any, .any, .any, .any, .any, .any, .any, .any, .any, .any, .any, .any], [], []⟩
  refine aw_seq ?_
  refine aw_regK hX hb [0] rfl (σ' := ?s1) (fun K hK => ?h1) ?n1
  case h1 =>
    (refine st_op rfl (by simp (disch := omega) only [stepf,callOf,qop,fop,St.ev,St.put,cd,zd,Value.oneCell',tb_T,TypeDesc.aggB,getD_0,getD_s,Ze,Zd,Zc,Za,Zb,Zr,ZE,ZF,Zf,Zq,Zg,i64_w,Zt,Zs,map_at_x,Zh,extCells_part,extCells_length,extCells_at0,extCells_at1] <;> exact rfl) ?_)
    refine aops_nil ?_
    exact hK
  refine exq_n ?_
  refine aw_seq ?_
  refine aw_regK hX hb [0] rfl (σ' := ?s2) (fun K hK => ?h2) ?n2
  case h2 =>
    (refine st_op rfl (by simp (disch := omega) only [stepf,callOf,qop,fop,St.ev,St.put,cd,zd,Value.oneCell',tb_T,TypeDesc.aggB,getD_0,getD_s,Ze,Zd,Zc,Za,Zb,Zr,ZE,ZF,Zf,Zq,Zg,i64_w,Zt,Zs,map_at_x,Zh,extCells_part,extCells_length,extCells_at0,extCells_at1] <;> exact rfl) ?_)
    refine aops_nil ?_
    exact hK
  refine exq_n ?_
  refine aw_nil 3 185 3 rfl (σ' := ?s3) ?h3 ?n3
  case h3 => simp only [St.nilSlot,St.addVec,Za,Zb,Zl,Zo,ZL,ZM]; exact rfl
  refine aw_seq ?_
  refine aw_seq ?_
  refine aw_regK hX hb [0, 1, 2] rfl (σ' := ?s4) (fun K hK => ?h4) ?n4
  case h4 =>
    iterate 3 (refine st_op rfl (by simp (disch := omega) only [stepf,callOf,qop,fop,St.ev,St.put,cd,zd,Value.oneCell',tb_T,TypeDesc.aggB,getD_0,getD_s,Ze,Zd,Zc,Za,Zb,Zr,ZE,ZF,Zf,Zq,Zg,i64_w,Zt,Zs,qLen,t3,ti3,t35,ti35,t40,ti40,t186,ti186,map_at_x,Zh,extCells_part,extCells_length,extCells_at0,extCells_at1] <;> exact rfl) ?_)
    refine aops_nil ?_
    exact hK
  refine exq_n ?_
  refine aw_block ?_
  refine aw_loop (ι := Nat × List EndT) (fun p => p.1 ≤ ls.length ∧ p.2 = rawAll (ls.take p.1) ∧ p.2.length ≤ 16384 * p.1) (fun p => ⟨[], [.any, .any, .any, .vref 0, .any, .any, .any, .any, .any, .any, .any, .p (.sl ls.length (ls.map exts)), .p (i64 ls.length), .p (i64 p.1), .any, .any, .any, .any, .any, .any, .any, .any, .any, .any, .any, .any, .any, .any, .any, .any, .any, .any, .any, .any, .any, .any, .any, .any, .any, .any, .any, .any, .any, .any, .any], [], [some ⟨185, 3, p.2.length, endCells p.2⟩]⟩) (fun p => ls.length - p.1) (0, []) (by exact ⟨Nat.zero_le _, rfl, Nat.le_refl _⟩) (wk_le ⟨rfl, leL_a (leL_a (leL_a (leL_r rfl (leL_a (leL_a (leL_a (leL_a (leL_a (leL_a (leL_a (leL_r rfl (leL_r rfl (leL_r rfl (leL_a (leL_a (leL_a (leL_a (leL_a (leL_a (leL_a (leL_a (leL_a (leL_a (leL_a (leL_a (leL_a (leL_a (leL_a (leL_a (leL_a (leL_a (leL_a (leL_a (leL_a (leL_a (leL_a (leL_a (leL_a (leL_a (leL_a (leL_a (leL_a (leL_a (leL_a (leL_nil))))))))))))))))))))))))))))))))))))))))))))), (leB_nil _), (leV_r rfl (leV_nil _)), rfl, rfl⟩) ?_
  rintro ⟨i, out⟩ ⟨hi, ho, hol⟩
  dsimp only at hi ho hol ⊢
  refine aw_seq ?_
  refine aw_regK hX hb [0] rfl (σ' := ?s5) (fun K hK => ?h5) ?n5
  case h5 =>
    (refine st_op rfl (by simp (disch := omega) only [stepf,callOf,qop,fop,St.ev,St.put,cd,zd,Value.oneCell',tb_T,TypeDesc.aggB,getD_0,getD_s,Ze,Zd,Zc,Za,Zb,Zr,ZE,ZF,Zf,Zq,Zg,i64_w,Zt,Zs,qBin,iop,t3,ti3,map_at_x,Zh,extCells_part,extCells_length,extCells_at0,extCells_at1] <;> exact rfl) ?_)
    refine aops_nil ?_
    exact hK
  refine exq_n ?_
  refine aw_seq ?_
  refine aw_cond _ rfl (fun hc0 => ?_) (fun hc0 => ?_)
  · try simp only [Zp,Zi,ZK,ZJ,ne_eq,Zn,Zm,ZB,ZA,ZI,not_or,not_and,Zu] at hc0
    refine aw_skip ?_
    refine exq_n ?_
    refine aw_seq ?_
    refine aw_block ?_
    refine aw_seq ?_
    refine aw_regK hX hb [0, 1, 2, 3, 4] rfl (σ' := ?s6) (fun K hK => ?h6) ?n6
    case h6 =>
      iterate 5 (refine st_op rfl (by simp (disch := omega) only [stepf,callOf,qop,fop,St.ev,St.put,cd,zd,Value.oneCell',tb_T,TypeDesc.aggB,getD_0,getD_s,Ze,Zd,Zc,Za,Zb,Zr,ZE,ZF,Zf,Zq,Zg,i64_w,Zt,Zs,Int.toNat_zero,Int.toNat_one,toNat_pred,toNat_succ,qIndexAddr,ZO,Nat.mul_one,ZC,Nat.zero_mul,Zh,Zl,Zo,Zv,Zw,Zj,Zk,Zx,Zy,qLoad,bload,pload,pureAll,D.pure?,ZD,t3,ti3,t35,ti35,t40,ti40,t186,ti186,map_at_x,extCells_part,extCells_length,extCells_at0,extCells_at1] <;> exact rfl) ?_)
      refine aops_nil ?_
      exact hK
    refine exq_n ?_
    refine aw_seq ?_
    refine aw_regK hX hb [0, 1, 2] rfl (σ' := ?s7) (fun K hK => ?h7) ?n7
    case h7 =>
      iterate 3 (refine st_op rfl (by simp (disch := omega) only [stepf,callOf,qop,fop,St.ev,St.put,cd,zd,Value.oneCell',tb_T,TypeDesc.aggB,getD_0,getD_s,Ze,Zd,Zc,Za,Zb,Zr,ZE,ZF,Zf,Zq,Zg,i64_w,Zt,Zs,qLen,t3,ti3,t5,ti5,t35,ti35,t40,ti40,map_at_x,Zh,extCells_part,extCells_length,extCells_at0,extCells_at1] <;> exact rfl) ?_)
      refine aops_nil ?_
      exact hK
    refine exq_n ?_
    refine aw_block ?_
    refine aw_loop (ι := Nat × List EndT) (fun p => p.1 ≤ (ls.getD i []).length ∧ p.2 = rawAll (ls.take i) ++ endsOf i ((ls.getD i []).take p.1) ∧ p.2.length = out.length + 2 * p.1) (fun p => ⟨[], [.any, .any, .any, .vref 0, .p (i64 i), .any, .any, .any, .any, .any, .any, .p (.sl ls.length (ls.map exts)), .p (i64 ls.length), .p (i64 i), .any, .any, .any, .any, .p (exts (ls.getD i [])), .p (i64 (ls.getD i []).length), .p (i64 p.1), .any, .any, .any, .any, .any, .any, .any, .any, .any, .any, .any, .any, .any, .any, .any, .any, .any, .any, .any, .any, .any, .any, .any, .any], [], [some ⟨185, 3, p.2.length, endCells p.2⟩]⟩) (fun p => (ls.getD i []).length - p.1) (0, out) (by exact ⟨Nat.zero_le _, by dsimp only; rw [ho]; simp [endsOf], by simp⟩) (wk_le ⟨rfl, leL_a (leL_a (leL_a (leL_r (by first | rfl | (rw [← endCells_snoc2]; simp)) (leL_r (by first | rfl | (rw [← endCells_snoc2]; simp)) (leL_a (leL_a (leL_a (leL_a (leL_a (leL_a (leL_r (by first | rfl | (rw [← endCells_snoc2]; simp)) (leL_r (by first | rfl | (rw [← endCells_snoc2]; simp)) (leL_r (by first | rfl | (rw [← endCells_snoc2]; simp)) (leL_a (leL_a (leL_a (leL_a (leL_r (by first | rfl | (rw [← endCells_snoc2]; simp)) (leL_r (by first | rfl | (rw [← endCells_snoc2]; simp)) (leL_r (by first | rfl | (rw [← endCells_snoc2]; simp)) (leL_a (leL_a (leL_a (leL_a (leL_a (leL_a (leL_a (leL_a (leL_a (leL_a (leL_a (leL_a (leL_a (leL_a (leL_a (leL_a (leL_a (leL_a (leL_a (leL_a (leL_a (leL_a (leL_a (leL_a (leL_nil))))))))))))))))))))))))))))))))))))))))))))), (leB_nil _), (leV_r (by first | rfl | (rw [← endCells_snoc2]; simp)) (leV_nil _)), rfl, rfl⟩) ?_
    rintro ⟨k, out2⟩ ⟨hk, ho2, hol2⟩
    dsimp only at hk ho2 hol2 ⊢
    have hli : ls.getD i [] ∈ ls := getD_mem ls [] i (by omega)
    have hll := hs _ hli
    refine aw_seq ?_
    refine aw_regK hX hb [0] rfl (σ' := ?s8) (fun K hK => ?h8) ?n8
    case h8 =>
      (refine st_op rfl (by simp (disch := omega) only [stepf,callOf,qop,fop,St.ev,St.put,cd,zd,Value.oneCell',tb_T,TypeDesc.aggB,getD_0,getD_s,Ze,Zd,Zc,Za,Zb,Zr,ZE,ZF,Zf,Zq,Zg,i64_w,Zt,Zs,qBin,iop,t3,ti3,map_at_x,Zh,extCells_part,extCells_length,extCells_at0,extCells_at1] <;> exact rfl) ?_)
      refine aops_nil ?_
      exact hK
    refine exq_n ?_
    refine aw_seq ?_
    refine aw_cond _ rfl (fun hc1 => ?_) (fun hc1 => ?_)
    · try simp only [Zp,Zi,ZK,ZJ,ne_eq,Zn,Zm,ZB,ZA,ZI,not_or,not_and,Zu] at hc1
      obtain ⟨s, c, he, hc1, hc2⟩ := hg _ hli _ (getD_mem (ls.getD i []) (0, 0) k (by omega))
      refine aw_skip ?_
      refine exq_n ?_
      refine aw_seq ?_
      refine aw_block ?_
      refine aw_seq ?_
      refine aw_regK hX hb [0, 1, 2, 3] rfl (σ' := ?s9) (fun K hK => ?h9) ?n9
      case h9 =>
        iterate 4 (refine st_op rfl (by simp (disch := omega) only [stepf,callOf,qop,fop,St.ev,St.put,cd,zd,Value.oneCell',tb_T,TypeDesc.aggB,getD_0,getD_s,Ze,Zd,Zc,Za,Zb,Zr,ZE,ZF,Zf,Zq,Zg,i64_w,Zt,Zs,Int.toNat_zero,Int.toNat_one,toNat_pred,toNat_succ,qIndexAddr,ZO,Nat.mul_one,ZC,Nat.zero_mul,Zh,Zl,Zo,Zv,Zw,Zj,Zk,Zx,Zy,qLoad,bload,pload,pureAll,D.pure?,ZD,ZM,ZL,ZG,ZH,St.addBox,Value.cells,fStore,D.boxCells,D.live,D.cells?,ZN,St.setVec,t3,ti3,t5,ti5,t22,ti22,t35,ti35,t40,ti40,t50,ti50,map_at_x,extCells_part,extCells_length,extCells_at0,extCells_at1] <;> exact rfl) ?_)
        refine aops_nil ?_
        exact hK
      refine exq_n ?_
      refine aw_seq ?_
      refine aw_regK hX hb [0, 1, 2, 3, 4, 5, 6, 7, 8] rfl (σ' := ?s10) (fun K hK => ?h10) ?n10
      case h10 =>
        (refine st_op rfl (by simp (disch := omega) only [stepf,callOf,qop,fop,St.ev,St.put,cd,zd,Value.oneCell',tb_T,TypeDesc.aggB,getD_0,getD_s,Ze,Zd,Zc,Za,Zb,Zr,ZE,ZF,Zf,Zq,Zg,i64_w,Zt,Zs,Zl,Zo,Zv,Zw,Zj,Zk,Zx,Zy,qLoad,bload,pload,pureAll,D.pure?,ZC,ZD,pvAll,D.pv?,qTup,PV.d,t1,ti1,t2,ti2,t3,ti3,t24,ti24,t26,ti26,t27,ti27,t35,ti35,t58,ti58,t60,ti60,map_at_x,Zh,extCells_part,extCells_length,extCells_at0,extCells_at1,he] <;> exact rfl) ?_)
        refine st_call rfl (by simp only [callOf,St.ev,getD_0,getD_s,pvAll,D.pv?,ZG,ZH,zd,cd,Value.oneCell',Zr] <;> exact rfl) (acK hP (c122 s c hc1 hc2)) (by simp only [St.put,Za,Zb] <;> exact rfl) ?_
        iterate 7 (refine st_op rfl (by simp (disch := omega) only [stepf,callOf,qop,fop,St.ev,St.put,cd,zd,Value.oneCell',tb_T,TypeDesc.aggB,getD_0,getD_s,Ze,Zd,Zc,Za,Zb,Zr,ZE,ZF,Zf,Zq,Zg,i64_w,Zt,Zs,Zl,Zo,Zv,Zw,Zj,Zk,Zx,Zy,qLoad,bload,pload,pureAll,D.pure?,ZC,ZD,pvAll,D.pv?,qTup,PV.d,t1,ti1,t2,ti2,t3,ti3,t24,ti24,t26,ti26,t27,ti27,t35,ti35,t58,ti58,t60,ti60,map_at_x,Zh,extCells_part,extCells_length,extCells_at0,extCells_at1,he] <;> exact rfl) ?_)
        refine aops_nil ?_
        exact hK
      refine exq_n ?_
      refine aw_seq ?_
      refine aw_regK hX hb [0] rfl (σ' := ?s11) (fun K hK => ?h11) ?n11
      case h11 =>
        (refine st_op rfl (by simp (disch := omega) only [stepf,callOf,qop,fop,St.ev,St.put,cd,zd,Value.oneCell',tb_T,TypeDesc.aggB,getD_0,getD_s,Ze,Zd,Zc,Za,Zb,Zr,ZE,ZF,Zf,Zq,Zg,i64_w,Zt,Zs,map_at_x,Zh,extCells_part,extCells_length,extCells_at0,extCells_at1] <;> exact rfl) ?_)
        refine aops_nil ?_
        exact hK
      refine exq_n ?_
      refine aw_cond _ rfl (fun hc2 => ?_) (fun hc2 => ?_)
      · try simp only [Zp,Zi,ZK,ZJ,ne_eq,Zn,Zm,ZB,ZA,ZI,not_or,not_and,Zu] at hc2
        refine aw_regK hX hb [0, 1, 2, 3, 4, 5, 6, 7, 8, 9] rfl (σ' := ?s12) (fun K hK => ?h12) ?n12
        case h12 =>
          iterate 10 (refine st_op rfl (by simp (disch := omega) only [stepf,callOf,qop,fop,St.ev,St.put,cd,zd,Value.oneCell',tb_T,TypeDesc.aggB,getD_0,getD_s,Ze,Zd,Zc,Za,Zb,Zr,ZE,ZF,Zf,Zq,Zg,i64_w,Zt,Zs,tb_W,tbO_W,qBuild,qBuildD,D.cell1,range_1,range_2,range_3,range_4,range_5,List.all_cons,List.all_nil,bfill,TI.place,TI.zeros,TI.kindOk,D.cells?,D.pure?,zp,Value.cells,ZQ,ZP,Zl,Zo,tb_N,tbO_N,tbW_N,tb_O,fBuildSlice,catCells,ZG,ZH,ZL,ZM,ZN,sec8_length,Nat.reduceAdd,Nat.reduceMul,fAppend,appV,St.demote,D.demote,St.setVec,Zh,List.length_append,ZC,Nat.mul_one,reduceIte,t1,ti1,t2,ti2,t3,ti3,t4,ti4,t35,ti35,t181,ti181,t185,ti185,map_at_x,extCells_part,extCells_length,extCells_at0,extCells_at1,Zv,Zw,Zj,Zk,Zx,Zy,endCells_length] <;> exact rfl) ?_)
          refine aops_nil ?_
          exact hK
        refine exb_n ?_
        refine exq_n ?_
        refine aw_regK hX hb [0, 1] rfl (σ' := ?s13) (fun K hK => ?h13) ?n13
        case h13 =>
          iterate 2 (refine st_op rfl (by simp (disch := omega) only [stepf,callOf,qop,fop,St.ev,St.put,cd,zd,Value.oneCell',tb_T,TypeDesc.aggB,getD_0,getD_s,Ze,Zd,Zc,Za,Zb,Zr,ZE,ZF,Zf,Zq,Zg,i64_w,Zt,Zs,qBin,iop,t1,ti1,t3,ti3,t35,ti35,t40,ti40,map_at_x,Zh,extCells_part,extCells_length,extCells_at0,extCells_at1] <;> exact rfl) ?_)
          refine aops_nil ?_
          exact hK
        refine exq_n ?_
        exact ⟨(k + 1, out2 ++ [((s : Int), (i : Int), 1), (((s + c : Nat) : Int), (i : Int), -1)]), by exact ⟨by dsimp only; omega, by dsimp only; rw [ho2, endsOf_take i _ k (by omega), he, List.append_assoc]; simp, by dsimp only; simp; omega⟩, by (try dsimp only); omega, wk_le ⟨rfl, leL_a (leL_a (leL_a (leL_r (by first | rfl | (rw [← endCells_snoc2]; simp)) (leL_r (by first | rfl | (rw [← endCells_snoc2]; simp)) (leL_a (leL_a (leL_a (leL_a (leL_a (leL_a (leL_r (by first | rfl | (rw [← endCells_snoc2]; simp)) (leL_r (by first | rfl | (rw [← endCells_snoc2]; simp)) (leL_r (by first | rfl | (rw [← endCells_snoc2]; simp)) (leL_a (leL_a (leL_a (leL_a (leL_r (by first | rfl | (rw [← endCells_snoc2]; simp)) (leL_r (by first | rfl | (rw [← endCells_snoc2]; simp)) (leL_r (by first | rfl | (rw [← endCells_snoc2]; simp)) (leL_a (leL_a (leL_a (leL_a (leL_a (leL_a (leL_a (leL_a (leL_a (leL_a (leL_a (leL_a (leL_a (leL_a (leL_a (leL_a (leL_a (leL_a (leL_a (leL_a (leL_a (leL_a (leL_a (leL_a (leL_nil))))))))))))))))))))))))))))))))))))))))))))), (leB_nil _), (leV_r (by first | rfl | (rw [← endCells_snoc2]; simp)) (leV_nil _)), rfl, rfl⟩⟩
      · try simp only [Zp,Zi,ZK,ZJ,ne_eq,Zn,Zm,ZB,ZA,ZI,not_or,not_and,Zu] at hc2
        cases hc2
    · try simp only [Zp,Zi,ZK,ZJ,ne_eq,Zn,Zm,ZB,ZA,ZI,not_or,not_and,Zu] at hc1
      refine aw_exit ?_
      refine exq_e ?_
      refine exq_e ?_
      refine exb_h ?_
      refine exb_n ?_
      refine exq_n ?_
      refine aw_regK hX hb [0, 1] rfl (σ' := ?s14) (fun K hK => ?h14) ?n14
      case h14 =>
        iterate 2 (refine st_op rfl (by simp (disch := omega) only [stepf,callOf,qop,fop,St.ev,St.put,cd,zd,Value.oneCell',tb_T,TypeDesc.aggB,getD_0,getD_s,Ze,Zd,Zc,Za,Zb,Zr,ZE,ZF,Zf,Zq,Zg,i64_w,Zt,Zs,qBin,iop,t1,ti1,t3,ti3,map_at_x,Zh,extCells_part,extCells_length,extCells_at0,extCells_at1] <;> exact rfl) ?_)
        refine aops_nil ?_
        exact hK
      refine exq_n ?_
      exact ⟨(i + 1, out2), by exact ⟨by dsimp only; omega, by dsimp only; rw [ho2, rawAll_take ls i (by omega), show k = (ls.getD i []).length by omega, List.take_length], by dsimp only; omega⟩, by (try dsimp only); omega, wk_le ⟨rfl, leL_a (leL_a (leL_a (leL_r rfl (leL_a (leL_a (leL_a (leL_a (leL_a (leL_a (leL_a (leL_r rfl (leL_r rfl (leL_r rfl (leL_a (leL_a (leL_a (leL_a (leL_a (leL_a (leL_a (leL_a (leL_a (leL_a (leL_a (leL_a (leL_a (leL_a (leL_a (leL_a (leL_a (leL_a (leL_a (leL_a (leL_a (leL_a (leL_a (leL_a (leL_a (leL_a (leL_a (leL_a (leL_a (leL_a (leL_a (leL_nil))))))))))))))))))))))))))))))))))))))))))))), (leB_nil _), (leV_r rfl (leV_nil _)), rfl, rfl⟩⟩
  · try simp only [Zp,Zi,ZK,ZJ,ne_eq,Zn,Zm,ZB,ZA,ZI,not_or,not_and,Zu] at hc0
    refine aw_exit ?_
    refine exq_e ?_
    refine exq_e ?_
    refine exb_h ?_
    refine exq_n ?_
    refine aw_seq ?_
    refine aw_regK hX hb [0, 1] rfl (σ' := ?s15) (fun K hK => ?h15) ?n15
    case h15 =>
      (refine st_op rfl (by simp (disch := omega) only [stepf,callOf,qop,fop,St.ev,St.put,cd,zd,Value.oneCell',tb_T,TypeDesc.aggB,getD_0,getD_s,Ze,Zd,Zc,Za,Zb,Zr,ZE,ZF,Zf,Zq,Zg,i64_w,Zt,Zs,pvAll,D.pv?,t3,ti3,t181,ti181,t185,ti185,t190,ti190,map_at_x,Zh,extCells_part,extCells_length,extCells_at0,extCells_at1] <;> exact rfl) ?_)
      refine st_srt rfl rfl (by simp only [St.ev,getD_0,getD_s,zd,cd,Value.oneCell',Zr] <;> exact rfl) (by simp only [St.ev,getD_0,getD_s,ZG,ZH] <;> exact rfl) rfl (acSS hP (s123 out (by omega))) (by simp only [St.setVec,St.put,Za,Zb] <;> exact rfl) ?_
      refine aops_nil ?_
      exact hK
    refine exq_n ?_
    refine aw_seq ?_
    refine aw_frz 0 rfl (σ' := ?s17) ?h17 ?n17
    case h17 => simp only [St.freeze,D.freeze,ZG,ZH,Za,Zb,Zr,reduceIte,Nat.reduceEqDiff]; exact rfl
    refine aw_regK hX hb [0, 1] rfl (σ' := ?s16) (fun K hK => ?h16) ?n16
    case h16 =>
      iterate 2 (refine st_op rfl (by simp (disch := omega) only [stepf,callOf,qop,fop,St.ev,St.put,cd,zd,Value.oneCell',tb_T,TypeDesc.aggB,getD_0,getD_s,Ze,Zd,Zc,Za,Zb,Zr,ZE,ZF,Zf,Zq,Zg,i64_w,Zt,Zs,t3,ti3,map_at_x,Zh,extCells_part,extCells_length,extCells_at0,extCells_at1] <;> exact rfl) ?_)
      refine aops_nil ?_
      exact hK
    refine exq_n ?_
    refine aw_ret ?_
    exact ret_r rfl (resOf_one rfl (by first | rfl | (rw [ho, List.take_of_length_le (by omega)]; exact congrArg D.p (congrArg (fun n => P1.sl n _) (sortE_perm _).length_eq.symm))))
end Go.Proofs.Ytldcoekbgfaomaa
end
