/- The walks of the code that the statement reaches, and the plain laws behind them, part Ud. No conditions. -/
import Derived.Test.YtldcoekbgfaomaaProg
import Derived.Shelf.SlSortCmp.NoneTotal
import Derived.Shelf.SlicesG.Cmp
import Derived.Ground.SlsfProg
import Derived.Ground.SlgcProg
import Derived.Test.YtldcoekbgfaomaaUc
set_option linter.unusedVariables false
set_option linter.unusedSimpArgs false
section
namespace Go.Proofs.Ytldcoekbgfaomaa
open Go.RowKit
set_option maxRecDepth 20000
set_option maxHeartbeats 4000000
attribute [local irreducible] AOps AOpsD AW
/-- The leaves while they are brought up to date: those before i are done. -/
def updP (l : List (List Int)) (F : Nat) (row : List Int) (s c : Int) (i : Nat) : List Int := (List.range row.length).map fun j => if j < i then updV l F row s c j else row.getD j 0
theorem updP_length (l : List (List Int)) (F : Nat) (row : List Int) (s c : Int) (i : Nat) : (updP l F row s c i).length = row.length := by simp [updP]
theorem updV_no {l : List (List Int)} {F : Nat} {row : List Int} {s c : Int} {i : Nat} (h : ¬ (0 < c ∧ s < ((i * F + F : Nat) : Int) ∧ ((i * F : Nat) : Int) < s + c)) : updV l F row s c i = row.getD i 0 := if_neg h
theorem updV_yes {l : List (List Int)} {F : Nat} {row : List Int} {s c : Int} {i : Nat} (h : 0 < c ∧ s < ((i * F + F : Nat) : Int) ∧ ((i * F : Nat) : Int) < s + c) : updV l F row s c i = secsD (secAt l F i) := if_pos h
theorem map_getD (row : List Int) : (List.range row.length).map (fun j => row.getD j 0) = row := by
  apply List.ext_getElem?
  intro j
  by_cases hj : j < row.length
  · simp [hj]
  · rw [List.getElem?_eq_none (by simp; omega), List.getElem?_eq_none (by omega)]
theorem updP_start (l : List (List Int)) {F : Nat} (hF : 1 ≤ F) (row : List Int) (u v : Nat) : updP l F row u v (u / F) = row := by
  unfold updP
  conv => rhs; rw [← map_getD row]
  apply List.map_congr_left
  intro j _
  split
  · rename_i hj
    refine updV_no ?_
    have h1 : (j + 1) * F ≤ u := (Nat.le_div_iff_mul_le hF).1 hj
    rw [Nat.succ_mul] at h1
    omega
  · rfl
theorem updP_step (l : List (List Int)) {F : Nat} (hF : 1 ≤ F) (row : List Int) (u v i : Nat) (hi : i < row.length) (hv : 0 < v) (h1 : u / F ≤ i) (h2 : i ≤ (u + v - 1) / F) :
    (updP l F row u v i).set i (secsD (secAt l F i)) = updP l F row u v (i + 1) := by
  have q1 : u < (i + 1) * F := (Nat.div_lt_iff_lt_mul hF).1 (by omega)
  rw [Nat.succ_mul] at q1
  have q2 : i * F ≤ u + v - 1 := (Nat.le_div_iff_mul_le hF).1 h2
  apply List.ext_getElem?
  intro j
  rw [List.getElem?_set]
  simp only [updP,Zh,List.length_range]
  by_cases hij : i = j
  · subst hij
    rw [if_pos rfl, if_pos hi, List.getElem?_map, List.getElem?_range hi, Option.map_some, if_pos (by omega), updV_yes ⟨by omega, by omega, by omega⟩]
  · rw [if_neg hij]
    simp only [List.getElem?_map]
    cases hr : (List.range row.length)[j]? with
    | none => rfl
    | some k =>
      have hk : k = j := by
        have h3 := (List.getElem?_eq_some_iff.1 hr)
        obtain ⟨h4, h5⟩ := h3
        simpa using h5.symm
      subst hk
      simp only [Zg]
      by_cases h3 : k < i
      · rw [if_pos h3, if_pos (by omega)]
      · rw [if_neg h3, if_neg (by omega)]
theorem updP_end (l : List (List Int)) {F : Nat} (hF : 1 ≤ F) (row : List Int) (u v i : Nat) (h : ¬ (0 < v ∧ i ≤ (u + v - 1) / F)) : updP l F row u v i = updL l F row u v := by
  unfold updP updL
  apply List.map_congr_left
  intro j _
  split
  · rfl
  · rename_i hj
    refine (updV_no ?_).symm
    rintro ⟨q1, q2, q3⟩
    refine h ⟨by omega, ?_⟩
    have : j ≤ (u + v - 1) / F := (Nat.le_div_iff_mul_le hF).2 (by omega)
    omega
theorem quo_nat (u F : Nat) : (u : Int) / (F : Int) = ((u / F : Nat) : Int) := (Int.natCast_ediv u F).symm
theorem quo_pred (u v F : Nat) (h : 0 < v) : ((u : Int) + (v : Int) - 1) / (F : Int) = (((u + v - 1) / F : Nat) : Int) := by
  rw [show (u : Int) + (v : Int) - 1 = ((u + v - 1 : Nat) : Int) by omega]
  exact quo_nat _ _
theorem splice1 (l : List P1) (i : Nat) (x : P1) (h : i < l.length) : l.take i ++ [x] ++ l.drop (i + 1) = l.set i x := by
  rw [List.set_eq_take_append_cons_drop, if_pos h]
  simp
theorem c66e (l : List (List Int)) (n i K M : Nat) (hx : P1.sl K (((secCells l).drop M).take (K * 8)) = secs (secAt l n i)) : ACalls Try.prog 66 [.p (.sl K (((secCells l).drop M).take (K * 8)))] (.p (u64 (secsD (secAt l n i)))) := hx ▸ c66 (secAt l n i)
theorem c25 (t : Tr) (l : List (List Int)) (es ec : Int) : ACalls Try.prog 25 [trP t, .p (secs l), .agg [i64 es, i64 ec]] (.tup [trP (refUpd t l es ec).1, .p (i64 (refUpd t l es ec).2)]) := by
  obtain ⟨s, f, lv⟩ := t
  refine acalls_of tb_ok Try.func25 (c := _) rfl (by kernel_rfl) ?_
  intro X hP hX hro hpl
  have hb : tb.Ok X.P := hP ▸ tb_ok
  change AW X _ _ ⟨[], [.agg [i64 s, i64 f, lvls lv], .p (secs l), .agg [i64 es, i64 ec], .any, .any, .any, .any, .any, .any, .any, .any, .any, .any, .any, .any, .any, .any, .any, .any, .any, .any, .any, .any, .any, .any, .any, .any, .any, .any, .any, .any, .any, .any, .any, .any, .any, .any, .any, .any, .any, .any, .any, .any, .any, .any, .any, .any, .any, .any, .any, .any, .any, .any, .any, .any, .any, .any, .any, .any, .any, .any, .any, .any, .any, .any, .any, .any, .any, .any, .any, .any, .any, .any, .any, .any, .any, .any, .any, .any, .any, .any, .any, .any, .any, .any, .any, .any, .any, .any, .any, .any, .any, .any, .any, .any, .any, .any, .any, .any, .any, .any, .any, .any], [], []⟩
  refine aw_seq ?_
  refine aw_regK hX hb [0, 1, 2, 3] rfl (σ' := ?s1) (fun K hK => ?h1) ?n1
  case h1 =>
    iterate 4 (refine st_op rfl (by simp (disch := omega) only [stepf,callOf,qop,fop,St.ev,St.put,cd,zd,Value.oneCell',tb_T,TypeDesc.aggB,getD_0,getD_s,Ze,Zd,Zc,Za,Zb,Zr,ZE,ZF,Zf,Zq,Zg,i64_w,Zt,Zs,ZM,ZL,Zl,Zo,ZG,ZH,St.addBox,D.boxCells,D.live,Value.cells,t2,ti2,t3,ti3,t24,ti24,t26,ti26,t35,ti35,t58,ti58,t60,ti60,map_at_l,map_at_i,Zh,secCells_length,ZO,add_one_mul_cast,mul_cast,quo_w,quo_nat] <;> exact rfl) ?_)
    refine aops_nil ?_
    exact hK
  refine exq_n ?_
  refine aw_seq ?_
  refine aw_seq ?_
  refine aw_regK hX hb [0, 1, 2] rfl (σ' := ?s2) (fun K hK => ?h2) ?n2
  case h2 =>
    (refine st_op rfl (by simp (disch := omega) only [stepf,callOf,qop,fop,St.ev,St.put,cd,zd,Value.oneCell',tb_T,TypeDesc.aggB,getD_0,getD_s,Ze,Zd,Zc,Za,Zb,Zr,ZE,ZF,Zf,Zq,Zg,i64_w,Zt,Zs,Zl,Zo,Zv,Zw,Zj,Zk,Zx,Zy,qLoad,bload,pload,pureAll,D.pure?,ZC,ZD,pvAll,D.pv?,t3,ti3,t24,ti24,t26,ti26,t58,ti58,t60,ti60,map_at_l,map_at_i,Zh,secCells_length,ZO,add_one_mul_cast,mul_cast,quo_w,quo_nat] <;> exact rfl) ?_)
    refine st_call rfl (by simp only [callOf,St.ev,getD_0,getD_s,pvAll,D.pv?,ZG,ZH,zd,cd,Value.oneCell',Zr] <;> exact rfl) (acK hP (c31 ⟨s, f, lv⟩)) (by simp only [St.put,Za,Zb] <;> exact rfl) ?_
    (refine st_op rfl (by simp (disch := omega) only [stepf,callOf,qop,fop,St.ev,St.put,cd,zd,Value.oneCell',tb_T,TypeDesc.aggB,getD_0,getD_s,Ze,Zd,Zc,Za,Zb,Zr,ZE,ZF,Zf,Zq,Zg,i64_w,Zt,Zs,Zl,Zo,Zv,Zw,Zj,Zk,Zx,Zy,qLoad,bload,pload,pureAll,D.pure?,ZC,ZD,pvAll,D.pv?,t3,ti3,t24,ti24,t26,ti26,t58,ti58,t60,ti60,map_at_l,map_at_i,Zh,secCells_length,ZO,add_one_mul_cast,mul_cast,quo_w,quo_nat] <;> exact rfl) ?_)
    refine aops_nil ?_
    exact hK
  refine exq_n ?_
  refine aw_seq ?_
  refine aw_regK hX hb [0, 1] rfl (σ' := ?s3) (fun K hK => ?h3) ?n3
  case h3 =>
    iterate 2 (refine st_op rfl (by simp (disch := omega) only [stepf,callOf,qop,fop,St.ev,St.put,cd,zd,Value.oneCell',tb_T,TypeDesc.aggB,getD_0,getD_s,Ze,Zd,Zc,Za,Zb,Zr,ZE,ZF,Zf,Zq,Zg,i64_w,Zt,Zs,qBin,iop,t27,ti27,map_at_l,map_at_i,Zh,secCells_length,ZO,add_one_mul_cast,mul_cast,quo_w,quo_nat] <;> exact rfl) ?_)
    refine aops_nil ?_
    exact hK
  refine exq_n ?_
  refine aw_cond _ rfl (fun hc0 => ?_) (fun hc0 => ?_)
  · try simp only [Zp,Zi,ZK,ZJ,ne_eq,Zn,Zm,ZB,ZA,ZI,not_or,not_and,Zu] at hc0
    refine aw_seq ?_
    refine aw_regK hX hb [0, 1, 2, 3] rfl (σ' := ?s4) (fun K hK => ?h4) ?n4
    case h4 =>
      iterate 4 (refine st_op rfl (by simp (disch := omega) only [stepf,callOf,qop,fop,St.ev,St.put,cd,zd,Value.oneCell',tb_T,TypeDesc.aggB,getD_0,getD_s,Ze,Zd,Zc,Za,Zb,Zr,ZE,ZF,Zf,Zq,Zg,i64_w,Zt,Zs,tb_W,tbO_W,qBuild,qBuildD,D.cell1,range_1,range_2,range_3,range_4,range_5,List.all_cons,List.all_nil,bfill,TI.place,TI.zeros,TI.kindOk,D.cells?,D.pure?,zp,Value.cells,ZQ,ZP,Zl,Zo,fStore,D.boxCells,D.live,Zv,Zw,Zj,Zk,Zx,Zy,ZM,ZL,ZN,ZG,ZH,St.setVec,ZC,t3,ti3,t24,ti24,t26,ti26,t58,ti58,t60,ti60,map_at_l,map_at_i,Zh,secCells_length,ZO,add_one_mul_cast,mul_cast,quo_w,quo_nat] <;> exact rfl) ?_)
      refine aops_nil ?_
      exact hK
    refine exq_n ?_
    refine aw_ret ?_
    refine exq_r ?_
    exact ret_r rfl (resOf_two (by simp only [resVal,qLoad,bload,tb_T,TypeDesc.aggB,pureAll,D.pure?,D.pv?,getD_0,getD_s,Zd,Zc,Zw,Zk,Zv,Zj,Zx,Zl,Zo,Zr,reduceIte,Nat.reduceAdd,Nat.reduceLeDiff,Zg,Zf,t3,ti3,t24,ti24,t26,ti26,t58,ti58,t60,ti60] <;> exact rfl) rfl (by first | rfl | (first | (rw [refUpd_e hc0]; rfl) | (rw [refUpd_6 hc0 (show (l.length : Int) ≠ (S : Int) by omega)]; rfl) | (rw [refUpd_2 hc0 (show (l.length : Int) = (S : Int) by omega) hc2]; rfl) | (rw [refUpd_0 hc0 (show (l.length : Int) = (S : Int) by omega) (by dsimp only; omega), updP_end l q3 _ u v i (not_and.2 hc3)]; rfl))))
  · try simp only [Zp,Zi,ZK,ZJ,ne_eq,Zn,Zm,ZB,ZA,ZI,not_or,not_and,Zu] at hc0
    obtain ⟨S, F, hS, hF, q1, q2, q3, q4, q5, q6⟩ := refChk_ok hc0
    dsimp only at hS hF q5 q6
    subst hS
    subst hF
    have hhd := sh_head q5
    have hnl := nLeaves_le (s := S) (n := F) q3
    refine aw_skip ?_
    refine exq_n ?_
    refine aw_seq ?_
    refine aw_block ?_
    refine aw_seq ?_
    refine aw_regK hX hb [0, 1, 2, 3, 4, 5] rfl (σ' := ?s5) (fun K hK => ?h5) ?n5
    case h5 =>
      iterate 6 (refine st_op rfl (by simp (disch := omega) only [stepf,callOf,qop,fop,St.ev,St.put,cd,zd,Value.oneCell',tb_T,TypeDesc.aggB,getD_0,getD_s,Ze,Zd,Zc,Za,Zb,Zr,ZE,ZF,Zf,Zq,Zg,i64_w,Zt,Zs,qLen,qFieldAddr,fieldOf,Zl,Zo,Zv,Zw,Zj,Zk,Zx,Zy,qLoad,bload,pload,pureAll,D.pure?,ZC,ZD,qBin,iop,t1,ti1,t3,ti3,t5,ti5,t22,ti22,t24,ti24,t26,ti26,t50,ti50,t58,ti58,t60,ti60,map_at_l,map_at_i,Zh,secCells_length,ZO,add_one_mul_cast,mul_cast,quo_w,quo_nat] <;> exact rfl) ?_)
      refine aops_nil ?_
      exact hK
    refine exq_n ?_
    refine aw_cond _ rfl (fun hc1 => ?_) (fun hc1 => ?_)
    · try simp only [Zp,Zi,ZK,ZJ,ne_eq,Zn,Zm,ZB,ZA,ZI,not_or,not_and,Zu] at hc1
      refine aw_seq ?_
      refine aw_regK hX hb [0, 1, 2] rfl (σ' := ?s6) (fun K hK => ?h6) ?n6
      case h6 =>
        iterate 3 (refine st_op rfl (by simp (disch := omega) only [stepf,callOf,qop,fop,St.ev,St.put,cd,zd,Value.oneCell',tb_T,TypeDesc.aggB,getD_0,getD_s,Ze,Zd,Zc,Za,Zb,Zr,ZE,ZF,Zf,Zq,Zg,i64_w,Zt,Zs,tb_W,tbO_W,qBuild,qBuildD,D.cell1,range_1,range_2,range_3,range_4,range_5,List.all_cons,List.all_nil,bfill,TI.place,TI.zeros,TI.kindOk,D.cells?,D.pure?,zp,Value.cells,ZQ,ZP,Zl,Zo,fStore,D.boxCells,D.live,Zv,Zw,Zj,Zk,Zx,Zy,ZM,ZL,ZN,ZG,ZH,St.setVec,ZC,t3,ti3,t24,ti24,t26,ti26,t58,ti58,t60,ti60,map_at_l,map_at_i,Zh,secCells_length,ZO,add_one_mul_cast,mul_cast,quo_w,quo_nat] <;> exact rfl) ?_)
        refine aops_nil ?_
        exact hK
      refine exq_n ?_
      refine aw_ret ?_
      refine exb_r ?_
      refine exq_r ?_
      exact ret_r rfl (resOf_two (by simp only [resVal,qLoad,bload,tb_T,TypeDesc.aggB,pureAll,D.pure?,D.pv?,getD_0,getD_s,Zd,Zc,Zw,Zk,Zv,Zj,Zx,Zl,Zo,Zr,reduceIte,Nat.reduceAdd,Nat.reduceLeDiff,Zg,Zf,t3,ti3,t24,ti24,t26,ti26,t58,ti58,t60,ti60] <;> exact rfl) rfl (by first | rfl | (first | (rw [refUpd_e hc0]; rfl) | (rw [refUpd_6 hc0 (show (l.length : Int) ≠ (S : Int) by omega)]; rfl) | (rw [refUpd_2 hc0 (show (l.length : Int) = (S : Int) by omega) hc2]; rfl) | (rw [refUpd_0 hc0 (show (l.length : Int) = (S : Int) by omega) (by dsimp only; omega), updP_end l q3 _ u v i (not_and.2 hc3)]; rfl))))
    · try simp only [Zp,Zi,ZK,ZJ,ne_eq,Zn,Zm,ZB,ZA,ZI,not_or,not_and,Zu] at hc1
      refine aw_seq ?_
      refine aw_regJ hX hb [0, 1, 2, 3, 4, 5, 6, 7, 8, 9, 10, 11, 12, 13, 14, 15, 16, 17, 18, 19, 20, 21, 22, 23, 24, 25] rfl (ts := [25, 26, 27, 28, 29, 30, 31, 32, 33, 34, 35, 36, 37, 38, 39, 40, 41, 42, 43, 44, 45, 46, 47, 48, 49]) (t := 24) (d := .p (bv (es < 0 ∨ ec < 0 ∨ (S : Int) < es ∨ (S : Int) - es < ec))) (σ' := ?s7) ?j7 ?h7 ?n7
      case j7 => simp only [St.join,List.foldl,Za,Zb]; exact rfl
      case h7 =>
        iterate 4 (all_goals refine st_op rfl (by simp (disch := omega) only [stepf,callOf,qop,fop,St.ev,St.put,cd,zd,Value.oneCell',tb_T,TypeDesc.aggB,getD_0,getD_s,Ze,Zd,Zc,Za,Zb,Zr,ZE,ZF,Zf,Zq,Zg,i64_w,Zt,Zs,qFieldAddr,fieldOf,Zl,Zo,Zv,Zw,Zj,Zk,Zx,Zy,qLoad,bload,pload,pureAll,D.pure?,ZC,ZD,qBin,iop,t1,ti1,t3,ti3,t5,ti5,t22,ti22,t24,ti24,t26,ti26,t27,ti27,t35,ti35,t40,ti40,t47,ti47,t50,ti50,t58,ti58,t60,ti60,map_at_l,map_at_i,Zh,secCells_length,ZO,add_one_mul_cast,mul_cast,quo_w,quo_nat] <;> exact rfl) ?_)
        iterate 3 (all_goals first | (refine st_g1 rfl rfl rfl (by simp (disch := omega) only [stepf,callOf,qop,fop,St.ev,St.put,cd,zd,Value.oneCell',tb_T,TypeDesc.aggB,getD_0,getD_s,Ze,Zd,Zc,Za,Zb,Zr,ZE,ZF,Zf,Zq,Zg,i64_w,Zt,Zs,qFieldAddr,fieldOf,Zl,Zo,Zv,Zw,Zj,Zk,Zx,Zy,qLoad,bload,pload,pureAll,D.pure?,ZC,ZD,qBin,iop,t1,ti1,t3,ti3,t5,ti5,t22,ti22,t24,ti24,t26,ti26,t27,ti27,t35,ti35,t40,ti40,t47,ti47,t50,ti50,t58,ti58,t60,ti60,map_at_l,map_at_i,Zh,secCells_length,ZO,add_one_mul_cast,mul_cast,quo_w,quo_nat] <;> exact rfl) ?_) | (first | (refine st_g0 rfl rfl rfl (by simp only [St.put,Za,Zb] <;> exact rfl) ?_) | (refine st_gu rfl rfl rfl (by simp only [St.put,Za,Zb] <;> exact rfl) ?_)) | (refine st_split rfl rfl rfl (by simp only [Za,Zb] <;> exact rfl) (by simp only [Za,Zb] <;> exact rfl) (fun hg => ?_) (fun hg => ?_) <;> (try simp only [Zp,Zi,ZJ,ZK,ne_eq,Zn,Zm,Bool.not_eq_true,Zu] at hg) <;> first | (refine st_g1 rfl rfl rfl (by simp (disch := omega) only [stepf,callOf,qop,fop,St.ev,St.put,cd,zd,Value.oneCell',tb_T,TypeDesc.aggB,getD_0,getD_s,Ze,Zd,Zc,Za,Zb,Zr,ZE,ZF,Zf,Zq,Zg,i64_w,Zt,Zs,qFieldAddr,fieldOf,Zl,Zo,Zv,Zw,Zj,Zk,Zx,Zy,qLoad,bload,pload,pureAll,D.pure?,ZC,ZD,qBin,iop,t1,ti1,t3,ti3,t5,ti5,t22,ti22,t24,ti24,t26,ti26,t27,ti27,t35,ti35,t40,ti40,t47,ti47,t50,ti50,t58,ti58,t60,ti60,map_at_l,map_at_i,Zh,secCells_length,ZO,add_one_mul_cast,mul_cast,quo_w,quo_nat] <;> exact rfl) ?_) | (first | (refine st_g0 rfl rfl rfl (by simp only [St.put,Za,Zb] <;> exact rfl) ?_) | (refine st_gu rfl rfl rfl (by simp only [St.put,Za,Zb] <;> exact rfl) ?_))))
        iterate 2 (all_goals refine st_op rfl (by simp (disch := omega) only [stepf,callOf,qop,fop,St.ev,St.put,cd,zd,Value.oneCell',tb_T,TypeDesc.aggB,getD_0,getD_s,Ze,Zd,Zc,Za,Zb,Zr,ZE,ZF,Zf,Zq,Zg,i64_w,Zt,Zs,qFieldAddr,fieldOf,Zl,Zo,Zv,Zw,Zj,Zk,Zx,Zy,qLoad,bload,pload,pureAll,D.pure?,ZC,ZD,qBin,iop,t1,ti1,t3,ti3,t5,ti5,t22,ti22,t24,ti24,t26,ti26,t27,ti27,t35,ti35,t40,ti40,t47,ti47,t50,ti50,t58,ti58,t60,ti60,map_at_l,map_at_i,Zh,secCells_length,ZO,add_one_mul_cast,mul_cast,quo_w,quo_nat] <;> exact rfl) ?_)
        iterate 5 (all_goals first | (refine st_g1 rfl rfl rfl (by simp (disch := omega) only [stepf,callOf,qop,fop,St.ev,St.put,cd,zd,Value.oneCell',tb_T,TypeDesc.aggB,getD_0,getD_s,Ze,Zd,Zc,Za,Zb,Zr,ZE,ZF,Zf,Zq,Zg,i64_w,Zt,Zs,qFieldAddr,fieldOf,Zl,Zo,Zv,Zw,Zj,Zk,Zx,Zy,qLoad,bload,pload,pureAll,D.pure?,ZC,ZD,qBin,iop,t1,ti1,t3,ti3,t5,ti5,t22,ti22,t24,ti24,t26,ti26,t27,ti27,t35,ti35,t40,ti40,t47,ti47,t50,ti50,t58,ti58,t60,ti60,map_at_l,map_at_i,Zh,secCells_length,ZO,add_one_mul_cast,mul_cast,quo_w,quo_nat] <;> exact rfl) ?_) | (first | (refine st_g0 rfl rfl rfl (by simp only [St.put,Za,Zb] <;> exact rfl) ?_) | (refine st_gu rfl rfl rfl (by simp only [St.put,Za,Zb] <;> exact rfl) ?_)) | (refine st_split rfl rfl rfl (by simp only [Za,Zb] <;> exact rfl) (by simp only [Za,Zb] <;> exact rfl) (fun hg => ?_) (fun hg => ?_) <;> (try simp only [Zp,Zi,ZJ,ZK,ne_eq,Zn,Zm,Bool.not_eq_true,Zu] at hg) <;> first | (refine st_g1 rfl rfl rfl (by simp (disch := omega) only [stepf,callOf,qop,fop,St.ev,St.put,cd,zd,Value.oneCell',tb_T,TypeDesc.aggB,getD_0,getD_s,Ze,Zd,Zc,Za,Zb,Zr,ZE,ZF,Zf,Zq,Zg,i64_w,Zt,Zs,qFieldAddr,fieldOf,Zl,Zo,Zv,Zw,Zj,Zk,Zx,Zy,qLoad,bload,pload,pureAll,D.pure?,ZC,ZD,qBin,iop,t1,ti1,t3,ti3,t5,ti5,t22,ti22,t24,ti24,t26,ti26,t27,ti27,t35,ti35,t40,ti40,t47,ti47,t50,ti50,t58,ti58,t60,ti60,map_at_l,map_at_i,Zh,secCells_length,ZO,add_one_mul_cast,mul_cast,quo_w,quo_nat] <;> exact rfl) ?_) | (first | (refine st_g0 rfl rfl rfl (by simp only [St.put,Za,Zb] <;> exact rfl) ?_) | (refine st_gu rfl rfl rfl (by simp only [St.put,Za,Zb] <;> exact rfl) ?_))))
        iterate 2 (all_goals refine st_op rfl (by simp (disch := omega) only [stepf,callOf,qop,fop,St.ev,St.put,cd,zd,Value.oneCell',tb_T,TypeDesc.aggB,getD_0,getD_s,Ze,Zd,Zc,Za,Zb,Zr,ZE,ZF,Zf,Zq,Zg,i64_w,Zt,Zs,qFieldAddr,fieldOf,Zl,Zo,Zv,Zw,Zj,Zk,Zx,Zy,qLoad,bload,pload,pureAll,D.pure?,ZC,ZD,qBin,iop,t1,ti1,t3,ti3,t5,ti5,t22,ti22,t24,ti24,t26,ti26,t27,ti27,t35,ti35,t40,ti40,t47,ti47,t50,ti50,t58,ti58,t60,ti60,map_at_l,map_at_i,Zh,secCells_length,ZO,add_one_mul_cast,mul_cast,quo_w,quo_nat] <;> exact rfl) ?_)
        iterate 8 (all_goals first | (refine st_g1 rfl rfl rfl (by simp (disch := omega) only [stepf,callOf,qop,fop,St.ev,St.put,cd,zd,Value.oneCell',tb_T,TypeDesc.aggB,getD_0,getD_s,Ze,Zd,Zc,Za,Zb,Zr,ZE,ZF,Zf,Zq,Zg,i64_w,Zt,Zs,qFieldAddr,fieldOf,Zl,Zo,Zv,Zw,Zj,Zk,Zx,Zy,qLoad,bload,pload,pureAll,D.pure?,ZC,ZD,qBin,iop,t1,ti1,t3,ti3,t5,ti5,t22,ti22,t24,ti24,t26,ti26,t27,ti27,t35,ti35,t40,ti40,t47,ti47,t50,ti50,t58,ti58,t60,ti60,map_at_l,map_at_i,Zh,secCells_length,ZO,add_one_mul_cast,mul_cast,quo_w,quo_nat] <;> exact rfl) ?_) | (first | (refine st_g0 rfl rfl rfl (by simp only [St.put,Za,Zb] <;> exact rfl) ?_) | (refine st_gu rfl rfl rfl (by simp only [St.put,Za,Zb] <;> exact rfl) ?_)) | (refine st_split rfl rfl rfl (by simp only [Za,Zb] <;> exact rfl) (by simp only [Za,Zb] <;> exact rfl) (fun hg => ?_) (fun hg => ?_) <;> (try simp only [Zp,Zi,ZJ,ZK,ne_eq,Zn,Zm,Bool.not_eq_true,Zu] at hg) <;> first | (refine st_g1 rfl rfl rfl (by simp (disch := omega) only [stepf,callOf,qop,fop,St.ev,St.put,cd,zd,Value.oneCell',tb_T,TypeDesc.aggB,getD_0,getD_s,Ze,Zd,Zc,Za,Zb,Zr,ZE,ZF,Zf,Zq,Zg,i64_w,Zt,Zs,qFieldAddr,fieldOf,Zl,Zo,Zv,Zw,Zj,Zk,Zx,Zy,qLoad,bload,pload,pureAll,D.pure?,ZC,ZD,qBin,iop,t1,ti1,t3,ti3,t5,ti5,t22,ti22,t24,ti24,t26,ti26,t27,ti27,t35,ti35,t40,ti40,t47,ti47,t50,ti50,t58,ti58,t60,ti60,map_at_l,map_at_i,Zh,secCells_length,ZO,add_one_mul_cast,mul_cast,quo_w,quo_nat] <;> exact rfl) ?_) | (first | (refine st_g0 rfl rfl rfl (by simp only [St.put,Za,Zb] <;> exact rfl) ?_) | (refine st_gu rfl rfl rfl (by simp only [St.put,Za,Zb] <;> exact rfl) ?_))))
        iterate 2 (all_goals refine st_op rfl (by simp (disch := omega) only [stepf,callOf,qop,fop,St.ev,St.put,cd,zd,Value.oneCell',tb_T,TypeDesc.aggB,getD_0,getD_s,Ze,Zd,Zc,Za,Zb,Zr,ZE,ZF,Zf,Zq,Zg,i64_w,Zt,Zs,qFieldAddr,fieldOf,Zl,Zo,Zv,Zw,Zj,Zk,Zx,Zy,qLoad,bload,pload,pureAll,D.pure?,ZC,ZD,qBin,iop,t1,ti1,t3,ti3,t5,ti5,t22,ti22,t24,ti24,t26,ti26,t27,ti27,t35,ti35,t40,ti40,t47,ti47,t50,ti50,t58,ti58,t60,ti60,map_at_l,map_at_i,Zh,secCells_length,ZO,add_one_mul_cast,mul_cast,quo_w,quo_nat] <;> exact rfl) ?_)
        all_goals refine aops_nil ?_
        all_goals refine ⟨rfl, ?_, leB_self _, leV_self _, rfl, rfl⟩
        all_goals repeat' (first | exact leL_nil | refine leL_a ?_ | refine leL_r rfl ?_ | refine leL_r ?_ ?_)
        all_goals refine jn ?_
        all_goals ((try simp only [Zp,Zi,ZJ,ZK,Bool.not_eq_true,Zm,Zn,ne_eq,Zf,true_iff,false_iff,iff_true,iff_false] at *) <;> omega)
      refine exq_n ?_
      refine aw_cond _ rfl (fun hc2 => ?_) (fun hc2 => ?_)
      · try simp only [Zp,Zi,ZK,ZJ,ne_eq,Zn,Zm,ZB,ZA,ZI,not_or,not_and,Zu] at hc2
        refine aw_seq ?_
        refine aw_regK hX hb [0, 1, 2] rfl (σ' := ?s8) (fun K hK => ?h8) ?n8
        case h8 =>
          iterate 3 (refine st_op rfl (by simp (disch := omega) only [stepf,callOf,qop,fop,St.ev,St.put,cd,zd,Value.oneCell',tb_T,TypeDesc.aggB,getD_0,getD_s,Ze,Zd,Zc,Za,Zb,Zr,ZE,ZF,Zf,Zq,Zg,i64_w,Zt,Zs,tb_W,tbO_W,qBuild,qBuildD,D.cell1,range_1,range_2,range_3,range_4,range_5,List.all_cons,List.all_nil,bfill,TI.place,TI.zeros,TI.kindOk,D.cells?,D.pure?,zp,Value.cells,ZQ,ZP,Zl,Zo,fStore,D.boxCells,D.live,Zv,Zw,Zj,Zk,Zx,Zy,ZM,ZL,ZN,ZG,ZH,St.setVec,ZC,t2,ti2,t3,ti3,t5,ti5,t24,ti24,t26,ti26,t50,ti50,t58,ti58,t60,ti60,map_at_l,map_at_i,Zh,secCells_length,ZO,add_one_mul_cast,mul_cast,quo_w,quo_nat] <;> exact rfl) ?_)
          refine aops_nil ?_
          exact hK
        refine exq_n ?_
        refine aw_ret ?_
        refine exb_r ?_
        refine exq_r ?_
        exact ret_r rfl (resOf_two (by simp only [resVal,qLoad,bload,tb_T,TypeDesc.aggB,pureAll,D.pure?,D.pv?,getD_0,getD_s,Zd,Zc,Zw,Zk,Zv,Zj,Zx,Zl,Zo,Zr,reduceIte,Nat.reduceAdd,Nat.reduceLeDiff,Zg,Zf,t3,ti3,t24,ti24,t26,ti26,t58,ti58,t60,ti60] <;> exact rfl) rfl (by first | rfl | (first | (rw [refUpd_e hc0]; rfl) | (rw [refUpd_6 hc0 (show (l.length : Int) ≠ (S : Int) by omega)]; rfl) | (rw [refUpd_2 hc0 (show (l.length : Int) = (S : Int) by omega) hc2]; rfl) | (rw [refUpd_0 hc0 (show (l.length : Int) = (S : Int) by omega) (by dsimp only; omega), updP_end l q3 _ u v i (not_and.2 hc3)]; rfl))))
      · try simp only [Zp,Zi,ZK,ZJ,ne_eq,Zn,Zm,ZB,ZA,ZI,not_or,not_and,Zu] at hc2
        obtain ⟨u, hu⟩ : ∃ u : Nat, es = u := ⟨es.toNat, by omega⟩
        subst hu
        obtain ⟨v, hv⟩ : ∃ v : Nat, ec = v := ⟨ec.toNat, by omega⟩
        subst hv
        have hqu : u / F ≤ u := Nat.div_le_self u F
        refine aw_skip ?_
        refine exb_n ?_
        refine exq_n ?_
        refine aw_seq ?_
        refine aw_regK hX hb [0, 1, 2, 3, 4, 5] rfl (σ' := ?s9) (fun K hK => ?h9) ?n9
        case h9 =>
          iterate 4 (refine st_op rfl (by simp (disch := omega) only [stepf,callOf,qop,fop,St.ev,St.put,cd,zd,Value.oneCell',tb_T,TypeDesc.aggB,getD_0,getD_s,Ze,Zd,Zc,Za,Zb,Zr,ZE,ZF,Zf,Zq,Zg,i64_w,Zt,Zs,qFieldAddr,fieldOf,Zl,Zo,Zv,Zw,Zj,Zk,Zx,Zy,qLoad,bload,pload,pureAll,D.pure?,ZC,ZD,Int.toNat_zero,Int.toNat_one,toNat_pred,toNat_succ,qIndexAddr,ZO,Nat.mul_one,Nat.zero_mul,Zh,pvAll,D.pv?,t2,ti2,t3,ti3,t4,ti4,t24,ti24,t26,ti26,t54,ti54,t58,ti58,t60,ti60,map_at_l,map_at_i,secCells_length,add_one_mul_cast,mul_cast,quo_w,quo_nat] <;> exact rfl) ?_)
          refine st_callO rfl (by simp only [callOf,St.ev,getD_0,getD_s,pvAll,D.pv?,ZG,ZH,zd,cd,Value.oneCell',Zr] <;> exact rfl) (acKO hP (o72 _ (by omega))) (by simp only [St.addVec,St.put,ZL,ZM,Zl,Zo,Za,Zb] <;> exact rfl) ?_
          (refine st_op rfl (by simp (disch := omega) only [stepf,callOf,qop,fop,St.ev,St.put,cd,zd,Value.oneCell',tb_T,TypeDesc.aggB,getD_0,getD_s,Ze,Zd,Zc,Za,Zb,Zr,ZE,ZF,Zf,Zq,Zg,i64_w,Zt,Zs,qFieldAddr,fieldOf,Zl,Zo,Zv,Zw,Zj,Zk,Zx,Zy,qLoad,bload,pload,pureAll,D.pure?,ZC,ZD,Int.toNat_zero,Int.toNat_one,toNat_pred,toNat_succ,qIndexAddr,ZO,Nat.mul_one,Nat.zero_mul,Zh,pvAll,D.pv?,t2,ti2,t3,ti3,t4,ti4,t24,ti24,t26,ti26,t54,ti54,t58,ti58,t60,ti60,map_at_l,map_at_i,secCells_length,add_one_mul_cast,mul_cast,quo_w,quo_nat] <;> exact rfl) ?_)
          refine aops_nil ?_
          exact hK
        refine exq_n ?_
        refine aw_seq ?_
        refine aw_seq ?_
        refine aw_regK hX hb [0, 1, 2, 3, 4, 5] rfl (σ' := ?s10) (fun K hK => ?h10) ?n10
        case h10 =>
          iterate 6 (refine st_op rfl (by simp (disch := omega) only [stepf,callOf,qop,fop,St.ev,St.put,cd,zd,Value.oneCell',tb_T,TypeDesc.aggB,getD_0,getD_s,Ze,Zd,Zc,Za,Zb,Zr,ZE,ZF,Zf,Zq,Zg,i64_w,Zt,Zs,qFieldAddr,fieldOf,Zl,Zo,Zv,Zw,Zj,Zk,Zx,Zy,qLoad,bload,pload,pureAll,D.pure?,ZC,ZD,qBin,iop,t1,ti1,t3,ti3,t5,ti5,t24,ti24,t26,ti26,t35,ti35,t58,ti58,t60,ti60,map_at_l,map_at_i,Zh,secCells_length,ZO,add_one_mul_cast,mul_cast,quo_w,quo_nat] <;> exact rfl) ?_)
          refine aops_nil ?_
          exact hK
        refine exq_n ?_
        refine aw_block ?_
        refine aw_loop (ι := Nat) (fun i => u / F ≤ i ∧ i ≤ 4097) (fun i => ⟨[], [.any, .p (secs l), .any, .ptr 0 0, .any, .ptr 1 0, .ptr 2 0, .p (i64 0), .any, .vref 0, .p (i64 (i : Int)), .any, .any, .any, .any, .any, .any, .any, .any, .any, .any, .any, .any, .any, .any, .any, .any, .any, .any, .any, .any, .any, .any, .any, .any, .any, .any, .any, .any, .any, .any, .any, .any, .any, .any, .any, .any, .any, .any, .any, .any, .any, .any, .any, .any, .any, .any, .any, .any, .any, .any, .any, .any, .any, .any, .any, .any, .any, .any, .any, .any, .any, .any, .any, .any, .any, .any, .any, .any, .any, .any, .any, .any, .any, .any, .any, .any, .any, .any, .any, .any, .any, .any, .any, .any, .any, .any, .any, .any, .any, .any, .any, .any], [⟨26, [.p (i64 (S : Int)), .p (i64 (F : Int)), .p (lvls lv)]⟩, ⟨35, [.p (i64 (u : Int)), .p (i64 (v : Int))]⟩, ⟨26, [.p (i64 0), .p (i64 0), .nil]⟩], [some ⟨58, 1, (updP l F (lv.getD 0 []) u v i).length, (updP l F (lv.getD 0 []) u v i).map u64⟩]⟩) (fun i => 4098 - i) (u / F) (by exact ⟨Nat.le_refl _, by omega⟩) (wk_le ⟨rfl, leL_a (leL_r (by first | rfl | (first | (rw [updP_start l q3]) | (rw [← updP_step l q3 _ u v i (by omega) hc3.1 hui hc3.2]; simp [List.map_set]))) (leL_a (leL_r (by first | rfl | (first | (rw [updP_start l q3]) | (rw [← updP_step l q3 _ u v i (by omega) hc3.1 hui hc3.2]; simp [List.map_set]))) (leL_a (leL_r (by first | rfl | (first | (rw [updP_start l q3]) | (rw [← updP_step l q3 _ u v i (by omega) hc3.1 hui hc3.2]; simp [List.map_set]))) (leL_r (by first | rfl | (first | (rw [updP_start l q3]) | (rw [← updP_step l q3 _ u v i (by omega) hc3.1 hui hc3.2]; simp [List.map_set]))) (leL_r (by first | rfl | (first | (rw [updP_start l q3]) | (rw [← updP_step l q3 _ u v i (by omega) hc3.1 hui hc3.2]; simp [List.map_set]))) (leL_a (leL_r (by first | rfl | (first | (rw [updP_start l q3]) | (rw [← updP_step l q3 _ u v i (by omega) hc3.1 hui hc3.2]; simp [List.map_set]))) (leL_r (by first | rfl | (first | (rw [updP_start l q3]) | (rw [← updP_step l q3 _ u v i (by omega) hc3.1 hui hc3.2]; simp [List.map_set]))) (leL_a (leL_a (leL_a (leL_a (leL_a (leL_a (leL_a (leL_a (leL_a (leL_a (leL_a (leL_a (leL_a (leL_a (leL_a (leL_a (leL_a (leL_a (leL_a (leL_a (leL_a (leL_a (leL_a (leL_a (leL_a (leL_a (leL_a (leL_a (leL_a (leL_a (leL_a (leL_a (leL_a (leL_a (leL_a (leL_a (leL_a (leL_a (leL_a (leL_a (leL_a (leL_a (leL_a (leL_a (leL_a (leL_a (leL_a (leL_a (leL_a (leL_a (leL_a (leL_a (leL_a (leL_a (leL_a (leL_a (leL_a (leL_a (leL_a (leL_a (leL_a (leL_a (leL_a (leL_a (leL_a (leL_a (leL_a (leL_a (leL_a (leL_a (leL_a (leL_a (leL_a (leL_a (leL_a (leL_a (leL_a (leL_a (leL_a (leL_a (leL_a (leL_a (leL_a (leL_a (leL_a (leL_a (leL_a (leL_a (leL_a (leL_a (leL_a (leL_a (leL_nil))))))))))))))))))))))))))))))))))))))))))))))))))))))))))))))))))))))))))))))))))))))))))))))))))))))), (leB_r rfl (leL_r (by first | rfl | (first | (rw [updP_start l q3]) | (rw [← updP_step l q3 _ u v i (by omega) hc3.1 hui hc3.2]; simp [List.map_set]))) (leL_r (by first | rfl | (first | (rw [updP_start l q3]) | (rw [← updP_step l q3 _ u v i (by omega) hc3.1 hui hc3.2]; simp [List.map_set]))) (leL_r (by first | rfl | (first | (rw [updP_start l q3]) | (rw [← updP_step l q3 _ u v i (by omega) hc3.1 hui hc3.2]; simp [List.map_set]))) (leL_nil)))) (leB_r rfl (leL_r (by first | rfl | (first | (rw [updP_start l q3]) | (rw [← updP_step l q3 _ u v i (by omega) hc3.1 hui hc3.2]; simp [List.map_set]))) (leL_r (by first | rfl | (first | (rw [updP_start l q3]) | (rw [← updP_step l q3 _ u v i (by omega) hc3.1 hui hc3.2]; simp [List.map_set]))) (leL_nil))) (leB_r rfl (leL_r (by first | rfl | (first | (rw [updP_start l q3]) | (rw [← updP_step l q3 _ u v i (by omega) hc3.1 hui hc3.2]; simp [List.map_set]))) (leL_r (by first | rfl | (first | (rw [updP_start l q3]) | (rw [← updP_step l q3 _ u v i (by omega) hc3.1 hui hc3.2]; simp [List.map_set]))) (leL_r (by first | rfl | (first | (rw [updP_start l q3]) | (rw [← updP_step l q3 _ u v i (by omega) hc3.1 hui hc3.2]; simp [List.map_set]))) (leL_nil)))) (leB_nil _)))), (leV_r (by first | rfl | (first | (rw [updP_start l q3]) | (rw [← updP_step l q3 _ u v i (by omega) hc3.1 hui hc3.2]; simp [List.map_set]))) (leV_nil _)), rfl, rfl⟩) ?_
        rintro i ⟨hui, hi⟩
        have hlr := updP_length l F (lv.getD 0 []) u v i
        refine aw_seq ?_
        refine aw_seq ?_
        refine aw_regJ hX hb [0, 1, 2, 3, 4, 5, 6, 7, 8, 9, 10, 11, 12, 13, 14, 15] rfl (ts := [61, 62, 63, 64, 65, 66, 67, 68, 69, 70, 71, 72, 73, 74, 75]) (t := 76) (d := .p (bv (0 < v ∧ i ≤ (u + v - 1) / F))) (σ' := ?s11) ?j11 ?h11 ?n11
        case j11 => simp only [St.join,List.foldl,Za,Zb]; exact rfl
        case h11 =>
          iterate 4 (all_goals refine st_op rfl (by simp (disch := omega) only [stepf,callOf,qop,fop,St.ev,St.put,cd,zd,Value.oneCell',tb_T,TypeDesc.aggB,getD_0,getD_s,Ze,Zd,Zc,Za,Zb,Zr,ZE,ZF,Zf,Zq,Zg,i64_w,Zt,Zs,qFieldAddr,fieldOf,Zl,Zo,Zv,Zw,Zj,Zk,Zx,Zy,qLoad,bload,pload,pureAll,D.pure?,ZC,ZD,qBin,iop,t1,ti1,t3,ti3,t4,ti4,t5,ti5,t22,ti22,t24,ti24,t26,ti26,t35,ti35,t40,ti40,t50,ti50,t58,ti58,t60,ti60,t63,ti63,t69,ti69,t71,ti71,t75,ti75,map_at_l,map_at_i,Zh,secCells_length,ZO,add_one_mul_cast,mul_cast,quo_w,quo_nat,quo_pred] <;> exact rfl) ?_)
          iterate 11 (all_goals first | (refine st_g1 rfl rfl rfl (by simp (disch := omega) only [stepf,callOf,qop,fop,St.ev,St.put,cd,zd,Value.oneCell',tb_T,TypeDesc.aggB,getD_0,getD_s,Ze,Zd,Zc,Za,Zb,Zr,ZE,ZF,Zf,Zq,Zg,i64_w,Zt,Zs,qFieldAddr,fieldOf,Zl,Zo,Zv,Zw,Zj,Zk,Zx,Zy,qLoad,bload,pload,pureAll,D.pure?,ZC,ZD,qBin,iop,t1,ti1,t3,ti3,t4,ti4,t5,ti5,t22,ti22,t24,ti24,t26,ti26,t35,ti35,t40,ti40,t50,ti50,t58,ti58,t60,ti60,t63,ti63,t69,ti69,t71,ti71,t75,ti75,map_at_l,map_at_i,Zh,secCells_length,ZO,add_one_mul_cast,mul_cast,quo_w,quo_nat,quo_pred] <;> exact rfl) ?_) | (first | (refine st_g0 rfl rfl rfl (by simp only [St.put,Za,Zb] <;> exact rfl) ?_) | (refine st_gu rfl rfl rfl (by simp only [St.put,Za,Zb] <;> exact rfl) ?_)) | (refine st_split rfl rfl rfl (by simp only [Za,Zb] <;> exact rfl) (by simp only [Za,Zb] <;> exact rfl) (fun hg => ?_) (fun hg => ?_) <;> (try simp only [Zp,Zi,ZJ,ZK,ne_eq,Zn,Zm,Bool.not_eq_true,Zu] at hg) <;> first | (refine st_g1 rfl rfl rfl (by simp (disch := omega) only [stepf,callOf,qop,fop,St.ev,St.put,cd,zd,Value.oneCell',tb_T,TypeDesc.aggB,getD_0,getD_s,Ze,Zd,Zc,Za,Zb,Zr,ZE,ZF,Zf,Zq,Zg,i64_w,Zt,Zs,qFieldAddr,fieldOf,Zl,Zo,Zv,Zw,Zj,Zk,Zx,Zy,qLoad,bload,pload,pureAll,D.pure?,ZC,ZD,qBin,iop,t1,ti1,t3,ti3,t4,ti4,t5,ti5,t22,ti22,t24,ti24,t26,ti26,t35,ti35,t40,ti40,t50,ti50,t58,ti58,t60,ti60,t63,ti63,t69,ti69,t71,ti71,t75,ti75,map_at_l,map_at_i,Zh,secCells_length,ZO,add_one_mul_cast,mul_cast,quo_w,quo_nat,quo_pred] <;> exact rfl) ?_) | (first | (refine st_g0 rfl rfl rfl (by simp only [St.put,Za,Zb] <;> exact rfl) ?_) | (refine st_gu rfl rfl rfl (by simp only [St.put,Za,Zb] <;> exact rfl) ?_))))
          (all_goals refine st_op rfl (by simp (disch := omega) only [stepf,callOf,qop,fop,St.ev,St.put,cd,zd,Value.oneCell',tb_T,TypeDesc.aggB,getD_0,getD_s,Ze,Zd,Zc,Za,Zb,Zr,ZE,ZF,Zf,Zq,Zg,i64_w,Zt,Zs,qFieldAddr,fieldOf,Zl,Zo,Zv,Zw,Zj,Zk,Zx,Zy,qLoad,bload,pload,pureAll,D.pure?,ZC,ZD,qBin,iop,t1,ti1,t3,ti3,t4,ti4,t5,ti5,t22,ti22,t24,ti24,t26,ti26,t35,ti35,t40,ti40,t50,ti50,t58,ti58,t60,ti60,t63,ti63,t69,ti69,t71,ti71,t75,ti75,map_at_l,map_at_i,Zh,secCells_length,ZO,add_one_mul_cast,mul_cast,quo_w,quo_nat,quo_pred] <;> exact rfl) ?_)
          all_goals refine aops_nil ?_
          all_goals refine ⟨rfl, ?_, leB_self _, leV_self _, rfl, rfl⟩
          all_goals repeat' (first | exact leL_nil | refine leL_a ?_ | refine leL_r rfl ?_ | refine leL_r ?_ ?_)
          all_goals refine jn ?_
          all_goals ((try simp only [Zp,Zi,ZJ,ZK,Bool.not_eq_true,Zm,Zn,ne_eq,Zf,true_iff,false_iff,iff_true,iff_false] at *) <;> omega)
        refine exq_n ?_
        refine aw_cond _ rfl (fun hc3 => ?_) (fun hc3 => ?_)
        · try simp only [Zp,Zi,ZK,ZJ,ne_eq,Zn,Zm,ZB,ZA,ZI,not_or,not_and,Zu] at hc3
          refine aw_skip ?_
          refine exq_n ?_
          refine aw_seq ?_
          refine aw_block ?_
          have hil : i * F ≤ u + v - 1 := (Nat.le_div_iff_mul_le q3).1 hc3.2
          have hir : i < nLeaves S F := lt_leaf q3 (by omega)
          have hm := leaf_mul q3 hir
          have hlm : ((updP l F (lv.getD 0 []) u v i).map u64).length = (lv.getD 0 []).length := by rw [List.length_map, updP_length]
          refine aw_regK hX hb [0, 1, 2, 3, 4, 5, 6, 7, 8, 9, 10, 11, 12, 13, 14, 15, 16, 17, 18] rfl (σ' := ?s12) (fun K hK => ?h12) ?n12
          case h12 =>
            iterate 16 (refine st_op rfl (by simp (disch := omega) only [stepf,callOf,qop,fop,St.ev,St.put,cd,zd,Value.oneCell',tb_T,TypeDesc.aggB,getD_0,getD_s,Ze,Zd,Zc,Za,Zb,Zr,ZE,ZF,Zf,Zq,Zg,i64_w,Zt,Zs,qFieldAddr,fieldOf,Zl,Zo,Zv,Zw,Zj,Zk,Zx,Zy,qLoad,bload,pload,pureAll,D.pure?,ZC,ZD,qBin,iop,min_ite,imp_self,Int.toNat_one,Int.toNat_zero,Nat.one_mul,qSlice,bnd,Option.isSome_none,ZP,Option.map_none,implies_true,forall_const,ZO,Nat.sub_zero,pvAll,D.pv?,toNat_pred,toNat_succ,qIndexAddr,Nat.mul_one,Nat.zero_mul,Zh,fStore,D.boxCells,D.live,D.cells?,ZM,ZL,ZN,ZG,ZH,St.setVec,t1,ti1,t3,ti3,t5,ti5,t22,ti22,t24,ti24,t26,ti26,t50,ti50,t58,ti58,t60,ti60,t87,ti87,t88,ti88,t90,ti90,map_at_l,map_at_i,secCells_length,add_one_mul_cast,mul_cast,quo_w,quo_nat,splice1] <;> exact rfl) ?_)
            refine st_call rfl (by simp only [callOf,St.ev,getD_0,getD_s,pvAll,D.pv?,ZG,ZH,zd,cd,Value.oneCell',Zr] <;> exact rfl) (acK hP (c66e l F i _ _ (secAt_slice l F i (by omega) _ (by omega)))) (by simp only [St.put,Za,Zb] <;> exact rfl) ?_
            iterate 2 (refine st_op rfl (by simp (disch := omega) only [stepf,callOf,qop,fop,St.ev,St.put,cd,zd,Value.oneCell',tb_T,TypeDesc.aggB,getD_0,getD_s,Ze,Zd,Zc,Za,Zb,Zr,ZE,ZF,Zf,Zq,Zg,i64_w,Zt,Zs,qFieldAddr,fieldOf,Zl,Zo,Zv,Zw,Zj,Zk,Zx,Zy,qLoad,bload,pload,pureAll,D.pure?,ZC,ZD,qBin,iop,min_ite,imp_self,Int.toNat_one,Int.toNat_zero,Nat.one_mul,qSlice,bnd,Option.isSome_none,ZP,Option.map_none,implies_true,forall_const,ZO,Nat.sub_zero,pvAll,D.pv?,toNat_pred,toNat_succ,qIndexAddr,Nat.mul_one,Nat.zero_mul,Zh,fStore,D.boxCells,D.live,D.cells?,ZM,ZL,ZN,ZG,ZH,St.setVec,t1,ti1,t3,ti3,t5,ti5,t22,ti22,t24,ti24,t26,ti26,t50,ti50,t58,ti58,t60,ti60,t87,ti87,t88,ti88,t90,ti90,map_at_l,map_at_i,secCells_length,add_one_mul_cast,mul_cast,quo_w,quo_nat,splice1] <;> exact rfl) ?_)
            refine aops_nil ?_
            exact hK
          refine exb_n ?_
          refine exq_n ?_
          refine aw_regK hX hb [0, 1, 2] rfl (σ' := ?s13) (fun K hK => ?h13) ?n13
          case h13 =>
            iterate 3 (refine st_op rfl (by simp (disch := omega) only [stepf,callOf,qop,fop,St.ev,St.put,cd,zd,Value.oneCell',tb_T,TypeDesc.aggB,getD_0,getD_s,Ze,Zd,Zc,Za,Zb,Zr,ZE,ZF,Zf,Zq,Zg,i64_w,Zt,Zs,qBin,iop,t1,ti1,t3,ti3,t5,ti5,t77,ti77,t87,ti87,t88,ti88,t90,ti90,map_at_l,map_at_i,Zh,secCells_length,ZO,add_one_mul_cast,mul_cast,quo_w,quo_nat] <;> exact rfl) ?_)
            refine aops_nil ?_
            exact hK
          refine exq_n ?_
          exact ⟨i + 1, by exact ⟨by omega, by omega⟩, by (try dsimp only); omega, wk_le ⟨rfl, leL_a (leL_r (by first | rfl | (first | (rw [updP_start l q3]) | (rw [← updP_step l q3 _ u v i (by omega) hc3.1 hui hc3.2]; simp [List.map_set]))) (leL_a (leL_r (by first | rfl | (first | (rw [updP_start l q3]) | (rw [← updP_step l q3 _ u v i (by omega) hc3.1 hui hc3.2]; simp [List.map_set]))) (leL_a (leL_r (by first | rfl | (first | (rw [updP_start l q3]) | (rw [← updP_step l q3 _ u v i (by omega) hc3.1 hui hc3.2]; simp [List.map_set]))) (leL_r (by first | rfl | (first | (rw [updP_start l q3]) | (rw [← updP_step l q3 _ u v i (by omega) hc3.1 hui hc3.2]; simp [List.map_set]))) (leL_r (by first | rfl | (first | (rw [updP_start l q3]) | (rw [← updP_step l q3 _ u v i (by omega) hc3.1 hui hc3.2]; simp [List.map_set]))) (leL_a (leL_r (by first | rfl | (first | (rw [updP_start l q3]) | (rw [← updP_step l q3 _ u v i (by omega) hc3.1 hui hc3.2]; simp [List.map_set]))) (leL_r (by first | rfl | (first | (rw [updP_start l q3]) | (rw [← updP_step l q3 _ u v i (by omega) hc3.1 hui hc3.2]; simp [List.map_set]))) (leL_a (leL_a (leL_a (leL_a (leL_a (leL_a (leL_a (leL_a (leL_a (leL_a (leL_a (leL_a (leL_a (leL_a (leL_a (leL_a (leL_a (leL_a (leL_a (leL_a (leL_a (leL_a (leL_a (leL_a (leL_a (leL_a (leL_a (leL_a (leL_a (leL_a (leL_a (leL_a (leL_a (leL_a (leL_a (leL_a (leL_a (leL_a (leL_a (leL_a (leL_a (leL_a (leL_a (leL_a (leL_a (leL_a (leL_a (leL_a (leL_a (leL_a (leL_a (leL_a (leL_a (leL_a (leL_a (leL_a (leL_a (leL_a (leL_a (leL_a (leL_a (leL_a (leL_a (leL_a (leL_a (leL_a (leL_a (leL_a (leL_a (leL_a (leL_a (leL_a (leL_a (leL_a (leL_a (leL_a (leL_a (leL_a (leL_a (leL_a (leL_a (leL_a (leL_a (leL_a (leL_a (leL_a (leL_a (leL_a (leL_a (leL_a (leL_a (leL_a (leL_nil))))))))))))))))))))))))))))))))))))))))))))))))))))))))))))))))))))))))))))))))))))))))))))))))))))))), (leB_r rfl (leL_r (by first | rfl | (first | (rw [updP_start l q3]) | (rw [← updP_step l q3 _ u v i (by omega) hc3.1 hui hc3.2]; simp [List.map_set]))) (leL_r (by first | rfl | (first | (rw [updP_start l q3]) | (rw [← updP_step l q3 _ u v i (by omega) hc3.1 hui hc3.2]; simp [List.map_set]))) (leL_r (by first | rfl | (first | (rw [updP_start l q3]) | (rw [← updP_step l q3 _ u v i (by omega) hc3.1 hui hc3.2]; simp [List.map_set]))) (leL_nil)))) (leB_r rfl (leL_r (by first | rfl | (first | (rw [updP_start l q3]) | (rw [← updP_step l q3 _ u v i (by omega) hc3.1 hui hc3.2]; simp [List.map_set]))) (leL_r (by first | rfl | (first | (rw [updP_start l q3]) | (rw [← updP_step l q3 _ u v i (by omega) hc3.1 hui hc3.2]; simp [List.map_set]))) (leL_nil))) (leB_r rfl (leL_r (by first | rfl | (first | (rw [updP_start l q3]) | (rw [← updP_step l q3 _ u v i (by omega) hc3.1 hui hc3.2]; simp [List.map_set]))) (leL_r (by first | rfl | (first | (rw [updP_start l q3]) | (rw [← updP_step l q3 _ u v i (by omega) hc3.1 hui hc3.2]; simp [List.map_set]))) (leL_r (by first | rfl | (first | (rw [updP_start l q3]) | (rw [← updP_step l q3 _ u v i (by omega) hc3.1 hui hc3.2]; simp [List.map_set]))) (leL_nil)))) (leB_nil _)))), (leV_r (by first | rfl | (first | (rw [updP_start l q3]) | (rw [← updP_step l q3 _ u v i (by omega) hc3.1 hui hc3.2]; simp [List.map_set]))) (leV_nil _)), rfl, rfl⟩⟩
        · try simp only [Zp,Zi,ZK,ZJ,ne_eq,Zn,Zm,ZB,ZA,ZI,not_or,not_and,Zu] at hc3
          refine aw_exit ?_
          refine exq_e ?_
          refine exq_e ?_
          refine exb_h ?_
          refine exq_n ?_
          refine aw_seq ?_
          refine aw_frz 0 rfl (σ' := ?s15) ?h15 ?n15
          case h15 => simp only [St.freeze,D.freeze,ZG,ZH,Za,Zb,Zr,reduceIte,Nat.reduceEqDiff]; exact rfl
          refine aw_regK hX hb [0, 1, 2, 3, 4, 5, 6, 7] rfl (σ' := ?s14) (fun K hK => ?h14) ?n14
          case h14 =>
            iterate 5 (refine st_op rfl (by simp (disch := omega) only [stepf,callOf,qop,fop,St.ev,St.put,cd,zd,Value.oneCell',tb_T,TypeDesc.aggB,getD_0,getD_s,Ze,Zd,Zc,Za,Zb,Zr,ZE,ZF,Zf,Zq,Zg,i64_w,Zt,Zs,qFieldAddr,fieldOf,Zl,Zo,Zv,Zw,Zj,Zk,Zx,Zy,qLoad,bload,pload,pureAll,D.pure?,ZC,ZD,pvAll,D.pv?,fStore,D.boxCells,D.live,D.cells?,ZM,ZL,ZN,ZG,ZH,St.setVec,t1,ti1,t3,ti3,t24,ti24,t26,ti26,t58,ti58,t60,ti60,t101,ti101,map_at_l,map_at_i,Zh,secCells_length,ZO,add_one_mul_cast,mul_cast,quo_w,quo_nat] <;> exact rfl) ?_)
            refine st_call rfl (by simp only [callOf,St.ev,getD_0,getD_s,pvAll,D.pv?,ZG,ZH,zd,cd,Value.oneCell',Zr] <;> exact rfl) (acK hP (c67 c79 S F (updP l F (lv.getD 0 []) u v i) (by rw [updP_length]; omega) (by have := nLeaves_pos (s := S) (n := F) q3 q1; rw [updP_length]; omega))) (by simp only [St.put,Za,Zb] <;> exact rfl) ?_
            iterate 2 (refine st_op rfl (by simp (disch := omega) only [stepf,callOf,qop,fop,St.ev,St.put,cd,zd,Value.oneCell',tb_T,TypeDesc.aggB,getD_0,getD_s,Ze,Zd,Zc,Za,Zb,Zr,ZE,ZF,Zf,Zq,Zg,i64_w,Zt,Zs,qFieldAddr,fieldOf,Zl,Zo,Zv,Zw,Zj,Zk,Zx,Zy,qLoad,bload,pload,pureAll,D.pure?,ZC,ZD,pvAll,D.pv?,fStore,D.boxCells,D.live,D.cells?,ZM,ZL,ZN,ZG,ZH,St.setVec,t1,ti1,t3,ti3,t24,ti24,t26,ti26,t58,ti58,t60,ti60,t101,ti101,map_at_l,map_at_i,Zh,secCells_length,ZO,add_one_mul_cast,mul_cast,quo_w,quo_nat] <;> exact rfl) ?_)
            refine aops_nil ?_
            exact hK
          refine exq_n ?_
          refine aw_ret ?_
          exact ret_r rfl (resOf_two (by simp only [resVal,qLoad,bload,tb_T,TypeDesc.aggB,pureAll,D.pure?,D.pv?,getD_0,getD_s,Zd,Zc,Zw,Zk,Zv,Zj,Zx,Zl,Zo,Zr,reduceIte,Nat.reduceAdd,Nat.reduceLeDiff,Zg,Zf,t3,ti3,t24,ti24,t26,ti26,t58,ti58,t60,ti60] <;> exact rfl) rfl (by first | rfl | (first | (rw [refUpd_e hc0]; rfl) | (rw [refUpd_6 hc0 (show (l.length : Int) ≠ (S : Int) by omega)]; rfl) | (rw [refUpd_2 hc0 (show (l.length : Int) = (S : Int) by omega) hc2]; rfl) | (rw [refUpd_0 hc0 (show (l.length : Int) = (S : Int) by omega) (by dsimp only; omega), updP_end l q3 _ u v i (not_and.2 hc3)]; rfl))))
end Go.Proofs.Ytldcoekbgfaomaa
end
section
namespace Go.Proofs.Ytldcoekbgfaomaa
open Go.RowKit
set_option maxRecDepth 20000
set_option maxHeartbeats 4000000
attribute [local irreducible] AOps AOpsD AW
/-- Items that are extents. -/
def extItems (l : List (Int × Int)) : List PV := l.map fun e => .agg [i64 e.1, i64 e.2]
theorem extItems_length (l : List (Int × Int)) : (extItems l).length = l.length := by simp [extItems]
theorem extItems_at (l : List (Int × Int)) (i : Nat) (h : i < l.length) : (extItems l)[i]? = some (.agg [i64 (l.getD i (0, 0)).1, i64 (l.getD i (0, 0)).2]) := by simp [extItems, h]
theorem extItems_of {l : List (Int × Int)} {k : Nat} {y : PV} (h : (extItems l)[k]? = some y) : k < l.length ∧ y = .agg [i64 (l.getD k (0, 0)).1, i64 (l.getD k (0, 0)).2] := by
  have hk : k < l.length := by have := (List.getElem?_eq_some_iff.1 h).1; simpa [extItems] using this
  rw [extItems_at l k hk] at h
  injection h with h
  exact ⟨hk, h.symm⟩
theorem extCells_take (l : List (Int × Int)) (k : Nat) (h : k < l.length) : extCells (l.take (k + 1)) = extCells (l.take k) ++ [i64 (l.getD k (0, 0)).1, i64 (l.getD k (0, 0)).2] := by
  rw [getD_take_succ_e l k h]; simp [extCells]
theorem c110 (p q : Bool) : ACalls Try.prog 110 [.p (bv p), .p (bv q)] (.p (bv (p || q))) := by
  refine acalls_of tb_ok Try.func110 (c := _) rfl (by kernel_rfl) ?_
  intro X hP hX hro hpl
  have hb : tb.Ok X.P := hP ▸ tb_ok
  change AW X _ _ ⟨[], [.p (bv p), .p (bv q), .any, .any, .any, .any, .any, .any, .any], [], []⟩
  refine aw_seq ?_
  refine aw_regK hX hb [0] rfl (σ' := ?s1) (fun K hK => ?h1) ?n1
  case h1 =>
    (refine st_op rfl (by simp (disch := omega) only [stepf,callOf,qop,fop,St.ev,St.put,cd,zd,Value.oneCell',tb_T,TypeDesc.aggB,getD_0,getD_s,Ze,Zd,Zc,Za,Zb,Zr,ZE,ZF,Zf,Zq,Zg,i64_w,Zt,Zs] <;> exact rfl) ?_)
    refine aops_nil ?_
    exact hK
  refine exq_n ?_
  refine aw_seq ?_
  refine aw_regJ hX hb [0, 1, 2, 3, 4] rfl (ts := [5, 6, 7, 8]) (t := 4) (d := .p (bv (p = true ∨ q = true))) (σ' := ?s2) ?j2 ?h2 ?n2
  case j2 => simp only [St.join,List.foldl,Za,Zb]; exact rfl
  case h2 =>
    iterate 2 (all_goals refine st_op rfl (by simp (disch := omega) only [stepf,callOf,qop,fop,St.ev,St.put,cd,zd,Value.oneCell',tb_T,TypeDesc.aggB,getD_0,getD_s,Ze,Zd,Zc,Za,Zb,Zr,ZE,ZF,Zf,Zq,Zg,i64_w,Zt,Zs,t1,ti1,t5,ti5] <;> exact rfl) ?_)
    (all_goals first | (refine st_g1 rfl rfl rfl (by simp (disch := omega) only [stepf,callOf,qop,fop,St.ev,St.put,cd,zd,Value.oneCell',tb_T,TypeDesc.aggB,getD_0,getD_s,Ze,Zd,Zc,Za,Zb,Zr,ZE,ZF,Zf,Zq,Zg,i64_w,Zt,Zs,t1,ti1,t5,ti5] <;> exact rfl) ?_) | (first | (refine st_g0 rfl rfl rfl (by simp only [St.put,Za,Zb] <;> exact rfl) ?_) | (refine st_gu rfl rfl rfl (by simp only [St.put,Za,Zb] <;> exact rfl) ?_)) | (refine st_split rfl rfl rfl (by simp only [Za,Zb] <;> exact rfl) (by simp only [Za,Zb] <;> exact rfl) (fun hg => ?_) (fun hg => ?_) <;> (try simp only [Zp,Zi,ZJ,ZK,ne_eq,Zn,Zm,Bool.not_eq_true,Zu] at hg) <;> first | (refine st_g1 rfl rfl rfl (by simp (disch := omega) only [stepf,callOf,qop,fop,St.ev,St.put,cd,zd,Value.oneCell',tb_T,TypeDesc.aggB,getD_0,getD_s,Ze,Zd,Zc,Za,Zb,Zr,ZE,ZF,Zf,Zq,Zg,i64_w,Zt,Zs,t1,ti1,t5,ti5] <;> exact rfl) ?_) | (first | (refine st_g0 rfl rfl rfl (by simp only [St.put,Za,Zb] <;> exact rfl) ?_) | (refine st_gu rfl rfl rfl (by simp only [St.put,Za,Zb] <;> exact rfl) ?_))))
    iterate 2 (all_goals refine st_op rfl (by simp (disch := omega) only [stepf,callOf,qop,fop,St.ev,St.put,cd,zd,Value.oneCell',tb_T,TypeDesc.aggB,getD_0,getD_s,Ze,Zd,Zc,Za,Zb,Zr,ZE,ZF,Zf,Zq,Zg,i64_w,Zt,Zs,t1,ti1,t5,ti5] <;> exact rfl) ?_)
    all_goals refine aops_nil ?_
    all_goals refine ⟨rfl, ?_, leB_self _, leV_self _, rfl, rfl⟩
    all_goals repeat' (first | exact leL_nil | refine leL_a ?_ | refine leL_r rfl ?_ | refine leL_r ?_ ?_)
    all_goals refine jn ?_
    all_goals (cases p <;> cases q <;> simp_all)
  refine exq_n ?_
  refine aw_ret ?_
  exact ret_r rfl (resOf_one rfl (by first | rfl | (cases p <;> cases q <;> rfl)))
theorem c122 (s c : Nat) (h1 : 1 ≤ c) (h2 : s + c ≤ 4096) : ACalls Try.prog 122 [.agg [i64 s, i64 c]] (.tup [.p (i64 s), .p (i64 (s + c : Nat)), .p (bv true)]) := by
  refine acalls_of tb_ok Try.func122 (c := _) rfl (by kernel_rfl) ?_
  intro X hP hX hro hpl
  have hb : tb.Ok X.P := hP ▸ tb_ok
  change AW X _ _ ⟨[], [.agg [i64 s, i64 c], .any, .any, .any, .any, .any, .any, .any, .any, .any, .any, .any, .any, .any, .any, .any, .any, .any, .any, .any, .any, .any, .any, .any, .any, .any, .any, .any, .any, .any, .any, .any, .any, .any, .any], [], []⟩
  refine aw_seq ?_
  refine aw_regK hX hb [0, 1, 2, 3] rfl (σ' := ?s1) (fun K hK => ?h1) ?n1
  case h1 =>
    iterate 4 (refine st_op rfl (by simp (disch := omega) only [stepf,callOf,qop,fop,St.ev,St.put,cd,zd,Value.oneCell',tb_T,TypeDesc.aggB,getD_0,getD_s,Ze,Zd,Zc,Za,Zb,Zr,ZE,ZF,Zf,Zq,Zg,i64_w,Zt,Zs,ZM,ZL,Zl,Zo,ZG,ZH,St.addBox,D.boxCells,D.live,t3,ti3,t35,ti35] <;> exact rfl) ?_)
    refine aops_nil ?_
    exact hK
  refine exq_n ?_
  refine aw_seq ?_
  refine aw_seq ?_
  refine aw_regK hX hb [0, 1, 2] rfl (σ' := ?s2) (fun K hK => ?h2) ?n2
  case h2 =>
    iterate 3 (refine st_op rfl (by simp (disch := omega) only [stepf,callOf,qop,fop,St.ev,St.put,cd,zd,Value.oneCell',tb_T,TypeDesc.aggB,getD_0,getD_s,Ze,Zd,Zc,Za,Zb,Zr,ZE,ZF,Zf,Zq,Zg,i64_w,Zt,Zs,qFieldAddr,fieldOf,Zl,Zo,Zv,Zw,Zj,Zk,Zx,Zy,qLoad,bload,pload,pureAll,D.pure?,ZC,ZD,qBin,iop,t1,ti1,t3,ti3,t35,ti35] <;> exact rfl) ?_)
    refine aops_nil ?_
    exact hK
  refine exq_n ?_
  refine aw_cond _ rfl (fun hc0 => ?_) (fun hc0 => ?_)
  · try simp only [Zp,Zi,ZK,ZJ,ne_eq,Zn,Zm,ZB,ZA,ZI,not_or,not_and,Zu] at hc0
    omega
  · try simp only [Zp,Zi,ZK,ZJ,ne_eq,Zn,Zm,ZB,ZA,ZI,not_or,not_and,Zu] at hc0
    refine aw_skip ?_
    refine exq_n ?_
    refine aw_seq ?_
    refine aw_regK hX hb [0, 1, 2, 3, 4] rfl (σ' := ?s3) (fun K hK => ?h3) ?n3
    case h3 =>
      iterate 5 (refine st_op rfl (by simp (disch := omega) only [stepf,callOf,qop,fop,St.ev,St.put,cd,zd,Value.oneCell',tb_T,TypeDesc.aggB,getD_0,getD_s,Ze,Zd,Zc,Za,Zb,Zr,ZE,ZF,Zf,Zq,Zg,i64_w,Zt,Zs,qFieldAddr,fieldOf,Zl,Zo,Zv,Zw,Zj,Zk,Zx,Zy,qLoad,bload,pload,pureAll,D.pure?,ZC,ZD,max_ite,t1,ti1,t3,ti3,t35,ti35] <;> exact rfl) ?_)
      refine aops_nil ?_
      exact hK
    refine exq_n ?_
    refine aw_seq ?_
    refine aw_seq ?_
    refine aw_regJ hX hb [0, 1, 2, 3, 4, 5, 6, 7, 8, 9, 10] rfl (ts := [13, 14, 15, 16, 17, 18, 19, 20, 21, 22]) (t := 23) (d := .p (bv (c + s < 4096))) (σ' := ?s4) ?j4 ?h4 ?n4
    case j4 => simp only [St.join,List.foldl,Za,Zb]; exact rfl
    case h4 =>
      iterate 4 (all_goals refine st_op rfl (by simp (disch := omega) only [stepf,callOf,qop,fop,St.ev,St.put,cd,zd,Value.oneCell',tb_T,TypeDesc.aggB,getD_0,getD_s,Ze,Zd,Zc,Za,Zb,Zr,ZE,ZF,Zf,Zq,Zg,i64_w,Zt,Zs,qFieldAddr,fieldOf,Zl,Zo,Zv,Zw,Zj,Zk,Zx,Zy,qLoad,bload,pload,pureAll,D.pure?,ZC,ZD,qBin,iop,t1,ti1,t3,ti3,t5,ti5,t22,ti22,t35,ti35,t50,ti50] <;> exact rfl) ?_)
      iterate 6 (all_goals first | (refine st_g1 rfl rfl rfl (by simp (disch := omega) only [stepf,callOf,qop,fop,St.ev,St.put,cd,zd,Value.oneCell',tb_T,TypeDesc.aggB,getD_0,getD_s,Ze,Zd,Zc,Za,Zb,Zr,ZE,ZF,Zf,Zq,Zg,i64_w,Zt,Zs,qFieldAddr,fieldOf,Zl,Zo,Zv,Zw,Zj,Zk,Zx,Zy,qLoad,bload,pload,pureAll,D.pure?,ZC,ZD,qBin,iop,t1,ti1,t3,ti3,t5,ti5,t22,ti22,t35,ti35,t50,ti50] <;> exact rfl) ?_) | (first | (refine st_g0 rfl rfl rfl (by simp only [St.put,Za,Zb] <;> exact rfl) ?_) | (refine st_gu rfl rfl rfl (by simp only [St.put,Za,Zb] <;> exact rfl) ?_)) | (refine st_split rfl rfl rfl (by simp only [Za,Zb] <;> exact rfl) (by simp only [Za,Zb] <;> exact rfl) (fun hg => ?_) (fun hg => ?_) <;> (try simp only [Zp,Zi,ZJ,ZK,ne_eq,Zn,Zm,Bool.not_eq_true,Zu] at hg) <;> first | (refine st_g1 rfl rfl rfl (by simp (disch := omega) only [stepf,callOf,qop,fop,St.ev,St.put,cd,zd,Value.oneCell',tb_T,TypeDesc.aggB,getD_0,getD_s,Ze,Zd,Zc,Za,Zb,Zr,ZE,ZF,Zf,Zq,Zg,i64_w,Zt,Zs,qFieldAddr,fieldOf,Zl,Zo,Zv,Zw,Zj,Zk,Zx,Zy,qLoad,bload,pload,pureAll,D.pure?,ZC,ZD,qBin,iop,t1,ti1,t3,ti3,t5,ti5,t22,ti22,t35,ti35,t50,ti50] <;> exact rfl) ?_) | (first | (refine st_g0 rfl rfl rfl (by simp only [St.put,Za,Zb] <;> exact rfl) ?_) | (refine st_gu rfl rfl rfl (by simp only [St.put,Za,Zb] <;> exact rfl) ?_))))
      (all_goals refine st_op rfl (by simp (disch := omega) only [stepf,callOf,qop,fop,St.ev,St.put,cd,zd,Value.oneCell',tb_T,TypeDesc.aggB,getD_0,getD_s,Ze,Zd,Zc,Za,Zb,Zr,ZE,ZF,Zf,Zq,Zg,i64_w,Zt,Zs,qFieldAddr,fieldOf,Zl,Zo,Zv,Zw,Zj,Zk,Zx,Zy,qLoad,bload,pload,pureAll,D.pure?,ZC,ZD,qBin,iop,t1,ti1,t3,ti3,t5,ti5,t22,ti22,t35,ti35,t50,ti50] <;> exact rfl) ?_)
      all_goals refine aops_nil ?_
      all_goals refine ⟨rfl, ?_, leB_self _, leV_self _, rfl, rfl⟩
      all_goals repeat' (first | exact leL_nil | refine leL_a ?_ | refine leL_r rfl ?_ | refine leL_r ?_ ?_)
      all_goals refine jn ?_
      all_goals ((try simp only [Zp,Zi,ZJ,ZK,Bool.not_eq_true,Zm,Zn,ne_eq,Zf,true_iff,false_iff,iff_true,iff_false] at *) <;> omega)
    refine exq_n ?_
    refine aw_cond _ rfl (fun hc1 => ?_) (fun hc1 => ?_)
    · try simp only [Zp,Zi,ZK,ZJ,ne_eq,Zn,Zm,ZB,ZA,ZI,not_or,not_and,Zu] at hc1
      refine aw_regK hX hb [0, 1, 2, 3, 4, 5, 6] rfl (σ' := ?s5) (fun K hK => ?h5) ?n5
      case h5 =>
        iterate 7 (refine st_op rfl (by simp (disch := omega) only [stepf,callOf,qop,fop,St.ev,St.put,cd,zd,Value.oneCell',tb_T,TypeDesc.aggB,getD_0,getD_s,Ze,Zd,Zc,Za,Zb,Zr,ZE,ZF,Zf,Zq,Zg,i64_w,Zt,Zs,qFieldAddr,fieldOf,Zl,Zo,Zv,Zw,Zj,Zk,Zx,Zy,qLoad,bload,pload,pureAll,D.pure?,ZC,ZD,qBin,iop,min_ite,t1,ti1,t3,ti3,t24,ti24,t26,ti26,t27,ti27,t35,ti35,t58,ti58,t60,ti60] <;> exact rfl) ?_)
        refine aops_nil ?_
        exact hK
      refine exq_n ?_
      refine aw_seq ?_
      refine aw_regK hX hb [0, 1, 2, 3, 4, 5, 6, 7] rfl (σ' := ?s6) (fun K hK => ?h6) ?n6
      case h6 =>
        iterate 8 (refine st_op rfl (by simp (disch := omega) only [stepf,callOf,qop,fop,St.ev,St.put,cd,zd,Value.oneCell',tb_T,TypeDesc.aggB,getD_0,getD_s,Ze,Zd,Zc,Za,Zb,Zr,ZE,ZF,Zf,Zq,Zg,i64_w,Zt,Zs,qBin,iop,t3,ti3,t5,ti5] <;> exact rfl) ?_)
        refine aops_nil ?_
        exact hK
      refine exq_n ?_
      refine aw_ret ?_
      exact ret_r rfl (resOf_three rfl rfl rfl (by first | rfl | (first | (refine congrArg D.tup ?_; refine congr (congrArg _ (congrArg (fun n => PV.p (i64 n)) (by omega))) (congr (congrArg _ (congrArg (fun n => PV.p (i64 n)) (by omega))) (congrArg (fun b => [PV.p (bv b)]) (decide_eq_true (by omega))))))))
    · try simp only [Zp,Zi,ZK,ZJ,ne_eq,Zn,Zm,ZB,ZA,ZI,not_or,not_and,Zu] at hc1
      refine aw_skip ?_
      refine exq_n ?_
      refine aw_seq ?_
      refine aw_regK hX hb [0, 1, 2, 3, 4, 5, 6, 7] rfl (σ' := ?s7) (fun K hK => ?h7) ?n7
      case h7 =>
        iterate 8 (refine st_op rfl (by simp (disch := omega) only [stepf,callOf,qop,fop,St.ev,St.put,cd,zd,Value.oneCell',tb_T,TypeDesc.aggB,getD_0,getD_s,Ze,Zd,Zc,Za,Zb,Zr,ZE,ZF,Zf,Zq,Zg,i64_w,Zt,Zs,qBin,iop,t3,ti3,t5,ti5] <;> exact rfl) ?_)
        refine aops_nil ?_
        exact hK
      refine exq_n ?_
      refine aw_ret ?_
      exact ret_r rfl (resOf_three rfl rfl rfl (by first | rfl | (first | (refine congrArg D.tup ?_; refine congr (congrArg _ (congrArg (fun n => PV.p (i64 n)) (by omega))) (congr (congrArg _ (congrArg (fun n => PV.p (i64 n)) (by omega))) (congrArg (fun b => [PV.p (bv b)]) (decide_eq_true (by omega))))))))
theorem c118 (f : FuncId) (xs : List P1) (l : List (Int × Int)) (hs : SeqC Try.prog f xs (extItems l)) (hl : l.length ≤ 4294967296) : ACalls Try.prog 118 [.p (.v (.slice none 0 0)), .p (.clo f xs)] (.p (exts l)) := by
  refine acalls_of tb_ok Try.func118 (c := _) rfl (by kernel_rfl) ?_
  intro X hP hX hro hpl
  have hb : tb.Ok X.P := hP ▸ tb_ok
  change AW X _ _ ⟨[], [.p (.v (.slice none 0 0)), .p (.clo f xs), .any, .any, .any, .any, .any, .any, .any, .any, .any, .any, .any], [], []⟩
  refine aw_nilv 0 rfl (σ' := ?s1) ?h1 ?n1
  case h1 => simp only [Za,Zb]; exact rfl
  refine aw_seq ?_
  refine aw_regK hX hb [0, 1] rfl (σ' := ?s2) (fun K hK => ?h2) ?n2
  case h2 =>
    iterate 2 (refine st_op rfl (by simp (disch := omega) only [stepf,callOf,qop,fop,St.ev,St.put,cd,zd,Value.oneCell',tb_T,TypeDesc.aggB,getD_0,getD_s,Ze,Zd,Zc,Za,Zb,Zr,ZE,ZF,Zf,Zq,Zg,i64_w,Zt,Zs,ZM,ZL,Zl,Zo,ZG,ZH,St.addBox,D.boxCells,D.live,t3,ti3,t35,ti35,t40,ti40,extCells_length] <;> exact rfl) ?_)
    refine aops_nil ?_
    exact hK
  refine exq_n ?_
  refine aw_nilc 0 0 _ 35 2 rfl rfl (σ' := ?s3) ?h3 ?n3
  case h3 => simp only [St.nilCell,St.addVec,Za,Zb,Zl,Zo,ZL,ZM]; exact rfl
  refine aw_seq ?_
  refine aw_seq ?_
  refine aw_regK hX hb [0] rfl (σ' := ?s4) (fun K hK => ?h4) ?n4
  case h4 =>
    (refine st_op rfl (by simp (disch := omega) only [stepf,callOf,qop,fop,St.ev,St.put,cd,zd,Value.oneCell',tb_T,TypeDesc.aggB,getD_0,getD_s,Ze,Zd,Zc,Za,Zb,Zr,ZE,ZF,Zf,Zq,Zg,i64_w,Zt,Zs,t1,ti1,extCells_length] <;> exact rfl) ?_)
    refine aops_nil ?_
    exact hK
  refine exq_n ?_
  refine aw_block ?_
  refine aw_rangeE hX hro hpl.j [] [.any, .p (.clo f xs), .ptr 0 0, .any, .any, .any, .p (.clo f xs), .any, .any, .any, .any, .any, .any] 1 (fun (k : Nat) => [⟨40, [.vref 0]⟩]) (fun (k : Nat) => [some ⟨35, 2, (l.take k).length, extCells (l.take k)⟩]) [⟨40, [.vref 0]⟩] [some ⟨35, 2, l.length, extCells l⟩] (wk_le ⟨rfl, leL_a (leL_r (by first | rfl | (rw [extCells_take l k hk]; simp <;> omega)) (leL_r (by first | rfl | (rw [extCells_take l k hk]; simp <;> omega)) (leL_a (leL_a (leL_a (leL_r (by first | rfl | (rw [extCells_take l k hk]; simp <;> omega)) (leL_a (leL_a (leL_a (leL_a (leL_a (leL_a (leL_nil))))))))))))), (leB_r rfl (leL_r (by first | rfl | (rw [extCells_take l k hk]; simp <;> omega)) (leL_nil)) (leB_nil _)), (leV_r (by first | rfl | (rw [extCells_take l k hk]; simp <;> omega)) (leV_nil _)), rfl, rfl⟩) rfl rfl (hP ▸ (hs)) rfl rfl rfl (by first | rfl | (rw [extItems_length, List.take_length])) (by first | rfl | (rw [extItems_length, List.take_length])) ?_ ?_
  · intro k y hy
    obtain ⟨hk, rfl⟩ := extItems_of hy
    have hkl : (l.take k).length = k := by rw [List.length_take]; omega
    unfold RoundOk
    intro X1 hQ hX
    have hP0 := hP; have hP := hQ.trans hP; have hb : tb.Ok X1.P := hP ▸ tb_ok
    change AW X1 _ _ ⟨[.pin 1], [.any, .p (.clo f xs), .ptr 0 0, .any, .any, .any, .p (.clo f xs), .agg [i64 (l.getD k (0, 0)).1, i64 (l.getD k (0, 0)).2], .any, .any, .any, .any, .any], [⟨40, [.vref 0]⟩], [some ⟨35, 2, (l.take k).length, extCells (l.take k)⟩]⟩
    refine aw_regK hX hb [0, 1] rfl (σ' := ?s5) (fun K hK => ?h5) ?n5
    case h5 =>
      iterate 2 (refine st_op rfl (by simp (disch := omega) only [stepf,callOf,qop,fop,St.ev,St.put,cd,zd,Value.oneCell',tb_T,TypeDesc.aggB,getD_0,getD_s,Ze,Zd,Zc,Za,Zb,Zr,ZE,ZF,Zf,Zq,Zg,i64_w,Zt,Zs,ZM,ZL,Zl,Zo,ZG,ZH,St.addBox,Value.cells,fStore,D.boxCells,D.live,D.cells?,D.pure?,Zv,Zw,Zj,Zk,Zx,Zy,ZN,St.setVec,ZC,t3,ti3,t5,ti5,t35,ti35,extCells_length] <;> exact rfl) ?_)
      refine aops_nil ?_
      exact hK
    refine ⟨rfl, rfl, ?_⟩
    intro X2 hQ2 hX
    have hP := hQ2.trans hP0; have hb : tb.Ok X2.P := hP ▸ tb_ok
    refine aw_block ?_
    refine aw_regK hX hb [0, 1, 2, 3, 4] rfl (σ' := ?s6) (fun K hK => ?h6) ?n6
    case h6 =>
      iterate 5 (refine st_op rfl (by simp (disch := omega) only [stepf,callOf,qop,fop,St.ev,St.put,cd,zd,Value.oneCell',tb_T,TypeDesc.aggB,getD_0,getD_s,Ze,Zd,Zc,Za,Zb,Zr,ZE,ZF,Zf,Zq,Zg,i64_w,Zt,Zs,Zl,Zo,Zv,Zw,Zj,Zk,Zx,Zy,qLoad,bload,pload,pureAll,D.pure?,ZC,ZD,tb_N,tbO_N,tbW_N,tb_O,fBuildSlice,catCells,D.cells?,range_1,range_2,range_3,range_4,range_5,ZG,ZH,ZL,ZM,ZN,sec8_length,Nat.reduceAdd,Nat.reduceMul,fAppend,appV,St.demote,D.demote,St.setVec,Zh,List.length_append,Nat.mul_one,reduceIte,fStore,D.boxCells,D.live,t1,ti1,t2,ti2,t3,ti3,t5,ti5,t35,ti35,t40,ti40,extCells_length] <;> exact rfl) ?_)
      refine aops_nil ?_
      exact hK
    refine exb_n ?_
    exact ⟨rfl, wk_le ⟨(by first | rfl | (rw [extCells_take l k hk]; simp <;> omega)), leL_a (leL_a (leL_a (leL_a (leL_a (leL_a (leL_a (leL_a (leL_a (leL_a (leL_a (leL_a (leL_a (leL_nil))))))))))))), (leB_r rfl (leL_r (by first | rfl | (rw [extCells_take l k hk]; simp <;> omega)) (leL_nil)) (leB_nil _)), (leV_r (by first | rfl | (rw [extCells_take l k hk]; simp <;> omega)) (leV_nil _)), rfl, rfl⟩⟩
  refine exb_n ?_
  refine exq_n ?_
  refine aw_seq ?_
  refine aw_frz 0 rfl (σ' := ?s8) ?h8 ?n8
  case h8 => simp only [St.freeze,D.freeze,ZG,ZH,Za,Zb,Zr,reduceIte,Nat.reduceEqDiff]; exact rfl
  refine aw_regK hX hb [0, 1] rfl (σ' := ?s7) (fun K hK => ?h7) ?n7
  case h7 =>
    iterate 2 (refine st_op rfl (by simp (disch := omega) only [stepf,callOf,qop,fop,St.ev,St.put,cd,zd,Value.oneCell',tb_T,TypeDesc.aggB,getD_0,getD_s,Ze,Zd,Zc,Za,Zb,Zr,ZE,ZF,Zf,Zq,Zg,i64_w,Zt,Zs,Zl,Zo,Zv,Zw,Zj,Zk,Zx,Zy,qLoad,bload,pload,pureAll,D.pure?,ZC,ZD,t2,ti2,t3,ti3,t35,ti35,t40,ti40,extCells_length] <;> exact rfl) ?_)
    refine aops_nil ?_
    exact hK
  refine exq_n ?_
  refine aw_ret ?_
  exact ret_rm (resOf_one rfl rfl)
theorem c108 (f : FuncId) (xs : List P1) (l : List (Int × Int)) (hs : SeqC Try.prog f xs (extItems l)) (hl : l.length ≤ 4294967296) : ACalls Try.prog 108 [.p (.clo f xs)] (.p (exts l)) := by
  refine acalls_of tb_ok Try.func108 (c := _) rfl (by kernel_rfl) ?_
  intro X hP hX hro hpl
  have hb : tb.Ok X.P := hP ▸ tb_ok
  change AW X _ _ ⟨[], [.p (.clo f xs), .any, .any, .any, .any], [], []⟩
  refine aw_seq ?_
  refine aw_regK hX hb [0] rfl (σ' := ?s1) (fun K hK => ?h1) ?n1
  case h1 =>
    (refine st_op rfl (by simp (disch := omega) only [stepf,callOf,qop,fop,St.ev,St.put,cd,zd,Value.oneCell',tb_T,TypeDesc.aggB,getD_0,getD_s,Ze,Zd,Zc,Za,Zb,Zr,ZE,ZF,Zf,Zq,Zg,i64_w,Zt,Zs] <;> exact rfl) ?_)
    refine aops_nil ?_
    exact hK
  refine exq_n ?_
  refine aw_seq ?_
  refine aw_regK hX hb [0, 1, 2] rfl (σ' := ?s2) (fun K hK => ?h2) ?n2
  case h2 =>
    (refine st_op rfl (by simp (disch := omega) only [stepf,callOf,qop,fop,St.ev,St.put,cd,zd,Value.oneCell',tb_T,TypeDesc.aggB,getD_0,getD_s,Ze,Zd,Zc,Za,Zb,Zr,ZE,ZF,Zf,Zq,Zg,i64_w,Zt,Zs,pvAll,D.pv?,t3,ti3,t4,ti4,t35,ti35,t40,ti40,t118,ti118,t168,ti168] <;> exact rfl) ?_)
    refine st_nil rfl rfl (by simp only [St.ev,getD_0,getD_s,zd,cd,Value.oneCell',Zr] <;> exact rfl) (by simp only [pvAllN,capCells,D.pvC?,D.pvN?,D.pvL?,pureAll,D.pv?,D.pure?,St.ev,getD_0,getD_s,zd,cd,Value.oneCell',Zr,ZG,ZH,Zd,Zc,Zg] <;> exact rfl) (acK hP (c118 f xs l hs hl)) (by simp only [St.put,Za,Zb] <;> exact rfl) ?_
    (refine st_op rfl (by simp (disch := omega) only [stepf,callOf,qop,fop,St.ev,St.put,cd,zd,Value.oneCell',tb_T,TypeDesc.aggB,getD_0,getD_s,Ze,Zd,Zc,Za,Zb,Zr,ZE,ZF,Zf,Zq,Zg,i64_w,Zt,Zs,pvAll,D.pv?,t3,ti3,t4,ti4,t35,ti35,t40,ti40,t118,ti118,t168,ti168] <;> exact rfl) ?_)
    refine aops_nil ?_
    exact hK
  refine exq_n ?_
  refine aw_ret ?_
  exact ret_r rfl (resOf_one rfl rfl)
theorem c109 (a b : List (Int × Int)) (g : FuncId) : ACalls Try.prog 109 [.p (exts a), .p (exts b), .p (.v (.func (.func g) #[] #[]))] (.p (.clo 119 [exts a, exts b, .v (.func (.func g) #[] #[])])) := by
  refine acallsC_of Try.func109 (c := _) rfl (by kernel_rfl) (t := 6) rfl ?_
  intro X hP hX hro hpl
  have hb : tb.Ok X.P := hP ▸ tb_ok
  change AW X _ _ ⟨[], [.p (exts a), .p (exts b), .p (.v (.func (.func g) #[] #[])), .any, .any, .any, .any, .any], [], []⟩
  refine aw_seq ?_
  refine aw_regK hX hb [0, 1, 2, 3] rfl (σ' := ?s1) (fun K hK => ?h1) ?n1
  case h1 =>
    iterate 4 (refine st_op rfl (by simp (disch := omega) only [stepf,callOf,qop,fop,St.ev,St.put,cd,zd,Value.oneCell',tb_T,TypeDesc.aggB,getD_0,getD_s,Ze,Zd,Zc,Za,Zb,Zr,ZE,ZF,Zf,Zq,Zg,i64_w,Zt,Zs,ZM,ZL,Zl,Zo,ZG,ZH,St.addBox,D.boxCells,D.live,t1,ti1,t2,ti2,t3,ti3,t35,ti35,t40,ti40,t170,ti170] <;> exact rfl) ?_)
    refine aops_nil ?_
    exact hK
  refine exq_n ?_
  refine aw_seq ?_
  refine aw_regK hX hb [0, 1] rfl (σ' := ?s2) (fun K hK => ?h2) ?n2
  case h2 =>
    iterate 2 (refine st_op rfl (by simp (disch := omega) only [stepf,callOf,qop,fop,St.ev,St.put,cd,zd,Value.oneCell',tb_T,TypeDesc.aggB,getD_0,getD_s,Ze,Zd,Zc,Za,Zb,Zr,ZE,ZF,Zf,Zq,Zg,i64_w,Zt,Zs,capsOf,eq_self,Array.toList,t3,ti3,t4,ti4,t5,ti5] <;> exact rfl) ?_)
    refine aops_nil ?_
    exact hK
  refine exq_n ?_
  refine aw_ret ?_
  exact retc_r [0, 1, 2] rfl (by simp only [capCells,D.pure?,Zd,Zc] <;> exact rfl)
end Go.Proofs.Ytldcoekbgfaomaa
end
section
namespace Go.Proofs.Ytldcoekbgfaomaa
open Go.Shelf
def sortL_ren : Go.Shelf.Ren := ⟨fun | 6 => 123 | 15 => 127 | 14 => 126 | 28 => 137 | 29 => 138 | 20 => 129 | 21 => 130 | 22 => 131 | 23 => 132 | 24 => 133 | 25 => 134 | 26 => 135 | 27 => 136 | 46 => 139 | 47 => 140 | 48 => 141 | 49 => 142 | 50 => 143 | 57 => 144 | n => n, fun | 22 => 181 | 24 => 185 | 25 => 190 | 3 => 3 | 39 => 177 | 0 => 0 | 53 => 201 | 55 => 58 | 4 => 4 | 46 => 195 | 45 => 194 | 50 => 131 | 5 => 5 | 9 => 9 | 66 => 203 | 70 => 207 | 76 => 209 | 77 => 108 | n => n, fun | n => n⟩
theorem sortL : Go.Proofs.SlLaysF0.n6 Try.prog sortL_ren := {
  mixed := by kernel_rfl
  f6 := ⟨Try.f123.name, by decide, Try.func123.trans (congrArg some (by kernel_rfl))⟩
  f14 := ⟨Try.f126.name, by decide, Try.func126.trans (congrArg some (by kernel_rfl))⟩
  f15 := Try.func127.trans (congrArg some (by kernel_rfl))
  f20 := ⟨Try.f129.name, by decide, Try.func129.trans (congrArg some (by kernel_rfl))⟩
  f21 := ⟨Try.f130.name, by decide, Try.func130.trans (congrArg some (by kernel_rfl))⟩
  f22 := ⟨Try.f131.name, by decide, Try.func131.trans (congrArg some (by kernel_rfl))⟩
  f23 := ⟨Try.f132.name, by decide, Try.func132.trans (congrArg some (by kernel_rfl))⟩
  f24 := ⟨Try.f133.name, by decide, Try.func133.trans (congrArg some (by kernel_rfl))⟩
  f25 := ⟨Try.f134.name, by decide, Try.func134.trans (congrArg some (by kernel_rfl))⟩
  f26 := ⟨Try.f135.name, by decide, Try.func135.trans (congrArg some (by kernel_rfl))⟩
  f27 := ⟨Try.f136.name, by decide, Try.func136.trans (congrArg some (by kernel_rfl))⟩
  f28 := Try.func137.trans (congrArg some (by kernel_rfl))
  f29 := Try.func138.trans (congrArg some (by kernel_rfl))
  f46 := ⟨Try.f139.name, by decide, Try.func139.trans (congrArg some (by kernel_rfl))⟩
  f47 := Try.func140.trans (congrArg some (by kernel_rfl))
  f48 := Try.func141.trans (congrArg some (by kernel_rfl))
  f49 := ⟨Try.f142.name, by decide, Try.func142.trans (congrArg some (by kernel_rfl))⟩
  f50 := ⟨Try.f143.name, by decide, Try.func143.trans (congrArg some (by kernel_rfl))⟩
  f57 := ⟨Try.f144.name, by decide, Try.func144.trans (congrArg some (by kernel_rfl))⟩
  t0 := Try.underlying0
  a0 := Try.isAgg0
  z0 := Try.sizeOf0
  v0 := Try.zeroValue0
  t3 := Try.underlying3
  a3 := Try.isAgg3
  z3 := Try.sizeOf3
  v3 := Try.zeroValue3
  t4 := Try.underlying4
  a4 := Try.isAgg4
  z4 := Try.sizeOf4
  v4 := Try.zeroValue4
  t5 := Try.underlying5
  a5 := Try.isAgg5
  z5 := Try.sizeOf5
  v5 := Try.zeroValue5
  t9 := Try.underlying9
  a9 := Try.isAgg9
  z9 := Try.sizeOf9
  v9 := Try.zeroValue9
  t22 := Try.underlying181
  a22 := Try.isAgg181
  z22 := Try.sizeOf181
  v22 := Try.zeroValue181
  t25 := Try.underlying190
  a25 := Try.isAgg190
  z25 := Try.sizeOf190
  v25 := Try.zeroValue190
  t39 := Try.underlying177
  a39 := Try.isAgg177
  z39 := Try.sizeOf177
  v39 := Try.zeroValue177
  t45 := Try.underlying194
  a45 := Try.isAgg194
  z45 := Try.sizeOf194
  v45 := Try.zeroValue194
  t46 := Try.underlying195
  a46 := Try.isAgg195
  z46 := Try.sizeOf195
  v46 := Try.zeroValue195
  t50 := Try.underlying131
  a50 := Try.isAgg131
  z50 := Try.sizeOf131
  v50 := Try.zeroValue131
  t53 := Try.underlying201
  a53 := Try.isAgg201
  z53 := Try.sizeOf201
  v53 := Try.zeroValue201
  t55 := Try.underlying58
  a55 := Try.isAgg58
  z55 := Try.sizeOf58
  v55 := Try.zeroValue58
  t66 := Try.underlying203
  a66 := Try.isAgg203
  z66 := Try.sizeOf203
  v66 := Try.zeroValue203
  t70 := Try.underlying207
  a70 := Try.isAgg207
  z70 := Try.sizeOf207
  v70 := Try.zeroValue207
  t76 := Try.underlying209
  a76 := Try.isAgg209
  z76 := Try.sizeOf209
  v76 := Try.zeroValue209
  t77 := Try.underlying108
  a77 := Try.isAgg108
  z77 := Try.sizeOf108
  v77 := Try.zeroValue108 }
def cmpL_ren : Go.Shelf.Ren := ⟨fun | 5 => 125 | 7 => 128 | n => n, fun | 22 => 3 | 3 => 3 | 4 => 4 | n => n, fun | n => n⟩
theorem cmpL : Go.Proofs.SlLaysC2.n5 Try.prog cmpL_ren := {
  mixed := by kernel_rfl
  f5 := ⟨Try.f125.name, by decide, Try.func125.trans (congrArg some (by kernel_rfl))⟩
  f7 := ⟨Try.f128.name, by decide, Try.func128.trans (congrArg some (by kernel_rfl))⟩
  t3 := Try.underlying3
  a3 := Try.isAgg3
  z3 := Try.sizeOf3
  v3 := Try.zeroValue3
  t4 := Try.underlying4
  a4 := Try.isAgg4
  z4 := Try.sizeOf4
  v4 := Try.zeroValue4
  t22 := Try.underlying3
  a22 := Try.isAgg3
  z22 := Try.sizeOf3
  v22 := Try.zeroValue3 }
end Go.Proofs.Ytldcoekbgfaomaa
end
section
namespace Go.Proofs.Ytldcoekbgfaomaa
open Go.RowKit Go.Shelf Go.Lib Go.Sort
theorem callsIn_of {F : Fence} (hF : Wide F) {n : Nat} {P : Program} {f : FuncId} {args : Array Value} {w : World} {R : Ending → World → Prop} (h : Calls P f args w R) : CallsIn F n P f args w R := by
  obtain ⟨fn, depth, alive, round⟩ := F
  obtain ⟨h1, h2, h3⟩ := hF
  simp only at h1 h2 h3
  subst h2
  subst h3
  have e : fn = fun _ => True := by funext x; exact eq_true (h1 x)
  subst e
  exact (callsIn_wide (n := n)).2 h
@[reducible] def EndT : Type := Int × Int × Int
def encE (x : EndT) : List Value := [.int .i64 x.1, .int .i64 x.2.1, .int .i64 x.2.2]
def cmpE (x y : EndT) : Int := Lib.compareInt x.1 y.1
theorem ltE (x y : EndT) : ltOf cmpE x y = decide (x.1 < y.1) := by
  unfold ltOf cmpE Lib.compareInt
  by_cases h1 : x.1 < y.1
  · simp [h1]
  · by_cases h2 : y.1 < x.1 <;> simp [h1, h2]
theorem swoE : SWO (ltOf cmpE) where
  irrefl x := by rw [ltE]; simp
  trans x y z h1 h2 := by rw [ltE] at *; simp at *; omega
  ntrans x y z h1 h2 := by rw [ltE] at *; simp at *; omega
set_option maxHeartbeats 1000000 in
theorem closure124 (x y : EndT) (W : World) : Calls Try.prog 124 #[.agg (encE x).toArray, .agg (encE y).toArray] W fun e w' => e = .returned (.int .i64 (cmpE x y)) ∧ ∃ q os', w' = grow (W.drewN q) os' := by
  have hcon := fun W' => AnyG.cmp_Compare_int cmpL x.1 y.1 W'
  change ∀ W', Calls Try.prog 125 _ _ _ at hcon
  unfold cmpE
  generalize Lib.compareInt x.1 y.1 = r at hcon ⊢
  unfold encE
  go_enter Try.func124, Try.ntmps124
  go_wp2_with (go_at_call 125; refine (hcon _).mono ?_; rintro e w' ⟨rfl, rfl⟩)
  go_ret
  exact ⟨rfl, 0, _, by rw [alloc_eq_grow, alloc_eq_grow, grow_grow]; rfl⟩
def endCells (es : List EndT) : List P1 := es.flatMap fun e => [i64 e.1, i64 e.2.1, i64 e.2.2]
theorem endCells_length (es : List EndT) : (endCells es).length = es.length * 3 := flat_length _ 3 (fun _ => rfl) es
/-- What the sort leaves. -/
def sortE (es : List EndT) : List EndT := if es.length = 0 then [] else (pdq (ltOf cmpE) es.toArray 0 es.length (Lib.bitLen es.length) true true).toList
theorem extract_all {α : Type} (A : Array α) (n : Nat) (h : A.size = n) : A.extract 0 n = A := by
  subst h
  exact Array.extract_size
theorem get_of_some {α : Type} [Inhabited α] {A : Array α} {i : Nat} {x : α} (h : A.toList[i]? = some x) : A[i]! = x := by
  rw [Array.getElem?_toList] at h
  rw [Array.getElem!_eq_getD, Array.getD_eq_getD_getElem?, h]
  rfl
theorem sortE_perm (es : List EndT) : (sortE es).Perm es := by
  unfold sortE
  split
  · rename_i h
    rw [List.length_eq_zero_iff] at h
    subst h
    exact List.Perm.refl _
  · have h := (pdq_sorts (ltOf cmpE) swoE es.toArray 0 es.length (Lib.bitLen es.length) true true (Nat.zero_le _) (by simp) (Or.inl rfl)).1
    have h1 := h.1
    have h2 := h.2.2
    have e1 : es.toArray.extract 0 es.length = es.toArray := extract_all _ _ (by simp)
    have e2 : (pdq (ltOf cmpE) es.toArray 0 es.length (Lib.bitLen es.length) true true).extract 0 es.length = pdq (ltOf cmpE) es.toArray 0 es.length (Lib.bitLen es.length) true true := extract_all _ _ (by rw [h1]; simp)
    rw [e1, e2] at h2
    exact h2
theorem sortE_sorted (es : List EndT) (i j : Nat) (x y : EndT) (hij : i < j) (hi : (sortE es)[i]? = some x) (hj : (sortE es)[j]? = some y) : x.1 ≤ y.1 := by
  have hl := (sortE_perm es).length_eq
  have hjl := (List.getElem?_eq_some_iff.1 hj).1
  rw [hl] at hjl
  clear hl
  unfold sortE at hi hj
  split at hi
  · simp at hi
  · rename_i h0
    rw [if_neg h0] at hj
    have h := (pdq_sorts (ltOf cmpE) swoE es.toArray 0 es.length (Lib.bitLen es.length) true true (Nat.zero_le _) (by simp) (Or.inl rfl)).2 i j (Nat.zero_le _) hij hjl
    rw [get_of_some hi, get_of_some hj, ltE] at h
    simpa using h
theorem flatv_at {α : Type} (f : α → List Value) (n : Nat) (hf : ∀ a, (f a).length = n) (d : α) : ∀ (l : List α) (i k : Nat), i < l.length → k < n → (l.flatMap f)[i * n + k]? = (f (l.getD i d))[k]?
  | [], i, k, h, _ => by simp at h
  | a :: l, 0, k, _, hk => by
    simp only [List.flatMap_cons,Nat.zero_mul,ZC,List.getD_cons_zero]
    rw [List.getElem?_append_left (by rw [hf]; exact hk)]
  | a :: l, i + 1, k, h, hk => by
    simp only [List.flatMap_cons,List.getD_cons_succ]
    have e : (i + 1) * n = i * n + n := Nat.succ_mul ..
    rw [List.getElem?_append_right (by rw [hf]; omega), hf, show (i + 1) * n + k - n = i * n + k by omega]
    exact flatv_at f n hf d l i k (by simpa using h) hk
theorem flatv_length {α : Type} (f : α → List Value) (n : Nat) (hf : ∀ a, (f a).length = n) : ∀ (l : List α), (l.flatMap f).length = l.length * n
  | [] => by simp
  | a :: l => by
    simp only [List.flatMap_cons,List.length_append,hf,flatv_length f n hf l,Zl,Nat.succ_mul]
    omega
theorem get_list {α : Type} [Inhabited α] (l : List α) (i : Nat) (h : i < l.length) : l.toArray[i]! = l.getD i default := by
  rw [Array.getElem!_eq_getD, Array.getD_eq_getD_getElem?, List.getD_eq_getElem?_getD]
  simp
theorem flat_vals (es : List EndT) : flatK encE 3 es.toArray = (es.flatMap encE).toArray := by
  apply Array.ext'
  apply List.ext_getElem?
  intro t
  by_cases ht : t < es.length * 3
  · have h1 := get_flatK encE 3 es.toArray t (by simpa using ht)
    have h2 : t < (flatK encE 3 es.toArray).size := by simpa using ht
    rw [Array.getElem?_toList, Array.getElem?_eq_getElem h2]
    rw [getElem!_pos _ t h2] at h1
    rw [h1]
    have h3 := flatv_at encE 3 (fun _ => rfl) default es (t / 3) (t % 3) (by omega) (by omega)
    rw [show t / 3 * 3 + t % 3 = t by omega] at h3
    show _ = (es.flatMap encE)[t]?
    rw [h3, get_list es (t / 3) (by omega)]
    have hm : t % 3 = 0 ∨ t % 3 = 1 ∨ t % 3 = 2 := by omega
    rcases hm with hm | hm | hm <;> rw [hm] <;> rfl
  · rw [List.getElem?_eq_none (by simp; omega), List.getElem?_eq_none (by show (es.flatMap encE).length ≤ t; rw [flatv_length encE 3 (fun _ => rfl)]; omega)]
theorem frz0 (w : World) (g j : Nat) (cur : Array Value) (e : TypeId) (h : w.heap[g]? = some (.cells cur e (0, 0))) : w.frozen? ⟨g, j, none⟩ = false := frozen_of_row w g j cur e h
/-- **slices.SortFunc at ends of extents.** -/
theorem s123 (es : List EndT) (hl : es.length ≤ 4294967296) : ACallsS Try.prog 123 124 185 3 es.length (endCells es) (endCells (sortE es)) := by
  refine ⟨⟨_, Try.func123, by kernel_rfl, by kernel_rfl⟩, fun F k C w v us hF hown hul hR => callsIn_of hF ?_⟩
  have hus : us = es.flatMap encE := by
    apply List.ext_getElem?
    intro t
    rw [endCells_length] at hul
    by_cases ht : t < es.length * 3
    · have h3 := flatv_at encE 3 (fun _ => rfl) default es (t / 3) (t % 3) (by omega) (by omega)
      have h4 := flat_at (fun e : EndT => [i64 e.1, i64 e.2.1, i64 e.2.2]) 3 (fun _ => rfl) default es (t / 3) (t % 3) (by omega) (by omega)
      rw [show t / 3 * 3 + t % 3 = t by omega] at h3 h4
      have hu : us[t]? = some (us[t]'(by omega)) := List.getElem?_eq_getElem _
      have hm : t % 3 = 0 ∨ t % 3 = 1 ∨ t % 3 = 2 := by omega
      rw [h3, hu]
      rcases hm with hm | hm | hm <;> rw [hm] at h4 ⊢ <;>
      · have hr := hR t _ _ h4 hu
        generalize us[t]'(by omega) = u at hr ⊢
        cases hr
        rfl
    · rw [List.getElem?_eq_none (by omega), List.getElem?_eq_none (by rw [flatv_length encE 3 (fun _ => rfl)]; omega)]
  subst hus
  rcases Nat.eq_zero_or_pos es.length with h0 | h0
  · have hs : sortE es = es := by rw [sortE, if_pos h0, List.length_eq_zero_iff.1 h0]
    rw [hs, h0]
    rw [h0] at hown
    obtain ⟨p, cap, rfl⟩ : ∃ p cap, v = .slice p 0 cap := by
      rcases hown.2 with ⟨rfl, _⟩ | ⟨g, cap, cur, rfl, _⟩
      · exact ⟨_, _, rfl⟩
      · exact ⟨_, _, rfl⟩
    have hcon := AnyF.slices_SortFunc_none sortL p cap (.func (.func 124) #[] #[]) w
    change Calls Try.prog 123 _ _ _ at hcon
    refine hcon.mono ?_
    rintro e w' ⟨rfl, rfl⟩
    exact ⟨⟨_, rfl⟩, ⟨rfl, rfl, rfl, Nat.le_refl _, fun _ _ _ => rfl⟩, _, hown, hul, hR⟩
  · rcases hown.2 with ⟨_, h⟩ | ⟨g, cap, cur, rfl, hbg, hheap, hnc, hcm, hcs, htake⟩
    · omega
    · have eg : ∀ args w, (callFunc 124 args).run Try.prog w = .ok (.enter 124 args) w := enters_of Try.func124 (by kernel_rfl) rfl
      have hlen : (es.flatMap encE).length = es.length * 3 := flatv_length encE 3 (fun _ => rfl) es
      have hH : HoldsK encE 3 w g 0 es.toArray := by
        unfold HoldsK
        rw [flat_vals]
        intro j hj
        simp only [List.size_toArray] at hj
        refine ⟨?_, frz0 w g _ cur 185 hheap⟩
        rw [cell_of_row w g _ cur 185 (0, 0) hheap, get_list _ j hj, Nat.zero_add]
        have h1 : (cur.toList.take (es.length * 3))[j]? = (es.flatMap encE)[j]? := by rw [htake]
        rw [List.getElem?_take, if_pos (by omega)] at h1
        rw [← Array.getElem?_toList, h1, List.getElem?_eq_getElem hj, List.getD_eq_getElem?_getD, List.getElem?_eq_getElem hj]
        rfl
      have hcon := AnyQ.slices_SortFunc_eq sortL 3 Try.isAgg185 Try.sizeOf185 encE (fun _ => rfl) (fun x v hv => by simp [encE] at hv; rcases hv with rfl | rfl | rfl <;> rfl) cmpE swoE 124 #[] g 0 cap es.toArray w eg
        (fun _ _ _ _ x y => closure124 x y _) hH (Array.getElem?_eq_some_iff.1 hheap).1 (by simp; omega)
      change Calls Try.prog 123 _ _ _ at hcon
      simp only [List.size_toArray] at hcon
      refine hcon.mono ?_
      rintro e w' ⟨rfl, n, os, rfl⟩
      have hsE : pdq (ltOf cmpE) es.toArray 0 es.length (Lib.bitLen es.length) true true = (sortE es).toArray := by
        rw [sortE, if_neg (by omega)]
      rw [hsE]
      have hsl : (sortE es).length = es.length := (sortE_perm es).length_eq
      have hlen' : ((sortE es).flatMap encE).length = es.length * 3 := by rw [flatv_length encE 3 (fun _ => rfl), hsl]
      have hlt := (Array.getElem?_eq_some_iff.1 hheap).1
      let cur' : Array Value := putCells id 0 (((sortE es).flatMap encE).toArray) cur
      have hheap' : ∀ k, k < w.heap.size → (sortWorldK encE 3 w g 0 n (sortE es).toArray os).heap[k]? = if k = g then some (.cells cur' 185 (0, 0)) else w.heap[k]? := by
        intro k hk
        unfold sortWorldK putRowK
        rw [flat_vals]
        show ((w.heap.modify g (onCells (putCells id 0 (((sortE es).flatMap encE).toArray)))) ++ os)[k]? = _
        rw [Array.getElem?_append_left (by rw [Array.size_modify]; exact hk), Array.getElem?_modify]
        by_cases hkg : g = k
        · subst hkg
          rw [if_pos rfl, if_pos rfl, hheap]
          rfl
        · rw [if_neg hkg, if_neg (fun h => hkg h.symm)]
      refine ⟨⟨_, rfl⟩, ⟨rfl, rfl, rfl, ?_, fun k hk hne => ?_⟩, (sortE es).flatMap encE, ⟨hlen', .inr ⟨g, cap, cur', rfl, hbg, ?_, hnc, hcm, ?_, ?_⟩⟩, ?_, ?_⟩
      · show w.heap.size ≤ ((w.heap.modify g _) ++ os).size
        rw [Array.size_append, Array.size_modify]
        omega
      · rw [hheap' k hk, if_neg (fun h => hne (by subst h; rfl))]
      · rw [hheap' g hlt, if_pos rfl]
      · show (putCells id 0 _ cur).size = _
        rw [putCells, Array.size_mapIdx]
        exact hcs
      · apply List.ext_getElem?
        intro t
        rw [List.getElem?_take]
        by_cases ht : t < es.length * 3
        · rw [if_pos ht]
          show (putCells id 0 (((sortE es).flatMap encE).toArray) cur).toList[t]? = _
          have htc : t < cur.size := by
            have := Nat.mul_le_mul_right 3 hnc
            omega
          rw [Array.getElem?_toList, putCells, Array.getElem?_mapIdx, Array.getElem?_eq_getElem htc, Option.map_some, if_pos ⟨Nat.zero_le _, by rw [List.size_toArray, hlen']; omega⟩, Nat.sub_zero, get_list _ t (by omega)]
          rw [List.getD_eq_getElem?_getD, List.getElem?_eq_getElem (show t < ((sortE es).flatMap encE).length by omega)]
          rfl
        · rw [if_neg ht, List.getElem?_eq_none (by omega)]
      · rw [hlen', endCells_length, hsl]
      · intro t x u hx hu
        have ht : t < es.length * 3 := by have := (List.getElem?_eq_some_iff.1 hu).1; omega
        have h3 := flatv_at encE 3 (fun _ => rfl) default (sortE es) (t / 3) (t % 3) (by omega) (by omega)
        have h4 := flat_at (fun e : EndT => [i64 e.1, i64 e.2.1, i64 e.2.2]) 3 (fun _ => rfl) default (sortE es) (t / 3) (t % 3) (by omega) (by omega)
        rw [show t / 3 * 3 + t % 3 = t by omega] at h3 h4
        change (endCells (sortE es))[t]? = _ at h4
        rw [hx] at h4
        rw [hu] at h3
        have hm : t % 3 = 0 ∨ t % 3 = 1 ∨ t % 3 = 2 := by omega
        rcases hm with hm | hm | hm <;> rw [hm] at h3 h4 <;>
        · injection h3 with h3
          injection h4 with h4
          subst h3
          subst h4
          exact .v _ rfl
end Go.Proofs.Ytldcoekbgfaomaa
end
section
namespace Go.Proofs.Ytldcoekbgfaomaa
open Go.RowKit
set_option maxRecDepth 20000
set_option maxHeartbeats 4000000
attribute [local irreducible] AOps AOpsD AW
/-- The ends of some extents of list i. -/
def endsOf (i : Nat) (l : List (Int × Int)) : List EndT := l.flatMap fun e => [(e.1, (i : Int), 1), (e.1 + e.2, (i : Int), -1)]
def rawAll (ls : List (List (Int × Int))) : List EndT := ls.zipIdx.flatMap fun p => endsOf p.2 p.1
theorem endsOf_length (i : Nat) (l : List (Int × Int)) : (endsOf i l).length = 2 * l.length := by
  induction l with
  | nil => rfl
  | cons x l ih =>
    simp only [endsOf,List.flatMap_cons,List.length_append,Zl,Zo] at ih ⊢
    omega
theorem endsOf_take (i : Nat) (l : List (Int × Int)) (k : Nat) (h : k < l.length) : endsOf i (l.take (k + 1)) = endsOf i (l.take k) ++ [((l.getD k (0, 0)).1, (i : Int), 1), ((l.getD k (0, 0)).1 + (l.getD k (0, 0)).2, (i : Int), -1)] := by
  rw [getD_take_succ_e l k h]; simp [endsOf]
theorem rawAll_take (ls : List (List (Int × Int))) (i : Nat) (h : i < ls.length) : rawAll (ls.take (i + 1)) = rawAll (ls.take i) ++ endsOf i (ls.getD i []) := by
  have e : ls.take (i + 1) = ls.take i ++ [ls.getD i []] := by rw [List.take_add_one]; simp [h]
  rw [e, rawAll, rawAll, List.zipIdx_append]
  simp [h, Nat.min_eq_left (Nat.le_of_lt h)]
@[reducible] def endsP (es : List EndT) : P1 := .sl es.length (endCells es)
theorem endCells_snoc2 (es : List EndT) (a b c a' b' c' : Int) : endCells es ++ [i64 a, i64 b, i64 c, i64 a', i64 b', i64 c'] = endCells (es ++ [(a, b, c), (a', b', c')]) := by simp [endCells]
theorem endCells_part (l : List EndT) (i : Nat) (h : i < l.length) : ((endCells l).drop (i * 3)).take 3 = [i64 (l.getD i default).1, i64 (l.getD i default).2.1, i64 (l.getD i default).2.2] :=
  flat_part (fun e : EndT => [i64 e.1, i64 e.2.1, i64 e.2.2]) 3 (fun _ => rfl) default l i h
theorem endCells_at0 (l : List EndT) (i : Nat) (h : i < l.length) : (endCells l)[i * 3]? = some (i64 (l.getD i default).1) := flat_at (fun e : EndT => [i64 e.1, i64 e.2.1, i64 e.2.2]) 3 (fun _ => rfl) default l i 0 h (by omega)
/-- An extent within the sectors. -/
def GoodE (e : Int × Int) : Prop := ∃ s c : Nat, e = ((s : Int), (c : Int)) ∧ 1 ≤ c ∧ s + c ≤ 4096
theorem map_at_x (f : List (Int × Int) → P1) (l : List (List (Int × Int))) (i : Nat) (h : i < l.length) : (l.map f)[i]? = some (f (l.getD i [])) := by
  simp [h]
theorem c120 (ls : List (List (Int × Int))) (h2 : ls.length ≤ 2) (hs : ∀ l ∈ ls, l.length ≤ 8192) (hg : ∀ l ∈ ls, ∀ e ∈ l, GoodE e) : ACalls Try.prog 120 [.p (.sl ls.length (ls.map exts))] (.p (endsP (sortE (rawAll ls)))) := by
  refine acalls_of tb_ok Try.func120 (c := _) rfl (by kernel_rfl) ?_
  intro X hP hX hro hpl
  have hb : tb.Ok X.P := hP ▸ tb_ok
  change AW X _ _ ⟨[], [.p (.sl ls.length (ls.map exts)), .any, .any, .any, .any, .any, .any, .any, .any, .any, .any, .any, .any, .any, .any, .any, .any, .any, .any, .any, .any, .any, .any, .any, .any, .any, .any, .any, .any, .any, .any, .any, .any, .any, .any, .any, .any, .any, .any, .any, .any, .any, .any, .any, .any], [], []⟩
  refine aw_seq ?_
  refine aw_regK hX hb [0] rfl (σ' := ?s1) (fun K hK => ?h1) ?n1
  case h1 =>
    (refine st_op rfl (by simp (disch := omega) only [stepf,callOf,qop,fop,St.ev,St.put,cd,zd,Value.oneCell',tb_T,TypeDesc.aggB,getD_0,getD_s,Ze,Zd,Zc,Za,Zb,Zr,ZE,ZF,Zf,Zq,Zg,i64_w,Zt,Zs,map_at_x,Zh,extCells_part,extCells_length,extCells_at0,extCells_at1] <;> exact rfl) ?_)
    refine aops_nil ?_
    exact hK
  refine exq_n ?_
  refine aw_seq ?_
  refine aw_regK hX hb [0] rfl (σ' := ?s2) (fun K hK => ?h2) ?n2
  case h2 =>
    (refine st_op rfl (by simp (disch := omega) only [stepf,callOf,qop,fop,St.ev,St.put,cd,zd,Value.oneCell',tb_T,TypeDesc.aggB,getD_0,getD_s,Ze,Zd,Zc,Za,Zb,Zr,ZE,ZF,Zf,Zq,Zg,i64_w,Zt,Zs,map_at_x,Zh,extCells_part,extCells_length,extCells_at0,extCells_at1] <;> exact rfl) ?_)
    refine aops_nil ?_
    exact hK
  refine exq_n ?_
  refine aw_nil 3 185 3 rfl (σ' := ?s3) ?h3 ?n3
  case h3 => simp only [St.nilSlot,St.addVec,Za,Zb,Zl,Zo,ZL,ZM]; exact rfl
  refine aw_seq ?_
  refine aw_seq ?_
  refine aw_regK hX hb [0, 1, 2] rfl (σ' := ?s4) (fun K hK => ?h4) ?n4
  case h4 =>
    iterate 3 (refine st_op rfl (by simp (disch := omega) only [stepf,callOf,qop,fop,St.ev,St.put,cd,zd,Value.oneCell',tb_T,TypeDesc.aggB,getD_0,getD_s,Ze,Zd,Zc,Za,Zb,Zr,ZE,ZF,Zf,Zq,Zg,i64_w,Zt,Zs,qLen,t3,ti3,t35,ti35,t40,ti40,t186,ti186,map_at_x,Zh,extCells_part,extCells_length,extCells_at0,extCells_at1] <;> exact rfl) ?_)
    refine aops_nil ?_
    exact hK
  refine exq_n ?_
  refine aw_block ?_
  refine aw_loop (ι := Nat × List EndT) (fun p => p.1 ≤ ls.length ∧ p.2 = rawAll (ls.take p.1) ∧ p.2.length ≤ 16384 * p.1) (fun p => ⟨[], [.any, .any, .any, .vref 0, .any, .any, .any, .any, .any, .any, .any, .p (.sl ls.length (ls.map exts)), .p (i64 ls.length), .p (i64 p.1), .any, .any, .any, .any, .any, .any, .any, .any, .any, .any, .any, .any, .any, .any, .any, .any, .any, .any, .any, .any, .any, .any, .any, .any, .any, .any, .any, .any, .any, .any, .any], [], [some ⟨185, 3, p.2.length, endCells p.2⟩]⟩) (fun p => ls.length - p.1) (0, []) (by exact ⟨Nat.zero_le _, rfl, Nat.le_refl _⟩) (wk_le ⟨rfl, leL_a (leL_a (leL_a (leL_r rfl (leL_a (leL_a (leL_a (leL_a (leL_a (leL_a (leL_a (leL_r rfl (leL_r rfl (leL_r rfl (leL_a (leL_a (leL_a (leL_a (leL_a (leL_a (leL_a (leL_a (leL_a (leL_a (leL_a (leL_a (leL_a (leL_a (leL_a (leL_a (leL_a (leL_a (leL_a (leL_a (leL_a (leL_a (leL_a (leL_a (leL_a (leL_a (leL_a (leL_a (leL_a (leL_a (leL_a (leL_nil))))))))))))))))))))))))))))))))))))))))))))), (leB_nil _), (leV_r rfl (leV_nil _)), rfl, rfl⟩) ?_
  rintro ⟨i, out⟩ ⟨hi, ho, hol⟩
  dsimp only at hi ho hol ⊢
  refine aw_seq ?_
  refine aw_regK hX hb [0] rfl (σ' := ?s5) (fun K hK => ?h5) ?n5
  case h5 =>
    (refine st_op rfl (by simp (disch := omega) only [stepf,callOf,qop,fop,St.ev,St.put,cd,zd,Value.oneCell',tb_T,TypeDesc.aggB,getD_0,getD_s,Ze,Zd,Zc,Za,Zb,Zr,ZE,ZF,Zf,Zq,Zg,i64_w,Zt,Zs,qBin,iop,t3,ti3,map_at_x,Zh,extCells_part,extCells_length,extCells_at0,extCells_at1] <;> exact rfl) ?_)
    refine aops_nil ?_
    exact hK
  refine exq_n ?_
  refine aw_seq ?_
  refine aw_cond _ rfl (fun hc0 => ?_) (fun hc0 => ?_)
  · try simp only [Zp,Zi,ZK,ZJ,ne_eq,Zn,Zm,ZB,ZA,ZI,not_or,not_and,Zu] at hc0
    refine aw_skip ?_
    refine exq_n ?_
    refine aw_seq ?_
    refine aw_block ?_
    refine aw_seq ?_
    refine aw_regK hX hb [0, 1, 2, 3, 4] rfl (σ' := ?s6) (fun K hK => ?h6) ?n6
    case h6 =>
      iterate 5 (refine st_op rfl (by simp (disch := omega) only [stepf,callOf,qop,fop,St.ev,St.put,cd,zd,Value.oneCell',tb_T,TypeDesc.aggB,getD_0,getD_s,Ze,Zd,Zc,Za,Zb,Zr,ZE,ZF,Zf,Zq,Zg,i64_w,Zt,Zs,Int.toNat_zero,Int.toNat_one,toNat_pred,toNat_succ,qIndexAddr,ZO,Nat.mul_one,ZC,Nat.zero_mul,Zh,Zl,Zo,Zv,Zw,Zj,Zk,Zx,Zy,qLoad,bload,pload,pureAll,D.pure?,ZD,t3,ti3,t35,ti35,t40,ti40,t186,ti186,map_at_x,extCells_part,extCells_length,extCells_at0,extCells_at1] <;> exact rfl) ?_)
      refine aops_nil ?_
      exact hK
    refine exq_n ?_
    refine aw_seq ?_
    refine aw_regK hX hb [0, 1, 2] rfl (σ' := ?s7) (fun K hK => ?h7) ?n7
    case h7 =>
      iterate 3 (refine st_op rfl (by simp (disch := omega) only [stepf,callOf,qop,fop,St.ev,St.put,cd,zd,Value.oneCell',tb_T,TypeDesc.aggB,getD_0,getD_s,Ze,Zd,Zc,Za,Zb,Zr,ZE,ZF,Zf,Zq,Zg,i64_w,Zt,Zs,qLen,t3,ti3,t5,ti5,t35,ti35,t40,ti40,map_at_x,Zh,extCells_part,extCells_length,extCells_at0,extCells_at1] <;> exact rfl) ?_)
      refine aops_nil ?_
      exact hK
    refine exq_n ?_
    refine aw_block ?_
    refine aw_loop (ι := Nat × List EndT) (fun p => p.1 ≤ (ls.getD i []).length ∧ p.2 = rawAll (ls.take i) ++ endsOf i ((ls.getD i []).take p.1) ∧ p.2.length = out.length + 2 * p.1) (fun p => ⟨[], [.any, .any, .any, .vref 0, .p (i64 i), .any, .any, .any, .any, .any, .any, .p (.sl ls.length (ls.map exts)), .p (i64 ls.length), .p (i64 i), .any, .any, .any, .any, .p (exts (ls.getD i [])), .p (i64 (ls.getD i []).length), .p (i64 p.1), .any, .any, .any, .any, .any, .any, .any, .any, .any, .any, .any, .any, .any, .any, .any, .any, .any, .any, .any, .any, .any, .any, .any, .any], [], [some ⟨185, 3, p.2.length, endCells p.2⟩]⟩) (fun p => (ls.getD i []).length - p.1) (0, out) (by exact ⟨Nat.zero_le _, by dsimp only; rw [ho]; simp [endsOf], by simp⟩) (wk_le ⟨rfl, leL_a (leL_a (leL_a (leL_r (by first | rfl | (rw [← endCells_snoc2]; simp)) (leL_r (by first | rfl | (rw [← endCells_snoc2]; simp)) (leL_a (leL_a (leL_a (leL_a (leL_a (leL_a (leL_r (by first | rfl | (rw [← endCells_snoc2]; simp)) (leL_r (by first | rfl | (rw [← endCells_snoc2]; simp)) (leL_r (by first | rfl | (rw [← endCells_snoc2]; simp)) (leL_a (leL_a (leL_a (leL_a (leL_r (by first | rfl | (rw [← endCells_snoc2]; simp)) (leL_r (by first | rfl | (rw [← endCells_snoc2]; simp)) (leL_r (by first | rfl | (rw [← endCells_snoc2]; simp)) (leL_a (leL_a (leL_a (leL_a (leL_a (leL_a (leL_a (leL_a (leL_a (leL_a (leL_a (leL_a (leL_a (leL_a (leL_a (leL_a (leL_a (leL_a (leL_a (leL_a (leL_a (leL_a (leL_a (leL_a (leL_nil))))))))))))))))))))))))))))))))))))))))))))), (leB_nil _), (leV_r (by first | rfl | (rw [← endCells_snoc2]; simp)) (leV_nil _)), rfl, rfl⟩) ?_
    rintro ⟨k, out2⟩ ⟨hk, ho2, hol2⟩
    dsimp only at hk ho2 hol2 ⊢
    have hli : ls.getD i [] ∈ ls := getD_mem ls [] i (by omega)
    have hll := hs _ hli
    refine aw_seq ?_
    refine aw_regK hX hb [0] rfl (σ' := ?s8) (fun K hK => ?h8) ?n8
    case h8 =>
      (refine st_op rfl (by simp (disch := omega) only [stepf,callOf,qop,fop,St.ev,St.put,cd,zd,Value.oneCell',tb_T,TypeDesc.aggB,getD_0,getD_s,Ze,Zd,Zc,Za,Zb,Zr,ZE,ZF,Zf,Zq,Zg,i64_w,Zt,Zs,qBin,iop,t3,ti3,map_at_x,Zh,extCells_part,extCells_length,extCells_at0,extCells_at1] <;> exact rfl) ?_)
      refine aops_nil ?_
      exact hK
    refine exq_n ?_
    refine aw_seq ?_
    refine aw_cond _ rfl (fun hc1 => ?_) (fun hc1 => ?_)
    · try simp only [Zp,Zi,ZK,ZJ,ne_eq,Zn,Zm,ZB,ZA,ZI,not_or,not_and,Zu] at hc1
      obtain ⟨s, c, he, hc1, hc2⟩ := hg _ hli _ (getD_mem (ls.getD i []) (0, 0) k (by omega))
      refine aw_skip ?_
      refine exq_n ?_
      refine aw_seq ?_
      refine aw_block ?_
      refine aw_seq ?_
      refine aw_regK hX hb [0, 1, 2, 3] rfl (σ' := ?s9) (fun K hK => ?h9) ?n9
      case h9 =>
        iterate 4 (refine st_op rfl (by simp (disch := omega) only [stepf,callOf,qop,fop,St.ev,St.put,cd,zd,Value.oneCell',tb_T,TypeDesc.aggB,getD_0,getD_s,Ze,Zd,Zc,Za,Zb,Zr,ZE,ZF,Zf,Zq,Zg,i64_w,Zt,Zs,Int.toNat_zero,Int.toNat_one,toNat_pred,toNat_succ,qIndexAddr,ZO,Nat.mul_one,ZC,Nat.zero_mul,Zh,Zl,Zo,Zv,Zw,Zj,Zk,Zx,Zy,qLoad,bload,pload,pureAll,D.pure?,ZD,ZM,ZL,ZG,ZH,St.addBox,Value.cells,fStore,D.boxCells,D.live,D.cells?,ZN,St.setVec,t3,ti3,t5,ti5,t22,ti22,t35,ti35,t40,ti40,t50,ti50,map_at_x,extCells_part,extCells_length,extCells_at0,extCells_at1] <;> exact rfl) ?_)
        refine aops_nil ?_
        exact hK
      refine exq_n ?_
      refine aw_seq ?_
      refine aw_regK hX hb [0, 1, 2, 3, 4, 5, 6, 7, 8] rfl (σ' := ?s10) (fun K hK => ?h10) ?n10
      case h10 =>
        (refine st_op rfl (by simp (disch := omega) only [stepf,callOf,qop,fop,St.ev,St.put,cd,zd,Value.oneCell',tb_T,TypeDesc.aggB,getD_0,getD_s,Ze,Zd,Zc,Za,Zb,Zr,ZE,ZF,Zf,Zq,Zg,i64_w,Zt,Zs,Zl,Zo,Zv,Zw,Zj,Zk,Zx,Zy,qLoad,bload,pload,pureAll,D.pure?,ZC,ZD,pvAll,D.pv?,qTup,PV.d,t1,ti1,t2,ti2,t3,ti3,t24,ti24,t26,ti26,t27,ti27,t35,ti35,t58,ti58,t60,ti60,map_at_x,Zh,extCells_part,extCells_length,extCells_at0,extCells_at1,he] <;> exact rfl) ?_)
        refine st_call rfl (by simp only [callOf,St.ev,getD_0,getD_s,pvAll,D.pv?,ZG,ZH,zd,cd,Value.oneCell',Zr] <;> exact rfl) (acK hP (c122 s c hc1 hc2)) (by simp only [St.put,Za,Zb] <;> exact rfl) ?_
        iterate 7 (refine st_op rfl (by simp (disch := omega) only [stepf,callOf,qop,fop,St.ev,St.put,cd,zd,Value.oneCell',tb_T,TypeDesc.aggB,getD_0,getD_s,Ze,Zd,Zc,Za,Zb,Zr,ZE,ZF,Zf,Zq,Zg,i64_w,Zt,Zs,Zl,Zo,Zv,Zw,Zj,Zk,Zx,Zy,qLoad,bload,pload,pureAll,D.pure?,ZC,ZD,pvAll,D.pv?,qTup,PV.d,t1,ti1,t2,ti2,t3,ti3,t24,ti24,t26,ti26,t27,ti27,t35,ti35,t58,ti58,t60,ti60,map_at_x,Zh,extCells_part,extCells_length,extCells_at0,extCells_at1,he] <;> exact rfl) ?_)
        refine aops_nil ?_
        exact hK
      refine exq_n ?_
      refine aw_seq ?_
      refine aw_regK hX hb [0] rfl (σ' := ?s11) (fun K hK => ?h11) ?n11
      case h11 =>
        (refine st_op rfl (by simp (disch := omega) only [stepf,callOf,qop,fop,St.ev,St.put,cd,zd,Value.oneCell',tb_T,TypeDesc.aggB,getD_0,getD_s,Ze,Zd,Zc,Za,Zb,Zr,ZE,ZF,Zf,Zq,Zg,i64_w,Zt,Zs,map_at_x,Zh,extCells_part,extCells_length,extCells_at0,extCells_at1] <;> exact rfl) ?_)
        refine aops_nil ?_
        exact hK
      refine exq_n ?_
      refine aw_cond _ rfl (fun hc2 => ?_) (fun hc2 => ?_)
      · try simp only [Zp,Zi,ZK,ZJ,ne_eq,Zn,Zm,ZB,ZA,ZI,not_or,not_and,Zu] at hc2
        refine aw_regK hX hb [0, 1, 2, 3, 4, 5, 6, 7, 8, 9] rfl (σ' := ?s12) (fun K hK => ?h12) ?n12
        case h12 =>
          iterate 10 (refine st_op rfl (by simp (disch := omega) only [stepf,callOf,qop,fop,St.ev,St.put,cd,zd,Value.oneCell',tb_T,TypeDesc.aggB,getD_0,getD_s,Ze,Zd,Zc,Za,Zb,Zr,ZE,ZF,Zf,Zq,Zg,i64_w,Zt,Zs,tb_W,tbO_W,qBuild,qBuildD,D.cell1,range_1,range_2,range_3,range_4,range_5,List.all_cons,List.all_nil,bfill,TI.place,TI.zeros,TI.kindOk,D.cells?,D.pure?,zp,Value.cells,ZQ,ZP,Zl,Zo,tb_N,tbO_N,tbW_N,tb_O,fBuildSlice,catCells,ZG,ZH,ZL,ZM,ZN,sec8_length,Nat.reduceAdd,Nat.reduceMul,fAppend,appV,St.demote,D.demote,St.setVec,Zh,List.length_append,ZC,Nat.mul_one,reduceIte,t1,ti1,t2,ti2,t3,ti3,t4,ti4,t35,ti35,t181,ti181,t185,ti185,map_at_x,extCells_part,extCells_length,extCells_at0,extCells_at1,Zv,Zw,Zj,Zk,Zx,Zy,endCells_length] <;> exact rfl) ?_)
          refine aops_nil ?_
          exact hK
        refine exb_n ?_
        refine exq_n ?_
        refine aw_regK hX hb [0, 1] rfl (σ' := ?s13) (fun K hK => ?h13) ?n13
        case h13 =>
          iterate 2 (refine st_op rfl (by simp (disch := omega) only [stepf,callOf,qop,fop,St.ev,St.put,cd,zd,Value.oneCell',tb_T,TypeDesc.aggB,getD_0,getD_s,Ze,Zd,Zc,Za,Zb,Zr,ZE,ZF,Zf,Zq,Zg,i64_w,Zt,Zs,qBin,iop,t1,ti1,t3,ti3,t35,ti35,t40,ti40,map_at_x,Zh,extCells_part,extCells_length,extCells_at0,extCells_at1] <;> exact rfl) ?_)
          refine aops_nil ?_
          exact hK
        refine exq_n ?_
        exact ⟨(k + 1, out2 ++ [((s : Int), (i : Int), 1), (((s + c : Nat) : Int), (i : Int), -1)]), by exact ⟨by dsimp only; omega, by dsimp only; rw [ho2, endsOf_take i _ k (by omega), he, List.append_assoc]; simp, by dsimp only; simp; omega⟩, by (try dsimp only); omega, wk_le ⟨rfl, leL_a (leL_a (leL_a (leL_r (by first | rfl | (rw [← endCells_snoc2]; simp)) (leL_r (by first | rfl | (rw [← endCells_snoc2]; simp)) (leL_a (leL_a (leL_a (leL_a (leL_a (leL_a (leL_r (by first | rfl | (rw [← endCells_snoc2]; simp)) (leL_r (by first | rfl | (rw [← endCells_snoc2]; simp)) (leL_r (by first | rfl | (rw [← endCells_snoc2]; simp)) (leL_a (leL_a (leL_a (leL_a (leL_r (by first | rfl | (rw [← endCells_snoc2]; simp)) (leL_r (by first | rfl | (rw [← endCells_snoc2]; simp)) (leL_r (by first | rfl | (rw [← endCells_snoc2]; simp)) (leL_a (leL_a (leL_a (leL_a (leL_a (leL_a (leL_a (leL_a (leL_a (leL_a (leL_a (leL_a (leL_a (leL_a (leL_a (leL_a (leL_a (leL_a (leL_a (leL_a (leL_a (leL_a (leL_a (leL_a (leL_nil))))))))))))))))))))))))))))))))))))))))))))), (leB_nil _), (leV_r (by first | rfl | (rw [← endCells_snoc2]; simp)) (leV_nil _)), rfl, rfl⟩⟩
      · try simp only [Zp,Zi,ZK,ZJ,ne_eq,Zn,Zm,ZB,ZA,ZI,not_or,not_and,Zu] at hc2
        cases hc2
    · try simp only [Zp,Zi,ZK,ZJ,ne_eq,Zn,Zm,ZB,ZA,ZI,not_or,not_and,Zu] at hc1
      refine aw_exit ?_
      refine exq_e ?_
      refine exq_e ?_
      refine exb_h ?_
      refine exb_n ?_
      refine exq_n ?_
      refine aw_regK hX hb [0, 1] rfl (σ' := ?s14) (fun K hK => ?h14) ?n14
      case h14 =>
        iterate 2 (refine st_op rfl (by simp (disch := omega) only [stepf,callOf,qop,fop,St.ev,St.put,cd,zd,Value.oneCell',tb_T,TypeDesc.aggB,getD_0,getD_s,Ze,Zd,Zc,Za,Zb,Zr,ZE,ZF,Zf,Zq,Zg,i64_w,Zt,Zs,qBin,iop,t1,ti1,t3,ti3,map_at_x,Zh,extCells_part,extCells_length,extCells_at0,extCells_at1] <;> exact rfl) ?_)
        refine aops_nil ?_
        exact hK
      refine exq_n ?_
      exact ⟨(i + 1, out2), by exact ⟨by dsimp only; omega, by dsimp only; rw [ho2, rawAll_take ls i (by omega), show k = (ls.getD i []).length by omega, List.take_length], by dsimp only; omega⟩, by (try dsimp only); omega, wk_le ⟨rfl, leL_a (leL_a (leL_a (leL_r rfl (leL_a (leL_a (leL_a (leL_a (leL_a (leL_a (leL_a (leL_r rfl (leL_r rfl (leL_r rfl (leL_a (leL_a (leL_a (leL_a (leL_a (leL_a (leL_a (leL_a (leL_a (leL_a (leL_a (leL_a (leL_a (leL_a (leL_a (leL_a (leL_a (leL_a (leL_a (leL_a (leL_a (leL_a (leL_a (leL_a (leL_a (leL_a (leL_a (leL_a (leL_a (leL_a (leL_a (leL_nil))))))))))))))))))))))))))))))))))))))))))))), (leB_nil _), (leV_r rfl (leV_nil _)), rfl, rfl⟩⟩
  · try simp only [Zp,Zi,ZK,ZJ,ne_eq,Zn,Zm,ZB,ZA,ZI,not_or,not_and,Zu] at hc0
    refine aw_exit ?_
    refine exq_e ?_
    refine exq_e ?_
    refine exb_h ?_
    refine exq_n ?_
    refine aw_seq ?_
    refine aw_regK hX hb [0, 1] rfl (σ' := ?s15) (fun K hK => ?h15) ?n15
    case h15 =>
      (refine st_op rfl (by simp (disch := omega) only [stepf,callOf,qop,fop,St.ev,St.put,cd,zd,Value.oneCell',tb_T,TypeDesc.aggB,getD_0,getD_s,Ze,Zd,Zc,Za,Zb,Zr,ZE,ZF,Zf,Zq,Zg,i64_w,Zt,Zs,pvAll,D.pv?,t3,ti3,t181,ti181,t185,ti185,t190,ti190,map_at_x,Zh,extCells_part,extCells_length,extCells_at0,extCells_at1] <;> exact rfl) ?_)
      refine st_srt rfl rfl (by simp only [St.ev,getD_0,getD_s,zd,cd,Value.oneCell',Zr] <;> exact rfl) (by simp only [St.ev,getD_0,getD_s,ZG,ZH] <;> exact rfl) rfl (acSS hP (s123 out (by omega))) (by simp only [St.setVec,St.put,Za,Zb] <;> exact rfl) ?_
      refine aops_nil ?_
      exact hK
    refine exq_n ?_
    refine aw_seq ?_
    refine aw_frz 0 rfl (σ' := ?s17) ?h17 ?n17
    case h17 => simp only [St.freeze,D.freeze,ZG,ZH,Za,Zb,Zr,reduceIte,Nat.reduceEqDiff]; exact rfl
    refine aw_regK hX hb [0, 1] rfl (σ' := ?s16) (fun K hK => ?h16) ?n16
    case h16 =>
      iterate 2 (refine st_op rfl (by simp (disch := omega) only [stepf,callOf,qop,fop,St.ev,St.put,cd,zd,Value.oneCell',tb_T,TypeDesc.aggB,getD_0,getD_s,Ze,Zd,Zc,Za,Zb,Zr,ZE,ZF,Zf,Zq,Zg,i64_w,Zt,Zs,t3,ti3,map_at_x,Zh,extCells_part,extCells_length,extCells_at0,extCells_at1] <;> exact rfl) ?_)
      refine aops_nil ?_
      exact hK
    refine exq_n ?_
    refine aw_ret ?_
    exact ret_r rfl (resOf_one rfl (by first | rfl | (rw [ho, List.take_of_length_le (by omega)]; exact congrArg D.p (congrArg (fun n => P1.sl n _) (sortE_perm _).length_eq.symm))))
end Go.Proofs.Ytldcoekbgfaomaa
end
section
namespace Go.Proofs.Ytldcoekbgfaomaa
open Go.RowKit
set_option maxRecDepth 20000
set_option maxHeartbeats 4000000
attribute [local irreducible] AOps AOpsD AW
def sameNext (x : EndT) : List EndT → Bool
  | [] => false
  | y :: _ => decide (y.1 = x.1)
/-- The maximal extents, out of the ends in order: d extents are open, the present one began at st. -/
def sweepL : List EndT → Int → Int → Bool → List (Int × Int)
  | [], _, _, _ => []
  | x :: r, d, st, ins =>
    if sameNext x r = true then sweepL r (d + x.2.2) st ins
    else if d + x.2.2 > 0 then sweepL r (d + x.2.2) (if ins then st else x.1) true
    else (if ins then [(st, x.1 - st)] else []) ++ sweepL r (d + x.2.2) st false
/-- Ends of one list's extents. -/
def GoodL (L : List EndT) : Prop := L.length ≤ 32768 ∧ ∀ x ∈ L, 0 ≤ x.1 ∧ x.1 ≤ 4096 ∧ x.2.1 = 0 ∧ (x.2.2 = 1 ∨ x.2.2 = -1)
structure SwI (L : List EndT) (i : Nat) (d st : Int) (ins : Bool) (k : Nat) : Prop where
  le : i ≤ L.length
  d1 : -(i : Int) ≤ d
  d2 : d ≤ i
  s1 : 0 ≤ st
  s2 : st ≤ 4096
  kk : k ≤ (sweepL L 0 0 false).length
  r : (sweepL L 0 0 false).drop k = sweepL (L.drop i) d st ins
theorem drop_consE (L : List EndT) (i : Nat) (h : i < L.length) : L.drop i = L.getD i default :: L.drop (i + 1) := by
  rw [List.drop_eq_getElem_cons h]; simp [h]
theorem sameNext_drop (L : List EndT) (i : Nat) (x : EndT) : sameNext x (L.drop (i + 1)) = decide (i + 1 < L.length ∧ (L.getD (i + 1) default).1 = x.1) := by
  by_cases h : i + 1 < L.length
  · rw [drop_consE L (i + 1) h]
    simp [sameNext, h]
  · rw [List.drop_eq_nil_of_le (by omega)]
    simp [sameNext, h]
theorem swi_start (L : List EndT) : SwI L 0 0 0 false 0 := ⟨Nat.zero_le _, by omega, by omega, by omega, by omega, Nat.zero_le _, rfl⟩
section
variable {L : List EndT} {i k : Nat} {d st at' sp : Int} {ins : Bool}
theorem swi_unfold (h : SwI L i d st ins k) (hi : i < L.length) (hx : L.getD i default = (at', 0, sp)) : (sweepL L 0 0 false).drop k =
    (if (i + 1 < L.length ∧ (L.getD (i + 1) default).1 = at') then sweepL (L.drop (i + 1)) (d + sp) st ins
    else if d + sp > 0 then sweepL (L.drop (i + 1)) (d + sp) (if ins then st else at') true
    else (if ins then [(st, at' - st)] else []) ++ sweepL (L.drop (i + 1)) (d + sp) st false) := by
  rw [h.r, drop_consE L i hi, hx, sweepL, sameNext_drop]
  simp only [Zp]
theorem swi_good (hg : GoodL L) (hi : i < L.length) : ∃ at' sp, L.getD i default = (at', 0, sp) ∧ 0 ≤ at' ∧ at' ≤ 4096 ∧ (sp = 1 ∨ sp = -1) := by
  have hm : L.getD i default ∈ L := getD_mem L default i hi
  obtain ⟨h1, h2, h3, h4⟩ := hg.2 _ hm
  exact ⟨_, _, Prod.ext rfl (Prod.ext h3 rfl), h1, h2, h4⟩
theorem swi_cont (h : SwI L i d st ins k) (hi : i < L.length) (hx : L.getD i default = (at', 0, sp)) (hs : sp = 1 ∨ sp = -1) (hc : i + 1 < L.length ∧ (L.getD (i + 1) default).1 = at') : SwI L (i + 1) (d + sp) st ins k := by
  have hu := swi_unfold h hi hx
  rw [if_pos hc] at hu
  have h1 := h.d1
  have h2 := h.d2
  exact ⟨hi, by omega, by omega, h.s1, h.s2, h.kk, hu⟩
theorem swi_in (h : SwI L i d st ins k) (hi : i < L.length) (hx : L.getD i default = (at', 0, sp)) (hs : sp = 1 ∨ sp = -1) (ha : 0 ≤ at' ∧ at' ≤ 4096) (hc : ¬ (i + 1 < L.length ∧ (L.getD (i + 1) default).1 = at')) (hn : (decide (d + sp > 0) || decide ((0 : Int) > 0)) = true) :
    SwI L (i + 1) (d + sp) (if ins then st else at') true k := by
  have hu := swi_unfold h hi hx
  have hd : d + sp > 0 := by simpa using hn
  rw [if_neg hc, if_pos hd] at hu
  have h1 := h.d1
  have h2 := h.d2
  have h3 := h.s1
  have h4 := h.s2
  exact ⟨hi, by omega, by omega, by split <;> omega, by split <;> omega, h.kk, hu⟩
theorem swi_out (h : SwI L i d st false k) (hi : i < L.length) (hx : L.getD i default = (at', 0, sp)) (hs : sp = 1 ∨ sp = -1) (hc : ¬ (i + 1 < L.length ∧ (L.getD (i + 1) default).1 = at')) (hn : (decide (d + sp > 0) || decide ((0 : Int) > 0)) = false) :
    SwI L (i + 1) (d + sp) st false k := by
  have hu := swi_unfold h hi hx
  have hd : ¬ d + sp > 0 := by simpa using hn
  rw [if_neg hc, if_neg hd] at hu
  have h1 := h.d1
  have h2 := h.d2
  exact ⟨hi, by omega, by omega, h.s1, h.s2, h.kk, hu⟩
theorem swi_yield (h : SwI L i d st true k) (hi : i < L.length) (hx : L.getD i default = (at', 0, sp)) (hs : sp = 1 ∨ sp = -1) (hc : ¬ (i + 1 < L.length ∧ (L.getD (i + 1) default).1 = at')) (hn : (decide (d + sp > 0) || decide ((0 : Int) > 0)) = false) :
    (sweepL L 0 0 false)[k]? = some (st, at' - st) ∧ SwI L (i + 1) (d + sp) st false (k + 1) := by
  have hu := swi_unfold h hi hx
  have hd : ¬ d + sp > 0 := by simpa using hn
  rw [if_neg hc, if_neg hd] at hu
  have h1 := h.d1
  have h2 := h.d2
  have hk : (sweepL L 0 0 false)[k]? = some (st, at' - st) := by
    have := congrArg (fun l => l[0]?) hu
    simpa using this
  refine ⟨hk, hi, by omega, by omega, h.s1, h.s2, (List.getElem?_eq_some_iff.1 hk).1, ?_⟩
  have := congrArg (List.drop 1) hu
  rw [List.drop_drop] at this
  simpa using this
theorem swi_end (h : SwI L L.length d st ins k) : k = (extItems (sweepL L 0 0 false)).length := by
  have h1 := h.r
  rw [List.drop_length] at h1
  have h2 : (sweepL L 0 0 false).length ≤ k := by
    have := congrArg List.length h1
    simp [sweepL] at this
    omega
  rw [extItems_length]
  have := h.kk
  omega
theorem item_of {l : List (Int × Int)} {k : Nat} {a b : Int} (h : l[k]? = some (a, b)) : (extItems l)[k]? = some (.agg [i64 a, i64 b]) := by simp [extItems, h]
end
theorem endCells_at3 (l : List EndT) (i : Nat) (h : i + 1 < l.length) : (endCells l)[i * 3 + 3]? = some (i64 (l.getD (i + 1) default).1) := by
  have := endCells_at0 l (i + 1) h
  rwa [Nat.succ_mul] at this
theorem c110n (p q now : Bool) (h : (p || q) = now) : ACalls Try.prog 110 [.p (bv p), .p (bv q)] (.p (bv now)) := h ▸ c110 p q
theorem rawAll_good {l : List (Int × Int)} (h : ∀ e ∈ l, GoodE e) (hl : l.length ≤ 8192) : GoodL (sortE (rawAll [l, []])) := by
  have hp := sortE_perm (rawAll [l, []])
  have e : rawAll [l, []] = endsOf 0 l := by simp [rawAll, endsOf]
  rw [e] at hp ⊢
  refine ⟨by rw [hp.length_eq, endsOf_length]; omega, fun x hx => ?_⟩
  have hm := hp.mem_iff.1 hx
  simp only [endsOf,List.mem_flatMap] at hm
  obtain ⟨y, hy, hxy⟩ := hm
  obtain ⟨s, c, rfl, h1, h2⟩ := h y hy
  simp only [List.mem_cons,List.not_mem_nil,or_false] at hxy
  rcases hxy with rfl | rfl
  · exact ⟨by simp, by simp; omega, rfl, .inl rfl⟩
  · exact ⟨by simp; omega, by simp; omega, rfl, .inr rfl⟩
theorem s119g (l : List (Int × Int)) (hl : l.length ≤ 8192) (hg : ∀ e ∈ l, GoodE e) (L : List EndT) (hL : sortE (rawAll [l, []]) = L) : SeqC Try.prog 119 [exts l, .sl 0 [], .v (.func (.func 110) #[] #[])] (extItems (sweepL L 0 0 false)) := by
  have hgl : GoodL L := hL ▸ rawAll_good hg hl
  have hLl := hgl.1
  have h120 : ACalls Try.prog 120 [.p (.sl 2 [exts l, .sl 0 []])] (.p (endsP L)) := hL ▸ c120 [l, []] (by simp) (by simpa using hl) (by simpa using hg)
  refine seq_of Try.func119 (c := _) rfl (by kernel_rfl) rfl ?_
  intro X ll hP hX _
  have hb : tb.Ok X.P := hP ▸ tb_ok
  change AW X _ _ ⟨[.yld ll (extItems (sweepL L 0 0 false)) 0], [.p (.v (.func (.yield ll) #[] #[])), .ept [exts l] 0, .ept [.sl 0 []] 0, .ept [.v (.func (.func 110) #[] #[])] 0, .any, .any, .any, .any, .any, .any, .any, .any, .any, .any, .any, .any, .any, .any, .any, .any, .any, .any, .any, .any, .any, .any, .any, .any, .any, .any, .any, .any, .any, .any, .any, .any, .any, .any, .any, .any, .any, .any, .any, .any, .any, .any, .any, .any, .any, .any, .any, .any, .any, .any, .any, .any, .any, .any, .any, .any, .any, .any, .any, .any, .any, .any, .any, .any, .any, .any, .any, .any, .any, .any, .any, .any, .any, .any, .any, .any], [], []⟩
  refine aw_seq ?_
  refine aw_regK hX hb [0, 1, 2, 3, 4] rfl (σ' := ?s1) (fun K hK => ?h1) ?n1
  case h1 =>
    iterate 3 (refine st_op rfl (by simp (disch := omega) only [stepf,callOf,qop,fop,St.ev,St.put,cd,zd,Value.oneCell',tb_T,TypeDesc.aggB,getD_0,getD_s,Ze,Zd,Zc,Za,Zb,Zr,ZE,ZF,Zf,Zq,Zg,i64_w,Zt,Zs,Zl,Zo,Zv,Zw,Zj,Zk,Zx,Zy,qLoad,bload,pload,pureAll,D.pure?,ZC,ZD,tb_N,tbO_N,tbW_N,tb_O,fBuildSlice,catCells,D.cells?,range_1,range_2,range_3,range_4,range_5,ZG,ZH,ZL,ZM,ZN,sec8_length,Nat.reduceAdd,Nat.reduceMul,pvAll,D.pv?,t1,ti1,t2,ti2,t3,ti3,t35,ti35,t40,ti40,t186,ti186,endCells_part,endCells_length,endCells_at0,Zh] <;> exact rfl) ?_)
    refine st_call rfl (by simp only [callOf,St.ev,getD_0,getD_s,pvAll,D.pv?,ZG,ZH,zd,cd,Value.oneCell',Zr] <;> exact rfl) (acK hP (h120)) (by simp only [St.put,Za,Zb] <;> exact rfl) ?_
    (refine st_op rfl (by simp (disch := omega) only [stepf,callOf,qop,fop,St.ev,St.put,cd,zd,Value.oneCell',tb_T,TypeDesc.aggB,getD_0,getD_s,Ze,Zd,Zc,Za,Zb,Zr,ZE,ZF,Zf,Zq,Zg,i64_w,Zt,Zs,Zl,Zo,Zv,Zw,Zj,Zk,Zx,Zy,qLoad,bload,pload,pureAll,D.pure?,ZC,ZD,tb_N,tbO_N,tbW_N,tb_O,fBuildSlice,catCells,D.cells?,range_1,range_2,range_3,range_4,range_5,ZG,ZH,ZL,ZM,ZN,sec8_length,Nat.reduceAdd,Nat.reduceMul,pvAll,D.pv?,t1,ti1,t2,ti2,t3,ti3,t35,ti35,t40,ti40,t186,ti186,endCells_part,endCells_length,endCells_at0,Zh] <;> exact rfl) ?_)
    refine aops_nil ?_
    exact hK
  refine exq_n ?_
  refine aw_seq ?_
  refine aw_regK hX hb [0] rfl (σ' := ?s2) (fun K hK => ?h2) ?n2
  case h2 =>
    (refine st_op rfl (by simp (disch := omega) only [stepf,callOf,qop,fop,St.ev,St.put,cd,zd,Value.oneCell',tb_T,TypeDesc.aggB,getD_0,getD_s,Ze,Zd,Zc,Za,Zb,Zr,ZE,ZF,Zf,Zq,Zg,i64_w,Zt,Zs,ZM,ZL,Zl,Zo,ZG,ZH,St.addBox,Value.cells,t3,ti3,t183,ti183,endCells_part,endCells_length,endCells_at0,Zh] <;> exact rfl) ?_)
    refine aops_nil ?_
    exact hK
  refine exq_n ?_
  refine aw_seq ?_
  refine aw_regK hX hb [0, 1] rfl (σ' := ?s3) (fun K hK => ?h3) ?n3
  case h3 =>
    iterate 2 (refine st_op rfl (by simp (disch := omega) only [stepf,callOf,qop,fop,St.ev,St.put,cd,zd,Value.oneCell',tb_T,TypeDesc.aggB,getD_0,getD_s,Ze,Zd,Zc,Za,Zb,Zr,ZE,ZF,Zf,Zq,Zg,i64_w,Zt,Zs,endCells_part,endCells_length,endCells_at0,Zh] <;> exact rfl) ?_)
    refine aops_nil ?_
    exact hK
  refine exq_n ?_
  refine aw_seq ?_
  refine aw_regK hX hb [0, 1, 2] rfl (σ' := ?s4) (fun K hK => ?h4) ?n4
  case h4 =>
    iterate 3 (refine st_op rfl (by simp (disch := omega) only [stepf,callOf,qop,fop,St.ev,St.put,cd,zd,Value.oneCell',tb_T,TypeDesc.aggB,getD_0,getD_s,Ze,Zd,Zc,Za,Zb,Zr,ZE,ZF,Zf,Zq,Zg,i64_w,Zt,Zs,qLen,t3,ti3,t5,ti5,t181,ti181,t185,ti185,endCells_part,endCells_length,endCells_at0,Zh] <;> exact rfl) ?_)
    refine aops_nil ?_
    exact hK
  refine exq_n ?_
  refine aw_block ?_
  refine aw_loop (ι := Nat × Int × Int × Bool × Nat) (fun p => SwI L p.1 p.2.1 p.2.2.1 p.2.2.2.1 p.2.2.2.2) (fun p => ⟨[.yld ll (extItems (sweepL L 0 0 false)) p.2.2.2.2], [.p (.v (.func (.yield ll) #[] #[])), .any, .any, .ept [.v (.func (.func 110) #[] #[])] 0, .any, .p (endsP L), .ptr 0 0, .p (i64 p.2.2.1), .p (bv p.2.2.2.1), .any, .any, .any, .any, .any, .any, .any, .p (endsP L), .p (i64 L.length), .p (i64 p.1), .any, .any, .any, .any, .any, .any, .any, .any, .any, .any, .any, .any, .any, .any, .any, .any, .any, .any, .any, .any, .any, .any, .any, .any, .any, .any, .any, .any, .any, .any, .any, .any, .any, .any, .any, .any, .any, .any, .any, .any, .any, .any, .any, .any, .any, .any, .any, .any, .any, .any, .any, .any, .any, .any, .any, .any, .any, .any, .any, .any, .any], [⟨183, [.p (i64 p.2.1), .p (i64 0)]⟩], []⟩) (fun p => L.length - p.1) (0, 0, 0, false, 0) (by exact swi_start L) (wk_le ⟨rfl, leL_r rfl (leL_a (leL_a (leL_r rfl (leL_a (leL_r rfl (leL_r rfl (leL_r rfl (leL_r rfl (leL_a (leL_a (leL_a (leL_a (leL_a (leL_a (leL_a (leL_r rfl (leL_r rfl (leL_r rfl (leL_a (leL_a (leL_a (leL_a (leL_a (leL_a (leL_a (leL_a (leL_a (leL_a (leL_a (leL_a (leL_a (leL_a (leL_a (leL_a (leL_a (leL_a (leL_a (leL_a (leL_a (leL_a (leL_a (leL_a (leL_a (leL_a (leL_a (leL_a (leL_a (leL_a (leL_a (leL_a (leL_a (leL_a (leL_a (leL_a (leL_a (leL_a (leL_a (leL_a (leL_a (leL_a (leL_a (leL_a (leL_a (leL_a (leL_a (leL_a (leL_a (leL_a (leL_a (leL_a (leL_a (leL_a (leL_a (leL_a (leL_a (leL_a (leL_a (leL_a (leL_a (leL_nil)))))))))))))))))))))))))))))))))))))))))))))))))))))))))))))))))))))))))))))))), (leB_r rfl (leL_r rfl (leL_r rfl (leL_nil))) (leB_nil _)), (leV_nil _), rfl, rfl⟩) ?_
  rintro ⟨i, d, st, ins, k⟩ hI
  dsimp only at hI ⊢
  have hI1 := hI.d1
  have hI2 := hI.d2
  have hI3 := hI.s1
  have hI4 := hI.s2
  have hI5 := hI.le
  have i3 : (i + 1) * 3 = i * 3 + 3 := Nat.succ_mul i 3
  have i31 : ((i : Int) + 1).toNat = i + 1 := by omega
  refine aw_seq ?_
  refine aw_regK hX hb [0] rfl (σ' := ?s5) (fun K hK => ?h5) ?n5
  case h5 =>
    (refine st_op rfl (by simp (disch := omega) only [stepf,callOf,qop,fop,St.ev,St.put,cd,zd,Value.oneCell',tb_T,TypeDesc.aggB,getD_0,getD_s,Ze,Zd,Zc,Za,Zb,Zr,ZE,ZF,Zf,Zq,Zg,i64_w,Zt,Zs,qBin,iop,t3,ti3,endCells_part,endCells_length,endCells_at0,Zh] <;> exact rfl) ?_)
    refine aops_nil ?_
    exact hK
  refine exq_n ?_
  refine aw_seq ?_
  refine aw_cond _ rfl (fun hc0 => ?_) (fun hc0 => ?_)
  · try simp only [Zp,Zi,ZK,ZJ,ne_eq,Zn,Zm,ZB,ZA,ZI,not_or,not_and,Zu] at hc0
    have hil : i < L.length := by omega
    obtain ⟨at2, sp, hx, ha1, ha2, hsp⟩ := swi_good hgl hil
    refine aw_skip ?_
    refine exq_n ?_
    refine aw_seq ?_
    refine aw_block ?_
    refine aw_seq ?_
    refine aw_regK hX hb [0, 1, 2, 3, 4, 5] rfl (σ' := ?s6) (fun K hK => ?h6) ?n6
    case h6 =>
      iterate 6 (refine st_op rfl (by simp (disch := omega) only [stepf,callOf,qop,fop,St.ev,St.put,cd,zd,Value.oneCell',tb_T,TypeDesc.aggB,getD_0,getD_s,Ze,Zd,Zc,Za,Zb,Zr,ZE,ZF,Zf,Zq,Zg,i64_w,Zt,Zs,Int.toNat_zero,Int.toNat_one,toNat_pred,toNat_succ,qIndexAddr,ZO,Nat.mul_one,ZC,Nat.zero_mul,Zh,Zl,Zo,Zv,Zw,Zj,Zk,Zx,Zy,qLoad,bload,pload,pureAll,D.pure?,ZD,ZM,ZL,ZG,ZH,St.addBox,Value.cells,fStore,D.boxCells,D.live,D.cells?,ZN,St.setVec,t3,ti3,t5,ti5,t22,ti22,t50,ti50,t181,ti181,t185,ti185,endCells_part,endCells_length,endCells_at0] <;> exact rfl) ?_)
      refine aops_nil ?_
      exact hK
    refine exq_n ?_
    refine aw_seq ?_
    refine aw_regD hX hb (try_mixed hP) [(0, true), (1, true), (2, true), (3, true), (4, true), (5, true), (6, true), (7, true), (8, false)] (by kernel_rfl) (σ' := ?s7) (fun K hK => ?h7) ?n7
    case h7 =>
      iterate 8 (refine sd_q rfl (by simp (disch := omega) only [qop,fop,St.ev,St.put,cd,zd,Value.oneCell',tb_T,TypeDesc.aggB,getD_0,getD_s,Ze,Zd,Zc,Za,Zb,Zr,ZE,ZF,Zf,Zq,Zg,i64_w,Zt,Zs,qFieldAddr,fieldOf,Zl,Zo,Zv,Zw,Zj,Zk,Zx,Zy,qLoad,bload,pload,pureAll,D.pure?,ZC,ZD,Int.toNat_zero,Int.toNat_one,toNat_pred,toNat_succ,qIndexAddr,ZO,Nat.mul_one,Nat.zero_mul,Zh,qBin,iop,fStore,D.boxCells,D.live,D.cells?,ZM,ZL,ZN,ZG,ZH,St.setVec,t1,ti1,t2,ti2,t3,ti3,t24,ti24,t26,ti26,t27,ti27,t58,ti58,t60,ti60,t183,ti183,t185,ti185,endCells_part,endCells_length,endCells_at0,hx] <;> exact rfl) (by simp only [St.put,Za,Zb] <;> exact rfl) ?_)
      (refine sd_op rfl (by simp (disch := omega) only [stepf,callOf,qop,fop,St.ev,St.put,cd,zd,Value.oneCell',tb_T,TypeDesc.aggB,getD_0,getD_s,Ze,Zd,Zc,Za,Zb,Zr,ZE,ZF,Zf,Zq,Zg,i64_w,Zt,Zs,qFieldAddr,fieldOf,Zl,Zo,Zv,Zw,Zj,Zk,Zx,Zy,qLoad,bload,pload,pureAll,D.pure?,ZC,ZD,Int.toNat_zero,Int.toNat_one,toNat_pred,toNat_succ,qIndexAddr,ZO,Nat.mul_one,Nat.zero_mul,Zh,qBin,iop,fStore,D.boxCells,D.live,D.cells?,ZM,ZL,ZN,ZG,ZH,St.setVec,t1,ti1,t2,ti2,t3,ti3,t24,ti24,t26,ti26,t27,ti27,t58,ti58,t60,ti60,t183,ti183,t185,ti185,endCells_part,endCells_length,endCells_at0,hx] <;> exact rfl) ?_)
      refine aopsd_nil ?_
      exact hK
    refine exq_n ?_
    refine aw_seq ?_
    refine aw_seq ?_
    refine aw_regDJ hX hb (try_mixed hP) [(0, true), (1, true), (2, true), (3, true), (4, true), (5, true), (6, true), (7, true), (8, true), (9, true), (10, true), (11, true), (12, true), (13, true), (14, true), (15, true)] (by kernel_rfl) (ts := [31, 32, 33, 34, 35, 36, 37, 38, 39, 40, 41, 42, 43, 44, 45]) (t := 46) (d := .p (bv (i + 1 < L.length ∧ (L.getD (i + 1) default).1 = at2))) (σ' := ?s8) ?j8 ?h8 ?n8
    case j8 => simp only [St.join,List.foldl,Za,Zb]; exact rfl
    case h8 =>
      iterate 6 (all_goals refine sd_q rfl (by simp (disch := omega) only [qop,fop,St.ev,St.put,cd,zd,Value.oneCell',tb_T,TypeDesc.aggB,getD_0,getD_s,Ze,Zd,Zc,Za,Zb,Zr,ZE,ZF,Zf,Zq,Zg,i64_w,Zt,Zs,qBin,iop,qLen,Int.toNat_zero,Int.toNat_one,toNat_pred,toNat_succ,qIndexAddr,ZO,Nat.mul_one,ZC,Nat.zero_mul,Zh,qFieldAddr,fieldOf,Zl,Zo,Zv,Zw,Zj,Zk,Zx,Zy,qLoad,bload,pload,pureAll,D.pure?,ZD,t1,ti1,t3,ti3,t5,ti5,t35,ti35,t40,ti40,t181,ti181,t185,ti185,endCells_part,endCells_length,endCells_at0,hx,i31,endCells_at3,i3] <;> exact rfl) (by simp only [St.put,Za,Zb] <;> exact rfl) ?_)
      iterate 9 (all_goals first | (refine sd_g1 rfl rfl rfl (by simp (disch := omega) only [qop,fop,St.ev,St.put,cd,zd,Value.oneCell',tb_T,TypeDesc.aggB,getD_0,getD_s,Ze,Zd,Zc,Za,Zb,Zr,ZE,ZF,Zf,Zq,Zg,i64_w,Zt,Zs,qBin,iop,qLen,Int.toNat_zero,Int.toNat_one,toNat_pred,toNat_succ,qIndexAddr,ZO,Nat.mul_one,ZC,Nat.zero_mul,Zh,qFieldAddr,fieldOf,Zl,Zo,Zv,Zw,Zj,Zk,Zx,Zy,qLoad,bload,pload,pureAll,D.pure?,ZD,t1,ti1,t3,ti3,t5,ti5,t35,ti35,t40,ti40,t181,ti181,t185,ti185,endCells_part,endCells_length,endCells_at0,hx,i31,endCells_at3,i3] <;> exact rfl) rfl (by simp only [St.put,Za,Zb] <;> exact rfl) ?_) | (first | (refine sd_g0 rfl rfl rfl (by simp only [St.put,Za,Zb] <;> exact rfl) ?_) | (refine sd_gu rfl rfl rfl (by simp only [St.put,Za,Zb] <;> exact rfl) ?_)) | (refine sd_split rfl rfl rfl (by simp only [Za,Zb] <;> exact rfl) (by simp only [Za,Zb] <;> exact rfl) (fun hg => ?_) (fun hg => ?_) <;> (try simp only [Zp,Zi,ZJ,ZK,ne_eq,Zn,Zm,Bool.not_eq_true,Zu] at hg) <;> first | (refine sd_g1 rfl rfl rfl (by simp (disch := omega) only [qop,fop,St.ev,St.put,cd,zd,Value.oneCell',tb_T,TypeDesc.aggB,getD_0,getD_s,Ze,Zd,Zc,Za,Zb,Zr,ZE,ZF,Zf,Zq,Zg,i64_w,Zt,Zs,qBin,iop,qLen,Int.toNat_zero,Int.toNat_one,toNat_pred,toNat_succ,qIndexAddr,ZO,Nat.mul_one,ZC,Nat.zero_mul,Zh,qFieldAddr,fieldOf,Zl,Zo,Zv,Zw,Zj,Zk,Zx,Zy,qLoad,bload,pload,pureAll,D.pure?,ZD,t1,ti1,t3,ti3,t5,ti5,t35,ti35,t40,ti40,t181,ti181,t185,ti185,endCells_part,endCells_length,endCells_at0,hx,i31,endCells_at3,i3] <;> exact rfl) rfl (by simp only [St.put,Za,Zb] <;> exact rfl) ?_) | (first | (refine sd_g0 rfl rfl rfl (by simp only [St.put,Za,Zb] <;> exact rfl) ?_) | (refine sd_gu rfl rfl rfl (by simp only [St.put,Za,Zb] <;> exact rfl) ?_))))
      (all_goals refine sd_q rfl (by simp (disch := omega) only [qop,fop,St.ev,St.put,cd,zd,Value.oneCell',tb_T,TypeDesc.aggB,getD_0,getD_s,Ze,Zd,Zc,Za,Zb,Zr,ZE,ZF,Zf,Zq,Zg,i64_w,Zt,Zs,qBin,iop,qLen,Int.toNat_zero,Int.toNat_one,toNat_pred,toNat_succ,qIndexAddr,ZO,Nat.mul_one,ZC,Nat.zero_mul,Zh,qFieldAddr,fieldOf,Zl,Zo,Zv,Zw,Zj,Zk,Zx,Zy,qLoad,bload,pload,pureAll,D.pure?,ZD,t1,ti1,t3,ti3,t5,ti5,t35,ti35,t40,ti40,t181,ti181,t185,ti185,endCells_part,endCells_length,endCells_at0,hx,i31,endCells_at3,i3] <;> exact rfl) (by simp only [St.put,Za,Zb] <;> exact rfl) ?_)
      all_goals refine aopsd_nil ?_
      all_goals refine ⟨rfl, ?_, leB_self _, leV_self _, rfl, rfl⟩
      all_goals repeat' (first | exact leL_nil | refine leL_a ?_ | refine leL_r rfl ?_ | refine leL_r ?_ ?_)
      all_goals refine jn ?_
      all_goals ((try simp only [Zp,Zi,ZJ,ZK,Bool.not_eq_true,Zm,Zn,ne_eq,Zf,true_iff,false_iff,iff_true,iff_false] at *) <;> omega)
    refine exq_n ?_
    refine aw_cond _ rfl (fun hc1 => ?_) (fun hc1 => ?_)
    · try simp only [Zp,Zi,ZK,ZJ,ne_eq,Zn,Zm,ZB,ZA,ZI,not_or,not_and,Zu] at hc1
      refine aw_exit ?_
      refine exq_e ?_
      refine exb_h ?_
      refine exq_n ?_
      refine aw_regK hX hb [0, 1] rfl (σ' := ?s9) (fun K hK => ?h9) ?n9
      case h9 =>
        iterate 2 (refine st_op rfl (by simp (disch := omega) only [stepf,callOf,qop,fop,St.ev,St.put,cd,zd,Value.oneCell',tb_T,TypeDesc.aggB,getD_0,getD_s,Ze,Zd,Zc,Za,Zb,Zr,ZE,ZF,Zf,Zq,Zg,i64_w,Zt,Zs,qBin,iop,t1,ti1,t3,ti3,endCells_part,endCells_length,endCells_at0,Zh] <;> exact rfl) ?_)
        refine aops_nil ?_
        exact hK
      refine exq_n ?_
      exact ⟨(i + 1, d + sp, st, ins, k), by exact swi_cont hI hil hx hsp hc1, by (try dsimp only); omega, wk_le ⟨rfl, leL_r rfl (leL_a (leL_a (leL_r rfl (leL_a (leL_r rfl (leL_r rfl (leL_r rfl (leL_r rfl (leL_a (leL_a (leL_a (leL_a (leL_a (leL_a (leL_a (leL_r rfl (leL_r rfl (leL_r rfl (leL_a (leL_a (leL_a (leL_a (leL_a (leL_a (leL_a (leL_a (leL_a (leL_a (leL_a (leL_a (leL_a (leL_a (leL_a (leL_a (leL_a (leL_a (leL_a (leL_a (leL_a (leL_a (leL_a (leL_a (leL_a (leL_a (leL_a (leL_a (leL_a (leL_a (leL_a (leL_a (leL_a (leL_a (leL_a (leL_a (leL_a (leL_a (leL_a (leL_a (leL_a (leL_a (leL_a (leL_a (leL_a (leL_a (leL_a (leL_a (leL_a (leL_a (leL_a (leL_a (leL_a (leL_a (leL_a (leL_a (leL_a (leL_a (leL_a (leL_a (leL_a (leL_nil)))))))))))))))))))))))))))))))))))))))))))))))))))))))))))))))))))))))))))))))), (leB_r rfl (leL_r rfl (leL_r rfl (leL_nil))) (leB_nil _)), (leV_nil _), rfl, rfl⟩⟩
    · try simp only [Zp,Zi,ZK,ZJ,ne_eq,Zn,Zm,ZB,ZA,ZI,not_or,not_and,Zu] at hc1
      rw [← not_and] at hc1
      refine aw_skip ?_
      refine exq_n ?_
      refine aw_seq ?_
      obtain ⟨now, hnow⟩ : ∃ now, (decide (d + sp > 0) || decide ((0 : Int) > 0)) = now := ⟨_, rfl⟩
      refine aw_regK hX hb [0, 1, 2, 3, 4, 5, 6, 7, 8] rfl (σ' := ?s10) (fun K hK => ?h10) ?n10
      case h10 =>
        iterate 7 (refine st_op rfl (by simp (disch := omega) only [stepf,callOf,qop,fop,St.ev,St.put,cd,zd,Value.oneCell',tb_T,TypeDesc.aggB,getD_0,getD_s,Ze,Zd,Zc,Za,Zb,Zr,ZE,ZF,Zf,Zq,Zg,i64_w,Zt,Zs,Zl,Zo,Zv,Zw,Zj,Zk,Zx,Zy,qLoad,bload,pload,pureAll,D.pure?,ZC,ZD,Int.toNat_zero,Int.toNat_one,toNat_pred,toNat_succ,qIndexAddr,ZO,Nat.mul_one,Nat.zero_mul,Zh,qBin,iop,pvAll,D.pv?,t1,ti1,t3,ti3,t4,ti4,t5,ti5,t22,ti22,t47,ti47,t50,ti50,t54,ti54,t170,ti170,t183,ti183,endCells_part,endCells_length,endCells_at0,hx] <;> exact rfl) ?_)
        refine st_call rfl (by simp only [callOf,St.ev,getD_0,getD_s,pvAll,D.pv?,ZG,ZH,zd,cd,Value.oneCell',Zr] <;> exact rfl) (acK hP (c110n _ _ now hnow)) (by simp only [St.put,Za,Zb] <;> exact rfl) ?_
        (refine st_op rfl (by simp (disch := omega) only [stepf,callOf,qop,fop,St.ev,St.put,cd,zd,Value.oneCell',tb_T,TypeDesc.aggB,getD_0,getD_s,Ze,Zd,Zc,Za,Zb,Zr,ZE,ZF,Zf,Zq,Zg,i64_w,Zt,Zs,Zl,Zo,Zv,Zw,Zj,Zk,Zx,Zy,qLoad,bload,pload,pureAll,D.pure?,ZC,ZD,Int.toNat_zero,Int.toNat_one,toNat_pred,toNat_succ,qIndexAddr,ZO,Nat.mul_one,Nat.zero_mul,Zh,qBin,iop,pvAll,D.pv?,t1,ti1,t3,ti3,t4,ti4,t5,ti5,t22,ti22,t47,ti47,t50,ti50,t54,ti54,t170,ti170,t183,ti183,endCells_part,endCells_length,endCells_at0,hx] <;> exact rfl) ?_)
        refine aops_nil ?_
        exact hK
      refine exq_n ?_
      refine aw_seq ?_
      refine aw_seq ?_
      cases now <;> cases ins
      · refine aw_regK hX hb [0, 1, 2, 3, 4] rfl (σ' := ?s11) (fun K hK => ?h11) ?n11
        case h11 =>
          iterate 2 (refine st_op rfl (by simp (disch := omega) only [stepf,callOf,qop,fop,St.ev,St.put,cd,zd,Value.oneCell',tb_T,TypeDesc.aggB,getD_0,getD_s,Ze,Zd,Zc,Za,Zb,Zr,ZE,ZF,Zf,Zq,Zg,i64_w,Zt,Zs,Bool.not_true,Bool.not_false,t4,ti4,t58,ti58,endCells_part,endCells_length,endCells_at0,Zh] <;> exact rfl) ?_)
          iterate 2 (all_goals first | (refine st_g1 rfl rfl rfl (by simp (disch := omega) only [stepf,callOf,qop,fop,St.ev,St.put,cd,zd,Value.oneCell',tb_T,TypeDesc.aggB,getD_0,getD_s,Ze,Zd,Zc,Za,Zb,Zr,ZE,ZF,Zf,Zq,Zg,i64_w,Zt,Zs,Bool.not_true,Bool.not_false,t4,ti4,t58,ti58,endCells_part,endCells_length,endCells_at0,Zh] <;> exact rfl) ?_) | (first | (refine st_g0 rfl rfl rfl (by simp only [St.put,Za,Zb] <;> exact rfl) ?_) | (refine st_gu rfl rfl rfl (by simp only [St.put,Za,Zb] <;> exact rfl) ?_)) | (refine st_split rfl rfl rfl (by simp only [Za,Zb] <;> exact rfl) (by simp only [Za,Zb] <;> exact rfl) (fun hg => ?_) (fun hg => ?_) <;> (try simp only [Zp,Zi,ZJ,ZK,ne_eq,Zn,Zm,Bool.not_eq_true,Zu] at hg) <;> first | (refine st_g1 rfl rfl rfl (by simp (disch := omega) only [stepf,callOf,qop,fop,St.ev,St.put,cd,zd,Value.oneCell',tb_T,TypeDesc.aggB,getD_0,getD_s,Ze,Zd,Zc,Za,Zb,Zr,ZE,ZF,Zf,Zq,Zg,i64_w,Zt,Zs,Bool.not_true,Bool.not_false,t4,ti4,t58,ti58,endCells_part,endCells_length,endCells_at0,Zh] <;> exact rfl) ?_) | (first | (refine st_g0 rfl rfl rfl (by simp only [St.put,Za,Zb] <;> exact rfl) ?_) | (refine st_gu rfl rfl rfl (by simp only [St.put,Za,Zb] <;> exact rfl) ?_))))
          (refine st_op rfl (by simp (disch := omega) only [stepf,callOf,qop,fop,St.ev,St.put,cd,zd,Value.oneCell',tb_T,TypeDesc.aggB,getD_0,getD_s,Ze,Zd,Zc,Za,Zb,Zr,ZE,ZF,Zf,Zq,Zg,i64_w,Zt,Zs,Bool.not_true,Bool.not_false,t4,ti4,t58,ti58,endCells_part,endCells_length,endCells_at0,Zh] <;> exact rfl) ?_)
          refine aops_nil ?_
          exact hK
        refine exq_n ?_
        refine aw_cond false rfl (fun h => by cases h) (fun _ => ?_)
        refine aw_skip ?_
        refine exq_n ?_
        refine aw_seq ?_
        refine aw_seq ?_
        refine aw_regK hX hb [0, 1, 2, 3, 4, 5, 6, 7, 8, 9, 10, 11, 12, 13, 14, 15] rfl (σ' := ?s12) (fun K hK => ?h12) ?n12
        case h12 =>
          iterate 3 (refine st_op rfl (by simp (disch := omega) only [stepf,callOf,qop,fop,St.ev,St.put,cd,zd,Value.oneCell',tb_T,TypeDesc.aggB,getD_0,getD_s,Ze,Zd,Zc,Za,Zb,Zr,ZE,ZF,Zf,Zq,Zg,i64_w,Zt,Zs,Bool.not_true,Bool.not_false,qFieldAddr,fieldOf,Zl,Zo,Zv,Zw,Zj,Zk,Zx,Zy,qLoad,bload,pload,pureAll,D.pure?,ZC,ZD,qBin,iop,tb_W,tbO_W,qBuild,qBuildD,D.cell1,range_1,range_2,range_3,range_4,range_5,List.all_cons,List.all_nil,bfill,TI.place,TI.zeros,TI.kindOk,D.cells?,zp,Value.cells,ZQ,ZP,pvAll,D.pv?,t1,ti1,t3,ti3,t4,ti4,t5,ti5,t22,ti22,t24,ti24,t26,ti26,t35,ti35,t40,ti40,t50,ti50,t58,ti58,t60,ti60,t63,ti63,t69,ti69,t71,ti71,t75,ti75,t185,ti185,endCells_part,endCells_length,endCells_at0,Zh,hx] <;> exact rfl) ?_)
          (all_goals first | (refine st_g1 rfl rfl rfl (by simp (disch := omega) only [stepf,callOf,qop,fop,St.ev,St.put,cd,zd,Value.oneCell',tb_T,TypeDesc.aggB,getD_0,getD_s,Ze,Zd,Zc,Za,Zb,Zr,ZE,ZF,Zf,Zq,Zg,i64_w,Zt,Zs,Bool.not_true,Bool.not_false,qFieldAddr,fieldOf,Zl,Zo,Zv,Zw,Zj,Zk,Zx,Zy,qLoad,bload,pload,pureAll,D.pure?,ZC,ZD,qBin,iop,tb_W,tbO_W,qBuild,qBuildD,D.cell1,range_1,range_2,range_3,range_4,range_5,List.all_cons,List.all_nil,bfill,TI.place,TI.zeros,TI.kindOk,D.cells?,zp,Value.cells,ZQ,ZP,pvAll,D.pv?,t1,ti1,t3,ti3,t4,ti4,t5,ti5,t22,ti22,t24,ti24,t26,ti26,t35,ti35,t40,ti40,t50,ti50,t58,ti58,t60,ti60,t63,ti63,t69,ti69,t71,ti71,t75,ti75,t185,ti185,endCells_part,endCells_length,endCells_at0,Zh,hx] <;> exact rfl) ?_) | (first | (refine st_g0 rfl rfl rfl (by simp only [St.put,Za,Zb] <;> exact rfl) ?_) | (refine st_gu rfl rfl rfl (by simp only [St.put,Za,Zb] <;> exact rfl) ?_)) | (refine st_split rfl rfl rfl (by simp only [Za,Zb] <;> exact rfl) (by simp only [Za,Zb] <;> exact rfl) (fun hg => ?_) (fun hg => ?_) <;> (try simp only [Zp,Zi,ZJ,ZK,ne_eq,Zn,Zm,Bool.not_eq_true,Zu] at hg) <;> first | (refine st_g1 rfl rfl rfl (by simp (disch := omega) only [stepf,callOf,qop,fop,St.ev,St.put,cd,zd,Value.oneCell',tb_T,TypeDesc.aggB,getD_0,getD_s,Ze,Zd,Zc,Za,Zb,Zr,ZE,ZF,Zf,Zq,Zg,i64_w,Zt,Zs,Bool.not_true,Bool.not_false,qFieldAddr,fieldOf,Zl,Zo,Zv,Zw,Zj,Zk,Zx,Zy,qLoad,bload,pload,pureAll,D.pure?,ZC,ZD,qBin,iop,tb_W,tbO_W,qBuild,qBuildD,D.cell1,range_1,range_2,range_3,range_4,range_5,List.all_cons,List.all_nil,bfill,TI.place,TI.zeros,TI.kindOk,D.cells?,zp,Value.cells,ZQ,ZP,pvAll,D.pv?,t1,ti1,t3,ti3,t4,ti4,t5,ti5,t22,ti22,t24,ti24,t26,ti26,t35,ti35,t40,ti40,t50,ti50,t58,ti58,t60,ti60,t63,ti63,t69,ti69,t71,ti71,t75,ti75,t185,ti185,endCells_part,endCells_length,endCells_at0,Zh,hx] <;> exact rfl) ?_) | (first | (refine st_g0 rfl rfl rfl (by simp only [St.put,Za,Zb] <;> exact rfl) ?_) | (refine st_gu rfl rfl rfl (by simp only [St.put,Za,Zb] <;> exact rfl) ?_))))
          iterate 2 (refine st_op rfl (by simp (disch := omega) only [stepf,callOf,qop,fop,St.ev,St.put,cd,zd,Value.oneCell',tb_T,TypeDesc.aggB,getD_0,getD_s,Ze,Zd,Zc,Za,Zb,Zr,ZE,ZF,Zf,Zq,Zg,i64_w,Zt,Zs,Bool.not_true,Bool.not_false,qFieldAddr,fieldOf,Zl,Zo,Zv,Zw,Zj,Zk,Zx,Zy,qLoad,bload,pload,pureAll,D.pure?,ZC,ZD,qBin,iop,tb_W,tbO_W,qBuild,qBuildD,D.cell1,range_1,range_2,range_3,range_4,range_5,List.all_cons,List.all_nil,bfill,TI.place,TI.zeros,TI.kindOk,D.cells?,zp,Value.cells,ZQ,ZP,pvAll,D.pv?,t1,ti1,t3,ti3,t4,ti4,t5,ti5,t22,ti22,t24,ti24,t26,ti26,t35,ti35,t40,ti40,t50,ti50,t58,ti58,t60,ti60,t63,ti63,t69,ti69,t71,ti71,t75,ti75,t185,ti185,endCells_part,endCells_length,endCells_at0,Zh,hx] <;> exact rfl) ?_)
          iterate 7 (all_goals first | (refine st_g1 rfl rfl rfl (by simp (disch := omega) only [stepf,callOf,qop,fop,St.ev,St.put,cd,zd,Value.oneCell',tb_T,TypeDesc.aggB,getD_0,getD_s,Ze,Zd,Zc,Za,Zb,Zr,ZE,ZF,Zf,Zq,Zg,i64_w,Zt,Zs,Bool.not_true,Bool.not_false,qFieldAddr,fieldOf,Zl,Zo,Zv,Zw,Zj,Zk,Zx,Zy,qLoad,bload,pload,pureAll,D.pure?,ZC,ZD,qBin,iop,tb_W,tbO_W,qBuild,qBuildD,D.cell1,range_1,range_2,range_3,range_4,range_5,List.all_cons,List.all_nil,bfill,TI.place,TI.zeros,TI.kindOk,D.cells?,zp,Value.cells,ZQ,ZP,pvAll,D.pv?,t1,ti1,t3,ti3,t4,ti4,t5,ti5,t22,ti22,t24,ti24,t26,ti26,t35,ti35,t40,ti40,t50,ti50,t58,ti58,t60,ti60,t63,ti63,t69,ti69,t71,ti71,t75,ti75,t185,ti185,endCells_part,endCells_length,endCells_at0,Zh,hx] <;> exact rfl) ?_) | (first | (refine st_g0 rfl rfl rfl (by simp only [St.put,Za,Zb] <;> exact rfl) ?_) | (refine st_gu rfl rfl rfl (by simp only [St.put,Za,Zb] <;> exact rfl) ?_)) | (refine st_split rfl rfl rfl (by simp only [Za,Zb] <;> exact rfl) (by simp only [Za,Zb] <;> exact rfl) (fun hg => ?_) (fun hg => ?_) <;> (try simp only [Zp,Zi,ZJ,ZK,ne_eq,Zn,Zm,Bool.not_eq_true,Zu] at hg) <;> first | (refine st_g1 rfl rfl rfl (by simp (disch := omega) only [stepf,callOf,qop,fop,St.ev,St.put,cd,zd,Value.oneCell',tb_T,TypeDesc.aggB,getD_0,getD_s,Ze,Zd,Zc,Za,Zb,Zr,ZE,ZF,Zf,Zq,Zg,i64_w,Zt,Zs,Bool.not_true,Bool.not_false,qFieldAddr,fieldOf,Zl,Zo,Zv,Zw,Zj,Zk,Zx,Zy,qLoad,bload,pload,pureAll,D.pure?,ZC,ZD,qBin,iop,tb_W,tbO_W,qBuild,qBuildD,D.cell1,range_1,range_2,range_3,range_4,range_5,List.all_cons,List.all_nil,bfill,TI.place,TI.zeros,TI.kindOk,D.cells?,zp,Value.cells,ZQ,ZP,pvAll,D.pv?,t1,ti1,t3,ti3,t4,ti4,t5,ti5,t22,ti22,t24,ti24,t26,ti26,t35,ti35,t40,ti40,t50,ti50,t58,ti58,t60,ti60,t63,ti63,t69,ti69,t71,ti71,t75,ti75,t185,ti185,endCells_part,endCells_length,endCells_at0,Zh,hx] <;> exact rfl) ?_) | (first | (refine st_g0 rfl rfl rfl (by simp only [St.put,Za,Zb] <;> exact rfl) ?_) | (refine st_gu rfl rfl rfl (by simp only [St.put,Za,Zb] <;> exact rfl) ?_))))
          all_goals first | (first | (refine st_g0 rfl rfl rfl (by simp only [St.put,Za,Zb] <;> exact rfl) ?_) | (refine st_gu rfl rfl rfl (by simp only [St.put,Za,Zb] <;> exact rfl) ?_)) | (refine st_gy rfl rfl rfl rfl (by simp only [St.ev,getD_0,getD_s,zd,cd,Value.oneCell',Zr] <;> exact rfl) (by simp only [pvAll,capCells,D.pvC?,D.pvN?,D.pvL?,pureAll,D.pv?,D.pure?,St.ev,getD_0,getD_s,zd,cd,Value.oneCell',Zr,ZG,ZH,Zd,Zc,Zg] <;> exact rfl) rfl ((item_of (swi_yield hI hil hx hsp hc1 hnow).1)) (by simp only [St.put,Za,Zb] <;> exact rfl) ?_) | (refine st_split rfl rfl rfl (by simp only [Za,Zb] <;> exact rfl) (by simp only [Za,Zb] <;> exact rfl) (fun hg => ?_) (fun hg => ?_) <;> (try simp only [Zp,Zi,ZJ,ZK,ne_eq,Zn,Zm,Bool.not_eq_true,Zu] at hg) <;> first | (first | (refine st_g0 rfl rfl rfl (by simp only [St.put,Za,Zb] <;> exact rfl) ?_) | (refine st_gu rfl rfl rfl (by simp only [St.put,Za,Zb] <;> exact rfl) ?_)) | (refine st_gy rfl rfl rfl rfl (by simp only [St.ev,getD_0,getD_s,zd,cd,Value.oneCell',Zr] <;> exact rfl) (by simp only [pvAll,capCells,D.pvC?,D.pvN?,D.pvL?,pureAll,D.pv?,D.pure?,St.ev,getD_0,getD_s,zd,cd,Value.oneCell',Zr,ZG,ZH,Zd,Zc,Zg] <;> exact rfl) rfl ((item_of (swi_yield hI hil hx hsp hc1 hnow).1)) (by simp only [St.put,Za,Zb] <;> exact rfl) ?_))
          (all_goals first | (refine st_g1 rfl rfl rfl (by simp (disch := omega) only [stepf,callOf,qop,fop,St.ev,St.put,cd,zd,Value.oneCell',tb_T,TypeDesc.aggB,getD_0,getD_s,Ze,Zd,Zc,Za,Zb,Zr,ZE,ZF,Zf,Zq,Zg,i64_w,Zt,Zs,Bool.not_true,Bool.not_false,qFieldAddr,fieldOf,Zl,Zo,Zv,Zw,Zj,Zk,Zx,Zy,qLoad,bload,pload,pureAll,D.pure?,ZC,ZD,qBin,iop,tb_W,tbO_W,qBuild,qBuildD,D.cell1,range_1,range_2,range_3,range_4,range_5,List.all_cons,List.all_nil,bfill,TI.place,TI.zeros,TI.kindOk,D.cells?,zp,Value.cells,ZQ,ZP,pvAll,D.pv?,t1,ti1,t3,ti3,t4,ti4,t5,ti5,t22,ti22,t24,ti24,t26,ti26,t35,ti35,t40,ti40,t50,ti50,t58,ti58,t60,ti60,t63,ti63,t69,ti69,t71,ti71,t75,ti75,t185,ti185,endCells_part,endCells_length,endCells_at0,Zh,hx] <;> exact rfl) ?_) | (first | (refine st_g0 rfl rfl rfl (by simp only [St.put,Za,Zb] <;> exact rfl) ?_) | (refine st_gu rfl rfl rfl (by simp only [St.put,Za,Zb] <;> exact rfl) ?_)) | (refine st_split rfl rfl rfl (by simp only [Za,Zb] <;> exact rfl) (by simp only [Za,Zb] <;> exact rfl) (fun hg => ?_) (fun hg => ?_) <;> (try simp only [Zp,Zi,ZJ,ZK,ne_eq,Zn,Zm,Bool.not_eq_true,Zu] at hg) <;> first | (refine st_g1 rfl rfl rfl (by simp (disch := omega) only [stepf,callOf,qop,fop,St.ev,St.put,cd,zd,Value.oneCell',tb_T,TypeDesc.aggB,getD_0,getD_s,Ze,Zd,Zc,Za,Zb,Zr,ZE,ZF,Zf,Zq,Zg,i64_w,Zt,Zs,Bool.not_true,Bool.not_false,qFieldAddr,fieldOf,Zl,Zo,Zv,Zw,Zj,Zk,Zx,Zy,qLoad,bload,pload,pureAll,D.pure?,ZC,ZD,qBin,iop,tb_W,tbO_W,qBuild,qBuildD,D.cell1,range_1,range_2,range_3,range_4,range_5,List.all_cons,List.all_nil,bfill,TI.place,TI.zeros,TI.kindOk,D.cells?,zp,Value.cells,ZQ,ZP,pvAll,D.pv?,t1,ti1,t3,ti3,t4,ti4,t5,ti5,t22,ti22,t24,ti24,t26,ti26,t35,ti35,t40,ti40,t50,ti50,t58,ti58,t60,ti60,t63,ti63,t69,ti69,t71,ti71,t75,ti75,t185,ti185,endCells_part,endCells_length,endCells_at0,Zh,hx] <;> exact rfl) ?_) | (first | (refine st_g0 rfl rfl rfl (by simp only [St.put,Za,Zb] <;> exact rfl) ?_) | (refine st_gu rfl rfl rfl (by simp only [St.put,Za,Zb] <;> exact rfl) ?_))))
          (refine st_op rfl (by simp (disch := omega) only [stepf,callOf,qop,fop,St.ev,St.put,cd,zd,Value.oneCell',tb_T,TypeDesc.aggB,getD_0,getD_s,Ze,Zd,Zc,Za,Zb,Zr,ZE,ZF,Zf,Zq,Zg,i64_w,Zt,Zs,Bool.not_true,Bool.not_false,qFieldAddr,fieldOf,Zl,Zo,Zv,Zw,Zj,Zk,Zx,Zy,qLoad,bload,pload,pureAll,D.pure?,ZC,ZD,qBin,iop,tb_W,tbO_W,qBuild,qBuildD,D.cell1,range_1,range_2,range_3,range_4,range_5,List.all_cons,List.all_nil,bfill,TI.place,TI.zeros,TI.kindOk,D.cells?,zp,Value.cells,ZQ,ZP,pvAll,D.pv?,t1,ti1,t3,ti3,t4,ti4,t5,ti5,t22,ti22,t24,ti24,t26,ti26,t35,ti35,t40,ti40,t50,ti50,t58,ti58,t60,ti60,t63,ti63,t69,ti69,t71,ti71,t75,ti75,t185,ti185,endCells_part,endCells_length,endCells_at0,Zh,hx] <;> exact rfl) ?_)
          refine aops_nil ?_
          exact hK
        refine exq_n ?_
        refine aw_cond false rfl (fun h => by cases h) (fun _ => ?_)
        refine aw_skip ?_
        refine exq_n ?_
        refine aw_regK hX hb [0, 1] rfl (σ' := ?s13) (fun K hK => ?h13) ?n13
        case h13 =>
          iterate 2 (refine st_op rfl (by simp (disch := omega) only [stepf,callOf,qop,fop,St.ev,St.put,cd,zd,Value.oneCell',tb_T,TypeDesc.aggB,getD_0,getD_s,Ze,Zd,Zc,Za,Zb,Zr,ZE,ZF,Zf,Zq,Zg,i64_w,Zt,Zs,endCells_part,endCells_length,endCells_at0,Zh] <;> exact rfl) ?_)
          refine aops_nil ?_
          exact hK
        refine exb_n ?_
        refine exq_n ?_
        refine aw_regK hX hb [0, 1] rfl (σ' := ?s14) (fun K hK => ?h14) ?n14
        case h14 =>
          iterate 2 (refine st_op rfl (by simp (disch := omega) only [stepf,callOf,qop,fop,St.ev,St.put,cd,zd,Value.oneCell',tb_T,TypeDesc.aggB,getD_0,getD_s,Ze,Zd,Zc,Za,Zb,Zr,ZE,ZF,Zf,Zq,Zg,i64_w,Zt,Zs,qBin,iop,t1,ti1,t3,ti3,endCells_part,endCells_length,endCells_at0,Zh] <;> exact rfl) ?_)
          refine aops_nil ?_
          exact hK
        refine exq_n ?_
        exact ⟨(i + 1, d + sp, st, false, k), by exact swi_out hI hil hx hsp hc1 hnow, by (try dsimp only); omega, wk_le ⟨rfl, leL_r rfl (leL_a (leL_a (leL_r rfl (leL_a (leL_r rfl (leL_r rfl (leL_r rfl (leL_r rfl (leL_a (leL_a (leL_a (leL_a (leL_a (leL_a (leL_a (leL_r rfl (leL_r rfl (leL_r rfl (leL_a (leL_a (leL_a (leL_a (leL_a (leL_a (leL_a (leL_a (leL_a (leL_a (leL_a (leL_a (leL_a (leL_a (leL_a (leL_a (leL_a (leL_a (leL_a (leL_a (leL_a (leL_a (leL_a (leL_a (leL_a (leL_a (leL_a (leL_a (leL_a (leL_a (leL_a (leL_a (leL_a (leL_a (leL_a (leL_a (leL_a (leL_a (leL_a (leL_a (leL_a (leL_a (leL_a (leL_a (leL_a (leL_a (leL_a (leL_a (leL_a (leL_a (leL_a (leL_a (leL_a (leL_a (leL_a (leL_a (leL_a (leL_a (leL_a (leL_a (leL_a (leL_nil)))))))))))))))))))))))))))))))))))))))))))))))))))))))))))))))))))))))))))))))), (leB_r rfl (leL_r rfl (leL_r rfl (leL_nil))) (leB_nil _)), (leV_nil _), rfl, rfl⟩⟩
      · refine aw_regK hX hb [0, 1, 2, 3, 4] rfl (σ' := ?s15) (fun K hK => ?h15) ?n15
        case h15 =>
          iterate 2 (refine st_op rfl (by simp (disch := omega) only [stepf,callOf,qop,fop,St.ev,St.put,cd,zd,Value.oneCell',tb_T,TypeDesc.aggB,getD_0,getD_s,Ze,Zd,Zc,Za,Zb,Zr,ZE,ZF,Zf,Zq,Zg,i64_w,Zt,Zs,Bool.not_true,Bool.not_false,t4,ti4,t58,ti58,endCells_part,endCells_length,endCells_at0,Zh] <;> exact rfl) ?_)
          iterate 2 (all_goals first | (refine st_g1 rfl rfl rfl (by simp (disch := omega) only [stepf,callOf,qop,fop,St.ev,St.put,cd,zd,Value.oneCell',tb_T,TypeDesc.aggB,getD_0,getD_s,Ze,Zd,Zc,Za,Zb,Zr,ZE,ZF,Zf,Zq,Zg,i64_w,Zt,Zs,Bool.not_true,Bool.not_false,t4,ti4,t58,ti58,endCells_part,endCells_length,endCells_at0,Zh] <;> exact rfl) ?_) | (first | (refine st_g0 rfl rfl rfl (by simp only [St.put,Za,Zb] <;> exact rfl) ?_) | (refine st_gu rfl rfl rfl (by simp only [St.put,Za,Zb] <;> exact rfl) ?_)) | (refine st_split rfl rfl rfl (by simp only [Za,Zb] <;> exact rfl) (by simp only [Za,Zb] <;> exact rfl) (fun hg => ?_) (fun hg => ?_) <;> (try simp only [Zp,Zi,ZJ,ZK,ne_eq,Zn,Zm,Bool.not_eq_true,Zu] at hg) <;> first | (refine st_g1 rfl rfl rfl (by simp (disch := omega) only [stepf,callOf,qop,fop,St.ev,St.put,cd,zd,Value.oneCell',tb_T,TypeDesc.aggB,getD_0,getD_s,Ze,Zd,Zc,Za,Zb,Zr,ZE,ZF,Zf,Zq,Zg,i64_w,Zt,Zs,Bool.not_true,Bool.not_false,t4,ti4,t58,ti58,endCells_part,endCells_length,endCells_at0,Zh] <;> exact rfl) ?_) | (first | (refine st_g0 rfl rfl rfl (by simp only [St.put,Za,Zb] <;> exact rfl) ?_) | (refine st_gu rfl rfl rfl (by simp only [St.put,Za,Zb] <;> exact rfl) ?_))))
          (refine st_op rfl (by simp (disch := omega) only [stepf,callOf,qop,fop,St.ev,St.put,cd,zd,Value.oneCell',tb_T,TypeDesc.aggB,getD_0,getD_s,Ze,Zd,Zc,Za,Zb,Zr,ZE,ZF,Zf,Zq,Zg,i64_w,Zt,Zs,Bool.not_true,Bool.not_false,t4,ti4,t58,ti58,endCells_part,endCells_length,endCells_at0,Zh] <;> exact rfl) ?_)
          refine aops_nil ?_
          exact hK
        refine exq_n ?_
        refine aw_cond false rfl (fun h => by cases h) (fun _ => ?_)
        refine aw_skip ?_
        refine exq_n ?_
        refine aw_seq ?_
        refine aw_seq ?_
        refine aw_regK hX hb [0, 1, 2, 3, 4, 5, 6, 7, 8, 9, 10, 11, 12, 13, 14, 15] rfl (σ' := ?s16) (fun K hK => ?h16) ?n16
        case h16 =>
          iterate 3 (refine st_op rfl (by simp (disch := omega) only [stepf,callOf,qop,fop,St.ev,St.put,cd,zd,Value.oneCell',tb_T,TypeDesc.aggB,getD_0,getD_s,Ze,Zd,Zc,Za,Zb,Zr,ZE,ZF,Zf,Zq,Zg,i64_w,Zt,Zs,Bool.not_true,Bool.not_false,qFieldAddr,fieldOf,Zl,Zo,Zv,Zw,Zj,Zk,Zx,Zy,qLoad,bload,pload,pureAll,D.pure?,ZC,ZD,qBin,iop,tb_W,tbO_W,qBuild,qBuildD,D.cell1,range_1,range_2,range_3,range_4,range_5,List.all_cons,List.all_nil,bfill,TI.place,TI.zeros,TI.kindOk,D.cells?,zp,Value.cells,ZQ,ZP,pvAll,D.pv?,t1,ti1,t3,ti3,t4,ti4,t5,ti5,t22,ti22,t24,ti24,t26,ti26,t35,ti35,t40,ti40,t50,ti50,t58,ti58,t60,ti60,t63,ti63,t69,ti69,t71,ti71,t75,ti75,t185,ti185,endCells_part,endCells_length,endCells_at0,Zh,hx] <;> exact rfl) ?_)
          (all_goals first | (refine st_g1 rfl rfl rfl (by simp (disch := omega) only [stepf,callOf,qop,fop,St.ev,St.put,cd,zd,Value.oneCell',tb_T,TypeDesc.aggB,getD_0,getD_s,Ze,Zd,Zc,Za,Zb,Zr,ZE,ZF,Zf,Zq,Zg,i64_w,Zt,Zs,Bool.not_true,Bool.not_false,qFieldAddr,fieldOf,Zl,Zo,Zv,Zw,Zj,Zk,Zx,Zy,qLoad,bload,pload,pureAll,D.pure?,ZC,ZD,qBin,iop,tb_W,tbO_W,qBuild,qBuildD,D.cell1,range_1,range_2,range_3,range_4,range_5,List.all_cons,List.all_nil,bfill,TI.place,TI.zeros,TI.kindOk,D.cells?,zp,Value.cells,ZQ,ZP,pvAll,D.pv?,t1,ti1,t3,ti3,t4,ti4,t5,ti5,t22,ti22,t24,ti24,t26,ti26,t35,ti35,t40,ti40,t50,ti50,t58,ti58,t60,ti60,t63,ti63,t69,ti69,t71,ti71,t75,ti75,t185,ti185,endCells_part,endCells_length,endCells_at0,Zh,hx] <;> exact rfl) ?_) | (first | (refine st_g0 rfl rfl rfl (by simp only [St.put,Za,Zb] <;> exact rfl) ?_) | (refine st_gu rfl rfl rfl (by simp only [St.put,Za,Zb] <;> exact rfl) ?_)) | (refine st_split rfl rfl rfl (by simp only [Za,Zb] <;> exact rfl) (by simp only [Za,Zb] <;> exact rfl) (fun hg => ?_) (fun hg => ?_) <;> (try simp only [Zp,Zi,ZJ,ZK,ne_eq,Zn,Zm,Bool.not_eq_true,Zu] at hg) <;> first | (refine st_g1 rfl rfl rfl (by simp (disch := omega) only [stepf,callOf,qop,fop,St.ev,St.put,cd,zd,Value.oneCell',tb_T,TypeDesc.aggB,getD_0,getD_s,Ze,Zd,Zc,Za,Zb,Zr,ZE,ZF,Zf,Zq,Zg,i64_w,Zt,Zs,Bool.not_true,Bool.not_false,qFieldAddr,fieldOf,Zl,Zo,Zv,Zw,Zj,Zk,Zx,Zy,qLoad,bload,pload,pureAll,D.pure?,ZC,ZD,qBin,iop,tb_W,tbO_W,qBuild,qBuildD,D.cell1,range_1,range_2,range_3,range_4,range_5,List.all_cons,List.all_nil,bfill,TI.place,TI.zeros,TI.kindOk,D.cells?,zp,Value.cells,ZQ,ZP,pvAll,D.pv?,t1,ti1,t3,ti3,t4,ti4,t5,ti5,t22,ti22,t24,ti24,t26,ti26,t35,ti35,t40,ti40,t50,ti50,t58,ti58,t60,ti60,t63,ti63,t69,ti69,t71,ti71,t75,ti75,t185,ti185,endCells_part,endCells_length,endCells_at0,Zh,hx] <;> exact rfl) ?_) | (first | (refine st_g0 rfl rfl rfl (by simp only [St.put,Za,Zb] <;> exact rfl) ?_) | (refine st_gu rfl rfl rfl (by simp only [St.put,Za,Zb] <;> exact rfl) ?_))))
          iterate 2 (refine st_op rfl (by simp (disch := omega) only [stepf,callOf,qop,fop,St.ev,St.put,cd,zd,Value.oneCell',tb_T,TypeDesc.aggB,getD_0,getD_s,Ze,Zd,Zc,Za,Zb,Zr,ZE,ZF,Zf,Zq,Zg,i64_w,Zt,Zs,Bool.not_true,Bool.not_false,qFieldAddr,fieldOf,Zl,Zo,Zv,Zw,Zj,Zk,Zx,Zy,qLoad,bload,pload,pureAll,D.pure?,ZC,ZD,qBin,iop,tb_W,tbO_W,qBuild,qBuildD,D.cell1,range_1,range_2,range_3,range_4,range_5,List.all_cons,List.all_nil,bfill,TI.place,TI.zeros,TI.kindOk,D.cells?,zp,Value.cells,ZQ,ZP,pvAll,D.pv?,t1,ti1,t3,ti3,t4,ti4,t5,ti5,t22,ti22,t24,ti24,t26,ti26,t35,ti35,t40,ti40,t50,ti50,t58,ti58,t60,ti60,t63,ti63,t69,ti69,t71,ti71,t75,ti75,t185,ti185,endCells_part,endCells_length,endCells_at0,Zh,hx] <;> exact rfl) ?_)
          iterate 7 (all_goals first | (refine st_g1 rfl rfl rfl (by simp (disch := omega) only [stepf,callOf,qop,fop,St.ev,St.put,cd,zd,Value.oneCell',tb_T,TypeDesc.aggB,getD_0,getD_s,Ze,Zd,Zc,Za,Zb,Zr,ZE,ZF,Zf,Zq,Zg,i64_w,Zt,Zs,Bool.not_true,Bool.not_false,qFieldAddr,fieldOf,Zl,Zo,Zv,Zw,Zj,Zk,Zx,Zy,qLoad,bload,pload,pureAll,D.pure?,ZC,ZD,qBin,iop,tb_W,tbO_W,qBuild,qBuildD,D.cell1,range_1,range_2,range_3,range_4,range_5,List.all_cons,List.all_nil,bfill,TI.place,TI.zeros,TI.kindOk,D.cells?,zp,Value.cells,ZQ,ZP,pvAll,D.pv?,t1,ti1,t3,ti3,t4,ti4,t5,ti5,t22,ti22,t24,ti24,t26,ti26,t35,ti35,t40,ti40,t50,ti50,t58,ti58,t60,ti60,t63,ti63,t69,ti69,t71,ti71,t75,ti75,t185,ti185,endCells_part,endCells_length,endCells_at0,Zh,hx] <;> exact rfl) ?_) | (first | (refine st_g0 rfl rfl rfl (by simp only [St.put,Za,Zb] <;> exact rfl) ?_) | (refine st_gu rfl rfl rfl (by simp only [St.put,Za,Zb] <;> exact rfl) ?_)) | (refine st_split rfl rfl rfl (by simp only [Za,Zb] <;> exact rfl) (by simp only [Za,Zb] <;> exact rfl) (fun hg => ?_) (fun hg => ?_) <;> (try simp only [Zp,Zi,ZJ,ZK,ne_eq,Zn,Zm,Bool.not_eq_true,Zu] at hg) <;> first | (refine st_g1 rfl rfl rfl (by simp (disch := omega) only [stepf,callOf,qop,fop,St.ev,St.put,cd,zd,Value.oneCell',tb_T,TypeDesc.aggB,getD_0,getD_s,Ze,Zd,Zc,Za,Zb,Zr,ZE,ZF,Zf,Zq,Zg,i64_w,Zt,Zs,Bool.not_true,Bool.not_false,qFieldAddr,fieldOf,Zl,Zo,Zv,Zw,Zj,Zk,Zx,Zy,qLoad,bload,pload,pureAll,D.pure?,ZC,ZD,qBin,iop,tb_W,tbO_W,qBuild,qBuildD,D.cell1,range_1,range_2,range_3,range_4,range_5,List.all_cons,List.all_nil,bfill,TI.place,TI.zeros,TI.kindOk,D.cells?,zp,Value.cells,ZQ,ZP,pvAll,D.pv?,t1,ti1,t3,ti3,t4,ti4,t5,ti5,t22,ti22,t24,ti24,t26,ti26,t35,ti35,t40,ti40,t50,ti50,t58,ti58,t60,ti60,t63,ti63,t69,ti69,t71,ti71,t75,ti75,t185,ti185,endCells_part,endCells_length,endCells_at0,Zh,hx] <;> exact rfl) ?_) | (first | (refine st_g0 rfl rfl rfl (by simp only [St.put,Za,Zb] <;> exact rfl) ?_) | (refine st_gu rfl rfl rfl (by simp only [St.put,Za,Zb] <;> exact rfl) ?_))))
          all_goals first | (first | (refine st_g0 rfl rfl rfl (by simp only [St.put,Za,Zb] <;> exact rfl) ?_) | (refine st_gu rfl rfl rfl (by simp only [St.put,Za,Zb] <;> exact rfl) ?_)) | (refine st_gy rfl rfl rfl rfl (by simp only [St.ev,getD_0,getD_s,zd,cd,Value.oneCell',Zr] <;> exact rfl) (by simp only [pvAll,capCells,D.pvC?,D.pvN?,D.pvL?,pureAll,D.pv?,D.pure?,St.ev,getD_0,getD_s,zd,cd,Value.oneCell',Zr,ZG,ZH,Zd,Zc,Zg] <;> exact rfl) rfl ((item_of (swi_yield hI hil hx hsp hc1 hnow).1)) (by simp only [St.put,Za,Zb] <;> exact rfl) ?_) | (refine st_split rfl rfl rfl (by simp only [Za,Zb] <;> exact rfl) (by simp only [Za,Zb] <;> exact rfl) (fun hg => ?_) (fun hg => ?_) <;> (try simp only [Zp,Zi,ZJ,ZK,ne_eq,Zn,Zm,Bool.not_eq_true,Zu] at hg) <;> first | (first | (refine st_g0 rfl rfl rfl (by simp only [St.put,Za,Zb] <;> exact rfl) ?_) | (refine st_gu rfl rfl rfl (by simp only [St.put,Za,Zb] <;> exact rfl) ?_)) | (refine st_gy rfl rfl rfl rfl (by simp only [St.ev,getD_0,getD_s,zd,cd,Value.oneCell',Zr] <;> exact rfl) (by simp only [pvAll,capCells,D.pvC?,D.pvN?,D.pvL?,pureAll,D.pv?,D.pure?,St.ev,getD_0,getD_s,zd,cd,Value.oneCell',Zr,ZG,ZH,Zd,Zc,Zg] <;> exact rfl) rfl ((item_of (swi_yield hI hil hx hsp hc1 hnow).1)) (by simp only [St.put,Za,Zb] <;> exact rfl) ?_))
          (all_goals first | (refine st_g1 rfl rfl rfl (by simp (disch := omega) only [stepf,callOf,qop,fop,St.ev,St.put,cd,zd,Value.oneCell',tb_T,TypeDesc.aggB,getD_0,getD_s,Ze,Zd,Zc,Za,Zb,Zr,ZE,ZF,Zf,Zq,Zg,i64_w,Zt,Zs,Bool.not_true,Bool.not_false,qFieldAddr,fieldOf,Zl,Zo,Zv,Zw,Zj,Zk,Zx,Zy,qLoad,bload,pload,pureAll,D.pure?,ZC,ZD,qBin,iop,tb_W,tbO_W,qBuild,qBuildD,D.cell1,range_1,range_2,range_3,range_4,range_5,List.all_cons,List.all_nil,bfill,TI.place,TI.zeros,TI.kindOk,D.cells?,zp,Value.cells,ZQ,ZP,pvAll,D.pv?,t1,ti1,t3,ti3,t4,ti4,t5,ti5,t22,ti22,t24,ti24,t26,ti26,t35,ti35,t40,ti40,t50,ti50,t58,ti58,t60,ti60,t63,ti63,t69,ti69,t71,ti71,t75,ti75,t185,ti185,endCells_part,endCells_length,endCells_at0,Zh,hx] <;> exact rfl) ?_) | (first | (refine st_g0 rfl rfl rfl (by simp only [St.put,Za,Zb] <;> exact rfl) ?_) | (refine st_gu rfl rfl rfl (by simp only [St.put,Za,Zb] <;> exact rfl) ?_)) | (refine st_split rfl rfl rfl (by simp only [Za,Zb] <;> exact rfl) (by simp only [Za,Zb] <;> exact rfl) (fun hg => ?_) (fun hg => ?_) <;> (try simp only [Zp,Zi,ZJ,ZK,ne_eq,Zn,Zm,Bool.not_eq_true,Zu] at hg) <;> first | (refine st_g1 rfl rfl rfl (by simp (disch := omega) only [stepf,callOf,qop,fop,St.ev,St.put,cd,zd,Value.oneCell',tb_T,TypeDesc.aggB,getD_0,getD_s,Ze,Zd,Zc,Za,Zb,Zr,ZE,ZF,Zf,Zq,Zg,i64_w,Zt,Zs,Bool.not_true,Bool.not_false,qFieldAddr,fieldOf,Zl,Zo,Zv,Zw,Zj,Zk,Zx,Zy,qLoad,bload,pload,pureAll,D.pure?,ZC,ZD,qBin,iop,tb_W,tbO_W,qBuild,qBuildD,D.cell1,range_1,range_2,range_3,range_4,range_5,List.all_cons,List.all_nil,bfill,TI.place,TI.zeros,TI.kindOk,D.cells?,zp,Value.cells,ZQ,ZP,pvAll,D.pv?,t1,ti1,t3,ti3,t4,ti4,t5,ti5,t22,ti22,t24,ti24,t26,ti26,t35,ti35,t40,ti40,t50,ti50,t58,ti58,t60,ti60,t63,ti63,t69,ti69,t71,ti71,t75,ti75,t185,ti185,endCells_part,endCells_length,endCells_at0,Zh,hx] <;> exact rfl) ?_) | (first | (refine st_g0 rfl rfl rfl (by simp only [St.put,Za,Zb] <;> exact rfl) ?_) | (refine st_gu rfl rfl rfl (by simp only [St.put,Za,Zb] <;> exact rfl) ?_))))
          (refine st_op rfl (by simp (disch := omega) only [stepf,callOf,qop,fop,St.ev,St.put,cd,zd,Value.oneCell',tb_T,TypeDesc.aggB,getD_0,getD_s,Ze,Zd,Zc,Za,Zb,Zr,ZE,ZF,Zf,Zq,Zg,i64_w,Zt,Zs,Bool.not_true,Bool.not_false,qFieldAddr,fieldOf,Zl,Zo,Zv,Zw,Zj,Zk,Zx,Zy,qLoad,bload,pload,pureAll,D.pure?,ZC,ZD,qBin,iop,tb_W,tbO_W,qBuild,qBuildD,D.cell1,range_1,range_2,range_3,range_4,range_5,List.all_cons,List.all_nil,bfill,TI.place,TI.zeros,TI.kindOk,D.cells?,zp,Value.cells,ZQ,ZP,pvAll,D.pv?,t1,ti1,t3,ti3,t4,ti4,t5,ti5,t22,ti22,t24,ti24,t26,ti26,t35,ti35,t40,ti40,t50,ti50,t58,ti58,t60,ti60,t63,ti63,t69,ti69,t71,ti71,t75,ti75,t185,ti185,endCells_part,endCells_length,endCells_at0,Zh,hx] <;> exact rfl) ?_)
          refine aops_nil ?_
          exact hK
        refine exq_n ?_
        refine aw_cond false rfl (fun h => by cases h) (fun _ => ?_)
        refine aw_skip ?_
        refine exq_n ?_
        refine aw_regK hX hb [0, 1] rfl (σ' := ?s17) (fun K hK => ?h17) ?n17
        case h17 =>
          iterate 2 (refine st_op rfl (by simp (disch := omega) only [stepf,callOf,qop,fop,St.ev,St.put,cd,zd,Value.oneCell',tb_T,TypeDesc.aggB,getD_0,getD_s,Ze,Zd,Zc,Za,Zb,Zr,ZE,ZF,Zf,Zq,Zg,i64_w,Zt,Zs,endCells_part,endCells_length,endCells_at0,Zh] <;> exact rfl) ?_)
          refine aops_nil ?_
          exact hK
        refine exb_n ?_
        refine exq_n ?_
        refine aw_regK hX hb [0, 1] rfl (σ' := ?s18) (fun K hK => ?h18) ?n18
        case h18 =>
          iterate 2 (refine st_op rfl (by simp (disch := omega) only [stepf,callOf,qop,fop,St.ev,St.put,cd,zd,Value.oneCell',tb_T,TypeDesc.aggB,getD_0,getD_s,Ze,Zd,Zc,Za,Zb,Zr,ZE,ZF,Zf,Zq,Zg,i64_w,Zt,Zs,qBin,iop,t1,ti1,t3,ti3,endCells_part,endCells_length,endCells_at0,Zh] <;> exact rfl) ?_)
          refine aops_nil ?_
          exact hK
        refine exq_n ?_
        exact ⟨(i + 1, d + sp, st, false, k + 1), by exact (swi_yield hI hil hx hsp hc1 hnow).2, by (try dsimp only); omega, wk_le ⟨rfl, leL_r rfl (leL_a (leL_a (leL_r rfl (leL_a (leL_r rfl (leL_r rfl (leL_r rfl (leL_r rfl (leL_a (leL_a (leL_a (leL_a (leL_a (leL_a (leL_a (leL_r rfl (leL_r rfl (leL_r rfl (leL_a (leL_a (leL_a (leL_a (leL_a (leL_a (leL_a (leL_a (leL_a (leL_a (leL_a (leL_a (leL_a (leL_a (leL_a (leL_a (leL_a (leL_a (leL_a (leL_a (leL_a (leL_a (leL_a (leL_a (leL_a (leL_a (leL_a (leL_a (leL_a (leL_a (leL_a (leL_a (leL_a (leL_a (leL_a (leL_a (leL_a (leL_a (leL_a (leL_a (leL_a (leL_a (leL_a (leL_a (leL_a (leL_a (leL_a (leL_a (leL_a (leL_a (leL_a (leL_a (leL_a (leL_a (leL_a (leL_a (leL_a (leL_a (leL_a (leL_a (leL_a (leL_nil)))))))))))))))))))))))))))))))))))))))))))))))))))))))))))))))))))))))))))))))), (leB_r rfl (leL_r rfl (leL_r rfl (leL_nil))) (leB_nil _)), (leV_nil _), rfl, rfl⟩⟩
      · refine aw_regK hX hb [0, 1, 2, 3, 4] rfl (σ' := ?s19) (fun K hK => ?h19) ?n19
        case h19 =>
          iterate 2 (refine st_op rfl (by simp (disch := omega) only [stepf,callOf,qop,fop,St.ev,St.put,cd,zd,Value.oneCell',tb_T,TypeDesc.aggB,getD_0,getD_s,Ze,Zd,Zc,Za,Zb,Zr,ZE,ZF,Zf,Zq,Zg,i64_w,Zt,Zs,Bool.not_true,Bool.not_false,t4,ti4,t58,ti58,endCells_part,endCells_length,endCells_at0,Zh] <;> exact rfl) ?_)
          iterate 2 (all_goals first | (refine st_g1 rfl rfl rfl (by simp (disch := omega) only [stepf,callOf,qop,fop,St.ev,St.put,cd,zd,Value.oneCell',tb_T,TypeDesc.aggB,getD_0,getD_s,Ze,Zd,Zc,Za,Zb,Zr,ZE,ZF,Zf,Zq,Zg,i64_w,Zt,Zs,Bool.not_true,Bool.not_false,t4,ti4,t58,ti58,endCells_part,endCells_length,endCells_at0,Zh] <;> exact rfl) ?_) | (first | (refine st_g0 rfl rfl rfl (by simp only [St.put,Za,Zb] <;> exact rfl) ?_) | (refine st_gu rfl rfl rfl (by simp only [St.put,Za,Zb] <;> exact rfl) ?_)) | (refine st_split rfl rfl rfl (by simp only [Za,Zb] <;> exact rfl) (by simp only [Za,Zb] <;> exact rfl) (fun hg => ?_) (fun hg => ?_) <;> (try simp only [Zp,Zi,ZJ,ZK,ne_eq,Zn,Zm,Bool.not_eq_true,Zu] at hg) <;> first | (refine st_g1 rfl rfl rfl (by simp (disch := omega) only [stepf,callOf,qop,fop,St.ev,St.put,cd,zd,Value.oneCell',tb_T,TypeDesc.aggB,getD_0,getD_s,Ze,Zd,Zc,Za,Zb,Zr,ZE,ZF,Zf,Zq,Zg,i64_w,Zt,Zs,Bool.not_true,Bool.not_false,t4,ti4,t58,ti58,endCells_part,endCells_length,endCells_at0,Zh] <;> exact rfl) ?_) | (first | (refine st_g0 rfl rfl rfl (by simp only [St.put,Za,Zb] <;> exact rfl) ?_) | (refine st_gu rfl rfl rfl (by simp only [St.put,Za,Zb] <;> exact rfl) ?_))))
          (refine st_op rfl (by simp (disch := omega) only [stepf,callOf,qop,fop,St.ev,St.put,cd,zd,Value.oneCell',tb_T,TypeDesc.aggB,getD_0,getD_s,Ze,Zd,Zc,Za,Zb,Zr,ZE,ZF,Zf,Zq,Zg,i64_w,Zt,Zs,Bool.not_true,Bool.not_false,t4,ti4,t58,ti58,endCells_part,endCells_length,endCells_at0,Zh] <;> exact rfl) ?_)
          refine aops_nil ?_
          exact hK
        refine exq_n ?_
        refine aw_cond true rfl (fun _ => ?_) (fun h => by cases h)
        refine aw_regK hX hb [0, 1, 2] rfl (σ' := ?s20) (fun K hK => ?h20) ?n20
        case h20 =>
          iterate 3 (refine st_op rfl (by simp (disch := omega) only [stepf,callOf,qop,fop,St.ev,St.put,cd,zd,Value.oneCell',tb_T,TypeDesc.aggB,getD_0,getD_s,Ze,Zd,Zc,Za,Zb,Zr,ZE,ZF,Zf,Zq,Zg,i64_w,Zt,Zs,qFieldAddr,fieldOf,Zl,Zo,Zv,Zw,Zj,Zk,Zx,Zy,qLoad,bload,pload,pureAll,D.pure?,ZC,ZD,t3,ti3,t58,ti58,t60,ti60,t185,ti185,endCells_part,endCells_length,endCells_at0,Zh,hx] <;> exact rfl) ?_)
          refine aops_nil ?_
          exact hK
        refine exq_n ?_
        refine aw_seq ?_
        refine aw_seq ?_
        refine aw_regK hX hb [0, 1, 2, 3, 4, 5, 6, 7, 8, 9, 10, 11, 12, 13, 14, 15] rfl (σ' := ?s21) (fun K hK => ?h21) ?n21
        case h21 =>
          iterate 3 (refine st_op rfl (by simp (disch := omega) only [stepf,callOf,qop,fop,St.ev,St.put,cd,zd,Value.oneCell',tb_T,TypeDesc.aggB,getD_0,getD_s,Ze,Zd,Zc,Za,Zb,Zr,ZE,ZF,Zf,Zq,Zg,i64_w,Zt,Zs,Bool.not_true,Bool.not_false,qFieldAddr,fieldOf,Zl,Zo,Zv,Zw,Zj,Zk,Zx,Zy,qLoad,bload,pload,pureAll,D.pure?,ZC,ZD,qBin,iop,tb_W,tbO_W,qBuild,qBuildD,D.cell1,range_1,range_2,range_3,range_4,range_5,List.all_cons,List.all_nil,bfill,TI.place,TI.zeros,TI.kindOk,D.cells?,zp,Value.cells,ZQ,ZP,pvAll,D.pv?,t1,ti1,t3,ti3,t4,ti4,t5,ti5,t22,ti22,t24,ti24,t26,ti26,t35,ti35,t40,ti40,t50,ti50,t58,ti58,t60,ti60,t63,ti63,t69,ti69,t71,ti71,t75,ti75,t185,ti185,endCells_part,endCells_length,endCells_at0,Zh,hx] <;> exact rfl) ?_)
          (all_goals first | (refine st_g1 rfl rfl rfl (by simp (disch := omega) only [stepf,callOf,qop,fop,St.ev,St.put,cd,zd,Value.oneCell',tb_T,TypeDesc.aggB,getD_0,getD_s,Ze,Zd,Zc,Za,Zb,Zr,ZE,ZF,Zf,Zq,Zg,i64_w,Zt,Zs,Bool.not_true,Bool.not_false,qFieldAddr,fieldOf,Zl,Zo,Zv,Zw,Zj,Zk,Zx,Zy,qLoad,bload,pload,pureAll,D.pure?,ZC,ZD,qBin,iop,tb_W,tbO_W,qBuild,qBuildD,D.cell1,range_1,range_2,range_3,range_4,range_5,List.all_cons,List.all_nil,bfill,TI.place,TI.zeros,TI.kindOk,D.cells?,zp,Value.cells,ZQ,ZP,pvAll,D.pv?,t1,ti1,t3,ti3,t4,ti4,t5,ti5,t22,ti22,t24,ti24,t26,ti26,t35,ti35,t40,ti40,t50,ti50,t58,ti58,t60,ti60,t63,ti63,t69,ti69,t71,ti71,t75,ti75,t185,ti185,endCells_part,endCells_length,endCells_at0,Zh,hx] <;> exact rfl) ?_) | (first | (refine st_g0 rfl rfl rfl (by simp only [St.put,Za,Zb] <;> exact rfl) ?_) | (refine st_gu rfl rfl rfl (by simp only [St.put,Za,Zb] <;> exact rfl) ?_)) | (refine st_split rfl rfl rfl (by simp only [Za,Zb] <;> exact rfl) (by simp only [Za,Zb] <;> exact rfl) (fun hg => ?_) (fun hg => ?_) <;> (try simp only [Zp,Zi,ZJ,ZK,ne_eq,Zn,Zm,Bool.not_eq_true,Zu] at hg) <;> first | (refine st_g1 rfl rfl rfl (by simp (disch := omega) only [stepf,callOf,qop,fop,St.ev,St.put,cd,zd,Value.oneCell',tb_T,TypeDesc.aggB,getD_0,getD_s,Ze,Zd,Zc,Za,Zb,Zr,ZE,ZF,Zf,Zq,Zg,i64_w,Zt,Zs,Bool.not_true,Bool.not_false,qFieldAddr,fieldOf,Zl,Zo,Zv,Zw,Zj,Zk,Zx,Zy,qLoad,bload,pload,pureAll,D.pure?,ZC,ZD,qBin,iop,tb_W,tbO_W,qBuild,qBuildD,D.cell1,range_1,range_2,range_3,range_4,range_5,List.all_cons,List.all_nil,bfill,TI.place,TI.zeros,TI.kindOk,D.cells?,zp,Value.cells,ZQ,ZP,pvAll,D.pv?,t1,ti1,t3,ti3,t4,ti4,t5,ti5,t22,ti22,t24,ti24,t26,ti26,t35,ti35,t40,ti40,t50,ti50,t58,ti58,t60,ti60,t63,ti63,t69,ti69,t71,ti71,t75,ti75,t185,ti185,endCells_part,endCells_length,endCells_at0,Zh,hx] <;> exact rfl) ?_) | (first | (refine st_g0 rfl rfl rfl (by simp only [St.put,Za,Zb] <;> exact rfl) ?_) | (refine st_gu rfl rfl rfl (by simp only [St.put,Za,Zb] <;> exact rfl) ?_))))
          iterate 2 (refine st_op rfl (by simp (disch := omega) only [stepf,callOf,qop,fop,St.ev,St.put,cd,zd,Value.oneCell',tb_T,TypeDesc.aggB,getD_0,getD_s,Ze,Zd,Zc,Za,Zb,Zr,ZE,ZF,Zf,Zq,Zg,i64_w,Zt,Zs,Bool.not_true,Bool.not_false,qFieldAddr,fieldOf,Zl,Zo,Zv,Zw,Zj,Zk,Zx,Zy,qLoad,bload,pload,pureAll,D.pure?,ZC,ZD,qBin,iop,tb_W,tbO_W,qBuild,qBuildD,D.cell1,range_1,range_2,range_3,range_4,range_5,List.all_cons,List.all_nil,bfill,TI.place,TI.zeros,TI.kindOk,D.cells?,zp,Value.cells,ZQ,ZP,pvAll,D.pv?,t1,ti1,t3,ti3,t4,ti4,t5,ti5,t22,ti22,t24,ti24,t26,ti26,t35,ti35,t40,ti40,t50,ti50,t58,ti58,t60,ti60,t63,ti63,t69,ti69,t71,ti71,t75,ti75,t185,ti185,endCells_part,endCells_length,endCells_at0,Zh,hx] <;> exact rfl) ?_)
          iterate 7 (all_goals first | (refine st_g1 rfl rfl rfl (by simp (disch := omega) only [stepf,callOf,qop,fop,St.ev,St.put,cd,zd,Value.oneCell',tb_T,TypeDesc.aggB,getD_0,getD_s,Ze,Zd,Zc,Za,Zb,Zr,ZE,ZF,Zf,Zq,Zg,i64_w,Zt,Zs,Bool.not_true,Bool.not_false,qFieldAddr,fieldOf,Zl,Zo,Zv,Zw,Zj,Zk,Zx,Zy,qLoad,bload,pload,pureAll,D.pure?,ZC,ZD,qBin,iop,tb_W,tbO_W,qBuild,qBuildD,D.cell1,range_1,range_2,range_3,range_4,range_5,List.all_cons,List.all_nil,bfill,TI.place,TI.zeros,TI.kindOk,D.cells?,zp,Value.cells,ZQ,ZP,pvAll,D.pv?,t1,ti1,t3,ti3,t4,ti4,t5,ti5,t22,ti22,t24,ti24,t26,ti26,t35,ti35,t40,ti40,t50,ti50,t58,ti58,t60,ti60,t63,ti63,t69,ti69,t71,ti71,t75,ti75,t185,ti185,endCells_part,endCells_length,endCells_at0,Zh,hx] <;> exact rfl) ?_) | (first | (refine st_g0 rfl rfl rfl (by simp only [St.put,Za,Zb] <;> exact rfl) ?_) | (refine st_gu rfl rfl rfl (by simp only [St.put,Za,Zb] <;> exact rfl) ?_)) | (refine st_split rfl rfl rfl (by simp only [Za,Zb] <;> exact rfl) (by simp only [Za,Zb] <;> exact rfl) (fun hg => ?_) (fun hg => ?_) <;> (try simp only [Zp,Zi,ZJ,ZK,ne_eq,Zn,Zm,Bool.not_eq_true,Zu] at hg) <;> first | (refine st_g1 rfl rfl rfl (by simp (disch := omega) only [stepf,callOf,qop,fop,St.ev,St.put,cd,zd,Value.oneCell',tb_T,TypeDesc.aggB,getD_0,getD_s,Ze,Zd,Zc,Za,Zb,Zr,ZE,ZF,Zf,Zq,Zg,i64_w,Zt,Zs,Bool.not_true,Bool.not_false,qFieldAddr,fieldOf,Zl,Zo,Zv,Zw,Zj,Zk,Zx,Zy,qLoad,bload,pload,pureAll,D.pure?,ZC,ZD,qBin,iop,tb_W,tbO_W,qBuild,qBuildD,D.cell1,range_1,range_2,range_3,range_4,range_5,List.all_cons,List.all_nil,bfill,TI.place,TI.zeros,TI.kindOk,D.cells?,zp,Value.cells,ZQ,ZP,pvAll,D.pv?,t1,ti1,t3,ti3,t4,ti4,t5,ti5,t22,ti22,t24,ti24,t26,ti26,t35,ti35,t40,ti40,t50,ti50,t58,ti58,t60,ti60,t63,ti63,t69,ti69,t71,ti71,t75,ti75,t185,ti185,endCells_part,endCells_length,endCells_at0,Zh,hx] <;> exact rfl) ?_) | (first | (refine st_g0 rfl rfl rfl (by simp only [St.put,Za,Zb] <;> exact rfl) ?_) | (refine st_gu rfl rfl rfl (by simp only [St.put,Za,Zb] <;> exact rfl) ?_))))
          all_goals first | (first | (refine st_g0 rfl rfl rfl (by simp only [St.put,Za,Zb] <;> exact rfl) ?_) | (refine st_gu rfl rfl rfl (by simp only [St.put,Za,Zb] <;> exact rfl) ?_)) | (refine st_gy rfl rfl rfl rfl (by simp only [St.ev,getD_0,getD_s,zd,cd,Value.oneCell',Zr] <;> exact rfl) (by simp only [pvAll,capCells,D.pvC?,D.pvN?,D.pvL?,pureAll,D.pv?,D.pure?,St.ev,getD_0,getD_s,zd,cd,Value.oneCell',Zr,ZG,ZH,Zd,Zc,Zg] <;> exact rfl) rfl ((item_of (swi_yield hI hil hx hsp hc1 hnow).1)) (by simp only [St.put,Za,Zb] <;> exact rfl) ?_) | (refine st_split rfl rfl rfl (by simp only [Za,Zb] <;> exact rfl) (by simp only [Za,Zb] <;> exact rfl) (fun hg => ?_) (fun hg => ?_) <;> (try simp only [Zp,Zi,ZJ,ZK,ne_eq,Zn,Zm,Bool.not_eq_true,Zu] at hg) <;> first | (first | (refine st_g0 rfl rfl rfl (by simp only [St.put,Za,Zb] <;> exact rfl) ?_) | (refine st_gu rfl rfl rfl (by simp only [St.put,Za,Zb] <;> exact rfl) ?_)) | (refine st_gy rfl rfl rfl rfl (by simp only [St.ev,getD_0,getD_s,zd,cd,Value.oneCell',Zr] <;> exact rfl) (by simp only [pvAll,capCells,D.pvC?,D.pvN?,D.pvL?,pureAll,D.pv?,D.pure?,St.ev,getD_0,getD_s,zd,cd,Value.oneCell',Zr,ZG,ZH,Zd,Zc,Zg] <;> exact rfl) rfl ((item_of (swi_yield hI hil hx hsp hc1 hnow).1)) (by simp only [St.put,Za,Zb] <;> exact rfl) ?_))
          (all_goals first | (refine st_g1 rfl rfl rfl (by simp (disch := omega) only [stepf,callOf,qop,fop,St.ev,St.put,cd,zd,Value.oneCell',tb_T,TypeDesc.aggB,getD_0,getD_s,Ze,Zd,Zc,Za,Zb,Zr,ZE,ZF,Zf,Zq,Zg,i64_w,Zt,Zs,Bool.not_true,Bool.not_false,qFieldAddr,fieldOf,Zl,Zo,Zv,Zw,Zj,Zk,Zx,Zy,qLoad,bload,pload,pureAll,D.pure?,ZC,ZD,qBin,iop,tb_W,tbO_W,qBuild,qBuildD,D.cell1,range_1,range_2,range_3,range_4,range_5,List.all_cons,List.all_nil,bfill,TI.place,TI.zeros,TI.kindOk,D.cells?,zp,Value.cells,ZQ,ZP,pvAll,D.pv?,t1,ti1,t3,ti3,t4,ti4,t5,ti5,t22,ti22,t24,ti24,t26,ti26,t35,ti35,t40,ti40,t50,ti50,t58,ti58,t60,ti60,t63,ti63,t69,ti69,t71,ti71,t75,ti75,t185,ti185,endCells_part,endCells_length,endCells_at0,Zh,hx] <;> exact rfl) ?_) | (first | (refine st_g0 rfl rfl rfl (by simp only [St.put,Za,Zb] <;> exact rfl) ?_) | (refine st_gu rfl rfl rfl (by simp only [St.put,Za,Zb] <;> exact rfl) ?_)) | (refine st_split rfl rfl rfl (by simp only [Za,Zb] <;> exact rfl) (by simp only [Za,Zb] <;> exact rfl) (fun hg => ?_) (fun hg => ?_) <;> (try simp only [Zp,Zi,ZJ,ZK,ne_eq,Zn,Zm,Bool.not_eq_true,Zu] at hg) <;> first | (refine st_g1 rfl rfl rfl (by simp (disch := omega) only [stepf,callOf,qop,fop,St.ev,St.put,cd,zd,Value.oneCell',tb_T,TypeDesc.aggB,getD_0,getD_s,Ze,Zd,Zc,Za,Zb,Zr,ZE,ZF,Zf,Zq,Zg,i64_w,Zt,Zs,Bool.not_true,Bool.not_false,qFieldAddr,fieldOf,Zl,Zo,Zv,Zw,Zj,Zk,Zx,Zy,qLoad,bload,pload,pureAll,D.pure?,ZC,ZD,qBin,iop,tb_W,tbO_W,qBuild,qBuildD,D.cell1,range_1,range_2,range_3,range_4,range_5,List.all_cons,List.all_nil,bfill,TI.place,TI.zeros,TI.kindOk,D.cells?,zp,Value.cells,ZQ,ZP,pvAll,D.pv?,t1,ti1,t3,ti3,t4,ti4,t5,ti5,t22,ti22,t24,ti24,t26,ti26,t35,ti35,t40,ti40,t50,ti50,t58,ti58,t60,ti60,t63,ti63,t69,ti69,t71,ti71,t75,ti75,t185,ti185,endCells_part,endCells_length,endCells_at0,Zh,hx] <;> exact rfl) ?_) | (first | (refine st_g0 rfl rfl rfl (by simp only [St.put,Za,Zb] <;> exact rfl) ?_) | (refine st_gu rfl rfl rfl (by simp only [St.put,Za,Zb] <;> exact rfl) ?_))))
          (refine st_op rfl (by simp (disch := omega) only [stepf,callOf,qop,fop,St.ev,St.put,cd,zd,Value.oneCell',tb_T,TypeDesc.aggB,getD_0,getD_s,Ze,Zd,Zc,Za,Zb,Zr,ZE,ZF,Zf,Zq,Zg,i64_w,Zt,Zs,Bool.not_true,Bool.not_false,qFieldAddr,fieldOf,Zl,Zo,Zv,Zw,Zj,Zk,Zx,Zy,qLoad,bload,pload,pureAll,D.pure?,ZC,ZD,qBin,iop,tb_W,tbO_W,qBuild,qBuildD,D.cell1,range_1,range_2,range_3,range_4,range_5,List.all_cons,List.all_nil,bfill,TI.place,TI.zeros,TI.kindOk,D.cells?,zp,Value.cells,ZQ,ZP,pvAll,D.pv?,t1,ti1,t3,ti3,t4,ti4,t5,ti5,t22,ti22,t24,ti24,t26,ti26,t35,ti35,t40,ti40,t50,ti50,t58,ti58,t60,ti60,t63,ti63,t69,ti69,t71,ti71,t75,ti75,t185,ti185,endCells_part,endCells_length,endCells_at0,Zh,hx] <;> exact rfl) ?_)
          refine aops_nil ?_
          exact hK
        refine exq_n ?_
        refine aw_cond false rfl (fun h => by cases h) (fun _ => ?_)
        refine aw_skip ?_
        refine exq_n ?_
        refine aw_regK hX hb [0, 1] rfl (σ' := ?s22) (fun K hK => ?h22) ?n22
        case h22 =>
          iterate 2 (refine st_op rfl (by simp (disch := omega) only [stepf,callOf,qop,fop,St.ev,St.put,cd,zd,Value.oneCell',tb_T,TypeDesc.aggB,getD_0,getD_s,Ze,Zd,Zc,Za,Zb,Zr,ZE,ZF,Zf,Zq,Zg,i64_w,Zt,Zs,endCells_part,endCells_length,endCells_at0,Zh] <;> exact rfl) ?_)
          refine aops_nil ?_
          exact hK
        refine exb_n ?_
        refine exq_n ?_
        refine aw_regK hX hb [0, 1] rfl (σ' := ?s23) (fun K hK => ?h23) ?n23
        case h23 =>
          iterate 2 (refine st_op rfl (by simp (disch := omega) only [stepf,callOf,qop,fop,St.ev,St.put,cd,zd,Value.oneCell',tb_T,TypeDesc.aggB,getD_0,getD_s,Ze,Zd,Zc,Za,Zb,Zr,ZE,ZF,Zf,Zq,Zg,i64_w,Zt,Zs,qBin,iop,t1,ti1,t3,ti3,endCells_part,endCells_length,endCells_at0,Zh] <;> exact rfl) ?_)
          refine aops_nil ?_
          exact hK
        refine exq_n ?_
        exact ⟨(i + 1, d + sp, at2, true, k), by exact swi_in hI hil hx hsp ⟨ha1, ha2⟩ hc1 hnow, by (try dsimp only); omega, wk_le ⟨rfl, leL_r rfl (leL_a (leL_a (leL_r rfl (leL_a (leL_r rfl (leL_r rfl (leL_r rfl (leL_r rfl (leL_a (leL_a (leL_a (leL_a (leL_a (leL_a (leL_a (leL_r rfl (leL_r rfl (leL_r rfl (leL_a (leL_a (leL_a (leL_a (leL_a (leL_a (leL_a (leL_a (leL_a (leL_a (leL_a (leL_a (leL_a (leL_a (leL_a (leL_a (leL_a (leL_a (leL_a (leL_a (leL_a (leL_a (leL_a (leL_a (leL_a (leL_a (leL_a (leL_a (leL_a (leL_a (leL_a (leL_a (leL_a (leL_a (leL_a (leL_a (leL_a (leL_a (leL_a (leL_a (leL_a (leL_a (leL_a (leL_a (leL_a (leL_a (leL_a (leL_a (leL_a (leL_a (leL_a (leL_a (leL_a (leL_a (leL_a (leL_a (leL_a (leL_a (leL_a (leL_a (leL_a (leL_nil)))))))))))))))))))))))))))))))))))))))))))))))))))))))))))))))))))))))))))))))), (leB_r rfl (leL_r rfl (leL_r rfl (leL_nil))) (leB_nil _)), (leV_nil _), rfl, rfl⟩⟩
      · refine aw_regK hX hb [0, 1, 2, 3, 4] rfl (σ' := ?s24) (fun K hK => ?h24) ?n24
        case h24 =>
          iterate 2 (refine st_op rfl (by simp (disch := omega) only [stepf,callOf,qop,fop,St.ev,St.put,cd,zd,Value.oneCell',tb_T,TypeDesc.aggB,getD_0,getD_s,Ze,Zd,Zc,Za,Zb,Zr,ZE,ZF,Zf,Zq,Zg,i64_w,Zt,Zs,Bool.not_true,Bool.not_false,t4,ti4,t58,ti58,endCells_part,endCells_length,endCells_at0,Zh] <;> exact rfl) ?_)
          iterate 2 (all_goals first | (refine st_g1 rfl rfl rfl (by simp (disch := omega) only [stepf,callOf,qop,fop,St.ev,St.put,cd,zd,Value.oneCell',tb_T,TypeDesc.aggB,getD_0,getD_s,Ze,Zd,Zc,Za,Zb,Zr,ZE,ZF,Zf,Zq,Zg,i64_w,Zt,Zs,Bool.not_true,Bool.not_false,t4,ti4,t58,ti58,endCells_part,endCells_length,endCells_at0,Zh] <;> exact rfl) ?_) | (first | (refine st_g0 rfl rfl rfl (by simp only [St.put,Za,Zb] <;> exact rfl) ?_) | (refine st_gu rfl rfl rfl (by simp only [St.put,Za,Zb] <;> exact rfl) ?_)) | (refine st_split rfl rfl rfl (by simp only [Za,Zb] <;> exact rfl) (by simp only [Za,Zb] <;> exact rfl) (fun hg => ?_) (fun hg => ?_) <;> (try simp only [Zp,Zi,ZJ,ZK,ne_eq,Zn,Zm,Bool.not_eq_true,Zu] at hg) <;> first | (refine st_g1 rfl rfl rfl (by simp (disch := omega) only [stepf,callOf,qop,fop,St.ev,St.put,cd,zd,Value.oneCell',tb_T,TypeDesc.aggB,getD_0,getD_s,Ze,Zd,Zc,Za,Zb,Zr,ZE,ZF,Zf,Zq,Zg,i64_w,Zt,Zs,Bool.not_true,Bool.not_false,t4,ti4,t58,ti58,endCells_part,endCells_length,endCells_at0,Zh] <;> exact rfl) ?_) | (first | (refine st_g0 rfl rfl rfl (by simp only [St.put,Za,Zb] <;> exact rfl) ?_) | (refine st_gu rfl rfl rfl (by simp only [St.put,Za,Zb] <;> exact rfl) ?_))))
          (refine st_op rfl (by simp (disch := omega) only [stepf,callOf,qop,fop,St.ev,St.put,cd,zd,Value.oneCell',tb_T,TypeDesc.aggB,getD_0,getD_s,Ze,Zd,Zc,Za,Zb,Zr,ZE,ZF,Zf,Zq,Zg,i64_w,Zt,Zs,Bool.not_true,Bool.not_false,t4,ti4,t58,ti58,endCells_part,endCells_length,endCells_at0,Zh] <;> exact rfl) ?_)
          refine aops_nil ?_
          exact hK
        refine exq_n ?_
        refine aw_cond false rfl (fun h => by cases h) (fun _ => ?_)
        refine aw_skip ?_
        refine exq_n ?_
        refine aw_seq ?_
        refine aw_seq ?_
        refine aw_regK hX hb [0, 1, 2, 3, 4, 5, 6, 7, 8, 9, 10, 11, 12, 13, 14, 15] rfl (σ' := ?s25) (fun K hK => ?h25) ?n25
        case h25 =>
          iterate 3 (refine st_op rfl (by simp (disch := omega) only [stepf,callOf,qop,fop,St.ev,St.put,cd,zd,Value.oneCell',tb_T,TypeDesc.aggB,getD_0,getD_s,Ze,Zd,Zc,Za,Zb,Zr,ZE,ZF,Zf,Zq,Zg,i64_w,Zt,Zs,Bool.not_true,Bool.not_false,qFieldAddr,fieldOf,Zl,Zo,Zv,Zw,Zj,Zk,Zx,Zy,qLoad,bload,pload,pureAll,D.pure?,ZC,ZD,qBin,iop,tb_W,tbO_W,qBuild,qBuildD,D.cell1,range_1,range_2,range_3,range_4,range_5,List.all_cons,List.all_nil,bfill,TI.place,TI.zeros,TI.kindOk,D.cells?,zp,Value.cells,ZQ,ZP,pvAll,D.pv?,t1,ti1,t3,ti3,t4,ti4,t5,ti5,t22,ti22,t24,ti24,t26,ti26,t35,ti35,t40,ti40,t50,ti50,t58,ti58,t60,ti60,t63,ti63,t69,ti69,t71,ti71,t75,ti75,t185,ti185,endCells_part,endCells_length,endCells_at0,Zh,hx] <;> exact rfl) ?_)
          (all_goals first | (refine st_g1 rfl rfl rfl (by simp (disch := omega) only [stepf,callOf,qop,fop,St.ev,St.put,cd,zd,Value.oneCell',tb_T,TypeDesc.aggB,getD_0,getD_s,Ze,Zd,Zc,Za,Zb,Zr,ZE,ZF,Zf,Zq,Zg,i64_w,Zt,Zs,Bool.not_true,Bool.not_false,qFieldAddr,fieldOf,Zl,Zo,Zv,Zw,Zj,Zk,Zx,Zy,qLoad,bload,pload,pureAll,D.pure?,ZC,ZD,qBin,iop,tb_W,tbO_W,qBuild,qBuildD,D.cell1,range_1,range_2,range_3,range_4,range_5,List.all_cons,List.all_nil,bfill,TI.place,TI.zeros,TI.kindOk,D.cells?,zp,Value.cells,ZQ,ZP,pvAll,D.pv?,t1,ti1,t3,ti3,t4,ti4,t5,ti5,t22,ti22,t24,ti24,t26,ti26,t35,ti35,t40,ti40,t50,ti50,t58,ti58,t60,ti60,t63,ti63,t69,ti69,t71,ti71,t75,ti75,t185,ti185,endCells_part,endCells_length,endCells_at0,Zh,hx] <;> exact rfl) ?_) | (first | (refine st_g0 rfl rfl rfl (by simp only [St.put,Za,Zb] <;> exact rfl) ?_) | (refine st_gu rfl rfl rfl (by simp only [St.put,Za,Zb] <;> exact rfl) ?_)) | (refine st_split rfl rfl rfl (by simp only [Za,Zb] <;> exact rfl) (by simp only [Za,Zb] <;> exact rfl) (fun hg => ?_) (fun hg => ?_) <;> (try simp only [Zp,Zi,ZJ,ZK,ne_eq,Zn,Zm,Bool.not_eq_true,Zu] at hg) <;> first | (refine st_g1 rfl rfl rfl (by simp (disch := omega) only [stepf,callOf,qop,fop,St.ev,St.put,cd,zd,Value.oneCell',tb_T,TypeDesc.aggB,getD_0,getD_s,Ze,Zd,Zc,Za,Zb,Zr,ZE,ZF,Zf,Zq,Zg,i64_w,Zt,Zs,Bool.not_true,Bool.not_false,qFieldAddr,fieldOf,Zl,Zo,Zv,Zw,Zj,Zk,Zx,Zy,qLoad,bload,pload,pureAll,D.pure?,ZC,ZD,qBin,iop,tb_W,tbO_W,qBuild,qBuildD,D.cell1,range_1,range_2,range_3,range_4,range_5,List.all_cons,List.all_nil,bfill,TI.place,TI.zeros,TI.kindOk,D.cells?,zp,Value.cells,ZQ,ZP,pvAll,D.pv?,t1,ti1,t3,ti3,t4,ti4,t5,ti5,t22,ti22,t24,ti24,t26,ti26,t35,ti35,t40,ti40,t50,ti50,t58,ti58,t60,ti60,t63,ti63,t69,ti69,t71,ti71,t75,ti75,t185,ti185,endCells_part,endCells_length,endCells_at0,Zh,hx] <;> exact rfl) ?_) | (first | (refine st_g0 rfl rfl rfl (by simp only [St.put,Za,Zb] <;> exact rfl) ?_) | (refine st_gu rfl rfl rfl (by simp only [St.put,Za,Zb] <;> exact rfl) ?_))))
          iterate 2 (refine st_op rfl (by simp (disch := omega) only [stepf,callOf,qop,fop,St.ev,St.put,cd,zd,Value.oneCell',tb_T,TypeDesc.aggB,getD_0,getD_s,Ze,Zd,Zc,Za,Zb,Zr,ZE,ZF,Zf,Zq,Zg,i64_w,Zt,Zs,Bool.not_true,Bool.not_false,qFieldAddr,fieldOf,Zl,Zo,Zv,Zw,Zj,Zk,Zx,Zy,qLoad,bload,pload,pureAll,D.pure?,ZC,ZD,qBin,iop,tb_W,tbO_W,qBuild,qBuildD,D.cell1,range_1,range_2,range_3,range_4,range_5,List.all_cons,List.all_nil,bfill,TI.place,TI.zeros,TI.kindOk,D.cells?,zp,Value.cells,ZQ,ZP,pvAll,D.pv?,t1,ti1,t3,ti3,t4,ti4,t5,ti5,t22,ti22,t24,ti24,t26,ti26,t35,ti35,t40,ti40,t50,ti50,t58,ti58,t60,ti60,t63,ti63,t69,ti69,t71,ti71,t75,ti75,t185,ti185,endCells_part,endCells_length,endCells_at0,Zh,hx] <;> exact rfl) ?_)
          iterate 7 (all_goals first | (refine st_g1 rfl rfl rfl (by simp (disch := omega) only [stepf,callOf,qop,fop,St.ev,St.put,cd,zd,Value.oneCell',tb_T,TypeDesc.aggB,getD_0,getD_s,Ze,Zd,Zc,Za,Zb,Zr,ZE,ZF,Zf,Zq,Zg,i64_w,Zt,Zs,Bool.not_true,Bool.not_false,qFieldAddr,fieldOf,Zl,Zo,Zv,Zw,Zj,Zk,Zx,Zy,qLoad,bload,pload,pureAll,D.pure?,ZC,ZD,qBin,iop,tb_W,tbO_W,qBuild,qBuildD,D.cell1,range_1,range_2,range_3,range_4,range_5,List.all_cons,List.all_nil,bfill,TI.place,TI.zeros,TI.kindOk,D.cells?,zp,Value.cells,ZQ,ZP,pvAll,D.pv?,t1,ti1,t3,ti3,t4,ti4,t5,ti5,t22,ti22,t24,ti24,t26,ti26,t35,ti35,t40,ti40,t50,ti50,t58,ti58,t60,ti60,t63,ti63,t69,ti69,t71,ti71,t75,ti75,t185,ti185,endCells_part,endCells_length,endCells_at0,Zh,hx] <;> exact rfl) ?_) | (first | (refine st_g0 rfl rfl rfl (by simp only [St.put,Za,Zb] <;> exact rfl) ?_) | (refine st_gu rfl rfl rfl (by simp only [St.put,Za,Zb] <;> exact rfl) ?_)) | (refine st_split rfl rfl rfl (by simp only [Za,Zb] <;> exact rfl) (by simp only [Za,Zb] <;> exact rfl) (fun hg => ?_) (fun hg => ?_) <;> (try simp only [Zp,Zi,ZJ,ZK,ne_eq,Zn,Zm,Bool.not_eq_true,Zu] at hg) <;> first | (refine st_g1 rfl rfl rfl (by simp (disch := omega) only [stepf,callOf,qop,fop,St.ev,St.put,cd,zd,Value.oneCell',tb_T,TypeDesc.aggB,getD_0,getD_s,Ze,Zd,Zc,Za,Zb,Zr,ZE,ZF,Zf,Zq,Zg,i64_w,Zt,Zs,Bool.not_true,Bool.not_false,qFieldAddr,fieldOf,Zl,Zo,Zv,Zw,Zj,Zk,Zx,Zy,qLoad,bload,pload,pureAll,D.pure?,ZC,ZD,qBin,iop,tb_W,tbO_W,qBuild,qBuildD,D.cell1,range_1,range_2,range_3,range_4,range_5,List.all_cons,List.all_nil,bfill,TI.place,TI.zeros,TI.kindOk,D.cells?,zp,Value.cells,ZQ,ZP,pvAll,D.pv?,t1,ti1,t3,ti3,t4,ti4,t5,ti5,t22,ti22,t24,ti24,t26,ti26,t35,ti35,t40,ti40,t50,ti50,t58,ti58,t60,ti60,t63,ti63,t69,ti69,t71,ti71,t75,ti75,t185,ti185,endCells_part,endCells_length,endCells_at0,Zh,hx] <;> exact rfl) ?_) | (first | (refine st_g0 rfl rfl rfl (by simp only [St.put,Za,Zb] <;> exact rfl) ?_) | (refine st_gu rfl rfl rfl (by simp only [St.put,Za,Zb] <;> exact rfl) ?_))))
          all_goals first | (first | (refine st_g0 rfl rfl rfl (by simp only [St.put,Za,Zb] <;> exact rfl) ?_) | (refine st_gu rfl rfl rfl (by simp only [St.put,Za,Zb] <;> exact rfl) ?_)) | (refine st_gy rfl rfl rfl rfl (by simp only [St.ev,getD_0,getD_s,zd,cd,Value.oneCell',Zr] <;> exact rfl) (by simp only [pvAll,capCells,D.pvC?,D.pvN?,D.pvL?,pureAll,D.pv?,D.pure?,St.ev,getD_0,getD_s,zd,cd,Value.oneCell',Zr,ZG,ZH,Zd,Zc,Zg] <;> exact rfl) rfl ((item_of (swi_yield hI hil hx hsp hc1 hnow).1)) (by simp only [St.put,Za,Zb] <;> exact rfl) ?_) | (refine st_split rfl rfl rfl (by simp only [Za,Zb] <;> exact rfl) (by simp only [Za,Zb] <;> exact rfl) (fun hg => ?_) (fun hg => ?_) <;> (try simp only [Zp,Zi,ZJ,ZK,ne_eq,Zn,Zm,Bool.not_eq_true,Zu] at hg) <;> first | (first | (refine st_g0 rfl rfl rfl (by simp only [St.put,Za,Zb] <;> exact rfl) ?_) | (refine st_gu rfl rfl rfl (by simp only [St.put,Za,Zb] <;> exact rfl) ?_)) | (refine st_gy rfl rfl rfl rfl (by simp only [St.ev,getD_0,getD_s,zd,cd,Value.oneCell',Zr] <;> exact rfl) (by simp only [pvAll,capCells,D.pvC?,D.pvN?,D.pvL?,pureAll,D.pv?,D.pure?,St.ev,getD_0,getD_s,zd,cd,Value.oneCell',Zr,ZG,ZH,Zd,Zc,Zg] <;> exact rfl) rfl ((item_of (swi_yield hI hil hx hsp hc1 hnow).1)) (by simp only [St.put,Za,Zb] <;> exact rfl) ?_))
          (all_goals first | (refine st_g1 rfl rfl rfl (by simp (disch := omega) only [stepf,callOf,qop,fop,St.ev,St.put,cd,zd,Value.oneCell',tb_T,TypeDesc.aggB,getD_0,getD_s,Ze,Zd,Zc,Za,Zb,Zr,ZE,ZF,Zf,Zq,Zg,i64_w,Zt,Zs,Bool.not_true,Bool.not_false,qFieldAddr,fieldOf,Zl,Zo,Zv,Zw,Zj,Zk,Zx,Zy,qLoad,bload,pload,pureAll,D.pure?,ZC,ZD,qBin,iop,tb_W,tbO_W,qBuild,qBuildD,D.cell1,range_1,range_2,range_3,range_4,range_5,List.all_cons,List.all_nil,bfill,TI.place,TI.zeros,TI.kindOk,D.cells?,zp,Value.cells,ZQ,ZP,pvAll,D.pv?,t1,ti1,t3,ti3,t4,ti4,t5,ti5,t22,ti22,t24,ti24,t26,ti26,t35,ti35,t40,ti40,t50,ti50,t58,ti58,t60,ti60,t63,ti63,t69,ti69,t71,ti71,t75,ti75,t185,ti185,endCells_part,endCells_length,endCells_at0,Zh,hx] <;> exact rfl) ?_) | (first | (refine st_g0 rfl rfl rfl (by simp only [St.put,Za,Zb] <;> exact rfl) ?_) | (refine st_gu rfl rfl rfl (by simp only [St.put,Za,Zb] <;> exact rfl) ?_)) | (refine st_split rfl rfl rfl (by simp only [Za,Zb] <;> exact rfl) (by simp only [Za,Zb] <;> exact rfl) (fun hg => ?_) (fun hg => ?_) <;> (try simp only [Zp,Zi,ZJ,ZK,ne_eq,Zn,Zm,Bool.not_eq_true,Zu] at hg) <;> first | (refine st_g1 rfl rfl rfl (by simp (disch := omega) only [stepf,callOf,qop,fop,St.ev,St.put,cd,zd,Value.oneCell',tb_T,TypeDesc.aggB,getD_0,getD_s,Ze,Zd,Zc,Za,Zb,Zr,ZE,ZF,Zf,Zq,Zg,i64_w,Zt,Zs,Bool.not_true,Bool.not_false,qFieldAddr,fieldOf,Zl,Zo,Zv,Zw,Zj,Zk,Zx,Zy,qLoad,bload,pload,pureAll,D.pure?,ZC,ZD,qBin,iop,tb_W,tbO_W,qBuild,qBuildD,D.cell1,range_1,range_2,range_3,range_4,range_5,List.all_cons,List.all_nil,bfill,TI.place,TI.zeros,TI.kindOk,D.cells?,zp,Value.cells,ZQ,ZP,pvAll,D.pv?,t1,ti1,t3,ti3,t4,ti4,t5,ti5,t22,ti22,t24,ti24,t26,ti26,t35,ti35,t40,ti40,t50,ti50,t58,ti58,t60,ti60,t63,ti63,t69,ti69,t71,ti71,t75,ti75,t185,ti185,endCells_part,endCells_length,endCells_at0,Zh,hx] <;> exact rfl) ?_) | (first | (refine st_g0 rfl rfl rfl (by simp only [St.put,Za,Zb] <;> exact rfl) ?_) | (refine st_gu rfl rfl rfl (by simp only [St.put,Za,Zb] <;> exact rfl) ?_))))
          (refine st_op rfl (by simp (disch := omega) only [stepf,callOf,qop,fop,St.ev,St.put,cd,zd,Value.oneCell',tb_T,TypeDesc.aggB,getD_0,getD_s,Ze,Zd,Zc,Za,Zb,Zr,ZE,ZF,Zf,Zq,Zg,i64_w,Zt,Zs,Bool.not_true,Bool.not_false,qFieldAddr,fieldOf,Zl,Zo,Zv,Zw,Zj,Zk,Zx,Zy,qLoad,bload,pload,pureAll,D.pure?,ZC,ZD,qBin,iop,tb_W,tbO_W,qBuild,qBuildD,D.cell1,range_1,range_2,range_3,range_4,range_5,List.all_cons,List.all_nil,bfill,TI.place,TI.zeros,TI.kindOk,D.cells?,zp,Value.cells,ZQ,ZP,pvAll,D.pv?,t1,ti1,t3,ti3,t4,ti4,t5,ti5,t22,ti22,t24,ti24,t26,ti26,t35,ti35,t40,ti40,t50,ti50,t58,ti58,t60,ti60,t63,ti63,t69,ti69,t71,ti71,t75,ti75,t185,ti185,endCells_part,endCells_length,endCells_at0,Zh,hx] <;> exact rfl) ?_)
          refine aops_nil ?_
          exact hK
        refine exq_n ?_
        refine aw_cond false rfl (fun h => by cases h) (fun _ => ?_)
        refine aw_skip ?_
        refine exq_n ?_
        refine aw_regK hX hb [0, 1] rfl (σ' := ?s26) (fun K hK => ?h26) ?n26
        case h26 =>
          iterate 2 (refine st_op rfl (by simp (disch := omega) only [stepf,callOf,qop,fop,St.ev,St.put,cd,zd,Value.oneCell',tb_T,TypeDesc.aggB,getD_0,getD_s,Ze,Zd,Zc,Za,Zb,Zr,ZE,ZF,Zf,Zq,Zg,i64_w,Zt,Zs,endCells_part,endCells_length,endCells_at0,Zh] <;> exact rfl) ?_)
          refine aops_nil ?_
          exact hK
        refine exb_n ?_
        refine exq_n ?_
        refine aw_regK hX hb [0, 1] rfl (σ' := ?s27) (fun K hK => ?h27) ?n27
        case h27 =>
          iterate 2 (refine st_op rfl (by simp (disch := omega) only [stepf,callOf,qop,fop,St.ev,St.put,cd,zd,Value.oneCell',tb_T,TypeDesc.aggB,getD_0,getD_s,Ze,Zd,Zc,Za,Zb,Zr,ZE,ZF,Zf,Zq,Zg,i64_w,Zt,Zs,qBin,iop,t1,ti1,t3,ti3,endCells_part,endCells_length,endCells_at0,Zh] <;> exact rfl) ?_)
          refine aops_nil ?_
          exact hK
        refine exq_n ?_
        exact ⟨(i + 1, d + sp, st, true, k), by exact swi_in hI hil hx hsp ⟨ha1, ha2⟩ hc1 hnow, by (try dsimp only); omega, wk_le ⟨rfl, leL_r rfl (leL_a (leL_a (leL_r rfl (leL_a (leL_r rfl (leL_r rfl (leL_r rfl (leL_r rfl (leL_a (leL_a (leL_a (leL_a (leL_a (leL_a (leL_a (leL_r rfl (leL_r rfl (leL_r rfl (leL_a (leL_a (leL_a (leL_a (leL_a (leL_a (leL_a (leL_a (leL_a (leL_a (leL_a (leL_a (leL_a (leL_a (leL_a (leL_a (leL_a (leL_a (leL_a (leL_a (leL_a (leL_a (leL_a (leL_a (leL_a (leL_a (leL_a (leL_a (leL_a (leL_a (leL_a (leL_a (leL_a (leL_a (leL_a (leL_a (leL_a (leL_a (leL_a (leL_a (leL_a (leL_a (leL_a (leL_a (leL_a (leL_a (leL_a (leL_a (leL_a (leL_a (leL_a (leL_a (leL_a (leL_a (leL_a (leL_a (leL_a (leL_a (leL_a (leL_a (leL_a (leL_nil)))))))))))))))))))))))))))))))))))))))))))))))))))))))))))))))))))))))))))))))), (leB_r rfl (leL_r rfl (leL_r rfl (leL_nil))) (leB_nil _)), (leV_nil _), rfl, rfl⟩⟩
  · try simp only [Zp,Zi,ZK,ZJ,ne_eq,Zn,Zm,ZB,ZA,ZI,not_or,not_and,Zu] at hc0
    refine aw_exit ?_
    refine exq_e ?_
    refine exq_e ?_
    refine exb_h ?_
    exact rets_n rfl (by first | rfl | ((obtain rfl : i = L.length := by omega); exact swi_end hI))
end Go.Proofs.Ytldcoekbgfaomaa
end
section
namespace Go.Proofs.Ytldcoekbgfaomaa
@[reducible] def natP (X : List Nat) : P1 := .sl X.length (X.map fun n : Nat => i64 (n : Int))
def foundN (a b : List (List Int)) : Nat → Nat → List Nat
  | 0, i => if nodeSame a b 0 i then [] else [i]
  | k + 1, i => if nodeSame a b (k + 1) i then [] else foundN a b k (2 * i) ++ foundN a b k (2 * i + 1)
theorem foundN_L (a b : List (List Int)) : ∀ (k i : Nat), foundL a b k i = (foundN a b k i).map fun n : Nat => (n : Int)
  | 0, i => by unfold foundL foundN; split <;> rfl
  | k + 1, i => by
    unfold foundL foundN
    split
    · rfl
    · rw [List.map_append, foundN_L a b k, foundN_L a b k]
/-- The nodes below some nodes. -/
def kid (a : List (List Int)) (k i : Nat) : List Nat := if 2 * i + 1 < (a.getD k []).length then [2 * i, 2 * i + 1] else [2 * i]
def kids (a : List (List Int)) (k : Nat) (X : List Nat) : List Nat := X.flatMap (kid a k)
def differs (a b : List (List Int)) (k i : Nat) : Bool := decide (¬ (a.getD k []).getD i 0 = (b.getD k []).getD i 0)
def visL (a : List (List Int)) (top n : Nat) (X : List Nat) : List Nat := if n ≤ top then kids a (n - 1) X else [0]
structure BfS (a b : List (List Int)) (top n : Nat) (X : List Nat) : Prop where
  inr : ∀ i ∈ X, i < (a.getD n []).length
  few : X.length * 2 ^ n ≤ 2 ^ top
  all : (n = 0 → X = foundN a b top 0) ∧ (1 ≤ n → (kids a (n - 1) X).flatMap (foundN a b (n - 1)) = foundN a b top 0)
structure BfI (a b : List (List Int)) (top n : Nat) (X : List Nat) : Prop where
  le : n ≤ top + 1
  nil : n = top + 1 → X = []
  st : n ≤ top → BfS a b top n X
/-- Rows halve. -/
def Halves (a : List (List Int)) : Prop := ∀ k, k + 1 < a.length → (a.getD (k + 1) []).length = ((a.getD k []).length + 1) / 2
theorem halves_of : ∀ (n : Nat) (row : List Int), row.length ≤ n → Halves (levelsOf row)
  | n, row, h => by
    intro k hk
    by_cases h1 : row.length ≤ 1
    · rw [levelsOf_one h1] at hk
      simp at hk
    · rw [levelsOf_more h1] at hk ⊢
      have hu := upL_length row
      cases k with
      | zero =>
        obtain ⟨r, hr⟩ := levelsOf_head (upL row)
        rw [hr]
        exact hu
      | succ k =>
        match n, h with
        | 0, h => omega
        | n + 1, h =>
          have := halves_of n (upL row) (by omega) k (by simpa using hk)
          simpa using this
theorem kids_take (a : List (List Int)) (k : Nat) (X : List Nat) (j : Nat) (h : j < X.length) : kids a k (X.take (j + 1)) = kids a k (X.take j) ++ kid a k (X.getD j 0) := by
  rw [kids, kids, List.take_succ_eq_append_getElem h, List.flatMap_append]
  simp [h]
theorem filter_take (p : Nat → Bool) (X : List Nat) (j : Nat) (h : j < X.length) : (X.take (j + 1)).filter p = (X.take j).filter p ++ if p (X.getD j 0) then [X.getD j 0] else [] := by
  rw [List.take_add_one]
  simp only [List.getElem?_eq_getElem h,Option.toList_some,List.filter_append,List.getD_eq_getElem?_getD,Option.getD_some]
  by_cases hp : p X[j] = true
  · simp [hp]
  · simp [hp]
theorem kids_length (a : List (List Int)) (k : Nat) : ∀ (X : List Nat), (kids a k X).length ≤ 2 * X.length
  | [] => by simp [kids]
  | x :: X => by
    have := kids_length a k X
    have hk : (kid a k x).length ≤ 2 := by unfold kid; split <;> simp
    simp only [kids,List.flatMap_cons,List.length_append,Zl] at this ⊢
    omega
theorem vis_ok {a b : List (List Int)} {n : Nat} {X : List Nat} (hh : Halves a) (h0 : 1 ≤ (a.getD (a.length - 1) []).length) (hl : 1 ≤ a.length) (hn : 1 ≤ n) (h : BfI a b (a.length - 1) n X) :
    (∀ i ∈ visL a (a.length - 1) n X, i < (a.getD (n - 1) []).length) ∧ (visL a (a.length - 1) n X).length * 2 ^ (n - 1) ≤ 2 ^ (a.length - 1) ∧ (visL a (a.length - 1) n X).flatMap (foundN a b (n - 1)) = foundN a b (a.length - 1) 0 := by
  unfold visL
  by_cases h1 : n ≤ a.length - 1
  · rw [if_pos h1]
    obtain ⟨q1, q2, q3⟩ := h.st h1
    refine ⟨fun i hi => ?_, ?_, q3.2 hn⟩
    · obtain ⟨j, hj, hij⟩ := List.mem_flatMap.1 hi
      have hj1 := q1 j hj
      have hhn := hh (n - 1) (by omega)
      rw [show n - 1 + 1 = n by omega] at hhn
      unfold kid at hij
      split at hij
      · simp only [List.mem_cons,List.not_mem_nil,or_false] at hij
        omega
      · simp only [List.mem_singleton] at hij
        omega
    · have hkl := kids_length a (n - 1) X
      have e : 2 ^ n = 2 * 2 ^ (n - 1) := by rw [← Nat.pow_succ']; congr 1; omega
      rw [e] at q2
      calc (kids a (n - 1) X).length * 2 ^ (n - 1) ≤ (2 * X.length) * 2 ^ (n - 1) := Nat.mul_le_mul_right _ hkl
        _ = X.length * (2 * 2 ^ (n - 1)) := by rw [Nat.mul_comm 2 X.length, Nat.mul_assoc]
        _ ≤ 2 ^ (a.length - 1) := q2
  · rw [if_neg h1]
    have hle := h.le
    have e : n - 1 = a.length - 1 := by omega
    rw [e]
    refine ⟨fun i hi => ?_, by simp, by simp⟩
    simp only [List.mem_singleton] at hi
    omega
theorem foundN_far {a b : List (List Int)} {k i : Nat} (h : (a.getD k []).length ≤ i) : foundN a b k i = [] := by
  cases k <;> exact if_pos (.inl h)
theorem flat_found {a b : List (List Int)} (k : Nat) : ∀ (V : List Nat), (∀ i ∈ V, i < (a.getD k []).length) →
    (k = 0 → V.flatMap (foundN a b k) = V.filter (differs a b k)) ∧ (1 ≤ k → V.flatMap (foundN a b k) = (kids a (k - 1) (V.filter (differs a b k))).flatMap (foundN a b (k - 1)))
  | [], _ => ⟨fun _ => rfl, fun _ => rfl⟩
  | v :: V, hV => by
    obtain ⟨i1, i2⟩ := flat_found k V (fun i hi => hV i (by simp [hi]))
    have hv := hV v (by simp)
    have hsame : nodeSame a b k v ↔ differs a b k v = false := by
      unfold nodeSame differs
      simp only [Zi,Zu]
      constructor
      · rintro (h | h)
        · omega
        · exact h
      · exact .inr
    refine ⟨fun hk => ?_, fun hk => ?_⟩
    · subst hk
      rw [List.flatMap_cons, i1 rfl]
      cases hd : differs a b 0 v with
      | true =>
        rw [show foundN a b 0 v = [v] from if_neg (fun h => by rw [hsame.1 h] at hd; cases hd)]
        simp [List.filter_cons, hd]
      | false =>
        rw [show foundN a b 0 v = [] from if_pos (hsame.2 hd)]
        simp [List.filter_cons, hd]
    · obtain ⟨k', rfl⟩ : ∃ k', k = k' + 1 := ⟨k - 1, by omega⟩
      rw [List.flatMap_cons, i2 hk]
      cases hd : differs a b (k' + 1) v with
      | true =>
        rw [show foundN a b (k' + 1) v = foundN a b k' (2 * v) ++ foundN a b k' (2 * v + 1) from if_neg (fun h => by rw [hsame.1 h] at hd; cases hd)]
        simp only [List.filter_cons,hd,Zr,kids,List.flatMap_cons,List.flatMap_append,Nat.add_sub_cancel]
        congr 1
        unfold kid
        split
        · simp
        · rename_i hx
          rw [foundN_far (b := b) (show (a.getD k' []).length ≤ 2 * v + 1 by omega)]
          simp
      | false =>
        rw [show foundN a b (k' + 1) v = [] from if_pos (hsame.2 hd)]
        simp [List.filter_cons, hd]
theorem bf_start (a b : List (List Int)) (top : Nat) : BfI a b top (top + 1) [] := ⟨Nat.le_refl _, fun _ => rfl, fun h => by omega⟩
theorem bf_next {a b : List (List Int)} {n : Nat} {X : List Nat} (hh : Halves a) (h0 : 1 ≤ (a.getD (a.length - 1) []).length) (hl : 1 ≤ a.length) (hn : 1 ≤ n) (h : BfI a b (a.length - 1) n X) :
    BfI a b (a.length - 1) (n - 1) ((visL a (a.length - 1) n X).filter (differs a b (n - 1))) := by
  obtain ⟨v1, v2, v3⟩ := vis_ok hh h0 hl hn h
  generalize visL a (a.length - 1) n X = V at *
  have hle := h.le
  obtain ⟨f1, f2⟩ := flat_found (b := b) (n - 1) V v1
  refine ⟨by omega, fun h => by omega, fun _ => ⟨fun i hi => v1 i (List.mem_filter.1 hi).1, ?_, fun h0 => ?_, fun h1 => ?_⟩⟩
  · exact Nat.le_trans (Nat.mul_le_mul_right _ (List.length_filter_le _ _)) v2
  · rw [← f1 h0, v3]
  · rw [← f2 h1, v3]
/-- The cells of the lists found so far: those below level n are empty, that of level n is X. -/
def fcells (top n : Nat) (X : List Nat) : List D := (List.range 16).map fun j => if j < n then .nil else if j = n ∧ n ≤ top then .p (natP X) else .any
theorem fcells_length (top n : Nat) (X : List Nat) : (fcells top n X).length = 16 := by simp [fcells]
theorem fcells_at (top n : Nat) (X : List Nat) (h : n ≤ top) (h2 : n < 16) : (fcells top n X)[n]? = some (.p (natP X)) := by
  simp [fcells, h2, h]
theorem fcells_nil (top n : Nat) (X : List Nat) (j : Nat) (h : j < n) (h2 : j < 16) : (fcells top n X)[j]? = some .nil := by
  simp [fcells, h2, h]
end Go.Proofs.Ytldcoekbgfaomaa
end
section
namespace Go.Proofs.Ytldcoekbgfaomaa
def SortedL (L : List EndT) : Prop := L.Pairwise fun x y => x.1 ≤ y.1
theorem sorted_sortE (es : List EndT) : SortedL (sortE es) := by
  rw [SortedL, List.pairwise_iff_getElem]
  intro i j hi hj hij
  exact sortE_sorted es i j _ _ hij (List.getElem?_eq_getElem hi) (List.getElem?_eq_getElem hj)
/-- The least comes first. -/
theorem head_least {L M : List EndT} {x : EndT} (hs : SortedL L) (hp : L.Perm (x :: M)) (hx : ∀ y ∈ M, x.1 < y.1) : ∃ L', L = x :: L' ∧ SortedL L' ∧ L'.Perm M := by
  cases L with
  | nil => exact absurd hp.length_eq (by simp)
  | cons h t =>
    have hh : h = x ∨ h ∈ M := List.mem_cons.1 (hp.mem_iff.1 (by simp))
    have hst := List.pairwise_cons.1 hs
    rcases hh with rfl | hh
    · exact ⟨t, rfl, hst.2, hp.cons_inv⟩
    · have hxm : x ∈ h :: t := hp.mem_iff.2 (by simp)
      rcases List.mem_cons.1 hxm with e | e
      · subst e
        have := hx _ hh
        omega
      · have h1 := hst.1 x e
        have h2 := hx h hh
        omega
/-- Two at one place come first, in either order. -/
theorem head_two {L M : List EndT} {x y : EndT} (hs : SortedL L) (hp : L.Perm (x :: y :: M)) (he : x.1 = y.1) (hx : ∀ z ∈ M, x.1 < z.1) : ∃ L', (L = x :: y :: L' ∨ L = y :: x :: L') ∧ SortedL L' ∧ L'.Perm M := by
  cases L with
  | nil => exact absurd hp.length_eq (by simp)
  | cons h t =>
    have hst := List.pairwise_cons.1 hs
    have hh : h = x ∨ h = y ∨ h ∈ M := by
      rcases List.mem_cons.1 (hp.mem_iff.1 (show h ∈ h :: t by simp)) with e | e
      · exact .inl e
      · exact .inr (List.mem_cons.1 e)
    rcases hh with rfl | rfl | hh
    · obtain ⟨L', rfl, h1, h2⟩ := head_least hst.2 hp.cons_inv (fun z hz => by rw [← he]; exact hx z hz)
      exact ⟨L', .inl rfl, h1, h2⟩
    · have hp' := hp.trans (List.Perm.swap _ _ _)
      obtain ⟨L', rfl, h1, h2⟩ := head_least hst.2 hp'.cons_inv hx
      exact ⟨L', .inr rfl, h1, h2⟩
    · have hxm : x ∈ h :: t := hp.mem_iff.2 (by simp)
      have h2 := hx h hh
      rcases List.mem_cons.1 hxm with e | e
      · subst e
        omega
      · have h1 := hst.1 x e
        omega
/-- Extents in ascending order, from b on. -/
def AscE (b : Int) : List (Int × Int) → Prop
  | [] => True
  | e :: r => b ≤ e.1 ∧ 0 < e.2 ∧ AscE (e.1 + e.2) r
theorem AscE.ge : ∀ {l : List (Int × Int)} {b : Int}, AscE b l → ∀ x ∈ endsOf 0 l, b ≤ x.1
  | [], b, _, x, hx => by simp [endsOf] at hx
  | e :: r, b, ⟨h1, h2, h3⟩, x, hx => by
    simp only [endsOf,List.flatMap_cons,List.mem_append,List.mem_cons,List.not_mem_nil,or_false] at hx
    rcases hx with (rfl | rfl) | hx
    · exact h1
    · show b ≤ e.1 + e.2
      omega
    · have := AscE.ge h3 x hx
      omega
def mergeFrom (st b : Int) : List (Int × Int) → List (Int × Int)
  | [] => [(st, b - st)]
  | e :: r => if b = e.1 then mergeFrom st (e.1 + e.2) r else (st, b - st) :: mergeFrom e.1 (e.1 + e.2) r
def mergeAll : List (Int × Int) → List (Int × Int)
  | [] => []
  | e :: r => mergeFrom e.1 (e.1 + e.2) r
theorem sameNext_gt {x : EndT} {L : List EndT} (h : ∀ y ∈ L, x.1 < y.1) : sameNext x L = false := by
  cases L with
  | nil => rfl
  | cons y r =>
    have := h y (by simp)
    simp only [sameNext,Zi]
    omega
theorem sweep_from : ∀ (l : List (Int × Int)) (st b : Int) (L : List EndT), AscE b l → SortedL L → L.Perm ((b, 0, -1) :: endsOf 0 l) → sweepL L 1 st true = mergeFrom st b l
  | [], st, b, L, _, hs, hp => by
    have : L = [(b, 0, -1)] := List.perm_singleton.1 hp
    subst this
    simp [sweepL, sameNext, mergeFrom]
  | e :: r, st, b, L, ⟨h1, h2, h3⟩, hs, hp => by
    have hge := AscE.ge h3
    have hM : endsOf 0 (e :: r) = (e.1, 0, 1) :: (e.1 + e.2, 0, -1) :: endsOf 0 r := by simp [endsOf]
    rw [hM] at hp
    have hgt : ∀ z ∈ (e.1 + e.2, (0 : Int), (-1 : Int)) :: endsOf 0 r, e.1 < z.1 := by
      intro z hz
      rcases List.mem_cons.1 hz with rfl | hz
      · show e.1 < e.1 + e.2
        omega
      · have := hge z hz
        omega
    by_cases hb : b = e.1
    · subst hb
      obtain ⟨L', hL, hs', hp'⟩ := head_two hs hp rfl hgt
      have hgt' : ∀ z ∈ L', e.1 < z.1 := fun z hz => hgt z (hp'.mem_iff.1 hz)
      have ih := sweep_from r st (e.1 + e.2) L' h3 hs' hp'
      rw [mergeFrom, if_pos rfl, ← ih]
      have hsn : ∀ s : Int, sameNext (e.1, 0, s) L' = false := fun s => sameNext_gt hgt'
      rcases hL with rfl | rfl
      · simp [sweepL, sameNext, hsn]
      · simp [sweepL, sameNext, hsn]
    · have hlt : b < e.1 := by omega
      obtain ⟨L1, rfl, hs1, hp1⟩ := head_least hs hp (fun z hz => by
        rcases List.mem_cons.1 hz with rfl | hz
        · exact hlt
        · have := hgt z hz
          show b < z.1
          omega)
      obtain ⟨L2, rfl, hs2, hp2⟩ := head_least hs1 hp1 hgt
      have hgt' : ∀ z ∈ L2, e.1 < z.1 := fun z hz => hgt z (hp2.mem_iff.1 hz)
      have ih := sweep_from r e.1 (e.1 + e.2) L2 h3 hs2 hp2
      rw [mergeFrom, if_neg hb, ← ih]
      have hsn : ∀ s : Int, sameNext (e.1, 0, s) L2 = false := fun s => sameNext_gt hgt'
      have hne : ¬ e.1 = b := fun h => hb h.symm
      have hs0 : sameNext (b, 0, -1) ((e.1, 0, 1) :: L2) = false := by simp [sameNext, hne]
      simp [sweepL, hsn, hs0]
theorem sweep_all {l : List (Int × Int)} {b : Int} (h : AscE b l) : sweepL (sortE (rawAll [l, []])) 0 0 false = mergeAll l := by
  have e0 : rawAll [l, []] = endsOf 0 l := by simp [rawAll, endsOf]
  rw [e0]
  have hp := sortE_perm (endsOf 0 l)
  have hs := sorted_sortE (endsOf 0 l)
  generalize sortE (endsOf 0 l) = L at *
  cases l with
  | nil =>
    have : L = [] := List.perm_nil.1 hp
    subst this
    rfl
  | cons e r =>
    obtain ⟨h1, h2, h3⟩ := h
    have hge := AscE.ge h3
    have hM : endsOf 0 (e :: r) = (e.1, 0, 1) :: (e.1 + e.2, 0, -1) :: endsOf 0 r := by simp [endsOf]
    rw [hM] at hp
    have hgt : ∀ z ∈ (e.1 + e.2, (0 : Int), (-1 : Int)) :: endsOf 0 r, e.1 < z.1 := by
      intro z hz
      rcases List.mem_cons.1 hz with rfl | hz
      · show e.1 < e.1 + e.2
        omega
      · have := hge z hz
        omega
    obtain ⟨L1, rfl, hs1, hp1⟩ := head_least hs hp hgt
    have hgt' : ∀ z ∈ L1, e.1 < z.1 := fun z hz => hgt z (hp1.mem_iff.1 hz)
    have hsn : ∀ s : Int, sameNext (e.1, 0, s) L1 = false := fun s => sameNext_gt hgt'
    rw [mergeAll, ← sweep_from r e.1 (e.1 + e.2) L1 h3 hs1 hp1]
    simp [sweepL, hsn]
/-- The extents of some leaves. -/
def extRaw (S F : Nat) (X : List Nat) : List (Int × Int) := X.map fun x => (((x * F : Nat) : Int), min (F : Int) ((S : Int) - ((x * F : Nat) : Int)))
theorem fold_merge (S F : Nat) : ∀ (X : List Nat) (out : List (Int × Int)) (st b : Int), (X.map fun n : Nat => (n : Int)).foldl (extStep S F) (out ++ [(st, b - st)]) = out ++ mergeFrom st b (extRaw S F X)
  | [], out, st, b => by simp [extRaw, mergeFrom]
  | x :: X, out, st, b => by
    simp only [ZG,List.foldl_cons]
    have e1 : ((x : Int) * (F : Int)) = ((x * F : Nat) : Int) := mul_cast x F
    have hm : min (S : Int) (((x * F : Nat) : Int) + F) - ((x * F : Nat) : Int) = min (F : Int) ((S : Int) - ((x * F : Nat) : Int)) := by omega
    have hlast : (out ++ [(st, b - st)]).getD ((out ++ [(st, b - st)]).length - 1) (0, 0) = (st, b - st) := by simp
    have hstep : extStep S F (out ++ [(st, b - st)]) x = if b = ((x * F : Nat) : Int) then out ++ [(st, ((x * F : Nat) : Int) + min (F : Int) ((S : Int) - ((x * F : Nat) : Int)) - st)] else out ++ [(st, b - st)] ++ [(((x * F : Nat) : Int), min (F : Int) ((S : Int) - ((x * F : Nat) : Int)))] := by
      unfold extStep
      simp only [hlast,e1,hm]
      by_cases hb : b = ((x * F : Nat) : Int)
      · rw [if_pos ⟨by simp, by omega⟩, if_pos hb]
        simp only [List.length_append,Zl,Zo,ZC,Nat.add_sub_cancel,List.take_left']
        congr 3
        omega
      · rw [if_neg (by rintro ⟨_, h⟩; exact hb (by omega)), if_neg hb]
    rw [hstep]
    show _ = out ++ mergeFrom st b ((((x * F : Nat) : Int), min (F : Int) ((S : Int) - ((x * F : Nat) : Int))) :: extRaw S F X)
    rw [mergeFrom]
    by_cases hb : b = ((x * F : Nat) : Int)
    · rw [if_pos hb, if_pos hb]
      exact fold_merge S F X out st _
    · rw [if_neg hb, if_neg hb]
      have := fold_merge S F X (out ++ [(st, b - st)]) ((x * F : Nat) : Int) (((x * F : Nat) : Int) + min (F : Int) ((S : Int) - ((x * F : Nat) : Int)))
      rw [show ((x * F : Nat) : Int) + min (F : Int) ((S : Int) - ((x * F : Nat) : Int)) - ((x * F : Nat) : Int) = min (F : Int) ((S : Int) - ((x * F : Nat) : Int)) by omega] at this
      rw [this]
      simp
theorem refExt_merge (S F : Nat) (X : List Nat) : refExt S F (X.map fun n : Nat => (n : Int)) = mergeAll (extRaw S F X) := by
  cases X with
  | nil => rfl
  | cons x X =>
    have e1 : ((x : Int) * (F : Int)) = ((x * F : Nat) : Int) := mul_cast x F
    have hm : min (S : Int) (((x * F : Nat) : Int) + F) - ((x * F : Nat) : Int) = min (F : Int) ((S : Int) - ((x * F : Nat) : Int)) := by omega
    have hstep : extStep S F [] x = [] ++ [(((x * F : Nat) : Int), ((x * F : Nat) : Int) + min (F : Int) ((S : Int) - ((x * F : Nat) : Int)) - ((x * F : Nat) : Int))] := by
      unfold extStep
      simp only [e1,hm,Zo,Nat.lt_irrefl,false_and,Zq,ZM]
      congr 2
      omega
    unfold refExt
    rw [List.map_cons, List.foldl_cons, hstep, fold_merge]
    rfl
theorem ascE_raw {S F : Nat} (hF : 1 ≤ F) : ∀ (X : List Nat) (b : Int), X.Pairwise (· < ·) → (∀ x ∈ X, x * F < S) → (∀ x ∈ X, b ≤ ((x * F : Nat) : Int)) → AscE b (extRaw S F X)
  | [], b, _, _, _ => trivial
  | x :: X, b, hp, hS, hb => by
    have hx := hS x (by simp)
    have hpc := List.pairwise_cons.1 hp
    refine ⟨hb x (by simp), ?_, ascE_raw hF X _ hpc.2 (fun y hy => hS y (by simp [hy])) fun y hy => ?_⟩
    · show 0 < min (F : Int) ((S : Int) - ((x * F : Nat) : Int))
      omega
    · have h1 : (x + 1) * F ≤ y * F := Nat.mul_le_mul_right _ (hpc.1 y hy)
      rw [Nat.succ_mul] at h1
      show ((x * F : Nat) : Int) + min (F : Int) ((S : Int) - ((x * F : Nat) : Int)) ≤ ((y * F : Nat) : Int)
      omega
theorem goodE_raw {S F : Nat} (hF : 1 ≤ F) (hS : S ≤ 4096) {X : List Nat} (hx : ∀ x ∈ X, x * F < S) : ∀ e ∈ extRaw S F X, GoodE e := by
  intro e he
  obtain ⟨x, hxm, rfl⟩ := List.mem_map.1 he
  have := hx x hxm
  exact ⟨x * F, min F (S - x * F), by ext <;> simp <;> omega, by omega, by omega⟩
/-- Found leaves come in ascending order. -/
theorem foundN_asc (a b : List (List Int)) : ∀ (k i : Nat), (foundN a b k i).Pairwise (· < ·) ∧ ∀ x ∈ foundN a b k i, i * 2 ^ k ≤ x ∧ x < (i + 1) * 2 ^ k
  | 0, i => by
    unfold foundN
    split
    · exact ⟨List.Pairwise.nil, fun x h => by cases h⟩
    · exact ⟨List.pairwise_singleton _ _, fun x h => by simp at h; subst h; simp⟩
  | k + 1, i => by
    unfold foundN
    split
    · exact ⟨List.Pairwise.nil, fun x h => by cases h⟩
    · obtain ⟨p1, q1⟩ := foundN_asc a b k (2 * i)
      obtain ⟨p2, q2⟩ := foundN_asc a b k (2 * i + 1)
      have e1 : i * 2 ^ (k + 1) = 2 * i * 2 ^ k := by rw [Nat.pow_succ, Nat.mul_comm (2 ^ k) 2, ← Nat.mul_assoc, Nat.mul_comm i 2]
      have e2 : (i + 1) * 2 ^ (k + 1) = (2 * i + 1 + 1) * 2 ^ k := by rw [Nat.pow_succ, Nat.mul_comm (2 ^ k) 2, ← Nat.mul_assoc]; congr 1; omega
      have e3 : (2 * i + 1) * 2 ^ k = 2 * i * 2 ^ k + 2 ^ k := Nat.succ_mul _ _
      have e4 : (2 * i + 1 + 1) * 2 ^ k = (2 * i + 1) * 2 ^ k + 2 ^ k := Nat.succ_mul _ _
      refine ⟨List.pairwise_append.2 ⟨p1, p2, fun x hx y hy => ?_⟩, fun x hx => ?_⟩
      · have := (q1 x hx).2
        have := (q2 y hy).1
        omega
      · rw [e1, e2]
        rcases List.mem_append.1 hx with h | h
        · have := q1 x h
          omega
        · have := q2 x h
          omega
/-- **extent.Union of extents in ascending order, with nothing.** -/
theorem c73' (l : List (Int × Int)) (b : Int) (hl : l.length ≤ 8192) (hg : ∀ e ∈ l, GoodE e) (ha : AscE b l) : SeqC Try.prog 119 [exts l, .sl 0 [], .v (.func (.func 110) #[] #[])] (extItems (mergeAll l)) := by
  rw [← sweep_all ha]
  exact s119g l hl hg _ rfl
theorem mergeFrom_length : ∀ (l : List (Int × Int)) (st b : Int), (mergeFrom st b l).length ≤ l.length + 1
  | [], st, b => by simp [mergeFrom]
  | e :: r, st, b => by
    rw [mergeFrom]
    split
    · have := mergeFrom_length r st (e.1 + e.2)
      simp only [Zl]
      omega
    · have := mergeFrom_length r e.1 (e.1 + e.2)
      simp only [Zl]
      omega
theorem mergeAll_length (l : List (Int × Int)) : (mergeAll l).length ≤ l.length := by
  cases l with
  | nil => simp [mergeAll]
  | cons e r =>
    have := mergeFrom_length r e.1 (e.1 + e.2)
    simp only [mergeAll,Zl]
    omega
end Go.Proofs.Ytldcoekbgfaomaa
end
section
namespace Go.Proofs.Ytldcoekbgfaomaa
open Go.RowKit
set_option maxRecDepth 20000
set_option maxHeartbeats 4000000
attribute [local irreducible] AOps AOpsD AW
theorem c73 (l : List (Int × Int)) (b : Int) (hl : l.length ≤ 8192) (hg : ∀ e ∈ l, GoodE e) (ha : AscE b l) : ACalls Try.prog 73 [.p (exts l), .p (.sl 0 [])] (.p (exts (mergeAll l))) := by
  refine acalls_of tb_ok Try.func73 (c := _) rfl (by kernel_rfl) ?_
  intro X hP hX hro hpl
  have hb : tb.Ok X.P := hP ▸ tb_ok
  change AW X _ _ ⟨[], [.p (exts l), .p (.sl 0 []), .any, .any, .any, .any, .any, .any, .any], [], []⟩
  refine aw_seq ?_
  refine aw_regK hX hb [0] rfl (σ' := ?s1) (fun K hK => ?h1) ?n1
  case h1 =>
    (refine st_op rfl (by simp (disch := omega) only [stepf,callOf,qop,fop,St.ev,St.put,cd,zd,Value.oneCell',tb_T,TypeDesc.aggB,getD_0,getD_s,Ze,Zd,Zc,Za,Zb,Zr,ZE,ZF,Zf,Zq,Zg,i64_w,Zt,Zs] <;> exact rfl) ?_)
    refine aops_nil ?_
    exact hK
  refine exq_n ?_
  refine aw_seq ?_
  refine aw_regK hX hb [0, 1, 2, 3, 4] rfl (σ' := ?s2) (fun K hK => ?h2) ?n2
  case h2 =>
    iterate 2 (refine st_op rfl (by simp (disch := omega) only [stepf,callOf,qop,fop,St.ev,St.put,cd,zd,Value.oneCell',tb_T,TypeDesc.aggB,getD_0,getD_s,Ze,Zd,Zc,Za,Zb,Zr,ZE,ZF,Zf,Zq,Zg,i64_w,Zt,Zs,pvAll,D.pv?,t1,ti1,t3,ti3,t5,ti5,t35,ti35,t40,ti40,t168,ti168,t170,ti170] <;> exact rfl) ?_)
    refine st_call rfl (by simp only [callOf,St.ev,getD_0,getD_s,pvAll,D.pv?,ZG,ZH,zd,cd,Value.oneCell',Zr] <;> exact rfl) (acK hP (c109 l [] 110)) (by simp only [St.put,Za,Zb] <;> exact rfl) ?_
    refine st_call rfl (by simp only [callOf,St.ev,getD_0,getD_s,pvAll,D.pv?,ZG,ZH,zd,cd,Value.oneCell',Zr] <;> exact rfl) (acK hP (c108 _ _ (mergeAll l) (c73' l b hl hg ha) (by have := mergeAll_length l; omega))) (by simp only [St.put,Za,Zb] <;> exact rfl) ?_
    (refine st_op rfl (by simp (disch := omega) only [stepf,callOf,qop,fop,St.ev,St.put,cd,zd,Value.oneCell',tb_T,TypeDesc.aggB,getD_0,getD_s,Ze,Zd,Zc,Za,Zb,Zr,ZE,ZF,Zf,Zq,Zg,i64_w,Zt,Zs,pvAll,D.pv?,t1,ti1,t3,ti3,t5,ti5,t35,ti35,t40,ti40,t168,ti168,t170,ti170] <;> exact rfl) ?_)
    refine aops_nil ?_
    exact hK
  refine exq_n ?_
  refine aw_ret ?_
  exact ret_r rfl (resOf_one rfl rfl)
end Go.Proofs.Ytldcoekbgfaomaa
end
