/- The walks of the code that the statement reaches, and the plain laws behind them, part Ue. No conditions. -/
import Derived.Test.YtldcoekbgfaomaaRows
import Derived.WalkKit
import Derived.ProofKit
import Derived.Test.YtldcoekbgfaomaaUd
set_option linter.unusedVariables false
set_option linter.unusedSimpArgs false
section
namespace Go.Proofs.Ytldcoekbgfaomaa
open Go.RowKit
set_option maxRecDepth 20000
set_option maxHeartbeats 4000000
attribute [local irreducible] jE oD AW
theorem c52 (t : Tr) (m : Ms) (hm : oFA m) (hvl : m.vs.length ≤ 1000000) : ACalls Try.prog 52 [trP t,msP m] (.tup [msP (pM t m).1,.p (i64 (pM t m).2)]) := by
 obtain ⟨s,f,lv⟩ := t
 obtain ⟨ki,fr,de,nu,va,ep,vs,bo⟩ := m
 obtain ⟨hvi,hbi⟩ := hm
 dsimp only at hvi hbi hvl
 refine oC jC Try.func52 (c := _) rfl (by kernel_rfl) ?_
 intro X hP hX hro hpl
 have hb : tb.Ok X.P := hP ▸ jC
 change AW X _ _ ⟨[],[.agg [i64 s,i64 f,xD lv],.agg [i64 ki,i64 fr,i64 de,i64 nu,i64 va,i64 ep,gG vs,bytes bo],.any,.any,.any,.any,.any,.any,.any,.any,.any,.any,.any,.any,.any,.any,.any,.any,.any,.any,.any,.any,.any,.any,.any,.any,.any,.any,.any,.any,.any,.any,.any,.any,.any,.any,.any,.any,.any,.any,.any,.any,.any,.any,.any,.any,.any,.any,.any,.any,.any,.any,.any,.any,.any,.any,.any,.any,.any,.any,.any,.any,.any,.any,.any,.any,.any,.any,.any,.any,.any,.any,.any,.any,.any,.any,.any,.any,.any,.any,.any,.any,.any,.any,.any,.any,.any,.any,.any,.any,.any,.any,.any,.any,.any,.any,.any,.any,.any,.any,.any,.any,.any,.any,.any,.any,.any,.any,.any,.any,.any,.any,.any,.any,.any,.any,.any,.any],[],[]⟩
 refine fA ?_
 refine iA hX hb [0,1,2,3] rfl (σ' := ?s1) (fun K hK => ?h1) ?n1
 case h1 =>
  iterate 4 (refine kA rfl (by simp (disch := omega) only [gA,aA,qop,fop,St.ev,St.put,cd,zd,Value.oneCell',lA,TypeDesc.aggB,Z0,ZM,ZL,Zl,Zo,ZG,ZH,St.addBox,D.boxCells,D.live,Value.cells,tt,Z2,nA,rA,vB,Zh,cD,cB,ne_eq,not_false_eq_true] <;> exact rfl) ?_)
  refine bA ?_
  exact hK
 refine jA ?_
 refine fA ?_
 refine iA hX hb [0,1,2] rfl (σ' := ?s2) (fun K hK => ?h2) ?n2
 case h2 =>
  (refine kA rfl (by simp (disch := omega) only [gA,aA,qop,fop,St.ev,St.put,cd,zd,Value.oneCell',lA,TypeDesc.aggB,Z0,Z1,oA,pA,qA,eA,D.pure?,ZC,ZD,sA,D.pv?,tt,Z2,nA,rA,vB,Zh,cD,cB,ne_eq,not_false_eq_true] <;> exact rfl) ?_)
  refine jD rfl (by simp only [aA,St.ev,nB,oB,sA,D.pv?,ZG,ZH,zd,cd,Value.oneCell',Zr] <;> exact rfl) (acK hP (c31 ⟨s,f,lv⟩)) (by simp only [St.put,Za,Zb] <;> exact rfl) ?_
  (refine kA rfl (by simp (disch := omega) only [gA,aA,qop,fop,St.ev,St.put,cd,zd,Value.oneCell',lA,TypeDesc.aggB,Z0,Z1,oA,pA,qA,eA,D.pure?,ZC,ZD,sA,D.pv?,tt,Z2,nA,rA,vB,Zh,cD,cB,ne_eq,not_false_eq_true] <;> exact rfl) ?_)
  refine bA ?_
  exact hK
 refine jA ?_
 refine fA ?_
 refine uB ?_
 refine fA ?_
 refine iA hX hb [0,1,2] rfl (σ' := ?s3) (fun K hK => ?h3) ?n3
 case h3 =>
  iterate 3 (refine kA rfl (by simp (disch := omega) only [gA,aA,qop,fop,St.ev,St.put,cd,zd,Value.oneCell',lA,TypeDesc.aggB,Z0,yA,iop,t27,oT,Z2,nA,rA,vB,Zh,cD,cB,ne_eq,not_false_eq_true] <;> exact rfl) ?_)
  refine bA ?_
  exact hK
 refine jA ?_
 refine mB _ rfl (fun hc0 => ?_) (fun hc0 => ?_)
 ·try simp only [Zp,Zi,ZK,ZJ,ne_eq,Zn,Zm,ZB,ZA,ZI,not_or,not_and,Zu] at hc0
  refine fA ?_
  refine iA hX hb [0,1,2,3] rfl (σ' := ?s4) (fun K hK => ?h4) ?n4
  case h4 =>
   iterate 4 (refine kA rfl (by simp (disch := omega) only [gA,aA,qop,fop,St.ev,St.put,cd,zd,Value.oneCell',lA,TypeDesc.aggB,Z0,eE,aD,lC,eC,D.cell1,eB,fB,gB,iB,jB,List.all_cons,List.all_nil,zC,TI.place,TI.zeros,TI.kindOk,D.cells?,D.pure?,zp,Value.cells,ZQ,ZP,Z1,iC,D.boxCells,D.live,ZM,ZL,ZN,ZG,ZH,St.setVec,ZC,tt,Z2,nA,rA,vB,Zh,cD,cB,ne_eq,not_false_eq_true] <;> exact rfl) ?_)
   refine bA ?_
   exact hK
  refine jA ?_
  refine bC ?_
  refine oE ?_
  refine nC ?_
  exact cM (jF (by simp only [qE,oA,pA,lA,TypeDesc.aggB,eA,D.pure?,D.pv?,nB,oB,Zd,Zc,Zw,Zk,Zv,Zj,Zx,Zl,Zo,Zr,reduceIte,Nat.reduceAdd,Nat.reduceLeDiff,Zg,Zf,tt] <;> exact rfl) rfl (by first | rfl | (first | (rw [aP hc0] <;> rfl) | (rw [bP hc0 hc1] <;> rfl) | (rw [cP hc0 hc1 hc2] <;> rfl) | (rw [qM hc0 hc1 hc2x hc3] <;> rfl) | (rw [dP hc0 hc1 hc2x hc3x hc4] <;> rfl) | (rw [rM hc0 hc1 hc2x hc3x hc4x hc5] <;> rfl) | (rw [uN hc0 hc1 hc2x hc3x hc4x hc5] <;> rfl))))
 ·try simp only [Zp,Zi,ZK,ZJ,ne_eq,Zn,Zm,ZB,ZA,ZI,not_or,not_and,Zu] at hc0
  refine fA ?_
  refine iA hX hb [0,1,2,3] rfl (σ' := ?s5) (fun K hK => ?h5) ?n5
  case h5 =>
   iterate 4 (refine kA rfl (by simp (disch := omega) only [gA,aA,qop,fop,St.ev,St.put,cd,zd,Value.oneCell',lA,TypeDesc.aggB,Z0,cA,mA,Z1,oA,pA,qA,eA,D.pure?,ZC,ZD,yA,iop,tt,Z2,nA,rA,vB,Zh,cD,cB,ne_eq,not_false_eq_true] <;> exact rfl) ?_)
   refine bA ?_
   exact hK
  refine jA ?_
  refine mB _ rfl (fun hc1 => ?_) (fun hc1 => ?_)
  ·try simp only [Zp,Zi,ZK,ZJ,ne_eq,Zn,Zm,ZB,ZA,ZI,not_or,not_and,Zu] at hc1
   refine fA ?_
   refine iA hX hb [0,1,2] rfl (σ' := ?s6) (fun K hK => ?h6) ?n6
   case h6 =>
    iterate 3 (refine kA rfl (by simp (disch := omega) only [gA,aA,qop,fop,St.ev,St.put,cd,zd,Value.oneCell',lA,TypeDesc.aggB,Z0,eE,aD,lC,eC,D.cell1,eB,fB,gB,iB,jB,List.all_cons,List.all_nil,zC,TI.place,TI.zeros,TI.kindOk,D.cells?,D.pure?,zp,Value.cells,ZQ,ZP,Z1,iC,D.boxCells,D.live,ZM,ZL,ZN,ZG,ZH,St.setVec,ZC,tt,Z2,nA,rA,vB,Zh,cD,cB,ne_eq,not_false_eq_true] <;> exact rfl) ?_)
    refine bA ?_
    exact hK
   refine jA ?_
   refine bC ?_
   refine oE ?_
   refine nC ?_
   exact cM (jF (by simp only [qE,oA,pA,lA,TypeDesc.aggB,eA,D.pure?,D.pv?,nB,oB,Zd,Zc,Zw,Zk,Zv,Zj,Zx,Zl,Zo,Zr,reduceIte,Nat.reduceAdd,Nat.reduceLeDiff,Zg,Zf,tt] <;> exact rfl) rfl (by first | rfl | (first | (rw [aP hc0] <;> rfl) | (rw [bP hc0 hc1] <;> rfl) | (rw [cP hc0 hc1 hc2] <;> rfl) | (rw [qM hc0 hc1 hc2x hc3] <;> rfl) | (rw [dP hc0 hc1 hc2x hc3x hc4] <;> rfl) | (rw [rM hc0 hc1 hc2x hc3x hc4x hc5] <;> rfl) | (rw [uN hc0 hc1 hc2x hc3x hc4x hc5] <;> rfl))))
  ·try simp only [Zp,Zi,ZK,ZJ,ne_eq,Zn,Zm,ZB,ZA,ZI,not_or,not_and,Zu] at hc1
   refine fA ?_
   refine nE hX hb [0,1,2,3,4,5,6,7,8,9,10,11] rfl (ts := [25,26,27,28,29,30,31,32,33,34,35]) (t := 24) (d := .p (bv (vs.length < 2 ∨ vs.length % 2 = 1))) (σ' := ?s7) ?j7 ?h7 ?n7
   case j7 => simp only [St.join,List.foldl,Za,Zb]; exact rfl
   case h7 =>
    iterate 5 (all_goals refine kA rfl (by simp (disch := omega) only [gA,aA,qop,fop,St.ev,St.put,cd,zd,Value.oneCell',lA,TypeDesc.aggB,Z0,cA,mA,Z1,oA,pA,qA,eA,D.pure?,ZC,ZD,mC,yA,iop,tt,Z2,nA,rA,vB,Zh,cD,cB,ne_eq,not_false_eq_true] <;> exact rfl) ?_)
    iterate 5 (all_goals first | (refine fC rfl rfl rfl (by simp (disch := omega) only [gA,aA,qop,fop,St.ev,St.put,cd,zd,Value.oneCell',lA,TypeDesc.aggB,Z0,cA,mA,Z1,oA,pA,qA,eA,D.pure?,ZC,ZD,mC,yA,iop,tt,Z2,nA,rA,vB,Zh,cD,cB,ne_eq,not_false_eq_true] <;> exact rfl) ?_) | (first | (refine zB rfl rfl rfl (by simp only [St.put,Za,Zb] <;> exact rfl) ?_) | (refine aC rfl rfl rfl (by simp only [St.put,Za,Zb] <;> exact rfl) ?_)) | (refine yB rfl rfl rfl (by simp only [Za,Zb] <;> exact rfl) (by simp only [Za,Zb] <;> exact rfl) (fun hg => ?_) (fun hg => ?_) <;> (try simp only [Zp,Zi,ZJ,ZK,ne_eq,Zn,Zm,Bool.not_eq_true,Zu] at hg) <;> first | (refine fC rfl rfl rfl (by simp (disch := omega) only [gA,aA,qop,fop,St.ev,St.put,cd,zd,Value.oneCell',lA,TypeDesc.aggB,Z0,cA,mA,Z1,oA,pA,qA,eA,D.pure?,ZC,ZD,mC,yA,iop,tt,Z2,nA,rA,vB,Zh,cD,cB,ne_eq,not_false_eq_true] <;> exact rfl) ?_) | (first | (refine zB rfl rfl rfl (by simp only [St.put,Za,Zb] <;> exact rfl) ?_) | (refine aC rfl rfl rfl (by simp only [St.put,Za,Zb] <;> exact rfl) ?_))))
    iterate 2 (all_goals refine kA rfl (by simp (disch := omega) only [gA,aA,qop,fop,St.ev,St.put,cd,zd,Value.oneCell',lA,TypeDesc.aggB,Z0,cA,mA,Z1,oA,pA,qA,eA,D.pure?,ZC,ZD,mC,yA,iop,tt,Z2,nA,rA,vB,Zh,cD,cB,ne_eq,not_false_eq_true] <;> exact rfl) ?_)
    all_goals refine bA ?_
    all_goals refine ⟨rfl,?_,pD _,qD _,rfl,rfl⟩
    all_goals repeat' (first | exact tA | refine qB ?_ | refine uA rfl ?_ | refine uA ?_ ?_)
    all_goals refine jn ?_
    all_goals ((try simp only [Zp,Zi,ZJ,ZK,Bool.not_eq_true,Zm,Zn,ne_eq,Zf,true_iff,false_iff,iff_true,iff_false] at *) <;> omega)
   refine jA ?_
   refine mB _ rfl (fun hc2 => ?_) (fun hc2 => ?_)
   ·try simp only [Zp,Zi,ZK,ZJ,ne_eq,Zn,Zm,ZB,ZA,ZI,not_or,not_and,Zu] at hc2
    refine fA ?_
    refine iA hX hb [0,1,2] rfl (σ' := ?s8) (fun K hK => ?h8) ?n8
    case h8 =>
     iterate 3 (refine kA rfl (by simp (disch := omega) only [gA,aA,qop,fop,St.ev,St.put,cd,zd,Value.oneCell',lA,TypeDesc.aggB,Z0,eE,aD,lC,eC,D.cell1,eB,fB,gB,iB,jB,List.all_cons,List.all_nil,zC,TI.place,TI.zeros,TI.kindOk,D.cells?,D.pure?,zp,Value.cells,ZQ,ZP,Z1,iC,D.boxCells,D.live,ZM,ZL,ZN,ZG,ZH,St.setVec,ZC,tt,Z2,nA,rA,vB,Zh,cD,cB,ne_eq,not_false_eq_true] <;> exact rfl) ?_)
     refine bA ?_
     exact hK
    refine jA ?_
    refine bC ?_
    refine oE ?_
    refine nC ?_
    exact cM (jF (by simp only [qE,oA,pA,lA,TypeDesc.aggB,eA,D.pure?,D.pv?,nB,oB,Zd,Zc,Zw,Zk,Zv,Zj,Zx,Zl,Zo,Zr,reduceIte,Nat.reduceAdd,Nat.reduceLeDiff,Zg,Zf,tt] <;> exact rfl) rfl (by first | rfl | (first | (rw [aP hc0] <;> rfl) | (rw [bP hc0 hc1] <;> rfl) | (rw [cP hc0 hc1 hc2] <;> rfl) | (rw [qM hc0 hc1 hc2x hc3] <;> rfl) | (rw [dP hc0 hc1 hc2x hc3x hc4] <;> rfl) | (rw [rM hc0 hc1 hc2x hc3x hc4x hc5] <;> rfl) | (rw [uN hc0 hc1 hc2x hc3x hc4x hc5] <;> rfl))))
   ·try simp only [Zp,Zi,ZK,ZJ,ne_eq,Zn,Zm,ZB,ZA,ZI,not_or,not_and,Zu] at hc2
    have hc2x : ¬ (vs.length < 2 ∨ vs.length % 2 = 1) := by omega
    refine fA ?_
    refine iN hX hb (gD hP) [(0,true),(1,true),(2,true),(3,true),(4,true),(5,true),(6,true),(7,true),(8,true),(9,true),(10,true),(11,true),(12,true),(13,true),(14,true),(15,true),(16,true)] (by kernel_rfl) (ts := [38,39,40,41,42,43,44,45,46,47,48,49,50,51,52,53]) (t := 37) (d := .p (bv (vs.getD 0 0 ≠ s ∨ vs.getD 1 0 ≠ f))) (σ' := ?s9) ?j9 ?h9 ?n9
    case j9 => simp only [St.join,List.foldl,Za,Zb]; exact rfl
    case h9 =>
     iterate 8 (all_goals refine xE rfl (by simp (disch := omega) only [qop,fop,St.ev,St.put,cd,zd,Value.oneCell',lA,TypeDesc.aggB,Z0,cA,mA,Z1,oA,pA,qA,eA,D.pure?,ZC,ZD,Int.toNat_zero,Int.toNat_one,wA,xA,vA,ZO,Nat.mul_one,Nat.zero_mul,Zh,yA,iop,tt,Z2,nA,rA,vB,cD,cB,ne_eq,not_false_eq_true] <;> exact rfl) (by simp only [St.put,Za,Zb] <;> exact rfl) ?_)
     iterate 7 (all_goals first | (refine jH rfl rfl rfl (by simp (disch := omega) only [qop,fop,St.ev,St.put,cd,zd,Value.oneCell',lA,TypeDesc.aggB,Z0,cA,mA,Z1,oA,pA,qA,eA,D.pure?,ZC,ZD,Int.toNat_zero,Int.toNat_one,wA,xA,vA,ZO,Nat.mul_one,Nat.zero_mul,Zh,yA,iop,tt,Z2,nA,rA,vB,cD,cB,ne_eq,not_false_eq_true] <;> exact rfl) rfl (by simp only [St.put,Za,Zb] <;> exact rfl) ?_) | (first | (refine vF rfl rfl rfl (by simp only [St.put,Za,Zb] <;> exact rfl) ?_) | (refine uF rfl rfl rfl (by simp only [St.put,Za,Zb] <;> exact rfl) ?_)) | (refine pF rfl rfl rfl (by simp only [Za,Zb] <;> exact rfl) (by simp only [Za,Zb] <;> exact rfl) (fun hg => ?_) (fun hg => ?_) <;> (try simp only [Zp,Zi,ZJ,ZK,ne_eq,Zn,Zm,Bool.not_eq_true,Zu] at hg) <;> first | (refine jH rfl rfl rfl (by simp (disch := omega) only [qop,fop,St.ev,St.put,cd,zd,Value.oneCell',lA,TypeDesc.aggB,Z0,cA,mA,Z1,oA,pA,qA,eA,D.pure?,ZC,ZD,Int.toNat_zero,Int.toNat_one,wA,xA,vA,ZO,Nat.mul_one,Nat.zero_mul,Zh,yA,iop,tt,Z2,nA,rA,vB,cD,cB,ne_eq,not_false_eq_true] <;> exact rfl) rfl (by simp only [St.put,Za,Zb] <;> exact rfl) ?_) | (first | (refine vF rfl rfl rfl (by simp only [St.put,Za,Zb] <;> exact rfl) ?_) | (refine uF rfl rfl rfl (by simp only [St.put,Za,Zb] <;> exact rfl) ?_))))
     iterate 2 (all_goals refine xE rfl (by simp (disch := omega) only [qop,fop,St.ev,St.put,cd,zd,Value.oneCell',lA,TypeDesc.aggB,Z0,cA,mA,Z1,oA,pA,qA,eA,D.pure?,ZC,ZD,Int.toNat_zero,Int.toNat_one,wA,xA,vA,ZO,Nat.mul_one,Nat.zero_mul,Zh,yA,iop,tt,Z2,nA,rA,vB,cD,cB,ne_eq,not_false_eq_true] <;> exact rfl) (by simp only [St.put,Za,Zb] <;> exact rfl) ?_)
     all_goals refine qC ?_
     all_goals refine ⟨rfl,?_,pD _,qD _,rfl,rfl⟩
     all_goals repeat' (first | exact tA | refine qB ?_ | refine uA rfl ?_ | refine uA ?_ ?_)
     all_goals refine jn ?_
     all_goals ((try simp only [Zp,Zi,ZJ,ZK,Bool.not_eq_true,Zm,Zn,ne_eq,Zf,true_iff,false_iff,iff_true,iff_false] at *) <;> omega)
    refine jA ?_
    refine mB _ rfl (fun hc3 => ?_) (fun hc3 => ?_)
    ·try simp only [Zp,Zi,ZK,ZJ,ne_eq,Zn,Zm,ZB,ZA,ZI,not_or,not_and,Zu] at hc3
     refine fA ?_
     refine iA hX hb [0,1,2] rfl (σ' := ?s10) (fun K hK => ?h10) ?n10
     case h10 =>
      iterate 3 (refine kA rfl (by simp (disch := omega) only [gA,aA,qop,fop,St.ev,St.put,cd,zd,Value.oneCell',lA,TypeDesc.aggB,Z0,eE,aD,lC,eC,D.cell1,eB,fB,gB,iB,jB,List.all_cons,List.all_nil,zC,TI.place,TI.zeros,TI.kindOk,D.cells?,D.pure?,zp,Value.cells,ZQ,ZP,Z1,iC,D.boxCells,D.live,ZM,ZL,ZN,ZG,ZH,St.setVec,ZC,tt,Z2,nA,rA,vB,Zh,cD,cB,ne_eq,not_false_eq_true] <;> exact rfl) ?_)
      refine bA ?_
      exact hK
     refine jA ?_
     refine bC ?_
     refine oE ?_
     refine nC ?_
     exact cM (jF (by simp only [qE,oA,pA,lA,TypeDesc.aggB,eA,D.pure?,D.pv?,nB,oB,Zd,Zc,Zw,Zk,Zv,Zj,Zx,Zl,Zo,Zr,reduceIte,Nat.reduceAdd,Nat.reduceLeDiff,Zg,Zf,tt] <;> exact rfl) rfl (by first | rfl | (first | (rw [aP hc0] <;> rfl) | (rw [bP hc0 hc1] <;> rfl) | (rw [cP hc0 hc1 hc2] <;> rfl) | (rw [qM hc0 hc1 hc2x hc3] <;> rfl) | (rw [dP hc0 hc1 hc2x hc3x hc4] <;> rfl) | (rw [rM hc0 hc1 hc2x hc3x hc4x hc5] <;> rfl) | (rw [uN hc0 hc1 hc2x hc3x hc4x hc5] <;> rfl))))
    ·try simp only [Zp,Zi,ZK,ZJ,ne_eq,Zn,Zm,ZB,ZA,ZI,not_or,not_and,Zu] at hc3
     have hc3x : ¬ (vs.getD 0 0 ≠ s ∨ vs.getD 1 0 ≠ f) := by omega
     refine fA ?_
     refine nE hX hb [0,1,2,3,4,5,6,7,8,9,10,11] rfl (ts := [56,57,58,59,60,61,62,63,64,65,66]) (t := 55) (d := .p (bv (nu < 0 ∨ (lv.length : Int) ≤ nu))) (σ' := ?s11) ?j11 ?h11 ?n11
     case j11 => simp only [St.join,List.foldl,Za,Zb]; exact rfl
     case h11 =>
      iterate 4 (all_goals refine kA rfl (by simp (disch := omega) only [gA,aA,qop,fop,St.ev,St.put,cd,zd,Value.oneCell',lA,TypeDesc.aggB,Z0,cA,mA,Z1,oA,pA,qA,eA,D.pure?,ZC,ZD,yA,iop,mC,tt,Z2,nA,rA,vB,Zh,cD,cB,ne_eq,not_false_eq_true] <;> exact rfl) ?_)
      iterate 6 (all_goals first | (refine fC rfl rfl rfl (by simp (disch := omega) only [gA,aA,qop,fop,St.ev,St.put,cd,zd,Value.oneCell',lA,TypeDesc.aggB,Z0,cA,mA,Z1,oA,pA,qA,eA,D.pure?,ZC,ZD,yA,iop,mC,tt,Z2,nA,rA,vB,Zh,cD,cB,ne_eq,not_false_eq_true] <;> exact rfl) ?_) | (first | (refine zB rfl rfl rfl (by simp only [St.put,Za,Zb] <;> exact rfl) ?_) | (refine aC rfl rfl rfl (by simp only [St.put,Za,Zb] <;> exact rfl) ?_)) | (refine yB rfl rfl rfl (by simp only [Za,Zb] <;> exact rfl) (by simp only [Za,Zb] <;> exact rfl) (fun hg => ?_) (fun hg => ?_) <;> (try simp only [Zp,Zi,ZJ,ZK,ne_eq,Zn,Zm,Bool.not_eq_true,Zu] at hg) <;> first | (refine fC rfl rfl rfl (by simp (disch := omega) only [gA,aA,qop,fop,St.ev,St.put,cd,zd,Value.oneCell',lA,TypeDesc.aggB,Z0,cA,mA,Z1,oA,pA,qA,eA,D.pure?,ZC,ZD,yA,iop,mC,tt,Z2,nA,rA,vB,Zh,cD,cB,ne_eq,not_false_eq_true] <;> exact rfl) ?_) | (first | (refine zB rfl rfl rfl (by simp only [St.put,Za,Zb] <;> exact rfl) ?_) | (refine aC rfl rfl rfl (by simp only [St.put,Za,Zb] <;> exact rfl) ?_))))
      iterate 2 (all_goals refine kA rfl (by simp (disch := omega) only [gA,aA,qop,fop,St.ev,St.put,cd,zd,Value.oneCell',lA,TypeDesc.aggB,Z0,cA,mA,Z1,oA,pA,qA,eA,D.pure?,ZC,ZD,yA,iop,mC,tt,Z2,nA,rA,vB,Zh,cD,cB,ne_eq,not_false_eq_true] <;> exact rfl) ?_)
      all_goals refine bA ?_
      all_goals refine ⟨rfl,?_,pD _,qD _,rfl,rfl⟩
      all_goals repeat' (first | exact tA | refine qB ?_ | refine uA rfl ?_ | refine uA ?_ ?_)
      all_goals refine jn ?_
      all_goals ((try simp only [Zp,Zi,ZJ,ZK,Bool.not_eq_true,Zm,Zn,ne_eq,Zf,true_iff,false_iff,iff_true,iff_false] at *) <;> omega)
     refine jA ?_
     refine mB _ rfl (fun hc4 => ?_) (fun hc4 => ?_)
     ·try simp only [Zp,Zi,ZK,ZJ,ne_eq,Zn,Zm,ZB,ZA,ZI,not_or,not_and,Zu] at hc4
      refine fA ?_
      refine iA hX hb [0,1,2] rfl (σ' := ?s12) (fun K hK => ?h12) ?n12
      case h12 =>
       iterate 3 (refine kA rfl (by simp (disch := omega) only [gA,aA,qop,fop,St.ev,St.put,cd,zd,Value.oneCell',lA,TypeDesc.aggB,Z0,eE,aD,lC,eC,D.cell1,eB,fB,gB,iB,jB,List.all_cons,List.all_nil,zC,TI.place,TI.zeros,TI.kindOk,D.cells?,D.pure?,zp,Value.cells,ZQ,ZP,Z1,iC,D.boxCells,D.live,ZM,ZL,ZN,ZG,ZH,St.setVec,ZC,tt,Z2,nA,rA,vB,Zh,cD,cB,ne_eq,not_false_eq_true] <;> exact rfl) ?_)
       refine bA ?_
       exact hK
      refine jA ?_
      refine bC ?_
      refine oE ?_
      refine nC ?_
      exact cM (jF (by simp only [qE,oA,pA,lA,TypeDesc.aggB,eA,D.pure?,D.pv?,nB,oB,Zd,Zc,Zw,Zk,Zv,Zj,Zx,Zl,Zo,Zr,reduceIte,Nat.reduceAdd,Nat.reduceLeDiff,Zg,Zf,tt] <;> exact rfl) rfl (by first | rfl | (first | (rw [aP hc0] <;> rfl) | (rw [bP hc0 hc1] <;> rfl) | (rw [cP hc0 hc1 hc2] <;> rfl) | (rw [qM hc0 hc1 hc2x hc3] <;> rfl) | (rw [dP hc0 hc1 hc2x hc3x hc4] <;> rfl) | (rw [rM hc0 hc1 hc2x hc3x hc4x hc5] <;> rfl) | (rw [uN hc0 hc1 hc2x hc3x hc4x hc5] <;> rfl))))
     ·try simp only [Zp,Zi,ZK,ZJ,ne_eq,Zn,Zm,ZB,ZA,ZI,not_or,not_and,Zu] at hc4
      have hc4x : ¬ (nu < 0 ∨ (lv.length : Int) ≤ nu) := by omega
      have hsm := zG hc0
      dsimp only at hsm
      obtain ⟨k,hk⟩ : ∃ k : Nat,nu = k := ⟨nu.toNat,by omega⟩
      subst hk
      obtain ⟨S,F,hS,hF,q1,q2,q3,q4,q5,q6⟩ := nF hc0
      dsimp only at hS hF
      subst hS
      subst hF
      have hrl := hsm.2.2 _ (tE lv [] k (by omega))
      obtain ⟨P,hP2⟩ : ∃ P,vs.length = 2 + 2 * P := ⟨(vs.length - 2) / 2,by omega⟩
      have hprl : (rE (vs.drop 2)).length = P := by rw [xK,List.length_drop]; omega
      have hpi := kEA (l := vs.drop 2) (fun v hv => hvi v (List.mem_of_mem_drop hv))
      have hpl2 : 2 * P ≤ 1000000 := by omega
      refine tB ?_
      refine dE ?_
      refine jA ?_
      refine fA ?_
      refine iA hX hb [0] rfl (σ' := ?s13) (fun K hK => ?h13) ?n13
      case h13 =>
       (refine kA rfl (by simp (disch := omega) only [gA,aA,qop,fop,St.ev,St.put,cd,zd,Value.oneCell',lA,TypeDesc.aggB,Z0,ZM,ZL,Zl,Zo,ZG,ZH,St.addBox,Value.cells,tt,Z2,nA,rA,vB,Zh,cD,cB,ne_eq,not_false_eq_true] <;> exact rfl) ?_)
       refine bA ?_
       exact hK
      refine jA ?_
      refine oP 3 0 _ 35 2 rfl rfl (σ' := ?s14) ?h14 ?n14
      case h14 => simp only [St.nilCell,St.addVec,Za,Zb,Zl,Zo,ZL,ZM]; exact rfl
      refine fA ?_
      refine fA ?_
      refine iA hX hb [0,1,2,3] rfl (σ' := ?s15) (fun K hK => ?h15) ?n15
      case h15 =>
       iterate 3 (refine kA rfl (by simp (disch := omega) only [gA,aA,qop,fop,St.ev,St.put,cd,zd,Value.oneCell',lA,TypeDesc.aggB,Z0,cA,mA,Z1,oA,pA,qA,eA,D.pure?,ZC,ZD,imp_self,Int.toNat_one,Int.toNat_zero,Nat.one_mul,rI,bnd,Option.isSome_none,ZP,Option.map_none,implies_true,forall_const,ZO,Nat.sub_zero,sA,D.pv?,tt,Z2,nA,rA,vB,Zh,cD,cB,ne_eq,not_false_eq_true,cBA,Nat.mul_one] <;> exact rfl) ?_)
       refine jD rfl (by simp only [aA,St.ev,nB,oB,sA,D.pv?,ZG,ZH,zd,cd,Value.oneCell',Zr] <;> exact rfl) (acK hP (k87 vs _ (uX vs (by omega)))) (by simp only [St.put,Za,Zb] <;> exact rfl) ?_
       refine bA ?_
       exact hK
      refine jA ?_
      refine uB ?_
      refine tL hX hro hpl.j [] [.any,.any,.ptr 0 0,.ptr 1 0,.ptr 2 0,.any,.any,.ptr 3 0,.any,.any,.any,.any,.any,.any,.any,.any,.any,.any,.any,.any,.any,.any,.any,.any,.any,.any,.any,.any,.any,.any,.any,.any,.any,.any,.any,.any,.any,.any,.any,.any,.any,.any,.any,.any,.any,.any,.any,.any,.any,.any,.any,.any,.any,.any,.any,.any,.any,.any,.any,.any,.any,.any,.any,.any,.any,.any,.any,.any,.any,.any,.any,.p (.clo 113 [gG (vs.drop 2),i64 2]),.any,.any,.any,.any,.any,.any,.any,.any,.any,.any,.any,.any,.any,.any,.any,.any,.any,.any,.any,.any,.any,.any,.any,.any,.any,.any,.any,.any,.any,.any,.any,.any,.any,.any,.any,.any,.any,.any,.any,.any,.any,.any,.any,.any,.any,.any] 4 (fun (q1 : Nat) => [⟨26,[.p (i64 (S : Int)),.p (i64 (F : Int)),.p (xD lv)]⟩,⟨90,[.p (i64 ki),.p (i64 fr),.p (i64 de),.p (i64 (k : Int)),.p (i64 va),.p (i64 ep),.p (gG vs),.p (bytes bo)]⟩,⟨90,[.p (i64 0),.p (i64 0),.p (i64 0),.p (i64 0),.p (i64 0),.p (i64 0),.nil,.nil]⟩,⟨40,[.vref 0]⟩]) (fun (q1 : Nat) => [some ⟨35,2,((rE (vs.drop 2)).take q1).length,bE ((rE (vs.drop 2)).take q1)⟩]) [⟨26,[.p (i64 (S : Int)),.p (i64 (F : Int)),.p (xD lv)]⟩,⟨90,[.p (i64 ki),.p (i64 fr),.p (i64 de),.p (i64 (k : Int)),.p (i64 va),.p (i64 ep),.p (gG vs),.p (bytes bo)]⟩,⟨90,[.p (i64 0),.p (i64 0),.p (i64 0),.p (i64 0),.p (i64 0),.p (i64 0),.nil,.nil]⟩,⟨40,[.vref 0]⟩] [some ⟨35,2,((rE (vs.drop 2))).length,bE ((rE (vs.drop 2)))⟩] (sC ⟨rfl,(by repeat first | exact tA | refine qB ?_ | refine uA (by first | rfl | (first | (rw [fG hk2,← mD]; simp) | simp)) ?_),(vC rfl ((by repeat first | exact tA | refine qB ?_ | refine uA (by first | rfl | (first | (rw [fG hk2,← mD]; simp) | simp)) ?_)) (vC rfl ((by repeat first | exact tA | refine qB ?_ | refine uA (by first | rfl | (first | (rw [fG hk2,← mD]; simp) | simp)) ?_)) (vC rfl ((by repeat first | exact tA | refine qB ?_ | refine uA (by first | rfl | (first | (rw [fG hk2,← mD]; simp) | simp)) ?_)) (vC rfl (uA (by first | rfl | (first | (rw [fG hk2,← mD]; simp) | simp)) (tA)) (wB _))))),(zE (by first | rfl | (first | (rw [fG hk2,← mD]; simp) | simp)) (xB _)),rfl,rfl⟩) rfl rfl (hP ▸ (tNA (vs.drop 2) 2 (by omega) (by rw [List.length_drop]; omega))) rfl rfl rfl (by first | rfl | (first | (rw [List.take_of_length_le (by rw [xI,bW (by rw [List.length_drop]; omega),List.length_drop]; omega)]))) (by first | rfl | (first | (rw [List.take_of_length_le (by rw [xI,bW (by rw [List.length_drop]; omega),List.length_drop]; omega)]))) ?_ ?_
      ·intro q1 y hy
       obtain ⟨hk1,rfl⟩ := xS hy
       rw [bW (by rw [List.length_drop]; omega),List.length_drop] at hk1
       have hk2 : 2 * q1 + 1 < (vs.drop 2).length := by rw [List.length_drop]; omega
       have hcl := gZ hk2
       obtain ⟨hca0,hca1⟩ := bBA hk2
       have hpt : ((rE (vs.drop 2)).take q1).length = q1 := by rw [List.length_take]; omega
       unfold zK
       intro X1 hQ hX
       have hP0 := hP; have hP := hQ.trans hP; have hb : tb.Ok X1.P := hP ▸ jC
       change AW X1 _ _ ⟨[.pin 4],[.any,.any,.ptr 0 0,.ptr 1 0,.ptr 2 0,.any,.any,.ptr 3 0,.any,.any,.any,.any,.any,.any,.any,.any,.any,.any,.any,.any,.any,.any,.any,.any,.any,.any,.any,.any,.any,.any,.any,.any,.any,.any,.any,.any,.any,.any,.any,.any,.any,.any,.any,.any,.any,.any,.any,.any,.any,.any,.any,.any,.any,.any,.any,.any,.any,.any,.any,.any,.any,.any,.any,.any,.any,.any,.any,.any,.any,.any,.any,.p (.clo 113 [gG (vs.drop 2),i64 2]),.p (gG (sJ (vs.drop 2) 2 q1)),.any,.any,.any,.any,.any,.any,.any,.any,.any,.any,.any,.any,.any,.any,.any,.any,.any,.any,.any,.any,.any,.any,.any,.any,.any,.any,.any,.any,.any,.any,.any,.any,.any,.any,.any,.any,.any,.any,.any,.any,.any,.any,.any,.any,.any],[⟨26,[.p (i64 (S : Int)),.p (i64 (F : Int)),.p (xD lv)]⟩,⟨90,[.p (i64 ki),.p (i64 fr),.p (i64 de),.p (i64 (k : Int)),.p (i64 va),.p (i64 ep),.p (gG vs),.p (bytes bo)]⟩,⟨90,[.p (i64 0),.p (i64 0),.p (i64 0),.p (i64 0),.p (i64 0),.p (i64 0),.nil,.nil]⟩,⟨40,[.vref 0]⟩],[some ⟨35,2,((rE (vs.drop 2)).take q1).length,bE ((rE (vs.drop 2)).take q1)⟩]⟩
       refine iA hX hb [0] rfl (σ' := ?s16) (fun K hK => ?h16) ?n16
       case h16 =>
        (refine kA rfl (by simp (disch := omega) only [gA,aA,qop,fop,St.ev,St.put,cd,zd,Value.oneCell',lA,TypeDesc.aggB,Z0,Z2,nA,rA,vB,Zh,cD,cB,ne_eq,not_false_eq_true] <;> exact rfl) ?_)
        refine bA ?_
        exact hK
       refine ⟨rfl,rfl,?_⟩
       intro X2 hQ2 hX
       have hP := hQ2.trans hP0; have hb : tb.Ok X2.P := hP ▸ jC
       refine uB ?_
       refine bF hX hb (gD hP) [(0,true),(1,true),(2,true),(3,true),(4,true),(5,true),(6,true),(7,true),(8,false),(9,false),(10,false)] (by kernel_rfl) (σ' := ?s17) (fun K hK => ?h17) ?n17
       case h17 =>
        iterate 8 (refine xE rfl (by simp (disch := omega) only [qop,fop,St.ev,St.put,cd,zd,Value.oneCell',lA,TypeDesc.aggB,Z0,Z1,oA,pA,qA,eA,D.pure?,ZC,ZD,Int.toNat_zero,Int.toNat_one,wA,xA,vA,ZO,Nat.mul_one,Nat.zero_mul,Zh,eE,aD,lC,eC,D.cell1,eB,fB,gB,iB,jB,List.all_cons,List.all_nil,zC,TI.place,TI.zeros,TI.kindOk,D.cells?,zp,Value.cells,ZQ,ZP,zD,wC,xC,aE,bB,rB,ZG,ZH,ZL,ZM,ZN,zA,Nat.reduceAdd,Nat.reduceMul,cE,qG,St.demote,D.demote,St.setVec,List.length_append,reduceIte,iC,D.boxCells,D.live,tt,Z2,nA,rA,vB,cD,cB,ne_eq,not_false_eq_true,hcl,hca0,hca1] <;> exact rfl) (by simp only [St.put,Za,Zb] <;> exact rfl) ?_)
        iterate 3 (refine vG rfl (by simp (disch := omega) only [gA,aA,qop,fop,St.ev,St.put,cd,zd,Value.oneCell',lA,TypeDesc.aggB,Z0,Z1,oA,pA,qA,eA,D.pure?,ZC,ZD,Int.toNat_zero,Int.toNat_one,wA,xA,vA,ZO,Nat.mul_one,Nat.zero_mul,Zh,eE,aD,lC,eC,D.cell1,eB,fB,gB,iB,jB,List.all_cons,List.all_nil,zC,TI.place,TI.zeros,TI.kindOk,D.cells?,zp,Value.cells,ZQ,ZP,zD,wC,xC,aE,bB,rB,ZG,ZH,ZL,ZM,ZN,zA,Nat.reduceAdd,Nat.reduceMul,cE,qG,St.demote,D.demote,St.setVec,List.length_append,reduceIte,iC,D.boxCells,D.live,tt,Z2,nA,rA,vB,cD,cB,ne_eq,not_false_eq_true,hcl,hca0,hca1] <;> exact rfl) ?_)
        refine qC ?_
        exact hK
       refine dE ?_
       exact ⟨rfl,sC ⟨(by first | rfl | (first | (rw [fG hk2,← mD]; simp) | simp)),(by repeat first | exact tA | refine qB ?_ | refine uA rfl ?_),(vC rfl ((by repeat first | exact tA | refine qB ?_ | refine uA (by first | rfl | (first | (rw [fG hk2,← mD]; simp) | simp)) ?_)) (vC rfl ((by repeat first | exact tA | refine qB ?_ | refine uA (by first | rfl | (first | (rw [fG hk2,← mD]; simp) | simp)) ?_)) (vC rfl ((by repeat first | exact tA | refine qB ?_ | refine uA (by first | rfl | (first | (rw [fG hk2,← mD]; simp) | simp)) ?_)) (vC rfl (uA (by first | rfl | (first | (rw [fG hk2,← mD]; simp) | simp)) (tA)) (wB _))))),(zE (by first | rfl | (first | (rw [fG hk2,← mD]; simp) | simp)) (xB _)),rfl,rfl⟩⟩
      refine dE ?_
      refine jA ?_
      refine fA ?_
      refine iA hX hb [0,1,2,3,4,5,6,7] rfl (σ' := ?s18) (fun K hK => ?h18) ?n18
      case h18 =>
       iterate 8 (refine kA rfl (by simp (disch := omega) only [gA,aA,qop,fop,St.ev,St.put,cd,zd,Value.oneCell',lA,TypeDesc.aggB,Z0,cA,mA,Z1,oA,pA,qA,eA,D.pure?,ZC,ZD,Int.toNat_zero,Int.toNat_one,wA,xA,vA,ZO,Nat.mul_one,Nat.zero_mul,Zh,ZM,ZL,ZG,ZH,St.addBox,Value.cells,iC,D.boxCells,D.live,D.cells?,ZN,St.setVec,tt,Z2,nA,rA,vB,cD,cB,ne_eq,not_false_eq_true] <;> exact rfl) ?_)
       refine bA ?_
       exact hK
      refine jA ?_
      refine fA ?_
      refine fA ?_
      refine mI 0 rfl (σ' := ?s20) ?h20 ?n20
      case h20 => simp only [St.freeze,D.freeze,ZG,ZH,Za,Zb,Zr,reduceIte,Nat.reduceEqDiff]; exact rfl
      refine iA hX hb [0,1,2,3,4] rfl (σ' := ?s19) (fun K hK => ?h19) ?n19
      case h19 =>
       iterate 3 (refine kA rfl (by simp (disch := omega) only [gA,aA,qop,fop,St.ev,St.put,cd,zd,Value.oneCell',lA,TypeDesc.aggB,Z0,Z1,oA,pA,qA,eA,D.pure?,ZC,ZD,mC,sA,D.pv?,yA,iop,tt,Z2,nA,rA,vB,Zh,cD,cB,ne_eq,not_false_eq_true] <;> exact rfl) ?_)
       refine jD rfl (by simp only [aA,St.ev,nB,oB,sA,D.pv?,ZG,ZH,zd,cd,Value.oneCell',Zr] <;> exact rfl) (acK hP (c85 (rE (vs.drop 2)) ((lv.getD k []).length : Nat) hpi (by omega))) (by simp only [St.put,Za,Zb] <;> exact rfl) ?_
       (refine kA rfl (by simp (disch := omega) only [gA,aA,qop,fop,St.ev,St.put,cd,zd,Value.oneCell',lA,TypeDesc.aggB,Z0,Z1,oA,pA,qA,eA,D.pure?,ZC,ZD,mC,sA,D.pv?,yA,iop,tt,Z2,nA,rA,vB,Zh,cD,cB,ne_eq,not_false_eq_true] <;> exact rfl) ?_)
       refine bA ?_
       exact hK
      refine jA ?_
      refine mB _ rfl (fun hc5 => ?_) (fun hc5 => ?_)
      ·try simp only [Zp,Zi,ZK,ZJ,ne_eq,Zn,Zm,ZB,ZA,ZI,not_or,not_and,Zu] at hc5
       refine fA ?_
       refine iA hX hb [0,1,2] rfl (σ' := ?s21) (fun K hK => ?h21) ?n21
       case h21 =>
        iterate 3 (refine kA rfl (by simp (disch := omega) only [gA,aA,qop,fop,St.ev,St.put,cd,zd,Value.oneCell',lA,TypeDesc.aggB,Z0,eE,aD,lC,eC,D.cell1,eB,fB,gB,iB,jB,List.all_cons,List.all_nil,zC,TI.place,TI.zeros,TI.kindOk,D.cells?,D.pure?,zp,Value.cells,ZQ,ZP,Z1,iC,D.boxCells,D.live,ZM,ZL,ZN,ZG,ZH,St.setVec,ZC,tt,Z2,nA,rA,vB,Zh,cD,cB,ne_eq,not_false_eq_true] <;> exact rfl) ?_)
        refine bA ?_
        exact hK
       refine jA ?_
       refine bC ?_
       refine nC ?_
       exact cM (jF (by simp only [qE,oA,pA,lA,TypeDesc.aggB,eA,D.pure?,D.pv?,nB,oB,Zd,Zc,Zw,Zk,Zv,Zj,Zx,Zl,Zo,Zr,reduceIte,Nat.reduceAdd,Nat.reduceLeDiff,Zg,Zf,tt] <;> exact rfl) rfl (by first | rfl | (first | (rw [aP hc0] <;> rfl) | (rw [bP hc0 hc1] <;> rfl) | (rw [cP hc0 hc1 hc2] <;> rfl) | (rw [qM hc0 hc1 hc2x hc3] <;> rfl) | (rw [dP hc0 hc1 hc2x hc3x hc4] <;> rfl) | (rw [rM hc0 hc1 hc2x hc3x hc4x hc5] <;> rfl) | (rw [uN hc0 hc1 hc2x hc3x hc4x hc5] <;> rfl))))
      ·try simp only [Zp,Zi,ZK,ZJ,ne_eq,Zn,Zm,ZB,ZA,ZI,not_or,not_and,Zu] at hc5
       have hxf := oM hc5
       have hxe := dL hc5
       refine tB ?_
       refine jA ?_
       refine fA ?_
       refine zN hX (mDA 90 hb) (gD hP) [(0,true),(1,true),(2,true),(3,true),(4,true),(5,true),(6,true),(7,true)] 8 [(9,true),(10,false),(11,false)] 10 [(8,false),(9,true),(11,false)] (by kernel_rfl) (σ' := ?s22) (fun K hK => ?h22) ?n22
       case h22 =>
        iterate 8 (refine xE rfl (by simp (disch := omega) only [qop,fop,St.ev,St.put,cd,zd,Value.oneCell',lA,TypeDesc.aggB,Z0,cA,mA,Z1,oA,pA,qA,eA,D.pure?,ZC,ZD,sA,D.pv?,eE,aD,lC,eC,D.cell1,eB,fB,gB,iB,jB,List.all_cons,List.all_nil,zC,TI.place,TI.zeros,TI.kindOk,D.cells?,zp,Value.cells,ZQ,ZP,ZM,ZL,ZG,ZH,St.addBox,iC,D.boxCells,D.live,ZN,St.setVec,tt,Z2,nA,rA,vB,Zh,cD,cB,ne_eq,not_false_eq_true,oS,dM,cJ,mH] <;> exact rfl) (by simp only [St.put,Za,Zb] <;> exact rfl) ?_)
        refine qC ?_
        refine ⟨?_,?_⟩
        ·refine pG rfl (by simp only [aA,St.ev,nB,oB,sA,D.pv?,ZG,ZH,zd,cd,Value.oneCell',Zr] <;> exact rfl) (acK hP ((o88 vs (by omega)).pure)) (by simp only [St.put,Za,Zb] <;> exact rfl) ?_
         (refine xE rfl (by simp (disch := omega) only [qop,fop,St.ev,St.put,cd,zd,Value.oneCell',lA,TypeDesc.aggB,Z0,cA,mA,Z1,oA,pA,qA,eA,D.pure?,ZC,ZD,sA,D.pv?,eE,aD,lC,eC,D.cell1,eB,fB,gB,iB,jB,List.all_cons,List.all_nil,zC,TI.place,TI.zeros,TI.kindOk,D.cells?,zp,Value.cells,ZQ,ZP,ZM,ZL,ZG,ZH,St.addBox,iC,D.boxCells,D.live,ZN,St.setVec,tt,Z2,nA,rA,vB,Zh,cD,cB,ne_eq,not_false_eq_true,oS,dM,cJ,mH] <;> exact rfl) (by simp only [St.put,Za,Zb] <;> exact rfl) ?_)
         iterate 2 (refine vG rfl (by simp (disch := omega) only [gA,aA,qop,fop,St.ev,St.put,cd,zd,Value.oneCell',lA,TypeDesc.aggB,Z0,cA,mA,Z1,oA,pA,qA,eA,D.pure?,ZC,ZD,sA,D.pv?,eE,aD,lC,eC,D.cell1,eB,fB,gB,iB,jB,List.all_cons,List.all_nil,zC,TI.place,TI.zeros,TI.kindOk,D.cells?,zp,Value.cells,ZQ,ZP,ZM,ZL,ZG,ZH,St.addBox,iC,D.boxCells,D.live,ZN,St.setVec,tt,Z2,nA,rA,vB,Zh,cD,cB,ne_eq,not_false_eq_true,oS,dM,cJ,mH] <;> exact rfl) ?_)
         refine qC ?_
         exact hK
        ·(refine vG rfl (by simp (disch := omega) only [gA,aA,qop,fop,St.ev,St.put,cd,zd,Value.oneCell',lA,TypeDesc.aggB,Z0,cA,mA,Z1,oA,pA,qA,eA,D.pure?,ZC,ZD,sA,D.pv?,eE,aD,lC,eC,D.cell1,eB,fB,gB,iB,jB,List.all_cons,List.all_nil,zC,TI.place,TI.zeros,TI.kindOk,D.cells?,zp,Value.cells,ZQ,ZP,ZM,ZL,ZG,ZH,St.addBox,iC,D.boxCells,D.live,ZN,St.setVec,tt,Z2,nA,rA,vB,Zh,cD,cB,ne_eq,not_false_eq_true,oS,dM,cJ,mH] <;> exact rfl) ?_)
         refine pG rfl (by simp only [aA,St.ev,nB,oB,sA,D.pv?,ZG,ZH,zd,cd,Value.oneCell',Zr] <;> exact rfl) (acK hP ((o88 vs (by omega)).pure)) (by simp only [St.put,Za,Zb] <;> exact rfl) ?_
         (refine xE rfl (by simp (disch := omega) only [qop,fop,St.ev,St.put,cd,zd,Value.oneCell',lA,TypeDesc.aggB,Z0,cA,mA,Z1,oA,pA,qA,eA,D.pure?,ZC,ZD,sA,D.pv?,eE,aD,lC,eC,D.cell1,eB,fB,gB,iB,jB,List.all_cons,List.all_nil,zC,TI.place,TI.zeros,TI.kindOk,D.cells?,zp,Value.cells,ZQ,ZP,ZM,ZL,ZG,ZH,St.addBox,iC,D.boxCells,D.live,ZN,St.setVec,tt,Z2,nA,rA,vB,Zh,cD,cB,ne_eq,not_false_eq_true,oS,dM,cJ,mH] <;> exact rfl) (by simp only [St.put,Za,Zb] <;> exact rfl) ?_)
         (refine vG rfl (by simp (disch := omega) only [gA,aA,qop,fop,St.ev,St.put,cd,zd,Value.oneCell',lA,TypeDesc.aggB,Z0,cA,mA,Z1,oA,pA,qA,eA,D.pure?,ZC,ZD,sA,D.pv?,eE,aD,lC,eC,D.cell1,eB,fB,gB,iB,jB,List.all_cons,List.all_nil,zC,TI.place,TI.zeros,TI.kindOk,D.cells?,zp,Value.cells,ZQ,ZP,ZM,ZL,ZG,ZH,St.addBox,iC,D.boxCells,D.live,ZN,St.setVec,tt,Z2,nA,rA,vB,Zh,cD,cB,ne_eq,not_false_eq_true,oS,dM,cJ,mH] <;> exact rfl) ?_)
         refine qC ?_
         exact hK
       refine jA ?_
       refine oP 5 7 _ 5 1 rfl rfl (σ' := ?s23) ?h23 ?n23
       case h23 => simp only [St.nilCell,St.addVec,Za,Zb,Zl,Zo,ZL,ZM]; exact rfl
       refine fA ?_
       refine fA ?_
       refine iA hX hb [0,1] rfl (σ' := ?s24) (fun K hK => ?h24) ?n24
       case h24 =>
        (refine kA rfl (by simp (disch := omega) only [gA,aA,qop,fop,St.ev,St.put,cd,zd,Value.oneCell',lA,TypeDesc.aggB,Z0,Z1,oA,pA,qA,eA,D.pure?,ZC,ZD,sA,D.pv?,tt,Z2,nA,rA,vB,Zh,cD,cB,ne_eq,not_false_eq_true] <;> exact rfl) ?_)
        refine jD rfl (by simp only [aA,St.ev,nB,oB,sA,D.pv?,ZG,ZH,zd,cd,Value.oneCell',Zr] <;> exact rfl) (acK hP (c89 (rE (vs.drop 2)))) (by simp only [St.put,Za,Zb] <;> exact rfl) ?_
        refine bA ?_
        exact hK
       refine jA ?_
       refine uB ?_
       refine tL hX hro hpl.j [.coll] [.any,.any,.any,.any,.ptr 2 0,.any,.any,.any,.any,.ptr 4 0,.ptr 5 0,.any,.any,.any,.any,.any,.any,.any,.any,.any,.any,.any,.any,.any,.any,.any,.any,.any,.any,.any,.any,.any,.any,.any,.any,.any,.any,.any,.any,.any,.any,.any,.any,.any,.any,.any,.any,.any,.any,.any,.any,.any,.any,.any,.any,.any,.any,.any,.any,.any,.any,.any,.any,.any,.any,.any,.any,.any,.any,.any,.any,.any,.any,.any,.any,.any,.any,.any,.any,.any,.any,.any,.any,.any,.any,.any,.any,.any,.any,.any,.any,.any,.any,.any,.any,.any,.any,.any,.any,.any,.any,.any,.any,.any,.any,.any,.p (.clo 114 [uC (rE (vs.drop 2))]),.any,.any,.any,.any,.any,.any,.any,.any,.any,.any,.any] 6 (fun (q1 : Nat) => [⟨26,[.p (i64 (S : Int)),.p (i64 (F : Int)),.p (xD lv)]⟩,⟨90,[.p (i64 ki),.p (i64 fr),.p (i64 de),.p (i64 (k : Int)),.p (i64 va),.p (i64 ep),.p (gG vs),.p (bytes bo)]⟩,⟨90,[.p (i64 0),.p (i64 0),.p (i64 0),.p (i64 0),.p (i64 0),.p (i64 0),.nil,.nil]⟩,⟨40,[.p (uC (rE (vs.drop 2)))]⟩,⟨60,[.p (cH (lv.getD k []))]⟩,⟨90,[.p (i64 14),.p (i64 de),.p (i64 fr),.p (i64 (k : Int)),.p (i64 0),.p (i64 0),.p (gG vs),.vref 1]⟩]) (fun (q1 : Nat) => [none,some ⟨5,1,(mF (lv.getD k []) ((cC (rE (vs.drop 2))).take q1)).length,(mF (lv.getD k []) ((cC (rE (vs.drop 2))).take q1)).map u8⟩]) [⟨26,[.p (i64 (S : Int)),.p (i64 (F : Int)),.p (xD lv)]⟩,⟨90,[.p (i64 ki),.p (i64 fr),.p (i64 de),.p (i64 (k : Int)),.p (i64 va),.p (i64 ep),.p (gG vs),.p (bytes bo)]⟩,⟨90,[.p (i64 0),.p (i64 0),.p (i64 0),.p (i64 0),.p (i64 0),.p (i64 0),.nil,.nil]⟩,⟨40,[.p (uC (rE (vs.drop 2)))]⟩,⟨60,[.p (cH (lv.getD k []))]⟩,⟨90,[.p (i64 14),.p (i64 de),.p (i64 fr),.p (i64 (k : Int)),.p (i64 0),.p (i64 0),.p (gG vs),.vref 1]⟩] [none,some ⟨5,1,(mF (lv.getD k []) (cC (rE (vs.drop 2)))).length,(mF (lv.getD k []) (cC (rE (vs.drop 2)))).map u8⟩] (sC ⟨(by first | rfl | (first | (rw [bD _ _ q1 hk1]; simp; done) | (rw [bD _ _ q1 hk1]; simp [iD]) | simp)),(by repeat first | exact tA | refine qB ?_ | refine uA (by first | rfl | (first | (rw [bD _ _ q1 hk1]; simp; done) | (rw [bD _ _ q1 hk1]; simp [iD]) | simp)) ?_),(vC rfl ((by repeat first | exact tA | refine qB ?_ | refine uA (by first | rfl | (first | (rw [bD _ _ q1 hk1]; simp; done) | (rw [bD _ _ q1 hk1]; simp [iD]) | simp)) ?_)) (vC rfl ((by repeat first | exact tA | refine qB ?_ | refine uA (by first | rfl | (first | (rw [bD _ _ q1 hk1]; simp; done) | (rw [bD _ _ q1 hk1]; simp [iD]) | simp)) ?_)) (vC rfl ((by repeat first | exact tA | refine qB ?_ | refine uA (by first | rfl | (first | (rw [bD _ _ q1 hk1]; simp; done) | (rw [bD _ _ q1 hk1]; simp [iD]) | simp)) ?_)) (vC rfl ((by repeat first | exact tA | refine qB ?_ | refine uA (by first | rfl | (first | (rw [bD _ _ q1 hk1]; simp; done) | (rw [bD _ _ q1 hk1]; simp [iD]) | simp)) ?_)) (vC rfl ((by repeat first | exact tA | refine qB ?_ | refine uA (by first | rfl | (first | (rw [bD _ _ q1 hk1]; simp; done) | (rw [bD _ _ q1 hk1]; simp [iD]) | simp)) ?_)) (vC rfl ((by repeat first | exact tA | refine qB ?_ | refine uA (by first | rfl | (first | (rw [bD _ _ q1 hk1]; simp; done) | (rw [bD _ _ q1 hk1]; simp [iD]) | simp)) ?_)) (wB _))))))),(zFA (zE (by first | rfl | (first | (rw [bD _ _ q1 hk1]; simp; done) | (rw [bD _ _ q1 hk1]; simp [iD]) | simp)) (xB _))),rfl,rfl⟩) rfl rfl (hP ▸ (mKA (rE (vs.drop 2)) _ hc5)) rfl rfl rfl (by first | rfl | (first | (rw [List.take_of_length_le (by rw [xF]; exact Nat.le_refl _)]))) (by first | rfl | (first | (rw [List.take_of_length_le (by rw [xF]; exact Nat.le_refl _)]))) ?_ ?_
       ·intro q1 y hy
        obtain ⟨hk1,rfl⟩ := dQ hy
        have hx1 := wV hc5 _ (tE (cC (rE (vs.drop 2))) 0 q1 hk1)
        have hbl : (mF (lv.getD k []) ((cC (rE (vs.drop 2))).take q1)).length = 8 * q1 := by rw [bT,List.length_take]; omega
        unfold zK
        intro X1 hQ hX
        have hP0 := hP; have hP := hQ.trans hP; have hb : tb.Ok X1.P := hP ▸ jC
        change AW X1 _ _ ⟨[.pin 6],[.any,.any,.any,.any,.ptr 2 0,.any,.any,.any,.any,.ptr 4 0,.ptr 5 0,.any,.any,.any,.any,.any,.any,.any,.any,.any,.any,.any,.any,.any,.any,.any,.any,.any,.any,.any,.any,.any,.any,.any,.any,.any,.any,.any,.any,.any,.any,.any,.any,.any,.any,.any,.any,.any,.any,.any,.any,.any,.any,.any,.any,.any,.any,.any,.any,.any,.any,.any,.any,.any,.any,.any,.any,.any,.any,.any,.any,.any,.any,.any,.any,.any,.any,.any,.any,.any,.any,.any,.any,.any,.any,.any,.any,.any,.any,.any,.any,.any,.any,.any,.any,.any,.any,.any,.any,.any,.any,.any,.any,.any,.any,.any,.p (.clo 114 [uC (rE (vs.drop 2))]),.p (i64 ((cC (rE (vs.drop 2))).getD q1 0 : Nat)),.any,.any,.any,.any,.any,.any,.any,.any,.any,.any],[⟨26,[.p (i64 (S : Int)),.p (i64 (F : Int)),.p (xD lv)]⟩,⟨90,[.p (i64 ki),.p (i64 fr),.p (i64 de),.p (i64 (k : Int)),.p (i64 va),.p (i64 ep),.p (gG vs),.p (bytes bo)]⟩,⟨90,[.p (i64 0),.p (i64 0),.p (i64 0),.p (i64 0),.p (i64 0),.p (i64 0),.nil,.nil]⟩,⟨40,[.p (uC (rE (vs.drop 2)))]⟩,⟨60,[.p (cH (lv.getD k []))]⟩,⟨90,[.p (i64 14),.p (i64 de),.p (i64 fr),.p (i64 (k : Int)),.p (i64 0),.p (i64 0),.p (gG vs),.vref 1]⟩],[none,some ⟨5,1,(mF (lv.getD k []) ((cC (rE (vs.drop 2))).take q1)).length,(mF (lv.getD k []) ((cC (rE (vs.drop 2))).take q1)).map u8⟩]⟩
        refine iA hX hb [0] rfl (σ' := ?s25) (fun K hK => ?h25) ?n25
        case h25 =>
         (refine kA rfl (by simp (disch := omega) only [gA,aA,qop,fop,St.ev,St.put,cd,zd,Value.oneCell',lA,TypeDesc.aggB,Z0,Z2,nA,rA,vB,Zh,cD,cB,ne_eq,not_false_eq_true] <;> exact rfl) ?_)
         refine bA ?_
         exact hK
        refine ⟨rfl,rfl,?_⟩
        intro X2 hQ2 hX
        have hP := hQ2.trans hP0; have hb : tb.Ok X2.P := hP ▸ jC
        refine uB ?_
        refine bF hX hb (gD hP) [(0,true),(1,true),(2,true),(3,true),(4,true),(5,true),(6,false),(7,false),(8,true),(9,false)] (by kernel_rfl) (σ' := ?s26) (fun K hK => ?h26) ?n26
        case h26 =>
         iterate 6 (refine xE rfl (by simp (disch := omega) only [qop,fop,St.ev,St.put,cd,zd,Value.oneCell',lA,TypeDesc.aggB,Z0,cA,mA,Z1,oA,pA,qA,eA,D.pure?,ZC,ZD,Int.toNat_zero,Int.toNat_one,wA,xA,vA,ZO,Nat.mul_one,Nat.zero_mul,Zh,sA,D.pv?,cE,qG,St.demote,D.demote,St.setVec,ZG,ZH,List.length_append,reduceIte,iC,D.boxCells,D.live,D.cells?,ZM,ZL,ZN,tt,Z2,nA,rA,vB,cD,cB,ne_eq,not_false_eq_true,iD] <;> exact rfl) (by simp only [St.put,Za,Zb] <;> exact rfl) ?_)
         refine pG rfl (by simp only [aA,St.ev,nB,oB,sA,D.pv?,ZG,ZH,zd,cd,Value.oneCell',Zr] <;> exact rfl) (acK hP (c90 _)) (by simp only [St.put,Za,Zb] <;> exact rfl) ?_
         (refine vG rfl (by simp (disch := omega) only [gA,aA,qop,fop,St.ev,St.put,cd,zd,Value.oneCell',lA,TypeDesc.aggB,Z0,cA,mA,Z1,oA,pA,qA,eA,D.pure?,ZC,ZD,Int.toNat_zero,Int.toNat_one,wA,xA,vA,ZO,Nat.mul_one,Nat.zero_mul,Zh,sA,D.pv?,cE,qG,St.demote,D.demote,St.setVec,ZG,ZH,List.length_append,reduceIte,iC,D.boxCells,D.live,D.cells?,ZM,ZL,ZN,tt,Z2,nA,rA,vB,cD,cB,ne_eq,not_false_eq_true,iD] <;> exact rfl) ?_)
         (refine xE rfl (by simp (disch := omega) only [qop,fop,St.ev,St.put,cd,zd,Value.oneCell',lA,TypeDesc.aggB,Z0,cA,mA,Z1,oA,pA,qA,eA,D.pure?,ZC,ZD,Int.toNat_zero,Int.toNat_one,wA,xA,vA,ZO,Nat.mul_one,Nat.zero_mul,Zh,sA,D.pv?,cE,qG,St.demote,D.demote,St.setVec,ZG,ZH,List.length_append,reduceIte,iC,D.boxCells,D.live,D.cells?,ZM,ZL,ZN,tt,Z2,nA,rA,vB,cD,cB,ne_eq,not_false_eq_true,iD] <;> exact rfl) (by simp only [St.put,Za,Zb] <;> exact rfl) ?_)
         (refine vG rfl (by simp (disch := omega) only [gA,aA,qop,fop,St.ev,St.put,cd,zd,Value.oneCell',lA,TypeDesc.aggB,Z0,cA,mA,Z1,oA,pA,qA,eA,D.pure?,ZC,ZD,Int.toNat_zero,Int.toNat_one,wA,xA,vA,ZO,Nat.mul_one,Nat.zero_mul,Zh,sA,D.pv?,cE,qG,St.demote,D.demote,St.setVec,ZG,ZH,List.length_append,reduceIte,iC,D.boxCells,D.live,D.cells?,ZM,ZL,ZN,tt,Z2,nA,rA,vB,cD,cB,ne_eq,not_false_eq_true,iD] <;> exact rfl) ?_)
         refine qC ?_
         exact hK
        refine dE ?_
        exact ⟨rfl,sC ⟨(by first | rfl | (first | (rw [bD _ _ q1 hk1]; simp; done) | (rw [bD _ _ q1 hk1]; simp [iD]) | simp)),(by repeat first | exact tA | refine qB ?_ | refine uA rfl ?_),(vC rfl ((by repeat first | exact tA | refine qB ?_ | refine uA (by first | rfl | (first | (rw [bD _ _ q1 hk1]; simp; done) | (rw [bD _ _ q1 hk1]; simp [iD]) | simp)) ?_)) (vC rfl ((by repeat first | exact tA | refine qB ?_ | refine uA (by first | rfl | (first | (rw [bD _ _ q1 hk1]; simp; done) | (rw [bD _ _ q1 hk1]; simp [iD]) | simp)) ?_)) (vC rfl ((by repeat first | exact tA | refine qB ?_ | refine uA (by first | rfl | (first | (rw [bD _ _ q1 hk1]; simp; done) | (rw [bD _ _ q1 hk1]; simp [iD]) | simp)) ?_)) (vC rfl ((by repeat first | exact tA | refine qB ?_ | refine uA (by first | rfl | (first | (rw [bD _ _ q1 hk1]; simp; done) | (rw [bD _ _ q1 hk1]; simp [iD]) | simp)) ?_)) (vC rfl ((by repeat first | exact tA | refine qB ?_ | refine uA (by first | rfl | (first | (rw [bD _ _ q1 hk1]; simp; done) | (rw [bD _ _ q1 hk1]; simp [iD]) | simp)) ?_)) (vC rfl ((by repeat first | exact tA | refine qB ?_ | refine uA (by first | rfl | (first | (rw [bD _ _ q1 hk1]; simp; done) | (rw [bD _ _ q1 hk1]; simp [iD]) | simp)) ?_)) (wB _))))))),(zFA (zE (by first | rfl | (first | (rw [bD _ _ q1 hk1]; simp; done) | (rw [bD _ _ q1 hk1]; simp [iD]) | simp)) (xB _))),rfl,rfl⟩⟩
       refine dE ?_
       refine jA ?_
       refine fA ?_
       refine mI 1 rfl (σ' := ?s28) ?h28 ?n28
       case h28 => simp only [St.freeze,D.freeze,ZG,ZH,Za,Zb,Zr,reduceIte,Nat.reduceEqDiff]; exact rfl
       refine iA hX hb [0,1,2] rfl (σ' := ?s27) (fun K hK => ?h27) ?n27
       case h27 =>
        iterate 3 (refine kA rfl (by simp (disch := omega) only [gA,aA,qop,fop,St.ev,St.put,cd,zd,Value.oneCell',lA,TypeDesc.aggB,Z0,Z1,oA,pA,qA,eA,D.pure?,ZC,ZD,iC,D.boxCells,D.live,D.cells?,ZM,ZL,ZN,ZG,ZH,St.setVec,tt,Z2,nA,rA,vB,Zh,cD,cB,ne_eq,not_false_eq_true] <;> exact rfl) ?_)
        refine bA ?_
        exact hK
       refine jA ?_
       refine bC ?_
       exact cM (jF (by simp only [qE,oA,pA,lA,TypeDesc.aggB,eA,D.pure?,D.pv?,nB,oB,Zd,Zc,Zw,Zk,Zv,Zj,Zx,Zl,Zo,Zr,reduceIte,Nat.reduceAdd,Nat.reduceLeDiff,Zg,Zf,tt] <;> exact rfl) rfl (by first | rfl | (first | (rw [aP hc0] <;> rfl) | (rw [bP hc0 hc1] <;> rfl) | (rw [cP hc0 hc1 hc2] <;> rfl) | (rw [qM hc0 hc1 hc2x hc3] <;> rfl) | (rw [dP hc0 hc1 hc2x hc3x hc4] <;> rfl) | (rw [rM hc0 hc1 hc2x hc3x hc4x hc5] <;> rfl) | (rw [uN hc0 hc1 hc2x hc3x hc4x hc5] <;> rfl))))
end Go.Proofs.Ytldcoekbgfaomaa
end
section
namespace Go.Proofs.Ytldcoekbgfaomaa
open Go.RowKit
set_option maxRecDepth 20000
set_option maxHeartbeats 4000000
attribute [local irreducible] jE oD AW
theorem dBA (X : List Nat) : (kI X).length ≤ X.length := by
 have key : ∀ (l : List Int) (out : List (Int × Int)),(l.foldl nR out).length ≤ out.length + l.length := by
  intro l
  induction l with
  | nil => intro out; simp
  | cons x l ih =>
   intro out
   have h1 : (nR out x).length ≤ out.length + 1 := by
    unfold nR
    split
    ·simp <;> omega
    ·simp
   have := ih (nR out x)
   simp only [List.foldl_cons,Zl]
   omega
 have := key (X.map fun n : Nat => (n : Int)) []
 simpa [kI] using this
theorem gPA (s f : Int) (lv : List (List Int)) (pd : List (Int × Int)) (le : Int) (fo : List (Int × Int)) (se : Int) (dn : Bool) (hl : pd.length ≤ 1000000) :
  ACallsM Try.prog 83 139 [i64 s,i64 f,xD lv,uC pd,i64 le,uC fo,i64 se,bv dn] [i64 s,i64 f,xD lv,uC pd,i64 le,uC fo,i64 se,bv dn] [] (.agg [i64 13,i64 0,i64 0,i64 le,i64 0,i64 0,gG (nI ⟨⟨s,f,lv⟩,pd,le,fo,se,dn⟩),bytes []]) := m83 s f lv pd le fo se dn hl
theorem aJ (S F : Int) (lv : List (List Int)) (pd : List (Int × Int)) (k : Nat) (fo : List (Int × Int)) (se : Int) (dif : List Nat) : nL ⟨⟨S,F,lv⟩,pd,((k + 1 : Nat) : Int),fo,se,false⟩ dif = ⟨⟨S,F,lv⟩,kI (bG (lv.getD k []).length dif),(k : Int),[],se + ((cC pd).length : Nat),false⟩ := by
 unfold nL
 dsimp only
 rw [Int.toNat_natCast,Nat.add_sub_cancel,show ((k + 1 : Nat) : Int) - 1 = (k : Int) by omega]
theorem pFA {s f : Int} {lv : List (List Int)} {pd : List (Int × Int)} {le : Int} {fo : List (Int × Int)} {se : Int} {dn : Bool} (h : cK ⟨⟨s,f,lv⟩,pd,le,fo,se,dn⟩ = 0) :
  ∃ S F k : Nat,s = S ∧ f = F ∧ le = k ∧ 1 ≤ S ∧ S ≤ 4096 ∧ 1 ≤ F ∧ F ≤ 4096 ∧ k < lv.length ∧ lv.length ≤ 13 ∧ (∀ r ∈ lv,r.length ≤ 4096) ∧ 0 ≤ se ∧ se ≤ 8192 ∧ rC ⟨s,f,lv⟩ = 0 ∧ pd.length ≤ 4096 ∧
   (dn = false → fo = [] ∧ pd ≠ [] ∧ kJ pd ((lv.getD k []).length : Nat) = 0) := by
 obtain ⟨h1,h2,h3⟩ := qR h
 have hsm := zG h1
 obtain ⟨S,F,hS,hF,q1,q2,q3,q4,q5,q6⟩ := nF h1
 unfold pH at h2
 dsimp only at hsm hS hF h2 h1
 have hk : (le.toNat : Int) = le := by omega
 unfold eG oR at h3
 dsimp only at h3
 refine ⟨S,F,le.toNat,hS,hF,hk.symm,q1,q2,q3,q4,by omega,hsm.1,hsm.2.2,by omega,by omega,h1,?_,fun hd => ?_⟩
 ·cases dn with
  | true => rw [if_pos rfl] at h3; omega
  | false => rw [if_neg (by simp)] at h3; have := dL h3.2.2; omega
 ·subst hd
  rw [if_neg (by simp)] at h3
  exact ⟨List.length_eq_zero_iff.1 h3.2.1,fun e => h3.1 (by rw [e]; rfl),h3.2.2⟩
end Go.Proofs.Ytldcoekbgfaomaa
end
section
namespace Go.Proofs.Ytldcoekbgfaomaa
open Go.RowKit
set_option maxRecDepth 20000
set_option maxHeartbeats 4000000
attribute [local irreducible] jE oD AW
theorem vX {row body : List Int} {X : List Nat} (hX : X.Pairwise (· < ·)) : (xH row body X X.length).Pairwise (· < ·) := by
 unfold xH
 rw [List.pairwise_map]
 have h : (List.range X.length).Pairwise fun i j => X.getD i 0 < X.getD j 0 := by
  rw [List.pairwise_iff_getElem]
  intro i j hi hj hij
  simp only [List.length_range] at hi hj
  simp only [List.getElem_range]
  rw [List.getD_eq_getElem?_getD,List.getD_eq_getElem?_getD,List.getElem?_eq_getElem hi,List.getElem?_eq_getElem hj]
  exact (List.pairwise_iff_getElem.1 hX) i j hi hj hij
 exact h.sublist List.filter_sublist
theorem cT {X : List Nat} (h : X ≠ []) : kI X ≠ [] := by
 obtain ⟨Y,x,rfl⟩ : ∃ Y x,X = Y ++ [x] := ⟨X.dropLast,X.getLast h,(List.dropLast_concat_getLast h).symm⟩
 rw [gF]
 unfold nR
 split <;> simp
theorem wX {t : Tr} (hc : rC t = 0) {k : Nat} (hk : k + 1 < t.lv.length) {X : List Nat} (hX : X ≠ []) (hx : ∀ x ∈ X,x < (t.lv.getD (k + 1) []).length) : bG (t.lv.getD k []).length X ≠ [] := by
 obtain ⟨_,_,_,_,_,_,_,_,q5,q6⟩ := nF hc
 have hh : aZ t.lv := by rw [← q6]; exact rQ _ _ (Nat.le_refl _)
 have h1 := hh k hk
 cases X with
 | nil => exact absurd rfl hX
 | cons x X =>
  have h2 := hx x (by simp)
  have h3 : 2 * x < (t.lv.getD k []).length := by omega
  simp only [bG,List.flatMap_cons,nU]
  intro h
  rw [List.append_eq_nil_iff] at h
  have h4 := h.1
  rw [List.filter_cons,if_pos (decide_eq_true h3)] at h4
  cases h4
theorem vN (S F : Nat) (lv : List (List Int)) (pd : List (Int × Int)) (k : Nat) (fo : List (Int × Int)) (se : Int) (dif : List Nat) (h : (k : Int) = 0) : zO ⟨⟨(S : Int),(F : Int),lv⟩,pd,(k : Int),fo,se,false⟩ dif = ⟨⟨(S : Int),(F : Int),lv⟩,[],0,oG (jJ S F dif),se + ((cC pd).length : Nat),true⟩ := by
 unfold zO
 dsimp only
 rw [if_pos h]
 rfl
theorem wN (S F : Nat) (lv : List (List Int)) (pd : List (Int × Int)) (k : Nat) (fo : List (Int × Int)) (se : Int) (dif : List Nat) (h : ¬ (k : Int) = 0) : zO ⟨⟨(S : Int),(F : Int),lv⟩,pd,(k : Int),fo,se,false⟩ dif = ⟨⟨(S : Int),(F : Int),lv⟩,[],0,[],se + ((cC pd).length : Nat),true⟩ := by
 unfold zO
 dsimp only
 rw [if_neg h]
theorem c55 (w : Wa) (m : Ms) (hw : sX w) (hm : oFA m) (ht : ∀ r ∈ w.tree.lv,mJ r) : ACalls Try.prog 55 [waP w,msP m] (.tup [waP (zL w m).1,.p (zM (zL w m).2.1),.p (i64 (zL w m).2.2)]) := by
 obtain ⟨⟨s,f,lv⟩,pd,le,fo,se,dn⟩ := w
 obtain ⟨ki,fr,de,nu,va,ep,vs,bo⟩ := m
 obtain ⟨hpi,hfi⟩ := hw
 obtain ⟨hvi,hbi⟩ := hm
 dsimp only at hpi hfi hvi hbi ht
 refine oC jC Try.func55 (c := _) rfl (by kernel_rfl) ?_
 intro X hP hX hro hpl
 have hb : tb.Ok X.P := hP ▸ jC
 change AW X _ _ ⟨[],[.agg [i64 s,i64 f,xD lv,uC pd,i64 le,uC fo,i64 se,bv dn],.agg [i64 ki,i64 fr,i64 de,i64 nu,i64 va,i64 ep,gG vs,bytes bo],.any,.any,.any,.any,.any,.any,.any,.any,.any,.any,.any,.any,.any,.any,.any,.any,.any,.any,.any,.any,.any,.any,.any,.any,.any,.any,.any,.any,.any,.any,.any,.any,.any,.any,.any,.any,.any,.any,.any,.any,.any,.any,.any,.any,.any,.any,.any,.any,.any,.any,.any,.any,.any,.any,.any,.any,.any,.any,.any,.any,.any,.any,.any,.any,.any,.any,.any,.any,.any,.any,.any,.any,.any,.any,.any,.any,.any,.any,.any,.any,.any,.any,.any,.any,.any,.any,.any,.any,.any,.any,.any,.any,.any,.any,.any,.any,.any,.any],[],[]⟩
 refine fA ?_
 refine iA hX hb [0,1,2,3,4] rfl (σ' := ?s1) (fun K hK => ?h1) ?n1
 case h1 =>
  iterate 5 (refine kA rfl (by simp (disch := omega) only [gA,aA,qop,fop,St.ev,St.put,cd,zd,Value.oneCell',lA,TypeDesc.aggB,Z0,ZM,ZL,Zl,Zo,ZG,ZH,St.addBox,D.boxCells,D.live,Value.cells,tt,Z2,nA,rA,vB,Zh,ne_eq,not_false_eq_true] <;> exact rfl) ?_)
  refine bA ?_
  exact hK
 refine jA ?_
 refine fA ?_
 refine fA ?_
 refine iA hX hb [0,1,2] rfl (σ' := ?s2) (fun K hK => ?h2) ?n2
 case h2 =>
  (refine kA rfl (by simp (disch := omega) only [gA,aA,qop,fop,St.ev,St.put,cd,zd,Value.oneCell',lA,TypeDesc.aggB,Z0,Z1,oA,pA,qA,eA,D.pure?,ZC,ZD,sA,D.pv?,tt,Z2,nA,rA,vB,Zh,ne_eq,not_false_eq_true] <;> exact rfl) ?_)
  refine jD rfl (by simp only [aA,St.ev,nB,oB,sA,D.pv?,ZG,ZH,zd,cd,Value.oneCell',Zr] <;> exact rfl) (acK hP (c49 ⟨⟨s,f,lv⟩,pd,le,fo,se,dn⟩ ⟨hpi,hfi⟩)) (by simp only [St.put,Za,Zb] <;> exact rfl) ?_
  (refine kA rfl (by simp (disch := omega) only [gA,aA,qop,fop,St.ev,St.put,cd,zd,Value.oneCell',lA,TypeDesc.aggB,Z0,Z1,oA,pA,qA,eA,D.pure?,ZC,ZD,sA,D.pv?,tt,Z2,nA,rA,vB,Zh,ne_eq,not_false_eq_true] <;> exact rfl) ?_)
  refine bA ?_
  exact hK
 refine jA ?_
 refine fA ?_
 refine iA hX hb [0,1] rfl (σ' := ?s3) (fun K hK => ?h3) ?n3
 case h3 =>
  iterate 2 (refine kA rfl (by simp (disch := omega) only [gA,aA,qop,fop,St.ev,St.put,cd,zd,Value.oneCell',lA,TypeDesc.aggB,Z0,yA,iop,t27,oT,Z2,nA,rA,vB,Zh,ne_eq,not_false_eq_true] <;> exact rfl) ?_)
  refine bA ?_
  exact hK
 refine jA ?_
 refine mB _ rfl (fun hc0 => ?_) (fun hc0 => ?_)
 ·try simp only [Zp,Zi,ZK,ZJ,ne_eq,Zn,Zm,ZB,ZA,ZI,not_or,not_and,Zu] at hc0
  refine fA ?_
  refine iA hX hb [0,1,2,3,4] rfl (σ' := ?s4) (fun K hK => ?h4) ?n4
  case h4 =>
   iterate 5 (refine kA rfl (by simp (disch := omega) only [gA,aA,qop,fop,St.ev,St.put,cd,zd,Value.oneCell',lA,TypeDesc.aggB,Z0,eE,aD,lC,eC,D.cell1,eB,fB,gB,iB,jB,List.all_cons,List.all_nil,zC,TI.place,TI.zeros,TI.kindOk,D.cells?,D.pure?,zp,Value.cells,ZQ,ZP,Z1,iC,D.boxCells,D.live,ZM,ZL,ZN,ZG,ZH,St.setVec,ZC,tt,Z2,nA,rA,vB,Zh,ne_eq,not_false_eq_true] <;> exact rfl) ?_)
   refine bA ?_
   exact hK
  refine jA ?_
  refine bC ?_
  refine nC ?_
  exact tC rfl (cF (by simp only [qE,oA,pA,lA,TypeDesc.aggB,eA,D.pure?,D.pv?,nB,oB,Zd,Zc,Zw,Zk,Zv,Zj,Zx,Zl,Zo,Zr,reduceIte,Nat.reduceAdd,Nat.reduceLeDiff,Zg,Zf,tt] <;> exact rfl) rfl rfl (by first | rfl | (first | (rw [qN hc0] <;> rfl) | (rw [eL hc0 hc1] <;> rfl) | (rw [rN (m := ⟨ki,fr,de,nu,va,ep,vs,bo⟩) hc0 hc1x hc2] <;> rfl) | (rw [fL (m := ⟨ki,fr,de,nu,va,ep,vs,bo⟩) hc0 hc1x hc2 hc3] <;> rfl) | (rw [sN (m := ⟨ki,fr,de,nu,va,ep,vs,bo⟩) hc0 hc1x hc2 hc3x hc4x] <;> rfl) | (rw [cG (m := ⟨ki,fr,de,nu,va,ep,vs,bo⟩) hc0 hc1x hc2 hc3x hc4y (.inl hc5),vN _ _ _ _ _ _ _ _ hc5] <;> rfl) | (rw [cG (m := ⟨ki,fr,de,nu,va,ep,vs,bo⟩) hc0 hc1x hc2 hc3x hc4y (.inr hdn),wN _ _ _ _ _ _ _ _ hc5] <;> rfl) | (rw [lJ (m := ⟨ki,fr,de,nu,va,ep,vs,bo⟩) hc0 hc1x hc2 hc3x hc4y hc5x,aJ,wF] <;> rfl))))
 ·try simp only [Zp,Zi,ZK,ZJ,ne_eq,Zn,Zm,ZB,ZA,ZI,not_or,not_and,Zu] at hc0
  obtain ⟨S,F,k,hS,hF,hk,q1,q2,q3,q4,hkl,hl13,hrs,hs0,hs1,hch,hpl4,hform⟩ := pFA hc0
  subst hS
  subst hF
  subst hk
  have hrl := hrs _ (tE lv [] k hkl)
  refine tB ?_
  refine jA ?_
  refine fA ?_
  refine iA hX hb [0,1,2,3,4] rfl (σ' := ?s5) (fun K hK => ?h5) ?n5
  case h5 =>
   iterate 2 (refine kA rfl (by simp (disch := omega) only [gA,aA,qop,fop,St.ev,St.put,cd,zd,Value.oneCell',lA,TypeDesc.aggB,Z0,cA,mA,Z1,oA,pA,qA,eA,D.pure?,ZC,ZD,sA,D.pv?,iC,D.boxCells,D.live,D.cells?,ZM,ZL,ZN,ZG,ZH,St.setVec,tt,Z2,nA,rA,vB,Zh,ne_eq,not_false_eq_true] <;> exact rfl) ?_)
   refine jD rfl (by simp only [aA,St.ev,nB,oB,sA,D.pv?,ZG,ZH,zd,cd,Value.oneCell',Zr] <;> exact rfl) (acK hP (c82 ⟨(S : Int),(F : Int),lv⟩ ⟨by dsimp only; omega,hrs⟩)) (by simp only [St.put,Za,Zb] <;> exact rfl) ?_
   iterate 2 (refine kA rfl (by simp (disch := omega) only [gA,aA,qop,fop,St.ev,St.put,cd,zd,Value.oneCell',lA,TypeDesc.aggB,Z0,cA,mA,Z1,oA,pA,qA,eA,D.pure?,ZC,ZD,sA,D.pv?,iC,D.boxCells,D.live,D.cells?,ZM,ZL,ZN,ZG,ZH,St.setVec,tt,Z2,nA,rA,vB,Zh,ne_eq,not_false_eq_true] <;> exact rfl) ?_)
   refine bA ?_
   exact hK
  refine jA ?_
  refine fA ?_
  refine iA hX hb [0,1,2,3] rfl (σ' := ?s6) (fun K hK => ?h6) ?n6
  case h6 =>
   iterate 4 (refine kA rfl (by simp (disch := omega) only [gA,aA,qop,fop,St.ev,St.put,cd,zd,Value.oneCell',lA,TypeDesc.aggB,Z0,Z1,oA,pA,qA,eA,D.pure?,ZC,ZD,eE,aD,lC,eC,D.cell1,eB,fB,gB,iB,jB,List.all_cons,List.all_nil,zC,TI.place,TI.zeros,TI.kindOk,D.cells?,zp,Value.cells,ZQ,ZP,ZM,ZL,ZG,ZH,St.addBox,D.boxCells,D.live,tt,Z2,nA,rA,vB,Zh,ne_eq,not_false_eq_true] <;> exact rfl) ?_)
   refine bA ?_
   exact hK
  refine jA ?_
  refine fA ?_
  refine iA hX hb [0,1,2,3] rfl (σ' := ?s7) (fun K hK => ?h7) ?n7
  case h7 =>
   (refine kA rfl (by simp (disch := omega) only [gA,aA,qop,fop,St.ev,St.put,cd,zd,Value.oneCell',lA,TypeDesc.aggB,Z0,sA,D.pv?,ZM,ZL,Z1,ZG,ZH,St.addBox,Value.cells,iC,D.boxCells,D.live,D.cells?,D.pure?,ZN,St.setVec,ZC,tt,Z2,nA,rA,vB,Zh,ne_eq,not_false_eq_true] <;> exact rfl) ?_)
   refine lAA rfl rfl (by simp only [St.ev,nB,oB,zd,cd,Value.oneCell',Zr] <;> exact rfl) rfl (by simp only [St.ev,nB,oB,zd,cd,Value.oneCell',Zr] <;> exact rfl) rfl (by simp only [eA,D.pure?] <;> exact rfl) (by simp only [sA,nD,D.pvC?,D.pvN?,D.pvL?,eA,D.pv?,D.pure?,St.ev,nB,oB,zd,cd,Value.oneCell',Zr,ZG,ZH,Zd,Zc,Zg] <;> exact rfl) (acM hP (gPA (S : Int) (F : Int) lv pd (k : Int) fo se dn (by omega))) (by simp only [St.put,ZG,ZH,Za,Zb] <;> exact rfl) ?_
   iterate 2 (refine kA rfl (by simp (disch := omega) only [gA,aA,qop,fop,St.ev,St.put,cd,zd,Value.oneCell',lA,TypeDesc.aggB,Z0,sA,D.pv?,ZM,ZL,Z1,ZG,ZH,St.addBox,Value.cells,iC,D.boxCells,D.live,D.cells?,D.pure?,ZN,St.setVec,ZC,tt,Z2,nA,rA,vB,Zh,ne_eq,not_false_eq_true] <;> exact rfl) ?_)
   refine bA ?_
   exact hK
  refine jA ?_
  refine fA ?_
  refine uB ?_
  refine fA ?_
  refine iA hX hb [0,1,2,3,4,5] rfl (σ' := ?s8) (fun K hK => ?h8) ?n8
  case h8 =>
   iterate 6 (refine kA rfl (by simp (disch := omega) only [gA,aA,qop,fop,St.ev,St.put,cd,zd,Value.oneCell',lA,TypeDesc.aggB,Z0,cA,mA,Z1,oA,pA,qA,eA,D.pure?,ZC,ZD,tt,Z2,nA,rA,vB,Zh,ne_eq,not_false_eq_true] <;> exact rfl) ?_)
   refine bA ?_
   exact hK
  refine jA ?_
  refine mB _ rfl (fun hc1 => ?_) (fun hc1 => ?_)
  ·try simp only [Zp,Zi,ZK,ZJ,ne_eq,Zn,Zm,ZB,ZA,ZI,not_or,not_and,Zu] at hc1
   refine fA ?_
   refine iA hX hb [0,1,2,3] rfl (σ' := ?s9) (fun K hK => ?h9) ?n9
   case h9 =>
    iterate 4 (refine kA rfl (by simp (disch := omega) only [gA,aA,qop,fop,St.ev,St.put,cd,zd,Value.oneCell',lA,TypeDesc.aggB,Z0,eE,aD,lC,eC,D.cell1,eB,fB,gB,iB,jB,List.all_cons,List.all_nil,zC,TI.place,TI.zeros,TI.kindOk,D.cells?,D.pure?,zp,Value.cells,ZQ,ZP,Z1,iC,D.boxCells,D.live,ZM,ZL,ZN,ZG,ZH,St.setVec,ZC,tt,Z2,nA,rA,vB,Zh,ne_eq,not_false_eq_true] <;> exact rfl) ?_)
    refine bA ?_
    exact hK
   refine jA ?_
   refine bC ?_
   refine oE ?_
   refine nC ?_
   exact tC rfl (cF (by simp only [qE,oA,pA,lA,TypeDesc.aggB,eA,D.pure?,D.pv?,nB,oB,Zd,Zc,Zw,Zk,Zv,Zj,Zx,Zl,Zo,Zr,reduceIte,Nat.reduceAdd,Nat.reduceLeDiff,Zg,Zf,tt] <;> exact rfl) rfl rfl (by first | rfl | (first | (rw [qN hc0] <;> rfl) | (rw [eL hc0 hc1] <;> rfl) | (rw [rN (m := ⟨ki,fr,de,nu,va,ep,vs,bo⟩) hc0 hc1x hc2] <;> rfl) | (rw [fL (m := ⟨ki,fr,de,nu,va,ep,vs,bo⟩) hc0 hc1x hc2 hc3] <;> rfl) | (rw [sN (m := ⟨ki,fr,de,nu,va,ep,vs,bo⟩) hc0 hc1x hc2 hc3x hc4x] <;> rfl) | (rw [cG (m := ⟨ki,fr,de,nu,va,ep,vs,bo⟩) hc0 hc1x hc2 hc3x hc4y (.inl hc5),vN _ _ _ _ _ _ _ _ hc5] <;> rfl) | (rw [cG (m := ⟨ki,fr,de,nu,va,ep,vs,bo⟩) hc0 hc1x hc2 hc3x hc4y (.inr hdn),wN _ _ _ _ _ _ _ _ hc5] <;> rfl) | (rw [lJ (m := ⟨ki,fr,de,nu,va,ep,vs,bo⟩) hc0 hc1x hc2 hc3x hc4y hc5x,aJ,wF] <;> rfl))))
  ·try simp only [Zp,Zi,ZK,ZJ,ne_eq,Zn,Zm,ZB,ZA,ZI,not_or,not_and,Zu] at hc1
   obtain rfl : dn = false := by simpa using hc1
   obtain ⟨rfl,hpne,hp⟩ := hform rfl
   have hpf := dL hp
   have hpn := oM hp
   have hplt := wV hp
   have hc1x : ¬ (false = true) := by simp
   refine fA ?_
   refine iA hX hb [0,1,2,3] rfl (σ' := ?s10) (fun K hK => ?h10) ?n10
   case h10 =>
    iterate 4 (refine kA rfl (by simp (disch := omega) only [gA,aA,qop,fop,St.ev,St.put,cd,zd,Value.oneCell',lA,TypeDesc.aggB,Z0,cA,mA,Z1,oA,pA,qA,eA,D.pure?,ZC,ZD,yA,iop,tt,Z2,nA,rA,vB,Zh,ne_eq,not_false_eq_true] <;> exact rfl) ?_)
    refine bA ?_
    exact hK
   refine jA ?_
   refine mB _ rfl (fun hc2 => ?_) (fun hc2 => ?_)
   ·try simp only [Zp,Zi,ZK,ZJ,ne_eq,Zn,Zm,ZB,ZA,ZI,not_or,not_and,Zu] at hc2
    refine fA ?_
    refine iA hX hb [0,1,2,3] rfl (σ' := ?s11) (fun K hK => ?h11) ?n11
    case h11 =>
     iterate 4 (refine kA rfl (by simp (disch := omega) only [gA,aA,qop,fop,St.ev,St.put,cd,zd,Value.oneCell',lA,TypeDesc.aggB,Z0,eE,aD,lC,eC,D.cell1,eB,fB,gB,iB,jB,List.all_cons,List.all_nil,zC,TI.place,TI.zeros,TI.kindOk,D.cells?,D.pure?,zp,Value.cells,ZQ,ZP,Z1,iC,D.boxCells,D.live,ZM,ZL,ZN,ZG,ZH,St.setVec,ZC,tt,Z2,nA,rA,vB,Zh,ne_eq,not_false_eq_true] <;> exact rfl) ?_)
     refine bA ?_
     exact hK
    refine jA ?_
    refine bC ?_
    refine oE ?_
    refine nC ?_
    exact tC rfl (cF (by simp only [qE,oA,pA,lA,TypeDesc.aggB,eA,D.pure?,D.pv?,nB,oB,Zd,Zc,Zw,Zk,Zv,Zj,Zx,Zl,Zo,Zr,reduceIte,Nat.reduceAdd,Nat.reduceLeDiff,Zg,Zf,tt] <;> exact rfl) rfl rfl (by first | rfl | (first | (rw [qN hc0] <;> rfl) | (rw [eL hc0 hc1] <;> rfl) | (rw [rN (m := ⟨ki,fr,de,nu,va,ep,vs,bo⟩) hc0 hc1x hc2] <;> rfl) | (rw [fL (m := ⟨ki,fr,de,nu,va,ep,vs,bo⟩) hc0 hc1x hc2 hc3] <;> rfl) | (rw [sN (m := ⟨ki,fr,de,nu,va,ep,vs,bo⟩) hc0 hc1x hc2 hc3x hc4x] <;> rfl) | (rw [cG (m := ⟨ki,fr,de,nu,va,ep,vs,bo⟩) hc0 hc1x hc2 hc3x hc4y (.inl hc5),vN _ _ _ _ _ _ _ _ hc5] <;> rfl) | (rw [cG (m := ⟨ki,fr,de,nu,va,ep,vs,bo⟩) hc0 hc1x hc2 hc3x hc4y (.inr hdn),wN _ _ _ _ _ _ _ _ hc5] <;> rfl) | (rw [lJ (m := ⟨ki,fr,de,nu,va,ep,vs,bo⟩) hc0 hc1x hc2 hc3x hc4y hc5x,aJ,wF] <;> rfl))))
   ·try simp only [Zp,Zi,ZK,ZJ,ne_eq,Zn,Zm,ZB,ZA,ZI,not_or,not_and,Zu] at hc2
    refine fA ?_
    refine nE hX hb [0,1,2,3,4,5,6,7,8,9,10,11,12,13] rfl (ts := [39,40,41,42,43,44,45,46,47,48,49,50,51]) (t := 38) (d := .p (bv (nu ≠ (k : Int) ∨ vs ≠ nI ⟨⟨(S : Int),(F : Int),lv⟩,pd,(k : Int),[],se,false⟩))) (σ' := ?s12) ?j12 ?h12 ?n12
    case j12 => simp only [St.join,List.foldl,Za,Zb]; exact rfl
    case h12 =>
     iterate 6 (all_goals refine kA rfl (by simp (disch := omega) only [gA,aA,qop,fop,St.ev,St.put,cd,zd,Value.oneCell',lA,TypeDesc.aggB,Z0,cA,mA,Z1,oA,pA,qA,eA,D.pure?,ZC,ZD,yA,iop,sA,D.pv?,Bool.not_true,Bool.not_false,tt,Z2,nA,rA,vB,Zh,ne_eq,not_false_eq_true] <;> exact rfl) ?_)
     iterate 4 (all_goals first | (refine fC rfl rfl rfl (by simp (disch := omega) only [gA,aA,qop,fop,St.ev,St.put,cd,zd,Value.oneCell',lA,TypeDesc.aggB,Z0,cA,mA,Z1,oA,pA,qA,eA,D.pure?,ZC,ZD,yA,iop,sA,D.pv?,Bool.not_true,Bool.not_false,tt,Z2,nA,rA,vB,Zh,ne_eq,not_false_eq_true] <;> exact rfl) ?_) | (first | (refine zB rfl rfl rfl (by simp only [St.put,Za,Zb] <;> exact rfl) ?_) | (refine aC rfl rfl rfl (by simp only [St.put,Za,Zb] <;> exact rfl) ?_)) | (refine yB rfl rfl rfl (by simp only [Za,Zb] <;> exact rfl) (by simp only [Za,Zb] <;> exact rfl) (fun hg => ?_) (fun hg => ?_) <;> (try simp only [Zp,Zi,ZJ,ZK,ne_eq,Zn,Zm,Bool.not_eq_true,Zu] at hg) <;> first | (refine fC rfl rfl rfl (by simp (disch := omega) only [gA,aA,qop,fop,St.ev,St.put,cd,zd,Value.oneCell',lA,TypeDesc.aggB,Z0,cA,mA,Z1,oA,pA,qA,eA,D.pure?,ZC,ZD,yA,iop,sA,D.pv?,Bool.not_true,Bool.not_false,tt,Z2,nA,rA,vB,Zh,ne_eq,not_false_eq_true] <;> exact rfl) ?_) | (first | (refine zB rfl rfl rfl (by simp only [St.put,Za,Zb] <;> exact rfl) ?_) | (refine aC rfl rfl rfl (by simp only [St.put,Za,Zb] <;> exact rfl) ?_))))
     all_goals first | (refine dK rfl rfl rfl (by simp only [aA,St.ev,nB,oB,sA,D.pv?,ZG,ZH,zd,cd,Value.oneCell',Zr] <;> exact rfl) (acK hP (c81 vs (nI ⟨⟨(S : Int),(F : Int),lv⟩,pd,(k : Int),[],se,false⟩))) (by simp only [St.put,Za,Zb] <;> exact rfl) ?_) | (first | (refine zB rfl rfl rfl (by simp only [St.put,Za,Zb] <;> exact rfl) ?_) | (refine aC rfl rfl rfl (by simp only [St.put,Za,Zb] <;> exact rfl) ?_)) | (refine yB rfl rfl rfl (by simp only [Za,Zb] <;> exact rfl) (by simp only [Za,Zb] <;> exact rfl) (fun hg => ?_) (fun hg => ?_) <;> (try simp only [Zp,Zi,ZJ,ZK,ne_eq,Zn,Zm,Bool.not_eq_true,Zu] at hg) <;> first | (refine dK rfl rfl rfl (by simp only [aA,St.ev,nB,oB,sA,D.pv?,ZG,ZH,zd,cd,Value.oneCell',Zr] <;> exact rfl) (acK hP (c81 vs (nI ⟨⟨(S : Int),(F : Int),lv⟩,pd,(k : Int),[],se,false⟩))) (by simp only [St.put,Za,Zb] <;> exact rfl) ?_) | (first | (refine zB rfl rfl rfl (by simp only [St.put,Za,Zb] <;> exact rfl) ?_) | (refine aC rfl rfl rfl (by simp only [St.put,Za,Zb] <;> exact rfl) ?_)))
     (all_goals first | (refine fC rfl rfl rfl (by simp (disch := omega) only [gA,aA,qop,fop,St.ev,St.put,cd,zd,Value.oneCell',lA,TypeDesc.aggB,Z0,cA,mA,Z1,oA,pA,qA,eA,D.pure?,ZC,ZD,yA,iop,sA,D.pv?,Bool.not_true,Bool.not_false,tt,Z2,nA,rA,vB,Zh,ne_eq,not_false_eq_true] <;> exact rfl) ?_) | (first | (refine zB rfl rfl rfl (by simp only [St.put,Za,Zb] <;> exact rfl) ?_) | (refine aC rfl rfl rfl (by simp only [St.put,Za,Zb] <;> exact rfl) ?_)) | (refine yB rfl rfl rfl (by simp only [Za,Zb] <;> exact rfl) (by simp only [Za,Zb] <;> exact rfl) (fun hg => ?_) (fun hg => ?_) <;> (try simp only [Zp,Zi,ZJ,ZK,ne_eq,Zn,Zm,Bool.not_eq_true,Zu] at hg) <;> first | (refine fC rfl rfl rfl (by simp (disch := omega) only [gA,aA,qop,fop,St.ev,St.put,cd,zd,Value.oneCell',lA,TypeDesc.aggB,Z0,cA,mA,Z1,oA,pA,qA,eA,D.pure?,ZC,ZD,yA,iop,sA,D.pv?,Bool.not_true,Bool.not_false,tt,Z2,nA,rA,vB,Zh,ne_eq,not_false_eq_true] <;> exact rfl) ?_) | (first | (refine zB rfl rfl rfl (by simp only [St.put,Za,Zb] <;> exact rfl) ?_) | (refine aC rfl rfl rfl (by simp only [St.put,Za,Zb] <;> exact rfl) ?_))))
     iterate 2 (all_goals refine kA rfl (by simp (disch := omega) only [gA,aA,qop,fop,St.ev,St.put,cd,zd,Value.oneCell',lA,TypeDesc.aggB,Z0,cA,mA,Z1,oA,pA,qA,eA,D.pure?,ZC,ZD,yA,iop,sA,D.pv?,Bool.not_true,Bool.not_false,tt,Z2,nA,rA,vB,Zh,ne_eq,not_false_eq_true] <;> exact rfl) ?_)
     all_goals refine bA ?_
     all_goals refine ⟨rfl,?_,pD _,qD _,rfl,rfl⟩
     all_goals repeat' (first | exact tA | refine qB ?_ | refine uA rfl ?_ | refine uA ?_ ?_)
     all_goals refine jn ?_
     all_goals ((try simp only [Zp,Zi,ZJ,ZK,Bool.not_eq_true,Zm,Zn,ne_eq,Zf,true_iff,false_iff,iff_true,iff_false] at *) <;> first | omega | (simp_all; done) | (simp_all; omega))
    refine jA ?_
    refine mB _ rfl (fun hc3 => ?_) (fun hc3 => ?_)
    ·try simp only [Zp,Zi,ZK,ZJ,ne_eq,Zn,Zm,ZB,ZA,ZI,not_or,not_and,Zu] at hc3
     refine fA ?_
     refine iA hX hb [0,1,2,3] rfl (σ' := ?s13) (fun K hK => ?h13) ?n13
     case h13 =>
      iterate 4 (refine kA rfl (by simp (disch := omega) only [gA,aA,qop,fop,St.ev,St.put,cd,zd,Value.oneCell',lA,TypeDesc.aggB,Z0,eE,aD,lC,eC,D.cell1,eB,fB,gB,iB,jB,List.all_cons,List.all_nil,zC,TI.place,TI.zeros,TI.kindOk,D.cells?,D.pure?,zp,Value.cells,ZQ,ZP,Z1,iC,D.boxCells,D.live,ZM,ZL,ZN,ZG,ZH,St.setVec,ZC,tt,Z2,nA,rA,vB,Zh,ne_eq,not_false_eq_true] <;> exact rfl) ?_)
      refine bA ?_
      exact hK
     refine jA ?_
     refine bC ?_
     refine oE ?_
     refine nC ?_
     exact tC rfl (cF (by simp only [qE,oA,pA,lA,TypeDesc.aggB,eA,D.pure?,D.pv?,nB,oB,Zd,Zc,Zw,Zk,Zv,Zj,Zx,Zl,Zo,Zr,reduceIte,Nat.reduceAdd,Nat.reduceLeDiff,Zg,Zf,tt] <;> exact rfl) rfl rfl (by first | rfl | (first | (rw [qN hc0] <;> rfl) | (rw [eL hc0 hc1] <;> rfl) | (rw [rN (m := ⟨ki,fr,de,nu,va,ep,vs,bo⟩) hc0 hc1x hc2] <;> rfl) | (rw [fL (m := ⟨ki,fr,de,nu,va,ep,vs,bo⟩) hc0 hc1x hc2 hc3] <;> rfl) | (rw [sN (m := ⟨ki,fr,de,nu,va,ep,vs,bo⟩) hc0 hc1x hc2 hc3x hc4x] <;> rfl) | (rw [cG (m := ⟨ki,fr,de,nu,va,ep,vs,bo⟩) hc0 hc1x hc2 hc3x hc4y (.inl hc5),vN _ _ _ _ _ _ _ _ hc5] <;> rfl) | (rw [cG (m := ⟨ki,fr,de,nu,va,ep,vs,bo⟩) hc0 hc1x hc2 hc3x hc4y (.inr hdn),wN _ _ _ _ _ _ _ _ hc5] <;> rfl) | (rw [lJ (m := ⟨ki,fr,de,nu,va,ep,vs,bo⟩) hc0 hc1x hc2 hc3x hc4y hc5x,aJ,wF] <;> rfl))))
    ·try simp only [Zp,Zi,ZK,ZJ,ne_eq,Zn,Zm,ZB,ZA,ZI,not_or,not_and,Zu] at hc3
     have hc3x : ¬ (nu ≠ (k : Int) ∨ vs ≠ nI ⟨⟨(S : Int),(F : Int),lv⟩,pd,(k : Int),[],se,false⟩) := by rintro (h | h); exact h hc3.1; exact h hc3.2
     refine fA ?_
     refine bF hX hb (gD hP) [(0,true),(1,true),(2,true),(3,true),(4,true),(5,true),(6,true),(7,true),(8,false),(9,true),(10,true),(11,true)] (by kernel_rfl) (σ' := ?s14) (fun K hK => ?h14) ?n14
     case h14 =>
      iterate 8 (refine xE rfl (by simp (disch := omega) only [qop,fop,St.ev,St.put,cd,zd,Value.oneCell',lA,TypeDesc.aggB,Z0,cA,mA,Z1,oA,pA,qA,eA,D.pure?,ZC,ZD,mC,sA,D.pv?,yA,iop,tt,Z2,nA,rA,vB,Zh,ne_eq,not_false_eq_true] <;> exact rfl) (by simp only [St.put,Za,Zb] <;> exact rfl) ?_)
      refine pG rfl (by simp only [aA,St.ev,nB,oB,sA,D.pv?,ZG,ZH,zd,cd,Value.oneCell',Zr] <;> exact rfl) (acK hP (c93 pd _ hp)) (by simp only [St.put,Za,Zb] <;> exact rfl) ?_
      iterate 3 (refine xE rfl (by simp (disch := omega) only [qop,fop,St.ev,St.put,cd,zd,Value.oneCell',lA,TypeDesc.aggB,Z0,cA,mA,Z1,oA,pA,qA,eA,D.pure?,ZC,ZD,mC,sA,D.pv?,yA,iop,tt,Z2,nA,rA,vB,Zh,ne_eq,not_false_eq_true] <;> exact rfl) (by simp only [St.put,Za,Zb] <;> exact rfl) ?_)
      refine qC ?_
      exact hK
     refine jA ?_
     refine mB _ rfl (fun hc4 => ?_) (fun hc4 => ?_)
     ·try simp only [Zp,Zi,ZK,ZJ,ne_eq,Zn,Zm,ZB,ZA,ZI,not_or,not_and,Zu] at hc4
      have hc4x : bo.length ≠ 8 * (cC pd).length := by omega
      refine fA ?_
      refine iA hX hb [0,1,2,3] rfl (σ' := ?s15) (fun K hK => ?h15) ?n15
      case h15 =>
       iterate 4 (refine kA rfl (by simp (disch := omega) only [gA,aA,qop,fop,St.ev,St.put,cd,zd,Value.oneCell',lA,TypeDesc.aggB,Z0,eE,aD,lC,eC,D.cell1,eB,fB,gB,iB,jB,List.all_cons,List.all_nil,zC,TI.place,TI.zeros,TI.kindOk,D.cells?,D.pure?,zp,Value.cells,ZQ,ZP,Z1,iC,D.boxCells,D.live,ZM,ZL,ZN,ZG,ZH,St.setVec,ZC,tt,Z2,nA,rA,vB,Zh,ne_eq,not_false_eq_true] <;> exact rfl) ?_)
       refine bA ?_
       exact hK
      refine jA ?_
      refine bC ?_
      refine oE ?_
      refine nC ?_
      exact tC rfl (cF (by simp only [qE,oA,pA,lA,TypeDesc.aggB,eA,D.pure?,D.pv?,nB,oB,Zd,Zc,Zw,Zk,Zv,Zj,Zx,Zl,Zo,Zr,reduceIte,Nat.reduceAdd,Nat.reduceLeDiff,Zg,Zf,tt] <;> exact rfl) rfl rfl (by first | rfl | (first | (rw [qN hc0] <;> rfl) | (rw [eL hc0 hc1] <;> rfl) | (rw [rN (m := ⟨ki,fr,de,nu,va,ep,vs,bo⟩) hc0 hc1x hc2] <;> rfl) | (rw [fL (m := ⟨ki,fr,de,nu,va,ep,vs,bo⟩) hc0 hc1x hc2 hc3] <;> rfl) | (rw [sN (m := ⟨ki,fr,de,nu,va,ep,vs,bo⟩) hc0 hc1x hc2 hc3x hc4x] <;> rfl) | (rw [cG (m := ⟨ki,fr,de,nu,va,ep,vs,bo⟩) hc0 hc1x hc2 hc3x hc4y (.inl hc5),vN _ _ _ _ _ _ _ _ hc5] <;> rfl) | (rw [cG (m := ⟨ki,fr,de,nu,va,ep,vs,bo⟩) hc0 hc1x hc2 hc3x hc4y (.inr hdn),wN _ _ _ _ _ _ _ _ hc5] <;> rfl) | (rw [lJ (m := ⟨ki,fr,de,nu,va,ep,vs,bo⟩) hc0 hc1x hc2 hc3x hc4y hc5x,aJ,wF] <;> rfl))))
     ·try simp only [Zp,Zi,ZK,ZJ,ne_eq,Zn,Zm,ZB,ZA,ZI,not_or,not_and,Zu] at hc4
      have hc4y : bo.length = 8 * (cC pd).length := by omega
      have hdl := qX (lv.getD k []) bo (cC pd) (cC pd).length
      have hdm := rX (row := (lv.getD k [])) (body := bo) (X := cC pd) (Nat.le_refl _)
      refine tB ?_
      refine dE ?_
      refine jA ?_
      refine fA ?_
      refine iA hX hb [0,1,2,3,4] rfl (σ' := ?s16) (fun K hK => ?h16) ?n16
      case h16 =>
       iterate 3 (refine kA rfl (by simp (disch := omega) only [gA,aA,qop,fop,St.ev,St.put,cd,zd,Value.oneCell',lA,TypeDesc.aggB,Z0,cA,mA,Z1,oA,pA,qA,eA,D.pure?,ZC,ZD,sA,D.pv?,tt,Z2,nA,rA,vB,Zh,ne_eq,not_false_eq_true] <;> exact rfl) ?_)
       refine lAA rfl rfl (by simp only [St.ev,nB,oB,zd,cd,Value.oneCell',Zr] <;> exact rfl) rfl (by simp only [St.ev,nB,oB,zd,cd,Value.oneCell',Zr] <;> exact rfl) rfl (by simp only [eA,D.pure?] <;> exact rfl) (by simp only [sA,nD,D.pvC?,D.pvN?,D.pvL?,eA,D.pv?,D.pure?,St.ev,nB,oB,zd,cd,Value.oneCell',Zr,ZG,ZH,Zd,Zc,Zg] <;> exact rfl) (acM hP (m94 S F lv k pd [] se false bo hkl hrl hp hc4y ⟨hs0,by omega⟩)) (by simp only [St.put,ZG,ZH,Za,Zb] <;> exact rfl) ?_
       (refine kA rfl (by simp (disch := omega) only [gA,aA,qop,fop,St.ev,St.put,cd,zd,Value.oneCell',lA,TypeDesc.aggB,Z0,cA,mA,Z1,oA,pA,qA,eA,D.pure?,ZC,ZD,sA,D.pv?,tt,Z2,nA,rA,vB,Zh,ne_eq,not_false_eq_true] <;> exact rfl) ?_)
       refine bA ?_
       exact hK
      refine jA ?_
      refine fA ?_
      refine uB ?_
      refine fA ?_
      refine iA hX hb [0,1,2,3,4,5,6] rfl (σ' := ?s17) (fun K hK => ?h17) ?n17
      case h17 =>
       iterate 7 (refine kA rfl (by simp (disch := omega) only [gA,aA,qop,fop,St.ev,St.put,cd,zd,Value.oneCell',lA,TypeDesc.aggB,Z0,cA,mA,Z1,oA,pA,qA,eA,D.pure?,ZC,ZD,yA,iop,tt,Z2,nA,rA,vB,Zh,ne_eq,not_false_eq_true] <;> exact rfl) ?_)
       refine bA ?_
       exact hK
      refine jA ?_
      refine mB _ rfl (fun hc5 => ?_) (fun hc5 => ?_)
      ·try simp only [Zp,Zi,ZK,ZJ,ne_eq,Zn,Zm,ZB,ZA,ZI,not_or,not_and,Zu] at hc5
       have hdS : ∀ x ∈ (xH (lv.getD k []) bo (cC pd) (cC pd).length),x * F < S := fun x hx => by
        obtain rfl : k = 0 := by omega
        exact aO q3 (by have h1 := hplt x (hdm x hx); have h2 := (vI hch).1; dsimp only at h2; rw [Int.toNat_natCast,Int.toNat_natCast] at h2; omega)
       refine iA hX hb [0,1,2] rfl (σ' := ?s18) (fun K hK => ?h18) ?n18
       case h18 =>
        iterate 2 (refine kA rfl (by simp (disch := omega) only [gA,aA,qop,fop,St.ev,St.put,cd,zd,Value.oneCell',lA,TypeDesc.aggB,Z0,sA,D.pv?,tt,Z2,nA,rA,vB,Zh,ne_eq,not_false_eq_true] <;> exact rfl) ?_)
        refine lAA rfl rfl (by simp only [St.ev,nB,oB,zd,cd,Value.oneCell',Zr] <;> exact rfl) rfl (by simp only [St.ev,nB,oB,zd,cd,Value.oneCell',Zr] <;> exact rfl) rfl (by simp only [eA,D.pure?] <;> exact rfl) (by simp only [sA,nD,D.pvC?,D.pvN?,D.pvL?,eA,D.pv?,D.pure?,St.ev,nB,oB,zd,cd,Value.oneCell',Zr,ZG,ZH,Zd,Zc,Zg] <;> exact rfl) (acM hP (m95 S F lv k pd [] (se + ((cC pd).length : Int)) false (xH (lv.getD k []) bo (cC pd) (cC pd).length) ⟨q3,q4⟩ q2 (vX (iH hp).2.nodes.1) hdS)) (by simp only [St.put,ZG,ZH,Za,Zb] <;> exact rfl) ?_
        refine bA ?_
        exact hK
       refine dE ?_
       refine jA ?_
       refine fA ?_
       refine iA hX hb [0,1,2,3,4,5,6] rfl (σ' := ?s19) (fun K hK => ?h19) ?n19
       case h19 =>
        iterate 7 (refine kA rfl (by simp (disch := omega) only [gA,aA,qop,fop,St.ev,St.put,cd,zd,Value.oneCell',lA,TypeDesc.aggB,Z0,cA,mA,Z1,oA,pA,qA,eA,D.pure?,ZC,ZD,iC,D.boxCells,D.live,D.cells?,ZM,ZL,ZN,ZG,ZH,St.setVec,tt,Z2,nA,rA,vB,Zh,ne_eq,not_false_eq_true] <;> exact rfl) ?_)
        refine bA ?_
        exact hK
       refine jA ?_
       refine bC ?_
       exact tC rfl (cF (by simp only [qE,oA,pA,lA,TypeDesc.aggB,eA,D.pure?,D.pv?,nB,oB,Zd,Zc,Zw,Zk,Zv,Zj,Zx,Zl,Zo,Zr,reduceIte,Nat.reduceAdd,Nat.reduceLeDiff,Zg,Zf,tt] <;> exact rfl) rfl rfl (by first | rfl | (first | (rw [qN hc0] <;> rfl) | (rw [eL hc0 hc1] <;> rfl) | (rw [rN (m := ⟨ki,fr,de,nu,va,ep,vs,bo⟩) hc0 hc1x hc2] <;> rfl) | (rw [fL (m := ⟨ki,fr,de,nu,va,ep,vs,bo⟩) hc0 hc1x hc2 hc3] <;> rfl) | (rw [sN (m := ⟨ki,fr,de,nu,va,ep,vs,bo⟩) hc0 hc1x hc2 hc3x hc4x] <;> rfl) | (rw [cG (m := ⟨ki,fr,de,nu,va,ep,vs,bo⟩) hc0 hc1x hc2 hc3x hc4y (.inl hc5),vN _ _ _ _ _ _ _ _ hc5] <;> rfl) | (rw [cG (m := ⟨ki,fr,de,nu,va,ep,vs,bo⟩) hc0 hc1x hc2 hc3x hc4y (.inr hdn),wN _ _ _ _ _ _ _ _ hc5] <;> rfl) | (rw [lJ (m := ⟨ki,fr,de,nu,va,ep,vs,bo⟩) hc0 hc1x hc2 hc3x hc4y hc5x,aJ,wF] <;> rfl))))
      ·try simp only [Zp,Zi,ZK,ZJ,ne_eq,Zn,Zm,ZB,ZA,ZI,not_or,not_and,Zu] at hc5
       refine fA ?_
       refine iA hX hb [0,1,2,3] rfl (σ' := ?s20) (fun K hK => ?h20) ?n20
       case h20 =>
        iterate 4 (refine kA rfl (by simp (disch := omega) only [gA,aA,qop,fop,St.ev,St.put,cd,zd,Value.oneCell',lA,TypeDesc.aggB,Z0,mC,yA,iop,tt,Z2,nA,rA,vB,Zh,ne_eq,not_false_eq_true] <;> exact rfl) ?_)
        refine bA ?_
        exact hK
       refine jA ?_
       refine mB _ rfl (fun hc6 => ?_) (fun hc6 => ?_)
       ·try simp only [Zp,Zi,ZK,ZJ,ne_eq,Zn,Zm,ZB,ZA,ZI,not_or,not_and,Zu] at hc6
        have hdn : (xH (lv.getD k []) bo (cC pd) (cC pd).length) = [] := List.length_eq_zero_iff.1 (by omega)
        refine iA hX hb [0,1] rfl (σ' := ?s21) (fun K hK => ?h21) ?n21
        case h21 =>
         (refine kA rfl (by simp (disch := omega) only [gA,aA,qop,fop,St.ev,St.put,cd,zd,Value.oneCell',lA,TypeDesc.aggB,Z0,sA,D.pv?,vHA,vW,Z2,nA,rA,vB,Zh,ne_eq,not_false_eq_true] <;> exact rfl) ?_)
         refine lAA rfl rfl (by simp only [St.ev,nB,oB,zd,cd,Value.oneCell',Zr] <;> exact rfl) rfl (by simp only [St.ev,nB,oB,zd,cd,Value.oneCell',Zr] <;> exact rfl) rfl (by simp only [eA,D.pure?] <;> exact rfl) (by simp only [sA,nD,D.pvC?,D.pvN?,D.pvL?,eA,D.pv?,D.pure?,St.ev,nB,oB,zd,cd,Value.oneCell',Zr,ZG,ZH,Zd,Zc,Zg] <;> exact rfl) (acM hP (m96 _ _ _ _ _ _ _ _)) (by simp only [St.put,ZG,ZH,Za,Zb] <;> exact rfl) ?_
         refine bA ?_
         exact hK
        refine dE ?_
        refine jA ?_
        refine fA ?_
        refine iA hX hb [0,1,2,3,4,5,6] rfl (σ' := ?s22) (fun K hK => ?h22) ?n22
        case h22 =>
         iterate 7 (refine kA rfl (by simp (disch := omega) only [gA,aA,qop,fop,St.ev,St.put,cd,zd,Value.oneCell',lA,TypeDesc.aggB,Z0,cA,mA,Z1,oA,pA,qA,eA,D.pure?,ZC,ZD,iC,D.boxCells,D.live,D.cells?,ZM,ZL,ZN,ZG,ZH,St.setVec,tt,Z2,nA,rA,vB,Zh,ne_eq,not_false_eq_true] <;> exact rfl) ?_)
         refine bA ?_
         exact hK
        refine jA ?_
        refine bC ?_
        exact tC rfl (cF (by simp only [qE,oA,pA,lA,TypeDesc.aggB,eA,D.pure?,D.pv?,nB,oB,Zd,Zc,Zw,Zk,Zv,Zj,Zx,Zl,Zo,Zr,reduceIte,Nat.reduceAdd,Nat.reduceLeDiff,Zg,Zf,tt] <;> exact rfl) rfl rfl (by first | rfl | (first | (rw [qN hc0] <;> rfl) | (rw [eL hc0 hc1] <;> rfl) | (rw [rN (m := ⟨ki,fr,de,nu,va,ep,vs,bo⟩) hc0 hc1x hc2] <;> rfl) | (rw [fL (m := ⟨ki,fr,de,nu,va,ep,vs,bo⟩) hc0 hc1x hc2 hc3] <;> rfl) | (rw [sN (m := ⟨ki,fr,de,nu,va,ep,vs,bo⟩) hc0 hc1x hc2 hc3x hc4x] <;> rfl) | (rw [cG (m := ⟨ki,fr,de,nu,va,ep,vs,bo⟩) hc0 hc1x hc2 hc3x hc4y (.inl hc5),vN _ _ _ _ _ _ _ _ hc5] <;> rfl) | (rw [cG (m := ⟨ki,fr,de,nu,va,ep,vs,bo⟩) hc0 hc1x hc2 hc3x hc4y (.inr hdn),wN _ _ _ _ _ _ _ _ hc5] <;> rfl) | (rw [lJ (m := ⟨ki,fr,de,nu,va,ep,vs,bo⟩) hc0 hc1x hc2 hc3x hc4y hc5x,aJ,wF] <;> rfl))))
       ·try simp only [Zp,Zi,ZK,ZJ,ne_eq,Zn,Zm,ZB,ZA,ZI,not_or,not_and,Zu] at hc6
        obtain ⟨k,rfl⟩ : ∃ k0,k = k0 + 1 := ⟨k - 1,by omega⟩
        have hdn : (xH (lv.getD (k + 1) []) bo (cC pd) (cC pd).length) ≠ [] := fun h => hc6 (by rw [h]; rfl)
        have hc5x : ¬ (((k + 1 : Nat) : Int) = 0 ∨ (xH (lv.getD (k + 1) []) bo (cC pd) (cC pd).length) = []) := by rintro (h | h); omega; exact hdn h
        have hrl0 := hrs _ (tE lv [] k (by omega))
        have hbl := yS (lv.getD k []).length (xH (lv.getD (k + 1) []) bo (cC pd) (cC pd).length)
        have hne := cT (wX hch hkl hdn fun x hx => hplt x (hdm x hx))
        refine fA ?_
        refine iA hX hb [0,1,2] rfl (σ' := ?s23) (fun K hK => ?h23) ?n23
        case h23 =>
         iterate 2 (refine kA rfl (by simp (disch := omega) only [gA,aA,qop,fop,St.ev,St.put,cd,zd,Value.oneCell',lA,TypeDesc.aggB,Z0,sA,D.pv?,tt,Z2,nA,rA,vB,Zh,ne_eq,not_false_eq_true] <;> exact rfl) ?_)
         refine lAA rfl rfl (by simp only [St.ev,nB,oB,zd,cd,Value.oneCell',Zr] <;> exact rfl) rfl (by simp only [St.ev,nB,oB,zd,cd,Value.oneCell',Zr] <;> exact rfl) rfl (by simp only [eA,D.pure?] <;> exact rfl) (by simp only [sA,nD,D.pvC?,D.pvN?,D.pvL?,eA,D.pv?,D.pure?,St.ev,nB,oB,zd,cd,Value.oneCell',Zr,ZG,ZH,Zd,Zc,Zg] <;> exact rfl) (acM hP (m97 S F lv k pd [] (se + ((cC pd).length : Int)) false (xH (lv.getD (k + 1) []) bo (cC pd) (cC pd).length) (by omega) (by omega) (by omega) (fun x hx => by have := hplt x (hdm x hx); omega) hrl0)) (by simp only [St.put,ZG,ZH,Za,Zb] <;> exact rfl) ?_
         refine bA ?_
         exact hK
        refine jA ?_
        refine fA ?_
        refine zN hX hb (gD hP) [(0,true),(1,true),(2,true),(3,true),(4,true),(5,false)] 6 [(7,false),(8,true),(9,true)] 7 [(6,false),(8,true),(9,true)] (by kernel_rfl) (σ' := ?s24) (fun K hK => ?h24) ?n24
        case h24 =>
         iterate 5 (refine xE rfl (by simp (disch := omega) only [qop,fop,St.ev,St.put,cd,zd,Value.oneCell',lA,TypeDesc.aggB,Z0,cA,mA,Z1,oA,pA,qA,eA,D.pure?,ZC,ZD,sA,D.pv?,zD,wC,xC,aE,bB,rB,D.cells?,eB,fB,gB,iB,jB,ZG,ZH,ZL,ZM,ZN,zA,Nat.reduceAdd,Nat.reduceMul,iC,D.boxCells,D.live,St.setVec,tt,Z2,nA,rA,vB,Zh,ne_eq,not_false_eq_true] <;> exact rfl) (by simp only [St.put,Za,Zb] <;> exact rfl) ?_)
         refine bHA rfl rfl (by simp only [St.ev,nB,oB,zd,cd,Value.oneCell',Zr] <;> exact rfl) rfl (by simp only [St.ev,nB,oB,zd,cd,Value.oneCell',Zr] <;> exact rfl) rfl (by simp only [eA,D.pure?] <;> exact rfl) (by simp only [sA,nD,D.pvC?,D.pvN?,D.pvL?,eA,D.pv?,D.pure?,St.ev,nB,oB,zd,cd,Value.oneCell',Zr,ZG,ZH,Zd,Zc,Zg] <;> exact rfl) (acR hP (r83 (S : Int) (F : Int) lv (kI (bG (lv.getD k []).length (xH (lv.getD (k + 1) []) bo (cC pd) (cC pd).length))) (k : Int) [] (se + ((cC pd).length : Int)) false (by have := dBA (bG (lv.getD k []).length (xH (lv.getD (k + 1) []) bo (cC pd) (cC pd).length)); omega) hne)) (by simp only [St.put,Za,Zb] <;> exact rfl) ?_
         refine qC ?_
         refine ⟨?_,?_⟩
         ·iterate 2 (refine vG rfl (by simp (disch := omega) only [gA,aA,qop,fop,St.ev,St.put,cd,zd,Value.oneCell',lA,TypeDesc.aggB,Z0,cA,mA,Z1,oA,pA,qA,eA,D.pure?,ZC,ZD,sA,D.pv?,zD,wC,xC,aE,bB,rB,D.cells?,eB,fB,gB,iB,jB,ZG,ZH,ZL,ZM,ZN,zA,Nat.reduceAdd,Nat.reduceMul,iC,D.boxCells,D.live,St.setVec,tt,Z2,nA,rA,vB,Zh,ne_eq,not_false_eq_true] <;> exact rfl) ?_)
          iterate 2 (refine xE rfl (by simp (disch := omega) only [qop,fop,St.ev,St.put,cd,zd,Value.oneCell',lA,TypeDesc.aggB,Z0,cA,mA,Z1,oA,pA,qA,eA,D.pure?,ZC,ZD,sA,D.pv?,zD,wC,xC,aE,bB,rB,D.cells?,eB,fB,gB,iB,jB,ZG,ZH,ZL,ZM,ZN,zA,Nat.reduceAdd,Nat.reduceMul,iC,D.boxCells,D.live,St.setVec,tt,Z2,nA,rA,vB,Zh,ne_eq,not_false_eq_true] <;> exact rfl) (by simp only [St.put,Za,Zb] <;> exact rfl) ?_)
          refine qC ?_
          exact hK
         ·iterate 2 (refine vG rfl (by simp (disch := omega) only [gA,aA,qop,fop,St.ev,St.put,cd,zd,Value.oneCell',lA,TypeDesc.aggB,Z0,cA,mA,Z1,oA,pA,qA,eA,D.pure?,ZC,ZD,sA,D.pv?,zD,wC,xC,aE,bB,rB,D.cells?,eB,fB,gB,iB,jB,ZG,ZH,ZL,ZM,ZN,zA,Nat.reduceAdd,Nat.reduceMul,iC,D.boxCells,D.live,St.setVec,tt,Z2,nA,rA,vB,Zh,ne_eq,not_false_eq_true] <;> exact rfl) ?_)
          iterate 2 (refine xE rfl (by simp (disch := omega) only [qop,fop,St.ev,St.put,cd,zd,Value.oneCell',lA,TypeDesc.aggB,Z0,cA,mA,Z1,oA,pA,qA,eA,D.pure?,ZC,ZD,sA,D.pv?,zD,wC,xC,aE,bB,rB,D.cells?,eB,fB,gB,iB,jB,ZG,ZH,ZL,ZM,ZN,zA,Nat.reduceAdd,Nat.reduceMul,iC,D.boxCells,D.live,St.setVec,tt,Z2,nA,rA,vB,Zh,ne_eq,not_false_eq_true] <;> exact rfl) (by simp only [St.put,Za,Zb] <;> exact rfl) ?_)
          refine qC ?_
          exact hK
        refine jA ?_
        refine bC ?_
        refine oE ?_
        refine nC ?_
        exact tC rfl (cF (by simp only [qE,oA,pA,lA,TypeDesc.aggB,eA,D.pure?,D.pv?,nB,oB,Zd,Zc,Zw,Zk,Zv,Zj,Zx,Zl,Zo,Zr,reduceIte,Nat.reduceAdd,Nat.reduceLeDiff,Zg,Zf,tt] <;> exact rfl) rfl rfl (by first | rfl | (first | (rw [qN hc0] <;> rfl) | (rw [eL hc0 hc1] <;> rfl) | (rw [rN (m := ⟨ki,fr,de,nu,va,ep,vs,bo⟩) hc0 hc1x hc2] <;> rfl) | (rw [fL (m := ⟨ki,fr,de,nu,va,ep,vs,bo⟩) hc0 hc1x hc2 hc3] <;> rfl) | (rw [sN (m := ⟨ki,fr,de,nu,va,ep,vs,bo⟩) hc0 hc1x hc2 hc3x hc4x] <;> rfl) | (rw [cG (m := ⟨ki,fr,de,nu,va,ep,vs,bo⟩) hc0 hc1x hc2 hc3x hc4y (.inl hc5),vN _ _ _ _ _ _ _ _ hc5] <;> rfl) | (rw [cG (m := ⟨ki,fr,de,nu,va,ep,vs,bo⟩) hc0 hc1x hc2 hc3x hc4y (.inr hdn),wN _ _ _ _ _ _ _ _ hc5] <;> rfl) | (rw [lJ (m := ⟨ki,fr,de,nu,va,ep,vs,bo⟩) hc0 hc1x hc2 hc3x hc4y hc5x,aJ,wF] <;> rfl))))
end Go.Proofs.Ytldcoekbgfaomaa
end
section
namespace Go.Proofs.Ytldcoekbgfaomaa
open Go.RowKit
/-! ### Extents of ascending numbers -/
def lEA : Nat → List (Int × Int) → Nat
 | a,[] => a
 | _,e :: r => lEA (e.1.toNat + e.2.toNat + 1) r
theorem ascX_snoc {n : Nat} : ∀ {out : List (Int × Int)} {a : Nat} {e : Int × Int},AscX n a (out ++ [e]) ↔ AscX n a out ∧ ((lEA a out : Nat) : Int) ≤ e.1 ∧ 1 ≤ e.2 ∧ e.1 + e.2 ≤ n
 | [],a,e => by simp [AscX,lEA]
 | x :: r,a,e => by
  simp only [ZL,AscX,lEA]
  rw [ascX_snoc (out := r)]
  constructor
  ·rintro ⟨h1,h2,h3,h4,h5⟩
   exact ⟨⟨h1,h2,h3,h4⟩,h5⟩
  ·rintro ⟨⟨h1,h2,h3,h4⟩,h5⟩
   exact ⟨h1,h2,h3,h4,h5⟩
theorem oU : ∀ (out : List (Int × Int)) (a : Nat) (e : Int × Int),lEA a (out ++ [e]) = e.1.toNat + e.2.toNat + 1
 | [],a,e => rfl
 | x :: r,a,e => oU r _ e
theorem mEA {X : List Nat} {x : Nat} (h : (X ++ [x]).Pairwise (· < ·)) : X.Pairwise (· < ·) ∧ ∀ y ∈ X,y < x := by
 have := List.pairwise_append.1 h
 exact ⟨this.1,fun y hy => this.2.2 y hy x (by simp)⟩
theorem xX {n : Nat} : ∀ (k : Nat) (X : List Nat),X.length ≤ k → X.Pairwise (· < ·) → (∀ x ∈ X,x < n) → AscX n 0 (kI X) ∧ cC (kI X) = X
 | k,X,hk,hX,hn => by
  rcases List.eq_nil_or_concat X with rfl | ⟨Y,x,hYx⟩
  ·exact ⟨trivial,rfl⟩
  ·rw [List.concat_eq_append] at hYx
   subst hYx
   match k,hk with
   | 0,hk => simp at hk
   | k + 1,hk =>
    obtain ⟨hY,hlt⟩ := mEA hX
    obtain ⟨i1,i2⟩ := xX k Y (by simpa using hk) hY (fun y hy => hn y (by simp [hy]))
    have hx : x < n := hn x (by simp)
    rw [gF]
    generalize kI Y = out at *
    rcases List.eq_nil_or_concat out with rfl | ⟨init,l,hl⟩
    ·have hY0 : Y = [] := i2.symm
     subst hY0
     rw [wS (by simp)]
     refine ⟨⟨by omega,by simp,by simp; omega,trivial⟩,?_⟩
     simp [cC]
    ·rw [List.concat_eq_append] at hl
     subst hl
     obtain ⟨a1,a2,a3,a4⟩ := ascX_snoc.1 i1
     have hlast : (init ++ [l]).getD ((init ++ [l]).length - 1) (0,0) = l := by simp
     obtain ⟨l1,l2⟩ := l
     dsimp only at a2 a3 a4
     obtain ⟨u,rfl⟩ : ∃ u : Nat,l1 = u := ⟨l1.toNat,by omega⟩
     obtain ⟨v,rfl⟩ : ∃ v : Nat,l2 = v := ⟨l2.toNat,by omega⟩
     rw [yJ,Int.toNat_natCast,Int.toNat_natCast] at i2
     have hmem : u + v - 1 ∈ Y := by
      rw [← i2]
      exact List.mem_append.2 (.inr (List.mem_range'_1.2 (by omega)))
     have hux := hlt _ hmem
     by_cases hc : (u : Int) + (v : Int) = (x : Int)
     ·rw [xV (by rw [hlast]; exact ⟨by simp,hc⟩),hlast]
      have e1 : (init ++ [((u : Int),(v : Int))]).take ((init ++ [((u : Int),(v : Int))]).length - 1) = init := by simp
      rw [e1]
      dsimp only
      refine ⟨ascX_snoc.2 ⟨a1,a2,by dsimp only; omega,by dsimp only; omega⟩,?_⟩
      rw [yJ]
      dsimp only
      rw [Int.toNat_natCast,show ((v : Int) + 1).toNat = v + 1 by omega,mX,← List.append_assoc,i2,show u + v = x by omega]
     ·rw [wS (by rw [hlast]; exact fun h => hc h.2)]
      refine ⟨ascX_snoc.2 ⟨ascX_snoc.2 ⟨a1,a2,a3,a4⟩,?_,by dsimp only; omega,by dsimp only; omega⟩,?_⟩
      ·rw [oU]
       dsimp only
       omega
      ·rw [yJ,yJ,Int.toNat_natCast,Int.toNat_natCast,i2]
       simp
theorem aAA {n : Nat} : ∀ {es : List (Int × Int)} {a : Nat},AscX n a es → xGo n a es = 0
 | [],_,_ => rfl
 | e :: r,a,⟨h1,h2,h3,h4⟩ => by
  rw [xGo,if_neg (by omega),if_neg (by omega),if_neg (by omega),show e.1 + e.2 + 1 = ((e.1.toNat + e.2.toNat + 1 : Nat) : Int) by omega]
  exact aAA h4
theorem dT {n : Nat} {es : List (Int × Int)} (hn : n ≤ 4096) (h : AscX n 0 es) : kJ es n = 0 := by
 rw [gE (by omega)]
 exact aAA (a := 0) h
theorem eBA {X : List Nat} {n : Nat} (hn : n ≤ 4096) (hX : X.Pairwise (· < ·)) (h : ∀ x ∈ X,x < n) : kJ (kI X) n = 0 := dT hn (xX _ X (Nat.le_refl _) hX h).1
theorem cW {n : Nat} : ∀ {es : List (Int × Int)} {a : Nat},n ≤ 4096 → AscX n a es → gR es
 | [],_,_,_ => fun e h => by cases h
 | e :: r,a,hn,⟨h1,h2,h3,h4⟩ => fun x hx => by
  rcases List.mem_cons.1 hx with rfl | hx
  ·exact ⟨⟨by omega,by omega⟩,⟨by omega,by omega⟩⟩
  ·exact cW hn h4 x hx
theorem eT {N : Nat} : ∀ {X : List Nat},X.Pairwise (· < ·) → (bG N X).Pairwise (· < ·)
 | [],_ => List.Pairwise.nil
 | x :: X,h => by
  obtain ⟨h1,h2⟩ := List.pairwise_cons.1 h
  have e : bG N (x :: X) = nU N x ++ bG N X := rfl
  rw [e]
  refine List.pairwise_append.2 ⟨?_,eT h2,fun a ha b hb => ?_⟩
  ·unfold nU
   exact List.Pairwise.sublist List.filter_sublist (by simp)
  ·have ha1 : a ≤ 2 * x + 1 := by
    have := (List.mem_filter.1 ha).1
    simp only [List.mem_cons,List.not_mem_nil,or_false] at this
    omega
   obtain ⟨y,hy,hyb⟩ := List.mem_flatMap.1 hb
   have hb1 : 2 * y ≤ b := by
    have := (List.mem_filter.1 hyb).1
    simp only [List.mem_cons,List.not_mem_nil,or_false] at this
    omega
   have := h1 y hy
   omega
theorem fT : ∀ (es : List (Int × Int)),rE (es.flatMap fun e => [e.1,e.2]) = es
 | [] => rfl
 | e :: r => by
  simp only [List.flatMap_cons,ZL,ZM,rE,fT r]
theorem yX (w : Wa) : (nI w).length = 2 + 2 * w.pend.length := by
 unfold nI
 rw [List.length_append,wD]
 simp
 omega
/-! ### Trees of one shape -/
/-- The rows are short. -/
theorem bAA {t : Tr} (h : rC t = 0) : ∀ k,k < t.lv.length → (t.lv.getD k []).length ≤ 2 ^ (12 - k)
 | 0,_ => by
  have := (vI h).2
  simpa using this
 | k + 1,hk => by
  obtain ⟨_,_,_,_,_,_,_,_,q5,q6⟩ := nF h
  have hh : aZ t.lv := by rw [← q6]; exact rQ _ _ (Nat.le_refl _)
  have ih := bAA h k (by omega)
  rw [hh k hk]
  have hl := (iM h).2
  have e : 2 ^ (12 - k) = 2 * 2 ^ (12 - (k + 1)) := by rw [← Nat.pow_succ']; congr 1; omega
  omega
/-- One step: the request is answered,the answer is learned. -/
def pU (b : Tr) (w : Wa) : Wa := (zL w (pM b (wK w)).1).1
def itW (b : Tr) (w : Wa) : Nat → Wa
 | 0 => w
 | i + 1 => if (itW b w i).done = true then itW b w i else pU b (itW b w i)
/-- What is known of a comparison of a with b under way. -/
structure Inv (a b : Tr) (w : Wa) : Prop where
 tree : w.tree = a
 chk : cK w = 0
 goes : w.done = false → ∃ k : Nat,w.level = (k : Int) ∧ k < a.lv.length ∧ w.sent + 1 ≤ ((2 ^ (12 - k) : Nat) : Int) ∧ w.found = [] ∧ w.pend ≠ [] ∧ kJ w.pend ((a.lv.getD k []).length : Nat) = 0
theorem cAA {a : Tr} {w : Wa} (ht : w.tree = a) {k : Nat} (hk : w.level = (k : Int)) : oR w = a.lv.getD k [] := by
 unfold oR
 rw [ht,hk,Int.toNat_natCast]
theorem Inv.asks {a b : Tr} {w : Wa} (h : Inv a b w) (hb : rC b = 0) (hs : a.size = b.size) (hf : a.leaf = b.leaf) (hab : Alike a.lv b.lv) (hd : w.done = false) {k : Nat} (hk : w.level = (k : Int)) :
  pM b (wK w) = (⟨14,0,0,w.level,0,0,nI w,mF (b.lv.getD k []) (cC w.pend)⟩,0) := by
 obtain ⟨k',h1,h2,h3,h4,h5,h6⟩ := h.goes hd
 obtain rfl : k' = k := by omega
 have hl := yX w
 have hdr : rE ((wK w).vs.drop 2) = w.pend := fT w.pend
 rw [uN hb rfl (by show ¬ ((nI w).length < 2 ∨ (nI w).length % 2 = 1); omega) (by
  show ¬ ((nI w).getD 0 0 ≠ b.size ∨ (nI w).getD 1 0 ≠ b.leaf)
  rintro (h | h)
  ·exact h (by show w.tree.size = b.size; rw [‹Inv a b w›.tree,hs])
  ·exact h (by show w.tree.leaf = b.leaf; rw [‹Inv a b w›.tree,hf])) (by
  show ¬ (w.level < 0 ∨ (b.lv.length : Int) ≤ w.level)
  have := hab.len
  omega) (by
  rw [hdr]
  show kJ w.pend ((b.lv.getD w.level.toNat []).length : Nat) = 0
  rw [hk,Int.toNat_natCast,← hab.row]
  exact h6),hdr]
 show ((⟨14,0,0,w.level,0,0,nI w,mF (b.lv.getD w.level.toNat []) (cC w.pend)⟩ : Ms),(0 : Int)) = _
 rw [hk,Int.toNat_natCast]
/-- The numbers with other digests in b. -/
def tQ (a b : Tr) (k : Nat) (X : List Nat) : List Nat := X.filter (lM a.lv b.lv k)
theorem Inv.learns {a b : Tr} {w : Wa} (h : Inv a b w) (hd : w.done = false) {k : Nat} (hk : w.level = (k : Int)) (m : Ms) (hm : m.kind = 14 ∧ m.num = w.level ∧ m.vs = nI w) (hl : m.body.length = 8 * (cC w.pend).length) :
  zL w m = if k = 0 ∨ xH (a.lv.getD k []) m.body (cC w.pend) (cC w.pend).length = [] then (zO w (xH (a.lv.getD k []) m.body (cC w.pend) (cC w.pend).length),[],0)
   else (nL w (xH (a.lv.getD k []) m.body (cC w.pend) (cC w.pend).length),[wK (nL w (xH (a.lv.getD k []) m.body (cC w.pend) (cC w.pend).length))],0) := by
 have hdw : aT w m.body = xH (a.lv.getD k []) m.body (cC w.pend) (cC w.pend).length := by rw [aT,cAA h.tree hk]
 have h22 : ¬ (m.num ≠ w.level ∨ m.vs ≠ nI w) := by
  rintro (h | h)
  ·exact h hm.2.1
  ·exact h hm.2.2
 split
 ·rename_i hc
  rw [cG h.chk (by rw [hd]; simp) hm.1 h22 hl (by rw [hdw,hk]; rcases hc with hc | hc; exact .inl (by omega); exact .inr hc),hdw]
 ·rename_i hc
  rw [lJ h.chk (by rw [hd]; simp) hm.1 h22 hl (by rw [hdw,hk]; rintro (h | h); exact hc (.inl (by omega)); exact hc (.inr h)),hdw]
end Go.Proofs.Ytldcoekbgfaomaa
end
section
namespace Go.Proofs.Ytldcoekbgfaomaa
open Go.RowKit
theorem eP {S : Nat} : ∀ (l : List (Int × Int)) (st b : Int) (a : Nat),AscE b l → (∀ e ∈ l,e.1 + e.2 ≤ (S : Int)) → (a : Int) ≤ st → st < b → b ≤ S → AscX S a (dG st b l)
 | [],st,b,a,_,_,h1,h2,h3 => ⟨h1,by dsimp only; omega,by dsimp only; omega,trivial⟩
 | e :: r,st,b,a,⟨g1,g2,g3⟩,hS,h1,h2,h3 => by
  have he := hS e (by simp)
  rw [dG]
  split
  ·exact eP r st (e.1 + e.2) a g3 (fun x hx => hS x (by simp [hx])) h1 (by omega) he
  ·refine ⟨h1,by dsimp only; omega,by dsimp only; omega,?_⟩
   dsimp only
   exact eP r e.1 (e.1 + e.2) _ g3 (fun x hx => hS x (by simp [hx])) (by omega) (by omega) he
theorem vT {S : Nat} {l : List (Int × Int)} (h : AscE 0 l) (hS : ∀ e ∈ l,e.1 + e.2 ≤ (S : Int)) : AscX S 0 (oG l) := by
 cases l with
 | nil => trivial
 | cons e r =>
  obtain ⟨g1,g2,g3⟩ := h
  exact eP r e.1 (e.1 + e.2) 0 g3 (fun x hx => hS x (by simp [hx])) (by omega) (by omega) (hS e (by simp))
theorem fBA {S F : Nat} (hS : S ≤ 4096) (hF : 1 ≤ F) {X : List Nat} (hX : X.Pairwise (· < ·)) (hx : ∀ x ∈ X,x * F < S) : AscX S 0 (oG (jJ S F X)) := by
 refine vT (tS hF X 0 hX hx fun _ _ => Int.natCast_nonneg _) fun e he => ?_
 obtain ⟨x,hxm,rfl⟩ := List.mem_map.1 he
 have := hx x hxm
 dsimp only
 omega
theorem eQ (d : Int) : aW (eD d) := by
 intro x hx
 obtain ⟨k,_,rfl⟩ := List.mem_map.1 hx
 show 0 ≤ IntKind.u8.wrap _ ∧ IntKind.u8.wrap _ ≤ 255
 have u : ∀ x : Int,IntKind.u8.wrap x = x % 256 := fun x => rfl
 rw [u]
 omega
theorem gBA (row : List Int) (X : List Nat) : aW (mF row X) := by
 intro x hx
 obtain ⟨y,_,h⟩ := List.mem_flatMap.1 hx
 exact eQ _ x h
theorem Inv.begin {a : Tr} (b : Tr) (h : rC a = 0) : Inv a b (lE a) := by
 obtain ⟨hl13,hl1,hr⟩ := zG h
 obtain ⟨_,_,_,_,_,_,_,_,q5,q6⟩ := nF h
 have hlast := pV q5 (by intro h; rw [h] at hl1; simp at hl1)
 have hx : kJ [(0,1)] ((1 : Nat) : Int) = 0 := rfl
 have hrow : ((a.lv.getD (a.lv.length - 1) []).length) = 1 := hlast
 refine ⟨rfl,tJ h ?_ ?_,fun _ => ⟨a.lv.length - 1,rfl,by omega,?_,rfl,by simp [lE],by rw [hrow]; exact hx⟩⟩
 ·unfold pH lE
  dsimp only
  rintro (h | h | ⟨h,_⟩ | h | h)
  ·omega
  ·omega
  ·cases h
  ·omega
  ·omega
 ·unfold eG oR lE
  dsimp only
  rw [if_neg (by simp),Int.toNat_natCast,hrow]
  exact ⟨by simp,rfl,hx⟩
 ·have : 1 ≤ 2 ^ (12 - (a.lv.length - 1)) := Nat.one_le_two_pow
  show (0 : Int) + 1 ≤ _
  omega
theorem Inv.walkIn {a b : Tr} {w : Wa} (h : Inv a b w) : sX w := by
 obtain ⟨h1,h2,h3⟩ := qR h.chk
 obtain ⟨S,F,hS,hF,q1,q2,q3,q4,_,_⟩ := nF h1
 unfold eG at h3
 split at h3
 ·have hp : w.pend = [] := List.length_eq_zero_iff.1 h3.1
  refine ⟨(by rw [hp]; intro e he; cases he),?_⟩
  rw [hS] at h3
  exact cW (iH h3.2).1 (iH h3.2).2
 ·have hp : w.found = [] := List.length_eq_zero_iff.1 h3.2.1
  exact ⟨cW (iH h3.2.2).1 (iH h3.2.2).2,by rw [hp]; intro e he; cases he⟩
theorem Inv.step {a b : Tr} {w : Wa} (h : Inv a b w) (ha : rC a = 0) (hd : w.done = false) {k : Nat} (hk : w.level = (k : Int)) {dif : List Nat} (hdif : dif.Pairwise (· < ·)) (hsub : ∀ x ∈ dif,x ∈ cC w.pend) :
  Inv a b (zO w dif) ∧ (k ≠ 0 → dif ≠ [] → Inv a b (nL w dif)) := by
 obtain ⟨k',h1,h2,h3,h4,h5,h6⟩ := h.goes hd
 obtain rfl : k' = k := by omega
 obtain ⟨hc1,hc2,hc3⟩ := qR h.chk
 obtain ⟨S,F,hS,hF,q1,q2,q3,q4,_,_⟩ := nF ha
 have hs0 : 0 ≤ w.sent := by unfold pH at hc2; omega
 have hlen := oM h6
 have hlt := wV h6
 have hpow := bAA ha k' h2
 have hl13 := (iM ha).2
 have hp12 : 2 ^ (12 - k') ≤ 2 ^ 12 := Nat.pow_le_pow_right (by omega) (by omega)
 have hrow : rC w.tree = 0 := hc1
 constructor
 ·refine ⟨h.tree,tJ hc1 ?_ ?_,fun hd => by cases hd⟩
  ·unfold pH zO
   dsimp only
   rw [h.tree]
   rintro (h | h | ⟨_,h⟩ | h | h) <;> omega
  ·unfold eG zO
   dsimp only
   rw [if_pos rfl]
   refine ⟨rfl,?_⟩
   rw [h.tree,hS,hF]
   split
   ·rename_i h0
    obtain rfl : k' = 0 := by omega
    refine dT q2 (fBA q2 q3 hdif fun x hx => aO q3 ?_)
    have h7 := hlt x (hsub x hx)
    have h8 := (vI ha).1
    rw [hS,hF,Int.toNat_natCast,Int.toNat_natCast] at h8
    omega
   ·exact dT q2 trivial
 ·intro hk0 hne
  obtain ⟨k,rfl⟩ : ∃ k,k' = k + 1 := ⟨k' - 1,by omega⟩
  have hrl : (a.lv.getD k []).length ≤ 4096 := (zG ha).2.2 _ (tE a.lv [] k (by omega))
  have hbel := wX ha h2 hne (fun x hx => hlt x (hsub x hx))
  have hx := eBA hrl (eT (N := (a.lv.getD k []).length) hdif) (zAA _ dif)
  have hlev : w.level - 1 = (k : Int) := by omega
  have htn : w.level.toNat - 1 = k := by omega
  have e12 : 2 ^ (12 - k) = 2 * 2 ^ (12 - (k + 1)) := by rw [← Nat.pow_succ']; congr 1; omega
  have hdw : (nL w dif).pend = kI (bG (a.lv.getD k []).length dif) := by
   unfold nL
   dsimp only
   rw [htn,h.tree]
  refine ⟨h.tree,tJ hc1 ?_ ?_,fun _ => ⟨k,hlev,by omega,?_,rfl,?_,?_⟩⟩
  ·unfold pH nL
   dsimp only
   rw [h.tree,hlev]
   rintro (h | h | ⟨h,_⟩ | h | h)
   ·omega
   ·omega
   ·cases h
   ·omega
   ·omega
  ·unfold eG
   rw [if_neg (by simp [nL]),hdw,cAA (show (nL w dif).tree = a from h.tree) (show (nL w dif).level = (k : Int) from hlev)]
   exact ⟨fun h => cT hbel (List.length_eq_zero_iff.1 h),rfl,hx⟩
  ·show w.sent + ((cC w.pend).length : Nat) + 1 ≤ _
   rw [e12]
   omega
  ·rw [hdw]; exact cT hbel
  ·rw [hdw]; exact hx
/-- What the step makes of a walk under way. -/
theorem Inv.next {a b : Tr} {w : Wa} (h : Inv a b w) (ha : rC a = 0) (hb : rC b = 0) (hs : a.size = b.size) (hf : a.leaf = b.leaf) (hd : w.done = false) {k : Nat} (hk : w.level = (k : Int)) :
  ∃ m dif,pM b (wK w) = (m,0) ∧ m.kind = 14 ∧ m.num = w.level ∧ m.vs = nI w ∧ m.body = mF (b.lv.getD k []) (cC w.pend) ∧ dif = xH (a.lv.getD k []) m.body (cC w.pend) (cC w.pend).length ∧
   (zL w m = if k = 0 ∨ dif = [] then (zO w dif,[],0) else (nL w dif,[wK (nL w dif)],0)) ∧ pU b w = (if k = 0 ∨ dif = [] then zO w dif else nL w dif) ∧ Inv a b (pU b w) := by
 obtain ⟨k',h1,h2,h3,h4,h5,h6⟩ := h.goes hd
 obtain rfl : k' = k := by omega
 have hq := h.asks hb hs hf (xP ha hb hs hf) hd hk
 have hl := h.learns (b := b) hd hk ⟨14,0,0,w.level,0,0,nI w,mF (b.lv.getD k' []) (cC w.pend)⟩ ⟨rfl,rfl,rfl⟩ (bT _ _)
 have hst := h.step (b := b) ha hd hk (vX (row := a.lv.getD k' []) (body := mF (b.lv.getD k' []) (cC w.pend)) (iH h6).2.nodes.1) (rX (Nat.le_refl _))
 have hsw : pU b w = (if k' = 0 ∨ xH (a.lv.getD k' []) (mF (b.lv.getD k' []) (cC w.pend)) (cC w.pend) (cC w.pend).length = [] then zO w (xH (a.lv.getD k' []) (mF (b.lv.getD k' []) (cC w.pend)) (cC w.pend) (cC w.pend).length) else nL w (xH (a.lv.getD k' []) (mF (b.lv.getD k' []) (cC w.pend)) (cC w.pend) (cC w.pend).length)) := by
  unfold pU
  rw [hq,hl]
  split <;> rfl
 refine ⟨_,_,hq,rfl,rfl,rfl,rfl,rfl,hl,hsw,?_⟩
 rw [hsw]
 split
 ·exact hst.1
 ·rename_i hc
  exact hst.2 (fun h => hc (.inl h)) (fun h => hc (.inr h))
theorem dAA {a b : Tr} {w : Wa} (h : Inv a b w) : oFA (wK w) := by
 refine ⟨fun v hv => ?_,fun x hx => by cases hx⟩
 obtain ⟨h1,_,_⟩ := qR h.chk
 obtain ⟨S,F,hS,hF,q1,q2,q3,q4,_,_⟩ := nF h1
 have hv' : v ∈ nI w := hv
 unfold nI at hv'
 rcases List.mem_append.1 hv' with hv' | hv'
 ·simp only [List.mem_cons,List.not_mem_nil,or_false] at hv'
  unfold xL
  omega
 ·obtain ⟨e,he,hve⟩ := List.mem_flatMap.1 hv'
  have := h.walkIn.1 e he
  simp only [List.mem_cons,List.not_mem_nil,or_false] at hve
  rcases hve with rfl | rfl
  ·exact this.1
  ·exact this.2
theorem zX {b : Tr} {w : Wa} {i : Nat} (h : (itW b w i).done = true) : ∀ j,i ≤ j → itW b w j = itW b w i
 | 0,hj => by
  obtain rfl : i = 0 := by omega
  rfl
 | j + 1,hj => by
  rcases Nat.lt_or_eq_of_le hj with hj1 | rfl
  ·have ih := zX h j (by omega)
   rw [itW,ih,if_pos h]
  ·rfl
theorem gT {b : Tr} {w : Wa} {i : Nat} (h : (itW b w i).done = false) : itW b w (i + 1) = pU b (itW b w i) := by rw [itW,if_neg (by rw [h]; simp)]
/-- What is known after i steps. -/
structure ItI (a b : Tr) (i : Nat) : Prop where
 inv : Inv a b (itW b (lE a) i)
 lev : (itW b (lE a) i).done = false → i < a.lv.length ∧ (itW b (lE a) i).level = ((a.lv.length - 1 - i : Nat) : Int)
theorem oGA {a : Tr} (b : Tr) (ha : rC a = 0) : ItI a b 0 := ⟨Inv.begin b ha,fun _ => ⟨by have := (iM ha).1; omega,rfl⟩⟩
theorem qKA {a b : Tr} {i : Nat} (h : ItI a b i) (ha : rC a = 0) (hb : rC b = 0) (hs : a.size = b.size) (hf : a.leaf = b.leaf) (hd : (itW b (lE a) i).done = false) : ItI a b (i + 1) := by
 obtain ⟨hi,hl⟩ := h.lev hd
 obtain ⟨m,dif,_,_,_,_,_,_,_,h8,h9⟩ := h.inv.next ha hb hs hf hd hl
 have e := gT hd
 refine ⟨by rw [e]; exact h9,fun hd2 => ?_⟩
 rw [e,h8] at hd2 ⊢
 split at hd2
 ·cases hd2
 ·rename_i hc
  rw [if_neg hc]
  refine ⟨by omega,?_⟩
  show (itW b (lE a) i).level - 1 = _
  omega
def sM (a b : Tr) : List (Int × Int) × Int × Int :=
 if rC a ≠ 0 then ([],0,rC a) else if rC b ≠ 0 then ([],0,rC b) else if a.size ≠ b.size ∨ a.leaf ≠ b.leaf then ([],0,22)
 else ((itW b (lE a) a.lv.length).found,(itW b (lE a) a.lv.length).sent,0)
end Go.Proofs.Ytldcoekbgfaomaa
end
section
namespace Go.Proofs.Ytldcoekbgfaomaa
open Go.RowKit
set_option maxRecDepth 20000
set_option maxHeartbeats 4000000
attribute [local irreducible] jE oD AW
def dW (w : Wa) : List Ms := if w.done = true then [] else [wK w]
theorem aY (w : Wa) : (0 < ((dW w).length : Int)) ↔ w.done = false := by
 unfold dW
 cases w.done <;> simp
theorem qFA {w : Wa} (h : w.done = false) : dW w = [wK w] := by rw [dW,if_neg (by rw [h]; simp)]
theorem cO (m : Ms) : bQ [m] = [i64 m.kind,i64 m.frm,i64 m.dest,i64 m.num,i64 m.val,i64 m.epoch,gG m.vs,bytes m.body] := rfl
theorem k45 (t : Tr) : ACalls Try.prog 45 [trP t] (.tup [.agg [i64 (aH t).1.tree.size,i64 (aH t).1.tree.leaf,xD (aH t).1.tree.lv,uC (aH t).1.pend,i64 (aH t).1.level,uC (aH t).1.found,i64 (aH t).1.sent,bv (aH t).1.done],.p (zM (aH t).2.1),.p (i64 (aH t).2.2)]) := c45 t
theorem rD (t : Tr) : (aH t).2.2 = rC t := by
 by_cases h : rC t = 0
 ·rw [yO h,h]
 ·rw [zS h]
/-- The answer to the walk's request. -/
def nEA (b : Tr) (w : Wa) : Ms := ⟨14,0,0,w.level,0,0,nI w,mF (b.lv.getD w.level.toNat []) (cC w.pend)⟩
@[reducible] def rKA (b : Tr) (w : Wa) : List P1 := [i64 14,i64 0,i64 0,i64 w.level,i64 0,i64 0,gG (nI w),bytes (mF (b.lv.getD w.level.toNat []) (cC w.pend))]
/-- What a step of the run needs to know. -/
structure Rn (a b : Tr) (i : Nat) : Prop where
 ha : rC a = 0
 hb : rC b = 0
 hs : a.size = b.size
 hf : a.leaf = b.leaf
 ht : ∀ r ∈ a.lv,mJ r
 hi : ItI a b i
theorem Rn.ans {a b : Tr} {i : Nat} (h : Rn a b i) (hd : (itW b (lE a) i).done = false) : pM b (wK (itW b (lE a) i)) = (nEA b (itW b (lE a) i),0) := by
 obtain ⟨hil,hl⟩ := h.hi.lev hd
 rw [h.hi.inv.asks h.hb h.hs h.hf (xP h.ha h.hb h.hs h.hf) hd hl]
 unfold nEA
 rw [hl,Int.toNat_natCast]
theorem Rn.lrn {a b : Tr} {i : Nat} (h : Rn a b i) (hd : (itW b (lE a) i).done = false) : zL (itW b (lE a) i) (nEA b (itW b (lE a) i)) = (itW b (lE a) (i + 1),dW (itW b (lE a) (i + 1)),0) := by
 obtain ⟨hil,hl⟩ := h.hi.lev hd
 obtain ⟨m,dif,h1,h2,h3,h4,h5,h6,h7,h8,h9⟩ := h.hi.inv.next h.ha h.hb h.hs h.hf hd hl
 rw [h.ans hd] at h1
 injection h1 with h1 _
 subst h1
 rw [gT hd,h7,h8]
 split
 ·rfl
 ·rfl
theorem Rn.small {a b : Tr} {i : Nat} (h : Rn a b i) (hd : (itW b (lE a) i).done = false) : (itW b (lE a) i).pend.length ≤ 4096 ∧ (nI (itW b (lE a) i)).length ≤ 1000000 := by
 obtain ⟨k,h1,h2,h3,h4,h5,h6⟩ := h.hi.inv.goes hd
 have := dL h6
 have := yX (itW b (lE a) i)
 omega
theorem rFA {a b : Tr} {i : Nat} (h : Rn a b i) : oFA (nEA b (itW b (lE a) i)) := ⟨(dAA h.hi.inv).1,gBA _ _⟩
theorem k52 {a b : Tr} {i : Nat} (h : Rn a b i) (hd : (itW b (lE a) i).done = false) : ACalls Try.prog 52 [trP b,msP (wK (itW b (lE a) i))] (.tup [.agg (rKA b (itW b (lE a) i)),.p (i64 0)]) := by
 have := c52 b (wK (itW b (lE a) i)) (dAA h.hi.inv) (h.small hd).2
 rwa [h.ans hd] at this
theorem k55 {a b : Tr} {i : Nat} (h : Rn a b i) (hd : (itW b (lE a) i).done = false) : ACalls Try.prog 55 [waP (itW b (lE a) i),.agg (rKA b (itW b (lE a) i))] (.tup [.agg [i64 (itW b (lE a) (i + 1)).tree.size,i64 (itW b (lE a) (i + 1)).tree.leaf,xD (itW b (lE a) (i + 1)).tree.lv,uC (itW b (lE a) (i + 1)).pend,i64 (itW b (lE a) (i + 1)).level,uC (itW b (lE a) (i + 1)).found,i64 (itW b (lE a) (i + 1)).sent,bv (itW b (lE a) (i + 1)).done],.p (zM (dW (itW b (lE a) (i + 1)))),.p (i64 0)]) := by
 have := c55 (itW b (lE a) i) (nEA b (itW b (lE a) i)) h.hi.inv.walkIn (rFA h) (by rw [h.hi.inv.tree]; exact h.ht)
 rw [h.lrn hd] at this
 exact this
theorem Rn.next {a b : Tr} {i : Nat} (h : Rn a b i) (hd : (itW b (lE a) i).done = false) : Rn a b (i + 1) ∧ i < a.lv.length := ⟨⟨h.ha,h.hb,h.hs,h.hf,h.ht,qKA h.hi h.ha h.hb h.hs h.hf hd⟩,(h.hi.lev hd).1⟩
theorem dIA {a b : Tr} (h : ¬ rC a = 0) : sM a b = ([],0,rC a) := if_pos h
theorem eIA {a b : Tr} (h : rC a = 0) (h2 : ¬ rC b = 0) : sM a b = ([],0,rC b) := by rw [sM,if_neg (not_not_intro h),if_pos h2]
theorem sFA {a b : Tr} (h : rC a = 0) (h2 : rC b = 0) (h3 : a.size ≠ b.size ∨ a.leaf ≠ b.leaf) : sM a b = ([],0,22) := by rw [sM,if_neg (not_not_intro h),if_neg (not_not_intro h2),if_pos h3]
theorem fIA {a b : Tr} {i : Nat} (h : Rn a b i) (hi : i ≤ a.lv.length) (hd : ¬ (0 < ((dW (itW b (lE a) i)).length : Int))) : sM a b = ((itW b (lE a) i).found,(itW b (lE a) i).sent,0) := by
 rw [sM,if_neg (not_not_intro h.ha),if_neg (not_not_intro h.hb),if_neg (by rintro (e | e); exact e h.hs; exact e h.hf)]
 have hdn : (itW b (lE a) i).done = true := by
  cases hx : (itW b (lE a) i).done with
  | true => rfl
  | false => exact absurd ((aY _).2 hx) hd
 rw [zX hdn _ hi]
end Go.Proofs.Ytldcoekbgfaomaa
end
section
namespace Go.Proofs.Ytldcoekbgfaomaa
open Go.RowKit
set_option maxRecDepth 20000
set_option maxHeartbeats 4000000
attribute [local irreducible] jE oD AW
/-- The error of a run. -/
def wH (a b : Tr) : Int := if rC a = 0 then rC b else rC a
def bJ (a b : Tr) : Int := if wH a b = 0 ∧ (a.size ≠ b.size ∨ a.leaf ≠ b.leaf) then 22 else wH a b
theorem tFA {a b : Tr} (h : ¬ bJ a b = 0) : sM a b = ([],0,bJ a b) := by
 by_cases ha : rC a = 0
 ·have e1 : wH a b = rC b := if_pos ha
  by_cases hb : rC b = 0
  ·by_cases hx : a.size ≠ b.size ∨ a.leaf ≠ b.leaf
   ·rw [sFA ha hb hx,bJ,if_pos ⟨by rw [e1,hb],hx⟩]
   ·exfalso
    apply h
    rw [bJ,if_neg (fun hh => hx hh.2),e1,hb]
  ·rw [eIA ha hb,bJ,if_neg (fun hh => hb (by rw [← e1]; exact hh.1)),e1]
 ·have e1 : wH a b = rC a := if_neg ha
  rw [dIA ha,bJ,if_neg (fun hh => ha (by rw [← e1]; exact hh.1)),e1]
theorem gIA {a b : Tr} (h : bJ a b = 0) : rC a = 0 ∧ rC b = 0 ∧ a.size = b.size ∧ a.leaf = b.leaf := by
 by_cases ha : rC a = 0
 ·have e1 : wH a b = rC b := if_pos ha
  by_cases hb : rC b = 0
  ·by_cases hx : a.size ≠ b.size ∨ a.leaf ≠ b.leaf
   ·rw [bJ,if_pos ⟨by rw [e1,hb],hx⟩] at h
    cases h
   ·exact ⟨ha,hb,Decidable.byContradiction fun e => hx (.inl e),Decidable.byContradiction fun e => hx (.inr e)⟩
  ·rw [bJ,if_neg (fun hh => hb (by rw [← e1]; exact hh.1)),e1] at h
   exact absurd h hb
 ·have e1 : wH a b = rC a := if_neg ha
  rw [bJ,if_neg (fun hh => ha (by rw [← e1]; exact hh.1)),e1] at h
  exact absurd h ha
theorem hPA {a : Tr} (h : rC a = 0) : ACalls Try.prog 45 [trP a] (.tup [.agg [i64 (lE a).tree.size,i64 (lE a).tree.leaf,xD (lE a).tree.lv,uC (lE a).pend,i64 (lE a).level,uC (lE a).found,i64 (lE a).sent,bv (lE a).done],.p (zM (dW (lE a))),.p (i64 0)]) := by
 have := c45 a
 rw [yO h] at this
 exact this
theorem iPA (a b : Tr) (ht : ∀ r ∈ a.lv,mJ r) (hE : ¬ bJ a b = 0) : ACalls Try.prog 57 [trP a,trP b] (.tup [.p (uC (sM a b).1),.p (i64 (sM a b).2.1),.p (i64 (sM a b).2.2)]) := by
 obtain ⟨sa,fa,la⟩ := a
 obtain ⟨sb,fb,lb⟩ := b
 dsimp only at ht
 refine oC jC Try.func57 (c := _) rfl (by kernel_rfl) ?_
 intro X hP hX hro hpl
 have hb : tb.Ok X.P := hP ▸ jC
 change AW X _ _ ⟨[],[.agg [i64 sa,i64 fa,xD la],.agg [i64 sb,i64 fb,xD lb],.any,.any,.any,.any,.any,.any,.any,.any,.any,.any,.any,.any,.any,.any,.any,.any,.any,.any,.any,.any,.any,.any,.any,.any,.any,.any,.any,.any,.any,.any,.any,.any,.any,.any,.any,.any,.any,.any,.any,.any,.any,.any,.any,.any,.any,.any,.any,.any,.any,.any,.any,.any,.any,.any,.any,.any,.any,.any,.any,.any,.any,.any,.any,.any,.any,.any],[],[]⟩
 refine fA ?_
 refine iA hX hb [0,1,2,3,4] rfl (σ' := ?s1) (fun K hK => ?h1) ?n1
 case h1 =>
  iterate 5 (refine kA rfl (by simp (disch := omega) only [gA,aA,qop,fop,St.ev,St.put,cd,zd,Value.oneCell',lA,TypeDesc.aggB,Z0,ZM,ZL,Zl,Zo,ZG,ZH,St.addBox,D.boxCells,D.live,tt,Zh,lB,gt_iff_lt,rD] <;> exact rfl) ?_)
  refine bA ?_
  exact hK
 refine jA ?_
 refine fA ?_
 refine iA hX hb [0,1,2,3,4,5,6,7,8,9] rfl (σ' := ?s2) (fun K hK => ?h2) ?n2
 case h2 =>
  (refine kA rfl (by simp (disch := omega) only [gA,aA,qop,fop,St.ev,St.put,cd,zd,Value.oneCell',lA,TypeDesc.aggB,Z0,Z1,oA,pA,qA,eA,D.pure?,ZC,ZD,sA,D.pv?,nJ,PV.d,ZM,ZL,ZG,ZH,St.addBox,Value.cells,iC,D.boxCells,D.live,D.cells?,ZN,St.setVec,tt,Zh,lB,gt_iff_lt,rD] <;> exact rfl) ?_)
  refine jD rfl (by simp only [aA,St.ev,nB,oB,sA,D.pv?,ZG,ZH,zd,cd,Value.oneCell',Zr] <;> exact rfl) (acK hP (k45 ⟨sa,fa,la⟩)) (by simp only [St.put,Za,Zb] <;> exact rfl) ?_
  iterate 8 (refine kA rfl (by simp (disch := omega) only [gA,aA,qop,fop,St.ev,St.put,cd,zd,Value.oneCell',lA,TypeDesc.aggB,Z0,Z1,oA,pA,qA,eA,D.pure?,ZC,ZD,sA,D.pv?,nJ,PV.d,ZM,ZL,ZG,ZH,St.addBox,Value.cells,iC,D.boxCells,D.live,D.cells?,ZN,St.setVec,tt,Zh,lB,gt_iff_lt,rD] <;> exact rfl) ?_)
  refine bA ?_
  exact hK
 refine jA ?_
 refine fA ?_
 refine fA ?_
 refine iA hX hb [0,1] rfl (σ' := ?s3) (fun K hK => ?h3) ?n3
 case h3 =>
  iterate 2 (refine kA rfl (by simp (disch := omega) only [gA,aA,qop,fop,St.ev,St.put,cd,zd,Value.oneCell',lA,TypeDesc.aggB,Z0,yA,iop,t27,oT,Zh,lB,gt_iff_lt,rD] <;> exact rfl) ?_)
  refine bA ?_
  exact hK
 refine jA ?_
 refine bV (σ' := ⟨[],[.any,.any,.ptr 0 0,.ptr 1 0,.any,.any,.any,.any,.any,.p (i64 (wH ⟨sa,fa,la⟩ ⟨sb,fb,lb⟩)),.any,.any,.any,.any,.any,.any,.any,.any,.any,.any,.any,.any,.any,.any,.any,.any,.any,.any,.any,.any,.any,.any,.any,.any,.any,.any,.any,.any,.any,.any,.any,.any,.any,.any,.any,.any,.any,.any,.any,.any,.any,.any,.any,.any,.any,.any,.any,.any,.any,.any,.any,.any,.any,.any,.any,.any,.any,.any],[⟨26,[.p (i64 sa),.p (i64 fa),.p (xD la)]⟩,⟨26,[.p (i64 sb),.p (i64 fb),.p (xD lb)]⟩],[]⟩) ?_ ?_
 ·refine mB _ rfl (fun hc0 => ?_) (fun hc0 => ?_)
  ·try simp only [Zp,Zi,ZK,ZJ,ne_eq,Zn,Zm,ZB,ZA,ZI,not_or,not_and,Zu] at hc0
   refine iA hX hb [0,1,2] rfl (σ' := ?s4) (fun K hK => ?h4) ?n4
   case h4 =>
    (refine kA rfl (by simp (disch := omega) only [gA,aA,qop,fop,St.ev,St.put,cd,zd,Value.oneCell',lA,TypeDesc.aggB,Z0,Z1,oA,pA,qA,eA,D.pure?,ZC,ZD,sA,D.pv?,tt,Zh,lB,gt_iff_lt,rD] <;> exact rfl) ?_)
    refine jD rfl (by simp only [aA,St.ev,nB,oB,sA,D.pv?,ZG,ZH,zd,cd,Value.oneCell',Zr] <;> exact rfl) (acK hP (c31 ⟨sb,fb,lb⟩)) (by simp only [St.put,Za,Zb] <;> exact rfl) ?_
    (refine kA rfl (by simp (disch := omega) only [gA,aA,qop,fop,St.ev,St.put,cd,zd,Value.oneCell',lA,TypeDesc.aggB,Z0,Z1,oA,pA,qA,eA,D.pure?,ZC,ZD,sA,D.pv?,tt,Zh,lB,gt_iff_lt,rD] <;> exact rfl) ?_)
    refine bA ?_
    exact hK
   exact iS (sC ⟨rfl,(by repeat first | exact tA | refine qB ?_ | refine uA (by first | rfl | (first | (rw [wH,if_pos hc0]) | (rw [wH,if_neg hc0]))) ?_),(vC rfl ((by repeat first | exact tA | refine qB ?_ | refine uA (by first | rfl | (first | (rw [wH,if_pos hc0]) | (rw [wH,if_neg hc0]))) ?_)) (vC rfl ((by repeat first | exact tA | refine qB ?_ | refine uA (by first | rfl | (first | (rw [wH,if_pos hc0]) | (rw [wH,if_neg hc0]))) ?_)) (wB _))),(xB _),rfl,rfl⟩)
  ·try simp only [Zp,Zi,ZK,ZJ,ne_eq,Zn,Zm,ZB,ZA,ZI,not_or,not_and,Zu] at hc0
   refine tB ?_
   exact iS (sC ⟨rfl,(by repeat first | exact tA | refine qB ?_ | refine uA (by first | rfl | (first | (rw [wH,if_pos hc0]) | (rw [wH,if_neg hc0]))) ?_),(vC rfl ((by repeat first | exact tA | refine qB ?_ | refine uA (by first | rfl | (first | (rw [wH,if_pos hc0]) | (rw [wH,if_neg hc0]))) ?_)) (vC rfl ((by repeat first | exact tA | refine qB ?_ | refine uA (by first | rfl | (first | (rw [wH,if_pos hc0]) | (rw [wH,if_neg hc0]))) ?_)) (wB _))),(xB _),rfl,rfl⟩)
 refine jA ?_
 refine fA ?_
 refine fA ?_
 refine nE hX hb [0,1,2,3,4,5,6,7,8,9,10,11,12,13,14,15] rfl (ts := [21,22,23,24,25,26,27,28,29,30,31,32,33,34,35]) (t := 36) (d := .p (bv (wH ⟨sa,fa,la⟩ ⟨sb,fb,lb⟩ = 0 ∧ (sa ≠ sb ∨ fa ≠ fb)))) (σ' := ?s5) ?j5 ?h5 ?n5
 case j5 => simp only [St.join,List.foldl,Za,Zb]; exact rfl
 case h5 =>
  iterate 3 (all_goals refine kA rfl (by simp (disch := omega) only [gA,aA,qop,fop,St.ev,St.put,cd,zd,Value.oneCell',lA,TypeDesc.aggB,Z0,yA,iop,cA,mA,Z1,oA,pA,qA,eA,D.pure?,ZC,ZD,tt,Zh,lB,gt_iff_lt,rD] <;> exact rfl) ?_)
  iterate 12 (all_goals first | (refine fC rfl rfl rfl (by simp (disch := omega) only [gA,aA,qop,fop,St.ev,St.put,cd,zd,Value.oneCell',lA,TypeDesc.aggB,Z0,yA,iop,cA,mA,Z1,oA,pA,qA,eA,D.pure?,ZC,ZD,tt,Zh,lB,gt_iff_lt,rD] <;> exact rfl) ?_) | (first | (refine zB rfl rfl rfl (by simp only [St.put,Za,Zb] <;> exact rfl) ?_) | (refine aC rfl rfl rfl (by simp only [St.put,Za,Zb] <;> exact rfl) ?_)) | (refine yB rfl rfl rfl (by simp only [Za,Zb] <;> exact rfl) (by simp only [Za,Zb] <;> exact rfl) (fun hg => ?_) (fun hg => ?_) <;> (try simp only [Zp,Zi,ZJ,ZK,ne_eq,Zn,Zm,Bool.not_eq_true,Zu] at hg) <;> first | (refine fC rfl rfl rfl (by simp (disch := omega) only [gA,aA,qop,fop,St.ev,St.put,cd,zd,Value.oneCell',lA,TypeDesc.aggB,Z0,yA,iop,cA,mA,Z1,oA,pA,qA,eA,D.pure?,ZC,ZD,tt,Zh,lB,gt_iff_lt,rD] <;> exact rfl) ?_) | (first | (refine zB rfl rfl rfl (by simp only [St.put,Za,Zb] <;> exact rfl) ?_) | (refine aC rfl rfl rfl (by simp only [St.put,Za,Zb] <;> exact rfl) ?_))))
  (all_goals refine kA rfl (by simp (disch := omega) only [gA,aA,qop,fop,St.ev,St.put,cd,zd,Value.oneCell',lA,TypeDesc.aggB,Z0,yA,iop,cA,mA,Z1,oA,pA,qA,eA,D.pure?,ZC,ZD,tt,Zh,lB,gt_iff_lt,rD] <;> exact rfl) ?_)
  all_goals refine bA ?_
  all_goals refine ⟨rfl,?_,pD _,qD _,rfl,rfl⟩
  all_goals repeat' (first | exact tA | refine qB ?_ | refine uA rfl ?_ | refine uA ?_ ?_)
  all_goals refine jn ?_
  all_goals ((try simp only [Zp,Zi,ZJ,ZK,Bool.not_eq_true,Zm,Zn,ne_eq,Zf,true_iff,false_iff,iff_true,iff_false] at *) <;> first | omega | (simp_all; done) | (simp_all; omega))
 refine jA ?_
 refine bV (σ' := ⟨[],[.any,.any,.any,.any,.any,.any,.any,.any,.any,.p (i64 (bJ ⟨sa,fa,la⟩ ⟨sb,fb,lb⟩)),.any,.any,.any,.any,.any,.any,.any,.any,.any,.any,.any,.any,.any,.any,.any,.any,.any,.any,.any,.any,.any,.any,.any,.any,.any,.any,.any,.any,.any,.any,.any,.any,.any,.any,.any,.any,.any,.any,.any,.any,.any,.any,.any,.any,.any,.any,.any,.any,.any,.any,.any,.any,.any,.any,.any,.any,.any,.any],[],[]⟩) ?_ ?_
 ·refine mB _ rfl (fun hc1 => ?_) (fun hc1 => ?_)
  ·try simp only [Zp,Zi,ZK,ZJ,ne_eq,Zn,Zm,ZB,ZA,ZI,not_or,not_and,Zu] at hc1
   refine iA hX hb [0] rfl (σ' := ?s6) (fun K hK => ?h6) ?n6
   case h6 =>
    (refine kA rfl (by simp (disch := omega) only [gA,aA,qop,fop,St.ev,St.put,cd,zd,Value.oneCell',lA,TypeDesc.aggB,Z0,tt,Zh,lB,gt_iff_lt,rD] <;> exact rfl) ?_)
    refine bA ?_
    exact hK
   exact iS (sC ⟨rfl,(by repeat first | exact tA | refine qB ?_ | refine uA (by first | rfl | (first | (rw [bJ,if_pos (show wH ⟨sa,fa,la⟩ ⟨sb,fb,lb⟩ = 0 ∧ (sa ≠ sb ∨ fa ≠ fb) from hc1)]) | (rw [bJ,if_neg (show ¬ (wH ⟨sa,fa,la⟩ ⟨sb,fb,lb⟩ = 0 ∧ (sa ≠ sb ∨ fa ≠ fb)) by simpa using hc1)]))) ?_),(wB _),(xB _),rfl,rfl⟩)
  ·try simp only [Zp,Zi,ZK,ZJ,ne_eq,Zn,Zm,ZB,ZA,ZI,not_or,not_and,Zu] at hc1
   refine tB ?_
   exact iS (sC ⟨rfl,(by repeat first | exact tA | refine qB ?_ | refine uA (by first | rfl | (first | (rw [bJ,if_pos (show wH ⟨sa,fa,la⟩ ⟨sb,fb,lb⟩ = 0 ∧ (sa ≠ sb ∨ fa ≠ fb) from hc1)]) | (rw [bJ,if_neg (show ¬ (wH ⟨sa,fa,la⟩ ⟨sb,fb,lb⟩ = 0 ∧ (sa ≠ sb ∨ fa ≠ fb)) by simpa using hc1)]))) ?_),(wB _),(xB _),rfl,rfl⟩)
 refine jA ?_
 refine fA ?_
 refine uB ?_
 refine vD (ι := Unit) (fun u => True) (fun u => ⟨[],[.any,.any,.any,.any,.any,.any,.any,.any,.any,.p (i64 (bJ ⟨sa,fa,la⟩ ⟨sb,fb,lb⟩)),.any,.any,.any,.any,.any,.any,.any,.any,.any,.any,.any,.any,.any,.any,.any,.any,.any,.any,.any,.any,.any,.any,.any,.any,.any,.any,.any,.any,.any,.any,.any,.any,.any,.any,.any,.any,.any,.any,.any,.any,.any,.any,.any,.any,.any,.any,.any,.any,.any,.any,.any,.any,.any,.any,.any,.any,.any,.any],[],[]⟩) (fun u => 0) () (by trivial) (sC ⟨rfl,(by repeat first | exact tA | refine qB ?_ | refine uA rfl ?_),(wB _),(xB _),rfl,rfl⟩) ?_
 rintro u hJ
 have hE9 : ((bJ ⟨sa,fa,la⟩ ⟨sb,fb,lb⟩ : Int) == 0) = false := beq_eq_false_iff_ne.2 hE
 refine fA ?_
 refine fA ?_
 refine iA hX hb [0,1,2,3,4,5,6] rfl (σ' := ?s7) (fun K hK => ?h7) ?n7
 case h7 =>
  iterate 3 (refine kA rfl (by simp (disch := omega) only [gA,aA,qop,fop,St.ev,St.put,cd,zd,Value.oneCell',lA,TypeDesc.aggB,Z0,yA,iop,mC,tt,Zh,lB,gt_iff_lt,rD,hE9,beq_self_eq_true,decide_true,eq_self,bne_self_eq_false] <;> exact rfl) ?_)
  iterate 3 (all_goals first | (refine fC rfl rfl rfl (by simp (disch := omega) only [gA,aA,qop,fop,St.ev,St.put,cd,zd,Value.oneCell',lA,TypeDesc.aggB,Z0,yA,iop,mC,tt,Zh,lB,gt_iff_lt,rD,hE9,beq_self_eq_true,decide_true,eq_self,bne_self_eq_false] <;> exact rfl) ?_) | (first | (refine zB rfl rfl rfl (by simp only [St.put,Za,Zb] <;> exact rfl) ?_) | (refine aC rfl rfl rfl (by simp only [St.put,Za,Zb] <;> exact rfl) ?_)) | (refine yB rfl rfl rfl (by simp only [Za,Zb] <;> exact rfl) (by simp only [Za,Zb] <;> exact rfl) (fun hg => ?_) (fun hg => ?_) <;> (try simp only [Zp,Zi,ZJ,ZK,ne_eq,Zn,Zm,Bool.not_eq_true,Zu] at hg) <;> first | (refine fC rfl rfl rfl (by simp (disch := omega) only [gA,aA,qop,fop,St.ev,St.put,cd,zd,Value.oneCell',lA,TypeDesc.aggB,Z0,yA,iop,mC,tt,Zh,lB,gt_iff_lt,rD,hE9,beq_self_eq_true,decide_true,eq_self,bne_self_eq_false] <;> exact rfl) ?_) | (first | (refine zB rfl rfl rfl (by simp only [St.put,Za,Zb] <;> exact rfl) ?_) | (refine aC rfl rfl rfl (by simp only [St.put,Za,Zb] <;> exact rfl) ?_))))
  (refine kA rfl (by simp (disch := omega) only [gA,aA,qop,fop,St.ev,St.put,cd,zd,Value.oneCell',lA,TypeDesc.aggB,Z0,yA,iop,mC,tt,Zh,lB,gt_iff_lt,rD,hE9,beq_self_eq_true,decide_true,eq_self,bne_self_eq_false] <;> exact rfl) ?_)
  refine bA ?_
  exact hK
 refine jA ?_
 refine mB _ rfl (fun hc2 => ?_) (fun hc2 => ?_)
 ·try simp only [Zp,Zi,ZK,ZJ,ne_eq,Zn,Zm,ZB,ZA,ZI,not_or,not_and,Zu] at hc2
  cases hc2
 ·try simp only [Zp,Zi,ZK,ZJ,ne_eq,Zn,Zm,ZB,ZA,ZI,not_or,not_and,Zu] at hc2
  refine sD ?_
  refine fD ?_
  refine fD ?_
  refine dF ?_
  refine jA ?_
  refine fA ?_
  refine fA ?_
  refine iA hX hb [0,1] rfl (σ' := ?s8) (fun K hK => ?h8) ?n8
  case h8 =>
   iterate 2 (refine kA rfl (by simp (disch := omega) only [gA,aA,qop,fop,St.ev,St.put,cd,zd,Value.oneCell',lA,TypeDesc.aggB,Z0,yA,iop,t27,oT,Zh,lB,gt_iff_lt,rD] <;> exact rfl) ?_)
   refine bA ?_
   exact hK
  refine jA ?_
  refine mB _ rfl (fun hc4 => ?_) (fun hc4 => ?_)
  ·try simp only [Zp,Zi,ZK,ZJ,ne_eq,Zn,Zm,ZB,ZA,ZI,not_or,not_and,Zu] at hc4
   refine fA ?_
   refine iA hX hb [0,1,2,3] rfl (σ' := ?s9) (fun K hK => ?h9) ?n9
   case h9 =>
    iterate 4 (refine kA rfl (by simp (disch := omega) only [gA,aA,qop,fop,St.ev,St.put,cd,zd,Value.oneCell',lA,TypeDesc.aggB,Z0,tt,Zh,lB,gt_iff_lt,rD] <;> exact rfl) ?_)
    refine bA ?_
    exact hK
   refine jA ?_
   refine bC ?_
   refine nC ?_
   exact tC rfl (cF rfl rfl rfl (by first | rfl | (rw [tFA (a := ⟨sa,fa,la⟩) (b := ⟨sb,fb,lb⟩) hE] <;> rfl)))
  ·try simp only [Zp,Zi,ZK,ZJ,ne_eq,Zn,Zm,ZB,ZA,ZI,not_or,not_and,Zu] at hc4
   exact absurd hc4 hE
theorem jPA (a b : Tr) (ht : ∀ r ∈ a.lv,mJ r) (hE : bJ a b = 0) : ACalls Try.prog 57 [trP a,trP b] (.tup [.p (uC (sM a b).1),.p (i64 (sM a b).2.1),.p (i64 (sM a b).2.2)]) := by
 obtain ⟨sa,fa,la⟩ := a
 obtain ⟨sb,fb,lb⟩ := b
 dsimp only at ht
 refine oC jC Try.func57 (c := _) rfl (by kernel_rfl) ?_
 intro X hP hX hro hpl
 have hb : tb.Ok X.P := hP ▸ jC
 change AW X _ _ ⟨[],[.agg [i64 sa,i64 fa,xD la],.agg [i64 sb,i64 fb,xD lb],.any,.any,.any,.any,.any,.any,.any,.any,.any,.any,.any,.any,.any,.any,.any,.any,.any,.any,.any,.any,.any,.any,.any,.any,.any,.any,.any,.any,.any,.any,.any,.any,.any,.any,.any,.any,.any,.any,.any,.any,.any,.any,.any,.any,.any,.any,.any,.any,.any,.any,.any,.any,.any,.any,.any,.any,.any,.any,.any,.any,.any,.any,.any,.any,.any,.any],[],[]⟩
 obtain ⟨ha,hbk,hs,hf⟩ := gIA hE
 dsimp only at hs hf
 subst hs
 subst hf
 have h0 : Rn ⟨sa,fa,la⟩ ⟨sa,fa,lb⟩ 0 := ⟨ha,hbk,rfl,rfl,ht,oGA _ ha⟩
 have h31 : ACalls Try.prog 31 [trP ⟨sa,fa,lb⟩] (.p (i64 0)) := by have := c31 ⟨sa,fa,lb⟩; rwa [hbk] at this
 refine fA ?_
 refine iA hX hb [0,1,2,3,4] rfl (σ' := ?s1) (fun K hK => ?h1) ?n1
 case h1 =>
  iterate 5 (refine kA rfl (by simp (disch := omega) only [gA,aA,qop,fop,St.ev,St.put,cd,zd,Value.oneCell',lA,TypeDesc.aggB,Z0,ZM,ZL,Zl,Zo,ZG,ZH,St.addBox,D.boxCells,D.live,tt,Zh,lB,gt_iff_lt,rD,beq_self_eq_true,decide_true,eq_self,bne_self_eq_false] <;> exact rfl) ?_)
  refine bA ?_
  exact hK
 refine jA ?_
 refine fA ?_
 refine iA hX hb [0,1,2,3,4,5,6,7,8,9] rfl (σ' := ?s2) (fun K hK => ?h2) ?n2
 case h2 =>
  (refine kA rfl (by simp (disch := omega) only [gA,aA,qop,fop,St.ev,St.put,cd,zd,Value.oneCell',lA,TypeDesc.aggB,Z0,Z1,oA,pA,qA,eA,D.pure?,ZC,ZD,sA,D.pv?,nJ,PV.d,ZM,ZL,ZG,ZH,St.addBox,Value.cells,iC,D.boxCells,D.live,D.cells?,ZN,St.setVec,tt,Zh,lB,gt_iff_lt,rD,beq_self_eq_true,decide_true,eq_self,bne_self_eq_false] <;> exact rfl) ?_)
  refine jD rfl (by simp only [aA,St.ev,nB,oB,sA,D.pv?,ZG,ZH,zd,cd,Value.oneCell',Zr] <;> exact rfl) (acK hP (hPA ha)) (by simp only [St.put,Za,Zb] <;> exact rfl) ?_
  iterate 8 (refine kA rfl (by simp (disch := omega) only [gA,aA,qop,fop,St.ev,St.put,cd,zd,Value.oneCell',lA,TypeDesc.aggB,Z0,Z1,oA,pA,qA,eA,D.pure?,ZC,ZD,sA,D.pv?,nJ,PV.d,ZM,ZL,ZG,ZH,St.addBox,Value.cells,iC,D.boxCells,D.live,D.cells?,ZN,St.setVec,tt,Zh,lB,gt_iff_lt,rD,beq_self_eq_true,decide_true,eq_self,bne_self_eq_false] <;> exact rfl) ?_)
  refine bA ?_
  exact hK
 refine jA ?_
 refine fA ?_
 refine fA ?_
 refine iA hX hb [0,1] rfl (σ' := ?s3) (fun K hK => ?h3) ?n3
 case h3 =>
  iterate 2 (refine kA rfl (by simp (disch := omega) only [gA,aA,qop,fop,St.ev,St.put,cd,zd,Value.oneCell',lA,TypeDesc.aggB,Z0,yA,iop,t27,oT,Zh,lB,gt_iff_lt,rD,beq_self_eq_true,decide_true,eq_self,bne_self_eq_false] <;> exact rfl) ?_)
  refine bA ?_
  exact hK
 refine jA ?_
 refine mB _ rfl (fun hc0 => ?_) (fun hc0 => ?_)
 ·try simp only [Zp,Zi,ZK,ZJ,ne_eq,Zn,Zm,ZB,ZA,ZI,not_or,not_and,Zu] at hc0
  refine iA hX hb [0,1,2] rfl (σ' := ?s4) (fun K hK => ?h4) ?n4
  case h4 =>
   (refine kA rfl (by simp (disch := omega) only [gA,aA,qop,fop,St.ev,St.put,cd,zd,Value.oneCell',lA,TypeDesc.aggB,Z0,Z1,oA,pA,qA,eA,D.pure?,ZC,ZD,sA,D.pv?,tt,Zh,lB,gt_iff_lt,rD,beq_self_eq_true,decide_true,eq_self,bne_self_eq_false] <;> exact rfl) ?_)
   refine jD rfl (by simp only [aA,St.ev,nB,oB,sA,D.pv?,ZG,ZH,zd,cd,Value.oneCell',Zr] <;> exact rfl) (acK hP (h31)) (by simp only [St.put,Za,Zb] <;> exact rfl) ?_
   (refine kA rfl (by simp (disch := omega) only [gA,aA,qop,fop,St.ev,St.put,cd,zd,Value.oneCell',lA,TypeDesc.aggB,Z0,Z1,oA,pA,qA,eA,D.pure?,ZC,ZD,sA,D.pv?,tt,Zh,lB,gt_iff_lt,rD,beq_self_eq_true,decide_true,eq_self,bne_self_eq_false] <;> exact rfl) ?_)
   refine bA ?_
   exact hK
  refine jA ?_
  refine fA ?_
  refine fA ?_
  refine iA hX hb [0,1,2,3,4,5,6,7,8,9,10,11,12,13,14,15] rfl (σ' := ?s5) (fun K hK => ?h5) ?n5
  case h5 =>
   iterate 3 (refine kA rfl (by simp (disch := omega) only [gA,aA,qop,fop,St.ev,St.put,cd,zd,Value.oneCell',lA,TypeDesc.aggB,Z0,yA,iop,cA,mA,Z1,oA,pA,qA,eA,D.pure?,ZC,ZD,tt,Zh,lB,gt_iff_lt,rD,beq_self_eq_true,decide_true,eq_self,bne_self_eq_false] <;> exact rfl) ?_)
   iterate 12 (all_goals first | (refine fC rfl rfl rfl (by simp (disch := omega) only [gA,aA,qop,fop,St.ev,St.put,cd,zd,Value.oneCell',lA,TypeDesc.aggB,Z0,yA,iop,cA,mA,Z1,oA,pA,qA,eA,D.pure?,ZC,ZD,tt,Zh,lB,gt_iff_lt,rD,beq_self_eq_true,decide_true,eq_self,bne_self_eq_false] <;> exact rfl) ?_) | (first | (refine zB rfl rfl rfl (by simp only [St.put,Za,Zb] <;> exact rfl) ?_) | (refine aC rfl rfl rfl (by simp only [St.put,Za,Zb] <;> exact rfl) ?_)) | (refine yB rfl rfl rfl (by simp only [Za,Zb] <;> exact rfl) (by simp only [Za,Zb] <;> exact rfl) (fun hg => ?_) (fun hg => ?_) <;> (try simp only [Zp,Zi,ZJ,ZK,ne_eq,Zn,Zm,Bool.not_eq_true,Zu] at hg) <;> first | (refine fC rfl rfl rfl (by simp (disch := omega) only [gA,aA,qop,fop,St.ev,St.put,cd,zd,Value.oneCell',lA,TypeDesc.aggB,Z0,yA,iop,cA,mA,Z1,oA,pA,qA,eA,D.pure?,ZC,ZD,tt,Zh,lB,gt_iff_lt,rD,beq_self_eq_true,decide_true,eq_self,bne_self_eq_false] <;> exact rfl) ?_) | (first | (refine zB rfl rfl rfl (by simp only [St.put,Za,Zb] <;> exact rfl) ?_) | (refine aC rfl rfl rfl (by simp only [St.put,Za,Zb] <;> exact rfl) ?_))))
   (refine kA rfl (by simp (disch := omega) only [gA,aA,qop,fop,St.ev,St.put,cd,zd,Value.oneCell',lA,TypeDesc.aggB,Z0,yA,iop,cA,mA,Z1,oA,pA,qA,eA,D.pure?,ZC,ZD,tt,Zh,lB,gt_iff_lt,rD,beq_self_eq_true,decide_true,eq_self,bne_self_eq_false] <;> exact rfl) ?_)
   refine bA ?_
   exact hK
  refine jA ?_
  refine mB _ rfl (fun hc1 => ?_) (fun hc1 => ?_)
  ·try simp only [Zp,Zi,ZK,ZJ,ne_eq,Zn,Zm,ZB,ZA,ZI,not_or,not_and,Zu] at hc1
   cases hc1
  ·try simp only [Zp,Zi,ZK,ZJ,ne_eq,Zn,Zm,ZB,ZA,ZI,not_or,not_and,Zu] at hc1
   refine tB ?_
   refine jA ?_
   refine fA ?_
   refine uB ?_
   refine vD (ι := Nat) (fun i => i ≤ la.length ∧ Rn ⟨sa,fa,la⟩ ⟨sa,fa,lb⟩ i) (fun i => ⟨[],[.any,.any,.any,.ptr 1 0,.any,.any,.any,.ptr 2 0,.p (zM (dW (itW ⟨sa,fa,lb⟩ (lE ⟨sa,fa,la⟩) i))),.p (i64 0),.any,.any,.any,.any,.any,.any,.any,.any,.any,.any,.any,.any,.any,.any,.any,.any,.any,.any,.any,.any,.any,.any,.any,.any,.any,.any,.any,.any,.any,.any,.any,.any,.any,.any,.any,.any,.any,.any,.any,.any,.any,.any,.any,.any,.any,.any,.any,.any,.any,.any,.any,.any,.any,.any,.any,.any,.any,.any],[⟨26,[.p (i64 sa),.p (i64 fa),.p (xD la)]⟩,⟨26,[.p (i64 sa),.p (i64 fa),.p (xD lb)]⟩,⟨75,[.p (i64 (itW ⟨sa,fa,lb⟩ (lE ⟨sa,fa,la⟩) i).tree.size),.p (i64 (itW ⟨sa,fa,lb⟩ (lE ⟨sa,fa,la⟩) i).tree.leaf),.p (xD (itW ⟨sa,fa,lb⟩ (lE ⟨sa,fa,la⟩) i).tree.lv),.p (uC (itW ⟨sa,fa,lb⟩ (lE ⟨sa,fa,la⟩) i).pend),.p (i64 (itW ⟨sa,fa,lb⟩ (lE ⟨sa,fa,la⟩) i).level),.p (uC (itW ⟨sa,fa,lb⟩ (lE ⟨sa,fa,la⟩) i).found),.p (i64 (itW ⟨sa,fa,lb⟩ (lE ⟨sa,fa,la⟩) i).sent),.p (bv (itW ⟨sa,fa,lb⟩ (lE ⟨sa,fa,la⟩) i).done)]⟩],[]⟩) (fun i => la.length - i) 0 (by exact ⟨Nat.zero_le _,h0⟩) (sC ⟨rfl,(by repeat first | exact tA | refine qB ?_ | refine uA rfl ?_),(vC rfl (uA rfl (uA rfl (uA rfl (tA)))) (vC rfl (uA rfl (uA rfl (uA rfl (tA)))) (vC rfl (uA rfl (uA rfl (uA rfl (uA rfl (uA rfl (uA rfl (uA rfl (uA rfl (tA))))))))) (wB _)))),(xB _),rfl,rfl⟩) ?_
   rintro i ⟨hi,hR⟩
   refine fA ?_
   refine fA ?_
   refine iA hX hb [0,1,2,3,4,5,6] rfl (σ' := ?s6) (fun K hK => ?h6) ?n6
   case h6 =>
    iterate 3 (refine kA rfl (by simp (disch := omega) only [gA,aA,qop,fop,St.ev,St.put,cd,zd,Value.oneCell',lA,TypeDesc.aggB,Z0,yA,iop,mC,tt,Zh,lB,gt_iff_lt,rD,beq_self_eq_true,decide_true,eq_self,bne_self_eq_false] <;> exact rfl) ?_)
    iterate 3 (all_goals first | (refine fC rfl rfl rfl (by simp (disch := omega) only [gA,aA,qop,fop,St.ev,St.put,cd,zd,Value.oneCell',lA,TypeDesc.aggB,Z0,yA,iop,mC,tt,Zh,lB,gt_iff_lt,rD,beq_self_eq_true,decide_true,eq_self,bne_self_eq_false] <;> exact rfl) ?_) | (first | (refine zB rfl rfl rfl (by simp only [St.put,Za,Zb] <;> exact rfl) ?_) | (refine aC rfl rfl rfl (by simp only [St.put,Za,Zb] <;> exact rfl) ?_)) | (refine yB rfl rfl rfl (by simp only [Za,Zb] <;> exact rfl) (by simp only [Za,Zb] <;> exact rfl) (fun hg => ?_) (fun hg => ?_) <;> (try simp only [Zp,Zi,ZJ,ZK,ne_eq,Zn,Zm,Bool.not_eq_true,Zu] at hg) <;> first | (refine fC rfl rfl rfl (by simp (disch := omega) only [gA,aA,qop,fop,St.ev,St.put,cd,zd,Value.oneCell',lA,TypeDesc.aggB,Z0,yA,iop,mC,tt,Zh,lB,gt_iff_lt,rD,beq_self_eq_true,decide_true,eq_self,bne_self_eq_false] <;> exact rfl) ?_) | (first | (refine zB rfl rfl rfl (by simp only [St.put,Za,Zb] <;> exact rfl) ?_) | (refine aC rfl rfl rfl (by simp only [St.put,Za,Zb] <;> exact rfl) ?_))))
    (refine kA rfl (by simp (disch := omega) only [gA,aA,qop,fop,St.ev,St.put,cd,zd,Value.oneCell',lA,TypeDesc.aggB,Z0,yA,iop,mC,tt,Zh,lB,gt_iff_lt,rD,beq_self_eq_true,decide_true,eq_self,bne_self_eq_false] <;> exact rfl) ?_)
    refine bA ?_
    exact hK
   refine jA ?_
   refine mB _ rfl (fun hc2 => ?_) (fun hc2 => ?_)
   ·try simp only [Zp,Zi,ZK,ZJ,ne_eq,Zn,Zm,ZB,ZA,ZI,not_or,not_and,Zu] at hc2
    have hd : (itW ⟨sa,fa,lb⟩ (lE ⟨sa,fa,la⟩) i).done = false := (aY _).1 hc2
    have hlm := qFA hd
    obtain ⟨hn,hil⟩ := hR.next hd
    dsimp only at hil
    refine tB ?_
    refine jA ?_
    refine uB ?_
    refine fA ?_
    refine iA hX hb [0] rfl (σ' := ?s7) (fun K hK => ?h7) ?n7
    case h7 =>
     (refine kA rfl (by simp (disch := omega) only [gA,aA,qop,fop,St.ev,St.put,cd,zd,Value.oneCell',lA,TypeDesc.aggB,Z0,ZM,ZL,Zl,Zo,ZG,ZH,St.addBox,Value.cells,tt,Zh,lB,gt_iff_lt,rD,beq_self_eq_true,decide_true,eq_self,bne_self_eq_false] <;> exact rfl) ?_)
     refine bA ?_
     exact hK
    refine jA ?_
    refine fA ?_
    refine bF hX hb (gD hP) [(0,true),(1,true),(2,true),(3,true),(4,false),(5,true),(6,true),(7,true),(8,false),(9,true)] (by kernel_rfl) (σ' := ?s8) (fun K hK => ?h8) ?n8
    case h8 =>
     iterate 4 (refine xE rfl (by simp (disch := omega) only [qop,fop,St.ev,St.put,cd,zd,Value.oneCell',lA,TypeDesc.aggB,Z0,Z1,oA,pA,qA,eA,D.pure?,ZC,ZD,Int.toNat_zero,Int.toNat_one,wA,xA,vA,ZO,Nat.mul_one,Nat.zero_mul,Zh,sA,D.pv?,nJ,PV.d,iC,D.boxCells,D.live,D.cells?,ZM,ZL,ZN,ZG,ZH,St.setVec,tt,lB,gt_iff_lt,rD,beq_self_eq_true,decide_true,eq_self,bne_self_eq_false,hlm,cO] <;> exact rfl) (by simp only [St.put,Za,Zb] <;> exact rfl) ?_)
     refine pG rfl (by simp only [aA,St.ev,nB,oB,sA,D.pv?,ZG,ZH,zd,cd,Value.oneCell',Zr] <;> exact rfl) (acK hP (k52 hR hd)) (by simp only [St.put,Za,Zb] <;> exact rfl) ?_
     iterate 3 (refine xE rfl (by simp (disch := omega) only [qop,fop,St.ev,St.put,cd,zd,Value.oneCell',lA,TypeDesc.aggB,Z0,Z1,oA,pA,qA,eA,D.pure?,ZC,ZD,Int.toNat_zero,Int.toNat_one,wA,xA,vA,ZO,Nat.mul_one,Nat.zero_mul,Zh,sA,D.pv?,nJ,PV.d,iC,D.boxCells,D.live,D.cells?,ZM,ZL,ZN,ZG,ZH,St.setVec,tt,lB,gt_iff_lt,rD,beq_self_eq_true,decide_true,eq_self,bne_self_eq_false,hlm,cO] <;> exact rfl) (by simp only [St.put,Za,Zb] <;> exact rfl) ?_)
     (refine vG rfl (by simp (disch := omega) only [gA,aA,qop,fop,St.ev,St.put,cd,zd,Value.oneCell',lA,TypeDesc.aggB,Z0,Z1,oA,pA,qA,eA,D.pure?,ZC,ZD,Int.toNat_zero,Int.toNat_one,wA,xA,vA,ZO,Nat.mul_one,Nat.zero_mul,Zh,sA,D.pv?,nJ,PV.d,iC,D.boxCells,D.live,D.cells?,ZM,ZL,ZN,ZG,ZH,St.setVec,tt,lB,gt_iff_lt,rD,beq_self_eq_true,decide_true,eq_self,bne_self_eq_false,hlm,cO] <;> exact rfl) ?_)
     (refine xE rfl (by simp (disch := omega) only [qop,fop,St.ev,St.put,cd,zd,Value.oneCell',lA,TypeDesc.aggB,Z0,Z1,oA,pA,qA,eA,D.pure?,ZC,ZD,Int.toNat_zero,Int.toNat_one,wA,xA,vA,ZO,Nat.mul_one,Nat.zero_mul,Zh,sA,D.pv?,nJ,PV.d,iC,D.boxCells,D.live,D.cells?,ZM,ZL,ZN,ZG,ZH,St.setVec,tt,lB,gt_iff_lt,rD,beq_self_eq_true,decide_true,eq_self,bne_self_eq_false,hlm,cO] <;> exact rfl) (by simp only [St.put,Za,Zb] <;> exact rfl) ?_)
     refine qC ?_
     exact hK
    refine jA ?_
    refine fA ?_
    refine iA hX hb [0,1] rfl (σ' := ?s9) (fun K hK => ?h9) ?n9
    case h9 =>
     iterate 2 (refine kA rfl (by simp (disch := omega) only [gA,aA,qop,fop,St.ev,St.put,cd,zd,Value.oneCell',lA,TypeDesc.aggB,Z0,yA,iop,t27,oT,Zh,lB,gt_iff_lt,rD,beq_self_eq_true,decide_true,eq_self,bne_self_eq_false] <;> exact rfl) ?_)
     refine bA ?_
     exact hK
    refine jA ?_
    refine mB _ rfl (fun hc3 => ?_) (fun hc3 => ?_)
    ·try simp only [Zp,Zi,ZK,ZJ,ne_eq,Zn,Zm,ZB,ZA,ZI,not_or,not_and,Zu] at hc3
     refine iA hX hb [0,1,2,3,4,5,6,7,8,9] rfl (σ' := ?s10) (fun K hK => ?h10) ?n10
     case h10 =>
      iterate 2 (refine kA rfl (by simp (disch := omega) only [gA,aA,qop,fop,St.ev,St.put,cd,zd,Value.oneCell',lA,TypeDesc.aggB,Z0,Z1,oA,pA,qA,eA,D.pure?,ZC,ZD,sA,D.pv?,nJ,PV.d,iC,D.boxCells,D.live,D.cells?,ZM,ZL,ZN,ZG,ZH,St.setVec,tt,Zh,lB,gt_iff_lt,rD,beq_self_eq_true,decide_true,eq_self,bne_self_eq_false] <;> exact rfl) ?_)
      refine jD rfl (by simp only [aA,St.ev,nB,oB,sA,D.pv?,ZG,ZH,zd,cd,Value.oneCell',Zr] <;> exact rfl) (acK hP (k55 hR hd)) (by simp only [St.put,Za,Zb] <;> exact rfl) ?_
      iterate 7 (refine kA rfl (by simp (disch := omega) only [gA,aA,qop,fop,St.ev,St.put,cd,zd,Value.oneCell',lA,TypeDesc.aggB,Z0,Z1,oA,pA,qA,eA,D.pure?,ZC,ZD,sA,D.pv?,nJ,PV.d,iC,D.boxCells,D.live,D.cells?,ZM,ZL,ZN,ZG,ZH,St.setVec,tt,Zh,lB,gt_iff_lt,rD,beq_self_eq_true,decide_true,eq_self,bne_self_eq_false] <;> exact rfl) ?_)
      refine bA ?_
      exact hK
     refine dE ?_
     refine jA ?_
     exact ⟨i + 1,by exact ⟨hil,hn⟩,by (try dsimp only); omega,sC ⟨rfl,(by repeat first | exact tA | refine qB ?_ | refine uA rfl ?_),(vC rfl (uA rfl (uA rfl (uA rfl (tA)))) (vC rfl (uA rfl (uA rfl (uA rfl (tA)))) (vC rfl (uA rfl (uA rfl (uA rfl (uA rfl (uA rfl (uA rfl (uA rfl (uA rfl (tA))))))))) (wB _)))),(xB _),rfl,rfl⟩⟩
    ·try simp only [Zp,Zi,ZK,ZJ,ne_eq,Zn,Zm,ZB,ZA,ZI,not_or,not_and,Zu] at hc3
     cases hc3
   ·try simp only [Zp,Zi,ZK,ZJ,ne_eq,Zn,Zm,ZB,ZA,ZI,not_or,not_and,Zu] at hc2
    refine sD ?_
    refine fD ?_
    refine fD ?_
    refine dF ?_
    refine jA ?_
    refine fA ?_
    refine fA ?_
    refine iA hX hb [0,1] rfl (σ' := ?s11) (fun K hK => ?h11) ?n11
    case h11 =>
     iterate 2 (refine kA rfl (by simp (disch := omega) only [gA,aA,qop,fop,St.ev,St.put,cd,zd,Value.oneCell',lA,TypeDesc.aggB,Z0,yA,iop,t27,oT,Zh,lB,gt_iff_lt,rD,beq_self_eq_true,decide_true,eq_self,bne_self_eq_false] <;> exact rfl) ?_)
     refine bA ?_
     exact hK
    refine jA ?_
    refine mB _ rfl (fun hc4 => ?_) (fun hc4 => ?_)
    ·try simp only [Zp,Zi,ZK,ZJ,ne_eq,Zn,Zm,ZB,ZA,ZI,not_or,not_and,Zu] at hc4
     cases hc4
    ·try simp only [Zp,Zi,ZK,ZJ,ne_eq,Zn,Zm,ZB,ZA,ZI,not_or,not_and,Zu] at hc4
     refine tB ?_
     refine jA ?_
     refine fA ?_
     refine bF hX hb (gD hP) [(0,true),(1,true),(2,true),(3,true),(4,true),(5,true),(6,true)] (by kernel_rfl) (σ' := ?s12) (fun K hK => ?h12) ?n12
     case h12 =>
      iterate 7 (refine xE rfl (by simp (disch := omega) only [qop,fop,St.ev,St.put,cd,zd,Value.oneCell',lA,TypeDesc.aggB,Z0,cA,mA,Z1,oA,pA,qA,eA,D.pure?,ZC,ZD,tt,Zh,lB,gt_iff_lt,rD,beq_self_eq_true,decide_true,eq_self,bne_self_eq_false] <;> exact rfl) (by simp only [St.put,Za,Zb] <;> exact rfl) ?_)
      refine qC ?_
      exact hK
     refine jA ?_
     refine bC ?_
     exact tC rfl (cF rfl rfl rfl (by first | rfl | (rw [fIA hR hi (by simpa using hc2)] <;> rfl)))
 ·try simp only [Zp,Zi,ZK,ZJ,ne_eq,Zn,Zm,ZB,ZA,ZI,not_or,not_and,Zu] at hc0
  cases hc0
theorem c57 (a b : Tr) (ht : ∀ r ∈ a.lv,mJ r) : ACalls Try.prog 57 [trP a,trP b] (.tup [.p (uC (sM a b).1),.p (i64 (sM a b).2.1),.p (i64 (sM a b).2.2)]) := by
 by_cases h : bJ a b = 0
 ·exact jPA a b ht h
 ·exact iPA a b ht h
end Go.Proofs.Ytldcoekbgfaomaa
end
section
namespace Go.Proofs.Ytldcoekbgfaomaa
theorem bY {x : Int} (hx : 0 ≤ x ∧ x ≤ 18446744073709551615) : cIA (eD x) 0 = x := by
 have hl := iD x
 refine (nFA (eQ x) (by omega) hx).2 ?_
 rw [Nat.mul_zero,List.drop_zero,List.take_of_length_le (by omega)]
theorem oEA {x y : Int} (hx : 0 ≤ x ∧ x ≤ 18446744073709551615) (hy : 0 ≤ y ∧ y ≤ 18446744073709551615) : eD x = eD y ↔ x = y :=
 ⟨fun h => by rw [← bY hx,h,bY hy],fun h => by rw [h]⟩
theorem iR (row : List Int) : ∀ (X : List Nat) (q : Nat),q < X.length → ((mF row X).drop (8 * q)).take 8 = eD (row.getD (X.getD q 0) 0)
 | [],q,h => by cases h
 | x :: X,0,_ => by
  show ((eD (row.getD x 0) ++ mF row X).drop (8 * 0)).take 8 = _
  have hl := iD (row.getD x 0)
  rw [Nat.mul_zero,List.drop_zero,List.take_append_of_le_length (by omega),List.take_of_length_le (by omega)]
  rfl
 | x :: X,q + 1,h => by
  show ((eD (row.getD x 0) ++ mF row X).drop (8 * (q + 1))).take 8 = _
  have hl := iD (row.getD x 0)
  rw [List.drop_append,List.drop_eq_nil_of_le (by omega),List.nil_append,show 8 * (q + 1) - (eD (row.getD x 0)).length = 8 * q by omega,iR row X q (by simpa using h)]
  rfl
theorem iZ (X : List Nat) : (List.range X.length).map (fun q => X.getD q 0) = X := by
 apply List.ext_getElem?
 intro j
 rw [List.getElem?_map]
 by_cases h : j < X.length
 ·rw [List.getElem?_range h,List.getElem?_eq_getElem h]
  simp [List.getD_eq_getElem?_getD,List.getElem?_eq_getElem h]
 ·rw [List.getElem?_eq_none (by simpa using h),List.getElem?_eq_none (by omega)]
  rfl
/-- Trees of words. -/
def TrW (t : Tr) : Prop := ∀ r ∈ t.lv,mJ r
theorem TrW.at {t : Tr} (h : TrW t) (k i : Nat) : 0 ≤ (t.lv.getD k []).getD i 0 ∧ (t.lv.getD k []).getD i 0 ≤ 18446744073709551615 := by
 refine zZ (P := fun x : Int => 0 ≤ x ∧ x ≤ 18446744073709551615) ?_ ⟨by decide,by decide⟩ i
 by_cases hk : k < t.lv.length
 ·exact h _ (tE _ [] k hk)
 ·rw [List.getD_eq_getElem?_getD,List.getElem?_eq_none (by omega)]
  intro x hx
  cases hx
theorem hBA {a b : Tr} (ha : TrW a) (hb : TrW b) (k : Nat) (X : List Nat) : xH (a.lv.getD k []) (mF (b.lv.getD k []) X) X X.length = tQ a b k X := by
 unfold xH tQ
 rw [List.filter_congr (q := (lM a.lv b.lv k) ∘ (fun q => X.getD q 0)) (fun q hq => ?_),← List.filter_map,iZ]
 have hq := List.mem_range.1 hq
 unfold iEA lM
 rw [iR _ _ _ hq]
 apply decide_eq_decide.2
 rw [oEA (hb.at k _) (ha.at k _)]
 exact not_congr ⟨fun h => h.symm,fun h => h.symm⟩
theorem Rn.go {a b : Tr} {i : Nat} (h : Rn a b i) (hb : TrW b) (hd : (itW b (lE a) i).done = false) {k : Nat} (hk : (itW b (lE a) i).level = (k : Int)) :
  itW b (lE a) (i + 1) = if k = 0 ∨ tQ a b k (cC (itW b (lE a) i).pend) = [] then zO (itW b (lE a) i) (tQ a b k (cC (itW b (lE a) i).pend)) else nL (itW b (lE a) i) (tQ a b k (cC (itW b (lE a) i).pend)) := by
 obtain ⟨m,dif,h1,h2,h3,h4,h5,h6,h7,h8,h9⟩ := h.hi.inv.next h.ha h.hb h.hs h.hf hd hk
 rw [gT hd,h8]
 rw [h5,hBA h.ht hb] at h6
 rw [h6]
theorem Rn.dwn {a b : Tr} {i : Nat} (h : Rn a b i) (hb : TrW b) (hd : (itW b (lE a) i).done = false) {k : Nat} (hk : (itW b (lE a) i).level = (k : Int)) {D : List Nat} (hD : tQ a b k (cC (itW b (lE a) i).pend) = D) (h1 : ¬ (k = 0 ∨ D = [])) :
  itW b (lE a) (i + 1) = nL (itW b (lE a) i) D := by
 subst hD
 rw [h.go hb hd hk,if_neg h1]
theorem Rn.fin {a b : Tr} {i : Nat} (h : Rn a b i) (hb : TrW b) (hd : (itW b (lE a) i).done = false) {k : Nat} (hk : (itW b (lE a) i).level = (k : Int)) {D : List Nat} (hD : tQ a b k (cC (itW b (lE a) i).pend) = D) (h1 : k = 0 ∨ D = []) :
  itW b (lE a) (i + 1) = zO (itW b (lE a) i) D := by
 subst hD
 rw [h.go hb hd hk,if_pos h1]
end Go.Proofs.Ytldcoekbgfaomaa
end
section
namespace Go.Proofs.Ytldcoekbgfaomaa
open Go.RowKit
set_option maxRecDepth 20000
set_option maxHeartbeats 4000000
attribute [local irreducible] jE oD AW
def LC : List (List Int) := [[1,0,0,0,0,0,0,0],[2,0,0,0,0,0,0,0],[3,0,0,0,0,0,0,0],[4,0,0,0,0,0,0,0],[6,0,0,0,0,0,0,0]]
def d6 : Int := 7697331400829685667
theorem hIA : vH [[6,0,0,0,0,0,0,0]] = d6 := by kernel_rfl
theorem pEA : lG (lG dA dB) d6 = 9847499792614691359 := by kernel_rfl
theorem uFA : mG LC 2 = (⟨5,2,lv3 dA dB d6⟩,0) := by
 rw [mG,if_neg (by decide),if_neg (by decide)]
 have h : jU LC ((2 : Int)).toNat = [dA,dB,d6] := by
  rw [← wDA,← xDA,← hIA]
  rfl
 rw [h,qS,vV]
 rfl
@[reducible] def tX : Tr := ⟨5,2,lv3 dA dB dC⟩
@[reducible] def tY : Tr := ⟨5,2,lv3 dA dB d6⟩
theorem pGA : TrW tX := by
 intro r hr
 change r ∈ [[dA,dB,dC],[lG dA dB,dC],[lG (lG dA dB) dC]] at hr
 rw [zDA,yDA] at hr
 revert r
 unfold mJ
 decide
theorem qEA : TrW tY := by
 intro r hr
 change r ∈ [[dA,dB,d6],[lG dA dB,d6],[lG (lG dA dB) d6]] at hr
 rw [pEA,yDA] at hr
 revert r
 unfold mJ
 decide
theorem kPA : tQ tX tY 2 [0] = [0] := by
 have : lM tX.lv tY.lv 2 0 = true := decide_eq_true (by show ¬ lG (lG dA dB) dC = lG (lG dA dB) d6; rw [zDA,pEA]; decide)
 rw [tQ,List.filter_cons,this]
 rfl
theorem lPA : tQ tX tY 1 [0,1] = [1] := by
 have h0 : lM tX.lv tY.lv 1 0 = false := decide_eq_false (by show ¬ ¬ lG dA dB = lG dA dB; exact not_not_intro rfl)
 have h1 : lM tX.lv tY.lv 1 1 = true := decide_eq_true (by show ¬ dC = d6; decide)
 rw [tQ,List.filter_cons,h0,List.filter_cons,h1]
 rfl
theorem mPA : tQ tX tY 0 [2] = [2] := by
 have h1 : lM tX.lv tY.lv 0 2 = true := decide_eq_true (by show ¬ dC = d6; decide)
 rw [tQ,List.filter_cons,h1]
 rfl
theorem rn0 : Rn tX tY 0 := ⟨vAA _ _ _,vAA _ _ _,rfl,rfl,pGA,oGA _ (vAA _ _ _)⟩
theorem it0 : itW tY (lE tX) 0 = ⟨tX,[(0,1)],2,[],0,false⟩ := rfl
theorem it1 : itW tY (lE tX) 1 = ⟨tX,[(0,2)],1,[],1,false⟩ := by
 rw [rn0.dwn qEA rfl (k := 2) rfl (D := [0]) kPA (by decide),it0]
 rfl
theorem rn1 : Rn tX tY 1 := (rn0.next rfl).1
theorem it2 : itW tY (lE tX) 2 = ⟨tX,[(2,1)],0,[],3,false⟩ := by
 rw [rn1.dwn qEA (by rw [it1]) (k := 1) (by rw [it1]; rfl) (D := [1]) (by rw [it1]; exact lPA) (by decide),it1]
 rfl
theorem rn2 : Rn tX tY 2 := (rn1.next (by rw [it1])).1
theorem it3 : itW tY (lE tX) 3 = ⟨tX,[],0,[(4,1)],4,true⟩ := by
 rw [rn2.fin qEA (by rw [it2]) (k := 0) (by rw [it2]; rfl) (D := [2]) (by rw [it2]; exact mPA) (by decide),it2]
 rfl
theorem sKA : sM tX tY = ([(4,1)],4,0) := by
 rw [sM,if_neg (not_not_intro (vAA _ _ _)),if_neg (not_not_intro (vAA _ _ _)),if_neg (by decide)]
 show ((itW tY (lE tX) 3).found,(itW tY (lE tX) 3).sent,(0 : Int)) = _
 rw [it3]
theorem nPA : ACalls Try.prog 22 [.p (.sl 5 [u8 1,u8 0,u8 0,u8 0,u8 0,u8 0,u8 0,u8 0,u8 2,u8 0,u8 0,u8 0,u8 0,u8 0,u8 0,u8 0,u8 3,u8 0,u8 0,u8 0,u8 0,u8 0,u8 0,u8 0,u8 4,u8 0,u8 0,u8 0,u8 0,u8 0,u8 0,u8 0,u8 5,u8 0,u8 0,u8 0,u8 0,u8 0,u8 0,u8 0]),.p (i64 2)] (.tup [tP dA dB dC,.p (i64 0)]) := by
 have := c22 LA 2
 rw [bIA] at this
 exact this
theorem oPA : ACalls Try.prog 22 [.p (.sl 5 [u8 1,u8 0,u8 0,u8 0,u8 0,u8 0,u8 0,u8 0,u8 2,u8 0,u8 0,u8 0,u8 0,u8 0,u8 0,u8 0,u8 3,u8 0,u8 0,u8 0,u8 0,u8 0,u8 0,u8 0,u8 4,u8 0,u8 0,u8 0,u8 0,u8 0,u8 0,u8 0,u8 6,u8 0,u8 0,u8 0,u8 0,u8 0,u8 0,u8 0]),.p (i64 2)] (.tup [tP dA dB d6,.p (i64 0)]) := by
 have := c22 LC 2
 rw [uFA] at this
 exact this
theorem pPA : ACalls Try.prog 45 [tP dA dB dC] (.tup [.agg [i64 5,i64 2,xD (lv3 dA dB dC),uC [(0,1)],i64 2,uC [],i64 0,bv false],.p (.sl 1 [i64 13,i64 0,i64 0,i64 2,i64 0,i64 0,gG [5,2,0,1],bytes []]),.p (i64 0)]) := by
 have := c45 tX
 rw [yO (vAA _ _ _)] at this
 exact this
theorem qPA : ACalls Try.prog 57 [tP dA dB dC,tP dA dB d6] (.tup [.p (uC [(4,1)]),.p (i64 4),.p (i64 0)]) := by
 have := c57 tX tY pGA
 rw [sKA] at this
 exact this
theorem rPA : lI 5 2 1 = (5,0) := by
 rw [lI,if_neg (by decide),if_neg (by decide),if_neg (by decide)]
 show (((1 + yM 1 3 : Nat) : Int),(0 : Int)) = _
 rw [rJ (by decide),rJ (by decide),qJ (by decide)]
 rfl
theorem sPA : lI 5 2 0 = (1,0) := by
 rw [lI,if_neg (by decide),if_neg (by decide),if_neg (by decide)]
 show (((1 + yM 0 3 : Nat) : Int),(0 : Int)) = _
 rw [rJ (by decide),rJ (by decide),qJ (by decide)]
 rfl
theorem tPA : ACalls Try.prog 59 [.p (i64 5),.p (i64 2),.p (i64 1)] (.tup [.p (i64 5),.p (i64 0)]) := by
 have := c59 5 2 1 (by decide) (by decide) (by decide)
 rw [rPA] at this
 exact this
theorem uPA : ACalls Try.prog 59 [.p (i64 5),.p (i64 2),.p (i64 0)] (.tup [.p (i64 1),.p (i64 0)]) := by
 have := c59 5 2 0 (by decide) (by decide) (by decide)
 rw [sPA] at this
 exact this
theorem tKA (l : List Int) : ACalls Try.prog 81 [.p (gG l),.p (gG l)] (.p (bv true)) := by
 have := c81 l l
 rwa [show decide (l = l) = true from decide_eq_true rfl] at this
theorem c44  : ACalls Try.prog 44 [] (.p (bv true)) := by
 refine oC jC Try.func44 (c := _) rfl (by kernel_rfl) ?_
 intro X hP hX hro hpl
 have hb : tb.Ok X.P := hP ▸ jC
 change AW X _ _ ⟨[],[.any,.any,.any,.any,.any,.any,.any,.any,.any,.any,.any,.any,.any,.any,.any,.any,.any,.any,.any,.any,.any,.any,.any,.any,.any,.any,.any,.any,.any,.any,.any,.any,.any,.any,.any,.any,.any,.any,.any,.any,.any,.any,.any,.any,.any,.any,.any,.any,.any,.any,.any,.any,.any,.any,.any,.any,.any,.any,.any,.any,.any,.any,.any,.any,.any,.any,.any,.any,.any,.any,.any,.any,.any,.any,.any,.any,.any,.any,.any,.any,.any,.any,.any,.any,.any,.any,.any,.any,.any,.any,.any,.any,.any,.any,.any,.any,.any,.any,.any,.any,.any,.any,.any,.any,.any,.any,.any,.any,.any,.any,.any,.any,.any,.any,.any,.any,.any,.any,.any,.any],[],[]⟩
 refine fA ?_
 refine iA hX hb [0] rfl (σ' := ?s1) (fun K hK => ?h1) ?n1
 case h1 =>
  (refine kA rfl (by simp (disch := omega) only [gA,aA,qop,fop,St.ev,St.put,cd,zd,Value.oneCell',lA,TypeDesc.aggB,Z0] <;> exact rfl) ?_)
  refine bA ?_
  exact hK
 refine jA ?_
 refine fA ?_
 refine iA hX (lDA [21] hb) [0,1,2,3,4,5,6] rfl (σ' := ?s2) (fun K hK => ?h2) ?n2
 case h2 =>
  iterate 7 (refine kA rfl (by simp (disch := omega) only [gA,aA,qop,fop,St.ev,St.put,cd,zd,Value.oneCell',lA,TypeDesc.aggB,Z0,eE,aD,lC,eC,D.cell1,eB,fB,gB,iB,jB,List.all_cons,List.all_nil,zC,TI.place,TI.zeros,TI.kindOk,D.cells?,D.pure?,zp,Value.cells,ZQ,ZP,Z1,zD,wC,xC,aE,bB,rB,ZG,ZH,ZL,ZM,ZN,zA,Nat.reduceAdd,Nat.reduceMul,tt,Int.reduceToNat,Nat.reduceSub,Nat.reduceLeDiff,jGA,kGA,pZ,St.addBox] <;> exact rfl) ?_)
  refine bA ?_
  exact hK
 refine jA ?_
 refine fA ?_
 refine iA hX hb [0,1,2,3,4,5,6,7] rfl (σ' := ?s3) (fun K hK => ?h3) ?n3
 case h3 =>
  (refine kA rfl (by simp (disch := omega) only [gA,aA,qop,fop,St.ev,St.put,cd,zd,Value.oneCell',lA,TypeDesc.aggB,Z0,sA,D.pv?,nJ,PV.d,ZM,ZL,Z1,ZG,ZH,St.addBox,Value.cells,iC,D.boxCells,D.live,D.cells?,D.pure?,ZN,St.setVec,ZC,tt] <;> exact rfl) ?_)
  refine fCA rfl rfl (by simp only [St.ev,nB,oB,zd,cd,Value.oneCell',Zr] <;> exact rfl) (by simp only [eN,nD,D.pvC?,D.pvN?,D.pvL?,eA,D.pv?,D.pure?,St.ev,nB,oB,zd,cd,Value.oneCell',Zr,ZG,ZH,Zd,Zc,Zg,ZM,ZL,ZN,Z1,Int.reduceToNat,Nat.reduceMul,Nat.reduceAdd,Nat.reduceSub,Nat.reduceLeDiff] <;> exact rfl) (by exact bo1 rfl rfl rfl) (acK hP (nPA)) (sZ _ _ _ _) (by simp only [St.put,Za,Zb] <;> exact rfl) ?_
  iterate 6 (refine kA rfl (by simp (disch := omega) only [gA,aA,qop,fop,St.ev,St.put,cd,zd,Value.oneCell',lA,TypeDesc.aggB,Z0,sA,D.pv?,nJ,PV.d,ZM,ZL,Z1,ZG,ZH,St.addBox,Value.cells,iC,D.boxCells,D.live,D.cells?,D.pure?,ZN,St.setVec,ZC,tt] <;> exact rfl) ?_)
  refine bA ?_
  exact hK
 refine jA ?_
 refine fA ?_
 refine iA hX (lDA [32] hb) [0,1,2,3,4,5,6] rfl (σ' := ?s4) (fun K hK => ?h4) ?n4
 case h4 =>
  iterate 7 (refine kA rfl (by simp (disch := omega) only [gA,aA,qop,fop,St.ev,St.put,cd,zd,Value.oneCell',lA,TypeDesc.aggB,Z0,eE,aD,lC,eC,D.cell1,eB,fB,gB,iB,jB,List.all_cons,List.all_nil,zC,TI.place,TI.zeros,TI.kindOk,D.cells?,D.pure?,zp,Value.cells,ZQ,ZP,Z1,zD,wC,xC,aE,bB,rB,ZG,ZH,ZL,ZM,ZN,zA,Nat.reduceAdd,Nat.reduceMul,tt,Int.reduceToNat,Nat.reduceSub,Nat.reduceLeDiff,jGA,kGA,pZ,St.addBox] <;> exact rfl) ?_)
  refine bA ?_
  exact hK
 refine jA ?_
 refine fA ?_
 refine iA hX hb [0,1,2,3,4,5,6,7] rfl (σ' := ?s5) (fun K hK => ?h5) ?n5
 case h5 =>
  (refine kA rfl (by simp (disch := omega) only [gA,aA,qop,fop,St.ev,St.put,cd,zd,Value.oneCell',lA,TypeDesc.aggB,Z0,sA,D.pv?,nJ,PV.d,ZM,ZL,Z1,ZG,ZH,St.addBox,Value.cells,iC,D.boxCells,D.live,D.cells?,D.pure?,ZN,St.setVec,ZC,tt] <;> exact rfl) ?_)
  refine fCA rfl rfl (by simp only [St.ev,nB,oB,zd,cd,Value.oneCell',Zr] <;> exact rfl) (by simp only [eN,nD,D.pvC?,D.pvN?,D.pvL?,eA,D.pv?,D.pure?,St.ev,nB,oB,zd,cd,Value.oneCell',Zr,ZG,ZH,Zd,Zc,Zg,ZM,ZL,ZN,Z1,Int.reduceToNat,Nat.reduceMul,Nat.reduceAdd,Nat.reduceSub,Nat.reduceLeDiff] <;> exact rfl) (by exact bo1 rfl rfl rfl) (acK hP (oPA)) (sZ _ _ _ _) (by simp only [St.put,Za,Zb] <;> exact rfl) ?_
  iterate 6 (refine kA rfl (by simp (disch := omega) only [gA,aA,qop,fop,St.ev,St.put,cd,zd,Value.oneCell',lA,TypeDesc.aggB,Z0,sA,D.pv?,nJ,PV.d,ZM,ZL,Z1,ZG,ZH,St.addBox,Value.cells,iC,D.boxCells,D.live,D.cells?,D.pure?,ZN,St.setVec,ZC,tt] <;> exact rfl) ?_)
  refine bA ?_
  exact hK
 refine jA ?_
 refine fA ?_
 refine iA hX hb [0,1,2,3,4,5,6,7,8,9] rfl (σ' := ?s6) (fun K hK => ?h6) ?n6
 case h6 =>
  (refine kA rfl (by simp (disch := omega) only [gA,aA,qop,fop,St.ev,St.put,cd,zd,Value.oneCell',lA,TypeDesc.aggB,Z0,Z1,oA,pA,qA,eA,D.pure?,ZC,ZD,sA,D.pv?,nJ,PV.d,ZM,ZL,ZG,ZH,St.addBox,Value.cells,iC,D.boxCells,D.live,D.cells?,ZN,St.setVec,tt,Int.reduceToNat,Nat.reduceMul,Nat.reduceAdd,Nat.reduceSub,Nat.reduceLeDiff] <;> exact rfl) ?_)
  refine jD rfl (by simp only [aA,St.ev,nB,oB,sA,D.pv?,ZG,ZH,zd,cd,Value.oneCell',Zr] <;> exact rfl) (acK hP (pPA)) (by simp only [St.put,Za,Zb] <;> exact rfl) ?_
  iterate 8 (refine kA rfl (by simp (disch := omega) only [gA,aA,qop,fop,St.ev,St.put,cd,zd,Value.oneCell',lA,TypeDesc.aggB,Z0,Z1,oA,pA,qA,eA,D.pure?,ZC,ZD,sA,D.pv?,nJ,PV.d,ZM,ZL,ZG,ZH,St.addBox,Value.cells,iC,D.boxCells,D.live,D.cells?,ZN,St.setVec,tt,Int.reduceToNat,Nat.reduceMul,Nat.reduceAdd,Nat.reduceSub,Nat.reduceLeDiff] <;> exact rfl) ?_)
  refine bA ?_
  exact hK
 refine jA ?_
 refine fA ?_
 refine fA ?_
 refine iA hX hb [0,1,2,3,4,5,6,7,8,9,10,11,12,13,14,15,16,17,18,19,20,21,22,23,24,25,26,27,28,29,30,31,32] rfl (σ' := ?s7) (fun K hK => ?h7) ?n7
 case h7 =>
  iterate 5 (refine kA rfl (by simp (disch := omega) only [gA,aA,qop,fop,St.ev,St.put,cd,zd,Value.oneCell',lA,TypeDesc.aggB,Z0,yA,iop,mC,Int.toNat_zero,Int.toNat_one,wA,xA,vA,ZO,Nat.mul_one,ZC,Nat.zero_mul,Zh,cA,mA,Z1,oA,pA,qA,eA,D.pure?,ZD,zD,wC,xC,aE,bB,rB,D.cells?,eB,fB,gB,iB,jB,ZG,ZH,ZL,ZM,ZN,zA,Nat.reduceAdd,Nat.reduceMul,sA,D.pv?,Bool.not_true,Bool.not_false,tt,Int.reduceToNat,Nat.reduceSub,Nat.reduceLeDiff,lB] <;> exact rfl) ?_)
  iterate 2 (all_goals first | (refine fC rfl rfl rfl (by simp (disch := omega) only [gA,aA,qop,fop,St.ev,St.put,cd,zd,Value.oneCell',lA,TypeDesc.aggB,Z0,yA,iop,mC,Int.toNat_zero,Int.toNat_one,wA,xA,vA,ZO,Nat.mul_one,ZC,Nat.zero_mul,Zh,cA,mA,Z1,oA,pA,qA,eA,D.pure?,ZD,zD,wC,xC,aE,bB,rB,D.cells?,eB,fB,gB,iB,jB,ZG,ZH,ZL,ZM,ZN,zA,Nat.reduceAdd,Nat.reduceMul,sA,D.pv?,Bool.not_true,Bool.not_false,tt,Int.reduceToNat,Nat.reduceSub,Nat.reduceLeDiff,lB] <;> exact rfl) ?_) | (first | (refine zB rfl rfl rfl (by simp only [St.put,Za,Zb] <;> exact rfl) ?_) | (refine aC rfl rfl rfl (by simp only [St.put,Za,Zb] <;> exact rfl) ?_)) | (refine yB rfl rfl rfl (by simp only [Za,Zb] <;> exact rfl) (by simp only [Za,Zb] <;> exact rfl) (fun hg => ?_) (fun hg => ?_) <;> (try simp only [Zp,Zi,ZJ,ZK,ne_eq,Zn,Zm,Bool.not_eq_true,Zu] at hg) <;> first | (refine fC rfl rfl rfl (by simp (disch := omega) only [gA,aA,qop,fop,St.ev,St.put,cd,zd,Value.oneCell',lA,TypeDesc.aggB,Z0,yA,iop,mC,Int.toNat_zero,Int.toNat_one,wA,xA,vA,ZO,Nat.mul_one,ZC,Nat.zero_mul,Zh,cA,mA,Z1,oA,pA,qA,eA,D.pure?,ZD,zD,wC,xC,aE,bB,rB,D.cells?,eB,fB,gB,iB,jB,ZG,ZH,ZL,ZM,ZN,zA,Nat.reduceAdd,Nat.reduceMul,sA,D.pv?,Bool.not_true,Bool.not_false,tt,Int.reduceToNat,Nat.reduceSub,Nat.reduceLeDiff,lB] <;> exact rfl) ?_) | (first | (refine zB rfl rfl rfl (by simp only [St.put,Za,Zb] <;> exact rfl) ?_) | (refine aC rfl rfl rfl (by simp only [St.put,Za,Zb] <;> exact rfl) ?_))))
  iterate 2 (refine kA rfl (by simp (disch := omega) only [gA,aA,qop,fop,St.ev,St.put,cd,zd,Value.oneCell',lA,TypeDesc.aggB,Z0,yA,iop,mC,Int.toNat_zero,Int.toNat_one,wA,xA,vA,ZO,Nat.mul_one,ZC,Nat.zero_mul,Zh,cA,mA,Z1,oA,pA,qA,eA,D.pure?,ZD,zD,wC,xC,aE,bB,rB,D.cells?,eB,fB,gB,iB,jB,ZG,ZH,ZL,ZM,ZN,zA,Nat.reduceAdd,Nat.reduceMul,sA,D.pv?,Bool.not_true,Bool.not_false,tt,Int.reduceToNat,Nat.reduceSub,Nat.reduceLeDiff,lB] <;> exact rfl) ?_)
  iterate 3 (all_goals first | (refine fC rfl rfl rfl (by simp (disch := omega) only [gA,aA,qop,fop,St.ev,St.put,cd,zd,Value.oneCell',lA,TypeDesc.aggB,Z0,yA,iop,mC,Int.toNat_zero,Int.toNat_one,wA,xA,vA,ZO,Nat.mul_one,ZC,Nat.zero_mul,Zh,cA,mA,Z1,oA,pA,qA,eA,D.pure?,ZD,zD,wC,xC,aE,bB,rB,D.cells?,eB,fB,gB,iB,jB,ZG,ZH,ZL,ZM,ZN,zA,Nat.reduceAdd,Nat.reduceMul,sA,D.pv?,Bool.not_true,Bool.not_false,tt,Int.reduceToNat,Nat.reduceSub,Nat.reduceLeDiff,lB] <;> exact rfl) ?_) | (first | (refine zB rfl rfl rfl (by simp only [St.put,Za,Zb] <;> exact rfl) ?_) | (refine aC rfl rfl rfl (by simp only [St.put,Za,Zb] <;> exact rfl) ?_)) | (refine yB rfl rfl rfl (by simp only [Za,Zb] <;> exact rfl) (by simp only [Za,Zb] <;> exact rfl) (fun hg => ?_) (fun hg => ?_) <;> (try simp only [Zp,Zi,ZJ,ZK,ne_eq,Zn,Zm,Bool.not_eq_true,Zu] at hg) <;> first | (refine fC rfl rfl rfl (by simp (disch := omega) only [gA,aA,qop,fop,St.ev,St.put,cd,zd,Value.oneCell',lA,TypeDesc.aggB,Z0,yA,iop,mC,Int.toNat_zero,Int.toNat_one,wA,xA,vA,ZO,Nat.mul_one,ZC,Nat.zero_mul,Zh,cA,mA,Z1,oA,pA,qA,eA,D.pure?,ZD,zD,wC,xC,aE,bB,rB,D.cells?,eB,fB,gB,iB,jB,ZG,ZH,ZL,ZM,ZN,zA,Nat.reduceAdd,Nat.reduceMul,sA,D.pv?,Bool.not_true,Bool.not_false,tt,Int.reduceToNat,Nat.reduceSub,Nat.reduceLeDiff,lB] <;> exact rfl) ?_) | (first | (refine zB rfl rfl rfl (by simp only [St.put,Za,Zb] <;> exact rfl) ?_) | (refine aC rfl rfl rfl (by simp only [St.put,Za,Zb] <;> exact rfl) ?_))))
  iterate 2 (refine kA rfl (by simp (disch := omega) only [gA,aA,qop,fop,St.ev,St.put,cd,zd,Value.oneCell',lA,TypeDesc.aggB,Z0,yA,iop,mC,Int.toNat_zero,Int.toNat_one,wA,xA,vA,ZO,Nat.mul_one,ZC,Nat.zero_mul,Zh,cA,mA,Z1,oA,pA,qA,eA,D.pure?,ZD,zD,wC,xC,aE,bB,rB,D.cells?,eB,fB,gB,iB,jB,ZG,ZH,ZL,ZM,ZN,zA,Nat.reduceAdd,Nat.reduceMul,sA,D.pv?,Bool.not_true,Bool.not_false,tt,Int.reduceToNat,Nat.reduceSub,Nat.reduceLeDiff,lB] <;> exact rfl) ?_)
  iterate 5 (all_goals first | (refine fC rfl rfl rfl (by simp (disch := omega) only [gA,aA,qop,fop,St.ev,St.put,cd,zd,Value.oneCell',lA,TypeDesc.aggB,Z0,yA,iop,mC,Int.toNat_zero,Int.toNat_one,wA,xA,vA,ZO,Nat.mul_one,ZC,Nat.zero_mul,Zh,cA,mA,Z1,oA,pA,qA,eA,D.pure?,ZD,zD,wC,xC,aE,bB,rB,D.cells?,eB,fB,gB,iB,jB,ZG,ZH,ZL,ZM,ZN,zA,Nat.reduceAdd,Nat.reduceMul,sA,D.pv?,Bool.not_true,Bool.not_false,tt,Int.reduceToNat,Nat.reduceSub,Nat.reduceLeDiff,lB] <;> exact rfl) ?_) | (first | (refine zB rfl rfl rfl (by simp only [St.put,Za,Zb] <;> exact rfl) ?_) | (refine aC rfl rfl rfl (by simp only [St.put,Za,Zb] <;> exact rfl) ?_)) | (refine yB rfl rfl rfl (by simp only [Za,Zb] <;> exact rfl) (by simp only [Za,Zb] <;> exact rfl) (fun hg => ?_) (fun hg => ?_) <;> (try simp only [Zp,Zi,ZJ,ZK,ne_eq,Zn,Zm,Bool.not_eq_true,Zu] at hg) <;> first | (refine fC rfl rfl rfl (by simp (disch := omega) only [gA,aA,qop,fop,St.ev,St.put,cd,zd,Value.oneCell',lA,TypeDesc.aggB,Z0,yA,iop,mC,Int.toNat_zero,Int.toNat_one,wA,xA,vA,ZO,Nat.mul_one,ZC,Nat.zero_mul,Zh,cA,mA,Z1,oA,pA,qA,eA,D.pure?,ZD,zD,wC,xC,aE,bB,rB,D.cells?,eB,fB,gB,iB,jB,ZG,ZH,ZL,ZM,ZN,zA,Nat.reduceAdd,Nat.reduceMul,sA,D.pv?,Bool.not_true,Bool.not_false,tt,Int.reduceToNat,Nat.reduceSub,Nat.reduceLeDiff,lB] <;> exact rfl) ?_) | (first | (refine zB rfl rfl rfl (by simp only [St.put,Za,Zb] <;> exact rfl) ?_) | (refine aC rfl rfl rfl (by simp only [St.put,Za,Zb] <;> exact rfl) ?_))))
  all_goals first | (refine dK rfl rfl rfl (by simp only [aA,St.ev,nB,oB,sA,D.pv?,ZG,ZH,zd,cd,Value.oneCell',Zr] <;> exact rfl) (acK hP (tKA [5,2,0,1])) (by simp only [St.put,Za,Zb] <;> exact rfl) ?_) | (first | (refine zB rfl rfl rfl (by simp only [St.put,Za,Zb] <;> exact rfl) ?_) | (refine aC rfl rfl rfl (by simp only [St.put,Za,Zb] <;> exact rfl) ?_)) | (refine yB rfl rfl rfl (by simp only [Za,Zb] <;> exact rfl) (by simp only [Za,Zb] <;> exact rfl) (fun hg => ?_) (fun hg => ?_) <;> (try simp only [Zp,Zi,ZJ,ZK,ne_eq,Zn,Zm,Bool.not_eq_true,Zu] at hg) <;> first | (refine dK rfl rfl rfl (by simp only [aA,St.ev,nB,oB,sA,D.pv?,ZG,ZH,zd,cd,Value.oneCell',Zr] <;> exact rfl) (acK hP (tKA [5,2,0,1])) (by simp only [St.put,Za,Zb] <;> exact rfl) ?_) | (first | (refine zB rfl rfl rfl (by simp only [St.put,Za,Zb] <;> exact rfl) ?_) | (refine aC rfl rfl rfl (by simp only [St.put,Za,Zb] <;> exact rfl) ?_)))
  (all_goals first | (refine fC rfl rfl rfl (by simp (disch := omega) only [gA,aA,qop,fop,St.ev,St.put,cd,zd,Value.oneCell',lA,TypeDesc.aggB,Z0,yA,iop,mC,Int.toNat_zero,Int.toNat_one,wA,xA,vA,ZO,Nat.mul_one,ZC,Nat.zero_mul,Zh,cA,mA,Z1,oA,pA,qA,eA,D.pure?,ZD,zD,wC,xC,aE,bB,rB,D.cells?,eB,fB,gB,iB,jB,ZG,ZH,ZL,ZM,ZN,zA,Nat.reduceAdd,Nat.reduceMul,sA,D.pv?,Bool.not_true,Bool.not_false,tt,Int.reduceToNat,Nat.reduceSub,Nat.reduceLeDiff,lB] <;> exact rfl) ?_) | (first | (refine zB rfl rfl rfl (by simp only [St.put,Za,Zb] <;> exact rfl) ?_) | (refine aC rfl rfl rfl (by simp only [St.put,Za,Zb] <;> exact rfl) ?_)) | (refine yB rfl rfl rfl (by simp only [Za,Zb] <;> exact rfl) (by simp only [Za,Zb] <;> exact rfl) (fun hg => ?_) (fun hg => ?_) <;> (try simp only [Zp,Zi,ZJ,ZK,ne_eq,Zn,Zm,Bool.not_eq_true,Zu] at hg) <;> first | (refine fC rfl rfl rfl (by simp (disch := omega) only [gA,aA,qop,fop,St.ev,St.put,cd,zd,Value.oneCell',lA,TypeDesc.aggB,Z0,yA,iop,mC,Int.toNat_zero,Int.toNat_one,wA,xA,vA,ZO,Nat.mul_one,ZC,Nat.zero_mul,Zh,cA,mA,Z1,oA,pA,qA,eA,D.pure?,ZD,zD,wC,xC,aE,bB,rB,D.cells?,eB,fB,gB,iB,jB,ZG,ZH,ZL,ZM,ZN,zA,Nat.reduceAdd,Nat.reduceMul,sA,D.pv?,Bool.not_true,Bool.not_false,tt,Int.reduceToNat,Nat.reduceSub,Nat.reduceLeDiff,lB] <;> exact rfl) ?_) | (first | (refine zB rfl rfl rfl (by simp only [St.put,Za,Zb] <;> exact rfl) ?_) | (refine aC rfl rfl rfl (by simp only [St.put,Za,Zb] <;> exact rfl) ?_))))
  iterate 2 (refine kA rfl (by simp (disch := omega) only [gA,aA,qop,fop,St.ev,St.put,cd,zd,Value.oneCell',lA,TypeDesc.aggB,Z0,yA,iop,mC,Int.toNat_zero,Int.toNat_one,wA,xA,vA,ZO,Nat.mul_one,ZC,Nat.zero_mul,Zh,cA,mA,Z1,oA,pA,qA,eA,D.pure?,ZD,zD,wC,xC,aE,bB,rB,D.cells?,eB,fB,gB,iB,jB,ZG,ZH,ZL,ZM,ZN,zA,Nat.reduceAdd,Nat.reduceMul,sA,D.pv?,Bool.not_true,Bool.not_false,tt,Int.reduceToNat,Nat.reduceSub,Nat.reduceLeDiff,lB] <;> exact rfl) ?_)
  iterate 5 (all_goals first | (refine fC rfl rfl rfl (by simp (disch := omega) only [gA,aA,qop,fop,St.ev,St.put,cd,zd,Value.oneCell',lA,TypeDesc.aggB,Z0,yA,iop,mC,Int.toNat_zero,Int.toNat_one,wA,xA,vA,ZO,Nat.mul_one,ZC,Nat.zero_mul,Zh,cA,mA,Z1,oA,pA,qA,eA,D.pure?,ZD,zD,wC,xC,aE,bB,rB,D.cells?,eB,fB,gB,iB,jB,ZG,ZH,ZL,ZM,ZN,zA,Nat.reduceAdd,Nat.reduceMul,sA,D.pv?,Bool.not_true,Bool.not_false,tt,Int.reduceToNat,Nat.reduceSub,Nat.reduceLeDiff,lB] <;> exact rfl) ?_) | (first | (refine zB rfl rfl rfl (by simp only [St.put,Za,Zb] <;> exact rfl) ?_) | (refine aC rfl rfl rfl (by simp only [St.put,Za,Zb] <;> exact rfl) ?_)) | (refine yB rfl rfl rfl (by simp only [Za,Zb] <;> exact rfl) (by simp only [Za,Zb] <;> exact rfl) (fun hg => ?_) (fun hg => ?_) <;> (try simp only [Zp,Zi,ZJ,ZK,ne_eq,Zn,Zm,Bool.not_eq_true,Zu] at hg) <;> first | (refine fC rfl rfl rfl (by simp (disch := omega) only [gA,aA,qop,fop,St.ev,St.put,cd,zd,Value.oneCell',lA,TypeDesc.aggB,Z0,yA,iop,mC,Int.toNat_zero,Int.toNat_one,wA,xA,vA,ZO,Nat.mul_one,ZC,Nat.zero_mul,Zh,cA,mA,Z1,oA,pA,qA,eA,D.pure?,ZD,zD,wC,xC,aE,bB,rB,D.cells?,eB,fB,gB,iB,jB,ZG,ZH,ZL,ZM,ZN,zA,Nat.reduceAdd,Nat.reduceMul,sA,D.pv?,Bool.not_true,Bool.not_false,tt,Int.reduceToNat,Nat.reduceSub,Nat.reduceLeDiff,lB] <;> exact rfl) ?_) | (first | (refine zB rfl rfl rfl (by simp only [St.put,Za,Zb] <;> exact rfl) ?_) | (refine aC rfl rfl rfl (by simp only [St.put,Za,Zb] <;> exact rfl) ?_))))
  iterate 2 (refine kA rfl (by simp (disch := omega) only [gA,aA,qop,fop,St.ev,St.put,cd,zd,Value.oneCell',lA,TypeDesc.aggB,Z0,yA,iop,mC,Int.toNat_zero,Int.toNat_one,wA,xA,vA,ZO,Nat.mul_one,ZC,Nat.zero_mul,Zh,cA,mA,Z1,oA,pA,qA,eA,D.pure?,ZD,zD,wC,xC,aE,bB,rB,D.cells?,eB,fB,gB,iB,jB,ZG,ZH,ZL,ZM,ZN,zA,Nat.reduceAdd,Nat.reduceMul,sA,D.pv?,Bool.not_true,Bool.not_false,tt,Int.reduceToNat,Nat.reduceSub,Nat.reduceLeDiff,lB] <;> exact rfl) ?_)
  iterate 2 (all_goals first | (refine fC rfl rfl rfl (by simp (disch := omega) only [gA,aA,qop,fop,St.ev,St.put,cd,zd,Value.oneCell',lA,TypeDesc.aggB,Z0,yA,iop,mC,Int.toNat_zero,Int.toNat_one,wA,xA,vA,ZO,Nat.mul_one,ZC,Nat.zero_mul,Zh,cA,mA,Z1,oA,pA,qA,eA,D.pure?,ZD,zD,wC,xC,aE,bB,rB,D.cells?,eB,fB,gB,iB,jB,ZG,ZH,ZL,ZM,ZN,zA,Nat.reduceAdd,Nat.reduceMul,sA,D.pv?,Bool.not_true,Bool.not_false,tt,Int.reduceToNat,Nat.reduceSub,Nat.reduceLeDiff,lB] <;> exact rfl) ?_) | (first | (refine zB rfl rfl rfl (by simp only [St.put,Za,Zb] <;> exact rfl) ?_) | (refine aC rfl rfl rfl (by simp only [St.put,Za,Zb] <;> exact rfl) ?_)) | (refine yB rfl rfl rfl (by simp only [Za,Zb] <;> exact rfl) (by simp only [Za,Zb] <;> exact rfl) (fun hg => ?_) (fun hg => ?_) <;> (try simp only [Zp,Zi,ZJ,ZK,ne_eq,Zn,Zm,Bool.not_eq_true,Zu] at hg) <;> first | (refine fC rfl rfl rfl (by simp (disch := omega) only [gA,aA,qop,fop,St.ev,St.put,cd,zd,Value.oneCell',lA,TypeDesc.aggB,Z0,yA,iop,mC,Int.toNat_zero,Int.toNat_one,wA,xA,vA,ZO,Nat.mul_one,ZC,Nat.zero_mul,Zh,cA,mA,Z1,oA,pA,qA,eA,D.pure?,ZD,zD,wC,xC,aE,bB,rB,D.cells?,eB,fB,gB,iB,jB,ZG,ZH,ZL,ZM,ZN,zA,Nat.reduceAdd,Nat.reduceMul,sA,D.pv?,Bool.not_true,Bool.not_false,tt,Int.reduceToNat,Nat.reduceSub,Nat.reduceLeDiff,lB] <;> exact rfl) ?_) | (first | (refine zB rfl rfl rfl (by simp only [St.put,Za,Zb] <;> exact rfl) ?_) | (refine aC rfl rfl rfl (by simp only [St.put,Za,Zb] <;> exact rfl) ?_))))
  (refine kA rfl (by simp (disch := omega) only [gA,aA,qop,fop,St.ev,St.put,cd,zd,Value.oneCell',lA,TypeDesc.aggB,Z0,yA,iop,mC,Int.toNat_zero,Int.toNat_one,wA,xA,vA,ZO,Nat.mul_one,ZC,Nat.zero_mul,Zh,cA,mA,Z1,oA,pA,qA,eA,D.pure?,ZD,zD,wC,xC,aE,bB,rB,D.cells?,eB,fB,gB,iB,jB,ZG,ZH,ZL,ZM,ZN,zA,Nat.reduceAdd,Nat.reduceMul,sA,D.pv?,Bool.not_true,Bool.not_false,tt,Int.reduceToNat,Nat.reduceSub,Nat.reduceLeDiff,lB] <;> exact rfl) ?_)
  refine bA ?_
  exact hK
 refine jA ?_
 refine mB _ rfl (fun hc0 => ?_) (fun hc0 => ?_)
 ·try simp only [Zp,Zi,ZK,ZJ,ne_eq,Zn,Zm,ZB,ZA,ZI,not_or,not_and,Zu] at hc0
  cases hc0
 ·try simp only [Zp,Zi,ZK,ZJ,ne_eq,Zn,Zm,ZB,ZA,ZI,not_or,not_and,Zu] at hc0
  refine tB ?_
  refine jA ?_
  refine fA ?_
  refine iA hX hb [0,1,2,3,4,5,6,7,8,9] rfl (σ' := ?s8) (fun K hK => ?h8) ?n8
  case h8 =>
   iterate 2 (refine kA rfl (by simp (disch := omega) only [gA,aA,qop,fop,St.ev,St.put,cd,zd,Value.oneCell',lA,TypeDesc.aggB,Z0,Z1,oA,pA,qA,eA,D.pure?,ZC,ZD,sA,D.pv?,nJ,PV.d,tt] <;> exact rfl) ?_)
   refine jD rfl (by simp only [aA,St.ev,nB,oB,sA,D.pv?,ZG,ZH,zd,cd,Value.oneCell',Zr] <;> exact rfl) (acK hP (qPA)) (by simp only [St.put,Za,Zb] <;> exact rfl) ?_
   iterate 7 (refine kA rfl (by simp (disch := omega) only [gA,aA,qop,fop,St.ev,St.put,cd,zd,Value.oneCell',lA,TypeDesc.aggB,Z0,Z1,oA,pA,qA,eA,D.pure?,ZC,ZD,sA,D.pv?,nJ,PV.d,tt] <;> exact rfl) ?_)
   refine bA ?_
   exact hK
  refine jA ?_
  refine fA ?_
  refine iA hX hb [0,1,2,3,4,5] rfl (σ' := ?s9) (fun K hK => ?h9) ?n9
  case h9 =>
   refine jD rfl (by simp only [aA,St.ev,nB,oB,sA,D.pv?,ZG,ZH,zd,cd,Value.oneCell',Zr] <;> exact rfl) (acK hP (tPA)) (by simp only [St.put,Za,Zb] <;> exact rfl) ?_
   iterate 5 (refine kA rfl (by simp (disch := omega) only [gA,aA,qop,fop,St.ev,St.put,cd,zd,Value.oneCell',lA,TypeDesc.aggB,Z0,sA,D.pv?,nJ,PV.d,tt] <;> exact rfl) ?_)
   refine bA ?_
   exact hK
  refine jA ?_
  refine fA ?_
  refine iA hX hb [0,1,2,3,4,5] rfl (σ' := ?s10) (fun K hK => ?h10) ?n10
  case h10 =>
   refine jD rfl (by simp only [aA,St.ev,nB,oB,sA,D.pv?,ZG,ZH,zd,cd,Value.oneCell',Zr] <;> exact rfl) (acK hP (uPA)) (by simp only [St.put,Za,Zb] <;> exact rfl) ?_
   iterate 5 (refine kA rfl (by simp (disch := omega) only [gA,aA,qop,fop,St.ev,St.put,cd,zd,Value.oneCell',lA,TypeDesc.aggB,Z0,sA,D.pv?,nJ,PV.d,tt] <;> exact rfl) ?_)
   refine bA ?_
   exact hK
  refine jA ?_
  refine fA ?_
  refine iA hX hb [0,1,2,3,4,5,6,7,8,9,10,11,12,13,14,15,16,17,18,19,20,21,22,23,24,25,26,27,28] rfl (σ' := ?s11) (fun K hK => ?h11) ?n11
  case h11 =>
   iterate 3 (refine kA rfl (by simp (disch := omega) only [gA,aA,qop,fop,St.ev,St.put,cd,zd,Value.oneCell',lA,TypeDesc.aggB,Z0,yA,iop,eE,aD,lC,eC,D.cell1,eB,fB,gB,iB,jB,List.all_cons,List.all_nil,zC,TI.place,TI.zeros,TI.kindOk,D.cells?,D.pure?,zp,Value.cells,ZQ,ZP,Z1,zD,wC,xC,aE,bB,rB,ZG,ZH,ZL,ZM,ZN,zA,Nat.reduceAdd,Nat.reduceMul,sA,D.pv?,tt,Int.reduceToNat,Nat.reduceSub,Nat.reduceLeDiff] <;> exact rfl) ?_)
   iterate 3 (all_goals first | (refine fC rfl rfl rfl (by simp (disch := omega) only [gA,aA,qop,fop,St.ev,St.put,cd,zd,Value.oneCell',lA,TypeDesc.aggB,Z0,yA,iop,eE,aD,lC,eC,D.cell1,eB,fB,gB,iB,jB,List.all_cons,List.all_nil,zC,TI.place,TI.zeros,TI.kindOk,D.cells?,D.pure?,zp,Value.cells,ZQ,ZP,Z1,zD,wC,xC,aE,bB,rB,ZG,ZH,ZL,ZM,ZN,zA,Nat.reduceAdd,Nat.reduceMul,sA,D.pv?,tt,Int.reduceToNat,Nat.reduceSub,Nat.reduceLeDiff] <;> exact rfl) ?_) | (first | (refine zB rfl rfl rfl (by simp only [St.put,Za,Zb] <;> exact rfl) ?_) | (refine aC rfl rfl rfl (by simp only [St.put,Za,Zb] <;> exact rfl) ?_)) | (refine yB rfl rfl rfl (by simp only [Za,Zb] <;> exact rfl) (by simp only [Za,Zb] <;> exact rfl) (fun hg => ?_) (fun hg => ?_) <;> (try simp only [Zp,Zi,ZJ,ZK,ne_eq,Zn,Zm,Bool.not_eq_true,Zu] at hg) <;> first | (refine fC rfl rfl rfl (by simp (disch := omega) only [gA,aA,qop,fop,St.ev,St.put,cd,zd,Value.oneCell',lA,TypeDesc.aggB,Z0,yA,iop,eE,aD,lC,eC,D.cell1,eB,fB,gB,iB,jB,List.all_cons,List.all_nil,zC,TI.place,TI.zeros,TI.kindOk,D.cells?,D.pure?,zp,Value.cells,ZQ,ZP,Z1,zD,wC,xC,aE,bB,rB,ZG,ZH,ZL,ZM,ZN,zA,Nat.reduceAdd,Nat.reduceMul,sA,D.pv?,tt,Int.reduceToNat,Nat.reduceSub,Nat.reduceLeDiff] <;> exact rfl) ?_) | (first | (refine zB rfl rfl rfl (by simp only [St.put,Za,Zb] <;> exact rfl) ?_) | (refine aC rfl rfl rfl (by simp only [St.put,Za,Zb] <;> exact rfl) ?_))))
   all_goals first | (refine dK rfl rfl rfl (by simp only [aA,St.ev,nB,oB,sA,D.pv?,ZG,ZH,zd,cd,Value.oneCell',Zr] <;> exact rfl) (acK hP (k29)) (by simp only [St.put,Za,Zb] <;> exact rfl) ?_) | (first | (refine zB rfl rfl rfl (by simp only [St.put,Za,Zb] <;> exact rfl) ?_) | (refine aC rfl rfl rfl (by simp only [St.put,Za,Zb] <;> exact rfl) ?_)) | (refine yB rfl rfl rfl (by simp only [Za,Zb] <;> exact rfl) (by simp only [Za,Zb] <;> exact rfl) (fun hg => ?_) (fun hg => ?_) <;> (try simp only [Zp,Zi,ZJ,ZK,ne_eq,Zn,Zm,Bool.not_eq_true,Zu] at hg) <;> first | (refine dK rfl rfl rfl (by simp only [aA,St.ev,nB,oB,sA,D.pv?,ZG,ZH,zd,cd,Value.oneCell',Zr] <;> exact rfl) (acK hP (k29)) (by simp only [St.put,Za,Zb] <;> exact rfl) ?_) | (first | (refine zB rfl rfl rfl (by simp only [St.put,Za,Zb] <;> exact rfl) ?_) | (refine aC rfl rfl rfl (by simp only [St.put,Za,Zb] <;> exact rfl) ?_)))
   iterate 2 (refine kA rfl (by simp (disch := omega) only [gA,aA,qop,fop,St.ev,St.put,cd,zd,Value.oneCell',lA,TypeDesc.aggB,Z0,yA,iop,eE,aD,lC,eC,D.cell1,eB,fB,gB,iB,jB,List.all_cons,List.all_nil,zC,TI.place,TI.zeros,TI.kindOk,D.cells?,D.pure?,zp,Value.cells,ZQ,ZP,Z1,zD,wC,xC,aE,bB,rB,ZG,ZH,ZL,ZM,ZN,zA,Nat.reduceAdd,Nat.reduceMul,sA,D.pv?,tt,Int.reduceToNat,Nat.reduceSub,Nat.reduceLeDiff] <;> exact rfl) ?_)
   iterate 2 (all_goals first | (refine fC rfl rfl rfl (by simp (disch := omega) only [gA,aA,qop,fop,St.ev,St.put,cd,zd,Value.oneCell',lA,TypeDesc.aggB,Z0,yA,iop,eE,aD,lC,eC,D.cell1,eB,fB,gB,iB,jB,List.all_cons,List.all_nil,zC,TI.place,TI.zeros,TI.kindOk,D.cells?,D.pure?,zp,Value.cells,ZQ,ZP,Z1,zD,wC,xC,aE,bB,rB,ZG,ZH,ZL,ZM,ZN,zA,Nat.reduceAdd,Nat.reduceMul,sA,D.pv?,tt,Int.reduceToNat,Nat.reduceSub,Nat.reduceLeDiff] <;> exact rfl) ?_) | (first | (refine zB rfl rfl rfl (by simp only [St.put,Za,Zb] <;> exact rfl) ?_) | (refine aC rfl rfl rfl (by simp only [St.put,Za,Zb] <;> exact rfl) ?_)) | (refine yB rfl rfl rfl (by simp only [Za,Zb] <;> exact rfl) (by simp only [Za,Zb] <;> exact rfl) (fun hg => ?_) (fun hg => ?_) <;> (try simp only [Zp,Zi,ZJ,ZK,ne_eq,Zn,Zm,Bool.not_eq_true,Zu] at hg) <;> first | (refine fC rfl rfl rfl (by simp (disch := omega) only [gA,aA,qop,fop,St.ev,St.put,cd,zd,Value.oneCell',lA,TypeDesc.aggB,Z0,yA,iop,eE,aD,lC,eC,D.cell1,eB,fB,gB,iB,jB,List.all_cons,List.all_nil,zC,TI.place,TI.zeros,TI.kindOk,D.cells?,D.pure?,zp,Value.cells,ZQ,ZP,Z1,zD,wC,xC,aE,bB,rB,ZG,ZH,ZL,ZM,ZN,zA,Nat.reduceAdd,Nat.reduceMul,sA,D.pv?,tt,Int.reduceToNat,Nat.reduceSub,Nat.reduceLeDiff] <;> exact rfl) ?_) | (first | (refine zB rfl rfl rfl (by simp only [St.put,Za,Zb] <;> exact rfl) ?_) | (refine aC rfl rfl rfl (by simp only [St.put,Za,Zb] <;> exact rfl) ?_))))
   iterate 2 (refine kA rfl (by simp (disch := omega) only [gA,aA,qop,fop,St.ev,St.put,cd,zd,Value.oneCell',lA,TypeDesc.aggB,Z0,yA,iop,eE,aD,lC,eC,D.cell1,eB,fB,gB,iB,jB,List.all_cons,List.all_nil,zC,TI.place,TI.zeros,TI.kindOk,D.cells?,D.pure?,zp,Value.cells,ZQ,ZP,Z1,zD,wC,xC,aE,bB,rB,ZG,ZH,ZL,ZM,ZN,zA,Nat.reduceAdd,Nat.reduceMul,sA,D.pv?,tt,Int.reduceToNat,Nat.reduceSub,Nat.reduceLeDiff] <;> exact rfl) ?_)
   iterate 2 (all_goals first | (refine fC rfl rfl rfl (by simp (disch := omega) only [gA,aA,qop,fop,St.ev,St.put,cd,zd,Value.oneCell',lA,TypeDesc.aggB,Z0,yA,iop,eE,aD,lC,eC,D.cell1,eB,fB,gB,iB,jB,List.all_cons,List.all_nil,zC,TI.place,TI.zeros,TI.kindOk,D.cells?,D.pure?,zp,Value.cells,ZQ,ZP,Z1,zD,wC,xC,aE,bB,rB,ZG,ZH,ZL,ZM,ZN,zA,Nat.reduceAdd,Nat.reduceMul,sA,D.pv?,tt,Int.reduceToNat,Nat.reduceSub,Nat.reduceLeDiff] <;> exact rfl) ?_) | (first | (refine zB rfl rfl rfl (by simp only [St.put,Za,Zb] <;> exact rfl) ?_) | (refine aC rfl rfl rfl (by simp only [St.put,Za,Zb] <;> exact rfl) ?_)) | (refine yB rfl rfl rfl (by simp only [Za,Zb] <;> exact rfl) (by simp only [Za,Zb] <;> exact rfl) (fun hg => ?_) (fun hg => ?_) <;> (try simp only [Zp,Zi,ZJ,ZK,ne_eq,Zn,Zm,Bool.not_eq_true,Zu] at hg) <;> first | (refine fC rfl rfl rfl (by simp (disch := omega) only [gA,aA,qop,fop,St.ev,St.put,cd,zd,Value.oneCell',lA,TypeDesc.aggB,Z0,yA,iop,eE,aD,lC,eC,D.cell1,eB,fB,gB,iB,jB,List.all_cons,List.all_nil,zC,TI.place,TI.zeros,TI.kindOk,D.cells?,D.pure?,zp,Value.cells,ZQ,ZP,Z1,zD,wC,xC,aE,bB,rB,ZG,ZH,ZL,ZM,ZN,zA,Nat.reduceAdd,Nat.reduceMul,sA,D.pv?,tt,Int.reduceToNat,Nat.reduceSub,Nat.reduceLeDiff] <;> exact rfl) ?_) | (first | (refine zB rfl rfl rfl (by simp only [St.put,Za,Zb] <;> exact rfl) ?_) | (refine aC rfl rfl rfl (by simp only [St.put,Za,Zb] <;> exact rfl) ?_))))
   iterate 2 (refine kA rfl (by simp (disch := omega) only [gA,aA,qop,fop,St.ev,St.put,cd,zd,Value.oneCell',lA,TypeDesc.aggB,Z0,yA,iop,eE,aD,lC,eC,D.cell1,eB,fB,gB,iB,jB,List.all_cons,List.all_nil,zC,TI.place,TI.zeros,TI.kindOk,D.cells?,D.pure?,zp,Value.cells,ZQ,ZP,Z1,zD,wC,xC,aE,bB,rB,ZG,ZH,ZL,ZM,ZN,zA,Nat.reduceAdd,Nat.reduceMul,sA,D.pv?,tt,Int.reduceToNat,Nat.reduceSub,Nat.reduceLeDiff] <;> exact rfl) ?_)
   iterate 2 (all_goals first | (refine fC rfl rfl rfl (by simp (disch := omega) only [gA,aA,qop,fop,St.ev,St.put,cd,zd,Value.oneCell',lA,TypeDesc.aggB,Z0,yA,iop,eE,aD,lC,eC,D.cell1,eB,fB,gB,iB,jB,List.all_cons,List.all_nil,zC,TI.place,TI.zeros,TI.kindOk,D.cells?,D.pure?,zp,Value.cells,ZQ,ZP,Z1,zD,wC,xC,aE,bB,rB,ZG,ZH,ZL,ZM,ZN,zA,Nat.reduceAdd,Nat.reduceMul,sA,D.pv?,tt,Int.reduceToNat,Nat.reduceSub,Nat.reduceLeDiff] <;> exact rfl) ?_) | (first | (refine zB rfl rfl rfl (by simp only [St.put,Za,Zb] <;> exact rfl) ?_) | (refine aC rfl rfl rfl (by simp only [St.put,Za,Zb] <;> exact rfl) ?_)) | (refine yB rfl rfl rfl (by simp only [Za,Zb] <;> exact rfl) (by simp only [Za,Zb] <;> exact rfl) (fun hg => ?_) (fun hg => ?_) <;> (try simp only [Zp,Zi,ZJ,ZK,ne_eq,Zn,Zm,Bool.not_eq_true,Zu] at hg) <;> first | (refine fC rfl rfl rfl (by simp (disch := omega) only [gA,aA,qop,fop,St.ev,St.put,cd,zd,Value.oneCell',lA,TypeDesc.aggB,Z0,yA,iop,eE,aD,lC,eC,D.cell1,eB,fB,gB,iB,jB,List.all_cons,List.all_nil,zC,TI.place,TI.zeros,TI.kindOk,D.cells?,D.pure?,zp,Value.cells,ZQ,ZP,Z1,zD,wC,xC,aE,bB,rB,ZG,ZH,ZL,ZM,ZN,zA,Nat.reduceAdd,Nat.reduceMul,sA,D.pv?,tt,Int.reduceToNat,Nat.reduceSub,Nat.reduceLeDiff] <;> exact rfl) ?_) | (first | (refine zB rfl rfl rfl (by simp only [St.put,Za,Zb] <;> exact rfl) ?_) | (refine aC rfl rfl rfl (by simp only [St.put,Za,Zb] <;> exact rfl) ?_))))
   iterate 2 (refine kA rfl (by simp (disch := omega) only [gA,aA,qop,fop,St.ev,St.put,cd,zd,Value.oneCell',lA,TypeDesc.aggB,Z0,yA,iop,eE,aD,lC,eC,D.cell1,eB,fB,gB,iB,jB,List.all_cons,List.all_nil,zC,TI.place,TI.zeros,TI.kindOk,D.cells?,D.pure?,zp,Value.cells,ZQ,ZP,Z1,zD,wC,xC,aE,bB,rB,ZG,ZH,ZL,ZM,ZN,zA,Nat.reduceAdd,Nat.reduceMul,sA,D.pv?,tt,Int.reduceToNat,Nat.reduceSub,Nat.reduceLeDiff] <;> exact rfl) ?_)
   iterate 2 (all_goals first | (refine fC rfl rfl rfl (by simp (disch := omega) only [gA,aA,qop,fop,St.ev,St.put,cd,zd,Value.oneCell',lA,TypeDesc.aggB,Z0,yA,iop,eE,aD,lC,eC,D.cell1,eB,fB,gB,iB,jB,List.all_cons,List.all_nil,zC,TI.place,TI.zeros,TI.kindOk,D.cells?,D.pure?,zp,Value.cells,ZQ,ZP,Z1,zD,wC,xC,aE,bB,rB,ZG,ZH,ZL,ZM,ZN,zA,Nat.reduceAdd,Nat.reduceMul,sA,D.pv?,tt,Int.reduceToNat,Nat.reduceSub,Nat.reduceLeDiff] <;> exact rfl) ?_) | (first | (refine zB rfl rfl rfl (by simp only [St.put,Za,Zb] <;> exact rfl) ?_) | (refine aC rfl rfl rfl (by simp only [St.put,Za,Zb] <;> exact rfl) ?_)) | (refine yB rfl rfl rfl (by simp only [Za,Zb] <;> exact rfl) (by simp only [Za,Zb] <;> exact rfl) (fun hg => ?_) (fun hg => ?_) <;> (try simp only [Zp,Zi,ZJ,ZK,ne_eq,Zn,Zm,Bool.not_eq_true,Zu] at hg) <;> first | (refine fC rfl rfl rfl (by simp (disch := omega) only [gA,aA,qop,fop,St.ev,St.put,cd,zd,Value.oneCell',lA,TypeDesc.aggB,Z0,yA,iop,eE,aD,lC,eC,D.cell1,eB,fB,gB,iB,jB,List.all_cons,List.all_nil,zC,TI.place,TI.zeros,TI.kindOk,D.cells?,D.pure?,zp,Value.cells,ZQ,ZP,Z1,zD,wC,xC,aE,bB,rB,ZG,ZH,ZL,ZM,ZN,zA,Nat.reduceAdd,Nat.reduceMul,sA,D.pv?,tt,Int.reduceToNat,Nat.reduceSub,Nat.reduceLeDiff] <;> exact rfl) ?_) | (first | (refine zB rfl rfl rfl (by simp only [St.put,Za,Zb] <;> exact rfl) ?_) | (refine aC rfl rfl rfl (by simp only [St.put,Za,Zb] <;> exact rfl) ?_))))
   iterate 2 (refine kA rfl (by simp (disch := omega) only [gA,aA,qop,fop,St.ev,St.put,cd,zd,Value.oneCell',lA,TypeDesc.aggB,Z0,yA,iop,eE,aD,lC,eC,D.cell1,eB,fB,gB,iB,jB,List.all_cons,List.all_nil,zC,TI.place,TI.zeros,TI.kindOk,D.cells?,D.pure?,zp,Value.cells,ZQ,ZP,Z1,zD,wC,xC,aE,bB,rB,ZG,ZH,ZL,ZM,ZN,zA,Nat.reduceAdd,Nat.reduceMul,sA,D.pv?,tt,Int.reduceToNat,Nat.reduceSub,Nat.reduceLeDiff] <;> exact rfl) ?_)
   iterate 2 (all_goals first | (refine fC rfl rfl rfl (by simp (disch := omega) only [gA,aA,qop,fop,St.ev,St.put,cd,zd,Value.oneCell',lA,TypeDesc.aggB,Z0,yA,iop,eE,aD,lC,eC,D.cell1,eB,fB,gB,iB,jB,List.all_cons,List.all_nil,zC,TI.place,TI.zeros,TI.kindOk,D.cells?,D.pure?,zp,Value.cells,ZQ,ZP,Z1,zD,wC,xC,aE,bB,rB,ZG,ZH,ZL,ZM,ZN,zA,Nat.reduceAdd,Nat.reduceMul,sA,D.pv?,tt,Int.reduceToNat,Nat.reduceSub,Nat.reduceLeDiff] <;> exact rfl) ?_) | (first | (refine zB rfl rfl rfl (by simp only [St.put,Za,Zb] <;> exact rfl) ?_) | (refine aC rfl rfl rfl (by simp only [St.put,Za,Zb] <;> exact rfl) ?_)) | (refine yB rfl rfl rfl (by simp only [Za,Zb] <;> exact rfl) (by simp only [Za,Zb] <;> exact rfl) (fun hg => ?_) (fun hg => ?_) <;> (try simp only [Zp,Zi,ZJ,ZK,ne_eq,Zn,Zm,Bool.not_eq_true,Zu] at hg) <;> first | (refine fC rfl rfl rfl (by simp (disch := omega) only [gA,aA,qop,fop,St.ev,St.put,cd,zd,Value.oneCell',lA,TypeDesc.aggB,Z0,yA,iop,eE,aD,lC,eC,D.cell1,eB,fB,gB,iB,jB,List.all_cons,List.all_nil,zC,TI.place,TI.zeros,TI.kindOk,D.cells?,D.pure?,zp,Value.cells,ZQ,ZP,Z1,zD,wC,xC,aE,bB,rB,ZG,ZH,ZL,ZM,ZN,zA,Nat.reduceAdd,Nat.reduceMul,sA,D.pv?,tt,Int.reduceToNat,Nat.reduceSub,Nat.reduceLeDiff] <;> exact rfl) ?_) | (first | (refine zB rfl rfl rfl (by simp only [St.put,Za,Zb] <;> exact rfl) ?_) | (refine aC rfl rfl rfl (by simp only [St.put,Za,Zb] <;> exact rfl) ?_))))
   iterate 2 (refine kA rfl (by simp (disch := omega) only [gA,aA,qop,fop,St.ev,St.put,cd,zd,Value.oneCell',lA,TypeDesc.aggB,Z0,yA,iop,eE,aD,lC,eC,D.cell1,eB,fB,gB,iB,jB,List.all_cons,List.all_nil,zC,TI.place,TI.zeros,TI.kindOk,D.cells?,D.pure?,zp,Value.cells,ZQ,ZP,Z1,zD,wC,xC,aE,bB,rB,ZG,ZH,ZL,ZM,ZN,zA,Nat.reduceAdd,Nat.reduceMul,sA,D.pv?,tt,Int.reduceToNat,Nat.reduceSub,Nat.reduceLeDiff] <;> exact rfl) ?_)
   refine bA ?_
   exact hK
  refine jA ?_
  refine bC ?_
  exact tC rfl (sB rfl rfl)
end Go.Proofs.Ytldcoekbgfaomaa
end
section
namespace Go.Proofs.Ytldcoekbgfaomaa
open Go.RowKit
set_option maxRecDepth 20000
set_option maxHeartbeats 4000000
attribute [local irreducible] jE oD AW
theorem vPA (w : Wa) : ACalls Try.prog 47 [.agg [i64 w.tree.size,i64 w.tree.leaf,xD w.tree.lv,uC w.pend,i64 w.level,uC w.found,i64 w.sent,bv w.done],.agg [i64 w.tree.size,i64 w.tree.leaf,xD w.tree.lv,uC w.pend,i64 w.level,uC w.found,i64 w.sent,bv w.done]] (.p (bv true)) := by
 have := c47 w w
 rwa [show decide (w = w) = true from decide_eq_true rfl] at this
theorem uKA (l : List Ms) : ACalls Try.prog 48 [.p (zM l),.p (zM l)] (.p (bv true)) := by
 have := c48 l l
 rwa [show decide (l = l) = true from decide_eq_true rfl] at this
def iIA (w : Wa) : Bool := decide (bZ w.tree = true ∧ w.pend.length ≤ 60 ∧ w.found.length ≤ 60)
theorem k43 (w : Wa) : ACalls Try.prog 43 [.agg [i64 w.tree.size,i64 w.tree.leaf,xD w.tree.lv,uC w.pend,i64 w.level,uC w.found,i64 w.sent,bv w.done]] (.p (bv (iIA w))) := c43 w
theorem wPA (t : Tr) : ACalls Try.prog 45 [trP t] (.tup [.agg [i64 (aH t).1.tree.size,i64 (aH t).1.tree.leaf,xD (aH t).1.tree.lv,uC (aH t).1.pend,i64 (aH t).1.level,uC (aH t).1.found,i64 (aH t).1.sent,bv (aH t).1.done],.p (zM (aH t).2.1),.p (i64 (aH t).2.2)]) := c45 t
theorem xPA (t : Tr) : ACalls Try.prog 46 [trP t] (.tup [.agg [i64 (aH t).1.tree.size,i64 (aH t).1.tree.leaf,xD (aH t).1.tree.lv,uC (aH t).1.pend,i64 (aH t).1.level,uC (aH t).1.found,i64 (aH t).1.sent,bv (aH t).1.done],.p (zM (aH t).2.1),.p (i64 (aH t).2.2)]) := c46 t
theorem vKA (w : Wa) (hw : sX w) : ACalls Try.prog 49 [.agg [i64 w.tree.size,i64 w.tree.leaf,xD w.tree.lv,uC w.pend,i64 w.level,uC w.found,i64 w.sent,bv w.done]] (.p (i64 (cK w))) := c49 w hw
theorem wKA (w : Wa) (hw : sX w) : ACalls Try.prog 50 [.agg [i64 w.tree.size,i64 w.tree.leaf,xD w.tree.lv,uC w.pend,i64 w.level,uC w.found,i64 w.sent,bv w.done]] (.p (i64 (cK w))) := c50 w hw
theorem c12 (t : Tr) (w : Wa) (hw : sX w) : ACalls Try.prog 12 [trP t,waP w] (.p (bv true)) := by
 obtain ⟨s,f,lv⟩ := t
 refine oC jC Try.func12 (c := _) rfl (by kernel_rfl) ?_
 intro X hP hX hro hpl
 have hb : tb.Ok X.P := hP ▸ jC
 change AW X _ _ ⟨[],[.agg [i64 s,i64 f,xD lv],.agg [i64 w.tree.size,i64 w.tree.leaf,xD w.tree.lv,uC w.pend,i64 w.level,uC w.found,i64 w.sent,bv w.done],.any,.any,.any,.any,.any,.any,.any,.any,.any,.any,.any,.any,.any,.any,.any,.any,.any,.any,.any,.any,.any,.any,.any,.any,.any,.any,.any,.any,.any,.any,.any,.any,.any,.any,.any,.any,.any,.any,.any,.any,.any,.any,.any,.any,.any,.any,.any,.any,.any,.any,.any,.any,.any],[],[]⟩
 refine fA ?_
 refine iA hX hb [0,1,2] rfl (σ' := ?s1) (fun K hK => ?h1) ?n1
 case h1 =>
  iterate 3 (refine kA rfl (by simp (disch := omega) only [gA,aA,qop,fop,St.ev,St.put,cd,zd,Value.oneCell',lA,TypeDesc.aggB,Z0,ZM,ZL,Zl,Zo,ZG,ZH,St.addBox,D.boxCells,D.live,tt] <;> exact rfl) ?_)
  refine bA ?_
  exact hK
 refine jA ?_
 refine fA ?_
 refine fA ?_
 refine nE hX hb [0,1,2,3,4,5,6,7] rfl (ts := [11,12,13,14,15,16,17]) (t := 18) (d := .p (bv (bZ ⟨s,f,lv⟩ = false ∨ iIA w = false))) (σ' := ?s2) ?j2 ?h2 ?n2
 case j2 => simp only [St.join,List.foldl,Za,Zb]; exact rfl
 case h2 =>
  (all_goals refine kA rfl (by simp (disch := omega) only [gA,aA,qop,fop,St.ev,St.put,cd,zd,Value.oneCell',lA,TypeDesc.aggB,Z0,Z1,oA,pA,qA,eA,D.pure?,ZC,ZD,sA,D.pv?,Bool.not_true,Bool.not_false,tt] <;> exact rfl) ?_)
  refine jD rfl (by simp only [aA,St.ev,nB,oB,sA,D.pv?,ZG,ZH,zd,cd,Value.oneCell',Zr] <;> exact rfl) (acK hP (lKA ⟨s,f,lv⟩)) (by simp only [St.put,Za,Zb] <;> exact rfl) ?_
  iterate 2 (all_goals refine kA rfl (by simp (disch := omega) only [gA,aA,qop,fop,St.ev,St.put,cd,zd,Value.oneCell',lA,TypeDesc.aggB,Z0,Z1,oA,pA,qA,eA,D.pure?,ZC,ZD,sA,D.pv?,Bool.not_true,Bool.not_false,tt] <;> exact rfl) ?_)
  (all_goals first | (refine fC rfl rfl rfl (by simp (disch := omega) only [gA,aA,qop,fop,St.ev,St.put,cd,zd,Value.oneCell',lA,TypeDesc.aggB,Z0,Z1,oA,pA,qA,eA,D.pure?,ZC,ZD,sA,D.pv?,Bool.not_true,Bool.not_false,tt] <;> exact rfl) ?_) | (first | (refine zB rfl rfl rfl (by simp only [St.put,Za,Zb] <;> exact rfl) ?_) | (refine aC rfl rfl rfl (by simp only [St.put,Za,Zb] <;> exact rfl) ?_)) | (refine yB rfl rfl rfl (by simp only [Za,Zb] <;> exact rfl) (by simp only [Za,Zb] <;> exact rfl) (fun hg => ?_) (fun hg => ?_) <;> (try simp only [Zp,Zi,ZJ,ZK,ne_eq,Zn,Zm,Bool.not_eq_true,Zu] at hg) <;> first | (refine fC rfl rfl rfl (by simp (disch := omega) only [gA,aA,qop,fop,St.ev,St.put,cd,zd,Value.oneCell',lA,TypeDesc.aggB,Z0,Z1,oA,pA,qA,eA,D.pure?,ZC,ZD,sA,D.pv?,Bool.not_true,Bool.not_false,tt] <;> exact rfl) ?_) | (first | (refine zB rfl rfl rfl (by simp only [St.put,Za,Zb] <;> exact rfl) ?_) | (refine aC rfl rfl rfl (by simp only [St.put,Za,Zb] <;> exact rfl) ?_))))
  all_goals first | (refine dK rfl rfl rfl (by simp only [aA,St.ev,nB,oB,sA,D.pv?,ZG,ZH,zd,cd,Value.oneCell',Zr] <;> exact rfl) (acK hP (k43 w)) (by simp only [St.put,Za,Zb] <;> exact rfl) ?_) | (first | (refine zB rfl rfl rfl (by simp only [St.put,Za,Zb] <;> exact rfl) ?_) | (refine aC rfl rfl rfl (by simp only [St.put,Za,Zb] <;> exact rfl) ?_)) | (refine yB rfl rfl rfl (by simp only [Za,Zb] <;> exact rfl) (by simp only [Za,Zb] <;> exact rfl) (fun hg => ?_) (fun hg => ?_) <;> (try simp only [Zp,Zi,ZJ,ZK,ne_eq,Zn,Zm,Bool.not_eq_true,Zu] at hg) <;> first | (refine dK rfl rfl rfl (by simp only [aA,St.ev,nB,oB,sA,D.pv?,ZG,ZH,zd,cd,Value.oneCell',Zr] <;> exact rfl) (acK hP (k43 w)) (by simp only [St.put,Za,Zb] <;> exact rfl) ?_) | (first | (refine zB rfl rfl rfl (by simp only [St.put,Za,Zb] <;> exact rfl) ?_) | (refine aC rfl rfl rfl (by simp only [St.put,Za,Zb] <;> exact rfl) ?_)))
  (all_goals first | (refine fC rfl rfl rfl (by simp (disch := omega) only [gA,aA,qop,fop,St.ev,St.put,cd,zd,Value.oneCell',lA,TypeDesc.aggB,Z0,Z1,oA,pA,qA,eA,D.pure?,ZC,ZD,sA,D.pv?,Bool.not_true,Bool.not_false,tt] <;> exact rfl) ?_) | (first | (refine zB rfl rfl rfl (by simp only [St.put,Za,Zb] <;> exact rfl) ?_) | (refine aC rfl rfl rfl (by simp only [St.put,Za,Zb] <;> exact rfl) ?_)) | (refine yB rfl rfl rfl (by simp only [Za,Zb] <;> exact rfl) (by simp only [Za,Zb] <;> exact rfl) (fun hg => ?_) (fun hg => ?_) <;> (try simp only [Zp,Zi,ZJ,ZK,ne_eq,Zn,Zm,Bool.not_eq_true,Zu] at hg) <;> first | (refine fC rfl rfl rfl (by simp (disch := omega) only [gA,aA,qop,fop,St.ev,St.put,cd,zd,Value.oneCell',lA,TypeDesc.aggB,Z0,Z1,oA,pA,qA,eA,D.pure?,ZC,ZD,sA,D.pv?,Bool.not_true,Bool.not_false,tt] <;> exact rfl) ?_) | (first | (refine zB rfl rfl rfl (by simp only [St.put,Za,Zb] <;> exact rfl) ?_) | (refine aC rfl rfl rfl (by simp only [St.put,Za,Zb] <;> exact rfl) ?_))))
  (all_goals refine kA rfl (by simp (disch := omega) only [gA,aA,qop,fop,St.ev,St.put,cd,zd,Value.oneCell',lA,TypeDesc.aggB,Z0,Z1,oA,pA,qA,eA,D.pure?,ZC,ZD,sA,D.pv?,Bool.not_true,Bool.not_false,tt] <;> exact rfl) ?_)
  all_goals refine bA ?_
  all_goals refine ⟨rfl,?_,pD _,qD _,rfl,rfl⟩
  all_goals repeat' (first | exact tA | refine qB ?_ | refine uA rfl ?_ | refine uA ?_ ?_)
  all_goals refine jn ?_
  all_goals (cases hfw : bZ ⟨s,f,lv⟩ <;> cases hfx : iIA w <;> simp_all)
 refine jA ?_
 refine mB _ rfl (fun hc0 => ?_) (fun hc0 => ?_)
 ·try simp only [Zp,Zi,ZK,ZJ,ne_eq,Zn,Zm,ZB,ZA,ZI,not_or,not_and,Zu] at hc0
  refine fA ?_
  refine iA hX hb [0,1] rfl (σ' := ?s3) (fun K hK => ?h3) ?n3
  case h3 =>
   refine jD rfl (by simp only [aA,St.ev,nB,oB,sA,D.pv?,ZG,ZH,zd,cd,Value.oneCell',Zr] <;> exact rfl) (acK hP (c44)) (by simp only [St.put,Za,Zb] <;> exact rfl) ?_
   (refine kA rfl (by simp (disch := omega) only [gA,aA,qop,fop,St.ev,St.put,cd,zd,Value.oneCell',lA,TypeDesc.aggB,Z0,sA,D.pv?] <;> exact rfl) ?_)
   refine bA ?_
   exact hK
  refine jA ?_
  refine bC ?_
  refine nC ?_
  exact tC rfl (sB rfl rfl)
 ·try simp only [Zp,Zi,ZK,ZJ,ne_eq,Zn,Zm,ZB,ZA,ZI,not_or,not_and,Zu] at hc0
  refine tB ?_
  refine jA ?_
  refine fA ?_
  refine iA hX hb [0,1,2,3,4,5,6,7,8,9] rfl (σ' := ?s4) (fun K hK => ?h4) ?n4
  case h4 =>
   (refine kA rfl (by simp (disch := omega) only [gA,aA,qop,fop,St.ev,St.put,cd,zd,Value.oneCell',lA,TypeDesc.aggB,Z0,Z1,oA,pA,qA,eA,D.pure?,ZC,ZD,sA,D.pv?,nJ,PV.d,ZM,ZL,ZG,ZH,St.addBox,Value.cells,iC,D.boxCells,D.live,D.cells?,ZN,St.setVec,tt] <;> exact rfl) ?_)
   refine jD rfl (by simp only [aA,St.ev,nB,oB,sA,D.pv?,ZG,ZH,zd,cd,Value.oneCell',Zr] <;> exact rfl) (acK hP (wPA ⟨s,f,lv⟩)) (by simp only [St.put,Za,Zb] <;> exact rfl) ?_
   iterate 8 (refine kA rfl (by simp (disch := omega) only [gA,aA,qop,fop,St.ev,St.put,cd,zd,Value.oneCell',lA,TypeDesc.aggB,Z0,Z1,oA,pA,qA,eA,D.pure?,ZC,ZD,sA,D.pv?,nJ,PV.d,ZM,ZL,ZG,ZH,St.addBox,Value.cells,iC,D.boxCells,D.live,D.cells?,ZN,St.setVec,tt] <;> exact rfl) ?_)
   refine bA ?_
   exact hK
  refine jA ?_
  refine fA ?_
  refine iA hX hb [0,1,2,3,4,5,6,7,8,9] rfl (σ' := ?s5) (fun K hK => ?h5) ?n5
  case h5 =>
   (refine kA rfl (by simp (disch := omega) only [gA,aA,qop,fop,St.ev,St.put,cd,zd,Value.oneCell',lA,TypeDesc.aggB,Z0,Z1,oA,pA,qA,eA,D.pure?,ZC,ZD,sA,D.pv?,nJ,PV.d,ZM,ZL,ZG,ZH,St.addBox,Value.cells,iC,D.boxCells,D.live,D.cells?,ZN,St.setVec,tt] <;> exact rfl) ?_)
   refine jD rfl (by simp only [aA,St.ev,nB,oB,sA,D.pv?,ZG,ZH,zd,cd,Value.oneCell',Zr] <;> exact rfl) (acK hP (xPA ⟨s,f,lv⟩)) (by simp only [St.put,Za,Zb] <;> exact rfl) ?_
   iterate 8 (refine kA rfl (by simp (disch := omega) only [gA,aA,qop,fop,St.ev,St.put,cd,zd,Value.oneCell',lA,TypeDesc.aggB,Z0,Z1,oA,pA,qA,eA,D.pure?,ZC,ZD,sA,D.pv?,nJ,PV.d,ZM,ZL,ZG,ZH,St.addBox,Value.cells,iC,D.boxCells,D.live,D.cells?,ZN,St.setVec,tt] <;> exact rfl) ?_)
   refine bA ?_
   exact hK
  refine jA ?_
  refine fA ?_
  refine bF hX hb (gD hP) [(0,true),(1,true),(2,false),(3,true),(4,true),(5,true),(6,false),(7,true),(8,true),(9,true),(10,true),(11,true),(12,true),(13,true),(14,true),(16,true),(15,false),(17,false),(18,true),(19,true),(20,true),(21,false),(22,true),(23,true)] (by kernel_rfl) (σ' := ?s6) (fun K hK => ?h6) ?n6
  case h6 =>
   iterate 2 (refine xE rfl (by simp (disch := omega) only [qop,fop,St.ev,St.put,cd,zd,Value.oneCell',lA,TypeDesc.aggB,Z0,Z1,oA,pA,qA,eA,D.pure?,ZC,ZD,sA,D.pv?,yA,iop,tt,beq_self_eq_true,decide_true,eq_self] <;> exact rfl) (by simp only [St.put,Za,Zb] <;> exact rfl) ?_)
   refine pG rfl (by simp only [aA,St.ev,nB,oB,sA,D.pv?,ZG,ZH,zd,cd,Value.oneCell',Zr] <;> exact rfl) (acK hP (vPA (aH ⟨s,f,lv⟩).1)) (by simp only [St.put,Za,Zb] <;> exact rfl) ?_
   (refine xE rfl (by simp (disch := omega) only [qop,fop,St.ev,St.put,cd,zd,Value.oneCell',lA,TypeDesc.aggB,Z0,Z1,oA,pA,qA,eA,D.pure?,ZC,ZD,sA,D.pv?,yA,iop,tt,beq_self_eq_true,decide_true,eq_self] <;> exact rfl) (by simp only [St.put,Za,Zb] <;> exact rfl) ?_)
   iterate 2 (all_goals first | (refine jH rfl rfl rfl (by simp (disch := omega) only [qop,fop,St.ev,St.put,cd,zd,Value.oneCell',lA,TypeDesc.aggB,Z0,Z1,oA,pA,qA,eA,D.pure?,ZC,ZD,sA,D.pv?,yA,iop,tt,beq_self_eq_true,decide_true,eq_self] <;> exact rfl) rfl (by simp only [St.put,Za,Zb] <;> exact rfl) ?_) | (first | (refine vF rfl rfl rfl (by simp only [St.put,Za,Zb] <;> exact rfl) ?_) | (refine uF rfl rfl rfl (by simp only [St.put,Za,Zb] <;> exact rfl) ?_)) | (refine pF rfl rfl rfl (by simp only [Za,Zb] <;> exact rfl) (by simp only [Za,Zb] <;> exact rfl) (fun hg => ?_) (fun hg => ?_) <;> (try simp only [Zp,Zi,ZJ,ZK,ne_eq,Zn,Zm,Bool.not_eq_true,Zu] at hg) <;> first | (refine jH rfl rfl rfl (by simp (disch := omega) only [qop,fop,St.ev,St.put,cd,zd,Value.oneCell',lA,TypeDesc.aggB,Z0,Z1,oA,pA,qA,eA,D.pure?,ZC,ZD,sA,D.pv?,yA,iop,tt,beq_self_eq_true,decide_true,eq_self] <;> exact rfl) rfl (by simp only [St.put,Za,Zb] <;> exact rfl) ?_) | (first | (refine vF rfl rfl rfl (by simp only [St.put,Za,Zb] <;> exact rfl) ?_) | (refine uF rfl rfl rfl (by simp only [St.put,Za,Zb] <;> exact rfl) ?_))))
   all_goals first | (refine wM rfl rfl rfl (by simp only [aA,St.ev,nB,oB,sA,D.pv?,ZG,ZH,zd,cd,Value.oneCell',Zr] <;> exact rfl) (acK hP (uKA (aH ⟨s,f,lv⟩).2.1)) (by simp only [St.put,Za,Zb] <;> exact rfl) ?_) | (first | (refine vF rfl rfl rfl (by simp only [St.put,Za,Zb] <;> exact rfl) ?_) | (refine uF rfl rfl rfl (by simp only [St.put,Za,Zb] <;> exact rfl) ?_)) | (refine pF rfl rfl rfl (by simp only [Za,Zb] <;> exact rfl) (by simp only [Za,Zb] <;> exact rfl) (fun hg => ?_) (fun hg => ?_) <;> (try simp only [Zp,Zi,ZJ,ZK,ne_eq,Zn,Zm,Bool.not_eq_true,Zu] at hg) <;> first | (refine wM rfl rfl rfl (by simp only [aA,St.ev,nB,oB,sA,D.pv?,ZG,ZH,zd,cd,Value.oneCell',Zr] <;> exact rfl) (acK hP (uKA (aH ⟨s,f,lv⟩).2.1)) (by simp only [St.put,Za,Zb] <;> exact rfl) ?_) | (first | (refine vF rfl rfl rfl (by simp only [St.put,Za,Zb] <;> exact rfl) ?_) | (refine uF rfl rfl rfl (by simp only [St.put,Za,Zb] <;> exact rfl) ?_)))
   iterate 2 (refine xE rfl (by simp (disch := omega) only [qop,fop,St.ev,St.put,cd,zd,Value.oneCell',lA,TypeDesc.aggB,Z0,Z1,oA,pA,qA,eA,D.pure?,ZC,ZD,sA,D.pv?,yA,iop,tt,beq_self_eq_true,decide_true,eq_self] <;> exact rfl) (by simp only [St.put,Za,Zb] <;> exact rfl) ?_)
   iterate 3 (all_goals first | (refine jH rfl rfl rfl (by simp (disch := omega) only [qop,fop,St.ev,St.put,cd,zd,Value.oneCell',lA,TypeDesc.aggB,Z0,Z1,oA,pA,qA,eA,D.pure?,ZC,ZD,sA,D.pv?,yA,iop,tt,beq_self_eq_true,decide_true,eq_self] <;> exact rfl) rfl (by simp only [St.put,Za,Zb] <;> exact rfl) ?_) | (first | (refine vF rfl rfl rfl (by simp only [St.put,Za,Zb] <;> exact rfl) ?_) | (refine uF rfl rfl rfl (by simp only [St.put,Za,Zb] <;> exact rfl) ?_)) | (refine pF rfl rfl rfl (by simp only [Za,Zb] <;> exact rfl) (by simp only [Za,Zb] <;> exact rfl) (fun hg => ?_) (fun hg => ?_) <;> (try simp only [Zp,Zi,ZJ,ZK,ne_eq,Zn,Zm,Bool.not_eq_true,Zu] at hg) <;> first | (refine jH rfl rfl rfl (by simp (disch := omega) only [qop,fop,St.ev,St.put,cd,zd,Value.oneCell',lA,TypeDesc.aggB,Z0,Z1,oA,pA,qA,eA,D.pure?,ZC,ZD,sA,D.pv?,yA,iop,tt,beq_self_eq_true,decide_true,eq_self] <;> exact rfl) rfl (by simp only [St.put,Za,Zb] <;> exact rfl) ?_) | (first | (refine vF rfl rfl rfl (by simp only [St.put,Za,Zb] <;> exact rfl) ?_) | (refine uF rfl rfl rfl (by simp only [St.put,Za,Zb] <;> exact rfl) ?_))))
   iterate 2 (refine xE rfl (by simp (disch := omega) only [qop,fop,St.ev,St.put,cd,zd,Value.oneCell',lA,TypeDesc.aggB,Z0,Z1,oA,pA,qA,eA,D.pure?,ZC,ZD,sA,D.pv?,yA,iop,tt,beq_self_eq_true,decide_true,eq_self] <;> exact rfl) (by simp only [St.put,Za,Zb] <;> exact rfl) ?_)
   iterate 2 (all_goals first | (refine jH rfl rfl rfl (by simp (disch := omega) only [qop,fop,St.ev,St.put,cd,zd,Value.oneCell',lA,TypeDesc.aggB,Z0,Z1,oA,pA,qA,eA,D.pure?,ZC,ZD,sA,D.pv?,yA,iop,tt,beq_self_eq_true,decide_true,eq_self] <;> exact rfl) rfl (by simp only [St.put,Za,Zb] <;> exact rfl) ?_) | (first | (refine vF rfl rfl rfl (by simp only [St.put,Za,Zb] <;> exact rfl) ?_) | (refine uF rfl rfl rfl (by simp only [St.put,Za,Zb] <;> exact rfl) ?_)) | (refine pF rfl rfl rfl (by simp only [Za,Zb] <;> exact rfl) (by simp only [Za,Zb] <;> exact rfl) (fun hg => ?_) (fun hg => ?_) <;> (try simp only [Zp,Zi,ZJ,ZK,ne_eq,Zn,Zm,Bool.not_eq_true,Zu] at hg) <;> first | (refine jH rfl rfl rfl (by simp (disch := omega) only [qop,fop,St.ev,St.put,cd,zd,Value.oneCell',lA,TypeDesc.aggB,Z0,Z1,oA,pA,qA,eA,D.pure?,ZC,ZD,sA,D.pv?,yA,iop,tt,beq_self_eq_true,decide_true,eq_self] <;> exact rfl) rfl (by simp only [St.put,Za,Zb] <;> exact rfl) ?_) | (first | (refine vF rfl rfl rfl (by simp only [St.put,Za,Zb] <;> exact rfl) ?_) | (refine uF rfl rfl rfl (by simp only [St.put,Za,Zb] <;> exact rfl) ?_))))
   all_goals first | (refine wM rfl rfl rfl (by simp only [aA,St.ev,nB,oB,sA,D.pv?,ZG,ZH,zd,cd,Value.oneCell',Zr] <;> exact rfl) (acK hP (vKA w hw)) (by simp only [St.put,Za,Zb] <;> exact rfl) ?_) | (first | (refine vF rfl rfl rfl (by simp only [St.put,Za,Zb] <;> exact rfl) ?_) | (refine uF rfl rfl rfl (by simp only [St.put,Za,Zb] <;> exact rfl) ?_)) | (refine pF rfl rfl rfl (by simp only [Za,Zb] <;> exact rfl) (by simp only [Za,Zb] <;> exact rfl) (fun hg => ?_) (fun hg => ?_) <;> (try simp only [Zp,Zi,ZJ,ZK,ne_eq,Zn,Zm,Bool.not_eq_true,Zu] at hg) <;> first | (refine wM rfl rfl rfl (by simp only [aA,St.ev,nB,oB,sA,D.pv?,ZG,ZH,zd,cd,Value.oneCell',Zr] <;> exact rfl) (acK hP (vKA w hw)) (by simp only [St.put,Za,Zb] <;> exact rfl) ?_) | (first | (refine vF rfl rfl rfl (by simp only [St.put,Za,Zb] <;> exact rfl) ?_) | (refine uF rfl rfl rfl (by simp only [St.put,Za,Zb] <;> exact rfl) ?_)))
   all_goals first | (refine wM rfl rfl rfl (by simp only [aA,St.ev,nB,oB,sA,D.pv?,ZG,ZH,zd,cd,Value.oneCell',Zr] <;> exact rfl) (acK hP (wKA w hw)) (by simp only [St.put,Za,Zb] <;> exact rfl) ?_) | (first | (refine vF rfl rfl rfl (by simp only [St.put,Za,Zb] <;> exact rfl) ?_) | (refine uF rfl rfl rfl (by simp only [St.put,Za,Zb] <;> exact rfl) ?_)) | (refine pF rfl rfl rfl (by simp only [Za,Zb] <;> exact rfl) (by simp only [Za,Zb] <;> exact rfl) (fun hg => ?_) (fun hg => ?_) <;> (try simp only [Zp,Zi,ZJ,ZK,ne_eq,Zn,Zm,Bool.not_eq_true,Zu] at hg) <;> first | (refine wM rfl rfl rfl (by simp only [aA,St.ev,nB,oB,sA,D.pv?,ZG,ZH,zd,cd,Value.oneCell',Zr] <;> exact rfl) (acK hP (wKA w hw)) (by simp only [St.put,Za,Zb] <;> exact rfl) ?_) | (first | (refine vF rfl rfl rfl (by simp only [St.put,Za,Zb] <;> exact rfl) ?_) | (refine uF rfl rfl rfl (by simp only [St.put,Za,Zb] <;> exact rfl) ?_)))
   (all_goals first | (refine jH rfl rfl rfl (by simp (disch := omega) only [qop,fop,St.ev,St.put,cd,zd,Value.oneCell',lA,TypeDesc.aggB,Z0,Z1,oA,pA,qA,eA,D.pure?,ZC,ZD,sA,D.pv?,yA,iop,tt,beq_self_eq_true,decide_true,eq_self] <;> exact rfl) rfl (by simp only [St.put,Za,Zb] <;> exact rfl) ?_) | (first | (refine vF rfl rfl rfl (by simp only [St.put,Za,Zb] <;> exact rfl) ?_) | (refine uF rfl rfl rfl (by simp only [St.put,Za,Zb] <;> exact rfl) ?_)) | (refine pF rfl rfl rfl (by simp only [Za,Zb] <;> exact rfl) (by simp only [Za,Zb] <;> exact rfl) (fun hg => ?_) (fun hg => ?_) <;> (try simp only [Zp,Zi,ZJ,ZK,ne_eq,Zn,Zm,Bool.not_eq_true,Zu] at hg) <;> first | (refine jH rfl rfl rfl (by simp (disch := omega) only [qop,fop,St.ev,St.put,cd,zd,Value.oneCell',lA,TypeDesc.aggB,Z0,Z1,oA,pA,qA,eA,D.pure?,ZC,ZD,sA,D.pv?,yA,iop,tt,beq_self_eq_true,decide_true,eq_self] <;> exact rfl) rfl (by simp only [St.put,Za,Zb] <;> exact rfl) ?_) | (first | (refine vF rfl rfl rfl (by simp only [St.put,Za,Zb] <;> exact rfl) ?_) | (refine uF rfl rfl rfl (by simp only [St.put,Za,Zb] <;> exact rfl) ?_))))
   iterate 2 (refine xE rfl (by simp (disch := omega) only [qop,fop,St.ev,St.put,cd,zd,Value.oneCell',lA,TypeDesc.aggB,Z0,Z1,oA,pA,qA,eA,D.pure?,ZC,ZD,sA,D.pv?,yA,iop,tt,beq_self_eq_true,decide_true,eq_self] <;> exact rfl) (by simp only [St.put,Za,Zb] <;> exact rfl) ?_)
   all_goals first | (refine wM rfl rfl rfl (by simp only [aA,St.ev,nB,oB,sA,D.pv?,ZG,ZH,zd,cd,Value.oneCell',Zr] <;> exact rfl) (acK hP (c44)) (by simp only [St.put,Za,Zb] <;> exact rfl) ?_) | (first | (refine vF rfl rfl rfl (by simp only [St.put,Za,Zb] <;> exact rfl) ?_) | (refine uF rfl rfl rfl (by simp only [St.put,Za,Zb] <;> exact rfl) ?_)) | (refine pF rfl rfl rfl (by simp only [Za,Zb] <;> exact rfl) (by simp only [Za,Zb] <;> exact rfl) (fun hg => ?_) (fun hg => ?_) <;> (try simp only [Zp,Zi,ZJ,ZK,ne_eq,Zn,Zm,Bool.not_eq_true,Zu] at hg) <;> first | (refine wM rfl rfl rfl (by simp only [aA,St.ev,nB,oB,sA,D.pv?,ZG,ZH,zd,cd,Value.oneCell',Zr] <;> exact rfl) (acK hP (c44)) (by simp only [St.put,Za,Zb] <;> exact rfl) ?_) | (first | (refine vF rfl rfl rfl (by simp only [St.put,Za,Zb] <;> exact rfl) ?_) | (refine uF rfl rfl rfl (by simp only [St.put,Za,Zb] <;> exact rfl) ?_)))
   iterate 2 (refine xE rfl (by simp (disch := omega) only [qop,fop,St.ev,St.put,cd,zd,Value.oneCell',lA,TypeDesc.aggB,Z0,Z1,oA,pA,qA,eA,D.pure?,ZC,ZD,sA,D.pv?,yA,iop,tt,beq_self_eq_true,decide_true,eq_self] <;> exact rfl) (by simp only [St.put,Za,Zb] <;> exact rfl) ?_)
   refine qC ?_
   exact hK
  refine jA ?_
  refine bC ?_
  exact tC rfl (sB rfl rfl)
end Go.Proofs.Ytldcoekbgfaomaa
end
section
namespace Go.Proofs.Ytldcoekbgfaomaa
open Go.RowKit Go.ChangeShapes Go.WideShapes
theorem jIA {n : Int} (h : (Lit.int .u64 n).wf = true) : 0 ≤ n ∧ n ≤ 18446744073709551615 := by
 simp [Lit.wf,IntKind.min,IntKind.max,IntKind.signed,IntKind.bits] at h
 omega
theorem xKA {α : Type} : ∀ {l : List α},l.length = 8 → ∃ a b c d e f g h,l = [a,b,c,d,e,f,g,h]
 | [a,b,c,d,e,f,g,h],_ => ⟨a,b,c,d,e,f,g,h,rfl⟩
theorem iBA {H : Type} {enc : TypeId × Value → H} {W : World} {t e : TypeId} {k : IntKind} (ht : Try.prog.underlying t = some (.slice e)) (he : Try.prog.underlying e = some (.int k)) (hc : Try.prog.cellsOf e = 1) {n : Nat} {v : Value} {x : DataW H × List MemPlace} (h : DataW.trod enc Try.prog W 0 (fun _ => true) true n t [v] = some x) :
  ∃ l : List Int,(∀ a ∈ l,(Lit.int k a).wf = true) ∧ R1 W (eO W) (.sl l.length (l.map fun a => .v (.int k a))) v := by
 obtain ⟨l,hl⟩ := uS (fun a : {z : Int // (Lit.int k z).wf = true} => [P1.v (.int k a.1)]) 1 (fun _ => rfl) (by omega) ht hc (fun n cs x hx _ => by
  obtain ⟨m,rfl,hw⟩ := vS he hx
  refine ⟨⟨m,hw⟩,fun j y u hy hu => ?_⟩
  cases j with
  | zero => simp at hy hu; subst hy; subst hu; exact .v _ rfl
  | succ j => simp at hy) h
 refine ⟨l.map Subtype.val,fun a ha => ?_,?_⟩
 ·obtain ⟨b,_,rfl⟩ := List.mem_map.1 ha
  exact b.2
 ·have e : l.flatMap (fun a : {z : Int // (Lit.int k z).wf = true} => [P1.v (.int k a.1)]) = (l.map Subtype.val).map fun a => .v (.int k a) := by
   clear hl
   induction l with
   | nil => rfl
   | cons a l ih => exact congrArg (P1.v (.int k a.1) :: ·) ih
  rw [e] at hl
  rwa [List.length_map]
theorem rEA {H : Type} {enc : TypeId × Value → H} {W : World} {n : Nat} {cs : List Value} {x : DataW H × List MemPlace} (h : DataW.trod enc Try.prog W 0 (fun _ => true) true n 35 cs = some x) : ∃ e : Int × Int,cs = [.int .i64 e.1,.int .i64 e.2] ∧ xL e.1 ∧ xL e.2 := by
 obtain ⟨xs,m,_,_,hl,hxl,hel⟩ := DataW.trod_struct Try.underlying35 h
 have c3 : Try.prog.cellsOf 3 = 1 := by kernel_rfl
 have c35 : Try.prog.cellsOf 35 = 2 := by kernel_rfl
 rw [c35] at hl
 obtain ⟨u0,u1,rfl⟩ := jKA hl
 have h0 : DataW.trod enc Try.prog W 0 (fun _ => true) true m 3 (([u0,u1].drop 0).take (Try.prog.cellsOf 3)) = xs[0]? := hel 0 _ rfl
 have h1 : DataW.trod enc Try.prog W 0 (fun _ => true) true m 3 (([u0,u1].drop 1).take (Try.prog.cellsOf 3)) = xs[1]? := hel 1 _ rfl
 have hx2 : xs.length = 2 := hxl
 rw [List.getElem?_eq_getElem (by omega),c3] at h0 h1
 obtain ⟨z0,e0,w0⟩ := vS Try.underlying3 h0
 obtain ⟨z1,e1,w1⟩ := vS Try.underlying3 h1
 simp at e0 e1
 exact ⟨(z0,z1),by simp [e0,e1],fEA w0,fEA w1⟩
theorem qU {H : Type} {enc : TypeId × Value → H} {W : World} {n : Nat} {v : Value} {x : DataW H × List MemPlace} (h : DataW.trod enc Try.prog W 0 (fun _ => true) true n 40 [v] = some x) : ∃ l : List (Int × Int),gR l ∧ R1 W (eO W) (uC l) v := by
 obtain ⟨l,hl⟩ := uS (fun e : {e : Int × Int // xL e.1 ∧ xL e.2} => [i64 e.1.1,i64 e.1.2]) 2 (fun _ => rfl) (by omega) Try.underlying40 (by kernel_rfl) (fun n cs x hx _ => by
  obtain ⟨e,rfl,hw⟩ := rEA hx
  refine ⟨⟨e,hw⟩,fun j y u hy hu => ?_⟩
  match j with
  | 0 => simp at hy hu; subst hy; subst hu; exact .v _ rfl
  | 1 => simp at hy hu; subst hy; subst hu; exact .v _ rfl
  | j + 2 => simp at hy) h
 refine ⟨l.map Subtype.val,fun a ha => ?_,?_⟩
 ·obtain ⟨b,_,rfl⟩ := List.mem_map.1 ha
  exact b.2
 ·have e : l.flatMap (fun e : {e : Int × Int // xL e.1 ∧ xL e.2} => [i64 e.1.1,i64 e.1.2]) = bE (l.map Subtype.val) := by
   clear hl
   unfold bE
   rw [List.flatMap_map]
  rw [e] at hl
  show R1 W (eO W) (.sl (l.map Subtype.val).length _) v
  rwa [List.length_map]
theorem jBA {H : Type} {enc : TypeId × Value → H} {W : World} {n : Nat} {v : Value} {x : DataW H × List MemPlace} (h : DataW.trod enc Try.prog W 0 (fun _ => true) true n 24 [v] = some x) : ∃ l : List (List Int),(∀ r ∈ l,mJ r) ∧ R1 W (eO W) (xD l) v := by
 obtain ⟨l,hl⟩ := uS (fun a : {r : List Int // mJ r} => [cH a.1]) 1 (fun _ => rfl) (by omega) Try.underlying24 (by kernel_rfl) (fun n cs x hx hc => by
  match cs,hc with
  | [u],_ =>
  obtain ⟨r,hw,hr⟩ := iBA Try.underlying60 Try.underlying58 (by kernel_rfl) hx
  refine ⟨⟨r,fun z hz => jIA (hw z hz)⟩,fun j y u' hy hu => ?_⟩
  cases j with
  | zero => simp at hy hu; subst hy; subst hu; exact hr
  | succ j => simp at hy) h
 refine ⟨l.map Subtype.val,fun a ha => ?_,?_⟩
 ·obtain ⟨b,_,rfl⟩ := List.mem_map.1 ha
  exact b.2
 ·have e : ∀ l : List {r : List Int // mJ r},l.flatMap (fun a : {r : List Int // mJ r} => [cH a.1]) = (l.map Subtype.val).map cH := by
   intro l
   induction l with
   | nil => rfl
   | cons a l ih => simp only [List.flatMap_cons,ZG,ZL,ZM,ih]
  rw [e] at hl
  show R1 W (eO W) (.sl (l.map Subtype.val).length _) v
  rwa [List.length_map]
theorem kBA {H : Type} {enc : TypeId × Value → H} {W : World} {n : Nat} {u0 u1 u2 : Value} {x : DataW H × List MemPlace} (h : DataW.trod enc Try.prog W 0 (fun _ => true) true n 26 [u0,u1,u2] = some x) : ∃ t : Tr,(∀ r ∈ t.lv,mJ r) ∧ u0 = .int .i64 t.size ∧ u1 = .int .i64 t.leaf ∧ R1 W (eO W) (xD t.lv) u2 := by
 obtain ⟨xs,m,_,_,hl,hxl,hel⟩ := DataW.trod_struct Try.underlying26 h
 have c3 : Try.prog.cellsOf 3 = 1 := by kernel_rfl
 have c24 : Try.prog.cellsOf 24 = 1 := by kernel_rfl
 have h0 : DataW.trod enc Try.prog W 0 (fun _ => true) true m 3 (([u0,u1,u2].drop 0).take (Try.prog.cellsOf 3)) = xs[0]? := hel 0 _ rfl
 have h1 : DataW.trod enc Try.prog W 0 (fun _ => true) true m 3 (([u0,u1,u2].drop 1).take (Try.prog.cellsOf 3)) = xs[1]? := hel 1 _ rfl
 have h2 : DataW.trod enc Try.prog W 0 (fun _ => true) true m 24 (([u0,u1,u2].drop 2).take (Try.prog.cellsOf 24)) = xs[2]? := hel 2 _ rfl
 have hx2 : xs.length = 3 := hxl
 rw [List.getElem?_eq_getElem (by omega)] at h0 h1 h2
 rw [c3] at h0 h1
 rw [c24] at h2
 obtain ⟨z0,e0⟩ := nM Try.underlying3 h0
 obtain ⟨z1,e1⟩ := nM Try.underlying3 h1
 obtain ⟨l,hw,hlv⟩ := jBA (show DataW.trod enc Try.prog W 0 (fun _ => true) true m 24 [u2] = some _ from h2)
 simp at e0 e1
 exact ⟨⟨z0,z1,l⟩,hw,e0,e1,hlv⟩
theorem vFA {H : Type} {enc : TypeId × Value → H} {W : World} {cs : Array Value} {d : DataW H} {p : List MemPlace} (h : DataW.Trod enc Try.prog W 0 (fun _ => true) true 75 (.agg cs) d p) : ∃ w : Wa,RV W (eO W) (waP w) (.agg cs) ∧ sX w ∧ ∀ r ∈ w.tree.lv,mJ r := by
 obtain ⟨n,h⟩ := h
 obtain ⟨l⟩ := cs
 obtain ⟨xs,m,_,_,hl,hxl,hel⟩ := DataW.trod_struct Try.underlying75 (show DataW.trod enc Try.prog W 0 (fun _ => true) true n 75 l = some _ from h)
 have c75 : Try.prog.cellsOf 75 = 8 := by kernel_rfl
 rw [c75] at hl
 obtain ⟨u0,u1,u2,u3,u4,u5,u6,u7,rfl⟩ := xKA hl
 have hx2 : xs.length = 6 := hxl
 have h0 : DataW.trod enc Try.prog W 0 (fun _ => true) true m 26 (([u0,u1,u2,u3,u4,u5,u6,u7].drop 0).take (Try.prog.cellsOf 26)) = xs[0]? := hel 0 _ rfl
 rw [List.getElem?_eq_getElem (by omega),show Try.prog.cellsOf 26 = 3 by kernel_rfl] at h0
 have h1 : DataW.trod enc Try.prog W 0 (fun _ => true) true m 40 (([u0,u1,u2,u3,u4,u5,u6,u7].drop 3).take (Try.prog.cellsOf 40)) = xs[1]? := hel 1 _ rfl
 rw [List.getElem?_eq_getElem (by omega),show Try.prog.cellsOf 40 = 1 by kernel_rfl] at h1
 have h2 : DataW.trod enc Try.prog W 0 (fun _ => true) true m 3 (([u0,u1,u2,u3,u4,u5,u6,u7].drop 4).take (Try.prog.cellsOf 3)) = xs[2]? := hel 2 _ rfl
 rw [List.getElem?_eq_getElem (by omega),show Try.prog.cellsOf 3 = 1 by kernel_rfl] at h2
 have h3 : DataW.trod enc Try.prog W 0 (fun _ => true) true m 40 (([u0,u1,u2,u3,u4,u5,u6,u7].drop 5).take (Try.prog.cellsOf 40)) = xs[3]? := hel 3 _ rfl
 rw [List.getElem?_eq_getElem (by omega),show Try.prog.cellsOf 40 = 1 by kernel_rfl] at h3
 have h4 : DataW.trod enc Try.prog W 0 (fun _ => true) true m 3 (([u0,u1,u2,u3,u4,u5,u6,u7].drop 6).take (Try.prog.cellsOf 3)) = xs[4]? := hel 4 _ rfl
 rw [List.getElem?_eq_getElem (by omega),show Try.prog.cellsOf 3 = 1 by kernel_rfl] at h4
 have h5 : DataW.trod enc Try.prog W 0 (fun _ => true) true m 4 (([u0,u1,u2,u3,u4,u5,u6,u7].drop 7).take (Try.prog.cellsOf 4)) = xs[5]? := hel 5 _ rfl
 rw [List.getElem?_eq_getElem (by omega),show Try.prog.cellsOf 4 = 1 by kernel_rfl] at h5
 obtain ⟨t,hw,rfl,rfl,r0⟩ := kBA (show DataW.trod enc Try.prog W 0 (fun _ => true) true m 26 [u0,u1,u2] = some _ from h0)
 obtain ⟨pe,g1,r1⟩ := qU (show DataW.trod enc Try.prog W 0 (fun _ => true) true m 40 [u3] = some _ from h1)
 obtain ⟨z2,e2⟩ := nM Try.underlying3 h2
 simp at e2
 subst e2
 obtain ⟨fo,g3,r3⟩ := qU (show DataW.trod enc Try.prog W 0 (fun _ => true) true m 40 [u5] = some _ from h3)
 obtain ⟨z4,e4⟩ := nM Try.underlying3 h4
 simp at e4
 subst e4
 obtain ⟨z5,e5,_⟩ := DataW.trod_bool Try.underlying4 h5
 simp at e5
 subst e5
 refine ⟨⟨t,pe,z2,fo,z4,z5⟩,.agg _ [.int .i64 t.size,.int .i64 t.leaf,u2,u3,.int .i64 z2,u5,.int .i64 z4,.bool z5] rfl fun j y u hy hu => ?_,⟨g1,g3⟩,hw⟩
 match j with
 | 0 => simp at hy hu; subst hy; subst hu; exact .v _ rfl
 | 1 => simp at hy hu; subst hy; subst hu; exact .v _ rfl
 | 2 => simp at hy hu; subst hy; subst hu; exact r0
 | 3 => simp at hy hu; subst hy; subst hu; exact r1
 | 4 => simp at hy hu; subst hy; subst hu; exact .v _ rfl
 | 5 => simp at hy hu; subst hy; subst hu; exact r3
 | 6 => simp at hy hu; subst hy; subst hu; exact .v _ rfl
 | 7 => simp at hy hu; subst hy; subst hu; exact .v _ rfl
 | j + 8 => simp at hy
end Go.Proofs.Ytldcoekbgfaomaa
end
section
namespace Go.Proofs.Ytldcoekbgfaomaa
open Go.RowKit
theorem kIA : ownKnob Try.prog.godebug = none := by kernel_rfl
theorem eW : laidOutB Try.prog = true := by kernel_rfl
theorem wFA : mapsRowed Try.pinned.checked.prog = true := by kernel_rfl
theorem sEA : Try.pinned.checked.prog.stopsHeard = true := by kernel_rfl
theorem iT : (Try.pinned.checked.prog.mayEnter && ((Try.pinned.checked.prog.make == some Rows.hashtreeBuildsRow.make) && (Rows.hashtreeBuildsRow.lifted == Try.pinned.checked.prog.liftsFinal))) = true := by kernel_rfl
theorem tEA : Try.pinned.checked.prog.mayEnter = true := by have h := iT; rw [Bool.and_eq_true,Bool.and_eq_true] at h; exact h.1
theorem xFA : (Try.pinned.checked.prog.make == some Rows.hashtreeBuildsRow.make) = true := by have h := iT; rw [Bool.and_eq_true,Bool.and_eq_true] at h; exact h.2.1
theorem yFA : (Rows.hashtreeBuildsRow.lifted == Try.pinned.checked.prog.liftsFinal) = true := by have h := iT; rw [Bool.and_eq_true,Bool.and_eq_true] at h; exact h.2.2
end Go.Proofs.Ytldcoekbgfaomaa
end
