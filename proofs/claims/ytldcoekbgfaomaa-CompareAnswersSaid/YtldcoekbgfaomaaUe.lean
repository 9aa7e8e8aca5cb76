/- The walks of the code that the statement reaches, and the plain laws behind them, part Ue. No conditions. -/
import Derived.Test.YtldcoekbgfaomaaRows
import Derived.WalkKit
import Derived.ProofKit
import Derived.Test.YtldcoekbgfaomaaUd
set_option linter.unusedVariables false
set_option linter.unusedSimpArgs false
section
namespace Go.Proofs.Ytldcoekbgfaomaa
open Go.RowKit
set_option maxRecDepth 20000
set_option maxHeartbeats 4000000
attribute [local irreducible] kE sD AW
theorem c52 (t : Tr) (m : Ms) (hm : uV m) (hvl : m.vs.length ≤ 1000000) : ACalls Try.prog 52 [trP t,msP m] (.tup [msP (cH t m).1,.p (i64 (cH t m).2)]) := by
 obtain ⟨s,f,lv⟩ := t
 obtain ⟨ki,fr,de,nu,va,ep,vs,bo⟩ := m
 obtain ⟨hvi,hbi⟩ := hm
 dsimp only at hvi hbi hvl
 refine wC oC Try.func52 (c := _) rfl (by kernel_rfl) ?_
 intro X hP hX hro hpl
 have hb : tb.Ok X.P := hP ▸ oC
 change AW X _ _ ⟨[],[.agg [i64 s,i64 f,iE lv],.agg [i64 ki,i64 fr,i64 de,i64 nu,i64 va,i64 ep,mF vs,bytes bo],.any,.any,.any,.any,.any,.any,.any,.any,.any,.any,.any,.any,.any,.any,.any,.any,.any,.any,.any,.any,.any,.any,.any,.any,.any,.any,.any,.any,.any,.any,.any,.any,.any,.any,.any,.any,.any,.any,.any,.any,.any,.any,.any,.any,.any,.any,.any,.any,.any,.any,.any,.any,.any,.any,.any,.any,.any,.any,.any,.any,.any,.any,.any,.any,.any,.any,.any,.any,.any,.any,.any,.any,.any,.any,.any,.any,.any,.any,.any,.any,.any,.any,.any,.any,.any,.any,.any,.any,.any,.any,.any,.any,.any,.any,.any,.any,.any,.any,.any,.any,.any,.any,.any,.any,.any,.any,.any,.any,.any,.any,.any,.any,.any,.any,.any,.any],[],[]⟩
 refine cA ?_
 refine gA hX hb [0,1,2,3] rfl (σ' := ?s1) (fun K hK => ?h1) ?n1
 case h1 =>
  iterate 4 (refine kA rfl (by simp (disch := omega) only [iA,aA,qop,fop,St.ev,St.put,cd,zd,Value.oneCell',lA,TypeDesc.aggB,Z0,ZM,ZL,Zl,Zo,ZG,ZH,St.addBox,D.boxCells,D.live,Value.cells,tt,Z2,mA,nA,eB,Zh,wB,rA,ne_eq,not_false_eq_true] <;> exact rfl) ?_)
  refine bA ?_
  exact hK
 refine jA ?_
 refine cA ?_
 refine gA hX hb [0,1,2] rfl (σ' := ?s2) (fun K hK => ?h2) ?n2
 case h2 =>
  (refine kA rfl (by simp (disch := omega) only [iA,aA,qop,fop,St.ev,St.put,cd,zd,Value.oneCell',lA,TypeDesc.aggB,Z0,Z1,pA,qA,tA,eA,D.pure?,ZC,ZD,uA,D.pv?,tt,Z2,mA,nA,eB,Zh,wB,rA,ne_eq,not_false_eq_true] <;> exact rfl) ?_)
  refine mD rfl (by simp only [aA,St.ev,pB,qB,uA,D.pv?,ZG,ZH,zd,cd,Value.oneCell',Zr] <;> exact rfl) (acK hP (c31 ⟨s,f,lv⟩)) (by simp only [St.put,Za,Zb] <;> exact rfl) ?_
  (refine kA rfl (by simp (disch := omega) only [iA,aA,qop,fop,St.ev,St.put,cd,zd,Value.oneCell',lA,TypeDesc.aggB,Z0,Z1,pA,qA,tA,eA,D.pure?,ZC,ZD,uA,D.pv?,tt,Z2,mA,nA,eB,Zh,wB,rA,ne_eq,not_false_eq_true] <;> exact rfl) ?_)
  refine bA ?_
  exact hK
 refine jA ?_
 refine cA ?_
 refine tB ?_
 refine cA ?_
 refine gA hX hb [0,1,2] rfl (σ' := ?s3) (fun K hK => ?h3) ?n3
 case h3 =>
  iterate 3 (refine kA rfl (by simp (disch := omega) only [iA,aA,qop,fop,St.ev,St.put,cd,zd,Value.oneCell',lA,TypeDesc.aggB,Z0,cB,iop,t27,eT,Z2,mA,nA,eB,Zh,wB,rA,ne_eq,not_false_eq_true] <;> exact rfl) ?_)
  refine bA ?_
  exact hK
 refine jA ?_
 refine oB _ rfl (fun hc0 => ?_) (fun hc0 => ?_)
 ·try simp only [Zp,Zi,ZK,ZJ,ne_eq,Zn,Zm,ZB,ZA,ZI,not_or,not_and,Zu] at hc0
  refine cA ?_
  refine gA hX hb [0,1,2,3] rfl (σ' := ?s4) (fun K hK => ?h4) ?n4
  case h4 =>
   iterate 4 (refine kA rfl (by simp (disch := omega) only [iA,aA,qop,fop,St.ev,St.put,cd,zd,Value.oneCell',lA,TypeDesc.aggB,Z0,aE,cD,mC,aC,D.cell1,fB,gB,iB,jB,kB,List.all_cons,List.all_nil,uC,TI.place,TI.zeros,TI.kindOk,D.cells?,D.pure?,zp,Value.cells,ZQ,ZP,Z1,iC,D.boxCells,D.live,ZM,ZL,ZN,ZG,ZH,St.setVec,ZC,tt,Z2,mA,nA,eB,Zh,wB,rA,ne_eq,not_false_eq_true] <;> exact rfl) ?_)
   refine bA ?_
   exact hK
  refine jA ?_
  refine bC ?_
  refine xE ?_
  refine tC ?_
  exact kM (oE (by simp only [mE,pA,qA,lA,TypeDesc.aggB,eA,D.pure?,D.pv?,pB,qB,Zd,Zc,Zw,Zk,Zv,Zj,Zx,Zl,Zo,Zr,reduceIte,Nat.reduceAdd,Nat.reduceLeDiff,Zg,Zf,tt] <;> exact rfl) rfl (by first | rfl | (first | (rw [iJ hc0] <;> rfl) | (rw [jJ hc0 hc1] <;> rfl) | (rw [kJ hc0 hc1 hc2] <;> rfl) | (rw [qH hc0 hc1 hc2x hc3] <;> rfl) | (rw [lJ hc0 hc1 hc2x hc3x hc4] <;> rfl) | (rw [rH hc0 hc1 hc2x hc3x hc4x hc5] <;> rfl) | (rw [uI hc0 hc1 hc2x hc3x hc4x hc5] <;> rfl))))
 ·try simp only [Zp,Zi,ZK,ZJ,ne_eq,Zn,Zm,ZB,ZA,ZI,not_or,not_and,Zu] at hc0
  refine cA ?_
  refine gA hX hb [0,1,2,3] rfl (σ' := ?s5) (fun K hK => ?h5) ?n5
  case h5 =>
   iterate 4 (refine kA rfl (by simp (disch := omega) only [iA,aA,qop,fop,St.ev,St.put,cd,zd,Value.oneCell',lA,TypeDesc.aggB,Z0,fA,oA,Z1,pA,qA,tA,eA,D.pure?,ZC,ZD,cB,iop,tt,Z2,mA,nA,eB,Zh,wB,rA,ne_eq,not_false_eq_true] <;> exact rfl) ?_)
   refine bA ?_
   exact hK
  refine jA ?_
  refine oB _ rfl (fun hc1 => ?_) (fun hc1 => ?_)
  ·try simp only [Zp,Zi,ZK,ZJ,ne_eq,Zn,Zm,ZB,ZA,ZI,not_or,not_and,Zu] at hc1
   refine cA ?_
   refine gA hX hb [0,1,2] rfl (σ' := ?s6) (fun K hK => ?h6) ?n6
   case h6 =>
    iterate 3 (refine kA rfl (by simp (disch := omega) only [iA,aA,qop,fop,St.ev,St.put,cd,zd,Value.oneCell',lA,TypeDesc.aggB,Z0,aE,cD,mC,aC,D.cell1,fB,gB,iB,jB,kB,List.all_cons,List.all_nil,uC,TI.place,TI.zeros,TI.kindOk,D.cells?,D.pure?,zp,Value.cells,ZQ,ZP,Z1,iC,D.boxCells,D.live,ZM,ZL,ZN,ZG,ZH,St.setVec,ZC,tt,Z2,mA,nA,eB,Zh,wB,rA,ne_eq,not_false_eq_true] <;> exact rfl) ?_)
    refine bA ?_
    exact hK
   refine jA ?_
   refine bC ?_
   refine xE ?_
   refine tC ?_
   exact kM (oE (by simp only [mE,pA,qA,lA,TypeDesc.aggB,eA,D.pure?,D.pv?,pB,qB,Zd,Zc,Zw,Zk,Zv,Zj,Zx,Zl,Zo,Zr,reduceIte,Nat.reduceAdd,Nat.reduceLeDiff,Zg,Zf,tt] <;> exact rfl) rfl (by first | rfl | (first | (rw [iJ hc0] <;> rfl) | (rw [jJ hc0 hc1] <;> rfl) | (rw [kJ hc0 hc1 hc2] <;> rfl) | (rw [qH hc0 hc1 hc2x hc3] <;> rfl) | (rw [lJ hc0 hc1 hc2x hc3x hc4] <;> rfl) | (rw [rH hc0 hc1 hc2x hc3x hc4x hc5] <;> rfl) | (rw [uI hc0 hc1 hc2x hc3x hc4x hc5] <;> rfl))))
  ·try simp only [Zp,Zi,ZK,ZJ,ne_eq,Zn,Zm,ZB,ZA,ZI,not_or,not_and,Zu] at hc1
   refine cA ?_
   refine vE hX hb [0,1,2,3,4,5,6,7,8,9,10,11] rfl (ts := [25,26,27,28,29,30,31,32,33,34,35]) (t := 24) (d := .p (bv (vs.length < 2 ∨ vs.length % 2 = 1))) (σ' := ?s7) ?j7 ?h7 ?n7
   case j7 => simp only [St.join,List.foldl,Za,Zb]; exact rfl
   case h7 =>
    iterate 5 (all_goals refine kA rfl (by simp (disch := omega) only [iA,aA,qop,fop,St.ev,St.put,cd,zd,Value.oneCell',lA,TypeDesc.aggB,Z0,fA,oA,Z1,pA,qA,tA,eA,D.pure?,ZC,ZD,vC,cB,iop,tt,Z2,mA,nA,eB,Zh,wB,rA,ne_eq,not_false_eq_true] <;> exact rfl) ?_)
    iterate 5 (all_goals first | (refine lC rfl rfl rfl (by simp (disch := omega) only [iA,aA,qop,fop,St.ev,St.put,cd,zd,Value.oneCell',lA,TypeDesc.aggB,Z0,fA,oA,Z1,pA,qA,tA,eA,D.pure?,ZC,ZD,vC,cB,iop,tt,Z2,mA,nA,eB,Zh,wB,rA,ne_eq,not_false_eq_true] <;> exact rfl) ?_) | (first | (refine eC rfl rfl rfl (by simp only [St.put,Za,Zb] <;> exact rfl) ?_) | (refine fC rfl rfl rfl (by simp only [St.put,Za,Zb] <;> exact rfl) ?_)) | (refine cC rfl rfl rfl (by simp only [Za,Zb] <;> exact rfl) (by simp only [Za,Zb] <;> exact rfl) (fun hg => ?_) (fun hg => ?_) <;> (try simp only [Zp,Zi,ZJ,ZK,ne_eq,Zn,Zm,Bool.not_eq_true,Zu] at hg) <;> first | (refine lC rfl rfl rfl (by simp (disch := omega) only [iA,aA,qop,fop,St.ev,St.put,cd,zd,Value.oneCell',lA,TypeDesc.aggB,Z0,fA,oA,Z1,pA,qA,tA,eA,D.pure?,ZC,ZD,vC,cB,iop,tt,Z2,mA,nA,eB,Zh,wB,rA,ne_eq,not_false_eq_true] <;> exact rfl) ?_) | (first | (refine eC rfl rfl rfl (by simp only [St.put,Za,Zb] <;> exact rfl) ?_) | (refine fC rfl rfl rfl (by simp only [St.put,Za,Zb] <;> exact rfl) ?_))))
    iterate 2 (all_goals refine kA rfl (by simp (disch := omega) only [iA,aA,qop,fop,St.ev,St.put,cd,zd,Value.oneCell',lA,TypeDesc.aggB,Z0,fA,oA,Z1,pA,qA,tA,eA,D.pure?,ZC,ZD,vC,cB,iop,tt,Z2,mA,nA,eB,Zh,wB,rA,ne_eq,not_false_eq_true] <;> exact rfl) ?_)
    all_goals refine bA ?_
    all_goals refine ⟨rfl,?_,xD _,yD _,rfl,rfl⟩
    all_goals repeat' (first | exact sA | refine mB ?_ | refine vA rfl ?_ | refine vA ?_ ?_)
    all_goals refine jn ?_
    all_goals ((try simp only [Zp,Zi,ZJ,ZK,Bool.not_eq_true,Zm,Zn,ne_eq,Zf,true_iff,false_iff,iff_true,iff_false] at *) <;> omega)
   refine jA ?_
   refine oB _ rfl (fun hc2 => ?_) (fun hc2 => ?_)
   ·try simp only [Zp,Zi,ZK,ZJ,ne_eq,Zn,Zm,ZB,ZA,ZI,not_or,not_and,Zu] at hc2
    refine cA ?_
    refine gA hX hb [0,1,2] rfl (σ' := ?s8) (fun K hK => ?h8) ?n8
    case h8 =>
     iterate 3 (refine kA rfl (by simp (disch := omega) only [iA,aA,qop,fop,St.ev,St.put,cd,zd,Value.oneCell',lA,TypeDesc.aggB,Z0,aE,cD,mC,aC,D.cell1,fB,gB,iB,jB,kB,List.all_cons,List.all_nil,uC,TI.place,TI.zeros,TI.kindOk,D.cells?,D.pure?,zp,Value.cells,ZQ,ZP,Z1,iC,D.boxCells,D.live,ZM,ZL,ZN,ZG,ZH,St.setVec,ZC,tt,Z2,mA,nA,eB,Zh,wB,rA,ne_eq,not_false_eq_true] <;> exact rfl) ?_)
     refine bA ?_
     exact hK
    refine jA ?_
    refine bC ?_
    refine xE ?_
    refine tC ?_
    exact kM (oE (by simp only [mE,pA,qA,lA,TypeDesc.aggB,eA,D.pure?,D.pv?,pB,qB,Zd,Zc,Zw,Zk,Zv,Zj,Zx,Zl,Zo,Zr,reduceIte,Nat.reduceAdd,Nat.reduceLeDiff,Zg,Zf,tt] <;> exact rfl) rfl (by first | rfl | (first | (rw [iJ hc0] <;> rfl) | (rw [jJ hc0 hc1] <;> rfl) | (rw [kJ hc0 hc1 hc2] <;> rfl) | (rw [qH hc0 hc1 hc2x hc3] <;> rfl) | (rw [lJ hc0 hc1 hc2x hc3x hc4] <;> rfl) | (rw [rH hc0 hc1 hc2x hc3x hc4x hc5] <;> rfl) | (rw [uI hc0 hc1 hc2x hc3x hc4x hc5] <;> rfl))))
   ·try simp only [Zp,Zi,ZK,ZJ,ne_eq,Zn,Zm,ZB,ZA,ZI,not_or,not_and,Zu] at hc2
    have hc2x : ¬ (vs.length < 2 ∨ vs.length % 2 = 1) := by omega
    refine cA ?_
    refine eN hX hb (jD hP) [(0,true),(1,true),(2,true),(3,true),(4,true),(5,true),(6,true),(7,true),(8,true),(9,true),(10,true),(11,true),(12,true),(13,true),(14,true),(15,true),(16,true)] (by kernel_rfl) (ts := [38,39,40,41,42,43,44,45,46,47,48,49,50,51,52,53]) (t := 37) (d := .p (bv (vs.getD 0 0 ≠ s ∨ vs.getD 1 0 ≠ f))) (σ' := ?s9) ?j9 ?h9 ?n9
    case j9 => simp only [St.join,List.foldl,Za,Zb]; exact rfl
    case h9 =>
     iterate 8 (all_goals refine eF rfl (by simp (disch := omega) only [qop,fop,St.ev,St.put,cd,zd,Value.oneCell',lA,TypeDesc.aggB,Z0,fA,oA,Z1,pA,qA,tA,eA,D.pure?,ZC,ZD,Int.toNat_zero,Int.toNat_one,xA,yA,wA,ZO,Nat.mul_one,Nat.zero_mul,Zh,cB,iop,tt,Z2,mA,nA,eB,wB,rA,ne_eq,not_false_eq_true] <;> exact rfl) (by simp only [St.put,Za,Zb] <;> exact rfl) ?_)
     iterate 7 (all_goals first | (refine fL rfl rfl rfl (by simp (disch := omega) only [qop,fop,St.ev,St.put,cd,zd,Value.oneCell',lA,TypeDesc.aggB,Z0,fA,oA,Z1,pA,qA,tA,eA,D.pure?,ZC,ZD,Int.toNat_zero,Int.toNat_one,xA,yA,wA,ZO,Nat.mul_one,Nat.zero_mul,Zh,cB,iop,tt,Z2,mA,nA,eB,wB,rA,ne_eq,not_false_eq_true] <;> exact rfl) rfl (by simp only [St.put,Za,Zb] <;> exact rfl) ?_) | (first | (refine kK rfl rfl rfl (by simp only [St.put,Za,Zb] <;> exact rfl) ?_) | (refine jK rfl rfl rfl (by simp only [St.put,Za,Zb] <;> exact rfl) ?_)) | (refine yJ rfl rfl rfl (by simp only [Za,Zb] <;> exact rfl) (by simp only [Za,Zb] <;> exact rfl) (fun hg => ?_) (fun hg => ?_) <;> (try simp only [Zp,Zi,ZJ,ZK,ne_eq,Zn,Zm,Bool.not_eq_true,Zu] at hg) <;> first | (refine fL rfl rfl rfl (by simp (disch := omega) only [qop,fop,St.ev,St.put,cd,zd,Value.oneCell',lA,TypeDesc.aggB,Z0,fA,oA,Z1,pA,qA,tA,eA,D.pure?,ZC,ZD,Int.toNat_zero,Int.toNat_one,xA,yA,wA,ZO,Nat.mul_one,Nat.zero_mul,Zh,cB,iop,tt,Z2,mA,nA,eB,wB,rA,ne_eq,not_false_eq_true] <;> exact rfl) rfl (by simp only [St.put,Za,Zb] <;> exact rfl) ?_) | (first | (refine kK rfl rfl rfl (by simp only [St.put,Za,Zb] <;> exact rfl) ?_) | (refine jK rfl rfl rfl (by simp only [St.put,Za,Zb] <;> exact rfl) ?_))))
     iterate 2 (all_goals refine eF rfl (by simp (disch := omega) only [qop,fop,St.ev,St.put,cd,zd,Value.oneCell',lA,TypeDesc.aggB,Z0,fA,oA,Z1,pA,qA,tA,eA,D.pure?,ZC,ZD,Int.toNat_zero,Int.toNat_one,xA,yA,wA,ZO,Nat.mul_one,Nat.zero_mul,Zh,cB,iop,tt,Z2,mA,nA,eB,wB,rA,ne_eq,not_false_eq_true] <;> exact rfl) (by simp only [St.put,Za,Zb] <;> exact rfl) ?_)
     all_goals refine xC ?_
     all_goals refine ⟨rfl,?_,xD _,yD _,rfl,rfl⟩
     all_goals repeat' (first | exact sA | refine mB ?_ | refine vA rfl ?_ | refine vA ?_ ?_)
     all_goals refine jn ?_
     all_goals ((try simp only [Zp,Zi,ZJ,ZK,Bool.not_eq_true,Zm,Zn,ne_eq,Zf,true_iff,false_iff,iff_true,iff_false] at *) <;> omega)
    refine jA ?_
    refine oB _ rfl (fun hc3 => ?_) (fun hc3 => ?_)
    ·try simp only [Zp,Zi,ZK,ZJ,ne_eq,Zn,Zm,ZB,ZA,ZI,not_or,not_and,Zu] at hc3
     refine cA ?_
     refine gA hX hb [0,1,2] rfl (σ' := ?s10) (fun K hK => ?h10) ?n10
     case h10 =>
      iterate 3 (refine kA rfl (by simp (disch := omega) only [iA,aA,qop,fop,St.ev,St.put,cd,zd,Value.oneCell',lA,TypeDesc.aggB,Z0,aE,cD,mC,aC,D.cell1,fB,gB,iB,jB,kB,List.all_cons,List.all_nil,uC,TI.place,TI.zeros,TI.kindOk,D.cells?,D.pure?,zp,Value.cells,ZQ,ZP,Z1,iC,D.boxCells,D.live,ZM,ZL,ZN,ZG,ZH,St.setVec,ZC,tt,Z2,mA,nA,eB,Zh,wB,rA,ne_eq,not_false_eq_true] <;> exact rfl) ?_)
      refine bA ?_
      exact hK
     refine jA ?_
     refine bC ?_
     refine xE ?_
     refine tC ?_
     exact kM (oE (by simp only [mE,pA,qA,lA,TypeDesc.aggB,eA,D.pure?,D.pv?,pB,qB,Zd,Zc,Zw,Zk,Zv,Zj,Zx,Zl,Zo,Zr,reduceIte,Nat.reduceAdd,Nat.reduceLeDiff,Zg,Zf,tt] <;> exact rfl) rfl (by first | rfl | (first | (rw [iJ hc0] <;> rfl) | (rw [jJ hc0 hc1] <;> rfl) | (rw [kJ hc0 hc1 hc2] <;> rfl) | (rw [qH hc0 hc1 hc2x hc3] <;> rfl) | (rw [lJ hc0 hc1 hc2x hc3x hc4] <;> rfl) | (rw [rH hc0 hc1 hc2x hc3x hc4x hc5] <;> rfl) | (rw [uI hc0 hc1 hc2x hc3x hc4x hc5] <;> rfl))))
    ·try simp only [Zp,Zi,ZK,ZJ,ne_eq,Zn,Zm,ZB,ZA,ZI,not_or,not_and,Zu] at hc3
     have hc3x : ¬ (vs.getD 0 0 ≠ s ∨ vs.getD 1 0 ≠ f) := by omega
     refine cA ?_
     refine vE hX hb [0,1,2,3,4,5,6,7,8,9,10,11] rfl (ts := [56,57,58,59,60,61,62,63,64,65,66]) (t := 55) (d := .p (bv (nu < 0 ∨ (lv.length : Int) ≤ nu))) (σ' := ?s11) ?j11 ?h11 ?n11
     case j11 => simp only [St.join,List.foldl,Za,Zb]; exact rfl
     case h11 =>
      iterate 4 (all_goals refine kA rfl (by simp (disch := omega) only [iA,aA,qop,fop,St.ev,St.put,cd,zd,Value.oneCell',lA,TypeDesc.aggB,Z0,fA,oA,Z1,pA,qA,tA,eA,D.pure?,ZC,ZD,cB,iop,vC,tt,Z2,mA,nA,eB,Zh,wB,rA,ne_eq,not_false_eq_true] <;> exact rfl) ?_)
      iterate 6 (all_goals first | (refine lC rfl rfl rfl (by simp (disch := omega) only [iA,aA,qop,fop,St.ev,St.put,cd,zd,Value.oneCell',lA,TypeDesc.aggB,Z0,fA,oA,Z1,pA,qA,tA,eA,D.pure?,ZC,ZD,cB,iop,vC,tt,Z2,mA,nA,eB,Zh,wB,rA,ne_eq,not_false_eq_true] <;> exact rfl) ?_) | (first | (refine eC rfl rfl rfl (by simp only [St.put,Za,Zb] <;> exact rfl) ?_) | (refine fC rfl rfl rfl (by simp only [St.put,Za,Zb] <;> exact rfl) ?_)) | (refine cC rfl rfl rfl (by simp only [Za,Zb] <;> exact rfl) (by simp only [Za,Zb] <;> exact rfl) (fun hg => ?_) (fun hg => ?_) <;> (try simp only [Zp,Zi,ZJ,ZK,ne_eq,Zn,Zm,Bool.not_eq_true,Zu] at hg) <;> first | (refine lC rfl rfl rfl (by simp (disch := omega) only [iA,aA,qop,fop,St.ev,St.put,cd,zd,Value.oneCell',lA,TypeDesc.aggB,Z0,fA,oA,Z1,pA,qA,tA,eA,D.pure?,ZC,ZD,cB,iop,vC,tt,Z2,mA,nA,eB,Zh,wB,rA,ne_eq,not_false_eq_true] <;> exact rfl) ?_) | (first | (refine eC rfl rfl rfl (by simp only [St.put,Za,Zb] <;> exact rfl) ?_) | (refine fC rfl rfl rfl (by simp only [St.put,Za,Zb] <;> exact rfl) ?_))))
      iterate 2 (all_goals refine kA rfl (by simp (disch := omega) only [iA,aA,qop,fop,St.ev,St.put,cd,zd,Value.oneCell',lA,TypeDesc.aggB,Z0,fA,oA,Z1,pA,qA,tA,eA,D.pure?,ZC,ZD,cB,iop,vC,tt,Z2,mA,nA,eB,Zh,wB,rA,ne_eq,not_false_eq_true] <;> exact rfl) ?_)
      all_goals refine bA ?_
      all_goals refine ⟨rfl,?_,xD _,yD _,rfl,rfl⟩
      all_goals repeat' (first | exact sA | refine mB ?_ | refine vA rfl ?_ | refine vA ?_ ?_)
      all_goals refine jn ?_
      all_goals ((try simp only [Zp,Zi,ZJ,ZK,Bool.not_eq_true,Zm,Zn,ne_eq,Zf,true_iff,false_iff,iff_true,iff_false] at *) <;> omega)
     refine jA ?_
     refine oB _ rfl (fun hc4 => ?_) (fun hc4 => ?_)
     ·try simp only [Zp,Zi,ZK,ZJ,ne_eq,Zn,Zm,ZB,ZA,ZI,not_or,not_and,Zu] at hc4
      refine cA ?_
      refine gA hX hb [0,1,2] rfl (σ' := ?s12) (fun K hK => ?h12) ?n12
      case h12 =>
       iterate 3 (refine kA rfl (by simp (disch := omega) only [iA,aA,qop,fop,St.ev,St.put,cd,zd,Value.oneCell',lA,TypeDesc.aggB,Z0,aE,cD,mC,aC,D.cell1,fB,gB,iB,jB,kB,List.all_cons,List.all_nil,uC,TI.place,TI.zeros,TI.kindOk,D.cells?,D.pure?,zp,Value.cells,ZQ,ZP,Z1,iC,D.boxCells,D.live,ZM,ZL,ZN,ZG,ZH,St.setVec,ZC,tt,Z2,mA,nA,eB,Zh,wB,rA,ne_eq,not_false_eq_true] <;> exact rfl) ?_)
       refine bA ?_
       exact hK
      refine jA ?_
      refine bC ?_
      refine xE ?_
      refine tC ?_
      exact kM (oE (by simp only [mE,pA,qA,lA,TypeDesc.aggB,eA,D.pure?,D.pv?,pB,qB,Zd,Zc,Zw,Zk,Zv,Zj,Zx,Zl,Zo,Zr,reduceIte,Nat.reduceAdd,Nat.reduceLeDiff,Zg,Zf,tt] <;> exact rfl) rfl (by first | rfl | (first | (rw [iJ hc0] <;> rfl) | (rw [jJ hc0 hc1] <;> rfl) | (rw [kJ hc0 hc1 hc2] <;> rfl) | (rw [qH hc0 hc1 hc2x hc3] <;> rfl) | (rw [lJ hc0 hc1 hc2x hc3x hc4] <;> rfl) | (rw [rH hc0 hc1 hc2x hc3x hc4x hc5] <;> rfl) | (rw [uI hc0 hc1 hc2x hc3x hc4x hc5] <;> rfl))))
     ·try simp only [Zp,Zi,ZK,ZJ,ne_eq,Zn,Zm,ZB,ZA,ZI,not_or,not_and,Zu] at hc4
      have hc4x : ¬ (nu < 0 ∨ (lv.length : Int) ≤ nu) := by omega
      have hsm := fH hc0
      dsimp only at hsm
      obtain ⟨k,hk⟩ : ∃ k : Nat,nu = k := ⟨nu.toNat,by omega⟩
      subst hk
      obtain ⟨S,F,hS,hF,q1,q2,q3,q4,q5,q6⟩ := sF hc0
      dsimp only at hS hF
      subst hS
      subst hF
      have hrl := hsm.2.2 _ (qE lv [] k (by omega))
      obtain ⟨P,hP2⟩ : ∃ P,vs.length = 2 + 2 * P := ⟨(vs.length - 2) / 2,by omega⟩
      have hprl : (iD (vs.drop 2)).length = P := by rw [uJ,List.length_drop]; omega
      have hpi := lX (l := vs.drop 2) (fun v hv => hvi v (List.mem_of_mem_drop hv))
      have hpl2 : 2 * P ≤ 1000000 := by omega
      refine uB ?_
      refine cE ?_
      refine jA ?_
      refine cA ?_
      refine gA hX hb [0] rfl (σ' := ?s13) (fun K hK => ?h13) ?n13
      case h13 =>
       (refine kA rfl (by simp (disch := omega) only [iA,aA,qop,fop,St.ev,St.put,cd,zd,Value.oneCell',lA,TypeDesc.aggB,Z0,ZM,ZL,Zl,Zo,ZG,ZH,St.addBox,Value.cells,tt,Z2,mA,nA,eB,Zh,wB,rA,ne_eq,not_false_eq_true] <;> exact rfl) ?_)
       refine bA ?_
       exact hK
      refine jA ?_
      refine jM 3 0 _ 35 2 rfl rfl (σ' := ?s14) ?h14 ?n14
      case h14 => simp only [St.nilCell,St.addVec,Za,Zb,Zl,Zo,ZL,ZM]; exact rfl
      refine cA ?_
      refine cA ?_
      refine gA hX hb [0,1,2,3] rfl (σ' := ?s15) (fun K hK => ?h15) ?n15
      case h15 =>
       iterate 3 (refine kA rfl (by simp (disch := omega) only [iA,aA,qop,fop,St.ev,St.put,cd,zd,Value.oneCell',lA,TypeDesc.aggB,Z0,fA,oA,Z1,pA,qA,tA,eA,D.pure?,ZC,ZD,imp_self,Int.toNat_one,Int.toNat_zero,Nat.one_mul,nI,bnd,Option.isSome_none,ZP,Option.map_none,implies_true,forall_const,ZO,Nat.sub_zero,uA,D.pv?,tt,Z2,mA,nA,eB,Zh,wB,rA,ne_eq,not_false_eq_true,zAA,Nat.mul_one] <;> exact rfl) ?_)
       refine mD rfl (by simp only [aA,St.ev,pB,qB,uA,D.pv?,ZG,ZH,zd,cd,Value.oneCell',Zr] <;> exact rfl) (acK hP (k87 vs _ (mX vs (by omega)))) (by simp only [St.put,Za,Zb] <;> exact rfl) ?_
       refine bA ?_
       exact hK
      refine jA ?_
      refine tB ?_
      refine aM hX hro hpl.j [] [.any,.any,.ptr 0 0,.ptr 1 0,.ptr 2 0,.any,.any,.ptr 3 0,.any,.any,.any,.any,.any,.any,.any,.any,.any,.any,.any,.any,.any,.any,.any,.any,.any,.any,.any,.any,.any,.any,.any,.any,.any,.any,.any,.any,.any,.any,.any,.any,.any,.any,.any,.any,.any,.any,.any,.any,.any,.any,.any,.any,.any,.any,.any,.any,.any,.any,.any,.any,.any,.any,.any,.any,.any,.any,.any,.any,.any,.any,.any,.p (.clo 113 [mF (vs.drop 2),i64 2]),.any,.any,.any,.any,.any,.any,.any,.any,.any,.any,.any,.any,.any,.any,.any,.any,.any,.any,.any,.any,.any,.any,.any,.any,.any,.any,.any,.any,.any,.any,.any,.any,.any,.any,.any,.any,.any,.any,.any,.any,.any,.any,.any,.any,.any,.any] 4 (fun (q1 : Nat) => [⟨26,[.p (i64 (S : Int)),.p (i64 (F : Int)),.p (iE lv)]⟩,⟨90,[.p (i64 ki),.p (i64 fr),.p (i64 de),.p (i64 (k : Int)),.p (i64 va),.p (i64 ep),.p (mF vs),.p (bytes bo)]⟩,⟨90,[.p (i64 0),.p (i64 0),.p (i64 0),.p (i64 0),.p (i64 0),.p (i64 0),.nil,.nil]⟩,⟨40,[.vref 0]⟩]) (fun (q1 : Nat) => [some ⟨35,2,((iD (vs.drop 2)).take q1).length,dE ((iD (vs.drop 2)).take q1)⟩]) [⟨26,[.p (i64 (S : Int)),.p (i64 (F : Int)),.p (iE lv)]⟩,⟨90,[.p (i64 ki),.p (i64 fr),.p (i64 de),.p (i64 (k : Int)),.p (i64 va),.p (i64 ep),.p (mF vs),.p (bytes bo)]⟩,⟨90,[.p (i64 0),.p (i64 0),.p (i64 0),.p (i64 0),.p (i64 0),.p (i64 0),.nil,.nil]⟩,⟨40,[.vref 0]⟩] [some ⟨35,2,((iD (vs.drop 2))).length,dE ((iD (vs.drop 2)))⟩] (rC ⟨rfl,(by repeat first | exact sA | refine mB ?_ | refine vA (by first | rfl | (first | (rw [wF hk2,← jC]; simp) | simp)) ?_),(pC rfl ((by repeat first | exact sA | refine mB ?_ | refine vA (by first | rfl | (first | (rw [wF hk2,← jC]; simp) | simp)) ?_)) (pC rfl ((by repeat first | exact sA | refine mB ?_ | refine vA (by first | rfl | (first | (rw [wF hk2,← jC]; simp) | simp)) ?_)) (pC rfl ((by repeat first | exact sA | refine mB ?_ | refine vA (by first | rfl | (first | (rw [wF hk2,← jC]; simp) | simp)) ?_)) (pC rfl (vA (by first | rfl | (first | (rw [wF hk2,← jC]; simp) | simp)) (sA)) (xB _))))),(jE (by first | rfl | (first | (rw [wF hk2,← jC]; simp) | simp)) (yB _)),rfl,rfl⟩) rfl rfl (hP ▸ (jNA (vs.drop 2) 2 (by omega) (by rw [List.length_drop]; omega))) rfl rfl rfl (by first | rfl | (first | (rw [List.take_of_length_le (by rw [sI,vV (by rw [List.length_drop]; omega),List.length_drop]; omega)]))) (by first | rfl | (first | (rw [List.take_of_length_le (by rw [sI,vV (by rw [List.length_drop]; omega),List.length_drop]; omega)]))) ?_ ?_
      ·intro q1 y hy
       obtain ⟨hk1,rfl⟩ := pS hy
       rw [vV (by rw [List.length_drop]; omega),List.length_drop] at hk1
       have hk2 : 2 * q1 + 1 < (vs.drop 2).length := by rw [List.length_drop]; omega
       have hcl := dZ hk2
       obtain ⟨hca0,hca1⟩ := yAA hk2
       have hpt : ((iD (vs.drop 2)).take q1).length = q1 := by rw [List.length_take]; omega
       unfold gL
       intro X1 hQ hX
       have hP0 := hP; have hP := hQ.trans hP; have hb : tb.Ok X1.P := hP ▸ oC
       change AW X1 _ _ ⟨[.pin 4],[.any,.any,.ptr 0 0,.ptr 1 0,.ptr 2 0,.any,.any,.ptr 3 0,.any,.any,.any,.any,.any,.any,.any,.any,.any,.any,.any,.any,.any,.any,.any,.any,.any,.any,.any,.any,.any,.any,.any,.any,.any,.any,.any,.any,.any,.any,.any,.any,.any,.any,.any,.any,.any,.any,.any,.any,.any,.any,.any,.any,.any,.any,.any,.any,.any,.any,.any,.any,.any,.any,.any,.any,.any,.any,.any,.any,.any,.any,.any,.p (.clo 113 [mF (vs.drop 2),i64 2]),.p (mF (tJ (vs.drop 2) 2 q1)),.any,.any,.any,.any,.any,.any,.any,.any,.any,.any,.any,.any,.any,.any,.any,.any,.any,.any,.any,.any,.any,.any,.any,.any,.any,.any,.any,.any,.any,.any,.any,.any,.any,.any,.any,.any,.any,.any,.any,.any,.any,.any,.any,.any,.any],[⟨26,[.p (i64 (S : Int)),.p (i64 (F : Int)),.p (iE lv)]⟩,⟨90,[.p (i64 ki),.p (i64 fr),.p (i64 de),.p (i64 (k : Int)),.p (i64 va),.p (i64 ep),.p (mF vs),.p (bytes bo)]⟩,⟨90,[.p (i64 0),.p (i64 0),.p (i64 0),.p (i64 0),.p (i64 0),.p (i64 0),.nil,.nil]⟩,⟨40,[.vref 0]⟩],[some ⟨35,2,((iD (vs.drop 2)).take q1).length,dE ((iD (vs.drop 2)).take q1)⟩]⟩
       refine gA hX hb [0] rfl (σ' := ?s16) (fun K hK => ?h16) ?n16
       case h16 =>
        (refine kA rfl (by simp (disch := omega) only [iA,aA,qop,fop,St.ev,St.put,cd,zd,Value.oneCell',lA,TypeDesc.aggB,Z0,Z2,mA,nA,eB,Zh,wB,rA,ne_eq,not_false_eq_true] <;> exact rfl) ?_)
        refine bA ?_
        exact hK
       refine ⟨rfl,rfl,?_⟩
       intro X2 hQ2 hX
       have hP := hQ2.trans hP0; have hb : tb.Ok X2.P := hP ▸ oC
       refine tB ?_
       refine dF hX hb (jD hP) [(0,true),(1,true),(2,true),(3,true),(4,true),(5,true),(6,true),(7,true),(8,false),(9,false),(10,false)] (by kernel_rfl) (σ' := ?s17) (fun K hK => ?h17) ?n17
       case h17 =>
        iterate 8 (refine eF rfl (by simp (disch := omega) only [qop,fop,St.ev,St.put,cd,zd,Value.oneCell',lA,TypeDesc.aggB,Z0,Z1,pA,qA,tA,eA,D.pure?,ZC,ZD,Int.toNat_zero,Int.toNat_one,xA,yA,wA,ZO,Nat.mul_one,Nat.zero_mul,Zh,aE,cD,mC,aC,D.cell1,fB,gB,iB,jB,kB,List.all_cons,List.all_nil,uC,TI.place,TI.zeros,TI.kindOk,D.cells?,zp,Value.cells,ZQ,ZP,zD,aD,bD,bE,bB,rB,ZG,ZH,ZL,ZM,ZN,aB,Nat.reduceAdd,Nat.reduceMul,nD,cG,St.demote,D.demote,St.setVec,List.length_append,reduceIte,iC,D.boxCells,D.live,tt,Z2,mA,nA,eB,wB,rA,ne_eq,not_false_eq_true,hcl,hca0,hca1] <;> exact rfl) (by simp only [St.put,Za,Zb] <;> exact rfl) ?_)
        iterate 3 (refine rG rfl (by simp (disch := omega) only [iA,aA,qop,fop,St.ev,St.put,cd,zd,Value.oneCell',lA,TypeDesc.aggB,Z0,Z1,pA,qA,tA,eA,D.pure?,ZC,ZD,Int.toNat_zero,Int.toNat_one,xA,yA,wA,ZO,Nat.mul_one,Nat.zero_mul,Zh,aE,cD,mC,aC,D.cell1,fB,gB,iB,jB,kB,List.all_cons,List.all_nil,uC,TI.place,TI.zeros,TI.kindOk,D.cells?,zp,Value.cells,ZQ,ZP,zD,aD,bD,bE,bB,rB,ZG,ZH,ZL,ZM,ZN,aB,Nat.reduceAdd,Nat.reduceMul,nD,cG,St.demote,D.demote,St.setVec,List.length_append,reduceIte,iC,D.boxCells,D.live,tt,Z2,mA,nA,eB,wB,rA,ne_eq,not_false_eq_true,hcl,hca0,hca1] <;> exact rfl) ?_)
        refine xC ?_
        exact hK
       refine cE ?_
       exact ⟨rfl,rC ⟨(by first | rfl | (first | (rw [wF hk2,← jC]; simp) | simp)),(by repeat first | exact sA | refine mB ?_ | refine vA rfl ?_),(pC rfl ((by repeat first | exact sA | refine mB ?_ | refine vA (by first | rfl | (first | (rw [wF hk2,← jC]; simp) | simp)) ?_)) (pC rfl ((by repeat first | exact sA | refine mB ?_ | refine vA (by first | rfl | (first | (rw [wF hk2,← jC]; simp) | simp)) ?_)) (pC rfl ((by repeat first | exact sA | refine mB ?_ | refine vA (by first | rfl | (first | (rw [wF hk2,← jC]; simp) | simp)) ?_)) (pC rfl (vA (by first | rfl | (first | (rw [wF hk2,← jC]; simp) | simp)) (sA)) (xB _))))),(jE (by first | rfl | (first | (rw [wF hk2,← jC]; simp) | simp)) (yB _)),rfl,rfl⟩⟩
      refine cE ?_
      refine jA ?_
      refine cA ?_
      refine gA hX hb [0,1,2,3,4,5,6,7] rfl (σ' := ?s18) (fun K hK => ?h18) ?n18
      case h18 =>
       iterate 8 (refine kA rfl (by simp (disch := omega) only [iA,aA,qop,fop,St.ev,St.put,cd,zd,Value.oneCell',lA,TypeDesc.aggB,Z0,fA,oA,Z1,pA,qA,tA,eA,D.pure?,ZC,ZD,Int.toNat_zero,Int.toNat_one,xA,yA,wA,ZO,Nat.mul_one,Nat.zero_mul,Zh,ZM,ZL,ZG,ZH,St.addBox,Value.cells,iC,D.boxCells,D.live,D.cells?,ZN,St.setVec,tt,Z2,mA,nA,eB,wB,rA,ne_eq,not_false_eq_true] <;> exact rfl) ?_)
       refine bA ?_
       exact hK
      refine jA ?_
      refine cA ?_
      refine cA ?_
      refine nH 0 rfl (σ' := ?s20) ?h20 ?n20
      case h20 => simp only [St.freeze,D.freeze,ZG,ZH,Za,Zb,Zr,reduceIte,Nat.reduceEqDiff]; exact rfl
      refine gA hX hb [0,1,2,3,4] rfl (σ' := ?s19) (fun K hK => ?h19) ?n19
      case h19 =>
       iterate 3 (refine kA rfl (by simp (disch := omega) only [iA,aA,qop,fop,St.ev,St.put,cd,zd,Value.oneCell',lA,TypeDesc.aggB,Z0,Z1,pA,qA,tA,eA,D.pure?,ZC,ZD,vC,uA,D.pv?,cB,iop,tt,Z2,mA,nA,eB,Zh,wB,rA,ne_eq,not_false_eq_true] <;> exact rfl) ?_)
       refine mD rfl (by simp only [aA,St.ev,pB,qB,uA,D.pv?,ZG,ZH,zd,cd,Value.oneCell',Zr] <;> exact rfl) (acK hP (c85 (iD (vs.drop 2)) ((lv.getD k []).length : Nat) hpi (by omega))) (by simp only [St.put,Za,Zb] <;> exact rfl) ?_
       (refine kA rfl (by simp (disch := omega) only [iA,aA,qop,fop,St.ev,St.put,cd,zd,Value.oneCell',lA,TypeDesc.aggB,Z0,Z1,pA,qA,tA,eA,D.pure?,ZC,ZD,vC,uA,D.pv?,cB,iop,tt,Z2,mA,nA,eB,Zh,wB,rA,ne_eq,not_false_eq_true] <;> exact rfl) ?_)
       refine bA ?_
       exact hK
      refine jA ?_
      refine oB _ rfl (fun hc5 => ?_) (fun hc5 => ?_)
      ·try simp only [Zp,Zi,ZK,ZJ,ne_eq,Zn,Zm,ZB,ZA,ZI,not_or,not_and,Zu] at hc5
       refine cA ?_
       refine gA hX hb [0,1,2] rfl (σ' := ?s21) (fun K hK => ?h21) ?n21
       case h21 =>
        iterate 3 (refine kA rfl (by simp (disch := omega) only [iA,aA,qop,fop,St.ev,St.put,cd,zd,Value.oneCell',lA,TypeDesc.aggB,Z0,aE,cD,mC,aC,D.cell1,fB,gB,iB,jB,kB,List.all_cons,List.all_nil,uC,TI.place,TI.zeros,TI.kindOk,D.cells?,D.pure?,zp,Value.cells,ZQ,ZP,Z1,iC,D.boxCells,D.live,ZM,ZL,ZN,ZG,ZH,St.setVec,ZC,tt,Z2,mA,nA,eB,Zh,wB,rA,ne_eq,not_false_eq_true] <;> exact rfl) ?_)
        refine bA ?_
        exact hK
       refine jA ?_
       refine bC ?_
       refine tC ?_
       exact kM (oE (by simp only [mE,pA,qA,lA,TypeDesc.aggB,eA,D.pure?,D.pv?,pB,qB,Zd,Zc,Zw,Zk,Zv,Zj,Zx,Zl,Zo,Zr,reduceIte,Nat.reduceAdd,Nat.reduceLeDiff,Zg,Zf,tt] <;> exact rfl) rfl (by first | rfl | (first | (rw [iJ hc0] <;> rfl) | (rw [jJ hc0 hc1] <;> rfl) | (rw [kJ hc0 hc1 hc2] <;> rfl) | (rw [qH hc0 hc1 hc2x hc3] <;> rfl) | (rw [lJ hc0 hc1 hc2x hc3x hc4] <;> rfl) | (rw [rH hc0 hc1 hc2x hc3x hc4x hc5] <;> rfl) | (rw [uI hc0 hc1 hc2x hc3x hc4x hc5] <;> rfl))))
      ·try simp only [Zp,Zi,ZK,ZJ,ne_eq,Zn,Zm,ZB,ZA,ZI,not_or,not_and,Zu] at hc5
       have hxf := qK hc5
       have hxe := wJ hc5
       refine uB ?_
       refine jA ?_
       refine cA ?_
       refine gP hX (oY 90 hb) (jD hP) [(0,true),(1,true),(2,true),(3,true),(4,true),(5,true),(6,true),(7,true)] 8 [(9,true),(10,false),(11,false)] 10 [(8,false),(9,true),(11,false)] (by kernel_rfl) (σ' := ?s22) (fun K hK => ?h22) ?n22
       case h22 =>
        iterate 8 (refine eF rfl (by simp (disch := omega) only [qop,fop,St.ev,St.put,cd,zd,Value.oneCell',lA,TypeDesc.aggB,Z0,fA,oA,Z1,pA,qA,tA,eA,D.pure?,ZC,ZD,uA,D.pv?,aE,cD,mC,aC,D.cell1,fB,gB,iB,jB,kB,List.all_cons,List.all_nil,uC,TI.place,TI.zeros,TI.kindOk,D.cells?,zp,Value.cells,ZQ,ZP,ZM,ZL,ZG,ZH,St.addBox,iC,D.boxCells,D.live,ZN,St.setVec,tt,Z2,mA,nA,eB,Zh,wB,rA,ne_eq,not_false_eq_true,sQ,iL,lI,wG] <;> exact rfl) (by simp only [St.put,Za,Zb] <;> exact rfl) ?_)
        refine xC ?_
        refine ⟨?_,?_⟩
        ·refine eH rfl (by simp only [aA,St.ev,pB,qB,uA,D.pv?,ZG,ZH,zd,cd,Value.oneCell',Zr] <;> exact rfl) (acK hP ((o88 vs (by omega)).pure)) (by simp only [St.put,Za,Zb] <;> exact rfl) ?_
         (refine eF rfl (by simp (disch := omega) only [qop,fop,St.ev,St.put,cd,zd,Value.oneCell',lA,TypeDesc.aggB,Z0,fA,oA,Z1,pA,qA,tA,eA,D.pure?,ZC,ZD,uA,D.pv?,aE,cD,mC,aC,D.cell1,fB,gB,iB,jB,kB,List.all_cons,List.all_nil,uC,TI.place,TI.zeros,TI.kindOk,D.cells?,zp,Value.cells,ZQ,ZP,ZM,ZL,ZG,ZH,St.addBox,iC,D.boxCells,D.live,ZN,St.setVec,tt,Z2,mA,nA,eB,Zh,wB,rA,ne_eq,not_false_eq_true,sQ,iL,lI,wG] <;> exact rfl) (by simp only [St.put,Za,Zb] <;> exact rfl) ?_)
         iterate 2 (refine rG rfl (by simp (disch := omega) only [iA,aA,qop,fop,St.ev,St.put,cd,zd,Value.oneCell',lA,TypeDesc.aggB,Z0,fA,oA,Z1,pA,qA,tA,eA,D.pure?,ZC,ZD,uA,D.pv?,aE,cD,mC,aC,D.cell1,fB,gB,iB,jB,kB,List.all_cons,List.all_nil,uC,TI.place,TI.zeros,TI.kindOk,D.cells?,zp,Value.cells,ZQ,ZP,ZM,ZL,ZG,ZH,St.addBox,iC,D.boxCells,D.live,ZN,St.setVec,tt,Z2,mA,nA,eB,Zh,wB,rA,ne_eq,not_false_eq_true,sQ,iL,lI,wG] <;> exact rfl) ?_)
         refine xC ?_
         exact hK
        ·(refine rG rfl (by simp (disch := omega) only [iA,aA,qop,fop,St.ev,St.put,cd,zd,Value.oneCell',lA,TypeDesc.aggB,Z0,fA,oA,Z1,pA,qA,tA,eA,D.pure?,ZC,ZD,uA,D.pv?,aE,cD,mC,aC,D.cell1,fB,gB,iB,jB,kB,List.all_cons,List.all_nil,uC,TI.place,TI.zeros,TI.kindOk,D.cells?,zp,Value.cells,ZQ,ZP,ZM,ZL,ZG,ZH,St.addBox,iC,D.boxCells,D.live,ZN,St.setVec,tt,Z2,mA,nA,eB,Zh,wB,rA,ne_eq,not_false_eq_true,sQ,iL,lI,wG] <;> exact rfl) ?_)
         refine eH rfl (by simp only [aA,St.ev,pB,qB,uA,D.pv?,ZG,ZH,zd,cd,Value.oneCell',Zr] <;> exact rfl) (acK hP ((o88 vs (by omega)).pure)) (by simp only [St.put,Za,Zb] <;> exact rfl) ?_
         (refine eF rfl (by simp (disch := omega) only [qop,fop,St.ev,St.put,cd,zd,Value.oneCell',lA,TypeDesc.aggB,Z0,fA,oA,Z1,pA,qA,tA,eA,D.pure?,ZC,ZD,uA,D.pv?,aE,cD,mC,aC,D.cell1,fB,gB,iB,jB,kB,List.all_cons,List.all_nil,uC,TI.place,TI.zeros,TI.kindOk,D.cells?,zp,Value.cells,ZQ,ZP,ZM,ZL,ZG,ZH,St.addBox,iC,D.boxCells,D.live,ZN,St.setVec,tt,Z2,mA,nA,eB,Zh,wB,rA,ne_eq,not_false_eq_true,sQ,iL,lI,wG] <;> exact rfl) (by simp only [St.put,Za,Zb] <;> exact rfl) ?_)
         (refine rG rfl (by simp (disch := omega) only [iA,aA,qop,fop,St.ev,St.put,cd,zd,Value.oneCell',lA,TypeDesc.aggB,Z0,fA,oA,Z1,pA,qA,tA,eA,D.pure?,ZC,ZD,uA,D.pv?,aE,cD,mC,aC,D.cell1,fB,gB,iB,jB,kB,List.all_cons,List.all_nil,uC,TI.place,TI.zeros,TI.kindOk,D.cells?,zp,Value.cells,ZQ,ZP,ZM,ZL,ZG,ZH,St.addBox,iC,D.boxCells,D.live,ZN,St.setVec,tt,Z2,mA,nA,eB,Zh,wB,rA,ne_eq,not_false_eq_true,sQ,iL,lI,wG] <;> exact rfl) ?_)
         refine xC ?_
         exact hK
       refine jA ?_
       refine jM 5 7 _ 5 1 rfl rfl (σ' := ?s23) ?h23 ?n23
       case h23 => simp only [St.nilCell,St.addVec,Za,Zb,Zl,Zo,ZL,ZM]; exact rfl
       refine cA ?_
       refine cA ?_
       refine gA hX hb [0,1] rfl (σ' := ?s24) (fun K hK => ?h24) ?n24
       case h24 =>
        (refine kA rfl (by simp (disch := omega) only [iA,aA,qop,fop,St.ev,St.put,cd,zd,Value.oneCell',lA,TypeDesc.aggB,Z0,Z1,pA,qA,tA,eA,D.pure?,ZC,ZD,uA,D.pv?,tt,Z2,mA,nA,eB,Zh,wB,rA,ne_eq,not_false_eq_true] <;> exact rfl) ?_)
        refine mD rfl (by simp only [aA,St.ev,pB,qB,uA,D.pv?,ZG,ZH,zd,cd,Value.oneCell',Zr] <;> exact rfl) (acK hP (c89 (iD (vs.drop 2)))) (by simp only [St.put,Za,Zb] <;> exact rfl) ?_
        refine bA ?_
        exact hK
       refine jA ?_
       refine tB ?_
       refine aM hX hro hpl.j [.coll] [.any,.any,.any,.any,.ptr 2 0,.any,.any,.any,.any,.ptr 4 0,.ptr 5 0,.any,.any,.any,.any,.any,.any,.any,.any,.any,.any,.any,.any,.any,.any,.any,.any,.any,.any,.any,.any,.any,.any,.any,.any,.any,.any,.any,.any,.any,.any,.any,.any,.any,.any,.any,.any,.any,.any,.any,.any,.any,.any,.any,.any,.any,.any,.any,.any,.any,.any,.any,.any,.any,.any,.any,.any,.any,.any,.any,.any,.any,.any,.any,.any,.any,.any,.any,.any,.any,.any,.any,.any,.any,.any,.any,.any,.any,.any,.any,.any,.any,.any,.any,.any,.any,.any,.any,.any,.any,.any,.any,.any,.any,.any,.any,.p (.clo 114 [gD (iD (vs.drop 2))]),.any,.any,.any,.any,.any,.any,.any,.any,.any,.any,.any] 6 (fun (q1 : Nat) => [⟨26,[.p (i64 (S : Int)),.p (i64 (F : Int)),.p (iE lv)]⟩,⟨90,[.p (i64 ki),.p (i64 fr),.p (i64 de),.p (i64 (k : Int)),.p (i64 va),.p (i64 ep),.p (mF vs),.p (bytes bo)]⟩,⟨90,[.p (i64 0),.p (i64 0),.p (i64 0),.p (i64 0),.p (i64 0),.p (i64 0),.nil,.nil]⟩,⟨40,[.p (gD (iD (vs.drop 2)))]⟩,⟨60,[.p (gH (lv.getD k []))]⟩,⟨90,[.p (i64 14),.p (i64 de),.p (i64 fr),.p (i64 (k : Int)),.p (i64 0),.p (i64 0),.p (mF vs),.vref 1]⟩]) (fun (q1 : Nat) => [none,some ⟨5,1,(bF (lv.getD k []) ((vB (iD (vs.drop 2))).take q1)).length,(bF (lv.getD k []) ((vB (iD (vs.drop 2))).take q1)).map u8⟩]) [⟨26,[.p (i64 (S : Int)),.p (i64 (F : Int)),.p (iE lv)]⟩,⟨90,[.p (i64 ki),.p (i64 fr),.p (i64 de),.p (i64 (k : Int)),.p (i64 va),.p (i64 ep),.p (mF vs),.p (bytes bo)]⟩,⟨90,[.p (i64 0),.p (i64 0),.p (i64 0),.p (i64 0),.p (i64 0),.p (i64 0),.nil,.nil]⟩,⟨40,[.p (gD (iD (vs.drop 2)))]⟩,⟨60,[.p (gH (lv.getD k []))]⟩,⟨90,[.p (i64 14),.p (i64 de),.p (i64 fr),.p (i64 (k : Int)),.p (i64 0),.p (i64 0),.p (mF vs),.vref 1]⟩] [none,some ⟨5,1,(bF (lv.getD k []) (vB (iD (vs.drop 2)))).length,(bF (lv.getD k []) (vB (iD (vs.drop 2)))).map u8⟩] (rC ⟨(by first | rfl | (first | (rw [nC _ _ q1 hk1]; simp; done) | (rw [nC _ _ q1 hk1]; simp [eD]) | simp)),(by repeat first | exact sA | refine mB ?_ | refine vA (by first | rfl | (first | (rw [nC _ _ q1 hk1]; simp; done) | (rw [nC _ _ q1 hk1]; simp [eD]) | simp)) ?_),(pC rfl ((by repeat first | exact sA | refine mB ?_ | refine vA (by first | rfl | (first | (rw [nC _ _ q1 hk1]; simp; done) | (rw [nC _ _ q1 hk1]; simp [eD]) | simp)) ?_)) (pC rfl ((by repeat first | exact sA | refine mB ?_ | refine vA (by first | rfl | (first | (rw [nC _ _ q1 hk1]; simp; done) | (rw [nC _ _ q1 hk1]; simp [eD]) | simp)) ?_)) (pC rfl ((by repeat first | exact sA | refine mB ?_ | refine vA (by first | rfl | (first | (rw [nC _ _ q1 hk1]; simp; done) | (rw [nC _ _ q1 hk1]; simp [eD]) | simp)) ?_)) (pC rfl ((by repeat first | exact sA | refine mB ?_ | refine vA (by first | rfl | (first | (rw [nC _ _ q1 hk1]; simp; done) | (rw [nC _ _ q1 hk1]; simp [eD]) | simp)) ?_)) (pC rfl ((by repeat first | exact sA | refine mB ?_ | refine vA (by first | rfl | (first | (rw [nC _ _ q1 hk1]; simp; done) | (rw [nC _ _ q1 hk1]; simp [eD]) | simp)) ?_)) (pC rfl ((by repeat first | exact sA | refine mB ?_ | refine vA (by first | rfl | (first | (rw [nC _ _ q1 hk1]; simp; done) | (rw [nC _ _ q1 hk1]; simp [eD]) | simp)) ?_)) (xB _))))))),(xT (jE (by first | rfl | (first | (rw [nC _ _ q1 hk1]; simp; done) | (rw [nC _ _ q1 hk1]; simp [eD]) | simp)) (yB _))),rfl,rfl⟩) rfl rfl (hP ▸ (eKA (iD (vs.drop 2)) _ hc5)) rfl rfl rfl (by first | rfl | (first | (rw [List.take_of_length_le (by rw [vF]; exact Nat.le_refl _)]))) (by first | rfl | (first | (rw [List.take_of_length_le (by rw [vF]; exact Nat.le_refl _)]))) ?_ ?_
       ·intro q1 y hy
        obtain ⟨hk1,rfl⟩ := vP hy
        have hx1 := nS hc5 _ (qE (vB (iD (vs.drop 2))) 0 q1 hk1)
        have hbl : (bF (lv.getD k []) ((vB (iD (vs.drop 2))).take q1)).length = 8 * q1 := by rw [wO,List.length_take]; omega
        unfold gL
        intro X1 hQ hX
        have hP0 := hP; have hP := hQ.trans hP; have hb : tb.Ok X1.P := hP ▸ oC
        change AW X1 _ _ ⟨[.pin 6],[.any,.any,.any,.any,.ptr 2 0,.any,.any,.any,.any,.ptr 4 0,.ptr 5 0,.any,.any,.any,.any,.any,.any,.any,.any,.any,.any,.any,.any,.any,.any,.any,.any,.any,.any,.any,.any,.any,.any,.any,.any,.any,.any,.any,.any,.any,.any,.any,.any,.any,.any,.any,.any,.any,.any,.any,.any,.any,.any,.any,.any,.any,.any,.any,.any,.any,.any,.any,.any,.any,.any,.any,.any,.any,.any,.any,.any,.any,.any,.any,.any,.any,.any,.any,.any,.any,.any,.any,.any,.any,.any,.any,.any,.any,.any,.any,.any,.any,.any,.any,.any,.any,.any,.any,.any,.any,.any,.any,.any,.any,.any,.any,.p (.clo 114 [gD (iD (vs.drop 2))]),.p (i64 ((vB (iD (vs.drop 2))).getD q1 0 : Nat)),.any,.any,.any,.any,.any,.any,.any,.any,.any,.any],[⟨26,[.p (i64 (S : Int)),.p (i64 (F : Int)),.p (iE lv)]⟩,⟨90,[.p (i64 ki),.p (i64 fr),.p (i64 de),.p (i64 (k : Int)),.p (i64 va),.p (i64 ep),.p (mF vs),.p (bytes bo)]⟩,⟨90,[.p (i64 0),.p (i64 0),.p (i64 0),.p (i64 0),.p (i64 0),.p (i64 0),.nil,.nil]⟩,⟨40,[.p (gD (iD (vs.drop 2)))]⟩,⟨60,[.p (gH (lv.getD k []))]⟩,⟨90,[.p (i64 14),.p (i64 de),.p (i64 fr),.p (i64 (k : Int)),.p (i64 0),.p (i64 0),.p (mF vs),.vref 1]⟩],[none,some ⟨5,1,(bF (lv.getD k []) ((vB (iD (vs.drop 2))).take q1)).length,(bF (lv.getD k []) ((vB (iD (vs.drop 2))).take q1)).map u8⟩]⟩
        refine gA hX hb [0] rfl (σ' := ?s25) (fun K hK => ?h25) ?n25
        case h25 =>
         (refine kA rfl (by simp (disch := omega) only [iA,aA,qop,fop,St.ev,St.put,cd,zd,Value.oneCell',lA,TypeDesc.aggB,Z0,Z2,mA,nA,eB,Zh,wB,rA,ne_eq,not_false_eq_true] <;> exact rfl) ?_)
         refine bA ?_
         exact hK
        refine ⟨rfl,rfl,?_⟩
        intro X2 hQ2 hX
        have hP := hQ2.trans hP0; have hb : tb.Ok X2.P := hP ▸ oC
        refine tB ?_
        refine dF hX hb (jD hP) [(0,true),(1,true),(2,true),(3,true),(4,true),(5,true),(6,false),(7,false),(8,true),(9,false)] (by kernel_rfl) (σ' := ?s26) (fun K hK => ?h26) ?n26
        case h26 =>
         iterate 6 (refine eF rfl (by simp (disch := omega) only [qop,fop,St.ev,St.put,cd,zd,Value.oneCell',lA,TypeDesc.aggB,Z0,fA,oA,Z1,pA,qA,tA,eA,D.pure?,ZC,ZD,Int.toNat_zero,Int.toNat_one,xA,yA,wA,ZO,Nat.mul_one,Nat.zero_mul,Zh,uA,D.pv?,nD,cG,St.demote,D.demote,St.setVec,ZG,ZH,List.length_append,reduceIte,iC,D.boxCells,D.live,D.cells?,ZM,ZL,ZN,tt,Z2,mA,nA,eB,wB,rA,ne_eq,not_false_eq_true,eD] <;> exact rfl) (by simp only [St.put,Za,Zb] <;> exact rfl) ?_)
         refine eH rfl (by simp only [aA,St.ev,pB,qB,uA,D.pv?,ZG,ZH,zd,cd,Value.oneCell',Zr] <;> exact rfl) (acK hP (c90 _)) (by simp only [St.put,Za,Zb] <;> exact rfl) ?_
         (refine rG rfl (by simp (disch := omega) only [iA,aA,qop,fop,St.ev,St.put,cd,zd,Value.oneCell',lA,TypeDesc.aggB,Z0,fA,oA,Z1,pA,qA,tA,eA,D.pure?,ZC,ZD,Int.toNat_zero,Int.toNat_one,xA,yA,wA,ZO,Nat.mul_one,Nat.zero_mul,Zh,uA,D.pv?,nD,cG,St.demote,D.demote,St.setVec,ZG,ZH,List.length_append,reduceIte,iC,D.boxCells,D.live,D.cells?,ZM,ZL,ZN,tt,Z2,mA,nA,eB,wB,rA,ne_eq,not_false_eq_true,eD] <;> exact rfl) ?_)
         (refine eF rfl (by simp (disch := omega) only [qop,fop,St.ev,St.put,cd,zd,Value.oneCell',lA,TypeDesc.aggB,Z0,fA,oA,Z1,pA,qA,tA,eA,D.pure?,ZC,ZD,Int.toNat_zero,Int.toNat_one,xA,yA,wA,ZO,Nat.mul_one,Nat.zero_mul,Zh,uA,D.pv?,nD,cG,St.demote,D.demote,St.setVec,ZG,ZH,List.length_append,reduceIte,iC,D.boxCells,D.live,D.cells?,ZM,ZL,ZN,tt,Z2,mA,nA,eB,wB,rA,ne_eq,not_false_eq_true,eD] <;> exact rfl) (by simp only [St.put,Za,Zb] <;> exact rfl) ?_)
         (refine rG rfl (by simp (disch := omega) only [iA,aA,qop,fop,St.ev,St.put,cd,zd,Value.oneCell',lA,TypeDesc.aggB,Z0,fA,oA,Z1,pA,qA,tA,eA,D.pure?,ZC,ZD,Int.toNat_zero,Int.toNat_one,xA,yA,wA,ZO,Nat.mul_one,Nat.zero_mul,Zh,uA,D.pv?,nD,cG,St.demote,D.demote,St.setVec,ZG,ZH,List.length_append,reduceIte,iC,D.boxCells,D.live,D.cells?,ZM,ZL,ZN,tt,Z2,mA,nA,eB,wB,rA,ne_eq,not_false_eq_true,eD] <;> exact rfl) ?_)
         refine xC ?_
         exact hK
        refine cE ?_
        exact ⟨rfl,rC ⟨(by first | rfl | (first | (rw [nC _ _ q1 hk1]; simp; done) | (rw [nC _ _ q1 hk1]; simp [eD]) | simp)),(by repeat first | exact sA | refine mB ?_ | refine vA rfl ?_),(pC rfl ((by repeat first | exact sA | refine mB ?_ | refine vA (by first | rfl | (first | (rw [nC _ _ q1 hk1]; simp; done) | (rw [nC _ _ q1 hk1]; simp [eD]) | simp)) ?_)) (pC rfl ((by repeat first | exact sA | refine mB ?_ | refine vA (by first | rfl | (first | (rw [nC _ _ q1 hk1]; simp; done) | (rw [nC _ _ q1 hk1]; simp [eD]) | simp)) ?_)) (pC rfl ((by repeat first | exact sA | refine mB ?_ | refine vA (by first | rfl | (first | (rw [nC _ _ q1 hk1]; simp; done) | (rw [nC _ _ q1 hk1]; simp [eD]) | simp)) ?_)) (pC rfl ((by repeat first | exact sA | refine mB ?_ | refine vA (by first | rfl | (first | (rw [nC _ _ q1 hk1]; simp; done) | (rw [nC _ _ q1 hk1]; simp [eD]) | simp)) ?_)) (pC rfl ((by repeat first | exact sA | refine mB ?_ | refine vA (by first | rfl | (first | (rw [nC _ _ q1 hk1]; simp; done) | (rw [nC _ _ q1 hk1]; simp [eD]) | simp)) ?_)) (pC rfl ((by repeat first | exact sA | refine mB ?_ | refine vA (by first | rfl | (first | (rw [nC _ _ q1 hk1]; simp; done) | (rw [nC _ _ q1 hk1]; simp [eD]) | simp)) ?_)) (xB _))))))),(xT (jE (by first | rfl | (first | (rw [nC _ _ q1 hk1]; simp; done) | (rw [nC _ _ q1 hk1]; simp [eD]) | simp)) (yB _))),rfl,rfl⟩⟩
       refine cE ?_
       refine jA ?_
       refine cA ?_
       refine nH 1 rfl (σ' := ?s28) ?h28 ?n28
       case h28 => simp only [St.freeze,D.freeze,ZG,ZH,Za,Zb,Zr,reduceIte,Nat.reduceEqDiff]; exact rfl
       refine gA hX hb [0,1,2] rfl (σ' := ?s27) (fun K hK => ?h27) ?n27
       case h27 =>
        iterate 3 (refine kA rfl (by simp (disch := omega) only [iA,aA,qop,fop,St.ev,St.put,cd,zd,Value.oneCell',lA,TypeDesc.aggB,Z0,Z1,pA,qA,tA,eA,D.pure?,ZC,ZD,iC,D.boxCells,D.live,D.cells?,ZM,ZL,ZN,ZG,ZH,St.setVec,tt,Z2,mA,nA,eB,Zh,wB,rA,ne_eq,not_false_eq_true] <;> exact rfl) ?_)
        refine bA ?_
        exact hK
       refine jA ?_
       refine bC ?_
       exact kM (oE (by simp only [mE,pA,qA,lA,TypeDesc.aggB,eA,D.pure?,D.pv?,pB,qB,Zd,Zc,Zw,Zk,Zv,Zj,Zx,Zl,Zo,Zr,reduceIte,Nat.reduceAdd,Nat.reduceLeDiff,Zg,Zf,tt] <;> exact rfl) rfl (by first | rfl | (first | (rw [iJ hc0] <;> rfl) | (rw [jJ hc0 hc1] <;> rfl) | (rw [kJ hc0 hc1 hc2] <;> rfl) | (rw [qH hc0 hc1 hc2x hc3] <;> rfl) | (rw [lJ hc0 hc1 hc2x hc3x hc4] <;> rfl) | (rw [rH hc0 hc1 hc2x hc3x hc4x hc5] <;> rfl) | (rw [uI hc0 hc1 hc2x hc3x hc4x hc5] <;> rfl))))
end Go.Proofs.Ytldcoekbgfaomaa
end
section
namespace Go.Proofs.Ytldcoekbgfaomaa
open Go.RowKit
set_option maxRecDepth 20000
set_option maxHeartbeats 4000000
attribute [local irreducible] kE sD AW
theorem aBA (X : List Nat) : (gI X).length ≤ X.length := by
 have key : ∀ (l : List Int) (out : List (Int × Int)),(l.foldl dR out).length ≤ out.length + l.length := by
  intro l
  induction l with
  | nil => intro out; simp
  | cons x l ih =>
   intro out
   have h1 : (dR out x).length ≤ out.length + 1 := by
    unfold dR
    split
    ·simp <;> omega
    ·simp
   have := ih (dR out x)
   simp only [List.foldl_cons,Zl]
   omega
 have := key (X.map fun n : Nat => (n : Int)) []
 simpa [gI] using this
theorem wOA (s f : Int) (lv : List (List Int)) (pd : List (Int × Int)) (le : Int) (fo : List (Int × Int)) (se : Int) (dn : Bool) (hl : pd.length ≤ 1000000) :
  ACallsM Try.prog 83 139 [i64 s,i64 f,iE lv,gD pd,i64 le,gD fo,i64 se,bv dn] [i64 s,i64 f,iE lv,gD pd,i64 le,gD fo,i64 se,bv dn] [] (.agg [i64 13,i64 0,i64 0,i64 le,i64 0,i64 0,mF (kI ⟨⟨s,f,lv⟩,pd,le,fo,se,dn⟩),bytes []]) := m83 s f lv pd le fo se dn hl
theorem wI (S F : Int) (lv : List (List Int)) (pd : List (Int × Int)) (k : Nat) (fo : List (Int × Int)) (se : Int) (dif : List Nat) : uL ⟨⟨S,F,lv⟩,pd,((k + 1 : Nat) : Int),fo,se,false⟩ dif = ⟨⟨S,F,lv⟩,gI (aG (lv.getD k []).length dif),(k : Int),[],se + ((vB pd).length : Nat),false⟩ := by
 unfold uL
 dsimp only
 rw [Int.toNat_natCast,Nat.add_sub_cancel,show ((k + 1 : Nat) : Int) - 1 = (k : Int) by omega]
theorem hFA {s f : Int} {lv : List (List Int)} {pd : List (Int × Int)} {le : Int} {fo : List (Int × Int)} {se : Int} {dn : Bool} (h : cL ⟨⟨s,f,lv⟩,pd,le,fo,se,dn⟩ = 0) :
  ∃ S F k : Nat,s = S ∧ f = F ∧ le = k ∧ 1 ≤ S ∧ S ≤ 4096 ∧ 1 ≤ F ∧ F ≤ 4096 ∧ k < lv.length ∧ lv.length ≤ 13 ∧ (∀ r ∈ lv,r.length ≤ 4096) ∧ 0 ≤ se ∧ se ≤ 8192 ∧ sC ⟨s,f,lv⟩ = 0 ∧ pd.length ≤ 4096 ∧
   (dn = false → fo = [] ∧ pd ≠ [] ∧ fJ pd ((lv.getD k []).length : Nat) = 0) := by
 obtain ⟨h1,h2,h3⟩ := gR h
 have hsm := fH h1
 obtain ⟨S,F,hS,hF,q1,q2,q3,q4,q5,q6⟩ := sF h1
 unfold eM at h2
 dsimp only at hsm hS hF h2 h1
 have hk : (le.toNat : Int) = le := by omega
 unfold lK xAA at h3
 dsimp only at h3
 refine ⟨S,F,le.toNat,hS,hF,hk.symm,q1,q2,q3,q4,by omega,hsm.1,hsm.2.2,by omega,by omega,h1,?_,fun hd => ?_⟩
 ·cases dn with
  | true => rw [if_pos rfl] at h3; omega
  | false => rw [if_neg (by simp)] at h3; have := wJ h3.2.2; omega
 ·subst hd
  rw [if_neg (by simp)] at h3
  exact ⟨List.length_eq_zero_iff.1 h3.2.1,fun e => h3.1 (by rw [e]; rfl),h3.2.2⟩
end Go.Proofs.Ytldcoekbgfaomaa
end
section
namespace Go.Proofs.Ytldcoekbgfaomaa
open Go.RowKit
set_option maxRecDepth 20000
set_option maxHeartbeats 4000000
attribute [local irreducible] kE sD AW
theorem nX {row body : List Int} {X : List Nat} (hX : X.Pairwise (· < ·)) : (tH row body X X.length).Pairwise (· < ·) := by
 unfold tH
 rw [List.pairwise_map]
 have h : (List.range X.length).Pairwise fun i j => X.getD i 0 < X.getD j 0 := by
  rw [List.pairwise_iff_getElem]
  intro i j hi hj hij
  simp only [List.length_range] at hi hj
  simp only [List.getElem_range]
  rw [List.getD_eq_getElem?_getD,List.getD_eq_getElem?_getD,List.getElem?_eq_getElem hi,List.getElem?_eq_getElem hj]
  exact (List.pairwise_iff_getElem.1 hX) i j hi hj hij
 exact h.sublist List.filter_sublist
theorem tS {X : List Nat} (h : X ≠ []) : gI X ≠ [] := by
 obtain ⟨Y,x,rfl⟩ : ∃ Y x,X = Y ++ [x] := ⟨X.dropLast,X.getLast h,(List.dropLast_concat_getLast h).symm⟩
 rw [gF]
 unfold dR
 split <;> simp
theorem oX {t : Tr} (hc : sC t = 0) {k : Nat} (hk : k + 1 < t.lv.length) {X : List Nat} (hX : X ≠ []) (hx : ∀ x ∈ X,x < (t.lv.getD (k + 1) []).length) : aG (t.lv.getD k []).length X ≠ [] := by
 obtain ⟨_,_,_,_,_,_,_,_,q5,q6⟩ := sF hc
 have hh : uY t.lv := by rw [← q6]; exact gQ _ _ (Nat.le_refl _)
 have h1 := hh k hk
 cases X with
 | nil => exact absurd rfl hX
 | cons x X =>
  have h2 := hx x (by simp)
  have h3 : 2 * x < (t.lv.getD k []).length := by omega
  simp only [aG,List.flatMap_cons,fU]
  intro h
  rw [List.append_eq_nil_iff] at h
  have h4 := h.1
  rw [List.filter_cons,if_pos (decide_eq_true h3)] at h4
  cases h4
theorem rN (S F : Nat) (lv : List (List Int)) (pd : List (Int × Int)) (k : Nat) (fo : List (Int × Int)) (se : Int) (dif : List Nat) (h : (k : Int) = 0) : vO ⟨⟨(S : Int),(F : Int),lv⟩,pd,(k : Int),fo,se,false⟩ dif = ⟨⟨(S : Int),(F : Int),lv⟩,[],0,mG (eJ S F dif),se + ((vB pd).length : Nat),true⟩ := by
 unfold vO
 dsimp only
 rw [if_pos h]
 rfl
theorem sN (S F : Nat) (lv : List (List Int)) (pd : List (Int × Int)) (k : Nat) (fo : List (Int × Int)) (se : Int) (dif : List Nat) (h : ¬ (k : Int) = 0) : vO ⟨⟨(S : Int),(F : Int),lv⟩,pd,(k : Int),fo,se,false⟩ dif = ⟨⟨(S : Int),(F : Int),lv⟩,[],0,[],se + ((vB pd).length : Nat),true⟩ := by
 unfold vO
 dsimp only
 rw [if_neg h]
theorem c55 (w : Wa) (m : Ms) (hw : wHA w) (hm : uV m) (ht : ∀ r ∈ w.tree.lv,pN r) : ACalls Try.prog 55 [waP w,msP m] (.tup [waP (fM w m).1,.p (wY (fM w m).2.1),.p (i64 (fM w m).2.2)]) := by
 obtain ⟨⟨s,f,lv⟩,pd,le,fo,se,dn⟩ := w
 obtain ⟨ki,fr,de,nu,va,ep,vs,bo⟩ := m
 obtain ⟨hpi,hfi⟩ := hw
 obtain ⟨hvi,hbi⟩ := hm
 dsimp only at hpi hfi hvi hbi ht
 refine wC oC Try.func55 (c := _) rfl (by kernel_rfl) ?_
 intro X hP hX hro hpl
 have hb : tb.Ok X.P := hP ▸ oC
 change AW X _ _ ⟨[],[.agg [i64 s,i64 f,iE lv,gD pd,i64 le,gD fo,i64 se,bv dn],.agg [i64 ki,i64 fr,i64 de,i64 nu,i64 va,i64 ep,mF vs,bytes bo],.any,.any,.any,.any,.any,.any,.any,.any,.any,.any,.any,.any,.any,.any,.any,.any,.any,.any,.any,.any,.any,.any,.any,.any,.any,.any,.any,.any,.any,.any,.any,.any,.any,.any,.any,.any,.any,.any,.any,.any,.any,.any,.any,.any,.any,.any,.any,.any,.any,.any,.any,.any,.any,.any,.any,.any,.any,.any,.any,.any,.any,.any,.any,.any,.any,.any,.any,.any,.any,.any,.any,.any,.any,.any,.any,.any,.any,.any,.any,.any,.any,.any,.any,.any,.any,.any,.any,.any,.any,.any,.any,.any,.any,.any,.any,.any,.any,.any],[],[]⟩
 refine cA ?_
 refine gA hX hb [0,1,2,3,4] rfl (σ' := ?s1) (fun K hK => ?h1) ?n1
 case h1 =>
  iterate 5 (refine kA rfl (by simp (disch := omega) only [iA,aA,qop,fop,St.ev,St.put,cd,zd,Value.oneCell',lA,TypeDesc.aggB,Z0,ZM,ZL,Zl,Zo,ZG,ZH,St.addBox,D.boxCells,D.live,Value.cells,tt,Z2,mA,nA,eB,Zh,ne_eq,not_false_eq_true] <;> exact rfl) ?_)
  refine bA ?_
  exact hK
 refine jA ?_
 refine cA ?_
 refine cA ?_
 refine gA hX hb [0,1,2] rfl (σ' := ?s2) (fun K hK => ?h2) ?n2
 case h2 =>
  (refine kA rfl (by simp (disch := omega) only [iA,aA,qop,fop,St.ev,St.put,cd,zd,Value.oneCell',lA,TypeDesc.aggB,Z0,Z1,pA,qA,tA,eA,D.pure?,ZC,ZD,uA,D.pv?,tt,Z2,mA,nA,eB,Zh,ne_eq,not_false_eq_true] <;> exact rfl) ?_)
  refine mD rfl (by simp only [aA,St.ev,pB,qB,uA,D.pv?,ZG,ZH,zd,cd,Value.oneCell',Zr] <;> exact rfl) (acK hP (c49 ⟨⟨s,f,lv⟩,pd,le,fo,se,dn⟩ ⟨hpi,hfi⟩)) (by simp only [St.put,Za,Zb] <;> exact rfl) ?_
  (refine kA rfl (by simp (disch := omega) only [iA,aA,qop,fop,St.ev,St.put,cd,zd,Value.oneCell',lA,TypeDesc.aggB,Z0,Z1,pA,qA,tA,eA,D.pure?,ZC,ZD,uA,D.pv?,tt,Z2,mA,nA,eB,Zh,ne_eq,not_false_eq_true] <;> exact rfl) ?_)
  refine bA ?_
  exact hK
 refine jA ?_
 refine cA ?_
 refine gA hX hb [0,1] rfl (σ' := ?s3) (fun K hK => ?h3) ?n3
 case h3 =>
  iterate 2 (refine kA rfl (by simp (disch := omega) only [iA,aA,qop,fop,St.ev,St.put,cd,zd,Value.oneCell',lA,TypeDesc.aggB,Z0,cB,iop,t27,eT,Z2,mA,nA,eB,Zh,ne_eq,not_false_eq_true] <;> exact rfl) ?_)
  refine bA ?_
  exact hK
 refine jA ?_
 refine oB _ rfl (fun hc0 => ?_) (fun hc0 => ?_)
 ·try simp only [Zp,Zi,ZK,ZJ,ne_eq,Zn,Zm,ZB,ZA,ZI,not_or,not_and,Zu] at hc0
  refine cA ?_
  refine gA hX hb [0,1,2,3,4] rfl (σ' := ?s4) (fun K hK => ?h4) ?n4
  case h4 =>
   iterate 5 (refine kA rfl (by simp (disch := omega) only [iA,aA,qop,fop,St.ev,St.put,cd,zd,Value.oneCell',lA,TypeDesc.aggB,Z0,aE,cD,mC,aC,D.cell1,fB,gB,iB,jB,kB,List.all_cons,List.all_nil,uC,TI.place,TI.zeros,TI.kindOk,D.cells?,D.pure?,zp,Value.cells,ZQ,ZP,Z1,iC,D.boxCells,D.live,ZM,ZL,ZN,ZG,ZH,St.setVec,ZC,tt,Z2,mA,nA,eB,Zh,ne_eq,not_false_eq_true] <;> exact rfl) ?_)
   refine bA ?_
   exact hK
  refine jA ?_
  refine bC ?_
  refine tC ?_
  exact zC rfl (iF (by simp only [mE,pA,qA,lA,TypeDesc.aggB,eA,D.pure?,D.pv?,pB,qB,Zd,Zc,Zw,Zk,Zv,Zj,Zx,Zl,Zo,Zr,reduceIte,Nat.reduceAdd,Nat.reduceLeDiff,Zg,Zf,tt] <;> exact rfl) rfl rfl (by first | rfl | (first | (rw [mN hc0] <;> rfl) | (rw [nL hc0 hc1] <;> rfl) | (rw [nN (m := ⟨ki,fr,de,nu,va,ep,vs,bo⟩) hc0 hc1x hc2] <;> rfl) | (rw [oL (m := ⟨ki,fr,de,nu,va,ep,vs,bo⟩) hc0 hc1x hc2 hc3] <;> rfl) | (rw [oN (m := ⟨ki,fr,de,nu,va,ep,vs,bo⟩) hc0 hc1x hc2 hc3x hc4x] <;> rfl) | (rw [bG (m := ⟨ki,fr,de,nu,va,ep,vs,bo⟩) hc0 hc1x hc2 hc3x hc4y (.inl hc5),rN _ _ _ _ _ _ _ _ hc5] <;> rfl) | (rw [bG (m := ⟨ki,fr,de,nu,va,ep,vs,bo⟩) hc0 hc1x hc2 hc3x hc4y (.inr hdn),sN _ _ _ _ _ _ _ _ hc5] <;> rfl) | (rw [gJ (m := ⟨ki,fr,de,nu,va,ep,vs,bo⟩) hc0 hc1x hc2 hc3x hc4y hc5x,wI,iG] <;> rfl))))
 ·try simp only [Zp,Zi,ZK,ZJ,ne_eq,Zn,Zm,ZB,ZA,ZI,not_or,not_and,Zu] at hc0
  obtain ⟨S,F,k,hS,hF,hk,q1,q2,q3,q4,hkl,hl13,hrs,hs0,hs1,hch,hpl4,hform⟩ := hFA hc0
  subst hS
  subst hF
  subst hk
  have hrl := hrs _ (qE lv [] k hkl)
  refine uB ?_
  refine jA ?_
  refine cA ?_
  refine gA hX hb [0,1,2,3,4] rfl (σ' := ?s5) (fun K hK => ?h5) ?n5
  case h5 =>
   iterate 2 (refine kA rfl (by simp (disch := omega) only [iA,aA,qop,fop,St.ev,St.put,cd,zd,Value.oneCell',lA,TypeDesc.aggB,Z0,fA,oA,Z1,pA,qA,tA,eA,D.pure?,ZC,ZD,uA,D.pv?,iC,D.boxCells,D.live,D.cells?,ZM,ZL,ZN,ZG,ZH,St.setVec,tt,Z2,mA,nA,eB,Zh,ne_eq,not_false_eq_true] <;> exact rfl) ?_)
   refine mD rfl (by simp only [aA,St.ev,pB,qB,uA,D.pv?,ZG,ZH,zd,cd,Value.oneCell',Zr] <;> exact rfl) (acK hP (c82 ⟨(S : Int),(F : Int),lv⟩ ⟨by dsimp only; omega,hrs⟩)) (by simp only [St.put,Za,Zb] <;> exact rfl) ?_
   iterate 2 (refine kA rfl (by simp (disch := omega) only [iA,aA,qop,fop,St.ev,St.put,cd,zd,Value.oneCell',lA,TypeDesc.aggB,Z0,fA,oA,Z1,pA,qA,tA,eA,D.pure?,ZC,ZD,uA,D.pv?,iC,D.boxCells,D.live,D.cells?,ZM,ZL,ZN,ZG,ZH,St.setVec,tt,Z2,mA,nA,eB,Zh,ne_eq,not_false_eq_true] <;> exact rfl) ?_)
   refine bA ?_
   exact hK
  refine jA ?_
  refine cA ?_
  refine gA hX hb [0,1,2,3] rfl (σ' := ?s6) (fun K hK => ?h6) ?n6
  case h6 =>
   iterate 4 (refine kA rfl (by simp (disch := omega) only [iA,aA,qop,fop,St.ev,St.put,cd,zd,Value.oneCell',lA,TypeDesc.aggB,Z0,Z1,pA,qA,tA,eA,D.pure?,ZC,ZD,aE,cD,mC,aC,D.cell1,fB,gB,iB,jB,kB,List.all_cons,List.all_nil,uC,TI.place,TI.zeros,TI.kindOk,D.cells?,zp,Value.cells,ZQ,ZP,ZM,ZL,ZG,ZH,St.addBox,D.boxCells,D.live,tt,Z2,mA,nA,eB,Zh,ne_eq,not_false_eq_true] <;> exact rfl) ?_)
   refine bA ?_
   exact hK
  refine jA ?_
  refine cA ?_
  refine gA hX hb [0,1,2,3] rfl (σ' := ?s7) (fun K hK => ?h7) ?n7
  case h7 =>
   (refine kA rfl (by simp (disch := omega) only [iA,aA,qop,fop,St.ev,St.put,cd,zd,Value.oneCell',lA,TypeDesc.aggB,Z0,uA,D.pv?,ZM,ZL,Z1,ZG,ZH,St.addBox,Value.cells,iC,D.boxCells,D.live,D.cells?,D.pure?,ZN,St.setVec,ZC,tt,Z2,mA,nA,eB,Zh,ne_eq,not_false_eq_true] <;> exact rfl) ?_)
   refine iAA rfl rfl (by simp only [St.ev,pB,qB,zd,cd,Value.oneCell',Zr] <;> exact rfl) rfl (by simp only [St.ev,pB,qB,zd,cd,Value.oneCell',Zr] <;> exact rfl) rfl (by simp only [eA,D.pure?] <;> exact rfl) (by simp only [uA,pD,D.pvC?,D.pvN?,D.pvL?,eA,D.pv?,D.pure?,St.ev,pB,qB,zd,cd,Value.oneCell',Zr,ZG,ZH,Zd,Zc,Zg] <;> exact rfl) (acM hP (wOA (S : Int) (F : Int) lv pd (k : Int) fo se dn (by omega))) (by simp only [St.put,ZG,ZH,Za,Zb] <;> exact rfl) ?_
   iterate 2 (refine kA rfl (by simp (disch := omega) only [iA,aA,qop,fop,St.ev,St.put,cd,zd,Value.oneCell',lA,TypeDesc.aggB,Z0,uA,D.pv?,ZM,ZL,Z1,ZG,ZH,St.addBox,Value.cells,iC,D.boxCells,D.live,D.cells?,D.pure?,ZN,St.setVec,ZC,tt,Z2,mA,nA,eB,Zh,ne_eq,not_false_eq_true] <;> exact rfl) ?_)
   refine bA ?_
   exact hK
  refine jA ?_
  refine cA ?_
  refine tB ?_
  refine cA ?_
  refine gA hX hb [0,1,2,3,4,5] rfl (σ' := ?s8) (fun K hK => ?h8) ?n8
  case h8 =>
   iterate 6 (refine kA rfl (by simp (disch := omega) only [iA,aA,qop,fop,St.ev,St.put,cd,zd,Value.oneCell',lA,TypeDesc.aggB,Z0,fA,oA,Z1,pA,qA,tA,eA,D.pure?,ZC,ZD,tt,Z2,mA,nA,eB,Zh,ne_eq,not_false_eq_true] <;> exact rfl) ?_)
   refine bA ?_
   exact hK
  refine jA ?_
  refine oB _ rfl (fun hc1 => ?_) (fun hc1 => ?_)
  ·try simp only [Zp,Zi,ZK,ZJ,ne_eq,Zn,Zm,ZB,ZA,ZI,not_or,not_and,Zu] at hc1
   refine cA ?_
   refine gA hX hb [0,1,2,3] rfl (σ' := ?s9) (fun K hK => ?h9) ?n9
   case h9 =>
    iterate 4 (refine kA rfl (by simp (disch := omega) only [iA,aA,qop,fop,St.ev,St.put,cd,zd,Value.oneCell',lA,TypeDesc.aggB,Z0,aE,cD,mC,aC,D.cell1,fB,gB,iB,jB,kB,List.all_cons,List.all_nil,uC,TI.place,TI.zeros,TI.kindOk,D.cells?,D.pure?,zp,Value.cells,ZQ,ZP,Z1,iC,D.boxCells,D.live,ZM,ZL,ZN,ZG,ZH,St.setVec,ZC,tt,Z2,mA,nA,eB,Zh,ne_eq,not_false_eq_true] <;> exact rfl) ?_)
    refine bA ?_
    exact hK
   refine jA ?_
   refine bC ?_
   refine xE ?_
   refine tC ?_
   exact zC rfl (iF (by simp only [mE,pA,qA,lA,TypeDesc.aggB,eA,D.pure?,D.pv?,pB,qB,Zd,Zc,Zw,Zk,Zv,Zj,Zx,Zl,Zo,Zr,reduceIte,Nat.reduceAdd,Nat.reduceLeDiff,Zg,Zf,tt] <;> exact rfl) rfl rfl (by first | rfl | (first | (rw [mN hc0] <;> rfl) | (rw [nL hc0 hc1] <;> rfl) | (rw [nN (m := ⟨ki,fr,de,nu,va,ep,vs,bo⟩) hc0 hc1x hc2] <;> rfl) | (rw [oL (m := ⟨ki,fr,de,nu,va,ep,vs,bo⟩) hc0 hc1x hc2 hc3] <;> rfl) | (rw [oN (m := ⟨ki,fr,de,nu,va,ep,vs,bo⟩) hc0 hc1x hc2 hc3x hc4x] <;> rfl) | (rw [bG (m := ⟨ki,fr,de,nu,va,ep,vs,bo⟩) hc0 hc1x hc2 hc3x hc4y (.inl hc5),rN _ _ _ _ _ _ _ _ hc5] <;> rfl) | (rw [bG (m := ⟨ki,fr,de,nu,va,ep,vs,bo⟩) hc0 hc1x hc2 hc3x hc4y (.inr hdn),sN _ _ _ _ _ _ _ _ hc5] <;> rfl) | (rw [gJ (m := ⟨ki,fr,de,nu,va,ep,vs,bo⟩) hc0 hc1x hc2 hc3x hc4y hc5x,wI,iG] <;> rfl))))
  ·try simp only [Zp,Zi,ZK,ZJ,ne_eq,Zn,Zm,ZB,ZA,ZI,not_or,not_and,Zu] at hc1
   obtain rfl : dn = false := by simpa using hc1
   obtain ⟨rfl,hpne,hp⟩ := hform rfl
   have hpf := wJ hp
   have hpn := qK hp
   have hplt := nS hp
   have hc1x : ¬ (false = true) := by simp
   refine cA ?_
   refine gA hX hb [0,1,2,3] rfl (σ' := ?s10) (fun K hK => ?h10) ?n10
   case h10 =>
    iterate 4 (refine kA rfl (by simp (disch := omega) only [iA,aA,qop,fop,St.ev,St.put,cd,zd,Value.oneCell',lA,TypeDesc.aggB,Z0,fA,oA,Z1,pA,qA,tA,eA,D.pure?,ZC,ZD,cB,iop,tt,Z2,mA,nA,eB,Zh,ne_eq,not_false_eq_true] <;> exact rfl) ?_)
    refine bA ?_
    exact hK
   refine jA ?_
   refine oB _ rfl (fun hc2 => ?_) (fun hc2 => ?_)
   ·try simp only [Zp,Zi,ZK,ZJ,ne_eq,Zn,Zm,ZB,ZA,ZI,not_or,not_and,Zu] at hc2
    refine cA ?_
    refine gA hX hb [0,1,2,3] rfl (σ' := ?s11) (fun K hK => ?h11) ?n11
    case h11 =>
     iterate 4 (refine kA rfl (by simp (disch := omega) only [iA,aA,qop,fop,St.ev,St.put,cd,zd,Value.oneCell',lA,TypeDesc.aggB,Z0,aE,cD,mC,aC,D.cell1,fB,gB,iB,jB,kB,List.all_cons,List.all_nil,uC,TI.place,TI.zeros,TI.kindOk,D.cells?,D.pure?,zp,Value.cells,ZQ,ZP,Z1,iC,D.boxCells,D.live,ZM,ZL,ZN,ZG,ZH,St.setVec,ZC,tt,Z2,mA,nA,eB,Zh,ne_eq,not_false_eq_true] <;> exact rfl) ?_)
     refine bA ?_
     exact hK
    refine jA ?_
    refine bC ?_
    refine xE ?_
    refine tC ?_
    exact zC rfl (iF (by simp only [mE,pA,qA,lA,TypeDesc.aggB,eA,D.pure?,D.pv?,pB,qB,Zd,Zc,Zw,Zk,Zv,Zj,Zx,Zl,Zo,Zr,reduceIte,Nat.reduceAdd,Nat.reduceLeDiff,Zg,Zf,tt] <;> exact rfl) rfl rfl (by first | rfl | (first | (rw [mN hc0] <;> rfl) | (rw [nL hc0 hc1] <;> rfl) | (rw [nN (m := ⟨ki,fr,de,nu,va,ep,vs,bo⟩) hc0 hc1x hc2] <;> rfl) | (rw [oL (m := ⟨ki,fr,de,nu,va,ep,vs,bo⟩) hc0 hc1x hc2 hc3] <;> rfl) | (rw [oN (m := ⟨ki,fr,de,nu,va,ep,vs,bo⟩) hc0 hc1x hc2 hc3x hc4x] <;> rfl) | (rw [bG (m := ⟨ki,fr,de,nu,va,ep,vs,bo⟩) hc0 hc1x hc2 hc3x hc4y (.inl hc5),rN _ _ _ _ _ _ _ _ hc5] <;> rfl) | (rw [bG (m := ⟨ki,fr,de,nu,va,ep,vs,bo⟩) hc0 hc1x hc2 hc3x hc4y (.inr hdn),sN _ _ _ _ _ _ _ _ hc5] <;> rfl) | (rw [gJ (m := ⟨ki,fr,de,nu,va,ep,vs,bo⟩) hc0 hc1x hc2 hc3x hc4y hc5x,wI,iG] <;> rfl))))
   ·try simp only [Zp,Zi,ZK,ZJ,ne_eq,Zn,Zm,ZB,ZA,ZI,not_or,not_and,Zu] at hc2
    refine cA ?_
    refine vE hX hb [0,1,2,3,4,5,6,7,8,9,10,11,12,13] rfl (ts := [39,40,41,42,43,44,45,46,47,48,49,50,51]) (t := 38) (d := .p (bv (nu ≠ (k : Int) ∨ vs ≠ kI ⟨⟨(S : Int),(F : Int),lv⟩,pd,(k : Int),[],se,false⟩))) (σ' := ?s12) ?j12 ?h12 ?n12
    case j12 => simp only [St.join,List.foldl,Za,Zb]; exact rfl
    case h12 =>
     iterate 6 (all_goals refine kA rfl (by simp (disch := omega) only [iA,aA,qop,fop,St.ev,St.put,cd,zd,Value.oneCell',lA,TypeDesc.aggB,Z0,fA,oA,Z1,pA,qA,tA,eA,D.pure?,ZC,ZD,cB,iop,uA,D.pv?,Bool.not_true,Bool.not_false,tt,Z2,mA,nA,eB,Zh,ne_eq,not_false_eq_true] <;> exact rfl) ?_)
     iterate 4 (all_goals first | (refine lC rfl rfl rfl (by simp (disch := omega) only [iA,aA,qop,fop,St.ev,St.put,cd,zd,Value.oneCell',lA,TypeDesc.aggB,Z0,fA,oA,Z1,pA,qA,tA,eA,D.pure?,ZC,ZD,cB,iop,uA,D.pv?,Bool.not_true,Bool.not_false,tt,Z2,mA,nA,eB,Zh,ne_eq,not_false_eq_true] <;> exact rfl) ?_) | (first | (refine eC rfl rfl rfl (by simp only [St.put,Za,Zb] <;> exact rfl) ?_) | (refine fC rfl rfl rfl (by simp only [St.put,Za,Zb] <;> exact rfl) ?_)) | (refine cC rfl rfl rfl (by simp only [Za,Zb] <;> exact rfl) (by simp only [Za,Zb] <;> exact rfl) (fun hg => ?_) (fun hg => ?_) <;> (try simp only [Zp,Zi,ZJ,ZK,ne_eq,Zn,Zm,Bool.not_eq_true,Zu] at hg) <;> first | (refine lC rfl rfl rfl (by simp (disch := omega) only [iA,aA,qop,fop,St.ev,St.put,cd,zd,Value.oneCell',lA,TypeDesc.aggB,Z0,fA,oA,Z1,pA,qA,tA,eA,D.pure?,ZC,ZD,cB,iop,uA,D.pv?,Bool.not_true,Bool.not_false,tt,Z2,mA,nA,eB,Zh,ne_eq,not_false_eq_true] <;> exact rfl) ?_) | (first | (refine eC rfl rfl rfl (by simp only [St.put,Za,Zb] <;> exact rfl) ?_) | (refine fC rfl rfl rfl (by simp only [St.put,Za,Zb] <;> exact rfl) ?_))))
     all_goals first | (refine eL rfl rfl rfl (by simp only [aA,St.ev,pB,qB,uA,D.pv?,ZG,ZH,zd,cd,Value.oneCell',Zr] <;> exact rfl) (acK hP (c81 vs (kI ⟨⟨(S : Int),(F : Int),lv⟩,pd,(k : Int),[],se,false⟩))) (by simp only [St.put,Za,Zb] <;> exact rfl) ?_) | (first | (refine eC rfl rfl rfl (by simp only [St.put,Za,Zb] <;> exact rfl) ?_) | (refine fC rfl rfl rfl (by simp only [St.put,Za,Zb] <;> exact rfl) ?_)) | (refine cC rfl rfl rfl (by simp only [Za,Zb] <;> exact rfl) (by simp only [Za,Zb] <;> exact rfl) (fun hg => ?_) (fun hg => ?_) <;> (try simp only [Zp,Zi,ZJ,ZK,ne_eq,Zn,Zm,Bool.not_eq_true,Zu] at hg) <;> first | (refine eL rfl rfl rfl (by simp only [aA,St.ev,pB,qB,uA,D.pv?,ZG,ZH,zd,cd,Value.oneCell',Zr] <;> exact rfl) (acK hP (c81 vs (kI ⟨⟨(S : Int),(F : Int),lv⟩,pd,(k : Int),[],se,false⟩))) (by simp only [St.put,Za,Zb] <;> exact rfl) ?_) | (first | (refine eC rfl rfl rfl (by simp only [St.put,Za,Zb] <;> exact rfl) ?_) | (refine fC rfl rfl rfl (by simp only [St.put,Za,Zb] <;> exact rfl) ?_)))
     (all_goals first | (refine lC rfl rfl rfl (by simp (disch := omega) only [iA,aA,qop,fop,St.ev,St.put,cd,zd,Value.oneCell',lA,TypeDesc.aggB,Z0,fA,oA,Z1,pA,qA,tA,eA,D.pure?,ZC,ZD,cB,iop,uA,D.pv?,Bool.not_true,Bool.not_false,tt,Z2,mA,nA,eB,Zh,ne_eq,not_false_eq_true] <;> exact rfl) ?_) | (first | (refine eC rfl rfl rfl (by simp only [St.put,Za,Zb] <;> exact rfl) ?_) | (refine fC rfl rfl rfl (by simp only [St.put,Za,Zb] <;> exact rfl) ?_)) | (refine cC rfl rfl rfl (by simp only [Za,Zb] <;> exact rfl) (by simp only [Za,Zb] <;> exact rfl) (fun hg => ?_) (fun hg => ?_) <;> (try simp only [Zp,Zi,ZJ,ZK,ne_eq,Zn,Zm,Bool.not_eq_true,Zu] at hg) <;> first | (refine lC rfl rfl rfl (by simp (disch := omega) only [iA,aA,qop,fop,St.ev,St.put,cd,zd,Value.oneCell',lA,TypeDesc.aggB,Z0,fA,oA,Z1,pA,qA,tA,eA,D.pure?,ZC,ZD,cB,iop,uA,D.pv?,Bool.not_true,Bool.not_false,tt,Z2,mA,nA,eB,Zh,ne_eq,not_false_eq_true] <;> exact rfl) ?_) | (first | (refine eC rfl rfl rfl (by simp only [St.put,Za,Zb] <;> exact rfl) ?_) | (refine fC rfl rfl rfl (by simp only [St.put,Za,Zb] <;> exact rfl) ?_))))
     iterate 2 (all_goals refine kA rfl (by simp (disch := omega) only [iA,aA,qop,fop,St.ev,St.put,cd,zd,Value.oneCell',lA,TypeDesc.aggB,Z0,fA,oA,Z1,pA,qA,tA,eA,D.pure?,ZC,ZD,cB,iop,uA,D.pv?,Bool.not_true,Bool.not_false,tt,Z2,mA,nA,eB,Zh,ne_eq,not_false_eq_true] <;> exact rfl) ?_)
     all_goals refine bA ?_
     all_goals refine ⟨rfl,?_,xD _,yD _,rfl,rfl⟩
     all_goals repeat' (first | exact sA | refine mB ?_ | refine vA rfl ?_ | refine vA ?_ ?_)
     all_goals refine jn ?_
     all_goals ((try simp only [Zp,Zi,ZJ,ZK,Bool.not_eq_true,Zm,Zn,ne_eq,Zf,true_iff,false_iff,iff_true,iff_false] at *) <;> first | omega | (simp_all; done) | (simp_all; omega))
    refine jA ?_
    refine oB _ rfl (fun hc3 => ?_) (fun hc3 => ?_)
    ·try simp only [Zp,Zi,ZK,ZJ,ne_eq,Zn,Zm,ZB,ZA,ZI,not_or,not_and,Zu] at hc3
     refine cA ?_
     refine gA hX hb [0,1,2,3] rfl (σ' := ?s13) (fun K hK => ?h13) ?n13
     case h13 =>
      iterate 4 (refine kA rfl (by simp (disch := omega) only [iA,aA,qop,fop,St.ev,St.put,cd,zd,Value.oneCell',lA,TypeDesc.aggB,Z0,aE,cD,mC,aC,D.cell1,fB,gB,iB,jB,kB,List.all_cons,List.all_nil,uC,TI.place,TI.zeros,TI.kindOk,D.cells?,D.pure?,zp,Value.cells,ZQ,ZP,Z1,iC,D.boxCells,D.live,ZM,ZL,ZN,ZG,ZH,St.setVec,ZC,tt,Z2,mA,nA,eB,Zh,ne_eq,not_false_eq_true] <;> exact rfl) ?_)
      refine bA ?_
      exact hK
     refine jA ?_
     refine bC ?_
     refine xE ?_
     refine tC ?_
     exact zC rfl (iF (by simp only [mE,pA,qA,lA,TypeDesc.aggB,eA,D.pure?,D.pv?,pB,qB,Zd,Zc,Zw,Zk,Zv,Zj,Zx,Zl,Zo,Zr,reduceIte,Nat.reduceAdd,Nat.reduceLeDiff,Zg,Zf,tt] <;> exact rfl) rfl rfl (by first | rfl | (first | (rw [mN hc0] <;> rfl) | (rw [nL hc0 hc1] <;> rfl) | (rw [nN (m := ⟨ki,fr,de,nu,va,ep,vs,bo⟩) hc0 hc1x hc2] <;> rfl) | (rw [oL (m := ⟨ki,fr,de,nu,va,ep,vs,bo⟩) hc0 hc1x hc2 hc3] <;> rfl) | (rw [oN (m := ⟨ki,fr,de,nu,va,ep,vs,bo⟩) hc0 hc1x hc2 hc3x hc4x] <;> rfl) | (rw [bG (m := ⟨ki,fr,de,nu,va,ep,vs,bo⟩) hc0 hc1x hc2 hc3x hc4y (.inl hc5),rN _ _ _ _ _ _ _ _ hc5] <;> rfl) | (rw [bG (m := ⟨ki,fr,de,nu,va,ep,vs,bo⟩) hc0 hc1x hc2 hc3x hc4y (.inr hdn),sN _ _ _ _ _ _ _ _ hc5] <;> rfl) | (rw [gJ (m := ⟨ki,fr,de,nu,va,ep,vs,bo⟩) hc0 hc1x hc2 hc3x hc4y hc5x,wI,iG] <;> rfl))))
    ·try simp only [Zp,Zi,ZK,ZJ,ne_eq,Zn,Zm,ZB,ZA,ZI,not_or,not_and,Zu] at hc3
     have hc3x : ¬ (nu ≠ (k : Int) ∨ vs ≠ kI ⟨⟨(S : Int),(F : Int),lv⟩,pd,(k : Int),[],se,false⟩) := by rintro (h | h); exact h hc3.1; exact h hc3.2
     refine cA ?_
     refine dF hX hb (jD hP) [(0,true),(1,true),(2,true),(3,true),(4,true),(5,true),(6,true),(7,true),(8,false),(9,true),(10,true),(11,true)] (by kernel_rfl) (σ' := ?s14) (fun K hK => ?h14) ?n14
     case h14 =>
      iterate 8 (refine eF rfl (by simp (disch := omega) only [qop,fop,St.ev,St.put,cd,zd,Value.oneCell',lA,TypeDesc.aggB,Z0,fA,oA,Z1,pA,qA,tA,eA,D.pure?,ZC,ZD,vC,uA,D.pv?,cB,iop,tt,Z2,mA,nA,eB,Zh,ne_eq,not_false_eq_true] <;> exact rfl) (by simp only [St.put,Za,Zb] <;> exact rfl) ?_)
      refine eH rfl (by simp only [aA,St.ev,pB,qB,uA,D.pv?,ZG,ZH,zd,cd,Value.oneCell',Zr] <;> exact rfl) (acK hP (c93 pd _ hp)) (by simp only [St.put,Za,Zb] <;> exact rfl) ?_
      iterate 3 (refine eF rfl (by simp (disch := omega) only [qop,fop,St.ev,St.put,cd,zd,Value.oneCell',lA,TypeDesc.aggB,Z0,fA,oA,Z1,pA,qA,tA,eA,D.pure?,ZC,ZD,vC,uA,D.pv?,cB,iop,tt,Z2,mA,nA,eB,Zh,ne_eq,not_false_eq_true] <;> exact rfl) (by simp only [St.put,Za,Zb] <;> exact rfl) ?_)
      refine xC ?_
      exact hK
     refine jA ?_
     refine oB _ rfl (fun hc4 => ?_) (fun hc4 => ?_)
     ·try simp only [Zp,Zi,ZK,ZJ,ne_eq,Zn,Zm,ZB,ZA,ZI,not_or,not_and,Zu] at hc4
      have hc4x : bo.length ≠ 8 * (vB pd).length := by omega
      refine cA ?_
      refine gA hX hb [0,1,2,3] rfl (σ' := ?s15) (fun K hK => ?h15) ?n15
      case h15 =>
       iterate 4 (refine kA rfl (by simp (disch := omega) only [iA,aA,qop,fop,St.ev,St.put,cd,zd,Value.oneCell',lA,TypeDesc.aggB,Z0,aE,cD,mC,aC,D.cell1,fB,gB,iB,jB,kB,List.all_cons,List.all_nil,uC,TI.place,TI.zeros,TI.kindOk,D.cells?,D.pure?,zp,Value.cells,ZQ,ZP,Z1,iC,D.boxCells,D.live,ZM,ZL,ZN,ZG,ZH,St.setVec,ZC,tt,Z2,mA,nA,eB,Zh,ne_eq,not_false_eq_true] <;> exact rfl) ?_)
       refine bA ?_
       exact hK
      refine jA ?_
      refine bC ?_
      refine xE ?_
      refine tC ?_
      exact zC rfl (iF (by simp only [mE,pA,qA,lA,TypeDesc.aggB,eA,D.pure?,D.pv?,pB,qB,Zd,Zc,Zw,Zk,Zv,Zj,Zx,Zl,Zo,Zr,reduceIte,Nat.reduceAdd,Nat.reduceLeDiff,Zg,Zf,tt] <;> exact rfl) rfl rfl (by first | rfl | (first | (rw [mN hc0] <;> rfl) | (rw [nL hc0 hc1] <;> rfl) | (rw [nN (m := ⟨ki,fr,de,nu,va,ep,vs,bo⟩) hc0 hc1x hc2] <;> rfl) | (rw [oL (m := ⟨ki,fr,de,nu,va,ep,vs,bo⟩) hc0 hc1x hc2 hc3] <;> rfl) | (rw [oN (m := ⟨ki,fr,de,nu,va,ep,vs,bo⟩) hc0 hc1x hc2 hc3x hc4x] <;> rfl) | (rw [bG (m := ⟨ki,fr,de,nu,va,ep,vs,bo⟩) hc0 hc1x hc2 hc3x hc4y (.inl hc5),rN _ _ _ _ _ _ _ _ hc5] <;> rfl) | (rw [bG (m := ⟨ki,fr,de,nu,va,ep,vs,bo⟩) hc0 hc1x hc2 hc3x hc4y (.inr hdn),sN _ _ _ _ _ _ _ _ hc5] <;> rfl) | (rw [gJ (m := ⟨ki,fr,de,nu,va,ep,vs,bo⟩) hc0 hc1x hc2 hc3x hc4y hc5x,wI,iG] <;> rfl))))
     ·try simp only [Zp,Zi,ZK,ZJ,ne_eq,Zn,Zm,ZB,ZA,ZI,not_or,not_and,Zu] at hc4
      have hc4y : bo.length = 8 * (vB pd).length := by omega
      have hdl := jX (lv.getD k []) bo (vB pd) (vB pd).length
      have hdm := kX (row := (lv.getD k [])) (body := bo) (X := vB pd) (Nat.le_refl _)
      refine uB ?_
      refine cE ?_
      refine jA ?_
      refine cA ?_
      refine gA hX hb [0,1,2,3,4] rfl (σ' := ?s16) (fun K hK => ?h16) ?n16
      case h16 =>
       iterate 3 (refine kA rfl (by simp (disch := omega) only [iA,aA,qop,fop,St.ev,St.put,cd,zd,Value.oneCell',lA,TypeDesc.aggB,Z0,fA,oA,Z1,pA,qA,tA,eA,D.pure?,ZC,ZD,uA,D.pv?,tt,Z2,mA,nA,eB,Zh,ne_eq,not_false_eq_true] <;> exact rfl) ?_)
       refine iAA rfl rfl (by simp only [St.ev,pB,qB,zd,cd,Value.oneCell',Zr] <;> exact rfl) rfl (by simp only [St.ev,pB,qB,zd,cd,Value.oneCell',Zr] <;> exact rfl) rfl (by simp only [eA,D.pure?] <;> exact rfl) (by simp only [uA,pD,D.pvC?,D.pvN?,D.pvL?,eA,D.pv?,D.pure?,St.ev,pB,qB,zd,cd,Value.oneCell',Zr,ZG,ZH,Zd,Zc,Zg] <;> exact rfl) (acM hP (m94 S F lv k pd [] se false bo hkl hrl hp hc4y ⟨hs0,by omega⟩)) (by simp only [St.put,ZG,ZH,Za,Zb] <;> exact rfl) ?_
       (refine kA rfl (by simp (disch := omega) only [iA,aA,qop,fop,St.ev,St.put,cd,zd,Value.oneCell',lA,TypeDesc.aggB,Z0,fA,oA,Z1,pA,qA,tA,eA,D.pure?,ZC,ZD,uA,D.pv?,tt,Z2,mA,nA,eB,Zh,ne_eq,not_false_eq_true] <;> exact rfl) ?_)
       refine bA ?_
       exact hK
      refine jA ?_
      refine cA ?_
      refine tB ?_
      refine cA ?_
      refine gA hX hb [0,1,2,3,4,5,6] rfl (σ' := ?s17) (fun K hK => ?h17) ?n17
      case h17 =>
       iterate 7 (refine kA rfl (by simp (disch := omega) only [iA,aA,qop,fop,St.ev,St.put,cd,zd,Value.oneCell',lA,TypeDesc.aggB,Z0,fA,oA,Z1,pA,qA,tA,eA,D.pure?,ZC,ZD,cB,iop,tt,Z2,mA,nA,eB,Zh,ne_eq,not_false_eq_true] <;> exact rfl) ?_)
       refine bA ?_
       exact hK
      refine jA ?_
      refine oB _ rfl (fun hc5 => ?_) (fun hc5 => ?_)
      ·try simp only [Zp,Zi,ZK,ZJ,ne_eq,Zn,Zm,ZB,ZA,ZI,not_or,not_and,Zu] at hc5
       have hdS : ∀ x ∈ (tH (lv.getD k []) bo (vB pd) (vB pd).length),x * F < S := fun x hx => by
        obtain rfl : k = 0 := by omega
        exact vN q3 (by have h1 := hplt x (hdm x hx); have h2 := (qI hch).1; dsimp only at h2; rw [Int.toNat_natCast,Int.toNat_natCast] at h2; omega)
       refine gA hX hb [0,1,2] rfl (σ' := ?s18) (fun K hK => ?h18) ?n18
       case h18 =>
        iterate 2 (refine kA rfl (by simp (disch := omega) only [iA,aA,qop,fop,St.ev,St.put,cd,zd,Value.oneCell',lA,TypeDesc.aggB,Z0,uA,D.pv?,tt,Z2,mA,nA,eB,Zh,ne_eq,not_false_eq_true] <;> exact rfl) ?_)
        refine iAA rfl rfl (by simp only [St.ev,pB,qB,zd,cd,Value.oneCell',Zr] <;> exact rfl) rfl (by simp only [St.ev,pB,qB,zd,cd,Value.oneCell',Zr] <;> exact rfl) rfl (by simp only [eA,D.pure?] <;> exact rfl) (by simp only [uA,pD,D.pvC?,D.pvN?,D.pvL?,eA,D.pv?,D.pure?,St.ev,pB,qB,zd,cd,Value.oneCell',Zr,ZG,ZH,Zd,Zc,Zg] <;> exact rfl) (acM hP (m95 S F lv k pd [] (se + ((vB pd).length : Int)) false (tH (lv.getD k []) bo (vB pd) (vB pd).length) ⟨q3,q4⟩ q2 (nX (bH hp).2.nodes.1) hdS)) (by simp only [St.put,ZG,ZH,Za,Zb] <;> exact rfl) ?_
        refine bA ?_
        exact hK
       refine cE ?_
       refine jA ?_
       refine cA ?_
       refine gA hX hb [0,1,2,3,4,5,6] rfl (σ' := ?s19) (fun K hK => ?h19) ?n19
       case h19 =>
        iterate 7 (refine kA rfl (by simp (disch := omega) only [iA,aA,qop,fop,St.ev,St.put,cd,zd,Value.oneCell',lA,TypeDesc.aggB,Z0,fA,oA,Z1,pA,qA,tA,eA,D.pure?,ZC,ZD,iC,D.boxCells,D.live,D.cells?,ZM,ZL,ZN,ZG,ZH,St.setVec,tt,Z2,mA,nA,eB,Zh,ne_eq,not_false_eq_true] <;> exact rfl) ?_)
        refine bA ?_
        exact hK
       refine jA ?_
       refine bC ?_
       exact zC rfl (iF (by simp only [mE,pA,qA,lA,TypeDesc.aggB,eA,D.pure?,D.pv?,pB,qB,Zd,Zc,Zw,Zk,Zv,Zj,Zx,Zl,Zo,Zr,reduceIte,Nat.reduceAdd,Nat.reduceLeDiff,Zg,Zf,tt] <;> exact rfl) rfl rfl (by first | rfl | (first | (rw [mN hc0] <;> rfl) | (rw [nL hc0 hc1] <;> rfl) | (rw [nN (m := ⟨ki,fr,de,nu,va,ep,vs,bo⟩) hc0 hc1x hc2] <;> rfl) | (rw [oL (m := ⟨ki,fr,de,nu,va,ep,vs,bo⟩) hc0 hc1x hc2 hc3] <;> rfl) | (rw [oN (m := ⟨ki,fr,de,nu,va,ep,vs,bo⟩) hc0 hc1x hc2 hc3x hc4x] <;> rfl) | (rw [bG (m := ⟨ki,fr,de,nu,va,ep,vs,bo⟩) hc0 hc1x hc2 hc3x hc4y (.inl hc5),rN _ _ _ _ _ _ _ _ hc5] <;> rfl) | (rw [bG (m := ⟨ki,fr,de,nu,va,ep,vs,bo⟩) hc0 hc1x hc2 hc3x hc4y (.inr hdn),sN _ _ _ _ _ _ _ _ hc5] <;> rfl) | (rw [gJ (m := ⟨ki,fr,de,nu,va,ep,vs,bo⟩) hc0 hc1x hc2 hc3x hc4y hc5x,wI,iG] <;> rfl))))
      ·try simp only [Zp,Zi,ZK,ZJ,ne_eq,Zn,Zm,ZB,ZA,ZI,not_or,not_and,Zu] at hc5
       refine cA ?_
       refine gA hX hb [0,1,2,3] rfl (σ' := ?s20) (fun K hK => ?h20) ?n20
       case h20 =>
        iterate 4 (refine kA rfl (by simp (disch := omega) only [iA,aA,qop,fop,St.ev,St.put,cd,zd,Value.oneCell',lA,TypeDesc.aggB,Z0,vC,cB,iop,tt,Z2,mA,nA,eB,Zh,ne_eq,not_false_eq_true] <;> exact rfl) ?_)
        refine bA ?_
        exact hK
       refine jA ?_
       refine oB _ rfl (fun hc6 => ?_) (fun hc6 => ?_)
       ·try simp only [Zp,Zi,ZK,ZJ,ne_eq,Zn,Zm,ZB,ZA,ZI,not_or,not_and,Zu] at hc6
        have hdn : (tH (lv.getD k []) bo (vB pd) (vB pd).length) = [] := List.length_eq_zero_iff.1 (by omega)
        refine gA hX hb [0,1] rfl (σ' := ?s21) (fun K hK => ?h21) ?n21
        case h21 =>
         (refine kA rfl (by simp (disch := omega) only [iA,aA,qop,fop,St.ev,St.put,cd,zd,Value.oneCell',lA,TypeDesc.aggB,Z0,uA,D.pv?,mHA,qW,Z2,mA,nA,eB,Zh,ne_eq,not_false_eq_true] <;> exact rfl) ?_)
         refine iAA rfl rfl (by simp only [St.ev,pB,qB,zd,cd,Value.oneCell',Zr] <;> exact rfl) rfl (by simp only [St.ev,pB,qB,zd,cd,Value.oneCell',Zr] <;> exact rfl) rfl (by simp only [eA,D.pure?] <;> exact rfl) (by simp only [uA,pD,D.pvC?,D.pvN?,D.pvL?,eA,D.pv?,D.pure?,St.ev,pB,qB,zd,cd,Value.oneCell',Zr,ZG,ZH,Zd,Zc,Zg] <;> exact rfl) (acM hP (m96 _ _ _ _ _ _ _ _)) (by simp only [St.put,ZG,ZH,Za,Zb] <;> exact rfl) ?_
         refine bA ?_
         exact hK
        refine cE ?_
        refine jA ?_
        refine cA ?_
        refine gA hX hb [0,1,2,3,4,5,6] rfl (σ' := ?s22) (fun K hK => ?h22) ?n22
        case h22 =>
         iterate 7 (refine kA rfl (by simp (disch := omega) only [iA,aA,qop,fop,St.ev,St.put,cd,zd,Value.oneCell',lA,TypeDesc.aggB,Z0,fA,oA,Z1,pA,qA,tA,eA,D.pure?,ZC,ZD,iC,D.boxCells,D.live,D.cells?,ZM,ZL,ZN,ZG,ZH,St.setVec,tt,Z2,mA,nA,eB,Zh,ne_eq,not_false_eq_true] <;> exact rfl) ?_)
         refine bA ?_
         exact hK
        refine jA ?_
        refine bC ?_
        exact zC rfl (iF (by simp only [mE,pA,qA,lA,TypeDesc.aggB,eA,D.pure?,D.pv?,pB,qB,Zd,Zc,Zw,Zk,Zv,Zj,Zx,Zl,Zo,Zr,reduceIte,Nat.reduceAdd,Nat.reduceLeDiff,Zg,Zf,tt] <;> exact rfl) rfl rfl (by first | rfl | (first | (rw [mN hc0] <;> rfl) | (rw [nL hc0 hc1] <;> rfl) | (rw [nN (m := ⟨ki,fr,de,nu,va,ep,vs,bo⟩) hc0 hc1x hc2] <;> rfl) | (rw [oL (m := ⟨ki,fr,de,nu,va,ep,vs,bo⟩) hc0 hc1x hc2 hc3] <;> rfl) | (rw [oN (m := ⟨ki,fr,de,nu,va,ep,vs,bo⟩) hc0 hc1x hc2 hc3x hc4x] <;> rfl) | (rw [bG (m := ⟨ki,fr,de,nu,va,ep,vs,bo⟩) hc0 hc1x hc2 hc3x hc4y (.inl hc5),rN _ _ _ _ _ _ _ _ hc5] <;> rfl) | (rw [bG (m := ⟨ki,fr,de,nu,va,ep,vs,bo⟩) hc0 hc1x hc2 hc3x hc4y (.inr hdn),sN _ _ _ _ _ _ _ _ hc5] <;> rfl) | (rw [gJ (m := ⟨ki,fr,de,nu,va,ep,vs,bo⟩) hc0 hc1x hc2 hc3x hc4y hc5x,wI,iG] <;> rfl))))
       ·try simp only [Zp,Zi,ZK,ZJ,ne_eq,Zn,Zm,ZB,ZA,ZI,not_or,not_and,Zu] at hc6
        obtain ⟨k,rfl⟩ : ∃ k0,k = k0 + 1 := ⟨k - 1,by omega⟩
        have hdn : (tH (lv.getD (k + 1) []) bo (vB pd) (vB pd).length) ≠ [] := fun h => hc6 (by rw [h]; rfl)
        have hc5x : ¬ (((k + 1 : Nat) : Int) = 0 ∨ (tH (lv.getD (k + 1) []) bo (vB pd) (vB pd).length) = []) := by rintro (h | h); omega; exact hdn h
        have hrl0 := hrs _ (qE lv [] k (by omega))
        have hbl := qS (lv.getD k []).length (tH (lv.getD (k + 1) []) bo (vB pd) (vB pd).length)
        have hne := tS (oX hch hkl hdn fun x hx => hplt x (hdm x hx))
        refine cA ?_
        refine gA hX hb [0,1,2] rfl (σ' := ?s23) (fun K hK => ?h23) ?n23
        case h23 =>
         iterate 2 (refine kA rfl (by simp (disch := omega) only [iA,aA,qop,fop,St.ev,St.put,cd,zd,Value.oneCell',lA,TypeDesc.aggB,Z0,uA,D.pv?,tt,Z2,mA,nA,eB,Zh,ne_eq,not_false_eq_true] <;> exact rfl) ?_)
         refine iAA rfl rfl (by simp only [St.ev,pB,qB,zd,cd,Value.oneCell',Zr] <;> exact rfl) rfl (by simp only [St.ev,pB,qB,zd,cd,Value.oneCell',Zr] <;> exact rfl) rfl (by simp only [eA,D.pure?] <;> exact rfl) (by simp only [uA,pD,D.pvC?,D.pvN?,D.pvL?,eA,D.pv?,D.pure?,St.ev,pB,qB,zd,cd,Value.oneCell',Zr,ZG,ZH,Zd,Zc,Zg] <;> exact rfl) (acM hP (m97 S F lv k pd [] (se + ((vB pd).length : Int)) false (tH (lv.getD (k + 1) []) bo (vB pd) (vB pd).length) (by omega) (by omega) (by omega) (fun x hx => by have := hplt x (hdm x hx); omega) hrl0)) (by simp only [St.put,ZG,ZH,Za,Zb] <;> exact rfl) ?_
         refine bA ?_
         exact hK
        refine jA ?_
        refine cA ?_
        refine gP hX hb (jD hP) [(0,true),(1,true),(2,true),(3,true),(4,true),(5,false)] 6 [(7,false),(8,true),(9,true)] 7 [(6,false),(8,true),(9,true)] (by kernel_rfl) (σ' := ?s24) (fun K hK => ?h24) ?n24
        case h24 =>
         iterate 5 (refine eF rfl (by simp (disch := omega) only [qop,fop,St.ev,St.put,cd,zd,Value.oneCell',lA,TypeDesc.aggB,Z0,fA,oA,Z1,pA,qA,tA,eA,D.pure?,ZC,ZD,uA,D.pv?,zD,aD,bD,bE,bB,rB,D.cells?,fB,gB,iB,jB,kB,ZG,ZH,ZL,ZM,ZN,aB,Nat.reduceAdd,Nat.reduceMul,iC,D.boxCells,D.live,St.setVec,tt,Z2,mA,nA,eB,Zh,ne_eq,not_false_eq_true] <;> exact rfl) (by simp only [St.put,Za,Zb] <;> exact rfl) ?_)
         refine sGA rfl rfl (by simp only [St.ev,pB,qB,zd,cd,Value.oneCell',Zr] <;> exact rfl) rfl (by simp only [St.ev,pB,qB,zd,cd,Value.oneCell',Zr] <;> exact rfl) rfl (by simp only [eA,D.pure?] <;> exact rfl) (by simp only [uA,pD,D.pvC?,D.pvN?,D.pvL?,eA,D.pv?,D.pure?,St.ev,pB,qB,zd,cd,Value.oneCell',Zr,ZG,ZH,Zd,Zc,Zg] <;> exact rfl) (acR hP (r83 (S : Int) (F : Int) lv (gI (aG (lv.getD k []).length (tH (lv.getD (k + 1) []) bo (vB pd) (vB pd).length))) (k : Int) [] (se + ((vB pd).length : Int)) false (by have := aBA (aG (lv.getD k []).length (tH (lv.getD (k + 1) []) bo (vB pd) (vB pd).length)); omega) hne)) (by simp only [St.put,Za,Zb] <;> exact rfl) ?_
         refine xC ?_
         refine ⟨?_,?_⟩
         ·iterate 2 (refine rG rfl (by simp (disch := omega) only [iA,aA,qop,fop,St.ev,St.put,cd,zd,Value.oneCell',lA,TypeDesc.aggB,Z0,fA,oA,Z1,pA,qA,tA,eA,D.pure?,ZC,ZD,uA,D.pv?,zD,aD,bD,bE,bB,rB,D.cells?,fB,gB,iB,jB,kB,ZG,ZH,ZL,ZM,ZN,aB,Nat.reduceAdd,Nat.reduceMul,iC,D.boxCells,D.live,St.setVec,tt,Z2,mA,nA,eB,Zh,ne_eq,not_false_eq_true] <;> exact rfl) ?_)
          iterate 2 (refine eF rfl (by simp (disch := omega) only [qop,fop,St.ev,St.put,cd,zd,Value.oneCell',lA,TypeDesc.aggB,Z0,fA,oA,Z1,pA,qA,tA,eA,D.pure?,ZC,ZD,uA,D.pv?,zD,aD,bD,bE,bB,rB,D.cells?,fB,gB,iB,jB,kB,ZG,ZH,ZL,ZM,ZN,aB,Nat.reduceAdd,Nat.reduceMul,iC,D.boxCells,D.live,St.setVec,tt,Z2,mA,nA,eB,Zh,ne_eq,not_false_eq_true] <;> exact rfl) (by simp only [St.put,Za,Zb] <;> exact rfl) ?_)
          refine xC ?_
          exact hK
         ·iterate 2 (refine rG rfl (by simp (disch := omega) only [iA,aA,qop,fop,St.ev,St.put,cd,zd,Value.oneCell',lA,TypeDesc.aggB,Z0,fA,oA,Z1,pA,qA,tA,eA,D.pure?,ZC,ZD,uA,D.pv?,zD,aD,bD,bE,bB,rB,D.cells?,fB,gB,iB,jB,kB,ZG,ZH,ZL,ZM,ZN,aB,Nat.reduceAdd,Nat.reduceMul,iC,D.boxCells,D.live,St.setVec,tt,Z2,mA,nA,eB,Zh,ne_eq,not_false_eq_true] <;> exact rfl) ?_)
          iterate 2 (refine eF rfl (by simp (disch := omega) only [qop,fop,St.ev,St.put,cd,zd,Value.oneCell',lA,TypeDesc.aggB,Z0,fA,oA,Z1,pA,qA,tA,eA,D.pure?,ZC,ZD,uA,D.pv?,zD,aD,bD,bE,bB,rB,D.cells?,fB,gB,iB,jB,kB,ZG,ZH,ZL,ZM,ZN,aB,Nat.reduceAdd,Nat.reduceMul,iC,D.boxCells,D.live,St.setVec,tt,Z2,mA,nA,eB,Zh,ne_eq,not_false_eq_true] <;> exact rfl) (by simp only [St.put,Za,Zb] <;> exact rfl) ?_)
          refine xC ?_
          exact hK
        refine jA ?_
        refine bC ?_
        refine xE ?_
        refine tC ?_
        exact zC rfl (iF (by simp only [mE,pA,qA,lA,TypeDesc.aggB,eA,D.pure?,D.pv?,pB,qB,Zd,Zc,Zw,Zk,Zv,Zj,Zx,Zl,Zo,Zr,reduceIte,Nat.reduceAdd,Nat.reduceLeDiff,Zg,Zf,tt] <;> exact rfl) rfl rfl (by first | rfl | (first | (rw [mN hc0] <;> rfl) | (rw [nL hc0 hc1] <;> rfl) | (rw [nN (m := ⟨ki,fr,de,nu,va,ep,vs,bo⟩) hc0 hc1x hc2] <;> rfl) | (rw [oL (m := ⟨ki,fr,de,nu,va,ep,vs,bo⟩) hc0 hc1x hc2 hc3] <;> rfl) | (rw [oN (m := ⟨ki,fr,de,nu,va,ep,vs,bo⟩) hc0 hc1x hc2 hc3x hc4x] <;> rfl) | (rw [bG (m := ⟨ki,fr,de,nu,va,ep,vs,bo⟩) hc0 hc1x hc2 hc3x hc4y (.inl hc5),rN _ _ _ _ _ _ _ _ hc5] <;> rfl) | (rw [bG (m := ⟨ki,fr,de,nu,va,ep,vs,bo⟩) hc0 hc1x hc2 hc3x hc4y (.inr hdn),sN _ _ _ _ _ _ _ _ hc5] <;> rfl) | (rw [gJ (m := ⟨ki,fr,de,nu,va,ep,vs,bo⟩) hc0 hc1x hc2 hc3x hc4y hc5x,wI,iG] <;> rfl))))
end Go.Proofs.Ytldcoekbgfaomaa
end
section
namespace Go.Proofs.Ytldcoekbgfaomaa
open Go.RowKit
/-! ### Extents of ascending numbers -/
def dEA : Nat → List (Int × Int) → Nat
 | a,[] => a
 | _,e :: r => dEA (e.1.toNat + e.2.toNat + 1) r
theorem ascX_snoc {n : Nat} : ∀ {out : List (Int × Int)} {a : Nat} {e : Int × Int},AscX n a (out ++ [e]) ↔ AscX n a out ∧ ((dEA a out : Nat) : Int) ≤ e.1 ∧ 1 ≤ e.2 ∧ e.1 + e.2 ≤ n
 | [],a,e => by simp [AscX,dEA]
 | x :: r,a,e => by
  simp only [ZL,AscX,dEA]
  rw [ascX_snoc (out := r)]
  constructor
  ·rintro ⟨h1,h2,h3,h4,h5⟩
   exact ⟨⟨h1,h2,h3,h4⟩,h5⟩
  ·rintro ⟨⟨h1,h2,h3,h4⟩,h5⟩
   exact ⟨h1,h2,h3,h4,h5⟩
theorem gU : ∀ (out : List (Int × Int)) (a : Nat) (e : Int × Int),dEA a (out ++ [e]) = e.1.toNat + e.2.toNat + 1
 | [],a,e => rfl
 | x :: r,a,e => gU r _ e
theorem eEA {X : List Nat} {x : Nat} (h : (X ++ [x]).Pairwise (· < ·)) : X.Pairwise (· < ·) ∧ ∀ y ∈ X,y < x := by
 have := List.pairwise_append.1 h
 exact ⟨this.1,fun y hy => this.2.2 y hy x (by simp)⟩
theorem pX {n : Nat} : ∀ (k : Nat) (X : List Nat),X.length ≤ k → X.Pairwise (· < ·) → (∀ x ∈ X,x < n) → AscX n 0 (gI X) ∧ vB (gI X) = X
 | k,X,hk,hX,hn => by
  rcases List.eq_nil_or_concat X with rfl | ⟨Y,x,hYx⟩
  ·exact ⟨trivial,rfl⟩
  ·rw [List.concat_eq_append] at hYx
   subst hYx
   match k,hk with
   | 0,hk => simp at hk
   | k + 1,hk =>
    obtain ⟨hY,hlt⟩ := eEA hX
    obtain ⟨i1,i2⟩ := pX k Y (by simpa using hk) hY (fun y hy => hn y (by simp [hy]))
    have hx : x < n := hn x (by simp)
    rw [gF]
    generalize gI Y = out at *
    rcases List.eq_nil_or_concat out with rfl | ⟨init,l,hl⟩
    ·have hY0 : Y = [] := i2.symm
     subst hY0
     rw [oS (by simp)]
     refine ⟨⟨by omega,by simp,by simp; omega,trivial⟩,?_⟩
     simp [vB]
    ·rw [List.concat_eq_append] at hl
     subst hl
     obtain ⟨a1,a2,a3,a4⟩ := ascX_snoc.1 i1
     have hlast : (init ++ [l]).getD ((init ++ [l]).length - 1) (0,0) = l := by simp
     obtain ⟨l1,l2⟩ := l
     dsimp only at a2 a3 a4
     obtain ⟨u,rfl⟩ : ∃ u : Nat,l1 = u := ⟨l1.toNat,by omega⟩
     obtain ⟨v,rfl⟩ : ∃ v : Nat,l2 = v := ⟨l2.toNat,by omega⟩
     rw [bK,Int.toNat_natCast,Int.toNat_natCast] at i2
     have hmem : u + v - 1 ∈ Y := by
      rw [← i2]
      exact List.mem_append.2 (.inr (List.mem_range'_1.2 (by omega)))
     have hux := hlt _ hmem
     by_cases hc : (u : Int) + (v : Int) = (x : Int)
     ·rw [nV (by rw [hlast]; exact ⟨by simp,hc⟩),hlast]
      have e1 : (init ++ [((u : Int),(v : Int))]).take ((init ++ [((u : Int),(v : Int))]).length - 1) = init := by simp
      rw [e1]
      dsimp only
      refine ⟨ascX_snoc.2 ⟨a1,a2,by dsimp only; omega,by dsimp only; omega⟩,?_⟩
      rw [bK]
      dsimp only
      rw [Int.toNat_natCast,show ((v : Int) + 1).toNat = v + 1 by omega,cK,← List.append_assoc,i2,show u + v = x by omega]
     ·rw [oS (by rw [hlast]; exact fun h => hc h.2)]
      refine ⟨ascX_snoc.2 ⟨ascX_snoc.2 ⟨a1,a2,a3,a4⟩,?_,by dsimp only; omega,by dsimp only; omega⟩,?_⟩
      ·rw [gU]
       dsimp only
       omega
      ·rw [bK,bK,Int.toNat_natCast,Int.toNat_natCast,i2]
       simp
theorem wZ {n : Nat} : ∀ {es : List (Int × Int)} {a : Nat},AscX n a es → xGo n a es = 0
 | [],_,_ => rfl
 | e :: r,a,⟨h1,h2,h3,h4⟩ => by
  rw [xGo,if_neg (by omega),if_neg (by omega),if_neg (by omega),show e.1 + e.2 + 1 = ((e.1.toNat + e.2.toNat + 1 : Nat) : Int) by omega]
  exact wZ h4
theorem uS {n : Nat} {es : List (Int × Int)} (hn : n ≤ 4096) (h : AscX n 0 es) : fJ es n = 0 := by
 rw [fE (by omega)]
 exact wZ (a := 0) h
theorem bBA {X : List Nat} {n : Nat} (hn : n ≤ 4096) (hX : X.Pairwise (· < ·)) (h : ∀ x ∈ X,x < n) : fJ (gI X) n = 0 := uS hn (pX _ X (Nat.le_refl _) hX h).1
theorem wV {n : Nat} : ∀ {es : List (Int × Int)} {a : Nat},n ≤ 4096 → AscX n a es → mS es
 | [],_,_,_ => fun e h => by cases h
 | e :: r,a,hn,⟨h1,h2,h3,h4⟩ => fun x hx => by
  rcases List.mem_cons.1 hx with rfl | hx
  ·exact ⟨⟨by omega,by omega⟩,⟨by omega,by omega⟩⟩
  ·exact wV hn h4 x hx
theorem vS {N : Nat} : ∀ {X : List Nat},X.Pairwise (· < ·) → (aG N X).Pairwise (· < ·)
 | [],_ => List.Pairwise.nil
 | x :: X,h => by
  obtain ⟨h1,h2⟩ := List.pairwise_cons.1 h
  have e : aG N (x :: X) = fU N x ++ aG N X := rfl
  rw [e]
  refine List.pairwise_append.2 ⟨?_,vS h2,fun a ha b hb => ?_⟩
  ·unfold fU
   exact List.Pairwise.sublist List.filter_sublist (by simp)
  ·have ha1 : a ≤ 2 * x + 1 := by
    have := (List.mem_filter.1 ha).1
    simp only [List.mem_cons,List.not_mem_nil,or_false] at this
    omega
   obtain ⟨y,hy,hyb⟩ := List.mem_flatMap.1 hb
   have hb1 : 2 * y ≤ b := by
    have := (List.mem_filter.1 hyb).1
    simp only [List.mem_cons,List.not_mem_nil,or_false] at this
    omega
   have := h1 y hy
   omega
theorem wS : ∀ (es : List (Int × Int)),iD (es.flatMap fun e => [e.1,e.2]) = es
 | [] => rfl
 | e :: r => by
  simp only [List.flatMap_cons,ZL,ZM,iD,wS r]
theorem qX (w : Wa) : (kI w).length = 2 + 2 * w.pend.length := by
 unfold kI
 rw [List.length_append,tE]
 simp
 omega
/-! ### Trees of one shape -/
/-- The rows are short. -/
theorem xZ {t : Tr} (h : sC t = 0) : ∀ k,k < t.lv.length → (t.lv.getD k []).length ≤ 2 ^ (12 - k)
 | 0,_ => by
  have := (qI h).2
  simpa using this
 | k + 1,hk => by
  obtain ⟨_,_,_,_,_,_,_,_,q5,q6⟩ := sF h
  have hh : uY t.lv := by rw [← q6]; exact gQ _ _ (Nat.le_refl _)
  have ih := xZ h k (by omega)
  rw [hh k hk]
  have hl := (nM h).2
  have e : 2 ^ (12 - k) = 2 * 2 ^ (12 - (k + 1)) := by rw [← Nat.pow_succ']; congr 1; omega
  omega
/-- One step: the request is answered,the answer is learned. -/
def iU (b : Tr) (w : Wa) : Wa := (fM w (cH b (tL w)).1).1
def itW (b : Tr) (w : Wa) : Nat → Wa
 | 0 => w
 | i + 1 => if (itW b w i).done = true then itW b w i else iU b (itW b w i)
/-- What is known of a comparison of a with b under way. -/
structure Inv (a b : Tr) (w : Wa) : Prop where
 tree : w.tree = a
 chk : cL w = 0
 goes : w.done = false → ∃ k : Nat,w.level = (k : Int) ∧ k < a.lv.length ∧ w.sent + 1 ≤ ((2 ^ (12 - k) : Nat) : Int) ∧ w.found = [] ∧ w.pend ≠ [] ∧ fJ w.pend ((a.lv.getD k []).length : Nat) = 0
theorem yZ {a : Tr} {w : Wa} (ht : w.tree = a) {k : Nat} (hk : w.level = (k : Int)) : xAA w = a.lv.getD k [] := by
 unfold xAA
 rw [ht,hk,Int.toNat_natCast]
theorem Inv.asks {a b : Tr} {w : Wa} (h : Inv a b w) (hb : sC b = 0) (hs : a.size = b.size) (hf : a.leaf = b.leaf) (hab : Alike a.lv b.lv) (hd : w.done = false) {k : Nat} (hk : w.level = (k : Int)) :
  cH b (tL w) = (⟨14,0,0,w.level,0,0,kI w,bF (b.lv.getD k []) (vB w.pend)⟩,0) := by
 obtain ⟨k',h1,h2,h3,h4,h5,h6⟩ := h.goes hd
 obtain rfl : k' = k := by omega
 have hl := qX w
 have hdr : iD ((tL w).vs.drop 2) = w.pend := wS w.pend
 rw [uI hb rfl (by show ¬ ((kI w).length < 2 ∨ (kI w).length % 2 = 1); omega) (by
  show ¬ ((kI w).getD 0 0 ≠ b.size ∨ (kI w).getD 1 0 ≠ b.leaf)
  rintro (h | h)
  ·exact h (by show w.tree.size = b.size; rw [‹Inv a b w›.tree,hs])
  ·exact h (by show w.tree.leaf = b.leaf; rw [‹Inv a b w›.tree,hf])) (by
  show ¬ (w.level < 0 ∨ (b.lv.length : Int) ≤ w.level)
  have := hab.len
  omega) (by
  rw [hdr]
  show fJ w.pend ((b.lv.getD w.level.toNat []).length : Nat) = 0
  rw [hk,Int.toNat_natCast,← hab.row]
  exact h6),hdr]
 show ((⟨14,0,0,w.level,0,0,kI w,bF (b.lv.getD w.level.toNat []) (vB w.pend)⟩ : Ms),(0 : Int)) = _
 rw [hk,Int.toNat_natCast]
/-- The numbers with other digests in b. -/
def kQ (a b : Tr) (k : Nat) (X : List Nat) : List Nat := X.filter (qM a.lv b.lv k)
theorem Inv.learns {a b : Tr} {w : Wa} (h : Inv a b w) (hd : w.done = false) {k : Nat} (hk : w.level = (k : Int)) (m : Ms) (hm : m.kind = 14 ∧ m.num = w.level ∧ m.vs = kI w) (hl : m.body.length = 8 * (vB w.pend).length) :
  fM w m = if k = 0 ∨ tH (a.lv.getD k []) m.body (vB w.pend) (vB w.pend).length = [] then (vO w (tH (a.lv.getD k []) m.body (vB w.pend) (vB w.pend).length),[],0)
   else (uL w (tH (a.lv.getD k []) m.body (vB w.pend) (vB w.pend).length),[tL (uL w (tH (a.lv.getD k []) m.body (vB w.pend) (vB w.pend).length))],0) := by
 have hdw : sS w m.body = tH (a.lv.getD k []) m.body (vB w.pend) (vB w.pend).length := by rw [sS,yZ h.tree hk]
 have h22 : ¬ (m.num ≠ w.level ∨ m.vs ≠ kI w) := by
  rintro (h | h)
  ·exact h hm.2.1
  ·exact h hm.2.2
 split
 ·rename_i hc
  rw [bG h.chk (by rw [hd]; simp) hm.1 h22 hl (by rw [hdw,hk]; rcases hc with hc | hc; exact .inl (by omega); exact .inr hc),hdw]
 ·rename_i hc
  rw [gJ h.chk (by rw [hd]; simp) hm.1 h22 hl (by rw [hdw,hk]; rintro (h | h); exact hc (.inl (by omega)); exact hc (.inr h)),hdw]
end Go.Proofs.Ytldcoekbgfaomaa
end
section
namespace Go.Proofs.Ytldcoekbgfaomaa
open Go.RowKit
theorem xO {S : Nat} : ∀ (l : List (Int × Int)) (st b : Int) (a : Nat),AscE b l → (∀ e ∈ l,e.1 + e.2 ≤ (S : Int)) → (a : Int) ≤ st → st < b → b ≤ S → AscX S a (dG st b l)
 | [],st,b,a,_,_,h1,h2,h3 => ⟨h1,by dsimp only; omega,by dsimp only; omega,trivial⟩
 | e :: r,st,b,a,⟨g1,g2,g3⟩,hS,h1,h2,h3 => by
  have he := hS e (by simp)
  rw [dG]
  split
  ·exact xO r st (e.1 + e.2) a g3 (fun x hx => hS x (by simp [hx])) h1 (by omega) he
  ·refine ⟨h1,by dsimp only; omega,by dsimp only; omega,?_⟩
   dsimp only
   exact xO r e.1 (e.1 + e.2) _ g3 (fun x hx => hS x (by simp [hx])) (by omega) (by omega) he
theorem mT {S : Nat} {l : List (Int × Int)} (h : AscE 0 l) (hS : ∀ e ∈ l,e.1 + e.2 ≤ (S : Int)) : AscX S 0 (mG l) := by
 cases l with
 | nil => trivial
 | cons e r =>
  obtain ⟨g1,g2,g3⟩ := h
  exact xO r e.1 (e.1 + e.2) 0 g3 (fun x hx => hS x (by simp [hx])) (by omega) (by omega) (hS e (by simp))
theorem cBA {S F : Nat} (hS : S ≤ 4096) (hF : 1 ≤ F) {X : List Nat} (hX : X.Pairwise (· < ·)) (hx : ∀ x ∈ X,x * F < S) : AscX S 0 (mG (eJ S F X)) := by
 refine mT (kS hF X 0 hX hx fun _ _ => Int.natCast_nonneg _) fun e he => ?_
 obtain ⟨x,hxm,rfl⟩ := List.mem_map.1 he
 have := hx x hxm
 dsimp only
 omega
theorem wP (d : Int) : tV (yC d) := by
 intro x hx
 obtain ⟨k,_,rfl⟩ := List.mem_map.1 hx
 show 0 ≤ IntKind.u8.wrap _ ∧ IntKind.u8.wrap _ ≤ 255
 have u : ∀ x : Int,IntKind.u8.wrap x = x % 256 := fun x => rfl
 rw [u]
 omega
theorem dBA (row : List Int) (X : List Nat) : tV (bF row X) := by
 intro x hx
 obtain ⟨y,_,h⟩ := List.mem_flatMap.1 hx
 exact wP _ x h
theorem Inv.begin {a : Tr} (b : Tr) (h : sC a = 0) : Inv a b (nE a) := by
 obtain ⟨hl13,hl1,hr⟩ := fH h
 obtain ⟨_,_,_,_,_,_,_,_,q5,q6⟩ := sF h
 have hlast := oZ q5 (by intro h; rw [h] at hl1; simp at hl1)
 have hx : fJ [(0,1)] ((1 : Nat) : Int) = 0 := rfl
 have hrow : ((a.lv.getD (a.lv.length - 1) []).length) = 1 := hlast
 refine ⟨rfl,uO h ?_ ?_,fun _ => ⟨a.lv.length - 1,rfl,by omega,?_,rfl,by simp [nE],by rw [hrow]; exact hx⟩⟩
 ·unfold eM nE
  dsimp only
  rintro (h | h | ⟨h,_⟩ | h | h)
  ·omega
  ·omega
  ·cases h
  ·omega
  ·omega
 ·unfold lK xAA nE
  dsimp only
  rw [if_neg (by simp),Int.toNat_natCast,hrow]
  exact ⟨by simp,rfl,hx⟩
 ·have : 1 ≤ 2 ^ (12 - (a.lv.length - 1)) := Nat.one_le_two_pow
  show (0 : Int) + 1 ≤ _
  omega
theorem Inv.walkIn {a b : Tr} {w : Wa} (h : Inv a b w) : wHA w := by
 obtain ⟨h1,h2,h3⟩ := gR h.chk
 obtain ⟨S,F,hS,hF,q1,q2,q3,q4,_,_⟩ := sF h1
 unfold lK at h3
 split at h3
 ·have hp : w.pend = [] := List.length_eq_zero_iff.1 h3.1
  refine ⟨(by rw [hp]; intro e he; cases he),?_⟩
  rw [hS] at h3
  exact wV (bH h3.2).1 (bH h3.2).2
 ·have hp : w.found = [] := List.length_eq_zero_iff.1 h3.2.1
  exact ⟨wV (bH h3.2.2).1 (bH h3.2.2).2,by rw [hp]; intro e he; cases he⟩
theorem Inv.step {a b : Tr} {w : Wa} (h : Inv a b w) (ha : sC a = 0) (hd : w.done = false) {k : Nat} (hk : w.level = (k : Int)) {dif : List Nat} (hdif : dif.Pairwise (· < ·)) (hsub : ∀ x ∈ dif,x ∈ vB w.pend) :
  Inv a b (vO w dif) ∧ (k ≠ 0 → dif ≠ [] → Inv a b (uL w dif)) := by
 obtain ⟨k',h1,h2,h3,h4,h5,h6⟩ := h.goes hd
 obtain rfl : k' = k := by omega
 obtain ⟨hc1,hc2,hc3⟩ := gR h.chk
 obtain ⟨S,F,hS,hF,q1,q2,q3,q4,_,_⟩ := sF ha
 have hs0 : 0 ≤ w.sent := by unfold eM at hc2; omega
 have hlen := qK h6
 have hlt := nS h6
 have hpow := xZ ha k' h2
 have hl13 := (nM ha).2
 have hp12 : 2 ^ (12 - k') ≤ 2 ^ 12 := Nat.pow_le_pow_right (by omega) (by omega)
 have hrow : sC w.tree = 0 := hc1
 constructor
 ·refine ⟨h.tree,uO hc1 ?_ ?_,fun hd => by cases hd⟩
  ·unfold eM vO
   dsimp only
   rw [h.tree]
   rintro (h | h | ⟨_,h⟩ | h | h) <;> omega
  ·unfold lK vO
   dsimp only
   rw [if_pos rfl]
   refine ⟨rfl,?_⟩
   rw [h.tree,hS,hF]
   split
   ·rename_i h0
    obtain rfl : k' = 0 := by omega
    refine uS q2 (cBA q2 q3 hdif fun x hx => vN q3 ?_)
    have h7 := hlt x (hsub x hx)
    have h8 := (qI ha).1
    rw [hS,hF,Int.toNat_natCast,Int.toNat_natCast] at h8
    omega
   ·exact uS q2 trivial
 ·intro hk0 hne
  obtain ⟨k,rfl⟩ : ∃ k,k' = k + 1 := ⟨k' - 1,by omega⟩
  have hrl : (a.lv.getD k []).length ≤ 4096 := (fH ha).2.2 _ (qE a.lv [] k (by omega))
  have hbel := oX ha h2 hne (fun x hx => hlt x (hsub x hx))
  have hx := bBA hrl (vS (N := (a.lv.getD k []).length) hdif) (wAA _ dif)
  have hlev : w.level - 1 = (k : Int) := by omega
  have htn : w.level.toNat - 1 = k := by omega
  have e12 : 2 ^ (12 - k) = 2 * 2 ^ (12 - (k + 1)) := by rw [← Nat.pow_succ']; congr 1; omega
  have hdw : (uL w dif).pend = gI (aG (a.lv.getD k []).length dif) := by
   unfold uL
   dsimp only
   rw [htn,h.tree]
  refine ⟨h.tree,uO hc1 ?_ ?_,fun _ => ⟨k,hlev,by omega,?_,rfl,?_,?_⟩⟩
  ·unfold eM uL
   dsimp only
   rw [h.tree,hlev]
   rintro (h | h | ⟨h,_⟩ | h | h)
   ·omega
   ·omega
   ·cases h
   ·omega
   ·omega
  ·unfold lK
   rw [if_neg (by simp [uL]),hdw,yZ (show (uL w dif).tree = a from h.tree) (show (uL w dif).level = (k : Int) from hlev)]
   exact ⟨fun h => tS hbel (List.length_eq_zero_iff.1 h),rfl,hx⟩
  ·show w.sent + ((vB w.pend).length : Nat) + 1 ≤ _
   rw [e12]
   omega
  ·rw [hdw]; exact tS hbel
  ·rw [hdw]; exact hx
/-- What the step makes of a walk under way. -/
theorem Inv.next {a b : Tr} {w : Wa} (h : Inv a b w) (ha : sC a = 0) (hb : sC b = 0) (hs : a.size = b.size) (hf : a.leaf = b.leaf) (hd : w.done = false) {k : Nat} (hk : w.level = (k : Int)) :
  ∃ m dif,cH b (tL w) = (m,0) ∧ m.kind = 14 ∧ m.num = w.level ∧ m.vs = kI w ∧ m.body = bF (b.lv.getD k []) (vB w.pend) ∧ dif = tH (a.lv.getD k []) m.body (vB w.pend) (vB w.pend).length ∧
   (fM w m = if k = 0 ∨ dif = [] then (vO w dif,[],0) else (uL w dif,[tL (uL w dif)],0)) ∧ iU b w = (if k = 0 ∨ dif = [] then vO w dif else uL w dif) ∧ Inv a b (iU b w) := by
 obtain ⟨k',h1,h2,h3,h4,h5,h6⟩ := h.goes hd
 obtain rfl : k' = k := by omega
 have hq := h.asks hb hs hf (pP ha hb hs hf) hd hk
 have hl := h.learns (b := b) hd hk ⟨14,0,0,w.level,0,0,kI w,bF (b.lv.getD k' []) (vB w.pend)⟩ ⟨rfl,rfl,rfl⟩ (wO _ _)
 have hst := h.step (b := b) ha hd hk (nX (row := a.lv.getD k' []) (body := bF (b.lv.getD k' []) (vB w.pend)) (bH h6).2.nodes.1) (kX (Nat.le_refl _))
 have hsw : iU b w = (if k' = 0 ∨ tH (a.lv.getD k' []) (bF (b.lv.getD k' []) (vB w.pend)) (vB w.pend) (vB w.pend).length = [] then vO w (tH (a.lv.getD k' []) (bF (b.lv.getD k' []) (vB w.pend)) (vB w.pend) (vB w.pend).length) else uL w (tH (a.lv.getD k' []) (bF (b.lv.getD k' []) (vB w.pend)) (vB w.pend) (vB w.pend).length)) := by
  unfold iU
  rw [hq,hl]
  split <;> rfl
 refine ⟨_,_,hq,rfl,rfl,rfl,rfl,rfl,hl,hsw,?_⟩
 rw [hsw]
 split
 ·exact hst.1
 ·rename_i hc
  exact hst.2 (fun h => hc (.inl h)) (fun h => hc (.inr h))
theorem zZ {a b : Tr} {w : Wa} (h : Inv a b w) : uV (tL w) := by
 refine ⟨fun v hv => ?_,fun x hx => by cases hx⟩
 obtain ⟨h1,_,_⟩ := gR h.chk
 obtain ⟨S,F,hS,hF,q1,q2,q3,q4,_,_⟩ := sF h1
 have hv' : v ∈ kI w := hv
 unfold kI at hv'
 rcases List.mem_append.1 hv' with hv' | hv'
 ·simp only [List.mem_cons,List.not_mem_nil,or_false] at hv'
  unfold uP
  omega
 ·obtain ⟨e,he,hve⟩ := List.mem_flatMap.1 hv'
  have := h.walkIn.1 e he
  simp only [List.mem_cons,List.not_mem_nil,or_false] at hve
  rcases hve with rfl | rfl
  ·exact this.1
  ·exact this.2
theorem rX {b : Tr} {w : Wa} {i : Nat} (h : (itW b w i).done = true) : ∀ j,i ≤ j → itW b w j = itW b w i
 | 0,hj => by
  obtain rfl : i = 0 := by omega
  rfl
 | j + 1,hj => by
  rcases Nat.lt_or_eq_of_le hj with hj1 | rfl
  ·have ih := rX h j (by omega)
   rw [itW,ih,if_pos h]
  ·rfl
theorem xS {b : Tr} {w : Wa} {i : Nat} (h : (itW b w i).done = false) : itW b w (i + 1) = iU b (itW b w i) := by rw [itW,if_neg (by rw [h]; simp)]
/-- What is known after i steps. -/
structure ItI (a b : Tr) (i : Nat) : Prop where
 inv : Inv a b (itW b (nE a) i)
 lev : (itW b (nE a) i).done = false → i < a.lv.length ∧ (itW b (nE a) i).level = ((a.lv.length - 1 - i : Nat) : Int)
theorem fGA {a : Tr} (b : Tr) (ha : sC a = 0) : ItI a b 0 := ⟨Inv.begin b ha,fun _ => ⟨by have := (nM ha).1; omega,rfl⟩⟩
theorem iKA {a b : Tr} {i : Nat} (h : ItI a b i) (ha : sC a = 0) (hb : sC b = 0) (hs : a.size = b.size) (hf : a.leaf = b.leaf) (hd : (itW b (nE a) i).done = false) : ItI a b (i + 1) := by
 obtain ⟨hi,hl⟩ := h.lev hd
 obtain ⟨m,dif,_,_,_,_,_,_,_,h8,h9⟩ := h.inv.next ha hb hs hf hd hl
 have e := xS hd
 refine ⟨by rw [e]; exact h9,fun hd2 => ?_⟩
 rw [e,h8] at hd2 ⊢
 split at hd2
 ·cases hd2
 ·rename_i hc
  rw [if_neg hc]
  refine ⟨by omega,?_⟩
  show (itW b (nE a) i).level - 1 = _
  omega
def tM (a b : Tr) : List (Int × Int) × Int × Int :=
 if sC a ≠ 0 then ([],0,sC a) else if sC b ≠ 0 then ([],0,sC b) else if a.size ≠ b.size ∨ a.leaf ≠ b.leaf then ([],0,22)
 else ((itW b (nE a) a.lv.length).found,(itW b (nE a) a.lv.length).sent,0)
end Go.Proofs.Ytldcoekbgfaomaa
end
section
namespace Go.Proofs.Ytldcoekbgfaomaa
open Go.RowKit
set_option maxRecDepth 20000
set_option maxHeartbeats 4000000
attribute [local irreducible] kE sD AW
def xV (w : Wa) : List Ms := if w.done = true then [] else [tL w]
theorem sX (w : Wa) : (0 < ((xV w).length : Int)) ↔ w.done = false := by
 unfold xV
 cases w.done <;> simp
theorem iFA {w : Wa} (h : w.done = false) : xV w = [tL w] := by rw [xV,if_neg (by rw [h]; simp)]
theorem xN (m : Ms) : fR [m] = [i64 m.kind,i64 m.frm,i64 m.dest,i64 m.num,i64 m.val,i64 m.epoch,mF m.vs,bytes m.body] := rfl
theorem k45 (t : Tr) : ACalls Try.prog 45 [trP t] (.tup [.agg [i64 (zN t).1.tree.size,i64 (zN t).1.tree.leaf,iE (zN t).1.tree.lv,gD (zN t).1.pend,i64 (zN t).1.level,gD (zN t).1.found,i64 (zN t).1.sent,bv (zN t).1.done],.p (wY (zN t).2.1),.p (i64 (zN t).2.2)]) := c45 t
theorem qD (t : Tr) : (zN t).2.2 = sC t := by
 by_cases h : sC t = 0
 ·rw [rS h,h]
 ·rw [cZ h]
/-- The answer to the walk's request. -/
def fEA (b : Tr) (w : Wa) : Ms := ⟨14,0,0,w.level,0,0,kI w,bF (b.lv.getD w.level.toNat []) (vB w.pend)⟩
@[reducible] def jKA (b : Tr) (w : Wa) : List P1 := [i64 14,i64 0,i64 0,i64 w.level,i64 0,i64 0,mF (kI w),bytes (bF (b.lv.getD w.level.toNat []) (vB w.pend))]
/-- What a step of the run needs to know. -/
structure Rn (a b : Tr) (i : Nat) : Prop where
 ha : sC a = 0
 hb : sC b = 0
 hs : a.size = b.size
 hf : a.leaf = b.leaf
 ht : ∀ r ∈ a.lv,pN r
 hi : ItI a b i
theorem Rn.ans {a b : Tr} {i : Nat} (h : Rn a b i) (hd : (itW b (nE a) i).done = false) : cH b (tL (itW b (nE a) i)) = (fEA b (itW b (nE a) i),0) := by
 obtain ⟨hil,hl⟩ := h.hi.lev hd
 rw [h.hi.inv.asks h.hb h.hs h.hf (pP h.ha h.hb h.hs h.hf) hd hl]
 unfold fEA
 rw [hl,Int.toNat_natCast]
theorem Rn.lrn {a b : Tr} {i : Nat} (h : Rn a b i) (hd : (itW b (nE a) i).done = false) : fM (itW b (nE a) i) (fEA b (itW b (nE a) i)) = (itW b (nE a) (i + 1),xV (itW b (nE a) (i + 1)),0) := by
 obtain ⟨hil,hl⟩ := h.hi.lev hd
 obtain ⟨m,dif,h1,h2,h3,h4,h5,h6,h7,h8,h9⟩ := h.hi.inv.next h.ha h.hb h.hs h.hf hd hl
 rw [h.ans hd] at h1
 injection h1 with h1 _
 subst h1
 rw [xS hd,h7,h8]
 split
 ·rfl
 ·rfl
theorem Rn.small {a b : Tr} {i : Nat} (h : Rn a b i) (hd : (itW b (nE a) i).done = false) : (itW b (nE a) i).pend.length ≤ 4096 ∧ (kI (itW b (nE a) i)).length ≤ 1000000 := by
 obtain ⟨k,h1,h2,h3,h4,h5,h6⟩ := h.hi.inv.goes hd
 have := wJ h6
 have := qX (itW b (nE a) i)
 omega
theorem jFA {a b : Tr} {i : Nat} (h : Rn a b i) : uV (fEA b (itW b (nE a) i)) := ⟨(zZ h.hi.inv).1,dBA _ _⟩
theorem k52 {a b : Tr} {i : Nat} (h : Rn a b i) (hd : (itW b (nE a) i).done = false) : ACalls Try.prog 52 [trP b,msP (tL (itW b (nE a) i))] (.tup [.agg (jKA b (itW b (nE a) i)),.p (i64 0)]) := by
 have := c52 b (tL (itW b (nE a) i)) (zZ h.hi.inv) (h.small hd).2
 rwa [h.ans hd] at this
theorem k55 {a b : Tr} {i : Nat} (h : Rn a b i) (hd : (itW b (nE a) i).done = false) : ACalls Try.prog 55 [waP (itW b (nE a) i),.agg (jKA b (itW b (nE a) i))] (.tup [.agg [i64 (itW b (nE a) (i + 1)).tree.size,i64 (itW b (nE a) (i + 1)).tree.leaf,iE (itW b (nE a) (i + 1)).tree.lv,gD (itW b (nE a) (i + 1)).pend,i64 (itW b (nE a) (i + 1)).level,gD (itW b (nE a) (i + 1)).found,i64 (itW b (nE a) (i + 1)).sent,bv (itW b (nE a) (i + 1)).done],.p (wY (xV (itW b (nE a) (i + 1)))),.p (i64 0)]) := by
 have := c55 (itW b (nE a) i) (fEA b (itW b (nE a) i)) h.hi.inv.walkIn (jFA h) (by rw [h.hi.inv.tree]; exact h.ht)
 rw [h.lrn hd] at this
 exact this
theorem Rn.next {a b : Tr} {i : Nat} (h : Rn a b i) (hd : (itW b (nE a) i).done = false) : Rn a b (i + 1) ∧ i < a.lv.length := ⟨⟨h.ha,h.hb,h.hs,h.hf,h.ht,iKA h.hi h.ha h.hb h.hs h.hf hd⟩,(h.hi.lev hd).1⟩
theorem xHA {a b : Tr} (h : ¬ sC a = 0) : tM a b = ([],0,sC a) := if_pos h
theorem yHA {a b : Tr} (h : sC a = 0) (h2 : ¬ sC b = 0) : tM a b = ([],0,sC b) := by rw [tM,if_neg (not_not_intro h),if_pos h2]
theorem kFA {a b : Tr} (h : sC a = 0) (h2 : sC b = 0) (h3 : a.size ≠ b.size ∨ a.leaf ≠ b.leaf) : tM a b = ([],0,22) := by rw [tM,if_neg (not_not_intro h),if_neg (not_not_intro h2),if_pos h3]
theorem zHA {a b : Tr} {i : Nat} (h : Rn a b i) (hi : i ≤ a.lv.length) (hd : ¬ (0 < ((xV (itW b (nE a) i)).length : Int))) : tM a b = ((itW b (nE a) i).found,(itW b (nE a) i).sent,0) := by
 rw [tM,if_neg (not_not_intro h.ha),if_neg (not_not_intro h.hb),if_neg (by rintro (e | e); exact e h.hs; exact e h.hf)]
 have hdn : (itW b (nE a) i).done = true := by
  cases hx : (itW b (nE a) i).done with
  | true => rfl
  | false => exact absurd ((sX _).2 hx) hd
 rw [rX hdn _ hi]
end Go.Proofs.Ytldcoekbgfaomaa
end
section
namespace Go.Proofs.Ytldcoekbgfaomaa
open Go.RowKit
set_option maxRecDepth 20000
set_option maxHeartbeats 4000000
attribute [local irreducible] kE sD AW
/-- The error of a run. -/
def sH (a b : Tr) : Int := if sC a = 0 then sC b else sC a
def xI (a b : Tr) : Int := if sH a b = 0 ∧ (a.size ≠ b.size ∨ a.leaf ≠ b.leaf) then 22 else sH a b
theorem lFA {a b : Tr} (h : ¬ xI a b = 0) : tM a b = ([],0,xI a b) := by
 by_cases ha : sC a = 0
 ·have e1 : sH a b = sC b := if_pos ha
  by_cases hb : sC b = 0
  ·by_cases hx : a.size ≠ b.size ∨ a.leaf ≠ b.leaf
   ·rw [kFA ha hb hx,xI,if_pos ⟨by rw [e1,hb],hx⟩]
   ·exfalso
    apply h
    rw [xI,if_neg (fun hh => hx hh.2),e1,hb]
  ·rw [yHA ha hb,xI,if_neg (fun hh => hb (by rw [← e1]; exact hh.1)),e1]
 ·have e1 : sH a b = sC a := if_neg ha
  rw [xHA ha,xI,if_neg (fun hh => ha (by rw [← e1]; exact hh.1)),e1]
theorem aIA {a b : Tr} (h : xI a b = 0) : sC a = 0 ∧ sC b = 0 ∧ a.size = b.size ∧ a.leaf = b.leaf := by
 by_cases ha : sC a = 0
 ·have e1 : sH a b = sC b := if_pos ha
  by_cases hb : sC b = 0
  ·by_cases hx : a.size ≠ b.size ∨ a.leaf ≠ b.leaf
   ·rw [xI,if_pos ⟨by rw [e1,hb],hx⟩] at h
    cases h
   ·exact ⟨ha,hb,Decidable.byContradiction fun e => hx (.inl e),Decidable.byContradiction fun e => hx (.inr e)⟩
  ·rw [xI,if_neg (fun hh => hb (by rw [← e1]; exact hh.1)),e1] at h
   exact absurd h hb
 ·have e1 : sH a b = sC a := if_neg ha
  rw [xI,if_neg (fun hh => ha (by rw [← e1]; exact hh.1)),e1] at h
  exact absurd h ha
theorem xOA {a : Tr} (h : sC a = 0) : ACalls Try.prog 45 [trP a] (.tup [.agg [i64 (nE a).tree.size,i64 (nE a).tree.leaf,iE (nE a).tree.lv,gD (nE a).pend,i64 (nE a).level,gD (nE a).found,i64 (nE a).sent,bv (nE a).done],.p (wY (xV (nE a))),.p (i64 0)]) := by
 have := c45 a
 rw [rS h] at this
 exact this
theorem yOA (a b : Tr) (ht : ∀ r ∈ a.lv,pN r) (hE : ¬ xI a b = 0) : ACalls Try.prog 57 [trP a,trP b] (.tup [.p (gD (tM a b).1),.p (i64 (tM a b).2.1),.p (i64 (tM a b).2.2)]) := by
 obtain ⟨sa,fa,la⟩ := a
 obtain ⟨sb,fb,lb⟩ := b
 dsimp only at ht
 refine wC oC Try.func57 (c := _) rfl (by kernel_rfl) ?_
 intro X hP hX hro hpl
 have hb : tb.Ok X.P := hP ▸ oC
 change AW X _ _ ⟨[],[.agg [i64 sa,i64 fa,iE la],.agg [i64 sb,i64 fb,iE lb],.any,.any,.any,.any,.any,.any,.any,.any,.any,.any,.any,.any,.any,.any,.any,.any,.any,.any,.any,.any,.any,.any,.any,.any,.any,.any,.any,.any,.any,.any,.any,.any,.any,.any,.any,.any,.any,.any,.any,.any,.any,.any,.any,.any,.any,.any,.any,.any,.any,.any,.any,.any,.any,.any,.any,.any,.any,.any,.any,.any,.any,.any,.any,.any,.any,.any],[],[]⟩
 refine cA ?_
 refine gA hX hb [0,1,2,3,4] rfl (σ' := ?s1) (fun K hK => ?h1) ?n1
 case h1 =>
  iterate 5 (refine kA rfl (by simp (disch := omega) only [iA,aA,qop,fop,St.ev,St.put,cd,zd,Value.oneCell',lA,TypeDesc.aggB,Z0,ZM,ZL,Zl,Zo,ZG,ZH,St.addBox,D.boxCells,D.live,tt,Zh,sB,gt_iff_lt,qD] <;> exact rfl) ?_)
  refine bA ?_
  exact hK
 refine jA ?_
 refine cA ?_
 refine gA hX hb [0,1,2,3,4,5,6,7,8,9] rfl (σ' := ?s2) (fun K hK => ?h2) ?n2
 case h2 =>
  (refine kA rfl (by simp (disch := omega) only [iA,aA,qop,fop,St.ev,St.put,cd,zd,Value.oneCell',lA,TypeDesc.aggB,Z0,Z1,pA,qA,tA,eA,D.pure?,ZC,ZD,uA,D.pv?,mJ,PV.d,ZM,ZL,ZG,ZH,St.addBox,Value.cells,iC,D.boxCells,D.live,D.cells?,ZN,St.setVec,tt,Zh,sB,gt_iff_lt,qD] <;> exact rfl) ?_)
  refine mD rfl (by simp only [aA,St.ev,pB,qB,uA,D.pv?,ZG,ZH,zd,cd,Value.oneCell',Zr] <;> exact rfl) (acK hP (k45 ⟨sa,fa,la⟩)) (by simp only [St.put,Za,Zb] <;> exact rfl) ?_
  iterate 8 (refine kA rfl (by simp (disch := omega) only [iA,aA,qop,fop,St.ev,St.put,cd,zd,Value.oneCell',lA,TypeDesc.aggB,Z0,Z1,pA,qA,tA,eA,D.pure?,ZC,ZD,uA,D.pv?,mJ,PV.d,ZM,ZL,ZG,ZH,St.addBox,Value.cells,iC,D.boxCells,D.live,D.cells?,ZN,St.setVec,tt,Zh,sB,gt_iff_lt,qD] <;> exact rfl) ?_)
  refine bA ?_
  exact hK
 refine jA ?_
 refine cA ?_
 refine cA ?_
 refine gA hX hb [0,1] rfl (σ' := ?s3) (fun K hK => ?h3) ?n3
 case h3 =>
  iterate 2 (refine kA rfl (by simp (disch := omega) only [iA,aA,qop,fop,St.ev,St.put,cd,zd,Value.oneCell',lA,TypeDesc.aggB,Z0,cB,iop,t27,eT,Zh,sB,gt_iff_lt,qD] <;> exact rfl) ?_)
  refine bA ?_
  exact hK
 refine jA ?_
 refine uU (σ' := ⟨[],[.any,.any,.ptr 0 0,.ptr 1 0,.any,.any,.any,.any,.any,.p (i64 (sH ⟨sa,fa,la⟩ ⟨sb,fb,lb⟩)),.any,.any,.any,.any,.any,.any,.any,.any,.any,.any,.any,.any,.any,.any,.any,.any,.any,.any,.any,.any,.any,.any,.any,.any,.any,.any,.any,.any,.any,.any,.any,.any,.any,.any,.any,.any,.any,.any,.any,.any,.any,.any,.any,.any,.any,.any,.any,.any,.any,.any,.any,.any,.any,.any,.any,.any,.any,.any],[⟨26,[.p (i64 sa),.p (i64 fa),.p (iE la)]⟩,⟨26,[.p (i64 sb),.p (i64 fb),.p (iE lb)]⟩],[]⟩) ?_ ?_
 ·refine oB _ rfl (fun hc0 => ?_) (fun hc0 => ?_)
  ·try simp only [Zp,Zi,ZK,ZJ,ne_eq,Zn,Zm,ZB,ZA,ZI,not_or,not_and,Zu] at hc0
   refine gA hX hb [0,1,2] rfl (σ' := ?s4) (fun K hK => ?h4) ?n4
   case h4 =>
    (refine kA rfl (by simp (disch := omega) only [iA,aA,qop,fop,St.ev,St.put,cd,zd,Value.oneCell',lA,TypeDesc.aggB,Z0,Z1,pA,qA,tA,eA,D.pure?,ZC,ZD,uA,D.pv?,tt,Zh,sB,gt_iff_lt,qD] <;> exact rfl) ?_)
    refine mD rfl (by simp only [aA,St.ev,pB,qB,uA,D.pv?,ZG,ZH,zd,cd,Value.oneCell',Zr] <;> exact rfl) (acK hP (c31 ⟨sb,fb,lb⟩)) (by simp only [St.put,Za,Zb] <;> exact rfl) ?_
    (refine kA rfl (by simp (disch := omega) only [iA,aA,qop,fop,St.ev,St.put,cd,zd,Value.oneCell',lA,TypeDesc.aggB,Z0,Z1,pA,qA,tA,eA,D.pure?,ZC,ZD,uA,D.pv?,tt,Zh,sB,gt_iff_lt,qD] <;> exact rfl) ?_)
    refine bA ?_
    exact hK
   exact yR (rC ⟨rfl,(by repeat first | exact sA | refine mB ?_ | refine vA (by first | rfl | (first | (rw [sH,if_pos hc0]) | (rw [sH,if_neg hc0]))) ?_),(pC rfl ((by repeat first | exact sA | refine mB ?_ | refine vA (by first | rfl | (first | (rw [sH,if_pos hc0]) | (rw [sH,if_neg hc0]))) ?_)) (pC rfl ((by repeat first | exact sA | refine mB ?_ | refine vA (by first | rfl | (first | (rw [sH,if_pos hc0]) | (rw [sH,if_neg hc0]))) ?_)) (xB _))),(yB _),rfl,rfl⟩)
  ·try simp only [Zp,Zi,ZK,ZJ,ne_eq,Zn,Zm,ZB,ZA,ZI,not_or,not_and,Zu] at hc0
   refine uB ?_
   exact yR (rC ⟨rfl,(by repeat first | exact sA | refine mB ?_ | refine vA (by first | rfl | (first | (rw [sH,if_pos hc0]) | (rw [sH,if_neg hc0]))) ?_),(pC rfl ((by repeat first | exact sA | refine mB ?_ | refine vA (by first | rfl | (first | (rw [sH,if_pos hc0]) | (rw [sH,if_neg hc0]))) ?_)) (pC rfl ((by repeat first | exact sA | refine mB ?_ | refine vA (by first | rfl | (first | (rw [sH,if_pos hc0]) | (rw [sH,if_neg hc0]))) ?_)) (xB _))),(yB _),rfl,rfl⟩)
 refine jA ?_
 refine cA ?_
 refine cA ?_
 refine vE hX hb [0,1,2,3,4,5,6,7,8,9,10,11,12,13,14,15] rfl (ts := [21,22,23,24,25,26,27,28,29,30,31,32,33,34,35]) (t := 36) (d := .p (bv (sH ⟨sa,fa,la⟩ ⟨sb,fb,lb⟩ = 0 ∧ (sa ≠ sb ∨ fa ≠ fb)))) (σ' := ?s5) ?j5 ?h5 ?n5
 case j5 => simp only [St.join,List.foldl,Za,Zb]; exact rfl
 case h5 =>
  iterate 3 (all_goals refine kA rfl (by simp (disch := omega) only [iA,aA,qop,fop,St.ev,St.put,cd,zd,Value.oneCell',lA,TypeDesc.aggB,Z0,cB,iop,fA,oA,Z1,pA,qA,tA,eA,D.pure?,ZC,ZD,tt,Zh,sB,gt_iff_lt,qD] <;> exact rfl) ?_)
  iterate 12 (all_goals first | (refine lC rfl rfl rfl (by simp (disch := omega) only [iA,aA,qop,fop,St.ev,St.put,cd,zd,Value.oneCell',lA,TypeDesc.aggB,Z0,cB,iop,fA,oA,Z1,pA,qA,tA,eA,D.pure?,ZC,ZD,tt,Zh,sB,gt_iff_lt,qD] <;> exact rfl) ?_) | (first | (refine eC rfl rfl rfl (by simp only [St.put,Za,Zb] <;> exact rfl) ?_) | (refine fC rfl rfl rfl (by simp only [St.put,Za,Zb] <;> exact rfl) ?_)) | (refine cC rfl rfl rfl (by simp only [Za,Zb] <;> exact rfl) (by simp only [Za,Zb] <;> exact rfl) (fun hg => ?_) (fun hg => ?_) <;> (try simp only [Zp,Zi,ZJ,ZK,ne_eq,Zn,Zm,Bool.not_eq_true,Zu] at hg) <;> first | (refine lC rfl rfl rfl (by simp (disch := omega) only [iA,aA,qop,fop,St.ev,St.put,cd,zd,Value.oneCell',lA,TypeDesc.aggB,Z0,cB,iop,fA,oA,Z1,pA,qA,tA,eA,D.pure?,ZC,ZD,tt,Zh,sB,gt_iff_lt,qD] <;> exact rfl) ?_) | (first | (refine eC rfl rfl rfl (by simp only [St.put,Za,Zb] <;> exact rfl) ?_) | (refine fC rfl rfl rfl (by simp only [St.put,Za,Zb] <;> exact rfl) ?_))))
  (all_goals refine kA rfl (by simp (disch := omega) only [iA,aA,qop,fop,St.ev,St.put,cd,zd,Value.oneCell',lA,TypeDesc.aggB,Z0,cB,iop,fA,oA,Z1,pA,qA,tA,eA,D.pure?,ZC,ZD,tt,Zh,sB,gt_iff_lt,qD] <;> exact rfl) ?_)
  all_goals refine bA ?_
  all_goals refine ⟨rfl,?_,xD _,yD _,rfl,rfl⟩
  all_goals repeat' (first | exact sA | refine mB ?_ | refine vA rfl ?_ | refine vA ?_ ?_)
  all_goals refine jn ?_
  all_goals ((try simp only [Zp,Zi,ZJ,ZK,Bool.not_eq_true,Zm,Zn,ne_eq,Zf,true_iff,false_iff,iff_true,iff_false] at *) <;> first | omega | (simp_all; done) | (simp_all; omega))
 refine jA ?_
 refine uU (σ' := ⟨[],[.any,.any,.any,.any,.any,.any,.any,.any,.any,.p (i64 (xI ⟨sa,fa,la⟩ ⟨sb,fb,lb⟩)),.any,.any,.any,.any,.any,.any,.any,.any,.any,.any,.any,.any,.any,.any,.any,.any,.any,.any,.any,.any,.any,.any,.any,.any,.any,.any,.any,.any,.any,.any,.any,.any,.any,.any,.any,.any,.any,.any,.any,.any,.any,.any,.any,.any,.any,.any,.any,.any,.any,.any,.any,.any,.any,.any,.any,.any,.any,.any],[],[]⟩) ?_ ?_
 ·refine oB _ rfl (fun hc1 => ?_) (fun hc1 => ?_)
  ·try simp only [Zp,Zi,ZK,ZJ,ne_eq,Zn,Zm,ZB,ZA,ZI,not_or,not_and,Zu] at hc1
   refine gA hX hb [0] rfl (σ' := ?s6) (fun K hK => ?h6) ?n6
   case h6 =>
    (refine kA rfl (by simp (disch := omega) only [iA,aA,qop,fop,St.ev,St.put,cd,zd,Value.oneCell',lA,TypeDesc.aggB,Z0,tt,Zh,sB,gt_iff_lt,qD] <;> exact rfl) ?_)
    refine bA ?_
    exact hK
   exact yR (rC ⟨rfl,(by repeat first | exact sA | refine mB ?_ | refine vA (by first | rfl | (first | (rw [xI,if_pos (show sH ⟨sa,fa,la⟩ ⟨sb,fb,lb⟩ = 0 ∧ (sa ≠ sb ∨ fa ≠ fb) from hc1)]) | (rw [xI,if_neg (show ¬ (sH ⟨sa,fa,la⟩ ⟨sb,fb,lb⟩ = 0 ∧ (sa ≠ sb ∨ fa ≠ fb)) by simpa using hc1)]))) ?_),(xB _),(yB _),rfl,rfl⟩)
  ·try simp only [Zp,Zi,ZK,ZJ,ne_eq,Zn,Zm,ZB,ZA,ZI,not_or,not_and,Zu] at hc1
   refine uB ?_
   exact yR (rC ⟨rfl,(by repeat first | exact sA | refine mB ?_ | refine vA (by first | rfl | (first | (rw [xI,if_pos (show sH ⟨sa,fa,la⟩ ⟨sb,fb,lb⟩ = 0 ∧ (sa ≠ sb ∨ fa ≠ fb) from hc1)]) | (rw [xI,if_neg (show ¬ (sH ⟨sa,fa,la⟩ ⟨sb,fb,lb⟩ = 0 ∧ (sa ≠ sb ∨ fa ≠ fb)) by simpa using hc1)]))) ?_),(xB _),(yB _),rfl,rfl⟩)
 refine jA ?_
 refine cA ?_
 refine tB ?_
 refine rD (ι := Unit) (fun u => True) (fun u => ⟨[],[.any,.any,.any,.any,.any,.any,.any,.any,.any,.p (i64 (xI ⟨sa,fa,la⟩ ⟨sb,fb,lb⟩)),.any,.any,.any,.any,.any,.any,.any,.any,.any,.any,.any,.any,.any,.any,.any,.any,.any,.any,.any,.any,.any,.any,.any,.any,.any,.any,.any,.any,.any,.any,.any,.any,.any,.any,.any,.any,.any,.any,.any,.any,.any,.any,.any,.any,.any,.any,.any,.any,.any,.any,.any,.any,.any,.any,.any,.any,.any,.any],[],[]⟩) (fun u => 0) () (by trivial) (rC ⟨rfl,(by repeat first | exact sA | refine mB ?_ | refine vA rfl ?_),(xB _),(yB _),rfl,rfl⟩) ?_
 rintro u hJ
 have hE9 : ((xI ⟨sa,fa,la⟩ ⟨sb,fb,lb⟩ : Int) == 0) = false := beq_eq_false_iff_ne.2 hE
 refine cA ?_
 refine cA ?_
 refine gA hX hb [0,1,2,3,4,5,6] rfl (σ' := ?s7) (fun K hK => ?h7) ?n7
 case h7 =>
  iterate 3 (refine kA rfl (by simp (disch := omega) only [iA,aA,qop,fop,St.ev,St.put,cd,zd,Value.oneCell',lA,TypeDesc.aggB,Z0,cB,iop,vC,tt,Zh,sB,gt_iff_lt,qD,hE9,beq_self_eq_true,decide_true,eq_self,bne_self_eq_false] <;> exact rfl) ?_)
  iterate 3 (all_goals first | (refine lC rfl rfl rfl (by simp (disch := omega) only [iA,aA,qop,fop,St.ev,St.put,cd,zd,Value.oneCell',lA,TypeDesc.aggB,Z0,cB,iop,vC,tt,Zh,sB,gt_iff_lt,qD,hE9,beq_self_eq_true,decide_true,eq_self,bne_self_eq_false] <;> exact rfl) ?_) | (first | (refine eC rfl rfl rfl (by simp only [St.put,Za,Zb] <;> exact rfl) ?_) | (refine fC rfl rfl rfl (by simp only [St.put,Za,Zb] <;> exact rfl) ?_)) | (refine cC rfl rfl rfl (by simp only [Za,Zb] <;> exact rfl) (by simp only [Za,Zb] <;> exact rfl) (fun hg => ?_) (fun hg => ?_) <;> (try simp only [Zp,Zi,ZJ,ZK,ne_eq,Zn,Zm,Bool.not_eq_true,Zu] at hg) <;> first | (refine lC rfl rfl rfl (by simp (disch := omega) only [iA,aA,qop,fop,St.ev,St.put,cd,zd,Value.oneCell',lA,TypeDesc.aggB,Z0,cB,iop,vC,tt,Zh,sB,gt_iff_lt,qD,hE9,beq_self_eq_true,decide_true,eq_self,bne_self_eq_false] <;> exact rfl) ?_) | (first | (refine eC rfl rfl rfl (by simp only [St.put,Za,Zb] <;> exact rfl) ?_) | (refine fC rfl rfl rfl (by simp only [St.put,Za,Zb] <;> exact rfl) ?_))))
  (refine kA rfl (by simp (disch := omega) only [iA,aA,qop,fop,St.ev,St.put,cd,zd,Value.oneCell',lA,TypeDesc.aggB,Z0,cB,iop,vC,tt,Zh,sB,gt_iff_lt,qD,hE9,beq_self_eq_true,decide_true,eq_self,bne_self_eq_false] <;> exact rfl) ?_)
  refine bA ?_
  exact hK
 refine jA ?_
 refine oB _ rfl (fun hc2 => ?_) (fun hc2 => ?_)
 ·try simp only [Zp,Zi,ZK,ZJ,ne_eq,Zn,Zm,ZB,ZA,ZI,not_or,not_and,Zu] at hc2
  cases hc2
 ·try simp only [Zp,Zi,ZK,ZJ,ne_eq,Zn,Zm,ZB,ZA,ZI,not_or,not_and,Zu] at hc2
  refine oD ?_
  refine fD ?_
  refine fD ?_
  refine zE ?_
  refine jA ?_
  refine cA ?_
  refine cA ?_
  refine gA hX hb [0,1] rfl (σ' := ?s8) (fun K hK => ?h8) ?n8
  case h8 =>
   iterate 2 (refine kA rfl (by simp (disch := omega) only [iA,aA,qop,fop,St.ev,St.put,cd,zd,Value.oneCell',lA,TypeDesc.aggB,Z0,cB,iop,t27,eT,Zh,sB,gt_iff_lt,qD] <;> exact rfl) ?_)
   refine bA ?_
   exact hK
  refine jA ?_
  refine oB _ rfl (fun hc4 => ?_) (fun hc4 => ?_)
  ·try simp only [Zp,Zi,ZK,ZJ,ne_eq,Zn,Zm,ZB,ZA,ZI,not_or,not_and,Zu] at hc4
   refine cA ?_
   refine gA hX hb [0,1,2,3] rfl (σ' := ?s9) (fun K hK => ?h9) ?n9
   case h9 =>
    iterate 4 (refine kA rfl (by simp (disch := omega) only [iA,aA,qop,fop,St.ev,St.put,cd,zd,Value.oneCell',lA,TypeDesc.aggB,Z0,tt,Zh,sB,gt_iff_lt,qD] <;> exact rfl) ?_)
    refine bA ?_
    exact hK
   refine jA ?_
   refine bC ?_
   refine tC ?_
   exact zC rfl (iF rfl rfl rfl (by first | rfl | (rw [lFA (a := ⟨sa,fa,la⟩) (b := ⟨sb,fb,lb⟩) hE] <;> rfl)))
  ·try simp only [Zp,Zi,ZK,ZJ,ne_eq,Zn,Zm,ZB,ZA,ZI,not_or,not_and,Zu] at hc4
   exact absurd hc4 hE
theorem zOA (a b : Tr) (ht : ∀ r ∈ a.lv,pN r) (hE : xI a b = 0) : ACalls Try.prog 57 [trP a,trP b] (.tup [.p (gD (tM a b).1),.p (i64 (tM a b).2.1),.p (i64 (tM a b).2.2)]) := by
 obtain ⟨sa,fa,la⟩ := a
 obtain ⟨sb,fb,lb⟩ := b
 dsimp only at ht
 refine wC oC Try.func57 (c := _) rfl (by kernel_rfl) ?_
 intro X hP hX hro hpl
 have hb : tb.Ok X.P := hP ▸ oC
 change AW X _ _ ⟨[],[.agg [i64 sa,i64 fa,iE la],.agg [i64 sb,i64 fb,iE lb],.any,.any,.any,.any,.any,.any,.any,.any,.any,.any,.any,.any,.any,.any,.any,.any,.any,.any,.any,.any,.any,.any,.any,.any,.any,.any,.any,.any,.any,.any,.any,.any,.any,.any,.any,.any,.any,.any,.any,.any,.any,.any,.any,.any,.any,.any,.any,.any,.any,.any,.any,.any,.any,.any,.any,.any,.any,.any,.any,.any,.any,.any,.any,.any,.any,.any],[],[]⟩
 obtain ⟨ha,hbk,hs,hf⟩ := aIA hE
 dsimp only at hs hf
 subst hs
 subst hf
 have h0 : Rn ⟨sa,fa,la⟩ ⟨sa,fa,lb⟩ 0 := ⟨ha,hbk,rfl,rfl,ht,fGA _ ha⟩
 have h31 : ACalls Try.prog 31 [trP ⟨sa,fa,lb⟩] (.p (i64 0)) := by have := c31 ⟨sa,fa,lb⟩; rwa [hbk] at this
 refine cA ?_
 refine gA hX hb [0,1,2,3,4] rfl (σ' := ?s1) (fun K hK => ?h1) ?n1
 case h1 =>
  iterate 5 (refine kA rfl (by simp (disch := omega) only [iA,aA,qop,fop,St.ev,St.put,cd,zd,Value.oneCell',lA,TypeDesc.aggB,Z0,ZM,ZL,Zl,Zo,ZG,ZH,St.addBox,D.boxCells,D.live,tt,Zh,sB,gt_iff_lt,qD,beq_self_eq_true,decide_true,eq_self,bne_self_eq_false] <;> exact rfl) ?_)
  refine bA ?_
  exact hK
 refine jA ?_
 refine cA ?_
 refine gA hX hb [0,1,2,3,4,5,6,7,8,9] rfl (σ' := ?s2) (fun K hK => ?h2) ?n2
 case h2 =>
  (refine kA rfl (by simp (disch := omega) only [iA,aA,qop,fop,St.ev,St.put,cd,zd,Value.oneCell',lA,TypeDesc.aggB,Z0,Z1,pA,qA,tA,eA,D.pure?,ZC,ZD,uA,D.pv?,mJ,PV.d,ZM,ZL,ZG,ZH,St.addBox,Value.cells,iC,D.boxCells,D.live,D.cells?,ZN,St.setVec,tt,Zh,sB,gt_iff_lt,qD,beq_self_eq_true,decide_true,eq_self,bne_self_eq_false] <;> exact rfl) ?_)
  refine mD rfl (by simp only [aA,St.ev,pB,qB,uA,D.pv?,ZG,ZH,zd,cd,Value.oneCell',Zr] <;> exact rfl) (acK hP (xOA ha)) (by simp only [St.put,Za,Zb] <;> exact rfl) ?_
  iterate 8 (refine kA rfl (by simp (disch := omega) only [iA,aA,qop,fop,St.ev,St.put,cd,zd,Value.oneCell',lA,TypeDesc.aggB,Z0,Z1,pA,qA,tA,eA,D.pure?,ZC,ZD,uA,D.pv?,mJ,PV.d,ZM,ZL,ZG,ZH,St.addBox,Value.cells,iC,D.boxCells,D.live,D.cells?,ZN,St.setVec,tt,Zh,sB,gt_iff_lt,qD,beq_self_eq_true,decide_true,eq_self,bne_self_eq_false] <;> exact rfl) ?_)
  refine bA ?_
  exact hK
 refine jA ?_
 refine cA ?_
 refine cA ?_
 refine gA hX hb [0,1] rfl (σ' := ?s3) (fun K hK => ?h3) ?n3
 case h3 =>
  iterate 2 (refine kA rfl (by simp (disch := omega) only [iA,aA,qop,fop,St.ev,St.put,cd,zd,Value.oneCell',lA,TypeDesc.aggB,Z0,cB,iop,t27,eT,Zh,sB,gt_iff_lt,qD,beq_self_eq_true,decide_true,eq_self,bne_self_eq_false] <;> exact rfl) ?_)
  refine bA ?_
  exact hK
 refine jA ?_
 refine oB _ rfl (fun hc0 => ?_) (fun hc0 => ?_)
 ·try simp only [Zp,Zi,ZK,ZJ,ne_eq,Zn,Zm,ZB,ZA,ZI,not_or,not_and,Zu] at hc0
  refine gA hX hb [0,1,2] rfl (σ' := ?s4) (fun K hK => ?h4) ?n4
  case h4 =>
   (refine kA rfl (by simp (disch := omega) only [iA,aA,qop,fop,St.ev,St.put,cd,zd,Value.oneCell',lA,TypeDesc.aggB,Z0,Z1,pA,qA,tA,eA,D.pure?,ZC,ZD,uA,D.pv?,tt,Zh,sB,gt_iff_lt,qD,beq_self_eq_true,decide_true,eq_self,bne_self_eq_false] <;> exact rfl) ?_)
   refine mD rfl (by simp only [aA,St.ev,pB,qB,uA,D.pv?,ZG,ZH,zd,cd,Value.oneCell',Zr] <;> exact rfl) (acK hP (h31)) (by simp only [St.put,Za,Zb] <;> exact rfl) ?_
   (refine kA rfl (by simp (disch := omega) only [iA,aA,qop,fop,St.ev,St.put,cd,zd,Value.oneCell',lA,TypeDesc.aggB,Z0,Z1,pA,qA,tA,eA,D.pure?,ZC,ZD,uA,D.pv?,tt,Zh,sB,gt_iff_lt,qD,beq_self_eq_true,decide_true,eq_self,bne_self_eq_false] <;> exact rfl) ?_)
   refine bA ?_
   exact hK
  refine jA ?_
  refine cA ?_
  refine cA ?_
  refine gA hX hb [0,1,2,3,4,5,6,7,8,9,10,11,12,13,14,15] rfl (σ' := ?s5) (fun K hK => ?h5) ?n5
  case h5 =>
   iterate 3 (refine kA rfl (by simp (disch := omega) only [iA,aA,qop,fop,St.ev,St.put,cd,zd,Value.oneCell',lA,TypeDesc.aggB,Z0,cB,iop,fA,oA,Z1,pA,qA,tA,eA,D.pure?,ZC,ZD,tt,Zh,sB,gt_iff_lt,qD,beq_self_eq_true,decide_true,eq_self,bne_self_eq_false] <;> exact rfl) ?_)
   iterate 12 (all_goals first | (refine lC rfl rfl rfl (by simp (disch := omega) only [iA,aA,qop,fop,St.ev,St.put,cd,zd,Value.oneCell',lA,TypeDesc.aggB,Z0,cB,iop,fA,oA,Z1,pA,qA,tA,eA,D.pure?,ZC,ZD,tt,Zh,sB,gt_iff_lt,qD,beq_self_eq_true,decide_true,eq_self,bne_self_eq_false] <;> exact rfl) ?_) | (first | (refine eC rfl rfl rfl (by simp only [St.put,Za,Zb] <;> exact rfl) ?_) | (refine fC rfl rfl rfl (by simp only [St.put,Za,Zb] <;> exact rfl) ?_)) | (refine cC rfl rfl rfl (by simp only [Za,Zb] <;> exact rfl) (by simp only [Za,Zb] <;> exact rfl) (fun hg => ?_) (fun hg => ?_) <;> (try simp only [Zp,Zi,ZJ,ZK,ne_eq,Zn,Zm,Bool.not_eq_true,Zu] at hg) <;> first | (refine lC rfl rfl rfl (by simp (disch := omega) only [iA,aA,qop,fop,St.ev,St.put,cd,zd,Value.oneCell',lA,TypeDesc.aggB,Z0,cB,iop,fA,oA,Z1,pA,qA,tA,eA,D.pure?,ZC,ZD,tt,Zh,sB,gt_iff_lt,qD,beq_self_eq_true,decide_true,eq_self,bne_self_eq_false] <;> exact rfl) ?_) | (first | (refine eC rfl rfl rfl (by simp only [St.put,Za,Zb] <;> exact rfl) ?_) | (refine fC rfl rfl rfl (by simp only [St.put,Za,Zb] <;> exact rfl) ?_))))
   (refine kA rfl (by simp (disch := omega) only [iA,aA,qop,fop,St.ev,St.put,cd,zd,Value.oneCell',lA,TypeDesc.aggB,Z0,cB,iop,fA,oA,Z1,pA,qA,tA,eA,D.pure?,ZC,ZD,tt,Zh,sB,gt_iff_lt,qD,beq_self_eq_true,decide_true,eq_self,bne_self_eq_false] <;> exact rfl) ?_)
   refine bA ?_
   exact hK
  refine jA ?_
  refine oB _ rfl (fun hc1 => ?_) (fun hc1 => ?_)
  ·try simp only [Zp,Zi,ZK,ZJ,ne_eq,Zn,Zm,ZB,ZA,ZI,not_or,not_and,Zu] at hc1
   cases hc1
  ·try simp only [Zp,Zi,ZK,ZJ,ne_eq,Zn,Zm,ZB,ZA,ZI,not_or,not_and,Zu] at hc1
   refine uB ?_
   refine jA ?_
   refine cA ?_
   refine tB ?_
   refine rD (ι := Nat) (fun i => i ≤ la.length ∧ Rn ⟨sa,fa,la⟩ ⟨sa,fa,lb⟩ i) (fun i => ⟨[],[.any,.any,.any,.ptr 1 0,.any,.any,.any,.ptr 2 0,.p (wY (xV (itW ⟨sa,fa,lb⟩ (nE ⟨sa,fa,la⟩) i))),.p (i64 0),.any,.any,.any,.any,.any,.any,.any,.any,.any,.any,.any,.any,.any,.any,.any,.any,.any,.any,.any,.any,.any,.any,.any,.any,.any,.any,.any,.any,.any,.any,.any,.any,.any,.any,.any,.any,.any,.any,.any,.any,.any,.any,.any,.any,.any,.any,.any,.any,.any,.any,.any,.any,.any,.any,.any,.any,.any,.any],[⟨26,[.p (i64 sa),.p (i64 fa),.p (iE la)]⟩,⟨26,[.p (i64 sa),.p (i64 fa),.p (iE lb)]⟩,⟨75,[.p (i64 (itW ⟨sa,fa,lb⟩ (nE ⟨sa,fa,la⟩) i).tree.size),.p (i64 (itW ⟨sa,fa,lb⟩ (nE ⟨sa,fa,la⟩) i).tree.leaf),.p (iE (itW ⟨sa,fa,lb⟩ (nE ⟨sa,fa,la⟩) i).tree.lv),.p (gD (itW ⟨sa,fa,lb⟩ (nE ⟨sa,fa,la⟩) i).pend),.p (i64 (itW ⟨sa,fa,lb⟩ (nE ⟨sa,fa,la⟩) i).level),.p (gD (itW ⟨sa,fa,lb⟩ (nE ⟨sa,fa,la⟩) i).found),.p (i64 (itW ⟨sa,fa,lb⟩ (nE ⟨sa,fa,la⟩) i).sent),.p (bv (itW ⟨sa,fa,lb⟩ (nE ⟨sa,fa,la⟩) i).done)]⟩],[]⟩) (fun i => la.length - i) 0 (by exact ⟨Nat.zero_le _,h0⟩) (rC ⟨rfl,(by repeat first | exact sA | refine mB ?_ | refine vA rfl ?_),(pC rfl (vA rfl (vA rfl (vA rfl (sA)))) (pC rfl (vA rfl (vA rfl (vA rfl (sA)))) (pC rfl (vA rfl (vA rfl (vA rfl (vA rfl (vA rfl (vA rfl (vA rfl (vA rfl (sA))))))))) (xB _)))),(yB _),rfl,rfl⟩) ?_
   rintro i ⟨hi,hR⟩
   refine cA ?_
   refine cA ?_
   refine gA hX hb [0,1,2,3,4,5,6] rfl (σ' := ?s6) (fun K hK => ?h6) ?n6
   case h6 =>
    iterate 3 (refine kA rfl (by simp (disch := omega) only [iA,aA,qop,fop,St.ev,St.put,cd,zd,Value.oneCell',lA,TypeDesc.aggB,Z0,cB,iop,vC,tt,Zh,sB,gt_iff_lt,qD,beq_self_eq_true,decide_true,eq_self,bne_self_eq_false] <;> exact rfl) ?_)
    iterate 3 (all_goals first | (refine lC rfl rfl rfl (by simp (disch := omega) only [iA,aA,qop,fop,St.ev,St.put,cd,zd,Value.oneCell',lA,TypeDesc.aggB,Z0,cB,iop,vC,tt,Zh,sB,gt_iff_lt,qD,beq_self_eq_true,decide_true,eq_self,bne_self_eq_false] <;> exact rfl) ?_) | (first | (refine eC rfl rfl rfl (by simp only [St.put,Za,Zb] <;> exact rfl) ?_) | (refine fC rfl rfl rfl (by simp only [St.put,Za,Zb] <;> exact rfl) ?_)) | (refine cC rfl rfl rfl (by simp only [Za,Zb] <;> exact rfl) (by simp only [Za,Zb] <;> exact rfl) (fun hg => ?_) (fun hg => ?_) <;> (try simp only [Zp,Zi,ZJ,ZK,ne_eq,Zn,Zm,Bool.not_eq_true,Zu] at hg) <;> first | (refine lC rfl rfl rfl (by simp (disch := omega) only [iA,aA,qop,fop,St.ev,St.put,cd,zd,Value.oneCell',lA,TypeDesc.aggB,Z0,cB,iop,vC,tt,Zh,sB,gt_iff_lt,qD,beq_self_eq_true,decide_true,eq_self,bne_self_eq_false] <;> exact rfl) ?_) | (first | (refine eC rfl rfl rfl (by simp only [St.put,Za,Zb] <;> exact rfl) ?_) | (refine fC rfl rfl rfl (by simp only [St.put,Za,Zb] <;> exact rfl) ?_))))
    (refine kA rfl (by simp (disch := omega) only [iA,aA,qop,fop,St.ev,St.put,cd,zd,Value.oneCell',lA,TypeDesc.aggB,Z0,cB,iop,vC,tt,Zh,sB,gt_iff_lt,qD,beq_self_eq_true,decide_true,eq_self,bne_self_eq_false] <;> exact rfl) ?_)
    refine bA ?_
    exact hK
   refine jA ?_
   refine oB _ rfl (fun hc2 => ?_) (fun hc2 => ?_)
   ·try simp only [Zp,Zi,ZK,ZJ,ne_eq,Zn,Zm,ZB,ZA,ZI,not_or,not_and,Zu] at hc2
    have hd : (itW ⟨sa,fa,lb⟩ (nE ⟨sa,fa,la⟩) i).done = false := (sX _).1 hc2
    have hlm := iFA hd
    obtain ⟨hn,hil⟩ := hR.next hd
    dsimp only at hil
    refine uB ?_
    refine jA ?_
    refine tB ?_
    refine cA ?_
    refine gA hX hb [0] rfl (σ' := ?s7) (fun K hK => ?h7) ?n7
    case h7 =>
     (refine kA rfl (by simp (disch := omega) only [iA,aA,qop,fop,St.ev,St.put,cd,zd,Value.oneCell',lA,TypeDesc.aggB,Z0,ZM,ZL,Zl,Zo,ZG,ZH,St.addBox,Value.cells,tt,Zh,sB,gt_iff_lt,qD,beq_self_eq_true,decide_true,eq_self,bne_self_eq_false] <;> exact rfl) ?_)
     refine bA ?_
     exact hK
    refine jA ?_
    refine cA ?_
    refine dF hX hb (jD hP) [(0,true),(1,true),(2,true),(3,true),(4,false),(5,true),(6,true),(7,true),(8,false),(9,true)] (by kernel_rfl) (σ' := ?s8) (fun K hK => ?h8) ?n8
    case h8 =>
     iterate 4 (refine eF rfl (by simp (disch := omega) only [qop,fop,St.ev,St.put,cd,zd,Value.oneCell',lA,TypeDesc.aggB,Z0,Z1,pA,qA,tA,eA,D.pure?,ZC,ZD,Int.toNat_zero,Int.toNat_one,xA,yA,wA,ZO,Nat.mul_one,Nat.zero_mul,Zh,uA,D.pv?,mJ,PV.d,iC,D.boxCells,D.live,D.cells?,ZM,ZL,ZN,ZG,ZH,St.setVec,tt,sB,gt_iff_lt,qD,beq_self_eq_true,decide_true,eq_self,bne_self_eq_false,hlm,xN] <;> exact rfl) (by simp only [St.put,Za,Zb] <;> exact rfl) ?_)
     refine eH rfl (by simp only [aA,St.ev,pB,qB,uA,D.pv?,ZG,ZH,zd,cd,Value.oneCell',Zr] <;> exact rfl) (acK hP (k52 hR hd)) (by simp only [St.put,Za,Zb] <;> exact rfl) ?_
     iterate 3 (refine eF rfl (by simp (disch := omega) only [qop,fop,St.ev,St.put,cd,zd,Value.oneCell',lA,TypeDesc.aggB,Z0,Z1,pA,qA,tA,eA,D.pure?,ZC,ZD,Int.toNat_zero,Int.toNat_one,xA,yA,wA,ZO,Nat.mul_one,Nat.zero_mul,Zh,uA,D.pv?,mJ,PV.d,iC,D.boxCells,D.live,D.cells?,ZM,ZL,ZN,ZG,ZH,St.setVec,tt,sB,gt_iff_lt,qD,beq_self_eq_true,decide_true,eq_self,bne_self_eq_false,hlm,xN] <;> exact rfl) (by simp only [St.put,Za,Zb] <;> exact rfl) ?_)
     (refine rG rfl (by simp (disch := omega) only [iA,aA,qop,fop,St.ev,St.put,cd,zd,Value.oneCell',lA,TypeDesc.aggB,Z0,Z1,pA,qA,tA,eA,D.pure?,ZC,ZD,Int.toNat_zero,Int.toNat_one,xA,yA,wA,ZO,Nat.mul_one,Nat.zero_mul,Zh,uA,D.pv?,mJ,PV.d,iC,D.boxCells,D.live,D.cells?,ZM,ZL,ZN,ZG,ZH,St.setVec,tt,sB,gt_iff_lt,qD,beq_self_eq_true,decide_true,eq_self,bne_self_eq_false,hlm,xN] <;> exact rfl) ?_)
     (refine eF rfl (by simp (disch := omega) only [qop,fop,St.ev,St.put,cd,zd,Value.oneCell',lA,TypeDesc.aggB,Z0,Z1,pA,qA,tA,eA,D.pure?,ZC,ZD,Int.toNat_zero,Int.toNat_one,xA,yA,wA,ZO,Nat.mul_one,Nat.zero_mul,Zh,uA,D.pv?,mJ,PV.d,iC,D.boxCells,D.live,D.cells?,ZM,ZL,ZN,ZG,ZH,St.setVec,tt,sB,gt_iff_lt,qD,beq_self_eq_true,decide_true,eq_self,bne_self_eq_false,hlm,xN] <;> exact rfl) (by simp only [St.put,Za,Zb] <;> exact rfl) ?_)
     refine xC ?_
     exact hK
    refine jA ?_
    refine cA ?_
    refine gA hX hb [0,1] rfl (σ' := ?s9) (fun K hK => ?h9) ?n9
    case h9 =>
     iterate 2 (refine kA rfl (by simp (disch := omega) only [iA,aA,qop,fop,St.ev,St.put,cd,zd,Value.oneCell',lA,TypeDesc.aggB,Z0,cB,iop,t27,eT,Zh,sB,gt_iff_lt,qD,beq_self_eq_true,decide_true,eq_self,bne_self_eq_false] <;> exact rfl) ?_)
     refine bA ?_
     exact hK
    refine jA ?_
    refine oB _ rfl (fun hc3 => ?_) (fun hc3 => ?_)
    ·try simp only [Zp,Zi,ZK,ZJ,ne_eq,Zn,Zm,ZB,ZA,ZI,not_or,not_and,Zu] at hc3
     refine gA hX hb [0,1,2,3,4,5,6,7,8,9] rfl (σ' := ?s10) (fun K hK => ?h10) ?n10
     case h10 =>
      iterate 2 (refine kA rfl (by simp (disch := omega) only [iA,aA,qop,fop,St.ev,St.put,cd,zd,Value.oneCell',lA,TypeDesc.aggB,Z0,Z1,pA,qA,tA,eA,D.pure?,ZC,ZD,uA,D.pv?,mJ,PV.d,iC,D.boxCells,D.live,D.cells?,ZM,ZL,ZN,ZG,ZH,St.setVec,tt,Zh,sB,gt_iff_lt,qD,beq_self_eq_true,decide_true,eq_self,bne_self_eq_false] <;> exact rfl) ?_)
      refine mD rfl (by simp only [aA,St.ev,pB,qB,uA,D.pv?,ZG,ZH,zd,cd,Value.oneCell',Zr] <;> exact rfl) (acK hP (k55 hR hd)) (by simp only [St.put,Za,Zb] <;> exact rfl) ?_
      iterate 7 (refine kA rfl (by simp (disch := omega) only [iA,aA,qop,fop,St.ev,St.put,cd,zd,Value.oneCell',lA,TypeDesc.aggB,Z0,Z1,pA,qA,tA,eA,D.pure?,ZC,ZD,uA,D.pv?,mJ,PV.d,iC,D.boxCells,D.live,D.cells?,ZM,ZL,ZN,ZG,ZH,St.setVec,tt,Zh,sB,gt_iff_lt,qD,beq_self_eq_true,decide_true,eq_self,bne_self_eq_false] <;> exact rfl) ?_)
      refine bA ?_
      exact hK
     refine cE ?_
     refine jA ?_
     exact ⟨i + 1,by exact ⟨hil,hn⟩,by (try dsimp only); omega,rC ⟨rfl,(by repeat first | exact sA | refine mB ?_ | refine vA rfl ?_),(pC rfl (vA rfl (vA rfl (vA rfl (sA)))) (pC rfl (vA rfl (vA rfl (vA rfl (sA)))) (pC rfl (vA rfl (vA rfl (vA rfl (vA rfl (vA rfl (vA rfl (vA rfl (vA rfl (sA))))))))) (xB _)))),(yB _),rfl,rfl⟩⟩
    ·try simp only [Zp,Zi,ZK,ZJ,ne_eq,Zn,Zm,ZB,ZA,ZI,not_or,not_and,Zu] at hc3
     cases hc3
   ·try simp only [Zp,Zi,ZK,ZJ,ne_eq,Zn,Zm,ZB,ZA,ZI,not_or,not_and,Zu] at hc2
    refine oD ?_
    refine fD ?_
    refine fD ?_
    refine zE ?_
    refine jA ?_
    refine cA ?_
    refine cA ?_
    refine gA hX hb [0,1] rfl (σ' := ?s11) (fun K hK => ?h11) ?n11
    case h11 =>
     iterate 2 (refine kA rfl (by simp (disch := omega) only [iA,aA,qop,fop,St.ev,St.put,cd,zd,Value.oneCell',lA,TypeDesc.aggB,Z0,cB,iop,t27,eT,Zh,sB,gt_iff_lt,qD,beq_self_eq_true,decide_true,eq_self,bne_self_eq_false] <;> exact rfl) ?_)
     refine bA ?_
     exact hK
    refine jA ?_
    refine oB _ rfl (fun hc4 => ?_) (fun hc4 => ?_)
    ·try simp only [Zp,Zi,ZK,ZJ,ne_eq,Zn,Zm,ZB,ZA,ZI,not_or,not_and,Zu] at hc4
     cases hc4
    ·try simp only [Zp,Zi,ZK,ZJ,ne_eq,Zn,Zm,ZB,ZA,ZI,not_or,not_and,Zu] at hc4
     refine uB ?_
     refine jA ?_
     refine cA ?_
     refine dF hX hb (jD hP) [(0,true),(1,true),(2,true),(3,true),(4,true),(5,true),(6,true)] (by kernel_rfl) (σ' := ?s12) (fun K hK => ?h12) ?n12
     case h12 =>
      iterate 7 (refine eF rfl (by simp (disch := omega) only [qop,fop,St.ev,St.put,cd,zd,Value.oneCell',lA,TypeDesc.aggB,Z0,fA,oA,Z1,pA,qA,tA,eA,D.pure?,ZC,ZD,tt,Zh,sB,gt_iff_lt,qD,beq_self_eq_true,decide_true,eq_self,bne_self_eq_false] <;> exact rfl) (by simp only [St.put,Za,Zb] <;> exact rfl) ?_)
      refine xC ?_
      exact hK
     refine jA ?_
     refine bC ?_
     exact zC rfl (iF rfl rfl rfl (by first | rfl | (rw [zHA hR hi (by simpa using hc2)] <;> rfl)))
 ·try simp only [Zp,Zi,ZK,ZJ,ne_eq,Zn,Zm,ZB,ZA,ZI,not_or,not_and,Zu] at hc0
  cases hc0
theorem c57 (a b : Tr) (ht : ∀ r ∈ a.lv,pN r) : ACalls Try.prog 57 [trP a,trP b] (.tup [.p (gD (tM a b).1),.p (i64 (tM a b).2.1),.p (i64 (tM a b).2.2)]) := by
 by_cases h : xI a b = 0
 ·exact zOA a b ht h
 ·exact yOA a b ht h
end Go.Proofs.Ytldcoekbgfaomaa
end
section
namespace Go.Proofs.Ytldcoekbgfaomaa
theorem uX {x : Int} (hx : 0 ≤ x ∧ x ≤ 18446744073709551615) : vHA (yC x) 0 = x := by
 have hl := eD x
 refine (gFA (wP x) (by omega) hx).2 ?_
 rw [Nat.mul_zero,List.drop_zero,List.take_of_length_le (by omega)]
theorem gEA {x y : Int} (hx : 0 ≤ x ∧ x ≤ 18446744073709551615) (hy : 0 ≤ y ∧ y ≤ 18446744073709551615) : yC x = yC y ↔ x = y :=
 ⟨fun h => by rw [← uX hx,h,uX hy],fun h => by rw [h]⟩
theorem yQ (row : List Int) : ∀ (X : List Nat) (q : Nat),q < X.length → ((bF row X).drop (8 * q)).take 8 = yC (row.getD (X.getD q 0) 0)
 | [],q,h => by cases h
 | x :: X,0,_ => by
  show ((yC (row.getD x 0) ++ bF row X).drop (8 * 0)).take 8 = _
  have hl := eD (row.getD x 0)
  rw [Nat.mul_zero,List.drop_zero,List.take_append_of_le_length (by omega),List.take_of_length_le (by omega)]
  rfl
 | x :: X,q + 1,h => by
  show ((yC (row.getD x 0) ++ bF row X).drop (8 * (q + 1))).take 8 = _
  have hl := eD (row.getD x 0)
  rw [List.drop_append,List.drop_eq_nil_of_le (by omega),List.nil_append,show 8 * (q + 1) - (yC (row.getD x 0)).length = 8 * q by omega,yQ row X q (by simpa using h)]
  rfl
theorem eZ (X : List Nat) : (List.range X.length).map (fun q => X.getD q 0) = X := by
 apply List.ext_getElem?
 intro j
 rw [List.getElem?_map]
 by_cases h : j < X.length
 ·rw [List.getElem?_range h,List.getElem?_eq_getElem h]
  simp [List.getD_eq_getElem?_getD,List.getElem?_eq_getElem h]
 ·rw [List.getElem?_eq_none (by simpa using h),List.getElem?_eq_none (by omega)]
  rfl
/-- Trees of words. -/
def TrW (t : Tr) : Prop := ∀ r ∈ t.lv,pN r
theorem TrW.at {t : Tr} (h : TrW t) (k i : Nat) : 0 ≤ (t.lv.getD k []).getD i 0 ∧ (t.lv.getD k []).getD i 0 ≤ 18446744073709551615 := by
 refine vZ (P := fun x : Int => 0 ≤ x ∧ x ≤ 18446744073709551615) ?_ ⟨by decide,by decide⟩ i
 by_cases hk : k < t.lv.length
 ·exact h _ (qE _ [] k hk)
 ·rw [List.getD_eq_getElem?_getD,List.getElem?_eq_none (by omega)]
  intro x hx
  cases hx
theorem eBA {a b : Tr} (ha : TrW a) (hb : TrW b) (k : Nat) (X : List Nat) : tH (a.lv.getD k []) (bF (b.lv.getD k []) X) X X.length = kQ a b k X := by
 unfold tH kQ
 rw [List.filter_congr (q := (qM a.lv b.lv k) ∘ (fun q => X.getD q 0)) (fun q hq => ?_),← List.filter_map,eZ]
 have hq := List.mem_range.1 hq
 unfold bEA qM
 rw [yQ _ _ _ hq]
 apply decide_eq_decide.2
 rw [gEA (hb.at k _) (ha.at k _)]
 exact not_congr ⟨fun h => h.symm,fun h => h.symm⟩
theorem Rn.go {a b : Tr} {i : Nat} (h : Rn a b i) (hb : TrW b) (hd : (itW b (nE a) i).done = false) {k : Nat} (hk : (itW b (nE a) i).level = (k : Int)) :
  itW b (nE a) (i + 1) = if k = 0 ∨ kQ a b k (vB (itW b (nE a) i).pend) = [] then vO (itW b (nE a) i) (kQ a b k (vB (itW b (nE a) i).pend)) else uL (itW b (nE a) i) (kQ a b k (vB (itW b (nE a) i).pend)) := by
 obtain ⟨m,dif,h1,h2,h3,h4,h5,h6,h7,h8,h9⟩ := h.hi.inv.next h.ha h.hb h.hs h.hf hd hk
 rw [xS hd,h8]
 rw [h5,eBA h.ht hb] at h6
 rw [h6]
theorem Rn.dwn {a b : Tr} {i : Nat} (h : Rn a b i) (hb : TrW b) (hd : (itW b (nE a) i).done = false) {k : Nat} (hk : (itW b (nE a) i).level = (k : Int)) {D : List Nat} (hD : kQ a b k (vB (itW b (nE a) i).pend) = D) (h1 : ¬ (k = 0 ∨ D = [])) :
  itW b (nE a) (i + 1) = uL (itW b (nE a) i) D := by
 subst hD
 rw [h.go hb hd hk,if_neg h1]
theorem Rn.fin {a b : Tr} {i : Nat} (h : Rn a b i) (hb : TrW b) (hd : (itW b (nE a) i).done = false) {k : Nat} (hk : (itW b (nE a) i).level = (k : Int)) {D : List Nat} (hD : kQ a b k (vB (itW b (nE a) i).pend) = D) (h1 : k = 0 ∨ D = []) :
  itW b (nE a) (i + 1) = vO (itW b (nE a) i) D := by
 subst hD
 rw [h.go hb hd hk,if_pos h1]
end Go.Proofs.Ytldcoekbgfaomaa
end
section
namespace Go.Proofs.Ytldcoekbgfaomaa
open Go.RowKit
set_option maxRecDepth 20000
set_option maxHeartbeats 4000000
attribute [local irreducible] kE sD AW
def LC : List (List Int) := [[1,0,0,0,0,0,0,0],[2,0,0,0,0,0,0,0],[3,0,0,0,0,0,0,0],[4,0,0,0,0,0,0,0],[6,0,0,0,0,0,0,0]]
def d6 : Int := 7697331400829685667
theorem bIA : pH [[6,0,0,0,0,0,0,0]] = d6 := by kernel_rfl
theorem hEA : jG (jG dA dB) d6 = 9847499792614691359 := by kernel_rfl
theorem mFA : kG LC 2 = (⟨5,2,lv3 dA dB d6⟩,0) := by
 rw [kG,if_neg (by decide),if_neg (by decide)]
 have h : bU LC ((2 : Int)).toNat = [dA,dB,d6] := by
  rw [← qDA,← rDA,← bIA]
  rfl
 rw [h,fS,mV]
 rfl
@[reducible] def tX : Tr := ⟨5,2,lv3 dA dB dC⟩
@[reducible] def tY : Tr := ⟨5,2,lv3 dA dB d6⟩
theorem gGA : TrW tX := by
 intro r hr
 change r ∈ [[dA,dB,dC],[jG dA dB,dC],[jG (jG dA dB) dC]] at hr
 rw [tDA,sDA] at hr
 revert r
 unfold pN
 decide
theorem iEA : TrW tY := by
 intro r hr
 change r ∈ [[dA,dB,d6],[jG dA dB,d6],[jG (jG dA dB) d6]] at hr
 rw [hEA,sDA] at hr
 revert r
 unfold pN
 decide
theorem aPA : kQ tX tY 2 [0] = [0] := by
 have : qM tX.lv tY.lv 2 0 = true := decide_eq_true (by show ¬ jG (jG dA dB) dC = jG (jG dA dB) d6; rw [tDA,hEA]; decide)
 rw [kQ,List.filter_cons,this]
 rfl
theorem bPA : kQ tX tY 1 [0,1] = [1] := by
 have h0 : qM tX.lv tY.lv 1 0 = false := decide_eq_false (by show ¬ ¬ jG dA dB = jG dA dB; exact not_not_intro rfl)
 have h1 : qM tX.lv tY.lv 1 1 = true := decide_eq_true (by show ¬ dC = d6; decide)
 rw [kQ,List.filter_cons,h0,List.filter_cons,h1]
 rfl
theorem cPA : kQ tX tY 0 [2] = [2] := by
 have h1 : qM tX.lv tY.lv 0 2 = true := decide_eq_true (by show ¬ dC = d6; decide)
 rw [kQ,List.filter_cons,h1]
 rfl
theorem rn0 : Rn tX tY 0 := ⟨sAA _ _ _,sAA _ _ _,rfl,rfl,gGA,fGA _ (sAA _ _ _)⟩
theorem it0 : itW tY (nE tX) 0 = ⟨tX,[(0,1)],2,[],0,false⟩ := rfl
theorem it1 : itW tY (nE tX) 1 = ⟨tX,[(0,2)],1,[],1,false⟩ := by
 rw [rn0.dwn iEA rfl (k := 2) rfl (D := [0]) aPA (by decide),it0]
 rfl
theorem rn1 : Rn tX tY 1 := (rn0.next rfl).1
theorem it2 : itW tY (nE tX) 2 = ⟨tX,[(2,1)],0,[],3,false⟩ := by
 rw [rn1.dwn iEA (by rw [it1]) (k := 1) (by rw [it1]; rfl) (D := [1]) (by rw [it1]; exact bPA) (by decide),it1]
 rfl
theorem rn2 : Rn tX tY 2 := (rn1.next (by rw [it1])).1
theorem it3 : itW tY (nE tX) 3 = ⟨tX,[],0,[(4,1)],4,true⟩ := by
 rw [rn2.fin iEA (by rw [it2]) (k := 0) (by rw [it2]; rfl) (D := [2]) (by rw [it2]; exact cPA) (by decide),it2]
 rfl
theorem kKA : tM tX tY = ([(4,1)],4,0) := by
 rw [tM,if_neg (not_not_intro (sAA _ _ _)),if_neg (not_not_intro (sAA _ _ _)),if_neg (by decide)]
 show ((itW tY (nE tX) 3).found,(itW tY (nE tX) 3).sent,(0 : Int)) = _
 rw [it3]
theorem dPA : ACalls Try.prog 22 [.p (.sl 5 [u8 1,u8 0,u8 0,u8 0,u8 0,u8 0,u8 0,u8 0,u8 2,u8 0,u8 0,u8 0,u8 0,u8 0,u8 0,u8 0,u8 3,u8 0,u8 0,u8 0,u8 0,u8 0,u8 0,u8 0,u8 4,u8 0,u8 0,u8 0,u8 0,u8 0,u8 0,u8 0,u8 5,u8 0,u8 0,u8 0,u8 0,u8 0,u8 0,u8 0]),.p (i64 2)] (.tup [tP dA dB dC,.p (i64 0)]) := by
 have := c22 LA 2
 rw [sHA] at this
 exact this
theorem ePA : ACalls Try.prog 22 [.p (.sl 5 [u8 1,u8 0,u8 0,u8 0,u8 0,u8 0,u8 0,u8 0,u8 2,u8 0,u8 0,u8 0,u8 0,u8 0,u8 0,u8 0,u8 3,u8 0,u8 0,u8 0,u8 0,u8 0,u8 0,u8 0,u8 4,u8 0,u8 0,u8 0,u8 0,u8 0,u8 0,u8 0,u8 6,u8 0,u8 0,u8 0,u8 0,u8 0,u8 0,u8 0]),.p (i64 2)] (.tup [tP dA dB d6,.p (i64 0)]) := by
 have := c22 LC 2
 rw [mFA] at this
 exact this
theorem fPA : ACalls Try.prog 45 [tP dA dB dC] (.tup [.agg [i64 5,i64 2,iE (lv3 dA dB dC),gD [(0,1)],i64 2,gD [],i64 0,bv false],.p (.sl 1 [i64 13,i64 0,i64 0,i64 2,i64 0,i64 0,mF [5,2,0,1],bytes []]),.p (i64 0)]) := by
 have := c45 tX
 rw [rS (sAA _ _ _)] at this
 exact this
theorem gPA : ACalls Try.prog 57 [tP dA dB dC,tP dA dB d6] (.tup [.p (gD [(4,1)]),.p (i64 4),.p (i64 0)]) := by
 have := c57 tX tY gGA
 rw [kKA] at this
 exact this
theorem hPA : iI 5 2 1 = (5,0) := by
 rw [iI,if_neg (by decide),if_neg (by decide),if_neg (by decide)]
 show (((1 + wM 1 3 : Nat) : Int),(0 : Int)) = _
 rw [sJ (by decide),sJ (by decide),rJ (by decide)]
 rfl
theorem iPA : iI 5 2 0 = (1,0) := by
 rw [iI,if_neg (by decide),if_neg (by decide),if_neg (by decide)]
 show (((1 + wM 0 3 : Nat) : Int),(0 : Int)) = _
 rw [sJ (by decide),sJ (by decide),rJ (by decide)]
 rfl
theorem jPA : ACalls Try.prog 59 [.p (i64 5),.p (i64 2),.p (i64 1)] (.tup [.p (i64 5),.p (i64 0)]) := by
 have := c59 5 2 1 (by decide) (by decide) (by decide)
 rw [hPA] at this
 exact this
theorem kPA : ACalls Try.prog 59 [.p (i64 5),.p (i64 2),.p (i64 0)] (.tup [.p (i64 1),.p (i64 0)]) := by
 have := c59 5 2 0 (by decide) (by decide) (by decide)
 rw [iPA] at this
 exact this
theorem lKA (l : List Int) : ACalls Try.prog 81 [.p (mF l),.p (mF l)] (.p (bv true)) := by
 have := c81 l l
 rwa [show decide (l = l) = true from decide_eq_true rfl] at this
theorem c44  : ACalls Try.prog 44 [] (.p (bv true)) := by
 refine wC oC Try.func44 (c := _) rfl (by kernel_rfl) ?_
 intro X hP hX hro hpl
 have hb : tb.Ok X.P := hP ▸ oC
 change AW X _ _ ⟨[],[.any,.any,.any,.any,.any,.any,.any,.any,.any,.any,.any,.any,.any,.any,.any,.any,.any,.any,.any,.any,.any,.any,.any,.any,.any,.any,.any,.any,.any,.any,.any,.any,.any,.any,.any,.any,.any,.any,.any,.any,.any,.any,.any,.any,.any,.any,.any,.any,.any,.any,.any,.any,.any,.any,.any,.any,.any,.any,.any,.any,.any,.any,.any,.any,.any,.any,.any,.any,.any,.any,.any,.any,.any,.any,.any,.any,.any,.any,.any,.any,.any,.any,.any,.any,.any,.any,.any,.any,.any,.any,.any,.any,.any,.any,.any,.any,.any,.any,.any,.any,.any,.any,.any,.any,.any,.any,.any,.any,.any,.any,.any,.any,.any,.any,.any,.any,.any,.any,.any,.any],[],[]⟩
 refine cA ?_
 refine gA hX hb [0] rfl (σ' := ?s1) (fun K hK => ?h1) ?n1
 case h1 =>
  (refine kA rfl (by simp (disch := omega) only [iA,aA,qop,fop,St.ev,St.put,cd,zd,Value.oneCell',lA,TypeDesc.aggB,Z0] <;> exact rfl) ?_)
  refine bA ?_
  exact hK
 refine jA ?_
 refine cA ?_
 refine gA hX (fDA [21] hb) [0,1,2,3,4,5,6] rfl (σ' := ?s2) (fun K hK => ?h2) ?n2
 case h2 =>
  iterate 7 (refine kA rfl (by simp (disch := omega) only [iA,aA,qop,fop,St.ev,St.put,cd,zd,Value.oneCell',lA,TypeDesc.aggB,Z0,aE,cD,mC,aC,D.cell1,fB,gB,iB,jB,kB,List.all_cons,List.all_nil,uC,TI.place,TI.zeros,TI.kindOk,D.cells?,D.pure?,zp,Value.cells,ZQ,ZP,Z1,zD,aD,bD,bE,bB,rB,ZG,ZH,ZL,ZM,ZN,aB,Nat.reduceAdd,Nat.reduceMul,tt,Int.reduceToNat,Nat.reduceSub,Nat.reduceLeDiff,aGA,bGA,mZ,St.addBox] <;> exact rfl) ?_)
  refine bA ?_
  exact hK
 refine jA ?_
 refine cA ?_
 refine gA hX hb [0,1,2,3,4,5,6,7] rfl (σ' := ?s3) (fun K hK => ?h3) ?n3
 case h3 =>
  (refine kA rfl (by simp (disch := omega) only [iA,aA,qop,fop,St.ev,St.put,cd,zd,Value.oneCell',lA,TypeDesc.aggB,Z0,uA,D.pv?,mJ,PV.d,ZM,ZL,Z1,ZG,ZH,St.addBox,Value.cells,iC,D.boxCells,D.live,D.cells?,D.pure?,ZN,St.setVec,ZC,tt] <;> exact rfl) ?_)
  refine zBA rfl rfl (by simp only [St.ev,pB,qB,zd,cd,Value.oneCell',Zr] <;> exact rfl) (by simp only [bN,pD,D.pvC?,D.pvN?,D.pvL?,eA,D.pv?,D.pure?,St.ev,pB,qB,zd,cd,Value.oneCell',Zr,ZG,ZH,Zd,Zc,Zg,ZM,ZL,ZN,Z1,Int.reduceToNat,Nat.reduceMul,Nat.reduceAdd,Nat.reduceSub,Nat.reduceLeDiff] <;> exact rfl) (by exact bo1 rfl rfl rfl) (acK hP (dPA)) (qZ _ _ _ _) (by simp only [St.put,Za,Zb] <;> exact rfl) ?_
  iterate 6 (refine kA rfl (by simp (disch := omega) only [iA,aA,qop,fop,St.ev,St.put,cd,zd,Value.oneCell',lA,TypeDesc.aggB,Z0,uA,D.pv?,mJ,PV.d,ZM,ZL,Z1,ZG,ZH,St.addBox,Value.cells,iC,D.boxCells,D.live,D.cells?,D.pure?,ZN,St.setVec,ZC,tt] <;> exact rfl) ?_)
  refine bA ?_
  exact hK
 refine jA ?_
 refine cA ?_
 refine gA hX (fDA [32] hb) [0,1,2,3,4,5,6] rfl (σ' := ?s4) (fun K hK => ?h4) ?n4
 case h4 =>
  iterate 7 (refine kA rfl (by simp (disch := omega) only [iA,aA,qop,fop,St.ev,St.put,cd,zd,Value.oneCell',lA,TypeDesc.aggB,Z0,aE,cD,mC,aC,D.cell1,fB,gB,iB,jB,kB,List.all_cons,List.all_nil,uC,TI.place,TI.zeros,TI.kindOk,D.cells?,D.pure?,zp,Value.cells,ZQ,ZP,Z1,zD,aD,bD,bE,bB,rB,ZG,ZH,ZL,ZM,ZN,aB,Nat.reduceAdd,Nat.reduceMul,tt,Int.reduceToNat,Nat.reduceSub,Nat.reduceLeDiff,aGA,bGA,mZ,St.addBox] <;> exact rfl) ?_)
  refine bA ?_
  exact hK
 refine jA ?_
 refine cA ?_
 refine gA hX hb [0,1,2,3,4,5,6,7] rfl (σ' := ?s5) (fun K hK => ?h5) ?n5
 case h5 =>
  (refine kA rfl (by simp (disch := omega) only [iA,aA,qop,fop,St.ev,St.put,cd,zd,Value.oneCell',lA,TypeDesc.aggB,Z0,uA,D.pv?,mJ,PV.d,ZM,ZL,Z1,ZG,ZH,St.addBox,Value.cells,iC,D.boxCells,D.live,D.cells?,D.pure?,ZN,St.setVec,ZC,tt] <;> exact rfl) ?_)
  refine zBA rfl rfl (by simp only [St.ev,pB,qB,zd,cd,Value.oneCell',Zr] <;> exact rfl) (by simp only [bN,pD,D.pvC?,D.pvN?,D.pvL?,eA,D.pv?,D.pure?,St.ev,pB,qB,zd,cd,Value.oneCell',Zr,ZG,ZH,Zd,Zc,Zg,ZM,ZL,ZN,Z1,Int.reduceToNat,Nat.reduceMul,Nat.reduceAdd,Nat.reduceSub,Nat.reduceLeDiff] <;> exact rfl) (by exact bo1 rfl rfl rfl) (acK hP (ePA)) (qZ _ _ _ _) (by simp only [St.put,Za,Zb] <;> exact rfl) ?_
  iterate 6 (refine kA rfl (by simp (disch := omega) only [iA,aA,qop,fop,St.ev,St.put,cd,zd,Value.oneCell',lA,TypeDesc.aggB,Z0,uA,D.pv?,mJ,PV.d,ZM,ZL,Z1,ZG,ZH,St.addBox,Value.cells,iC,D.boxCells,D.live,D.cells?,D.pure?,ZN,St.setVec,ZC,tt] <;> exact rfl) ?_)
  refine bA ?_
  exact hK
 refine jA ?_
 refine cA ?_
 refine gA hX hb [0,1,2,3,4,5,6,7,8,9] rfl (σ' := ?s6) (fun K hK => ?h6) ?n6
 case h6 =>
  (refine kA rfl (by simp (disch := omega) only [iA,aA,qop,fop,St.ev,St.put,cd,zd,Value.oneCell',lA,TypeDesc.aggB,Z0,Z1,pA,qA,tA,eA,D.pure?,ZC,ZD,uA,D.pv?,mJ,PV.d,ZM,ZL,ZG,ZH,St.addBox,Value.cells,iC,D.boxCells,D.live,D.cells?,ZN,St.setVec,tt,Int.reduceToNat,Nat.reduceMul,Nat.reduceAdd,Nat.reduceSub,Nat.reduceLeDiff] <;> exact rfl) ?_)
  refine mD rfl (by simp only [aA,St.ev,pB,qB,uA,D.pv?,ZG,ZH,zd,cd,Value.oneCell',Zr] <;> exact rfl) (acK hP (fPA)) (by simp only [St.put,Za,Zb] <;> exact rfl) ?_
  iterate 8 (refine kA rfl (by simp (disch := omega) only [iA,aA,qop,fop,St.ev,St.put,cd,zd,Value.oneCell',lA,TypeDesc.aggB,Z0,Z1,pA,qA,tA,eA,D.pure?,ZC,ZD,uA,D.pv?,mJ,PV.d,ZM,ZL,ZG,ZH,St.addBox,Value.cells,iC,D.boxCells,D.live,D.cells?,ZN,St.setVec,tt,Int.reduceToNat,Nat.reduceMul,Nat.reduceAdd,Nat.reduceSub,Nat.reduceLeDiff] <;> exact rfl) ?_)
  refine bA ?_
  exact hK
 refine jA ?_
 refine cA ?_
 refine cA ?_
 refine gA hX hb [0,1,2,3,4,5,6,7,8,9,10,11,12,13,14,15,16,17,18,19,20,21,22,23,24,25,26,27,28,29,30,31,32] rfl (σ' := ?s7) (fun K hK => ?h7) ?n7
 case h7 =>
  iterate 5 (refine kA rfl (by simp (disch := omega) only [iA,aA,qop,fop,St.ev,St.put,cd,zd,Value.oneCell',lA,TypeDesc.aggB,Z0,cB,iop,vC,Int.toNat_zero,Int.toNat_one,xA,yA,wA,ZO,Nat.mul_one,ZC,Nat.zero_mul,Zh,fA,oA,Z1,pA,qA,tA,eA,D.pure?,ZD,zD,aD,bD,bE,bB,rB,D.cells?,fB,gB,iB,jB,kB,ZG,ZH,ZL,ZM,ZN,aB,Nat.reduceAdd,Nat.reduceMul,uA,D.pv?,Bool.not_true,Bool.not_false,tt,Int.reduceToNat,Nat.reduceSub,Nat.reduceLeDiff,sB] <;> exact rfl) ?_)
  iterate 2 (all_goals first | (refine lC rfl rfl rfl (by simp (disch := omega) only [iA,aA,qop,fop,St.ev,St.put,cd,zd,Value.oneCell',lA,TypeDesc.aggB,Z0,cB,iop,vC,Int.toNat_zero,Int.toNat_one,xA,yA,wA,ZO,Nat.mul_one,ZC,Nat.zero_mul,Zh,fA,oA,Z1,pA,qA,tA,eA,D.pure?,ZD,zD,aD,bD,bE,bB,rB,D.cells?,fB,gB,iB,jB,kB,ZG,ZH,ZL,ZM,ZN,aB,Nat.reduceAdd,Nat.reduceMul,uA,D.pv?,Bool.not_true,Bool.not_false,tt,Int.reduceToNat,Nat.reduceSub,Nat.reduceLeDiff,sB] <;> exact rfl) ?_) | (first | (refine eC rfl rfl rfl (by simp only [St.put,Za,Zb] <;> exact rfl) ?_) | (refine fC rfl rfl rfl (by simp only [St.put,Za,Zb] <;> exact rfl) ?_)) | (refine cC rfl rfl rfl (by simp only [Za,Zb] <;> exact rfl) (by simp only [Za,Zb] <;> exact rfl) (fun hg => ?_) (fun hg => ?_) <;> (try simp only [Zp,Zi,ZJ,ZK,ne_eq,Zn,Zm,Bool.not_eq_true,Zu] at hg) <;> first | (refine lC rfl rfl rfl (by simp (disch := omega) only [iA,aA,qop,fop,St.ev,St.put,cd,zd,Value.oneCell',lA,TypeDesc.aggB,Z0,cB,iop,vC,Int.toNat_zero,Int.toNat_one,xA,yA,wA,ZO,Nat.mul_one,ZC,Nat.zero_mul,Zh,fA,oA,Z1,pA,qA,tA,eA,D.pure?,ZD,zD,aD,bD,bE,bB,rB,D.cells?,fB,gB,iB,jB,kB,ZG,ZH,ZL,ZM,ZN,aB,Nat.reduceAdd,Nat.reduceMul,uA,D.pv?,Bool.not_true,Bool.not_false,tt,Int.reduceToNat,Nat.reduceSub,Nat.reduceLeDiff,sB] <;> exact rfl) ?_) | (first | (refine eC rfl rfl rfl (by simp only [St.put,Za,Zb] <;> exact rfl) ?_) | (refine fC rfl rfl rfl (by simp only [St.put,Za,Zb] <;> exact rfl) ?_))))
  iterate 2 (refine kA rfl (by simp (disch := omega) only [iA,aA,qop,fop,St.ev,St.put,cd,zd,Value.oneCell',lA,TypeDesc.aggB,Z0,cB,iop,vC,Int.toNat_zero,Int.toNat_one,xA,yA,wA,ZO,Nat.mul_one,ZC,Nat.zero_mul,Zh,fA,oA,Z1,pA,qA,tA,eA,D.pure?,ZD,zD,aD,bD,bE,bB,rB,D.cells?,fB,gB,iB,jB,kB,ZG,ZH,ZL,ZM,ZN,aB,Nat.reduceAdd,Nat.reduceMul,uA,D.pv?,Bool.not_true,Bool.not_false,tt,Int.reduceToNat,Nat.reduceSub,Nat.reduceLeDiff,sB] <;> exact rfl) ?_)
  iterate 3 (all_goals first | (refine lC rfl rfl rfl (by simp (disch := omega) only [iA,aA,qop,fop,St.ev,St.put,cd,zd,Value.oneCell',lA,TypeDesc.aggB,Z0,cB,iop,vC,Int.toNat_zero,Int.toNat_one,xA,yA,wA,ZO,Nat.mul_one,ZC,Nat.zero_mul,Zh,fA,oA,Z1,pA,qA,tA,eA,D.pure?,ZD,zD,aD,bD,bE,bB,rB,D.cells?,fB,gB,iB,jB,kB,ZG,ZH,ZL,ZM,ZN,aB,Nat.reduceAdd,Nat.reduceMul,uA,D.pv?,Bool.not_true,Bool.not_false,tt,Int.reduceToNat,Nat.reduceSub,Nat.reduceLeDiff,sB] <;> exact rfl) ?_) | (first | (refine eC rfl rfl rfl (by simp only [St.put,Za,Zb] <;> exact rfl) ?_) | (refine fC rfl rfl rfl (by simp only [St.put,Za,Zb] <;> exact rfl) ?_)) | (refine cC rfl rfl rfl (by simp only [Za,Zb] <;> exact rfl) (by simp only [Za,Zb] <;> exact rfl) (fun hg => ?_) (fun hg => ?_) <;> (try simp only [Zp,Zi,ZJ,ZK,ne_eq,Zn,Zm,Bool.not_eq_true,Zu] at hg) <;> first | (refine lC rfl rfl rfl (by simp (disch := omega) only [iA,aA,qop,fop,St.ev,St.put,cd,zd,Value.oneCell',lA,TypeDesc.aggB,Z0,cB,iop,vC,Int.toNat_zero,Int.toNat_one,xA,yA,wA,ZO,Nat.mul_one,ZC,Nat.zero_mul,Zh,fA,oA,Z1,pA,qA,tA,eA,D.pure?,ZD,zD,aD,bD,bE,bB,rB,D.cells?,fB,gB,iB,jB,kB,ZG,ZH,ZL,ZM,ZN,aB,Nat.reduceAdd,Nat.reduceMul,uA,D.pv?,Bool.not_true,Bool.not_false,tt,Int.reduceToNat,Nat.reduceSub,Nat.reduceLeDiff,sB] <;> exact rfl) ?_) | (first | (refine eC rfl rfl rfl (by simp only [St.put,Za,Zb] <;> exact rfl) ?_) | (refine fC rfl rfl rfl (by simp only [St.put,Za,Zb] <;> exact rfl) ?_))))
  iterate 2 (refine kA rfl (by simp (disch := omega) only [iA,aA,qop,fop,St.ev,St.put,cd,zd,Value.oneCell',lA,TypeDesc.aggB,Z0,cB,iop,vC,Int.toNat_zero,Int.toNat_one,xA,yA,wA,ZO,Nat.mul_one,ZC,Nat.zero_mul,Zh,fA,oA,Z1,pA,qA,tA,eA,D.pure?,ZD,zD,aD,bD,bE,bB,rB,D.cells?,fB,gB,iB,jB,kB,ZG,ZH,ZL,ZM,ZN,aB,Nat.reduceAdd,Nat.reduceMul,uA,D.pv?,Bool.not_true,Bool.not_false,tt,Int.reduceToNat,Nat.reduceSub,Nat.reduceLeDiff,sB] <;> exact rfl) ?_)
  iterate 5 (all_goals first | (refine lC rfl rfl rfl (by simp (disch := omega) only [iA,aA,qop,fop,St.ev,St.put,cd,zd,Value.oneCell',lA,TypeDesc.aggB,Z0,cB,iop,vC,Int.toNat_zero,Int.toNat_one,xA,yA,wA,ZO,Nat.mul_one,ZC,Nat.zero_mul,Zh,fA,oA,Z1,pA,qA,tA,eA,D.pure?,ZD,zD,aD,bD,bE,bB,rB,D.cells?,fB,gB,iB,jB,kB,ZG,ZH,ZL,ZM,ZN,aB,Nat.reduceAdd,Nat.reduceMul,uA,D.pv?,Bool.not_true,Bool.not_false,tt,Int.reduceToNat,Nat.reduceSub,Nat.reduceLeDiff,sB] <;> exact rfl) ?_) | (first | (refine eC rfl rfl rfl (by simp only [St.put,Za,Zb] <;> exact rfl) ?_) | (refine fC rfl rfl rfl (by simp only [St.put,Za,Zb] <;> exact rfl) ?_)) | (refine cC rfl rfl rfl (by simp only [Za,Zb] <;> exact rfl) (by simp only [Za,Zb] <;> exact rfl) (fun hg => ?_) (fun hg => ?_) <;> (try simp only [Zp,Zi,ZJ,ZK,ne_eq,Zn,Zm,Bool.not_eq_true,Zu] at hg) <;> first | (refine lC rfl rfl rfl (by simp (disch := omega) only [iA,aA,qop,fop,St.ev,St.put,cd,zd,Value.oneCell',lA,TypeDesc.aggB,Z0,cB,iop,vC,Int.toNat_zero,Int.toNat_one,xA,yA,wA,ZO,Nat.mul_one,ZC,Nat.zero_mul,Zh,fA,oA,Z1,pA,qA,tA,eA,D.pure?,ZD,zD,aD,bD,bE,bB,rB,D.cells?,fB,gB,iB,jB,kB,ZG,ZH,ZL,ZM,ZN,aB,Nat.reduceAdd,Nat.reduceMul,uA,D.pv?,Bool.not_true,Bool.not_false,tt,Int.reduceToNat,Nat.reduceSub,Nat.reduceLeDiff,sB] <;> exact rfl) ?_) | (first | (refine eC rfl rfl rfl (by simp only [St.put,Za,Zb] <;> exact rfl) ?_) | (refine fC rfl rfl rfl (by simp only [St.put,Za,Zb] <;> exact rfl) ?_))))
  all_goals first | (refine eL rfl rfl rfl (by simp only [aA,St.ev,pB,qB,uA,D.pv?,ZG,ZH,zd,cd,Value.oneCell',Zr] <;> exact rfl) (acK hP (lKA [5,2,0,1])) (by simp only [St.put,Za,Zb] <;> exact rfl) ?_) | (first | (refine eC rfl rfl rfl (by simp only [St.put,Za,Zb] <;> exact rfl) ?_) | (refine fC rfl rfl rfl (by simp only [St.put,Za,Zb] <;> exact rfl) ?_)) | (refine cC rfl rfl rfl (by simp only [Za,Zb] <;> exact rfl) (by simp only [Za,Zb] <;> exact rfl) (fun hg => ?_) (fun hg => ?_) <;> (try simp only [Zp,Zi,ZJ,ZK,ne_eq,Zn,Zm,Bool.not_eq_true,Zu] at hg) <;> first | (refine eL rfl rfl rfl (by simp only [aA,St.ev,pB,qB,uA,D.pv?,ZG,ZH,zd,cd,Value.oneCell',Zr] <;> exact rfl) (acK hP (lKA [5,2,0,1])) (by simp only [St.put,Za,Zb] <;> exact rfl) ?_) | (first | (refine eC rfl rfl rfl (by simp only [St.put,Za,Zb] <;> exact rfl) ?_) | (refine fC rfl rfl rfl (by simp only [St.put,Za,Zb] <;> exact rfl) ?_)))
  (all_goals first | (refine lC rfl rfl rfl (by simp (disch := omega) only [iA,aA,qop,fop,St.ev,St.put,cd,zd,Value.oneCell',lA,TypeDesc.aggB,Z0,cB,iop,vC,Int.toNat_zero,Int.toNat_one,xA,yA,wA,ZO,Nat.mul_one,ZC,Nat.zero_mul,Zh,fA,oA,Z1,pA,qA,tA,eA,D.pure?,ZD,zD,aD,bD,bE,bB,rB,D.cells?,fB,gB,iB,jB,kB,ZG,ZH,ZL,ZM,ZN,aB,Nat.reduceAdd,Nat.reduceMul,uA,D.pv?,Bool.not_true,Bool.not_false,tt,Int.reduceToNat,Nat.reduceSub,Nat.reduceLeDiff,sB] <;> exact rfl) ?_) | (first | (refine eC rfl rfl rfl (by simp only [St.put,Za,Zb] <;> exact rfl) ?_) | (refine fC rfl rfl rfl (by simp only [St.put,Za,Zb] <;> exact rfl) ?_)) | (refine cC rfl rfl rfl (by simp only [Za,Zb] <;> exact rfl) (by simp only [Za,Zb] <;> exact rfl) (fun hg => ?_) (fun hg => ?_) <;> (try simp only [Zp,Zi,ZJ,ZK,ne_eq,Zn,Zm,Bool.not_eq_true,Zu] at hg) <;> first | (refine lC rfl rfl rfl (by simp (disch := omega) only [iA,aA,qop,fop,St.ev,St.put,cd,zd,Value.oneCell',lA,TypeDesc.aggB,Z0,cB,iop,vC,Int.toNat_zero,Int.toNat_one,xA,yA,wA,ZO,Nat.mul_one,ZC,Nat.zero_mul,Zh,fA,oA,Z1,pA,qA,tA,eA,D.pure?,ZD,zD,aD,bD,bE,bB,rB,D.cells?,fB,gB,iB,jB,kB,ZG,ZH,ZL,ZM,ZN,aB,Nat.reduceAdd,Nat.reduceMul,uA,D.pv?,Bool.not_true,Bool.not_false,tt,Int.reduceToNat,Nat.reduceSub,Nat.reduceLeDiff,sB] <;> exact rfl) ?_) | (first | (refine eC rfl rfl rfl (by simp only [St.put,Za,Zb] <;> exact rfl) ?_) | (refine fC rfl rfl rfl (by simp only [St.put,Za,Zb] <;> exact rfl) ?_))))
  iterate 2 (refine kA rfl (by simp (disch := omega) only [iA,aA,qop,fop,St.ev,St.put,cd,zd,Value.oneCell',lA,TypeDesc.aggB,Z0,cB,iop,vC,Int.toNat_zero,Int.toNat_one,xA,yA,wA,ZO,Nat.mul_one,ZC,Nat.zero_mul,Zh,fA,oA,Z1,pA,qA,tA,eA,D.pure?,ZD,zD,aD,bD,bE,bB,rB,D.cells?,fB,gB,iB,jB,kB,ZG,ZH,ZL,ZM,ZN,aB,Nat.reduceAdd,Nat.reduceMul,uA,D.pv?,Bool.not_true,Bool.not_false,tt,Int.reduceToNat,Nat.reduceSub,Nat.reduceLeDiff,sB] <;> exact rfl) ?_)
  iterate 5 (all_goals first | (refine lC rfl rfl rfl (by simp (disch := omega) only [iA,aA,qop,fop,St.ev,St.put,cd,zd,Value.oneCell',lA,TypeDesc.aggB,Z0,cB,iop,vC,Int.toNat_zero,Int.toNat_one,xA,yA,wA,ZO,Nat.mul_one,ZC,Nat.zero_mul,Zh,fA,oA,Z1,pA,qA,tA,eA,D.pure?,ZD,zD,aD,bD,bE,bB,rB,D.cells?,fB,gB,iB,jB,kB,ZG,ZH,ZL,ZM,ZN,aB,Nat.reduceAdd,Nat.reduceMul,uA,D.pv?,Bool.not_true,Bool.not_false,tt,Int.reduceToNat,Nat.reduceSub,Nat.reduceLeDiff,sB] <;> exact rfl) ?_) | (first | (refine eC rfl rfl rfl (by simp only [St.put,Za,Zb] <;> exact rfl) ?_) | (refine fC rfl rfl rfl (by simp only [St.put,Za,Zb] <;> exact rfl) ?_)) | (refine cC rfl rfl rfl (by simp only [Za,Zb] <;> exact rfl) (by simp only [Za,Zb] <;> exact rfl) (fun hg => ?_) (fun hg => ?_) <;> (try simp only [Zp,Zi,ZJ,ZK,ne_eq,Zn,Zm,Bool.not_eq_true,Zu] at hg) <;> first | (refine lC rfl rfl rfl (by simp (disch := omega) only [iA,aA,qop,fop,St.ev,St.put,cd,zd,Value.oneCell',lA,TypeDesc.aggB,Z0,cB,iop,vC,Int.toNat_zero,Int.toNat_one,xA,yA,wA,ZO,Nat.mul_one,ZC,Nat.zero_mul,Zh,fA,oA,Z1,pA,qA,tA,eA,D.pure?,ZD,zD,aD,bD,bE,bB,rB,D.cells?,fB,gB,iB,jB,kB,ZG,ZH,ZL,ZM,ZN,aB,Nat.reduceAdd,Nat.reduceMul,uA,D.pv?,Bool.not_true,Bool.not_false,tt,Int.reduceToNat,Nat.reduceSub,Nat.reduceLeDiff,sB] <;> exact rfl) ?_) | (first | (refine eC rfl rfl rfl (by simp only [St.put,Za,Zb] <;> exact rfl) ?_) | (refine fC rfl rfl rfl (by simp only [St.put,Za,Zb] <;> exact rfl) ?_))))
  iterate 2 (refine kA rfl (by simp (disch := omega) only [iA,aA,qop,fop,St.ev,St.put,cd,zd,Value.oneCell',lA,TypeDesc.aggB,Z0,cB,iop,vC,Int.toNat_zero,Int.toNat_one,xA,yA,wA,ZO,Nat.mul_one,ZC,Nat.zero_mul,Zh,fA,oA,Z1,pA,qA,tA,eA,D.pure?,ZD,zD,aD,bD,bE,bB,rB,D.cells?,fB,gB,iB,jB,kB,ZG,ZH,ZL,ZM,ZN,aB,Nat.reduceAdd,Nat.reduceMul,uA,D.pv?,Bool.not_true,Bool.not_false,tt,Int.reduceToNat,Nat.reduceSub,Nat.reduceLeDiff,sB] <;> exact rfl) ?_)
  iterate 2 (all_goals first | (refine lC rfl rfl rfl (by simp (disch := omega) only [iA,aA,qop,fop,St.ev,St.put,cd,zd,Value.oneCell',lA,TypeDesc.aggB,Z0,cB,iop,vC,Int.toNat_zero,Int.toNat_one,xA,yA,wA,ZO,Nat.mul_one,ZC,Nat.zero_mul,Zh,fA,oA,Z1,pA,qA,tA,eA,D.pure?,ZD,zD,aD,bD,bE,bB,rB,D.cells?,fB,gB,iB,jB,kB,ZG,ZH,ZL,ZM,ZN,aB,Nat.reduceAdd,Nat.reduceMul,uA,D.pv?,Bool.not_true,Bool.not_false,tt,Int.reduceToNat,Nat.reduceSub,Nat.reduceLeDiff,sB] <;> exact rfl) ?_) | (first | (refine eC rfl rfl rfl (by simp only [St.put,Za,Zb] <;> exact rfl) ?_) | (refine fC rfl rfl rfl (by simp only [St.put,Za,Zb] <;> exact rfl) ?_)) | (refine cC rfl rfl rfl (by simp only [Za,Zb] <;> exact rfl) (by simp only [Za,Zb] <;> exact rfl) (fun hg => ?_) (fun hg => ?_) <;> (try simp only [Zp,Zi,ZJ,ZK,ne_eq,Zn,Zm,Bool.not_eq_true,Zu] at hg) <;> first | (refine lC rfl rfl rfl (by simp (disch := omega) only [iA,aA,qop,fop,St.ev,St.put,cd,zd,Value.oneCell',lA,TypeDesc.aggB,Z0,cB,iop,vC,Int.toNat_zero,Int.toNat_one,xA,yA,wA,ZO,Nat.mul_one,ZC,Nat.zero_mul,Zh,fA,oA,Z1,pA,qA,tA,eA,D.pure?,ZD,zD,aD,bD,bE,bB,rB,D.cells?,fB,gB,iB,jB,kB,ZG,ZH,ZL,ZM,ZN,aB,Nat.reduceAdd,Nat.reduceMul,uA,D.pv?,Bool.not_true,Bool.not_false,tt,Int.reduceToNat,Nat.reduceSub,Nat.reduceLeDiff,sB] <;> exact rfl) ?_) | (first | (refine eC rfl rfl rfl (by simp only [St.put,Za,Zb] <;> exact rfl) ?_) | (refine fC rfl rfl rfl (by simp only [St.put,Za,Zb] <;> exact rfl) ?_))))
  (refine kA rfl (by simp (disch := omega) only [iA,aA,qop,fop,St.ev,St.put,cd,zd,Value.oneCell',lA,TypeDesc.aggB,Z0,cB,iop,vC,Int.toNat_zero,Int.toNat_one,xA,yA,wA,ZO,Nat.mul_one,ZC,Nat.zero_mul,Zh,fA,oA,Z1,pA,qA,tA,eA,D.pure?,ZD,zD,aD,bD,bE,bB,rB,D.cells?,fB,gB,iB,jB,kB,ZG,ZH,ZL,ZM,ZN,aB,Nat.reduceAdd,Nat.reduceMul,uA,D.pv?,Bool.not_true,Bool.not_false,tt,Int.reduceToNat,Nat.reduceSub,Nat.reduceLeDiff,sB] <;> exact rfl) ?_)
  refine bA ?_
  exact hK
 refine jA ?_
 refine oB _ rfl (fun hc0 => ?_) (fun hc0 => ?_)
 ·try simp only [Zp,Zi,ZK,ZJ,ne_eq,Zn,Zm,ZB,ZA,ZI,not_or,not_and,Zu] at hc0
  cases hc0
 ·try simp only [Zp,Zi,ZK,ZJ,ne_eq,Zn,Zm,ZB,ZA,ZI,not_or,not_and,Zu] at hc0
  refine uB ?_
  refine jA ?_
  refine cA ?_
  refine gA hX hb [0,1,2,3,4,5,6,7,8,9] rfl (σ' := ?s8) (fun K hK => ?h8) ?n8
  case h8 =>
   iterate 2 (refine kA rfl (by simp (disch := omega) only [iA,aA,qop,fop,St.ev,St.put,cd,zd,Value.oneCell',lA,TypeDesc.aggB,Z0,Z1,pA,qA,tA,eA,D.pure?,ZC,ZD,uA,D.pv?,mJ,PV.d,tt] <;> exact rfl) ?_)
   refine mD rfl (by simp only [aA,St.ev,pB,qB,uA,D.pv?,ZG,ZH,zd,cd,Value.oneCell',Zr] <;> exact rfl) (acK hP (gPA)) (by simp only [St.put,Za,Zb] <;> exact rfl) ?_
   iterate 7 (refine kA rfl (by simp (disch := omega) only [iA,aA,qop,fop,St.ev,St.put,cd,zd,Value.oneCell',lA,TypeDesc.aggB,Z0,Z1,pA,qA,tA,eA,D.pure?,ZC,ZD,uA,D.pv?,mJ,PV.d,tt] <;> exact rfl) ?_)
   refine bA ?_
   exact hK
  refine jA ?_
  refine cA ?_
  refine gA hX hb [0,1,2,3,4,5] rfl (σ' := ?s9) (fun K hK => ?h9) ?n9
  case h9 =>
   refine mD rfl (by simp only [aA,St.ev,pB,qB,uA,D.pv?,ZG,ZH,zd,cd,Value.oneCell',Zr] <;> exact rfl) (acK hP (jPA)) (by simp only [St.put,Za,Zb] <;> exact rfl) ?_
   iterate 5 (refine kA rfl (by simp (disch := omega) only [iA,aA,qop,fop,St.ev,St.put,cd,zd,Value.oneCell',lA,TypeDesc.aggB,Z0,uA,D.pv?,mJ,PV.d,tt] <;> exact rfl) ?_)
   refine bA ?_
   exact hK
  refine jA ?_
  refine cA ?_
  refine gA hX hb [0,1,2,3,4,5] rfl (σ' := ?s10) (fun K hK => ?h10) ?n10
  case h10 =>
   refine mD rfl (by simp only [aA,St.ev,pB,qB,uA,D.pv?,ZG,ZH,zd,cd,Value.oneCell',Zr] <;> exact rfl) (acK hP (kPA)) (by simp only [St.put,Za,Zb] <;> exact rfl) ?_
   iterate 5 (refine kA rfl (by simp (disch := omega) only [iA,aA,qop,fop,St.ev,St.put,cd,zd,Value.oneCell',lA,TypeDesc.aggB,Z0,uA,D.pv?,mJ,PV.d,tt] <;> exact rfl) ?_)
   refine bA ?_
   exact hK
  refine jA ?_
  refine cA ?_
  refine gA hX hb [0,1,2,3,4,5,6,7,8,9,10,11,12,13,14,15,16,17,18,19,20,21,22,23,24,25,26,27,28] rfl (σ' := ?s11) (fun K hK => ?h11) ?n11
  case h11 =>
   iterate 3 (refine kA rfl (by simp (disch := omega) only [iA,aA,qop,fop,St.ev,St.put,cd,zd,Value.oneCell',lA,TypeDesc.aggB,Z0,cB,iop,aE,cD,mC,aC,D.cell1,fB,gB,iB,jB,kB,List.all_cons,List.all_nil,uC,TI.place,TI.zeros,TI.kindOk,D.cells?,D.pure?,zp,Value.cells,ZQ,ZP,Z1,zD,aD,bD,bE,bB,rB,ZG,ZH,ZL,ZM,ZN,aB,Nat.reduceAdd,Nat.reduceMul,uA,D.pv?,tt,Int.reduceToNat,Nat.reduceSub,Nat.reduceLeDiff] <;> exact rfl) ?_)
   iterate 3 (all_goals first | (refine lC rfl rfl rfl (by simp (disch := omega) only [iA,aA,qop,fop,St.ev,St.put,cd,zd,Value.oneCell',lA,TypeDesc.aggB,Z0,cB,iop,aE,cD,mC,aC,D.cell1,fB,gB,iB,jB,kB,List.all_cons,List.all_nil,uC,TI.place,TI.zeros,TI.kindOk,D.cells?,D.pure?,zp,Value.cells,ZQ,ZP,Z1,zD,aD,bD,bE,bB,rB,ZG,ZH,ZL,ZM,ZN,aB,Nat.reduceAdd,Nat.reduceMul,uA,D.pv?,tt,Int.reduceToNat,Nat.reduceSub,Nat.reduceLeDiff] <;> exact rfl) ?_) | (first | (refine eC rfl rfl rfl (by simp only [St.put,Za,Zb] <;> exact rfl) ?_) | (refine fC rfl rfl rfl (by simp only [St.put,Za,Zb] <;> exact rfl) ?_)) | (refine cC rfl rfl rfl (by simp only [Za,Zb] <;> exact rfl) (by simp only [Za,Zb] <;> exact rfl) (fun hg => ?_) (fun hg => ?_) <;> (try simp only [Zp,Zi,ZJ,ZK,ne_eq,Zn,Zm,Bool.not_eq_true,Zu] at hg) <;> first | (refine lC rfl rfl rfl (by simp (disch := omega) only [iA,aA,qop,fop,St.ev,St.put,cd,zd,Value.oneCell',lA,TypeDesc.aggB,Z0,cB,iop,aE,cD,mC,aC,D.cell1,fB,gB,iB,jB,kB,List.all_cons,List.all_nil,uC,TI.place,TI.zeros,TI.kindOk,D.cells?,D.pure?,zp,Value.cells,ZQ,ZP,Z1,zD,aD,bD,bE,bB,rB,ZG,ZH,ZL,ZM,ZN,aB,Nat.reduceAdd,Nat.reduceMul,uA,D.pv?,tt,Int.reduceToNat,Nat.reduceSub,Nat.reduceLeDiff] <;> exact rfl) ?_) | (first | (refine eC rfl rfl rfl (by simp only [St.put,Za,Zb] <;> exact rfl) ?_) | (refine fC rfl rfl rfl (by simp only [St.put,Za,Zb] <;> exact rfl) ?_))))
   all_goals first | (refine eL rfl rfl rfl (by simp only [aA,St.ev,pB,qB,uA,D.pv?,ZG,ZH,zd,cd,Value.oneCell',Zr] <;> exact rfl) (acK hP (k29)) (by simp only [St.put,Za,Zb] <;> exact rfl) ?_) | (first | (refine eC rfl rfl rfl (by simp only [St.put,Za,Zb] <;> exact rfl) ?_) | (refine fC rfl rfl rfl (by simp only [St.put,Za,Zb] <;> exact rfl) ?_)) | (refine cC rfl rfl rfl (by simp only [Za,Zb] <;> exact rfl) (by simp only [Za,Zb] <;> exact rfl) (fun hg => ?_) (fun hg => ?_) <;> (try simp only [Zp,Zi,ZJ,ZK,ne_eq,Zn,Zm,Bool.not_eq_true,Zu] at hg) <;> first | (refine eL rfl rfl rfl (by simp only [aA,St.ev,pB,qB,uA,D.pv?,ZG,ZH,zd,cd,Value.oneCell',Zr] <;> exact rfl) (acK hP (k29)) (by simp only [St.put,Za,Zb] <;> exact rfl) ?_) | (first | (refine eC rfl rfl rfl (by simp only [St.put,Za,Zb] <;> exact rfl) ?_) | (refine fC rfl rfl rfl (by simp only [St.put,Za,Zb] <;> exact rfl) ?_)))
   iterate 2 (refine kA rfl (by simp (disch := omega) only [iA,aA,qop,fop,St.ev,St.put,cd,zd,Value.oneCell',lA,TypeDesc.aggB,Z0,cB,iop,aE,cD,mC,aC,D.cell1,fB,gB,iB,jB,kB,List.all_cons,List.all_nil,uC,TI.place,TI.zeros,TI.kindOk,D.cells?,D.pure?,zp,Value.cells,ZQ,ZP,Z1,zD,aD,bD,bE,bB,rB,ZG,ZH,ZL,ZM,ZN,aB,Nat.reduceAdd,Nat.reduceMul,uA,D.pv?,tt,Int.reduceToNat,Nat.reduceSub,Nat.reduceLeDiff] <;> exact rfl) ?_)
   iterate 2 (all_goals first | (refine lC rfl rfl rfl (by simp (disch := omega) only [iA,aA,qop,fop,St.ev,St.put,cd,zd,Value.oneCell',lA,TypeDesc.aggB,Z0,cB,iop,aE,cD,mC,aC,D.cell1,fB,gB,iB,jB,kB,List.all_cons,List.all_nil,uC,TI.place,TI.zeros,TI.kindOk,D.cells?,D.pure?,zp,Value.cells,ZQ,ZP,Z1,zD,aD,bD,bE,bB,rB,ZG,ZH,ZL,ZM,ZN,aB,Nat.reduceAdd,Nat.reduceMul,uA,D.pv?,tt,Int.reduceToNat,Nat.reduceSub,Nat.reduceLeDiff] <;> exact rfl) ?_) | (first | (refine eC rfl rfl rfl (by simp only [St.put,Za,Zb] <;> exact rfl) ?_) | (refine fC rfl rfl rfl (by simp only [St.put,Za,Zb] <;> exact rfl) ?_)) | (refine cC rfl rfl rfl (by simp only [Za,Zb] <;> exact rfl) (by simp only [Za,Zb] <;> exact rfl) (fun hg => ?_) (fun hg => ?_) <;> (try simp only [Zp,Zi,ZJ,ZK,ne_eq,Zn,Zm,Bool.not_eq_true,Zu] at hg) <;> first | (refine lC rfl rfl rfl (by simp (disch := omega) only [iA,aA,qop,fop,St.ev,St.put,cd,zd,Value.oneCell',lA,TypeDesc.aggB,Z0,cB,iop,aE,cD,mC,aC,D.cell1,fB,gB,iB,jB,kB,List.all_cons,List.all_nil,uC,TI.place,TI.zeros,TI.kindOk,D.cells?,D.pure?,zp,Value.cells,ZQ,ZP,Z1,zD,aD,bD,bE,bB,rB,ZG,ZH,ZL,ZM,ZN,aB,Nat.reduceAdd,Nat.reduceMul,uA,D.pv?,tt,Int.reduceToNat,Nat.reduceSub,Nat.reduceLeDiff] <;> exact rfl) ?_) | (first | (refine eC rfl rfl rfl (by simp only [St.put,Za,Zb] <;> exact rfl) ?_) | (refine fC rfl rfl rfl (by simp only [St.put,Za,Zb] <;> exact rfl) ?_))))
   iterate 2 (refine kA rfl (by simp (disch := omega) only [iA,aA,qop,fop,St.ev,St.put,cd,zd,Value.oneCell',lA,TypeDesc.aggB,Z0,cB,iop,aE,cD,mC,aC,D.cell1,fB,gB,iB,jB,kB,List.all_cons,List.all_nil,uC,TI.place,TI.zeros,TI.kindOk,D.cells?,D.pure?,zp,Value.cells,ZQ,ZP,Z1,zD,aD,bD,bE,bB,rB,ZG,ZH,ZL,ZM,ZN,aB,Nat.reduceAdd,Nat.reduceMul,uA,D.pv?,tt,Int.reduceToNat,Nat.reduceSub,Nat.reduceLeDiff] <;> exact rfl) ?_)
   iterate 2 (all_goals first | (refine lC rfl rfl rfl (by simp (disch := omega) only [iA,aA,qop,fop,St.ev,St.put,cd,zd,Value.oneCell',lA,TypeDesc.aggB,Z0,cB,iop,aE,cD,mC,aC,D.cell1,fB,gB,iB,jB,kB,List.all_cons,List.all_nil,uC,TI.place,TI.zeros,TI.kindOk,D.cells?,D.pure?,zp,Value.cells,ZQ,ZP,Z1,zD,aD,bD,bE,bB,rB,ZG,ZH,ZL,ZM,ZN,aB,Nat.reduceAdd,Nat.reduceMul,uA,D.pv?,tt,Int.reduceToNat,Nat.reduceSub,Nat.reduceLeDiff] <;> exact rfl) ?_) | (first | (refine eC rfl rfl rfl (by simp only [St.put,Za,Zb] <;> exact rfl) ?_) | (refine fC rfl rfl rfl (by simp only [St.put,Za,Zb] <;> exact rfl) ?_)) | (refine cC rfl rfl rfl (by simp only [Za,Zb] <;> exact rfl) (by simp only [Za,Zb] <;> exact rfl) (fun hg => ?_) (fun hg => ?_) <;> (try simp only [Zp,Zi,ZJ,ZK,ne_eq,Zn,Zm,Bool.not_eq_true,Zu] at hg) <;> first | (refine lC rfl rfl rfl (by simp (disch := omega) only [iA,aA,qop,fop,St.ev,St.put,cd,zd,Value.oneCell',lA,TypeDesc.aggB,Z0,cB,iop,aE,cD,mC,aC,D.cell1,fB,gB,iB,jB,kB,List.all_cons,List.all_nil,uC,TI.place,TI.zeros,TI.kindOk,D.cells?,D.pure?,zp,Value.cells,ZQ,ZP,Z1,zD,aD,bD,bE,bB,rB,ZG,ZH,ZL,ZM,ZN,aB,Nat.reduceAdd,Nat.reduceMul,uA,D.pv?,tt,Int.reduceToNat,Nat.reduceSub,Nat.reduceLeDiff] <;> exact rfl) ?_) | (first | (refine eC rfl rfl rfl (by simp only [St.put,Za,Zb] <;> exact rfl) ?_) | (refine fC rfl rfl rfl (by simp only [St.put,Za,Zb] <;> exact rfl) ?_))))
   iterate 2 (refine kA rfl (by simp (disch := omega) only [iA,aA,qop,fop,St.ev,St.put,cd,zd,Value.oneCell',lA,TypeDesc.aggB,Z0,cB,iop,aE,cD,mC,aC,D.cell1,fB,gB,iB,jB,kB,List.all_cons,List.all_nil,uC,TI.place,TI.zeros,TI.kindOk,D.cells?,D.pure?,zp,Value.cells,ZQ,ZP,Z1,zD,aD,bD,bE,bB,rB,ZG,ZH,ZL,ZM,ZN,aB,Nat.reduceAdd,Nat.reduceMul,uA,D.pv?,tt,Int.reduceToNat,Nat.reduceSub,Nat.reduceLeDiff] <;> exact rfl) ?_)
   iterate 2 (all_goals first | (refine lC rfl rfl rfl (by simp (disch := omega) only [iA,aA,qop,fop,St.ev,St.put,cd,zd,Value.oneCell',lA,TypeDesc.aggB,Z0,cB,iop,aE,cD,mC,aC,D.cell1,fB,gB,iB,jB,kB,List.all_cons,List.all_nil,uC,TI.place,TI.zeros,TI.kindOk,D.cells?,D.pure?,zp,Value.cells,ZQ,ZP,Z1,zD,aD,bD,bE,bB,rB,ZG,ZH,ZL,ZM,ZN,aB,Nat.reduceAdd,Nat.reduceMul,uA,D.pv?,tt,Int.reduceToNat,Nat.reduceSub,Nat.reduceLeDiff] <;> exact rfl) ?_) | (first | (refine eC rfl rfl rfl (by simp only [St.put,Za,Zb] <;> exact rfl) ?_) | (refine fC rfl rfl rfl (by simp only [St.put,Za,Zb] <;> exact rfl) ?_)) | (refine cC rfl rfl rfl (by simp only [Za,Zb] <;> exact rfl) (by simp only [Za,Zb] <;> exact rfl) (fun hg => ?_) (fun hg => ?_) <;> (try simp only [Zp,Zi,ZJ,ZK,ne_eq,Zn,Zm,Bool.not_eq_true,Zu] at hg) <;> first | (refine lC rfl rfl rfl (by simp (disch := omega) only [iA,aA,qop,fop,St.ev,St.put,cd,zd,Value.oneCell',lA,TypeDesc.aggB,Z0,cB,iop,aE,cD,mC,aC,D.cell1,fB,gB,iB,jB,kB,List.all_cons,List.all_nil,uC,TI.place,TI.zeros,TI.kindOk,D.cells?,D.pure?,zp,Value.cells,ZQ,ZP,Z1,zD,aD,bD,bE,bB,rB,ZG,ZH,ZL,ZM,ZN,aB,Nat.reduceAdd,Nat.reduceMul,uA,D.pv?,tt,Int.reduceToNat,Nat.reduceSub,Nat.reduceLeDiff] <;> exact rfl) ?_) | (first | (refine eC rfl rfl rfl (by simp only [St.put,Za,Zb] <;> exact rfl) ?_) | (refine fC rfl rfl rfl (by simp only [St.put,Za,Zb] <;> exact rfl) ?_))))
   iterate 2 (refine kA rfl (by simp (disch := omega) only [iA,aA,qop,fop,St.ev,St.put,cd,zd,Value.oneCell',lA,TypeDesc.aggB,Z0,cB,iop,aE,cD,mC,aC,D.cell1,fB,gB,iB,jB,kB,List.all_cons,List.all_nil,uC,TI.place,TI.zeros,TI.kindOk,D.cells?,D.pure?,zp,Value.cells,ZQ,ZP,Z1,zD,aD,bD,bE,bB,rB,ZG,ZH,ZL,ZM,ZN,aB,Nat.reduceAdd,Nat.reduceMul,uA,D.pv?,tt,Int.reduceToNat,Nat.reduceSub,Nat.reduceLeDiff] <;> exact rfl) ?_)
   iterate 2 (all_goals first | (refine lC rfl rfl rfl (by simp (disch := omega) only [iA,aA,qop,fop,St.ev,St.put,cd,zd,Value.oneCell',lA,TypeDesc.aggB,Z0,cB,iop,aE,cD,mC,aC,D.cell1,fB,gB,iB,jB,kB,List.all_cons,List.all_nil,uC,TI.place,TI.zeros,TI.kindOk,D.cells?,D.pure?,zp,Value.cells,ZQ,ZP,Z1,zD,aD,bD,bE,bB,rB,ZG,ZH,ZL,ZM,ZN,aB,Nat.reduceAdd,Nat.reduceMul,uA,D.pv?,tt,Int.reduceToNat,Nat.reduceSub,Nat.reduceLeDiff] <;> exact rfl) ?_) | (first | (refine eC rfl rfl rfl (by simp only [St.put,Za,Zb] <;> exact rfl) ?_) | (refine fC rfl rfl rfl (by simp only [St.put,Za,Zb] <;> exact rfl) ?_)) | (refine cC rfl rfl rfl (by simp only [Za,Zb] <;> exact rfl) (by simp only [Za,Zb] <;> exact rfl) (fun hg => ?_) (fun hg => ?_) <;> (try simp only [Zp,Zi,ZJ,ZK,ne_eq,Zn,Zm,Bool.not_eq_true,Zu] at hg) <;> first | (refine lC rfl rfl rfl (by simp (disch := omega) only [iA,aA,qop,fop,St.ev,St.put,cd,zd,Value.oneCell',lA,TypeDesc.aggB,Z0,cB,iop,aE,cD,mC,aC,D.cell1,fB,gB,iB,jB,kB,List.all_cons,List.all_nil,uC,TI.place,TI.zeros,TI.kindOk,D.cells?,D.pure?,zp,Value.cells,ZQ,ZP,Z1,zD,aD,bD,bE,bB,rB,ZG,ZH,ZL,ZM,ZN,aB,Nat.reduceAdd,Nat.reduceMul,uA,D.pv?,tt,Int.reduceToNat,Nat.reduceSub,Nat.reduceLeDiff] <;> exact rfl) ?_) | (first | (refine eC rfl rfl rfl (by simp only [St.put,Za,Zb] <;> exact rfl) ?_) | (refine fC rfl rfl rfl (by simp only [St.put,Za,Zb] <;> exact rfl) ?_))))
   iterate 2 (refine kA rfl (by simp (disch := omega) only [iA,aA,qop,fop,St.ev,St.put,cd,zd,Value.oneCell',lA,TypeDesc.aggB,Z0,cB,iop,aE,cD,mC,aC,D.cell1,fB,gB,iB,jB,kB,List.all_cons,List.all_nil,uC,TI.place,TI.zeros,TI.kindOk,D.cells?,D.pure?,zp,Value.cells,ZQ,ZP,Z1,zD,aD,bD,bE,bB,rB,ZG,ZH,ZL,ZM,ZN,aB,Nat.reduceAdd,Nat.reduceMul,uA,D.pv?,tt,Int.reduceToNat,Nat.reduceSub,Nat.reduceLeDiff] <;> exact rfl) ?_)
   iterate 2 (all_goals first | (refine lC rfl rfl rfl (by simp (disch := omega) only [iA,aA,qop,fop,St.ev,St.put,cd,zd,Value.oneCell',lA,TypeDesc.aggB,Z0,cB,iop,aE,cD,mC,aC,D.cell1,fB,gB,iB,jB,kB,List.all_cons,List.all_nil,uC,TI.place,TI.zeros,TI.kindOk,D.cells?,D.pure?,zp,Value.cells,ZQ,ZP,Z1,zD,aD,bD,bE,bB,rB,ZG,ZH,ZL,ZM,ZN,aB,Nat.reduceAdd,Nat.reduceMul,uA,D.pv?,tt,Int.reduceToNat,Nat.reduceSub,Nat.reduceLeDiff] <;> exact rfl) ?_) | (first | (refine eC rfl rfl rfl (by simp only [St.put,Za,Zb] <;> exact rfl) ?_) | (refine fC rfl rfl rfl (by simp only [St.put,Za,Zb] <;> exact rfl) ?_)) | (refine cC rfl rfl rfl (by simp only [Za,Zb] <;> exact rfl) (by simp only [Za,Zb] <;> exact rfl) (fun hg => ?_) (fun hg => ?_) <;> (try simp only [Zp,Zi,ZJ,ZK,ne_eq,Zn,Zm,Bool.not_eq_true,Zu] at hg) <;> first | (refine lC rfl rfl rfl (by simp (disch := omega) only [iA,aA,qop,fop,St.ev,St.put,cd,zd,Value.oneCell',lA,TypeDesc.aggB,Z0,cB,iop,aE,cD,mC,aC,D.cell1,fB,gB,iB,jB,kB,List.all_cons,List.all_nil,uC,TI.place,TI.zeros,TI.kindOk,D.cells?,D.pure?,zp,Value.cells,ZQ,ZP,Z1,zD,aD,bD,bE,bB,rB,ZG,ZH,ZL,ZM,ZN,aB,Nat.reduceAdd,Nat.reduceMul,uA,D.pv?,tt,Int.reduceToNat,Nat.reduceSub,Nat.reduceLeDiff] <;> exact rfl) ?_) | (first | (refine eC rfl rfl rfl (by simp only [St.put,Za,Zb] <;> exact rfl) ?_) | (refine fC rfl rfl rfl (by simp only [St.put,Za,Zb] <;> exact rfl) ?_))))
   iterate 2 (refine kA rfl (by simp (disch := omega) only [iA,aA,qop,fop,St.ev,St.put,cd,zd,Value.oneCell',lA,TypeDesc.aggB,Z0,cB,iop,aE,cD,mC,aC,D.cell1,fB,gB,iB,jB,kB,List.all_cons,List.all_nil,uC,TI.place,TI.zeros,TI.kindOk,D.cells?,D.pure?,zp,Value.cells,ZQ,ZP,Z1,zD,aD,bD,bE,bB,rB,ZG,ZH,ZL,ZM,ZN,aB,Nat.reduceAdd,Nat.reduceMul,uA,D.pv?,tt,Int.reduceToNat,Nat.reduceSub,Nat.reduceLeDiff] <;> exact rfl) ?_)
   refine bA ?_
   exact hK
  refine jA ?_
  refine bC ?_
  exact zC rfl (zB rfl rfl)
end Go.Proofs.Ytldcoekbgfaomaa
end
section
namespace Go.Proofs.Ytldcoekbgfaomaa
open Go.RowKit
set_option maxRecDepth 20000
set_option maxHeartbeats 4000000
attribute [local irreducible] kE sD AW
theorem lPA (m : Ms) : ACalls Try.prog 54 [.agg [i64 m.kind,i64 m.frm,i64 m.dest,i64 m.num,i64 m.val,i64 m.epoch,mF m.vs,bytes m.body],.agg [i64 m.kind,i64 m.frm,i64 m.dest,i64 m.num,i64 m.val,i64 m.epoch,mF m.vs,bytes m.body]] (.p (bv true)) := by
 have := c54 m m
 rwa [show decide (m = m) = true from decide_eq_true rfl] at this
def yV (m : Ms) : Bool := decide (m.vs.length ≤ 200 ∧ m.body.length ≤ 2000)
theorem k51 (m : Ms) : ACalls Try.prog 51 [.agg [i64 m.kind,i64 m.frm,i64 m.dest,i64 m.num,i64 m.val,i64 m.epoch,mF m.vs,bytes m.body]] (.p (bv (yV m))) := c51 m
theorem aAA {m : Ms} (h : ¬ yV m = false) : m.vs.length ≤ 1000000 := by
 have := of_decide_eq_true (show yV m = true by cases hh : yV m <;> simp_all)
 omega
theorem mPA (t : Tr) (m : Ms) (hm : uV m) (h : ¬ yV m = false) : ACalls Try.prog 52 [trP t,.agg [i64 m.kind,i64 m.frm,i64 m.dest,i64 m.num,i64 m.val,i64 m.epoch,mF m.vs,bytes m.body]] (.tup [.agg [i64 (cH t m).1.kind,i64 (cH t m).1.frm,i64 (cH t m).1.dest,i64 (cH t m).1.num,i64 (cH t m).1.val,i64 (cH t m).1.epoch,mF (cH t m).1.vs,bytes (cH t m).1.body],.p (i64 (cH t m).2)]) := c52 t m hm (aAA h)
theorem nPA (t : Tr) (m : Ms) (hm : uV m) (h : ¬ yV m = false) : ACalls Try.prog 53 [trP t,.agg [i64 m.kind,i64 m.frm,i64 m.dest,i64 m.num,i64 m.val,i64 m.epoch,mF m.vs,bytes m.body]] (.tup [.agg [i64 (cH t m).1.kind,i64 (cH t m).1.frm,i64 (cH t m).1.dest,i64 (cH t m).1.num,i64 (cH t m).1.val,i64 (cH t m).1.epoch,mF (cH t m).1.vs,bytes (cH t m).1.body],.p (i64 (cH t m).2)]) := c53 t m hm (aAA h)
theorem c13 (t : Tr) (m : Ms) (hm : uV m) : ACalls Try.prog 13 [trP t,msP m] (.p (bv true)) := by
 obtain ⟨s,f,lv⟩ := t
 refine wC oC Try.func13 (c := _) rfl (by kernel_rfl) ?_
 intro X hP hX hro hpl
 have hb : tb.Ok X.P := hP ▸ oC
 change AW X _ _ ⟨[],[.agg [i64 s,i64 f,iE lv],.agg [i64 m.kind,i64 m.frm,i64 m.dest,i64 m.num,i64 m.val,i64 m.epoch,mF m.vs,bytes m.body],.any,.any,.any,.any,.any,.any,.any,.any,.any,.any,.any,.any,.any,.any,.any,.any,.any,.any,.any,.any,.any,.any,.any,.any,.any,.any,.any,.any,.any,.any,.any,.any,.any,.any,.any,.any,.any,.any,.any],[],[]⟩
 refine cA ?_
 refine gA hX hb [0,1,2] rfl (σ' := ?s1) (fun K hK => ?h1) ?n1
 case h1 =>
  iterate 3 (refine kA rfl (by simp (disch := omega) only [iA,aA,qop,fop,St.ev,St.put,cd,zd,Value.oneCell',lA,TypeDesc.aggB,Z0,ZM,ZL,Zl,Zo,ZG,ZH,St.addBox,D.boxCells,D.live,tt] <;> exact rfl) ?_)
  refine bA ?_
  exact hK
 refine jA ?_
 refine cA ?_
 refine cA ?_
 refine vE hX hb [0,1,2,3,4,5,6,7] rfl (ts := [9,10,11,12,13,14,15]) (t := 16) (d := .p (bv (tHA ⟨s,f,lv⟩ = false ∨ yV m = false))) (σ' := ?s2) ?j2 ?h2 ?n2
 case j2 => simp only [St.join,List.foldl,Za,Zb]; exact rfl
 case h2 =>
  (all_goals refine kA rfl (by simp (disch := omega) only [iA,aA,qop,fop,St.ev,St.put,cd,zd,Value.oneCell',lA,TypeDesc.aggB,Z0,Z1,pA,qA,tA,eA,D.pure?,ZC,ZD,uA,D.pv?,Bool.not_true,Bool.not_false,tt] <;> exact rfl) ?_)
  refine mD rfl (by simp only [aA,St.ev,pB,qB,uA,D.pv?,ZG,ZH,zd,cd,Value.oneCell',Zr] <;> exact rfl) (acK hP (gNA ⟨s,f,lv⟩)) (by simp only [St.put,Za,Zb] <;> exact rfl) ?_
  iterate 2 (all_goals refine kA rfl (by simp (disch := omega) only [iA,aA,qop,fop,St.ev,St.put,cd,zd,Value.oneCell',lA,TypeDesc.aggB,Z0,Z1,pA,qA,tA,eA,D.pure?,ZC,ZD,uA,D.pv?,Bool.not_true,Bool.not_false,tt] <;> exact rfl) ?_)
  (all_goals first | (refine lC rfl rfl rfl (by simp (disch := omega) only [iA,aA,qop,fop,St.ev,St.put,cd,zd,Value.oneCell',lA,TypeDesc.aggB,Z0,Z1,pA,qA,tA,eA,D.pure?,ZC,ZD,uA,D.pv?,Bool.not_true,Bool.not_false,tt] <;> exact rfl) ?_) | (first | (refine eC rfl rfl rfl (by simp only [St.put,Za,Zb] <;> exact rfl) ?_) | (refine fC rfl rfl rfl (by simp only [St.put,Za,Zb] <;> exact rfl) ?_)) | (refine cC rfl rfl rfl (by simp only [Za,Zb] <;> exact rfl) (by simp only [Za,Zb] <;> exact rfl) (fun hg => ?_) (fun hg => ?_) <;> (try simp only [Zp,Zi,ZJ,ZK,ne_eq,Zn,Zm,Bool.not_eq_true,Zu] at hg) <;> first | (refine lC rfl rfl rfl (by simp (disch := omega) only [iA,aA,qop,fop,St.ev,St.put,cd,zd,Value.oneCell',lA,TypeDesc.aggB,Z0,Z1,pA,qA,tA,eA,D.pure?,ZC,ZD,uA,D.pv?,Bool.not_true,Bool.not_false,tt] <;> exact rfl) ?_) | (first | (refine eC rfl rfl rfl (by simp only [St.put,Za,Zb] <;> exact rfl) ?_) | (refine fC rfl rfl rfl (by simp only [St.put,Za,Zb] <;> exact rfl) ?_))))
  all_goals first | (refine eL rfl rfl rfl (by simp only [aA,St.ev,pB,qB,uA,D.pv?,ZG,ZH,zd,cd,Value.oneCell',Zr] <;> exact rfl) (acK hP (k51 m)) (by simp only [St.put,Za,Zb] <;> exact rfl) ?_) | (first | (refine eC rfl rfl rfl (by simp only [St.put,Za,Zb] <;> exact rfl) ?_) | (refine fC rfl rfl rfl (by simp only [St.put,Za,Zb] <;> exact rfl) ?_)) | (refine cC rfl rfl rfl (by simp only [Za,Zb] <;> exact rfl) (by simp only [Za,Zb] <;> exact rfl) (fun hg => ?_) (fun hg => ?_) <;> (try simp only [Zp,Zi,ZJ,ZK,ne_eq,Zn,Zm,Bool.not_eq_true,Zu] at hg) <;> first | (refine eL rfl rfl rfl (by simp only [aA,St.ev,pB,qB,uA,D.pv?,ZG,ZH,zd,cd,Value.oneCell',Zr] <;> exact rfl) (acK hP (k51 m)) (by simp only [St.put,Za,Zb] <;> exact rfl) ?_) | (first | (refine eC rfl rfl rfl (by simp only [St.put,Za,Zb] <;> exact rfl) ?_) | (refine fC rfl rfl rfl (by simp only [St.put,Za,Zb] <;> exact rfl) ?_)))
  (all_goals first | (refine lC rfl rfl rfl (by simp (disch := omega) only [iA,aA,qop,fop,St.ev,St.put,cd,zd,Value.oneCell',lA,TypeDesc.aggB,Z0,Z1,pA,qA,tA,eA,D.pure?,ZC,ZD,uA,D.pv?,Bool.not_true,Bool.not_false,tt] <;> exact rfl) ?_) | (first | (refine eC rfl rfl rfl (by simp only [St.put,Za,Zb] <;> exact rfl) ?_) | (refine fC rfl rfl rfl (by simp only [St.put,Za,Zb] <;> exact rfl) ?_)) | (refine cC rfl rfl rfl (by simp only [Za,Zb] <;> exact rfl) (by simp only [Za,Zb] <;> exact rfl) (fun hg => ?_) (fun hg => ?_) <;> (try simp only [Zp,Zi,ZJ,ZK,ne_eq,Zn,Zm,Bool.not_eq_true,Zu] at hg) <;> first | (refine lC rfl rfl rfl (by simp (disch := omega) only [iA,aA,qop,fop,St.ev,St.put,cd,zd,Value.oneCell',lA,TypeDesc.aggB,Z0,Z1,pA,qA,tA,eA,D.pure?,ZC,ZD,uA,D.pv?,Bool.not_true,Bool.not_false,tt] <;> exact rfl) ?_) | (first | (refine eC rfl rfl rfl (by simp only [St.put,Za,Zb] <;> exact rfl) ?_) | (refine fC rfl rfl rfl (by simp only [St.put,Za,Zb] <;> exact rfl) ?_))))
  (all_goals refine kA rfl (by simp (disch := omega) only [iA,aA,qop,fop,St.ev,St.put,cd,zd,Value.oneCell',lA,TypeDesc.aggB,Z0,Z1,pA,qA,tA,eA,D.pure?,ZC,ZD,uA,D.pv?,Bool.not_true,Bool.not_false,tt] <;> exact rfl) ?_)
  all_goals refine bA ?_
  all_goals refine ⟨rfl,?_,xD _,yD _,rfl,rfl⟩
  all_goals repeat' (first | exact sA | refine mB ?_ | refine vA rfl ?_ | refine vA ?_ ?_)
  all_goals refine jn ?_
  all_goals (cases hfw : tHA ⟨s,f,lv⟩ <;> cases hfx : yV m <;> simp_all)
 refine jA ?_
 refine oB _ rfl (fun hc0 => ?_) (fun hc0 => ?_)
 ·try simp only [Zp,Zi,ZK,ZJ,ne_eq,Zn,Zm,ZB,ZA,ZI,not_or,not_and,Zu] at hc0
  refine cA ?_
  refine gA hX hb [0,1] rfl (σ' := ?s3) (fun K hK => ?h3) ?n3
  case h3 =>
   refine mD rfl (by simp only [aA,St.ev,pB,qB,uA,D.pv?,ZG,ZH,zd,cd,Value.oneCell',Zr] <;> exact rfl) (acK hP (c44)) (by simp only [St.put,Za,Zb] <;> exact rfl) ?_
   (refine kA rfl (by simp (disch := omega) only [iA,aA,qop,fop,St.ev,St.put,cd,zd,Value.oneCell',lA,TypeDesc.aggB,Z0,uA,D.pv?] <;> exact rfl) ?_)
   refine bA ?_
   exact hK
  refine jA ?_
  refine bC ?_
  refine tC ?_
  exact zC rfl (zB rfl rfl)
 ·try simp only [Zp,Zi,ZK,ZJ,ne_eq,Zn,Zm,ZB,ZA,ZI,not_or,not_and,Zu] at hc0
  have hnf : ¬ yV m = false := hc0.2
  refine uB ?_
  refine jA ?_
  refine cA ?_
  refine gA hX hb [0,1,2,3,4,5,6,7,8] rfl (σ' := ?s4) (fun K hK => ?h4) ?n4
  case h4 =>
   iterate 2 (refine kA rfl (by simp (disch := omega) only [iA,aA,qop,fop,St.ev,St.put,cd,zd,Value.oneCell',lA,TypeDesc.aggB,Z0,Z1,pA,qA,tA,eA,D.pure?,ZC,ZD,uA,D.pv?,mJ,PV.d,ZM,ZL,ZG,ZH,St.addBox,Value.cells,iC,D.boxCells,D.live,D.cells?,ZN,St.setVec,tt] <;> exact rfl) ?_)
   refine mD rfl (by simp only [aA,St.ev,pB,qB,uA,D.pv?,ZG,ZH,zd,cd,Value.oneCell',Zr] <;> exact rfl) (acK hP (mPA ⟨s,f,lv⟩ m hm hnf)) (by simp only [St.put,Za,Zb] <;> exact rfl) ?_
   iterate 6 (refine kA rfl (by simp (disch := omega) only [iA,aA,qop,fop,St.ev,St.put,cd,zd,Value.oneCell',lA,TypeDesc.aggB,Z0,Z1,pA,qA,tA,eA,D.pure?,ZC,ZD,uA,D.pv?,mJ,PV.d,ZM,ZL,ZG,ZH,St.addBox,Value.cells,iC,D.boxCells,D.live,D.cells?,ZN,St.setVec,tt] <;> exact rfl) ?_)
   refine bA ?_
   exact hK
  refine jA ?_
  refine cA ?_
  refine gA hX hb [0,1,2,3,4,5,6,7,8] rfl (σ' := ?s5) (fun K hK => ?h5) ?n5
  case h5 =>
   iterate 2 (refine kA rfl (by simp (disch := omega) only [iA,aA,qop,fop,St.ev,St.put,cd,zd,Value.oneCell',lA,TypeDesc.aggB,Z0,Z1,pA,qA,tA,eA,D.pure?,ZC,ZD,uA,D.pv?,mJ,PV.d,ZM,ZL,ZG,ZH,St.addBox,Value.cells,iC,D.boxCells,D.live,D.cells?,ZN,St.setVec,tt] <;> exact rfl) ?_)
   refine mD rfl (by simp only [aA,St.ev,pB,qB,uA,D.pv?,ZG,ZH,zd,cd,Value.oneCell',Zr] <;> exact rfl) (acK hP (nPA ⟨s,f,lv⟩ m hm hnf)) (by simp only [St.put,Za,Zb] <;> exact rfl) ?_
   iterate 6 (refine kA rfl (by simp (disch := omega) only [iA,aA,qop,fop,St.ev,St.put,cd,zd,Value.oneCell',lA,TypeDesc.aggB,Z0,Z1,pA,qA,tA,eA,D.pure?,ZC,ZD,uA,D.pv?,mJ,PV.d,ZM,ZL,ZG,ZH,St.addBox,Value.cells,iC,D.boxCells,D.live,D.cells?,ZN,St.setVec,tt] <;> exact rfl) ?_)
   refine bA ?_
   exact hK
  refine jA ?_
  refine cA ?_
  refine gA hX hb [0,1,2,3,4,5,6,7,8,9,10,11] rfl (σ' := ?s6) (fun K hK => ?h6) ?n6
  case h6 =>
   iterate 2 (refine kA rfl (by simp (disch := omega) only [iA,aA,qop,fop,St.ev,St.put,cd,zd,Value.oneCell',lA,TypeDesc.aggB,Z0,Z1,pA,qA,tA,eA,D.pure?,ZC,ZD,uA,D.pv?,cB,iop,tt,beq_self_eq_true,decide_true,eq_self] <;> exact rfl) ?_)
   refine mD rfl (by simp only [aA,St.ev,pB,qB,uA,D.pv?,ZG,ZH,zd,cd,Value.oneCell',Zr] <;> exact rfl) (acK hP (lPA (cH ⟨s,f,lv⟩ m).1)) (by simp only [St.put,Za,Zb] <;> exact rfl) ?_
   (refine kA rfl (by simp (disch := omega) only [iA,aA,qop,fop,St.ev,St.put,cd,zd,Value.oneCell',lA,TypeDesc.aggB,Z0,Z1,pA,qA,tA,eA,D.pure?,ZC,ZD,uA,D.pv?,cB,iop,tt,beq_self_eq_true,decide_true,eq_self] <;> exact rfl) ?_)
   iterate 3 (all_goals first | (refine lC rfl rfl rfl (by simp (disch := omega) only [iA,aA,qop,fop,St.ev,St.put,cd,zd,Value.oneCell',lA,TypeDesc.aggB,Z0,Z1,pA,qA,tA,eA,D.pure?,ZC,ZD,uA,D.pv?,cB,iop,tt,beq_self_eq_true,decide_true,eq_self] <;> exact rfl) ?_) | (first | (refine eC rfl rfl rfl (by simp only [St.put,Za,Zb] <;> exact rfl) ?_) | (refine fC rfl rfl rfl (by simp only [St.put,Za,Zb] <;> exact rfl) ?_)) | (refine cC rfl rfl rfl (by simp only [Za,Zb] <;> exact rfl) (by simp only [Za,Zb] <;> exact rfl) (fun hg => ?_) (fun hg => ?_) <;> (try simp only [Zp,Zi,ZJ,ZK,ne_eq,Zn,Zm,Bool.not_eq_true,Zu] at hg) <;> first | (refine lC rfl rfl rfl (by simp (disch := omega) only [iA,aA,qop,fop,St.ev,St.put,cd,zd,Value.oneCell',lA,TypeDesc.aggB,Z0,Z1,pA,qA,tA,eA,D.pure?,ZC,ZD,uA,D.pv?,cB,iop,tt,beq_self_eq_true,decide_true,eq_self] <;> exact rfl) ?_) | (first | (refine eC rfl rfl rfl (by simp only [St.put,Za,Zb] <;> exact rfl) ?_) | (refine fC rfl rfl rfl (by simp only [St.put,Za,Zb] <;> exact rfl) ?_))))
   iterate 2 (refine kA rfl (by simp (disch := omega) only [iA,aA,qop,fop,St.ev,St.put,cd,zd,Value.oneCell',lA,TypeDesc.aggB,Z0,Z1,pA,qA,tA,eA,D.pure?,ZC,ZD,uA,D.pv?,cB,iop,tt,beq_self_eq_true,decide_true,eq_self] <;> exact rfl) ?_)
   all_goals first | (refine eL rfl rfl rfl (by simp only [aA,St.ev,pB,qB,uA,D.pv?,ZG,ZH,zd,cd,Value.oneCell',Zr] <;> exact rfl) (acK hP (c44)) (by simp only [St.put,Za,Zb] <;> exact rfl) ?_) | (first | (refine eC rfl rfl rfl (by simp only [St.put,Za,Zb] <;> exact rfl) ?_) | (refine fC rfl rfl rfl (by simp only [St.put,Za,Zb] <;> exact rfl) ?_)) | (refine cC rfl rfl rfl (by simp only [Za,Zb] <;> exact rfl) (by simp only [Za,Zb] <;> exact rfl) (fun hg => ?_) (fun hg => ?_) <;> (try simp only [Zp,Zi,ZJ,ZK,ne_eq,Zn,Zm,Bool.not_eq_true,Zu] at hg) <;> first | (refine eL rfl rfl rfl (by simp only [aA,St.ev,pB,qB,uA,D.pv?,ZG,ZH,zd,cd,Value.oneCell',Zr] <;> exact rfl) (acK hP (c44)) (by simp only [St.put,Za,Zb] <;> exact rfl) ?_) | (first | (refine eC rfl rfl rfl (by simp only [St.put,Za,Zb] <;> exact rfl) ?_) | (refine fC rfl rfl rfl (by simp only [St.put,Za,Zb] <;> exact rfl) ?_)))
   iterate 2 (refine kA rfl (by simp (disch := omega) only [iA,aA,qop,fop,St.ev,St.put,cd,zd,Value.oneCell',lA,TypeDesc.aggB,Z0,Z1,pA,qA,tA,eA,D.pure?,ZC,ZD,uA,D.pv?,cB,iop,tt,beq_self_eq_true,decide_true,eq_self] <;> exact rfl) ?_)
   refine bA ?_
   exact hK
  refine jA ?_
  refine bC ?_
  exact zC rfl (zB rfl rfl)
end Go.Proofs.Ytldcoekbgfaomaa
end
section
namespace Go.Proofs.Ytldcoekbgfaomaa
open Go.RowKit Go.ChangeShapes Go.WideShapes
theorem mKA {α : Type} : ∀ {l : List α},l.length = 8 → ∃ a b c d e f g h,l = [a,b,c,d,e,f,g,h]
 | [a,b,c,d,e,f,g,h],_ => ⟨a,b,c,d,e,f,g,h,rfl⟩
theorem jU {H : Type} {enc : TypeId × Value → H} {W : World} {t e : TypeId} {k : IntKind} (ht : Try.prog.underlying t = some (.slice e)) (he : Try.prog.underlying e = some (.int k)) (hc : Try.prog.cellsOf e = 1) {n : Nat} {v : Value} {x : DataW H × List MemPlace} (h : DataW.trod enc Try.prog W 0 (fun _ => true) true n t [v] = some x) :
  ∃ l : List Int,(∀ a ∈ l,(Lit.int k a).wf = true) ∧ R1 W (lS W) (.sl l.length (l.map fun a => .v (.int k a))) v := by
 obtain ⟨l,hl⟩ := vY (fun a : {z : Int // (Lit.int k z).wf = true} => [P1.v (.int k a.1)]) 1 (fun _ => rfl) (by omega) ht hc (fun n cs x hx _ => by
  obtain ⟨m,rfl,hw⟩ := zDA he hx
  refine ⟨⟨m,hw⟩,fun j y u hy hu => ?_⟩
  cases j with
  | zero => simp at hy hu; subst hy; subst hu; exact .v _ rfl
  | succ j => simp at hy) h
 refine ⟨l.map Subtype.val,fun a ha => ?_,?_⟩
 ·obtain ⟨b,_,rfl⟩ := List.mem_map.1 ha
  exact b.2
 ·have e : l.flatMap (fun a : {z : Int // (Lit.int k z).wf = true} => [P1.v (.int k a.1)]) = (l.map Subtype.val).map fun a => .v (.int k a) := by
   clear hl
   induction l with
   | nil => rfl
   | cons a l ih => exact congrArg (P1.v (.int k a.1) :: ·) ih
  rw [e] at hl
  rwa [List.length_map]
theorem cIA {H : Type} {enc : TypeId × Value → H} {W : World} {cs : Array Value} {d : DataW H} {p : List MemPlace} (h : DataW.Trod enc Try.prog W 0 (fun _ => true) true 90 (.agg cs) d p) : ∃ w : Ms,RV W (lS W) (msP w) (.agg cs) ∧ uV w := by
 obtain ⟨n,h⟩ := h
 obtain ⟨l⟩ := cs
 obtain ⟨xs,m,_,_,hl,hxl,hel⟩ := DataW.trod_struct Try.underlying90 (show DataW.trod enc Try.prog W 0 (fun _ => true) true n 90 l = some _ from h)
 have c90 : Try.prog.cellsOf 90 = 8 := by kernel_rfl
 rw [c90] at hl
 obtain ⟨u0,u1,u2,u3,u4,u5,u6,u7,rfl⟩ := mKA hl
 have hx2 : xs.length = 8 := hxl
 have h0 : DataW.trod enc Try.prog W 0 (fun _ => true) true m 3 (([u0,u1,u2,u3,u4,u5,u6,u7].drop 0).take (Try.prog.cellsOf 3)) = xs[0]? := hel 0 _ rfl
 rw [List.getElem?_eq_getElem (by omega),show Try.prog.cellsOf 3 = 1 by kernel_rfl] at h0
 have h1 : DataW.trod enc Try.prog W 0 (fun _ => true) true m 3 (([u0,u1,u2,u3,u4,u5,u6,u7].drop 1).take (Try.prog.cellsOf 3)) = xs[1]? := hel 1 _ rfl
 rw [List.getElem?_eq_getElem (by omega),show Try.prog.cellsOf 3 = 1 by kernel_rfl] at h1
 have h2 : DataW.trod enc Try.prog W 0 (fun _ => true) true m 3 (([u0,u1,u2,u3,u4,u5,u6,u7].drop 2).take (Try.prog.cellsOf 3)) = xs[2]? := hel 2 _ rfl
 rw [List.getElem?_eq_getElem (by omega),show Try.prog.cellsOf 3 = 1 by kernel_rfl] at h2
 have h3 : DataW.trod enc Try.prog W 0 (fun _ => true) true m 3 (([u0,u1,u2,u3,u4,u5,u6,u7].drop 3).take (Try.prog.cellsOf 3)) = xs[3]? := hel 3 _ rfl
 rw [List.getElem?_eq_getElem (by omega),show Try.prog.cellsOf 3 = 1 by kernel_rfl] at h3
 have h4 : DataW.trod enc Try.prog W 0 (fun _ => true) true m 3 (([u0,u1,u2,u3,u4,u5,u6,u7].drop 4).take (Try.prog.cellsOf 3)) = xs[4]? := hel 4 _ rfl
 rw [List.getElem?_eq_getElem (by omega),show Try.prog.cellsOf 3 = 1 by kernel_rfl] at h4
 have h5 : DataW.trod enc Try.prog W 0 (fun _ => true) true m 3 (([u0,u1,u2,u3,u4,u5,u6,u7].drop 5).take (Try.prog.cellsOf 3)) = xs[5]? := hel 5 _ rfl
 rw [List.getElem?_eq_getElem (by omega),show Try.prog.cellsOf 3 = 1 by kernel_rfl] at h5
 have h6 : DataW.trod enc Try.prog W 0 (fun _ => true) true m 87 (([u0,u1,u2,u3,u4,u5,u6,u7].drop 6).take (Try.prog.cellsOf 87)) = xs[6]? := hel 6 _ rfl
 rw [List.getElem?_eq_getElem (by omega),show Try.prog.cellsOf 87 = 1 by kernel_rfl] at h6
 have h7 : DataW.trod enc Try.prog W 0 (fun _ => true) true m 88 (([u0,u1,u2,u3,u4,u5,u6,u7].drop 7).take (Try.prog.cellsOf 88)) = xs[7]? := hel 7 _ rfl
 rw [List.getElem?_eq_getElem (by omega),show Try.prog.cellsOf 88 = 1 by kernel_rfl] at h7
 obtain ⟨z0,e0⟩ := pK Try.underlying3 h0
 simp at e0
 subst e0
 obtain ⟨z1,e1⟩ := pK Try.underlying3 h1
 simp at e1
 subst e1
 obtain ⟨z2,e2⟩ := pK Try.underlying3 h2
 simp at e2
 subst e2
 obtain ⟨z3,e3⟩ := pK Try.underlying3 h3
 simp at e3
 subst e3
 obtain ⟨z4,e4⟩ := pK Try.underlying3 h4
 simp at e4
 subst e4
 obtain ⟨z5,e5⟩ := pK Try.underlying3 h5
 simp at e5
 subst e5
 obtain ⟨vs,g6,r6⟩ := jU Try.underlying87 Try.underlying3 (by kernel_rfl) (show DataW.trod enc Try.prog W 0 (fun _ => true) true m 87 [u6] = some _ from h6)
 obtain ⟨bo,g7,r7⟩ := jU Try.underlying88 Try.underlying5 (by kernel_rfl) (show DataW.trod enc Try.prog W 0 (fun _ => true) true m 88 [u7] = some _ from h7)
 refine ⟨⟨z0,z1,z2,z3,z4,z5,vs,bo⟩,.agg _ [.int .i64 z0,.int .i64 z1,.int .i64 z2,.int .i64 z3,.int .i64 z4,.int .i64 z5,u6,u7] rfl fun j y u hy hu => ?_,fun v hv => uHA (g6 v hv),fun v hv => dKA (g7 v hv)⟩
 match j with
 | 0 => simp at hy hu; subst hy; subst hu; exact .v _ rfl
 | 1 => simp at hy hu; subst hy; subst hu; exact .v _ rfl
 | 2 => simp at hy hu; subst hy; subst hu; exact .v _ rfl
 | 3 => simp at hy hu; subst hy; subst hu; exact .v _ rfl
 | 4 => simp at hy hu; subst hy; subst hu; exact .v _ rfl
 | 5 => simp at hy hu; subst hy; subst hu; exact .v _ rfl
 | 6 => simp at hy hu; subst hy; subst hu; exact r6
 | 7 => simp at hy hu; subst hy; subst hu; exact r7
 | j + 8 => simp at hy
end Go.Proofs.Ytldcoekbgfaomaa
end
section
namespace Go.Proofs.Ytldcoekbgfaomaa
open Go.RowKit
theorem dIA : ownKnob Try.prog.godebug = none := by kernel_rfl
theorem zV : laidOutB Try.prog = true := by kernel_rfl
theorem nFA : mapsRowed Try.pinned.checked.prog = true := by kernel_rfl
theorem jEA : Try.pinned.checked.prog.stopsHeard = true := by kernel_rfl
theorem yS : (Try.pinned.checked.prog.mayEnter && ((Try.pinned.checked.prog.make == some Rows.hashtreeBuildsRow.make) && (Rows.hashtreeBuildsRow.lifted == Try.pinned.checked.prog.liftsFinal))) = true := by kernel_rfl
theorem kEA : Try.pinned.checked.prog.mayEnter = true := by have h := yS; rw [Bool.and_eq_true,Bool.and_eq_true] at h; exact h.1
theorem oFA : (Try.pinned.checked.prog.make == some Rows.hashtreeBuildsRow.make) = true := by have h := yS; rw [Bool.and_eq_true,Bool.and_eq_true] at h; exact h.2.1
theorem pFA : (Rows.hashtreeBuildsRow.lifted == Try.pinned.checked.prog.liftsFinal) = true := by have h := yS; rw [Bool.and_eq_true,Bool.and_eq_true] at h; exact h.2.2
end Go.Proofs.Ytldcoekbgfaomaa
end
