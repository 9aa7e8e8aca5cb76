/- The walks of the code that the statement reaches, and the plain laws behind them, part Ud. No conditions. -/
import Derived.Test.YtldcoekbgfaomaaUc
set_option linter.unusedVariables false
set_option linter.unusedSimpArgs false
section
namespace Go.Proofs.Ytldcoekbgfaomaa
open Go.RowKit
set_option maxRecDepth 20000
set_option maxHeartbeats 4000000
attribute [local irreducible] jE oD AW
theorem c59 (s f d : Int) (h1 : xL s) (h2 : xL f) (h3 : xL d) : ACalls Try.prog 59 [.p (i64 s),.p (i64 f),.p (i64 d)] (.tup [.p (i64 (lI s f d).1),.p (i64 (lI s f d).2)]) := by
 refine oC jC Try.func59 (c := _) rfl (by kernel_rfl) ?_
 intro X hP hX hro hpl
 have hb : tb.Ok X.P := hP ▸ jC
 change AW X _ _ ⟨[],[.p (i64 s),.p (i64 f),.p (i64 d),.any,.any,.any,.any,.any,.any,.any,.any,.any,.any,.any,.any,.any,.any,.any,.any,.any,.any,.any,.any,.any,.any,.any,.any,.any,.any,.any,.any,.any,.any,.any,.any,.any,.any,.any,.any,.any,.any,.any,.any,.any,.any,.any,.any,.any,.any,.any,.any],[],[]⟩
 refine fA ?_
 refine iA hX hb [0,1] rfl (σ' := ?s1) (fun K hK => ?h1) ?n1
 case h1 =>
  iterate 2 (refine kA rfl (by simp (disch := omega) only [gA,aA,qop,fop,St.ev,St.put,cd,zd,Value.oneCell',lA,TypeDesc.aggB,Z0,kD,ne_eq,not_true_eq_false,not_false_eq_true,cB,eF] <;> exact rfl) ?_)
  refine bA ?_
  exact hK
 refine jA ?_
 refine fA ?_
 refine fA ?_
 refine nE hX hb [0,1,2,3,4,5] rfl (ts := [11,12,13,14,15]) (t := 16) (d := .p (bv (s < 1 ∨ 4096 < s))) (σ' := ?s2) ?j2 ?h2 ?n2
 case j2 => simp only [St.join,List.foldl,Za,Zb]; exact rfl
 case h2 =>
  iterate 3 (all_goals refine kA rfl (by simp (disch := omega) only [gA,aA,qop,fop,St.ev,St.put,cd,zd,Value.oneCell',lA,TypeDesc.aggB,Z0,yA,iop,tt,kD,ne_eq,not_true_eq_false,not_false_eq_true,cB,eF] <;> exact rfl) ?_)
  iterate 2 (all_goals first | (refine fC rfl rfl rfl (by simp (disch := omega) only [gA,aA,qop,fop,St.ev,St.put,cd,zd,Value.oneCell',lA,TypeDesc.aggB,Z0,yA,iop,tt,kD,ne_eq,not_true_eq_false,not_false_eq_true,cB,eF] <;> exact rfl) ?_) | (first | (refine zB rfl rfl rfl (by simp only [St.put,Za,Zb] <;> exact rfl) ?_) | (refine aC rfl rfl rfl (by simp only [St.put,Za,Zb] <;> exact rfl) ?_)) | (refine yB rfl rfl rfl (by simp only [Za,Zb] <;> exact rfl) (by simp only [Za,Zb] <;> exact rfl) (fun hg => ?_) (fun hg => ?_) <;> (try simp only [Zp,Zi,ZJ,ZK,ne_eq,Zn,Zm,Bool.not_eq_true,Zu] at hg) <;> first | (refine fC rfl rfl rfl (by simp (disch := omega) only [gA,aA,qop,fop,St.ev,St.put,cd,zd,Value.oneCell',lA,TypeDesc.aggB,Z0,yA,iop,tt,kD,ne_eq,not_true_eq_false,not_false_eq_true,cB,eF] <;> exact rfl) ?_) | (first | (refine zB rfl rfl rfl (by simp only [St.put,Za,Zb] <;> exact rfl) ?_) | (refine aC rfl rfl rfl (by simp only [St.put,Za,Zb] <;> exact rfl) ?_))))
  (all_goals refine kA rfl (by simp (disch := omega) only [gA,aA,qop,fop,St.ev,St.put,cd,zd,Value.oneCell',lA,TypeDesc.aggB,Z0,yA,iop,tt,kD,ne_eq,not_true_eq_false,not_false_eq_true,cB,eF] <;> exact rfl) ?_)
  all_goals refine bA ?_
  all_goals refine ⟨rfl,?_,pD _,qD _,rfl,rfl⟩
  all_goals repeat' (first | exact tA | refine qB ?_ | refine uA rfl ?_ | refine uA ?_ ?_)
  all_goals refine jn ?_
  all_goals ((try simp only [Zp,Zi,ZJ,ZK,Bool.not_eq_true,Zm,Zn,ne_eq,Zf,true_iff,false_iff,iff_true,iff_false] at *) <;> omega)
 refine jA ?_
 refine mB _ rfl (fun hc0 => ?_) (fun hc0 => ?_)
 ·try simp only [Zp,Zi,ZK,ZJ,ne_eq,Zn,Zm,ZB,ZA,ZI,not_or,not_and,Zu] at hc0
  refine fA ?_
  refine iA hX hb [0,1] rfl (σ' := ?s3) (fun K hK => ?h3) ?n3
  case h3 =>
   iterate 2 (refine kA rfl (by simp (disch := omega) only [gA,aA,qop,fop,St.ev,St.put,cd,zd,Value.oneCell',lA,TypeDesc.aggB,Z0,t2,ti2,kD,ne_eq,not_true_eq_false,not_false_eq_true,cB,eF] <;> exact rfl) ?_)
   refine bA ?_
   exact hK
  refine jA ?_
  refine bC ?_
  refine nC ?_
  exact tC rfl (jF rfl rfl (by first | rfl | (first | (rw [lI,if_pos hc0] <;> rfl) | (rw [lI,if_neg (by omega),if_pos hc1] <;> rfl) | (rw [lI,if_neg (by omega),if_neg (by omega),if_pos (by rw [Int.toNat_natCast,Int.toNat_natCast]; exact hc2)] <;> rfl) | (rw [lI,if_neg (by omega),if_neg (by omega),if_neg (by rw [Int.toNat_natCast,Int.toNat_natCast]; omega),Int.toNat_natCast,Int.toNat_natCast,Int.toNat_natCast,← hq,qJ (by omega)] <;> rfl))))
 ·try simp only [Zp,Zi,ZK,ZJ,ne_eq,Zn,Zm,ZB,ZA,ZI,not_or,not_and,Zu] at hc0
  refine tB ?_
  refine jA ?_
  refine fA ?_
  refine fA ?_
  refine nE hX hb [0,1,2,3,4,5] rfl (ts := [17,18,19,20,21]) (t := 22) (d := .p (bv (f < 1 ∨ 4096 < f))) (σ' := ?s4) ?j4 ?h4 ?n4
  case j4 => simp only [St.join,List.foldl,Za,Zb]; exact rfl
  case h4 =>
   iterate 3 (all_goals refine kA rfl (by simp (disch := omega) only [gA,aA,qop,fop,St.ev,St.put,cd,zd,Value.oneCell',lA,TypeDesc.aggB,Z0,yA,iop,tt,kD,ne_eq,not_true_eq_false,not_false_eq_true,cB,eF] <;> exact rfl) ?_)
   iterate 2 (all_goals first | (refine fC rfl rfl rfl (by simp (disch := omega) only [gA,aA,qop,fop,St.ev,St.put,cd,zd,Value.oneCell',lA,TypeDesc.aggB,Z0,yA,iop,tt,kD,ne_eq,not_true_eq_false,not_false_eq_true,cB,eF] <;> exact rfl) ?_) | (first | (refine zB rfl rfl rfl (by simp only [St.put,Za,Zb] <;> exact rfl) ?_) | (refine aC rfl rfl rfl (by simp only [St.put,Za,Zb] <;> exact rfl) ?_)) | (refine yB rfl rfl rfl (by simp only [Za,Zb] <;> exact rfl) (by simp only [Za,Zb] <;> exact rfl) (fun hg => ?_) (fun hg => ?_) <;> (try simp only [Zp,Zi,ZJ,ZK,ne_eq,Zn,Zm,Bool.not_eq_true,Zu] at hg) <;> first | (refine fC rfl rfl rfl (by simp (disch := omega) only [gA,aA,qop,fop,St.ev,St.put,cd,zd,Value.oneCell',lA,TypeDesc.aggB,Z0,yA,iop,tt,kD,ne_eq,not_true_eq_false,not_false_eq_true,cB,eF] <;> exact rfl) ?_) | (first | (refine zB rfl rfl rfl (by simp only [St.put,Za,Zb] <;> exact rfl) ?_) | (refine aC rfl rfl rfl (by simp only [St.put,Za,Zb] <;> exact rfl) ?_))))
   (all_goals refine kA rfl (by simp (disch := omega) only [gA,aA,qop,fop,St.ev,St.put,cd,zd,Value.oneCell',lA,TypeDesc.aggB,Z0,yA,iop,tt,kD,ne_eq,not_true_eq_false,not_false_eq_true,cB,eF] <;> exact rfl) ?_)
   all_goals refine bA ?_
   all_goals refine ⟨rfl,?_,pD _,qD _,rfl,rfl⟩
   all_goals repeat' (first | exact tA | refine qB ?_ | refine uA rfl ?_ | refine uA ?_ ?_)
   all_goals refine jn ?_
   all_goals ((try simp only [Zp,Zi,ZJ,ZK,Bool.not_eq_true,Zm,Zn,ne_eq,Zf,true_iff,false_iff,iff_true,iff_false] at *) <;> omega)
  refine jA ?_
  refine mB _ rfl (fun hc1 => ?_) (fun hc1 => ?_)
  ·try simp only [Zp,Zi,ZK,ZJ,ne_eq,Zn,Zm,ZB,ZA,ZI,not_or,not_and,Zu] at hc1
   refine fA ?_
   refine iA hX hb [0,1] rfl (σ' := ?s5) (fun K hK => ?h5) ?n5
   case h5 =>
    iterate 2 (refine kA rfl (by simp (disch := omega) only [gA,aA,qop,fop,St.ev,St.put,cd,zd,Value.oneCell',lA,TypeDesc.aggB,Z0,t1,ti1,kD,ne_eq,not_true_eq_false,not_false_eq_true,cB,eF] <;> exact rfl) ?_)
    refine bA ?_
    exact hK
   refine jA ?_
   refine bC ?_
   refine nC ?_
   exact tC rfl (jF rfl rfl (by first | rfl | (first | (rw [lI,if_pos hc0] <;> rfl) | (rw [lI,if_neg (by omega),if_pos hc1] <;> rfl) | (rw [lI,if_neg (by omega),if_neg (by omega),if_pos (by rw [Int.toNat_natCast,Int.toNat_natCast]; exact hc2)] <;> rfl) | (rw [lI,if_neg (by omega),if_neg (by omega),if_neg (by rw [Int.toNat_natCast,Int.toNat_natCast]; omega),Int.toNat_natCast,Int.toNat_natCast,Int.toNat_natCast,← hq,qJ (by omega)] <;> rfl))))
  ·try simp only [Zp,Zi,ZK,ZJ,ne_eq,Zn,Zm,ZB,ZA,ZI,not_or,not_and,Zu] at hc1
   obtain ⟨S,hS⟩ : ∃ S : Nat,s = S := ⟨s.toNat,by omega⟩
   subst hS
   obtain ⟨F,hF⟩ : ∃ F : Nat,f = F := ⟨f.toNat,by omega⟩
   subst hF
   have hnl := uI (s := S) (n := F) (by omega)
   have hqi : ((S : Int) + (F : Int) - 1) / (F : Int) = (yD S F : Int) := by rw [← oV,show ((S + F - 1 : Nat) : Int) = (S : Int) + F - 1 by omega]
   refine tB ?_
   refine jA ?_
   refine fA ?_
   refine iA hX hb [0,1,2,3,4,5,6] rfl (σ' := ?s6) (fun K hK => ?h6) ?n6
   case h6 =>
    iterate 7 (refine kA rfl (by simp (disch := omega) only [gA,aA,qop,fop,St.ev,St.put,cd,zd,Value.oneCell',lA,TypeDesc.aggB,Z0,yA,iop,tt,kD,ne_eq,not_true_eq_false,not_false_eq_true,cB,eF,hqi] <;> exact rfl) ?_)
    refine bA ?_
    exact hK
   refine jA ?_
   refine fA ?_
   refine fA ?_
   refine nE hX hb [0,1,2,3,4,5,6] rfl (ts := [29,30,31,32,33,34]) (t := 35) (d := .p (bv (d < 0 ∨ (yD S F : Int) < d))) (σ' := ?s7) ?j7 ?h7 ?n7
   case j7 => simp only [St.join,List.foldl,Za,Zb]; exact rfl
   case h7 =>
    iterate 3 (all_goals refine kA rfl (by simp (disch := omega) only [gA,aA,qop,fop,St.ev,St.put,cd,zd,Value.oneCell',lA,TypeDesc.aggB,Z0,yA,iop,tt,kD,ne_eq,not_true_eq_false,not_false_eq_true,cB,eF] <;> exact rfl) ?_)
    iterate 3 (all_goals first | (refine fC rfl rfl rfl (by simp (disch := omega) only [gA,aA,qop,fop,St.ev,St.put,cd,zd,Value.oneCell',lA,TypeDesc.aggB,Z0,yA,iop,tt,kD,ne_eq,not_true_eq_false,not_false_eq_true,cB,eF] <;> exact rfl) ?_) | (first | (refine zB rfl rfl rfl (by simp only [St.put,Za,Zb] <;> exact rfl) ?_) | (refine aC rfl rfl rfl (by simp only [St.put,Za,Zb] <;> exact rfl) ?_)) | (refine yB rfl rfl rfl (by simp only [Za,Zb] <;> exact rfl) (by simp only [Za,Zb] <;> exact rfl) (fun hg => ?_) (fun hg => ?_) <;> (try simp only [Zp,Zi,ZJ,ZK,ne_eq,Zn,Zm,Bool.not_eq_true,Zu] at hg) <;> first | (refine fC rfl rfl rfl (by simp (disch := omega) only [gA,aA,qop,fop,St.ev,St.put,cd,zd,Value.oneCell',lA,TypeDesc.aggB,Z0,yA,iop,tt,kD,ne_eq,not_true_eq_false,not_false_eq_true,cB,eF] <;> exact rfl) ?_) | (first | (refine zB rfl rfl rfl (by simp only [St.put,Za,Zb] <;> exact rfl) ?_) | (refine aC rfl rfl rfl (by simp only [St.put,Za,Zb] <;> exact rfl) ?_))))
    (all_goals refine kA rfl (by simp (disch := omega) only [gA,aA,qop,fop,St.ev,St.put,cd,zd,Value.oneCell',lA,TypeDesc.aggB,Z0,yA,iop,tt,kD,ne_eq,not_true_eq_false,not_false_eq_true,cB,eF] <;> exact rfl) ?_)
    all_goals refine bA ?_
    all_goals refine ⟨rfl,?_,pD _,qD _,rfl,rfl⟩
    all_goals repeat' (first | exact tA | refine qB ?_ | refine uA rfl ?_ | refine uA ?_ ?_)
    all_goals refine jn ?_
    all_goals ((try simp only [Zp,Zi,ZJ,ZK,Bool.not_eq_true,Zm,Zn,ne_eq,Zf,true_iff,false_iff,iff_true,iff_false] at *) <;> omega)
   refine jA ?_
   refine mB _ rfl (fun hc2 => ?_) (fun hc2 => ?_)
   ·try simp only [Zp,Zi,ZK,ZJ,ne_eq,Zn,Zm,ZB,ZA,ZI,not_or,not_and,Zu] at hc2
    refine fA ?_
    refine iA hX hb [0,1] rfl (σ' := ?s8) (fun K hK => ?h8) ?n8
    case h8 =>
     iterate 2 (refine kA rfl (by simp (disch := omega) only [gA,aA,qop,fop,St.ev,St.put,cd,zd,Value.oneCell',lA,TypeDesc.aggB,Z0,t2,ti2,kD,ne_eq,not_true_eq_false,not_false_eq_true,cB,eF] <;> exact rfl) ?_)
     refine bA ?_
     exact hK
    refine jA ?_
    refine bC ?_
    refine nC ?_
    exact tC rfl (jF rfl rfl (by first | rfl | (first | (rw [lI,if_pos hc0] <;> rfl) | (rw [lI,if_neg (by omega),if_pos hc1] <;> rfl) | (rw [lI,if_neg (by omega),if_neg (by omega),if_pos (by rw [Int.toNat_natCast,Int.toNat_natCast]; exact hc2)] <;> rfl) | (rw [lI,if_neg (by omega),if_neg (by omega),if_neg (by rw [Int.toNat_natCast,Int.toNat_natCast]; omega),Int.toNat_natCast,Int.toNat_natCast,Int.toNat_natCast,← hq,qJ (by omega)] <;> rfl))))
   ·try simp only [Zp,Zi,ZK,ZJ,ne_eq,Zn,Zm,ZB,ZA,ZI,not_or,not_and,Zu] at hc2
    obtain ⟨dd,hd⟩ : ∃ dd : Nat,d = dd := ⟨d.toNat,by omega⟩
    subst hd
    have hbl := nX dd _ (yD S F) (Nat.le_refl _)
    refine tB ?_
    refine jA ?_
    refine fA ?_
    refine iA hX hb [0] rfl (σ' := ?s9) (fun K hK => ?h9) ?n9
    case h9 =>
     (refine kA rfl (by simp (disch := omega) only [gA,aA,qop,fop,St.ev,St.put,cd,zd,Value.oneCell',lA,TypeDesc.aggB,Z0,t1,ti1,kD,ne_eq,not_true_eq_false,not_false_eq_true,cB,eF] <;> exact rfl) ?_)
     refine bA ?_
     exact hK
    refine jA ?_
    refine fA ?_
    refine uB ?_
    refine vD (ι := Nat × Nat) (fun p => p.1 ≤ 4096 ∧ p.2 + yM dd p.1 = 1 + yM dd (yD S F)) (fun p => ⟨[],[.any,.any,.p (i64 dd),.any,.any,.any,.any,.any,.p (i64 p.1),.p (i64 p.2),.any,.any,.any,.any,.any,.any,.any,.any,.any,.any,.any,.any,.any,.any,.any,.any,.any,.any,.any,.any,.any,.any,.any,.any,.any,.any,.any,.any,.any,.any,.any,.any,.any,.any,.any,.any,.any,.any,.any,.any,.any],[],[]⟩) (fun p => p.1) (yD S F,1) (by exact ⟨by dsimp only; omega,rfl⟩) (sC ⟨rfl,(by repeat first | exact tA | refine qB ?_ | refine uA (by first | rfl | (refine congrArg (fun k => D.p (i64 k)) ?_; dsimp only; omega)) ?_),(wB _),(xB _),rfl,rfl⟩) ?_
    rintro ⟨N,q⟩ ⟨hN,hq⟩
    dsimp only at hN hq ⊢
    refine fA ?_
    refine fA ?_
    refine iA hX hb [0,1] rfl (σ' := ?s10) (fun K hK => ?h10) ?n10
    case h10 =>
     iterate 2 (refine kA rfl (by simp (disch := omega) only [gA,aA,qop,fop,St.ev,St.put,cd,zd,Value.oneCell',lA,TypeDesc.aggB,Z0,yA,iop,tt,kD,ne_eq,not_true_eq_false,not_false_eq_true,cB,eF] <;> exact rfl) ?_)
     refine bA ?_
     exact hK
    refine jA ?_
    refine mB _ rfl (fun hc3 => ?_) (fun hc3 => ?_)
    ·try simp only [Zp,Zi,ZK,ZJ,ne_eq,Zn,Zm,ZB,ZA,ZI,not_or,not_and,Zu] at hc3
     refine tB ?_
     refine jA ?_
     refine uB ?_
     refine fA ?_
     refine iA hX hb [0,1,2,3] rfl (σ' := ?s11) (fun K hK => ?h11) ?n11
     case h11 =>
      iterate 4 (refine kA rfl (by simp (disch := omega) only [gA,aA,qop,fop,St.ev,St.put,cd,zd,Value.oneCell',lA,TypeDesc.aggB,Z0,yA,iop,tt,kD,ne_eq,not_true_eq_false,not_false_eq_true,cB,eF] <;> exact rfl) ?_)
      refine bA ?_
      exact hK
     refine jA ?_
     refine fA ?_
     refine iA hX hb [0,1,2,3,4,5,6,7,8] rfl (σ' := ?s12) (fun K hK => ?h12) ?n12
     case h12 =>
      iterate 9 (refine kA rfl (by simp (disch := omega) only [gA,aA,qop,fop,St.ev,St.put,cd,zd,Value.oneCell',lA,TypeDesc.aggB,Z0,eF,yA,iop,tt,kD,ne_eq,not_true_eq_false,not_false_eq_true,cB] <;> exact rfl) ?_)
      refine bA ?_
      exact hK
     refine jA ?_
     refine iA hX hb [0,1] rfl (σ' := ?s13) (fun K hK => ?h13) ?n13
     case h13 =>
      iterate 2 (refine kA rfl (by simp (disch := omega) only [gA,aA,qop,fop,St.ev,St.put,cd,zd,Value.oneCell',lA,TypeDesc.aggB,Z0,kD,ne_eq,not_true_eq_false,not_false_eq_true,cB,eF] <;> exact rfl) ?_)
      refine bA ?_
      exact hK
     refine dE ?_
     refine jA ?_
     exact ⟨((N + 1) / 2,q + min N (2 * min dd ((N + 1) / 2))),by refine ⟨by dsimp only; omega,?_⟩; (dsimp only; rw [rJ (by omega)] at hq; omega),by (try dsimp only); omega,sC ⟨rfl,(by repeat first | exact tA | refine qB ?_ | refine uA (by first | rfl | (refine congrArg (fun k => D.p (i64 k)) ?_; dsimp only; omega)) ?_),(wB _),(xB _),rfl,rfl⟩⟩
    ·try simp only [Zp,Zi,ZK,ZJ,ne_eq,Zn,Zm,ZB,ZA,ZI,not_or,not_and,Zu] at hc3
     refine sD ?_
     refine fD ?_
     refine fD ?_
     refine dF ?_
     refine jA ?_
     refine fA ?_
     refine iA hX hb [0,1,2] rfl (σ' := ?s14) (fun K hK => ?h14) ?n14
     case h14 =>
      iterate 3 (refine kA rfl (by simp (disch := omega) only [gA,aA,qop,fop,St.ev,St.put,cd,zd,Value.oneCell',lA,TypeDesc.aggB,Z0,tt,kD,ne_eq,not_true_eq_false,not_false_eq_true,cB,eF] <;> exact rfl) ?_)
      refine bA ?_
      exact hK
     refine jA ?_
     refine bC ?_
     exact tC rfl (jF rfl rfl (by first | rfl | (first | (rw [lI,if_pos hc0] <;> rfl) | (rw [lI,if_neg (by omega),if_pos hc1] <;> rfl) | (rw [lI,if_neg (by omega),if_neg (by omega),if_pos (by rw [Int.toNat_natCast,Int.toNat_natCast]; exact hc2)] <;> rfl) | (rw [lI,if_neg (by omega),if_neg (by omega),if_neg (by rw [Int.toNat_natCast,Int.toNat_natCast]; omega),Int.toNat_natCast,Int.toNat_natCast,Int.toNat_natCast,← hq,qJ (by omega)] <;> rfl))))
theorem c85 (es : List (Int × Int)) (n : Int) (hin : gR es) (hn64 : xL n) : ACalls Try.prog 85 [.p (uC es),.p (i64 n)] (.p (i64 (kJ es n))) := by
 refine oC jC Try.func85 (c := _) rfl (by kernel_rfl) ?_
 intro X hP hX hro hpl
 have hb : tb.Ok X.P := hP ▸ jC
 change AW X _ _ ⟨[],[.p (uC es),.p (i64 n),.any,.any,.any,.any,.any,.any,.any,.any,.any,.any,.any,.any,.any,.any,.any,.any,.any,.any,.any,.any,.any,.any,.any,.any,.any,.any,.any,.any,.any,.any,.any,.any,.any,.any,.any,.any,.any,.any,.any,.any,.any,.any,.any,.any,.any,.any,.any],[],[]⟩
 refine aI (t := 0) rfl fun hl => ?_
 unfold maxLen at hl
 refine fA ?_
 refine iA hX hb [0] rfl (σ' := ?s1) (fun K hK => ?h1) ?n1
 case h1 =>
  (refine kA rfl (by simp (disch := omega) only [gA,aA,qop,fop,St.ev,St.put,cd,zd,Value.oneCell',lA,TypeDesc.aggB,Z0,Z2] <;> exact rfl) ?_)
  refine bA ?_
  exact hK
 refine jA ?_
 refine fA ?_
 refine fA ?_
 refine nE hX hb [0,1,2,3,4,5] rfl (ts := [8,9,10,11,12]) (t := 13) (d := .p (bv (n < 0 ∨ 4096 < n))) (σ' := ?s2) ?j2 ?h2 ?n2
 case j2 => simp only [St.join,List.foldl,Za,Zb]; exact rfl
 case h2 =>
  iterate 3 (all_goals refine kA rfl (by simp (disch := omega) only [gA,aA,qop,fop,St.ev,St.put,cd,zd,Value.oneCell',lA,TypeDesc.aggB,Z0,yA,iop,tt,Z2] <;> exact rfl) ?_)
  iterate 2 (all_goals first | (refine fC rfl rfl rfl (by simp (disch := omega) only [gA,aA,qop,fop,St.ev,St.put,cd,zd,Value.oneCell',lA,TypeDesc.aggB,Z0,yA,iop,tt,Z2] <;> exact rfl) ?_) | (first | (refine zB rfl rfl rfl (by simp only [St.put,Za,Zb] <;> exact rfl) ?_) | (refine aC rfl rfl rfl (by simp only [St.put,Za,Zb] <;> exact rfl) ?_)) | (refine yB rfl rfl rfl (by simp only [Za,Zb] <;> exact rfl) (by simp only [Za,Zb] <;> exact rfl) (fun hg => ?_) (fun hg => ?_) <;> (try simp only [Zp,Zi,ZJ,ZK,ne_eq,Zn,Zm,Bool.not_eq_true,Zu] at hg) <;> first | (refine fC rfl rfl rfl (by simp (disch := omega) only [gA,aA,qop,fop,St.ev,St.put,cd,zd,Value.oneCell',lA,TypeDesc.aggB,Z0,yA,iop,tt,Z2] <;> exact rfl) ?_) | (first | (refine zB rfl rfl rfl (by simp only [St.put,Za,Zb] <;> exact rfl) ?_) | (refine aC rfl rfl rfl (by simp only [St.put,Za,Zb] <;> exact rfl) ?_))))
  (all_goals refine kA rfl (by simp (disch := omega) only [gA,aA,qop,fop,St.ev,St.put,cd,zd,Value.oneCell',lA,TypeDesc.aggB,Z0,yA,iop,tt,Z2] <;> exact rfl) ?_)
  all_goals refine bA ?_
  all_goals refine ⟨rfl,?_,pD _,qD _,rfl,rfl⟩
  all_goals repeat' (first | exact tA | refine qB ?_ | refine uA rfl ?_ | refine uA ?_ ?_)
  all_goals refine jn ?_
  all_goals ((try simp only [Zp,Zi,ZJ,ZK,Bool.not_eq_true,Zm,Zn,ne_eq,Zf,true_iff,false_iff,iff_true,iff_false] at *) <;> omega)
 refine jA ?_
 refine mB _ rfl (fun hc0 => ?_) (fun hc0 => ?_)
 ·try simp only [Zp,Zi,ZK,ZJ,ne_eq,Zn,Zm,ZB,ZA,ZI,not_or,not_and,Zu] at hc0
  refine fA ?_
  refine iA hX hb [0] rfl (σ' := ?s3) (fun K hK => ?h3) ?n3
  case h3 =>
   (refine kA rfl (by simp (disch := omega) only [gA,aA,qop,fop,St.ev,St.put,cd,zd,Value.oneCell',lA,TypeDesc.aggB,Z0,t2,ti2,Z2] <;> exact rfl) ?_)
   refine bA ?_
   exact hK
  refine jA ?_
  refine bC ?_
  refine nC ?_
  exact tC rfl (sB rfl (by first | rfl | (first | exact congrArg (fun k => D.p (i64 k)) (kL hc0).symm | exact congrArg (fun k => D.p (i64 k)) ((gE (by omega)).trans (hg.trans (lO (by omega) hc2))).symm | exact congrArg (fun k => D.p (i64 k)) ((gE (by omega)).trans (hg.trans (mO (by omega) hc2 hc3))).symm | exact congrArg (fun k => D.p (i64 k)) ((gE (by omega)).trans (hg.trans (nO (by omega) hc2 (by omega) hc4))).symm | exact congrArg (fun k => D.p (i64 k)) ((gE (by omega)).trans (hg.trans (oO (by omega)))).symm)))
 ·try simp only [Zp,Zi,ZK,ZJ,ne_eq,Zn,Zm,ZB,ZA,ZI,not_or,not_and,Zu] at hc0
  refine tB ?_
  refine jA ?_
  refine fA ?_
  refine iA hX hb [0] rfl (σ' := ?s4) (fun K hK => ?h4) ?n4
  case h4 =>
   (refine kA rfl (by simp (disch := omega) only [gA,aA,qop,fop,St.ev,St.put,cd,zd,Value.oneCell',lA,TypeDesc.aggB,Z0,Z2] <;> exact rfl) ?_)
   refine bA ?_
   exact hK
  refine jA ?_
  refine fA ?_
  refine fA ?_
  refine iA hX hb [0,1,2] rfl (σ' := ?s5) (fun K hK => ?h5) ?n5
  case h5 =>
   iterate 3 (refine kA rfl (by simp (disch := omega) only [gA,aA,qop,fop,St.ev,St.put,cd,zd,Value.oneCell',lA,TypeDesc.aggB,Z0,mC,tt,Z2] <;> exact rfl) ?_)
   refine bA ?_
   exact hK
  refine jA ?_
  refine uB ?_
  refine vD (ι := Nat × Int) (fun p => p.1 ≤ es.length ∧ 0 ≤ p.2 ∧ p.2 ≤ 4097 ∧ xGo n 0 es = xGo n p.2 (es.drop p.1)) (fun p => ⟨[],[.p (uC es),.p (i64 n),.any,.any,.any,.p (i64 p.2),.any,.any,.any,.any,.any,.any,.any,.any,.p (uC es),.p (i64 es.length),.p (i64 p.1),.any,.any,.any,.any,.any,.any,.any,.any,.any,.any,.any,.any,.any,.any,.any,.any,.any,.any,.any,.any,.any,.any,.any,.any,.any,.any,.any,.any,.any,.any,.any,.any],[],[]⟩) (fun p => es.length - p.1) (0,0) (by exact ⟨Nat.zero_le _,by decide,by decide,rfl⟩) (sC ⟨rfl,(by repeat first | exact tA | refine qB ?_ | refine uA rfl ?_),(wB _),(xB _),rfl,rfl⟩) ?_
  rintro ⟨i,b⟩ ⟨hi,hb1,hb2,hg⟩
  dsimp only at hi hb1 hb2 hg ⊢
  refine fA ?_
  refine iA hX hb [0] rfl (σ' := ?s6) (fun K hK => ?h6) ?n6
  case h6 =>
   (refine kA rfl (by simp (disch := omega) only [gA,aA,qop,fop,St.ev,St.put,cd,zd,Value.oneCell',lA,TypeDesc.aggB,Z0,yA,iop,t3,ti3,Z2] <;> exact rfl) ?_)
   refine bA ?_
   exact hK
  refine jA ?_
  refine fA ?_
  refine mB _ rfl (fun hc1 => ?_) (fun hc1 => ?_)
  ·try simp only [Zp,Zi,ZK,ZJ,ne_eq,Zn,Zm,ZB,ZA,ZI,not_or,not_and,Zu] at hc1
   have hei := lX hin (show i < es.length by omega)
   refine tB ?_
   refine jA ?_
   refine fA ?_
   refine uB ?_
   refine fA ?_
   refine iA hX hb [0,1,2,3] rfl (σ' := ?s7) (fun K hK => ?h7) ?n7
   case h7 =>
    iterate 4 (refine kA rfl (by simp (disch := omega) only [gA,aA,qop,fop,St.ev,St.put,cd,zd,Value.oneCell',lA,TypeDesc.aggB,Z0,Int.toNat_zero,Int.toNat_one,wA,xA,vA,ZO,Nat.mul_one,ZC,Nat.zero_mul,Zh,Z1,oA,pA,qA,eA,D.pure?,ZD,ZM,ZL,ZG,ZH,St.addBox,Value.cells,iC,D.boxCells,D.live,D.cells?,ZN,St.setVec,tt,Z2] <;> exact rfl) ?_)
    refine bA ?_
    exact hK
   refine jA ?_
   refine fA ?_
   refine uB ?_
   refine fA ?_
   refine iA hX hb [0,1,2,3] rfl (σ' := ?s8) (fun K hK => ?h8) ?n8
   case h8 =>
    iterate 4 (refine kA rfl (by simp (disch := omega) only [gA,aA,qop,fop,St.ev,St.put,cd,zd,Value.oneCell',lA,TypeDesc.aggB,Z0,cA,mA,Z1,oA,pA,qA,eA,D.pure?,ZC,ZD,yA,iop,tt,Z2] <;> exact rfl) ?_)
    refine bA ?_
    exact hK
   refine jA ?_
   refine mB _ rfl (fun hc2 => ?_) (fun hc2 => ?_)
   ·try simp only [Zp,Zi,ZK,ZJ,ne_eq,Zn,Zm,ZB,ZA,ZI,not_or,not_and,Zu] at hc2
    refine fA ?_
    refine iA hX hb [0] rfl (σ' := ?s9) (fun K hK => ?h9) ?n9
    case h9 =>
     (refine kA rfl (by simp (disch := omega) only [gA,aA,qop,fop,St.ev,St.put,cd,zd,Value.oneCell',lA,TypeDesc.aggB,Z0,t1,ti1,Z2] <;> exact rfl) ?_)
     refine bA ?_
     exact hK
    refine jA ?_
    refine bC ?_
    refine oE ?_
    refine nC ?_
    refine oE ?_
    refine nC ?_
    refine nC ?_
    refine oE ?_
    refine nC ?_
    exact tC rfl (sB rfl (by first | rfl | (first | exact congrArg (fun k => D.p (i64 k)) (kL hc0).symm | exact congrArg (fun k => D.p (i64 k)) ((gE (by omega)).trans (hg.trans (lO (by omega) hc2))).symm | exact congrArg (fun k => D.p (i64 k)) ((gE (by omega)).trans (hg.trans (mO (by omega) hc2 hc3))).symm | exact congrArg (fun k => D.p (i64 k)) ((gE (by omega)).trans (hg.trans (nO (by omega) hc2 (by omega) hc4))).symm | exact congrArg (fun k => D.p (i64 k)) ((gE (by omega)).trans (hg.trans (oO (by omega)))).symm)))
   ·try simp only [Zp,Zi,ZK,ZJ,ne_eq,Zn,Zm,ZB,ZA,ZI,not_or,not_and,Zu] at hc2
    refine fA ?_
    refine nE hX hb [0,1,2,3,4,5,6,7,8,9,10,11,12] rfl (ts := [25,26,27,28,29,30,31,32,33,34,35,36]) (t := 24) (d := .p (bv ((es.getD i (0,0)).1 < 0 ∨ n - (es.getD i (0,0)).1 < (es.getD i (0,0)).2))) (σ' := ?s10) ?j10 ?h10 ?n10
    case j10 => simp only [St.join,List.foldl,Za,Zb]; exact rfl
    case h10 =>
     iterate 4 (all_goals refine kA rfl (by simp (disch := omega) only [gA,aA,qop,fop,St.ev,St.put,cd,zd,Value.oneCell',lA,TypeDesc.aggB,Z0,cA,mA,Z1,oA,pA,qA,eA,D.pure?,ZC,ZD,yA,iop,tt,Z2] <;> exact rfl) ?_)
     iterate 7 (all_goals first | (refine fC rfl rfl rfl (by simp (disch := omega) only [gA,aA,qop,fop,St.ev,St.put,cd,zd,Value.oneCell',lA,TypeDesc.aggB,Z0,cA,mA,Z1,oA,pA,qA,eA,D.pure?,ZC,ZD,yA,iop,tt,Z2] <;> exact rfl) ?_) | (first | (refine zB rfl rfl rfl (by simp only [St.put,Za,Zb] <;> exact rfl) ?_) | (refine aC rfl rfl rfl (by simp only [St.put,Za,Zb] <;> exact rfl) ?_)) | (refine yB rfl rfl rfl (by simp only [Za,Zb] <;> exact rfl) (by simp only [Za,Zb] <;> exact rfl) (fun hg => ?_) (fun hg => ?_) <;> (try simp only [Zp,Zi,ZJ,ZK,ne_eq,Zn,Zm,Bool.not_eq_true,Zu] at hg) <;> first | (refine fC rfl rfl rfl (by simp (disch := omega) only [gA,aA,qop,fop,St.ev,St.put,cd,zd,Value.oneCell',lA,TypeDesc.aggB,Z0,cA,mA,Z1,oA,pA,qA,eA,D.pure?,ZC,ZD,yA,iop,tt,Z2] <;> exact rfl) ?_) | (first | (refine zB rfl rfl rfl (by simp only [St.put,Za,Zb] <;> exact rfl) ?_) | (refine aC rfl rfl rfl (by simp only [St.put,Za,Zb] <;> exact rfl) ?_))))
     iterate 2 (all_goals refine kA rfl (by simp (disch := omega) only [gA,aA,qop,fop,St.ev,St.put,cd,zd,Value.oneCell',lA,TypeDesc.aggB,Z0,cA,mA,Z1,oA,pA,qA,eA,D.pure?,ZC,ZD,yA,iop,tt,Z2] <;> exact rfl) ?_)
     all_goals refine bA ?_
     all_goals refine ⟨rfl,?_,pD _,qD _,rfl,rfl⟩
     all_goals repeat' (first | exact tA | refine qB ?_ | refine uA rfl ?_ | refine uA ?_ ?_)
     all_goals refine jn ?_
     all_goals ((try simp only [Zp,Zi,ZJ,ZK,Bool.not_eq_true,Zm,Zn,ne_eq,Zf,true_iff,false_iff,iff_true,iff_false] at *) <;> omega)
    refine jA ?_
    refine mB _ rfl (fun hc3 => ?_) (fun hc3 => ?_)
    ·try simp only [Zp,Zi,ZK,ZJ,ne_eq,Zn,Zm,ZB,ZA,ZI,not_or,not_and,Zu] at hc3
     refine fA ?_
     refine iA hX hb [0] rfl (σ' := ?s11) (fun K hK => ?h11) ?n11
     case h11 =>
      (refine kA rfl (by simp (disch := omega) only [gA,aA,qop,fop,St.ev,St.put,cd,zd,Value.oneCell',lA,TypeDesc.aggB,Z0,t2,ti2,Z2] <;> exact rfl) ?_)
      refine bA ?_
      exact hK
     refine jA ?_
     refine bC ?_
     refine oE ?_
     refine nC ?_
     refine oE ?_
     refine nC ?_
     refine nC ?_
     refine oE ?_
     refine nC ?_
     exact tC rfl (sB rfl (by first | rfl | (first | exact congrArg (fun k => D.p (i64 k)) (kL hc0).symm | exact congrArg (fun k => D.p (i64 k)) ((gE (by omega)).trans (hg.trans (lO (by omega) hc2))).symm | exact congrArg (fun k => D.p (i64 k)) ((gE (by omega)).trans (hg.trans (mO (by omega) hc2 hc3))).symm | exact congrArg (fun k => D.p (i64 k)) ((gE (by omega)).trans (hg.trans (nO (by omega) hc2 (by omega) hc4))).symm | exact congrArg (fun k => D.p (i64 k)) ((gE (by omega)).trans (hg.trans (oO (by omega)))).symm)))
    ·try simp only [Zp,Zi,ZK,ZJ,ne_eq,Zn,Zm,ZB,ZA,ZI,not_or,not_and,Zu] at hc3
     refine fA ?_
     refine iA hX hb [0,1,2,3,4] rfl (σ' := ?s12) (fun K hK => ?h12) ?n12
     case h12 =>
      iterate 5 (refine kA rfl (by simp (disch := omega) only [gA,aA,qop,fop,St.ev,St.put,cd,zd,Value.oneCell',lA,TypeDesc.aggB,Z0,cA,mA,Z1,oA,pA,qA,eA,D.pure?,ZC,ZD,yA,iop,tt,Z2] <;> exact rfl) ?_)
      refine bA ?_
      exact hK
     refine jA ?_
     refine mB _ rfl (fun hc4 => ?_) (fun hc4 => ?_)
     ·try simp only [Zp,Zi,ZK,ZJ,ne_eq,Zn,Zm,ZB,ZA,ZI,not_or,not_and,Zu] at hc4
      refine fA ?_
      refine iA hX hb [0] rfl (σ' := ?s13) (fun K hK => ?h13) ?n13
      case h13 =>
       (refine kA rfl (by simp (disch := omega) only [gA,aA,qop,fop,St.ev,St.put,cd,zd,Value.oneCell',lA,TypeDesc.aggB,Z0,t3,ti3,Z2] <;> exact rfl) ?_)
       refine bA ?_
       exact hK
      refine jA ?_
      refine bC ?_
      refine oE ?_
      refine nC ?_
      refine oE ?_
      refine nC ?_
      refine nC ?_
      refine oE ?_
      refine nC ?_
      exact tC rfl (sB rfl (by first | rfl | (first | exact congrArg (fun k => D.p (i64 k)) (kL hc0).symm | exact congrArg (fun k => D.p (i64 k)) ((gE (by omega)).trans (hg.trans (lO (by omega) hc2))).symm | exact congrArg (fun k => D.p (i64 k)) ((gE (by omega)).trans (hg.trans (mO (by omega) hc2 hc3))).symm | exact congrArg (fun k => D.p (i64 k)) ((gE (by omega)).trans (hg.trans (nO (by omega) hc2 (by omega) hc4))).symm | exact congrArg (fun k => D.p (i64 k)) ((gE (by omega)).trans (hg.trans (oO (by omega)))).symm)))
     ·try simp only [Zp,Zi,ZK,ZJ,ne_eq,Zn,Zm,ZB,ZA,ZI,not_or,not_and,Zu] at hc4
      refine tB ?_
      refine dE ?_
      refine jA ?_
      refine iA hX hb [0,1,2,3,4,5,6] rfl (σ' := ?s14) (fun K hK => ?h14) ?n14
      case h14 =>
       iterate 7 (refine kA rfl (by simp (disch := omega) only [gA,aA,qop,fop,St.ev,St.put,cd,zd,Value.oneCell',lA,TypeDesc.aggB,Z0,cA,mA,Z1,oA,pA,qA,eA,D.pure?,ZC,ZD,yA,iop,tt,Z2] <;> exact rfl) ?_)
       refine bA ?_
       exact hK
      refine dE ?_
      refine jA ?_
      refine iA hX hb [0,1] rfl (σ' := ?s15) (fun K hK => ?h15) ?n15
      case h15 =>
       iterate 2 (refine kA rfl (by simp (disch := omega) only [gA,aA,qop,fop,St.ev,St.put,cd,zd,Value.oneCell',lA,TypeDesc.aggB,Z0,yA,iop,tt,Z2] <;> exact rfl) ?_)
       refine bA ?_
       exact hK
      refine jA ?_
      exact ⟨(i + 1,(es.getD i (0,0)).1 + (es.getD i (0,0)).2 + 1),by refine ⟨by dsimp only; omega,by dsimp only; omega,by dsimp only; omega,?_⟩; dsimp only; rw [hg,nGA (by omega) hc2 (by omega) hc4],by (try dsimp only); omega,sC ⟨rfl,(by repeat first | exact tA | refine qB ?_ | refine uA rfl ?_),(wB _),(xB _),rfl,rfl⟩⟩
  ·try simp only [Zp,Zi,ZK,ZJ,ne_eq,Zn,Zm,ZB,ZA,ZI,not_or,not_and,Zu] at hc1
   refine sD ?_
   refine fD ?_
   refine fD ?_
   refine dF ?_
   refine jA ?_
   refine fA ?_
   refine iA hX hb [0] rfl (σ' := ?s16) (fun K hK => ?h16) ?n16
   case h16 =>
    (refine kA rfl (by simp (disch := omega) only [gA,aA,qop,fop,St.ev,St.put,cd,zd,Value.oneCell',lA,TypeDesc.aggB,Z0,Z2] <;> exact rfl) ?_)
    refine bA ?_
    exact hK
   refine jA ?_
   refine bC ?_
   exact tC rfl (sB rfl (by first | rfl | (first | exact congrArg (fun k => D.p (i64 k)) (kL hc0).symm | exact congrArg (fun k => D.p (i64 k)) ((gE (by omega)).trans (hg.trans (lO (by omega) hc2))).symm | exact congrArg (fun k => D.p (i64 k)) ((gE (by omega)).trans (hg.trans (mO (by omega) hc2 hc3))).symm | exact congrArg (fun k => D.p (i64 k)) ((gE (by omega)).trans (hg.trans (nO (by omega) hc2 (by omega) hc4))).symm | exact congrArg (fun k => D.p (i64 k)) ((gE (by omega)).trans (hg.trans (oO (by omega)))).symm)))
theorem o90 (d : Int) : ACallsO Try.prog 90 [.p (u64 d)] ⟨5,1,(eD d).length,(eD d).map u8⟩ := by
 refine tI Try.func90 (c := _) rfl (by kernel_rfl) (t := 2) rfl ?_
 intro X hP hX hro hpl
 have hb : tb.Ok X.P := hP ▸ jC
 change AW X _ _ ⟨[],[.p (u64 d),.any,.any,.any,.any,.any,.any,.any,.any,.any,.any,.any,.any,.any,.any,.any,.any,.any],[],[]⟩
 refine fA ?_
 refine iA hX hb [0] rfl (σ' := ?s1) (fun K hK => ?h1) ?n1
 case h1 =>
  (refine kA rfl (by simp (disch := omega) only [gA,aA,qop,fop,St.ev,St.put,cd,zd,Value.oneCell',lA,TypeDesc.aggB,Z0] <;> exact rfl) ?_)
  refine bA ?_
  exact hK
 refine jA ?_
 refine fA ?_
 refine iA hX hb [0] rfl (σ' := ?s2) (fun K hK => ?h2) ?n2
 case h2 =>
  (refine kA rfl (by simp (disch := omega) only [gA,aA,qop,fop,St.ev,St.put,cd,zd,Value.oneCell',lA,TypeDesc.aggB,Z0] <;> exact rfl) ?_)
  refine bA ?_
  exact hK
 refine jA ?_
 refine pK 3 5 1 rfl (σ' := ?s3) ?h3 ?n3
 case h3 => simp only [St.nilSlot,St.addVec,Za,Zb,Zl,Zo,ZL,ZM]; exact rfl
 refine fA ?_
 refine fA ?_
 refine iA hX hb [0] rfl (σ' := ?s4) (fun K hK => ?h4) ?n4
 case h4 =>
  (refine kA rfl (by simp (disch := omega) only [gA,aA,qop,fop,St.ev,St.put,cd,zd,Value.oneCell',lA,TypeDesc.aggB,Z0] <;> exact rfl) ?_)
  refine bA ?_
  exact hK
 refine jA ?_
 refine uB ?_
 refine vD (ι := Nat × List Int) (fun p => p.1 ≤ 8 ∧ p.2 = (eD d).take p.1) (fun p => ⟨[],[.p (u64 d),.any,.any,.vref 0,.any,.p (i64 p.1),.any,.any,.any,.any,.any,.any,.any,.any,.any,.any,.any,.any],[],[some ⟨5,1,p.2.length,p.2.map u8⟩]⟩) (fun p => 8 - p.1) (0,[]) (by exact ⟨Nat.zero_le _,rfl⟩) (sC ⟨rfl,(by repeat first | exact tA | refine qB ?_ | refine uA (by first | rfl | (simp [shb])) ?_),(wB _),(zE (by first | rfl | (simp [shb])) (xB _)),rfl,rfl⟩) ?_
 rintro ⟨k,cs⟩ ⟨hk,hcs⟩
 dsimp only at hk hcs ⊢
 have hcl : cs.length = k := by rw [hcs]; simp [eD]; omega
 refine fA ?_
 refine iA hX hb [0] rfl (σ' := ?s5) (fun K hK => ?h5) ?n5
 case h5 =>
  (refine kA rfl (by simp (disch := omega) only [gA,aA,qop,fop,St.ev,St.put,cd,zd,Value.oneCell',lA,TypeDesc.aggB,Z0,yA,iop,tt] <;> exact rfl) ?_)
  refine bA ?_
  exact hK
 refine jA ?_
 refine fA ?_
 refine mB _ rfl (fun hc0 => ?_) (fun hc0 => ?_)
 ·try simp only [Zp,Zi,ZK,ZJ,ne_eq,Zn,Zm,ZB,ZA,ZI,not_or,not_and,Zu] at hc0
  refine tB ?_
  refine jA ?_
  refine fA ?_
  refine uB ?_
  refine fA ?_
  refine iA hX hb [0,1] rfl (σ' := ?s6) (fun K hK => ?h6) ?n6
  case h6 =>
   iterate 2 (refine kA rfl (by simp (disch := omega) only [gA,aA,qop,fop,St.ev,St.put,cd,zd,Value.oneCell',lA,TypeDesc.aggB,Z0,t5,ti5] <;> exact rfl) ?_)
   refine bA ?_
   exact hK
  refine jA ?_
  refine iA hX hb [0,1,2,3,4,5,6,7,8] rfl (σ' := ?s7) (fun K hK => ?h7) ?n7
  case h7 =>
   iterate 9 (refine kA rfl (by simp (disch := omega) only [gA,aA,qop,fop,St.ev,St.put,cd,zd,Value.oneCell',lA,TypeDesc.aggB,Z0,yA,iop,tM,zD,wC,xC,aE,bB,rB,D.cells?,D.pure?,eB,fB,gB,iB,jB,ZG,ZH,ZL,ZM,ZN,Zl,Zo,zA,Nat.reduceAdd,Nat.reduceMul,cE,qG,St.demote,D.demote,St.setVec,Zh,List.length_append,ZC,Nat.mul_one,reduceIte,tt] <;> exact rfl) ?_)
   refine bA ?_
   exact hK
  refine dE ?_
  refine jA ?_
  refine iA hX hb [0,1] rfl (σ' := ?s8) (fun K hK => ?h8) ?n8
  case h8 =>
   iterate 2 (refine kA rfl (by simp (disch := omega) only [gA,aA,qop,fop,St.ev,St.put,cd,zd,Value.oneCell',lA,TypeDesc.aggB,Z0,yA,iop,tt] <;> exact rfl) ?_)
   refine bA ?_
   exact hK
  refine jA ?_
  exact ⟨(k + 1,cs ++ [shb d k]),by exact ⟨by dsimp only; omega,by dsimp only; rw [rK _ k (by omega),hcs]⟩,by (try dsimp only); omega,sC ⟨rfl,(by repeat first | exact tA | refine qB ?_ | refine uA (by first | rfl | (simp [shb])) ?_),(wB _),(zE (by first | rfl | (simp [shb])) (xB _)),rfl,rfl⟩⟩
 ·try simp only [Zp,Zi,ZK,ZJ,ne_eq,Zn,Zm,ZB,ZA,ZI,not_or,not_and,Zu] at hc0
  refine sD ?_
  refine fD ?_
  refine fD ?_
  refine dF ?_
  refine jA ?_
  refine fA ?_
  refine iA hX hb [0,1] rfl (σ' := ?s9) (fun K hK => ?h9) ?n9
  case h9 =>
   iterate 2 (refine kA rfl (by simp (disch := omega) only [gA,aA,qop,fop,St.ev,St.put,cd,zd,Value.oneCell',lA,TypeDesc.aggB,Z0,t3,ti3] <;> exact rfl) ?_)
   refine bA ?_
   exact hK
  refine jA ?_
  refine bC ?_
  exact oK 0 rfl rfl (by first | rfl | ((have : k = 8 := by omega); subst this; rw [hcs,List.take_of_length_le (by simp [eD])]; rfl))
end Go.Proofs.Ytldcoekbgfaomaa
end
section
namespace Go.Proofs.Ytldcoekbgfaomaa
open Go.RowKit
set_option maxRecDepth 20000
set_option maxHeartbeats 4000000
attribute [local irreducible] jE oD AW
theorem c90 (d : Int) : ACalls Try.prog 90 [.p (u64 d)] (.p (bytes (eD d))) := (o90 d).pure
theorem xZ (a b : Wa) : a = b ↔ ((a.tree.size = b.tree.size ∧ a.tree.leaf = b.tree.leaf ∧ a.tree.lv = b.tree.lv) ∧ a.level = b.level ∧ a.sent = b.sent ∧ a.done = b.done) ∧ a.pend = b.pend ∧ a.found = b.found := by
 obtain ⟨⟨s,f,lv⟩,pd,le,fo,se,dn⟩ := a
 obtain ⟨⟨s',f',lv'⟩,pd',le',fo',se',dn'⟩ := b
 simp only [Wa.mk.injEq,Tr.mk.injEq]
 constructor
 ·rintro ⟨⟨h1,h2,h3⟩,h4,h5,h6,h7,h8⟩
  exact ⟨⟨⟨h1,h2,h3⟩,h5,h7,h8⟩,h4,h6⟩
 ·rintro ⟨⟨⟨h1,h2,h3⟩,h5,h7,h8⟩,h4,h6⟩
  exact ⟨⟨h1,h2,h3⟩,h4,h5,h6,h7,h8⟩
noncomputable instance waDec (a b : Wa) : Decidable (a = b) := Classical.propDecidable _
noncomputable instance msDec (a b : Ms) : Decidable (a = b) := Classical.propDecidable _
theorem hEA (a b : Ms) : a = b ↔ (a.kind = b.kind ∧ a.frm = b.frm ∧ a.dest = b.dest ∧ a.num = b.num ∧ a.val = b.val ∧ a.epoch = b.epoch ∧ a.body = b.body) ∧ a.vs = b.vs := by
 cases a
 cases b
 simp only [Ms.mk.injEq]
 constructor
 ·rintro ⟨h1,h2,h3,h4,h5,h6,h7,h8⟩
  exact ⟨⟨h1,h2,h3,h4,h5,h6,h8⟩,h7⟩
 ·rintro ⟨⟨h1,h2,h3,h4,h5,h6,h8⟩,h7⟩
  exact ⟨h1,h2,h3,h4,h5,h6,h7,h8⟩
theorem yL (l : List Ms) (i : Nat) (h : i < l.length) : l.take (i + 1) = l.take i ++ [l.getD i .zero] := by
 rw [List.take_add_one]; simp [h]
theorem c54 (a b : Ms) : ACalls Try.prog 54 [msP a,msP b] (.p (bv (decide (a = b)))) := by
 obtain ⟨ka,fa,ta,na,va,ea,sa,ba⟩ := a
 obtain ⟨kb,fb,tq,nb,vb,eb,sb,bb⟩ := b
 refine oC jC Try.func54 (c := _) rfl (by kernel_rfl) ?_
 intro X hP hX hro hpl
 have hb : tb.Ok X.P := hP ▸ jC
 change AW X _ _ ⟨[],[.agg [i64 ka,i64 fa,i64 ta,i64 na,i64 va,i64 ea,gG sa,bytes ba],.agg [i64 kb,i64 fb,i64 tq,i64 nb,i64 vb,i64 eb,gG sb,bytes bb],.any,.any,.any,.any,.any,.any,.any,.any,.any,.any,.any,.any,.any,.any,.any,.any,.any,.any,.any,.any,.any,.any,.any,.any,.any,.any,.any,.any,.any,.any,.any,.any,.any,.any,.any,.any,.any,.any,.any,.any,.any,.any,.any,.any,.any,.any,.any,.any,.any,.any,.any,.any,.any,.any,.any,.any,.any,.any,.any,.any,.any,.any,.any,.any,.any,.any,.any,.any,.any,.any,.any,.any,.any,.any,.any,.any],[],[]⟩
 refine jV (t := 0) (k := 6) rfl rfl fun hl => ?_
 unfold maxLen at hl
 refine fA ?_
 refine iA hX hb [0,1,2] rfl (σ' := ?s1) (fun K hK => ?h1) ?n1
 case h1 =>
  iterate 3 (refine kA rfl (by simp (disch := omega) only [gA,aA,qop,fop,St.ev,St.put,cd,zd,Value.oneCell',lA,TypeDesc.aggB,Z0,ZM,ZL,Zl,Zo,ZG,ZH,St.addBox,D.boxCells,D.live,tt,rA,Zh] <;> exact rfl) ?_)
  refine bA ?_
  exact hK
 refine jA ?_
 refine fA ?_
 refine fA ?_
 refine iA hX hb [0,1,2,3,4,5,6] rfl (σ' := ?s2) (fun K hK => ?h2) ?n2
 case h2 =>
  iterate 7 (refine kA rfl (by simp (disch := omega) only [gA,aA,qop,fop,St.ev,St.put,cd,zd,Value.oneCell',lA,TypeDesc.aggB,Z0,cA,mA,Z1,oA,pA,qA,eA,D.pure?,ZC,ZD,mC,yA,iop,tt,rA,Zh] <;> exact rfl) ?_)
  refine bA ?_
  exact hK
 refine jA ?_
 refine mB _ rfl (fun hc0 => ?_) (fun hc0 => ?_)
 ·try simp only [Zp,Zi,ZK,ZJ,ne_eq,Zn,Zm,ZB,ZA,ZI,not_or,not_and,Zu] at hc0
  refine fA ?_
  refine iA hX hb [0] rfl (σ' := ?s3) (fun K hK => ?h3) ?n3
  case h3 =>
   (refine kA rfl (by simp (disch := omega) only [gA,aA,qop,fop,St.ev,St.put,cd,zd,Value.oneCell',lA,TypeDesc.aggB,Z0,rA,Zh] <;> exact rfl) ?_)
   refine bA ?_
   exact hK
  refine jA ?_
  refine bC ?_
  refine nC ?_
  exact tC rfl (sB rfl (by first | rfl | (first | (refine jf ?_; intro h; cases h; exact hc0 rfl) | (refine jf ?_; intro h; cases h; exact hc2 rfl) | (refine congrArg (fun x => D.p (bv x)) (decide_eq_decide.2 ((hEA ⟨ka,fa,ta,na,va,ea,sa,ba⟩ ⟨kb,fb,tq,nb,vb,eb,sb,bb⟩).trans ⟨fun h => h.1,fun h => ⟨h,show sa = sb from yC hc0 he (by omega)⟩⟩).symm)))))
 ·try simp only [Zp,Zi,ZK,ZJ,ne_eq,Zn,Zm,ZB,ZA,ZI,not_or,not_and,Zu] at hc0
  refine tB ?_
  refine jA ?_
  refine fA ?_
  refine fA ?_
  refine iA hX hb [0] rfl (σ' := ?s4) (fun K hK => ?h4) ?n4
  case h4 =>
   (refine kA rfl (by simp (disch := omega) only [gA,aA,qop,fop,St.ev,St.put,cd,zd,Value.oneCell',lA,TypeDesc.aggB,Z0,rA,Zh] <;> exact rfl) ?_)
   refine bA ?_
   exact hK
  refine jA ?_
  refine uB ?_
  refine vD (ι := Nat) (fun i => i ≤ sa.length ∧ sa.take i = sb.take i) (fun i => ⟨[],[.any,.any,.ptr 0 0,.ptr 1 0,.any,.p (i64 i),.any,.any,.any,.any,.any,.any,.any,.any,.any,.any,.any,.any,.any,.any,.any,.any,.any,.any,.any,.any,.any,.any,.any,.any,.any,.any,.any,.any,.any,.any,.any,.any,.any,.any,.any,.any,.any,.any,.any,.any,.any,.any,.any,.any,.any,.any,.any,.any,.any,.any,.any,.any,.any,.any,.any,.any,.any,.any,.any,.any,.any,.any,.any,.any,.any,.any,.any,.any,.any,.any,.any,.any],[⟨90,[.p (i64 ka),.p (i64 fa),.p (i64 ta),.p (i64 na),.p (i64 va),.p (i64 ea),.p (gG sa),.p (bytes ba)]⟩,⟨90,[.p (i64 kb),.p (i64 fb),.p (i64 tq),.p (i64 nb),.p (i64 vb),.p (i64 eb),.p (gG sb),.p (bytes bb)]⟩],[]⟩) (fun i => sa.length - i) 0 (by exact ⟨Nat.zero_le _,rfl⟩) (sC ⟨rfl,(by repeat first | exact tA | refine qB ?_ | refine uA rfl ?_),(vC rfl (uA rfl (uA rfl (uA rfl (uA rfl (uA rfl (uA rfl (uA rfl (uA rfl (tA))))))))) (vC rfl (uA rfl (uA rfl (uA rfl (uA rfl (uA rfl (uA rfl (uA rfl (uA rfl (tA))))))))) (wB _))),(xB _),rfl,rfl⟩) ?_
  rintro i ⟨hi,he⟩
  refine fA ?_
  refine fA ?_
  refine iA hX hb [0,1,2,3,4] rfl (σ' := ?s5) (fun K hK => ?h5) ?n5
  case h5 =>
   iterate 5 (refine kA rfl (by simp (disch := omega) only [gA,aA,qop,fop,St.ev,St.put,cd,zd,Value.oneCell',lA,TypeDesc.aggB,Z0,cA,mA,Z1,oA,pA,qA,eA,D.pure?,ZC,ZD,mC,yA,iop,tt,rA,Zh] <;> exact rfl) ?_)
   refine bA ?_
   exact hK
  refine jA ?_
  refine mB _ rfl (fun hc1 => ?_) (fun hc1 => ?_)
  ·try simp only [Zp,Zi,ZK,ZJ,ne_eq,Zn,Zm,ZB,ZA,ZI,not_or,not_and,Zu] at hc1
   refine tB ?_
   refine jA ?_
   refine fA ?_
   refine uB ?_
   refine fA ?_
   refine bF hX hb (gD hP) [(0,true),(1,true),(2,true),(3,true),(4,true),(5,true),(6,true),(7,true),(8,true),(9,true),(10,true)] (by kernel_rfl) (σ' := ?s6) (fun K hK => ?h6) ?n6
   case h6 =>
    iterate 11 (refine xE rfl (by simp (disch := omega) only [qop,fop,St.ev,St.put,cd,zd,Value.oneCell',lA,TypeDesc.aggB,Z0,cA,mA,Z1,oA,pA,qA,eA,D.pure?,ZC,ZD,Int.toNat_zero,Int.toNat_one,wA,xA,vA,ZO,Nat.mul_one,Nat.zero_mul,Zh,yA,iop,tt,rA] <;> exact rfl) (by simp only [St.put,Za,Zb] <;> exact rfl) ?_)
    refine qC ?_
    exact hK
   refine jA ?_
   refine mB _ rfl (fun hc2 => ?_) (fun hc2 => ?_)
   ·try simp only [Zp,Zi,ZK,ZJ,ne_eq,Zn,Zm,ZB,ZA,ZI,not_or,not_and,Zu] at hc2
    refine fA ?_
    refine iA hX hb [0] rfl (σ' := ?s7) (fun K hK => ?h7) ?n7
    case h7 =>
     (refine kA rfl (by simp (disch := omega) only [gA,aA,qop,fop,St.ev,St.put,cd,zd,Value.oneCell',lA,TypeDesc.aggB,Z0,rA,Zh] <;> exact rfl) ?_)
     refine bA ?_
     exact hK
    refine jA ?_
    refine bC ?_
    refine oE ?_
    refine nC ?_
    refine nC ?_
    refine oE ?_
    refine nC ?_
    exact tC rfl (sB rfl (by first | rfl | (first | (refine jf ?_; intro h; cases h; exact hc0 rfl) | (refine jf ?_; intro h; cases h; exact hc2 rfl) | (refine congrArg (fun x => D.p (bv x)) (decide_eq_decide.2 ((hEA ⟨ka,fa,ta,na,va,ea,sa,ba⟩ ⟨kb,fb,tq,nb,vb,eb,sb,bb⟩).trans ⟨fun h => h.1,fun h => ⟨h,show sa = sb from yC hc0 he (by omega)⟩⟩).symm)))))
   ·try simp only [Zp,Zi,ZK,ZJ,ne_eq,Zn,Zm,ZB,ZA,ZI,not_or,not_and,Zu] at hc2
    refine tB ?_
    refine dE ?_
    refine jA ?_
    refine iA hX hb [0,1,2] rfl (σ' := ?s8) (fun K hK => ?h8) ?n8
    case h8 =>
     iterate 3 (refine kA rfl (by simp (disch := omega) only [gA,aA,qop,fop,St.ev,St.put,cd,zd,Value.oneCell',lA,TypeDesc.aggB,Z0,yA,iop,tt,rA,Zh] <;> exact rfl) ?_)
     refine bA ?_
     exact hK
    refine jA ?_
    exact ⟨i + 1,by exact ⟨by omega,by rw [iE sa i (by omega),iE sb i (by omega),he,hc2]⟩,by (try dsimp only); omega,sC ⟨rfl,(by repeat first | exact tA | refine qB ?_ | refine uA rfl ?_),(vC rfl (uA rfl (uA rfl (uA rfl (uA rfl (uA rfl (uA rfl (uA rfl (uA rfl (tA))))))))) (vC rfl (uA rfl (uA rfl (uA rfl (uA rfl (uA rfl (uA rfl (uA rfl (uA rfl (tA))))))))) (wB _))),(xB _),rfl,rfl⟩⟩
  ·try simp only [Zp,Zi,ZK,ZJ,ne_eq,Zn,Zm,ZB,ZA,ZI,not_or,not_and,Zu] at hc1
   refine sD ?_
   refine fD ?_
   refine fD ?_
   refine dF ?_
   refine jA ?_
   refine fA ?_
   refine nE hX hb [0,1,2,3,4,5,6,7,8,9,10,11,12,13,14,15,16,17,18,19,20,21,22,23,24,25,26,27,28,29,30,31,32,33,34,35,36,37,38,39,40,41,42,43,44,45,46,47] rfl (ts := [31,32,33,34,35,36,37,38,39,40,41,42,43,44,45,46,47,48,49,50,51,52,53,54,55,56,57,58,59,60,61,62,63,64,65,66,67,68,69,70,71,72,73,74,75,76,77]) (t := 4) (d := .p (bv (ka = kb ∧ fa = fb ∧ ta = tq ∧ na = nb ∧ va = vb ∧ ea = eb ∧ ba = bb))) (σ' := ?s9) ?j9 ?h9 ?n9
   case j9 => simp only [St.join,List.foldl,Za,Zb]; exact rfl
   case h9 =>
    iterate 6 (all_goals refine kA rfl (by simp (disch := omega) only [gA,aA,qop,fop,St.ev,St.put,cd,zd,Value.oneCell',lA,TypeDesc.aggB,Z0,cA,mA,Z1,oA,pA,qA,eA,D.pure?,ZC,ZD,yA,iop,sA,D.pv?,tt,rA,Zh] <;> exact rfl) ?_)
    iterate 5 (all_goals first | (refine fC rfl rfl rfl (by simp (disch := omega) only [gA,aA,qop,fop,St.ev,St.put,cd,zd,Value.oneCell',lA,TypeDesc.aggB,Z0,cA,mA,Z1,oA,pA,qA,eA,D.pure?,ZC,ZD,yA,iop,sA,D.pv?,tt,rA,Zh] <;> exact rfl) ?_) | (first | (refine zB rfl rfl rfl (by simp only [St.put,Za,Zb] <;> exact rfl) ?_) | (refine aC rfl rfl rfl (by simp only [St.put,Za,Zb] <;> exact rfl) ?_)) | (refine yB rfl rfl rfl (by simp only [Za,Zb] <;> exact rfl) (by simp only [Za,Zb] <;> exact rfl) (fun hg => ?_) (fun hg => ?_) <;> (try simp only [Zp,Zi,ZJ,ZK,ne_eq,Zn,Zm,Bool.not_eq_true,Zu] at hg) <;> first | (refine fC rfl rfl rfl (by simp (disch := omega) only [gA,aA,qop,fop,St.ev,St.put,cd,zd,Value.oneCell',lA,TypeDesc.aggB,Z0,cA,mA,Z1,oA,pA,qA,eA,D.pure?,ZC,ZD,yA,iop,sA,D.pv?,tt,rA,Zh] <;> exact rfl) ?_) | (first | (refine zB rfl rfl rfl (by simp only [St.put,Za,Zb] <;> exact rfl) ?_) | (refine aC rfl rfl rfl (by simp only [St.put,Za,Zb] <;> exact rfl) ?_))))
    iterate 2 (all_goals refine kA rfl (by simp (disch := omega) only [gA,aA,qop,fop,St.ev,St.put,cd,zd,Value.oneCell',lA,TypeDesc.aggB,Z0,cA,mA,Z1,oA,pA,qA,eA,D.pure?,ZC,ZD,yA,iop,sA,D.pv?,tt,rA,Zh] <;> exact rfl) ?_)
    iterate 5 (all_goals first | (refine fC rfl rfl rfl (by simp (disch := omega) only [gA,aA,qop,fop,St.ev,St.put,cd,zd,Value.oneCell',lA,TypeDesc.aggB,Z0,cA,mA,Z1,oA,pA,qA,eA,D.pure?,ZC,ZD,yA,iop,sA,D.pv?,tt,rA,Zh] <;> exact rfl) ?_) | (first | (refine zB rfl rfl rfl (by simp only [St.put,Za,Zb] <;> exact rfl) ?_) | (refine aC rfl rfl rfl (by simp only [St.put,Za,Zb] <;> exact rfl) ?_)) | (refine yB rfl rfl rfl (by simp only [Za,Zb] <;> exact rfl) (by simp only [Za,Zb] <;> exact rfl) (fun hg => ?_) (fun hg => ?_) <;> (try simp only [Zp,Zi,ZJ,ZK,ne_eq,Zn,Zm,Bool.not_eq_true,Zu] at hg) <;> first | (refine fC rfl rfl rfl (by simp (disch := omega) only [gA,aA,qop,fop,St.ev,St.put,cd,zd,Value.oneCell',lA,TypeDesc.aggB,Z0,cA,mA,Z1,oA,pA,qA,eA,D.pure?,ZC,ZD,yA,iop,sA,D.pv?,tt,rA,Zh] <;> exact rfl) ?_) | (first | (refine zB rfl rfl rfl (by simp only [St.put,Za,Zb] <;> exact rfl) ?_) | (refine aC rfl rfl rfl (by simp only [St.put,Za,Zb] <;> exact rfl) ?_))))
    iterate 2 (all_goals refine kA rfl (by simp (disch := omega) only [gA,aA,qop,fop,St.ev,St.put,cd,zd,Value.oneCell',lA,TypeDesc.aggB,Z0,cA,mA,Z1,oA,pA,qA,eA,D.pure?,ZC,ZD,yA,iop,sA,D.pv?,tt,rA,Zh] <;> exact rfl) ?_)
    iterate 5 (all_goals first | (refine fC rfl rfl rfl (by simp (disch := omega) only [gA,aA,qop,fop,St.ev,St.put,cd,zd,Value.oneCell',lA,TypeDesc.aggB,Z0,cA,mA,Z1,oA,pA,qA,eA,D.pure?,ZC,ZD,yA,iop,sA,D.pv?,tt,rA,Zh] <;> exact rfl) ?_) | (first | (refine zB rfl rfl rfl (by simp only [St.put,Za,Zb] <;> exact rfl) ?_) | (refine aC rfl rfl rfl (by simp only [St.put,Za,Zb] <;> exact rfl) ?_)) | (refine yB rfl rfl rfl (by simp only [Za,Zb] <;> exact rfl) (by simp only [Za,Zb] <;> exact rfl) (fun hg => ?_) (fun hg => ?_) <;> (try simp only [Zp,Zi,ZJ,ZK,ne_eq,Zn,Zm,Bool.not_eq_true,Zu] at hg) <;> first | (refine fC rfl rfl rfl (by simp (disch := omega) only [gA,aA,qop,fop,St.ev,St.put,cd,zd,Value.oneCell',lA,TypeDesc.aggB,Z0,cA,mA,Z1,oA,pA,qA,eA,D.pure?,ZC,ZD,yA,iop,sA,D.pv?,tt,rA,Zh] <;> exact rfl) ?_) | (first | (refine zB rfl rfl rfl (by simp only [St.put,Za,Zb] <;> exact rfl) ?_) | (refine aC rfl rfl rfl (by simp only [St.put,Za,Zb] <;> exact rfl) ?_))))
    iterate 2 (all_goals refine kA rfl (by simp (disch := omega) only [gA,aA,qop,fop,St.ev,St.put,cd,zd,Value.oneCell',lA,TypeDesc.aggB,Z0,cA,mA,Z1,oA,pA,qA,eA,D.pure?,ZC,ZD,yA,iop,sA,D.pv?,tt,rA,Zh] <;> exact rfl) ?_)
    iterate 5 (all_goals first | (refine fC rfl rfl rfl (by simp (disch := omega) only [gA,aA,qop,fop,St.ev,St.put,cd,zd,Value.oneCell',lA,TypeDesc.aggB,Z0,cA,mA,Z1,oA,pA,qA,eA,D.pure?,ZC,ZD,yA,iop,sA,D.pv?,tt,rA,Zh] <;> exact rfl) ?_) | (first | (refine zB rfl rfl rfl (by simp only [St.put,Za,Zb] <;> exact rfl) ?_) | (refine aC rfl rfl rfl (by simp only [St.put,Za,Zb] <;> exact rfl) ?_)) | (refine yB rfl rfl rfl (by simp only [Za,Zb] <;> exact rfl) (by simp only [Za,Zb] <;> exact rfl) (fun hg => ?_) (fun hg => ?_) <;> (try simp only [Zp,Zi,ZJ,ZK,ne_eq,Zn,Zm,Bool.not_eq_true,Zu] at hg) <;> first | (refine fC rfl rfl rfl (by simp (disch := omega) only [gA,aA,qop,fop,St.ev,St.put,cd,zd,Value.oneCell',lA,TypeDesc.aggB,Z0,cA,mA,Z1,oA,pA,qA,eA,D.pure?,ZC,ZD,yA,iop,sA,D.pv?,tt,rA,Zh] <;> exact rfl) ?_) | (first | (refine zB rfl rfl rfl (by simp only [St.put,Za,Zb] <;> exact rfl) ?_) | (refine aC rfl rfl rfl (by simp only [St.put,Za,Zb] <;> exact rfl) ?_))))
    iterate 2 (all_goals refine kA rfl (by simp (disch := omega) only [gA,aA,qop,fop,St.ev,St.put,cd,zd,Value.oneCell',lA,TypeDesc.aggB,Z0,cA,mA,Z1,oA,pA,qA,eA,D.pure?,ZC,ZD,yA,iop,sA,D.pv?,tt,rA,Zh] <;> exact rfl) ?_)
    iterate 5 (all_goals first | (refine fC rfl rfl rfl (by simp (disch := omega) only [gA,aA,qop,fop,St.ev,St.put,cd,zd,Value.oneCell',lA,TypeDesc.aggB,Z0,cA,mA,Z1,oA,pA,qA,eA,D.pure?,ZC,ZD,yA,iop,sA,D.pv?,tt,rA,Zh] <;> exact rfl) ?_) | (first | (refine zB rfl rfl rfl (by simp only [St.put,Za,Zb] <;> exact rfl) ?_) | (refine aC rfl rfl rfl (by simp only [St.put,Za,Zb] <;> exact rfl) ?_)) | (refine yB rfl rfl rfl (by simp only [Za,Zb] <;> exact rfl) (by simp only [Za,Zb] <;> exact rfl) (fun hg => ?_) (fun hg => ?_) <;> (try simp only [Zp,Zi,ZJ,ZK,ne_eq,Zn,Zm,Bool.not_eq_true,Zu] at hg) <;> first | (refine fC rfl rfl rfl (by simp (disch := omega) only [gA,aA,qop,fop,St.ev,St.put,cd,zd,Value.oneCell',lA,TypeDesc.aggB,Z0,cA,mA,Z1,oA,pA,qA,eA,D.pure?,ZC,ZD,yA,iop,sA,D.pv?,tt,rA,Zh] <;> exact rfl) ?_) | (first | (refine zB rfl rfl rfl (by simp only [St.put,Za,Zb] <;> exact rfl) ?_) | (refine aC rfl rfl rfl (by simp only [St.put,Za,Zb] <;> exact rfl) ?_))))
    iterate 2 (all_goals refine kA rfl (by simp (disch := omega) only [gA,aA,qop,fop,St.ev,St.put,cd,zd,Value.oneCell',lA,TypeDesc.aggB,Z0,cA,mA,Z1,oA,pA,qA,eA,D.pure?,ZC,ZD,yA,iop,sA,D.pv?,tt,rA,Zh] <;> exact rfl) ?_)
    iterate 4 (all_goals first | (refine fC rfl rfl rfl (by simp (disch := omega) only [gA,aA,qop,fop,St.ev,St.put,cd,zd,Value.oneCell',lA,TypeDesc.aggB,Z0,cA,mA,Z1,oA,pA,qA,eA,D.pure?,ZC,ZD,yA,iop,sA,D.pv?,tt,rA,Zh] <;> exact rfl) ?_) | (first | (refine zB rfl rfl rfl (by simp only [St.put,Za,Zb] <;> exact rfl) ?_) | (refine aC rfl rfl rfl (by simp only [St.put,Za,Zb] <;> exact rfl) ?_)) | (refine yB rfl rfl rfl (by simp only [Za,Zb] <;> exact rfl) (by simp only [Za,Zb] <;> exact rfl) (fun hg => ?_) (fun hg => ?_) <;> (try simp only [Zp,Zi,ZJ,ZK,ne_eq,Zn,Zm,Bool.not_eq_true,Zu] at hg) <;> first | (refine fC rfl rfl rfl (by simp (disch := omega) only [gA,aA,qop,fop,St.ev,St.put,cd,zd,Value.oneCell',lA,TypeDesc.aggB,Z0,cA,mA,Z1,oA,pA,qA,eA,D.pure?,ZC,ZD,yA,iop,sA,D.pv?,tt,rA,Zh] <;> exact rfl) ?_) | (first | (refine zB rfl rfl rfl (by simp only [St.put,Za,Zb] <;> exact rfl) ?_) | (refine aC rfl rfl rfl (by simp only [St.put,Za,Zb] <;> exact rfl) ?_))))
    all_goals first | (refine dK rfl rfl rfl (by simp only [aA,St.ev,nB,oB,sA,D.pv?,ZG,ZH,zd,cd,Value.oneCell',Zr] <;> exact rfl) (acK hP (c92 ba bb)) (by simp only [St.put,Za,Zb] <;> exact rfl) ?_) | (first | (refine zB rfl rfl rfl (by simp only [St.put,Za,Zb] <;> exact rfl) ?_) | (refine aC rfl rfl rfl (by simp only [St.put,Za,Zb] <;> exact rfl) ?_)) | (refine yB rfl rfl rfl (by simp only [Za,Zb] <;> exact rfl) (by simp only [Za,Zb] <;> exact rfl) (fun hg => ?_) (fun hg => ?_) <;> (try simp only [Zp,Zi,ZJ,ZK,ne_eq,Zn,Zm,Bool.not_eq_true,Zu] at hg) <;> first | (refine dK rfl rfl rfl (by simp only [aA,St.ev,nB,oB,sA,D.pv?,ZG,ZH,zd,cd,Value.oneCell',Zr] <;> exact rfl) (acK hP (c92 ba bb)) (by simp only [St.put,Za,Zb] <;> exact rfl) ?_) | (first | (refine zB rfl rfl rfl (by simp only [St.put,Za,Zb] <;> exact rfl) ?_) | (refine aC rfl rfl rfl (by simp only [St.put,Za,Zb] <;> exact rfl) ?_)))
    iterate 2 (all_goals refine kA rfl (by simp (disch := omega) only [gA,aA,qop,fop,St.ev,St.put,cd,zd,Value.oneCell',lA,TypeDesc.aggB,Z0,cA,mA,Z1,oA,pA,qA,eA,D.pure?,ZC,ZD,yA,iop,sA,D.pv?,tt,rA,Zh] <;> exact rfl) ?_)
    all_goals refine bA ?_
    all_goals refine ⟨rfl,?_,pD _,qD _,rfl,rfl⟩
    all_goals repeat' (first | exact tA | refine qB ?_ | refine uA rfl ?_ | refine uA ?_ ?_)
    all_goals refine jn ?_
    all_goals ((try simp only [Zp,Zi,ZJ,Zm,ne_eq,Zf] at *) <;> simp_all)
   refine jA ?_
   refine bC ?_
   exact tC rfl (sB rfl (by first | rfl | (first | (refine jf ?_; intro h; cases h; exact hc0 rfl) | (refine jf ?_; intro h; cases h; exact hc2 rfl) | (refine congrArg (fun x => D.p (bv x)) (decide_eq_decide.2 ((hEA ⟨ka,fa,ta,na,va,ea,sa,ba⟩ ⟨kb,fb,tq,nb,vb,eb,sb,bb⟩).trans ⟨fun h => h.1,fun h => ⟨h,show sa = sb from yC hc0 he (by omega)⟩⟩).symm)))))
theorem c48 (a b : List Ms) : ACalls Try.prog 48 [.p (zM a),.p (zM b)] (.p (bv (decide (a = b)))) := by
 refine oC jC Try.func48 (c := _) rfl (by kernel_rfl) ?_
 intro X hP hX hro hpl
 have hb : tb.Ok X.P := hP ▸ jC
 change AW X _ _ ⟨[],[.p (zM a),.p (zM b),.any,.any,.any,.any,.any,.any,.any,.any,.any,.any,.any,.any,.any,.any,.any,.any,.any,.any,.any,.any,.any,.any,.any,.any,.any],[],[]⟩
 refine aI (t := 0) rfl fun hl => ?_
 unfold maxLen at hl
 refine fA ?_
 refine iA hX hb [0] rfl (σ' := ?s1) (fun K hK => ?h1) ?n1
 case h1 =>
  (refine kA rfl (by simp (disch := omega) only [gA,aA,qop,fop,St.ev,St.put,cd,zd,Value.oneCell',lA,TypeDesc.aggB,Z0,lB,zF] <;> exact rfl) ?_)
  refine bA ?_
  exact hK
 refine jA ?_
 refine fA ?_
 refine fA ?_
 refine iA hX hb [0,1,2,3,4] rfl (σ' := ?s2) (fun K hK => ?h2) ?n2
 case h2 =>
  iterate 5 (refine kA rfl (by simp (disch := omega) only [gA,aA,qop,fop,St.ev,St.put,cd,zd,Value.oneCell',lA,TypeDesc.aggB,Z0,mC,yA,iop,tt,lB,zF] <;> exact rfl) ?_)
  refine bA ?_
  exact hK
 refine jA ?_
 refine mB _ rfl (fun hc0 => ?_) (fun hc0 => ?_)
 ·try simp only [Zp,Zi,ZK,ZJ,ne_eq,Zn,Zm,ZB,ZA,ZI,not_or,not_and,Zu] at hc0
  refine fA ?_
  refine iA hX hb [0] rfl (σ' := ?s3) (fun K hK => ?h3) ?n3
  case h3 =>
   (refine kA rfl (by simp (disch := omega) only [gA,aA,qop,fop,St.ev,St.put,cd,zd,Value.oneCell',lA,TypeDesc.aggB,Z0,lB,zF] <;> exact rfl) ?_)
   refine bA ?_
   exact hK
  refine jA ?_
  refine bC ?_
  refine nC ?_
  exact tC rfl (sB rfl (by first | rfl | (first | (refine jf ?_; rintro rfl; exact hc2 rfl) | (refine jf ?_; rintro rfl; exact hc0 rfl) | exact jt (yC hc0 he (by omega)))))
 ·try simp only [Zp,Zi,ZK,ZJ,ne_eq,Zn,Zm,ZB,ZA,ZI,not_or,not_and,Zu] at hc0
  refine tB ?_
  refine jA ?_
  refine fA ?_
  refine fA ?_
  refine iA hX hb [0] rfl (σ' := ?s4) (fun K hK => ?h4) ?n4
  case h4 =>
   (refine kA rfl (by simp (disch := omega) only [gA,aA,qop,fop,St.ev,St.put,cd,zd,Value.oneCell',lA,TypeDesc.aggB,Z0,lB,zF] <;> exact rfl) ?_)
   refine bA ?_
   exact hK
  refine jA ?_
  refine uB ?_
  refine vD (ι := Nat) (fun i => i ≤ a.length ∧ a.take i = b.take i) (fun i => ⟨[],[.p (zM a),.p (zM b),.any,.any,.any,.p (i64 i),.any,.any,.any,.any,.any,.any,.any,.any,.any,.any,.any,.any,.any,.any,.any,.any,.any,.any,.any,.any,.any],[],[]⟩) (fun i => a.length - i) 0 (by exact ⟨Nat.zero_le _,rfl⟩) (sC ⟨rfl,(by repeat first | exact tA | refine qB ?_ | refine uA rfl ?_),(wB _),(xB _),rfl,rfl⟩) ?_
  rintro i ⟨hi,he⟩
  refine fA ?_
  refine fA ?_
  refine iA hX hb [0,1,2,3] rfl (σ' := ?s5) (fun K hK => ?h5) ?n5
  case h5 =>
   iterate 4 (refine kA rfl (by simp (disch := omega) only [gA,aA,qop,fop,St.ev,St.put,cd,zd,Value.oneCell',lA,TypeDesc.aggB,Z0,mC,yA,iop,tt,lB,zF] <;> exact rfl) ?_)
   refine bA ?_
   exact hK
  refine jA ?_
  refine mB _ rfl (fun hc1 => ?_) (fun hc1 => ?_)
  ·try simp only [Zp,Zi,ZK,ZJ,ne_eq,Zn,Zm,ZB,ZA,ZI,not_or,not_and,Zu] at hc1
   refine tB ?_
   refine jA ?_
   refine fA ?_
   refine uB ?_
   refine fA ?_
   refine bF hX hb (gD hP) [(0,true),(1,true),(2,true),(3,true),(4,true),(5,true),(6,true),(7,true),(8,false),(9,true)] (by kernel_rfl) (σ' := ?s6) (fun K hK => ?h6) ?n6
   case h6 =>
    iterate 8 (refine xE rfl (by simp (disch := omega) only [qop,fop,St.ev,St.put,cd,zd,Value.oneCell',lA,TypeDesc.aggB,Z0,Int.toNat_zero,Int.toNat_one,wA,xA,vA,ZO,Nat.mul_one,ZC,Nat.zero_mul,Zh,Z1,oA,pA,qA,eA,D.pure?,ZD,sA,D.pv?,Bool.not_true,Bool.not_false,tt,lB,zF] <;> exact rfl) (by simp only [St.put,Za,Zb] <;> exact rfl) ?_)
    refine pG rfl (by simp only [aA,St.ev,nB,oB,sA,D.pv?,ZG,ZH,zd,cd,Value.oneCell',Zr] <;> exact rfl) (acK hP (c54 (a.getD i .zero) (b.getD i .zero))) (by simp only [St.put,Za,Zb] <;> exact rfl) ?_
    (refine xE rfl (by simp (disch := omega) only [qop,fop,St.ev,St.put,cd,zd,Value.oneCell',lA,TypeDesc.aggB,Z0,Int.toNat_zero,Int.toNat_one,wA,xA,vA,ZO,Nat.mul_one,ZC,Nat.zero_mul,Zh,Z1,oA,pA,qA,eA,D.pure?,ZD,sA,D.pv?,Bool.not_true,Bool.not_false,tt,lB,zF] <;> exact rfl) (by simp only [St.put,Za,Zb] <;> exact rfl) ?_)
    refine qC ?_
    exact hK
   refine jA ?_
   refine mB _ rfl (fun hc2 => ?_) (fun hc2 => ?_)
   ·try simp only [Zp,Zi,ZK,ZJ,ne_eq,Zn,Zm,ZB,ZA,ZI,not_or,not_and,Zu] at hc2
    refine fA ?_
    refine iA hX hb [0] rfl (σ' := ?s7) (fun K hK => ?h7) ?n7
    case h7 =>
     (refine kA rfl (by simp (disch := omega) only [gA,aA,qop,fop,St.ev,St.put,cd,zd,Value.oneCell',lA,TypeDesc.aggB,Z0,lB,zF] <;> exact rfl) ?_)
     refine bA ?_
     exact hK
    refine jA ?_
    refine bC ?_
    refine oE ?_
    refine nC ?_
    refine nC ?_
    refine oE ?_
    refine nC ?_
    exact tC rfl (sB rfl (by first | rfl | (first | (refine jf ?_; rintro rfl; exact hc2 rfl) | (refine jf ?_; rintro rfl; exact hc0 rfl) | exact jt (yC hc0 he (by omega)))))
   ·try simp only [Zp,Zi,ZK,ZJ,ne_eq,Zn,Zm,ZB,ZA,ZI,not_or,not_and,Zu] at hc2
    refine tB ?_
    refine dE ?_
    refine jA ?_
    refine iA hX hb [0,1,2] rfl (σ' := ?s8) (fun K hK => ?h8) ?n8
    case h8 =>
     iterate 3 (refine kA rfl (by simp (disch := omega) only [gA,aA,qop,fop,St.ev,St.put,cd,zd,Value.oneCell',lA,TypeDesc.aggB,Z0,yA,iop,tt,lB,zF] <;> exact rfl) ?_)
     refine bA ?_
     exact hK
    refine jA ?_
    exact ⟨i + 1,by exact ⟨by omega,by rw [yL a i (by omega),yL b i (by omega),he,hc2]⟩,by (try dsimp only); omega,sC ⟨rfl,(by repeat first | exact tA | refine qB ?_ | refine uA rfl ?_),(wB _),(xB _),rfl,rfl⟩⟩
  ·try simp only [Zp,Zi,ZK,ZJ,ne_eq,Zn,Zm,ZB,ZA,ZI,not_or,not_and,Zu] at hc1
   refine sD ?_
   refine fD ?_
   refine fD ?_
   refine dF ?_
   refine jA ?_
   refine fA ?_
   refine iA hX hb [0] rfl (σ' := ?s9) (fun K hK => ?h9) ?n9
   case h9 =>
    (refine kA rfl (by simp (disch := omega) only [gA,aA,qop,fop,St.ev,St.put,cd,zd,Value.oneCell',lA,TypeDesc.aggB,Z0,lB,zF] <;> exact rfl) ?_)
    refine bA ?_
    exact hK
   refine jA ?_
   refine bC ?_
   exact tC rfl (sB rfl (by first | rfl | (first | (refine jf ?_; rintro rfl; exact hc2 rfl) | (refine jf ?_; rintro rfl; exact hc0 rfl) | exact jt (yC hc0 he (by omega)))))
theorem c47 (a b : Wa) : ACalls Try.prog 47 [waP a,waP b] (.p (bv (decide (a = b)))) := by
 obtain ⟨⟨sa,fa,la⟩,pa,va,oa,qa,da⟩ := a
 obtain ⟨⟨sb,fb,lb⟩,pb,vb,ob,qb,db⟩ := b
 refine oC jC Try.func47 (c := _) rfl (by kernel_rfl) ?_
 intro X hP hX hro hpl
 have hb : tb.Ok X.P := hP ▸ jC
 change AW X _ _ ⟨[],[.agg [i64 sa,i64 fa,xD la,uC pa,i64 va,uC oa,i64 qa,bv da],.agg [i64 sb,i64 fb,xD lb,uC pb,i64 vb,uC ob,i64 qb,bv db],.any,.any,.any,.any,.any,.any,.any,.any,.any,.any,.any,.any,.any,.any,.any,.any,.any,.any,.any,.any,.any,.any,.any,.any,.any,.any,.any,.any,.any,.any,.any,.any,.any,.any,.any,.any,.any,.any,.any,.any,.any,.any,.any,.any,.any,.any,.any,.any,.any,.any,.any,.any,.any,.any,.any,.any,.any,.any,.any,.any,.any,.any,.any,.any,.any,.any,.any,.any,.any,.any,.any,.any,.any,.any,.any,.any,.any,.any,.any,.any,.any,.any,.any],[],[]⟩
 refine jV (t := 0) (k := 3) rfl rfl fun hl => ?_
 unfold maxLen at hl
 refine jV (t := 0) (k := 5) rfl rfl fun hl2 => ?_
 unfold maxLen at hl2
 refine fA ?_
 refine iA hX hb [0,1,2] rfl (σ' := ?s1) (fun K hK => ?h1) ?n1
 case h1 =>
  iterate 3 (refine kA rfl (by simp (disch := omega) only [gA,aA,qop,fop,St.ev,St.put,cd,zd,Value.oneCell',lA,TypeDesc.aggB,Z0,ZM,ZL,Zl,Zo,ZG,ZH,St.addBox,D.boxCells,D.live,tt,Z2,e35,pC,and_self] <;> exact rfl) ?_)
  refine bA ?_
  exact hK
 refine jA ?_
 refine fA ?_
 refine fA ?_
 refine nE hX hb [0,1,2,3,4,5,6,7,8,9,10,11,12,13,14,15] rfl (ts := [7,8,9,10,11,12,13,14,15,16,17,18,19,20,21]) (t := 22) (d := .p (bv (pa.length ≠ pb.length ∨ oa.length ≠ ob.length))) (σ' := ?s2) ?j2 ?h2 ?n2
 case j2 => simp only [St.join,List.foldl,Za,Zb]; exact rfl
 case h2 =>
  iterate 8 (all_goals refine kA rfl (by simp (disch := omega) only [gA,aA,qop,fop,St.ev,St.put,cd,zd,Value.oneCell',lA,TypeDesc.aggB,Z0,cA,mA,Z1,oA,pA,qA,eA,D.pure?,ZC,ZD,mC,yA,iop,tt,Z2,e35,pC,and_self] <;> exact rfl) ?_)
  iterate 7 (all_goals first | (refine fC rfl rfl rfl (by simp (disch := omega) only [gA,aA,qop,fop,St.ev,St.put,cd,zd,Value.oneCell',lA,TypeDesc.aggB,Z0,cA,mA,Z1,oA,pA,qA,eA,D.pure?,ZC,ZD,mC,yA,iop,tt,Z2,e35,pC,and_self] <;> exact rfl) ?_) | (first | (refine zB rfl rfl rfl (by simp only [St.put,Za,Zb] <;> exact rfl) ?_) | (refine aC rfl rfl rfl (by simp only [St.put,Za,Zb] <;> exact rfl) ?_)) | (refine yB rfl rfl rfl (by simp only [Za,Zb] <;> exact rfl) (by simp only [Za,Zb] <;> exact rfl) (fun hg => ?_) (fun hg => ?_) <;> (try simp only [Zp,Zi,ZJ,ZK,ne_eq,Zn,Zm,Bool.not_eq_true,Zu] at hg) <;> first | (refine fC rfl rfl rfl (by simp (disch := omega) only [gA,aA,qop,fop,St.ev,St.put,cd,zd,Value.oneCell',lA,TypeDesc.aggB,Z0,cA,mA,Z1,oA,pA,qA,eA,D.pure?,ZC,ZD,mC,yA,iop,tt,Z2,e35,pC,and_self] <;> exact rfl) ?_) | (first | (refine zB rfl rfl rfl (by simp only [St.put,Za,Zb] <;> exact rfl) ?_) | (refine aC rfl rfl rfl (by simp only [St.put,Za,Zb] <;> exact rfl) ?_))))
  (all_goals refine kA rfl (by simp (disch := omega) only [gA,aA,qop,fop,St.ev,St.put,cd,zd,Value.oneCell',lA,TypeDesc.aggB,Z0,cA,mA,Z1,oA,pA,qA,eA,D.pure?,ZC,ZD,mC,yA,iop,tt,Z2,e35,pC,and_self] <;> exact rfl) ?_)
  all_goals refine bA ?_
  all_goals refine ⟨rfl,?_,pD _,qD _,rfl,rfl⟩
  all_goals repeat' (first | exact tA | refine qB ?_ | refine uA rfl ?_ | refine uA ?_ ?_)
  all_goals refine jn ?_
  all_goals ((try simp only [Zp,Zi,ZJ,ZK,Bool.not_eq_true,Zm,Zn,ne_eq,Zf,true_iff,false_iff,iff_true,iff_false] at *) <;> omega)
 refine jA ?_
 refine mB _ rfl (fun hc0 => ?_) (fun hc0 => ?_)
 ·try simp only [Zp,Zi,ZK,ZJ,ne_eq,Zn,Zm,ZB,ZA,ZI,not_or,not_and,Zu] at hc0
  refine fA ?_
  refine iA hX hb [0] rfl (σ' := ?s3) (fun K hK => ?h3) ?n3
  case h3 =>
   (refine kA rfl (by simp (disch := omega) only [gA,aA,qop,fop,St.ev,St.put,cd,zd,Value.oneCell',lA,TypeDesc.aggB,Z0,Z2,e35,pC,and_self] <;> exact rfl) ?_)
   refine bA ?_
   exact hK
  refine jA ?_
  refine bC ?_
  refine nC ?_
  exact tC rfl (sB rfl (by first | rfl | (first | (refine jf ?_; intro h; cases h; exact hc2 rfl) | (refine jf ?_; intro h; cases h; exact hc4 rfl) | (refine jf ?_; intro h; cases h; rcases hc0 with hc0 | hc0 <;> exact hc0 rfl) | (refine congrArg (fun x => D.p (bv x)) (decide_eq_decide.2 ((xZ ⟨⟨sa,fa,la⟩,pa,va,oa,qa,da⟩ ⟨⟨sb,fb,lb⟩,pb,vb,ob,qb,db⟩).trans ⟨fun h => h.1,fun h => ⟨h,show pa = pb from yC hc0.1 he (by omega),show oa = ob from yC hc0.2 hke (by omega)⟩⟩).symm)))))
 ·try simp only [Zp,Zi,ZK,ZJ,ne_eq,Zn,Zm,ZB,ZA,ZI,not_or,not_and,Zu] at hc0
  refine tB ?_
  refine jA ?_
  refine fA ?_
  refine fA ?_
  refine iA hX hb [0] rfl (σ' := ?s4) (fun K hK => ?h4) ?n4
  case h4 =>
   (refine kA rfl (by simp (disch := omega) only [gA,aA,qop,fop,St.ev,St.put,cd,zd,Value.oneCell',lA,TypeDesc.aggB,Z0,Z2,e35,pC,and_self] <;> exact rfl) ?_)
   refine bA ?_
   exact hK
  refine jA ?_
  refine uB ?_
  refine vD (ι := Nat) (fun i => i ≤ pa.length ∧ pa.take i = pb.take i) (fun i => ⟨[],[.any,.any,.ptr 0 0,.ptr 1 0,.any,.p (i64 i),.any,.any,.any,.any,.any,.any,.any,.any,.any,.any,.any,.any,.any,.any,.any,.any,.any,.any,.any,.any,.any,.any,.any,.any,.any,.any,.any,.any,.any,.any,.any,.any,.any,.any,.any,.any,.any,.any,.any,.any,.any,.any,.any,.any,.any,.any,.any,.any,.any,.any,.any,.any,.any,.any,.any,.any,.any,.any,.any,.any,.any,.any,.any,.any,.any,.any,.any,.any,.any,.any,.any,.any,.any,.any,.any,.any,.any,.any,.any],[⟨75,[.p (i64 sa),.p (i64 fa),.p (xD la),.p (uC pa),.p (i64 va),.p (uC oa),.p (i64 qa),.p (bv da)]⟩,⟨75,[.p (i64 sb),.p (i64 fb),.p (xD lb),.p (uC pb),.p (i64 vb),.p (uC ob),.p (i64 qb),.p (bv db)]⟩],[]⟩) (fun i => pa.length - i) 0 (by exact ⟨Nat.zero_le _,rfl⟩) (sC ⟨rfl,(by repeat first | exact tA | refine qB ?_ | refine uA rfl ?_),(vC rfl (uA rfl (uA rfl (uA rfl (uA rfl (uA rfl (uA rfl (uA rfl (uA rfl (tA))))))))) (vC rfl (uA rfl (uA rfl (uA rfl (uA rfl (uA rfl (uA rfl (uA rfl (uA rfl (tA))))))))) (wB _))),(xB _),rfl,rfl⟩) ?_
  rintro i ⟨hi,he⟩
  refine fA ?_
  refine fA ?_
  refine iA hX hb [0,1,2,3,4] rfl (σ' := ?s5) (fun K hK => ?h5) ?n5
  case h5 =>
   iterate 5 (refine kA rfl (by simp (disch := omega) only [gA,aA,qop,fop,St.ev,St.put,cd,zd,Value.oneCell',lA,TypeDesc.aggB,Z0,cA,mA,Z1,oA,pA,qA,eA,D.pure?,ZC,ZD,mC,yA,iop,tt,Z2,e35,pC,and_self] <;> exact rfl) ?_)
   refine bA ?_
   exact hK
  refine jA ?_
  refine mB _ rfl (fun hc1 => ?_) (fun hc1 => ?_)
  ·try simp only [Zp,Zi,ZK,ZJ,ne_eq,Zn,Zm,ZB,ZA,ZI,not_or,not_and,Zu] at hc1
   refine tB ?_
   refine jA ?_
   refine fA ?_
   refine uB ?_
   refine fA ?_
   refine bF hX hb (gD hP) [(0,true),(1,true),(2,true),(3,true),(4,true),(5,true),(6,true),(7,true),(8,true),(9,true),(10,true)] (by kernel_rfl) (σ' := ?s6) (fun K hK => ?h6) ?n6
   case h6 =>
    iterate 11 (refine xE rfl (by simp (disch := omega) only [qop,fop,St.ev,St.put,cd,zd,Value.oneCell',lA,TypeDesc.aggB,Z0,cA,mA,Z1,oA,pA,qA,eA,D.pure?,ZC,ZD,Int.toNat_zero,Int.toNat_one,wA,xA,vA,ZO,Nat.mul_one,Nat.zero_mul,Zh,yA,iop,tt,Z2,e35,pC,and_self] <;> exact rfl) (by simp only [St.put,Za,Zb] <;> exact rfl) ?_)
    refine qC ?_
    exact hK
   refine jA ?_
   refine mB _ rfl (fun hc2 => ?_) (fun hc2 => ?_)
   ·try simp only [Zp,Zi,ZK,ZJ,ne_eq,Zn,Zm,ZB,ZA,ZI,not_or,not_and,Zu,qQ] at hc2
    refine fA ?_
    refine iA hX hb [0] rfl (σ' := ?s7) (fun K hK => ?h7) ?n7
    case h7 =>
     (refine kA rfl (by simp (disch := omega) only [gA,aA,qop,fop,St.ev,St.put,cd,zd,Value.oneCell',lA,TypeDesc.aggB,Z0,Z2,e35,pC,and_self] <;> exact rfl) ?_)
     refine bA ?_
     exact hK
    refine jA ?_
    refine bC ?_
    refine oE ?_
    refine nC ?_
    refine nC ?_
    refine oE ?_
    refine nC ?_
    exact tC rfl (sB rfl (by first | rfl | (first | (refine jf ?_; intro h; cases h; exact hc2 rfl) | (refine jf ?_; intro h; cases h; exact hc4 rfl) | (refine jf ?_; intro h; cases h; rcases hc0 with hc0 | hc0 <;> exact hc0 rfl) | (refine congrArg (fun x => D.p (bv x)) (decide_eq_decide.2 ((xZ ⟨⟨sa,fa,la⟩,pa,va,oa,qa,da⟩ ⟨⟨sb,fb,lb⟩,pb,vb,ob,qb,db⟩).trans ⟨fun h => h.1,fun h => ⟨h,show pa = pb from yC hc0.1 he (by omega),show oa = ob from yC hc0.2 hke (by omega)⟩⟩).symm)))))
   ·try simp only [Zp,Zi,ZK,ZJ,ne_eq,Zn,Zm,ZB,ZA,ZI,not_or,not_and,Zu,qQ] at hc2
    refine tB ?_
    refine dE ?_
    refine jA ?_
    refine iA hX hb [0,1,2] rfl (σ' := ?s8) (fun K hK => ?h8) ?n8
    case h8 =>
     iterate 3 (refine kA rfl (by simp (disch := omega) only [gA,aA,qop,fop,St.ev,St.put,cd,zd,Value.oneCell',lA,TypeDesc.aggB,Z0,yA,iop,tt,Z2,e35,pC,and_self] <;> exact rfl) ?_)
     refine bA ?_
     exact hK
    refine jA ?_
    exact ⟨i + 1,by exact ⟨by omega,by rw [uE pa i (by omega),uE pb i (by omega),he,hc2]⟩,by (try dsimp only); omega,sC ⟨rfl,(by repeat first | exact tA | refine qB ?_ | refine uA rfl ?_),(vC rfl (uA rfl (uA rfl (uA rfl (uA rfl (uA rfl (uA rfl (uA rfl (uA rfl (tA))))))))) (vC rfl (uA rfl (uA rfl (uA rfl (uA rfl (uA rfl (uA rfl (uA rfl (uA rfl (tA))))))))) (wB _))),(xB _),rfl,rfl⟩⟩
  ·try simp only [Zp,Zi,ZK,ZJ,ne_eq,Zn,Zm,ZB,ZA,ZI,not_or,not_and,Zu] at hc1
   refine sD ?_
   refine fD ?_
   refine fD ?_
   refine dF ?_
   refine jA ?_
   refine fA ?_
   refine fA ?_
   refine iA hX hb [0] rfl (σ' := ?s9) (fun K hK => ?h9) ?n9
   case h9 =>
    (refine kA rfl (by simp (disch := omega) only [gA,aA,qop,fop,St.ev,St.put,cd,zd,Value.oneCell',lA,TypeDesc.aggB,Z0,Z2,e35,pC,and_self] <;> exact rfl) ?_)
    refine bA ?_
    exact hK
   refine jA ?_
   refine uB ?_
   refine vD (ι := Nat) (fun k => k ≤ oa.length ∧ oa.take k = ob.take k) (fun k => ⟨[],[.any,.any,.ptr 0 0,.ptr 1 0,.any,.any,.p (i64 k),.any,.any,.any,.any,.any,.any,.any,.any,.any,.any,.any,.any,.any,.any,.any,.any,.any,.any,.any,.any,.any,.any,.any,.any,.any,.any,.any,.any,.any,.any,.any,.any,.any,.any,.any,.any,.any,.any,.any,.any,.any,.any,.any,.any,.any,.any,.any,.any,.any,.any,.any,.any,.any,.any,.any,.any,.any,.any,.any,.any,.any,.any,.any,.any,.any,.any,.any,.any,.any,.any,.any,.any,.any,.any,.any,.any,.any,.any],[⟨75,[.p (i64 sa),.p (i64 fa),.p (xD la),.p (uC pa),.p (i64 va),.p (uC oa),.p (i64 qa),.p (bv da)]⟩,⟨75,[.p (i64 sb),.p (i64 fb),.p (xD lb),.p (uC pb),.p (i64 vb),.p (uC ob),.p (i64 qb),.p (bv db)]⟩],[]⟩) (fun k => oa.length - k) 0 (by exact ⟨Nat.zero_le _,rfl⟩) (sC ⟨rfl,(by repeat first | exact tA | refine qB ?_ | refine uA rfl ?_),(vC rfl (uA rfl (uA rfl (uA rfl (uA rfl (uA rfl (uA rfl (uA rfl (uA rfl (tA))))))))) (vC rfl (uA rfl (uA rfl (uA rfl (uA rfl (uA rfl (uA rfl (uA rfl (uA rfl (tA))))))))) (wB _))),(xB _),rfl,rfl⟩) ?_
   rintro k ⟨hk,hke⟩
   refine fA ?_
   refine fA ?_
   refine iA hX hb [0,1,2,3,4] rfl (σ' := ?s10) (fun K hK => ?h10) ?n10
   case h10 =>
    iterate 5 (refine kA rfl (by simp (disch := omega) only [gA,aA,qop,fop,St.ev,St.put,cd,zd,Value.oneCell',lA,TypeDesc.aggB,Z0,cA,mA,Z1,oA,pA,qA,eA,D.pure?,ZC,ZD,mC,yA,iop,tt,Z2,e35,pC,and_self] <;> exact rfl) ?_)
    refine bA ?_
    exact hK
   refine jA ?_
   refine mB _ rfl (fun hc3 => ?_) (fun hc3 => ?_)
   ·try simp only [Zp,Zi,ZK,ZJ,ne_eq,Zn,Zm,ZB,ZA,ZI,not_or,not_and,Zu] at hc3
    refine tB ?_
    refine jA ?_
    refine fA ?_
    refine uB ?_
    refine fA ?_
    refine bF hX hb (gD hP) [(0,true),(1,true),(2,true),(3,true),(4,true),(5,true),(6,true),(7,true),(8,true),(9,true),(10,true)] (by kernel_rfl) (σ' := ?s11) (fun K hK => ?h11) ?n11
    case h11 =>
     iterate 11 (refine xE rfl (by simp (disch := omega) only [qop,fop,St.ev,St.put,cd,zd,Value.oneCell',lA,TypeDesc.aggB,Z0,cA,mA,Z1,oA,pA,qA,eA,D.pure?,ZC,ZD,Int.toNat_zero,Int.toNat_one,wA,xA,vA,ZO,Nat.mul_one,Nat.zero_mul,Zh,yA,iop,tt,Z2,e35,pC,and_self] <;> exact rfl) (by simp only [St.put,Za,Zb] <;> exact rfl) ?_)
     refine qC ?_
     exact hK
    refine jA ?_
    refine mB _ rfl (fun hc4 => ?_) (fun hc4 => ?_)
    ·try simp only [Zp,Zi,ZK,ZJ,ne_eq,Zn,Zm,ZB,ZA,ZI,not_or,not_and,Zu,qQ] at hc4
     refine fA ?_
     refine iA hX hb [0] rfl (σ' := ?s12) (fun K hK => ?h12) ?n12
     case h12 =>
      (refine kA rfl (by simp (disch := omega) only [gA,aA,qop,fop,St.ev,St.put,cd,zd,Value.oneCell',lA,TypeDesc.aggB,Z0,Z2,e35,pC,and_self] <;> exact rfl) ?_)
      refine bA ?_
      exact hK
     refine jA ?_
     refine bC ?_
     refine oE ?_
     refine nC ?_
     refine nC ?_
     refine oE ?_
     refine nC ?_
     exact tC rfl (sB rfl (by first | rfl | (first | (refine jf ?_; intro h; cases h; exact hc2 rfl) | (refine jf ?_; intro h; cases h; exact hc4 rfl) | (refine jf ?_; intro h; cases h; rcases hc0 with hc0 | hc0 <;> exact hc0 rfl) | (refine congrArg (fun x => D.p (bv x)) (decide_eq_decide.2 ((xZ ⟨⟨sa,fa,la⟩,pa,va,oa,qa,da⟩ ⟨⟨sb,fb,lb⟩,pb,vb,ob,qb,db⟩).trans ⟨fun h => h.1,fun h => ⟨h,show pa = pb from yC hc0.1 he (by omega),show oa = ob from yC hc0.2 hke (by omega)⟩⟩).symm)))))
    ·try simp only [Zp,Zi,ZK,ZJ,ne_eq,Zn,Zm,ZB,ZA,ZI,not_or,not_and,Zu,qQ] at hc4
     refine tB ?_
     refine dE ?_
     refine jA ?_
     refine iA hX hb [0,1,2] rfl (σ' := ?s13) (fun K hK => ?h13) ?n13
     case h13 =>
      iterate 3 (refine kA rfl (by simp (disch := omega) only [gA,aA,qop,fop,St.ev,St.put,cd,zd,Value.oneCell',lA,TypeDesc.aggB,Z0,yA,iop,tt,Z2,e35,pC,and_self] <;> exact rfl) ?_)
      refine bA ?_
      exact hK
     refine jA ?_
     exact ⟨k + 1,by exact ⟨by omega,by rw [uE oa k (by omega),uE ob k (by omega),hke,hc4]⟩,by (try dsimp only); omega,sC ⟨rfl,(by repeat first | exact tA | refine qB ?_ | refine uA rfl ?_),(vC rfl (uA rfl (uA rfl (uA rfl (uA rfl (uA rfl (uA rfl (uA rfl (uA rfl (tA))))))))) (vC rfl (uA rfl (uA rfl (uA rfl (uA rfl (uA rfl (uA rfl (uA rfl (uA rfl (tA))))))))) (wB _))),(xB _),rfl,rfl⟩⟩
   ·try simp only [Zp,Zi,ZK,ZJ,ne_eq,Zn,Zm,ZB,ZA,ZI,not_or,not_and,Zu] at hc3
    refine sD ?_
    refine fD ?_
    refine fD ?_
    refine dF ?_
    refine jA ?_
    refine fA ?_
    refine nE hX hb [0,1,2,3,4,5,6,7,8,9,10,11,12,13,14,15,16,17,18,19,20,21,22,23,24,25,26] rfl (ts := [59,60,61,62,63,64,65,66,67,68,69,70,71,72,73,74,75,76,77,78,79,80,81,82,83,84]) (t := 4) (d := .p (bv ((sa = sb ∧ fa = fb ∧ la = lb) ∧ va = vb ∧ qa = qb ∧ da = db))) (σ' := ?s14) ?j14 ?h14 ?n14
    case j14 => simp only [St.join,List.foldl,Za,Zb]; exact rfl
    case h14 =>
     iterate 4 (all_goals refine kA rfl (by simp (disch := omega) only [gA,aA,qop,fop,St.ev,St.put,cd,zd,Value.oneCell',lA,TypeDesc.aggB,Z0,cA,mA,Z1,oA,pA,qA,eA,D.pure?,ZC,ZD,sA,D.pv?,yA,iop,tt,Z2,e35,pC,and_self] <;> exact rfl) ?_)
     refine jD rfl (by simp only [aA,St.ev,nB,oB,sA,D.pv?,ZG,ZH,zd,cd,Value.oneCell',Zr] <;> exact rfl) (acK hP (c23 ⟨sa,fa,la⟩ ⟨sb,fb,lb⟩)) (by simp only [St.put,Za,Zb] <;> exact rfl) ?_
     (all_goals refine kA rfl (by simp (disch := omega) only [gA,aA,qop,fop,St.ev,St.put,cd,zd,Value.oneCell',lA,TypeDesc.aggB,Z0,cA,mA,Z1,oA,pA,qA,eA,D.pure?,ZC,ZD,sA,D.pv?,yA,iop,tt,Z2,e35,pC,and_self] <;> exact rfl) ?_)
     iterate 5 (all_goals first | (refine fC rfl rfl rfl (by simp (disch := omega) only [gA,aA,qop,fop,St.ev,St.put,cd,zd,Value.oneCell',lA,TypeDesc.aggB,Z0,cA,mA,Z1,oA,pA,qA,eA,D.pure?,ZC,ZD,sA,D.pv?,yA,iop,tt,Z2,e35,pC,and_self] <;> exact rfl) ?_) | (first | (refine zB rfl rfl rfl (by simp only [St.put,Za,Zb] <;> exact rfl) ?_) | (refine aC rfl rfl rfl (by simp only [St.put,Za,Zb] <;> exact rfl) ?_)) | (refine yB rfl rfl rfl (by simp only [Za,Zb] <;> exact rfl) (by simp only [Za,Zb] <;> exact rfl) (fun hg => ?_) (fun hg => ?_) <;> (try simp only [Zp,Zi,ZJ,ZK,ne_eq,Zn,Zm,Bool.not_eq_true,Zu] at hg) <;> first | (refine fC rfl rfl rfl (by simp (disch := omega) only [gA,aA,qop,fop,St.ev,St.put,cd,zd,Value.oneCell',lA,TypeDesc.aggB,Z0,cA,mA,Z1,oA,pA,qA,eA,D.pure?,ZC,ZD,sA,D.pv?,yA,iop,tt,Z2,e35,pC,and_self] <;> exact rfl) ?_) | (first | (refine zB rfl rfl rfl (by simp only [St.put,Za,Zb] <;> exact rfl) ?_) | (refine aC rfl rfl rfl (by simp only [St.put,Za,Zb] <;> exact rfl) ?_))))
     iterate 2 (all_goals refine kA rfl (by simp (disch := omega) only [gA,aA,qop,fop,St.ev,St.put,cd,zd,Value.oneCell',lA,TypeDesc.aggB,Z0,cA,mA,Z1,oA,pA,qA,eA,D.pure?,ZC,ZD,sA,D.pv?,yA,iop,tt,Z2,e35,pC,and_self] <;> exact rfl) ?_)
     iterate 5 (all_goals first | (refine fC rfl rfl rfl (by simp (disch := omega) only [gA,aA,qop,fop,St.ev,St.put,cd,zd,Value.oneCell',lA,TypeDesc.aggB,Z0,cA,mA,Z1,oA,pA,qA,eA,D.pure?,ZC,ZD,sA,D.pv?,yA,iop,tt,Z2,e35,pC,and_self] <;> exact rfl) ?_) | (first | (refine zB rfl rfl rfl (by simp only [St.put,Za,Zb] <;> exact rfl) ?_) | (refine aC rfl rfl rfl (by simp only [St.put,Za,Zb] <;> exact rfl) ?_)) | (refine yB rfl rfl rfl (by simp only [Za,Zb] <;> exact rfl) (by simp only [Za,Zb] <;> exact rfl) (fun hg => ?_) (fun hg => ?_) <;> (try simp only [Zp,Zi,ZJ,ZK,ne_eq,Zn,Zm,Bool.not_eq_true,Zu] at hg) <;> first | (refine fC rfl rfl rfl (by simp (disch := omega) only [gA,aA,qop,fop,St.ev,St.put,cd,zd,Value.oneCell',lA,TypeDesc.aggB,Z0,cA,mA,Z1,oA,pA,qA,eA,D.pure?,ZC,ZD,sA,D.pv?,yA,iop,tt,Z2,e35,pC,and_self] <;> exact rfl) ?_) | (first | (refine zB rfl rfl rfl (by simp only [St.put,Za,Zb] <;> exact rfl) ?_) | (refine aC rfl rfl rfl (by simp only [St.put,Za,Zb] <;> exact rfl) ?_))))
     iterate 2 (all_goals refine kA rfl (by simp (disch := omega) only [gA,aA,qop,fop,St.ev,St.put,cd,zd,Value.oneCell',lA,TypeDesc.aggB,Z0,cA,mA,Z1,oA,pA,qA,eA,D.pure?,ZC,ZD,sA,D.pv?,yA,iop,tt,Z2,e35,pC,and_self] <;> exact rfl) ?_)
     iterate 5 (all_goals first | (refine fC rfl rfl rfl (by simp (disch := omega) only [gA,aA,qop,fop,St.ev,St.put,cd,zd,Value.oneCell',lA,TypeDesc.aggB,Z0,cA,mA,Z1,oA,pA,qA,eA,D.pure?,ZC,ZD,sA,D.pv?,yA,iop,tt,Z2,e35,pC,and_self] <;> exact rfl) ?_) | (first | (refine zB rfl rfl rfl (by simp only [St.put,Za,Zb] <;> exact rfl) ?_) | (refine aC rfl rfl rfl (by simp only [St.put,Za,Zb] <;> exact rfl) ?_)) | (refine yB rfl rfl rfl (by simp only [Za,Zb] <;> exact rfl) (by simp only [Za,Zb] <;> exact rfl) (fun hg => ?_) (fun hg => ?_) <;> (try simp only [Zp,Zi,ZJ,ZK,ne_eq,Zn,Zm,Bool.not_eq_true,Zu] at hg) <;> first | (refine fC rfl rfl rfl (by simp (disch := omega) only [gA,aA,qop,fop,St.ev,St.put,cd,zd,Value.oneCell',lA,TypeDesc.aggB,Z0,cA,mA,Z1,oA,pA,qA,eA,D.pure?,ZC,ZD,sA,D.pv?,yA,iop,tt,Z2,e35,pC,and_self] <;> exact rfl) ?_) | (first | (refine zB rfl rfl rfl (by simp only [St.put,Za,Zb] <;> exact rfl) ?_) | (refine aC rfl rfl rfl (by simp only [St.put,Za,Zb] <;> exact rfl) ?_))))
     iterate 2 (all_goals refine kA rfl (by simp (disch := omega) only [gA,aA,qop,fop,St.ev,St.put,cd,zd,Value.oneCell',lA,TypeDesc.aggB,Z0,cA,mA,Z1,oA,pA,qA,eA,D.pure?,ZC,ZD,sA,D.pv?,yA,iop,tt,Z2,e35,pC,and_self] <;> exact rfl) ?_)
     all_goals refine bA ?_
     all_goals refine ⟨rfl,?_,pD _,qD _,rfl,rfl⟩
     all_goals repeat' (first | exact tA | refine qB ?_ | refine uA rfl ?_ | refine uA ?_ ?_)
     all_goals refine jn ?_
     all_goals ((try simp only [Zp,Zi,ZJ,Zm,ne_eq,Zf] at *) <;> simp_all)
    refine jA ?_
    refine bC ?_
    exact tC rfl (sB rfl (by first | rfl | (first | (refine jf ?_; intro h; cases h; exact hc2 rfl) | (refine jf ?_; intro h; cases h; exact hc4 rfl) | (refine jf ?_; intro h; cases h; rcases hc0 with hc0 | hc0 <;> exact hc0 rfl) | (refine congrArg (fun x => D.p (bv x)) (decide_eq_decide.2 ((xZ ⟨⟨sa,fa,la⟩,pa,va,oa,qa,da⟩ ⟨⟨sb,fb,lb⟩,pb,vb,ob,qb,db⟩).trans ⟨fun h => h.1,fun h => ⟨h,show pa = pb from yC hc0.1 he (by omega),show oa = ob from yC hc0.2 hke (by omega)⟩⟩).symm)))))
end Go.Proofs.Ytldcoekbgfaomaa
end
section
namespace Go.Proofs.Ytldcoekbgfaomaa
open Go.RowKit
set_option maxRecDepth 20000
set_option maxHeartbeats 4000000
attribute [local irreducible] jE oD AW
theorem yZ : List.range 8 = [0,1,2,3,4,5,6,7] := rfl
/-- The numbers in extents,as the items of an iterator. -/
def tH (es : List (Int × Int)) : List PV := (cC es).map fun n : Nat => .p (i64 (n : Int))
theorem xF (es : List (Int × Int)) : (tH es).length = (cC es).length := by simp [tH]
theorem yV {es : List (Int × Int)} {i u v k : Nat} (hi : i < es.length) (h : es.getD i (0,0) = ((u : Int),(v : Int))) (hk : k < v) : (tH es)[(cC (es.take i)).length + k]? = some (.p (i64 ((u : Int) + (k : Int)))) := by
 rw [tH,List.getElem?_map,wAA hi h hk]
 simp
theorem dQ {es : List (Int × Int)} {k : Nat} {y : PV} (h : (tH es)[k]? = some y) : k < (cC es).length ∧ y = .p (i64 ((cC es).getD k 0 : Nat)) := by
 rw [tH,List.getElem?_map] at h
 obtain ⟨x,hx,rfl⟩ := Option.map_eq_some_iff.1 h
 have hk := (List.getElem?_eq_some_iff.1 hx).1
 refine ⟨hk,?_⟩
 rw [List.getD_eq_getElem?_getD,hx]
 rfl
/-- Pieces of a list of numbers. -/
def sJ (l : List Int) (n i : Nat) : List Int := (l.drop (i * n)).take n
def xG (l : List Int) (n : Nat) : List PV := (List.range (yD l.length n)).map fun i => .p (gG (sJ l n i))
theorem xI (l : List Int) (n : Nat) : (xG l n).length = yD l.length n := by simp [xG]
theorem oN (l : List Int) (n i : Nat) (h : i < yD l.length n) : (xG l n)[i]? = some (.p (gG (sJ l n i))) := by simp [xG,h]
theorem xS {l : List Int} {n k : Nat} {y : PV} (h : (xG l n)[k]? = some y) : k < yD l.length n ∧ y = .p (gG (sJ l n k)) := by
 have hk : k < yD l.length n := by have := (List.getElem?_eq_some_iff.1 h).1; simpa [xG] using this
 rw [oN l n k hk] at h
 injection h with h
 exact ⟨hk,h.symm⟩
theorem zV (l : List Int) (n i : Nat) (k : Nat) (hk : k = min n (l.length - i * n)) : P1.sl k (((l.map i64).drop (i * n)).take k) = gG (sJ l n i) := by
 subst hk
 have e : ((l.map i64).drop (i * n)).take (min n (l.length - i * n)) = (sJ l n i).map i64 := by
  rw [sJ,List.map_take,List.map_drop,List.take_eq_take_iff]
  simp
 rw [e,gG]
 congr 1
 simp [sJ]
theorem oX {n : Nat} : ∀ {es : List (Int × Int)} {st b : Int} {a : Nat},b + 1 = a → AscX n a es → dG st b es = (st,b - st) :: es
 | [],_,_,_,_,_ => rfl
 | e :: r,st,b,a,hb,⟨h1,h2,h3,h4⟩ => by
  rw [dG,if_neg (by omega),oX (a := e.1.toNat + e.2.toNat + 1) (by omega) h4]
  rw [show e.1 + e.2 - e.1 = e.2 by omega]
theorem pX {n a : Nat} {es : List (Int × Int)} (h : AscX n a es) : oG es = es := by
 cases es with
 | nil => rfl
 | cons e r =>
  obtain ⟨h1,h2,h3,h4⟩ := h
  rw [oG,oX (a := e.1.toNat + e.2.toNat + 1) (by omega) h4,show e.1 + e.2 - e.1 = e.2 by omega]
theorem mU {n : Nat} : ∀ {es : List (Int × Int)} {a : Nat} {b : Int},b ≤ a → AscX n a es → AscE b es
 | [],_,_,_,_ => trivial
 | e :: r,a,b,hb,⟨h1,h2,h3,h4⟩ => ⟨by omega,by omega,mU (by omega) h4⟩
theorem sNA {n : Nat} (es : List (Int × Int)) (h : kJ es n = 0) : ACalls Try.prog 73 [.p (uC es),.p (.sl 0 [])] (.p (uC es)) := by
 have ha := (iH h).2
 have hf := dL h
 have := c73 es 0 (by omega) (fun e he => by
  obtain ⟨u,v,rfl,h1,h2⟩ := ha.at e he
  exact ⟨u,v,rfl,by omega,by omega⟩) (mU (Int.le_refl 0) ha)
 rwa [pX ha] at this
/-- What a request tells. -/
def nI (w : Wa) : List Int := [w.tree.size,w.tree.leaf] ++ w.pend.flatMap fun e => [e.1,e.2]
def wK (w : Wa) : Ms := ⟨13,0,0,w.level,0,0,nI w,[]⟩
theorem wD (es : List (Int × Int)) : (es.flatMap fun e => [e.1,e.2]).length = es.length * 2 := by
 induction es with
 | nil => rfl
 | cons e r ih => simp only [List.flatMap_cons,List.length_append,Zl,Zo,ih]; omega
theorem sE (s f : Int) (es : List (Int × Int)) (i : Nat) (h : i < es.length) : [s,f] ++ (es.take (i + 1)).flatMap (fun e => [e.1,e.2]) = ([s,f] ++ (es.take i).flatMap fun e => [e.1,e.2]) ++ [(es.getD i (0,0)).1,(es.getD i (0,0)).2] := by
 rw [uE es i h,List.flatMap_append]
 simp
theorem mKA (es : List (Int × Int)) (n : Nat) (h : kJ es n = 0) : SeqC Try.prog 114 [uC es] (tH es) := by
 refine fV Try.func114 (c := _) rfl (by kernel_rfl) rfl ?_
 intro X ll hP hX _
 have hb : tb.Ok X.P := hP ▸ jC
 change AW X _ _ ⟨[.yld ll (tH es) 0],[.p (.v (.func (.yield ll) #[] #[])),.ept [uC es] 0,.any,.any,.any,.any,.any,.any,.any,.any,.any,.any,.any,.any,.any,.any,.any,.any,.any,.any,.any,.any,.any,.any,.any,.any],[],[]⟩
 have hfe := dL h
 have hfn := oM h
 refine fA ?_
 refine iA hX hb [0,1,2] rfl (σ' := ?s1) (fun K hK => ?h1) ?n1
 case h1 =>
  iterate 3 (refine kA rfl (by simp (disch := omega) only [gA,aA,qop,fop,St.ev,St.put,cd,zd,Value.oneCell',lA,TypeDesc.aggB,Z0,Z1,oA,pA,qA,eA,D.pure?,ZC,ZD,mC,tt,Z2] <;> exact rfl) ?_)
  refine bA ?_
  exact hK
 refine jA ?_
 refine uB ?_
 refine vD (ι := Nat) (fun i => i ≤ es.length) (fun i => ⟨[.yld ll (tH es) (cC (es.take i)).length],[.p (.v (.func (.yield ll) #[] #[])),.ept [uC es] 0,.any,.any,.any,.any,.p (uC es),.p (i64 es.length),.p (i64 i),.any,.any,.any,.any,.any,.any,.any,.any,.any,.any,.any,.any,.any,.any,.any,.any,.any],[],[]⟩) (fun i => es.length - i) 0 (by exact Nat.zero_le _) (sC ⟨(by first | rfl | (rw [hnt,List.length_append,List.length_range'])),(by repeat first | exact tA | refine qB ?_ | refine uA (by first | rfl | (rw [hnt,List.length_append,List.length_range'])) ?_),(wB _),(xB _),rfl,rfl⟩) ?_
 rintro i hJ
 refine fA ?_
 refine iA hX hb [0] rfl (σ' := ?s2) (fun K hK => ?h2) ?n2
 case h2 =>
  (refine kA rfl (by simp (disch := omega) only [gA,aA,qop,fop,St.ev,St.put,cd,zd,Value.oneCell',lA,TypeDesc.aggB,Z0,yA,iop,t3,ti3,Z2] <;> exact rfl) ?_)
  refine bA ?_
  exact hK
 refine jA ?_
 refine fA ?_
 refine mB _ rfl (fun hc0 => ?_) (fun hc0 => ?_)
 ·try simp only [Zp,Zi,ZK,ZJ,ne_eq,Zn,Zm,ZB,ZA,ZI,not_or,not_and,Zu] at hc0
  obtain ⟨u,v,huv,hv1,huv2⟩ := gEA h (show i < es.length by omega)
  have hnt := nN (show i < es.length by omega) huv
  refine tB ?_
  refine jA ?_
  refine fA ?_
  refine uB ?_
  refine fA ?_
  refine iA hX hb [0,1,2,3] rfl (σ' := ?s3) (fun K hK => ?h3) ?n3
  case h3 =>
   iterate 4 (refine kA rfl (by simp (disch := omega) only [gA,aA,qop,fop,St.ev,St.put,cd,zd,Value.oneCell',lA,TypeDesc.aggB,Z0,Int.toNat_zero,Int.toNat_one,wA,xA,vA,ZO,Nat.mul_one,ZC,Nat.zero_mul,Zh,Z1,oA,pA,qA,eA,D.pure?,ZD,ZM,ZL,ZG,ZH,St.addBox,Value.cells,iC,D.boxCells,D.live,D.cells?,ZN,St.setVec,tt,Z2,huv] <;> exact rfl) ?_)
   refine bA ?_
   exact hK
  refine jA ?_
  refine fA ?_
  refine iA hX hb [0,1,2] rfl (σ' := ?s4) (fun K hK => ?h4) ?n4
  case h4 =>
   iterate 3 (refine kA rfl (by simp (disch := omega) only [gA,aA,qop,fop,St.ev,St.put,cd,zd,Value.oneCell',lA,TypeDesc.aggB,Z0,cA,mA,Z1,oA,pA,qA,eA,D.pure?,ZC,ZD,tt,Z2] <;> exact rfl) ?_)
   refine bA ?_
   exact hK
  refine jA ?_
  refine uB ?_
  refine vD (ι := Nat) (fun k => k ≤ v) (fun k => ⟨[.yld ll (tH es) ((cC (es.take i)).length + k)],[.p (.v (.func (.yield ll) #[] #[])),.ept [uC es] 0,.any,.any,.ptr 0 0,.any,.p (uC es),.p (i64 es.length),.p (i64 i),.any,.any,.any,.any,.p (i64 v),.p (i64 k),.any,.any,.any,.any,.any,.any,.any,.any,.any,.any,.any],[⟨35,[.p (i64 (u : Int)),.p (i64 (v : Int))]⟩],[]⟩) (fun k => v - k) 0 (by exact Nat.zero_le _) (sC ⟨rfl,(by repeat first | exact tA | refine qB ?_ | refine uA rfl ?_),(vC rfl (uA rfl (uA rfl (tA))) (wB _)),(xB _),rfl,rfl⟩) ?_
  rintro k hk
  refine fA ?_
  refine iA hX hb [0] rfl (σ' := ?s5) (fun K hK => ?h5) ?n5
  case h5 =>
   (refine kA rfl (by simp (disch := omega) only [gA,aA,qop,fop,St.ev,St.put,cd,zd,Value.oneCell',lA,TypeDesc.aggB,Z0,yA,iop,t3,ti3,Z2] <;> exact rfl) ?_)
   refine bA ?_
   exact hK
  refine jA ?_
  refine fA ?_
  refine mB _ rfl (fun hc1 => ?_) (fun hc1 => ?_)
  ·try simp only [Zp,Zi,ZK,ZJ,ne_eq,Zn,Zm,ZB,ZA,ZI,not_or,not_and,Zu] at hc1
   refine tB ?_
   refine jA ?_
   refine fA ?_
   refine uB ?_
   refine fA ?_
   refine iA hX hb [0,1] rfl (σ' := ?s6) (fun K hK => ?h6) ?n6
   case h6 =>
    iterate 2 (refine kA rfl (by simp (disch := omega) only [gA,aA,qop,fop,St.ev,St.put,cd,zd,Value.oneCell',lA,TypeDesc.aggB,Z0,Z2] <;> exact rfl) ?_)
    refine bA ?_
    exact hK
   refine jA ?_
   refine fA ?_
   refine iA hX hb [0,1,2,3,4,5,6] rfl (σ' := ?s7) (fun K hK => ?h7) ?n7
   case h7 =>
    iterate 5 (refine kA rfl (by simp (disch := omega) only [gA,aA,qop,fop,St.ev,St.put,cd,zd,Value.oneCell',lA,TypeDesc.aggB,Z0,cA,mA,Z1,oA,pA,qA,eA,D.pure?,ZC,ZD,yA,iop,sA,D.pv?,Bool.not_true,Bool.not_false,tt,Z2] <;> exact rfl) ?_)
    refine vGA rfl rfl (by simp only [St.ev,nB,oB,zd,cd,Value.oneCell',Zr] <;> exact rfl) (by simp only [sA,nD,D.pvC?,D.pvN?,D.pvL?,eA,D.pv?,D.pure?,St.ev,nB,oB,zd,cd,Value.oneCell',Zr,ZG,ZH,Zd,Zc,Zg] <;> exact rfl) rfl (yV (show i < es.length by omega) huv (show k < v by omega)) (by simp only [St.put,Za,Zb] <;> exact rfl) ?_
    (refine kA rfl (by simp (disch := omega) only [gA,aA,qop,fop,St.ev,St.put,cd,zd,Value.oneCell',lA,TypeDesc.aggB,Z0,cA,mA,Z1,oA,pA,qA,eA,D.pure?,ZC,ZD,yA,iop,sA,D.pv?,Bool.not_true,Bool.not_false,tt,Z2] <;> exact rfl) ?_)
    refine bA ?_
    exact hK
   refine jA ?_
   refine mB _ rfl (fun hc2 => ?_) (fun hc2 => ?_)
   ·try simp only [Zp,Zi,ZK,ZJ,ne_eq,Zn,Zm,ZB,ZA,ZI,not_or,not_and,Zu] at hc2
    cases hc2
   ·try simp only [Zp,Zi,ZK,ZJ,ne_eq,Zn,Zm,ZB,ZA,ZI,not_or,not_and,Zu] at hc2
    refine tB ?_
    refine dE ?_
    refine jA ?_
    refine iA hX hb [0,1] rfl (σ' := ?s8) (fun K hK => ?h8) ?n8
    case h8 =>
     iterate 2 (refine kA rfl (by simp (disch := omega) only [gA,aA,qop,fop,St.ev,St.put,cd,zd,Value.oneCell',lA,TypeDesc.aggB,Z0,yA,iop,tt,Z2] <;> exact rfl) ?_)
     refine bA ?_
     exact hK
    refine jA ?_
    exact ⟨k + 1,by (try dsimp only); omega,by (try dsimp only); omega,sC ⟨rfl,(by repeat first | exact tA | refine qB ?_ | refine uA rfl ?_),(vC rfl (uA rfl (uA rfl (tA))) (wB _)),(xB _),rfl,rfl⟩⟩
  ·try simp only [Zp,Zi,ZK,ZJ,ne_eq,Zn,Zm,ZB,ZA,ZI,not_or,not_and,Zu] at hc1
   obtain rfl : k = v := by omega
   refine sD ?_
   refine fD ?_
   refine fD ?_
   refine dF ?_
   refine dE ?_
   refine jA ?_
   refine iA hX hb [0,1] rfl (σ' := ?s9) (fun K hK => ?h9) ?n9
   case h9 =>
    iterate 2 (refine kA rfl (by simp (disch := omega) only [gA,aA,qop,fop,St.ev,St.put,cd,zd,Value.oneCell',lA,TypeDesc.aggB,Z0,yA,iop,tt,Z2] <;> exact rfl) ?_)
    refine bA ?_
    exact hK
   refine jA ?_
   exact ⟨i + 1,by (try dsimp only); omega,by (try dsimp only); omega,sC ⟨(by first | rfl | (rw [hnt,List.length_append,List.length_range'])),(by repeat first | exact tA | refine qB ?_ | refine uA (by first | rfl | (rw [hnt,List.length_append,List.length_range'])) ?_),(wB _),(xB _),rfl,rfl⟩⟩
 ·try simp only [Zp,Zi,ZK,ZJ,ne_eq,Zn,Zm,ZB,ZA,ZI,not_or,not_and,Zu] at hc0
  refine sD ?_
  refine fD ?_
  refine fD ?_
  refine dF ?_
  exact eV rfl (by first | rfl | ((obtain rfl : i = es.length := by omega); rw [List.take_length,xF]))
theorem c89 (es : List (Int × Int)) : ACalls Try.prog 89 [.p (uC es)] (.p (.clo 114 [uC es])) := by
 refine sO Try.func89 (c := _) rfl (by kernel_rfl) (t := 2) rfl ?_
 intro X hP hX hro hpl
 have hb : tb.Ok X.P := hP ▸ jC
 change AW X _ _ ⟨[],[.p (uC es),.any,.any,.any],[],[]⟩
 refine fA ?_
 refine iA hX hb [0,1] rfl (σ' := ?s1) (fun K hK => ?h1) ?n1
 case h1 =>
  iterate 2 (refine kA rfl (by simp (disch := omega) only [gA,aA,qop,fop,St.ev,St.put,cd,zd,Value.oneCell',lA,TypeDesc.aggB,Z0,ZM,ZL,Zl,Zo,ZG,ZH,St.addBox,D.boxCells,D.live,tt] <;> exact rfl) ?_)
  refine bA ?_
  exact hK
 refine jA ?_
 refine fA ?_
 refine iA hX hb [0,1] rfl (σ' := ?s2) (fun K hK => ?h2) ?n2
 case h2 =>
  iterate 2 (refine kA rfl (by simp (disch := omega) only [gA,aA,qop,fop,St.ev,St.put,cd,zd,Value.oneCell',lA,TypeDesc.aggB,Z0,gL,eq_self,Array.toList,tt] <;> exact rfl) ?_)
  refine bA ?_
  exact hK
 refine jA ?_
 refine bC ?_
 exact rY [0] rfl (by simp only [nD,D.pure?,Zd,Zc] <;> exact rfl)
theorem tNA (l : List Int) (n : Nat) (hn : 1 ≤ n ∧ n ≤ 4294967296) (hl : l.length ≤ 4294967296) : SeqC Try.prog 113 [gG l,i64 n] (xG l n) := by
 refine fV Try.func113 (c := _) rfl (by kernel_rfl) rfl ?_
 intro X ll hP hX _
 have hb : tb.Ok X.P := hP ▸ jC
 change AW X _ _ ⟨[.yld ll (xG l n) 0],[.p (.v (.func (.yield ll) #[] #[])),.ept [gG l] 0,.ept [i64 n] 0,.any,.any,.any,.any,.any,.any,.any,.any,.any,.any,.any,.any,.any,.any,.any,.any,.any,.any,.any,.any,.any,.any,.any,.any,.any,.any,.any,.any],[],[]⟩
 refine fA ?_
 refine iA hX hb [0] rfl (σ' := ?s1) (fun K hK => ?h1) ?n1
 case h1 =>
  (refine kA rfl (by simp (disch := omega) only [gA,aA,qop,fop,St.ev,St.put,cd,zd,Value.oneCell',lA,TypeDesc.aggB,Z0,Zh,ZO,Nat.mul_one] <;> exact rfl) ?_)
  refine bA ?_
  exact hK
 refine jA ?_
 refine uB ?_
 refine vD (ι := Nat) (fun i => i ≤ yD l.length n) (fun i => ⟨[.yld ll (xG l n) i],[.p (.v (.func (.yield ll) #[] #[])),.ept [gG l] 0,.ept [i64 n] 0,.any,.p (i64 (i * n : Nat)),.any,.any,.any,.any,.any,.any,.any,.any,.any,.any,.any,.any,.any,.any,.any,.any,.any,.any,.any,.any,.any,.any,.any,.any,.any,.any],[],[]⟩) (fun i => yD l.length n - i) 0 (by exact Nat.zero_le _) (sC ⟨(by first | rfl | (simp [Nat.succ_mul])),(by repeat first | exact tA | refine qB ?_ | refine uA (by first | rfl | (simp [Nat.succ_mul])) ?_),(wB _),(xB _),rfl,rfl⟩) ?_
 rintro i hJ
 have hin : i * n ≤ l.length + n := by
  rcases Nat.eq_zero_or_pos i with h | h
  ·subst h; omega
  ·have := aO (s := l.length) (n := n) (i := i - 1) (by omega) (by omega)
   have e : (i - 1) * n + n = i * n := by rw [← Nat.succ_mul]; congr 1; omega
   omega
 refine fA ?_
 refine fA ?_
 refine iA hX hb [0,1,2,3] rfl (σ' := ?s2) (fun K hK => ?h2) ?n2
 case h2 =>
  iterate 4 (refine kA rfl (by simp (disch := omega) only [gA,aA,qop,fop,St.ev,St.put,cd,zd,Value.oneCell',lA,TypeDesc.aggB,Z0,Z1,oA,pA,qA,eA,D.pure?,ZC,ZD,mC,yA,iop,tt,Zh,ZO,Nat.mul_one] <;> exact rfl) ?_)
  refine bA ?_
  exact hK
 refine jA ?_
 refine mB _ rfl (fun hc0 => ?_) (fun hc0 => ?_)
 ·try simp only [Zp,Zi,ZK,ZJ,ne_eq,Zn,Zm,ZB,ZA,ZI,not_or,not_and,Zu] at hc0
  have hil := qZ (s := l.length) (n := n) (i := i) (by omega) (by omega)
  refine tB ?_
  refine jA ?_
  refine fA ?_
  refine uB ?_
  refine fA ?_
  refine bF hX hb (gD hP) [(0,true),(1,true),(2,true),(3,true),(4,true),(5,true),(6,true)] (by kernel_rfl) (σ' := ?s3) (fun K hK => ?h3) ?n3
  case h3 =>
   iterate 7 (refine xE rfl (by simp (disch := omega) only [qop,fop,St.ev,St.put,cd,zd,Value.oneCell',lA,TypeDesc.aggB,Z0,Z1,oA,pA,qA,eA,D.pure?,ZC,ZD,imp_self,Int.toNat_one,Int.toNat_zero,Nat.one_mul,rI,bnd,Option.isSome_none,ZP,Option.map_none,implies_true,forall_const,ZO,Nat.sub_zero,mC,eF,tt,Zh,Nat.mul_one] <;> exact rfl) (by simp only [St.put,Za,Zb] <;> exact rfl) ?_)
   refine qC ?_
   exact hK
  refine jA ?_
  refine fA ?_
  refine iA hX hb [0,1,2,3,4,5,6,7,8,9,10,11] rfl (σ' := ?s4) (fun K hK => ?h4) ?n4
  case h4 =>
   iterate 10 (refine kA rfl (by simp (disch := omega) only [gA,aA,qop,fop,St.ev,St.put,cd,zd,Value.oneCell',lA,TypeDesc.aggB,Z0,Z1,oA,pA,qA,eA,D.pure?,ZC,ZD,yA,iop,imp_self,Int.toNat_one,Int.toNat_zero,Nat.one_mul,rI,bnd,Option.isSome_none,ZP,Option.map_none,implies_true,forall_const,ZO,Nat.sub_zero,sA,D.pv?,Bool.not_true,Bool.not_false,tt,Zh,Nat.mul_one] <;> exact rfl) ?_)
   refine vGA rfl rfl (by simp only [St.ev,nB,oB,zd,cd,Value.oneCell',Zr] <;> exact rfl) (by simp only [sA,nD,D.pvC?,D.pvN?,D.pvL?,eA,D.pv?,D.pure?,St.ev,nB,oB,zd,cd,Value.oneCell',Zr,ZG,ZH,Zd,Zc,Zg] <;> exact rfl) rfl ((oN l n i hil).trans (by refine congrArg some (congrArg PV.p ?_); exact (zV l n i _ (by omega)).symm)) (by simp only [St.put,Za,Zb] <;> exact rfl) ?_
   (refine kA rfl (by simp (disch := omega) only [gA,aA,qop,fop,St.ev,St.put,cd,zd,Value.oneCell',lA,TypeDesc.aggB,Z0,Z1,oA,pA,qA,eA,D.pure?,ZC,ZD,yA,iop,imp_self,Int.toNat_one,Int.toNat_zero,Nat.one_mul,rI,bnd,Option.isSome_none,ZP,Option.map_none,implies_true,forall_const,ZO,Nat.sub_zero,sA,D.pv?,Bool.not_true,Bool.not_false,tt,Zh,Nat.mul_one] <;> exact rfl) ?_)
   refine bA ?_
   exact hK
  refine jA ?_
  refine mB _ rfl (fun hc1 => ?_) (fun hc1 => ?_)
  ·try simp only [Zp,Zi,ZK,ZJ,ne_eq,Zn,Zm,ZB,ZA,ZI,not_or,not_and,Zu] at hc1
   cases hc1
  ·try simp only [Zp,Zi,ZK,ZJ,ne_eq,Zn,Zm,ZB,ZA,ZI,not_or,not_and,Zu] at hc1
   refine tB ?_
   refine dE ?_
   refine jA ?_
   refine iA hX hb [0,1,2,3] rfl (σ' := ?s5) (fun K hK => ?h5) ?n5
   case h5 =>
    iterate 4 (refine kA rfl (by simp (disch := omega) only [gA,aA,qop,fop,St.ev,St.put,cd,zd,Value.oneCell',lA,TypeDesc.aggB,Z0,Z1,oA,pA,qA,eA,D.pure?,ZC,ZD,yA,iop,tt,Zh,ZO,Nat.mul_one] <;> exact rfl) ?_)
    refine bA ?_
    exact hK
   refine jA ?_
   exact ⟨i + 1,by (try dsimp only); omega,by (try dsimp only); omega,sC ⟨(by first | rfl | (simp [Nat.succ_mul])),(by repeat first | exact tA | refine qB ?_ | refine uA (by first | rfl | (simp [Nat.succ_mul])) ?_),(wB _),(xB _),rfl,rfl⟩⟩
 ·try simp only [Zp,Zi,ZK,ZJ,ne_eq,Zn,Zm,ZB,ZA,ZI,not_or,not_and,Zu] at hc0
  refine sD ?_
  refine fD ?_
  refine fD ?_
  refine dF ?_
  exact eV rfl (by first | rfl | ((have : ¬ i < yD l.length n := fun h => absurd (aO (by omega) h) (by omega)); rw [xI]; omega))
theorem c87 (l : List Int) (n : Nat) (hn : 1 ≤ n) : ACalls Try.prog 87 [.p (gG l),.p (i64 n)] (.p (.clo 113 [gG l,i64 n])) := by
 refine sO Try.func87 (c := _) rfl (by kernel_rfl) (t := 4) rfl ?_
 intro X hP hX hro hpl
 have hb : tb.Ok X.P := hP ▸ jC
 change AW X _ _ ⟨[],[.p (gG l),.p (i64 n),.any,.any,.any,.any,.any,.any,.any],[],[]⟩
 refine fA ?_
 refine iA hX hb [0,1,2] rfl (σ' := ?s1) (fun K hK => ?h1) ?n1
 case h1 =>
  iterate 3 (refine kA rfl (by simp (disch := omega) only [gA,aA,qop,fop,St.ev,St.put,cd,zd,Value.oneCell',lA,TypeDesc.aggB,Z0,ZM,ZL,Zl,Zo,ZG,ZH,St.addBox,D.boxCells,D.live,tt] <;> exact rfl) ?_)
  refine bA ?_
  exact hK
 refine jA ?_
 refine fA ?_
 refine fA ?_
 refine iA hX hb [0,1] rfl (σ' := ?s2) (fun K hK => ?h2) ?n2
 case h2 =>
  iterate 2 (refine kA rfl (by simp (disch := omega) only [gA,aA,qop,fop,St.ev,St.put,cd,zd,Value.oneCell',lA,TypeDesc.aggB,Z0,Z1,oA,pA,qA,eA,D.pure?,ZC,ZD,yA,iop,tt] <;> exact rfl) ?_)
  refine bA ?_
  exact hK
 refine jA ?_
 refine mB _ rfl (fun hc0 => ?_) (fun hc0 => ?_)
 ·try simp only [Zp,Zi,ZK,ZJ,ne_eq,Zn,Zm,ZB,ZA,ZI,not_or,not_and,Zu] at hc0
  exfalso; omega
 ·try simp only [Zp,Zi,ZK,ZJ,ne_eq,Zn,Zm,ZB,ZA,ZI,not_or,not_and,Zu] at hc0
  refine tB ?_
  refine jA ?_
  refine fA ?_
  refine iA hX hb [0,1] rfl (σ' := ?s3) (fun K hK => ?h3) ?n3
  case h3 =>
   iterate 2 (refine kA rfl (by simp (disch := omega) only [gA,aA,qop,fop,St.ev,St.put,cd,zd,Value.oneCell',lA,TypeDesc.aggB,Z0,gL,eq_self,Array.toList,tt] <;> exact rfl) ?_)
   refine bA ?_
   exact hK
  refine jA ?_
  refine bC ?_
  exact rY [0,1] rfl (by simp only [nD,D.pure?,Zd,Zc] <;> exact rfl)
theorem c93 (es : List (Int × Int)) (n : Nat) (h : kJ es n = 0) : ACalls Try.prog 93 [.p (uC es)] (.p (i64 ((cC es).length : Nat))) := by
 refine oC jC Try.func93 (c := _) rfl (by kernel_rfl) ?_
 intro X hP hX hro hpl
 have hb : tb.Ok X.P := hP ▸ jC
 change AW X _ _ ⟨[],[.p (uC es),.any,.any,.any,.any,.any,.any,.any,.any,.any,.any,.any,.any,.any,.any,.any,.any,.any,.any],[],[]⟩
 have hfe := dL h
 have hfn := oM h
 refine fA ?_
 refine iA hX hb [0] rfl (σ' := ?s1) (fun K hK => ?h1) ?n1
 case h1 =>
  (refine kA rfl (by simp (disch := omega) only [gA,aA,qop,fop,St.ev,St.put,cd,zd,Value.oneCell',lA,TypeDesc.aggB,Z0,Z2] <;> exact rfl) ?_)
  refine bA ?_
  exact hK
 refine jA ?_
 refine fA ?_
 refine iA hX hb [0] rfl (σ' := ?s2) (fun K hK => ?h2) ?n2
 case h2 =>
  (refine kA rfl (by simp (disch := omega) only [gA,aA,qop,fop,St.ev,St.put,cd,zd,Value.oneCell',lA,TypeDesc.aggB,Z0,Z2] <;> exact rfl) ?_)
  refine bA ?_
  exact hK
 refine jA ?_
 refine fA ?_
 refine fA ?_
 refine iA hX hb [0,1,2,3] rfl (σ' := ?s3) (fun K hK => ?h3) ?n3
 case h3 =>
  (refine kA rfl (by simp (disch := omega) only [gA,aA,qop,fop,St.ev,St.put,cd,zd,Value.oneCell',lA,TypeDesc.aggB,Z0,sA,D.pv?,mC,tt,Z2] <;> exact rfl) ?_)
  refine jD rfl (by simp only [aA,St.ev,nB,oB,sA,D.pv?,ZG,ZH,zd,cd,Value.oneCell',Zr] <;> exact rfl) (acK hP (sNA es h)) (by simp only [St.put,Za,Zb] <;> exact rfl) ?_
  iterate 2 (refine kA rfl (by simp (disch := omega) only [gA,aA,qop,fop,St.ev,St.put,cd,zd,Value.oneCell',lA,TypeDesc.aggB,Z0,sA,D.pv?,mC,tt,Z2] <;> exact rfl) ?_)
  refine bA ?_
  exact hK
 refine jA ?_
 refine uB ?_
 refine vD (ι := Nat) (fun i => i ≤ es.length) (fun i => ⟨[],[.any,.any,.any,.p (i64 ((cC (es.take i)).length : Nat)),.any,.any,.any,.p (uC es),.p (i64 es.length),.p (i64 i),.any,.any,.any,.any,.any,.any,.any,.any,.any],[],[]⟩) (fun i => es.length - i) 0 (by exact Nat.zero_le _) (sC ⟨rfl,(by repeat first | exact tA | refine qB ?_ | refine uA (by first | rfl | (rw [hnt,List.length_append,List.length_range']; rfl)) ?_),(wB _),(xB _),rfl,rfl⟩) ?_
 rintro i hJ
 refine fA ?_
 refine iA hX hb [0] rfl (σ' := ?s4) (fun K hK => ?h4) ?n4
 case h4 =>
  (refine kA rfl (by simp (disch := omega) only [gA,aA,qop,fop,St.ev,St.put,cd,zd,Value.oneCell',lA,TypeDesc.aggB,Z0,yA,iop,t3,ti3,Z2] <;> exact rfl) ?_)
  refine bA ?_
  exact hK
 refine jA ?_
 refine fA ?_
 refine mB _ rfl (fun hc0 => ?_) (fun hc0 => ?_)
 ·try simp only [Zp,Zi,ZK,ZJ,ne_eq,Zn,Zm,ZB,ZA,ZI,not_or,not_and,Zu] at hc0
  obtain ⟨u,v,huv,hv1,huv2⟩ := gEA h (show i < es.length by omega)
  have hnt := nN (show i < es.length by omega) huv
  have hns := congrArg List.length (cQ es (i + 1))
  rw [List.length_append,hnt,List.length_append,List.length_range'] at hns
  refine tB ?_
  refine jA ?_
  refine fA ?_
  refine uB ?_
  refine fA ?_
  refine iA hX hb [0,1,2,3] rfl (σ' := ?s5) (fun K hK => ?h5) ?n5
  case h5 =>
   iterate 4 (refine kA rfl (by simp (disch := omega) only [gA,aA,qop,fop,St.ev,St.put,cd,zd,Value.oneCell',lA,TypeDesc.aggB,Z0,Int.toNat_zero,Int.toNat_one,wA,xA,vA,ZO,Nat.mul_one,ZC,Nat.zero_mul,Zh,Z1,oA,pA,qA,eA,D.pure?,ZD,ZM,ZL,ZG,ZH,St.addBox,Value.cells,iC,D.boxCells,D.live,D.cells?,ZN,St.setVec,tt,Z2,huv] <;> exact rfl) ?_)
   refine bA ?_
   exact hK
  refine jA ?_
  refine iA hX hb [0,1,2,3,4] rfl (σ' := ?s6) (fun K hK => ?h6) ?n6
  case h6 =>
   iterate 5 (refine kA rfl (by simp (disch := omega) only [gA,aA,qop,fop,St.ev,St.put,cd,zd,Value.oneCell',lA,TypeDesc.aggB,Z0,cA,mA,Z1,oA,pA,qA,eA,D.pure?,ZC,ZD,yA,iop,tt,Z2] <;> exact rfl) ?_)
   refine bA ?_
   exact hK
  refine dE ?_
  refine jA ?_
  refine iA hX hb [0,1] rfl (σ' := ?s7) (fun K hK => ?h7) ?n7
  case h7 =>
   iterate 2 (refine kA rfl (by simp (disch := omega) only [gA,aA,qop,fop,St.ev,St.put,cd,zd,Value.oneCell',lA,TypeDesc.aggB,Z0,yA,iop,tt,Z2] <;> exact rfl) ?_)
   refine bA ?_
   exact hK
  refine jA ?_
  exact ⟨i + 1,by (try dsimp only); omega,by (try dsimp only); omega,sC ⟨rfl,(by repeat first | exact tA | refine qB ?_ | refine uA (by first | rfl | (rw [hnt,List.length_append,List.length_range']; rfl)) ?_),(wB _),(xB _),rfl,rfl⟩⟩
 ·try simp only [Zp,Zi,ZK,ZJ,ne_eq,Zn,Zm,ZB,ZA,ZI,not_or,not_and,Zu] at hc0
  refine sD ?_
  refine fD ?_
  refine fD ?_
  refine dF ?_
  refine jA ?_
  refine fA ?_
  refine iA hX hb [0,1] rfl (σ' := ?s8) (fun K hK => ?h8) ?n8
  case h8 =>
   iterate 2 (refine kA rfl (by simp (disch := omega) only [gA,aA,qop,fop,St.ev,St.put,cd,zd,Value.oneCell',lA,TypeDesc.aggB,Z0,t3,ti3,Z2] <;> exact rfl) ?_)
   refine bA ?_
   exact hK
  refine jA ?_
  refine bC ?_
  exact tC rfl (sB rfl (by first | rfl | ((obtain rfl : i = es.length := by omega); rw [List.take_length]; rfl)))
theorem uNA (out : List (Int × Int)) (x n : Nat) (hsm : AddS n out) (hn : n ≤ 1000000) (hx : x ≤ 4294967295) : ACallsV Try.prog 117 ⟨35,2,out.length,bE out⟩ ⟨35,2,(nR out (x : Int)).length,bE (nR out (x : Int))⟩ [.p (i64 x)] := by
 refine vY Try.func117 (c := _) rfl (by kernel_rfl) (t := 4) rfl ?_
 intro X hP hX hro hpl
 have hb : tb.Ok X.P := hP ▸ jC
 change AW X _ _ ⟨[],[.vref 0,.p (i64 x),.any,.any,.any,.any,.any,.any,.any,.any,.any,.any,.any,.any,.any,.any,.any,.any,.any,.any,.any,.any,.any,.any,.any,.any,.any,.any,.any,.any,.any,.any,.any,.any,.any,.any,.any,.any,.any,.any,.any,.any],[],[some ⟨35,2,out.length,bE out⟩]⟩
 have hll := hsm.last
 have hol := hsm.1
 refine fA ?_
 refine iA hX hb [0] rfl (σ' := ?s1) (fun K hK => ?h1) ?n1
 case h1 =>
  (refine kA rfl (by simp (disch := omega) only [gA,aA,qop,fop,St.ev,St.put,cd,zd,Value.oneCell',lA,TypeDesc.aggB,Z0,Z2] <;> exact rfl) ?_)
  refine bA ?_
  exact hK
 refine jA ?_
 refine fA ?_
 refine fA ?_
 refine iA hX hb [0,1,2] rfl (σ' := ?s2) (fun K hK => ?h2) ?n2
 case h2 =>
  iterate 3 (refine kA rfl (by simp (disch := omega) only [gA,aA,qop,fop,St.ev,St.put,cd,zd,Value.oneCell',lA,TypeDesc.aggB,Z0,mC,tt,Z2] <;> exact rfl) ?_)
  refine bA ?_
  exact hK
 refine jA ?_
 refine fA ?_
 refine iN hX hb (gD hP) [(0,true),(1,true),(2,true),(3,true),(4,true),(5,true),(6,true),(7,true),(8,true),(9,true),(10,true),(11,true),(12,true),(13,true),(14,true),(15,true),(16,true),(17,true),(18,true)] (by kernel_rfl) (ts := [8,9,10,11,12,13,14,15,16,17,18,19,20,21,22,23,24,25]) (t := 26) (d := .p (bv (0 < out.length ∧ (out.getD (out.length - 1) (0,0)).1 + (out.getD (out.length - 1) (0,0)).2 = (x : Int)))) (σ' := ?s3) ?j3 ?h3 ?n3
 case j3 => simp only [St.join,List.foldl,Za,Zb]; exact rfl
 case h3 =>
  iterate 3 (all_goals refine xE rfl (by simp (disch := omega) only [qop,fop,St.ev,St.put,cd,zd,Value.oneCell',lA,TypeDesc.aggB,Z0,yA,iop,Int.toNat_zero,Int.toNat_one,wA,xA,vA,ZO,Nat.mul_one,ZC,Nat.zero_mul,Zh,cA,mA,Z1,oA,pA,qA,eA,D.pure?,ZD,tt,Z2] <;> exact rfl) (by simp only [St.put,Za,Zb] <;> exact rfl) ?_)
  iterate 15 (all_goals first | (refine jH rfl rfl rfl (by simp (disch := omega) only [qop,fop,St.ev,St.put,cd,zd,Value.oneCell',lA,TypeDesc.aggB,Z0,yA,iop,Int.toNat_zero,Int.toNat_one,wA,xA,vA,ZO,Nat.mul_one,ZC,Nat.zero_mul,Zh,cA,mA,Z1,oA,pA,qA,eA,D.pure?,ZD,tt,Z2] <;> exact rfl) rfl (by simp only [St.put,Za,Zb] <;> exact rfl) ?_) | (first | (refine vF rfl rfl rfl (by simp only [St.put,Za,Zb] <;> exact rfl) ?_) | (refine uF rfl rfl rfl (by simp only [St.put,Za,Zb] <;> exact rfl) ?_)) | (refine pF rfl rfl rfl (by simp only [Za,Zb] <;> exact rfl) (by simp only [Za,Zb] <;> exact rfl) (fun hg => ?_) (fun hg => ?_) <;> (try simp only [Zp,Zi,ZJ,ZK,ne_eq,Zn,Zm,Bool.not_eq_true,Zu] at hg) <;> first | (refine jH rfl rfl rfl (by simp (disch := omega) only [qop,fop,St.ev,St.put,cd,zd,Value.oneCell',lA,TypeDesc.aggB,Z0,yA,iop,Int.toNat_zero,Int.toNat_one,wA,xA,vA,ZO,Nat.mul_one,ZC,Nat.zero_mul,Zh,cA,mA,Z1,oA,pA,qA,eA,D.pure?,ZD,tt,Z2] <;> exact rfl) rfl (by simp only [St.put,Za,Zb] <;> exact rfl) ?_) | (first | (refine vF rfl rfl rfl (by simp only [St.put,Za,Zb] <;> exact rfl) ?_) | (refine uF rfl rfl rfl (by simp only [St.put,Za,Zb] <;> exact rfl) ?_))))
  (all_goals refine xE rfl (by simp (disch := omega) only [qop,fop,St.ev,St.put,cd,zd,Value.oneCell',lA,TypeDesc.aggB,Z0,yA,iop,Int.toNat_zero,Int.toNat_one,wA,xA,vA,ZO,Nat.mul_one,ZC,Nat.zero_mul,Zh,cA,mA,Z1,oA,pA,qA,eA,D.pure?,ZD,tt,Z2] <;> exact rfl) (by simp only [St.put,Za,Zb] <;> exact rfl) ?_)
  all_goals refine qC ?_
  all_goals refine ⟨rfl,?_,pD _,qD _,rfl,rfl⟩
  all_goals repeat' (first | exact tA | refine qB ?_ | refine uA rfl ?_ | refine uA ?_ ?_)
  all_goals refine jn ?_
  all_goals ((try simp only [Zp,Zi,ZJ,ZK,Bool.not_eq_true,Zm,Zn,ne_eq,Zf,true_iff,false_iff,iff_true,iff_false] at *) <;> omega)
 refine jA ?_
 refine mB _ rfl (fun hc0 => ?_) (fun hc0 => ?_)
 ·try simp only [Zp,Zi,ZK,ZJ,ne_eq,Zn,Zm,ZB,ZA,ZI,not_or,not_and,Zu] at hc0
  refine fA ?_
  refine iA hX hb [0,1,2,3,4,5,6,7,8,9] rfl (σ' := ?s4) (fun K hK => ?h4) ?n4
  case h4 =>
   iterate 10 (refine kA rfl (by simp (disch := omega) only [gA,aA,qop,fop,St.ev,St.put,cd,zd,Value.oneCell',lA,TypeDesc.aggB,Z0,yA,iop,Int.toNat_zero,Int.toNat_one,wA,xA,vA,ZO,Nat.mul_one,ZC,Nat.zero_mul,Zh,cA,mA,Z1,oA,pA,qA,eA,D.pure?,ZD,iC,D.boxCells,D.live,D.cells?,ZM,ZL,ZN,ZG,ZH,St.setVec,tt,Z2] <;> exact rfl) ?_)
   refine bA ?_
   exact hK
  refine jA ?_
  refine fA ?_
  refine iA hX hb [0,1] rfl (σ' := ?s5) (fun K hK => ?h5) ?n5
  case h5 =>
   iterate 2 (refine kA rfl (by simp (disch := omega) only [gA,aA,qop,fop,St.ev,St.put,cd,zd,Value.oneCell',lA,TypeDesc.aggB,Z0,Z2] <;> exact rfl) ?_)
   refine bA ?_
   exact hK
  refine jA ?_
  refine bC ?_
  refine nC ?_
  exact oK 0 rfl rfl (by first | rfl | (first | (dsimp only; rw [xV hc0,iO out _ hc0.1]; simp; omega) | (dsimp only; rw [wS (by omega),mD]; simp)))
 ·try simp only [Zp,Zi,ZK,ZJ,ne_eq,Zn,Zm,ZB,ZA,ZI,not_or,not_and,Zu] at hc0
  refine tB ?_
  refine jA ?_
  refine fA ?_
  refine iA hX hb [0,1,2,3,4,5] rfl (σ' := ?s6) (fun K hK => ?h6) ?n6
  case h6 =>
   iterate 6 (refine kA rfl (by simp (disch := omega) only [gA,aA,qop,fop,St.ev,St.put,cd,zd,Value.oneCell',lA,TypeDesc.aggB,Z0,eE,aD,lC,eC,D.cell1,eB,fB,gB,iB,jB,List.all_cons,List.all_nil,zC,TI.place,TI.zeros,TI.kindOk,D.cells?,D.pure?,zp,Value.cells,ZQ,ZP,Z1,zD,wC,xC,aE,bB,rB,ZG,ZH,ZL,ZM,ZN,zA,Nat.reduceAdd,Nat.reduceMul,cE,qG,St.demote,D.demote,St.setVec,Zh,List.length_append,ZC,Nat.mul_one,reduceIte,tt,Z2] <;> exact rfl) ?_)
   refine bA ?_
   exact hK
  refine jA ?_
  refine bC ?_
  exact oK 0 rfl rfl (by first | rfl | (first | (dsimp only; rw [xV hc0,iO out _ hc0.1]; simp; omega) | (dsimp only; rw [wS (by omega),mD]; simp)))
theorem c82 (t : Tr) (h : t.lv.length ≤ 4096 ∧ ∀ r ∈ t.lv,r.length ≤ 4096) : ACalls Try.prog 82 [trP t] (trP t |>.d) := by
 obtain ⟨s,f,lv⟩ := t
 dsimp only at h
 refine oC jC Try.func82 (c := _) rfl (by kernel_rfl) ?_
 intro X hP hX hro hpl
 have hb : tb.Ok X.P := hP ▸ jC
 change AW X _ _ ⟨[],[.agg [i64 s,i64 f,xD lv],.any,.any,.any,.any,.any,.any,.any,.any,.any,.any,.any,.any,.any,.any,.any,.any,.any,.any,.any,.any,.any,.any,.any,.any,.any],[],[]⟩
 refine fA ?_
 refine iA hX hb [0,1] rfl (σ' := ?s1) (fun K hK => ?h1) ?n1
 case h1 =>
  iterate 2 (refine kA rfl (by simp (disch := omega) only [gA,aA,qop,fop,St.ev,St.put,cd,zd,Value.oneCell',lA,TypeDesc.aggB,Z0,ZM,ZL,Zl,Zo,ZG,ZH,St.addBox,D.boxCells,D.live,Value.cells,tt,nA,Zh] <;> exact rfl) ?_)
  refine bA ?_
  exact hK
 refine jA ?_
 refine fA ?_
 refine iA hX hb [0,1,2,3,4] rfl (σ' := ?s2) (fun K hK => ?h2) ?n2
 case h2 =>
  iterate 5 (refine kA rfl (by simp (disch := omega) only [gA,aA,qop,fop,St.ev,St.put,cd,zd,Value.oneCell',lA,TypeDesc.aggB,Z0,cA,mA,Z1,oA,pA,qA,eA,D.pure?,ZC,ZD,mC,pO,St.addVec,tt,nA,Zh,zp,ZO,List.replicate] <;> exact rfl) ?_)
  refine bA ?_
  exact hK
 refine jA ?_
 refine fA ?_
 refine fA ?_
 refine iA hX hb [0,1,2,3] rfl (σ' := ?s3) (fun K hK => ?h3) ?n3
 case h3 =>
  iterate 4 (refine kA rfl (by simp (disch := omega) only [gA,aA,qop,fop,St.ev,St.put,cd,zd,Value.oneCell',lA,TypeDesc.aggB,Z0,cA,mA,Z1,oA,pA,qA,eA,D.pure?,ZC,ZD,mC,tt,nA,Zh] <;> exact rfl) ?_)
  refine bA ?_
  exact hK
 refine jA ?_
 refine uB ?_
 refine vD (ι := Nat) (fun i => i ≤ lv.length) (fun i => ⟨[],[.any,.ptr 0 0,.ptr 1 0,.vref 0,.any,.any,.any,.any,.any,.any,.any,.p (xD lv),.p (i64 lv.length),.p (i64 i),.any,.any,.any,.any,.any,.any,.any,.any,.any,.any,.any,.any],[⟨26,[.p (i64 s),.p (i64 f),.p (xD lv)]⟩,⟨26,[.p (i64 0),.p (i64 0),.nil]⟩],[some ⟨60,1,(lv.take i).length,(lv.take i).map cH⟩]⟩) (fun i => lv.length - i) 0 (by exact Nat.zero_le _) (sC ⟨rfl,(by repeat first | exact tA | refine qB ?_ | refine uA (by first | rfl | (rw [fE lv i (by omega)]; simp)) ?_),(vC rfl ((by repeat first | exact tA | refine qB ?_ | refine uA (by first | rfl | (rw [fE lv i (by omega)]; simp)) ?_)) (vC rfl ((by repeat first | exact tA | refine qB ?_ | refine uA (by first | rfl | (rw [fE lv i (by omega)]; simp)) ?_)) (wB _))),(zE (by first | rfl | (rw [fE lv i (by omega)]; simp)) (xB _)),rfl,rfl⟩) ?_
 rintro i hJ
 have hli : (lv.take i).length = i := by rw [List.length_take]; omega
 refine fA ?_
 refine iA hX hb [0] rfl (σ' := ?s4) (fun K hK => ?h4) ?n4
 case h4 =>
  (refine kA rfl (by simp (disch := omega) only [gA,aA,qop,fop,St.ev,St.put,cd,zd,Value.oneCell',lA,TypeDesc.aggB,Z0,yA,iop,t3,ti3,nA,Zh] <;> exact rfl) ?_)
  refine bA ?_
  exact hK
 refine jA ?_
 refine fA ?_
 refine mB _ rfl (fun hc0 => ?_) (fun hc0 => ?_)
 ·try simp only [Zp,Zi,ZK,ZJ,ne_eq,Zn,Zm,ZB,ZA,ZI,not_or,not_and,Zu] at hc0
  have hri := h.2 _ (tE lv [] i (by omega))
  refine tB ?_
  refine jA ?_
  refine fA ?_
  refine uB ?_
  refine fA ?_
  refine iA hX hb [0,1,2] rfl (σ' := ?s5) (fun K hK => ?h5) ?n5
  case h5 =>
   iterate 3 (refine kA rfl (by simp (disch := omega) only [gA,aA,qop,fop,St.ev,St.put,cd,zd,Value.oneCell',lA,TypeDesc.aggB,Z0,Int.toNat_zero,Int.toNat_one,wA,xA,vA,ZO,Nat.mul_one,ZC,Nat.zero_mul,Zh,Z1,oA,pA,qA,eA,D.pure?,ZD,tt,nA] <;> exact rfl) ?_)
   refine bA ?_
   exact hK
  refine jA ?_
  refine iA hX hb [0,1,2,3,4,5] rfl (σ' := ?s6) (fun K hK => ?h6) ?n6
  case h6 =>
   iterate 2 (refine kA rfl (by simp (disch := omega) only [gA,aA,qop,fop,St.ev,St.put,cd,zd,Value.oneCell',lA,TypeDesc.aggB,Z0,sA,D.pv?,zD,wC,xC,aE,bB,rB,D.cells?,D.pure?,eB,fB,gB,iB,jB,ZG,ZH,ZL,ZM,ZN,Zl,Zo,zA,Nat.reduceAdd,Nat.reduceMul,cE,qG,St.demote,D.demote,St.setVec,Zh,List.length_append,ZC,Nat.mul_one,reduceIte,tt,nA] <;> exact rfl) ?_)
   refine jD rfl (by simp only [aA,St.ev,nB,oB,sA,D.pv?,ZG,ZH,zd,cd,Value.oneCell',Zr] <;> exact rfl) (acK hP ((o72 (lv.getD i []) (by omega)).pure)) (by simp only [St.put,Za,Zb] <;> exact rfl) ?_
   iterate 3 (refine kA rfl (by simp (disch := omega) only [gA,aA,qop,fop,St.ev,St.put,cd,zd,Value.oneCell',lA,TypeDesc.aggB,Z0,sA,D.pv?,zD,wC,xC,aE,bB,rB,D.cells?,D.pure?,eB,fB,gB,iB,jB,ZG,ZH,ZL,ZM,ZN,Zl,Zo,zA,Nat.reduceAdd,Nat.reduceMul,cE,qG,St.demote,D.demote,St.setVec,Zh,List.length_append,ZC,Nat.mul_one,reduceIte,tt,nA] <;> exact rfl) ?_)
   refine bA ?_
   exact hK
  refine dE ?_
  refine jA ?_
  refine iA hX hb [0,1] rfl (σ' := ?s7) (fun K hK => ?h7) ?n7
  case h7 =>
   iterate 2 (refine kA rfl (by simp (disch := omega) only [gA,aA,qop,fop,St.ev,St.put,cd,zd,Value.oneCell',lA,TypeDesc.aggB,Z0,yA,iop,tt,nA,Zh] <;> exact rfl) ?_)
   refine bA ?_
   exact hK
  refine jA ?_
  exact ⟨i + 1,by (try dsimp only); omega,by (try dsimp only); omega,sC ⟨rfl,(by repeat first | exact tA | refine qB ?_ | refine uA (by first | rfl | (rw [fE lv i (by omega)]; simp)) ?_),(vC rfl ((by repeat first | exact tA | refine qB ?_ | refine uA (by first | rfl | (rw [fE lv i (by omega)]; simp)) ?_)) (vC rfl ((by repeat first | exact tA | refine qB ?_ | refine uA (by first | rfl | (rw [fE lv i (by omega)]; simp)) ?_)) (wB _))),(zE (by first | rfl | (rw [fE lv i (by omega)]; simp)) (xB _)),rfl,rfl⟩⟩
 ·try simp only [Zp,Zi,ZK,ZJ,ne_eq,Zn,Zm,ZB,ZA,ZI,not_or,not_and,Zu] at hc0
  refine sD ?_
  refine fD ?_
  refine fD ?_
  refine dF ?_
  refine jA ?_
  refine fA ?_
  obtain rfl : i = lv.length := by omega
  refine mI 0 rfl (σ' := ?s9) ?h9 ?n9
  case h9 => simp only [St.freeze,D.freeze,ZG,ZH,Za,Zb,Zr,reduceIte,Nat.reduceEqDiff]; exact rfl
  refine iA hX hb [0,1,2] rfl (σ' := ?s8) (fun K hK => ?h8) ?n8
  case h8 =>
   iterate 3 (refine kA rfl (by simp (disch := omega) only [gA,aA,qop,fop,St.ev,St.put,cd,zd,Value.oneCell',lA,TypeDesc.aggB,Z0,cA,mA,iC,D.boxCells,D.live,D.cells?,D.pure?,ZM,ZL,ZN,Z1,ZG,ZH,St.setVec,ZC,tt,nA,Zh] <;> exact rfl) ?_)
   refine bA ?_
   exact hK
  refine jA ?_
  refine fA ?_
  refine iA hX hb [0,1] rfl (σ' := ?s10) (fun K hK => ?h10) ?n10
  case h10 =>
   iterate 2 (refine kA rfl (by simp (disch := omega) only [gA,aA,qop,fop,St.ev,St.put,cd,zd,Value.oneCell',lA,TypeDesc.aggB,Z0,Z1,oA,pA,qA,eA,D.pure?,ZC,ZD,iC,D.boxCells,D.live,D.cells?,ZM,ZL,ZN,ZG,ZH,St.setVec,tt,nA,Zh] <;> exact rfl) ?_)
   refine bA ?_
   exact hK
  refine jA ?_
  refine bC ?_
  exact tC rfl (sB (by simp only [qE,oA,pA,lA,TypeDesc.aggB,eA,D.pure?,D.pv?,nB,oB,Zd,Zc,Zw,Zk,Zv,Zj,Zx,Zl,Zo,Zr,reduceIte,Nat.reduceAdd,Nat.reduceLeDiff,Zg,Zf,tt] <;> exact rfl) (by first | rfl | (rw [List.take_length])))
end Go.Proofs.Ytldcoekbgfaomaa
end
section
namespace Go.Proofs.Ytldcoekbgfaomaa
open Go.RowKit
set_option maxRecDepth 20000
set_option maxHeartbeats 4000000
attribute [local irreducible] jE oD AW
theorem dZ {cs : List P1} (h : ∀ c ∈ cs,iL c ≠ some .u64) (l : List Int) : NoFit cs (cH l) := by
 refine .sl _ _ (fun x hx => ?_) (fun h0 => by simpa using h0) (fun hne o => ?_)
 ·obtain ⟨n,_,rfl⟩ := List.mem_map.1 hx
  exact .v _
 ·cases l with
  | nil => exact absurd rfl hne
  | cons n l => exact ⟨0,u64 n,rfl,fun c hc => h c (List.mem_of_getElem? hc)⟩
theorem eZ {cs : List P1} {l : List Int} (h3 : 3 ≤ l.length) (h : ∀ o,∃ j,j < 3 ∧ ∀ c,cs[o + j]? = some c → iL c ≠ some .i64) : NoFit cs (gG l) := by
 refine .sl _ _ (fun x hx => ?_) (fun h0 => by simpa using h0) (fun hne o => ?_)
 ·obtain ⟨n,_,rfl⟩ := List.mem_map.1 hx
  exact .v _
 ·obtain ⟨j,hj,hc⟩ := h o
  exact ⟨j,i64 (l.getD j 0),rA i64 l j (by omega),hc⟩
theorem fZ (s f : Int) (lv : List (List Int)) (p : P1) (hp : iL p = none) (le : Int) (fo : List (Int × Int)) (se : Int) (dn : Bool) : ∀ c ∈ [i64 s,i64 f,xD lv,p,i64 le,uC fo,i64 se,bv dn],iL c ≠ some .u64 := by
 intro c hc
 simp only [List.mem_cons,List.not_mem_nil,or_false] at hc
 rcases hc with rfl | rfl | rfl | rfl | rfl | rfl | rfl | rfl <;> first | (rw [hp]; simp) | simp [iL,tW]
theorem xAA (s f : Int) (lv : List (List Int)) (pd : List (Int × Int)) (le : Int) (fo : List (Int × Int)) (se : Int) (dn : Bool) : ∀ o,∃ j,j < 3 ∧ ∀ c,[i64 s,i64 f,xD lv,uC pd,i64 le,uC fo,i64 se,bv dn][o + j]? = some c → iL c ≠ some .i64 := by
 intro o
 match o with
 | 0 => exact ⟨2,by omega,fun c hc => by simp at hc; subst hc; simp [iL]⟩
 | 1 => exact ⟨1,by omega,fun c hc => by simp at hc; subst hc; simp [iL]⟩
 | 2 => exact ⟨0,by omega,fun c hc => by simp at hc; subst hc; simp [iL]⟩
 | 3 => exact ⟨0,by omega,fun c hc => by simp at hc; subst hc; simp [iL]⟩
 | 4 => exact ⟨1,by omega,fun c hc => by simp at hc; subst hc; simp [iL]⟩
 | 5 => exact ⟨0,by omega,fun c hc => by simp at hc; subst hc; simp [iL]⟩
 | 6 => exact ⟨1,by omega,fun c hc => by simp at hc; subst hc; simp [iL,tW]⟩
 | 7 => exact ⟨0,by omega,fun c hc => by simp at hc; subst hc; simp [iL,tW]⟩
 | o + 8 => exact ⟨0,by omega,fun c hc => by simp at hc⟩
theorem yAA (s f : Int) (lv : List (List Int)) (pd : List (Int × Int)) (le : Int) (fo : List (Int × Int)) (se : Int) (dn : Bool) (hp : pd ≠ []) : D.NoFit [i64 s,i64 f,xD lv,uC pd,i64 le,uC fo,i64 se,bv dn] (.agg (msC (wK ⟨⟨s,f,lv⟩,pd,le,fo,se,dn⟩))) := by
 refine .agg _ fun x hx => ?_
 simp only [msC,List.mem_cons,List.not_mem_nil,or_false] at hx
 rcases hx with rfl | rfl | rfl | rfl | rfl | rfl | rfl | rfl
 iterate 6 exact .v _
 ·refine eZ ?_ (xAA s f lv pd le fo se dn)
  show 3 ≤ (nI _).length
  cases pd with
  | nil => exact absurd rfl hp
  | cons e r => simp [nI]
 ·exact .sl _ _ (fun x hx => by cases hx) (fun _ => rfl) (fun h => absurd rfl h)
theorem m83 (s f : Int) (lv : List (List Int)) (pd : List (Int × Int)) (le : Int) (fo : List (Int × Int)) (se : Int) (dn : Bool) (hl : pd.length ≤ 1000000) : ACallsM Try.prog 83 139 [i64 s,i64 f,xD lv,uC pd,i64 le,uC fo,i64 se,bv dn] [i64 s,i64 f,xD lv,uC pd,i64 le,uC fo,i64 se,bv dn] [] (.agg (msC (wK ⟨⟨s,f,lv⟩,pd,le,fo,se,dn⟩))) := by
 refine qK jC Try.func83 (c := _) rfl (by kernel_rfl) ?_
 intro X hP hX hro hpl
 have hb : tb.Ok X.P := hP ▸ jC
 change AW X _ _ ⟨[.pin 1],[.ptr 0 0,.any,.any,.any,.any,.any,.any,.any,.any,.any,.any,.any,.any,.any,.any,.any,.any,.any,.any,.any,.any,.any,.any,.any,.any,.any,.any,.any,.any,.any,.any,.any,.any,.any,.any,.any,.any,.any,.any,.any,.any,.any,.any,.any],[⟨139,[.p (i64 s),.p (i64 f),.p (xD lv),.p (uC pd),.p (i64 le),.p (uC fo),.p (i64 se),.p (bv dn)]⟩],[]⟩
 refine fA ?_
 refine iA hX hb [0] rfl (σ' := ?s1) (fun K hK => ?h1) ?n1
 case h1 =>
  (refine kA rfl (by simp (disch := omega) only [gA,aA,qop,fop,St.ev,St.put,cd,zd,Value.oneCell',lA,TypeDesc.aggB,Z0,ZM,ZL,Zl,Zo,ZG,ZH,St.addBox,Value.cells,tt,Z2,Zh,wD] <;> exact rfl) ?_)
  refine bA ?_
  exact hK
 refine jA ?_
 refine fA ?_
 refine bF hX (jN [18] hb) (gD hP) [(0,true),(1,true),(2,true),(3,true),(4,true),(5,true),(6,true),(7,true),(8,true),(9,true),(10,true),(11,true),(12,false),(13,true)] (by kernel_rfl) (σ' := ?s2) (fun K hK => ?h2) ?n2
 case h2 =>
  iterate 12 (refine xE rfl (by simp (disch := omega) only [qop,fop,St.ev,St.put,cd,zd,Value.oneCell',lA,TypeDesc.aggB,Z0,cA,mA,Z1,oA,pA,qA,eA,D.pure?,ZC,ZD,zD,wC,xC,aE,bB,rB,D.cells?,eB,fB,gB,iB,jB,ZG,ZH,ZL,ZM,ZN,zA,Nat.reduceAdd,Nat.reduceMul,tt,Z2,Zh,wD,xM,qI,nH,St.addVec] <;> exact rfl) (by simp only [St.put,Za,Zb] <;> exact rfl) ?_)
  (refine vG rfl (by simp (disch := omega) only [gA,aA,qop,fop,St.ev,St.put,cd,zd,Value.oneCell',lA,TypeDesc.aggB,Z0,cA,mA,Z1,oA,pA,qA,eA,D.pure?,ZC,ZD,zD,wC,xC,aE,bB,rB,D.cells?,eB,fB,gB,iB,jB,ZG,ZH,ZL,ZM,ZN,zA,Nat.reduceAdd,Nat.reduceMul,tt,Z2,Zh,wD,xM,qI,nH,St.addVec] <;> exact rfl) ?_)
  (refine xE rfl (by simp (disch := omega) only [qop,fop,St.ev,St.put,cd,zd,Value.oneCell',lA,TypeDesc.aggB,Z0,cA,mA,Z1,oA,pA,qA,eA,D.pure?,ZC,ZD,zD,wC,xC,aE,bB,rB,D.cells?,eB,fB,gB,iB,jB,ZG,ZH,ZL,ZM,ZN,zA,Nat.reduceAdd,Nat.reduceMul,tt,Z2,Zh,wD,xM,qI,nH,St.addVec] <;> exact rfl) (by simp only [St.put,Za,Zb] <;> exact rfl) ?_)
  refine qC ?_
  exact hK
 refine jA ?_
 refine fA ?_
 refine fA ?_
 refine iA hX hb [0,1,2,3,4,5,6] rfl (σ' := ?s3) (fun K hK => ?h3) ?n3
 case h3 =>
  iterate 7 (refine kA rfl (by simp (disch := omega) only [gA,aA,qop,fop,St.ev,St.put,cd,zd,Value.oneCell',lA,TypeDesc.aggB,Z0,cA,mA,Z1,oA,pA,qA,eA,D.pure?,ZC,ZD,mC,tt,Z2,Zh,wD] <;> exact rfl) ?_)
  refine bA ?_
  exact hK
 refine jA ?_
 refine uB ?_
 refine vD (ι := Nat) (fun i => i ≤ pd.length) (fun i => ⟨[.pin 1],[.ptr 0 0,.any,.ptr 1 0,.vref 0,.any,.any,.any,.any,.any,.any,.any,.any,.any,.any,.any,.any,.any,.any,.any,.any,.any,.any,.any,.p (uC pd),.p (i64 pd.length),.p (i64 i),.any,.any,.any,.any,.any,.any,.any,.any,.any,.any,.any,.any,.any,.any,.any,.any,.any,.any],[⟨139,[.p (i64 s),.p (i64 f),.p (xD lv),.p (uC pd),.p (i64 le),.p (uC fo),.p (i64 se),.p (bv dn)]⟩,⟨90,[.p (i64 0),.p (i64 0),.p (i64 0),.p (i64 0),.p (i64 0),.p (i64 0),.nil,.nil]⟩],[some ⟨3,1,(([s,f] ++ (pd.take i).flatMap fun e => [e.1,e.2])).length,(([s,f] ++ (pd.take i).flatMap fun e => [e.1,e.2])).map i64⟩]⟩) (fun i => pd.length - i) 0 (by exact Nat.zero_le _) (sC ⟨(by first | rfl | (rw [sE s f pd i (by omega)]; simp [-List.length_flatMap,wD])),(by repeat first | exact tA | refine qB ?_ | refine uA (by first | rfl | (rw [sE s f pd i (by omega)]; simp [-List.length_flatMap,wD])) ?_),(vC rfl ((by repeat first | exact tA | refine qB ?_ | refine uA (by first | rfl | (rw [sE s f pd i (by omega)]; simp [-List.length_flatMap,wD])) ?_)) (vC rfl ((by repeat first | exact tA | refine qB ?_ | refine uA (by first | rfl | (rw [sE s f pd i (by omega)]; simp [-List.length_flatMap,wD])) ?_)) (wB _))),(zE (by first | rfl | (rw [sE s f pd i (by omega)]; simp [-List.length_flatMap,wD])) (xB _)),rfl,rfl⟩) ?_
 rintro i hJ
 have hti : (pd.take i).length = i := by rw [List.length_take]; omega
 have hpl : ((pd.take i).flatMap fun e => [e.1,e.2]).length = i * 2 := by rw [wD,List.length_take]; omega
 refine fA ?_
 refine iA hX hb [0] rfl (σ' := ?s4) (fun K hK => ?h4) ?n4
 case h4 =>
  (refine kA rfl (by simp (disch := omega) only [gA,aA,qop,fop,St.ev,St.put,cd,zd,Value.oneCell',lA,TypeDesc.aggB,Z0,yA,iop,tt,Z2,Zh,wD] <;> exact rfl) ?_)
  refine bA ?_
  exact hK
 refine jA ?_
 refine fA ?_
 refine mB _ rfl (fun hc0 => ?_) (fun hc0 => ?_)
 ·try simp only [Zp,Zi,ZK,ZJ,ne_eq,Zn,Zm,ZB,ZA,ZI,not_or,not_and,Zu] at hc0
  refine tB ?_
  refine jA ?_
  refine fA ?_
  refine uB ?_
  refine fA ?_
  refine iA hX hb [0,1,2,3] rfl (σ' := ?s5) (fun K hK => ?h5) ?n5
  case h5 =>
   iterate 4 (refine kA rfl (by simp (disch := omega) only [gA,aA,qop,fop,St.ev,St.put,cd,zd,Value.oneCell',lA,TypeDesc.aggB,Z0,Int.toNat_zero,Int.toNat_one,wA,xA,vA,ZO,Nat.mul_one,ZC,Nat.zero_mul,Zh,Z1,oA,pA,qA,eA,D.pure?,ZD,ZM,ZL,ZG,ZH,St.addBox,Value.cells,iC,D.boxCells,D.live,D.cells?,ZN,St.setVec,tt,Z2,wD] <;> exact rfl) ?_)
   refine bA ?_
   exact hK
  refine jA ?_
  refine iA hX hb [0,1,2,3,4,5,6,7] rfl (σ' := ?s6) (fun K hK => ?h6) ?n6
  case h6 =>
   iterate 8 (refine kA rfl (by simp (disch := omega) only [gA,aA,qop,fop,St.ev,St.put,cd,zd,Value.oneCell',lA,TypeDesc.aggB,Z0,cA,mA,Z1,oA,pA,qA,eA,D.pure?,ZC,ZD,zD,wC,xC,aE,bB,rB,D.cells?,eB,fB,gB,iB,jB,ZG,ZH,ZL,ZM,ZN,zA,Nat.reduceAdd,Nat.reduceMul,cE,qG,St.demote,D.demote,St.setVec,Zh,List.length_append,Nat.mul_one,reduceIte,tt,Z2,wD] <;> exact rfl) ?_)
   refine bA ?_
   exact hK
  refine dE ?_
  refine jA ?_
  refine iA hX hb [0,1] rfl (σ' := ?s7) (fun K hK => ?h7) ?n7
  case h7 =>
   iterate 2 (refine kA rfl (by simp (disch := omega) only [gA,aA,qop,fop,St.ev,St.put,cd,zd,Value.oneCell',lA,TypeDesc.aggB,Z0,yA,iop,tt,Z2,Zh,wD] <;> exact rfl) ?_)
   refine bA ?_
   exact hK
  refine jA ?_
  exact ⟨i + 1,by (try dsimp only); omega,by (try dsimp only); omega,sC ⟨(by first | rfl | (rw [sE s f pd i (by omega)]; simp [-List.length_flatMap,wD])),(by repeat first | exact tA | refine qB ?_ | refine uA (by first | rfl | (rw [sE s f pd i (by omega)]; simp [-List.length_flatMap,wD])) ?_),(vC rfl ((by repeat first | exact tA | refine qB ?_ | refine uA (by first | rfl | (rw [sE s f pd i (by omega)]; simp [-List.length_flatMap,wD])) ?_)) (vC rfl ((by repeat first | exact tA | refine qB ?_ | refine uA (by first | rfl | (rw [sE s f pd i (by omega)]; simp [-List.length_flatMap,wD])) ?_)) (wB _))),(zE (by first | rfl | (rw [sE s f pd i (by omega)]; simp [-List.length_flatMap,wD])) (xB _)),rfl,rfl⟩⟩
 ·try simp only [Zp,Zi,ZK,ZJ,ne_eq,Zn,Zm,ZB,ZA,ZI,not_or,not_and,Zu] at hc0
  refine sD ?_
  refine fD ?_
  refine fD ?_
  refine dF ?_
  refine jA ?_
  refine fA ?_
  obtain rfl : i = pd.length := by omega
  refine mI 0 rfl (σ' := ?s9) ?h9 ?n9
  case h9 => simp only [St.freeze,D.freeze,ZG,ZH,Za,Zb,Zr,reduceIte,Nat.reduceEqDiff]; exact rfl
  refine iA hX hb [0,1,2,3,4,5,6,7] rfl (σ' := ?s8) (fun K hK => ?h8) ?n8
  case h8 =>
   iterate 8 (refine kA rfl (by simp (disch := omega) only [gA,aA,qop,fop,St.ev,St.put,cd,zd,Value.oneCell',lA,TypeDesc.aggB,Z0,cA,mA,Z1,oA,pA,qA,eA,D.pure?,ZC,ZD,eE,aD,lC,eC,D.cell1,eB,fB,gB,iB,jB,List.all_cons,List.all_nil,zC,TI.place,TI.zeros,TI.kindOk,D.cells?,zp,Value.cells,ZQ,ZP,iC,D.boxCells,D.live,ZM,ZL,ZN,ZG,ZH,St.setVec,tt,Z2,Zh,wD] <;> exact rfl) ?_)
   refine bA ?_
   exact hK
  refine jA ?_
  refine bC ?_
  exact kCA (sB (by simp only [qE,oA,pA,lA,TypeDesc.aggB,eA,D.pure?,D.pv?,nB,oB,Zd,Zc,Zw,Zk,Zv,Zj,Zx,Zl,Zo,Zr,reduceIte,Nat.reduceAdd,Nat.reduceLeDiff,Zg,Zf,tt] <;> exact rfl) (by first | rfl | (simp [-List.length_flatMap,msC,wK,nI,wD,PV.d]))) rfl rfl (by first | (simp only [eA,D.pure?] <;> exact rfl))
theorem r83 (s f : Int) (lv : List (List Int)) (pd : List (Int × Int)) (le : Int) (fo : List (Int × Int)) (se : Int) (dn : Bool) (hl : pd.length ≤ 1000000) (hp : pd ≠ []) : ACallsR Try.prog 83 139 [i64 s,i64 f,xD lv,uC pd,i64 le,uC fo,i64 se,bv dn] [] (.agg (msC (wK ⟨⟨s,f,lv⟩,pd,le,fo,se,dn⟩))) := by
 refine lS jC Try.func83 (c := _) rfl (by kernel_rfl) (yAA s f lv pd le fo se dn hp) ?_
 intro X hP hX hro hpl
 have hb : tb.Ok X.P := hP ▸ jC
 change AW X _ _ ⟨[],[.ept [i64 s,i64 f,xD lv,uC pd,i64 le,uC fo,i64 se,bv dn] 0,.any,.any,.any,.any,.any,.any,.any,.any,.any,.any,.any,.any,.any,.any,.any,.any,.any,.any,.any,.any,.any,.any,.any,.any,.any,.any,.any,.any,.any,.any,.any,.any,.any,.any,.any,.any,.any,.any,.any,.any,.any,.any,.any],[],[]⟩
 refine fA ?_
 refine iA hX hb [0] rfl (σ' := ?s1) (fun K hK => ?h1) ?n1
 case h1 =>
  (refine kA rfl (by simp (disch := omega) only [gA,aA,qop,fop,St.ev,St.put,cd,zd,Value.oneCell',lA,TypeDesc.aggB,Z0,ZM,ZL,Zl,Zo,ZG,ZH,St.addBox,Value.cells,tt,Z2,Zh,wD] <;> exact rfl) ?_)
  refine bA ?_
  exact hK
 refine jA ?_
 refine fA ?_
 refine bF hX (jN [18] hb) (gD hP) [(0,true),(1,true),(2,true),(3,true),(4,true),(5,true),(6,true),(7,true),(8,true),(9,true),(10,true),(11,true),(12,false),(13,true)] (by kernel_rfl) (σ' := ?s2) (fun K hK => ?h2) ?n2
 case h2 =>
  iterate 12 (refine xE rfl (by simp (disch := omega) only [qop,fop,St.ev,St.put,cd,zd,Value.oneCell',lA,TypeDesc.aggB,Z0,cA,mA,Z1,oA,pA,qA,eA,D.pure?,ZC,ZD,zD,wC,xC,aE,bB,rB,D.cells?,eB,fB,gB,iB,jB,ZG,ZH,ZL,ZM,ZN,zA,Nat.reduceAdd,Nat.reduceMul,tt,Z2,Zh,wD,xM,qI,nH,St.addVec] <;> exact rfl) (by simp only [St.put,Za,Zb] <;> exact rfl) ?_)
  (refine vG rfl (by simp (disch := omega) only [gA,aA,qop,fop,St.ev,St.put,cd,zd,Value.oneCell',lA,TypeDesc.aggB,Z0,cA,mA,Z1,oA,pA,qA,eA,D.pure?,ZC,ZD,zD,wC,xC,aE,bB,rB,D.cells?,eB,fB,gB,iB,jB,ZG,ZH,ZL,ZM,ZN,zA,Nat.reduceAdd,Nat.reduceMul,tt,Z2,Zh,wD,xM,qI,nH,St.addVec] <;> exact rfl) ?_)
  (refine xE rfl (by simp (disch := omega) only [qop,fop,St.ev,St.put,cd,zd,Value.oneCell',lA,TypeDesc.aggB,Z0,cA,mA,Z1,oA,pA,qA,eA,D.pure?,ZC,ZD,zD,wC,xC,aE,bB,rB,D.cells?,eB,fB,gB,iB,jB,ZG,ZH,ZL,ZM,ZN,zA,Nat.reduceAdd,Nat.reduceMul,tt,Z2,Zh,wD,xM,qI,nH,St.addVec] <;> exact rfl) (by simp only [St.put,Za,Zb] <;> exact rfl) ?_)
  refine qC ?_
  exact hK
 refine jA ?_
 refine fA ?_
 refine fA ?_
 refine iA hX hb [0,1,2,3,4,5,6] rfl (σ' := ?s3) (fun K hK => ?h3) ?n3
 case h3 =>
  iterate 7 (refine kA rfl (by simp (disch := omega) only [gA,aA,qop,fop,St.ev,St.put,cd,zd,Value.oneCell',lA,TypeDesc.aggB,Z0,cA,mA,Z1,oA,pA,qA,eA,D.pure?,ZC,ZD,mC,tt,Z2,Zh,wD] <;> exact rfl) ?_)
  refine bA ?_
  exact hK
 refine jA ?_
 refine uB ?_
 refine vD (ι := Nat) (fun i => i ≤ pd.length) (fun i => ⟨[],[.ept [i64 s,i64 f,xD lv,uC pd,i64 le,uC fo,i64 se,bv dn] 0,.any,.ptr 0 0,.vref 0,.any,.any,.any,.any,.any,.any,.any,.any,.any,.any,.any,.any,.any,.any,.any,.any,.any,.any,.any,.p (uC pd),.p (i64 pd.length),.p (i64 i),.any,.any,.any,.any,.any,.any,.any,.any,.any,.any,.any,.any,.any,.any,.any,.any,.any,.any],[⟨90,[.p (i64 0),.p (i64 0),.p (i64 0),.p (i64 0),.p (i64 0),.p (i64 0),.nil,.nil]⟩],[some ⟨3,1,(([s,f] ++ (pd.take i).flatMap fun e => [e.1,e.2])).length,(([s,f] ++ (pd.take i).flatMap fun e => [e.1,e.2])).map i64⟩]⟩) (fun i => pd.length - i) 0 (by exact Nat.zero_le _) (sC ⟨rfl,(by repeat first | exact tA | refine qB ?_ | refine uA (by first | rfl | (rw [sE s f pd i (by omega)]; simp [-List.length_flatMap,wD])) ?_),(vC rfl ((by repeat first | exact tA | refine qB ?_ | refine uA (by first | rfl | (rw [sE s f pd i (by omega)]; simp [-List.length_flatMap,wD])) ?_)) (wB _)),(zE (by first | rfl | (rw [sE s f pd i (by omega)]; simp [-List.length_flatMap,wD])) (xB _)),rfl,rfl⟩) ?_
 rintro i hJ
 have hti : (pd.take i).length = i := by rw [List.length_take]; omega
 have hpl : ((pd.take i).flatMap fun e => [e.1,e.2]).length = i * 2 := by rw [wD,List.length_take]; omega
 refine fA ?_
 refine iA hX hb [0] rfl (σ' := ?s4) (fun K hK => ?h4) ?n4
 case h4 =>
  (refine kA rfl (by simp (disch := omega) only [gA,aA,qop,fop,St.ev,St.put,cd,zd,Value.oneCell',lA,TypeDesc.aggB,Z0,yA,iop,tt,Z2,Zh,wD] <;> exact rfl) ?_)
  refine bA ?_
  exact hK
 refine jA ?_
 refine fA ?_
 refine mB _ rfl (fun hc0 => ?_) (fun hc0 => ?_)
 ·try simp only [Zp,Zi,ZK,ZJ,ne_eq,Zn,Zm,ZB,ZA,ZI,not_or,not_and,Zu] at hc0
  refine tB ?_
  refine jA ?_
  refine fA ?_
  refine uB ?_
  refine fA ?_
  refine iA hX hb [0,1,2,3] rfl (σ' := ?s5) (fun K hK => ?h5) ?n5
  case h5 =>
   iterate 4 (refine kA rfl (by simp (disch := omega) only [gA,aA,qop,fop,St.ev,St.put,cd,zd,Value.oneCell',lA,TypeDesc.aggB,Z0,Int.toNat_zero,Int.toNat_one,wA,xA,vA,ZO,Nat.mul_one,ZC,Nat.zero_mul,Zh,Z1,oA,pA,qA,eA,D.pure?,ZD,ZM,ZL,ZG,ZH,St.addBox,Value.cells,iC,D.boxCells,D.live,D.cells?,ZN,St.setVec,tt,Z2,wD] <;> exact rfl) ?_)
   refine bA ?_
   exact hK
  refine jA ?_
  refine iA hX hb [0,1,2,3,4,5,6,7] rfl (σ' := ?s6) (fun K hK => ?h6) ?n6
  case h6 =>
   iterate 8 (refine kA rfl (by simp (disch := omega) only [gA,aA,qop,fop,St.ev,St.put,cd,zd,Value.oneCell',lA,TypeDesc.aggB,Z0,cA,mA,Z1,oA,pA,qA,eA,D.pure?,ZC,ZD,zD,wC,xC,aE,bB,rB,D.cells?,eB,fB,gB,iB,jB,ZG,ZH,ZL,ZM,ZN,zA,Nat.reduceAdd,Nat.reduceMul,cE,qG,St.demote,D.demote,St.setVec,Zh,List.length_append,Nat.mul_one,reduceIte,tt,Z2,wD] <;> exact rfl) ?_)
   refine bA ?_
   exact hK
  refine dE ?_
  refine jA ?_
  refine iA hX hb [0,1] rfl (σ' := ?s7) (fun K hK => ?h7) ?n7
  case h7 =>
   iterate 2 (refine kA rfl (by simp (disch := omega) only [gA,aA,qop,fop,St.ev,St.put,cd,zd,Value.oneCell',lA,TypeDesc.aggB,Z0,yA,iop,tt,Z2,Zh,wD] <;> exact rfl) ?_)
   refine bA ?_
   exact hK
  refine jA ?_
  exact ⟨i + 1,by (try dsimp only); omega,by (try dsimp only); omega,sC ⟨rfl,(by repeat first | exact tA | refine qB ?_ | refine uA (by first | rfl | (rw [sE s f pd i (by omega)]; simp [-List.length_flatMap,wD])) ?_),(vC rfl ((by repeat first | exact tA | refine qB ?_ | refine uA (by first | rfl | (rw [sE s f pd i (by omega)]; simp [-List.length_flatMap,wD])) ?_)) (wB _)),(zE (by first | rfl | (rw [sE s f pd i (by omega)]; simp [-List.length_flatMap,wD])) (xB _)),rfl,rfl⟩⟩
 ·try simp only [Zp,Zi,ZK,ZJ,ne_eq,Zn,Zm,ZB,ZA,ZI,not_or,not_and,Zu] at hc0
  refine sD ?_
  refine fD ?_
  refine fD ?_
  refine dF ?_
  refine jA ?_
  refine fA ?_
  obtain rfl : i = pd.length := by omega
  refine mI 0 rfl (σ' := ?s9) ?h9 ?n9
  case h9 => simp only [St.freeze,D.freeze,ZG,ZH,Za,Zb,Zr,reduceIte,Nat.reduceEqDiff]; exact rfl
  refine iA hX hb [0,1,2,3,4,5,6,7] rfl (σ' := ?s8) (fun K hK => ?h8) ?n8
  case h8 =>
   iterate 8 (refine kA rfl (by simp (disch := omega) only [gA,aA,qop,fop,St.ev,St.put,cd,zd,Value.oneCell',lA,TypeDesc.aggB,Z0,cA,mA,Z1,oA,pA,qA,eA,D.pure?,ZC,ZD,eE,aD,lC,eC,D.cell1,eB,fB,gB,iB,jB,List.all_cons,List.all_nil,zC,TI.place,TI.zeros,TI.kindOk,D.cells?,zp,Value.cells,ZQ,ZP,iC,D.boxCells,D.live,ZM,ZL,ZN,ZG,ZH,St.setVec,tt,Z2,Zh,wD] <;> exact rfl) ?_)
   refine bA ?_
   exact hK
  refine jA ?_
  refine bC ?_
  exact tC rfl (sB (by simp only [qE,oA,pA,lA,TypeDesc.aggB,eA,D.pure?,D.pv?,nB,oB,Zd,Zc,Zw,Zk,Zv,Zj,Zx,Zl,Zo,Zr,reduceIte,Nat.reduceAdd,Nat.reduceLeDiff,Zg,Zf,tt] <;> exact rfl) (by first | rfl | (simp [-List.length_flatMap,msC,wK,nI,wD,PV.d])))
theorem nKA (s f : Int) (lv : List (List Int)) (p : P1) (hp : iL p = none) (k : Nat) (hk : k < lv.length) (fo : List (Int × Int)) (se : Int) (dn : Bool) : ACallsR Try.prog 116 139 [i64 s,i64 f,xD lv,p,i64 k,uC fo,i64 se,bv dn] [] (.p (cH (lv.getD k []))) := by
 refine lS jC Try.func116 (c := _) rfl (by kernel_rfl) (.p _ (dZ (fZ s f lv p hp k fo se dn) _)) ?_
 intro X hP hX hro hpl
 have hb : tb.Ok X.P := hP ▸ jC
 change AW X _ _ ⟨[],[.ept [i64 s,i64 f,xD lv,p,i64 k,uC fo,i64 se,bv dn] 0,.any,.any,.any,.any,.any,.any,.any,.any,.any,.any,.any,.any,.any,.any,.any],[],[]⟩
 refine fA ?_
 refine iA hX hb [0] rfl (σ' := ?s1) (fun K hK => ?h1) ?n1
 case h1 =>
  (refine kA rfl (by simp (disch := omega) only [gA,aA,qop,fop,St.ev,St.put,cd,zd,Value.oneCell',lA,TypeDesc.aggB,Z0,nA,Zh] <;> exact rfl) ?_)
  refine bA ?_
  exact hK
 refine jA ?_
 refine fA ?_
 refine bF hX hb (gD hP) [(0,true),(1,true),(2,true),(3,true),(4,true),(5,true),(6,true),(7,true),(8,true),(9,true),(10,true),(11,true),(12,true),(13,true)] (by kernel_rfl) (σ' := ?s2) (fun K hK => ?h2) ?n2
 case h2 =>
  iterate 14 (refine xE rfl (by simp (disch := omega) only [qop,fop,St.ev,St.put,cd,zd,Value.oneCell',lA,TypeDesc.aggB,Z0,cA,mA,Z1,oA,pA,qA,eA,D.pure?,ZC,ZD,Int.toNat_zero,Int.toNat_one,wA,xA,vA,ZO,Nat.mul_one,Nat.zero_mul,Zh,tt,nA] <;> exact rfl) (by simp only [St.put,Za,Zb] <;> exact rfl) ?_)
  refine qC ?_
  exact hK
 refine jA ?_
 refine bC ?_
 exact tC rfl (sB rfl rfl)
theorem oKA (s f : Int) (lv : List (List Int)) (j k : Nat) (hk : k < lv.length) (fo : List (Int × Int)) (se : Int) (dn : Bool) : ∀ cs,PUp [.p (i64 s),.p (i64 f),.p (xD lv),.vref j,.p (i64 k),.p (uC fo),.p (i64 se),.p (bv dn)] cs → ACallsR Try.prog 116 139 cs [] (.p (cH (lv.getD k []))) := by
 intro cs h
 match cs,h with
 | [c0,c1,c2,c3,c4,c5,c6,c7],⟨h0,h1,h2,h3,h4,h5,h6,h7,_⟩ =>
 have e0 : c0 = i64 s := by rcases h0 with h | ⟨_,_,_,_,h,_⟩; exact (by injection h with h; exact h.symm); cases h
 have e1 : c1 = i64 f := by rcases h1 with h | ⟨_,_,_,_,h,_⟩; exact (by injection h with h; exact h.symm); cases h
 have e2 : c2 = xD lv := by rcases h2 with h | ⟨_,_,_,_,h,_⟩; exact (by injection h with h; exact h.symm); cases h
 have e4 : c4 = i64 k := by rcases h4 with h | ⟨_,_,_,_,h,_⟩; exact (by injection h with h; exact h.symm); cases h
 have e5 : c5 = uC fo := by rcases h5 with h | ⟨_,_,_,_,h,_⟩; exact (by injection h with h; exact h.symm); cases h
 have e6 : c6 = i64 se := by rcases h6 with h | ⟨_,_,_,_,h,_⟩; exact (by injection h with h; exact h.symm); cases h
 have e7 : c7 = bv dn := by rcases h7 with h | ⟨_,_,_,_,h,_⟩; exact (by injection h with h; exact h.symm); cases h
 subst e0; subst e1; subst e2; subst e4; subst e5; subst e6; subst e7
 rcases h3 with h3 | ⟨_,A,n,c,_,rfl⟩
 ·simp [D.pure?] at h3
 ·exact nKA s f lv _ rfl k hk fo se dn
theorem m96 (s f : Int) (lv : List (List Int)) (pd : List (Int × Int)) (le : Int) (fo : List (Int × Int)) (se : Int) (dn : Bool) : ACallsM Try.prog 96 139 [i64 s,i64 f,xD lv,uC pd,i64 le,uC fo,i64 se,bv dn] [i64 s,i64 f,xD lv,uC [],i64 0,uC fo,i64 se,bv true] [] (.tup []) := by
 refine qK jC Try.func96 (c := _) rfl (by kernel_rfl) ?_
 intro X hP hX hro hpl
 have hb : tb.Ok X.P := hP ▸ jC
 change AW X _ _ ⟨[.pin 1],[.ptr 0 0,.any,.any,.any,.any,.any,.any,.any,.any,.any,.any,.any,.any,.any],[⟨139,[.p (i64 s),.p (i64 f),.p (xD lv),.p (uC pd),.p (i64 le),.p (uC fo),.p (i64 se),.p (bv dn)]⟩],[]⟩
 refine iA hX hb [0,1,2,3,4,5,6,7,8,9,10,11,12,13,14] rfl (σ' := ?s1) (fun K hK => ?h1) ?n1
 case h1 =>
  iterate 15 (refine kA rfl (by simp (disch := omega) only [gA,aA,qop,fop,St.ev,St.put,cd,zd,Value.oneCell',lA,TypeDesc.aggB,Z0,cA,mA,iC,D.boxCells,D.live,D.cells?,D.pure?,ZM,ZL,ZN,Z1,ZG,ZH,St.setVec,ZC,tt] <;> exact rfl) ?_)
  refine bA ?_
  exact hK
 exact sY rfl rfl rfl (by first | (simp only [eA,D.pure?] <;> exact rfl))
end Go.Proofs.Ytldcoekbgfaomaa
end
section
namespace Go.Proofs.Ytldcoekbgfaomaa
open Go.RowKit
set_option maxRecDepth 20000
set_option maxHeartbeats 4000000
attribute [local irreducible] jE oD AW
/-- Is the tO of the q-th number,x,another in a body? -/
def iEA (row body : List Int) (q x : Nat) : Bool := decide (¬ (body.drop (8 * q)).take 8 = eD (row.getD x 0))
/-- The numbers,of the first k,with other digests. -/
def xH (row body : List Int) (X : List Nat) (k : Nat) : List Nat := ((List.range k).filter fun q => iEA row body q (X.getD q 0)).map fun q => X.getD q 0
theorem lD (row body : List Int) (X : List Nat) (k : Nat) : xH row body X (k + 1) = xH row body X k ++ if iEA row body k (X.getD k 0) = true then [X.getD k 0] else [] := by
 unfold xH
 rw [List.range_succ,List.filter_append,List.map_append]
 congr 1
 simp only [List.filter_cons,List.filter_nil]
 split <;> rfl
theorem qX (row body : List Int) (X : List Nat) (k : Nat) : (xH row body X k).length ≤ k := by
 unfold xH
 rw [List.length_map]
 exact Nat.le_trans (List.length_filter_le _ _) (by simp)
theorem rX {row body : List Int} {X : List Nat} {k : Nat} (hk : k ≤ X.length) : ∀ x ∈ xH row body X k,x ∈ X := by
 intro x hx
 obtain ⟨q,hq,rfl⟩ := List.mem_map.1 hx
 have := List.mem_range.1 (List.mem_filter.1 hq).1
 exact tE X 0 q (by omega)
theorem vNA (l : List Int) (h : 8 ≤ l.length) (d : Int) : ACalls Try.prog 115 [.p (.sl 8 ((l.map u8).take 8)),.p (bytes (eD d))] (.p (bv (decide (l.take 8 = eD d)))) := by
 have := yMA (l.take 8) (eD d)
 have e : bytes (l.take 8) = P1.sl 8 ((l.map u8).take 8) := by
  rw [bytes,List.map_take]
  congr 1
  simp
  omega
 rwa [e] at this
theorem tF (l : List Int) (k : Nat) (h : 8 * k + 8 ≤ l.length) : l.length - 8 * k - 8 = l.length - 8 * (k + 1) ∧ List.take (l.length - 8 * k - 8) (List.drop (8 * k + 8) (List.map u8 l)) = List.drop (8 * (k + 1)) (List.map u8 l) := by
 refine ⟨by omega,?_⟩
 rw [List.take_of_length_le (by simp; omega),show 8 * (k + 1) = 8 * k + 8 by omega]
/-- The nodes of a level below some nodes. -/
def nU (N x : Nat) : List Nat := [2 * x,2 * x + 1].filter fun y => decide (y < N)
def bG (N : Nat) (X : List Nat) : List Nat := X.flatMap (nU N)
def pN (N x q : Nat) : List Nat := ([2 * x,2 * x + 1].take q).filter fun y => decide (y < N)
theorem yG (N : Nat) (X : List Nat) (j : Nat) (h : j < X.length) : bG N (X.take (j + 1)) = bG N (X.take j) ++ pN N (X.getD j 0) 2 := by
 rw [bG,bG,List.take_succ_eq_append_getElem h,List.flatMap_append]
 simp [h,pN,nU]
theorem jI (N x : Nat) : pN N x 0 = [] := rfl
theorem iF (N x q : Nat) (hq : q < 2) : pN N x (q + 1) = pN N x q ++ if 2 * x + q < N then [2 * x + q] else [] := by
 match q,hq with
 | 0,_ => by_cases h : 2 * x < N <;> simp [pN,h]
 | 1,_ =>
  by_cases h : 2 * x < N
  ·by_cases h2 : 2 * x + 1 < N <;> simp [pN,h,h2]
  ·have h2 : ¬ 2 * x + 1 < N := by omega
   simp [pN,h,h2]
theorem gF (X : List Nat) (x : Nat) : kI (X ++ [x]) = nR (kI X) (x : Int) := by
 rw [kI,List.map_append,List.foldl_append]
 rfl
theorem yI (x q : Nat) (h : q < 2) : ([i64 (2 * (x : Int)),i64 (2 * (x : Int) + 1)] : List P1)[q]? = some (i64 ((2 * x + q : Nat) : Int)) := by
 match q,h with
 | 0,_ => simp
 | 1,_ => simp
theorem AddS.mono {n m : Nat} {out : List (Int × Int)} (h : AddS n out) (hm : n ≤ m) : AddS m out := ⟨Nat.le_trans h.1 hm,fun e he => by have := h.2 e he; omega⟩
theorem yS (N : Nat) : ∀ (X : List Nat),(bG N X).length ≤ 2 * X.length
 | [] => by simp [bG]
 | x :: X => by
  have := yS N X
  have h1 : (nU N x).length ≤ 2 := Nat.le_trans (List.length_filter_le _ _) (by simp)
  simp only [bG,List.flatMap_cons,List.length_append,Zl] at this ⊢
  omega
theorem zAA (N : Nat) (X : List Nat) : ∀ y ∈ bG N X,y < N := by
 intro y hy
 obtain ⟨x,_,h⟩ := List.mem_flatMap.1 hy
 exact of_decide_eq_true (List.mem_filter.1 h).2
theorem m94 (S F : Nat) (lv : List (List Int)) (k : Nat) (pd fo : List (Int × Int)) (se : Int) (dn : Bool) (body : List Int) (hk : k < lv.length) (hr : (lv.getD k []).length ≤ 4096) (hp : kJ pd (lv.getD k []).length = 0) (hb8 : body.length = 8 * (cC pd).length) (hse : 0 ≤ se ∧ se ≤ 1000000) : ACallsM Try.prog 94 139 [i64 (S : Int),i64 (F : Int),xD lv,uC pd,i64 (k : Int),uC fo,i64 se,bv dn] [i64 (S : Int),i64 (F : Int),xD lv,uC pd,i64 (k : Int),uC fo,i64 (se + ((cC pd).length : Int)),bv dn] [.p (bytes body)] (.p (jX (xH (lv.getD k []) body (cC pd) (cC pd).length))) := by
 refine qK jC Try.func94 (c := _) rfl (by kernel_rfl) ?_
 intro X hP hX hro hpl
 have hb : tb.Ok X.P := hP ▸ jC
 change AW X _ _ ⟨[.pin 1],[.ptr 0 0,.p (bytes body),.any,.any,.any,.any,.any,.any,.any,.any,.any,.any,.any,.any,.any,.any,.any,.any,.any,.any,.any,.any,.any,.any,.any,.any,.any,.any,.any,.any,.any,.any,.any,.any,.any,.any,.any,.any,.any,.any],[⟨139,[.p (i64 (S : Int)),.p (i64 (F : Int)),.p (xD lv),.p (uC pd),.p (i64 (k : Int)),.p (uC fo),.p (i64 se),.p (bv dn)]⟩],[]⟩
 have hfe := dL hp
 have hfn := oM hp
 refine fA ?_
 refine iA hX hb [0,1,2] rfl (σ' := ?s1) (fun K hK => ?h1) ?n1
 case h1 =>
  iterate 3 (refine kA rfl (by simp (disch := omega) only [gA,aA,qop,fop,St.ev,St.put,cd,zd,Value.oneCell',lA,TypeDesc.aggB,Z0,ZM,ZL,Zl,Zo,ZG,ZH,St.addBox,D.boxCells,D.live,tt,Z2,nA,rA,Zh,List.length_drop] <;> exact rfl) ?_)
  refine bA ?_
  exact hK
 refine jA ?_
 refine fA ?_
 refine iA hX hb [0] rfl (σ' := ?s2) (fun K hK => ?h2) ?n2
 case h2 =>
  (refine kA rfl (by simp (disch := omega) only [gA,aA,qop,fop,St.ev,St.put,cd,zd,Value.oneCell',lA,TypeDesc.aggB,Z0,ZM,ZL,Zl,Zo,ZG,ZH,St.addBox,Value.cells,tt,Z2,nA,rA,Zh,List.length_drop] <;> exact rfl) ?_)
  refine bA ?_
  exact hK
 refine jA ?_
 refine oP 3 0 _ 3 1 rfl rfl (σ' := ?s3) ?h3 ?n3
 case h3 => simp only [St.nilCell,St.addVec,Za,Zb,Zl,Zo,ZL,ZM]; exact rfl
 refine fA ?_
 refine fA ?_
 refine iA hX hb [0,1,2,3,4,5] rfl (σ' := ?s4) (fun K hK => ?h4) ?n4
 case h4 =>
  iterate 5 (refine kA rfl (by simp (disch := omega) only [gA,aA,qop,fop,St.ev,St.put,cd,zd,Value.oneCell',lA,TypeDesc.aggB,Z0,Z1,oA,pA,qA,eA,D.pure?,ZC,ZD,cA,mA,sA,D.pv?,tt,Z2,nA,rA,Zh,List.length_drop] <;> exact rfl) ?_)
  refine jD rfl (by simp only [aA,St.ev,nB,oB,sA,D.pv?,ZG,ZH,zd,cd,Value.oneCell',Zr] <;> exact rfl) (acK hP (c89 pd)) (by simp only [St.put,Za,Zb] <;> exact rfl) ?_
  refine bA ?_
  exact hK
 refine jA ?_
 refine uB ?_
 refine tL hX hro hpl.j [.pin 1] [.any,.any,.ptr 1 0,.ptr 2 0,.any,.ptr 3 0,.any,.any,.any,.any,.any,.any,.p (.clo 114 [uC pd]),.any,.any,.any,.any,.any,.any,.any,.any,.any,.any,.any,.any,.any,.any,.any,.any,.any,.any,.any,.any,.any,.any,.any,.any,.any,.any,.any] 4 (fun (k1 : Nat) => [⟨139,[.p (i64 (S : Int)),.p (i64 (F : Int)),.p (xD lv),.p (uC pd),.p (i64 (k : Int)),.p (uC fo),.p (i64 (se + (k1 : Nat))),.p (bv dn)]⟩,⟨136,[.ptr 0 0]⟩,⟨88,[.p (bytes (body.drop (8 * k1)))]⟩,⟨87,[.vref 0]⟩]) (fun (k1 : Nat) => [some ⟨3,1,((xH (lv.getD k []) body (cC pd) k1)).length,((xH (lv.getD k []) body (cC pd) k1)).map fun n : Nat => i64 (n : Int)⟩]) [⟨139,[.p (i64 (S : Int)),.p (i64 (F : Int)),.p (xD lv),.p (uC pd),.p (i64 (k : Int)),.p (uC fo),.p (i64 (se + ((cC pd).length : Nat))),.p (bv dn)]⟩,⟨136,[.ptr 0 0]⟩,⟨88,[.p (bytes (body.drop (8 * (cC pd).length)))]⟩,⟨87,[.vref 0]⟩] [some ⟨3,1,((xH (lv.getD k []) body (cC pd) (cC pd).length)).length,((xH (lv.getD k []) body (cC pd) (cC pd).length)).map fun n : Nat => i64 (n : Int)⟩] (sC ⟨(by first | rfl | (first | (rw [lD,if_pos hdp]; simp) | (rw [lD,if_neg hdp]; simp) | (refine congrArg (fun n => D.p (i64 n)) ?_; omega) | (simp; exact tF body k1 (by omega)) | simp)),(by repeat first | exact tA | refine qB ?_ | refine uA (by first | rfl | (first | (rw [lD,if_pos hdp]; simp) | (rw [lD,if_neg hdp]; simp) | (refine congrArg (fun n => D.p (i64 n)) ?_; omega) | (simp; exact tF body k1 (by omega)) | simp)) ?_),(vC rfl ((by repeat first | exact tA | refine qB ?_ | refine uA (by first | rfl | (first | (rw [lD,if_pos hdp]; simp) | (rw [lD,if_neg hdp]; simp) | (refine congrArg (fun n => D.p (i64 n)) ?_; omega) | (simp; exact tF body k1 (by omega)) | simp)) ?_)) (vC rfl ((by repeat first | exact tA | refine qB ?_ | refine uA (by first | rfl | (first | (rw [lD,if_pos hdp]; simp) | (rw [lD,if_neg hdp]; simp) | (refine congrArg (fun n => D.p (i64 n)) ?_; omega) | (simp; exact tF body k1 (by omega)) | simp)) ?_)) (vC rfl ((by repeat first | exact tA | refine qB ?_ | refine uA (by first | rfl | (first | (rw [lD,if_pos hdp]; simp) | (rw [lD,if_neg hdp]; simp) | (refine congrArg (fun n => D.p (i64 n)) ?_; omega) | (simp; exact tF body k1 (by omega)) | simp)) ?_)) (vC rfl ((by repeat first | exact tA | refine qB ?_ | refine uA (by first | rfl | (first | (rw [lD,if_pos hdp]; simp) | (rw [lD,if_neg hdp]; simp) | (refine congrArg (fun n => D.p (i64 n)) ?_; omega) | (simp; exact tF body k1 (by omega)) | simp)) ?_)) (wB _))))),(zE (by first | rfl | (first | (rw [lD,if_pos hdp]; simp) | (rw [lD,if_neg hdp]; simp) | (refine congrArg (fun n => D.p (i64 n)) ?_; omega) | (simp; exact tF body k1 (by omega)) | simp)) (xB _)),rfl,rfl⟩) rfl rfl (hP ▸ (mKA pd _ hp)) rfl rfl rfl (by first | rfl | (first | (rw [xF]; rfl) | (simp only [xF]))) (by first | rfl | (first | (rw [xF]; rfl) | (simp only [xF]))) ?_ ?_
 ·intro k1 y hy
  obtain ⟨hk1,rfl⟩ := dQ hy
  have hx1 := wV hp _ (tE (cC pd) 0 k1 hk1)
  have hdl := qX (lv.getD k []) body (cC pd) k1
  unfold zK
  intro X1 hQ hX
  have hP0 := hP; have hP := hQ.trans hP; have hb : tb.Ok X1.P := hP ▸ jC
  change AW X1 _ _ ⟨[.pin 4],[.any,.any,.ptr 1 0,.ptr 2 0,.any,.ptr 3 0,.any,.any,.any,.any,.any,.any,.p (.clo 114 [uC pd]),.p (i64 ((cC pd).getD k1 0 : Nat)),.any,.any,.any,.any,.any,.any,.any,.any,.any,.any,.any,.any,.any,.any,.any,.any,.any,.any,.any,.any,.any,.any,.any,.any,.any,.any],[⟨139,[.p (i64 (S : Int)),.p (i64 (F : Int)),.p (xD lv),.p (uC pd),.p (i64 (k : Int)),.p (uC fo),.p (i64 (se + (k1 : Nat))),.p (bv dn)]⟩,⟨136,[.ptr 0 0]⟩,⟨88,[.p (bytes (body.drop (8 * k1)))]⟩,⟨87,[.vref 0]⟩],[some ⟨3,1,((xH (lv.getD k []) body (cC pd) k1)).length,((xH (lv.getD k []) body (cC pd) k1)).map fun n : Nat => i64 (n : Int)⟩]⟩
  refine iA hX hb [0] rfl (σ' := ?s5) (fun K hK => ?h5) ?n5
  case h5 =>
   (refine kA rfl (by simp (disch := omega) only [gA,aA,qop,fop,St.ev,St.put,cd,zd,Value.oneCell',lA,TypeDesc.aggB,Z0,Z2,nA,rA,Zh,List.length_drop] <;> exact rfl) ?_)
   refine bA ?_
   exact hK
  refine ⟨rfl,rfl,?_⟩
  intro X2 hQ2 hX
  have hP := hQ2.trans hP0; have hb : tb.Ok X2.P := hP ▸ jC
  refine uB ?_
  refine fA ?_
  refine fA ?_
  refine bF hX hb (gD hP) [(0,true),(1,true),(2,true),(4,true),(3,false),(5,true),(6,true),(7,false),(8,false),(9,true)] (by kernel_rfl) (σ' := ?s6) (fun K hK => ?h6) ?n6
  case h6 =>
   iterate 4 (refine xE rfl (by simp (disch := omega) only [qop,fop,St.ev,St.put,cd,zd,Value.oneCell',lA,TypeDesc.aggB,Z0,Z1,oA,pA,qA,eA,D.pure?,ZC,ZD,imp_self,Int.toNat_one,Int.toNat_zero,Nat.one_mul,rI,bnd,Option.isSome_none,ZP,Option.map_none,implies_true,forall_const,ZO,Nat.sub_zero,sA,D.pv?,wA,xA,vA,Nat.mul_one,Nat.zero_mul,Zh,Bool.not_true,Bool.not_false,tt,Z2,nA,rA,List.length_drop] <;> exact rfl) (by simp only [St.put,Za,Zb] <;> exact rfl) ?_)
   refine bHA rfl rfl (by simp only [St.ev,nB,oB,zd,cd,Value.oneCell',Zr] <;> exact rfl) rfl (by simp only [St.ev,nB,oB,zd,cd,Value.oneCell',Zr] <;> exact rfl) rfl (by simp only [eA,D.pure?] <;> exact rfl) (by simp only [sA,nD,D.pvC?,D.pvN?,D.pvL?,eA,D.pv?,D.pure?,St.ev,nB,oB,zd,cd,Value.oneCell',Zr,ZG,ZH,Zd,Zc,Zg] <;> exact rfl) (acR hP (nKA S F lv _ rfl k hk fo _ dn)) (by simp only [St.put,Za,Zb] <;> exact rfl) ?_
   iterate 2 (refine xE rfl (by simp (disch := omega) only [qop,fop,St.ev,St.put,cd,zd,Value.oneCell',lA,TypeDesc.aggB,Z0,Z1,oA,pA,qA,eA,D.pure?,ZC,ZD,imp_self,Int.toNat_one,Int.toNat_zero,Nat.one_mul,rI,bnd,Option.isSome_none,ZP,Option.map_none,implies_true,forall_const,ZO,Nat.sub_zero,sA,D.pv?,wA,xA,vA,Nat.mul_one,Nat.zero_mul,Zh,Bool.not_true,Bool.not_false,tt,Z2,nA,rA,List.length_drop] <;> exact rfl) (by simp only [St.put,Za,Zb] <;> exact rfl) ?_)
   refine pG rfl (by simp only [aA,St.ev,nB,oB,sA,D.pv?,ZG,ZH,zd,cd,Value.oneCell',Zr] <;> exact rfl) (acK hP (c90 _)) (by simp only [St.put,Za,Zb] <;> exact rfl) ?_
   refine pG rfl (by simp only [aA,St.ev,nB,oB,sA,D.pv?,ZG,ZH,zd,cd,Value.oneCell',Zr] <;> exact rfl) (acK hP (vNA _ (by rw [List.length_drop]; omega) _)) (by simp only [St.put,Za,Zb] <;> exact rfl) ?_
   (refine xE rfl (by simp (disch := omega) only [qop,fop,St.ev,St.put,cd,zd,Value.oneCell',lA,TypeDesc.aggB,Z0,Z1,oA,pA,qA,eA,D.pure?,ZC,ZD,imp_self,Int.toNat_one,Int.toNat_zero,Nat.one_mul,rI,bnd,Option.isSome_none,ZP,Option.map_none,implies_true,forall_const,ZO,Nat.sub_zero,sA,D.pv?,wA,xA,vA,Nat.mul_one,Nat.zero_mul,Zh,Bool.not_true,Bool.not_false,tt,Z2,nA,rA,List.length_drop] <;> exact rfl) (by simp only [St.put,Za,Zb] <;> exact rfl) ?_)
   refine qC ?_
   exact hK
  refine jA ?_
  refine mB _ rfl (fun hc0 => ?_) (fun hc0 => ?_)
  ·try simp only [Zp,Zi,ZK,ZJ,ne_eq,Zn,Zm,ZB,ZA,ZI,not_or,not_and,Zu] at hc0
   have hdp : iEA (lv.getD k []) body k1 ((cC pd).getD k1 0) = true := decide_eq_true hc0
   refine iA hX hb [0,1,2,3,4] rfl (σ' := ?s7) (fun K hK => ?h7) ?n7
   case h7 =>
    iterate 5 (refine kA rfl (by simp (disch := omega) only [gA,aA,qop,fop,St.ev,St.put,cd,zd,Value.oneCell',lA,TypeDesc.aggB,Z0,Z1,oA,pA,qA,eA,D.pure?,ZC,ZD,zD,wC,xC,aE,bB,rB,D.cells?,eB,fB,gB,iB,jB,ZG,ZH,ZL,ZM,ZN,zA,Nat.reduceAdd,Nat.reduceMul,cE,qG,St.demote,D.demote,St.setVec,Zh,List.length_append,Nat.mul_one,reduceIte,iC,D.boxCells,D.live,tt,Z2,nA,rA,List.length_drop] <;> exact rfl) ?_)
    refine bA ?_
    exact hK
   refine jA ?_
   refine fA ?_
   refine iA hX hb [0,1,2] rfl (σ' := ?s8) (fun K hK => ?h8) ?n8
   case h8 =>
    iterate 3 (refine kA rfl (by simp (disch := omega) only [gA,aA,qop,fop,St.ev,St.put,cd,zd,Value.oneCell',lA,TypeDesc.aggB,Z0,Z1,oA,pA,qA,eA,D.pure?,ZC,ZD,imp_self,Int.toNat_one,Int.toNat_zero,Nat.one_mul,rI,bnd,Option.isSome_none,ZP,Option.map_none,implies_true,forall_const,ZO,Nat.sub_zero,iC,D.boxCells,D.live,D.cells?,ZM,ZL,ZN,ZG,ZH,St.setVec,tt,Z2,nA,rA,Zh,List.length_drop] <;> exact rfl) ?_)
    refine bA ?_
    exact hK
   refine jA ?_
   refine iA hX hb [0,1,2,3,4,5,6,7,8,9] rfl (σ' := ?s9) (fun K hK => ?h9) ?n9
   case h9 =>
    iterate 10 (refine kA rfl (by simp (disch := omega) only [gA,aA,qop,fop,St.ev,St.put,cd,zd,Value.oneCell',lA,TypeDesc.aggB,Z0,Z1,oA,pA,qA,eA,D.pure?,ZC,ZD,cA,mA,yA,iop,iC,D.boxCells,D.live,D.cells?,ZM,ZL,ZN,ZG,ZH,St.setVec,tt,Z2,nA,rA,Zh,List.length_drop] <;> exact rfl) ?_)
    refine bA ?_
    exact hK
   refine dE ?_
   exact ⟨rfl,sC ⟨(by first | rfl | (first | (rw [lD,if_pos hdp]; simp) | (rw [lD,if_neg hdp]; simp) | (refine congrArg (fun n => D.p (i64 n)) ?_; omega) | (simp; exact tF body k1 (by omega)) | simp)),(by repeat first | exact tA | refine qB ?_ | refine uA rfl ?_),(vC rfl ((by repeat first | exact tA | refine qB ?_ | refine uA (by first | rfl | (first | (rw [lD,if_pos hdp]; simp) | (rw [lD,if_neg hdp]; simp) | (refine congrArg (fun n => D.p (i64 n)) ?_; omega) | (simp; exact tF body k1 (by omega)) | simp)) ?_)) (vC rfl ((by repeat first | exact tA | refine qB ?_ | refine uA (by first | rfl | (first | (rw [lD,if_pos hdp]; simp) | (rw [lD,if_neg hdp]; simp) | (refine congrArg (fun n => D.p (i64 n)) ?_; omega) | (simp; exact tF body k1 (by omega)) | simp)) ?_)) (vC rfl ((by repeat first | exact tA | refine qB ?_ | refine uA (by first | rfl | (first | (rw [lD,if_pos hdp]; simp) | (rw [lD,if_neg hdp]; simp) | (refine congrArg (fun n => D.p (i64 n)) ?_; omega) | (simp; exact tF body k1 (by omega)) | simp)) ?_)) (vC rfl ((by repeat first | exact tA | refine qB ?_ | refine uA (by first | rfl | (first | (rw [lD,if_pos hdp]; simp) | (rw [lD,if_neg hdp]; simp) | (refine congrArg (fun n => D.p (i64 n)) ?_; omega) | (simp; exact tF body k1 (by omega)) | simp)) ?_)) (wB _))))),(zE (by first | rfl | (first | (rw [lD,if_pos hdp]; simp) | (rw [lD,if_neg hdp]; simp) | (refine congrArg (fun n => D.p (i64 n)) ?_; omega) | (simp; exact tF body k1 (by omega)) | simp)) (xB _)),rfl,rfl⟩⟩
  ·try simp only [Zp,Zi,ZK,ZJ,ne_eq,Zn,Zm,ZB,ZA,ZI,not_or,not_and,Zu] at hc0
   have hdp : ¬ iEA (lv.getD k []) body k1 ((cC pd).getD k1 0) = true := fun h => absurd (of_decide_eq_true h) (fun h => h hc0)
   refine tB ?_
   refine jA ?_
   refine fA ?_
   refine iA hX hb [0,1,2] rfl (σ' := ?s10) (fun K hK => ?h10) ?n10
   case h10 =>
    iterate 3 (refine kA rfl (by simp (disch := omega) only [gA,aA,qop,fop,St.ev,St.put,cd,zd,Value.oneCell',lA,TypeDesc.aggB,Z0,Z1,oA,pA,qA,eA,D.pure?,ZC,ZD,imp_self,Int.toNat_one,Int.toNat_zero,Nat.one_mul,rI,bnd,Option.isSome_none,ZP,Option.map_none,implies_true,forall_const,ZO,Nat.sub_zero,iC,D.boxCells,D.live,D.cells?,ZM,ZL,ZN,ZG,ZH,St.setVec,tt,Z2,nA,rA,Zh,List.length_drop] <;> exact rfl) ?_)
    refine bA ?_
    exact hK
   refine jA ?_
   refine iA hX hb [0,1,2,3,4,5,6,7,8,9] rfl (σ' := ?s11) (fun K hK => ?h11) ?n11
   case h11 =>
    iterate 10 (refine kA rfl (by simp (disch := omega) only [gA,aA,qop,fop,St.ev,St.put,cd,zd,Value.oneCell',lA,TypeDesc.aggB,Z0,Z1,oA,pA,qA,eA,D.pure?,ZC,ZD,cA,mA,yA,iop,iC,D.boxCells,D.live,D.cells?,ZM,ZL,ZN,ZG,ZH,St.setVec,tt,Z2,nA,rA,Zh,List.length_drop] <;> exact rfl) ?_)
    refine bA ?_
    exact hK
   refine dE ?_
   exact ⟨rfl,sC ⟨(by first | rfl | (first | (rw [lD,if_pos hdp]; simp) | (rw [lD,if_neg hdp]; simp) | (refine congrArg (fun n => D.p (i64 n)) ?_; omega) | (simp; exact tF body k1 (by omega)) | simp)),(by repeat first | exact tA | refine qB ?_ | refine uA rfl ?_),(vC rfl ((by repeat first | exact tA | refine qB ?_ | refine uA (by first | rfl | (first | (rw [lD,if_pos hdp]; simp) | (rw [lD,if_neg hdp]; simp) | (refine congrArg (fun n => D.p (i64 n)) ?_; omega) | (simp; exact tF body k1 (by omega)) | simp)) ?_)) (vC rfl ((by repeat first | exact tA | refine qB ?_ | refine uA (by first | rfl | (first | (rw [lD,if_pos hdp]; simp) | (rw [lD,if_neg hdp]; simp) | (refine congrArg (fun n => D.p (i64 n)) ?_; omega) | (simp; exact tF body k1 (by omega)) | simp)) ?_)) (vC rfl ((by repeat first | exact tA | refine qB ?_ | refine uA (by first | rfl | (first | (rw [lD,if_pos hdp]; simp) | (rw [lD,if_neg hdp]; simp) | (refine congrArg (fun n => D.p (i64 n)) ?_; omega) | (simp; exact tF body k1 (by omega)) | simp)) ?_)) (vC rfl ((by repeat first | exact tA | refine qB ?_ | refine uA (by first | rfl | (first | (rw [lD,if_pos hdp]; simp) | (rw [lD,if_neg hdp]; simp) | (refine congrArg (fun n => D.p (i64 n)) ?_; omega) | (simp; exact tF body k1 (by omega)) | simp)) ?_)) (wB _))))),(zE (by first | rfl | (first | (rw [lD,if_pos hdp]; simp) | (rw [lD,if_neg hdp]; simp) | (refine congrArg (fun n => D.p (i64 n)) ?_; omega) | (simp; exact tF body k1 (by omega)) | simp)) (xB _)),rfl,rfl⟩⟩
 refine dE ?_
 refine jA ?_
 refine fA ?_
 refine mI 0 rfl (σ' := ?s13) ?h13 ?n13
 case h13 => simp only [St.freeze,D.freeze,ZG,ZH,Za,Zb,Zr,reduceIte,Nat.reduceEqDiff]; exact rfl
 refine iA hX hb [0,1] rfl (σ' := ?s12) (fun K hK => ?h12) ?n12
 case h12 =>
  iterate 2 (refine kA rfl (by simp (disch := omega) only [gA,aA,qop,fop,St.ev,St.put,cd,zd,Value.oneCell',lA,TypeDesc.aggB,Z0,Z1,oA,pA,qA,eA,D.pure?,ZC,ZD,tt,Z2,nA,rA,Zh,List.length_drop] <;> exact rfl) ?_)
  refine bA ?_
  exact hK
 refine jA ?_
 refine bC ?_
 exact kCA (sB rfl rfl) rfl rfl (by first | (simp only [eA,D.pure?] <;> exact rfl))
theorem m95 (S F : Nat) (lv : List (List Int)) (k : Nat) (pd fo : List (Int × Int)) (se : Int) (dn : Bool) (Y : List Nat) (hF : 1 ≤ F ∧ F ≤ 4096) (hS : S ≤ 4096) (hY : Y.Pairwise (· < ·)) (hXS : ∀ x ∈ Y,x * F < S) : ACallsM Try.prog 95 139 [i64 (S : Int),i64 (F : Int),xD lv,uC pd,i64 (k : Int),uC fo,i64 se,bv dn] [i64 (S : Int),i64 (F : Int),xD lv,uC [],i64 0,uC (oG (jJ S F Y)),i64 se,bv true] [.p (jX Y)] (.tup []) := by
 refine qK jC Try.func95 (c := _) rfl (by kernel_rfl) ?_
 intro X hP hX hro hpl
 have hb : tb.Ok X.P := hP ▸ jC
 change AW X _ _ ⟨[.pin 1],[.ptr 0 0,.p (jX Y),.any,.any,.any,.any,.any,.any,.any,.any,.any,.any,.any,.any,.any,.any,.any,.any,.any,.any,.any,.any,.any,.any,.any,.any,.any,.any,.any,.any,.any,.any,.any,.any,.any,.any,.any,.any,.any,.any,.any,.any,.any,.any,.any,.any,.any,.any,.any,.any,.any,.any,.any,.any,.any],[⟨139,[.p (i64 (S : Int)),.p (i64 (F : Int)),.p (xD lv),.p (uC pd),.p (i64 (k : Int)),.p (uC fo),.p (i64 se),.p (bv dn)]⟩],[]⟩
 have hXl : Y.length ≤ S := vZ hY fun x hx => Nat.lt_of_le_of_lt (Nat.le_mul_of_pos_right _ hF.1) (hXS x hx)
 refine fA ?_
 refine iA hX hb [0,1,2,3,4] rfl (σ' := ?s1) (fun K hK => ?h1) ?n1
 case h1 =>
  iterate 5 (refine kA rfl (by simp (disch := omega) only [gA,aA,qop,fop,St.ev,St.put,cd,zd,Value.oneCell',lA,TypeDesc.aggB,Z0,cA,mA,iC,D.boxCells,D.live,D.cells?,D.pure?,ZM,ZL,ZN,Z1,ZG,ZH,St.setVec,ZC,tt,Z2,vB,Zh] <;> exact rfl) ?_)
  refine bA ?_
  exact hK
 refine jA ?_
 refine fA ?_
 refine iA hX hb [0] rfl (σ' := ?s2) (fun K hK => ?h2) ?n2
 case h2 =>
  (refine kA rfl (by simp (disch := omega) only [gA,aA,qop,fop,St.ev,St.put,cd,zd,Value.oneCell',lA,TypeDesc.aggB,Z0,Z2,vB,Zh] <;> exact rfl) ?_)
  refine bA ?_
  exact hK
 refine jA ?_
 refine pK 4 35 2 rfl (σ' := ?s3) ?h3 ?n3
 case h3 => simp only [St.nilSlot,St.addVec,Za,Zb,Zl,Zo,ZL,ZM]; exact rfl
 refine fA ?_
 refine fA ?_
 refine iA hX hb [0,1,2] rfl (σ' := ?s4) (fun K hK => ?h4) ?n4
 case h4 =>
  iterate 3 (refine kA rfl (by simp (disch := omega) only [gA,aA,qop,fop,St.ev,St.put,cd,zd,Value.oneCell',lA,TypeDesc.aggB,Z0,mC,tt,Z2,vB,Zh] <;> exact rfl) ?_)
  refine bA ?_
  exact hK
 refine jA ?_
 refine uB ?_
 refine vD (ι := Nat) (fun j => j ≤ Y.length) (fun j => ⟨[.pin 1],[.ptr 0 0,.any,.any,.any,.vref 0,.any,.any,.any,.any,.any,.any,.any,.p (jX Y),.p (i64 Y.length),.p (i64 j),.any,.any,.any,.any,.any,.any,.any,.any,.any,.any,.any,.any,.any,.any,.any,.any,.any,.any,.any,.any,.any,.any,.any,.any,.any,.any,.any,.any,.any,.any,.any,.any,.any,.any,.any,.any,.any,.any,.any,.any],[⟨139,[.p (i64 (S : Int)),.p (i64 (F : Int)),.p (xD lv),.p (uC pd),.p (i64 (k : Int)),.nil,.p (i64 se),.p (bv dn)]⟩],[some ⟨35,2,(jJ S F (Y.take j)).length,bE (jJ S F (Y.take j))⟩]⟩) (fun j => Y.length - j) 0 (by exact Nat.zero_le _) (sC ⟨(by first | rfl | (rw [kH S F Y j (by omega),← mD]; simp)),(by repeat first | exact tA | refine qB ?_ | refine uA (by first | rfl | (rw [kH S F Y j (by omega),← mD]; simp)) ?_),(vC rfl ((by repeat first | exact tA | refine qB ?_ | refine uA (by first | rfl | (rw [kH S F Y j (by omega),← mD]; simp)) ?_)) (wB _)),(zE (by first | rfl | (rw [kH S F Y j (by omega),← mD]; simp)) (xB _)),rfl,rfl⟩) ?_
 rintro j hJ
 have hel := kO S F (Y.take j)
 rw [List.length_take] at hel
 refine fA ?_
 refine iA hX hb [0] rfl (σ' := ?s5) (fun K hK => ?h5) ?n5
 case h5 =>
  (refine kA rfl (by simp (disch := omega) only [gA,aA,qop,fop,St.ev,St.put,cd,zd,Value.oneCell',lA,TypeDesc.aggB,Z0,yA,iop,t3,ti3,Z2,vB,Zh] <;> exact rfl) ?_)
  refine bA ?_
  exact hK
 refine jA ?_
 refine fA ?_
 refine mB _ rfl (fun hc0 => ?_) (fun hc0 => ?_)
 ·try simp only [Zp,Zi,ZK,ZJ,ne_eq,Zn,Zm,ZB,ZA,ZI,not_or,not_and,Zu] at hc0
  have hxj := hXS _ (tE Y 0 j (by omega))
  refine tB ?_
  refine jA ?_
  refine fA ?_
  refine uB ?_
  refine fA ?_
  refine iA hX hb [0,1,2] rfl (σ' := ?s6) (fun K hK => ?h6) ?n6
  case h6 =>
   iterate 3 (refine kA rfl (by simp (disch := omega) only [gA,aA,qop,fop,St.ev,St.put,cd,zd,Value.oneCell',lA,TypeDesc.aggB,Z0,Int.toNat_zero,Int.toNat_one,wA,xA,vA,ZO,Nat.mul_one,ZC,Nat.zero_mul,Zh,Z1,oA,pA,qA,eA,D.pure?,ZD,tt,Z2,vB] <;> exact rfl) ?_)
   refine bA ?_
   exact hK
  refine jA ?_
  refine fA ?_
  refine iA hX hb [0,1,2,3,4,5,6,7,8] rfl (σ' := ?s7) (fun K hK => ?h7) ?n7
  case h7 =>
   iterate 9 (refine kA rfl (by simp (disch := omega) only [gA,aA,qop,fop,St.ev,St.put,cd,zd,Value.oneCell',lA,TypeDesc.aggB,Z0,cA,mA,Z1,oA,pA,qA,eA,D.pure?,ZC,ZD,yA,iop,tt,Z2,vB,Zh,uD] <;> exact rfl) ?_)
   refine bA ?_
   exact hK
  refine jA ?_
  refine bF hX hb (gD hP) [(0,true),(1,true),(2,true),(3,true),(4,true),(5,true),(6,true),(7,true),(8,true),(9,true),(10,true),(11,true),(12,true),(13,true),(14,true),(15,true),(16,true),(17,true),(18,false),(19,false),(20,true)] (by kernel_rfl) (σ' := ?s8) (fun K hK => ?h8) ?n8
  case h8 =>
   iterate 18 (refine xE rfl (by simp (disch := omega) only [qop,fop,St.ev,St.put,cd,zd,Value.oneCell',lA,TypeDesc.aggB,Z0,cA,mA,Z1,oA,pA,qA,eA,D.pure?,ZC,ZD,yA,iop,eF,eE,aD,lC,eC,D.cell1,eB,fB,gB,iB,jB,List.all_cons,List.all_nil,zC,TI.place,TI.zeros,TI.kindOk,D.cells?,zp,Value.cells,ZQ,ZP,zD,wC,xC,aE,bB,rB,ZG,ZH,ZL,ZM,ZN,zA,Nat.reduceAdd,Nat.reduceMul,cE,qG,St.demote,D.demote,St.setVec,Zh,List.length_append,Nat.mul_one,reduceIte,tt,Z2,vB] <;> exact rfl) (by simp only [St.put,Za,Zb] <;> exact rfl) ?_)
   iterate 2 (refine vG rfl (by simp (disch := omega) only [gA,aA,qop,fop,St.ev,St.put,cd,zd,Value.oneCell',lA,TypeDesc.aggB,Z0,cA,mA,Z1,oA,pA,qA,eA,D.pure?,ZC,ZD,yA,iop,eF,eE,aD,lC,eC,D.cell1,eB,fB,gB,iB,jB,List.all_cons,List.all_nil,zC,TI.place,TI.zeros,TI.kindOk,D.cells?,zp,Value.cells,ZQ,ZP,zD,wC,xC,aE,bB,rB,ZG,ZH,ZL,ZM,ZN,zA,Nat.reduceAdd,Nat.reduceMul,cE,qG,St.demote,D.demote,St.setVec,Zh,List.length_append,Nat.mul_one,reduceIte,tt,Z2,vB] <;> exact rfl) ?_)
   (refine xE rfl (by simp (disch := omega) only [qop,fop,St.ev,St.put,cd,zd,Value.oneCell',lA,TypeDesc.aggB,Z0,cA,mA,Z1,oA,pA,qA,eA,D.pure?,ZC,ZD,yA,iop,eF,eE,aD,lC,eC,D.cell1,eB,fB,gB,iB,jB,List.all_cons,List.all_nil,zC,TI.place,TI.zeros,TI.kindOk,D.cells?,zp,Value.cells,ZQ,ZP,zD,wC,xC,aE,bB,rB,ZG,ZH,ZL,ZM,ZN,zA,Nat.reduceAdd,Nat.reduceMul,cE,qG,St.demote,D.demote,St.setVec,Zh,List.length_append,Nat.mul_one,reduceIte,tt,Z2,vB] <;> exact rfl) (by simp only [St.put,Za,Zb] <;> exact rfl) ?_)
   refine qC ?_
   exact hK
  refine dE ?_
  refine jA ?_
  refine iA hX hb [0,1] rfl (σ' := ?s9) (fun K hK => ?h9) ?n9
  case h9 =>
   iterate 2 (refine kA rfl (by simp (disch := omega) only [gA,aA,qop,fop,St.ev,St.put,cd,zd,Value.oneCell',lA,TypeDesc.aggB,Z0,yA,iop,tt,Z2,vB,Zh] <;> exact rfl) ?_)
   refine bA ?_
   exact hK
  refine jA ?_
  exact ⟨j + 1,by (try dsimp only); omega,by (try dsimp only); omega,sC ⟨(by first | rfl | (rw [kH S F Y j (by omega),← mD]; simp)),(by repeat first | exact tA | refine qB ?_ | refine uA (by first | rfl | (rw [kH S F Y j (by omega),← mD]; simp)) ?_),(vC rfl ((by repeat first | exact tA | refine qB ?_ | refine uA (by first | rfl | (rw [kH S F Y j (by omega),← mD]; simp)) ?_)) (wB _)),(zE (by first | rfl | (rw [kH S F Y j (by omega),← mD]; simp)) (xB _)),rfl,rfl⟩⟩
 ·try simp only [Zp,Zi,ZK,ZJ,ne_eq,Zn,Zm,ZB,ZA,ZI,not_or,not_and,Zu] at hc0
  refine sD ?_
  refine fD ?_
  refine fD ?_
  refine dF ?_
  refine jA ?_
  refine fA ?_
  obtain rfl : j = Y.length := by omega
  refine mI 0 rfl (σ' := ?s11) ?h11 ?n11
  case h11 => simp only [St.freeze,D.freeze,ZG,ZH,Za,Zb,Zr,reduceIte,Nat.reduceEqDiff]; exact rfl
  refine iA hX hb [0,1,2,3,4,5,6] rfl (σ' := ?s10) (fun K hK => ?h10) ?n10
  case h10 =>
   iterate 2 (refine kA rfl (by simp (disch := omega) only [gA,aA,qop,fop,St.ev,St.put,cd,zd,Value.oneCell',lA,TypeDesc.aggB,Z0,sA,D.pv?,cA,mA,iC,D.boxCells,D.live,D.cells?,D.pure?,ZM,ZL,ZN,Z1,ZG,ZH,St.setVec,ZC,tt,Z2,vB,Zh] <;> exact rfl) ?_)
   refine jD rfl (by simp only [aA,St.ev,nB,oB,sA,D.pv?,ZG,ZH,zd,cd,Value.oneCell',Zr] <;> exact rfl) (acK hP (c73 (jJ S F (Y.take Y.length)) 0 (by rw [kO,List.length_take]; omega) (uAA hF.1 hS fun x hx => hXS x (List.mem_of_mem_take hx)) (tS hF.1 _ 0 (hY.sublist (List.take_sublist _ _)) (fun x hx => hXS x (List.mem_of_mem_take hx)) (fun _ _ => Int.natCast_nonneg _)))) (by simp only [St.put,Za,Zb] <;> exact rfl) ?_
   iterate 4 (refine kA rfl (by simp (disch := omega) only [gA,aA,qop,fop,St.ev,St.put,cd,zd,Value.oneCell',lA,TypeDesc.aggB,Z0,sA,D.pv?,cA,mA,iC,D.boxCells,D.live,D.cells?,D.pure?,ZM,ZL,ZN,Z1,ZG,ZH,St.setVec,ZC,tt,Z2,vB,Zh] <;> exact rfl) ?_)
   refine bA ?_
   exact hK
  refine jA ?_
  refine iA hX hb [0,1] rfl (σ' := ?s12) (fun K hK => ?h12) ?n12
  case h12 =>
   (refine kA rfl (by simp (disch := omega) only [gA,aA,qop,fop,St.ev,St.put,cd,zd,Value.oneCell',lA,TypeDesc.aggB,Z0,sA,D.pv?,vHA,vW,Z2,vB,Zh] <;> exact rfl) ?_)
   refine lAA rfl rfl (by simp only [St.ev,nB,oB,zd,cd,Value.oneCell',Zr] <;> exact rfl) rfl (by simp only [St.ev,nB,oB,zd,cd,Value.oneCell',Zr] <;> exact rfl) rfl (by simp only [eA,D.pure?] <;> exact rfl) (by simp only [sA,nD,D.pvC?,D.pvN?,D.pvL?,eA,D.pv?,D.pure?,St.ev,nB,oB,zd,cd,Value.oneCell',Zr,ZG,ZH,Zd,Zc,Zg] <;> exact rfl) (acM hP (m96 _ _ _ _ _ _ _ _)) (by simp only [St.put,ZG,ZH,Za,Zb] <;> exact rfl) ?_
   refine bA ?_
   exact hK
  exact sY rfl rfl rfl (by first | (simp only [eA,D.pure?] <;> exact rfl) | (simp only [eA,D.pure?]; rw [List.take_length]))
theorem m97 (S F : Nat) (lv : List (List Int)) (k : Nat) (pd fo : List (Int × Int)) (se : Int) (dn : Bool) (Y : List Nat) (hk : k < lv.length) (hY : Y.length ≤ 4096) (hlv : lv.length ≤ 4096) (hx : ∀ x ∈ Y,x ≤ 1000000) (hr : (lv.getD k []).length ≤ 4096) : ACallsM Try.prog 97 139 [i64 (S : Int),i64 (F : Int),xD lv,uC pd,i64 ((k + 1 : Nat) : Int),uC fo,i64 se,bv dn] [i64 (S : Int),i64 (F : Int),xD lv,uC (kI (bG (lv.getD k []).length Y)),i64 (k : Int),uC fo,i64 se,bv dn] [.p (jX Y)] (.tup []) := by
 refine qK jC Try.func97 (c := _) rfl (by kernel_rfl) ?_
 intro X hP hX hro hpl
 have hb : tb.Ok X.P := hP ▸ jC
 change AW X _ _ ⟨[.pin 1],[.ptr 0 0,.p (jX Y),.any,.any,.any,.any,.any,.any,.any,.any,.any,.any,.any,.any,.any,.any,.any,.any,.any,.any,.any,.any,.any,.any,.any,.any,.any,.any,.any,.any,.any,.any,.any,.any,.any,.any,.any,.any,.any,.any,.any,.any,.any,.any,.any,.any,.any,.any,.any,.any,.any,.any,.any,.any,.any,.any],[⟨139,[.p (i64 (S : Int)),.p (i64 (F : Int)),.p (xD lv),.p (uC pd),.p (i64 ((k + 1 : Nat) : Int)),.p (uC fo),.p (i64 se),.p (bv dn)]⟩],[]⟩
 have hk1 : (((k + 1 : Nat) : Int) - 1) = (k : Int) := by omega
 refine fA ?_
 refine iA hX hb [0,1,2,3,4,5,6,7,8,9] rfl (σ' := ?s1) (fun K hK => ?h1) ?n1
 case h1 =>
  iterate 10 (refine kA rfl (by simp (disch := omega) only [gA,aA,qop,fop,St.ev,St.put,cd,zd,Value.oneCell',lA,TypeDesc.aggB,Z0,cA,mA,Z1,oA,pA,qA,eA,D.pure?,ZC,ZD,yA,iop,iC,D.boxCells,D.live,D.cells?,ZM,ZL,ZN,ZG,ZH,St.setVec,tt,Z2,vB,Zh,yI,hk1] <;> exact rfl) ?_)
  refine bA ?_
  exact hK
 refine jA ?_
 refine fA ?_
 refine iA hX hb [0,1,2,3,4] rfl (σ' := ?s2) (fun K hK => ?h2) ?n2
 case h2 =>
  iterate 5 (refine kA rfl (by simp (disch := omega) only [gA,aA,qop,fop,St.ev,St.put,cd,zd,Value.oneCell',lA,TypeDesc.aggB,Z0,cA,mA,iC,D.boxCells,D.live,D.cells?,D.pure?,ZM,ZL,ZN,Z1,ZG,ZH,St.setVec,ZC,tt,Z2,vB,Zh,yI] <;> exact rfl) ?_)
  refine bA ?_
  exact hK
 refine jA ?_
 refine oP 0 3 _ 35 2 rfl rfl (σ' := ?s3) ?h3 ?n3
 case h3 => simp only [St.nilCell,St.addVec,Za,Zb,Zl,Zo,ZL,ZM]; exact rfl
 refine fA ?_
 refine iA hX hb [0,1,2] rfl (σ' := ?s4) (fun K hK => ?h4) ?n4
 case h4 =>
  iterate 3 (refine kA rfl (by simp (disch := omega) only [gA,aA,qop,fop,St.ev,St.put,cd,zd,Value.oneCell',lA,TypeDesc.aggB,Z0,mC,tt,Z2,vB,Zh,yI] <;> exact rfl) ?_)
  refine bA ?_
  exact hK
 refine jA ?_
 refine bV (σ' := ⟨[.pin 1],[.ptr 0 0,.any,.any,.any,.any,.any,.any,.any,.any,.any,.any,.any,.any,.any,.any,.any,.any,.any,.any,.any,.any,.any,.any,.any,.any,.any,.any,.any,.any,.any,.any,.any,.any,.any,.any,.any,.any,.any,.any,.any,.any,.any,.any,.any,.any,.any,.any,.any,.any,.any,.any,.any,.any,.any,.any,.any],[⟨139,[.p (i64 (S : Int)),.p (i64 (F : Int)),.p (xD lv),.p (uC (kI (bG (lv.getD k []).length Y))),.p (i64 (k : Int)),.p (uC fo),.p (i64 se),.p (bv dn)]⟩],[]⟩) ?_ ?_
 ·refine uB ?_
  refine vD (ι := Nat) (fun j => j ≤ Y.length ∧ AddS (2 * j) (kI (bG (lv.getD k []).length (Y.take j)))) (fun j => ⟨[.pin 1],[.ptr 0 0,.any,.any,.any,.any,.any,.any,.any,.any,.any,.any,.any,.any,.any,.any,.any,.any,.any,.any,.any,.any,.p (jX Y),.p (i64 Y.length),.p (i64 j),.any,.any,.any,.any,.any,.any,.any,.any,.any,.any,.any,.any,.any,.any,.any,.any,.any,.any,.any,.any,.any,.any,.any,.any,.any,.any,.any,.any,.any,.any,.any,.any],[⟨139,[.p (i64 (S : Int)),.p (i64 (F : Int)),.p (xD lv),.vref 0,.p (i64 (k : Int)),.p (uC fo),.p (i64 se),.p (bv dn)]⟩],[some ⟨35,2,(kI (bG (lv.getD k []).length (Y.take j))).length,bE (kI (bG (lv.getD k []).length (Y.take j)))⟩]⟩) (fun j => Y.length - j) 0 (by exact ⟨Nat.zero_le _,AddS.nil⟩) (sC ⟨(by first | rfl | (rw [yG _ _ _ (by omega)])),(by repeat first | exact tA | refine qB ?_ | refine uA (by first | rfl | (rw [yG _ _ _ (by omega)])) ?_),(vC rfl ((by repeat first | exact tA | refine qB ?_ | refine uA (by first | rfl | (rw [yG _ _ _ (by omega)])) ?_)) (wB _)),(zE (by first | rfl | (rw [yG _ _ _ (by omega)])) (xB _)),rfl,rfl⟩) ?_
  rintro j ⟨hj,hs0⟩
  refine fA ?_
  refine iA hX hb [0] rfl (σ' := ?s5) (fun K hK => ?h5) ?n5
  case h5 =>
   (refine kA rfl (by simp (disch := omega) only [gA,aA,qop,fop,St.ev,St.put,cd,zd,Value.oneCell',lA,TypeDesc.aggB,Z0,yA,iop,tt,Z2,vB,Zh,yI] <;> exact rfl) ?_)
   refine bA ?_
   exact hK
  refine jA ?_
  refine fA ?_
  refine mB _ rfl (fun hc0 => ?_) (fun hc0 => ?_)
  ·try simp only [Zp,Zi,ZK,ZJ,ne_eq,Zn,Zm,ZB,ZA,ZI,not_or,not_and,Zu] at hc0
   have hxj := hx _ (tE Y 0 j (by omega))
   refine tB ?_
   refine jA ?_
   refine fA ?_
   refine uB ?_
   refine fA ?_
   refine iA hX hb [0,1,2] rfl (σ' := ?s6) (fun K hK => ?h6) ?n6
   case h6 =>
    iterate 3 (refine kA rfl (by simp (disch := omega) only [gA,aA,qop,fop,St.ev,St.put,cd,zd,Value.oneCell',lA,TypeDesc.aggB,Z0,Int.toNat_zero,Int.toNat_one,wA,xA,vA,ZO,Nat.mul_one,ZC,Nat.zero_mul,Zh,Z1,oA,pA,qA,eA,D.pure?,ZD,tt,Z2,vB,yI] <;> exact rfl) ?_)
    refine bA ?_
    exact hK
   refine jA ?_
   refine fA ?_
   refine iA hX hb [0,1,2,3,4,5,6,7] rfl (σ' := ?s7) (fun K hK => ?h7) ?n7
   case h7 =>
    iterate 8 (refine kA rfl (by simp (disch := omega) only [gA,aA,qop,fop,St.ev,St.put,cd,zd,Value.oneCell',lA,TypeDesc.aggB,Z0,yA,iop,zD,wC,xC,aE,bB,rB,D.cells?,D.pure?,eB,fB,gB,iB,jB,ZG,ZH,ZL,ZM,ZN,Zl,Zo,zA,Nat.reduceAdd,Nat.reduceMul,mC,tt,Z2,vB,Zh,yI] <;> exact rfl) ?_)
    refine bA ?_
    exact hK
   refine jA ?_
   refine uB ?_
   refine vD (ι := Nat) (fun q => q ≤ 2 ∧ AddS (2 * j + q) (kI (bG (lv.getD k []).length (Y.take j) ++ pN (lv.getD k []).length (Y.getD j 0) q))) (fun q => ⟨[.pin 1],[.ptr 0 0,.any,.any,.any,.any,.any,.any,.any,.any,.any,.any,.any,.any,.any,.any,.any,.any,.any,.any,.any,.any,.p (jX Y),.p (i64 Y.length),.p (i64 j),.any,.any,.any,.any,.any,.any,.any,.any,.p (.sl 2 [i64 (2 * (Y.getD j 0 : Int)),i64 (2 * (Y.getD j 0 : Int) + 1)]),.p (i64 2),.p (i64 q),.any,.any,.any,.any,.any,.any,.any,.any,.any,.any,.any,.any,.any,.any,.any,.any,.any,.any,.any,.any,.any],[⟨139,[.p (i64 (S : Int)),.p (i64 (F : Int)),.p (xD lv),.vref 0,.p (i64 (k : Int)),.p (uC fo),.p (i64 se),.p (bv dn)]⟩],[some ⟨35,2,(kI (bG (lv.getD k []).length (Y.take j) ++ pN (lv.getD k []).length (Y.getD j 0) q)).length,bE (kI (bG (lv.getD k []).length (Y.take j) ++ pN (lv.getD k []).length (Y.getD j 0) q))⟩]⟩) (fun q => 2 - q) 0 (by exact ⟨Nat.zero_le _,by rw [jI,List.append_nil]; exact hs0⟩) (sC ⟨(by first | rfl | (first | (rw [jI,List.append_nil]) | (rw [iF _ _ q (by omega),if_pos (by omega),← List.append_assoc,gF]) | (rw [iF _ _ q (by omega),if_neg (by omega),List.append_nil]))),(by repeat first | exact tA | refine qB ?_ | refine uA (by first | rfl | (first | (rw [jI,List.append_nil]) | (rw [iF _ _ q (by omega),if_pos (by omega),← List.append_assoc,gF]) | (rw [iF _ _ q (by omega),if_neg (by omega),List.append_nil]))) ?_),(vC rfl ((by repeat first | exact tA | refine qB ?_ | refine uA (by first | rfl | (first | (rw [jI,List.append_nil]) | (rw [iF _ _ q (by omega),if_pos (by omega),← List.append_assoc,gF]) | (rw [iF _ _ q (by omega),if_neg (by omega),List.append_nil]))) ?_)) (wB _)),(zE (by first | rfl | (first | (rw [jI,List.append_nil]) | (rw [iF _ _ q (by omega),if_pos (by omega),← List.append_assoc,gF]) | (rw [iF _ _ q (by omega),if_neg (by omega),List.append_nil]))) (xB _)),rfl,rfl⟩) ?_
   rintro q ⟨hq,hsm⟩
   refine fA ?_
   refine iA hX hb [0] rfl (σ' := ?s8) (fun K hK => ?h8) ?n8
   case h8 =>
    (refine kA rfl (by simp (disch := omega) only [gA,aA,qop,fop,St.ev,St.put,cd,zd,Value.oneCell',lA,TypeDesc.aggB,Z0,yA,iop,t3,ti3,Z2,vB,Zh,yI] <;> exact rfl) ?_)
    refine bA ?_
    exact hK
   refine jA ?_
   refine fA ?_
   refine mB _ rfl (fun hc1 => ?_) (fun hc1 => ?_)
   ·try simp only [Zp,Zi,ZK,ZJ,ne_eq,Zn,Zm,ZB,ZA,ZI,not_or,not_and,Zu] at hc1
    refine tB ?_
    refine jA ?_
    refine fA ?_
    refine uB ?_
    refine fA ?_
    refine iA hX hb [0,1,2] rfl (σ' := ?s9) (fun K hK => ?h9) ?n9
    case h9 =>
     iterate 3 (refine kA rfl (by simp (disch := omega) only [gA,aA,qop,fop,St.ev,St.put,cd,zd,Value.oneCell',lA,TypeDesc.aggB,Z0,Int.toNat_zero,Int.toNat_one,wA,xA,vA,ZO,Nat.mul_one,ZC,Nat.zero_mul,Zh,Z1,oA,pA,qA,eA,D.pure?,ZD,tt,Z2,vB,yI] <;> exact rfl) ?_)
     refine bA ?_
     exact hK
    refine jA ?_
    refine fA ?_
    refine iA hX hb [0,1,2,3,4] rfl (σ' := ?s10) (fun K hK => ?h10) ?n10
    case h10 =>
     iterate 2 (refine kA rfl (by simp (disch := omega) only [gA,aA,qop,fop,St.ev,St.put,cd,zd,Value.oneCell',lA,TypeDesc.aggB,Z0,sA,D.pv?,mC,yA,iop,tt,Z2,vB,Zh,yI] <;> exact rfl) ?_)
     refine tIA rfl rfl (by simp only [St.ev,nB,oB,zd,cd,Value.oneCell',Zr] <;> exact rfl) rfl (by simp only [St.ev,nB,oB,zd,cd,Value.oneCell',Zr] <;> exact rfl) rfl rfl (by simp only [sA,nD,D.pvC?,D.pvN?,D.pvL?,eA,D.pv?,D.pure?,St.ev,nB,oB,zd,cd,Value.oneCell',Zr,ZG,ZH,Zd,Zc,Zg] <;> exact rfl) (fun cs h => acR hP (oKA S F lv 0 k hk fo se dn cs h)) (by simp only [St.put,Za,Zb] <;> exact rfl) ?_
     iterate 2 (refine kA rfl (by simp (disch := omega) only [gA,aA,qop,fop,St.ev,St.put,cd,zd,Value.oneCell',lA,TypeDesc.aggB,Z0,sA,D.pv?,mC,yA,iop,tt,Z2,vB,Zh,yI] <;> exact rfl) ?_)
     refine bA ?_
     exact hK
    refine jA ?_
    refine mB _ rfl (fun hc2 => ?_) (fun hc2 => ?_)
    ·try simp only [Zp,Zi,ZK,ZJ,ne_eq,Zn,Zm,ZB,ZA,ZI,not_or,not_and,Zu] at hc2
     refine iA hX hb [0,1,2,3,4,5,6,7,8,9,10,11] rfl (σ' := ?s11) (fun K hK => ?h11) ?n11
     case h11 =>
      iterate 7 (refine kA rfl (by simp (disch := omega) only [gA,aA,qop,fop,St.ev,St.put,cd,zd,Value.oneCell',lA,TypeDesc.aggB,Z0,cA,mA,Z1,oA,pA,qA,eA,D.pure?,ZC,ZD,sA,D.pv?,iC,D.boxCells,D.live,D.cells?,ZM,ZL,ZN,ZG,ZH,St.setVec,tt,Z2,vB,Zh,yI] <;> exact rfl) ?_)
      refine cLA rfl rfl (by simp only [St.ev,nB,oB,zd,cd,Value.oneCell',Zr] <;> exact rfl) rfl (by simp only [St.ev,nB,oB,zd,cd,Value.oneCell',Zr] <;> exact rfl) rfl (by simp only [sA,nD,D.pvC?,D.pvN?,D.pvL?,eA,D.pv?,D.pure?,St.ev,nB,oB,zd,cd,Value.oneCell',Zr,ZG,ZH,Zd,Zc,Zg] <;> exact rfl) (acV hP (uNA _ (2 * Y.getD j 0 + q) (2 * j + q) hsm (by omega) (by omega))) (cZ _) (by simp only [St.demote,D.demote,St.setVec,St.put,ZG,ZH,Za,Zb,reduceIte,Zr] <;> exact rfl) ?_
      iterate 4 (refine kA rfl (by simp (disch := omega) only [gA,aA,qop,fop,St.ev,St.put,cd,zd,Value.oneCell',lA,TypeDesc.aggB,Z0,cA,mA,Z1,oA,pA,qA,eA,D.pure?,ZC,ZD,sA,D.pv?,iC,D.boxCells,D.live,D.cells?,ZM,ZL,ZN,ZG,ZH,St.setVec,tt,Z2,vB,Zh,yI] <;> exact rfl) ?_)
      refine bA ?_
      exact hK
     refine dE ?_
     refine jA ?_
     refine iA hX hb [0,1] rfl (σ' := ?s12) (fun K hK => ?h12) ?n12
     case h12 =>
      iterate 2 (refine kA rfl (by simp (disch := omega) only [gA,aA,qop,fop,St.ev,St.put,cd,zd,Value.oneCell',lA,TypeDesc.aggB,Z0,yA,iop,tt,Z2,vB,Zh,yI] <;> exact rfl) ?_)
      refine bA ?_
      exact hK
     refine jA ?_
     exact ⟨q + 1,by refine ⟨by omega,?_⟩; rw [iF _ _ q (by omega)]; first | (rw [if_pos (by omega),← List.append_assoc,gF]; exact hsm.step (Int.natCast_nonneg _) (by omega)) | (rw [if_neg (by omega),List.append_nil]; exact hsm.mono (by omega)),by (try dsimp only); omega,sC ⟨(by first | rfl | (first | (rw [jI,List.append_nil]) | (rw [iF _ _ q (by omega),if_pos (by omega),← List.append_assoc,gF]) | (rw [iF _ _ q (by omega),if_neg (by omega),List.append_nil]))),(by repeat first | exact tA | refine qB ?_ | refine uA (by first | rfl | (first | (rw [jI,List.append_nil]) | (rw [iF _ _ q (by omega),if_pos (by omega),← List.append_assoc,gF]) | (rw [iF _ _ q (by omega),if_neg (by omega),List.append_nil]))) ?_),(vC rfl ((by repeat first | exact tA | refine qB ?_ | refine uA (by first | rfl | (first | (rw [jI,List.append_nil]) | (rw [iF _ _ q (by omega),if_pos (by omega),← List.append_assoc,gF]) | (rw [iF _ _ q (by omega),if_neg (by omega),List.append_nil]))) ?_)) (wB _)),(zE (by first | rfl | (first | (rw [jI,List.append_nil]) | (rw [iF _ _ q (by omega),if_pos (by omega),← List.append_assoc,gF]) | (rw [iF _ _ q (by omega),if_neg (by omega),List.append_nil]))) (xB _)),rfl,rfl⟩⟩
    ·try simp only [Zp,Zi,ZK,ZJ,ne_eq,Zn,Zm,ZB,ZA,ZI,not_or,not_and,Zu] at hc2
     refine tB ?_
     refine dE ?_
     refine jA ?_
     refine iA hX hb [0,1] rfl (σ' := ?s13) (fun K hK => ?h13) ?n13
     case h13 =>
      iterate 2 (refine kA rfl (by simp (disch := omega) only [gA,aA,qop,fop,St.ev,St.put,cd,zd,Value.oneCell',lA,TypeDesc.aggB,Z0,yA,iop,tt,Z2,vB,Zh,yI] <;> exact rfl) ?_)
      refine bA ?_
      exact hK
     refine jA ?_
     exact ⟨q + 1,by refine ⟨by omega,?_⟩; rw [iF _ _ q (by omega)]; first | (rw [if_pos (by omega),← List.append_assoc,gF]; exact hsm.step (Int.natCast_nonneg _) (by omega)) | (rw [if_neg (by omega),List.append_nil]; exact hsm.mono (by omega)),by (try dsimp only); omega,sC ⟨(by first | rfl | (first | (rw [jI,List.append_nil]) | (rw [iF _ _ q (by omega),if_pos (by omega),← List.append_assoc,gF]) | (rw [iF _ _ q (by omega),if_neg (by omega),List.append_nil]))),(by repeat first | exact tA | refine qB ?_ | refine uA (by first | rfl | (first | (rw [jI,List.append_nil]) | (rw [iF _ _ q (by omega),if_pos (by omega),← List.append_assoc,gF]) | (rw [iF _ _ q (by omega),if_neg (by omega),List.append_nil]))) ?_),(vC rfl ((by repeat first | exact tA | refine qB ?_ | refine uA (by first | rfl | (first | (rw [jI,List.append_nil]) | (rw [iF _ _ q (by omega),if_pos (by omega),← List.append_assoc,gF]) | (rw [iF _ _ q (by omega),if_neg (by omega),List.append_nil]))) ?_)) (wB _)),(zE (by first | rfl | (first | (rw [jI,List.append_nil]) | (rw [iF _ _ q (by omega),if_pos (by omega),← List.append_assoc,gF]) | (rw [iF _ _ q (by omega),if_neg (by omega),List.append_nil]))) (xB _)),rfl,rfl⟩⟩
   ·try simp only [Zp,Zi,ZK,ZJ,ne_eq,Zn,Zm,ZB,ZA,ZI,not_or,not_and,Zu] at hc1
    obtain rfl : q = 2 := by omega
    refine sD ?_
    refine fD ?_
    refine fD ?_
    refine dF ?_
    refine dE ?_
    refine jA ?_
    refine iA hX hb [0,1] rfl (σ' := ?s14) (fun K hK => ?h14) ?n14
    case h14 =>
     iterate 2 (refine kA rfl (by simp (disch := omega) only [gA,aA,qop,fop,St.ev,St.put,cd,zd,Value.oneCell',lA,TypeDesc.aggB,Z0,yA,iop,tt,Z2,vB,Zh,yI] <;> exact rfl) ?_)
     refine bA ?_
     exact hK
    refine jA ?_
    exact ⟨j + 1,by exact ⟨by omega,by rw [yG _ _ _ (by omega)]; exact hsm.mono (by omega)⟩,by (try dsimp only); omega,sC ⟨(by first | rfl | (rw [yG _ _ _ (by omega)])),(by repeat first | exact tA | refine qB ?_ | refine uA (by first | rfl | (rw [yG _ _ _ (by omega)])) ?_),(vC rfl ((by repeat first | exact tA | refine qB ?_ | refine uA (by first | rfl | (rw [yG _ _ _ (by omega)])) ?_)) (wB _)),(zE (by first | rfl | (rw [yG _ _ _ (by omega)])) (xB _)),rfl,rfl⟩⟩
  ·try simp only [Zp,Zi,ZK,ZJ,ne_eq,Zn,Zm,ZB,ZA,ZI,not_or,not_and,Zu] at hc0
   refine sD ?_
   refine fD ?_
   refine fD ?_
   refine dF ?_
   refine iS (yGA 0 rfl (σ1 := ?s15) ?h15 ?n15)
   case h15 => simp only [St.freeze,D.freeze,ZG,ZH,Za,Zb,Zr,reduceIte,Nat.reduceEqDiff]; exact rfl
   exact sC ⟨(by first | rfl | ((obtain rfl : j = Y.length := by omega); simp only [List.take_length])),(by repeat first | exact tA | refine qB ?_ | refine uA (by first | rfl | ((obtain rfl : j = Y.length := by omega); simp only [List.take_length])) ?_),(vC rfl ((by repeat first | exact tA | refine qB ?_ | refine uA (by first | rfl | ((obtain rfl : j = Y.length := by omega); simp only [List.take_length])) ?_)) (wB _)),(xB _),rfl,rfl⟩
 exact sY rfl rfl rfl (by first | (simp only [eA,D.pure?] <;> exact rfl))
end Go.Proofs.Ytldcoekbgfaomaa
end
section
namespace Go.Proofs.Ytldcoekbgfaomaa
open Go.RowKit
def lE (t : Tr) : Wa := ⟨t,[(0,1)],((t.lv.length - 1 : Nat) : Int),[],0,false⟩
def aH (t : Tr) : Wa × List Ms × Int := if rC t ≠ 0 then (.zero,[],rC t) else (lE t,[wK (lE t)],0)
theorem zS {t : Tr} (h : ¬ rC t = 0) : aH t = (.zero,[],rC t) := if_pos h
theorem yO {t : Tr} (h : rC t = 0) : aH t = (lE t,[wK (lE t)],0) := if_neg (not_not_intro h)
def pH (w : Wa) : Prop := w.level < 0 ∨ (w.tree.lv.length : Int) ≤ w.level ∨ (w.done = true ∧ w.level ≠ 0) ∨ w.sent < 0 ∨ 8192 < w.sent
instance (w : Wa) : Decidable (pH w) := by unfold pH; infer_instance
def oR (w : Wa) : List Int := w.tree.lv.getD w.level.toNat []
def eG (w : Wa) : Prop := if w.done = true then w.pend.length = 0 ∧ kJ w.found w.tree.size = 0 else w.pend.length ≠ 0 ∧ w.found.length = 0 ∧ kJ w.pend ((oR w).length : Nat) = 0
instance (w : Wa) : Decidable (eG w) := by unfold eG; infer_instance
def cK (w : Wa) : Int := if rC w.tree ≠ 0 then rC w.tree else if pH w then 2 else if eG w then 0 else 3
theorem lL {w : Wa} (h : ¬ rC w.tree = 0) : cK w = rC w.tree := if_pos h
theorem mL {w : Wa} (h : rC w.tree = 0) (h2 : pH w) : cK w = 2 := by rw [cK,if_neg (not_not_intro h),if_pos h2]
theorem tJ {w : Wa} (h : rC w.tree = 0) (h2 : ¬ pH w) (h3 : eG w) : cK w = 0 := by rw [cK,if_neg (not_not_intro h),if_neg h2,if_pos h3]
theorem oI {w : Wa} (h : rC w.tree = 0) (h2 : ¬ pH w) (h3 : ¬ eG w) : cK w = 3 := by rw [cK,if_neg (not_not_intro h),if_neg h2,if_neg h3]
theorem qR {w : Wa} (h : cK w = 0) : rC w.tree = 0 ∧ ¬ pH w ∧ eG w := by
 unfold cK at h
 split at h
 ·rename_i h1; exact absurd h h1
 ·rename_i h1
  split at h
  ·cases h
  ·rename_i h2
   split at h
   ·rename_i h3; exact ⟨Decidable.not_not.1 h1,h2,h3⟩
   ·cases h
/-- Numbers,two by two. -/
def rE : List Int → List (Int × Int)
 | a :: b :: r => (a,b) :: rE r
 | _ => []
def mF (row : List Int) (X : List Nat) : List Int := X.flatMap fun x => eD (row.getD x 0)
def pM (t : Tr) (m : Ms) : Ms × Int :=
 if rC t ≠ 0 then (.zero,rC t) else if m.kind ≠ 13 then (.zero,1) else if m.vs.length < 2 ∨ m.vs.length % 2 = 1 then (.zero,3)
 else if m.vs.getD 0 0 ≠ t.size ∨ m.vs.getD 1 0 ≠ t.leaf then (.zero,22) else if m.num < 0 ∨ (t.lv.length : Int) ≤ m.num then (.zero,2)
 else if kJ (rE (m.vs.drop 2)) ((t.lv.getD m.num.toNat []).length : Nat) ≠ 0 then (.zero,3)
 else (⟨14,m.dest,m.frm,m.num,0,0,m.vs,mF (t.lv.getD m.num.toNat []) (cC (rE (m.vs.drop 2)))⟩,0)
def aT (w : Wa) (body : List Int) : List Nat := xH (oR w) body (cC w.pend) (cC w.pend).length
def zO (w : Wa) (dif : List Nat) : Wa := ⟨w.tree,[],0,if w.level = 0 then oG (jJ w.tree.size.toNat w.tree.leaf.toNat dif) else [],w.sent + ((cC w.pend).length : Nat),true⟩
def nL (w : Wa) (dif : List Nat) : Wa := ⟨w.tree,kI (bG (w.tree.lv.getD (w.level.toNat - 1) []).length dif),w.level - 1,[],w.sent + ((cC w.pend).length : Nat),false⟩
def zL (w : Wa) (m : Ms) : Wa × List Ms × Int :=
 if cK w ≠ 0 then (.zero,[],cK w) else if w.done = true then (.zero,[],12) else if m.kind ≠ 14 then (.zero,[],1)
 else if m.num ≠ w.level ∨ m.vs ≠ nI w then (.zero,[],22) else if m.body.length ≠ 8 * (cC w.pend).length then (.zero,[],3)
 else if w.level = 0 ∨ aT w m.body = [] then (zO w (aT w m.body),[],0) else (nL w (aT w m.body),[wK (nL w (aT w m.body))],0)
theorem qN {w : Wa} {m : Ms} (h : ¬ cK w = 0) : zL w m = (.zero,[],cK w) := if_pos h
theorem eL {w : Wa} {m : Ms} (h : cK w = 0) (h1 : w.done = true) : zL w m = (.zero,[],12) := by rw [zL,if_neg (not_not_intro h),if_pos h1]
theorem rN {w : Wa} {m : Ms} (h : cK w = 0) (h1 : ¬ w.done = true) (h2 : m.kind ≠ 14) : zL w m = (.zero,[],1) := by rw [zL,if_neg (not_not_intro h),if_neg h1,if_pos h2]
theorem fL {w : Wa} {m : Ms} (h : cK w = 0) (h1 : ¬ w.done = true) (h2 : m.kind = 14) (h3 : m.num ≠ w.level ∨ m.vs ≠ nI w) : zL w m = (.zero,[],22) := by rw [zL,if_neg (not_not_intro h),if_neg h1,if_neg (not_not_intro h2),if_pos h3]
theorem sN {w : Wa} {m : Ms} (h : cK w = 0) (h1 : ¬ w.done = true) (h2 : m.kind = 14) (h3 : ¬ (m.num ≠ w.level ∨ m.vs ≠ nI w)) (h4 : m.body.length ≠ 8 * (cC w.pend).length) : zL w m = (.zero,[],3) := by rw [zL,if_neg (not_not_intro h),if_neg h1,if_neg (not_not_intro h2),if_neg h3,if_pos h4]
theorem cG {w : Wa} {m : Ms} (h : cK w = 0) (h1 : ¬ w.done = true) (h2 : m.kind = 14) (h3 : ¬ (m.num ≠ w.level ∨ m.vs ≠ nI w)) (h4 : m.body.length = 8 * (cC w.pend).length) (h5 : w.level = 0 ∨ aT w m.body = []) : zL w m = (zO w (aT w m.body),[],0) := by rw [zL,if_neg (not_not_intro h),if_neg h1,if_neg (not_not_intro h2),if_neg h3,if_neg (not_not_intro h4),if_pos h5]
theorem lJ {w : Wa} {m : Ms} (h : cK w = 0) (h1 : ¬ w.done = true) (h2 : m.kind = 14) (h3 : ¬ (m.num ≠ w.level ∨ m.vs ≠ nI w)) (h4 : m.body.length = 8 * (cC w.pend).length) (h5 : ¬ (w.level = 0 ∨ aT w m.body = [])) : zL w m = (nL w (aT w m.body),[wK (nL w (aT w m.body))],0) := by rw [zL,if_neg (not_not_intro h),if_neg h1,if_neg (not_not_intro h2),if_neg h3,if_neg (not_not_intro h4),if_neg h5]
/-- Bytes are bytes. -/
def aW (l : List Int) : Prop := ∀ x ∈ l,0 ≤ x ∧ x ≤ 255
def mJ (l : List Int) : Prop := ∀ x ∈ l,0 ≤ x ∧ x ≤ 18446744073709551615
theorem zZ {P : Int → Prop} {l : List Int} (h : ∀ x ∈ l,P x) (h0 : P 0) (i : Nat) : P (l.getD i 0) := by
 by_cases hi : i < l.length
 ·exact h _ (tE l 0 i hi)
 ·rw [List.getD_eq_getElem?_getD,List.getElem?_eq_none (by omega)]; exact h0
theorem pKA (l : List Int) (h : 8 ≤ l.length) : l.take 8 = [l.getD 0 0,l.getD 1 0,l.getD 2 0,l.getD 3 0,l.getD 4 0,l.getD 5 0,l.getD 6 0,l.getD 7 0] := by
 match l,h with
 | a :: b :: c :: d :: e :: f :: g :: i :: r,_ => simp
theorem tN (d : Int) (k : Nat) (hk : k < 8) (h : 0 ≤ d ∧ d ≤ 18446744073709551615) : shb d k = d / (256 ^ k : Nat) % 256 := by
 unfold shb
 rw [show min (8 * (k : Int)).toNat IntKind.u64.bits = 8 * k by show min (8 * (k : Int)).toNat 64 = _; omega]
 have e : ((2 : Int) ^ (8 * k)) = ((256 ^ k : Nat) : Int) := by
  rw [Int.pow_mul]
  simp
 rw [e,Int.fdiv_eq_ediv_of_nonneg _ (Int.natCast_nonneg _)]
 rfl
theorem jEA (d : Int) (h : 0 ≤ d ∧ d ≤ 18446744073709551615) : eD d = [d % 256,d / 256 % 256,d / 65536 % 256,d / 16777216 % 256,d / 4294967296 % 256,d / 1099511627776 % 256,d / 281474976710656 % 256,d / 72057594037927936 % 256] := by
 unfold eD
 rw [yZ]
 simp only [ZG,ZH]
 rw [tN d 0 (by omega) h,tN d 1 (by omega) h,tN d 2 (by omega) h,tN d 3 (by omega) h,tN d 4 (by omega) h,tN d 5 (by omega) h,tN d 6 (by omega) h,tN d 7 (by omega) h]
 simp
end Go.Proofs.Ytldcoekbgfaomaa
end
section
namespace Go.Proofs.Ytldcoekbgfaomaa
open Go.RowKit
set_option maxRecDepth 20000
set_option maxHeartbeats 4000000
attribute [local irreducible] jE oD AW
/-- A walk whose extents hold machine words. -/
def sX (w : Wa) : Prop := gR w.pend ∧ gR w.found
theorem wF (m : Ms) : zM [m] = P1.sl 1 (msC m) := by simp [bQ]
theorem zG {t : Tr} (h : rC t = 0) : t.lv.length ≤ 13 ∧ 1 ≤ t.lv.length ∧ ∀ r ∈ t.lv,r.length ≤ 4096 := by
 obtain ⟨h1,h2⟩ := iM h
 obtain ⟨_,_,_,_,_,_,_,_,q5,q6⟩ := nF h
 exact ⟨h2,h1,fun r hr => sK 4096 (t.lv.getD 0 []) (vI h).2 r (by rw [q6]; exact hr)⟩
theorem c84 (w : Wa) (hl : w.pend.length ≤ 1000000) : ACalls Try.prog 84 [waP w] (.agg (msC (wK w))) := by
 obtain ⟨⟨s,f,lv⟩,pd,le,fo,se,dn⟩ := w
 dsimp only at hl
 refine oC jC Try.func84 (c := _) rfl (by kernel_rfl) ?_
 intro X hP hX hro hpl
 have hb : tb.Ok X.P := hP ▸ jC
 change AW X _ _ ⟨[],[.agg [i64 s,i64 f,xD lv,uC pd,i64 le,uC fo,i64 se,bv dn],.any,.any,.any,.any,.any,.any,.any,.any,.any,.any,.any,.any,.any,.any,.any,.any,.any,.any,.any,.any,.any,.any,.any,.any,.any,.any,.any,.any,.any,.any,.any,.any,.any,.any,.any,.any,.any],[],[]⟩
 refine fA ?_
 refine iA hX hb [0,1] rfl (σ' := ?s1) (fun K hK => ?h1) ?n1
 case h1 =>
  iterate 2 (refine kA rfl (by simp (disch := omega) only [gA,aA,qop,fop,St.ev,St.put,cd,zd,Value.oneCell',lA,TypeDesc.aggB,Z0,ZM,ZL,Zl,Zo,ZG,ZH,St.addBox,D.boxCells,D.live,Value.cells,tt,Z2,Zh,wD] <;> exact rfl) ?_)
  refine bA ?_
  exact hK
 refine jA ?_
 refine fA ?_
 refine iA hX (jN [11] hb) [0,1,2,3,4,5,6,7] rfl (σ' := ?s2) (fun K hK => ?h2) ?n2
 case h2 =>
  iterate 8 (refine kA rfl (by simp (disch := omega) only [gA,aA,qop,fop,St.ev,St.put,cd,zd,Value.oneCell',lA,TypeDesc.aggB,Z0,cA,mA,Z1,oA,pA,qA,eA,D.pure?,ZC,ZD,zD,wC,xC,aE,bB,rB,D.cells?,eB,fB,gB,iB,jB,ZG,ZH,ZL,ZM,ZN,zA,Nat.reduceAdd,Nat.reduceMul,tt,Z2,Zh,wD,xM,qI,nH,St.addVec] <;> exact rfl) ?_)
  refine bA ?_
  exact hK
 refine jA ?_
 refine fA ?_
 refine fA ?_
 refine iA hX hb [0] rfl (σ' := ?s3) (fun K hK => ?h3) ?n3
 case h3 =>
  (refine kA rfl (by simp (disch := omega) only [gA,aA,qop,fop,St.ev,St.put,cd,zd,Value.oneCell',lA,TypeDesc.aggB,Z0,Z2,Zh,wD] <;> exact rfl) ?_)
  refine bA ?_
  exact hK
 refine jA ?_
 refine uB ?_
 refine vD (ι := Nat) (fun i => i ≤ pd.length) (fun i => ⟨[],[.any,.ptr 0 0,.ptr 1 0,.vref 0,.p (i64 i),.any,.any,.any,.any,.any,.any,.any,.any,.any,.any,.any,.any,.any,.any,.any,.any,.any,.any,.any,.any,.any,.any,.any,.any,.any,.any,.any,.any,.any,.any,.any,.any,.any],[⟨75,[.p (i64 s),.p (i64 f),.p (xD lv),.p (uC pd),.p (i64 le),.p (uC fo),.p (i64 se),.p (bv dn)]⟩,⟨90,[.p (i64 0),.p (i64 0),.p (i64 0),.p (i64 0),.p (i64 0),.p (i64 0),.nil,.nil]⟩],[some ⟨3,1,(([s,f] ++ (pd.take i).flatMap fun e => [e.1,e.2])).length,(([s,f] ++ (pd.take i).flatMap fun e => [e.1,e.2])).map i64⟩]⟩) (fun i => pd.length - i) 0 (by exact Nat.zero_le _) (sC ⟨rfl,(by repeat first | exact tA | refine qB ?_ | refine uA (by first | rfl | (rw [sE s f pd i (by omega)]; simp [-List.length_flatMap,wD])) ?_),(vC rfl ((by repeat first | exact tA | refine qB ?_ | refine uA (by first | rfl | (rw [sE s f pd i (by omega)]; simp [-List.length_flatMap,wD])) ?_)) (vC rfl ((by repeat first | exact tA | refine qB ?_ | refine uA (by first | rfl | (rw [sE s f pd i (by omega)]; simp [-List.length_flatMap,wD])) ?_)) (wB _))),(zE (by first | rfl | (rw [sE s f pd i (by omega)]; simp [-List.length_flatMap,wD])) (xB _)),rfl,rfl⟩) ?_
 rintro i hJ
 have hti : (pd.take i).length = i := by rw [List.length_take]; omega
 have hpl : ((pd.take i).flatMap fun e => [e.1,e.2]).length = i * 2 := by rw [wD,List.length_take]; omega
 refine fA ?_
 refine fA ?_
 refine iA hX hb [0,1,2,3,4] rfl (σ' := ?s4) (fun K hK => ?h4) ?n4
 case h4 =>
  iterate 5 (refine kA rfl (by simp (disch := omega) only [gA,aA,qop,fop,St.ev,St.put,cd,zd,Value.oneCell',lA,TypeDesc.aggB,Z0,cA,mA,Z1,oA,pA,qA,eA,D.pure?,ZC,ZD,mC,yA,iop,tt,Z2,Zh,wD] <;> exact rfl) ?_)
  refine bA ?_
  exact hK
 refine jA ?_
 refine mB _ rfl (fun hc0 => ?_) (fun hc0 => ?_)
 ·try simp only [Zp,Zi,ZK,ZJ,ne_eq,Zn,Zm,ZB,ZA,ZI,not_or,not_and,Zu] at hc0
  refine tB ?_
  refine jA ?_
  refine fA ?_
  refine uB ?_
  refine bF hX hb (gD hP) [(0,true),(1,true),(2,true),(3,true),(4,true),(5,true),(6,true),(7,true),(8,true),(9,true),(10,true),(11,true),(12,true),(13,false),(14,false),(15,true)] (by kernel_rfl) (σ' := ?s5) (fun K hK => ?h5) ?n5
  case h5 =>
   iterate 13 (refine xE rfl (by simp (disch := omega) only [qop,fop,St.ev,St.put,cd,zd,Value.oneCell',lA,TypeDesc.aggB,Z0,cA,mA,Z1,oA,pA,qA,eA,D.pure?,ZC,ZD,Int.toNat_zero,Int.toNat_one,wA,xA,vA,ZO,Nat.mul_one,Nat.zero_mul,Zh,zD,wC,xC,aE,bB,rB,D.cells?,eB,fB,gB,iB,jB,ZG,ZH,ZL,ZM,ZN,zA,Nat.reduceAdd,Nat.reduceMul,cE,qG,St.demote,D.demote,St.setVec,List.length_append,reduceIte,tt,Z2,wD] <;> exact rfl) (by simp only [St.put,Za,Zb] <;> exact rfl) ?_)
   iterate 2 (refine vG rfl (by simp (disch := omega) only [gA,aA,qop,fop,St.ev,St.put,cd,zd,Value.oneCell',lA,TypeDesc.aggB,Z0,cA,mA,Z1,oA,pA,qA,eA,D.pure?,ZC,ZD,Int.toNat_zero,Int.toNat_one,wA,xA,vA,ZO,Nat.mul_one,Nat.zero_mul,Zh,zD,wC,xC,aE,bB,rB,D.cells?,eB,fB,gB,iB,jB,ZG,ZH,ZL,ZM,ZN,zA,Nat.reduceAdd,Nat.reduceMul,cE,qG,St.demote,D.demote,St.setVec,List.length_append,reduceIte,tt,Z2,wD] <;> exact rfl) ?_)
   (refine xE rfl (by simp (disch := omega) only [qop,fop,St.ev,St.put,cd,zd,Value.oneCell',lA,TypeDesc.aggB,Z0,cA,mA,Z1,oA,pA,qA,eA,D.pure?,ZC,ZD,Int.toNat_zero,Int.toNat_one,wA,xA,vA,ZO,Nat.mul_one,Nat.zero_mul,Zh,zD,wC,xC,aE,bB,rB,D.cells?,eB,fB,gB,iB,jB,ZG,ZH,ZL,ZM,ZN,zA,Nat.reduceAdd,Nat.reduceMul,cE,qG,St.demote,D.demote,St.setVec,List.length_append,reduceIte,tt,Z2,wD] <;> exact rfl) (by simp only [St.put,Za,Zb] <;> exact rfl) ?_)
   refine qC ?_
   exact hK
  refine dE ?_
  refine jA ?_
  refine iA hX hb [0,1,2] rfl (σ' := ?s6) (fun K hK => ?h6) ?n6
  case h6 =>
   iterate 3 (refine kA rfl (by simp (disch := omega) only [gA,aA,qop,fop,St.ev,St.put,cd,zd,Value.oneCell',lA,TypeDesc.aggB,Z0,yA,iop,tt,Z2,Zh,wD] <;> exact rfl) ?_)
   refine bA ?_
   exact hK
  refine jA ?_
  exact ⟨i + 1,by (try dsimp only); omega,by (try dsimp only); omega,sC ⟨rfl,(by repeat first | exact tA | refine qB ?_ | refine uA (by first | rfl | (rw [sE s f pd i (by omega)]; simp [-List.length_flatMap,wD])) ?_),(vC rfl ((by repeat first | exact tA | refine qB ?_ | refine uA (by first | rfl | (rw [sE s f pd i (by omega)]; simp [-List.length_flatMap,wD])) ?_)) (vC rfl ((by repeat first | exact tA | refine qB ?_ | refine uA (by first | rfl | (rw [sE s f pd i (by omega)]; simp [-List.length_flatMap,wD])) ?_)) (wB _))),(zE (by first | rfl | (rw [sE s f pd i (by omega)]; simp [-List.length_flatMap,wD])) (xB _)),rfl,rfl⟩⟩
 ·try simp only [Zp,Zi,ZK,ZJ,ne_eq,Zn,Zm,ZB,ZA,ZI,not_or,not_and,Zu] at hc0
  refine sD ?_
  refine fD ?_
  refine fD ?_
  refine dF ?_
  refine jA ?_
  refine fA ?_
  obtain rfl : i = pd.length := by omega
  refine mI 0 rfl (σ' := ?s8) ?h8 ?n8
  case h8 => simp only [St.freeze,D.freeze,ZG,ZH,Za,Zb,Zr,reduceIte,Nat.reduceEqDiff]; exact rfl
  refine iA hX hb [0,1,2,3,4] rfl (σ' := ?s7) (fun K hK => ?h7) ?n7
  case h7 =>
   iterate 5 (refine kA rfl (by simp (disch := omega) only [gA,aA,qop,fop,St.ev,St.put,cd,zd,Value.oneCell',lA,TypeDesc.aggB,Z0,cA,mA,Z1,oA,pA,qA,eA,D.pure?,ZC,ZD,eE,aD,lC,eC,D.cell1,eB,fB,gB,iB,jB,List.all_cons,List.all_nil,zC,TI.place,TI.zeros,TI.kindOk,D.cells?,zp,Value.cells,ZQ,ZP,iC,D.boxCells,D.live,ZM,ZL,ZN,ZG,ZH,St.setVec,tt,Z2,Zh,wD] <;> exact rfl) ?_)
   refine bA ?_
   exact hK
  refine jA ?_
  refine bC ?_
  exact tC rfl (sB (by simp only [qE,oA,pA,lA,TypeDesc.aggB,eA,D.pure?,D.pv?,nB,oB,Zd,Zc,Zw,Zk,Zv,Zj,Zx,Zl,Zo,Zr,reduceIte,Nat.reduceAdd,Nat.reduceLeDiff,Zg,Zf,tt] <;> exact rfl) (by first | rfl | (simp [-List.length_flatMap,msC,wK,nI,wD,PV.d])))
theorem c46 (t : Tr) : ACalls Try.prog 46 [trP t] (.tup [waP (aH t).1,.p (zM (aH t).2.1),.p (i64 (aH t).2.2)]) := by
 obtain ⟨s,f,lv⟩ := t
 refine oC jC Try.func46 (c := _) rfl (by kernel_rfl) ?_
 intro X hP hX hro hpl
 have hb : tb.Ok X.P := hP ▸ jC
 change AW X _ _ ⟨[],[.agg [i64 s,i64 f,xD lv],.any,.any,.any,.any,.any,.any,.any,.any,.any,.any,.any,.any,.any,.any,.any,.any,.any,.any,.any,.any,.any,.any,.any,.any],[],[]⟩
 refine fA ?_
 refine iA hX hb [0,1,2,3] rfl (σ' := ?s1) (fun K hK => ?h1) ?n1
 case h1 =>
  iterate 4 (refine kA rfl (by simp (disch := omega) only [gA,aA,qop,fop,St.ev,St.put,cd,zd,Value.oneCell',lA,TypeDesc.aggB,Z0,ZM,ZL,Z1,ZG,ZH,St.addBox,D.boxCells,D.live,Value.cells,tt,ZN] <;> exact rfl) ?_)
  refine bA ?_
  exact hK
 refine jA ?_
 refine fA ?_
 refine fA ?_
 refine iA hX hb [0,1,2] rfl (σ' := ?s2) (fun K hK => ?h2) ?n2
 case h2 =>
  (refine kA rfl (by simp (disch := omega) only [gA,aA,qop,fop,St.ev,St.put,cd,zd,Value.oneCell',lA,TypeDesc.aggB,Z0,Z1,oA,pA,qA,eA,D.pure?,ZC,ZD,sA,D.pv?,tt,ZM,ZL,ZN] <;> exact rfl) ?_)
  refine jD rfl (by simp only [aA,St.ev,nB,oB,sA,D.pv?,ZG,ZH,zd,cd,Value.oneCell',Zr] <;> exact rfl) (acK hP (c34 ⟨s,f,lv⟩)) (by simp only [St.put,Za,Zb] <;> exact rfl) ?_
  (refine kA rfl (by simp (disch := omega) only [gA,aA,qop,fop,St.ev,St.put,cd,zd,Value.oneCell',lA,TypeDesc.aggB,Z0,Z1,oA,pA,qA,eA,D.pure?,ZC,ZD,sA,D.pv?,tt,ZM,ZL,ZN] <;> exact rfl) ?_)
  refine bA ?_
  exact hK
 refine jA ?_
 refine fA ?_
 refine iA hX hb [0,1] rfl (σ' := ?s3) (fun K hK => ?h3) ?n3
 case h3 =>
  iterate 2 (refine kA rfl (by simp (disch := omega) only [gA,aA,qop,fop,St.ev,St.put,cd,zd,Value.oneCell',lA,TypeDesc.aggB,Z0,yA,iop,tt,ZM,ZL,ZN,Z1] <;> exact rfl) ?_)
  refine bA ?_
  exact hK
 refine jA ?_
 refine mB _ rfl (fun hc0 => ?_) (fun hc0 => ?_)
 ·try simp only [Zp,Zi,ZK,ZJ,ne_eq,Zn,Zm,ZB,ZA,ZI,not_or,not_and,Zu] at hc0
  refine fA ?_
  refine iA hX hb [0,1,2,3,4] rfl (σ' := ?s4) (fun K hK => ?h4) ?n4
  case h4 =>
   iterate 5 (refine kA rfl (by simp (disch := omega) only [gA,aA,qop,fop,St.ev,St.put,cd,zd,Value.oneCell',lA,TypeDesc.aggB,Z0,eE,aD,lC,eC,D.cell1,eB,fB,gB,iB,jB,List.all_cons,List.all_nil,zC,TI.place,TI.zeros,TI.kindOk,D.cells?,D.pure?,zp,Value.cells,ZQ,ZP,Z1,iC,D.boxCells,D.live,ZM,ZL,ZN,ZG,ZH,St.setVec,ZC,tt] <;> exact rfl) ?_)
   refine bA ?_
   exact hK
  refine jA ?_
  refine bC ?_
  refine nC ?_
  exact tC rfl (cF (by simp only [qE,oA,pA,lA,TypeDesc.aggB,eA,D.pure?,D.pv?,nB,oB,Zd,Zc,Zw,Zk,Zv,Zj,Zx,Zl,Zo,Zr,reduceIte,Nat.reduceAdd,Nat.reduceLeDiff,Zg,Zf,tt] <;> exact rfl) rfl rfl (by first | rfl | (first | (rw [zS hc0] <;> rfl) | (rw [yO hc0,wF] <;> rfl))))
 ·try simp only [Zp,Zi,ZK,ZJ,ne_eq,Zn,Zm,ZB,ZA,ZI,not_or,not_and,Zu] at hc0
  have hsm := zG hc0
  dsimp only at hsm
  have hlm1 : ((lv.length : Int) - 1) = ((lv.length - 1 : Nat) : Int) := by omega
  refine tB ?_
  refine jA ?_
  refine fA ?_
  refine iA hX hb [0,1,2,3,4,5,6,7,8,9] rfl (σ' := ?s5) (fun K hK => ?h5) ?n5
  case h5 =>
   iterate 10 (refine kA rfl (by simp (disch := omega) only [gA,aA,qop,fop,St.ev,St.put,cd,zd,Value.oneCell',lA,TypeDesc.aggB,Z0,Z1,oA,pA,qA,eA,D.pure?,ZC,ZD,eE,aD,lC,eC,D.cell1,eB,fB,gB,iB,jB,List.all_cons,List.all_nil,zC,TI.place,TI.zeros,TI.kindOk,D.cells?,zp,Value.cells,ZQ,ZP,zD,wC,xC,aE,bB,rB,ZG,ZH,ZL,ZM,ZN,zA,Nat.reduceAdd,Nat.reduceMul,cA,mA,mC,yA,iop,St.addBox,iC,D.boxCells,D.live,St.setVec,tt,hlm1] <;> exact rfl) ?_)
   refine bA ?_
   exact hK
  refine jA ?_
  refine fA ?_
  refine zN hX hb (gD hP) [(0,true),(1,true),(2,false)] 3 [(4,false),(5,true),(6,true)] 4 [(3,false),(5,true),(6,true)] (by kernel_rfl) (σ' := ?s6) (fun K hK => ?h6) ?n6
  case h6 =>
   iterate 2 (refine xE rfl (by simp (disch := omega) only [qop,fop,St.ev,St.put,cd,zd,Value.oneCell',lA,TypeDesc.aggB,Z0,Z1,oA,pA,qA,eA,D.pure?,ZC,ZD,sA,D.pv?,zD,wC,xC,aE,bB,rB,D.cells?,eB,fB,gB,iB,jB,ZG,ZH,ZL,ZM,ZN,zA,Nat.reduceAdd,Nat.reduceMul,iC,D.boxCells,D.live,St.setVec,tt] <;> exact rfl) (by simp only [St.put,Za,Zb] <;> exact rfl) ?_)
   refine pG rfl (by simp only [aA,St.ev,nB,oB,sA,D.pv?,ZG,ZH,zd,cd,Value.oneCell',Zr] <;> exact rfl) (acK hP (c84 ⟨⟨s,f,lv⟩,[(0,1)],((lv.length - 1 : Nat) : Int),[],0,false⟩ (by simp))) (by simp only [St.put,Za,Zb] <;> exact rfl) ?_
   refine qC ?_
   refine ⟨?_,?_⟩
   ·iterate 2 (refine vG rfl (by simp (disch := omega) only [gA,aA,qop,fop,St.ev,St.put,cd,zd,Value.oneCell',lA,TypeDesc.aggB,Z0,Z1,oA,pA,qA,eA,D.pure?,ZC,ZD,sA,D.pv?,zD,wC,xC,aE,bB,rB,D.cells?,eB,fB,gB,iB,jB,ZG,ZH,ZL,ZM,ZN,zA,Nat.reduceAdd,Nat.reduceMul,iC,D.boxCells,D.live,St.setVec,tt] <;> exact rfl) ?_)
    iterate 2 (refine xE rfl (by simp (disch := omega) only [qop,fop,St.ev,St.put,cd,zd,Value.oneCell',lA,TypeDesc.aggB,Z0,Z1,oA,pA,qA,eA,D.pure?,ZC,ZD,sA,D.pv?,zD,wC,xC,aE,bB,rB,D.cells?,eB,fB,gB,iB,jB,ZG,ZH,ZL,ZM,ZN,zA,Nat.reduceAdd,Nat.reduceMul,iC,D.boxCells,D.live,St.setVec,tt] <;> exact rfl) (by simp only [St.put,Za,Zb] <;> exact rfl) ?_)
    refine qC ?_
    exact hK
   ·iterate 2 (refine vG rfl (by simp (disch := omega) only [gA,aA,qop,fop,St.ev,St.put,cd,zd,Value.oneCell',lA,TypeDesc.aggB,Z0,Z1,oA,pA,qA,eA,D.pure?,ZC,ZD,sA,D.pv?,zD,wC,xC,aE,bB,rB,D.cells?,eB,fB,gB,iB,jB,ZG,ZH,ZL,ZM,ZN,zA,Nat.reduceAdd,Nat.reduceMul,iC,D.boxCells,D.live,St.setVec,tt] <;> exact rfl) ?_)
    iterate 2 (refine xE rfl (by simp (disch := omega) only [qop,fop,St.ev,St.put,cd,zd,Value.oneCell',lA,TypeDesc.aggB,Z0,Z1,oA,pA,qA,eA,D.pure?,ZC,ZD,sA,D.pv?,zD,wC,xC,aE,bB,rB,D.cells?,eB,fB,gB,iB,jB,ZG,ZH,ZL,ZM,ZN,zA,Nat.reduceAdd,Nat.reduceMul,iC,D.boxCells,D.live,St.setVec,tt] <;> exact rfl) (by simp only [St.put,Za,Zb] <;> exact rfl) ?_)
    refine qC ?_
    exact hK
  refine jA ?_
  refine bC ?_
  exact tC rfl (cF (by simp only [qE,oA,pA,lA,TypeDesc.aggB,eA,D.pure?,D.pv?,nB,oB,Zd,Zc,Zw,Zk,Zv,Zj,Zx,Zl,Zo,Zr,reduceIte,Nat.reduceAdd,Nat.reduceLeDiff,Zg,Zf,tt] <;> exact rfl) rfl rfl (by first | rfl | (first | (rw [zS hc0] <;> rfl) | (rw [yO hc0,wF] <;> rfl))))
theorem c45 (t : Tr) : ACalls Try.prog 45 [trP t] (.tup [waP (aH t).1,.p (zM (aH t).2.1),.p (i64 (aH t).2.2)]) := by
 obtain ⟨s,f,lv⟩ := t
 refine oC jC Try.func45 (c := _) rfl (by kernel_rfl) ?_
 intro X hP hX hro hpl
 have hb : tb.Ok X.P := hP ▸ jC
 change AW X _ _ ⟨[],[.agg [i64 s,i64 f,xD lv],.any,.any,.any,.any,.any,.any,.any,.any,.any,.any,.any,.any,.any,.any,.any,.any,.any,.any,.any,.any,.any,.any,.any,.any,.any,.any,.any,.any,.any,.any],[],[]⟩
 refine fA ?_
 refine iA hX hb [0,1,2,3] rfl (σ' := ?s1) (fun K hK => ?h1) ?n1
 case h1 =>
  iterate 4 (refine kA rfl (by simp (disch := omega) only [gA,aA,qop,fop,St.ev,St.put,cd,zd,Value.oneCell',lA,TypeDesc.aggB,Z0,ZM,ZL,Z1,ZG,ZH,St.addBox,D.boxCells,D.live,Value.cells,tt,ZN] <;> exact rfl) ?_)
  refine bA ?_
  exact hK
 refine jA ?_
 refine fA ?_
 refine fA ?_
 refine iA hX hb [0,1,2] rfl (σ' := ?s2) (fun K hK => ?h2) ?n2
 case h2 =>
  (refine kA rfl (by simp (disch := omega) only [gA,aA,qop,fop,St.ev,St.put,cd,zd,Value.oneCell',lA,TypeDesc.aggB,Z0,Z1,oA,pA,qA,eA,D.pure?,ZC,ZD,sA,D.pv?,tt,ZM,ZL,ZN] <;> exact rfl) ?_)
  refine jD rfl (by simp only [aA,St.ev,nB,oB,sA,D.pv?,ZG,ZH,zd,cd,Value.oneCell',Zr] <;> exact rfl) (acK hP (c31 ⟨s,f,lv⟩)) (by simp only [St.put,Za,Zb] <;> exact rfl) ?_
  (refine kA rfl (by simp (disch := omega) only [gA,aA,qop,fop,St.ev,St.put,cd,zd,Value.oneCell',lA,TypeDesc.aggB,Z0,Z1,oA,pA,qA,eA,D.pure?,ZC,ZD,sA,D.pv?,tt,ZM,ZL,ZN] <;> exact rfl) ?_)
  refine bA ?_
  exact hK
 refine jA ?_
 refine fA ?_
 refine iA hX hb [0,1] rfl (σ' := ?s3) (fun K hK => ?h3) ?n3
 case h3 =>
  iterate 2 (refine kA rfl (by simp (disch := omega) only [gA,aA,qop,fop,St.ev,St.put,cd,zd,Value.oneCell',lA,TypeDesc.aggB,Z0,yA,iop,tt,ZM,ZL,ZN,Z1] <;> exact rfl) ?_)
  refine bA ?_
  exact hK
 refine jA ?_
 refine mB _ rfl (fun hc0 => ?_) (fun hc0 => ?_)
 ·try simp only [Zp,Zi,ZK,ZJ,ne_eq,Zn,Zm,ZB,ZA,ZI,not_or,not_and,Zu] at hc0
  refine fA ?_
  refine iA hX hb [0,1,2,3,4] rfl (σ' := ?s4) (fun K hK => ?h4) ?n4
  case h4 =>
   iterate 5 (refine kA rfl (by simp (disch := omega) only [gA,aA,qop,fop,St.ev,St.put,cd,zd,Value.oneCell',lA,TypeDesc.aggB,Z0,eE,aD,lC,eC,D.cell1,eB,fB,gB,iB,jB,List.all_cons,List.all_nil,zC,TI.place,TI.zeros,TI.kindOk,D.cells?,D.pure?,zp,Value.cells,ZQ,ZP,Z1,iC,D.boxCells,D.live,ZM,ZL,ZN,ZG,ZH,St.setVec,ZC,tt] <;> exact rfl) ?_)
   refine bA ?_
   exact hK
  refine jA ?_
  refine bC ?_
  refine nC ?_
  exact tC rfl (cF (by simp only [qE,oA,pA,lA,TypeDesc.aggB,eA,D.pure?,D.pv?,nB,oB,Zd,Zc,Zw,Zk,Zv,Zj,Zx,Zl,Zo,Zr,reduceIte,Nat.reduceAdd,Nat.reduceLeDiff,Zg,Zf,tt] <;> exact rfl) rfl rfl (by first | rfl | (first | (rw [zS hc0] <;> rfl) | (rw [yO hc0,wF] <;> rfl))))
 ·try simp only [Zp,Zi,ZK,ZJ,ne_eq,Zn,Zm,ZB,ZA,ZI,not_or,not_and,Zu] at hc0
  have hsm := zG hc0
  dsimp only at hsm
  have hlm1 : ((lv.length : Int) - 1) = ((lv.length - 1 : Nat) : Int) := by omega
  refine tB ?_
  refine jA ?_
  refine fA ?_
  refine zN hX hb (gD hP) [(0,true),(2,true),(3,true),(4,true),(5,true),(6,true)] 1 [(7,false),(8,true),(9,true),(10,false),(11,true)] 7 [(1,false),(8,true),(9,true),(10,false),(11,true)] (by kernel_rfl) (σ' := ?s5) (fun K hK => ?h5) ?n5
  case h5 =>
   iterate 6 (refine xE rfl (by simp (disch := omega) only [qop,fop,St.ev,St.put,cd,zd,Value.oneCell',lA,TypeDesc.aggB,Z0,Z1,oA,pA,qA,eA,D.pure?,ZC,ZD,sA,D.pv?,cA,mA,mC,yA,iop,eE,aD,lC,eC,D.cell1,eB,fB,gB,iB,jB,List.all_cons,List.all_nil,zC,TI.place,TI.zeros,TI.kindOk,D.cells?,zp,Value.cells,ZQ,ZP,zD,wC,xC,aE,bB,rB,ZG,ZH,ZL,ZM,ZN,zA,Nat.reduceAdd,Nat.reduceMul,St.addBox,D.boxCells,D.live,tt,hlm1] <;> exact rfl) (by simp only [St.put,Za,Zb] <;> exact rfl) ?_)
   refine qC ?_
   refine ⟨?_,?_⟩
   ·refine pG rfl (by simp only [aA,St.ev,nB,oB,sA,D.pv?,ZG,ZH,zd,cd,Value.oneCell',Zr] <;> exact rfl) (acK hP (c82 ⟨s,f,lv⟩ ⟨by dsimp only; omega,hsm.2.2⟩)) (by simp only [St.put,Za,Zb] <;> exact rfl) ?_
    (refine vG rfl (by simp (disch := omega) only [gA,aA,qop,fop,St.ev,St.put,cd,zd,Value.oneCell',lA,TypeDesc.aggB,Z0,Z1,oA,pA,qA,eA,D.pure?,ZC,ZD,sA,D.pv?,cA,mA,mC,yA,iop,eE,aD,lC,eC,D.cell1,eB,fB,gB,iB,jB,List.all_cons,List.all_nil,zC,TI.place,TI.zeros,TI.kindOk,D.cells?,zp,Value.cells,ZQ,ZP,zD,wC,xC,aE,bB,rB,ZG,ZH,ZL,ZM,ZN,zA,Nat.reduceAdd,Nat.reduceMul,St.addBox,D.boxCells,D.live,tt,hlm1] <;> exact rfl) ?_)
    iterate 2 (refine xE rfl (by simp (disch := omega) only [qop,fop,St.ev,St.put,cd,zd,Value.oneCell',lA,TypeDesc.aggB,Z0,Z1,oA,pA,qA,eA,D.pure?,ZC,ZD,sA,D.pv?,cA,mA,mC,yA,iop,eE,aD,lC,eC,D.cell1,eB,fB,gB,iB,jB,List.all_cons,List.all_nil,zC,TI.place,TI.zeros,TI.kindOk,D.cells?,zp,Value.cells,ZQ,ZP,zD,wC,xC,aE,bB,rB,ZG,ZH,ZL,ZM,ZN,zA,Nat.reduceAdd,Nat.reduceMul,St.addBox,D.boxCells,D.live,tt,hlm1] <;> exact rfl) (by simp only [St.put,Za,Zb] <;> exact rfl) ?_)
    (refine vG rfl (by simp (disch := omega) only [gA,aA,qop,fop,St.ev,St.put,cd,zd,Value.oneCell',lA,TypeDesc.aggB,Z0,Z1,oA,pA,qA,eA,D.pure?,ZC,ZD,sA,D.pv?,cA,mA,mC,yA,iop,eE,aD,lC,eC,D.cell1,eB,fB,gB,iB,jB,List.all_cons,List.all_nil,zC,TI.place,TI.zeros,TI.kindOk,D.cells?,zp,Value.cells,ZQ,ZP,zD,wC,xC,aE,bB,rB,ZG,ZH,ZL,ZM,ZN,zA,Nat.reduceAdd,Nat.reduceMul,St.addBox,D.boxCells,D.live,tt,hlm1] <;> exact rfl) ?_)
    (refine xE rfl (by simp (disch := omega) only [qop,fop,St.ev,St.put,cd,zd,Value.oneCell',lA,TypeDesc.aggB,Z0,Z1,oA,pA,qA,eA,D.pure?,ZC,ZD,sA,D.pv?,cA,mA,mC,yA,iop,eE,aD,lC,eC,D.cell1,eB,fB,gB,iB,jB,List.all_cons,List.all_nil,zC,TI.place,TI.zeros,TI.kindOk,D.cells?,zp,Value.cells,ZQ,ZP,zD,wC,xC,aE,bB,rB,ZG,ZH,ZL,ZM,ZN,zA,Nat.reduceAdd,Nat.reduceMul,St.addBox,D.boxCells,D.live,tt,hlm1] <;> exact rfl) (by simp only [St.put,Za,Zb] <;> exact rfl) ?_)
    refine qC ?_
    exact hK
   ·(refine vG rfl (by simp (disch := omega) only [gA,aA,qop,fop,St.ev,St.put,cd,zd,Value.oneCell',lA,TypeDesc.aggB,Z0,Z1,oA,pA,qA,eA,D.pure?,ZC,ZD,sA,D.pv?,cA,mA,mC,yA,iop,eE,aD,lC,eC,D.cell1,eB,fB,gB,iB,jB,List.all_cons,List.all_nil,zC,TI.place,TI.zeros,TI.kindOk,D.cells?,zp,Value.cells,ZQ,ZP,zD,wC,xC,aE,bB,rB,ZG,ZH,ZL,ZM,ZN,zA,Nat.reduceAdd,Nat.reduceMul,St.addBox,D.boxCells,D.live,tt,hlm1] <;> exact rfl) ?_)
    refine pG rfl (by simp only [aA,St.ev,nB,oB,sA,D.pv?,ZG,ZH,zd,cd,Value.oneCell',Zr] <;> exact rfl) (acK hP (c82 ⟨s,f,lv⟩ ⟨by dsimp only; omega,hsm.2.2⟩)) (by simp only [St.put,Za,Zb] <;> exact rfl) ?_
    iterate 2 (refine xE rfl (by simp (disch := omega) only [qop,fop,St.ev,St.put,cd,zd,Value.oneCell',lA,TypeDesc.aggB,Z0,Z1,oA,pA,qA,eA,D.pure?,ZC,ZD,sA,D.pv?,cA,mA,mC,yA,iop,eE,aD,lC,eC,D.cell1,eB,fB,gB,iB,jB,List.all_cons,List.all_nil,zC,TI.place,TI.zeros,TI.kindOk,D.cells?,zp,Value.cells,ZQ,ZP,zD,wC,xC,aE,bB,rB,ZG,ZH,ZL,ZM,ZN,zA,Nat.reduceAdd,Nat.reduceMul,St.addBox,D.boxCells,D.live,tt,hlm1] <;> exact rfl) (by simp only [St.put,Za,Zb] <;> exact rfl) ?_)
    (refine vG rfl (by simp (disch := omega) only [gA,aA,qop,fop,St.ev,St.put,cd,zd,Value.oneCell',lA,TypeDesc.aggB,Z0,Z1,oA,pA,qA,eA,D.pure?,ZC,ZD,sA,D.pv?,cA,mA,mC,yA,iop,eE,aD,lC,eC,D.cell1,eB,fB,gB,iB,jB,List.all_cons,List.all_nil,zC,TI.place,TI.zeros,TI.kindOk,D.cells?,zp,Value.cells,ZQ,ZP,zD,wC,xC,aE,bB,rB,ZG,ZH,ZL,ZM,ZN,zA,Nat.reduceAdd,Nat.reduceMul,St.addBox,D.boxCells,D.live,tt,hlm1] <;> exact rfl) ?_)
    (refine xE rfl (by simp (disch := omega) only [qop,fop,St.ev,St.put,cd,zd,Value.oneCell',lA,TypeDesc.aggB,Z0,Z1,oA,pA,qA,eA,D.pure?,ZC,ZD,sA,D.pv?,cA,mA,mC,yA,iop,eE,aD,lC,eC,D.cell1,eB,fB,gB,iB,jB,List.all_cons,List.all_nil,zC,TI.place,TI.zeros,TI.kindOk,D.cells?,zp,Value.cells,ZQ,ZP,zD,wC,xC,aE,bB,rB,ZG,ZH,ZL,ZM,ZN,zA,Nat.reduceAdd,Nat.reduceMul,St.addBox,D.boxCells,D.live,tt,hlm1] <;> exact rfl) (by simp only [St.put,Za,Zb] <;> exact rfl) ?_)
    refine qC ?_
    exact hK
  refine jA ?_
  refine fA ?_
  refine zN hX hb (gD hP) [(0,true),(1,true),(2,true),(3,true),(4,true),(5,false)] 6 [(7,false),(8,true),(9,true)] 7 [(6,false),(8,true),(9,true)] (by kernel_rfl) (σ' := ?s6) (fun K hK => ?h6) ?n6
  case h6 =>
   iterate 5 (refine xE rfl (by simp (disch := omega) only [qop,fop,St.ev,St.put,cd,zd,Value.oneCell',lA,TypeDesc.aggB,Z0,cA,mA,Z1,oA,pA,qA,eA,D.pure?,ZC,ZD,sA,D.pv?,zD,wC,xC,aE,bB,rB,D.cells?,eB,fB,gB,iB,jB,ZG,ZH,ZL,ZM,ZN,zA,Nat.reduceAdd,Nat.reduceMul,iC,D.boxCells,D.live,St.setVec,tt] <;> exact rfl) (by simp only [St.put,Za,Zb] <;> exact rfl) ?_)
   refine bHA rfl rfl (by simp only [St.ev,nB,oB,zd,cd,Value.oneCell',Zr] <;> exact rfl) rfl (by simp only [St.ev,nB,oB,zd,cd,Value.oneCell',Zr] <;> exact rfl) rfl (by simp only [eA,D.pure?] <;> exact rfl) (by simp only [sA,nD,D.pvC?,D.pvN?,D.pvL?,eA,D.pv?,D.pure?,St.ev,nB,oB,zd,cd,Value.oneCell',Zr,ZG,ZH,Zd,Zc,Zg] <;> exact rfl) (acR hP (r83 s f lv [(0,1)] ((lv.length - 1 : Nat) : Int) [] 0 false (by simp) (by simp))) (by simp only [St.put,Za,Zb] <;> exact rfl) ?_
   refine qC ?_
   refine ⟨?_,?_⟩
   ·iterate 2 (refine vG rfl (by simp (disch := omega) only [gA,aA,qop,fop,St.ev,St.put,cd,zd,Value.oneCell',lA,TypeDesc.aggB,Z0,cA,mA,Z1,oA,pA,qA,eA,D.pure?,ZC,ZD,sA,D.pv?,zD,wC,xC,aE,bB,rB,D.cells?,eB,fB,gB,iB,jB,ZG,ZH,ZL,ZM,ZN,zA,Nat.reduceAdd,Nat.reduceMul,iC,D.boxCells,D.live,St.setVec,tt] <;> exact rfl) ?_)
    iterate 2 (refine xE rfl (by simp (disch := omega) only [qop,fop,St.ev,St.put,cd,zd,Value.oneCell',lA,TypeDesc.aggB,Z0,cA,mA,Z1,oA,pA,qA,eA,D.pure?,ZC,ZD,sA,D.pv?,zD,wC,xC,aE,bB,rB,D.cells?,eB,fB,gB,iB,jB,ZG,ZH,ZL,ZM,ZN,zA,Nat.reduceAdd,Nat.reduceMul,iC,D.boxCells,D.live,St.setVec,tt] <;> exact rfl) (by simp only [St.put,Za,Zb] <;> exact rfl) ?_)
    refine qC ?_
    exact hK
   ·iterate 2 (refine vG rfl (by simp (disch := omega) only [gA,aA,qop,fop,St.ev,St.put,cd,zd,Value.oneCell',lA,TypeDesc.aggB,Z0,cA,mA,Z1,oA,pA,qA,eA,D.pure?,ZC,ZD,sA,D.pv?,zD,wC,xC,aE,bB,rB,D.cells?,eB,fB,gB,iB,jB,ZG,ZH,ZL,ZM,ZN,zA,Nat.reduceAdd,Nat.reduceMul,iC,D.boxCells,D.live,St.setVec,tt] <;> exact rfl) ?_)
    iterate 2 (refine xE rfl (by simp (disch := omega) only [qop,fop,St.ev,St.put,cd,zd,Value.oneCell',lA,TypeDesc.aggB,Z0,cA,mA,Z1,oA,pA,qA,eA,D.pure?,ZC,ZD,sA,D.pv?,zD,wC,xC,aE,bB,rB,D.cells?,eB,fB,gB,iB,jB,ZG,ZH,ZL,ZM,ZN,zA,Nat.reduceAdd,Nat.reduceMul,iC,D.boxCells,D.live,St.setVec,tt] <;> exact rfl) (by simp only [St.put,Za,Zb] <;> exact rfl) ?_)
    refine qC ?_
    exact hK
  refine jA ?_
  refine bC ?_
  exact tC rfl (cF (by simp only [qE,oA,pA,lA,TypeDesc.aggB,eA,D.pure?,D.pv?,nB,oB,Zd,Zc,Zw,Zk,Zv,Zj,Zx,Zl,Zo,Zr,reduceIte,Nat.reduceAdd,Nat.reduceLeDiff,Zg,Zf,tt] <;> exact rfl) rfl rfl (by first | rfl | (first | (rw [zS hc0] <;> rfl) | (rw [yO hc0,wF] <;> rfl))))
theorem c49 (w : Wa) (hw : sX w) : ACalls Try.prog 49 [waP w] (.p (i64 (cK w))) := by
 obtain ⟨⟨s,f,lv⟩,pd,le,fo,se,dn⟩ := w
 obtain ⟨hpi,hfi⟩ := hw
 dsimp only at hpi hfi
 refine oC jC Try.func49 (c := _) rfl (by kernel_rfl) ?_
 intro X hP hX hro hpl
 have hb : tb.Ok X.P := hP ▸ jC
 change AW X _ _ ⟨[],[.agg [i64 s,i64 f,xD lv,uC pd,i64 le,uC fo,i64 se,bv dn],.any,.any,.any,.any,.any,.any,.any,.any,.any,.any,.any,.any,.any,.any,.any,.any,.any,.any,.any,.any,.any,.any,.any,.any,.any,.any,.any,.any,.any,.any,.any,.any,.any,.any,.any,.any,.any,.any,.any,.any,.any,.any,.any,.any,.any,.any,.any,.any,.any,.any,.any,.any,.any,.any,.any,.any,.any,.any,.any,.any,.any,.any,.any,.any,.any,.any,.any,.any,.any,.any,.any,.any,.any,.any,.any,.any,.any,.any,.any,.any,.any,.any],[],[]⟩
 refine fA ?_
 refine iA hX hb [0,1] rfl (σ' := ?s1) (fun K hK => ?h1) ?n1
 case h1 =>
  iterate 2 (refine kA rfl (by simp (disch := omega) only [gA,aA,qop,fop,St.ev,St.put,cd,zd,Value.oneCell',lA,TypeDesc.aggB,Z0,ZM,ZL,Zl,Zo,ZG,ZH,St.addBox,D.boxCells,D.live,tt,nA,Zh] <;> exact rfl) ?_)
  refine bA ?_
  exact hK
 refine jA ?_
 refine fA ?_
 refine fA ?_
 refine iA hX hb [0,1,2,3] rfl (σ' := ?s2) (fun K hK => ?h2) ?n2
 case h2 =>
  iterate 2 (refine kA rfl (by simp (disch := omega) only [gA,aA,qop,fop,St.ev,St.put,cd,zd,Value.oneCell',lA,TypeDesc.aggB,Z0,cA,mA,Z1,oA,pA,qA,eA,D.pure?,ZC,ZD,sA,D.pv?,tt,nA,Zh] <;> exact rfl) ?_)
  refine jD rfl (by simp only [aA,St.ev,nB,oB,sA,D.pv?,ZG,ZH,zd,cd,Value.oneCell',Zr] <;> exact rfl) (acK hP (c31 ⟨s,f,lv⟩)) (by simp only [St.put,Za,Zb] <;> exact rfl) ?_
  (refine kA rfl (by simp (disch := omega) only [gA,aA,qop,fop,St.ev,St.put,cd,zd,Value.oneCell',lA,TypeDesc.aggB,Z0,cA,mA,Z1,oA,pA,qA,eA,D.pure?,ZC,ZD,sA,D.pv?,tt,nA,Zh] <;> exact rfl) ?_)
  refine bA ?_
  exact hK
 refine jA ?_
 refine fA ?_
 refine iA hX hb [0,1] rfl (σ' := ?s3) (fun K hK => ?h3) ?n3
 case h3 =>
  iterate 2 (refine kA rfl (by simp (disch := omega) only [gA,aA,qop,fop,St.ev,St.put,cd,zd,Value.oneCell',lA,TypeDesc.aggB,Z0,yA,iop,tt,nA,Zh] <;> exact rfl) ?_)
  refine bA ?_
  exact hK
 refine jA ?_
 refine mB _ rfl (fun hc0 => ?_) (fun hc0 => ?_)
 ·try simp only [Zp,Zi,ZK,ZJ,ne_eq,Zn,Zm,ZB,ZA,ZI,not_or,not_and,Zu] at hc0
  refine fA ?_
  refine iA hX hb [0,1] rfl (σ' := ?s4) (fun K hK => ?h4) ?n4
  case h4 =>
   iterate 2 (refine kA rfl (by simp (disch := omega) only [gA,aA,qop,fop,St.ev,St.put,cd,zd,Value.oneCell',lA,TypeDesc.aggB,Z0,t3,ti3,nA,Zh] <;> exact rfl) ?_)
   refine bA ?_
   exact hK
  refine jA ?_
  refine bC ?_
  refine nC ?_
  exact tC rfl (sB rfl (by first | rfl | (first | exact congrArg (fun k => D.p (i64 k)) (lL (w := ⟨⟨s,f,lv⟩,pd,le,fo,se,dn⟩) hc0).symm | exact congrArg (fun k => D.p (i64 k)) (mL (w := ⟨⟨s,f,lv⟩,pd,le,fo,se,dn⟩) hc0 hc1).symm | exact congrArg (fun n => D.p (i64 n)) (oI (w := ⟨⟨s,f,lv⟩,pd,(k : Int),fo,se,dn⟩) hc0 (by unfold pH; dsimp only; simpa using hc1) hc3).symm | exact congrArg (fun n => D.p (i64 n)) (tJ (w := ⟨⟨s,f,lv⟩,pd,(k : Int),fo,se,dn⟩) hc0 (by unfold pH; dsimp only; simpa using hc1) hc3).symm)))
 ·try simp only [Zp,Zi,ZK,ZJ,ne_eq,Zn,Zm,ZB,ZA,ZI,not_or,not_and,Zu] at hc0
  refine tB ?_
  refine jA ?_
  refine fA ?_
  refine fA ?_
  refine nE hX hb [0,1,2,3,4,5,6,7,8,9,10,11,12,13,14,15,16,17,18,19,20,21,22,23,24,25,26,27,28,29,30] rfl (ts := [11,12,13,14,15,16,17,18,19,20,21,22,23,24,25,26,27,28,29,30,31,32,33,34,35,36,37,38,39,40]) (t := 41) (d := .p (bv (le < 0 ∨ (lv.length : Int) ≤ le ∨ (dn = true ∧ le ≠ 0) ∨ se < 0 ∨ 8192 < se))) (σ' := ?s5) ?j5 ?h5 ?n5
  case j5 => simp only [St.join,List.foldl,Za,Zb]; exact rfl
  case h5 =>
   iterate 4 (all_goals refine kA rfl (by simp (disch := omega) only [gA,aA,qop,fop,St.ev,St.put,cd,zd,Value.oneCell',lA,TypeDesc.aggB,Z0,cA,mA,Z1,oA,pA,qA,eA,D.pure?,ZC,ZD,yA,iop,mC,tt,nA,Zh] <;> exact rfl) ?_)
   iterate 7 (all_goals first | (refine fC rfl rfl rfl (by simp (disch := omega) only [gA,aA,qop,fop,St.ev,St.put,cd,zd,Value.oneCell',lA,TypeDesc.aggB,Z0,cA,mA,Z1,oA,pA,qA,eA,D.pure?,ZC,ZD,yA,iop,mC,tt,nA,Zh] <;> exact rfl) ?_) | (first | (refine zB rfl rfl rfl (by simp only [St.put,Za,Zb] <;> exact rfl) ?_) | (refine aC rfl rfl rfl (by simp only [St.put,Za,Zb] <;> exact rfl) ?_)) | (refine yB rfl rfl rfl (by simp only [Za,Zb] <;> exact rfl) (by simp only [Za,Zb] <;> exact rfl) (fun hg => ?_) (fun hg => ?_) <;> (try simp only [Zp,Zi,ZJ,ZK,ne_eq,Zn,Zm,Bool.not_eq_true,Zu] at hg) <;> first | (refine fC rfl rfl rfl (by simp (disch := omega) only [gA,aA,qop,fop,St.ev,St.put,cd,zd,Value.oneCell',lA,TypeDesc.aggB,Z0,cA,mA,Z1,oA,pA,qA,eA,D.pure?,ZC,ZD,yA,iop,mC,tt,nA,Zh] <;> exact rfl) ?_) | (first | (refine zB rfl rfl rfl (by simp only [St.put,Za,Zb] <;> exact rfl) ?_) | (refine aC rfl rfl rfl (by simp only [St.put,Za,Zb] <;> exact rfl) ?_))))
   iterate 2 (all_goals refine kA rfl (by simp (disch := omega) only [gA,aA,qop,fop,St.ev,St.put,cd,zd,Value.oneCell',lA,TypeDesc.aggB,Z0,cA,mA,Z1,oA,pA,qA,eA,D.pure?,ZC,ZD,yA,iop,mC,tt,nA,Zh] <;> exact rfl) ?_)
   iterate 7 (all_goals first | (refine fC rfl rfl rfl (by simp (disch := omega) only [gA,aA,qop,fop,St.ev,St.put,cd,zd,Value.oneCell',lA,TypeDesc.aggB,Z0,cA,mA,Z1,oA,pA,qA,eA,D.pure?,ZC,ZD,yA,iop,mC,tt,nA,Zh] <;> exact rfl) ?_) | (first | (refine zB rfl rfl rfl (by simp only [St.put,Za,Zb] <;> exact rfl) ?_) | (refine aC rfl rfl rfl (by simp only [St.put,Za,Zb] <;> exact rfl) ?_)) | (refine yB rfl rfl rfl (by simp only [Za,Zb] <;> exact rfl) (by simp only [Za,Zb] <;> exact rfl) (fun hg => ?_) (fun hg => ?_) <;> (try simp only [Zp,Zi,ZJ,ZK,ne_eq,Zn,Zm,Bool.not_eq_true,Zu] at hg) <;> first | (refine fC rfl rfl rfl (by simp (disch := omega) only [gA,aA,qop,fop,St.ev,St.put,cd,zd,Value.oneCell',lA,TypeDesc.aggB,Z0,cA,mA,Z1,oA,pA,qA,eA,D.pure?,ZC,ZD,yA,iop,mC,tt,nA,Zh] <;> exact rfl) ?_) | (first | (refine zB rfl rfl rfl (by simp only [St.put,Za,Zb] <;> exact rfl) ?_) | (refine aC rfl rfl rfl (by simp only [St.put,Za,Zb] <;> exact rfl) ?_))))
   iterate 2 (all_goals refine kA rfl (by simp (disch := omega) only [gA,aA,qop,fop,St.ev,St.put,cd,zd,Value.oneCell',lA,TypeDesc.aggB,Z0,cA,mA,Z1,oA,pA,qA,eA,D.pure?,ZC,ZD,yA,iop,mC,tt,nA,Zh] <;> exact rfl) ?_)
   iterate 3 (all_goals first | (refine fC rfl rfl rfl (by simp (disch := omega) only [gA,aA,qop,fop,St.ev,St.put,cd,zd,Value.oneCell',lA,TypeDesc.aggB,Z0,cA,mA,Z1,oA,pA,qA,eA,D.pure?,ZC,ZD,yA,iop,mC,tt,nA,Zh] <;> exact rfl) ?_) | (first | (refine zB rfl rfl rfl (by simp only [St.put,Za,Zb] <;> exact rfl) ?_) | (refine aC rfl rfl rfl (by simp only [St.put,Za,Zb] <;> exact rfl) ?_)) | (refine yB rfl rfl rfl (by simp only [Za,Zb] <;> exact rfl) (by simp only [Za,Zb] <;> exact rfl) (fun hg => ?_) (fun hg => ?_) <;> (try simp only [Zp,Zi,ZJ,ZK,ne_eq,Zn,Zm,Bool.not_eq_true,Zu] at hg) <;> first | (refine fC rfl rfl rfl (by simp (disch := omega) only [gA,aA,qop,fop,St.ev,St.put,cd,zd,Value.oneCell',lA,TypeDesc.aggB,Z0,cA,mA,Z1,oA,pA,qA,eA,D.pure?,ZC,ZD,yA,iop,mC,tt,nA,Zh] <;> exact rfl) ?_) | (first | (refine zB rfl rfl rfl (by simp only [St.put,Za,Zb] <;> exact rfl) ?_) | (refine aC rfl rfl rfl (by simp only [St.put,Za,Zb] <;> exact rfl) ?_))))
   iterate 2 (all_goals refine kA rfl (by simp (disch := omega) only [gA,aA,qop,fop,St.ev,St.put,cd,zd,Value.oneCell',lA,TypeDesc.aggB,Z0,cA,mA,Z1,oA,pA,qA,eA,D.pure?,ZC,ZD,yA,iop,mC,tt,nA,Zh] <;> exact rfl) ?_)
   iterate 3 (all_goals first | (refine fC rfl rfl rfl (by simp (disch := omega) only [gA,aA,qop,fop,St.ev,St.put,cd,zd,Value.oneCell',lA,TypeDesc.aggB,Z0,cA,mA,Z1,oA,pA,qA,eA,D.pure?,ZC,ZD,yA,iop,mC,tt,nA,Zh] <;> exact rfl) ?_) | (first | (refine zB rfl rfl rfl (by simp only [St.put,Za,Zb] <;> exact rfl) ?_) | (refine aC rfl rfl rfl (by simp only [St.put,Za,Zb] <;> exact rfl) ?_)) | (refine yB rfl rfl rfl (by simp only [Za,Zb] <;> exact rfl) (by simp only [Za,Zb] <;> exact rfl) (fun hg => ?_) (fun hg => ?_) <;> (try simp only [Zp,Zi,ZJ,ZK,ne_eq,Zn,Zm,Bool.not_eq_true,Zu] at hg) <;> first | (refine fC rfl rfl rfl (by simp (disch := omega) only [gA,aA,qop,fop,St.ev,St.put,cd,zd,Value.oneCell',lA,TypeDesc.aggB,Z0,cA,mA,Z1,oA,pA,qA,eA,D.pure?,ZC,ZD,yA,iop,mC,tt,nA,Zh] <;> exact rfl) ?_) | (first | (refine zB rfl rfl rfl (by simp only [St.put,Za,Zb] <;> exact rfl) ?_) | (refine aC rfl rfl rfl (by simp only [St.put,Za,Zb] <;> exact rfl) ?_))))
   (all_goals refine kA rfl (by simp (disch := omega) only [gA,aA,qop,fop,St.ev,St.put,cd,zd,Value.oneCell',lA,TypeDesc.aggB,Z0,cA,mA,Z1,oA,pA,qA,eA,D.pure?,ZC,ZD,yA,iop,mC,tt,nA,Zh] <;> exact rfl) ?_)
   all_goals refine bA ?_
   all_goals refine ⟨rfl,?_,pD _,qD _,rfl,rfl⟩
   all_goals repeat' (first | exact tA | refine qB ?_ | refine uA rfl ?_ | refine uA ?_ ?_)
   all_goals refine jn ?_
   all_goals ((try simp only [Zp,Zi,ZJ,ZK,Bool.not_eq_true,Zm,Zn,ne_eq,Zf,true_iff,false_iff,iff_true,iff_false] at *) <;> first | omega | (simp_all; done) | (simp_all; omega))
  refine jA ?_
  refine mB _ rfl (fun hc1 => ?_) (fun hc1 => ?_)
  ·try simp only [Zp,Zi,ZK,ZJ,ne_eq,Zn,Zm,ZB,ZA,ZI,not_or,not_and,Zu] at hc1
   refine fA ?_
   refine iA hX hb [0] rfl (σ' := ?s6) (fun K hK => ?h6) ?n6
   case h6 =>
    (refine kA rfl (by simp (disch := omega) only [gA,aA,qop,fop,St.ev,St.put,cd,zd,Value.oneCell',lA,TypeDesc.aggB,Z0,t2,ti2,nA,Zh] <;> exact rfl) ?_)
    refine bA ?_
    exact hK
   refine jA ?_
   refine bC ?_
   refine nC ?_
   exact tC rfl (sB rfl (by first | rfl | (first | exact congrArg (fun k => D.p (i64 k)) (lL (w := ⟨⟨s,f,lv⟩,pd,le,fo,se,dn⟩) hc0).symm | exact congrArg (fun k => D.p (i64 k)) (mL (w := ⟨⟨s,f,lv⟩,pd,le,fo,se,dn⟩) hc0 hc1).symm | exact congrArg (fun n => D.p (i64 n)) (oI (w := ⟨⟨s,f,lv⟩,pd,(k : Int),fo,se,dn⟩) hc0 (by unfold pH; dsimp only; simpa using hc1) hc3).symm | exact congrArg (fun n => D.p (i64 n)) (tJ (w := ⟨⟨s,f,lv⟩,pd,(k : Int),fo,se,dn⟩) hc0 (by unfold pH; dsimp only; simpa using hc1) hc3).symm)))
  ·try simp only [Zp,Zi,ZK,ZJ,ne_eq,Zn,Zm,ZB,ZA,ZI,not_or,not_and,Zu] at hc1
   have hsm := zG hc0
   dsimp only at hsm
   obtain ⟨k,hk⟩ : ∃ k : Nat,le = k := ⟨le.toNat,by omega⟩
   subst hk
   obtain ⟨S,F,hS,hF,q1,q2,q3,q4,q5,q6⟩ := nF hc0
   dsimp only at hS hF
   have hrl := hsm.2.2 _ (tE lv [] k (by omega))
   refine tB ?_
   refine jA ?_
   refine fA ?_
   refine iA hX hb [0] rfl (σ' := ?s7) (fun K hK => ?h7) ?n7
   case h7 =>
    (refine kA rfl (by simp (disch := omega) only [gA,aA,qop,fop,St.ev,St.put,cd,zd,Value.oneCell',lA,TypeDesc.aggB,Z0,nA,Zh] <;> exact rfl) ?_)
    refine bA ?_
    exact hK
   refine jA ?_
   refine fA ?_
   refine fA ?_
   refine iA hX hb [0,1] rfl (σ' := ?s8) (fun K hK => ?h8) ?n8
   case h8 =>
    iterate 2 (refine kA rfl (by simp (disch := omega) only [gA,aA,qop,fop,St.ev,St.put,cd,zd,Value.oneCell',lA,TypeDesc.aggB,Z0,cA,mA,Z1,oA,pA,qA,eA,D.pure?,ZC,ZD,tt,nA,Zh] <;> exact rfl) ?_)
    refine bA ?_
    exact hK
   refine jA ?_
   refine bV (σ' := ⟨[],[.any,.any,.any,.any,.p (bv (decide (eG ⟨⟨s,f,lv⟩,pd,(k : Int),fo,se,dn⟩))),.any,.any,.any,.any,.any,.any,.any,.any,.any,.any,.any,.any,.any,.any,.any,.any,.any,.any,.any,.any,.any,.any,.any,.any,.any,.any,.any,.any,.any,.any,.any,.any,.any,.any,.any,.any,.any,.any,.any,.any,.any,.any,.any,.any,.any,.any,.any,.any,.any,.any,.any,.any,.any,.any,.any,.any,.any,.any,.any,.any,.any,.any,.any,.any,.any,.any,.any,.any,.any,.any,.any,.any,.any,.any,.any,.any,.any,.any],[⟨75,[.p (i64 s),.p (i64 f),.p (xD lv),.p (uC pd),.p (i64 (k : Int)),.p (uC fo),.p (i64 se),.p (bv dn)]⟩],[]⟩) ?_ ?_
   ·refine mB _ rfl (fun hc2 => ?_) (fun hc2 => ?_)
    ·try simp only [Zp,Zi,ZK,ZJ,ne_eq,Zn,Zm,ZB,ZA,ZI,not_or,not_and,Zu] at hc2
     refine nE hX hb [0,1,2,3,4,5,6,7,8,9,10,11,12,13] rfl (ts := [44,45,46,47,48,49,50,51,52,53,54,55,56]) (t := 4) (d := .p (bv (pd.length = 0 ∧ kJ fo s = 0))) (σ' := ?s9) ?j9 ?h9 ?n9
     case j9 => simp only [St.join,List.foldl,Za,Zb]; exact rfl
     case h9 =>
      iterate 5 (all_goals refine kA rfl (by simp (disch := omega) only [gA,aA,qop,fop,St.ev,St.put,cd,zd,Value.oneCell',lA,TypeDesc.aggB,Z0,cA,mA,Z1,oA,pA,qA,eA,D.pure?,ZC,ZD,mC,yA,iop,sA,D.pv?,tt,nA,Zh] <;> exact rfl) ?_)
      iterate 5 (all_goals first | (refine fC rfl rfl rfl (by simp (disch := omega) only [gA,aA,qop,fop,St.ev,St.put,cd,zd,Value.oneCell',lA,TypeDesc.aggB,Z0,cA,mA,Z1,oA,pA,qA,eA,D.pure?,ZC,ZD,mC,yA,iop,sA,D.pv?,tt,nA,Zh] <;> exact rfl) ?_) | (first | (refine zB rfl rfl rfl (by simp only [St.put,Za,Zb] <;> exact rfl) ?_) | (refine aC rfl rfl rfl (by simp only [St.put,Za,Zb] <;> exact rfl) ?_)) | (refine yB rfl rfl rfl (by simp only [Za,Zb] <;> exact rfl) (by simp only [Za,Zb] <;> exact rfl) (fun hg => ?_) (fun hg => ?_) <;> (try simp only [Zp,Zi,ZJ,ZK,ne_eq,Zn,Zm,Bool.not_eq_true,Zu] at hg) <;> first | (refine fC rfl rfl rfl (by simp (disch := omega) only [gA,aA,qop,fop,St.ev,St.put,cd,zd,Value.oneCell',lA,TypeDesc.aggB,Z0,cA,mA,Z1,oA,pA,qA,eA,D.pure?,ZC,ZD,mC,yA,iop,sA,D.pv?,tt,nA,Zh] <;> exact rfl) ?_) | (first | (refine zB rfl rfl rfl (by simp only [St.put,Za,Zb] <;> exact rfl) ?_) | (refine aC rfl rfl rfl (by simp only [St.put,Za,Zb] <;> exact rfl) ?_))))
      all_goals first | (refine dK rfl rfl rfl (by simp only [aA,St.ev,nB,oB,sA,D.pv?,ZG,ZH,zd,cd,Value.oneCell',Zr] <;> exact rfl) (acK hP (c85 fo s hfi (by omega))) (by simp only [St.put,Za,Zb] <;> exact rfl) ?_) | (first | (refine zB rfl rfl rfl (by simp only [St.put,Za,Zb] <;> exact rfl) ?_) | (refine aC rfl rfl rfl (by simp only [St.put,Za,Zb] <;> exact rfl) ?_)) | (refine yB rfl rfl rfl (by simp only [Za,Zb] <;> exact rfl) (by simp only [Za,Zb] <;> exact rfl) (fun hg => ?_) (fun hg => ?_) <;> (try simp only [Zp,Zi,ZJ,ZK,ne_eq,Zn,Zm,Bool.not_eq_true,Zu] at hg) <;> first | (refine dK rfl rfl rfl (by simp only [aA,St.ev,nB,oB,sA,D.pv?,ZG,ZH,zd,cd,Value.oneCell',Zr] <;> exact rfl) (acK hP (c85 fo s hfi (by omega))) (by simp only [St.put,Za,Zb] <;> exact rfl) ?_) | (first | (refine zB rfl rfl rfl (by simp only [St.put,Za,Zb] <;> exact rfl) ?_) | (refine aC rfl rfl rfl (by simp only [St.put,Za,Zb] <;> exact rfl) ?_)))
      (all_goals first | (refine fC rfl rfl rfl (by simp (disch := omega) only [gA,aA,qop,fop,St.ev,St.put,cd,zd,Value.oneCell',lA,TypeDesc.aggB,Z0,cA,mA,Z1,oA,pA,qA,eA,D.pure?,ZC,ZD,mC,yA,iop,sA,D.pv?,tt,nA,Zh] <;> exact rfl) ?_) | (first | (refine zB rfl rfl rfl (by simp only [St.put,Za,Zb] <;> exact rfl) ?_) | (refine aC rfl rfl rfl (by simp only [St.put,Za,Zb] <;> exact rfl) ?_)) | (refine yB rfl rfl rfl (by simp only [Za,Zb] <;> exact rfl) (by simp only [Za,Zb] <;> exact rfl) (fun hg => ?_) (fun hg => ?_) <;> (try simp only [Zp,Zi,ZJ,ZK,ne_eq,Zn,Zm,Bool.not_eq_true,Zu] at hg) <;> first | (refine fC rfl rfl rfl (by simp (disch := omega) only [gA,aA,qop,fop,St.ev,St.put,cd,zd,Value.oneCell',lA,TypeDesc.aggB,Z0,cA,mA,Z1,oA,pA,qA,eA,D.pure?,ZC,ZD,mC,yA,iop,sA,D.pv?,tt,nA,Zh] <;> exact rfl) ?_) | (first | (refine zB rfl rfl rfl (by simp only [St.put,Za,Zb] <;> exact rfl) ?_) | (refine aC rfl rfl rfl (by simp only [St.put,Za,Zb] <;> exact rfl) ?_))))
      iterate 2 (all_goals refine kA rfl (by simp (disch := omega) only [gA,aA,qop,fop,St.ev,St.put,cd,zd,Value.oneCell',lA,TypeDesc.aggB,Z0,cA,mA,Z1,oA,pA,qA,eA,D.pure?,ZC,ZD,mC,yA,iop,sA,D.pv?,tt,nA,Zh] <;> exact rfl) ?_)
      all_goals refine bA ?_
      all_goals refine ⟨rfl,?_,pD _,qD _,rfl,rfl⟩
      all_goals repeat' (first | exact tA | refine qB ?_ | refine uA rfl ?_ | refine uA ?_ ?_)
      all_goals refine jn ?_
      all_goals ((try simp only [Zp,Zi,ZJ,ZK,Bool.not_eq_true,Zm,Zn,ne_eq,Zf,true_iff,false_iff,iff_true,iff_false] at *) <;> first | omega | (simp_all; done) | (simp_all; omega))
     exact iS (sC ⟨rfl,(by repeat first | exact tA | refine qB ?_ | refine uA (by first | rfl | (refine congrArg (fun b => D.p (bv b)) (decide_eq_decide.2 ?_); unfold eG; first | (rw [if_pos hc2]) | (rw [if_neg (by simp [hc2])]; rfl))) ?_),(vC rfl ((by repeat first | exact tA | refine qB ?_ | refine uA (by first | rfl | (refine congrArg (fun b => D.p (bv b)) (decide_eq_decide.2 ?_); unfold eG; first | (rw [if_pos hc2]) | (rw [if_neg (by simp [hc2])]; rfl))) ?_)) (wB _)),(xB _),rfl,rfl⟩)
    ·try simp only [Zp,Zi,ZK,ZJ,ne_eq,Zn,Zm,ZB,ZA,ZI,not_or,not_and,Zu] at hc2
     refine iN hX hb (gD hP) [(0,true),(1,true),(2,true),(3,true),(4,true),(5,true),(6,true),(7,true),(8,true),(9,true),(10,true),(11,true),(12,true),(13,true),(14,true),(15,true),(16,true),(17,true),(18,true),(19,true),(20,true),(21,false),(22,true),(23,true),(24,true)] (by kernel_rfl) (ts := [57,58,59,60,61,62,63,64,65,66,67,68,69,70,71,72,73,74,75,76,77,78,79,80]) (t := 4) (d := .p (bv (pd.length ≠ 0 ∧ fo.length = 0 ∧ kJ pd ((lv.getD k []).length : Nat) = 0))) (σ' := ?s10) ?j10 ?h10 ?n10
     case j10 => simp only [St.join,List.foldl,Za,Zb]; exact rfl
     case h10 =>
      iterate 5 (all_goals refine xE rfl (by simp (disch := omega) only [qop,fop,St.ev,St.put,cd,zd,Value.oneCell',lA,TypeDesc.aggB,Z0,cA,mA,Z1,oA,pA,qA,eA,D.pure?,ZC,ZD,mC,yA,iop,Int.toNat_zero,Int.toNat_one,wA,xA,vA,ZO,Nat.mul_one,Nat.zero_mul,Zh,sA,D.pv?,tt,nA] <;> exact rfl) (by simp only [St.put,Za,Zb] <;> exact rfl) ?_)
      iterate 4 (all_goals first | (refine jH rfl rfl rfl (by simp (disch := omega) only [qop,fop,St.ev,St.put,cd,zd,Value.oneCell',lA,TypeDesc.aggB,Z0,cA,mA,Z1,oA,pA,qA,eA,D.pure?,ZC,ZD,mC,yA,iop,Int.toNat_zero,Int.toNat_one,wA,xA,vA,ZO,Nat.mul_one,Nat.zero_mul,Zh,sA,D.pv?,tt,nA] <;> exact rfl) rfl (by simp only [St.put,Za,Zb] <;> exact rfl) ?_) | (first | (refine vF rfl rfl rfl (by simp only [St.put,Za,Zb] <;> exact rfl) ?_) | (refine uF rfl rfl rfl (by simp only [St.put,Za,Zb] <;> exact rfl) ?_)) | (refine pF rfl rfl rfl (by simp only [Za,Zb] <;> exact rfl) (by simp only [Za,Zb] <;> exact rfl) (fun hg => ?_) (fun hg => ?_) <;> (try simp only [Zp,Zi,ZJ,ZK,ne_eq,Zn,Zm,Bool.not_eq_true,Zu] at hg) <;> first | (refine jH rfl rfl rfl (by simp (disch := omega) only [qop,fop,St.ev,St.put,cd,zd,Value.oneCell',lA,TypeDesc.aggB,Z0,cA,mA,Z1,oA,pA,qA,eA,D.pure?,ZC,ZD,mC,yA,iop,Int.toNat_zero,Int.toNat_one,wA,xA,vA,ZO,Nat.mul_one,Nat.zero_mul,Zh,sA,D.pv?,tt,nA] <;> exact rfl) rfl (by simp only [St.put,Za,Zb] <;> exact rfl) ?_) | (first | (refine vF rfl rfl rfl (by simp only [St.put,Za,Zb] <;> exact rfl) ?_) | (refine uF rfl rfl rfl (by simp only [St.put,Za,Zb] <;> exact rfl) ?_))))
      iterate 2 (all_goals refine xE rfl (by simp (disch := omega) only [qop,fop,St.ev,St.put,cd,zd,Value.oneCell',lA,TypeDesc.aggB,Z0,cA,mA,Z1,oA,pA,qA,eA,D.pure?,ZC,ZD,mC,yA,iop,Int.toNat_zero,Int.toNat_one,wA,xA,vA,ZO,Nat.mul_one,Nat.zero_mul,Zh,sA,D.pv?,tt,nA] <;> exact rfl) (by simp only [St.put,Za,Zb] <;> exact rfl) ?_)
      iterate 10 (all_goals first | (refine jH rfl rfl rfl (by simp (disch := omega) only [qop,fop,St.ev,St.put,cd,zd,Value.oneCell',lA,TypeDesc.aggB,Z0,cA,mA,Z1,oA,pA,qA,eA,D.pure?,ZC,ZD,mC,yA,iop,Int.toNat_zero,Int.toNat_one,wA,xA,vA,ZO,Nat.mul_one,Nat.zero_mul,Zh,sA,D.pv?,tt,nA] <;> exact rfl) rfl (by simp only [St.put,Za,Zb] <;> exact rfl) ?_) | (first | (refine vF rfl rfl rfl (by simp only [St.put,Za,Zb] <;> exact rfl) ?_) | (refine uF rfl rfl rfl (by simp only [St.put,Za,Zb] <;> exact rfl) ?_)) | (refine pF rfl rfl rfl (by simp only [Za,Zb] <;> exact rfl) (by simp only [Za,Zb] <;> exact rfl) (fun hg => ?_) (fun hg => ?_) <;> (try simp only [Zp,Zi,ZJ,ZK,ne_eq,Zn,Zm,Bool.not_eq_true,Zu] at hg) <;> first | (refine jH rfl rfl rfl (by simp (disch := omega) only [qop,fop,St.ev,St.put,cd,zd,Value.oneCell',lA,TypeDesc.aggB,Z0,cA,mA,Z1,oA,pA,qA,eA,D.pure?,ZC,ZD,mC,yA,iop,Int.toNat_zero,Int.toNat_one,wA,xA,vA,ZO,Nat.mul_one,Nat.zero_mul,Zh,sA,D.pv?,tt,nA] <;> exact rfl) rfl (by simp only [St.put,Za,Zb] <;> exact rfl) ?_) | (first | (refine vF rfl rfl rfl (by simp only [St.put,Za,Zb] <;> exact rfl) ?_) | (refine uF rfl rfl rfl (by simp only [St.put,Za,Zb] <;> exact rfl) ?_))))
      all_goals first | (refine wM rfl rfl rfl (by simp only [aA,St.ev,nB,oB,sA,D.pv?,ZG,ZH,zd,cd,Value.oneCell',Zr] <;> exact rfl) (acK hP (c85 pd ((lv.getD k []).length : Nat) hpi (by omega))) (by simp only [St.put,Za,Zb] <;> exact rfl) ?_) | (first | (refine vF rfl rfl rfl (by simp only [St.put,Za,Zb] <;> exact rfl) ?_) | (refine uF rfl rfl rfl (by simp only [St.put,Za,Zb] <;> exact rfl) ?_)) | (refine pF rfl rfl rfl (by simp only [Za,Zb] <;> exact rfl) (by simp only [Za,Zb] <;> exact rfl) (fun hg => ?_) (fun hg => ?_) <;> (try simp only [Zp,Zi,ZJ,ZK,ne_eq,Zn,Zm,Bool.not_eq_true,Zu] at hg) <;> first | (refine wM rfl rfl rfl (by simp only [aA,St.ev,nB,oB,sA,D.pv?,ZG,ZH,zd,cd,Value.oneCell',Zr] <;> exact rfl) (acK hP (c85 pd ((lv.getD k []).length : Nat) hpi (by omega))) (by simp only [St.put,Za,Zb] <;> exact rfl) ?_) | (first | (refine vF rfl rfl rfl (by simp only [St.put,Za,Zb] <;> exact rfl) ?_) | (refine uF rfl rfl rfl (by simp only [St.put,Za,Zb] <;> exact rfl) ?_)))
      (all_goals first | (refine jH rfl rfl rfl (by simp (disch := omega) only [qop,fop,St.ev,St.put,cd,zd,Value.oneCell',lA,TypeDesc.aggB,Z0,cA,mA,Z1,oA,pA,qA,eA,D.pure?,ZC,ZD,mC,yA,iop,Int.toNat_zero,Int.toNat_one,wA,xA,vA,ZO,Nat.mul_one,Nat.zero_mul,Zh,sA,D.pv?,tt,nA] <;> exact rfl) rfl (by simp only [St.put,Za,Zb] <;> exact rfl) ?_) | (first | (refine vF rfl rfl rfl (by simp only [St.put,Za,Zb] <;> exact rfl) ?_) | (refine uF rfl rfl rfl (by simp only [St.put,Za,Zb] <;> exact rfl) ?_)) | (refine pF rfl rfl rfl (by simp only [Za,Zb] <;> exact rfl) (by simp only [Za,Zb] <;> exact rfl) (fun hg => ?_) (fun hg => ?_) <;> (try simp only [Zp,Zi,ZJ,ZK,ne_eq,Zn,Zm,Bool.not_eq_true,Zu] at hg) <;> first | (refine jH rfl rfl rfl (by simp (disch := omega) only [qop,fop,St.ev,St.put,cd,zd,Value.oneCell',lA,TypeDesc.aggB,Z0,cA,mA,Z1,oA,pA,qA,eA,D.pure?,ZC,ZD,mC,yA,iop,Int.toNat_zero,Int.toNat_one,wA,xA,vA,ZO,Nat.mul_one,Nat.zero_mul,Zh,sA,D.pv?,tt,nA] <;> exact rfl) rfl (by simp only [St.put,Za,Zb] <;> exact rfl) ?_) | (first | (refine vF rfl rfl rfl (by simp only [St.put,Za,Zb] <;> exact rfl) ?_) | (refine uF rfl rfl rfl (by simp only [St.put,Za,Zb] <;> exact rfl) ?_))))
      iterate 2 (all_goals refine xE rfl (by simp (disch := omega) only [qop,fop,St.ev,St.put,cd,zd,Value.oneCell',lA,TypeDesc.aggB,Z0,cA,mA,Z1,oA,pA,qA,eA,D.pure?,ZC,ZD,mC,yA,iop,Int.toNat_zero,Int.toNat_one,wA,xA,vA,ZO,Nat.mul_one,Nat.zero_mul,Zh,sA,D.pv?,tt,nA] <;> exact rfl) (by simp only [St.put,Za,Zb] <;> exact rfl) ?_)
      all_goals refine qC ?_
      all_goals refine ⟨rfl,?_,pD _,qD _,rfl,rfl⟩
      all_goals repeat' (first | exact tA | refine qB ?_ | refine uA rfl ?_ | refine uA ?_ ?_)
      all_goals refine jn ?_
      all_goals ((try simp only [Zp,Zi,ZJ,ZK,Bool.not_eq_true,Zm,Zn,ne_eq,Zf,true_iff,false_iff,iff_true,iff_false] at *) <;> first | omega | (simp_all; done) | (simp_all; omega))
     exact iS (sC ⟨rfl,(by repeat first | exact tA | refine qB ?_ | refine uA (by first | rfl | (refine congrArg (fun b => D.p (bv b)) (decide_eq_decide.2 ?_); unfold eG; first | (rw [if_pos hc2]) | (rw [if_neg (by simp [hc2])]; rfl))) ?_),(vC rfl ((by repeat first | exact tA | refine qB ?_ | refine uA (by first | rfl | (refine congrArg (fun b => D.p (bv b)) (decide_eq_decide.2 ?_); unfold eG; first | (rw [if_pos hc2]) | (rw [if_neg (by simp [hc2])]; rfl))) ?_)) (wB _)),(xB _),rfl,rfl⟩)
   refine jA ?_
   refine fA ?_
   refine fA ?_
   refine iA hX hb [0,1] rfl (σ' := ?s11) (fun K hK => ?h11) ?n11
   case h11 =>
    iterate 2 (refine kA rfl (by simp (disch := omega) only [gA,aA,qop,fop,St.ev,St.put,cd,zd,Value.oneCell',lA,TypeDesc.aggB,Z0,Bool.not_true,Bool.not_false,t4,ti4,nA,Zh] <;> exact rfl) ?_)
    refine bA ?_
    exact hK
   refine jA ?_
   refine mB _ rfl (fun hc3 => ?_) (fun hc3 => ?_)
   ·try simp only [Zp,Zi,ZK,ZJ,ne_eq,Zn,Zm,ZB,ZA,ZI,not_or,not_and,Zu] at hc3
    refine fA ?_
    refine iA hX hb [0] rfl (σ' := ?s12) (fun K hK => ?h12) ?n12
    case h12 =>
     (refine kA rfl (by simp (disch := omega) only [gA,aA,qop,fop,St.ev,St.put,cd,zd,Value.oneCell',lA,TypeDesc.aggB,Z0,t3,ti3,nA,Zh] <;> exact rfl) ?_)
     refine bA ?_
     exact hK
    refine jA ?_
    refine bC ?_
    refine nC ?_
    exact tC rfl (sB rfl (by first | rfl | (first | exact congrArg (fun k => D.p (i64 k)) (lL (w := ⟨⟨s,f,lv⟩,pd,le,fo,se,dn⟩) hc0).symm | exact congrArg (fun k => D.p (i64 k)) (mL (w := ⟨⟨s,f,lv⟩,pd,le,fo,se,dn⟩) hc0 hc1).symm | exact congrArg (fun n => D.p (i64 n)) (oI (w := ⟨⟨s,f,lv⟩,pd,(k : Int),fo,se,dn⟩) hc0 (by unfold pH; dsimp only; simpa using hc1) hc3).symm | exact congrArg (fun n => D.p (i64 n)) (tJ (w := ⟨⟨s,f,lv⟩,pd,(k : Int),fo,se,dn⟩) hc0 (by unfold pH; dsimp only; simpa using hc1) hc3).symm)))
   ·try simp only [Zp,Zi,ZK,ZJ,ne_eq,Zn,Zm,ZB,ZA,ZI,not_or,not_and,Zu] at hc3
    refine tB ?_
    refine jA ?_
    refine fA ?_
    refine iA hX hb [0] rfl (σ' := ?s13) (fun K hK => ?h13) ?n13
    case h13 =>
     (refine kA rfl (by simp (disch := omega) only [gA,aA,qop,fop,St.ev,St.put,cd,zd,Value.oneCell',lA,TypeDesc.aggB,Z0,nA,Zh] <;> exact rfl) ?_)
     refine bA ?_
     exact hK
    refine jA ?_
    refine bC ?_
    exact tC rfl (sB rfl (by first | rfl | (first | exact congrArg (fun k => D.p (i64 k)) (lL (w := ⟨⟨s,f,lv⟩,pd,le,fo,se,dn⟩) hc0).symm | exact congrArg (fun k => D.p (i64 k)) (mL (w := ⟨⟨s,f,lv⟩,pd,le,fo,se,dn⟩) hc0 hc1).symm | exact congrArg (fun n => D.p (i64 n)) (oI (w := ⟨⟨s,f,lv⟩,pd,(k : Int),fo,se,dn⟩) hc0 (by unfold pH; dsimp only; simpa using hc1) hc3).symm | exact congrArg (fun n => D.p (i64 n)) (tJ (w := ⟨⟨s,f,lv⟩,pd,(k : Int),fo,se,dn⟩) hc0 (by unfold pH; dsimp only; simpa using hc1) hc3).symm)))
theorem c50 (w : Wa) (hw : sX w) : ACalls Try.prog 50 [waP w] (.p (i64 (cK w))) := by
 obtain ⟨⟨s,f,lv⟩,pd,le,fo,se,dn⟩ := w
 obtain ⟨hpi,hfi⟩ := hw
 dsimp only at hpi hfi
 refine oC jC Try.func50 (c := _) rfl (by kernel_rfl) ?_
 intro X hP hX hro hpl
 have hb : tb.Ok X.P := hP ▸ jC
 change AW X _ _ ⟨[],[.agg [i64 s,i64 f,xD lv,uC pd,i64 le,uC fo,i64 se,bv dn],.any,.any,.any,.any,.any,.any,.any,.any,.any,.any,.any,.any,.any,.any,.any,.any,.any,.any,.any,.any,.any,.any,.any,.any,.any,.any,.any,.any,.any,.any,.any,.any,.any,.any,.any,.any,.any,.any,.any,.any,.any,.any,.any,.any,.any,.any,.any,.any,.any,.any,.any,.any,.any,.any,.any,.any,.any,.any,.any,.any,.any,.any,.any,.any,.any,.any,.any,.any,.any,.any,.any,.any,.any,.any,.any,.any,.any,.any,.any],[],[]⟩
 refine fA ?_
 refine iA hX hb [0,1] rfl (σ' := ?s1) (fun K hK => ?h1) ?n1
 case h1 =>
  iterate 2 (refine kA rfl (by simp (disch := omega) only [gA,aA,qop,fop,St.ev,St.put,cd,zd,Value.oneCell',lA,TypeDesc.aggB,Z0,ZM,ZL,Zl,Zo,ZG,ZH,St.addBox,D.boxCells,D.live,tt,nA,Zh] <;> exact rfl) ?_)
  refine bA ?_
  exact hK
 refine jA ?_
 refine fA ?_
 refine fA ?_
 refine iA hX hb [0,1,2,3] rfl (σ' := ?s2) (fun K hK => ?h2) ?n2
 case h2 =>
  iterate 2 (refine kA rfl (by simp (disch := omega) only [gA,aA,qop,fop,St.ev,St.put,cd,zd,Value.oneCell',lA,TypeDesc.aggB,Z0,cA,mA,Z1,oA,pA,qA,eA,D.pure?,ZC,ZD,sA,D.pv?,tt,nA,Zh] <;> exact rfl) ?_)
  refine jD rfl (by simp only [aA,St.ev,nB,oB,sA,D.pv?,ZG,ZH,zd,cd,Value.oneCell',Zr] <;> exact rfl) (acK hP (c34 ⟨s,f,lv⟩)) (by simp only [St.put,Za,Zb] <;> exact rfl) ?_
  (refine kA rfl (by simp (disch := omega) only [gA,aA,qop,fop,St.ev,St.put,cd,zd,Value.oneCell',lA,TypeDesc.aggB,Z0,cA,mA,Z1,oA,pA,qA,eA,D.pure?,ZC,ZD,sA,D.pv?,tt,nA,Zh] <;> exact rfl) ?_)
  refine bA ?_
  exact hK
 refine jA ?_
 refine fA ?_
 refine iA hX hb [0,1] rfl (σ' := ?s3) (fun K hK => ?h3) ?n3
 case h3 =>
  iterate 2 (refine kA rfl (by simp (disch := omega) only [gA,aA,qop,fop,St.ev,St.put,cd,zd,Value.oneCell',lA,TypeDesc.aggB,Z0,yA,iop,t3,ti3,nA,Zh] <;> exact rfl) ?_)
  refine bA ?_
  exact hK
 refine jA ?_
 refine mB _ rfl (fun hc0 => ?_) (fun hc0 => ?_)
 ·try simp only [Zp,Zi,ZK,ZJ,ne_eq,Zn,Zm,ZB,ZA,ZI,not_or,not_and,Zu] at hc0
  refine fA ?_
  refine iA hX hb [0,1] rfl (σ' := ?s4) (fun K hK => ?h4) ?n4
  case h4 =>
   iterate 2 (refine kA rfl (by simp (disch := omega) only [gA,aA,qop,fop,St.ev,St.put,cd,zd,Value.oneCell',lA,TypeDesc.aggB,Z0,t3,ti3,nA,Zh] <;> exact rfl) ?_)
   refine bA ?_
   exact hK
  refine jA ?_
  refine bC ?_
  refine nC ?_
  exact tC rfl (sB rfl (by first | rfl | (first | exact congrArg (fun k => D.p (i64 k)) (lL (w := ⟨⟨s,f,lv⟩,pd,le,fo,se,dn⟩) hc0).symm | exact congrArg (fun k => D.p (i64 k)) (mL (w := ⟨⟨s,f,lv⟩,pd,le,fo,se,dn⟩) hc0 hc1).symm | exact congrArg (fun n => D.p (i64 n)) (oI (w := ⟨⟨s,f,lv⟩,pd,(k : Int),fo,se,dn⟩) hc0 (by unfold pH; dsimp only; simpa using hc1) (by unfold eG; rw [if_pos hc2]; rintro ⟨h1,h2⟩; rcases hc3 with h | h; exact h h1; exact h h2)).symm | exact congrArg (fun n => D.p (i64 n)) (oI (w := ⟨⟨s,f,lv⟩,pd,(k : Int),fo,se,dn⟩) hc0 (by unfold pH; dsimp only; simpa using hc1) (by unfold eG; rw [if_neg (by simp [hc2])]; rintro ⟨h1,h2,h3⟩; rcases hc4 with h | h | h; exact h1 h; exact h h3; exact h h2)).symm | exact congrArg (fun n => D.p (i64 n)) (tJ (w := ⟨⟨s,f,lv⟩,pd,(k : Int),fo,se,dn⟩) hc0 (by unfold pH; dsimp only; simpa using hc1) (by unfold eG; simp_all [oR])).symm)))
 ·try simp only [Zp,Zi,ZK,ZJ,ne_eq,Zn,Zm,ZB,ZA,ZI,not_or,not_and,Zu] at hc0
  refine tB ?_
  refine jA ?_
  refine fA ?_
  refine fA ?_
  refine nE hX hb [0,1,2,3,4,5,6,7,8,9,10,11,12,13,14,15,16,17,18,19,20,21,22,23,24,25,26,27,28,29,30] rfl (ts := [10,11,12,13,14,15,16,17,18,19,20,21,22,23,24,25,26,27,28,29,30,31,32,33,34,35,36,37,38,39]) (t := 40) (d := .p (bv (le < 0 ∨ (lv.length : Int) ≤ le ∨ (dn = true ∧ le ≠ 0) ∨ se < 0 ∨ 8192 < se))) (σ' := ?s5) ?j5 ?h5 ?n5
  case j5 => simp only [St.join,List.foldl,Za,Zb]; exact rfl
  case h5 =>
   iterate 4 (all_goals refine kA rfl (by simp (disch := omega) only [gA,aA,qop,fop,St.ev,St.put,cd,zd,Value.oneCell',lA,TypeDesc.aggB,Z0,cA,mA,Z1,oA,pA,qA,eA,D.pure?,ZC,ZD,yA,iop,mC,tt,nA,Zh] <;> exact rfl) ?_)
   iterate 7 (all_goals first | (refine fC rfl rfl rfl (by simp (disch := omega) only [gA,aA,qop,fop,St.ev,St.put,cd,zd,Value.oneCell',lA,TypeDesc.aggB,Z0,cA,mA,Z1,oA,pA,qA,eA,D.pure?,ZC,ZD,yA,iop,mC,tt,nA,Zh] <;> exact rfl) ?_) | (first | (refine zB rfl rfl rfl (by simp only [St.put,Za,Zb] <;> exact rfl) ?_) | (refine aC rfl rfl rfl (by simp only [St.put,Za,Zb] <;> exact rfl) ?_)) | (refine yB rfl rfl rfl (by simp only [Za,Zb] <;> exact rfl) (by simp only [Za,Zb] <;> exact rfl) (fun hg => ?_) (fun hg => ?_) <;> (try simp only [Zp,Zi,ZJ,ZK,ne_eq,Zn,Zm,Bool.not_eq_true,Zu] at hg) <;> first | (refine fC rfl rfl rfl (by simp (disch := omega) only [gA,aA,qop,fop,St.ev,St.put,cd,zd,Value.oneCell',lA,TypeDesc.aggB,Z0,cA,mA,Z1,oA,pA,qA,eA,D.pure?,ZC,ZD,yA,iop,mC,tt,nA,Zh] <;> exact rfl) ?_) | (first | (refine zB rfl rfl rfl (by simp only [St.put,Za,Zb] <;> exact rfl) ?_) | (refine aC rfl rfl rfl (by simp only [St.put,Za,Zb] <;> exact rfl) ?_))))
   iterate 2 (all_goals refine kA rfl (by simp (disch := omega) only [gA,aA,qop,fop,St.ev,St.put,cd,zd,Value.oneCell',lA,TypeDesc.aggB,Z0,cA,mA,Z1,oA,pA,qA,eA,D.pure?,ZC,ZD,yA,iop,mC,tt,nA,Zh] <;> exact rfl) ?_)
   iterate 7 (all_goals first | (refine fC rfl rfl rfl (by simp (disch := omega) only [gA,aA,qop,fop,St.ev,St.put,cd,zd,Value.oneCell',lA,TypeDesc.aggB,Z0,cA,mA,Z1,oA,pA,qA,eA,D.pure?,ZC,ZD,yA,iop,mC,tt,nA,Zh] <;> exact rfl) ?_) | (first | (refine zB rfl rfl rfl (by simp only [St.put,Za,Zb] <;> exact rfl) ?_) | (refine aC rfl rfl rfl (by simp only [St.put,Za,Zb] <;> exact rfl) ?_)) | (refine yB rfl rfl rfl (by simp only [Za,Zb] <;> exact rfl) (by simp only [Za,Zb] <;> exact rfl) (fun hg => ?_) (fun hg => ?_) <;> (try simp only [Zp,Zi,ZJ,ZK,ne_eq,Zn,Zm,Bool.not_eq_true,Zu] at hg) <;> first | (refine fC rfl rfl rfl (by simp (disch := omega) only [gA,aA,qop,fop,St.ev,St.put,cd,zd,Value.oneCell',lA,TypeDesc.aggB,Z0,cA,mA,Z1,oA,pA,qA,eA,D.pure?,ZC,ZD,yA,iop,mC,tt,nA,Zh] <;> exact rfl) ?_) | (first | (refine zB rfl rfl rfl (by simp only [St.put,Za,Zb] <;> exact rfl) ?_) | (refine aC rfl rfl rfl (by simp only [St.put,Za,Zb] <;> exact rfl) ?_))))
   iterate 2 (all_goals refine kA rfl (by simp (disch := omega) only [gA,aA,qop,fop,St.ev,St.put,cd,zd,Value.oneCell',lA,TypeDesc.aggB,Z0,cA,mA,Z1,oA,pA,qA,eA,D.pure?,ZC,ZD,yA,iop,mC,tt,nA,Zh] <;> exact rfl) ?_)
   iterate 3 (all_goals first | (refine fC rfl rfl rfl (by simp (disch := omega) only [gA,aA,qop,fop,St.ev,St.put,cd,zd,Value.oneCell',lA,TypeDesc.aggB,Z0,cA,mA,Z1,oA,pA,qA,eA,D.pure?,ZC,ZD,yA,iop,mC,tt,nA,Zh] <;> exact rfl) ?_) | (first | (refine zB rfl rfl rfl (by simp only [St.put,Za,Zb] <;> exact rfl) ?_) | (refine aC rfl rfl rfl (by simp only [St.put,Za,Zb] <;> exact rfl) ?_)) | (refine yB rfl rfl rfl (by simp only [Za,Zb] <;> exact rfl) (by simp only [Za,Zb] <;> exact rfl) (fun hg => ?_) (fun hg => ?_) <;> (try simp only [Zp,Zi,ZJ,ZK,ne_eq,Zn,Zm,Bool.not_eq_true,Zu] at hg) <;> first | (refine fC rfl rfl rfl (by simp (disch := omega) only [gA,aA,qop,fop,St.ev,St.put,cd,zd,Value.oneCell',lA,TypeDesc.aggB,Z0,cA,mA,Z1,oA,pA,qA,eA,D.pure?,ZC,ZD,yA,iop,mC,tt,nA,Zh] <;> exact rfl) ?_) | (first | (refine zB rfl rfl rfl (by simp only [St.put,Za,Zb] <;> exact rfl) ?_) | (refine aC rfl rfl rfl (by simp only [St.put,Za,Zb] <;> exact rfl) ?_))))
   iterate 2 (all_goals refine kA rfl (by simp (disch := omega) only [gA,aA,qop,fop,St.ev,St.put,cd,zd,Value.oneCell',lA,TypeDesc.aggB,Z0,cA,mA,Z1,oA,pA,qA,eA,D.pure?,ZC,ZD,yA,iop,mC,tt,nA,Zh] <;> exact rfl) ?_)
   iterate 3 (all_goals first | (refine fC rfl rfl rfl (by simp (disch := omega) only [gA,aA,qop,fop,St.ev,St.put,cd,zd,Value.oneCell',lA,TypeDesc.aggB,Z0,cA,mA,Z1,oA,pA,qA,eA,D.pure?,ZC,ZD,yA,iop,mC,tt,nA,Zh] <;> exact rfl) ?_) | (first | (refine zB rfl rfl rfl (by simp only [St.put,Za,Zb] <;> exact rfl) ?_) | (refine aC rfl rfl rfl (by simp only [St.put,Za,Zb] <;> exact rfl) ?_)) | (refine yB rfl rfl rfl (by simp only [Za,Zb] <;> exact rfl) (by simp only [Za,Zb] <;> exact rfl) (fun hg => ?_) (fun hg => ?_) <;> (try simp only [Zp,Zi,ZJ,ZK,ne_eq,Zn,Zm,Bool.not_eq_true,Zu] at hg) <;> first | (refine fC rfl rfl rfl (by simp (disch := omega) only [gA,aA,qop,fop,St.ev,St.put,cd,zd,Value.oneCell',lA,TypeDesc.aggB,Z0,cA,mA,Z1,oA,pA,qA,eA,D.pure?,ZC,ZD,yA,iop,mC,tt,nA,Zh] <;> exact rfl) ?_) | (first | (refine zB rfl rfl rfl (by simp only [St.put,Za,Zb] <;> exact rfl) ?_) | (refine aC rfl rfl rfl (by simp only [St.put,Za,Zb] <;> exact rfl) ?_))))
   (all_goals refine kA rfl (by simp (disch := omega) only [gA,aA,qop,fop,St.ev,St.put,cd,zd,Value.oneCell',lA,TypeDesc.aggB,Z0,cA,mA,Z1,oA,pA,qA,eA,D.pure?,ZC,ZD,yA,iop,mC,tt,nA,Zh] <;> exact rfl) ?_)
   all_goals refine bA ?_
   all_goals refine ⟨rfl,?_,pD _,qD _,rfl,rfl⟩
   all_goals repeat' (first | exact tA | refine qB ?_ | refine uA rfl ?_ | refine uA ?_ ?_)
   all_goals refine jn ?_
   all_goals ((try simp only [Zp,Zi,ZJ,ZK,Bool.not_eq_true,Zm,Zn,ne_eq,Zf,true_iff,false_iff,iff_true,iff_false] at *) <;> first | omega | (simp_all; done) | (simp_all; omega))
  refine jA ?_
  refine mB _ rfl (fun hc1 => ?_) (fun hc1 => ?_)
  ·try simp only [Zp,Zi,ZK,ZJ,ne_eq,Zn,Zm,ZB,ZA,ZI,not_or,not_and,Zu] at hc1
   refine fA ?_
   refine iA hX hb [0] rfl (σ' := ?s6) (fun K hK => ?h6) ?n6
   case h6 =>
    (refine kA rfl (by simp (disch := omega) only [gA,aA,qop,fop,St.ev,St.put,cd,zd,Value.oneCell',lA,TypeDesc.aggB,Z0,t2,ti2,nA,Zh] <;> exact rfl) ?_)
    refine bA ?_
    exact hK
   refine jA ?_
   refine bC ?_
   refine nC ?_
   exact tC rfl (sB rfl (by first | rfl | (first | exact congrArg (fun k => D.p (i64 k)) (lL (w := ⟨⟨s,f,lv⟩,pd,le,fo,se,dn⟩) hc0).symm | exact congrArg (fun k => D.p (i64 k)) (mL (w := ⟨⟨s,f,lv⟩,pd,le,fo,se,dn⟩) hc0 hc1).symm | exact congrArg (fun n => D.p (i64 n)) (oI (w := ⟨⟨s,f,lv⟩,pd,(k : Int),fo,se,dn⟩) hc0 (by unfold pH; dsimp only; simpa using hc1) (by unfold eG; rw [if_pos hc2]; rintro ⟨h1,h2⟩; rcases hc3 with h | h; exact h h1; exact h h2)).symm | exact congrArg (fun n => D.p (i64 n)) (oI (w := ⟨⟨s,f,lv⟩,pd,(k : Int),fo,se,dn⟩) hc0 (by unfold pH; dsimp only; simpa using hc1) (by unfold eG; rw [if_neg (by simp [hc2])]; rintro ⟨h1,h2,h3⟩; rcases hc4 with h | h | h; exact h1 h; exact h h3; exact h h2)).symm | exact congrArg (fun n => D.p (i64 n)) (tJ (w := ⟨⟨s,f,lv⟩,pd,(k : Int),fo,se,dn⟩) hc0 (by unfold pH; dsimp only; simpa using hc1) (by unfold eG; simp_all [oR])).symm)))
  ·try simp only [Zp,Zi,ZK,ZJ,ne_eq,Zn,Zm,ZB,ZA,ZI,not_or,not_and,Zu] at hc1
   have hsm := zG hc0
   dsimp only at hsm
   obtain ⟨k,hk⟩ : ∃ k : Nat,le = k := ⟨le.toNat,by omega⟩
   subst hk
   obtain ⟨S,F,hS,hF,q1,q2,q3,q4,q5,q6⟩ := nF hc0
   dsimp only at hS hF
   have hrl := hsm.2.2 _ (tE lv [] k (by omega))
   refine tB ?_
   refine jA ?_
   refine fA ?_
   refine fA ?_
   refine iA hX hb [0,1] rfl (σ' := ?s7) (fun K hK => ?h7) ?n7
   case h7 =>
    iterate 2 (refine kA rfl (by simp (disch := omega) only [gA,aA,qop,fop,St.ev,St.put,cd,zd,Value.oneCell',lA,TypeDesc.aggB,Z0,cA,mA,Z1,oA,pA,qA,eA,D.pure?,ZC,ZD,tt,nA,Zh] <;> exact rfl) ?_)
    refine bA ?_
    exact hK
   refine jA ?_
   refine mB _ rfl (fun hc2 => ?_) (fun hc2 => ?_)
   ·try simp only [Zp,Zi,ZK,ZJ,ne_eq,Zn,Zm,ZB,ZA,ZI,not_or,not_and,Zu] at hc2
    refine fA ?_
    refine fA ?_
    refine nE hX hb [0,1,2,3,4,5,6,7,8,9,10,11,12] rfl (ts := [43,44,45,46,47,48,49,50,51,52,53,54]) (t := 55) (d := .p (bv (pd.length ≠ 0 ∨ kJ fo s ≠ 0))) (σ' := ?s8) ?j8 ?h8 ?n8
    case j8 => simp only [St.join,List.foldl,Za,Zb]; exact rfl
    case h8 =>
     iterate 5 (all_goals refine kA rfl (by simp (disch := omega) only [gA,aA,qop,fop,St.ev,St.put,cd,zd,Value.oneCell',lA,TypeDesc.aggB,Z0,cA,mA,Z1,oA,pA,qA,eA,D.pure?,ZC,ZD,mC,yA,iop,sA,D.pv?,tt,nA,Zh] <;> exact rfl) ?_)
     iterate 5 (all_goals first | (refine fC rfl rfl rfl (by simp (disch := omega) only [gA,aA,qop,fop,St.ev,St.put,cd,zd,Value.oneCell',lA,TypeDesc.aggB,Z0,cA,mA,Z1,oA,pA,qA,eA,D.pure?,ZC,ZD,mC,yA,iop,sA,D.pv?,tt,nA,Zh] <;> exact rfl) ?_) | (first | (refine zB rfl rfl rfl (by simp only [St.put,Za,Zb] <;> exact rfl) ?_) | (refine aC rfl rfl rfl (by simp only [St.put,Za,Zb] <;> exact rfl) ?_)) | (refine yB rfl rfl rfl (by simp only [Za,Zb] <;> exact rfl) (by simp only [Za,Zb] <;> exact rfl) (fun hg => ?_) (fun hg => ?_) <;> (try simp only [Zp,Zi,ZJ,ZK,ne_eq,Zn,Zm,Bool.not_eq_true,Zu] at hg) <;> first | (refine fC rfl rfl rfl (by simp (disch := omega) only [gA,aA,qop,fop,St.ev,St.put,cd,zd,Value.oneCell',lA,TypeDesc.aggB,Z0,cA,mA,Z1,oA,pA,qA,eA,D.pure?,ZC,ZD,mC,yA,iop,sA,D.pv?,tt,nA,Zh] <;> exact rfl) ?_) | (first | (refine zB rfl rfl rfl (by simp only [St.put,Za,Zb] <;> exact rfl) ?_) | (refine aC rfl rfl rfl (by simp only [St.put,Za,Zb] <;> exact rfl) ?_))))
     all_goals first | (refine dK rfl rfl rfl (by simp only [aA,St.ev,nB,oB,sA,D.pv?,ZG,ZH,zd,cd,Value.oneCell',Zr] <;> exact rfl) (acK hP (c86 fo s hfi (by omega))) (by simp only [St.put,Za,Zb] <;> exact rfl) ?_) | (first | (refine zB rfl rfl rfl (by simp only [St.put,Za,Zb] <;> exact rfl) ?_) | (refine aC rfl rfl rfl (by simp only [St.put,Za,Zb] <;> exact rfl) ?_)) | (refine yB rfl rfl rfl (by simp only [Za,Zb] <;> exact rfl) (by simp only [Za,Zb] <;> exact rfl) (fun hg => ?_) (fun hg => ?_) <;> (try simp only [Zp,Zi,ZJ,ZK,ne_eq,Zn,Zm,Bool.not_eq_true,Zu] at hg) <;> first | (refine dK rfl rfl rfl (by simp only [aA,St.ev,nB,oB,sA,D.pv?,ZG,ZH,zd,cd,Value.oneCell',Zr] <;> exact rfl) (acK hP (c86 fo s hfi (by omega))) (by simp only [St.put,Za,Zb] <;> exact rfl) ?_) | (first | (refine zB rfl rfl rfl (by simp only [St.put,Za,Zb] <;> exact rfl) ?_) | (refine aC rfl rfl rfl (by simp only [St.put,Za,Zb] <;> exact rfl) ?_)))
     (all_goals first | (refine fC rfl rfl rfl (by simp (disch := omega) only [gA,aA,qop,fop,St.ev,St.put,cd,zd,Value.oneCell',lA,TypeDesc.aggB,Z0,cA,mA,Z1,oA,pA,qA,eA,D.pure?,ZC,ZD,mC,yA,iop,sA,D.pv?,tt,nA,Zh] <;> exact rfl) ?_) | (first | (refine zB rfl rfl rfl (by simp only [St.put,Za,Zb] <;> exact rfl) ?_) | (refine aC rfl rfl rfl (by simp only [St.put,Za,Zb] <;> exact rfl) ?_)) | (refine yB rfl rfl rfl (by simp only [Za,Zb] <;> exact rfl) (by simp only [Za,Zb] <;> exact rfl) (fun hg => ?_) (fun hg => ?_) <;> (try simp only [Zp,Zi,ZJ,ZK,ne_eq,Zn,Zm,Bool.not_eq_true,Zu] at hg) <;> first | (refine fC rfl rfl rfl (by simp (disch := omega) only [gA,aA,qop,fop,St.ev,St.put,cd,zd,Value.oneCell',lA,TypeDesc.aggB,Z0,cA,mA,Z1,oA,pA,qA,eA,D.pure?,ZC,ZD,mC,yA,iop,sA,D.pv?,tt,nA,Zh] <;> exact rfl) ?_) | (first | (refine zB rfl rfl rfl (by simp only [St.put,Za,Zb] <;> exact rfl) ?_) | (refine aC rfl rfl rfl (by simp only [St.put,Za,Zb] <;> exact rfl) ?_))))
     (all_goals refine kA rfl (by simp (disch := omega) only [gA,aA,qop,fop,St.ev,St.put,cd,zd,Value.oneCell',lA,TypeDesc.aggB,Z0,cA,mA,Z1,oA,pA,qA,eA,D.pure?,ZC,ZD,mC,yA,iop,sA,D.pv?,tt,nA,Zh] <;> exact rfl) ?_)
     all_goals refine bA ?_
     all_goals refine ⟨rfl,?_,pD _,qD _,rfl,rfl⟩
     all_goals repeat' (first | exact tA | refine qB ?_ | refine uA rfl ?_ | refine uA ?_ ?_)
     all_goals refine jn ?_
     all_goals ((try simp only [Zp,Zi,ZJ,ZK,Bool.not_eq_true,Zm,Zn,ne_eq,Zf,true_iff,false_iff,iff_true,iff_false] at *) <;> first | omega | (simp_all; done) | (simp_all; omega))
    refine jA ?_
    refine mB _ rfl (fun hc3 => ?_) (fun hc3 => ?_)
    ·try simp only [Zp,Zi,ZK,ZJ,ne_eq,Zn,Zm,ZB,ZA,ZI,not_or,not_and,Zu] at hc3
     refine fA ?_
     refine iA hX hb [0] rfl (σ' := ?s9) (fun K hK => ?h9) ?n9
     case h9 =>
      (refine kA rfl (by simp (disch := omega) only [gA,aA,qop,fop,St.ev,St.put,cd,zd,Value.oneCell',lA,TypeDesc.aggB,Z0,t3,ti3,nA,Zh] <;> exact rfl) ?_)
      refine bA ?_
      exact hK
     refine jA ?_
     refine bC ?_
     refine nC ?_
     refine nC ?_
     exact tC rfl (sB rfl (by first | rfl | (first | exact congrArg (fun k => D.p (i64 k)) (lL (w := ⟨⟨s,f,lv⟩,pd,le,fo,se,dn⟩) hc0).symm | exact congrArg (fun k => D.p (i64 k)) (mL (w := ⟨⟨s,f,lv⟩,pd,le,fo,se,dn⟩) hc0 hc1).symm | exact congrArg (fun n => D.p (i64 n)) (oI (w := ⟨⟨s,f,lv⟩,pd,(k : Int),fo,se,dn⟩) hc0 (by unfold pH; dsimp only; simpa using hc1) (by unfold eG; rw [if_pos hc2]; rintro ⟨h1,h2⟩; rcases hc3 with h | h; exact h h1; exact h h2)).symm | exact congrArg (fun n => D.p (i64 n)) (oI (w := ⟨⟨s,f,lv⟩,pd,(k : Int),fo,se,dn⟩) hc0 (by unfold pH; dsimp only; simpa using hc1) (by unfold eG; rw [if_neg (by simp [hc2])]; rintro ⟨h1,h2,h3⟩; rcases hc4 with h | h | h; exact h1 h; exact h h3; exact h h2)).symm | exact congrArg (fun n => D.p (i64 n)) (tJ (w := ⟨⟨s,f,lv⟩,pd,(k : Int),fo,se,dn⟩) hc0 (by unfold pH; dsimp only; simpa using hc1) (by unfold eG; simp_all [oR])).symm)))
    ·try simp only [Zp,Zi,ZK,ZJ,ne_eq,Zn,Zm,ZB,ZA,ZI,not_or,not_and,Zu] at hc3
     refine tB ?_
     refine jA ?_
     refine fA ?_
     refine iA hX hb [0] rfl (σ' := ?s10) (fun K hK => ?h10) ?n10
     case h10 =>
      (refine kA rfl (by simp (disch := omega) only [gA,aA,qop,fop,St.ev,St.put,cd,zd,Value.oneCell',lA,TypeDesc.aggB,Z0,nA,Zh] <;> exact rfl) ?_)
      refine bA ?_
      exact hK
     refine jA ?_
     refine bC ?_
     refine nC ?_
     exact tC rfl (sB rfl (by first | rfl | (first | exact congrArg (fun k => D.p (i64 k)) (lL (w := ⟨⟨s,f,lv⟩,pd,le,fo,se,dn⟩) hc0).symm | exact congrArg (fun k => D.p (i64 k)) (mL (w := ⟨⟨s,f,lv⟩,pd,le,fo,se,dn⟩) hc0 hc1).symm | exact congrArg (fun n => D.p (i64 n)) (oI (w := ⟨⟨s,f,lv⟩,pd,(k : Int),fo,se,dn⟩) hc0 (by unfold pH; dsimp only; simpa using hc1) (by unfold eG; rw [if_pos hc2]; rintro ⟨h1,h2⟩; rcases hc3 with h | h; exact h h1; exact h h2)).symm | exact congrArg (fun n => D.p (i64 n)) (oI (w := ⟨⟨s,f,lv⟩,pd,(k : Int),fo,se,dn⟩) hc0 (by unfold pH; dsimp only; simpa using hc1) (by unfold eG; rw [if_neg (by simp [hc2])]; rintro ⟨h1,h2,h3⟩; rcases hc4 with h | h | h; exact h1 h; exact h h3; exact h h2)).symm | exact congrArg (fun n => D.p (i64 n)) (tJ (w := ⟨⟨s,f,lv⟩,pd,(k : Int),fo,se,dn⟩) hc0 (by unfold pH; dsimp only; simpa using hc1) (by unfold eG; simp_all [oR])).symm)))
   ·try simp only [Zp,Zi,ZK,ZJ,ne_eq,Zn,Zm,ZB,ZA,ZI,not_or,not_and,Zu] at hc2
    refine tB ?_
    refine jA ?_
    refine fA ?_
    refine fA ?_
    refine iN hX hb (gD hP) [(0,true),(1,true),(2,true),(3,true),(4,true),(5,true),(6,true),(7,true),(8,true),(9,true),(10,true),(11,true),(12,true),(13,true),(14,true),(15,false),(16,true),(17,true),(18,true),(19,true),(20,true),(21,true),(22,true),(23,true)] (by kernel_rfl) (ts := [56,57,58,59,60,61,62,63,64,65,66,67,68,69,70,71,72,73,74,75,76,77,78]) (t := 79) (d := .p (bv (pd.length = 0 ∨ kJ pd ((lv.getD k []).length : Nat) ≠ 0 ∨ fo.length ≠ 0))) (σ' := ?s11) ?j11 ?h11 ?n11
    case j11 => simp only [St.join,List.foldl,Za,Zb]; exact rfl
    case h11 =>
     iterate 5 (all_goals refine xE rfl (by simp (disch := omega) only [qop,fop,St.ev,St.put,cd,zd,Value.oneCell',lA,TypeDesc.aggB,Z0,cA,mA,Z1,oA,pA,qA,eA,D.pure?,ZC,ZD,mC,yA,iop,Int.toNat_zero,Int.toNat_one,wA,xA,vA,ZO,Nat.mul_one,Nat.zero_mul,Zh,sA,D.pv?,tt,nA] <;> exact rfl) (by simp only [St.put,Za,Zb] <;> exact rfl) ?_)
     iterate 10 (all_goals first | (refine jH rfl rfl rfl (by simp (disch := omega) only [qop,fop,St.ev,St.put,cd,zd,Value.oneCell',lA,TypeDesc.aggB,Z0,cA,mA,Z1,oA,pA,qA,eA,D.pure?,ZC,ZD,mC,yA,iop,Int.toNat_zero,Int.toNat_one,wA,xA,vA,ZO,Nat.mul_one,Nat.zero_mul,Zh,sA,D.pv?,tt,nA] <;> exact rfl) rfl (by simp only [St.put,Za,Zb] <;> exact rfl) ?_) | (first | (refine vF rfl rfl rfl (by simp only [St.put,Za,Zb] <;> exact rfl) ?_) | (refine uF rfl rfl rfl (by simp only [St.put,Za,Zb] <;> exact rfl) ?_)) | (refine pF rfl rfl rfl (by simp only [Za,Zb] <;> exact rfl) (by simp only [Za,Zb] <;> exact rfl) (fun hg => ?_) (fun hg => ?_) <;> (try simp only [Zp,Zi,ZJ,ZK,ne_eq,Zn,Zm,Bool.not_eq_true,Zu] at hg) <;> first | (refine jH rfl rfl rfl (by simp (disch := omega) only [qop,fop,St.ev,St.put,cd,zd,Value.oneCell',lA,TypeDesc.aggB,Z0,cA,mA,Z1,oA,pA,qA,eA,D.pure?,ZC,ZD,mC,yA,iop,Int.toNat_zero,Int.toNat_one,wA,xA,vA,ZO,Nat.mul_one,Nat.zero_mul,Zh,sA,D.pv?,tt,nA] <;> exact rfl) rfl (by simp only [St.put,Za,Zb] <;> exact rfl) ?_) | (first | (refine vF rfl rfl rfl (by simp only [St.put,Za,Zb] <;> exact rfl) ?_) | (refine uF rfl rfl rfl (by simp only [St.put,Za,Zb] <;> exact rfl) ?_))))
     all_goals first | (refine wM rfl rfl rfl (by simp only [aA,St.ev,nB,oB,sA,D.pv?,ZG,ZH,zd,cd,Value.oneCell',Zr] <;> exact rfl) (acK hP (c86 pd ((lv.getD k []).length : Nat) hpi (by omega))) (by simp only [St.put,Za,Zb] <;> exact rfl) ?_) | (first | (refine vF rfl rfl rfl (by simp only [St.put,Za,Zb] <;> exact rfl) ?_) | (refine uF rfl rfl rfl (by simp only [St.put,Za,Zb] <;> exact rfl) ?_)) | (refine pF rfl rfl rfl (by simp only [Za,Zb] <;> exact rfl) (by simp only [Za,Zb] <;> exact rfl) (fun hg => ?_) (fun hg => ?_) <;> (try simp only [Zp,Zi,ZJ,ZK,ne_eq,Zn,Zm,Bool.not_eq_true,Zu] at hg) <;> first | (refine wM rfl rfl rfl (by simp only [aA,St.ev,nB,oB,sA,D.pv?,ZG,ZH,zd,cd,Value.oneCell',Zr] <;> exact rfl) (acK hP (c86 pd ((lv.getD k []).length : Nat) hpi (by omega))) (by simp only [St.put,Za,Zb] <;> exact rfl) ?_) | (first | (refine vF rfl rfl rfl (by simp only [St.put,Za,Zb] <;> exact rfl) ?_) | (refine uF rfl rfl rfl (by simp only [St.put,Za,Zb] <;> exact rfl) ?_)))
     (all_goals first | (refine jH rfl rfl rfl (by simp (disch := omega) only [qop,fop,St.ev,St.put,cd,zd,Value.oneCell',lA,TypeDesc.aggB,Z0,cA,mA,Z1,oA,pA,qA,eA,D.pure?,ZC,ZD,mC,yA,iop,Int.toNat_zero,Int.toNat_one,wA,xA,vA,ZO,Nat.mul_one,Nat.zero_mul,Zh,sA,D.pv?,tt,nA] <;> exact rfl) rfl (by simp only [St.put,Za,Zb] <;> exact rfl) ?_) | (first | (refine vF rfl rfl rfl (by simp only [St.put,Za,Zb] <;> exact rfl) ?_) | (refine uF rfl rfl rfl (by simp only [St.put,Za,Zb] <;> exact rfl) ?_)) | (refine pF rfl rfl rfl (by simp only [Za,Zb] <;> exact rfl) (by simp only [Za,Zb] <;> exact rfl) (fun hg => ?_) (fun hg => ?_) <;> (try simp only [Zp,Zi,ZJ,ZK,ne_eq,Zn,Zm,Bool.not_eq_true,Zu] at hg) <;> first | (refine jH rfl rfl rfl (by simp (disch := omega) only [qop,fop,St.ev,St.put,cd,zd,Value.oneCell',lA,TypeDesc.aggB,Z0,cA,mA,Z1,oA,pA,qA,eA,D.pure?,ZC,ZD,mC,yA,iop,Int.toNat_zero,Int.toNat_one,wA,xA,vA,ZO,Nat.mul_one,Nat.zero_mul,Zh,sA,D.pv?,tt,nA] <;> exact rfl) rfl (by simp only [St.put,Za,Zb] <;> exact rfl) ?_) | (first | (refine vF rfl rfl rfl (by simp only [St.put,Za,Zb] <;> exact rfl) ?_) | (refine uF rfl rfl rfl (by simp only [St.put,Za,Zb] <;> exact rfl) ?_))))
     iterate 2 (all_goals refine xE rfl (by simp (disch := omega) only [qop,fop,St.ev,St.put,cd,zd,Value.oneCell',lA,TypeDesc.aggB,Z0,cA,mA,Z1,oA,pA,qA,eA,D.pure?,ZC,ZD,mC,yA,iop,Int.toNat_zero,Int.toNat_one,wA,xA,vA,ZO,Nat.mul_one,Nat.zero_mul,Zh,sA,D.pv?,tt,nA] <;> exact rfl) (by simp only [St.put,Za,Zb] <;> exact rfl) ?_)
     iterate 4 (all_goals first | (refine jH rfl rfl rfl (by simp (disch := omega) only [qop,fop,St.ev,St.put,cd,zd,Value.oneCell',lA,TypeDesc.aggB,Z0,cA,mA,Z1,oA,pA,qA,eA,D.pure?,ZC,ZD,mC,yA,iop,Int.toNat_zero,Int.toNat_one,wA,xA,vA,ZO,Nat.mul_one,Nat.zero_mul,Zh,sA,D.pv?,tt,nA] <;> exact rfl) rfl (by simp only [St.put,Za,Zb] <;> exact rfl) ?_) | (first | (refine vF rfl rfl rfl (by simp only [St.put,Za,Zb] <;> exact rfl) ?_) | (refine uF rfl rfl rfl (by simp only [St.put,Za,Zb] <;> exact rfl) ?_)) | (refine pF rfl rfl rfl (by simp only [Za,Zb] <;> exact rfl) (by simp only [Za,Zb] <;> exact rfl) (fun hg => ?_) (fun hg => ?_) <;> (try simp only [Zp,Zi,ZJ,ZK,ne_eq,Zn,Zm,Bool.not_eq_true,Zu] at hg) <;> first | (refine jH rfl rfl rfl (by simp (disch := omega) only [qop,fop,St.ev,St.put,cd,zd,Value.oneCell',lA,TypeDesc.aggB,Z0,cA,mA,Z1,oA,pA,qA,eA,D.pure?,ZC,ZD,mC,yA,iop,Int.toNat_zero,Int.toNat_one,wA,xA,vA,ZO,Nat.mul_one,Nat.zero_mul,Zh,sA,D.pv?,tt,nA] <;> exact rfl) rfl (by simp only [St.put,Za,Zb] <;> exact rfl) ?_) | (first | (refine vF rfl rfl rfl (by simp only [St.put,Za,Zb] <;> exact rfl) ?_) | (refine uF rfl rfl rfl (by simp only [St.put,Za,Zb] <;> exact rfl) ?_))))
     (all_goals refine xE rfl (by simp (disch := omega) only [qop,fop,St.ev,St.put,cd,zd,Value.oneCell',lA,TypeDesc.aggB,Z0,cA,mA,Z1,oA,pA,qA,eA,D.pure?,ZC,ZD,mC,yA,iop,Int.toNat_zero,Int.toNat_one,wA,xA,vA,ZO,Nat.mul_one,Nat.zero_mul,Zh,sA,D.pv?,tt,nA] <;> exact rfl) (by simp only [St.put,Za,Zb] <;> exact rfl) ?_)
     all_goals refine qC ?_
     all_goals refine ⟨rfl,?_,pD _,qD _,rfl,rfl⟩
     all_goals repeat' (first | exact tA | refine qB ?_ | refine uA rfl ?_ | refine uA ?_ ?_)
     all_goals refine jn ?_
     all_goals ((try simp only [Zp,Zi,ZJ,ZK,Bool.not_eq_true,Zm,Zn,ne_eq,Zf,true_iff,false_iff,iff_true,iff_false] at *) <;> first | omega | (simp_all; done) | (simp_all; omega))
    refine jA ?_
    refine mB _ rfl (fun hc4 => ?_) (fun hc4 => ?_)
    ·try simp only [Zp,Zi,ZK,ZJ,ne_eq,Zn,Zm,ZB,ZA,ZI,not_or,not_and,Zu] at hc4
     refine fA ?_
     refine iA hX hb [0] rfl (σ' := ?s12) (fun K hK => ?h12) ?n12
     case h12 =>
      (refine kA rfl (by simp (disch := omega) only [gA,aA,qop,fop,St.ev,St.put,cd,zd,Value.oneCell',lA,TypeDesc.aggB,Z0,t3,ti3,nA,Zh] <;> exact rfl) ?_)
      refine bA ?_
      exact hK
     refine jA ?_
     refine bC ?_
     refine nC ?_
     exact tC rfl (sB rfl (by first | rfl | (first | exact congrArg (fun k => D.p (i64 k)) (lL (w := ⟨⟨s,f,lv⟩,pd,le,fo,se,dn⟩) hc0).symm | exact congrArg (fun k => D.p (i64 k)) (mL (w := ⟨⟨s,f,lv⟩,pd,le,fo,se,dn⟩) hc0 hc1).symm | exact congrArg (fun n => D.p (i64 n)) (oI (w := ⟨⟨s,f,lv⟩,pd,(k : Int),fo,se,dn⟩) hc0 (by unfold pH; dsimp only; simpa using hc1) (by unfold eG; rw [if_pos hc2]; rintro ⟨h1,h2⟩; rcases hc3 with h | h; exact h h1; exact h h2)).symm | exact congrArg (fun n => D.p (i64 n)) (oI (w := ⟨⟨s,f,lv⟩,pd,(k : Int),fo,se,dn⟩) hc0 (by unfold pH; dsimp only; simpa using hc1) (by unfold eG; rw [if_neg (by simp [hc2])]; rintro ⟨h1,h2,h3⟩; rcases hc4 with h | h | h; exact h1 h; exact h h3; exact h h2)).symm | exact congrArg (fun n => D.p (i64 n)) (tJ (w := ⟨⟨s,f,lv⟩,pd,(k : Int),fo,se,dn⟩) hc0 (by unfold pH; dsimp only; simpa using hc1) (by unfold eG; simp_all [oR])).symm)))
    ·try simp only [Zp,Zi,ZK,ZJ,ne_eq,Zn,Zm,ZB,ZA,ZI,not_or,not_and,Zu] at hc4
     refine tB ?_
     refine jA ?_
     refine fA ?_
     refine iA hX hb [0] rfl (σ' := ?s13) (fun K hK => ?h13) ?n13
     case h13 =>
      (refine kA rfl (by simp (disch := omega) only [gA,aA,qop,fop,St.ev,St.put,cd,zd,Value.oneCell',lA,TypeDesc.aggB,Z0,nA,Zh] <;> exact rfl) ?_)
      refine bA ?_
      exact hK
     refine jA ?_
     refine bC ?_
     exact tC rfl (sB rfl (by first | rfl | (first | exact congrArg (fun k => D.p (i64 k)) (lL (w := ⟨⟨s,f,lv⟩,pd,le,fo,se,dn⟩) hc0).symm | exact congrArg (fun k => D.p (i64 k)) (mL (w := ⟨⟨s,f,lv⟩,pd,le,fo,se,dn⟩) hc0 hc1).symm | exact congrArg (fun n => D.p (i64 n)) (oI (w := ⟨⟨s,f,lv⟩,pd,(k : Int),fo,se,dn⟩) hc0 (by unfold pH; dsimp only; simpa using hc1) (by unfold eG; rw [if_pos hc2]; rintro ⟨h1,h2⟩; rcases hc3 with h | h; exact h h1; exact h h2)).symm | exact congrArg (fun n => D.p (i64 n)) (oI (w := ⟨⟨s,f,lv⟩,pd,(k : Int),fo,se,dn⟩) hc0 (by unfold pH; dsimp only; simpa using hc1) (by unfold eG; rw [if_neg (by simp [hc2])]; rintro ⟨h1,h2,h3⟩; rcases hc4 with h | h | h; exact h1 h; exact h h3; exact h h2)).symm | exact congrArg (fun n => D.p (i64 n)) (tJ (w := ⟨⟨s,f,lv⟩,pd,(k : Int),fo,se,dn⟩) hc0 (by unfold pH; dsimp only; simpa using hc1) (by unfold eG; simp_all [oR])).symm)))
end Go.Proofs.Ytldcoekbgfaomaa
end
section
namespace Go.Proofs.Ytldcoekbgfaomaa
open Go.RowKit
theorem xK : ∀ (l : List Int),(rE l).length = l.length / 2
 | [] => rfl
 | [a] => by simp [rE]
 | a :: b :: r => by simp only [rE,Zl,xK r]; omega
theorem sQ : ∀ (l : List Int) (j : Nat),2 * j + 1 < l.length → (rE l).getD j (0,0) = (l.getD (2 * j) 0,l.getD (2 * j + 1) 0)
 | [],j,h => by simp at h
 | [a],j,h => by simp at h
 | a :: b :: r,0,h => by simp [rE]
 | a :: b :: r,j + 1,h => by
  have := sQ r j (by simp only [Zl] at h; omega)
  rw [show 2 * (j + 1) = 2 * j + 1 + 1 by omega]
  simp only [rE,List.getD_cons_succ]
  exact this
theorem aBA (l : List Int) (a j : Nat) : (l.drop a).getD j 0 = l.getD (a + j) 0 := by
 simp [List.getD_eq_getElem?_getD]
theorem fG {l : List Int} {j : Nat} (h : 2 * j + 1 < l.length) : (rE l).take (j + 1) = (rE l).take j ++ [(l.getD (2 * j) 0,l.getD (2 * j + 1) 0)] := by
 rw [uE _ j (by rw [xK]; omega),sQ l j h]
theorem kEA {l : List Int} (h : ∀ v ∈ l,xL v) : gR (rE l) := by
 intro e he
 obtain ⟨j,hj,rfl⟩ := List.getElem_of_mem he
 rw [xK] at hj
 have h1 := sQ l j (by omega)
 rw [List.getD_eq_getElem?_getD,List.getElem?_eq_getElem (by rw [xK]; omega)] at h1
 simp only [Option.getD_some] at h1
 rw [h1]
 exact ⟨h _ (tE l 0 _ (by omega)),h _ (tE l 0 _ (by omega))⟩
theorem bD (row : List Int) (X : List Nat) (i : Nat) (h : i < X.length) : mF row (X.take (i + 1)) = mF row (X.take i) ++ eD (row.getD (X.getD i 0) 0) := by
 rw [mF,mF,List.take_succ_eq_append_getElem h,List.flatMap_append]
 simp [h]
theorem iD (d : Int) : (eD d).length = 8 := by simp [eD]
theorem bT (row : List Int) (X : List Nat) : (mF row X).length = 8 * X.length := by
 induction X with
 | nil => rfl
 | cons x X ih =>
  have : mF row (x :: X) = eD (row.getD x 0) ++ mF row X := rfl
  rw [this,List.length_append,iD,ih,List.length_cons]
  omega
theorem wNA {s x : Int} (hs : 0 ≤ s ∧ s < 256) (hx : 0 ≤ x ∧ x ≤ 255) : (s + x % 18446744073709551616 * 256 % 18446744073709551616) % 18446744073709551616 = s + 256 * x ∧ 0 ≤ s + 256 * x ∧ s + 256 * x < 65536 := by omega
theorem xNA {s x : Int} (hs : 0 ≤ s ∧ s < 65536) (hx : 0 ≤ x ∧ x ≤ 255) : (s + x % 18446744073709551616 * 65536 % 18446744073709551616) % 18446744073709551616 = s + 65536 * x ∧ 0 ≤ s + 65536 * x ∧ s + 65536 * x < 16777216 := by omega
theorem yNA {s x : Int} (hs : 0 ≤ s ∧ s < 16777216) (hx : 0 ≤ x ∧ x ≤ 255) : (s + x % 18446744073709551616 * 16777216 % 18446744073709551616) % 18446744073709551616 = s + 16777216 * x ∧ 0 ≤ s + 16777216 * x ∧ s + 16777216 * x < 4294967296 := by omega
theorem zNA {s x : Int} (hs : 0 ≤ s ∧ s < 4294967296) (hx : 0 ≤ x ∧ x ≤ 255) : (s + x % 18446744073709551616 * 4294967296 % 18446744073709551616) % 18446744073709551616 = s + 4294967296 * x ∧ 0 ≤ s + 4294967296 * x ∧ s + 4294967296 * x < 1099511627776 := by omega
theorem aOA {s x : Int} (hs : 0 ≤ s ∧ s < 1099511627776) (hx : 0 ≤ x ∧ x ≤ 255) : (s + x % 18446744073709551616 * 1099511627776 % 18446744073709551616) % 18446744073709551616 = s + 1099511627776 * x ∧ 0 ≤ s + 1099511627776 * x ∧ s + 1099511627776 * x < 281474976710656 := by omega
theorem bOA {s x : Int} (hs : 0 ≤ s ∧ s < 281474976710656) (hx : 0 ≤ x ∧ x ≤ 255) : (s + x % 18446744073709551616 * 281474976710656 % 18446744073709551616) % 18446744073709551616 = s + 281474976710656 * x ∧ 0 ≤ s + 281474976710656 * x ∧ s + 281474976710656 * x < 72057594037927936 := by omega
theorem cOA {s x : Int} (hs : 0 ≤ s ∧ s < 72057594037927936) (hx : 0 ≤ x ∧ x ≤ 255) : (s + x % 18446744073709551616 * 72057594037927936 % 18446744073709551616) % 18446744073709551616 = s + 72057594037927936 * x ∧ 0 ≤ s + 72057594037927936 * x ∧ s + 72057594037927936 * x < 18446744073709551616 := by omega
theorem dOA {x : Int} (hx : 0 ≤ x ∧ x ≤ 255) : ((0 : Int) + x % 18446744073709551616 * 1 % 18446744073709551616) % 18446744073709551616 = x ∧ 0 ≤ x ∧ x < 256 := by omega
theorem eOA {v s r : Int} (h : v = s + 256 * r) (hs : 0 ≤ s ∧ s < 256) : v / 256 = r := by omega
theorem fOA {v s r : Int} (h : v = s + 65536 * r) (hs : 0 ≤ s ∧ s < 65536) : v / 65536 = r := by omega
theorem gOA {v s r : Int} (h : v = s + 16777216 * r) (hs : 0 ≤ s ∧ s < 16777216) : v / 16777216 = r := by omega
theorem hOA {v s r : Int} (h : v = s + 4294967296 * r) (hs : 0 ≤ s ∧ s < 4294967296) : v / 4294967296 = r := by omega
theorem iOA {v s r : Int} (h : v = s + 1099511627776 * r) (hs : 0 ≤ s ∧ s < 1099511627776) : v / 1099511627776 = r := by omega
theorem jOA {v s r : Int} (h : v = s + 281474976710656 * r) (hs : 0 ≤ s ∧ s < 281474976710656) : v / 281474976710656 = r := by omega
theorem kOA {v s r : Int} (h : v = s + 72057594037927936 * r) (hs : 0 ≤ s ∧ s < 72057594037927936) : v / 72057594037927936 = r := by omega
theorem dgd {r x y : Int} (h : r = x + 256 * y) (hx : 0 ≤ x ∧ x ≤ 255) : r % 256 = x := by omega
theorem lOA {r : Int} (hx : 0 ≤ r ∧ r ≤ 255) : r % 256 = r := by omega
theorem mOA {v s s' x r r' : Int} (h : v = s' + 65536 * r') (h1 : s' = s + 256 * x) (h2 : r = x + 256 * r') : v = s + 256 * r := by omega
theorem nOA {v s s' x r r' : Int} (h : v = s' + 16777216 * r') (h1 : s' = s + 65536 * x) (h2 : r = x + 256 * r') : v = s + 65536 * r := by omega
theorem oOA {v s s' x r r' : Int} (h : v = s' + 4294967296 * r') (h1 : s' = s + 16777216 * x) (h2 : r = x + 256 * r') : v = s + 16777216 * r := by omega
theorem pOA {v s s' x r r' : Int} (h : v = s' + 1099511627776 * r') (h1 : s' = s + 4294967296 * x) (h2 : r = x + 256 * r') : v = s + 4294967296 * r := by omega
theorem qOA {v s s' x r r' : Int} (h : v = s' + 281474976710656 * r') (h1 : s' = s + 1099511627776 * x) (h2 : r = x + 256 * r') : v = s + 1099511627776 * r := by omega
theorem rOA {v s s' x r r' : Int} (h : v = s' + 72057594037927936 * r') (h1 : s' = s + 281474976710656 * x) (h2 : r = x + 256 * r') : v = s + 281474976710656 * r := by omega
theorem sOA {d p p' : Int} (h : d / 256 = p) (h2 : p' = p / 256) : d / 65536 = p' := by omega
theorem tOA {d p p' : Int} (h : d / 65536 = p) (h2 : p' = p / 256) : d / 16777216 = p' := by omega
theorem uOA {d p p' : Int} (h : d / 16777216 = p) (h2 : p' = p / 256) : d / 4294967296 = p' := by omega
theorem vOA {d p p' : Int} (h : d / 4294967296 = p) (h2 : p' = p / 256) : d / 1099511627776 = p' := by omega
theorem wOA {d p p' : Int} (h : d / 1099511627776 = p) (h2 : p' = p / 256) : d / 281474976710656 = p' := by omega
theorem xOA {d p p' : Int} (h : d / 281474976710656 = p) (h2 : p' = p / 256) : d / 72057594037927936 = p' := by omega
theorem yOA {d x p : Int} (h : x = d % 256) (h2 : p = d / 256) : d = x + 256 * p := by omega
theorem zOA {d s s' x p p' : Int} (h : d = s + 256 * p) (h1 : x = p % 256) (h2 : p' = p / 256) (h3 : s' = s + 256 * x) : d = s' + 65536 * p' := by omega
theorem aPA {d s s' x p p' : Int} (h : d = s + 65536 * p) (h1 : x = p % 256) (h2 : p' = p / 256) (h3 : s' = s + 65536 * x) : d = s' + 16777216 * p' := by omega
theorem bPA {d s s' x p p' : Int} (h : d = s + 16777216 * p) (h1 : x = p % 256) (h2 : p' = p / 256) (h3 : s' = s + 16777216 * x) : d = s' + 4294967296 * p' := by omega
theorem cPA {d s s' x p p' : Int} (h : d = s + 4294967296 * p) (h1 : x = p % 256) (h2 : p' = p / 256) (h3 : s' = s + 4294967296 * x) : d = s' + 1099511627776 * p' := by omega
theorem dPA {d s s' x p p' : Int} (h : d = s + 1099511627776 * p) (h1 : x = p % 256) (h2 : p' = p / 256) (h3 : s' = s + 1099511627776 * x) : d = s' + 281474976710656 * p' := by omega
theorem ePA {d s s' x p p' : Int} (h : d = s + 281474976710656 * p) (h1 : x = p % 256) (h2 : p' = p / 256) (h3 : s' = s + 281474976710656 * x) : d = s' + 72057594037927936 * p' := by omega
theorem fPA {d s s' x p : Int} (h : d = s + 72057594037927936 * p) (hs : 0 ≤ s ∧ s < 72057594037927936) (hd : 0 ≤ d ∧ d ≤ 18446744073709551615) (h1 : x = p % 256) (h3 : s' = s + 72057594037927936 * x) : s' = d := by omega
/-- A tO,put together out of bytes,is d exactly if these are d's bytes. -/
theorem nFA {b : List Int} (hb : aW b) {i : Nat} (hi : 8 * i + 8 ≤ b.length) {d : Int} (hd : 0 ≤ d ∧ d ≤ 18446744073709551615) : cIA b i = d ↔ (b.drop (8 * i)).take 8 = eD d := by
 have hx : ∀ k,0 ≤ b.getD (8 * i + k) 0 ∧ b.getD (8 * i + k) 0 ≤ 255 := fun k => zZ hb ⟨by decide,by decide⟩ _
 rw [pKA _ (by rw [List.length_drop]; omega),jEA d hd]
 simp only [aBA,ZD]
 have h0 := hx 0
 have h1 := hx 1
 have h2 := hx 2
 have h3 := hx 3
 have h4 := hx 4
 have h5 := hx 5
 have h6 := hx 6
 have h7 := hx 7
 rw [Nat.add_zero] at h0
 unfold cIA
 rw [yZ]
 simp only [List.foldl_cons,List.foldl_nil,wZ,ZD]
 generalize b.getD (8 * i) 0 = x0 at *
 generalize b.getD (8 * i + 1) 0 = x1 at *
 generalize b.getD (8 * i + 2) 0 = x2 at *
 generalize b.getD (8 * i + 3) 0 = x3 at *
 generalize b.getD (8 * i + 4) 0 = x4 at *
 generalize b.getD (8 * i + 5) 0 = x5 at *
 generalize b.getD (8 * i + 6) 0 = x6 at *
 generalize b.getD (8 * i + 7) 0 = x7 at *
 have u : ∀ x : Int,IntKind.u64.wrap x = x % 18446744073709551616 := fun x => rfl
 have e0 : (2 : Int) ^ min (8 * ((0 : Nat) : Int)).toNat IntKind.u64.bits = 1 := rfl
 have e1 : (2 : Int) ^ min (8 * ((1 : Nat) : Int)).toNat IntKind.u64.bits = 256 := rfl
 have e2 : (2 : Int) ^ min (8 * ((2 : Nat) : Int)).toNat IntKind.u64.bits = 65536 := rfl
 have e3 : (2 : Int) ^ min (8 * ((3 : Nat) : Int)).toNat IntKind.u64.bits = 16777216 := rfl
 have e4 : (2 : Int) ^ min (8 * ((4 : Nat) : Int)).toNat IntKind.u64.bits = 4294967296 := rfl
 have e5 : (2 : Int) ^ min (8 * ((5 : Nat) : Int)).toNat IntKind.u64.bits = 1099511627776 := rfl
 have e6 : (2 : Int) ^ min (8 * ((6 : Nat) : Int)).toNat IntKind.u64.bits = 281474976710656 := rfl
 have e7 : (2 : Int) ^ min (8 * ((7 : Nat) : Int)).toNat IntKind.u64.bits = 72057594037927936 := rfl
 rw [e0,e1,e2,e3,e4,e5,e6,e7]
 simp only [u]
 clear u e0 e1 e2 e3 e4 e5 e6 e7 hx hb hi
 obtain ⟨t0,b1⟩ := dOA h0
 rw [t0]
 clear t0
 obtain ⟨s1,hs1⟩ : ∃ s1,s1 = x0 := ⟨_,rfl⟩
 rw [← hs1] at b1 ⊢
 obtain ⟨t1,b2⟩ := wNA b1 h1
 rw [t1]
 clear t1
 obtain ⟨s2,hs2⟩ : ∃ s2,s2 = s1 + 256 * x1 := ⟨_,rfl⟩
 rw [← hs2] at b2 ⊢
 obtain ⟨t2,b3⟩ := xNA b2 h2
 rw [t2]
 clear t2
 obtain ⟨s3,hs3⟩ : ∃ s3,s3 = s2 + 65536 * x2 := ⟨_,rfl⟩
 rw [← hs3] at b3 ⊢
 obtain ⟨t3,b4⟩ := yNA b3 h3
 rw [t3]
 clear t3
 obtain ⟨s4,hs4⟩ : ∃ s4,s4 = s3 + 16777216 * x3 := ⟨_,rfl⟩
 rw [← hs4] at b4 ⊢
 obtain ⟨t4,b5⟩ := zNA b4 h4
 rw [t4]
 clear t4
 obtain ⟨s5,hs5⟩ : ∃ s5,s5 = s4 + 4294967296 * x4 := ⟨_,rfl⟩
 rw [← hs5] at b5 ⊢
 obtain ⟨t5,b6⟩ := aOA b5 h5
 rw [t5]
 clear t5
 obtain ⟨s6,hs6⟩ : ∃ s6,s6 = s5 + 1099511627776 * x5 := ⟨_,rfl⟩
 rw [← hs6] at b6 ⊢
 obtain ⟨t6,b7⟩ := bOA b6 h6
 rw [t6]
 clear t6
 obtain ⟨s7,hs7⟩ : ∃ s7,s7 = s6 + 281474976710656 * x6 := ⟨_,rfl⟩
 rw [← hs7] at b7 ⊢
 obtain ⟨t7,b8⟩ := cOA b7 h7
 rw [t7]
 clear t7
 obtain ⟨s8,hs8⟩ : ∃ s8,s8 = s7 + 72057594037927936 * x7 := ⟨_,rfl⟩
 rw [← hs8] at b8 ⊢
 simp only [List.cons.injEq,Zs]
 constructor
 ·intro h
  subst h
  have w7 := hs8
  obtain ⟨r6,g6⟩ : ∃ r6,r6 = x6 + 256 * x7 := ⟨_,rfl⟩
  have w6 := rOA w7 hs7 g6
  obtain ⟨r5,g5⟩ : ∃ r5,r5 = x5 + 256 * r6 := ⟨_,rfl⟩
  have w5 := qOA w6 hs6 g5
  obtain ⟨r4,g4⟩ : ∃ r4,r4 = x4 + 256 * r5 := ⟨_,rfl⟩
  have w4 := pOA w5 hs5 g4
  obtain ⟨r3,g3⟩ : ∃ r3,r3 = x3 + 256 * r4 := ⟨_,rfl⟩
  have w3 := oOA w4 hs4 g3
  obtain ⟨r2,g2⟩ : ∃ r2,r2 = x2 + 256 * r3 := ⟨_,rfl⟩
  have w2 := nOA w3 hs3 g2
  obtain ⟨r1,g1⟩ : ∃ r1,r1 = x1 + 256 * r2 := ⟨_,rfl⟩
  have w1 := mOA w2 hs2 g1
  have w0 : s8 = x0 + 256 * r1 := by rw [← hs1]; exact w1
  refine ⟨hs1.trans (dgd w0 h0).symm,?_,?_,?_,?_,?_,?_,?_⟩
  ·rw [eOA w1 b1]; exact (dgd g1 h1).symm
  ·rw [fOA w2 b2]; exact (dgd g2 h2).symm
  ·rw [gOA w3 b3]; exact (dgd g3 h3).symm
  ·rw [hOA w4 b4]; exact (dgd g4 h4).symm
  ·rw [iOA w5 b5]; exact (dgd g5 h5).symm
  ·rw [jOA w6 b6]; exact (dgd g6 h6).symm
  ·rw [kOA w7 b7]; exact (lOA h7).symm
 ·rintro ⟨a0,a1,a2,a3,a4,a5,a6,a7⟩
  obtain ⟨p1,f1⟩ : ∃ p1,p1 = d / 256 := ⟨_,rfl⟩
  rw [← f1] at a1
  have j1 := f1.symm
  obtain ⟨p2,f2⟩ : ∃ p2,p2 = p1 / 256 := ⟨_,rfl⟩
  have j2 := sOA j1 f2
  rw [j2] at a2
  obtain ⟨p3,f3⟩ : ∃ p3,p3 = p2 / 256 := ⟨_,rfl⟩
  have j3 := tOA j2 f3
  rw [j3] at a3
  obtain ⟨p4,f4⟩ : ∃ p4,p4 = p3 / 256 := ⟨_,rfl⟩
  have j4 := uOA j3 f4
  rw [j4] at a4
  obtain ⟨p5,f5⟩ : ∃ p5,p5 = p4 / 256 := ⟨_,rfl⟩
  have j5 := vOA j4 f5
  rw [j5] at a5
  obtain ⟨p6,f6⟩ : ∃ p6,p6 = p5 / 256 := ⟨_,rfl⟩
  have j6 := wOA j5 f6
  rw [j6] at a6
  obtain ⟨p7,f7⟩ : ∃ p7,p7 = p6 / 256 := ⟨_,rfl⟩
  have j7 := xOA j6 f7
  rw [j7] at a7
  have i0 := yOA a0 f1
  have i1 := zOA i0 a1 f2 hs2
  have i2 := aPA i1 a2 f3 hs3
  have i3 := bPA i2 a3 f4 hs4
  have i4 := cPA i3 a4 f5 hs5
  have i5 := dPA i4 a5 f6 hs6
  have i6 := ePA i5 a6 f7 hs7
  exact fPA i6 b7 hd a7 hs8
end Go.Proofs.Ytldcoekbgfaomaa
end
section
namespace Go.Proofs.Ytldcoekbgfaomaa
open Go.RowKit
set_option maxRecDepth 20000
set_option maxHeartbeats 4000000
attribute [local irreducible] jE oD AW
/-- A message whose numbers are machine words,whose bytes are bytes. -/
def oFA (m : Ms) : Prop := (∀ v ∈ m.vs,xL v) ∧ aW m.body
theorem aP {t : Tr} {m : Ms} (h : ¬ rC t = 0) : pM t m = (.zero,rC t) := if_pos h
theorem bP {t : Tr} {m : Ms} (h : rC t = 0) (h1 : m.kind ≠ 13) : pM t m = (.zero,1) := by rw [pM,if_neg (not_not_intro h),if_pos h1]
theorem cP {t : Tr} {m : Ms} (h : rC t = 0) (h1 : m.kind = 13) (h2 : m.vs.length < 2 ∨ m.vs.length % 2 = 1) : pM t m = (.zero,3) := by rw [pM,if_neg (not_not_intro h),if_neg (not_not_intro h1),if_pos h2]
theorem qM {t : Tr} {m : Ms} (h : rC t = 0) (h1 : m.kind = 13) (h2 : ¬ (m.vs.length < 2 ∨ m.vs.length % 2 = 1)) (h3 : m.vs.getD 0 0 ≠ t.size ∨ m.vs.getD 1 0 ≠ t.leaf) : pM t m = (.zero,22) := by rw [pM,if_neg (not_not_intro h),if_neg (not_not_intro h1),if_neg h2,if_pos h3]
theorem dP {t : Tr} {m : Ms} (h : rC t = 0) (h1 : m.kind = 13) (h2 : ¬ (m.vs.length < 2 ∨ m.vs.length % 2 = 1)) (h3 : ¬ (m.vs.getD 0 0 ≠ t.size ∨ m.vs.getD 1 0 ≠ t.leaf)) (h4 : m.num < 0 ∨ (t.lv.length : Int) ≤ m.num) : pM t m = (.zero,2) := by
 rw [pM,if_neg (not_not_intro h),if_neg (not_not_intro h1),if_neg h2,if_neg h3,if_pos h4]
theorem rM {t : Tr} {m : Ms} (h : rC t = 0) (h1 : m.kind = 13) (h2 : ¬ (m.vs.length < 2 ∨ m.vs.length % 2 = 1)) (h3 : ¬ (m.vs.getD 0 0 ≠ t.size ∨ m.vs.getD 1 0 ≠ t.leaf)) (h4 : ¬ (m.num < 0 ∨ (t.lv.length : Int) ≤ m.num))
  (h5 : ¬ kJ (rE (m.vs.drop 2)) ((t.lv.getD m.num.toNat []).length : Nat) = 0) : pM t m = (.zero,3) := by
 rw [pM,if_neg (not_not_intro h),if_neg (not_not_intro h1),if_neg h2,if_neg h3,if_neg h4,if_pos h5]
theorem uN {t : Tr} {m : Ms} (h : rC t = 0) (h1 : m.kind = 13) (h2 : ¬ (m.vs.length < 2 ∨ m.vs.length % 2 = 1)) (h3 : ¬ (m.vs.getD 0 0 ≠ t.size ∨ m.vs.getD 1 0 ≠ t.leaf)) (h4 : ¬ (m.num < 0 ∨ (t.lv.length : Int) ≤ m.num))
  (h5 : kJ (rE (m.vs.drop 2)) ((t.lv.getD m.num.toNat []).length : Nat) = 0) : pM t m = (⟨14,m.dest,m.frm,m.num,0,0,m.vs,mF (t.lv.getD m.num.toNat []) (cC (rE (m.vs.drop 2)))⟩,0) := by
 rw [pM,if_neg (not_not_intro h),if_neg (not_not_intro h1),if_neg h2,if_neg h3,if_neg h4,if_neg (not_not_intro h5)]
theorem cD (i : Nat) : (i : Int).tmod 2 = ((i % 2 : Nat) : Int) := by
 rw [Int.tmod_eq_emod_of_nonneg (by omega)]; omega
theorem k87 (l : List Int) (x : P1) (hx : x = gG (l.drop 2)) : ACalls Try.prog 87 [.p x,.p (i64 2)] (.p (.clo 113 [gG (l.drop 2),i64 2])) := hx ▸ c87 (l.drop 2) 2 (by omega)
theorem uX (l : List Int) (h : 2 ≤ l.length) : P1.sl (l.length - 2) (((l.map i64).drop 2).take (l.length - 2)) = gG (l.drop 2) := by
 rw [List.take_of_length_le (by simp),← List.map_drop,gG,List.length_drop]
theorem gZ {l : List Int} {k : Nat} (h : 2 * k + 1 < l.length) : (sJ l 2 k).length = 2 := by
 unfold sJ
 rw [List.length_take,List.length_drop]
 omega
theorem bBA {l : List Int} {k : Nat} (h : 2 * k + 1 < l.length) : (sJ l 2 k).getD 0 0 = l.getD (2 * k) 0 ∧ (sJ l 2 k).getD 1 0 = l.getD (2 * k + 1) 0 := by
 unfold sJ
 constructor
 ·rw [List.getD_eq_getElem?_getD,List.getElem?_take,if_pos (by omega),List.getElem?_drop,Nat.mul_comm k 2,List.getD_eq_getElem?_getD]
  rfl
 ·rw [List.getD_eq_getElem?_getD,List.getElem?_take,if_pos (by omega),List.getElem?_drop,Nat.mul_comm k 2,List.getD_eq_getElem?_getD]
theorem bW {n : Nat} (h : n % 2 = 0) : yD n 2 = n / 2 := by unfold yD; omega
theorem cBA : Int.toNat 2 = 2 := rfl
end Go.Proofs.Ytldcoekbgfaomaa
end
