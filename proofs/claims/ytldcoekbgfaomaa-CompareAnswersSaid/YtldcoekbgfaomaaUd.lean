/- The walks of the code that the statement reaches, and the plain laws behind them, part Ud. No conditions. -/
import Derived.Test.YtldcoekbgfaomaaUc
set_option linter.unusedVariables false
set_option linter.unusedSimpArgs false
section
namespace Go.Proofs.Ytldcoekbgfaomaa
open Go.RowKit
set_option maxRecDepth 20000
set_option maxHeartbeats 4000000
attribute [local irreducible] kE sD AW
theorem c59 (s f d : Int) (h1 : uP s) (h2 : uP f) (h3 : uP d) : ACalls Try.prog 59 [.p (i64 s),.p (i64 f),.p (i64 d)] (.tup [.p (i64 (iI s f d).1),.p (i64 (iI s f d).2)]) := by
 refine wC oC Try.func59 (c := _) rfl (by kernel_rfl) ?_
 intro X hP hX hro hpl
 have hb : tb.Ok X.P := hP ▸ oC
 change AW X _ _ ⟨[],[.p (i64 s),.p (i64 f),.p (i64 d),.any,.any,.any,.any,.any,.any,.any,.any,.any,.any,.any,.any,.any,.any,.any,.any,.any,.any,.any,.any,.any,.any,.any,.any,.any,.any,.any,.any,.any,.any,.any,.any,.any,.any,.any,.any,.any,.any,.any,.any,.any,.any,.any,.any,.any,.any,.any,.any],[],[]⟩
 refine cA ?_
 refine gA hX hb [0,1] rfl (σ' := ?s1) (fun K hK => ?h1) ?n1
 case h1 =>
  iterate 2 (refine kA rfl (by simp (disch := omega) only [iA,aA,qop,fop,St.ev,St.put,cd,zd,Value.oneCell',lA,TypeDesc.aggB,Z0,kD,ne_eq,not_true_eq_false,not_false_eq_true,rA,aF] <;> exact rfl) ?_)
  refine bA ?_
  exact hK
 refine jA ?_
 refine cA ?_
 refine cA ?_
 refine vE hX hb [0,1,2,3,4,5] rfl (ts := [11,12,13,14,15]) (t := 16) (d := .p (bv (s < 1 ∨ 4096 < s))) (σ' := ?s2) ?j2 ?h2 ?n2
 case j2 => simp only [St.join,List.foldl,Za,Zb]; exact rfl
 case h2 =>
  iterate 3 (all_goals refine kA rfl (by simp (disch := omega) only [iA,aA,qop,fop,St.ev,St.put,cd,zd,Value.oneCell',lA,TypeDesc.aggB,Z0,cB,iop,tt,kD,ne_eq,not_true_eq_false,not_false_eq_true,rA,aF] <;> exact rfl) ?_)
  iterate 2 (all_goals first | (refine lC rfl rfl rfl (by simp (disch := omega) only [iA,aA,qop,fop,St.ev,St.put,cd,zd,Value.oneCell',lA,TypeDesc.aggB,Z0,cB,iop,tt,kD,ne_eq,not_true_eq_false,not_false_eq_true,rA,aF] <;> exact rfl) ?_) | (first | (refine eC rfl rfl rfl (by simp only [St.put,Za,Zb] <;> exact rfl) ?_) | (refine fC rfl rfl rfl (by simp only [St.put,Za,Zb] <;> exact rfl) ?_)) | (refine cC rfl rfl rfl (by simp only [Za,Zb] <;> exact rfl) (by simp only [Za,Zb] <;> exact rfl) (fun hg => ?_) (fun hg => ?_) <;> (try simp only [Zp,Zi,ZJ,ZK,ne_eq,Zn,Zm,Bool.not_eq_true,Zu] at hg) <;> first | (refine lC rfl rfl rfl (by simp (disch := omega) only [iA,aA,qop,fop,St.ev,St.put,cd,zd,Value.oneCell',lA,TypeDesc.aggB,Z0,cB,iop,tt,kD,ne_eq,not_true_eq_false,not_false_eq_true,rA,aF] <;> exact rfl) ?_) | (first | (refine eC rfl rfl rfl (by simp only [St.put,Za,Zb] <;> exact rfl) ?_) | (refine fC rfl rfl rfl (by simp only [St.put,Za,Zb] <;> exact rfl) ?_))))
  (all_goals refine kA rfl (by simp (disch := omega) only [iA,aA,qop,fop,St.ev,St.put,cd,zd,Value.oneCell',lA,TypeDesc.aggB,Z0,cB,iop,tt,kD,ne_eq,not_true_eq_false,not_false_eq_true,rA,aF] <;> exact rfl) ?_)
  all_goals refine bA ?_
  all_goals refine ⟨rfl,?_,xD _,yD _,rfl,rfl⟩
  all_goals repeat' (first | exact sA | refine mB ?_ | refine vA rfl ?_ | refine vA ?_ ?_)
  all_goals refine jn ?_
  all_goals ((try simp only [Zp,Zi,ZJ,ZK,Bool.not_eq_true,Zm,Zn,ne_eq,Zf,true_iff,false_iff,iff_true,iff_false] at *) <;> omega)
 refine jA ?_
 refine oB _ rfl (fun hc0 => ?_) (fun hc0 => ?_)
 ·try simp only [Zp,Zi,ZK,ZJ,ne_eq,Zn,Zm,ZB,ZA,ZI,not_or,not_and,Zu] at hc0
  refine cA ?_
  refine gA hX hb [0,1] rfl (σ' := ?s3) (fun K hK => ?h3) ?n3
  case h3 =>
   iterate 2 (refine kA rfl (by simp (disch := omega) only [iA,aA,qop,fop,St.ev,St.put,cd,zd,Value.oneCell',lA,TypeDesc.aggB,Z0,t2,ti2,kD,ne_eq,not_true_eq_false,not_false_eq_true,rA,aF] <;> exact rfl) ?_)
   refine bA ?_
   exact hK
  refine jA ?_
  refine bC ?_
  refine tC ?_
  exact zC rfl (oE rfl rfl (by first | rfl | (first | (rw [iI,if_pos hc0] <;> rfl) | (rw [iI,if_neg (by omega),if_pos hc1] <;> rfl) | (rw [iI,if_neg (by omega),if_neg (by omega),if_pos (by rw [Int.toNat_natCast,Int.toNat_natCast]; exact hc2)] <;> rfl) | (rw [iI,if_neg (by omega),if_neg (by omega),if_neg (by rw [Int.toNat_natCast,Int.toNat_natCast]; omega),Int.toNat_natCast,Int.toNat_natCast,Int.toNat_natCast,← hq,rJ (by omega)] <;> rfl))))
 ·try simp only [Zp,Zi,ZK,ZJ,ne_eq,Zn,Zm,ZB,ZA,ZI,not_or,not_and,Zu] at hc0
  refine uB ?_
  refine jA ?_
  refine cA ?_
  refine cA ?_
  refine vE hX hb [0,1,2,3,4,5] rfl (ts := [17,18,19,20,21]) (t := 22) (d := .p (bv (f < 1 ∨ 4096 < f))) (σ' := ?s4) ?j4 ?h4 ?n4
  case j4 => simp only [St.join,List.foldl,Za,Zb]; exact rfl
  case h4 =>
   iterate 3 (all_goals refine kA rfl (by simp (disch := omega) only [iA,aA,qop,fop,St.ev,St.put,cd,zd,Value.oneCell',lA,TypeDesc.aggB,Z0,cB,iop,tt,kD,ne_eq,not_true_eq_false,not_false_eq_true,rA,aF] <;> exact rfl) ?_)
   iterate 2 (all_goals first | (refine lC rfl rfl rfl (by simp (disch := omega) only [iA,aA,qop,fop,St.ev,St.put,cd,zd,Value.oneCell',lA,TypeDesc.aggB,Z0,cB,iop,tt,kD,ne_eq,not_true_eq_false,not_false_eq_true,rA,aF] <;> exact rfl) ?_) | (first | (refine eC rfl rfl rfl (by simp only [St.put,Za,Zb] <;> exact rfl) ?_) | (refine fC rfl rfl rfl (by simp only [St.put,Za,Zb] <;> exact rfl) ?_)) | (refine cC rfl rfl rfl (by simp only [Za,Zb] <;> exact rfl) (by simp only [Za,Zb] <;> exact rfl) (fun hg => ?_) (fun hg => ?_) <;> (try simp only [Zp,Zi,ZJ,ZK,ne_eq,Zn,Zm,Bool.not_eq_true,Zu] at hg) <;> first | (refine lC rfl rfl rfl (by simp (disch := omega) only [iA,aA,qop,fop,St.ev,St.put,cd,zd,Value.oneCell',lA,TypeDesc.aggB,Z0,cB,iop,tt,kD,ne_eq,not_true_eq_false,not_false_eq_true,rA,aF] <;> exact rfl) ?_) | (first | (refine eC rfl rfl rfl (by simp only [St.put,Za,Zb] <;> exact rfl) ?_) | (refine fC rfl rfl rfl (by simp only [St.put,Za,Zb] <;> exact rfl) ?_))))
   (all_goals refine kA rfl (by simp (disch := omega) only [iA,aA,qop,fop,St.ev,St.put,cd,zd,Value.oneCell',lA,TypeDesc.aggB,Z0,cB,iop,tt,kD,ne_eq,not_true_eq_false,not_false_eq_true,rA,aF] <;> exact rfl) ?_)
   all_goals refine bA ?_
   all_goals refine ⟨rfl,?_,xD _,yD _,rfl,rfl⟩
   all_goals repeat' (first | exact sA | refine mB ?_ | refine vA rfl ?_ | refine vA ?_ ?_)
   all_goals refine jn ?_
   all_goals ((try simp only [Zp,Zi,ZJ,ZK,Bool.not_eq_true,Zm,Zn,ne_eq,Zf,true_iff,false_iff,iff_true,iff_false] at *) <;> omega)
  refine jA ?_
  refine oB _ rfl (fun hc1 => ?_) (fun hc1 => ?_)
  ·try simp only [Zp,Zi,ZK,ZJ,ne_eq,Zn,Zm,ZB,ZA,ZI,not_or,not_and,Zu] at hc1
   refine cA ?_
   refine gA hX hb [0,1] rfl (σ' := ?s5) (fun K hK => ?h5) ?n5
   case h5 =>
    iterate 2 (refine kA rfl (by simp (disch := omega) only [iA,aA,qop,fop,St.ev,St.put,cd,zd,Value.oneCell',lA,TypeDesc.aggB,Z0,t1,ti1,kD,ne_eq,not_true_eq_false,not_false_eq_true,rA,aF] <;> exact rfl) ?_)
    refine bA ?_
    exact hK
   refine jA ?_
   refine bC ?_
   refine tC ?_
   exact zC rfl (oE rfl rfl (by first | rfl | (first | (rw [iI,if_pos hc0] <;> rfl) | (rw [iI,if_neg (by omega),if_pos hc1] <;> rfl) | (rw [iI,if_neg (by omega),if_neg (by omega),if_pos (by rw [Int.toNat_natCast,Int.toNat_natCast]; exact hc2)] <;> rfl) | (rw [iI,if_neg (by omega),if_neg (by omega),if_neg (by rw [Int.toNat_natCast,Int.toNat_natCast]; omega),Int.toNat_natCast,Int.toNat_natCast,Int.toNat_natCast,← hq,rJ (by omega)] <;> rfl))))
  ·try simp only [Zp,Zi,ZK,ZJ,ne_eq,Zn,Zm,ZB,ZA,ZI,not_or,not_and,Zu] at hc1
   obtain ⟨S,hS⟩ : ∃ S : Nat,s = S := ⟨s.toNat,by omega⟩
   subst hS
   obtain ⟨F,hF⟩ : ∃ F : Nat,f = F := ⟨f.toNat,by omega⟩
   subst hF
   have hnl := pJ (s := S) (n := F) (by omega)
   have hqi : ((S : Int) + (F : Int) - 1) / (F : Int) = (wD S F : Int) := by rw [← fV,show ((S + F - 1 : Nat) : Int) = (S : Int) + F - 1 by omega]
   refine uB ?_
   refine jA ?_
   refine cA ?_
   refine gA hX hb [0,1,2,3,4,5,6] rfl (σ' := ?s6) (fun K hK => ?h6) ?n6
   case h6 =>
    iterate 7 (refine kA rfl (by simp (disch := omega) only [iA,aA,qop,fop,St.ev,St.put,cd,zd,Value.oneCell',lA,TypeDesc.aggB,Z0,cB,iop,tt,kD,ne_eq,not_true_eq_false,not_false_eq_true,rA,aF,hqi] <;> exact rfl) ?_)
    refine bA ?_
    exact hK
   refine jA ?_
   refine cA ?_
   refine cA ?_
   refine vE hX hb [0,1,2,3,4,5,6] rfl (ts := [29,30,31,32,33,34]) (t := 35) (d := .p (bv (d < 0 ∨ (wD S F : Int) < d))) (σ' := ?s7) ?j7 ?h7 ?n7
   case j7 => simp only [St.join,List.foldl,Za,Zb]; exact rfl
   case h7 =>
    iterate 3 (all_goals refine kA rfl (by simp (disch := omega) only [iA,aA,qop,fop,St.ev,St.put,cd,zd,Value.oneCell',lA,TypeDesc.aggB,Z0,cB,iop,tt,kD,ne_eq,not_true_eq_false,not_false_eq_true,rA,aF] <;> exact rfl) ?_)
    iterate 3 (all_goals first | (refine lC rfl rfl rfl (by simp (disch := omega) only [iA,aA,qop,fop,St.ev,St.put,cd,zd,Value.oneCell',lA,TypeDesc.aggB,Z0,cB,iop,tt,kD,ne_eq,not_true_eq_false,not_false_eq_true,rA,aF] <;> exact rfl) ?_) | (first | (refine eC rfl rfl rfl (by simp only [St.put,Za,Zb] <;> exact rfl) ?_) | (refine fC rfl rfl rfl (by simp only [St.put,Za,Zb] <;> exact rfl) ?_)) | (refine cC rfl rfl rfl (by simp only [Za,Zb] <;> exact rfl) (by simp only [Za,Zb] <;> exact rfl) (fun hg => ?_) (fun hg => ?_) <;> (try simp only [Zp,Zi,ZJ,ZK,ne_eq,Zn,Zm,Bool.not_eq_true,Zu] at hg) <;> first | (refine lC rfl rfl rfl (by simp (disch := omega) only [iA,aA,qop,fop,St.ev,St.put,cd,zd,Value.oneCell',lA,TypeDesc.aggB,Z0,cB,iop,tt,kD,ne_eq,not_true_eq_false,not_false_eq_true,rA,aF] <;> exact rfl) ?_) | (first | (refine eC rfl rfl rfl (by simp only [St.put,Za,Zb] <;> exact rfl) ?_) | (refine fC rfl rfl rfl (by simp only [St.put,Za,Zb] <;> exact rfl) ?_))))
    (all_goals refine kA rfl (by simp (disch := omega) only [iA,aA,qop,fop,St.ev,St.put,cd,zd,Value.oneCell',lA,TypeDesc.aggB,Z0,cB,iop,tt,kD,ne_eq,not_true_eq_false,not_false_eq_true,rA,aF] <;> exact rfl) ?_)
    all_goals refine bA ?_
    all_goals refine ⟨rfl,?_,xD _,yD _,rfl,rfl⟩
    all_goals repeat' (first | exact sA | refine mB ?_ | refine vA rfl ?_ | refine vA ?_ ?_)
    all_goals refine jn ?_
    all_goals ((try simp only [Zp,Zi,ZJ,ZK,Bool.not_eq_true,Zm,Zn,ne_eq,Zf,true_iff,false_iff,iff_true,iff_false] at *) <;> omega)
   refine jA ?_
   refine oB _ rfl (fun hc2 => ?_) (fun hc2 => ?_)
   ·try simp only [Zp,Zi,ZK,ZJ,ne_eq,Zn,Zm,ZB,ZA,ZI,not_or,not_and,Zu] at hc2
    refine cA ?_
    refine gA hX hb [0,1] rfl (σ' := ?s8) (fun K hK => ?h8) ?n8
    case h8 =>
     iterate 2 (refine kA rfl (by simp (disch := omega) only [iA,aA,qop,fop,St.ev,St.put,cd,zd,Value.oneCell',lA,TypeDesc.aggB,Z0,t2,ti2,kD,ne_eq,not_true_eq_false,not_false_eq_true,rA,aF] <;> exact rfl) ?_)
     refine bA ?_
     exact hK
    refine jA ?_
    refine bC ?_
    refine tC ?_
    exact zC rfl (oE rfl rfl (by first | rfl | (first | (rw [iI,if_pos hc0] <;> rfl) | (rw [iI,if_neg (by omega),if_pos hc1] <;> rfl) | (rw [iI,if_neg (by omega),if_neg (by omega),if_pos (by rw [Int.toNat_natCast,Int.toNat_natCast]; exact hc2)] <;> rfl) | (rw [iI,if_neg (by omega),if_neg (by omega),if_neg (by rw [Int.toNat_natCast,Int.toNat_natCast]; omega),Int.toNat_natCast,Int.toNat_natCast,Int.toNat_natCast,← hq,rJ (by omega)] <;> rfl))))
   ·try simp only [Zp,Zi,ZK,ZJ,ne_eq,Zn,Zm,ZB,ZA,ZI,not_or,not_and,Zu] at hc2
    obtain ⟨dd,hd⟩ : ∃ dd : Nat,d = dd := ⟨d.toNat,by omega⟩
    subst hd
    have hbl := fX dd _ (wD S F) (Nat.le_refl _)
    refine uB ?_
    refine jA ?_
    refine cA ?_
    refine gA hX hb [0] rfl (σ' := ?s9) (fun K hK => ?h9) ?n9
    case h9 =>
     (refine kA rfl (by simp (disch := omega) only [iA,aA,qop,fop,St.ev,St.put,cd,zd,Value.oneCell',lA,TypeDesc.aggB,Z0,t1,ti1,kD,ne_eq,not_true_eq_false,not_false_eq_true,rA,aF] <;> exact rfl) ?_)
     refine bA ?_
     exact hK
    refine jA ?_
    refine cA ?_
    refine tB ?_
    refine rD (ι := Nat × Nat) (fun p => p.1 ≤ 4096 ∧ p.2 + wM dd p.1 = 1 + wM dd (wD S F)) (fun p => ⟨[],[.any,.any,.p (i64 dd),.any,.any,.any,.any,.any,.p (i64 p.1),.p (i64 p.2),.any,.any,.any,.any,.any,.any,.any,.any,.any,.any,.any,.any,.any,.any,.any,.any,.any,.any,.any,.any,.any,.any,.any,.any,.any,.any,.any,.any,.any,.any,.any,.any,.any,.any,.any,.any,.any,.any,.any,.any,.any],[],[]⟩) (fun p => p.1) (wD S F,1) (by exact ⟨by dsimp only; omega,rfl⟩) (rC ⟨rfl,(by repeat first | exact sA | refine mB ?_ | refine vA (by first | rfl | (refine congrArg (fun k => D.p (i64 k)) ?_; dsimp only; omega)) ?_),(xB _),(yB _),rfl,rfl⟩) ?_
    rintro ⟨N,q⟩ ⟨hN,hq⟩
    dsimp only at hN hq ⊢
    refine cA ?_
    refine cA ?_
    refine gA hX hb [0,1] rfl (σ' := ?s10) (fun K hK => ?h10) ?n10
    case h10 =>
     iterate 2 (refine kA rfl (by simp (disch := omega) only [iA,aA,qop,fop,St.ev,St.put,cd,zd,Value.oneCell',lA,TypeDesc.aggB,Z0,cB,iop,tt,kD,ne_eq,not_true_eq_false,not_false_eq_true,rA,aF] <;> exact rfl) ?_)
     refine bA ?_
     exact hK
    refine jA ?_
    refine oB _ rfl (fun hc3 => ?_) (fun hc3 => ?_)
    ·try simp only [Zp,Zi,ZK,ZJ,ne_eq,Zn,Zm,ZB,ZA,ZI,not_or,not_and,Zu] at hc3
     refine uB ?_
     refine jA ?_
     refine tB ?_
     refine cA ?_
     refine gA hX hb [0,1,2,3] rfl (σ' := ?s11) (fun K hK => ?h11) ?n11
     case h11 =>
      iterate 4 (refine kA rfl (by simp (disch := omega) only [iA,aA,qop,fop,St.ev,St.put,cd,zd,Value.oneCell',lA,TypeDesc.aggB,Z0,cB,iop,tt,kD,ne_eq,not_true_eq_false,not_false_eq_true,rA,aF] <;> exact rfl) ?_)
      refine bA ?_
      exact hK
     refine jA ?_
     refine cA ?_
     refine gA hX hb [0,1,2,3,4,5,6,7,8] rfl (σ' := ?s12) (fun K hK => ?h12) ?n12
     case h12 =>
      iterate 9 (refine kA rfl (by simp (disch := omega) only [iA,aA,qop,fop,St.ev,St.put,cd,zd,Value.oneCell',lA,TypeDesc.aggB,Z0,aF,cB,iop,tt,kD,ne_eq,not_true_eq_false,not_false_eq_true,rA] <;> exact rfl) ?_)
      refine bA ?_
      exact hK
     refine jA ?_
     refine gA hX hb [0,1] rfl (σ' := ?s13) (fun K hK => ?h13) ?n13
     case h13 =>
      iterate 2 (refine kA rfl (by simp (disch := omega) only [iA,aA,qop,fop,St.ev,St.put,cd,zd,Value.oneCell',lA,TypeDesc.aggB,Z0,kD,ne_eq,not_true_eq_false,not_false_eq_true,rA,aF] <;> exact rfl) ?_)
      refine bA ?_
      exact hK
     refine cE ?_
     refine jA ?_
     exact ⟨((N + 1) / 2,q + min N (2 * min dd ((N + 1) / 2))),by refine ⟨by dsimp only; omega,?_⟩; (dsimp only; rw [sJ (by omega)] at hq; omega),by (try dsimp only); omega,rC ⟨rfl,(by repeat first | exact sA | refine mB ?_ | refine vA (by first | rfl | (refine congrArg (fun k => D.p (i64 k)) ?_; dsimp only; omega)) ?_),(xB _),(yB _),rfl,rfl⟩⟩
    ·try simp only [Zp,Zi,ZK,ZJ,ne_eq,Zn,Zm,ZB,ZA,ZI,not_or,not_and,Zu] at hc3
     refine oD ?_
     refine fD ?_
     refine fD ?_
     refine zE ?_
     refine jA ?_
     refine cA ?_
     refine gA hX hb [0,1,2] rfl (σ' := ?s14) (fun K hK => ?h14) ?n14
     case h14 =>
      iterate 3 (refine kA rfl (by simp (disch := omega) only [iA,aA,qop,fop,St.ev,St.put,cd,zd,Value.oneCell',lA,TypeDesc.aggB,Z0,tt,kD,ne_eq,not_true_eq_false,not_false_eq_true,rA,aF] <;> exact rfl) ?_)
      refine bA ?_
      exact hK
     refine jA ?_
     refine bC ?_
     exact zC rfl (oE rfl rfl (by first | rfl | (first | (rw [iI,if_pos hc0] <;> rfl) | (rw [iI,if_neg (by omega),if_pos hc1] <;> rfl) | (rw [iI,if_neg (by omega),if_neg (by omega),if_pos (by rw [Int.toNat_natCast,Int.toNat_natCast]; exact hc2)] <;> rfl) | (rw [iI,if_neg (by omega),if_neg (by omega),if_neg (by rw [Int.toNat_natCast,Int.toNat_natCast]; omega),Int.toNat_natCast,Int.toNat_natCast,Int.toNat_natCast,← hq,rJ (by omega)] <;> rfl))))
theorem c85 (es : List (Int × Int)) (n : Int) (hin : mS es) (hn64 : uP n) : ACalls Try.prog 85 [.p (gD es),.p (i64 n)] (.p (i64 (fJ es n))) := by
 refine wC oC Try.func85 (c := _) rfl (by kernel_rfl) ?_
 intro X hP hX hro hpl
 have hb : tb.Ok X.P := hP ▸ oC
 change AW X _ _ ⟨[],[.p (gD es),.p (i64 n),.any,.any,.any,.any,.any,.any,.any,.any,.any,.any,.any,.any,.any,.any,.any,.any,.any,.any,.any,.any,.any,.any,.any,.any,.any,.any,.any,.any,.any,.any,.any,.any,.any,.any,.any,.any,.any,.any,.any,.any,.any,.any,.any,.any,.any,.any,.any],[],[]⟩
 refine jI (t := 0) rfl fun hl => ?_
 unfold maxLen at hl
 refine cA ?_
 refine gA hX hb [0] rfl (σ' := ?s1) (fun K hK => ?h1) ?n1
 case h1 =>
  (refine kA rfl (by simp (disch := omega) only [iA,aA,qop,fop,St.ev,St.put,cd,zd,Value.oneCell',lA,TypeDesc.aggB,Z0,Z2] <;> exact rfl) ?_)
  refine bA ?_
  exact hK
 refine jA ?_
 refine cA ?_
 refine cA ?_
 refine vE hX hb [0,1,2,3,4,5] rfl (ts := [8,9,10,11,12]) (t := 13) (d := .p (bv (n < 0 ∨ 4096 < n))) (σ' := ?s2) ?j2 ?h2 ?n2
 case j2 => simp only [St.join,List.foldl,Za,Zb]; exact rfl
 case h2 =>
  iterate 3 (all_goals refine kA rfl (by simp (disch := omega) only [iA,aA,qop,fop,St.ev,St.put,cd,zd,Value.oneCell',lA,TypeDesc.aggB,Z0,cB,iop,tt,Z2] <;> exact rfl) ?_)
  iterate 2 (all_goals first | (refine lC rfl rfl rfl (by simp (disch := omega) only [iA,aA,qop,fop,St.ev,St.put,cd,zd,Value.oneCell',lA,TypeDesc.aggB,Z0,cB,iop,tt,Z2] <;> exact rfl) ?_) | (first | (refine eC rfl rfl rfl (by simp only [St.put,Za,Zb] <;> exact rfl) ?_) | (refine fC rfl rfl rfl (by simp only [St.put,Za,Zb] <;> exact rfl) ?_)) | (refine cC rfl rfl rfl (by simp only [Za,Zb] <;> exact rfl) (by simp only [Za,Zb] <;> exact rfl) (fun hg => ?_) (fun hg => ?_) <;> (try simp only [Zp,Zi,ZJ,ZK,ne_eq,Zn,Zm,Bool.not_eq_true,Zu] at hg) <;> first | (refine lC rfl rfl rfl (by simp (disch := omega) only [iA,aA,qop,fop,St.ev,St.put,cd,zd,Value.oneCell',lA,TypeDesc.aggB,Z0,cB,iop,tt,Z2] <;> exact rfl) ?_) | (first | (refine eC rfl rfl rfl (by simp only [St.put,Za,Zb] <;> exact rfl) ?_) | (refine fC rfl rfl rfl (by simp only [St.put,Za,Zb] <;> exact rfl) ?_))))
  (all_goals refine kA rfl (by simp (disch := omega) only [iA,aA,qop,fop,St.ev,St.put,cd,zd,Value.oneCell',lA,TypeDesc.aggB,Z0,cB,iop,tt,Z2] <;> exact rfl) ?_)
  all_goals refine bA ?_
  all_goals refine ⟨rfl,?_,xD _,yD _,rfl,rfl⟩
  all_goals repeat' (first | exact sA | refine mB ?_ | refine vA rfl ?_ | refine vA ?_ ?_)
  all_goals refine jn ?_
  all_goals ((try simp only [Zp,Zi,ZJ,ZK,Bool.not_eq_true,Zm,Zn,ne_eq,Zf,true_iff,false_iff,iff_true,iff_false] at *) <;> omega)
 refine jA ?_
 refine oB _ rfl (fun hc0 => ?_) (fun hc0 => ?_)
 ·try simp only [Zp,Zi,ZK,ZJ,ne_eq,Zn,Zm,ZB,ZA,ZI,not_or,not_and,Zu] at hc0
  refine cA ?_
  refine gA hX hb [0] rfl (σ' := ?s3) (fun K hK => ?h3) ?n3
  case h3 =>
   (refine kA rfl (by simp (disch := omega) only [iA,aA,qop,fop,St.ev,St.put,cd,zd,Value.oneCell',lA,TypeDesc.aggB,Z0,t2,ti2,Z2] <;> exact rfl) ?_)
   refine bA ?_
   exact hK
  refine jA ?_
  refine bC ?_
  refine tC ?_
  exact zC rfl (zB rfl (by first | rfl | (first | exact congrArg (fun k => D.p (i64 k)) (sL hc0).symm | exact congrArg (fun k => D.p (i64 k)) ((fE (by omega)).trans (hg.trans (fO (by omega) hc2))).symm | exact congrArg (fun k => D.p (i64 k)) ((fE (by omega)).trans (hg.trans (gO (by omega) hc2 hc3))).symm | exact congrArg (fun k => D.p (i64 k)) ((fE (by omega)).trans (hg.trans (iO (by omega) hc2 (by omega) hc4))).symm | exact congrArg (fun k => D.p (i64 k)) ((fE (by omega)).trans (hg.trans (jO (by omega)))).symm)))
 ·try simp only [Zp,Zi,ZK,ZJ,ne_eq,Zn,Zm,ZB,ZA,ZI,not_or,not_and,Zu] at hc0
  refine uB ?_
  refine jA ?_
  refine cA ?_
  refine gA hX hb [0] rfl (σ' := ?s4) (fun K hK => ?h4) ?n4
  case h4 =>
   (refine kA rfl (by simp (disch := omega) only [iA,aA,qop,fop,St.ev,St.put,cd,zd,Value.oneCell',lA,TypeDesc.aggB,Z0,Z2] <;> exact rfl) ?_)
   refine bA ?_
   exact hK
  refine jA ?_
  refine cA ?_
  refine cA ?_
  refine gA hX hb [0,1,2] rfl (σ' := ?s5) (fun K hK => ?h5) ?n5
  case h5 =>
   iterate 3 (refine kA rfl (by simp (disch := omega) only [iA,aA,qop,fop,St.ev,St.put,cd,zd,Value.oneCell',lA,TypeDesc.aggB,Z0,vC,tt,Z2] <;> exact rfl) ?_)
   refine bA ?_
   exact hK
  refine jA ?_
  refine tB ?_
  refine rD (ι := Nat × Int) (fun p => p.1 ≤ es.length ∧ 0 ≤ p.2 ∧ p.2 ≤ 4097 ∧ xGo n 0 es = xGo n p.2 (es.drop p.1)) (fun p => ⟨[],[.p (gD es),.p (i64 n),.any,.any,.any,.p (i64 p.2),.any,.any,.any,.any,.any,.any,.any,.any,.p (gD es),.p (i64 es.length),.p (i64 p.1),.any,.any,.any,.any,.any,.any,.any,.any,.any,.any,.any,.any,.any,.any,.any,.any,.any,.any,.any,.any,.any,.any,.any,.any,.any,.any,.any,.any,.any,.any,.any,.any],[],[]⟩) (fun p => es.length - p.1) (0,0) (by exact ⟨Nat.zero_le _,by decide,by decide,rfl⟩) (rC ⟨rfl,(by repeat first | exact sA | refine mB ?_ | refine vA rfl ?_),(xB _),(yB _),rfl,rfl⟩) ?_
  rintro ⟨i,b⟩ ⟨hi,hb1,hb2,hg⟩
  dsimp only at hi hb1 hb2 hg ⊢
  refine cA ?_
  refine gA hX hb [0] rfl (σ' := ?s6) (fun K hK => ?h6) ?n6
  case h6 =>
   (refine kA rfl (by simp (disch := omega) only [iA,aA,qop,fop,St.ev,St.put,cd,zd,Value.oneCell',lA,TypeDesc.aggB,Z0,cB,iop,t3,ti3,Z2] <;> exact rfl) ?_)
   refine bA ?_
   exact hK
  refine jA ?_
  refine cA ?_
  refine oB _ rfl (fun hc1 => ?_) (fun hc1 => ?_)
  ·try simp only [Zp,Zi,ZK,ZJ,ne_eq,Zn,Zm,ZB,ZA,ZI,not_or,not_and,Zu] at hc1
   have hei := eX hin (show i < es.length by omega)
   refine uB ?_
   refine jA ?_
   refine cA ?_
   refine tB ?_
   refine cA ?_
   refine gA hX hb [0,1,2,3] rfl (σ' := ?s7) (fun K hK => ?h7) ?n7
   case h7 =>
    iterate 4 (refine kA rfl (by simp (disch := omega) only [iA,aA,qop,fop,St.ev,St.put,cd,zd,Value.oneCell',lA,TypeDesc.aggB,Z0,Int.toNat_zero,Int.toNat_one,xA,yA,wA,ZO,Nat.mul_one,ZC,Nat.zero_mul,Zh,Z1,pA,qA,tA,eA,D.pure?,ZD,ZM,ZL,ZG,ZH,St.addBox,Value.cells,iC,D.boxCells,D.live,D.cells?,ZN,St.setVec,tt,Z2] <;> exact rfl) ?_)
    refine bA ?_
    exact hK
   refine jA ?_
   refine cA ?_
   refine tB ?_
   refine cA ?_
   refine gA hX hb [0,1,2,3] rfl (σ' := ?s8) (fun K hK => ?h8) ?n8
   case h8 =>
    iterate 4 (refine kA rfl (by simp (disch := omega) only [iA,aA,qop,fop,St.ev,St.put,cd,zd,Value.oneCell',lA,TypeDesc.aggB,Z0,fA,oA,Z1,pA,qA,tA,eA,D.pure?,ZC,ZD,cB,iop,tt,Z2] <;> exact rfl) ?_)
    refine bA ?_
    exact hK
   refine jA ?_
   refine oB _ rfl (fun hc2 => ?_) (fun hc2 => ?_)
   ·try simp only [Zp,Zi,ZK,ZJ,ne_eq,Zn,Zm,ZB,ZA,ZI,not_or,not_and,Zu] at hc2
    refine cA ?_
    refine gA hX hb [0] rfl (σ' := ?s9) (fun K hK => ?h9) ?n9
    case h9 =>
     (refine kA rfl (by simp (disch := omega) only [iA,aA,qop,fop,St.ev,St.put,cd,zd,Value.oneCell',lA,TypeDesc.aggB,Z0,t1,ti1,Z2] <;> exact rfl) ?_)
     refine bA ?_
     exact hK
    refine jA ?_
    refine bC ?_
    refine xE ?_
    refine tC ?_
    refine xE ?_
    refine tC ?_
    refine tC ?_
    refine xE ?_
    refine tC ?_
    exact zC rfl (zB rfl (by first | rfl | (first | exact congrArg (fun k => D.p (i64 k)) (sL hc0).symm | exact congrArg (fun k => D.p (i64 k)) ((fE (by omega)).trans (hg.trans (fO (by omega) hc2))).symm | exact congrArg (fun k => D.p (i64 k)) ((fE (by omega)).trans (hg.trans (gO (by omega) hc2 hc3))).symm | exact congrArg (fun k => D.p (i64 k)) ((fE (by omega)).trans (hg.trans (iO (by omega) hc2 (by omega) hc4))).symm | exact congrArg (fun k => D.p (i64 k)) ((fE (by omega)).trans (hg.trans (jO (by omega)))).symm)))
   ·try simp only [Zp,Zi,ZK,ZJ,ne_eq,Zn,Zm,ZB,ZA,ZI,not_or,not_and,Zu] at hc2
    refine cA ?_
    refine vE hX hb [0,1,2,3,4,5,6,7,8,9,10,11,12] rfl (ts := [25,26,27,28,29,30,31,32,33,34,35,36]) (t := 24) (d := .p (bv ((es.getD i (0,0)).1 < 0 ∨ n - (es.getD i (0,0)).1 < (es.getD i (0,0)).2))) (σ' := ?s10) ?j10 ?h10 ?n10
    case j10 => simp only [St.join,List.foldl,Za,Zb]; exact rfl
    case h10 =>
     iterate 4 (all_goals refine kA rfl (by simp (disch := omega) only [iA,aA,qop,fop,St.ev,St.put,cd,zd,Value.oneCell',lA,TypeDesc.aggB,Z0,fA,oA,Z1,pA,qA,tA,eA,D.pure?,ZC,ZD,cB,iop,tt,Z2] <;> exact rfl) ?_)
     iterate 7 (all_goals first | (refine lC rfl rfl rfl (by simp (disch := omega) only [iA,aA,qop,fop,St.ev,St.put,cd,zd,Value.oneCell',lA,TypeDesc.aggB,Z0,fA,oA,Z1,pA,qA,tA,eA,D.pure?,ZC,ZD,cB,iop,tt,Z2] <;> exact rfl) ?_) | (first | (refine eC rfl rfl rfl (by simp only [St.put,Za,Zb] <;> exact rfl) ?_) | (refine fC rfl rfl rfl (by simp only [St.put,Za,Zb] <;> exact rfl) ?_)) | (refine cC rfl rfl rfl (by simp only [Za,Zb] <;> exact rfl) (by simp only [Za,Zb] <;> exact rfl) (fun hg => ?_) (fun hg => ?_) <;> (try simp only [Zp,Zi,ZJ,ZK,ne_eq,Zn,Zm,Bool.not_eq_true,Zu] at hg) <;> first | (refine lC rfl rfl rfl (by simp (disch := omega) only [iA,aA,qop,fop,St.ev,St.put,cd,zd,Value.oneCell',lA,TypeDesc.aggB,Z0,fA,oA,Z1,pA,qA,tA,eA,D.pure?,ZC,ZD,cB,iop,tt,Z2] <;> exact rfl) ?_) | (first | (refine eC rfl rfl rfl (by simp only [St.put,Za,Zb] <;> exact rfl) ?_) | (refine fC rfl rfl rfl (by simp only [St.put,Za,Zb] <;> exact rfl) ?_))))
     iterate 2 (all_goals refine kA rfl (by simp (disch := omega) only [iA,aA,qop,fop,St.ev,St.put,cd,zd,Value.oneCell',lA,TypeDesc.aggB,Z0,fA,oA,Z1,pA,qA,tA,eA,D.pure?,ZC,ZD,cB,iop,tt,Z2] <;> exact rfl) ?_)
     all_goals refine bA ?_
     all_goals refine ⟨rfl,?_,xD _,yD _,rfl,rfl⟩
     all_goals repeat' (first | exact sA | refine mB ?_ | refine vA rfl ?_ | refine vA ?_ ?_)
     all_goals refine jn ?_
     all_goals ((try simp only [Zp,Zi,ZJ,ZK,Bool.not_eq_true,Zm,Zn,ne_eq,Zf,true_iff,false_iff,iff_true,iff_false] at *) <;> omega)
    refine jA ?_
    refine oB _ rfl (fun hc3 => ?_) (fun hc3 => ?_)
    ·try simp only [Zp,Zi,ZK,ZJ,ne_eq,Zn,Zm,ZB,ZA,ZI,not_or,not_and,Zu] at hc3
     refine cA ?_
     refine gA hX hb [0] rfl (σ' := ?s11) (fun K hK => ?h11) ?n11
     case h11 =>
      (refine kA rfl (by simp (disch := omega) only [iA,aA,qop,fop,St.ev,St.put,cd,zd,Value.oneCell',lA,TypeDesc.aggB,Z0,t2,ti2,Z2] <;> exact rfl) ?_)
      refine bA ?_
      exact hK
     refine jA ?_
     refine bC ?_
     refine xE ?_
     refine tC ?_
     refine xE ?_
     refine tC ?_
     refine tC ?_
     refine xE ?_
     refine tC ?_
     exact zC rfl (zB rfl (by first | rfl | (first | exact congrArg (fun k => D.p (i64 k)) (sL hc0).symm | exact congrArg (fun k => D.p (i64 k)) ((fE (by omega)).trans (hg.trans (fO (by omega) hc2))).symm | exact congrArg (fun k => D.p (i64 k)) ((fE (by omega)).trans (hg.trans (gO (by omega) hc2 hc3))).symm | exact congrArg (fun k => D.p (i64 k)) ((fE (by omega)).trans (hg.trans (iO (by omega) hc2 (by omega) hc4))).symm | exact congrArg (fun k => D.p (i64 k)) ((fE (by omega)).trans (hg.trans (jO (by omega)))).symm)))
    ·try simp only [Zp,Zi,ZK,ZJ,ne_eq,Zn,Zm,ZB,ZA,ZI,not_or,not_and,Zu] at hc3
     refine cA ?_
     refine gA hX hb [0,1,2,3,4] rfl (σ' := ?s12) (fun K hK => ?h12) ?n12
     case h12 =>
      iterate 5 (refine kA rfl (by simp (disch := omega) only [iA,aA,qop,fop,St.ev,St.put,cd,zd,Value.oneCell',lA,TypeDesc.aggB,Z0,fA,oA,Z1,pA,qA,tA,eA,D.pure?,ZC,ZD,cB,iop,tt,Z2] <;> exact rfl) ?_)
      refine bA ?_
      exact hK
     refine jA ?_
     refine oB _ rfl (fun hc4 => ?_) (fun hc4 => ?_)
     ·try simp only [Zp,Zi,ZK,ZJ,ne_eq,Zn,Zm,ZB,ZA,ZI,not_or,not_and,Zu] at hc4
      refine cA ?_
      refine gA hX hb [0] rfl (σ' := ?s13) (fun K hK => ?h13) ?n13
      case h13 =>
       (refine kA rfl (by simp (disch := omega) only [iA,aA,qop,fop,St.ev,St.put,cd,zd,Value.oneCell',lA,TypeDesc.aggB,Z0,t3,ti3,Z2] <;> exact rfl) ?_)
       refine bA ?_
       exact hK
      refine jA ?_
      refine bC ?_
      refine xE ?_
      refine tC ?_
      refine xE ?_
      refine tC ?_
      refine tC ?_
      refine xE ?_
      refine tC ?_
      exact zC rfl (zB rfl (by first | rfl | (first | exact congrArg (fun k => D.p (i64 k)) (sL hc0).symm | exact congrArg (fun k => D.p (i64 k)) ((fE (by omega)).trans (hg.trans (fO (by omega) hc2))).symm | exact congrArg (fun k => D.p (i64 k)) ((fE (by omega)).trans (hg.trans (gO (by omega) hc2 hc3))).symm | exact congrArg (fun k => D.p (i64 k)) ((fE (by omega)).trans (hg.trans (iO (by omega) hc2 (by omega) hc4))).symm | exact congrArg (fun k => D.p (i64 k)) ((fE (by omega)).trans (hg.trans (jO (by omega)))).symm)))
     ·try simp only [Zp,Zi,ZK,ZJ,ne_eq,Zn,Zm,ZB,ZA,ZI,not_or,not_and,Zu] at hc4
      refine uB ?_
      refine cE ?_
      refine jA ?_
      refine gA hX hb [0,1,2,3,4,5,6] rfl (σ' := ?s14) (fun K hK => ?h14) ?n14
      case h14 =>
       iterate 7 (refine kA rfl (by simp (disch := omega) only [iA,aA,qop,fop,St.ev,St.put,cd,zd,Value.oneCell',lA,TypeDesc.aggB,Z0,fA,oA,Z1,pA,qA,tA,eA,D.pure?,ZC,ZD,cB,iop,tt,Z2] <;> exact rfl) ?_)
       refine bA ?_
       exact hK
      refine cE ?_
      refine jA ?_
      refine gA hX hb [0,1] rfl (σ' := ?s15) (fun K hK => ?h15) ?n15
      case h15 =>
       iterate 2 (refine kA rfl (by simp (disch := omega) only [iA,aA,qop,fop,St.ev,St.put,cd,zd,Value.oneCell',lA,TypeDesc.aggB,Z0,cB,iop,tt,Z2] <;> exact rfl) ?_)
       refine bA ?_
       exact hK
      refine jA ?_
      exact ⟨(i + 1,(es.getD i (0,0)).1 + (es.getD i (0,0)).2 + 1),by refine ⟨by dsimp only; omega,by dsimp only; omega,by dsimp only; omega,?_⟩; dsimp only; rw [hg,eGA (by omega) hc2 (by omega) hc4],by (try dsimp only); omega,rC ⟨rfl,(by repeat first | exact sA | refine mB ?_ | refine vA rfl ?_),(xB _),(yB _),rfl,rfl⟩⟩
  ·try simp only [Zp,Zi,ZK,ZJ,ne_eq,Zn,Zm,ZB,ZA,ZI,not_or,not_and,Zu] at hc1
   refine oD ?_
   refine fD ?_
   refine fD ?_
   refine zE ?_
   refine jA ?_
   refine cA ?_
   refine gA hX hb [0] rfl (σ' := ?s16) (fun K hK => ?h16) ?n16
   case h16 =>
    (refine kA rfl (by simp (disch := omega) only [iA,aA,qop,fop,St.ev,St.put,cd,zd,Value.oneCell',lA,TypeDesc.aggB,Z0,Z2] <;> exact rfl) ?_)
    refine bA ?_
    exact hK
   refine jA ?_
   refine bC ?_
   exact zC rfl (zB rfl (by first | rfl | (first | exact congrArg (fun k => D.p (i64 k)) (sL hc0).symm | exact congrArg (fun k => D.p (i64 k)) ((fE (by omega)).trans (hg.trans (fO (by omega) hc2))).symm | exact congrArg (fun k => D.p (i64 k)) ((fE (by omega)).trans (hg.trans (gO (by omega) hc2 hc3))).symm | exact congrArg (fun k => D.p (i64 k)) ((fE (by omega)).trans (hg.trans (iO (by omega) hc2 (by omega) hc4))).symm | exact congrArg (fun k => D.p (i64 k)) ((fE (by omega)).trans (hg.trans (jO (by omega)))).symm)))
theorem o91 (es : List (Int × Int)) (n : Nat) (h : fJ es n = 0) : ACallsO Try.prog 91 [.p (gD es)] ⟨3,1,(vB es).length,(vB es).map fun n : Nat => i64 (n : Int)⟩ := by
 refine wH Try.func91 (c := _) rfl (by kernel_rfl) (t := 2) rfl ?_
 intro X hP hX hro hpl
 have hb : tb.Ok X.P := hP ▸ oC
 change AW X _ _ ⟨[],[.p (gD es),.any,.any,.any,.any,.any,.any,.any,.any,.any,.any,.any,.any,.any,.any,.any,.any,.any,.any,.any,.any,.any,.any,.any,.any,.any,.any,.any,.any,.any,.any,.any],[],[]⟩
 have hfe := wJ h
 have hfn := qK h
 refine cA ?_
 refine gA hX hb [0] rfl (σ' := ?s1) (fun K hK => ?h1) ?n1
 case h1 =>
  (refine kA rfl (by simp (disch := omega) only [iA,aA,qop,fop,St.ev,St.put,cd,zd,Value.oneCell',lA,TypeDesc.aggB,Z0,Z2] <;> exact rfl) ?_)
  refine bA ?_
  exact hK
 refine jA ?_
 refine cA ?_
 refine gA hX hb [0] rfl (σ' := ?s2) (fun K hK => ?h2) ?n2
 case h2 =>
  (refine kA rfl (by simp (disch := omega) only [iA,aA,qop,fop,St.ev,St.put,cd,zd,Value.oneCell',lA,TypeDesc.aggB,Z0,Z2] <;> exact rfl) ?_)
  refine bA ?_
  exact hK
 refine jA ?_
 refine nJ 3 3 1 rfl (σ' := ?s3) ?h3 ?n3
 case h3 => simp only [St.nilSlot,St.addVec,Za,Zb,Zl,Zo,ZL,ZM]; exact rfl
 refine cA ?_
 refine cA ?_
 refine gA hX hb [0] rfl (σ' := ?s4) (fun K hK => ?h4) ?n4
 case h4 =>
  (refine kA rfl (by simp (disch := omega) only [iA,aA,qop,fop,St.ev,St.put,cd,zd,Value.oneCell',lA,TypeDesc.aggB,Z0,Z2] <;> exact rfl) ?_)
  refine bA ?_
  exact hK
 refine jA ?_
 refine tB ?_
 refine rD (ι := Nat) (fun i => i ≤ es.length) (fun i => ⟨[],[.p (gD es),.any,.any,.vref 0,.p (i64 i),.any,.any,.any,.any,.any,.any,.any,.any,.any,.any,.any,.any,.any,.any,.any,.any,.any,.any,.any,.any,.any,.any,.any,.any,.any,.any,.any],[],[some ⟨3,1,(vB (es.take i)).length,(vB (es.take i)).map fun n : Nat => i64 (n : Int)⟩]⟩) (fun i => es.length - i) 0 (by exact Nat.zero_le _) (rC ⟨rfl,(by repeat first | exact sA | refine mB ?_ | refine vA (by first | rfl | (rw [hnt])) ?_),(xB _),(jE (by first | rfl | (rw [hnt])) (yB _)),rfl,rfl⟩) ?_
 rintro i hJ
 refine cA ?_
 refine cA ?_
 refine gA hX hb [0,1,2,3] rfl (σ' := ?s5) (fun K hK => ?h5) ?n5
 case h5 =>
  iterate 4 (refine kA rfl (by simp (disch := omega) only [iA,aA,qop,fop,St.ev,St.put,cd,zd,Value.oneCell',lA,TypeDesc.aggB,Z0,vC,cB,iop,tt,Z2] <;> exact rfl) ?_)
  refine bA ?_
  exact hK
 refine jA ?_
 refine oB _ rfl (fun hc0 => ?_) (fun hc0 => ?_)
 ·try simp only [Zp,Zi,ZK,ZJ,ne_eq,Zn,Zm,ZB,ZA,ZI,not_or,not_and,Zu] at hc0
  obtain ⟨u,v,huv,hv1,huv2⟩ := xY h (show i < es.length by omega)
  have hnt := mL (show i < es.length by omega) huv
  have hns := congrArg List.length (sM es (i + 1))
  rw [List.length_append,hnt,List.length_append,List.length_range'] at hns
  refine uB ?_
  refine jA ?_
  refine cA ?_
  refine tB ?_
  refine cA ?_
  refine gA hX hb [0] rfl (σ' := ?s6) (fun K hK => ?h6) ?n6
  case h6 =>
   (refine kA rfl (by simp (disch := omega) only [iA,aA,qop,fop,St.ev,St.put,cd,zd,Value.oneCell',lA,TypeDesc.aggB,Z0,Z2] <;> exact rfl) ?_)
   refine bA ?_
   exact hK
  refine jA ?_
  refine tB ?_
  refine rD (ι := Nat) (fun k => k ≤ v) (fun k => ⟨[],[.p (gD es),.any,.any,.vref 0,.p (i64 i),.p (i64 k),.any,.any,.any,.any,.any,.any,.any,.any,.any,.any,.any,.any,.any,.any,.any,.any,.any,.any,.any,.any,.any,.any,.any,.any,.any,.any],[],[some ⟨3,1,(vB (es.take i) ++ List.range' u k).length,(vB (es.take i) ++ List.range' u k).map fun n : Nat => i64 (n : Int)⟩]⟩) (fun k => v - k) 0 (by exact Nat.zero_le _) (rC ⟨rfl,(by repeat first | exact sA | refine mB ?_ | refine vA (by first | rfl | (first | (rw [cK,← List.append_assoc]; simp <;> omega) | simp)) ?_),(xB _),(jE (by first | rfl | (first | (rw [cK,← List.append_assoc]; simp <;> omega) | simp)) (yB _)),rfl,rfl⟩) ?_
  rintro k hk
  have hrl : (vB (es.take i) ++ List.range' u k).length = (vB (es.take i)).length + k := by rw [List.length_append,List.length_range']
  refine cA ?_
  refine cA ?_
  refine gA hX hb [0,1,2,3,4,5,6] rfl (σ' := ?s7) (fun K hK => ?h7) ?n7
  case h7 =>
   iterate 7 (refine kA rfl (by simp (disch := omega) only [iA,aA,qop,fop,St.ev,St.put,cd,zd,Value.oneCell',lA,TypeDesc.aggB,Z0,Int.toNat_zero,Int.toNat_one,xA,yA,wA,ZO,Nat.mul_one,ZC,Nat.zero_mul,Zh,fA,oA,Z1,pA,qA,tA,eA,D.pure?,ZD,cB,iop,tt,Z2,huv] <;> exact rfl) ?_)
   refine bA ?_
   exact hK
  refine jA ?_
  refine oB _ rfl (fun hc1 => ?_) (fun hc1 => ?_)
  ·try simp only [Zp,Zi,ZK,ZJ,ne_eq,Zn,Zm,ZB,ZA,ZI,not_or,not_and,Zu] at hc1
   refine uB ?_
   refine jA ?_
   refine cA ?_
   refine tB ?_
   refine gA hX hb [0,1,2,3,4,5,6,7,8,9,10] rfl (σ' := ?s8) (fun K hK => ?h8) ?n8
   case h8 =>
    iterate 11 (refine kA rfl (by simp (disch := omega) only [iA,aA,qop,fop,St.ev,St.put,cd,zd,Value.oneCell',lA,TypeDesc.aggB,Z0,Int.toNat_zero,Int.toNat_one,xA,yA,wA,ZO,Nat.mul_one,ZC,Nat.zero_mul,Zh,fA,oA,Z1,pA,qA,tA,eA,D.pure?,ZD,cB,iop,zD,aD,bD,bE,bB,rB,D.cells?,fB,gB,iB,jB,kB,ZG,ZH,ZL,ZM,ZN,aB,Nat.reduceAdd,Nat.reduceMul,nD,cG,St.demote,D.demote,St.setVec,List.length_append,reduceIte,tt,Z2,huv,List.length_range'] <;> exact rfl) ?_)
    refine bA ?_
    exact hK
   refine cE ?_
   refine jA ?_
   refine gA hX hb [0,1,2] rfl (σ' := ?s9) (fun K hK => ?h9) ?n9
   case h9 =>
    iterate 3 (refine kA rfl (by simp (disch := omega) only [iA,aA,qop,fop,St.ev,St.put,cd,zd,Value.oneCell',lA,TypeDesc.aggB,Z0,cB,iop,tt,Z2] <;> exact rfl) ?_)
    refine bA ?_
    exact hK
   refine jA ?_
   exact ⟨k + 1,by (try dsimp only); omega,by (try dsimp only); omega,rC ⟨rfl,(by repeat first | exact sA | refine mB ?_ | refine vA (by first | rfl | (first | (rw [cK,← List.append_assoc]; simp <;> omega) | simp)) ?_),(xB _),(jE (by first | rfl | (first | (rw [cK,← List.append_assoc]; simp <;> omega) | simp)) (yB _)),rfl,rfl⟩⟩
  ·try simp only [Zp,Zi,ZK,ZJ,ne_eq,Zn,Zm,ZB,ZA,ZI,not_or,not_and,Zu] at hc1
   obtain rfl : k = v := by omega
   refine oD ?_
   refine fD ?_
   refine fD ?_
   refine zE ?_
   refine cE ?_
   refine jA ?_
   refine gA hX hb [0,1,2] rfl (σ' := ?s10) (fun K hK => ?h10) ?n10
   case h10 =>
    iterate 3 (refine kA rfl (by simp (disch := omega) only [iA,aA,qop,fop,St.ev,St.put,cd,zd,Value.oneCell',lA,TypeDesc.aggB,Z0,cB,iop,tt,Z2] <;> exact rfl) ?_)
    refine bA ?_
    exact hK
   refine jA ?_
   exact ⟨i + 1,by (try dsimp only); omega,by (try dsimp only); omega,rC ⟨rfl,(by repeat first | exact sA | refine mB ?_ | refine vA (by first | rfl | (rw [hnt])) ?_),(xB _),(jE (by first | rfl | (rw [hnt])) (yB _)),rfl,rfl⟩⟩
 ·try simp only [Zp,Zi,ZK,ZJ,ne_eq,Zn,Zm,ZB,ZA,ZI,not_or,not_and,Zu] at hc0
  refine oD ?_
  refine fD ?_
  refine fD ?_
  refine zE ?_
  refine jA ?_
  refine cA ?_
  refine gA hX hb [0,1] rfl (σ' := ?s11) (fun K hK => ?h11) ?n11
  case h11 =>
   iterate 2 (refine kA rfl (by simp (disch := omega) only [iA,aA,qop,fop,St.ev,St.put,cd,zd,Value.oneCell',lA,TypeDesc.aggB,Z0,t3,ti3,Z2] <;> exact rfl) ?_)
   refine bA ?_
   exact hK
  refine jA ?_
  refine bC ?_
  exact eK 0 rfl rfl (by first | rfl | ((obtain rfl : i = es.length := by omega); rw [List.take_length]; rfl))
theorem c91 (es : List (Int × Int)) (n : Nat) (h : fJ es n = 0) : ACalls Try.prog 91 [.p (gD es)] (.p (jS (vB es))) := (o91 es n h).pure
theorem o90 (d : Int) : ACallsO Try.prog 90 [.p (u64 d)] ⟨5,1,(yC d).length,(yC d).map u8⟩ := by
 refine wH Try.func90 (c := _) rfl (by kernel_rfl) (t := 2) rfl ?_
 intro X hP hX hro hpl
 have hb : tb.Ok X.P := hP ▸ oC
 change AW X _ _ ⟨[],[.p (u64 d),.any,.any,.any,.any,.any,.any,.any,.any,.any,.any,.any,.any,.any,.any,.any,.any,.any],[],[]⟩
 refine cA ?_
 refine gA hX hb [0] rfl (σ' := ?s1) (fun K hK => ?h1) ?n1
 case h1 =>
  (refine kA rfl (by simp (disch := omega) only [iA,aA,qop,fop,St.ev,St.put,cd,zd,Value.oneCell',lA,TypeDesc.aggB,Z0] <;> exact rfl) ?_)
  refine bA ?_
  exact hK
 refine jA ?_
 refine cA ?_
 refine gA hX hb [0] rfl (σ' := ?s2) (fun K hK => ?h2) ?n2
 case h2 =>
  (refine kA rfl (by simp (disch := omega) only [iA,aA,qop,fop,St.ev,St.put,cd,zd,Value.oneCell',lA,TypeDesc.aggB,Z0] <;> exact rfl) ?_)
  refine bA ?_
  exact hK
 refine jA ?_
 refine nJ 3 5 1 rfl (σ' := ?s3) ?h3 ?n3
 case h3 => simp only [St.nilSlot,St.addVec,Za,Zb,Zl,Zo,ZL,ZM]; exact rfl
 refine cA ?_
 refine cA ?_
 refine gA hX hb [0] rfl (σ' := ?s4) (fun K hK => ?h4) ?n4
 case h4 =>
  (refine kA rfl (by simp (disch := omega) only [iA,aA,qop,fop,St.ev,St.put,cd,zd,Value.oneCell',lA,TypeDesc.aggB,Z0] <;> exact rfl) ?_)
  refine bA ?_
  exact hK
 refine jA ?_
 refine tB ?_
 refine rD (ι := Nat × List Int) (fun p => p.1 ≤ 8 ∧ p.2 = (yC d).take p.1) (fun p => ⟨[],[.p (u64 d),.any,.any,.vref 0,.any,.p (i64 p.1),.any,.any,.any,.any,.any,.any,.any,.any,.any,.any,.any,.any],[],[some ⟨5,1,p.2.length,p.2.map u8⟩]⟩) (fun p => 8 - p.1) (0,[]) (by exact ⟨Nat.zero_le _,rfl⟩) (rC ⟨rfl,(by repeat first | exact sA | refine mB ?_ | refine vA (by first | rfl | (simp [shb])) ?_),(xB _),(jE (by first | rfl | (simp [shb])) (yB _)),rfl,rfl⟩) ?_
 rintro ⟨k,cs⟩ ⟨hk,hcs⟩
 dsimp only at hk hcs ⊢
 have hcl : cs.length = k := by rw [hcs]; simp [yC]; omega
 refine cA ?_
 refine gA hX hb [0] rfl (σ' := ?s5) (fun K hK => ?h5) ?n5
 case h5 =>
  (refine kA rfl (by simp (disch := omega) only [iA,aA,qop,fop,St.ev,St.put,cd,zd,Value.oneCell',lA,TypeDesc.aggB,Z0,cB,iop,tt] <;> exact rfl) ?_)
  refine bA ?_
  exact hK
 refine jA ?_
 refine cA ?_
 refine oB _ rfl (fun hc0 => ?_) (fun hc0 => ?_)
 ·try simp only [Zp,Zi,ZK,ZJ,ne_eq,Zn,Zm,ZB,ZA,ZI,not_or,not_and,Zu] at hc0
  refine uB ?_
  refine jA ?_
  refine cA ?_
  refine tB ?_
  refine cA ?_
  refine gA hX hb [0,1] rfl (σ' := ?s6) (fun K hK => ?h6) ?n6
  case h6 =>
   iterate 2 (refine kA rfl (by simp (disch := omega) only [iA,aA,qop,fop,St.ev,St.put,cd,zd,Value.oneCell',lA,TypeDesc.aggB,Z0,t5,ti5] <;> exact rfl) ?_)
   refine bA ?_
   exact hK
  refine jA ?_
  refine gA hX hb [0,1,2,3,4,5,6,7,8] rfl (σ' := ?s7) (fun K hK => ?h7) ?n7
  case h7 =>
   iterate 9 (refine kA rfl (by simp (disch := omega) only [iA,aA,qop,fop,St.ev,St.put,cd,zd,Value.oneCell',lA,TypeDesc.aggB,Z0,cB,iop,iK,zD,aD,bD,bE,bB,rB,D.cells?,D.pure?,fB,gB,iB,jB,kB,ZG,ZH,ZL,ZM,ZN,Zl,Zo,aB,Nat.reduceAdd,Nat.reduceMul,nD,cG,St.demote,D.demote,St.setVec,Zh,List.length_append,ZC,Nat.mul_one,reduceIte,tt] <;> exact rfl) ?_)
   refine bA ?_
   exact hK
  refine cE ?_
  refine jA ?_
  refine gA hX hb [0,1] rfl (σ' := ?s8) (fun K hK => ?h8) ?n8
  case h8 =>
   iterate 2 (refine kA rfl (by simp (disch := omega) only [iA,aA,qop,fop,St.ev,St.put,cd,zd,Value.oneCell',lA,TypeDesc.aggB,Z0,cB,iop,tt] <;> exact rfl) ?_)
   refine bA ?_
   exact hK
  refine jA ?_
  exact ⟨(k + 1,cs ++ [shb d k]),by exact ⟨by dsimp only; omega,by dsimp only; rw [qC _ k (by omega),hcs]⟩,by (try dsimp only); omega,rC ⟨rfl,(by repeat first | exact sA | refine mB ?_ | refine vA (by first | rfl | (simp [shb])) ?_),(xB _),(jE (by first | rfl | (simp [shb])) (yB _)),rfl,rfl⟩⟩
 ·try simp only [Zp,Zi,ZK,ZJ,ne_eq,Zn,Zm,ZB,ZA,ZI,not_or,not_and,Zu] at hc0
  refine oD ?_
  refine fD ?_
  refine fD ?_
  refine zE ?_
  refine jA ?_
  refine cA ?_
  refine gA hX hb [0,1] rfl (σ' := ?s9) (fun K hK => ?h9) ?n9
  case h9 =>
   iterate 2 (refine kA rfl (by simp (disch := omega) only [iA,aA,qop,fop,St.ev,St.put,cd,zd,Value.oneCell',lA,TypeDesc.aggB,Z0,t3,ti3] <;> exact rfl) ?_)
   refine bA ?_
   exact hK
  refine jA ?_
  refine bC ?_
  exact eK 0 rfl rfl (by first | rfl | ((have : k = 8 := by omega); subst this; rw [hcs,List.take_of_length_le (by simp [yC])]; rfl))
end Go.Proofs.Ytldcoekbgfaomaa
end
section
namespace Go.Proofs.Ytldcoekbgfaomaa
open Go.RowKit
set_option maxRecDepth 20000
set_option maxHeartbeats 4000000
attribute [local irreducible] kE sD AW
theorem c90 (d : Int) : ACalls Try.prog 90 [.p (u64 d)] (.p (bytes (yC d))) := (o90 d).pure
noncomputable instance waDec (a b : Wa) : Decidable (a = b) := Classical.propDecidable _
noncomputable instance msDec (a b : Ms) : Decidable (a = b) := Classical.propDecidable _
theorem aEA (a b : Ms) : a = b ↔ (a.kind = b.kind ∧ a.frm = b.frm ∧ a.dest = b.dest ∧ a.num = b.num ∧ a.val = b.val ∧ a.epoch = b.epoch ∧ a.body = b.body) ∧ a.vs = b.vs := by
 cases a
 cases b
 simp only [Ms.mk.injEq]
 constructor
 ·rintro ⟨h1,h2,h3,h4,h5,h6,h7,h8⟩
  exact ⟨⟨h1,h2,h3,h4,h5,h6,h8⟩,h7⟩
 ·rintro ⟨⟨h1,h2,h3,h4,h5,h6,h8⟩,h7⟩
  exact ⟨h1,h2,h3,h4,h5,h6,h7,h8⟩
theorem c54 (a b : Ms) : ACalls Try.prog 54 [msP a,msP b] (.p (bv (decide (a = b)))) := by
 obtain ⟨ka,fa,ta,na,va,ea,sa,ba⟩ := a
 obtain ⟨kb,fb,tq,nb,vb,eb,sb,bb⟩ := b
 refine wC oC Try.func54 (c := _) rfl (by kernel_rfl) ?_
 intro X hP hX hro hpl
 have hb : tb.Ok X.P := hP ▸ oC
 change AW X _ _ ⟨[],[.agg [i64 ka,i64 fa,i64 ta,i64 na,i64 va,i64 ea,mF sa,bytes ba],.agg [i64 kb,i64 fb,i64 tq,i64 nb,i64 vb,i64 eb,mF sb,bytes bb],.any,.any,.any,.any,.any,.any,.any,.any,.any,.any,.any,.any,.any,.any,.any,.any,.any,.any,.any,.any,.any,.any,.any,.any,.any,.any,.any,.any,.any,.any,.any,.any,.any,.any,.any,.any,.any,.any,.any,.any,.any,.any,.any,.any,.any,.any,.any,.any,.any,.any,.any,.any,.any,.any,.any,.any,.any,.any,.any,.any,.any,.any,.any,.any,.any,.any,.any,.any,.any,.any,.any,.any,.any,.any,.any,.any],[],[]⟩
 refine vEA (t := 0) (k := 6) rfl rfl fun hl => ?_
 unfold maxLen at hl
 refine cA ?_
 refine gA hX hb [0,1,2] rfl (σ' := ?s1) (fun K hK => ?h1) ?n1
 case h1 =>
  iterate 3 (refine kA rfl (by simp (disch := omega) only [iA,aA,qop,fop,St.ev,St.put,cd,zd,Value.oneCell',lA,TypeDesc.aggB,Z0,ZM,ZL,Zl,Zo,ZG,ZH,St.addBox,D.boxCells,D.live,tt,nA,Zh] <;> exact rfl) ?_)
  refine bA ?_
  exact hK
 refine jA ?_
 refine cA ?_
 refine cA ?_
 refine gA hX hb [0,1,2,3,4,5,6] rfl (σ' := ?s2) (fun K hK => ?h2) ?n2
 case h2 =>
  iterate 7 (refine kA rfl (by simp (disch := omega) only [iA,aA,qop,fop,St.ev,St.put,cd,zd,Value.oneCell',lA,TypeDesc.aggB,Z0,fA,oA,Z1,pA,qA,tA,eA,D.pure?,ZC,ZD,vC,cB,iop,tt,nA,Zh] <;> exact rfl) ?_)
  refine bA ?_
  exact hK
 refine jA ?_
 refine oB _ rfl (fun hc0 => ?_) (fun hc0 => ?_)
 ·try simp only [Zp,Zi,ZK,ZJ,ne_eq,Zn,Zm,ZB,ZA,ZI,not_or,not_and,Zu] at hc0
  refine cA ?_
  refine gA hX hb [0] rfl (σ' := ?s3) (fun K hK => ?h3) ?n3
  case h3 =>
   (refine kA rfl (by simp (disch := omega) only [iA,aA,qop,fop,St.ev,St.put,cd,zd,Value.oneCell',lA,TypeDesc.aggB,Z0,nA,Zh] <;> exact rfl) ?_)
   refine bA ?_
   exact hK
  refine jA ?_
  refine bC ?_
  refine tC ?_
  exact zC rfl (zB rfl (by first | rfl | (first | (refine jf ?_; intro h; cases h; exact hc0 rfl) | (refine jf ?_; intro h; cases h; exact hc2 rfl) | (refine congrArg (fun x => D.p (bv x)) (decide_eq_decide.2 ((aEA ⟨ka,fa,ta,na,va,ea,sa,ba⟩ ⟨kb,fb,tq,nb,vb,eb,sb,bb⟩).trans ⟨fun h => h.1,fun h => ⟨h,show sa = sb from vD hc0 he (by omega)⟩⟩).symm)))))
 ·try simp only [Zp,Zi,ZK,ZJ,ne_eq,Zn,Zm,ZB,ZA,ZI,not_or,not_and,Zu] at hc0
  refine uB ?_
  refine jA ?_
  refine cA ?_
  refine cA ?_
  refine gA hX hb [0] rfl (σ' := ?s4) (fun K hK => ?h4) ?n4
  case h4 =>
   (refine kA rfl (by simp (disch := omega) only [iA,aA,qop,fop,St.ev,St.put,cd,zd,Value.oneCell',lA,TypeDesc.aggB,Z0,nA,Zh] <;> exact rfl) ?_)
   refine bA ?_
   exact hK
  refine jA ?_
  refine tB ?_
  refine rD (ι := Nat) (fun i => i ≤ sa.length ∧ sa.take i = sb.take i) (fun i => ⟨[],[.any,.any,.ptr 0 0,.ptr 1 0,.any,.p (i64 i),.any,.any,.any,.any,.any,.any,.any,.any,.any,.any,.any,.any,.any,.any,.any,.any,.any,.any,.any,.any,.any,.any,.any,.any,.any,.any,.any,.any,.any,.any,.any,.any,.any,.any,.any,.any,.any,.any,.any,.any,.any,.any,.any,.any,.any,.any,.any,.any,.any,.any,.any,.any,.any,.any,.any,.any,.any,.any,.any,.any,.any,.any,.any,.any,.any,.any,.any,.any,.any,.any,.any,.any],[⟨90,[.p (i64 ka),.p (i64 fa),.p (i64 ta),.p (i64 na),.p (i64 va),.p (i64 ea),.p (mF sa),.p (bytes ba)]⟩,⟨90,[.p (i64 kb),.p (i64 fb),.p (i64 tq),.p (i64 nb),.p (i64 vb),.p (i64 eb),.p (mF sb),.p (bytes bb)]⟩],[]⟩) (fun i => sa.length - i) 0 (by exact ⟨Nat.zero_le _,rfl⟩) (rC ⟨rfl,(by repeat first | exact sA | refine mB ?_ | refine vA rfl ?_),(pC rfl (vA rfl (vA rfl (vA rfl (vA rfl (vA rfl (vA rfl (vA rfl (vA rfl (sA))))))))) (pC rfl (vA rfl (vA rfl (vA rfl (vA rfl (vA rfl (vA rfl (vA rfl (vA rfl (sA))))))))) (xB _))),(yB _),rfl,rfl⟩) ?_
  rintro i ⟨hi,he⟩
  refine cA ?_
  refine cA ?_
  refine gA hX hb [0,1,2,3,4] rfl (σ' := ?s5) (fun K hK => ?h5) ?n5
  case h5 =>
   iterate 5 (refine kA rfl (by simp (disch := omega) only [iA,aA,qop,fop,St.ev,St.put,cd,zd,Value.oneCell',lA,TypeDesc.aggB,Z0,fA,oA,Z1,pA,qA,tA,eA,D.pure?,ZC,ZD,vC,cB,iop,tt,nA,Zh] <;> exact rfl) ?_)
   refine bA ?_
   exact hK
  refine jA ?_
  refine oB _ rfl (fun hc1 => ?_) (fun hc1 => ?_)
  ·try simp only [Zp,Zi,ZK,ZJ,ne_eq,Zn,Zm,ZB,ZA,ZI,not_or,not_and,Zu] at hc1
   refine uB ?_
   refine jA ?_
   refine cA ?_
   refine tB ?_
   refine cA ?_
   refine dF hX hb (jD hP) [(0,true),(1,true),(2,true),(3,true),(4,true),(5,true),(6,true),(7,true),(8,true),(9,true),(10,true)] (by kernel_rfl) (σ' := ?s6) (fun K hK => ?h6) ?n6
   case h6 =>
    iterate 11 (refine eF rfl (by simp (disch := omega) only [qop,fop,St.ev,St.put,cd,zd,Value.oneCell',lA,TypeDesc.aggB,Z0,fA,oA,Z1,pA,qA,tA,eA,D.pure?,ZC,ZD,Int.toNat_zero,Int.toNat_one,xA,yA,wA,ZO,Nat.mul_one,Nat.zero_mul,Zh,cB,iop,tt,nA] <;> exact rfl) (by simp only [St.put,Za,Zb] <;> exact rfl) ?_)
    refine xC ?_
    exact hK
   refine jA ?_
   refine oB _ rfl (fun hc2 => ?_) (fun hc2 => ?_)
   ·try simp only [Zp,Zi,ZK,ZJ,ne_eq,Zn,Zm,ZB,ZA,ZI,not_or,not_and,Zu] at hc2
    refine cA ?_
    refine gA hX hb [0] rfl (σ' := ?s7) (fun K hK => ?h7) ?n7
    case h7 =>
     (refine kA rfl (by simp (disch := omega) only [iA,aA,qop,fop,St.ev,St.put,cd,zd,Value.oneCell',lA,TypeDesc.aggB,Z0,nA,Zh] <;> exact rfl) ?_)
     refine bA ?_
     exact hK
    refine jA ?_
    refine bC ?_
    refine xE ?_
    refine tC ?_
    refine tC ?_
    refine xE ?_
    refine tC ?_
    exact zC rfl (zB rfl (by first | rfl | (first | (refine jf ?_; intro h; cases h; exact hc0 rfl) | (refine jf ?_; intro h; cases h; exact hc2 rfl) | (refine congrArg (fun x => D.p (bv x)) (decide_eq_decide.2 ((aEA ⟨ka,fa,ta,na,va,ea,sa,ba⟩ ⟨kb,fb,tq,nb,vb,eb,sb,bb⟩).trans ⟨fun h => h.1,fun h => ⟨h,show sa = sb from vD hc0 he (by omega)⟩⟩).symm)))))
   ·try simp only [Zp,Zi,ZK,ZJ,ne_eq,Zn,Zm,ZB,ZA,ZI,not_or,not_and,Zu] at hc2
    refine uB ?_
    refine cE ?_
    refine jA ?_
    refine gA hX hb [0,1,2] rfl (σ' := ?s8) (fun K hK => ?h8) ?n8
    case h8 =>
     iterate 3 (refine kA rfl (by simp (disch := omega) only [iA,aA,qop,fop,St.ev,St.put,cd,zd,Value.oneCell',lA,TypeDesc.aggB,Z0,cB,iop,tt,nA,Zh] <;> exact rfl) ?_)
     refine bA ?_
     exact hK
    refine jA ?_
    exact ⟨i + 1,by exact ⟨by omega,by rw [gE sa i (by omega),gE sb i (by omega),he,hc2]⟩,by (try dsimp only); omega,rC ⟨rfl,(by repeat first | exact sA | refine mB ?_ | refine vA rfl ?_),(pC rfl (vA rfl (vA rfl (vA rfl (vA rfl (vA rfl (vA rfl (vA rfl (vA rfl (sA))))))))) (pC rfl (vA rfl (vA rfl (vA rfl (vA rfl (vA rfl (vA rfl (vA rfl (vA rfl (sA))))))))) (xB _))),(yB _),rfl,rfl⟩⟩
  ·try simp only [Zp,Zi,ZK,ZJ,ne_eq,Zn,Zm,ZB,ZA,ZI,not_or,not_and,Zu] at hc1
   refine oD ?_
   refine fD ?_
   refine fD ?_
   refine zE ?_
   refine jA ?_
   refine cA ?_
   refine vE hX hb [0,1,2,3,4,5,6,7,8,9,10,11,12,13,14,15,16,17,18,19,20,21,22,23,24,25,26,27,28,29,30,31,32,33,34,35,36,37,38,39,40,41,42,43,44,45,46,47] rfl (ts := [31,32,33,34,35,36,37,38,39,40,41,42,43,44,45,46,47,48,49,50,51,52,53,54,55,56,57,58,59,60,61,62,63,64,65,66,67,68,69,70,71,72,73,74,75,76,77]) (t := 4) (d := .p (bv (ka = kb ∧ fa = fb ∧ ta = tq ∧ na = nb ∧ va = vb ∧ ea = eb ∧ ba = bb))) (σ' := ?s9) ?j9 ?h9 ?n9
   case j9 => simp only [St.join,List.foldl,Za,Zb]; exact rfl
   case h9 =>
    iterate 6 (all_goals refine kA rfl (by simp (disch := omega) only [iA,aA,qop,fop,St.ev,St.put,cd,zd,Value.oneCell',lA,TypeDesc.aggB,Z0,fA,oA,Z1,pA,qA,tA,eA,D.pure?,ZC,ZD,cB,iop,uA,D.pv?,tt,nA,Zh] <;> exact rfl) ?_)
    iterate 5 (all_goals first | (refine lC rfl rfl rfl (by simp (disch := omega) only [iA,aA,qop,fop,St.ev,St.put,cd,zd,Value.oneCell',lA,TypeDesc.aggB,Z0,fA,oA,Z1,pA,qA,tA,eA,D.pure?,ZC,ZD,cB,iop,uA,D.pv?,tt,nA,Zh] <;> exact rfl) ?_) | (first | (refine eC rfl rfl rfl (by simp only [St.put,Za,Zb] <;> exact rfl) ?_) | (refine fC rfl rfl rfl (by simp only [St.put,Za,Zb] <;> exact rfl) ?_)) | (refine cC rfl rfl rfl (by simp only [Za,Zb] <;> exact rfl) (by simp only [Za,Zb] <;> exact rfl) (fun hg => ?_) (fun hg => ?_) <;> (try simp only [Zp,Zi,ZJ,ZK,ne_eq,Zn,Zm,Bool.not_eq_true,Zu] at hg) <;> first | (refine lC rfl rfl rfl (by simp (disch := omega) only [iA,aA,qop,fop,St.ev,St.put,cd,zd,Value.oneCell',lA,TypeDesc.aggB,Z0,fA,oA,Z1,pA,qA,tA,eA,D.pure?,ZC,ZD,cB,iop,uA,D.pv?,tt,nA,Zh] <;> exact rfl) ?_) | (first | (refine eC rfl rfl rfl (by simp only [St.put,Za,Zb] <;> exact rfl) ?_) | (refine fC rfl rfl rfl (by simp only [St.put,Za,Zb] <;> exact rfl) ?_))))
    iterate 2 (all_goals refine kA rfl (by simp (disch := omega) only [iA,aA,qop,fop,St.ev,St.put,cd,zd,Value.oneCell',lA,TypeDesc.aggB,Z0,fA,oA,Z1,pA,qA,tA,eA,D.pure?,ZC,ZD,cB,iop,uA,D.pv?,tt,nA,Zh] <;> exact rfl) ?_)
    iterate 5 (all_goals first | (refine lC rfl rfl rfl (by simp (disch := omega) only [iA,aA,qop,fop,St.ev,St.put,cd,zd,Value.oneCell',lA,TypeDesc.aggB,Z0,fA,oA,Z1,pA,qA,tA,eA,D.pure?,ZC,ZD,cB,iop,uA,D.pv?,tt,nA,Zh] <;> exact rfl) ?_) | (first | (refine eC rfl rfl rfl (by simp only [St.put,Za,Zb] <;> exact rfl) ?_) | (refine fC rfl rfl rfl (by simp only [St.put,Za,Zb] <;> exact rfl) ?_)) | (refine cC rfl rfl rfl (by simp only [Za,Zb] <;> exact rfl) (by simp only [Za,Zb] <;> exact rfl) (fun hg => ?_) (fun hg => ?_) <;> (try simp only [Zp,Zi,ZJ,ZK,ne_eq,Zn,Zm,Bool.not_eq_true,Zu] at hg) <;> first | (refine lC rfl rfl rfl (by simp (disch := omega) only [iA,aA,qop,fop,St.ev,St.put,cd,zd,Value.oneCell',lA,TypeDesc.aggB,Z0,fA,oA,Z1,pA,qA,tA,eA,D.pure?,ZC,ZD,cB,iop,uA,D.pv?,tt,nA,Zh] <;> exact rfl) ?_) | (first | (refine eC rfl rfl rfl (by simp only [St.put,Za,Zb] <;> exact rfl) ?_) | (refine fC rfl rfl rfl (by simp only [St.put,Za,Zb] <;> exact rfl) ?_))))
    iterate 2 (all_goals refine kA rfl (by simp (disch := omega) only [iA,aA,qop,fop,St.ev,St.put,cd,zd,Value.oneCell',lA,TypeDesc.aggB,Z0,fA,oA,Z1,pA,qA,tA,eA,D.pure?,ZC,ZD,cB,iop,uA,D.pv?,tt,nA,Zh] <;> exact rfl) ?_)
    iterate 5 (all_goals first | (refine lC rfl rfl rfl (by simp (disch := omega) only [iA,aA,qop,fop,St.ev,St.put,cd,zd,Value.oneCell',lA,TypeDesc.aggB,Z0,fA,oA,Z1,pA,qA,tA,eA,D.pure?,ZC,ZD,cB,iop,uA,D.pv?,tt,nA,Zh] <;> exact rfl) ?_) | (first | (refine eC rfl rfl rfl (by simp only [St.put,Za,Zb] <;> exact rfl) ?_) | (refine fC rfl rfl rfl (by simp only [St.put,Za,Zb] <;> exact rfl) ?_)) | (refine cC rfl rfl rfl (by simp only [Za,Zb] <;> exact rfl) (by simp only [Za,Zb] <;> exact rfl) (fun hg => ?_) (fun hg => ?_) <;> (try simp only [Zp,Zi,ZJ,ZK,ne_eq,Zn,Zm,Bool.not_eq_true,Zu] at hg) <;> first | (refine lC rfl rfl rfl (by simp (disch := omega) only [iA,aA,qop,fop,St.ev,St.put,cd,zd,Value.oneCell',lA,TypeDesc.aggB,Z0,fA,oA,Z1,pA,qA,tA,eA,D.pure?,ZC,ZD,cB,iop,uA,D.pv?,tt,nA,Zh] <;> exact rfl) ?_) | (first | (refine eC rfl rfl rfl (by simp only [St.put,Za,Zb] <;> exact rfl) ?_) | (refine fC rfl rfl rfl (by simp only [St.put,Za,Zb] <;> exact rfl) ?_))))
    iterate 2 (all_goals refine kA rfl (by simp (disch := omega) only [iA,aA,qop,fop,St.ev,St.put,cd,zd,Value.oneCell',lA,TypeDesc.aggB,Z0,fA,oA,Z1,pA,qA,tA,eA,D.pure?,ZC,ZD,cB,iop,uA,D.pv?,tt,nA,Zh] <;> exact rfl) ?_)
    iterate 5 (all_goals first | (refine lC rfl rfl rfl (by simp (disch := omega) only [iA,aA,qop,fop,St.ev,St.put,cd,zd,Value.oneCell',lA,TypeDesc.aggB,Z0,fA,oA,Z1,pA,qA,tA,eA,D.pure?,ZC,ZD,cB,iop,uA,D.pv?,tt,nA,Zh] <;> exact rfl) ?_) | (first | (refine eC rfl rfl rfl (by simp only [St.put,Za,Zb] <;> exact rfl) ?_) | (refine fC rfl rfl rfl (by simp only [St.put,Za,Zb] <;> exact rfl) ?_)) | (refine cC rfl rfl rfl (by simp only [Za,Zb] <;> exact rfl) (by simp only [Za,Zb] <;> exact rfl) (fun hg => ?_) (fun hg => ?_) <;> (try simp only [Zp,Zi,ZJ,ZK,ne_eq,Zn,Zm,Bool.not_eq_true,Zu] at hg) <;> first | (refine lC rfl rfl rfl (by simp (disch := omega) only [iA,aA,qop,fop,St.ev,St.put,cd,zd,Value.oneCell',lA,TypeDesc.aggB,Z0,fA,oA,Z1,pA,qA,tA,eA,D.pure?,ZC,ZD,cB,iop,uA,D.pv?,tt,nA,Zh] <;> exact rfl) ?_) | (first | (refine eC rfl rfl rfl (by simp only [St.put,Za,Zb] <;> exact rfl) ?_) | (refine fC rfl rfl rfl (by simp only [St.put,Za,Zb] <;> exact rfl) ?_))))
    iterate 2 (all_goals refine kA rfl (by simp (disch := omega) only [iA,aA,qop,fop,St.ev,St.put,cd,zd,Value.oneCell',lA,TypeDesc.aggB,Z0,fA,oA,Z1,pA,qA,tA,eA,D.pure?,ZC,ZD,cB,iop,uA,D.pv?,tt,nA,Zh] <;> exact rfl) ?_)
    iterate 5 (all_goals first | (refine lC rfl rfl rfl (by simp (disch := omega) only [iA,aA,qop,fop,St.ev,St.put,cd,zd,Value.oneCell',lA,TypeDesc.aggB,Z0,fA,oA,Z1,pA,qA,tA,eA,D.pure?,ZC,ZD,cB,iop,uA,D.pv?,tt,nA,Zh] <;> exact rfl) ?_) | (first | (refine eC rfl rfl rfl (by simp only [St.put,Za,Zb] <;> exact rfl) ?_) | (refine fC rfl rfl rfl (by simp only [St.put,Za,Zb] <;> exact rfl) ?_)) | (refine cC rfl rfl rfl (by simp only [Za,Zb] <;> exact rfl) (by simp only [Za,Zb] <;> exact rfl) (fun hg => ?_) (fun hg => ?_) <;> (try simp only [Zp,Zi,ZJ,ZK,ne_eq,Zn,Zm,Bool.not_eq_true,Zu] at hg) <;> first | (refine lC rfl rfl rfl (by simp (disch := omega) only [iA,aA,qop,fop,St.ev,St.put,cd,zd,Value.oneCell',lA,TypeDesc.aggB,Z0,fA,oA,Z1,pA,qA,tA,eA,D.pure?,ZC,ZD,cB,iop,uA,D.pv?,tt,nA,Zh] <;> exact rfl) ?_) | (first | (refine eC rfl rfl rfl (by simp only [St.put,Za,Zb] <;> exact rfl) ?_) | (refine fC rfl rfl rfl (by simp only [St.put,Za,Zb] <;> exact rfl) ?_))))
    iterate 2 (all_goals refine kA rfl (by simp (disch := omega) only [iA,aA,qop,fop,St.ev,St.put,cd,zd,Value.oneCell',lA,TypeDesc.aggB,Z0,fA,oA,Z1,pA,qA,tA,eA,D.pure?,ZC,ZD,cB,iop,uA,D.pv?,tt,nA,Zh] <;> exact rfl) ?_)
    iterate 4 (all_goals first | (refine lC rfl rfl rfl (by simp (disch := omega) only [iA,aA,qop,fop,St.ev,St.put,cd,zd,Value.oneCell',lA,TypeDesc.aggB,Z0,fA,oA,Z1,pA,qA,tA,eA,D.pure?,ZC,ZD,cB,iop,uA,D.pv?,tt,nA,Zh] <;> exact rfl) ?_) | (first | (refine eC rfl rfl rfl (by simp only [St.put,Za,Zb] <;> exact rfl) ?_) | (refine fC rfl rfl rfl (by simp only [St.put,Za,Zb] <;> exact rfl) ?_)) | (refine cC rfl rfl rfl (by simp only [Za,Zb] <;> exact rfl) (by simp only [Za,Zb] <;> exact rfl) (fun hg => ?_) (fun hg => ?_) <;> (try simp only [Zp,Zi,ZJ,ZK,ne_eq,Zn,Zm,Bool.not_eq_true,Zu] at hg) <;> first | (refine lC rfl rfl rfl (by simp (disch := omega) only [iA,aA,qop,fop,St.ev,St.put,cd,zd,Value.oneCell',lA,TypeDesc.aggB,Z0,fA,oA,Z1,pA,qA,tA,eA,D.pure?,ZC,ZD,cB,iop,uA,D.pv?,tt,nA,Zh] <;> exact rfl) ?_) | (first | (refine eC rfl rfl rfl (by simp only [St.put,Za,Zb] <;> exact rfl) ?_) | (refine fC rfl rfl rfl (by simp only [St.put,Za,Zb] <;> exact rfl) ?_))))
    all_goals first | (refine eL rfl rfl rfl (by simp only [aA,St.ev,pB,qB,uA,D.pv?,ZG,ZH,zd,cd,Value.oneCell',Zr] <;> exact rfl) (acK hP (c92 ba bb)) (by simp only [St.put,Za,Zb] <;> exact rfl) ?_) | (first | (refine eC rfl rfl rfl (by simp only [St.put,Za,Zb] <;> exact rfl) ?_) | (refine fC rfl rfl rfl (by simp only [St.put,Za,Zb] <;> exact rfl) ?_)) | (refine cC rfl rfl rfl (by simp only [Za,Zb] <;> exact rfl) (by simp only [Za,Zb] <;> exact rfl) (fun hg => ?_) (fun hg => ?_) <;> (try simp only [Zp,Zi,ZJ,ZK,ne_eq,Zn,Zm,Bool.not_eq_true,Zu] at hg) <;> first | (refine eL rfl rfl rfl (by simp only [aA,St.ev,pB,qB,uA,D.pv?,ZG,ZH,zd,cd,Value.oneCell',Zr] <;> exact rfl) (acK hP (c92 ba bb)) (by simp only [St.put,Za,Zb] <;> exact rfl) ?_) | (first | (refine eC rfl rfl rfl (by simp only [St.put,Za,Zb] <;> exact rfl) ?_) | (refine fC rfl rfl rfl (by simp only [St.put,Za,Zb] <;> exact rfl) ?_)))
    iterate 2 (all_goals refine kA rfl (by simp (disch := omega) only [iA,aA,qop,fop,St.ev,St.put,cd,zd,Value.oneCell',lA,TypeDesc.aggB,Z0,fA,oA,Z1,pA,qA,tA,eA,D.pure?,ZC,ZD,cB,iop,uA,D.pv?,tt,nA,Zh] <;> exact rfl) ?_)
    all_goals refine bA ?_
    all_goals refine ⟨rfl,?_,xD _,yD _,rfl,rfl⟩
    all_goals repeat' (first | exact sA | refine mB ?_ | refine vA rfl ?_ | refine vA ?_ ?_)
    all_goals refine jn ?_
    all_goals ((try simp only [Zp,Zi,ZJ,Zm,ne_eq,Zf] at *) <;> simp_all)
   refine jA ?_
   refine bC ?_
   exact zC rfl (zB rfl (by first | rfl | (first | (refine jf ?_; intro h; cases h; exact hc0 rfl) | (refine jf ?_; intro h; cases h; exact hc2 rfl) | (refine congrArg (fun x => D.p (bv x)) (decide_eq_decide.2 ((aEA ⟨ka,fa,ta,na,va,ea,sa,ba⟩ ⟨kb,fb,tq,nb,vb,eb,sb,bb⟩).trans ⟨fun h => h.1,fun h => ⟨h,show sa = sb from vD hc0 he (by omega)⟩⟩).symm)))))
end Go.Proofs.Ytldcoekbgfaomaa
end
section
namespace Go.Proofs.Ytldcoekbgfaomaa
open Go.RowKit
set_option maxRecDepth 20000
set_option maxHeartbeats 4000000
attribute [local irreducible] kE sD AW
theorem uZ : List.range 8 = [0,1,2,3,4,5,6,7] := rfl
/-- The numbers in extents,as the items of an iterator. -/
def mH (es : List (Int × Int)) : List PV := (vB es).map fun n : Nat => .p (i64 (n : Int))
theorem vF (es : List (Int × Int)) : (mH es).length = (vB es).length := by simp [mH]
theorem oV {es : List (Int × Int)} {i u v k : Nat} (hi : i < es.length) (h : es.getD i (0,0) = ((u : Int),(v : Int))) (hk : k < v) : (mH es)[(vB (es.take i)).length + k]? = some (.p (i64 ((u : Int) + (k : Int)))) := by
 rw [mH,List.getElem?_map,tAA hi h hk]
 simp
theorem vP {es : List (Int × Int)} {k : Nat} {y : PV} (h : (mH es)[k]? = some y) : k < (vB es).length ∧ y = .p (i64 ((vB es).getD k 0 : Nat)) := by
 rw [mH,List.getElem?_map] at h
 obtain ⟨x,hx,rfl⟩ := Option.map_eq_some_iff.1 h
 have hk := (List.getElem?_eq_some_iff.1 hx).1
 refine ⟨hk,?_⟩
 rw [List.getD_eq_getElem?_getD,hx]
 rfl
/-- Pieces of a list of numbers. -/
def tJ (l : List Int) (n i : Nat) : List Int := (l.drop (i * n)).take n
def tG (l : List Int) (n : Nat) : List PV := (List.range (wD l.length n)).map fun i => .p (mF (tJ l n i))
theorem sI (l : List Int) (n : Nat) : (tG l n).length = wD l.length n := by simp [tG]
theorem kN (l : List Int) (n i : Nat) (h : i < wD l.length n) : (tG l n)[i]? = some (.p (mF (tJ l n i))) := by simp [tG,h]
theorem pS {l : List Int} {n k : Nat} {y : PV} (h : (tG l n)[k]? = some y) : k < wD l.length n ∧ y = .p (mF (tJ l n k)) := by
 have hk : k < wD l.length n := by have := (List.getElem?_eq_some_iff.1 h).1; simpa [tG] using this
 rw [kN l n k hk] at h
 injection h with h
 exact ⟨hk,h.symm⟩
theorem pV (l : List Int) (n i : Nat) (k : Nat) (hk : k = min n (l.length - i * n)) : P1.sl k (((l.map i64).drop (i * n)).take k) = mF (tJ l n i) := by
 subst hk
 have e : ((l.map i64).drop (i * n)).take (min n (l.length - i * n)) = (tJ l n i).map i64 := by
  rw [tJ,List.map_take,List.map_drop,List.take_eq_take_iff]
  simp
 rw [e,mF]
 congr 1
 simp [tJ]
theorem gX {n : Nat} : ∀ {es : List (Int × Int)} {st b : Int} {a : Nat},b + 1 = a → AscX n a es → dG st b es = (st,b - st) :: es
 | [],_,_,_,_,_ => rfl
 | e :: r,st,b,a,hb,⟨h1,h2,h3,h4⟩ => by
  rw [dG,if_neg (by omega),gX (a := e.1.toNat + e.2.toNat + 1) (by omega) h4]
  rw [show e.1 + e.2 - e.1 = e.2 by omega]
theorem iX {n a : Nat} {es : List (Int × Int)} (h : AscX n a es) : mG es = es := by
 cases es with
 | nil => rfl
 | cons e r =>
  obtain ⟨h1,h2,h3,h4⟩ := h
  rw [mG,gX (a := e.1.toNat + e.2.toNat + 1) (by omega) h4,show e.1 + e.2 - e.1 = e.2 by omega]
theorem eU {n : Nat} : ∀ {es : List (Int × Int)} {a : Nat} {b : Int},b ≤ a → AscX n a es → AscE b es
 | [],_,_,_,_ => trivial
 | e :: r,a,b,hb,⟨h1,h2,h3,h4⟩ => ⟨by omega,by omega,eU (by omega) h4⟩
theorem iNA {n : Nat} (es : List (Int × Int)) (h : fJ es n = 0) : ACalls Try.prog 73 [.p (gD es),.p (.sl 0 [])] (.p (gD es)) := by
 have ha := (bH h).2
 have hf := wJ h
 have := c73 es 0 (by omega) (fun e he => by
  obtain ⟨u,v,rfl,h1,h2⟩ := ha.at e he
  exact ⟨u,v,rfl,by omega,by omega⟩) (eU (Int.le_refl 0) ha)
 rwa [iX ha] at this
/-- What a request tells. -/
def kI (w : Wa) : List Int := [w.tree.size,w.tree.leaf] ++ w.pend.flatMap fun e => [e.1,e.2]
def tL (w : Wa) : Ms := ⟨13,0,0,w.level,0,0,kI w,[]⟩
theorem tE (es : List (Int × Int)) : (es.flatMap fun e => [e.1,e.2]).length = es.length * 2 := by
 induction es with
 | nil => rfl
 | cons e r ih => simp only [List.flatMap_cons,List.length_append,Zl,Zo,ih]; omega
theorem tF (s f : Int) (es : List (Int × Int)) (i : Nat) (h : i < es.length) : [s,f] ++ (es.take (i + 1)).flatMap (fun e => [e.1,e.2]) = ([s,f] ++ (es.take i).flatMap fun e => [e.1,e.2]) ++ [(es.getD i (0,0)).1,(es.getD i (0,0)).2] := by
 rw [uF es i h,List.flatMap_append]
 simp
theorem eKA (es : List (Int × Int)) (n : Nat) (h : fJ es n = 0) : SeqC Try.prog 114 [gD es] (mH es) := by
 refine yU Try.func114 (c := _) rfl (by kernel_rfl) rfl ?_
 intro X ll hP hX _
 have hb : tb.Ok X.P := hP ▸ oC
 change AW X _ _ ⟨[.yld ll (mH es) 0],[.p (.v (.func (.yield ll) #[] #[])),.ept [gD es] 0,.any,.any,.any,.any,.any,.any,.any,.any,.any,.any,.any,.any,.any,.any,.any,.any,.any,.any,.any,.any,.any,.any,.any,.any],[],[]⟩
 have hfe := wJ h
 have hfn := qK h
 refine cA ?_
 refine gA hX hb [0,1,2] rfl (σ' := ?s1) (fun K hK => ?h1) ?n1
 case h1 =>
  iterate 3 (refine kA rfl (by simp (disch := omega) only [iA,aA,qop,fop,St.ev,St.put,cd,zd,Value.oneCell',lA,TypeDesc.aggB,Z0,Z1,pA,qA,tA,eA,D.pure?,ZC,ZD,vC,tt,Z2] <;> exact rfl) ?_)
  refine bA ?_
  exact hK
 refine jA ?_
 refine tB ?_
 refine rD (ι := Nat) (fun i => i ≤ es.length) (fun i => ⟨[.yld ll (mH es) (vB (es.take i)).length],[.p (.v (.func (.yield ll) #[] #[])),.ept [gD es] 0,.any,.any,.any,.any,.p (gD es),.p (i64 es.length),.p (i64 i),.any,.any,.any,.any,.any,.any,.any,.any,.any,.any,.any,.any,.any,.any,.any,.any,.any],[],[]⟩) (fun i => es.length - i) 0 (by exact Nat.zero_le _) (rC ⟨(by first | rfl | (rw [hnt,List.length_append,List.length_range'])),(by repeat first | exact sA | refine mB ?_ | refine vA (by first | rfl | (rw [hnt,List.length_append,List.length_range'])) ?_),(xB _),(yB _),rfl,rfl⟩) ?_
 rintro i hJ
 refine cA ?_
 refine gA hX hb [0] rfl (σ' := ?s2) (fun K hK => ?h2) ?n2
 case h2 =>
  (refine kA rfl (by simp (disch := omega) only [iA,aA,qop,fop,St.ev,St.put,cd,zd,Value.oneCell',lA,TypeDesc.aggB,Z0,cB,iop,t3,ti3,Z2] <;> exact rfl) ?_)
  refine bA ?_
  exact hK
 refine jA ?_
 refine cA ?_
 refine oB _ rfl (fun hc0 => ?_) (fun hc0 => ?_)
 ·try simp only [Zp,Zi,ZK,ZJ,ne_eq,Zn,Zm,ZB,ZA,ZI,not_or,not_and,Zu] at hc0
  obtain ⟨u,v,huv,hv1,huv2⟩ := xY h (show i < es.length by omega)
  have hnt := mL (show i < es.length by omega) huv
  refine uB ?_
  refine jA ?_
  refine cA ?_
  refine tB ?_
  refine cA ?_
  refine gA hX hb [0,1,2,3] rfl (σ' := ?s3) (fun K hK => ?h3) ?n3
  case h3 =>
   iterate 4 (refine kA rfl (by simp (disch := omega) only [iA,aA,qop,fop,St.ev,St.put,cd,zd,Value.oneCell',lA,TypeDesc.aggB,Z0,Int.toNat_zero,Int.toNat_one,xA,yA,wA,ZO,Nat.mul_one,ZC,Nat.zero_mul,Zh,Z1,pA,qA,tA,eA,D.pure?,ZD,ZM,ZL,ZG,ZH,St.addBox,Value.cells,iC,D.boxCells,D.live,D.cells?,ZN,St.setVec,tt,Z2,huv] <;> exact rfl) ?_)
   refine bA ?_
   exact hK
  refine jA ?_
  refine cA ?_
  refine gA hX hb [0,1,2] rfl (σ' := ?s4) (fun K hK => ?h4) ?n4
  case h4 =>
   iterate 3 (refine kA rfl (by simp (disch := omega) only [iA,aA,qop,fop,St.ev,St.put,cd,zd,Value.oneCell',lA,TypeDesc.aggB,Z0,fA,oA,Z1,pA,qA,tA,eA,D.pure?,ZC,ZD,tt,Z2] <;> exact rfl) ?_)
   refine bA ?_
   exact hK
  refine jA ?_
  refine tB ?_
  refine rD (ι := Nat) (fun k => k ≤ v) (fun k => ⟨[.yld ll (mH es) ((vB (es.take i)).length + k)],[.p (.v (.func (.yield ll) #[] #[])),.ept [gD es] 0,.any,.any,.ptr 0 0,.any,.p (gD es),.p (i64 es.length),.p (i64 i),.any,.any,.any,.any,.p (i64 v),.p (i64 k),.any,.any,.any,.any,.any,.any,.any,.any,.any,.any,.any],[⟨35,[.p (i64 (u : Int)),.p (i64 (v : Int))]⟩],[]⟩) (fun k => v - k) 0 (by exact Nat.zero_le _) (rC ⟨rfl,(by repeat first | exact sA | refine mB ?_ | refine vA rfl ?_),(pC rfl (vA rfl (vA rfl (sA))) (xB _)),(yB _),rfl,rfl⟩) ?_
  rintro k hk
  refine cA ?_
  refine gA hX hb [0] rfl (σ' := ?s5) (fun K hK => ?h5) ?n5
  case h5 =>
   (refine kA rfl (by simp (disch := omega) only [iA,aA,qop,fop,St.ev,St.put,cd,zd,Value.oneCell',lA,TypeDesc.aggB,Z0,cB,iop,t3,ti3,Z2] <;> exact rfl) ?_)
   refine bA ?_
   exact hK
  refine jA ?_
  refine cA ?_
  refine oB _ rfl (fun hc1 => ?_) (fun hc1 => ?_)
  ·try simp only [Zp,Zi,ZK,ZJ,ne_eq,Zn,Zm,ZB,ZA,ZI,not_or,not_and,Zu] at hc1
   refine uB ?_
   refine jA ?_
   refine cA ?_
   refine tB ?_
   refine cA ?_
   refine gA hX hb [0,1] rfl (σ' := ?s6) (fun K hK => ?h6) ?n6
   case h6 =>
    iterate 2 (refine kA rfl (by simp (disch := omega) only [iA,aA,qop,fop,St.ev,St.put,cd,zd,Value.oneCell',lA,TypeDesc.aggB,Z0,Z2] <;> exact rfl) ?_)
    refine bA ?_
    exact hK
   refine jA ?_
   refine cA ?_
   refine gA hX hb [0,1,2,3,4,5,6] rfl (σ' := ?s7) (fun K hK => ?h7) ?n7
   case h7 =>
    iterate 5 (refine kA rfl (by simp (disch := omega) only [iA,aA,qop,fop,St.ev,St.put,cd,zd,Value.oneCell',lA,TypeDesc.aggB,Z0,fA,oA,Z1,pA,qA,tA,eA,D.pure?,ZC,ZD,cB,iop,uA,D.pv?,Bool.not_true,Bool.not_false,tt,Z2] <;> exact rfl) ?_)
    refine mGA rfl rfl (by simp only [St.ev,pB,qB,zd,cd,Value.oneCell',Zr] <;> exact rfl) (by simp only [uA,pD,D.pvC?,D.pvN?,D.pvL?,eA,D.pv?,D.pure?,St.ev,pB,qB,zd,cd,Value.oneCell',Zr,ZG,ZH,Zd,Zc,Zg] <;> exact rfl) rfl (oV (show i < es.length by omega) huv (show k < v by omega)) (by simp only [St.put,Za,Zb] <;> exact rfl) ?_
    (refine kA rfl (by simp (disch := omega) only [iA,aA,qop,fop,St.ev,St.put,cd,zd,Value.oneCell',lA,TypeDesc.aggB,Z0,fA,oA,Z1,pA,qA,tA,eA,D.pure?,ZC,ZD,cB,iop,uA,D.pv?,Bool.not_true,Bool.not_false,tt,Z2] <;> exact rfl) ?_)
    refine bA ?_
    exact hK
   refine jA ?_
   refine oB _ rfl (fun hc2 => ?_) (fun hc2 => ?_)
   ·try simp only [Zp,Zi,ZK,ZJ,ne_eq,Zn,Zm,ZB,ZA,ZI,not_or,not_and,Zu] at hc2
    cases hc2
   ·try simp only [Zp,Zi,ZK,ZJ,ne_eq,Zn,Zm,ZB,ZA,ZI,not_or,not_and,Zu] at hc2
    refine uB ?_
    refine cE ?_
    refine jA ?_
    refine gA hX hb [0,1] rfl (σ' := ?s8) (fun K hK => ?h8) ?n8
    case h8 =>
     iterate 2 (refine kA rfl (by simp (disch := omega) only [iA,aA,qop,fop,St.ev,St.put,cd,zd,Value.oneCell',lA,TypeDesc.aggB,Z0,cB,iop,tt,Z2] <;> exact rfl) ?_)
     refine bA ?_
     exact hK
    refine jA ?_
    exact ⟨k + 1,by (try dsimp only); omega,by (try dsimp only); omega,rC ⟨rfl,(by repeat first | exact sA | refine mB ?_ | refine vA rfl ?_),(pC rfl (vA rfl (vA rfl (sA))) (xB _)),(yB _),rfl,rfl⟩⟩
  ·try simp only [Zp,Zi,ZK,ZJ,ne_eq,Zn,Zm,ZB,ZA,ZI,not_or,not_and,Zu] at hc1
   obtain rfl : k = v := by omega
   refine oD ?_
   refine fD ?_
   refine fD ?_
   refine zE ?_
   refine cE ?_
   refine jA ?_
   refine gA hX hb [0,1] rfl (σ' := ?s9) (fun K hK => ?h9) ?n9
   case h9 =>
    iterate 2 (refine kA rfl (by simp (disch := omega) only [iA,aA,qop,fop,St.ev,St.put,cd,zd,Value.oneCell',lA,TypeDesc.aggB,Z0,cB,iop,tt,Z2] <;> exact rfl) ?_)
    refine bA ?_
    exact hK
   refine jA ?_
   exact ⟨i + 1,by (try dsimp only); omega,by (try dsimp only); omega,rC ⟨(by first | rfl | (rw [hnt,List.length_append,List.length_range'])),(by repeat first | exact sA | refine mB ?_ | refine vA (by first | rfl | (rw [hnt,List.length_append,List.length_range'])) ?_),(xB _),(yB _),rfl,rfl⟩⟩
 ·try simp only [Zp,Zi,ZK,ZJ,ne_eq,Zn,Zm,ZB,ZA,ZI,not_or,not_and,Zu] at hc0
  refine oD ?_
  refine fD ?_
  refine fD ?_
  refine zE ?_
  exact xU rfl (by first | rfl | ((obtain rfl : i = es.length := by omega); rw [List.take_length,vF]))
theorem c89 (es : List (Int × Int)) : ACalls Try.prog 89 [.p (gD es)] (.p (.clo 114 [gD es])) := by
 refine nO Try.func89 (c := _) rfl (by kernel_rfl) (t := 2) rfl ?_
 intro X hP hX hro hpl
 have hb : tb.Ok X.P := hP ▸ oC
 change AW X _ _ ⟨[],[.p (gD es),.any,.any,.any],[],[]⟩
 refine cA ?_
 refine gA hX hb [0,1] rfl (σ' := ?s1) (fun K hK => ?h1) ?n1
 case h1 =>
  iterate 2 (refine kA rfl (by simp (disch := omega) only [iA,aA,qop,fop,St.ev,St.put,cd,zd,Value.oneCell',lA,TypeDesc.aggB,Z0,ZM,ZL,Zl,Zo,ZG,ZH,St.addBox,D.boxCells,D.live,tt] <;> exact rfl) ?_)
  refine bA ?_
  exact hK
 refine jA ?_
 refine cA ?_
 refine gA hX hb [0,1] rfl (σ' := ?s2) (fun K hK => ?h2) ?n2
 case h2 =>
  iterate 2 (refine kA rfl (by simp (disch := omega) only [iA,aA,qop,fop,St.ev,St.put,cd,zd,Value.oneCell',lA,TypeDesc.aggB,Z0,pL,eq_self,Array.toList,tt] <;> exact rfl) ?_)
  refine bA ?_
  exact hK
 refine jA ?_
 refine bC ?_
 exact kY [0] rfl (by simp only [pD,D.pure?,Zd,Zc] <;> exact rfl)
theorem jNA (l : List Int) (n : Nat) (hn : 1 ≤ n ∧ n ≤ 4294967296) (hl : l.length ≤ 4294967296) : SeqC Try.prog 113 [mF l,i64 n] (tG l n) := by
 refine yU Try.func113 (c := _) rfl (by kernel_rfl) rfl ?_
 intro X ll hP hX _
 have hb : tb.Ok X.P := hP ▸ oC
 change AW X _ _ ⟨[.yld ll (tG l n) 0],[.p (.v (.func (.yield ll) #[] #[])),.ept [mF l] 0,.ept [i64 n] 0,.any,.any,.any,.any,.any,.any,.any,.any,.any,.any,.any,.any,.any,.any,.any,.any,.any,.any,.any,.any,.any,.any,.any,.any,.any,.any,.any,.any],[],[]⟩
 refine cA ?_
 refine gA hX hb [0] rfl (σ' := ?s1) (fun K hK => ?h1) ?n1
 case h1 =>
  (refine kA rfl (by simp (disch := omega) only [iA,aA,qop,fop,St.ev,St.put,cd,zd,Value.oneCell',lA,TypeDesc.aggB,Z0,Zh,ZO,Nat.mul_one] <;> exact rfl) ?_)
  refine bA ?_
  exact hK
 refine jA ?_
 refine tB ?_
 refine rD (ι := Nat) (fun i => i ≤ wD l.length n) (fun i => ⟨[.yld ll (tG l n) i],[.p (.v (.func (.yield ll) #[] #[])),.ept [mF l] 0,.ept [i64 n] 0,.any,.p (i64 (i * n : Nat)),.any,.any,.any,.any,.any,.any,.any,.any,.any,.any,.any,.any,.any,.any,.any,.any,.any,.any,.any,.any,.any,.any,.any,.any,.any,.any],[],[]⟩) (fun i => wD l.length n - i) 0 (by exact Nat.zero_le _) (rC ⟨(by first | rfl | (simp [Nat.succ_mul])),(by repeat first | exact sA | refine mB ?_ | refine vA (by first | rfl | (simp [Nat.succ_mul])) ?_),(xB _),(yB _),rfl,rfl⟩) ?_
 rintro i hJ
 have hin : i * n ≤ l.length + n := by
  rcases Nat.eq_zero_or_pos i with h | h
  ·subst h; omega
  ·have := vN (s := l.length) (n := n) (i := i - 1) (by omega) (by omega)
   have e : (i - 1) * n + n = i * n := by rw [← Nat.succ_mul]; congr 1; omega
   omega
 refine cA ?_
 refine cA ?_
 refine gA hX hb [0,1,2,3] rfl (σ' := ?s2) (fun K hK => ?h2) ?n2
 case h2 =>
  iterate 4 (refine kA rfl (by simp (disch := omega) only [iA,aA,qop,fop,St.ev,St.put,cd,zd,Value.oneCell',lA,TypeDesc.aggB,Z0,Z1,pA,qA,tA,eA,D.pure?,ZC,ZD,vC,cB,iop,tt,Zh,ZO,Nat.mul_one] <;> exact rfl) ?_)
  refine bA ?_
  exact hK
 refine jA ?_
 refine oB _ rfl (fun hc0 => ?_) (fun hc0 => ?_)
 ·try simp only [Zp,Zi,ZK,ZJ,ne_eq,Zn,Zm,ZB,ZA,ZI,not_or,not_and,Zu] at hc0
  have hil := nZ (s := l.length) (n := n) (i := i) (by omega) (by omega)
  refine uB ?_
  refine jA ?_
  refine cA ?_
  refine tB ?_
  refine cA ?_
  refine dF hX hb (jD hP) [(0,true),(1,true),(2,true),(3,true),(4,true),(5,true),(6,true)] (by kernel_rfl) (σ' := ?s3) (fun K hK => ?h3) ?n3
  case h3 =>
   iterate 7 (refine eF rfl (by simp (disch := omega) only [qop,fop,St.ev,St.put,cd,zd,Value.oneCell',lA,TypeDesc.aggB,Z0,Z1,pA,qA,tA,eA,D.pure?,ZC,ZD,imp_self,Int.toNat_one,Int.toNat_zero,Nat.one_mul,nI,bnd,Option.isSome_none,ZP,Option.map_none,implies_true,forall_const,ZO,Nat.sub_zero,vC,aF,tt,Zh,Nat.mul_one] <;> exact rfl) (by simp only [St.put,Za,Zb] <;> exact rfl) ?_)
   refine xC ?_
   exact hK
  refine jA ?_
  refine cA ?_
  refine gA hX hb [0,1,2,3,4,5,6,7,8,9,10,11] rfl (σ' := ?s4) (fun K hK => ?h4) ?n4
  case h4 =>
   iterate 10 (refine kA rfl (by simp (disch := omega) only [iA,aA,qop,fop,St.ev,St.put,cd,zd,Value.oneCell',lA,TypeDesc.aggB,Z0,Z1,pA,qA,tA,eA,D.pure?,ZC,ZD,cB,iop,imp_self,Int.toNat_one,Int.toNat_zero,Nat.one_mul,nI,bnd,Option.isSome_none,ZP,Option.map_none,implies_true,forall_const,ZO,Nat.sub_zero,uA,D.pv?,Bool.not_true,Bool.not_false,tt,Zh,Nat.mul_one] <;> exact rfl) ?_)
   refine mGA rfl rfl (by simp only [St.ev,pB,qB,zd,cd,Value.oneCell',Zr] <;> exact rfl) (by simp only [uA,pD,D.pvC?,D.pvN?,D.pvL?,eA,D.pv?,D.pure?,St.ev,pB,qB,zd,cd,Value.oneCell',Zr,ZG,ZH,Zd,Zc,Zg] <;> exact rfl) rfl ((kN l n i hil).trans (by refine congrArg some (congrArg PV.p ?_); exact (pV l n i _ (by omega)).symm)) (by simp only [St.put,Za,Zb] <;> exact rfl) ?_
   (refine kA rfl (by simp (disch := omega) only [iA,aA,qop,fop,St.ev,St.put,cd,zd,Value.oneCell',lA,TypeDesc.aggB,Z0,Z1,pA,qA,tA,eA,D.pure?,ZC,ZD,cB,iop,imp_self,Int.toNat_one,Int.toNat_zero,Nat.one_mul,nI,bnd,Option.isSome_none,ZP,Option.map_none,implies_true,forall_const,ZO,Nat.sub_zero,uA,D.pv?,Bool.not_true,Bool.not_false,tt,Zh,Nat.mul_one] <;> exact rfl) ?_)
   refine bA ?_
   exact hK
  refine jA ?_
  refine oB _ rfl (fun hc1 => ?_) (fun hc1 => ?_)
  ·try simp only [Zp,Zi,ZK,ZJ,ne_eq,Zn,Zm,ZB,ZA,ZI,not_or,not_and,Zu] at hc1
   cases hc1
  ·try simp only [Zp,Zi,ZK,ZJ,ne_eq,Zn,Zm,ZB,ZA,ZI,not_or,not_and,Zu] at hc1
   refine uB ?_
   refine cE ?_
   refine jA ?_
   refine gA hX hb [0,1,2,3] rfl (σ' := ?s5) (fun K hK => ?h5) ?n5
   case h5 =>
    iterate 4 (refine kA rfl (by simp (disch := omega) only [iA,aA,qop,fop,St.ev,St.put,cd,zd,Value.oneCell',lA,TypeDesc.aggB,Z0,Z1,pA,qA,tA,eA,D.pure?,ZC,ZD,cB,iop,tt,Zh,ZO,Nat.mul_one] <;> exact rfl) ?_)
    refine bA ?_
    exact hK
   refine jA ?_
   exact ⟨i + 1,by (try dsimp only); omega,by (try dsimp only); omega,rC ⟨(by first | rfl | (simp [Nat.succ_mul])),(by repeat first | exact sA | refine mB ?_ | refine vA (by first | rfl | (simp [Nat.succ_mul])) ?_),(xB _),(yB _),rfl,rfl⟩⟩
 ·try simp only [Zp,Zi,ZK,ZJ,ne_eq,Zn,Zm,ZB,ZA,ZI,not_or,not_and,Zu] at hc0
  refine oD ?_
  refine fD ?_
  refine fD ?_
  refine zE ?_
  exact xU rfl (by first | rfl | ((have : ¬ i < wD l.length n := fun h => absurd (vN (by omega) h) (by omega)); rw [sI]; omega))
theorem c87 (l : List Int) (n : Nat) (hn : 1 ≤ n) : ACalls Try.prog 87 [.p (mF l),.p (i64 n)] (.p (.clo 113 [mF l,i64 n])) := by
 refine nO Try.func87 (c := _) rfl (by kernel_rfl) (t := 4) rfl ?_
 intro X hP hX hro hpl
 have hb : tb.Ok X.P := hP ▸ oC
 change AW X _ _ ⟨[],[.p (mF l),.p (i64 n),.any,.any,.any,.any,.any,.any,.any],[],[]⟩
 refine cA ?_
 refine gA hX hb [0,1,2] rfl (σ' := ?s1) (fun K hK => ?h1) ?n1
 case h1 =>
  iterate 3 (refine kA rfl (by simp (disch := omega) only [iA,aA,qop,fop,St.ev,St.put,cd,zd,Value.oneCell',lA,TypeDesc.aggB,Z0,ZM,ZL,Zl,Zo,ZG,ZH,St.addBox,D.boxCells,D.live,tt] <;> exact rfl) ?_)
  refine bA ?_
  exact hK
 refine jA ?_
 refine cA ?_
 refine cA ?_
 refine gA hX hb [0,1] rfl (σ' := ?s2) (fun K hK => ?h2) ?n2
 case h2 =>
  iterate 2 (refine kA rfl (by simp (disch := omega) only [iA,aA,qop,fop,St.ev,St.put,cd,zd,Value.oneCell',lA,TypeDesc.aggB,Z0,Z1,pA,qA,tA,eA,D.pure?,ZC,ZD,cB,iop,tt] <;> exact rfl) ?_)
  refine bA ?_
  exact hK
 refine jA ?_
 refine oB _ rfl (fun hc0 => ?_) (fun hc0 => ?_)
 ·try simp only [Zp,Zi,ZK,ZJ,ne_eq,Zn,Zm,ZB,ZA,ZI,not_or,not_and,Zu] at hc0
  exfalso; omega
 ·try simp only [Zp,Zi,ZK,ZJ,ne_eq,Zn,Zm,ZB,ZA,ZI,not_or,not_and,Zu] at hc0
  refine uB ?_
  refine jA ?_
  refine cA ?_
  refine gA hX hb [0,1] rfl (σ' := ?s3) (fun K hK => ?h3) ?n3
  case h3 =>
   iterate 2 (refine kA rfl (by simp (disch := omega) only [iA,aA,qop,fop,St.ev,St.put,cd,zd,Value.oneCell',lA,TypeDesc.aggB,Z0,pL,eq_self,Array.toList,tt] <;> exact rfl) ?_)
   refine bA ?_
   exact hK
  refine jA ?_
  refine bC ?_
  exact kY [0,1] rfl (by simp only [pD,D.pure?,Zd,Zc] <;> exact rfl)
theorem c93 (es : List (Int × Int)) (n : Nat) (h : fJ es n = 0) : ACalls Try.prog 93 [.p (gD es)] (.p (i64 ((vB es).length : Nat))) := by
 refine wC oC Try.func93 (c := _) rfl (by kernel_rfl) ?_
 intro X hP hX hro hpl
 have hb : tb.Ok X.P := hP ▸ oC
 change AW X _ _ ⟨[],[.p (gD es),.any,.any,.any,.any,.any,.any,.any,.any,.any,.any,.any,.any,.any,.any,.any,.any,.any,.any],[],[]⟩
 have hfe := wJ h
 have hfn := qK h
 refine cA ?_
 refine gA hX hb [0] rfl (σ' := ?s1) (fun K hK => ?h1) ?n1
 case h1 =>
  (refine kA rfl (by simp (disch := omega) only [iA,aA,qop,fop,St.ev,St.put,cd,zd,Value.oneCell',lA,TypeDesc.aggB,Z0,Z2] <;> exact rfl) ?_)
  refine bA ?_
  exact hK
 refine jA ?_
 refine cA ?_
 refine gA hX hb [0] rfl (σ' := ?s2) (fun K hK => ?h2) ?n2
 case h2 =>
  (refine kA rfl (by simp (disch := omega) only [iA,aA,qop,fop,St.ev,St.put,cd,zd,Value.oneCell',lA,TypeDesc.aggB,Z0,Z2] <;> exact rfl) ?_)
  refine bA ?_
  exact hK
 refine jA ?_
 refine cA ?_
 refine cA ?_
 refine gA hX hb [0,1,2,3] rfl (σ' := ?s3) (fun K hK => ?h3) ?n3
 case h3 =>
  (refine kA rfl (by simp (disch := omega) only [iA,aA,qop,fop,St.ev,St.put,cd,zd,Value.oneCell',lA,TypeDesc.aggB,Z0,uA,D.pv?,vC,tt,Z2] <;> exact rfl) ?_)
  refine mD rfl (by simp only [aA,St.ev,pB,qB,uA,D.pv?,ZG,ZH,zd,cd,Value.oneCell',Zr] <;> exact rfl) (acK hP (iNA es h)) (by simp only [St.put,Za,Zb] <;> exact rfl) ?_
  iterate 2 (refine kA rfl (by simp (disch := omega) only [iA,aA,qop,fop,St.ev,St.put,cd,zd,Value.oneCell',lA,TypeDesc.aggB,Z0,uA,D.pv?,vC,tt,Z2] <;> exact rfl) ?_)
  refine bA ?_
  exact hK
 refine jA ?_
 refine tB ?_
 refine rD (ι := Nat) (fun i => i ≤ es.length) (fun i => ⟨[],[.any,.any,.any,.p (i64 ((vB (es.take i)).length : Nat)),.any,.any,.any,.p (gD es),.p (i64 es.length),.p (i64 i),.any,.any,.any,.any,.any,.any,.any,.any,.any],[],[]⟩) (fun i => es.length - i) 0 (by exact Nat.zero_le _) (rC ⟨rfl,(by repeat first | exact sA | refine mB ?_ | refine vA (by first | rfl | (rw [hnt,List.length_append,List.length_range']; rfl)) ?_),(xB _),(yB _),rfl,rfl⟩) ?_
 rintro i hJ
 refine cA ?_
 refine gA hX hb [0] rfl (σ' := ?s4) (fun K hK => ?h4) ?n4
 case h4 =>
  (refine kA rfl (by simp (disch := omega) only [iA,aA,qop,fop,St.ev,St.put,cd,zd,Value.oneCell',lA,TypeDesc.aggB,Z0,cB,iop,t3,ti3,Z2] <;> exact rfl) ?_)
  refine bA ?_
  exact hK
 refine jA ?_
 refine cA ?_
 refine oB _ rfl (fun hc0 => ?_) (fun hc0 => ?_)
 ·try simp only [Zp,Zi,ZK,ZJ,ne_eq,Zn,Zm,ZB,ZA,ZI,not_or,not_and,Zu] at hc0
  obtain ⟨u,v,huv,hv1,huv2⟩ := xY h (show i < es.length by omega)
  have hnt := mL (show i < es.length by omega) huv
  have hns := congrArg List.length (sM es (i + 1))
  rw [List.length_append,hnt,List.length_append,List.length_range'] at hns
  refine uB ?_
  refine jA ?_
  refine cA ?_
  refine tB ?_
  refine cA ?_
  refine gA hX hb [0,1,2,3] rfl (σ' := ?s5) (fun K hK => ?h5) ?n5
  case h5 =>
   iterate 4 (refine kA rfl (by simp (disch := omega) only [iA,aA,qop,fop,St.ev,St.put,cd,zd,Value.oneCell',lA,TypeDesc.aggB,Z0,Int.toNat_zero,Int.toNat_one,xA,yA,wA,ZO,Nat.mul_one,ZC,Nat.zero_mul,Zh,Z1,pA,qA,tA,eA,D.pure?,ZD,ZM,ZL,ZG,ZH,St.addBox,Value.cells,iC,D.boxCells,D.live,D.cells?,ZN,St.setVec,tt,Z2,huv] <;> exact rfl) ?_)
   refine bA ?_
   exact hK
  refine jA ?_
  refine gA hX hb [0,1,2,3,4] rfl (σ' := ?s6) (fun K hK => ?h6) ?n6
  case h6 =>
   iterate 5 (refine kA rfl (by simp (disch := omega) only [iA,aA,qop,fop,St.ev,St.put,cd,zd,Value.oneCell',lA,TypeDesc.aggB,Z0,fA,oA,Z1,pA,qA,tA,eA,D.pure?,ZC,ZD,cB,iop,tt,Z2] <;> exact rfl) ?_)
   refine bA ?_
   exact hK
  refine cE ?_
  refine jA ?_
  refine gA hX hb [0,1] rfl (σ' := ?s7) (fun K hK => ?h7) ?n7
  case h7 =>
   iterate 2 (refine kA rfl (by simp (disch := omega) only [iA,aA,qop,fop,St.ev,St.put,cd,zd,Value.oneCell',lA,TypeDesc.aggB,Z0,cB,iop,tt,Z2] <;> exact rfl) ?_)
   refine bA ?_
   exact hK
  refine jA ?_
  exact ⟨i + 1,by (try dsimp only); omega,by (try dsimp only); omega,rC ⟨rfl,(by repeat first | exact sA | refine mB ?_ | refine vA (by first | rfl | (rw [hnt,List.length_append,List.length_range']; rfl)) ?_),(xB _),(yB _),rfl,rfl⟩⟩
 ·try simp only [Zp,Zi,ZK,ZJ,ne_eq,Zn,Zm,ZB,ZA,ZI,not_or,not_and,Zu] at hc0
  refine oD ?_
  refine fD ?_
  refine fD ?_
  refine zE ?_
  refine jA ?_
  refine cA ?_
  refine gA hX hb [0,1] rfl (σ' := ?s8) (fun K hK => ?h8) ?n8
  case h8 =>
   iterate 2 (refine kA rfl (by simp (disch := omega) only [iA,aA,qop,fop,St.ev,St.put,cd,zd,Value.oneCell',lA,TypeDesc.aggB,Z0,t3,ti3,Z2] <;> exact rfl) ?_)
   refine bA ?_
   exact hK
  refine jA ?_
  refine bC ?_
  exact zC rfl (zB rfl (by first | rfl | ((obtain rfl : i = es.length := by omega); rw [List.take_length]; rfl)))
theorem kNA (out : List (Int × Int)) (x n : Nat) (hsm : AddS n out) (hn : n ≤ 1000000) (hx : x ≤ 4294967295) : ACallsV Try.prog 117 ⟨35,2,out.length,dE out⟩ ⟨35,2,(dR out (x : Int)).length,dE (dR out (x : Int))⟩ [.p (i64 x)] := by
 refine nY Try.func117 (c := _) rfl (by kernel_rfl) (t := 4) rfl ?_
 intro X hP hX hro hpl
 have hb : tb.Ok X.P := hP ▸ oC
 change AW X _ _ ⟨[],[.vref 0,.p (i64 x),.any,.any,.any,.any,.any,.any,.any,.any,.any,.any,.any,.any,.any,.any,.any,.any,.any,.any,.any,.any,.any,.any,.any,.any,.any,.any,.any,.any,.any,.any,.any,.any,.any,.any,.any,.any,.any,.any,.any,.any],[],[some ⟨35,2,out.length,dE out⟩]⟩
 have hll := hsm.last
 have hol := hsm.1
 refine cA ?_
 refine gA hX hb [0] rfl (σ' := ?s1) (fun K hK => ?h1) ?n1
 case h1 =>
  (refine kA rfl (by simp (disch := omega) only [iA,aA,qop,fop,St.ev,St.put,cd,zd,Value.oneCell',lA,TypeDesc.aggB,Z0,Z2] <;> exact rfl) ?_)
  refine bA ?_
  exact hK
 refine jA ?_
 refine cA ?_
 refine cA ?_
 refine gA hX hb [0,1,2] rfl (σ' := ?s2) (fun K hK => ?h2) ?n2
 case h2 =>
  iterate 3 (refine kA rfl (by simp (disch := omega) only [iA,aA,qop,fop,St.ev,St.put,cd,zd,Value.oneCell',lA,TypeDesc.aggB,Z0,vC,tt,Z2] <;> exact rfl) ?_)
  refine bA ?_
  exact hK
 refine jA ?_
 refine cA ?_
 refine eN hX hb (jD hP) [(0,true),(1,true),(2,true),(3,true),(4,true),(5,true),(6,true),(7,true),(8,true),(9,true),(10,true),(11,true),(12,true),(13,true),(14,true),(15,true),(16,true),(17,true),(18,true)] (by kernel_rfl) (ts := [8,9,10,11,12,13,14,15,16,17,18,19,20,21,22,23,24,25]) (t := 26) (d := .p (bv (0 < out.length ∧ (out.getD (out.length - 1) (0,0)).1 + (out.getD (out.length - 1) (0,0)).2 = (x : Int)))) (σ' := ?s3) ?j3 ?h3 ?n3
 case j3 => simp only [St.join,List.foldl,Za,Zb]; exact rfl
 case h3 =>
  iterate 3 (all_goals refine eF rfl (by simp (disch := omega) only [qop,fop,St.ev,St.put,cd,zd,Value.oneCell',lA,TypeDesc.aggB,Z0,cB,iop,Int.toNat_zero,Int.toNat_one,xA,yA,wA,ZO,Nat.mul_one,ZC,Nat.zero_mul,Zh,fA,oA,Z1,pA,qA,tA,eA,D.pure?,ZD,tt,Z2] <;> exact rfl) (by simp only [St.put,Za,Zb] <;> exact rfl) ?_)
  iterate 15 (all_goals first | (refine fL rfl rfl rfl (by simp (disch := omega) only [qop,fop,St.ev,St.put,cd,zd,Value.oneCell',lA,TypeDesc.aggB,Z0,cB,iop,Int.toNat_zero,Int.toNat_one,xA,yA,wA,ZO,Nat.mul_one,ZC,Nat.zero_mul,Zh,fA,oA,Z1,pA,qA,tA,eA,D.pure?,ZD,tt,Z2] <;> exact rfl) rfl (by simp only [St.put,Za,Zb] <;> exact rfl) ?_) | (first | (refine kK rfl rfl rfl (by simp only [St.put,Za,Zb] <;> exact rfl) ?_) | (refine jK rfl rfl rfl (by simp only [St.put,Za,Zb] <;> exact rfl) ?_)) | (refine yJ rfl rfl rfl (by simp only [Za,Zb] <;> exact rfl) (by simp only [Za,Zb] <;> exact rfl) (fun hg => ?_) (fun hg => ?_) <;> (try simp only [Zp,Zi,ZJ,ZK,ne_eq,Zn,Zm,Bool.not_eq_true,Zu] at hg) <;> first | (refine fL rfl rfl rfl (by simp (disch := omega) only [qop,fop,St.ev,St.put,cd,zd,Value.oneCell',lA,TypeDesc.aggB,Z0,cB,iop,Int.toNat_zero,Int.toNat_one,xA,yA,wA,ZO,Nat.mul_one,ZC,Nat.zero_mul,Zh,fA,oA,Z1,pA,qA,tA,eA,D.pure?,ZD,tt,Z2] <;> exact rfl) rfl (by simp only [St.put,Za,Zb] <;> exact rfl) ?_) | (first | (refine kK rfl rfl rfl (by simp only [St.put,Za,Zb] <;> exact rfl) ?_) | (refine jK rfl rfl rfl (by simp only [St.put,Za,Zb] <;> exact rfl) ?_))))
  (all_goals refine eF rfl (by simp (disch := omega) only [qop,fop,St.ev,St.put,cd,zd,Value.oneCell',lA,TypeDesc.aggB,Z0,cB,iop,Int.toNat_zero,Int.toNat_one,xA,yA,wA,ZO,Nat.mul_one,ZC,Nat.zero_mul,Zh,fA,oA,Z1,pA,qA,tA,eA,D.pure?,ZD,tt,Z2] <;> exact rfl) (by simp only [St.put,Za,Zb] <;> exact rfl) ?_)
  all_goals refine xC ?_
  all_goals refine ⟨rfl,?_,xD _,yD _,rfl,rfl⟩
  all_goals repeat' (first | exact sA | refine mB ?_ | refine vA rfl ?_ | refine vA ?_ ?_)
  all_goals refine jn ?_
  all_goals ((try simp only [Zp,Zi,ZJ,ZK,Bool.not_eq_true,Zm,Zn,ne_eq,Zf,true_iff,false_iff,iff_true,iff_false] at *) <;> omega)
 refine jA ?_
 refine oB _ rfl (fun hc0 => ?_) (fun hc0 => ?_)
 ·try simp only [Zp,Zi,ZK,ZJ,ne_eq,Zn,Zm,ZB,ZA,ZI,not_or,not_and,Zu] at hc0
  refine cA ?_
  refine gA hX hb [0,1,2,3,4,5,6,7,8,9] rfl (σ' := ?s4) (fun K hK => ?h4) ?n4
  case h4 =>
   iterate 10 (refine kA rfl (by simp (disch := omega) only [iA,aA,qop,fop,St.ev,St.put,cd,zd,Value.oneCell',lA,TypeDesc.aggB,Z0,cB,iop,Int.toNat_zero,Int.toNat_one,xA,yA,wA,ZO,Nat.mul_one,ZC,Nat.zero_mul,Zh,fA,oA,Z1,pA,qA,tA,eA,D.pure?,ZD,iC,D.boxCells,D.live,D.cells?,ZM,ZL,ZN,ZG,ZH,St.setVec,tt,Z2] <;> exact rfl) ?_)
   refine bA ?_
   exact hK
  refine jA ?_
  refine cA ?_
  refine gA hX hb [0,1] rfl (σ' := ?s5) (fun K hK => ?h5) ?n5
  case h5 =>
   iterate 2 (refine kA rfl (by simp (disch := omega) only [iA,aA,qop,fop,St.ev,St.put,cd,zd,Value.oneCell',lA,TypeDesc.aggB,Z0,Z2] <;> exact rfl) ?_)
   refine bA ?_
   exact hK
  refine jA ?_
  refine bC ?_
  refine tC ?_
  exact eK 0 rfl rfl (by first | rfl | (first | (dsimp only; rw [nV hc0,cO out _ hc0.1]; simp; omega) | (dsimp only; rw [oS (by omega),jC]; simp)))
 ·try simp only [Zp,Zi,ZK,ZJ,ne_eq,Zn,Zm,ZB,ZA,ZI,not_or,not_and,Zu] at hc0
  refine uB ?_
  refine jA ?_
  refine cA ?_
  refine gA hX hb [0,1,2,3,4,5] rfl (σ' := ?s6) (fun K hK => ?h6) ?n6
  case h6 =>
   iterate 6 (refine kA rfl (by simp (disch := omega) only [iA,aA,qop,fop,St.ev,St.put,cd,zd,Value.oneCell',lA,TypeDesc.aggB,Z0,aE,cD,mC,aC,D.cell1,fB,gB,iB,jB,kB,List.all_cons,List.all_nil,uC,TI.place,TI.zeros,TI.kindOk,D.cells?,D.pure?,zp,Value.cells,ZQ,ZP,Z1,zD,aD,bD,bE,bB,rB,ZG,ZH,ZL,ZM,ZN,aB,Nat.reduceAdd,Nat.reduceMul,nD,cG,St.demote,D.demote,St.setVec,Zh,List.length_append,ZC,Nat.mul_one,reduceIte,tt,Z2] <;> exact rfl) ?_)
   refine bA ?_
   exact hK
  refine jA ?_
  refine bC ?_
  exact eK 0 rfl rfl (by first | rfl | (first | (dsimp only; rw [nV hc0,cO out _ hc0.1]; simp; omega) | (dsimp only; rw [oS (by omega),jC]; simp)))
theorem c82 (t : Tr) (h : t.lv.length ≤ 4096 ∧ ∀ r ∈ t.lv,r.length ≤ 4096) : ACalls Try.prog 82 [trP t] (trP t |>.d) := by
 obtain ⟨s,f,lv⟩ := t
 dsimp only at h
 refine wC oC Try.func82 (c := _) rfl (by kernel_rfl) ?_
 intro X hP hX hro hpl
 have hb : tb.Ok X.P := hP ▸ oC
 change AW X _ _ ⟨[],[.agg [i64 s,i64 f,iE lv],.any,.any,.any,.any,.any,.any,.any,.any,.any,.any,.any,.any,.any,.any,.any,.any,.any,.any,.any,.any,.any,.any,.any,.any,.any],[],[]⟩
 refine cA ?_
 refine gA hX hb [0,1] rfl (σ' := ?s1) (fun K hK => ?h1) ?n1
 case h1 =>
  iterate 2 (refine kA rfl (by simp (disch := omega) only [iA,aA,qop,fop,St.ev,St.put,cd,zd,Value.oneCell',lA,TypeDesc.aggB,Z0,ZM,ZL,Zl,Zo,ZG,ZH,St.addBox,D.boxCells,D.live,Value.cells,tt,mA,Zh] <;> exact rfl) ?_)
  refine bA ?_
  exact hK
 refine jA ?_
 refine cA ?_
 refine gA hX hb [0,1,2,3,4] rfl (σ' := ?s2) (fun K hK => ?h2) ?n2
 case h2 =>
  iterate 5 (refine kA rfl (by simp (disch := omega) only [iA,aA,qop,fop,St.ev,St.put,cd,zd,Value.oneCell',lA,TypeDesc.aggB,Z0,fA,oA,Z1,pA,qA,tA,eA,D.pure?,ZC,ZD,vC,kO,St.addVec,tt,mA,Zh,zp,ZO,List.replicate] <;> exact rfl) ?_)
  refine bA ?_
  exact hK
 refine jA ?_
 refine cA ?_
 refine cA ?_
 refine gA hX hb [0,1,2,3] rfl (σ' := ?s3) (fun K hK => ?h3) ?n3
 case h3 =>
  iterate 4 (refine kA rfl (by simp (disch := omega) only [iA,aA,qop,fop,St.ev,St.put,cd,zd,Value.oneCell',lA,TypeDesc.aggB,Z0,fA,oA,Z1,pA,qA,tA,eA,D.pure?,ZC,ZD,vC,tt,mA,Zh] <;> exact rfl) ?_)
  refine bA ?_
  exact hK
 refine jA ?_
 refine tB ?_
 refine rD (ι := Nat) (fun i => i ≤ lv.length) (fun i => ⟨[],[.any,.ptr 0 0,.ptr 1 0,.vref 0,.any,.any,.any,.any,.any,.any,.any,.p (iE lv),.p (i64 lv.length),.p (i64 i),.any,.any,.any,.any,.any,.any,.any,.any,.any,.any,.any,.any],[⟨26,[.p (i64 s),.p (i64 f),.p (iE lv)]⟩,⟨26,[.p (i64 0),.p (i64 0),.nil]⟩],[some ⟨60,1,(lv.take i).length,(lv.take i).map gH⟩]⟩) (fun i => lv.length - i) 0 (by exact Nat.zero_le _) (rC ⟨rfl,(by repeat first | exact sA | refine mB ?_ | refine vA (by first | rfl | (rw [eE lv i (by omega)]; simp)) ?_),(pC rfl ((by repeat first | exact sA | refine mB ?_ | refine vA (by first | rfl | (rw [eE lv i (by omega)]; simp)) ?_)) (pC rfl ((by repeat first | exact sA | refine mB ?_ | refine vA (by first | rfl | (rw [eE lv i (by omega)]; simp)) ?_)) (xB _))),(jE (by first | rfl | (rw [eE lv i (by omega)]; simp)) (yB _)),rfl,rfl⟩) ?_
 rintro i hJ
 have hli : (lv.take i).length = i := by rw [List.length_take]; omega
 refine cA ?_
 refine gA hX hb [0] rfl (σ' := ?s4) (fun K hK => ?h4) ?n4
 case h4 =>
  (refine kA rfl (by simp (disch := omega) only [iA,aA,qop,fop,St.ev,St.put,cd,zd,Value.oneCell',lA,TypeDesc.aggB,Z0,cB,iop,t3,ti3,mA,Zh] <;> exact rfl) ?_)
  refine bA ?_
  exact hK
 refine jA ?_
 refine cA ?_
 refine oB _ rfl (fun hc0 => ?_) (fun hc0 => ?_)
 ·try simp only [Zp,Zi,ZK,ZJ,ne_eq,Zn,Zm,ZB,ZA,ZI,not_or,not_and,Zu] at hc0
  have hri := h.2 _ (qE lv [] i (by omega))
  refine uB ?_
  refine jA ?_
  refine cA ?_
  refine tB ?_
  refine cA ?_
  refine gA hX hb [0,1,2] rfl (σ' := ?s5) (fun K hK => ?h5) ?n5
  case h5 =>
   iterate 3 (refine kA rfl (by simp (disch := omega) only [iA,aA,qop,fop,St.ev,St.put,cd,zd,Value.oneCell',lA,TypeDesc.aggB,Z0,Int.toNat_zero,Int.toNat_one,xA,yA,wA,ZO,Nat.mul_one,ZC,Nat.zero_mul,Zh,Z1,pA,qA,tA,eA,D.pure?,ZD,tt,mA] <;> exact rfl) ?_)
   refine bA ?_
   exact hK
  refine jA ?_
  refine gA hX hb [0,1,2,3,4,5] rfl (σ' := ?s6) (fun K hK => ?h6) ?n6
  case h6 =>
   iterate 2 (refine kA rfl (by simp (disch := omega) only [iA,aA,qop,fop,St.ev,St.put,cd,zd,Value.oneCell',lA,TypeDesc.aggB,Z0,uA,D.pv?,zD,aD,bD,bE,bB,rB,D.cells?,D.pure?,fB,gB,iB,jB,kB,ZG,ZH,ZL,ZM,ZN,Zl,Zo,aB,Nat.reduceAdd,Nat.reduceMul,nD,cG,St.demote,D.demote,St.setVec,Zh,List.length_append,ZC,Nat.mul_one,reduceIte,tt,mA] <;> exact rfl) ?_)
   refine mD rfl (by simp only [aA,St.ev,pB,qB,uA,D.pv?,ZG,ZH,zd,cd,Value.oneCell',Zr] <;> exact rfl) (acK hP ((o72 (lv.getD i []) (by omega)).pure)) (by simp only [St.put,Za,Zb] <;> exact rfl) ?_
   iterate 3 (refine kA rfl (by simp (disch := omega) only [iA,aA,qop,fop,St.ev,St.put,cd,zd,Value.oneCell',lA,TypeDesc.aggB,Z0,uA,D.pv?,zD,aD,bD,bE,bB,rB,D.cells?,D.pure?,fB,gB,iB,jB,kB,ZG,ZH,ZL,ZM,ZN,Zl,Zo,aB,Nat.reduceAdd,Nat.reduceMul,nD,cG,St.demote,D.demote,St.setVec,Zh,List.length_append,ZC,Nat.mul_one,reduceIte,tt,mA] <;> exact rfl) ?_)
   refine bA ?_
   exact hK
  refine cE ?_
  refine jA ?_
  refine gA hX hb [0,1] rfl (σ' := ?s7) (fun K hK => ?h7) ?n7
  case h7 =>
   iterate 2 (refine kA rfl (by simp (disch := omega) only [iA,aA,qop,fop,St.ev,St.put,cd,zd,Value.oneCell',lA,TypeDesc.aggB,Z0,cB,iop,tt,mA,Zh] <;> exact rfl) ?_)
   refine bA ?_
   exact hK
  refine jA ?_
  exact ⟨i + 1,by (try dsimp only); omega,by (try dsimp only); omega,rC ⟨rfl,(by repeat first | exact sA | refine mB ?_ | refine vA (by first | rfl | (rw [eE lv i (by omega)]; simp)) ?_),(pC rfl ((by repeat first | exact sA | refine mB ?_ | refine vA (by first | rfl | (rw [eE lv i (by omega)]; simp)) ?_)) (pC rfl ((by repeat first | exact sA | refine mB ?_ | refine vA (by first | rfl | (rw [eE lv i (by omega)]; simp)) ?_)) (xB _))),(jE (by first | rfl | (rw [eE lv i (by omega)]; simp)) (yB _)),rfl,rfl⟩⟩
 ·try simp only [Zp,Zi,ZK,ZJ,ne_eq,Zn,Zm,ZB,ZA,ZI,not_or,not_and,Zu] at hc0
  refine oD ?_
  refine fD ?_
  refine fD ?_
  refine zE ?_
  refine jA ?_
  refine cA ?_
  obtain rfl : i = lv.length := by omega
  refine nH 0 rfl (σ' := ?s9) ?h9 ?n9
  case h9 => simp only [St.freeze,D.freeze,ZG,ZH,Za,Zb,Zr,reduceIte,Nat.reduceEqDiff]; exact rfl
  refine gA hX hb [0,1,2] rfl (σ' := ?s8) (fun K hK => ?h8) ?n8
  case h8 =>
   iterate 3 (refine kA rfl (by simp (disch := omega) only [iA,aA,qop,fop,St.ev,St.put,cd,zd,Value.oneCell',lA,TypeDesc.aggB,Z0,fA,oA,iC,D.boxCells,D.live,D.cells?,D.pure?,ZM,ZL,ZN,Z1,ZG,ZH,St.setVec,ZC,tt,mA,Zh] <;> exact rfl) ?_)
   refine bA ?_
   exact hK
  refine jA ?_
  refine cA ?_
  refine gA hX hb [0,1] rfl (σ' := ?s10) (fun K hK => ?h10) ?n10
  case h10 =>
   iterate 2 (refine kA rfl (by simp (disch := omega) only [iA,aA,qop,fop,St.ev,St.put,cd,zd,Value.oneCell',lA,TypeDesc.aggB,Z0,Z1,pA,qA,tA,eA,D.pure?,ZC,ZD,iC,D.boxCells,D.live,D.cells?,ZM,ZL,ZN,ZG,ZH,St.setVec,tt,mA,Zh] <;> exact rfl) ?_)
   refine bA ?_
   exact hK
  refine jA ?_
  refine bC ?_
  exact zC rfl (zB (by simp only [mE,pA,qA,lA,TypeDesc.aggB,eA,D.pure?,D.pv?,pB,qB,Zd,Zc,Zw,Zk,Zv,Zj,Zx,Zl,Zo,Zr,reduceIte,Nat.reduceAdd,Nat.reduceLeDiff,Zg,Zf,tt] <;> exact rfl) (by first | rfl | (rw [List.take_length])))
end Go.Proofs.Ytldcoekbgfaomaa
end
section
namespace Go.Proofs.Ytldcoekbgfaomaa
open Go.RowKit
set_option maxRecDepth 20000
set_option maxHeartbeats 4000000
attribute [local irreducible] kE sD AW
theorem zY {cs : List P1} (h : ∀ c ∈ cs,qL c ≠ some .u64) (l : List Int) : NoFit cs (gH l) := by
 refine .sl _ _ (fun x hx => ?_) (fun h0 => by simpa using h0) (fun hne o => ?_)
 ·obtain ⟨n,_,rfl⟩ := List.mem_map.1 hx
  exact .v _
 ·cases l with
  | nil => exact absurd rfl hne
  | cons n l => exact ⟨0,u64 n,rfl,fun c hc => h c (List.mem_of_getElem? hc)⟩
theorem aZ {cs : List P1} {l : List Int} (h3 : 3 ≤ l.length) (h : ∀ o,∃ j,j < 3 ∧ ∀ c,cs[o + j]? = some c → qL c ≠ some .i64) : NoFit cs (mF l) := by
 refine .sl _ _ (fun x hx => ?_) (fun h0 => by simpa using h0) (fun hne o => ?_)
 ·obtain ⟨n,_,rfl⟩ := List.mem_map.1 hx
  exact .v _
 ·obtain ⟨j,hj,hc⟩ := h o
  exact ⟨j,i64 (l.getD j 0),nA i64 l j (by omega),hc⟩
theorem bZ (s f : Int) (lv : List (List Int)) (p : P1) (hp : qL p = none) (le : Int) (fo : List (Int × Int)) (se : Int) (dn : Bool) : ∀ c ∈ [i64 s,i64 f,iE lv,p,i64 le,gD fo,i64 se,bv dn],qL c ≠ some .u64 := by
 intro c hc
 simp only [List.mem_cons,List.not_mem_nil,or_false] at hc
 rcases hc with rfl | rfl | rfl | rfl | rfl | rfl | rfl | rfl <;> first | (rw [hp]; simp) | simp [qL,oW]
theorem uAA (s f : Int) (lv : List (List Int)) (pd : List (Int × Int)) (le : Int) (fo : List (Int × Int)) (se : Int) (dn : Bool) : ∀ o,∃ j,j < 3 ∧ ∀ c,[i64 s,i64 f,iE lv,gD pd,i64 le,gD fo,i64 se,bv dn][o + j]? = some c → qL c ≠ some .i64 := by
 intro o
 match o with
 | 0 => exact ⟨2,by omega,fun c hc => by simp at hc; subst hc; simp [qL]⟩
 | 1 => exact ⟨1,by omega,fun c hc => by simp at hc; subst hc; simp [qL]⟩
 | 2 => exact ⟨0,by omega,fun c hc => by simp at hc; subst hc; simp [qL]⟩
 | 3 => exact ⟨0,by omega,fun c hc => by simp at hc; subst hc; simp [qL]⟩
 | 4 => exact ⟨1,by omega,fun c hc => by simp at hc; subst hc; simp [qL]⟩
 | 5 => exact ⟨0,by omega,fun c hc => by simp at hc; subst hc; simp [qL]⟩
 | 6 => exact ⟨1,by omega,fun c hc => by simp at hc; subst hc; simp [qL,oW]⟩
 | 7 => exact ⟨0,by omega,fun c hc => by simp at hc; subst hc; simp [qL,oW]⟩
 | o + 8 => exact ⟨0,by omega,fun c hc => by simp at hc⟩
theorem vAA (s f : Int) (lv : List (List Int)) (pd : List (Int × Int)) (le : Int) (fo : List (Int × Int)) (se : Int) (dn : Bool) (hp : pd ≠ []) : D.NoFit [i64 s,i64 f,iE lv,gD pd,i64 le,gD fo,i64 se,bv dn] (.agg (msC (tL ⟨⟨s,f,lv⟩,pd,le,fo,se,dn⟩))) := by
 refine .agg _ fun x hx => ?_
 simp only [msC,List.mem_cons,List.not_mem_nil,or_false] at hx
 rcases hx with rfl | rfl | rfl | rfl | rfl | rfl | rfl | rfl
 iterate 6 exact .v _
 ·refine aZ ?_ (uAA s f lv pd le fo se dn)
  show 3 ≤ (kI _).length
  cases pd with
  | nil => exact absurd rfl hp
  | cons e r => simp [kI]
 ·exact .sl _ _ (fun x hx => by cases hx) (fun _ => rfl) (fun h => absurd rfl h)
theorem m83 (s f : Int) (lv : List (List Int)) (pd : List (Int × Int)) (le : Int) (fo : List (Int × Int)) (se : Int) (dn : Bool) (hl : pd.length ≤ 1000000) : ACallsM Try.prog 83 139 [i64 s,i64 f,iE lv,gD pd,i64 le,gD fo,i64 se,bv dn] [i64 s,i64 f,iE lv,gD pd,i64 le,gD fo,i64 se,bv dn] [] (.agg (msC (tL ⟨⟨s,f,lv⟩,pd,le,fo,se,dn⟩))) := by
 refine xK oC Try.func83 (c := _) rfl (by kernel_rfl) ?_
 intro X hP hX hro hpl
 have hb : tb.Ok X.P := hP ▸ oC
 change AW X _ _ ⟨[.pin 1],[.ptr 0 0,.any,.any,.any,.any,.any,.any,.any,.any,.any,.any,.any,.any,.any,.any,.any,.any,.any,.any,.any,.any,.any,.any,.any,.any,.any,.any,.any,.any,.any,.any,.any,.any,.any,.any,.any,.any,.any,.any,.any,.any,.any,.any,.any],[⟨139,[.p (i64 s),.p (i64 f),.p (iE lv),.p (gD pd),.p (i64 le),.p (gD fo),.p (i64 se),.p (bv dn)]⟩],[]⟩
 refine cA ?_
 refine gA hX hb [0] rfl (σ' := ?s1) (fun K hK => ?h1) ?n1
 case h1 =>
  (refine kA rfl (by simp (disch := omega) only [iA,aA,qop,fop,St.ev,St.put,cd,zd,Value.oneCell',lA,TypeDesc.aggB,Z0,ZM,ZL,Zl,Zo,ZG,ZH,St.addBox,Value.cells,tt,Z2,Zh,tE] <;> exact rfl) ?_)
  refine bA ?_
  exact hK
 refine jA ?_
 refine cA ?_
 refine dF hX (oO [18] hb) (jD hP) [(0,true),(1,true),(2,true),(3,true),(4,true),(5,true),(6,true),(7,true),(8,true),(9,true),(10,true),(11,true),(12,false),(13,true)] (by kernel_rfl) (σ' := ?s2) (fun K hK => ?h2) ?n2
 case h2 =>
  iterate 12 (refine eF rfl (by simp (disch := omega) only [qop,fop,St.ev,St.put,cd,zd,Value.oneCell',lA,TypeDesc.aggB,Z0,fA,oA,Z1,pA,qA,tA,eA,D.pure?,ZC,ZD,zD,aD,bD,bE,bB,rB,D.cells?,fB,gB,iB,jB,kB,ZG,ZH,ZL,ZM,ZN,aB,Nat.reduceAdd,Nat.reduceMul,tt,Z2,Zh,tE,fN,yI,xH,St.addVec] <;> exact rfl) (by simp only [St.put,Za,Zb] <;> exact rfl) ?_)
  (refine rG rfl (by simp (disch := omega) only [iA,aA,qop,fop,St.ev,St.put,cd,zd,Value.oneCell',lA,TypeDesc.aggB,Z0,fA,oA,Z1,pA,qA,tA,eA,D.pure?,ZC,ZD,zD,aD,bD,bE,bB,rB,D.cells?,fB,gB,iB,jB,kB,ZG,ZH,ZL,ZM,ZN,aB,Nat.reduceAdd,Nat.reduceMul,tt,Z2,Zh,tE,fN,yI,xH,St.addVec] <;> exact rfl) ?_)
  (refine eF rfl (by simp (disch := omega) only [qop,fop,St.ev,St.put,cd,zd,Value.oneCell',lA,TypeDesc.aggB,Z0,fA,oA,Z1,pA,qA,tA,eA,D.pure?,ZC,ZD,zD,aD,bD,bE,bB,rB,D.cells?,fB,gB,iB,jB,kB,ZG,ZH,ZL,ZM,ZN,aB,Nat.reduceAdd,Nat.reduceMul,tt,Z2,Zh,tE,fN,yI,xH,St.addVec] <;> exact rfl) (by simp only [St.put,Za,Zb] <;> exact rfl) ?_)
  refine xC ?_
  exact hK
 refine jA ?_
 refine cA ?_
 refine cA ?_
 refine gA hX hb [0,1,2,3,4,5,6] rfl (σ' := ?s3) (fun K hK => ?h3) ?n3
 case h3 =>
  iterate 7 (refine kA rfl (by simp (disch := omega) only [iA,aA,qop,fop,St.ev,St.put,cd,zd,Value.oneCell',lA,TypeDesc.aggB,Z0,fA,oA,Z1,pA,qA,tA,eA,D.pure?,ZC,ZD,vC,tt,Z2,Zh,tE] <;> exact rfl) ?_)
  refine bA ?_
  exact hK
 refine jA ?_
 refine tB ?_
 refine rD (ι := Nat) (fun i => i ≤ pd.length) (fun i => ⟨[.pin 1],[.ptr 0 0,.any,.ptr 1 0,.vref 0,.any,.any,.any,.any,.any,.any,.any,.any,.any,.any,.any,.any,.any,.any,.any,.any,.any,.any,.any,.p (gD pd),.p (i64 pd.length),.p (i64 i),.any,.any,.any,.any,.any,.any,.any,.any,.any,.any,.any,.any,.any,.any,.any,.any,.any,.any],[⟨139,[.p (i64 s),.p (i64 f),.p (iE lv),.p (gD pd),.p (i64 le),.p (gD fo),.p (i64 se),.p (bv dn)]⟩,⟨90,[.p (i64 0),.p (i64 0),.p (i64 0),.p (i64 0),.p (i64 0),.p (i64 0),.nil,.nil]⟩],[some ⟨3,1,(([s,f] ++ (pd.take i).flatMap fun e => [e.1,e.2])).length,(([s,f] ++ (pd.take i).flatMap fun e => [e.1,e.2])).map i64⟩]⟩) (fun i => pd.length - i) 0 (by exact Nat.zero_le _) (rC ⟨(by first | rfl | (rw [tF s f pd i (by omega)]; simp [-List.length_flatMap,tE])),(by repeat first | exact sA | refine mB ?_ | refine vA (by first | rfl | (rw [tF s f pd i (by omega)]; simp [-List.length_flatMap,tE])) ?_),(pC rfl ((by repeat first | exact sA | refine mB ?_ | refine vA (by first | rfl | (rw [tF s f pd i (by omega)]; simp [-List.length_flatMap,tE])) ?_)) (pC rfl ((by repeat first | exact sA | refine mB ?_ | refine vA (by first | rfl | (rw [tF s f pd i (by omega)]; simp [-List.length_flatMap,tE])) ?_)) (xB _))),(jE (by first | rfl | (rw [tF s f pd i (by omega)]; simp [-List.length_flatMap,tE])) (yB _)),rfl,rfl⟩) ?_
 rintro i hJ
 have hti : (pd.take i).length = i := by rw [List.length_take]; omega
 have hpl : ((pd.take i).flatMap fun e => [e.1,e.2]).length = i * 2 := by rw [tE,List.length_take]; omega
 refine cA ?_
 refine gA hX hb [0] rfl (σ' := ?s4) (fun K hK => ?h4) ?n4
 case h4 =>
  (refine kA rfl (by simp (disch := omega) only [iA,aA,qop,fop,St.ev,St.put,cd,zd,Value.oneCell',lA,TypeDesc.aggB,Z0,cB,iop,tt,Z2,Zh,tE] <;> exact rfl) ?_)
  refine bA ?_
  exact hK
 refine jA ?_
 refine cA ?_
 refine oB _ rfl (fun hc0 => ?_) (fun hc0 => ?_)
 ·try simp only [Zp,Zi,ZK,ZJ,ne_eq,Zn,Zm,ZB,ZA,ZI,not_or,not_and,Zu] at hc0
  refine uB ?_
  refine jA ?_
  refine cA ?_
  refine tB ?_
  refine cA ?_
  refine gA hX hb [0,1,2,3] rfl (σ' := ?s5) (fun K hK => ?h5) ?n5
  case h5 =>
   iterate 4 (refine kA rfl (by simp (disch := omega) only [iA,aA,qop,fop,St.ev,St.put,cd,zd,Value.oneCell',lA,TypeDesc.aggB,Z0,Int.toNat_zero,Int.toNat_one,xA,yA,wA,ZO,Nat.mul_one,ZC,Nat.zero_mul,Zh,Z1,pA,qA,tA,eA,D.pure?,ZD,ZM,ZL,ZG,ZH,St.addBox,Value.cells,iC,D.boxCells,D.live,D.cells?,ZN,St.setVec,tt,Z2,tE] <;> exact rfl) ?_)
   refine bA ?_
   exact hK
  refine jA ?_
  refine gA hX hb [0,1,2,3,4,5,6,7] rfl (σ' := ?s6) (fun K hK => ?h6) ?n6
  case h6 =>
   iterate 8 (refine kA rfl (by simp (disch := omega) only [iA,aA,qop,fop,St.ev,St.put,cd,zd,Value.oneCell',lA,TypeDesc.aggB,Z0,fA,oA,Z1,pA,qA,tA,eA,D.pure?,ZC,ZD,zD,aD,bD,bE,bB,rB,D.cells?,fB,gB,iB,jB,kB,ZG,ZH,ZL,ZM,ZN,aB,Nat.reduceAdd,Nat.reduceMul,nD,cG,St.demote,D.demote,St.setVec,Zh,List.length_append,Nat.mul_one,reduceIte,tt,Z2,tE] <;> exact rfl) ?_)
   refine bA ?_
   exact hK
  refine cE ?_
  refine jA ?_
  refine gA hX hb [0,1] rfl (σ' := ?s7) (fun K hK => ?h7) ?n7
  case h7 =>
   iterate 2 (refine kA rfl (by simp (disch := omega) only [iA,aA,qop,fop,St.ev,St.put,cd,zd,Value.oneCell',lA,TypeDesc.aggB,Z0,cB,iop,tt,Z2,Zh,tE] <;> exact rfl) ?_)
   refine bA ?_
   exact hK
  refine jA ?_
  exact ⟨i + 1,by (try dsimp only); omega,by (try dsimp only); omega,rC ⟨(by first | rfl | (rw [tF s f pd i (by omega)]; simp [-List.length_flatMap,tE])),(by repeat first | exact sA | refine mB ?_ | refine vA (by first | rfl | (rw [tF s f pd i (by omega)]; simp [-List.length_flatMap,tE])) ?_),(pC rfl ((by repeat first | exact sA | refine mB ?_ | refine vA (by first | rfl | (rw [tF s f pd i (by omega)]; simp [-List.length_flatMap,tE])) ?_)) (pC rfl ((by repeat first | exact sA | refine mB ?_ | refine vA (by first | rfl | (rw [tF s f pd i (by omega)]; simp [-List.length_flatMap,tE])) ?_)) (xB _))),(jE (by first | rfl | (rw [tF s f pd i (by omega)]; simp [-List.length_flatMap,tE])) (yB _)),rfl,rfl⟩⟩
 ·try simp only [Zp,Zi,ZK,ZJ,ne_eq,Zn,Zm,ZB,ZA,ZI,not_or,not_and,Zu] at hc0
  refine oD ?_
  refine fD ?_
  refine fD ?_
  refine zE ?_
  refine jA ?_
  refine cA ?_
  obtain rfl : i = pd.length := by omega
  refine nH 0 rfl (σ' := ?s9) ?h9 ?n9
  case h9 => simp only [St.freeze,D.freeze,ZG,ZH,Za,Zb,Zr,reduceIte,Nat.reduceEqDiff]; exact rfl
  refine gA hX hb [0,1,2,3,4,5,6,7] rfl (σ' := ?s8) (fun K hK => ?h8) ?n8
  case h8 =>
   iterate 8 (refine kA rfl (by simp (disch := omega) only [iA,aA,qop,fop,St.ev,St.put,cd,zd,Value.oneCell',lA,TypeDesc.aggB,Z0,fA,oA,Z1,pA,qA,tA,eA,D.pure?,ZC,ZD,aE,cD,mC,aC,D.cell1,fB,gB,iB,jB,kB,List.all_cons,List.all_nil,uC,TI.place,TI.zeros,TI.kindOk,D.cells?,zp,Value.cells,ZQ,ZP,iC,D.boxCells,D.live,ZM,ZL,ZN,ZG,ZH,St.setVec,tt,Z2,Zh,tE] <;> exact rfl) ?_)
   refine bA ?_
   exact hK
  refine jA ?_
  refine bC ?_
  exact eCA (zB (by simp only [mE,pA,qA,lA,TypeDesc.aggB,eA,D.pure?,D.pv?,pB,qB,Zd,Zc,Zw,Zk,Zv,Zj,Zx,Zl,Zo,Zr,reduceIte,Nat.reduceAdd,Nat.reduceLeDiff,Zg,Zf,tt] <;> exact rfl) (by first | rfl | (simp [-List.length_flatMap,msC,tL,kI,tE,PV.d]))) rfl rfl (by first | (simp only [eA,D.pure?] <;> exact rfl))
theorem r83 (s f : Int) (lv : List (List Int)) (pd : List (Int × Int)) (le : Int) (fo : List (Int × Int)) (se : Int) (dn : Bool) (hl : pd.length ≤ 1000000) (hp : pd ≠ []) : ACallsR Try.prog 83 139 [i64 s,i64 f,iE lv,gD pd,i64 le,gD fo,i64 se,bv dn] [] (.agg (msC (tL ⟨⟨s,f,lv⟩,pd,le,fo,se,dn⟩))) := by
 refine bS oC Try.func83 (c := _) rfl (by kernel_rfl) (vAA s f lv pd le fo se dn hp) ?_
 intro X hP hX hro hpl
 have hb : tb.Ok X.P := hP ▸ oC
 change AW X _ _ ⟨[],[.ept [i64 s,i64 f,iE lv,gD pd,i64 le,gD fo,i64 se,bv dn] 0,.any,.any,.any,.any,.any,.any,.any,.any,.any,.any,.any,.any,.any,.any,.any,.any,.any,.any,.any,.any,.any,.any,.any,.any,.any,.any,.any,.any,.any,.any,.any,.any,.any,.any,.any,.any,.any,.any,.any,.any,.any,.any,.any],[],[]⟩
 refine cA ?_
 refine gA hX hb [0] rfl (σ' := ?s1) (fun K hK => ?h1) ?n1
 case h1 =>
  (refine kA rfl (by simp (disch := omega) only [iA,aA,qop,fop,St.ev,St.put,cd,zd,Value.oneCell',lA,TypeDesc.aggB,Z0,ZM,ZL,Zl,Zo,ZG,ZH,St.addBox,Value.cells,tt,Z2,Zh,tE] <;> exact rfl) ?_)
  refine bA ?_
  exact hK
 refine jA ?_
 refine cA ?_
 refine dF hX (oO [18] hb) (jD hP) [(0,true),(1,true),(2,true),(3,true),(4,true),(5,true),(6,true),(7,true),(8,true),(9,true),(10,true),(11,true),(12,false),(13,true)] (by kernel_rfl) (σ' := ?s2) (fun K hK => ?h2) ?n2
 case h2 =>
  iterate 12 (refine eF rfl (by simp (disch := omega) only [qop,fop,St.ev,St.put,cd,zd,Value.oneCell',lA,TypeDesc.aggB,Z0,fA,oA,Z1,pA,qA,tA,eA,D.pure?,ZC,ZD,zD,aD,bD,bE,bB,rB,D.cells?,fB,gB,iB,jB,kB,ZG,ZH,ZL,ZM,ZN,aB,Nat.reduceAdd,Nat.reduceMul,tt,Z2,Zh,tE,fN,yI,xH,St.addVec] <;> exact rfl) (by simp only [St.put,Za,Zb] <;> exact rfl) ?_)
  (refine rG rfl (by simp (disch := omega) only [iA,aA,qop,fop,St.ev,St.put,cd,zd,Value.oneCell',lA,TypeDesc.aggB,Z0,fA,oA,Z1,pA,qA,tA,eA,D.pure?,ZC,ZD,zD,aD,bD,bE,bB,rB,D.cells?,fB,gB,iB,jB,kB,ZG,ZH,ZL,ZM,ZN,aB,Nat.reduceAdd,Nat.reduceMul,tt,Z2,Zh,tE,fN,yI,xH,St.addVec] <;> exact rfl) ?_)
  (refine eF rfl (by simp (disch := omega) only [qop,fop,St.ev,St.put,cd,zd,Value.oneCell',lA,TypeDesc.aggB,Z0,fA,oA,Z1,pA,qA,tA,eA,D.pure?,ZC,ZD,zD,aD,bD,bE,bB,rB,D.cells?,fB,gB,iB,jB,kB,ZG,ZH,ZL,ZM,ZN,aB,Nat.reduceAdd,Nat.reduceMul,tt,Z2,Zh,tE,fN,yI,xH,St.addVec] <;> exact rfl) (by simp only [St.put,Za,Zb] <;> exact rfl) ?_)
  refine xC ?_
  exact hK
 refine jA ?_
 refine cA ?_
 refine cA ?_
 refine gA hX hb [0,1,2,3,4,5,6] rfl (σ' := ?s3) (fun K hK => ?h3) ?n3
 case h3 =>
  iterate 7 (refine kA rfl (by simp (disch := omega) only [iA,aA,qop,fop,St.ev,St.put,cd,zd,Value.oneCell',lA,TypeDesc.aggB,Z0,fA,oA,Z1,pA,qA,tA,eA,D.pure?,ZC,ZD,vC,tt,Z2,Zh,tE] <;> exact rfl) ?_)
  refine bA ?_
  exact hK
 refine jA ?_
 refine tB ?_
 refine rD (ι := Nat) (fun i => i ≤ pd.length) (fun i => ⟨[],[.ept [i64 s,i64 f,iE lv,gD pd,i64 le,gD fo,i64 se,bv dn] 0,.any,.ptr 0 0,.vref 0,.any,.any,.any,.any,.any,.any,.any,.any,.any,.any,.any,.any,.any,.any,.any,.any,.any,.any,.any,.p (gD pd),.p (i64 pd.length),.p (i64 i),.any,.any,.any,.any,.any,.any,.any,.any,.any,.any,.any,.any,.any,.any,.any,.any,.any,.any],[⟨90,[.p (i64 0),.p (i64 0),.p (i64 0),.p (i64 0),.p (i64 0),.p (i64 0),.nil,.nil]⟩],[some ⟨3,1,(([s,f] ++ (pd.take i).flatMap fun e => [e.1,e.2])).length,(([s,f] ++ (pd.take i).flatMap fun e => [e.1,e.2])).map i64⟩]⟩) (fun i => pd.length - i) 0 (by exact Nat.zero_le _) (rC ⟨rfl,(by repeat first | exact sA | refine mB ?_ | refine vA (by first | rfl | (rw [tF s f pd i (by omega)]; simp [-List.length_flatMap,tE])) ?_),(pC rfl ((by repeat first | exact sA | refine mB ?_ | refine vA (by first | rfl | (rw [tF s f pd i (by omega)]; simp [-List.length_flatMap,tE])) ?_)) (xB _)),(jE (by first | rfl | (rw [tF s f pd i (by omega)]; simp [-List.length_flatMap,tE])) (yB _)),rfl,rfl⟩) ?_
 rintro i hJ
 have hti : (pd.take i).length = i := by rw [List.length_take]; omega
 have hpl : ((pd.take i).flatMap fun e => [e.1,e.2]).length = i * 2 := by rw [tE,List.length_take]; omega
 refine cA ?_
 refine gA hX hb [0] rfl (σ' := ?s4) (fun K hK => ?h4) ?n4
 case h4 =>
  (refine kA rfl (by simp (disch := omega) only [iA,aA,qop,fop,St.ev,St.put,cd,zd,Value.oneCell',lA,TypeDesc.aggB,Z0,cB,iop,tt,Z2,Zh,tE] <;> exact rfl) ?_)
  refine bA ?_
  exact hK
 refine jA ?_
 refine cA ?_
 refine oB _ rfl (fun hc0 => ?_) (fun hc0 => ?_)
 ·try simp only [Zp,Zi,ZK,ZJ,ne_eq,Zn,Zm,ZB,ZA,ZI,not_or,not_and,Zu] at hc0
  refine uB ?_
  refine jA ?_
  refine cA ?_
  refine tB ?_
  refine cA ?_
  refine gA hX hb [0,1,2,3] rfl (σ' := ?s5) (fun K hK => ?h5) ?n5
  case h5 =>
   iterate 4 (refine kA rfl (by simp (disch := omega) only [iA,aA,qop,fop,St.ev,St.put,cd,zd,Value.oneCell',lA,TypeDesc.aggB,Z0,Int.toNat_zero,Int.toNat_one,xA,yA,wA,ZO,Nat.mul_one,ZC,Nat.zero_mul,Zh,Z1,pA,qA,tA,eA,D.pure?,ZD,ZM,ZL,ZG,ZH,St.addBox,Value.cells,iC,D.boxCells,D.live,D.cells?,ZN,St.setVec,tt,Z2,tE] <;> exact rfl) ?_)
   refine bA ?_
   exact hK
  refine jA ?_
  refine gA hX hb [0,1,2,3,4,5,6,7] rfl (σ' := ?s6) (fun K hK => ?h6) ?n6
  case h6 =>
   iterate 8 (refine kA rfl (by simp (disch := omega) only [iA,aA,qop,fop,St.ev,St.put,cd,zd,Value.oneCell',lA,TypeDesc.aggB,Z0,fA,oA,Z1,pA,qA,tA,eA,D.pure?,ZC,ZD,zD,aD,bD,bE,bB,rB,D.cells?,fB,gB,iB,jB,kB,ZG,ZH,ZL,ZM,ZN,aB,Nat.reduceAdd,Nat.reduceMul,nD,cG,St.demote,D.demote,St.setVec,Zh,List.length_append,Nat.mul_one,reduceIte,tt,Z2,tE] <;> exact rfl) ?_)
   refine bA ?_
   exact hK
  refine cE ?_
  refine jA ?_
  refine gA hX hb [0,1] rfl (σ' := ?s7) (fun K hK => ?h7) ?n7
  case h7 =>
   iterate 2 (refine kA rfl (by simp (disch := omega) only [iA,aA,qop,fop,St.ev,St.put,cd,zd,Value.oneCell',lA,TypeDesc.aggB,Z0,cB,iop,tt,Z2,Zh,tE] <;> exact rfl) ?_)
   refine bA ?_
   exact hK
  refine jA ?_
  exact ⟨i + 1,by (try dsimp only); omega,by (try dsimp only); omega,rC ⟨rfl,(by repeat first | exact sA | refine mB ?_ | refine vA (by first | rfl | (rw [tF s f pd i (by omega)]; simp [-List.length_flatMap,tE])) ?_),(pC rfl ((by repeat first | exact sA | refine mB ?_ | refine vA (by first | rfl | (rw [tF s f pd i (by omega)]; simp [-List.length_flatMap,tE])) ?_)) (xB _)),(jE (by first | rfl | (rw [tF s f pd i (by omega)]; simp [-List.length_flatMap,tE])) (yB _)),rfl,rfl⟩⟩
 ·try simp only [Zp,Zi,ZK,ZJ,ne_eq,Zn,Zm,ZB,ZA,ZI,not_or,not_and,Zu] at hc0
  refine oD ?_
  refine fD ?_
  refine fD ?_
  refine zE ?_
  refine jA ?_
  refine cA ?_
  obtain rfl : i = pd.length := by omega
  refine nH 0 rfl (σ' := ?s9) ?h9 ?n9
  case h9 => simp only [St.freeze,D.freeze,ZG,ZH,Za,Zb,Zr,reduceIte,Nat.reduceEqDiff]; exact rfl
  refine gA hX hb [0,1,2,3,4,5,6,7] rfl (σ' := ?s8) (fun K hK => ?h8) ?n8
  case h8 =>
   iterate 8 (refine kA rfl (by simp (disch := omega) only [iA,aA,qop,fop,St.ev,St.put,cd,zd,Value.oneCell',lA,TypeDesc.aggB,Z0,fA,oA,Z1,pA,qA,tA,eA,D.pure?,ZC,ZD,aE,cD,mC,aC,D.cell1,fB,gB,iB,jB,kB,List.all_cons,List.all_nil,uC,TI.place,TI.zeros,TI.kindOk,D.cells?,zp,Value.cells,ZQ,ZP,iC,D.boxCells,D.live,ZM,ZL,ZN,ZG,ZH,St.setVec,tt,Z2,Zh,tE] <;> exact rfl) ?_)
   refine bA ?_
   exact hK
  refine jA ?_
  refine bC ?_
  exact zC rfl (zB (by simp only [mE,pA,qA,lA,TypeDesc.aggB,eA,D.pure?,D.pv?,pB,qB,Zd,Zc,Zw,Zk,Zv,Zj,Zx,Zl,Zo,Zr,reduceIte,Nat.reduceAdd,Nat.reduceLeDiff,Zg,Zf,tt] <;> exact rfl) (by first | rfl | (simp [-List.length_flatMap,msC,tL,kI,tE,PV.d])))
theorem fKA (s f : Int) (lv : List (List Int)) (p : P1) (hp : qL p = none) (k : Nat) (hk : k < lv.length) (fo : List (Int × Int)) (se : Int) (dn : Bool) : ACallsR Try.prog 116 139 [i64 s,i64 f,iE lv,p,i64 k,gD fo,i64 se,bv dn] [] (.p (gH (lv.getD k []))) := by
 refine bS oC Try.func116 (c := _) rfl (by kernel_rfl) (.p _ (zY (bZ s f lv p hp k fo se dn) _)) ?_
 intro X hP hX hro hpl
 have hb : tb.Ok X.P := hP ▸ oC
 change AW X _ _ ⟨[],[.ept [i64 s,i64 f,iE lv,p,i64 k,gD fo,i64 se,bv dn] 0,.any,.any,.any,.any,.any,.any,.any,.any,.any,.any,.any,.any,.any,.any,.any],[],[]⟩
 refine cA ?_
 refine gA hX hb [0] rfl (σ' := ?s1) (fun K hK => ?h1) ?n1
 case h1 =>
  (refine kA rfl (by simp (disch := omega) only [iA,aA,qop,fop,St.ev,St.put,cd,zd,Value.oneCell',lA,TypeDesc.aggB,Z0,mA,Zh] <;> exact rfl) ?_)
  refine bA ?_
  exact hK
 refine jA ?_
 refine cA ?_
 refine dF hX hb (jD hP) [(0,true),(1,true),(2,true),(3,true),(4,true),(5,true),(6,true),(7,true),(8,true),(9,true),(10,true),(11,true),(12,true),(13,true)] (by kernel_rfl) (σ' := ?s2) (fun K hK => ?h2) ?n2
 case h2 =>
  iterate 14 (refine eF rfl (by simp (disch := omega) only [qop,fop,St.ev,St.put,cd,zd,Value.oneCell',lA,TypeDesc.aggB,Z0,fA,oA,Z1,pA,qA,tA,eA,D.pure?,ZC,ZD,Int.toNat_zero,Int.toNat_one,xA,yA,wA,ZO,Nat.mul_one,Nat.zero_mul,Zh,tt,mA] <;> exact rfl) (by simp only [St.put,Za,Zb] <;> exact rfl) ?_)
  refine xC ?_
  exact hK
 refine jA ?_
 refine bC ?_
 exact zC rfl (zB rfl rfl)
theorem gKA (s f : Int) (lv : List (List Int)) (j k : Nat) (hk : k < lv.length) (fo : List (Int × Int)) (se : Int) (dn : Bool) : ∀ cs,PUp [.p (i64 s),.p (i64 f),.p (iE lv),.vref j,.p (i64 k),.p (gD fo),.p (i64 se),.p (bv dn)] cs → ACallsR Try.prog 116 139 cs [] (.p (gH (lv.getD k []))) := by
 intro cs h
 match cs,h with
 | [c0,c1,c2,c3,c4,c5,c6,c7],⟨h0,h1,h2,h3,h4,h5,h6,h7,_⟩ =>
 have e0 : c0 = i64 s := by rcases h0 with h | ⟨_,_,_,_,h,_⟩; exact (by injection h with h; exact h.symm); cases h
 have e1 : c1 = i64 f := by rcases h1 with h | ⟨_,_,_,_,h,_⟩; exact (by injection h with h; exact h.symm); cases h
 have e2 : c2 = iE lv := by rcases h2 with h | ⟨_,_,_,_,h,_⟩; exact (by injection h with h; exact h.symm); cases h
 have e4 : c4 = i64 k := by rcases h4 with h | ⟨_,_,_,_,h,_⟩; exact (by injection h with h; exact h.symm); cases h
 have e5 : c5 = gD fo := by rcases h5 with h | ⟨_,_,_,_,h,_⟩; exact (by injection h with h; exact h.symm); cases h
 have e6 : c6 = i64 se := by rcases h6 with h | ⟨_,_,_,_,h,_⟩; exact (by injection h with h; exact h.symm); cases h
 have e7 : c7 = bv dn := by rcases h7 with h | ⟨_,_,_,_,h,_⟩; exact (by injection h with h; exact h.symm); cases h
 subst e0; subst e1; subst e2; subst e4; subst e5; subst e6; subst e7
 rcases h3 with h3 | ⟨_,A,n,c,_,rfl⟩
 ·simp [D.pure?] at h3
 ·exact fKA s f lv _ rfl k hk fo se dn
theorem m96 (s f : Int) (lv : List (List Int)) (pd : List (Int × Int)) (le : Int) (fo : List (Int × Int)) (se : Int) (dn : Bool) : ACallsM Try.prog 96 139 [i64 s,i64 f,iE lv,gD pd,i64 le,gD fo,i64 se,bv dn] [i64 s,i64 f,iE lv,gD [],i64 0,gD fo,i64 se,bv true] [] (.tup []) := by
 refine xK oC Try.func96 (c := _) rfl (by kernel_rfl) ?_
 intro X hP hX hro hpl
 have hb : tb.Ok X.P := hP ▸ oC
 change AW X _ _ ⟨[.pin 1],[.ptr 0 0,.any,.any,.any,.any,.any,.any,.any,.any,.any,.any,.any,.any,.any],[⟨139,[.p (i64 s),.p (i64 f),.p (iE lv),.p (gD pd),.p (i64 le),.p (gD fo),.p (i64 se),.p (bv dn)]⟩],[]⟩
 refine gA hX hb [0,1,2,3,4,5,6,7,8,9,10,11,12,13,14] rfl (σ' := ?s1) (fun K hK => ?h1) ?n1
 case h1 =>
  iterate 15 (refine kA rfl (by simp (disch := omega) only [iA,aA,qop,fop,St.ev,St.put,cd,zd,Value.oneCell',lA,TypeDesc.aggB,Z0,fA,oA,iC,D.boxCells,D.live,D.cells?,D.pure?,ZM,ZL,ZN,Z1,ZG,ZH,St.setVec,ZC,tt] <;> exact rfl) ?_)
  refine bA ?_
  exact hK
 exact lY rfl rfl rfl (by first | (simp only [eA,D.pure?] <;> exact rfl))
end Go.Proofs.Ytldcoekbgfaomaa
end
section
namespace Go.Proofs.Ytldcoekbgfaomaa
open Go.RowKit
set_option maxRecDepth 20000
set_option maxHeartbeats 4000000
attribute [local irreducible] kE sD AW
/-- Is the pO of the q-th number,x,another in a body? -/
def bEA (row body : List Int) (q x : Nat) : Bool := decide (¬ (body.drop (8 * q)).take 8 = yC (row.getD x 0))
/-- The numbers,of the first k,with other digests. -/
def tH (row body : List Int) (X : List Nat) (k : Nat) : List Nat := ((List.range k).filter fun q => bEA row body q (X.getD q 0)).map fun q => X.getD q 0
theorem lD (row body : List Int) (X : List Nat) (k : Nat) : tH row body X (k + 1) = tH row body X k ++ if bEA row body k (X.getD k 0) = true then [X.getD k 0] else [] := by
 unfold tH
 rw [List.range_succ,List.filter_append,List.map_append]
 congr 1
 simp only [List.filter_cons,List.filter_nil]
 split <;> rfl
theorem jX (row body : List Int) (X : List Nat) (k : Nat) : (tH row body X k).length ≤ k := by
 unfold tH
 rw [List.length_map]
 exact Nat.le_trans (List.length_filter_le _ _) (by simp)
theorem kX {row body : List Int} {X : List Nat} {k : Nat} (hk : k ≤ X.length) : ∀ x ∈ tH row body X k,x ∈ X := by
 intro x hx
 obtain ⟨q,hq,rfl⟩ := List.mem_map.1 hx
 have := List.mem_range.1 (List.mem_filter.1 hq).1
 exact qE X 0 q (by omega)
theorem lNA (l : List Int) (h : 8 ≤ l.length) (d : Int) : ACalls Try.prog 115 [.p (.sl 8 ((l.map u8).take 8)),.p (bytes (yC d))] (.p (bv (decide (l.take 8 = yC d)))) := by
 have := nMA (l.take 8) (yC d)
 have e : bytes (l.take 8) = P1.sl 8 ((l.map u8).take 8) := by
  rw [bytes,List.map_take]
  congr 1
  simp
  omega
 rwa [e] at this
theorem rF (l : List Int) (k : Nat) (h : 8 * k + 8 ≤ l.length) : l.length - 8 * k - 8 = l.length - 8 * (k + 1) ∧ List.take (l.length - 8 * k - 8) (List.drop (8 * k + 8) (List.map u8 l)) = List.drop (8 * (k + 1)) (List.map u8 l) := by
 refine ⟨by omega,?_⟩
 rw [List.take_of_length_le (by simp; omega),show 8 * (k + 1) = 8 * k + 8 by omega]
/-- The nodes of a level below some nodes. -/
def fU (N x : Nat) : List Nat := [2 * x,2 * x + 1].filter fun y => decide (y < N)
def aG (N : Nat) (X : List Nat) : List Nat := X.flatMap (fU N)
def lN (N x q : Nat) : List Nat := ([2 * x,2 * x + 1].take q).filter fun y => decide (y < N)
theorem uG (N : Nat) (X : List Nat) (j : Nat) (h : j < X.length) : aG N (X.take (j + 1)) = aG N (X.take j) ++ lN N (X.getD j 0) 2 := by
 rw [aG,aG,List.take_succ_eq_append_getElem h,List.flatMap_append]
 simp [h,lN,fU]
theorem fI (N x : Nat) : lN N x 0 = [] := rfl
theorem jF (N x q : Nat) (hq : q < 2) : lN N x (q + 1) = lN N x q ++ if 2 * x + q < N then [2 * x + q] else [] := by
 match q,hq with
 | 0,_ => by_cases h : 2 * x < N <;> simp [lN,h]
 | 1,_ =>
  by_cases h : 2 * x < N
  ·by_cases h2 : 2 * x + 1 < N <;> simp [lN,h,h2]
  ·have h2 : ¬ 2 * x + 1 < N := by omega
   simp [lN,h,h2]
theorem gF (X : List Nat) (x : Nat) : gI (X ++ [x]) = dR (gI X) (x : Int) := by
 rw [gI,List.map_append,List.foldl_append]
 rfl
theorem tI (x q : Nat) (h : q < 2) : ([i64 (2 * (x : Int)),i64 (2 * (x : Int) + 1)] : List P1)[q]? = some (i64 ((2 * x + q : Nat) : Int)) := by
 match q,h with
 | 0,_ => simp
 | 1,_ => simp
theorem AddS.mono {n m : Nat} {out : List (Int × Int)} (h : AddS n out) (hm : n ≤ m) : AddS m out := ⟨Nat.le_trans h.1 hm,fun e he => by have := h.2 e he; omega⟩
theorem qS (N : Nat) : ∀ (X : List Nat),(aG N X).length ≤ 2 * X.length
 | [] => by simp [aG]
 | x :: X => by
  have := qS N X
  have h1 : (fU N x).length ≤ 2 := Nat.le_trans (List.length_filter_le _ _) (by simp)
  simp only [aG,List.flatMap_cons,List.length_append,Zl] at this ⊢
  omega
theorem wAA (N : Nat) (X : List Nat) : ∀ y ∈ aG N X,y < N := by
 intro y hy
 obtain ⟨x,_,h⟩ := List.mem_flatMap.1 hy
 exact of_decide_eq_true (List.mem_filter.1 h).2
theorem m94 (S F : Nat) (lv : List (List Int)) (k : Nat) (pd fo : List (Int × Int)) (se : Int) (dn : Bool) (body : List Int) (hk : k < lv.length) (hr : (lv.getD k []).length ≤ 4096) (hp : fJ pd (lv.getD k []).length = 0) (hb8 : body.length = 8 * (vB pd).length) (hse : 0 ≤ se ∧ se ≤ 1000000) : ACallsM Try.prog 94 139 [i64 (S : Int),i64 (F : Int),iE lv,gD pd,i64 (k : Int),gD fo,i64 se,bv dn] [i64 (S : Int),i64 (F : Int),iE lv,gD pd,i64 (k : Int),gD fo,i64 (se + ((vB pd).length : Int)),bv dn] [.p (bytes body)] (.p (jS (tH (lv.getD k []) body (vB pd) (vB pd).length))) := by
 refine xK oC Try.func94 (c := _) rfl (by kernel_rfl) ?_
 intro X hP hX hro hpl
 have hb : tb.Ok X.P := hP ▸ oC
 change AW X _ _ ⟨[.pin 1],[.ptr 0 0,.p (bytes body),.any,.any,.any,.any,.any,.any,.any,.any,.any,.any,.any,.any,.any,.any,.any,.any,.any,.any,.any,.any,.any,.any,.any,.any,.any,.any,.any,.any,.any,.any,.any,.any,.any,.any,.any,.any,.any,.any],[⟨139,[.p (i64 (S : Int)),.p (i64 (F : Int)),.p (iE lv),.p (gD pd),.p (i64 (k : Int)),.p (gD fo),.p (i64 se),.p (bv dn)]⟩],[]⟩
 have hfe := wJ hp
 have hfn := qK hp
 refine cA ?_
 refine gA hX hb [0,1,2] rfl (σ' := ?s1) (fun K hK => ?h1) ?n1
 case h1 =>
  iterate 3 (refine kA rfl (by simp (disch := omega) only [iA,aA,qop,fop,St.ev,St.put,cd,zd,Value.oneCell',lA,TypeDesc.aggB,Z0,ZM,ZL,Zl,Zo,ZG,ZH,St.addBox,D.boxCells,D.live,tt,Z2,mA,nA,Zh,List.length_drop] <;> exact rfl) ?_)
  refine bA ?_
  exact hK
 refine jA ?_
 refine cA ?_
 refine gA hX hb [0] rfl (σ' := ?s2) (fun K hK => ?h2) ?n2
 case h2 =>
  (refine kA rfl (by simp (disch := omega) only [iA,aA,qop,fop,St.ev,St.put,cd,zd,Value.oneCell',lA,TypeDesc.aggB,Z0,ZM,ZL,Zl,Zo,ZG,ZH,St.addBox,Value.cells,tt,Z2,mA,nA,Zh,List.length_drop] <;> exact rfl) ?_)
  refine bA ?_
  exact hK
 refine jA ?_
 refine jM 3 0 _ 3 1 rfl rfl (σ' := ?s3) ?h3 ?n3
 case h3 => simp only [St.nilCell,St.addVec,Za,Zb,Zl,Zo,ZL,ZM]; exact rfl
 refine cA ?_
 refine cA ?_
 refine gA hX hb [0,1,2,3,4,5] rfl (σ' := ?s4) (fun K hK => ?h4) ?n4
 case h4 =>
  iterate 5 (refine kA rfl (by simp (disch := omega) only [iA,aA,qop,fop,St.ev,St.put,cd,zd,Value.oneCell',lA,TypeDesc.aggB,Z0,Z1,pA,qA,tA,eA,D.pure?,ZC,ZD,fA,oA,uA,D.pv?,tt,Z2,mA,nA,Zh,List.length_drop] <;> exact rfl) ?_)
  refine mD rfl (by simp only [aA,St.ev,pB,qB,uA,D.pv?,ZG,ZH,zd,cd,Value.oneCell',Zr] <;> exact rfl) (acK hP (c89 pd)) (by simp only [St.put,Za,Zb] <;> exact rfl) ?_
  refine bA ?_
  exact hK
 refine jA ?_
 refine tB ?_
 refine aM hX hro hpl.j [.pin 1] [.any,.any,.ptr 1 0,.ptr 2 0,.any,.ptr 3 0,.any,.any,.any,.any,.any,.any,.p (.clo 114 [gD pd]),.any,.any,.any,.any,.any,.any,.any,.any,.any,.any,.any,.any,.any,.any,.any,.any,.any,.any,.any,.any,.any,.any,.any,.any,.any,.any,.any] 4 (fun (k1 : Nat) => [⟨139,[.p (i64 (S : Int)),.p (i64 (F : Int)),.p (iE lv),.p (gD pd),.p (i64 (k : Int)),.p (gD fo),.p (i64 (se + (k1 : Nat))),.p (bv dn)]⟩,⟨136,[.ptr 0 0]⟩,⟨88,[.p (bytes (body.drop (8 * k1)))]⟩,⟨87,[.vref 0]⟩]) (fun (k1 : Nat) => [some ⟨3,1,((tH (lv.getD k []) body (vB pd) k1)).length,((tH (lv.getD k []) body (vB pd) k1)).map fun n : Nat => i64 (n : Int)⟩]) [⟨139,[.p (i64 (S : Int)),.p (i64 (F : Int)),.p (iE lv),.p (gD pd),.p (i64 (k : Int)),.p (gD fo),.p (i64 (se + ((vB pd).length : Nat))),.p (bv dn)]⟩,⟨136,[.ptr 0 0]⟩,⟨88,[.p (bytes (body.drop (8 * (vB pd).length)))]⟩,⟨87,[.vref 0]⟩] [some ⟨3,1,((tH (lv.getD k []) body (vB pd) (vB pd).length)).length,((tH (lv.getD k []) body (vB pd) (vB pd).length)).map fun n : Nat => i64 (n : Int)⟩] (rC ⟨(by first | rfl | (first | (rw [lD,if_pos hdp]; simp) | (rw [lD,if_neg hdp]; simp) | (refine congrArg (fun n => D.p (i64 n)) ?_; omega) | (simp; exact rF body k1 (by omega)) | simp)),(by repeat first | exact sA | refine mB ?_ | refine vA (by first | rfl | (first | (rw [lD,if_pos hdp]; simp) | (rw [lD,if_neg hdp]; simp) | (refine congrArg (fun n => D.p (i64 n)) ?_; omega) | (simp; exact rF body k1 (by omega)) | simp)) ?_),(pC rfl ((by repeat first | exact sA | refine mB ?_ | refine vA (by first | rfl | (first | (rw [lD,if_pos hdp]; simp) | (rw [lD,if_neg hdp]; simp) | (refine congrArg (fun n => D.p (i64 n)) ?_; omega) | (simp; exact rF body k1 (by omega)) | simp)) ?_)) (pC rfl ((by repeat first | exact sA | refine mB ?_ | refine vA (by first | rfl | (first | (rw [lD,if_pos hdp]; simp) | (rw [lD,if_neg hdp]; simp) | (refine congrArg (fun n => D.p (i64 n)) ?_; omega) | (simp; exact rF body k1 (by omega)) | simp)) ?_)) (pC rfl ((by repeat first | exact sA | refine mB ?_ | refine vA (by first | rfl | (first | (rw [lD,if_pos hdp]; simp) | (rw [lD,if_neg hdp]; simp) | (refine congrArg (fun n => D.p (i64 n)) ?_; omega) | (simp; exact rF body k1 (by omega)) | simp)) ?_)) (pC rfl ((by repeat first | exact sA | refine mB ?_ | refine vA (by first | rfl | (first | (rw [lD,if_pos hdp]; simp) | (rw [lD,if_neg hdp]; simp) | (refine congrArg (fun n => D.p (i64 n)) ?_; omega) | (simp; exact rF body k1 (by omega)) | simp)) ?_)) (xB _))))),(jE (by first | rfl | (first | (rw [lD,if_pos hdp]; simp) | (rw [lD,if_neg hdp]; simp) | (refine congrArg (fun n => D.p (i64 n)) ?_; omega) | (simp; exact rF body k1 (by omega)) | simp)) (yB _)),rfl,rfl⟩) rfl rfl (hP ▸ (eKA pd _ hp)) rfl rfl rfl (by first | rfl | (first | (rw [vF]; rfl) | (simp only [vF]))) (by first | rfl | (first | (rw [vF]; rfl) | (simp only [vF]))) ?_ ?_
 ·intro k1 y hy
  obtain ⟨hk1,rfl⟩ := vP hy
  have hx1 := nS hp _ (qE (vB pd) 0 k1 hk1)
  have hdl := jX (lv.getD k []) body (vB pd) k1
  unfold gL
  intro X1 hQ hX
  have hP0 := hP; have hP := hQ.trans hP; have hb : tb.Ok X1.P := hP ▸ oC
  change AW X1 _ _ ⟨[.pin 4],[.any,.any,.ptr 1 0,.ptr 2 0,.any,.ptr 3 0,.any,.any,.any,.any,.any,.any,.p (.clo 114 [gD pd]),.p (i64 ((vB pd).getD k1 0 : Nat)),.any,.any,.any,.any,.any,.any,.any,.any,.any,.any,.any,.any,.any,.any,.any,.any,.any,.any,.any,.any,.any,.any,.any,.any,.any,.any],[⟨139,[.p (i64 (S : Int)),.p (i64 (F : Int)),.p (iE lv),.p (gD pd),.p (i64 (k : Int)),.p (gD fo),.p (i64 (se + (k1 : Nat))),.p (bv dn)]⟩,⟨136,[.ptr 0 0]⟩,⟨88,[.p (bytes (body.drop (8 * k1)))]⟩,⟨87,[.vref 0]⟩],[some ⟨3,1,((tH (lv.getD k []) body (vB pd) k1)).length,((tH (lv.getD k []) body (vB pd) k1)).map fun n : Nat => i64 (n : Int)⟩]⟩
  refine gA hX hb [0] rfl (σ' := ?s5) (fun K hK => ?h5) ?n5
  case h5 =>
   (refine kA rfl (by simp (disch := omega) only [iA,aA,qop,fop,St.ev,St.put,cd,zd,Value.oneCell',lA,TypeDesc.aggB,Z0,Z2,mA,nA,Zh,List.length_drop] <;> exact rfl) ?_)
   refine bA ?_
   exact hK
  refine ⟨rfl,rfl,?_⟩
  intro X2 hQ2 hX
  have hP := hQ2.trans hP0; have hb : tb.Ok X2.P := hP ▸ oC
  refine tB ?_
  refine cA ?_
  refine cA ?_
  refine dF hX hb (jD hP) [(0,true),(1,true),(2,true),(4,true),(3,false),(5,true),(6,true),(7,false),(8,false),(9,true)] (by kernel_rfl) (σ' := ?s6) (fun K hK => ?h6) ?n6
  case h6 =>
   iterate 4 (refine eF rfl (by simp (disch := omega) only [qop,fop,St.ev,St.put,cd,zd,Value.oneCell',lA,TypeDesc.aggB,Z0,Z1,pA,qA,tA,eA,D.pure?,ZC,ZD,imp_self,Int.toNat_one,Int.toNat_zero,Nat.one_mul,nI,bnd,Option.isSome_none,ZP,Option.map_none,implies_true,forall_const,ZO,Nat.sub_zero,uA,D.pv?,xA,yA,wA,Nat.mul_one,Nat.zero_mul,Zh,Bool.not_true,Bool.not_false,tt,Z2,mA,nA,List.length_drop] <;> exact rfl) (by simp only [St.put,Za,Zb] <;> exact rfl) ?_)
   refine sGA rfl rfl (by simp only [St.ev,pB,qB,zd,cd,Value.oneCell',Zr] <;> exact rfl) rfl (by simp only [St.ev,pB,qB,zd,cd,Value.oneCell',Zr] <;> exact rfl) rfl (by simp only [eA,D.pure?] <;> exact rfl) (by simp only [uA,pD,D.pvC?,D.pvN?,D.pvL?,eA,D.pv?,D.pure?,St.ev,pB,qB,zd,cd,Value.oneCell',Zr,ZG,ZH,Zd,Zc,Zg] <;> exact rfl) (acR hP (fKA S F lv _ rfl k hk fo _ dn)) (by simp only [St.put,Za,Zb] <;> exact rfl) ?_
   iterate 2 (refine eF rfl (by simp (disch := omega) only [qop,fop,St.ev,St.put,cd,zd,Value.oneCell',lA,TypeDesc.aggB,Z0,Z1,pA,qA,tA,eA,D.pure?,ZC,ZD,imp_self,Int.toNat_one,Int.toNat_zero,Nat.one_mul,nI,bnd,Option.isSome_none,ZP,Option.map_none,implies_true,forall_const,ZO,Nat.sub_zero,uA,D.pv?,xA,yA,wA,Nat.mul_one,Nat.zero_mul,Zh,Bool.not_true,Bool.not_false,tt,Z2,mA,nA,List.length_drop] <;> exact rfl) (by simp only [St.put,Za,Zb] <;> exact rfl) ?_)
   refine eH rfl (by simp only [aA,St.ev,pB,qB,uA,D.pv?,ZG,ZH,zd,cd,Value.oneCell',Zr] <;> exact rfl) (acK hP (c90 _)) (by simp only [St.put,Za,Zb] <;> exact rfl) ?_
   refine eH rfl (by simp only [aA,St.ev,pB,qB,uA,D.pv?,ZG,ZH,zd,cd,Value.oneCell',Zr] <;> exact rfl) (acK hP (lNA _ (by rw [List.length_drop]; omega) _)) (by simp only [St.put,Za,Zb] <;> exact rfl) ?_
   (refine eF rfl (by simp (disch := omega) only [qop,fop,St.ev,St.put,cd,zd,Value.oneCell',lA,TypeDesc.aggB,Z0,Z1,pA,qA,tA,eA,D.pure?,ZC,ZD,imp_self,Int.toNat_one,Int.toNat_zero,Nat.one_mul,nI,bnd,Option.isSome_none,ZP,Option.map_none,implies_true,forall_const,ZO,Nat.sub_zero,uA,D.pv?,xA,yA,wA,Nat.mul_one,Nat.zero_mul,Zh,Bool.not_true,Bool.not_false,tt,Z2,mA,nA,List.length_drop] <;> exact rfl) (by simp only [St.put,Za,Zb] <;> exact rfl) ?_)
   refine xC ?_
   exact hK
  refine jA ?_
  refine oB _ rfl (fun hc0 => ?_) (fun hc0 => ?_)
  ·try simp only [Zp,Zi,ZK,ZJ,ne_eq,Zn,Zm,ZB,ZA,ZI,not_or,not_and,Zu] at hc0
   have hdp : bEA (lv.getD k []) body k1 ((vB pd).getD k1 0) = true := decide_eq_true hc0
   refine gA hX hb [0,1,2,3,4] rfl (σ' := ?s7) (fun K hK => ?h7) ?n7
   case h7 =>
    iterate 5 (refine kA rfl (by simp (disch := omega) only [iA,aA,qop,fop,St.ev,St.put,cd,zd,Value.oneCell',lA,TypeDesc.aggB,Z0,Z1,pA,qA,tA,eA,D.pure?,ZC,ZD,zD,aD,bD,bE,bB,rB,D.cells?,fB,gB,iB,jB,kB,ZG,ZH,ZL,ZM,ZN,aB,Nat.reduceAdd,Nat.reduceMul,nD,cG,St.demote,D.demote,St.setVec,Zh,List.length_append,Nat.mul_one,reduceIte,iC,D.boxCells,D.live,tt,Z2,mA,nA,List.length_drop] <;> exact rfl) ?_)
    refine bA ?_
    exact hK
   refine jA ?_
   refine cA ?_
   refine gA hX hb [0,1,2] rfl (σ' := ?s8) (fun K hK => ?h8) ?n8
   case h8 =>
    iterate 3 (refine kA rfl (by simp (disch := omega) only [iA,aA,qop,fop,St.ev,St.put,cd,zd,Value.oneCell',lA,TypeDesc.aggB,Z0,Z1,pA,qA,tA,eA,D.pure?,ZC,ZD,imp_self,Int.toNat_one,Int.toNat_zero,Nat.one_mul,nI,bnd,Option.isSome_none,ZP,Option.map_none,implies_true,forall_const,ZO,Nat.sub_zero,iC,D.boxCells,D.live,D.cells?,ZM,ZL,ZN,ZG,ZH,St.setVec,tt,Z2,mA,nA,Zh,List.length_drop] <;> exact rfl) ?_)
    refine bA ?_
    exact hK
   refine jA ?_
   refine gA hX hb [0,1,2,3,4,5,6,7,8,9] rfl (σ' := ?s9) (fun K hK => ?h9) ?n9
   case h9 =>
    iterate 10 (refine kA rfl (by simp (disch := omega) only [iA,aA,qop,fop,St.ev,St.put,cd,zd,Value.oneCell',lA,TypeDesc.aggB,Z0,Z1,pA,qA,tA,eA,D.pure?,ZC,ZD,fA,oA,cB,iop,iC,D.boxCells,D.live,D.cells?,ZM,ZL,ZN,ZG,ZH,St.setVec,tt,Z2,mA,nA,Zh,List.length_drop] <;> exact rfl) ?_)
    refine bA ?_
    exact hK
   refine cE ?_
   exact ⟨rfl,rC ⟨(by first | rfl | (first | (rw [lD,if_pos hdp]; simp) | (rw [lD,if_neg hdp]; simp) | (refine congrArg (fun n => D.p (i64 n)) ?_; omega) | (simp; exact rF body k1 (by omega)) | simp)),(by repeat first | exact sA | refine mB ?_ | refine vA rfl ?_),(pC rfl ((by repeat first | exact sA | refine mB ?_ | refine vA (by first | rfl | (first | (rw [lD,if_pos hdp]; simp) | (rw [lD,if_neg hdp]; simp) | (refine congrArg (fun n => D.p (i64 n)) ?_; omega) | (simp; exact rF body k1 (by omega)) | simp)) ?_)) (pC rfl ((by repeat first | exact sA | refine mB ?_ | refine vA (by first | rfl | (first | (rw [lD,if_pos hdp]; simp) | (rw [lD,if_neg hdp]; simp) | (refine congrArg (fun n => D.p (i64 n)) ?_; omega) | (simp; exact rF body k1 (by omega)) | simp)) ?_)) (pC rfl ((by repeat first | exact sA | refine mB ?_ | refine vA (by first | rfl | (first | (rw [lD,if_pos hdp]; simp) | (rw [lD,if_neg hdp]; simp) | (refine congrArg (fun n => D.p (i64 n)) ?_; omega) | (simp; exact rF body k1 (by omega)) | simp)) ?_)) (pC rfl ((by repeat first | exact sA | refine mB ?_ | refine vA (by first | rfl | (first | (rw [lD,if_pos hdp]; simp) | (rw [lD,if_neg hdp]; simp) | (refine congrArg (fun n => D.p (i64 n)) ?_; omega) | (simp; exact rF body k1 (by omega)) | simp)) ?_)) (xB _))))),(jE (by first | rfl | (first | (rw [lD,if_pos hdp]; simp) | (rw [lD,if_neg hdp]; simp) | (refine congrArg (fun n => D.p (i64 n)) ?_; omega) | (simp; exact rF body k1 (by omega)) | simp)) (yB _)),rfl,rfl⟩⟩
  ·try simp only [Zp,Zi,ZK,ZJ,ne_eq,Zn,Zm,ZB,ZA,ZI,not_or,not_and,Zu] at hc0
   have hdp : ¬ bEA (lv.getD k []) body k1 ((vB pd).getD k1 0) = true := fun h => absurd (of_decide_eq_true h) (fun h => h hc0)
   refine uB ?_
   refine jA ?_
   refine cA ?_
   refine gA hX hb [0,1,2] rfl (σ' := ?s10) (fun K hK => ?h10) ?n10
   case h10 =>
    iterate 3 (refine kA rfl (by simp (disch := omega) only [iA,aA,qop,fop,St.ev,St.put,cd,zd,Value.oneCell',lA,TypeDesc.aggB,Z0,Z1,pA,qA,tA,eA,D.pure?,ZC,ZD,imp_self,Int.toNat_one,Int.toNat_zero,Nat.one_mul,nI,bnd,Option.isSome_none,ZP,Option.map_none,implies_true,forall_const,ZO,Nat.sub_zero,iC,D.boxCells,D.live,D.cells?,ZM,ZL,ZN,ZG,ZH,St.setVec,tt,Z2,mA,nA,Zh,List.length_drop] <;> exact rfl) ?_)
    refine bA ?_
    exact hK
   refine jA ?_
   refine gA hX hb [0,1,2,3,4,5,6,7,8,9] rfl (σ' := ?s11) (fun K hK => ?h11) ?n11
   case h11 =>
    iterate 10 (refine kA rfl (by simp (disch := omega) only [iA,aA,qop,fop,St.ev,St.put,cd,zd,Value.oneCell',lA,TypeDesc.aggB,Z0,Z1,pA,qA,tA,eA,D.pure?,ZC,ZD,fA,oA,cB,iop,iC,D.boxCells,D.live,D.cells?,ZM,ZL,ZN,ZG,ZH,St.setVec,tt,Z2,mA,nA,Zh,List.length_drop] <;> exact rfl) ?_)
    refine bA ?_
    exact hK
   refine cE ?_
   exact ⟨rfl,rC ⟨(by first | rfl | (first | (rw [lD,if_pos hdp]; simp) | (rw [lD,if_neg hdp]; simp) | (refine congrArg (fun n => D.p (i64 n)) ?_; omega) | (simp; exact rF body k1 (by omega)) | simp)),(by repeat first | exact sA | refine mB ?_ | refine vA rfl ?_),(pC rfl ((by repeat first | exact sA | refine mB ?_ | refine vA (by first | rfl | (first | (rw [lD,if_pos hdp]; simp) | (rw [lD,if_neg hdp]; simp) | (refine congrArg (fun n => D.p (i64 n)) ?_; omega) | (simp; exact rF body k1 (by omega)) | simp)) ?_)) (pC rfl ((by repeat first | exact sA | refine mB ?_ | refine vA (by first | rfl | (first | (rw [lD,if_pos hdp]; simp) | (rw [lD,if_neg hdp]; simp) | (refine congrArg (fun n => D.p (i64 n)) ?_; omega) | (simp; exact rF body k1 (by omega)) | simp)) ?_)) (pC rfl ((by repeat first | exact sA | refine mB ?_ | refine vA (by first | rfl | (first | (rw [lD,if_pos hdp]; simp) | (rw [lD,if_neg hdp]; simp) | (refine congrArg (fun n => D.p (i64 n)) ?_; omega) | (simp; exact rF body k1 (by omega)) | simp)) ?_)) (pC rfl ((by repeat first | exact sA | refine mB ?_ | refine vA (by first | rfl | (first | (rw [lD,if_pos hdp]; simp) | (rw [lD,if_neg hdp]; simp) | (refine congrArg (fun n => D.p (i64 n)) ?_; omega) | (simp; exact rF body k1 (by omega)) | simp)) ?_)) (xB _))))),(jE (by first | rfl | (first | (rw [lD,if_pos hdp]; simp) | (rw [lD,if_neg hdp]; simp) | (refine congrArg (fun n => D.p (i64 n)) ?_; omega) | (simp; exact rF body k1 (by omega)) | simp)) (yB _)),rfl,rfl⟩⟩
 refine cE ?_
 refine jA ?_
 refine cA ?_
 refine nH 0 rfl (σ' := ?s13) ?h13 ?n13
 case h13 => simp only [St.freeze,D.freeze,ZG,ZH,Za,Zb,Zr,reduceIte,Nat.reduceEqDiff]; exact rfl
 refine gA hX hb [0,1] rfl (σ' := ?s12) (fun K hK => ?h12) ?n12
 case h12 =>
  iterate 2 (refine kA rfl (by simp (disch := omega) only [iA,aA,qop,fop,St.ev,St.put,cd,zd,Value.oneCell',lA,TypeDesc.aggB,Z0,Z1,pA,qA,tA,eA,D.pure?,ZC,ZD,tt,Z2,mA,nA,Zh,List.length_drop] <;> exact rfl) ?_)
  refine bA ?_
  exact hK
 refine jA ?_
 refine bC ?_
 exact eCA (zB rfl rfl) rfl rfl (by first | (simp only [eA,D.pure?] <;> exact rfl))
theorem m95 (S F : Nat) (lv : List (List Int)) (k : Nat) (pd fo : List (Int × Int)) (se : Int) (dn : Bool) (Y : List Nat) (hF : 1 ≤ F ∧ F ≤ 4096) (hS : S ≤ 4096) (hY : Y.Pairwise (· < ·)) (hXS : ∀ x ∈ Y,x * F < S) : ACallsM Try.prog 95 139 [i64 (S : Int),i64 (F : Int),iE lv,gD pd,i64 (k : Int),gD fo,i64 se,bv dn] [i64 (S : Int),i64 (F : Int),iE lv,gD [],i64 0,gD (mG (eJ S F Y)),i64 se,bv true] [.p (jS Y)] (.tup []) := by
 refine xK oC Try.func95 (c := _) rfl (by kernel_rfl) ?_
 intro X hP hX hro hpl
 have hb : tb.Ok X.P := hP ▸ oC
 change AW X _ _ ⟨[.pin 1],[.ptr 0 0,.p (jS Y),.any,.any,.any,.any,.any,.any,.any,.any,.any,.any,.any,.any,.any,.any,.any,.any,.any,.any,.any,.any,.any,.any,.any,.any,.any,.any,.any,.any,.any,.any,.any,.any,.any,.any,.any,.any,.any,.any,.any,.any,.any,.any,.any,.any,.any,.any,.any,.any,.any,.any,.any,.any,.any],[⟨139,[.p (i64 (S : Int)),.p (i64 (F : Int)),.p (iE lv),.p (gD pd),.p (i64 (k : Int)),.p (gD fo),.p (i64 se),.p (bv dn)]⟩],[]⟩
 have hXl : Y.length ≤ S := sZ hY fun x hx => Nat.lt_of_le_of_lt (Nat.le_mul_of_pos_right _ hF.1) (hXS x hx)
 refine cA ?_
 refine gA hX hb [0,1,2,3,4] rfl (σ' := ?s1) (fun K hK => ?h1) ?n1
 case h1 =>
  iterate 5 (refine kA rfl (by simp (disch := omega) only [iA,aA,qop,fop,St.ev,St.put,cd,zd,Value.oneCell',lA,TypeDesc.aggB,Z0,fA,oA,iC,D.boxCells,D.live,D.cells?,D.pure?,ZM,ZL,ZN,Z1,ZG,ZH,St.setVec,ZC,tt,Z2,eB,Zh] <;> exact rfl) ?_)
  refine bA ?_
  exact hK
 refine jA ?_
 refine cA ?_
 refine gA hX hb [0] rfl (σ' := ?s2) (fun K hK => ?h2) ?n2
 case h2 =>
  (refine kA rfl (by simp (disch := omega) only [iA,aA,qop,fop,St.ev,St.put,cd,zd,Value.oneCell',lA,TypeDesc.aggB,Z0,Z2,eB,Zh] <;> exact rfl) ?_)
  refine bA ?_
  exact hK
 refine jA ?_
 refine nJ 4 35 2 rfl (σ' := ?s3) ?h3 ?n3
 case h3 => simp only [St.nilSlot,St.addVec,Za,Zb,Zl,Zo,ZL,ZM]; exact rfl
 refine cA ?_
 refine cA ?_
 refine gA hX hb [0,1,2] rfl (σ' := ?s4) (fun K hK => ?h4) ?n4
 case h4 =>
  iterate 3 (refine kA rfl (by simp (disch := omega) only [iA,aA,qop,fop,St.ev,St.put,cd,zd,Value.oneCell',lA,TypeDesc.aggB,Z0,vC,tt,Z2,eB,Zh] <;> exact rfl) ?_)
  refine bA ?_
  exact hK
 refine jA ?_
 refine tB ?_
 refine rD (ι := Nat) (fun j => j ≤ Y.length) (fun j => ⟨[.pin 1],[.ptr 0 0,.any,.any,.any,.vref 0,.any,.any,.any,.any,.any,.any,.any,.p (jS Y),.p (i64 Y.length),.p (i64 j),.any,.any,.any,.any,.any,.any,.any,.any,.any,.any,.any,.any,.any,.any,.any,.any,.any,.any,.any,.any,.any,.any,.any,.any,.any,.any,.any,.any,.any,.any,.any,.any,.any,.any,.any,.any,.any,.any,.any,.any],[⟨139,[.p (i64 (S : Int)),.p (i64 (F : Int)),.p (iE lv),.p (gD pd),.p (i64 (k : Int)),.nil,.p (i64 se),.p (bv dn)]⟩],[some ⟨35,2,(eJ S F (Y.take j)).length,dE (eJ S F (Y.take j))⟩]⟩) (fun j => Y.length - j) 0 (by exact Nat.zero_le _) (rC ⟨(by first | rfl | (rw [dH S F Y j (by omega),← jC]; simp)),(by repeat first | exact sA | refine mB ?_ | refine vA (by first | rfl | (rw [dH S F Y j (by omega),← jC]; simp)) ?_),(pC rfl ((by repeat first | exact sA | refine mB ?_ | refine vA (by first | rfl | (rw [dH S F Y j (by omega),← jC]; simp)) ?_)) (xB _)),(jE (by first | rfl | (rw [dH S F Y j (by omega),← jC]; simp)) (yB _)),rfl,rfl⟩) ?_
 rintro j hJ
 have hel := eO S F (Y.take j)
 rw [List.length_take] at hel
 refine cA ?_
 refine gA hX hb [0] rfl (σ' := ?s5) (fun K hK => ?h5) ?n5
 case h5 =>
  (refine kA rfl (by simp (disch := omega) only [iA,aA,qop,fop,St.ev,St.put,cd,zd,Value.oneCell',lA,TypeDesc.aggB,Z0,cB,iop,t3,ti3,Z2,eB,Zh] <;> exact rfl) ?_)
  refine bA ?_
  exact hK
 refine jA ?_
 refine cA ?_
 refine oB _ rfl (fun hc0 => ?_) (fun hc0 => ?_)
 ·try simp only [Zp,Zi,ZK,ZJ,ne_eq,Zn,Zm,ZB,ZA,ZI,not_or,not_and,Zu] at hc0
  have hxj := hXS _ (qE Y 0 j (by omega))
  refine uB ?_
  refine jA ?_
  refine cA ?_
  refine tB ?_
  refine cA ?_
  refine gA hX hb [0,1,2] rfl (σ' := ?s6) (fun K hK => ?h6) ?n6
  case h6 =>
   iterate 3 (refine kA rfl (by simp (disch := omega) only [iA,aA,qop,fop,St.ev,St.put,cd,zd,Value.oneCell',lA,TypeDesc.aggB,Z0,Int.toNat_zero,Int.toNat_one,xA,yA,wA,ZO,Nat.mul_one,ZC,Nat.zero_mul,Zh,Z1,pA,qA,tA,eA,D.pure?,ZD,tt,Z2,eB] <;> exact rfl) ?_)
   refine bA ?_
   exact hK
  refine jA ?_
  refine cA ?_
  refine gA hX hb [0,1,2,3,4,5,6,7,8] rfl (σ' := ?s7) (fun K hK => ?h7) ?n7
  case h7 =>
   iterate 9 (refine kA rfl (by simp (disch := omega) only [iA,aA,qop,fop,St.ev,St.put,cd,zd,Value.oneCell',lA,TypeDesc.aggB,Z0,fA,oA,Z1,pA,qA,tA,eA,D.pure?,ZC,ZD,cB,iop,tt,Z2,eB,Zh,uD] <;> exact rfl) ?_)
   refine bA ?_
   exact hK
  refine jA ?_
  refine dF hX hb (jD hP) [(0,true),(1,true),(2,true),(3,true),(4,true),(5,true),(6,true),(7,true),(8,true),(9,true),(10,true),(11,true),(12,true),(13,true),(14,true),(15,true),(16,true),(17,true),(18,false),(19,false),(20,true)] (by kernel_rfl) (σ' := ?s8) (fun K hK => ?h8) ?n8
  case h8 =>
   iterate 18 (refine eF rfl (by simp (disch := omega) only [qop,fop,St.ev,St.put,cd,zd,Value.oneCell',lA,TypeDesc.aggB,Z0,fA,oA,Z1,pA,qA,tA,eA,D.pure?,ZC,ZD,cB,iop,aF,aE,cD,mC,aC,D.cell1,fB,gB,iB,jB,kB,List.all_cons,List.all_nil,uC,TI.place,TI.zeros,TI.kindOk,D.cells?,zp,Value.cells,ZQ,ZP,zD,aD,bD,bE,bB,rB,ZG,ZH,ZL,ZM,ZN,aB,Nat.reduceAdd,Nat.reduceMul,nD,cG,St.demote,D.demote,St.setVec,Zh,List.length_append,Nat.mul_one,reduceIte,tt,Z2,eB] <;> exact rfl) (by simp only [St.put,Za,Zb] <;> exact rfl) ?_)
   iterate 2 (refine rG rfl (by simp (disch := omega) only [iA,aA,qop,fop,St.ev,St.put,cd,zd,Value.oneCell',lA,TypeDesc.aggB,Z0,fA,oA,Z1,pA,qA,tA,eA,D.pure?,ZC,ZD,cB,iop,aF,aE,cD,mC,aC,D.cell1,fB,gB,iB,jB,kB,List.all_cons,List.all_nil,uC,TI.place,TI.zeros,TI.kindOk,D.cells?,zp,Value.cells,ZQ,ZP,zD,aD,bD,bE,bB,rB,ZG,ZH,ZL,ZM,ZN,aB,Nat.reduceAdd,Nat.reduceMul,nD,cG,St.demote,D.demote,St.setVec,Zh,List.length_append,Nat.mul_one,reduceIte,tt,Z2,eB] <;> exact rfl) ?_)
   (refine eF rfl (by simp (disch := omega) only [qop,fop,St.ev,St.put,cd,zd,Value.oneCell',lA,TypeDesc.aggB,Z0,fA,oA,Z1,pA,qA,tA,eA,D.pure?,ZC,ZD,cB,iop,aF,aE,cD,mC,aC,D.cell1,fB,gB,iB,jB,kB,List.all_cons,List.all_nil,uC,TI.place,TI.zeros,TI.kindOk,D.cells?,zp,Value.cells,ZQ,ZP,zD,aD,bD,bE,bB,rB,ZG,ZH,ZL,ZM,ZN,aB,Nat.reduceAdd,Nat.reduceMul,nD,cG,St.demote,D.demote,St.setVec,Zh,List.length_append,Nat.mul_one,reduceIte,tt,Z2,eB] <;> exact rfl) (by simp only [St.put,Za,Zb] <;> exact rfl) ?_)
   refine xC ?_
   exact hK
  refine cE ?_
  refine jA ?_
  refine gA hX hb [0,1] rfl (σ' := ?s9) (fun K hK => ?h9) ?n9
  case h9 =>
   iterate 2 (refine kA rfl (by simp (disch := omega) only [iA,aA,qop,fop,St.ev,St.put,cd,zd,Value.oneCell',lA,TypeDesc.aggB,Z0,cB,iop,tt,Z2,eB,Zh] <;> exact rfl) ?_)
   refine bA ?_
   exact hK
  refine jA ?_
  exact ⟨j + 1,by (try dsimp only); omega,by (try dsimp only); omega,rC ⟨(by first | rfl | (rw [dH S F Y j (by omega),← jC]; simp)),(by repeat first | exact sA | refine mB ?_ | refine vA (by first | rfl | (rw [dH S F Y j (by omega),← jC]; simp)) ?_),(pC rfl ((by repeat first | exact sA | refine mB ?_ | refine vA (by first | rfl | (rw [dH S F Y j (by omega),← jC]; simp)) ?_)) (xB _)),(jE (by first | rfl | (rw [dH S F Y j (by omega),← jC]; simp)) (yB _)),rfl,rfl⟩⟩
 ·try simp only [Zp,Zi,ZK,ZJ,ne_eq,Zn,Zm,ZB,ZA,ZI,not_or,not_and,Zu] at hc0
  refine oD ?_
  refine fD ?_
  refine fD ?_
  refine zE ?_
  refine jA ?_
  refine cA ?_
  obtain rfl : j = Y.length := by omega
  refine nH 0 rfl (σ' := ?s11) ?h11 ?n11
  case h11 => simp only [St.freeze,D.freeze,ZG,ZH,Za,Zb,Zr,reduceIte,Nat.reduceEqDiff]; exact rfl
  refine gA hX hb [0,1,2,3,4,5,6] rfl (σ' := ?s10) (fun K hK => ?h10) ?n10
  case h10 =>
   iterate 2 (refine kA rfl (by simp (disch := omega) only [iA,aA,qop,fop,St.ev,St.put,cd,zd,Value.oneCell',lA,TypeDesc.aggB,Z0,uA,D.pv?,fA,oA,iC,D.boxCells,D.live,D.cells?,D.pure?,ZM,ZL,ZN,Z1,ZG,ZH,St.setVec,ZC,tt,Z2,eB,Zh] <;> exact rfl) ?_)
   refine mD rfl (by simp only [aA,St.ev,pB,qB,uA,D.pv?,ZG,ZH,zd,cd,Value.oneCell',Zr] <;> exact rfl) (acK hP (c73 (eJ S F (Y.take Y.length)) 0 (by rw [eO,List.length_take]; omega) (rAA hF.1 hS fun x hx => hXS x (List.mem_of_mem_take hx)) (kS hF.1 _ 0 (hY.sublist (List.take_sublist _ _)) (fun x hx => hXS x (List.mem_of_mem_take hx)) (fun _ _ => Int.natCast_nonneg _)))) (by simp only [St.put,Za,Zb] <;> exact rfl) ?_
   iterate 4 (refine kA rfl (by simp (disch := omega) only [iA,aA,qop,fop,St.ev,St.put,cd,zd,Value.oneCell',lA,TypeDesc.aggB,Z0,uA,D.pv?,fA,oA,iC,D.boxCells,D.live,D.cells?,D.pure?,ZM,ZL,ZN,Z1,ZG,ZH,St.setVec,ZC,tt,Z2,eB,Zh] <;> exact rfl) ?_)
   refine bA ?_
   exact hK
  refine jA ?_
  refine gA hX hb [0,1] rfl (σ' := ?s12) (fun K hK => ?h12) ?n12
  case h12 =>
   (refine kA rfl (by simp (disch := omega) only [iA,aA,qop,fop,St.ev,St.put,cd,zd,Value.oneCell',lA,TypeDesc.aggB,Z0,uA,D.pv?,mHA,qW,Z2,eB,Zh] <;> exact rfl) ?_)
   refine iAA rfl rfl (by simp only [St.ev,pB,qB,zd,cd,Value.oneCell',Zr] <;> exact rfl) rfl (by simp only [St.ev,pB,qB,zd,cd,Value.oneCell',Zr] <;> exact rfl) rfl (by simp only [eA,D.pure?] <;> exact rfl) (by simp only [uA,pD,D.pvC?,D.pvN?,D.pvL?,eA,D.pv?,D.pure?,St.ev,pB,qB,zd,cd,Value.oneCell',Zr,ZG,ZH,Zd,Zc,Zg] <;> exact rfl) (acM hP (m96 _ _ _ _ _ _ _ _)) (by simp only [St.put,ZG,ZH,Za,Zb] <;> exact rfl) ?_
   refine bA ?_
   exact hK
  exact lY rfl rfl rfl (by first | (simp only [eA,D.pure?] <;> exact rfl) | (simp only [eA,D.pure?]; rw [List.take_length]))
theorem m97 (S F : Nat) (lv : List (List Int)) (k : Nat) (pd fo : List (Int × Int)) (se : Int) (dn : Bool) (Y : List Nat) (hk : k < lv.length) (hY : Y.length ≤ 4096) (hlv : lv.length ≤ 4096) (hx : ∀ x ∈ Y,x ≤ 1000000) (hr : (lv.getD k []).length ≤ 4096) : ACallsM Try.prog 97 139 [i64 (S : Int),i64 (F : Int),iE lv,gD pd,i64 ((k + 1 : Nat) : Int),gD fo,i64 se,bv dn] [i64 (S : Int),i64 (F : Int),iE lv,gD (gI (aG (lv.getD k []).length Y)),i64 (k : Int),gD fo,i64 se,bv dn] [.p (jS Y)] (.tup []) := by
 refine xK oC Try.func97 (c := _) rfl (by kernel_rfl) ?_
 intro X hP hX hro hpl
 have hb : tb.Ok X.P := hP ▸ oC
 change AW X _ _ ⟨[.pin 1],[.ptr 0 0,.p (jS Y),.any,.any,.any,.any,.any,.any,.any,.any,.any,.any,.any,.any,.any,.any,.any,.any,.any,.any,.any,.any,.any,.any,.any,.any,.any,.any,.any,.any,.any,.any,.any,.any,.any,.any,.any,.any,.any,.any,.any,.any,.any,.any,.any,.any,.any,.any,.any,.any,.any,.any,.any,.any,.any,.any],[⟨139,[.p (i64 (S : Int)),.p (i64 (F : Int)),.p (iE lv),.p (gD pd),.p (i64 ((k + 1 : Nat) : Int)),.p (gD fo),.p (i64 se),.p (bv dn)]⟩],[]⟩
 have hk1 : (((k + 1 : Nat) : Int) - 1) = (k : Int) := by omega
 refine cA ?_
 refine gA hX hb [0,1,2,3,4,5,6,7,8,9] rfl (σ' := ?s1) (fun K hK => ?h1) ?n1
 case h1 =>
  iterate 10 (refine kA rfl (by simp (disch := omega) only [iA,aA,qop,fop,St.ev,St.put,cd,zd,Value.oneCell',lA,TypeDesc.aggB,Z0,fA,oA,Z1,pA,qA,tA,eA,D.pure?,ZC,ZD,cB,iop,iC,D.boxCells,D.live,D.cells?,ZM,ZL,ZN,ZG,ZH,St.setVec,tt,Z2,eB,Zh,tI,hk1] <;> exact rfl) ?_)
  refine bA ?_
  exact hK
 refine jA ?_
 refine cA ?_
 refine gA hX hb [0,1,2,3,4] rfl (σ' := ?s2) (fun K hK => ?h2) ?n2
 case h2 =>
  iterate 5 (refine kA rfl (by simp (disch := omega) only [iA,aA,qop,fop,St.ev,St.put,cd,zd,Value.oneCell',lA,TypeDesc.aggB,Z0,fA,oA,iC,D.boxCells,D.live,D.cells?,D.pure?,ZM,ZL,ZN,Z1,ZG,ZH,St.setVec,ZC,tt,Z2,eB,Zh,tI] <;> exact rfl) ?_)
  refine bA ?_
  exact hK
 refine jA ?_
 refine jM 0 3 _ 35 2 rfl rfl (σ' := ?s3) ?h3 ?n3
 case h3 => simp only [St.nilCell,St.addVec,Za,Zb,Zl,Zo,ZL,ZM]; exact rfl
 refine cA ?_
 refine gA hX hb [0,1,2] rfl (σ' := ?s4) (fun K hK => ?h4) ?n4
 case h4 =>
  iterate 3 (refine kA rfl (by simp (disch := omega) only [iA,aA,qop,fop,St.ev,St.put,cd,zd,Value.oneCell',lA,TypeDesc.aggB,Z0,vC,tt,Z2,eB,Zh,tI] <;> exact rfl) ?_)
  refine bA ?_
  exact hK
 refine jA ?_
 refine uU (σ' := ⟨[.pin 1],[.ptr 0 0,.any,.any,.any,.any,.any,.any,.any,.any,.any,.any,.any,.any,.any,.any,.any,.any,.any,.any,.any,.any,.any,.any,.any,.any,.any,.any,.any,.any,.any,.any,.any,.any,.any,.any,.any,.any,.any,.any,.any,.any,.any,.any,.any,.any,.any,.any,.any,.any,.any,.any,.any,.any,.any,.any,.any],[⟨139,[.p (i64 (S : Int)),.p (i64 (F : Int)),.p (iE lv),.p (gD (gI (aG (lv.getD k []).length Y))),.p (i64 (k : Int)),.p (gD fo),.p (i64 se),.p (bv dn)]⟩],[]⟩) ?_ ?_
 ·refine tB ?_
  refine rD (ι := Nat) (fun j => j ≤ Y.length ∧ AddS (2 * j) (gI (aG (lv.getD k []).length (Y.take j)))) (fun j => ⟨[.pin 1],[.ptr 0 0,.any,.any,.any,.any,.any,.any,.any,.any,.any,.any,.any,.any,.any,.any,.any,.any,.any,.any,.any,.any,.p (jS Y),.p (i64 Y.length),.p (i64 j),.any,.any,.any,.any,.any,.any,.any,.any,.any,.any,.any,.any,.any,.any,.any,.any,.any,.any,.any,.any,.any,.any,.any,.any,.any,.any,.any,.any,.any,.any,.any,.any],[⟨139,[.p (i64 (S : Int)),.p (i64 (F : Int)),.p (iE lv),.vref 0,.p (i64 (k : Int)),.p (gD fo),.p (i64 se),.p (bv dn)]⟩],[some ⟨35,2,(gI (aG (lv.getD k []).length (Y.take j))).length,dE (gI (aG (lv.getD k []).length (Y.take j)))⟩]⟩) (fun j => Y.length - j) 0 (by exact ⟨Nat.zero_le _,AddS.nil⟩) (rC ⟨(by first | rfl | (rw [uG _ _ _ (by omega)])),(by repeat first | exact sA | refine mB ?_ | refine vA (by first | rfl | (rw [uG _ _ _ (by omega)])) ?_),(pC rfl ((by repeat first | exact sA | refine mB ?_ | refine vA (by first | rfl | (rw [uG _ _ _ (by omega)])) ?_)) (xB _)),(jE (by first | rfl | (rw [uG _ _ _ (by omega)])) (yB _)),rfl,rfl⟩) ?_
  rintro j ⟨hj,hs0⟩
  refine cA ?_
  refine gA hX hb [0] rfl (σ' := ?s5) (fun K hK => ?h5) ?n5
  case h5 =>
   (refine kA rfl (by simp (disch := omega) only [iA,aA,qop,fop,St.ev,St.put,cd,zd,Value.oneCell',lA,TypeDesc.aggB,Z0,cB,iop,tt,Z2,eB,Zh,tI] <;> exact rfl) ?_)
   refine bA ?_
   exact hK
  refine jA ?_
  refine cA ?_
  refine oB _ rfl (fun hc0 => ?_) (fun hc0 => ?_)
  ·try simp only [Zp,Zi,ZK,ZJ,ne_eq,Zn,Zm,ZB,ZA,ZI,not_or,not_and,Zu] at hc0
   have hxj := hx _ (qE Y 0 j (by omega))
   refine uB ?_
   refine jA ?_
   refine cA ?_
   refine tB ?_
   refine cA ?_
   refine gA hX hb [0,1,2] rfl (σ' := ?s6) (fun K hK => ?h6) ?n6
   case h6 =>
    iterate 3 (refine kA rfl (by simp (disch := omega) only [iA,aA,qop,fop,St.ev,St.put,cd,zd,Value.oneCell',lA,TypeDesc.aggB,Z0,Int.toNat_zero,Int.toNat_one,xA,yA,wA,ZO,Nat.mul_one,ZC,Nat.zero_mul,Zh,Z1,pA,qA,tA,eA,D.pure?,ZD,tt,Z2,eB,tI] <;> exact rfl) ?_)
    refine bA ?_
    exact hK
   refine jA ?_
   refine cA ?_
   refine gA hX hb [0,1,2,3,4,5,6,7] rfl (σ' := ?s7) (fun K hK => ?h7) ?n7
   case h7 =>
    iterate 8 (refine kA rfl (by simp (disch := omega) only [iA,aA,qop,fop,St.ev,St.put,cd,zd,Value.oneCell',lA,TypeDesc.aggB,Z0,cB,iop,zD,aD,bD,bE,bB,rB,D.cells?,D.pure?,fB,gB,iB,jB,kB,ZG,ZH,ZL,ZM,ZN,Zl,Zo,aB,Nat.reduceAdd,Nat.reduceMul,vC,tt,Z2,eB,Zh,tI] <;> exact rfl) ?_)
    refine bA ?_
    exact hK
   refine jA ?_
   refine tB ?_
   refine rD (ι := Nat) (fun q => q ≤ 2 ∧ AddS (2 * j + q) (gI (aG (lv.getD k []).length (Y.take j) ++ lN (lv.getD k []).length (Y.getD j 0) q))) (fun q => ⟨[.pin 1],[.ptr 0 0,.any,.any,.any,.any,.any,.any,.any,.any,.any,.any,.any,.any,.any,.any,.any,.any,.any,.any,.any,.any,.p (jS Y),.p (i64 Y.length),.p (i64 j),.any,.any,.any,.any,.any,.any,.any,.any,.p (.sl 2 [i64 (2 * (Y.getD j 0 : Int)),i64 (2 * (Y.getD j 0 : Int) + 1)]),.p (i64 2),.p (i64 q),.any,.any,.any,.any,.any,.any,.any,.any,.any,.any,.any,.any,.any,.any,.any,.any,.any,.any,.any,.any,.any],[⟨139,[.p (i64 (S : Int)),.p (i64 (F : Int)),.p (iE lv),.vref 0,.p (i64 (k : Int)),.p (gD fo),.p (i64 se),.p (bv dn)]⟩],[some ⟨35,2,(gI (aG (lv.getD k []).length (Y.take j) ++ lN (lv.getD k []).length (Y.getD j 0) q)).length,dE (gI (aG (lv.getD k []).length (Y.take j) ++ lN (lv.getD k []).length (Y.getD j 0) q))⟩]⟩) (fun q => 2 - q) 0 (by exact ⟨Nat.zero_le _,by rw [fI,List.append_nil]; exact hs0⟩) (rC ⟨(by first | rfl | (first | (rw [fI,List.append_nil]) | (rw [jF _ _ q (by omega),if_pos (by omega),← List.append_assoc,gF]) | (rw [jF _ _ q (by omega),if_neg (by omega),List.append_nil]))),(by repeat first | exact sA | refine mB ?_ | refine vA (by first | rfl | (first | (rw [fI,List.append_nil]) | (rw [jF _ _ q (by omega),if_pos (by omega),← List.append_assoc,gF]) | (rw [jF _ _ q (by omega),if_neg (by omega),List.append_nil]))) ?_),(pC rfl ((by repeat first | exact sA | refine mB ?_ | refine vA (by first | rfl | (first | (rw [fI,List.append_nil]) | (rw [jF _ _ q (by omega),if_pos (by omega),← List.append_assoc,gF]) | (rw [jF _ _ q (by omega),if_neg (by omega),List.append_nil]))) ?_)) (xB _)),(jE (by first | rfl | (first | (rw [fI,List.append_nil]) | (rw [jF _ _ q (by omega),if_pos (by omega),← List.append_assoc,gF]) | (rw [jF _ _ q (by omega),if_neg (by omega),List.append_nil]))) (yB _)),rfl,rfl⟩) ?_
   rintro q ⟨hq,hsm⟩
   refine cA ?_
   refine gA hX hb [0] rfl (σ' := ?s8) (fun K hK => ?h8) ?n8
   case h8 =>
    (refine kA rfl (by simp (disch := omega) only [iA,aA,qop,fop,St.ev,St.put,cd,zd,Value.oneCell',lA,TypeDesc.aggB,Z0,cB,iop,t3,ti3,Z2,eB,Zh,tI] <;> exact rfl) ?_)
    refine bA ?_
    exact hK
   refine jA ?_
   refine cA ?_
   refine oB _ rfl (fun hc1 => ?_) (fun hc1 => ?_)
   ·try simp only [Zp,Zi,ZK,ZJ,ne_eq,Zn,Zm,ZB,ZA,ZI,not_or,not_and,Zu] at hc1
    refine uB ?_
    refine jA ?_
    refine cA ?_
    refine tB ?_
    refine cA ?_
    refine gA hX hb [0,1,2] rfl (σ' := ?s9) (fun K hK => ?h9) ?n9
    case h9 =>
     iterate 3 (refine kA rfl (by simp (disch := omega) only [iA,aA,qop,fop,St.ev,St.put,cd,zd,Value.oneCell',lA,TypeDesc.aggB,Z0,Int.toNat_zero,Int.toNat_one,xA,yA,wA,ZO,Nat.mul_one,ZC,Nat.zero_mul,Zh,Z1,pA,qA,tA,eA,D.pure?,ZD,tt,Z2,eB,tI] <;> exact rfl) ?_)
     refine bA ?_
     exact hK
    refine jA ?_
    refine cA ?_
    refine gA hX hb [0,1,2,3,4] rfl (σ' := ?s10) (fun K hK => ?h10) ?n10
    case h10 =>
     iterate 2 (refine kA rfl (by simp (disch := omega) only [iA,aA,qop,fop,St.ev,St.put,cd,zd,Value.oneCell',lA,TypeDesc.aggB,Z0,uA,D.pv?,vC,cB,iop,tt,Z2,eB,Zh,tI] <;> exact rfl) ?_)
     refine mIA rfl rfl (by simp only [St.ev,pB,qB,zd,cd,Value.oneCell',Zr] <;> exact rfl) rfl (by simp only [St.ev,pB,qB,zd,cd,Value.oneCell',Zr] <;> exact rfl) rfl rfl (by simp only [uA,pD,D.pvC?,D.pvN?,D.pvL?,eA,D.pv?,D.pure?,St.ev,pB,qB,zd,cd,Value.oneCell',Zr,ZG,ZH,Zd,Zc,Zg] <;> exact rfl) (fun cs h => acR hP (gKA S F lv 0 k hk fo se dn cs h)) (by simp only [St.put,Za,Zb] <;> exact rfl) ?_
     iterate 2 (refine kA rfl (by simp (disch := omega) only [iA,aA,qop,fop,St.ev,St.put,cd,zd,Value.oneCell',lA,TypeDesc.aggB,Z0,uA,D.pv?,vC,cB,iop,tt,Z2,eB,Zh,tI] <;> exact rfl) ?_)
     refine bA ?_
     exact hK
    refine jA ?_
    refine oB _ rfl (fun hc2 => ?_) (fun hc2 => ?_)
    ·try simp only [Zp,Zi,ZK,ZJ,ne_eq,Zn,Zm,ZB,ZA,ZI,not_or,not_and,Zu] at hc2
     refine gA hX hb [0,1,2,3,4,5,6,7,8,9,10,11] rfl (σ' := ?s11) (fun K hK => ?h11) ?n11
     case h11 =>
      iterate 7 (refine kA rfl (by simp (disch := omega) only [iA,aA,qop,fop,St.ev,St.put,cd,zd,Value.oneCell',lA,TypeDesc.aggB,Z0,fA,oA,Z1,pA,qA,tA,eA,D.pure?,ZC,ZD,uA,D.pv?,iC,D.boxCells,D.live,D.cells?,ZM,ZL,ZN,ZG,ZH,St.setVec,tt,Z2,eB,Zh,tI] <;> exact rfl) ?_)
      refine rKA rfl rfl (by simp only [St.ev,pB,qB,zd,cd,Value.oneCell',Zr] <;> exact rfl) rfl (by simp only [St.ev,pB,qB,zd,cd,Value.oneCell',Zr] <;> exact rfl) rfl (by simp only [uA,pD,D.pvC?,D.pvN?,D.pvL?,eA,D.pv?,D.pure?,St.ev,pB,qB,zd,cd,Value.oneCell',Zr,ZG,ZH,Zd,Zc,Zg] <;> exact rfl) (acV hP (kNA _ (2 * Y.getD j 0 + q) (2 * j + q) hsm (by omega) (by omega))) (yY _) (by simp only [St.demote,D.demote,St.setVec,St.put,ZG,ZH,Za,Zb,reduceIte,Zr] <;> exact rfl) ?_
      iterate 4 (refine kA rfl (by simp (disch := omega) only [iA,aA,qop,fop,St.ev,St.put,cd,zd,Value.oneCell',lA,TypeDesc.aggB,Z0,fA,oA,Z1,pA,qA,tA,eA,D.pure?,ZC,ZD,uA,D.pv?,iC,D.boxCells,D.live,D.cells?,ZM,ZL,ZN,ZG,ZH,St.setVec,tt,Z2,eB,Zh,tI] <;> exact rfl) ?_)
      refine bA ?_
      exact hK
     refine cE ?_
     refine jA ?_
     refine gA hX hb [0,1] rfl (σ' := ?s12) (fun K hK => ?h12) ?n12
     case h12 =>
      iterate 2 (refine kA rfl (by simp (disch := omega) only [iA,aA,qop,fop,St.ev,St.put,cd,zd,Value.oneCell',lA,TypeDesc.aggB,Z0,cB,iop,tt,Z2,eB,Zh,tI] <;> exact rfl) ?_)
      refine bA ?_
      exact hK
     refine jA ?_
     exact ⟨q + 1,by refine ⟨by omega,?_⟩; rw [jF _ _ q (by omega)]; first | (rw [if_pos (by omega),← List.append_assoc,gF]; exact hsm.step (Int.natCast_nonneg _) (by omega)) | (rw [if_neg (by omega),List.append_nil]; exact hsm.mono (by omega)),by (try dsimp only); omega,rC ⟨(by first | rfl | (first | (rw [fI,List.append_nil]) | (rw [jF _ _ q (by omega),if_pos (by omega),← List.append_assoc,gF]) | (rw [jF _ _ q (by omega),if_neg (by omega),List.append_nil]))),(by repeat first | exact sA | refine mB ?_ | refine vA (by first | rfl | (first | (rw [fI,List.append_nil]) | (rw [jF _ _ q (by omega),if_pos (by omega),← List.append_assoc,gF]) | (rw [jF _ _ q (by omega),if_neg (by omega),List.append_nil]))) ?_),(pC rfl ((by repeat first | exact sA | refine mB ?_ | refine vA (by first | rfl | (first | (rw [fI,List.append_nil]) | (rw [jF _ _ q (by omega),if_pos (by omega),← List.append_assoc,gF]) | (rw [jF _ _ q (by omega),if_neg (by omega),List.append_nil]))) ?_)) (xB _)),(jE (by first | rfl | (first | (rw [fI,List.append_nil]) | (rw [jF _ _ q (by omega),if_pos (by omega),← List.append_assoc,gF]) | (rw [jF _ _ q (by omega),if_neg (by omega),List.append_nil]))) (yB _)),rfl,rfl⟩⟩
    ·try simp only [Zp,Zi,ZK,ZJ,ne_eq,Zn,Zm,ZB,ZA,ZI,not_or,not_and,Zu] at hc2
     refine uB ?_
     refine cE ?_
     refine jA ?_
     refine gA hX hb [0,1] rfl (σ' := ?s13) (fun K hK => ?h13) ?n13
     case h13 =>
      iterate 2 (refine kA rfl (by simp (disch := omega) only [iA,aA,qop,fop,St.ev,St.put,cd,zd,Value.oneCell',lA,TypeDesc.aggB,Z0,cB,iop,tt,Z2,eB,Zh,tI] <;> exact rfl) ?_)
      refine bA ?_
      exact hK
     refine jA ?_
     exact ⟨q + 1,by refine ⟨by omega,?_⟩; rw [jF _ _ q (by omega)]; first | (rw [if_pos (by omega),← List.append_assoc,gF]; exact hsm.step (Int.natCast_nonneg _) (by omega)) | (rw [if_neg (by omega),List.append_nil]; exact hsm.mono (by omega)),by (try dsimp only); omega,rC ⟨(by first | rfl | (first | (rw [fI,List.append_nil]) | (rw [jF _ _ q (by omega),if_pos (by omega),← List.append_assoc,gF]) | (rw [jF _ _ q (by omega),if_neg (by omega),List.append_nil]))),(by repeat first | exact sA | refine mB ?_ | refine vA (by first | rfl | (first | (rw [fI,List.append_nil]) | (rw [jF _ _ q (by omega),if_pos (by omega),← List.append_assoc,gF]) | (rw [jF _ _ q (by omega),if_neg (by omega),List.append_nil]))) ?_),(pC rfl ((by repeat first | exact sA | refine mB ?_ | refine vA (by first | rfl | (first | (rw [fI,List.append_nil]) | (rw [jF _ _ q (by omega),if_pos (by omega),← List.append_assoc,gF]) | (rw [jF _ _ q (by omega),if_neg (by omega),List.append_nil]))) ?_)) (xB _)),(jE (by first | rfl | (first | (rw [fI,List.append_nil]) | (rw [jF _ _ q (by omega),if_pos (by omega),← List.append_assoc,gF]) | (rw [jF _ _ q (by omega),if_neg (by omega),List.append_nil]))) (yB _)),rfl,rfl⟩⟩
   ·try simp only [Zp,Zi,ZK,ZJ,ne_eq,Zn,Zm,ZB,ZA,ZI,not_or,not_and,Zu] at hc1
    obtain rfl : q = 2 := by omega
    refine oD ?_
    refine fD ?_
    refine fD ?_
    refine zE ?_
    refine cE ?_
    refine jA ?_
    refine gA hX hb [0,1] rfl (σ' := ?s14) (fun K hK => ?h14) ?n14
    case h14 =>
     iterate 2 (refine kA rfl (by simp (disch := omega) only [iA,aA,qop,fop,St.ev,St.put,cd,zd,Value.oneCell',lA,TypeDesc.aggB,Z0,cB,iop,tt,Z2,eB,Zh,tI] <;> exact rfl) ?_)
     refine bA ?_
     exact hK
    refine jA ?_
    exact ⟨j + 1,by exact ⟨by omega,by rw [uG _ _ _ (by omega)]; exact hsm.mono (by omega)⟩,by (try dsimp only); omega,rC ⟨(by first | rfl | (rw [uG _ _ _ (by omega)])),(by repeat first | exact sA | refine mB ?_ | refine vA (by first | rfl | (rw [uG _ _ _ (by omega)])) ?_),(pC rfl ((by repeat first | exact sA | refine mB ?_ | refine vA (by first | rfl | (rw [uG _ _ _ (by omega)])) ?_)) (xB _)),(jE (by first | rfl | (rw [uG _ _ _ (by omega)])) (yB _)),rfl,rfl⟩⟩
  ·try simp only [Zp,Zi,ZK,ZJ,ne_eq,Zn,Zm,ZB,ZA,ZI,not_or,not_and,Zu] at hc0
   refine oD ?_
   refine fD ?_
   refine fD ?_
   refine zE ?_
   refine yR (pGA 0 rfl (σ1 := ?s15) ?h15 ?n15)
   case h15 => simp only [St.freeze,D.freeze,ZG,ZH,Za,Zb,Zr,reduceIte,Nat.reduceEqDiff]; exact rfl
   exact rC ⟨(by first | rfl | ((obtain rfl : j = Y.length := by omega); simp only [List.take_length])),(by repeat first | exact sA | refine mB ?_ | refine vA (by first | rfl | ((obtain rfl : j = Y.length := by omega); simp only [List.take_length])) ?_),(pC rfl ((by repeat first | exact sA | refine mB ?_ | refine vA (by first | rfl | ((obtain rfl : j = Y.length := by omega); simp only [List.take_length])) ?_)) (xB _)),(yB _),rfl,rfl⟩
 exact lY rfl rfl rfl (by first | (simp only [eA,D.pure?] <;> exact rfl))
end Go.Proofs.Ytldcoekbgfaomaa
end
section
namespace Go.Proofs.Ytldcoekbgfaomaa
open Go.RowKit
def nE (t : Tr) : Wa := ⟨t,[(0,1)],((t.lv.length - 1 : Nat) : Int),[],0,false⟩
def zN (t : Tr) : Wa × List Ms × Int := if sC t ≠ 0 then (.zero,[],sC t) else (nE t,[tL (nE t)],0)
theorem cZ {t : Tr} (h : ¬ sC t = 0) : zN t = (.zero,[],sC t) := if_pos h
theorem rS {t : Tr} (h : sC t = 0) : zN t = (nE t,[tL (nE t)],0) := if_neg (not_not_intro h)
def eM (w : Wa) : Prop := w.level < 0 ∨ (w.tree.lv.length : Int) ≤ w.level ∨ (w.done = true ∧ w.level ≠ 0) ∨ w.sent < 0 ∨ 8192 < w.sent
instance (w : Wa) : Decidable (eM w) := by unfold eM; infer_instance
def xAA (w : Wa) : List Int := w.tree.lv.getD w.level.toNat []
def lK (w : Wa) : Prop := if w.done = true then w.pend.length = 0 ∧ fJ w.found w.tree.size = 0 else w.pend.length ≠ 0 ∧ w.found.length = 0 ∧ fJ w.pend ((xAA w).length : Nat) = 0
instance (w : Wa) : Decidable (lK w) := by unfold lK; infer_instance
def cL (w : Wa) : Int := if sC w.tree ≠ 0 then sC w.tree else if eM w then 2 else if lK w then 0 else 3
theorem qV {w : Wa} (h : ¬ sC w.tree = 0) : cL w = sC w.tree := if_pos h
theorem rV {w : Wa} (h : sC w.tree = 0) (h2 : eM w) : cL w = 2 := by rw [cL,if_neg (not_not_intro h),if_pos h2]
theorem uO {w : Wa} (h : sC w.tree = 0) (h2 : ¬ eM w) (h3 : lK w) : cL w = 0 := by rw [cL,if_neg (not_not_intro h),if_neg h2,if_pos h3]
theorem sV {w : Wa} (h : sC w.tree = 0) (h2 : ¬ eM w) (h3 : ¬ lK w) : cL w = 3 := by rw [cL,if_neg (not_not_intro h),if_neg h2,if_neg h3]
theorem gR {w : Wa} (h : cL w = 0) : sC w.tree = 0 ∧ ¬ eM w ∧ lK w := by
 unfold cL at h
 split at h
 ·rename_i h1; exact absurd h h1
 ·rename_i h1
  split at h
  ·cases h
  ·rename_i h2
   split at h
   ·rename_i h3; exact ⟨Decidable.not_not.1 h1,h2,h3⟩
   ·cases h
/-- Numbers,two by two. -/
def iD : List Int → List (Int × Int)
 | a :: b :: r => (a,b) :: iD r
 | _ => []
def bF (row : List Int) (X : List Nat) : List Int := X.flatMap fun x => yC (row.getD x 0)
def cH (t : Tr) (m : Ms) : Ms × Int :=
 if sC t ≠ 0 then (.zero,sC t) else if m.kind ≠ 13 then (.zero,1) else if m.vs.length < 2 ∨ m.vs.length % 2 = 1 then (.zero,3)
 else if m.vs.getD 0 0 ≠ t.size ∨ m.vs.getD 1 0 ≠ t.leaf then (.zero,22) else if m.num < 0 ∨ (t.lv.length : Int) ≤ m.num then (.zero,2)
 else if fJ (iD (m.vs.drop 2)) ((t.lv.getD m.num.toNat []).length : Nat) ≠ 0 then (.zero,3)
 else (⟨14,m.dest,m.frm,m.num,0,0,m.vs,bF (t.lv.getD m.num.toNat []) (vB (iD (m.vs.drop 2)))⟩,0)
def sS (w : Wa) (body : List Int) : List Nat := tH (xAA w) body (vB w.pend) (vB w.pend).length
def vO (w : Wa) (dif : List Nat) : Wa := ⟨w.tree,[],0,if w.level = 0 then mG (eJ w.tree.size.toNat w.tree.leaf.toNat dif) else [],w.sent + ((vB w.pend).length : Nat),true⟩
def uL (w : Wa) (dif : List Nat) : Wa := ⟨w.tree,gI (aG (w.tree.lv.getD (w.level.toNat - 1) []).length dif),w.level - 1,[],w.sent + ((vB w.pend).length : Nat),false⟩
def fM (w : Wa) (m : Ms) : Wa × List Ms × Int :=
 if cL w ≠ 0 then (.zero,[],cL w) else if w.done = true then (.zero,[],12) else if m.kind ≠ 14 then (.zero,[],1)
 else if m.num ≠ w.level ∨ m.vs ≠ kI w then (.zero,[],22) else if m.body.length ≠ 8 * (vB w.pend).length then (.zero,[],3)
 else if w.level = 0 ∨ sS w m.body = [] then (vO w (sS w m.body),[],0) else (uL w (sS w m.body),[tL (uL w (sS w m.body))],0)
theorem mN {w : Wa} {m : Ms} (h : ¬ cL w = 0) : fM w m = (.zero,[],cL w) := if_pos h
theorem nL {w : Wa} {m : Ms} (h : cL w = 0) (h1 : w.done = true) : fM w m = (.zero,[],12) := by rw [fM,if_neg (not_not_intro h),if_pos h1]
theorem nN {w : Wa} {m : Ms} (h : cL w = 0) (h1 : ¬ w.done = true) (h2 : m.kind ≠ 14) : fM w m = (.zero,[],1) := by rw [fM,if_neg (not_not_intro h),if_neg h1,if_pos h2]
theorem oL {w : Wa} {m : Ms} (h : cL w = 0) (h1 : ¬ w.done = true) (h2 : m.kind = 14) (h3 : m.num ≠ w.level ∨ m.vs ≠ kI w) : fM w m = (.zero,[],22) := by rw [fM,if_neg (not_not_intro h),if_neg h1,if_neg (not_not_intro h2),if_pos h3]
theorem oN {w : Wa} {m : Ms} (h : cL w = 0) (h1 : ¬ w.done = true) (h2 : m.kind = 14) (h3 : ¬ (m.num ≠ w.level ∨ m.vs ≠ kI w)) (h4 : m.body.length ≠ 8 * (vB w.pend).length) : fM w m = (.zero,[],3) := by rw [fM,if_neg (not_not_intro h),if_neg h1,if_neg (not_not_intro h2),if_neg h3,if_pos h4]
theorem bG {w : Wa} {m : Ms} (h : cL w = 0) (h1 : ¬ w.done = true) (h2 : m.kind = 14) (h3 : ¬ (m.num ≠ w.level ∨ m.vs ≠ kI w)) (h4 : m.body.length = 8 * (vB w.pend).length) (h5 : w.level = 0 ∨ sS w m.body = []) : fM w m = (vO w (sS w m.body),[],0) := by rw [fM,if_neg (not_not_intro h),if_neg h1,if_neg (not_not_intro h2),if_neg h3,if_neg (not_not_intro h4),if_pos h5]
theorem gJ {w : Wa} {m : Ms} (h : cL w = 0) (h1 : ¬ w.done = true) (h2 : m.kind = 14) (h3 : ¬ (m.num ≠ w.level ∨ m.vs ≠ kI w)) (h4 : m.body.length = 8 * (vB w.pend).length) (h5 : ¬ (w.level = 0 ∨ sS w m.body = [])) : fM w m = (uL w (sS w m.body),[tL (uL w (sS w m.body))],0) := by rw [fM,if_neg (not_not_intro h),if_neg h1,if_neg (not_not_intro h2),if_neg h3,if_neg (not_not_intro h4),if_neg h5]
/-- Bytes are bytes. -/
def tV (l : List Int) : Prop := ∀ x ∈ l,0 ≤ x ∧ x ≤ 255
def pN (l : List Int) : Prop := ∀ x ∈ l,0 ≤ x ∧ x ≤ 18446744073709551615
theorem vZ {P : Int → Prop} {l : List Int} (h : ∀ x ∈ l,P x) (h0 : P 0) (i : Nat) : P (l.getD i 0) := by
 by_cases hi : i < l.length
 ·exact h _ (qE l 0 i hi)
 ·rw [List.getD_eq_getElem?_getD,List.getElem?_eq_none (by omega)]; exact h0
theorem hKA (l : List Int) (h : 8 ≤ l.length) : l.take 8 = [l.getD 0 0,l.getD 1 0,l.getD 2 0,l.getD 3 0,l.getD 4 0,l.getD 5 0,l.getD 6 0,l.getD 7 0] := by
 match l,h with
 | a :: b :: c :: d :: e :: f :: g :: i :: r,_ => simp
theorem qN (d : Int) (k : Nat) (hk : k < 8) (h : 0 ≤ d ∧ d ≤ 18446744073709551615) : shb d k = d / (256 ^ k : Nat) % 256 := by
 unfold shb
 rw [show min (8 * (k : Int)).toNat IntKind.u64.bits = 8 * k by show min (8 * (k : Int)).toNat 64 = _; omega]
 have e : ((2 : Int) ^ (8 * k)) = ((256 ^ k : Nat) : Int) := by
  rw [Int.pow_mul]
  simp
 rw [e,Int.fdiv_eq_ediv_of_nonneg _ (Int.natCast_nonneg _)]
 rfl
theorem cEA (d : Int) (h : 0 ≤ d ∧ d ≤ 18446744073709551615) : yC d = [d % 256,d / 256 % 256,d / 65536 % 256,d / 16777216 % 256,d / 4294967296 % 256,d / 1099511627776 % 256,d / 281474976710656 % 256,d / 72057594037927936 % 256] := by
 unfold yC
 rw [uZ]
 simp only [ZG,ZH]
 rw [qN d 0 (by omega) h,qN d 1 (by omega) h,qN d 2 (by omega) h,qN d 3 (by omega) h,qN d 4 (by omega) h,qN d 5 (by omega) h,qN d 6 (by omega) h,qN d 7 (by omega) h]
 simp
end Go.Proofs.Ytldcoekbgfaomaa
end
section
namespace Go.Proofs.Ytldcoekbgfaomaa
open Go.RowKit
set_option maxRecDepth 20000
set_option maxHeartbeats 4000000
attribute [local irreducible] kE sD AW
/-- A walk whose extents hold machine words. -/
def wHA (w : Wa) : Prop := mS w.pend ∧ mS w.found
theorem iG (m : Ms) : wY [m] = P1.sl 1 (msC m) := by simp [fR]
theorem fH {t : Tr} (h : sC t = 0) : t.lv.length ≤ 13 ∧ 1 ≤ t.lv.length ∧ ∀ r ∈ t.lv,r.length ≤ 4096 := by
 obtain ⟨h1,h2⟩ := nM h
 obtain ⟨_,_,_,_,_,_,_,_,q5,q6⟩ := sF h
 exact ⟨h2,h1,fun r hr => yK 4096 (t.lv.getD 0 []) (qI h).2 r (by rw [q6]; exact hr)⟩
theorem c45 (t : Tr) : ACalls Try.prog 45 [trP t] (.tup [waP (zN t).1,.p (wY (zN t).2.1),.p (i64 (zN t).2.2)]) := by
 obtain ⟨s,f,lv⟩ := t
 refine wC oC Try.func45 (c := _) rfl (by kernel_rfl) ?_
 intro X hP hX hro hpl
 have hb : tb.Ok X.P := hP ▸ oC
 change AW X _ _ ⟨[],[.agg [i64 s,i64 f,iE lv],.any,.any,.any,.any,.any,.any,.any,.any,.any,.any,.any,.any,.any,.any,.any,.any,.any,.any,.any,.any,.any,.any,.any,.any,.any,.any,.any,.any,.any,.any],[],[]⟩
 refine cA ?_
 refine gA hX hb [0,1,2,3] rfl (σ' := ?s1) (fun K hK => ?h1) ?n1
 case h1 =>
  iterate 4 (refine kA rfl (by simp (disch := omega) only [iA,aA,qop,fop,St.ev,St.put,cd,zd,Value.oneCell',lA,TypeDesc.aggB,Z0,ZM,ZL,Z1,ZG,ZH,St.addBox,D.boxCells,D.live,Value.cells,tt,ZN] <;> exact rfl) ?_)
  refine bA ?_
  exact hK
 refine jA ?_
 refine cA ?_
 refine cA ?_
 refine gA hX hb [0,1,2] rfl (σ' := ?s2) (fun K hK => ?h2) ?n2
 case h2 =>
  (refine kA rfl (by simp (disch := omega) only [iA,aA,qop,fop,St.ev,St.put,cd,zd,Value.oneCell',lA,TypeDesc.aggB,Z0,Z1,pA,qA,tA,eA,D.pure?,ZC,ZD,uA,D.pv?,tt,ZM,ZL,ZN] <;> exact rfl) ?_)
  refine mD rfl (by simp only [aA,St.ev,pB,qB,uA,D.pv?,ZG,ZH,zd,cd,Value.oneCell',Zr] <;> exact rfl) (acK hP (c31 ⟨s,f,lv⟩)) (by simp only [St.put,Za,Zb] <;> exact rfl) ?_
  (refine kA rfl (by simp (disch := omega) only [iA,aA,qop,fop,St.ev,St.put,cd,zd,Value.oneCell',lA,TypeDesc.aggB,Z0,Z1,pA,qA,tA,eA,D.pure?,ZC,ZD,uA,D.pv?,tt,ZM,ZL,ZN] <;> exact rfl) ?_)
  refine bA ?_
  exact hK
 refine jA ?_
 refine cA ?_
 refine gA hX hb [0,1] rfl (σ' := ?s3) (fun K hK => ?h3) ?n3
 case h3 =>
  iterate 2 (refine kA rfl (by simp (disch := omega) only [iA,aA,qop,fop,St.ev,St.put,cd,zd,Value.oneCell',lA,TypeDesc.aggB,Z0,cB,iop,tt,ZM,ZL,ZN,Z1] <;> exact rfl) ?_)
  refine bA ?_
  exact hK
 refine jA ?_
 refine oB _ rfl (fun hc0 => ?_) (fun hc0 => ?_)
 ·try simp only [Zp,Zi,ZK,ZJ,ne_eq,Zn,Zm,ZB,ZA,ZI,not_or,not_and,Zu] at hc0
  refine cA ?_
  refine gA hX hb [0,1,2,3,4] rfl (σ' := ?s4) (fun K hK => ?h4) ?n4
  case h4 =>
   iterate 5 (refine kA rfl (by simp (disch := omega) only [iA,aA,qop,fop,St.ev,St.put,cd,zd,Value.oneCell',lA,TypeDesc.aggB,Z0,aE,cD,mC,aC,D.cell1,fB,gB,iB,jB,kB,List.all_cons,List.all_nil,uC,TI.place,TI.zeros,TI.kindOk,D.cells?,D.pure?,zp,Value.cells,ZQ,ZP,Z1,iC,D.boxCells,D.live,ZM,ZL,ZN,ZG,ZH,St.setVec,ZC,tt] <;> exact rfl) ?_)
   refine bA ?_
   exact hK
  refine jA ?_
  refine bC ?_
  refine tC ?_
  exact zC rfl (iF (by simp only [mE,pA,qA,lA,TypeDesc.aggB,eA,D.pure?,D.pv?,pB,qB,Zd,Zc,Zw,Zk,Zv,Zj,Zx,Zl,Zo,Zr,reduceIte,Nat.reduceAdd,Nat.reduceLeDiff,Zg,Zf,tt] <;> exact rfl) rfl rfl (by first | rfl | (first | (rw [cZ hc0] <;> rfl) | (rw [rS hc0,iG] <;> rfl))))
 ·try simp only [Zp,Zi,ZK,ZJ,ne_eq,Zn,Zm,ZB,ZA,ZI,not_or,not_and,Zu] at hc0
  have hsm := fH hc0
  dsimp only at hsm
  have hlm1 : ((lv.length : Int) - 1) = ((lv.length - 1 : Nat) : Int) := by omega
  refine uB ?_
  refine jA ?_
  refine cA ?_
  refine gP hX hb (jD hP) [(0,true),(2,true),(3,true),(4,true),(5,true),(6,true)] 1 [(7,false),(8,true),(9,true),(10,false),(11,true)] 7 [(1,false),(8,true),(9,true),(10,false),(11,true)] (by kernel_rfl) (σ' := ?s5) (fun K hK => ?h5) ?n5
  case h5 =>
   iterate 6 (refine eF rfl (by simp (disch := omega) only [qop,fop,St.ev,St.put,cd,zd,Value.oneCell',lA,TypeDesc.aggB,Z0,Z1,pA,qA,tA,eA,D.pure?,ZC,ZD,uA,D.pv?,fA,oA,vC,cB,iop,aE,cD,mC,aC,D.cell1,fB,gB,iB,jB,kB,List.all_cons,List.all_nil,uC,TI.place,TI.zeros,TI.kindOk,D.cells?,zp,Value.cells,ZQ,ZP,zD,aD,bD,bE,bB,rB,ZG,ZH,ZL,ZM,ZN,aB,Nat.reduceAdd,Nat.reduceMul,St.addBox,D.boxCells,D.live,tt,hlm1] <;> exact rfl) (by simp only [St.put,Za,Zb] <;> exact rfl) ?_)
   refine xC ?_
   refine ⟨?_,?_⟩
   ·refine eH rfl (by simp only [aA,St.ev,pB,qB,uA,D.pv?,ZG,ZH,zd,cd,Value.oneCell',Zr] <;> exact rfl) (acK hP (c82 ⟨s,f,lv⟩ ⟨by dsimp only; omega,hsm.2.2⟩)) (by simp only [St.put,Za,Zb] <;> exact rfl) ?_
    (refine rG rfl (by simp (disch := omega) only [iA,aA,qop,fop,St.ev,St.put,cd,zd,Value.oneCell',lA,TypeDesc.aggB,Z0,Z1,pA,qA,tA,eA,D.pure?,ZC,ZD,uA,D.pv?,fA,oA,vC,cB,iop,aE,cD,mC,aC,D.cell1,fB,gB,iB,jB,kB,List.all_cons,List.all_nil,uC,TI.place,TI.zeros,TI.kindOk,D.cells?,zp,Value.cells,ZQ,ZP,zD,aD,bD,bE,bB,rB,ZG,ZH,ZL,ZM,ZN,aB,Nat.reduceAdd,Nat.reduceMul,St.addBox,D.boxCells,D.live,tt,hlm1] <;> exact rfl) ?_)
    iterate 2 (refine eF rfl (by simp (disch := omega) only [qop,fop,St.ev,St.put,cd,zd,Value.oneCell',lA,TypeDesc.aggB,Z0,Z1,pA,qA,tA,eA,D.pure?,ZC,ZD,uA,D.pv?,fA,oA,vC,cB,iop,aE,cD,mC,aC,D.cell1,fB,gB,iB,jB,kB,List.all_cons,List.all_nil,uC,TI.place,TI.zeros,TI.kindOk,D.cells?,zp,Value.cells,ZQ,ZP,zD,aD,bD,bE,bB,rB,ZG,ZH,ZL,ZM,ZN,aB,Nat.reduceAdd,Nat.reduceMul,St.addBox,D.boxCells,D.live,tt,hlm1] <;> exact rfl) (by simp only [St.put,Za,Zb] <;> exact rfl) ?_)
    (refine rG rfl (by simp (disch := omega) only [iA,aA,qop,fop,St.ev,St.put,cd,zd,Value.oneCell',lA,TypeDesc.aggB,Z0,Z1,pA,qA,tA,eA,D.pure?,ZC,ZD,uA,D.pv?,fA,oA,vC,cB,iop,aE,cD,mC,aC,D.cell1,fB,gB,iB,jB,kB,List.all_cons,List.all_nil,uC,TI.place,TI.zeros,TI.kindOk,D.cells?,zp,Value.cells,ZQ,ZP,zD,aD,bD,bE,bB,rB,ZG,ZH,ZL,ZM,ZN,aB,Nat.reduceAdd,Nat.reduceMul,St.addBox,D.boxCells,D.live,tt,hlm1] <;> exact rfl) ?_)
    (refine eF rfl (by simp (disch := omega) only [qop,fop,St.ev,St.put,cd,zd,Value.oneCell',lA,TypeDesc.aggB,Z0,Z1,pA,qA,tA,eA,D.pure?,ZC,ZD,uA,D.pv?,fA,oA,vC,cB,iop,aE,cD,mC,aC,D.cell1,fB,gB,iB,jB,kB,List.all_cons,List.all_nil,uC,TI.place,TI.zeros,TI.kindOk,D.cells?,zp,Value.cells,ZQ,ZP,zD,aD,bD,bE,bB,rB,ZG,ZH,ZL,ZM,ZN,aB,Nat.reduceAdd,Nat.reduceMul,St.addBox,D.boxCells,D.live,tt,hlm1] <;> exact rfl) (by simp only [St.put,Za,Zb] <;> exact rfl) ?_)
    refine xC ?_
    exact hK
   ·(refine rG rfl (by simp (disch := omega) only [iA,aA,qop,fop,St.ev,St.put,cd,zd,Value.oneCell',lA,TypeDesc.aggB,Z0,Z1,pA,qA,tA,eA,D.pure?,ZC,ZD,uA,D.pv?,fA,oA,vC,cB,iop,aE,cD,mC,aC,D.cell1,fB,gB,iB,jB,kB,List.all_cons,List.all_nil,uC,TI.place,TI.zeros,TI.kindOk,D.cells?,zp,Value.cells,ZQ,ZP,zD,aD,bD,bE,bB,rB,ZG,ZH,ZL,ZM,ZN,aB,Nat.reduceAdd,Nat.reduceMul,St.addBox,D.boxCells,D.live,tt,hlm1] <;> exact rfl) ?_)
    refine eH rfl (by simp only [aA,St.ev,pB,qB,uA,D.pv?,ZG,ZH,zd,cd,Value.oneCell',Zr] <;> exact rfl) (acK hP (c82 ⟨s,f,lv⟩ ⟨by dsimp only; omega,hsm.2.2⟩)) (by simp only [St.put,Za,Zb] <;> exact rfl) ?_
    iterate 2 (refine eF rfl (by simp (disch := omega) only [qop,fop,St.ev,St.put,cd,zd,Value.oneCell',lA,TypeDesc.aggB,Z0,Z1,pA,qA,tA,eA,D.pure?,ZC,ZD,uA,D.pv?,fA,oA,vC,cB,iop,aE,cD,mC,aC,D.cell1,fB,gB,iB,jB,kB,List.all_cons,List.all_nil,uC,TI.place,TI.zeros,TI.kindOk,D.cells?,zp,Value.cells,ZQ,ZP,zD,aD,bD,bE,bB,rB,ZG,ZH,ZL,ZM,ZN,aB,Nat.reduceAdd,Nat.reduceMul,St.addBox,D.boxCells,D.live,tt,hlm1] <;> exact rfl) (by simp only [St.put,Za,Zb] <;> exact rfl) ?_)
    (refine rG rfl (by simp (disch := omega) only [iA,aA,qop,fop,St.ev,St.put,cd,zd,Value.oneCell',lA,TypeDesc.aggB,Z0,Z1,pA,qA,tA,eA,D.pure?,ZC,ZD,uA,D.pv?,fA,oA,vC,cB,iop,aE,cD,mC,aC,D.cell1,fB,gB,iB,jB,kB,List.all_cons,List.all_nil,uC,TI.place,TI.zeros,TI.kindOk,D.cells?,zp,Value.cells,ZQ,ZP,zD,aD,bD,bE,bB,rB,ZG,ZH,ZL,ZM,ZN,aB,Nat.reduceAdd,Nat.reduceMul,St.addBox,D.boxCells,D.live,tt,hlm1] <;> exact rfl) ?_)
    (refine eF rfl (by simp (disch := omega) only [qop,fop,St.ev,St.put,cd,zd,Value.oneCell',lA,TypeDesc.aggB,Z0,Z1,pA,qA,tA,eA,D.pure?,ZC,ZD,uA,D.pv?,fA,oA,vC,cB,iop,aE,cD,mC,aC,D.cell1,fB,gB,iB,jB,kB,List.all_cons,List.all_nil,uC,TI.place,TI.zeros,TI.kindOk,D.cells?,zp,Value.cells,ZQ,ZP,zD,aD,bD,bE,bB,rB,ZG,ZH,ZL,ZM,ZN,aB,Nat.reduceAdd,Nat.reduceMul,St.addBox,D.boxCells,D.live,tt,hlm1] <;> exact rfl) (by simp only [St.put,Za,Zb] <;> exact rfl) ?_)
    refine xC ?_
    exact hK
  refine jA ?_
  refine cA ?_
  refine gP hX hb (jD hP) [(0,true),(1,true),(2,true),(3,true),(4,true),(5,false)] 6 [(7,false),(8,true),(9,true)] 7 [(6,false),(8,true),(9,true)] (by kernel_rfl) (σ' := ?s6) (fun K hK => ?h6) ?n6
  case h6 =>
   iterate 5 (refine eF rfl (by simp (disch := omega) only [qop,fop,St.ev,St.put,cd,zd,Value.oneCell',lA,TypeDesc.aggB,Z0,fA,oA,Z1,pA,qA,tA,eA,D.pure?,ZC,ZD,uA,D.pv?,zD,aD,bD,bE,bB,rB,D.cells?,fB,gB,iB,jB,kB,ZG,ZH,ZL,ZM,ZN,aB,Nat.reduceAdd,Nat.reduceMul,iC,D.boxCells,D.live,St.setVec,tt] <;> exact rfl) (by simp only [St.put,Za,Zb] <;> exact rfl) ?_)
   refine sGA rfl rfl (by simp only [St.ev,pB,qB,zd,cd,Value.oneCell',Zr] <;> exact rfl) rfl (by simp only [St.ev,pB,qB,zd,cd,Value.oneCell',Zr] <;> exact rfl) rfl (by simp only [eA,D.pure?] <;> exact rfl) (by simp only [uA,pD,D.pvC?,D.pvN?,D.pvL?,eA,D.pv?,D.pure?,St.ev,pB,qB,zd,cd,Value.oneCell',Zr,ZG,ZH,Zd,Zc,Zg] <;> exact rfl) (acR hP (r83 s f lv [(0,1)] ((lv.length - 1 : Nat) : Int) [] 0 false (by simp) (by simp))) (by simp only [St.put,Za,Zb] <;> exact rfl) ?_
   refine xC ?_
   refine ⟨?_,?_⟩
   ·iterate 2 (refine rG rfl (by simp (disch := omega) only [iA,aA,qop,fop,St.ev,St.put,cd,zd,Value.oneCell',lA,TypeDesc.aggB,Z0,fA,oA,Z1,pA,qA,tA,eA,D.pure?,ZC,ZD,uA,D.pv?,zD,aD,bD,bE,bB,rB,D.cells?,fB,gB,iB,jB,kB,ZG,ZH,ZL,ZM,ZN,aB,Nat.reduceAdd,Nat.reduceMul,iC,D.boxCells,D.live,St.setVec,tt] <;> exact rfl) ?_)
    iterate 2 (refine eF rfl (by simp (disch := omega) only [qop,fop,St.ev,St.put,cd,zd,Value.oneCell',lA,TypeDesc.aggB,Z0,fA,oA,Z1,pA,qA,tA,eA,D.pure?,ZC,ZD,uA,D.pv?,zD,aD,bD,bE,bB,rB,D.cells?,fB,gB,iB,jB,kB,ZG,ZH,ZL,ZM,ZN,aB,Nat.reduceAdd,Nat.reduceMul,iC,D.boxCells,D.live,St.setVec,tt] <;> exact rfl) (by simp only [St.put,Za,Zb] <;> exact rfl) ?_)
    refine xC ?_
    exact hK
   ·iterate 2 (refine rG rfl (by simp (disch := omega) only [iA,aA,qop,fop,St.ev,St.put,cd,zd,Value.oneCell',lA,TypeDesc.aggB,Z0,fA,oA,Z1,pA,qA,tA,eA,D.pure?,ZC,ZD,uA,D.pv?,zD,aD,bD,bE,bB,rB,D.cells?,fB,gB,iB,jB,kB,ZG,ZH,ZL,ZM,ZN,aB,Nat.reduceAdd,Nat.reduceMul,iC,D.boxCells,D.live,St.setVec,tt] <;> exact rfl) ?_)
    iterate 2 (refine eF rfl (by simp (disch := omega) only [qop,fop,St.ev,St.put,cd,zd,Value.oneCell',lA,TypeDesc.aggB,Z0,fA,oA,Z1,pA,qA,tA,eA,D.pure?,ZC,ZD,uA,D.pv?,zD,aD,bD,bE,bB,rB,D.cells?,fB,gB,iB,jB,kB,ZG,ZH,ZL,ZM,ZN,aB,Nat.reduceAdd,Nat.reduceMul,iC,D.boxCells,D.live,St.setVec,tt] <;> exact rfl) (by simp only [St.put,Za,Zb] <;> exact rfl) ?_)
    refine xC ?_
    exact hK
  refine jA ?_
  refine bC ?_
  exact zC rfl (iF (by simp only [mE,pA,qA,lA,TypeDesc.aggB,eA,D.pure?,D.pv?,pB,qB,Zd,Zc,Zw,Zk,Zv,Zj,Zx,Zl,Zo,Zr,reduceIte,Nat.reduceAdd,Nat.reduceLeDiff,Zg,Zf,tt] <;> exact rfl) rfl rfl (by first | rfl | (first | (rw [cZ hc0] <;> rfl) | (rw [rS hc0,iG] <;> rfl))))
theorem c49 (w : Wa) (hw : wHA w) : ACalls Try.prog 49 [waP w] (.p (i64 (cL w))) := by
 obtain ⟨⟨s,f,lv⟩,pd,le,fo,se,dn⟩ := w
 obtain ⟨hpi,hfi⟩ := hw
 dsimp only at hpi hfi
 refine wC oC Try.func49 (c := _) rfl (by kernel_rfl) ?_
 intro X hP hX hro hpl
 have hb : tb.Ok X.P := hP ▸ oC
 change AW X _ _ ⟨[],[.agg [i64 s,i64 f,iE lv,gD pd,i64 le,gD fo,i64 se,bv dn],.any,.any,.any,.any,.any,.any,.any,.any,.any,.any,.any,.any,.any,.any,.any,.any,.any,.any,.any,.any,.any,.any,.any,.any,.any,.any,.any,.any,.any,.any,.any,.any,.any,.any,.any,.any,.any,.any,.any,.any,.any,.any,.any,.any,.any,.any,.any,.any,.any,.any,.any,.any,.any,.any,.any,.any,.any,.any,.any,.any,.any,.any,.any,.any,.any,.any,.any,.any,.any,.any,.any,.any,.any,.any,.any,.any,.any,.any,.any,.any,.any,.any],[],[]⟩
 refine cA ?_
 refine gA hX hb [0,1] rfl (σ' := ?s1) (fun K hK => ?h1) ?n1
 case h1 =>
  iterate 2 (refine kA rfl (by simp (disch := omega) only [iA,aA,qop,fop,St.ev,St.put,cd,zd,Value.oneCell',lA,TypeDesc.aggB,Z0,ZM,ZL,Zl,Zo,ZG,ZH,St.addBox,D.boxCells,D.live,tt,mA,Zh] <;> exact rfl) ?_)
  refine bA ?_
  exact hK
 refine jA ?_
 refine cA ?_
 refine cA ?_
 refine gA hX hb [0,1,2,3] rfl (σ' := ?s2) (fun K hK => ?h2) ?n2
 case h2 =>
  iterate 2 (refine kA rfl (by simp (disch := omega) only [iA,aA,qop,fop,St.ev,St.put,cd,zd,Value.oneCell',lA,TypeDesc.aggB,Z0,fA,oA,Z1,pA,qA,tA,eA,D.pure?,ZC,ZD,uA,D.pv?,tt,mA,Zh] <;> exact rfl) ?_)
  refine mD rfl (by simp only [aA,St.ev,pB,qB,uA,D.pv?,ZG,ZH,zd,cd,Value.oneCell',Zr] <;> exact rfl) (acK hP (c31 ⟨s,f,lv⟩)) (by simp only [St.put,Za,Zb] <;> exact rfl) ?_
  (refine kA rfl (by simp (disch := omega) only [iA,aA,qop,fop,St.ev,St.put,cd,zd,Value.oneCell',lA,TypeDesc.aggB,Z0,fA,oA,Z1,pA,qA,tA,eA,D.pure?,ZC,ZD,uA,D.pv?,tt,mA,Zh] <;> exact rfl) ?_)
  refine bA ?_
  exact hK
 refine jA ?_
 refine cA ?_
 refine gA hX hb [0,1] rfl (σ' := ?s3) (fun K hK => ?h3) ?n3
 case h3 =>
  iterate 2 (refine kA rfl (by simp (disch := omega) only [iA,aA,qop,fop,St.ev,St.put,cd,zd,Value.oneCell',lA,TypeDesc.aggB,Z0,cB,iop,tt,mA,Zh] <;> exact rfl) ?_)
  refine bA ?_
  exact hK
 refine jA ?_
 refine oB _ rfl (fun hc0 => ?_) (fun hc0 => ?_)
 ·try simp only [Zp,Zi,ZK,ZJ,ne_eq,Zn,Zm,ZB,ZA,ZI,not_or,not_and,Zu] at hc0
  refine cA ?_
  refine gA hX hb [0,1] rfl (σ' := ?s4) (fun K hK => ?h4) ?n4
  case h4 =>
   iterate 2 (refine kA rfl (by simp (disch := omega) only [iA,aA,qop,fop,St.ev,St.put,cd,zd,Value.oneCell',lA,TypeDesc.aggB,Z0,t3,ti3,mA,Zh] <;> exact rfl) ?_)
   refine bA ?_
   exact hK
  refine jA ?_
  refine bC ?_
  refine tC ?_
  exact zC rfl (zB rfl (by first | rfl | (first | exact congrArg (fun k => D.p (i64 k)) (qV (w := ⟨⟨s,f,lv⟩,pd,le,fo,se,dn⟩) hc0).symm | exact congrArg (fun k => D.p (i64 k)) (rV (w := ⟨⟨s,f,lv⟩,pd,le,fo,se,dn⟩) hc0 hc1).symm | exact congrArg (fun n => D.p (i64 n)) (sV (w := ⟨⟨s,f,lv⟩,pd,(k : Int),fo,se,dn⟩) hc0 (by unfold eM; dsimp only; simpa using hc1) hc3).symm | exact congrArg (fun n => D.p (i64 n)) (uO (w := ⟨⟨s,f,lv⟩,pd,(k : Int),fo,se,dn⟩) hc0 (by unfold eM; dsimp only; simpa using hc1) hc3).symm)))
 ·try simp only [Zp,Zi,ZK,ZJ,ne_eq,Zn,Zm,ZB,ZA,ZI,not_or,not_and,Zu] at hc0
  refine uB ?_
  refine jA ?_
  refine cA ?_
  refine cA ?_
  refine vE hX hb [0,1,2,3,4,5,6,7,8,9,10,11,12,13,14,15,16,17,18,19,20,21,22,23,24,25,26,27,28,29,30] rfl (ts := [11,12,13,14,15,16,17,18,19,20,21,22,23,24,25,26,27,28,29,30,31,32,33,34,35,36,37,38,39,40]) (t := 41) (d := .p (bv (le < 0 ∨ (lv.length : Int) ≤ le ∨ (dn = true ∧ le ≠ 0) ∨ se < 0 ∨ 8192 < se))) (σ' := ?s5) ?j5 ?h5 ?n5
  case j5 => simp only [St.join,List.foldl,Za,Zb]; exact rfl
  case h5 =>
   iterate 4 (all_goals refine kA rfl (by simp (disch := omega) only [iA,aA,qop,fop,St.ev,St.put,cd,zd,Value.oneCell',lA,TypeDesc.aggB,Z0,fA,oA,Z1,pA,qA,tA,eA,D.pure?,ZC,ZD,cB,iop,vC,tt,mA,Zh] <;> exact rfl) ?_)
   iterate 7 (all_goals first | (refine lC rfl rfl rfl (by simp (disch := omega) only [iA,aA,qop,fop,St.ev,St.put,cd,zd,Value.oneCell',lA,TypeDesc.aggB,Z0,fA,oA,Z1,pA,qA,tA,eA,D.pure?,ZC,ZD,cB,iop,vC,tt,mA,Zh] <;> exact rfl) ?_) | (first | (refine eC rfl rfl rfl (by simp only [St.put,Za,Zb] <;> exact rfl) ?_) | (refine fC rfl rfl rfl (by simp only [St.put,Za,Zb] <;> exact rfl) ?_)) | (refine cC rfl rfl rfl (by simp only [Za,Zb] <;> exact rfl) (by simp only [Za,Zb] <;> exact rfl) (fun hg => ?_) (fun hg => ?_) <;> (try simp only [Zp,Zi,ZJ,ZK,ne_eq,Zn,Zm,Bool.not_eq_true,Zu] at hg) <;> first | (refine lC rfl rfl rfl (by simp (disch := omega) only [iA,aA,qop,fop,St.ev,St.put,cd,zd,Value.oneCell',lA,TypeDesc.aggB,Z0,fA,oA,Z1,pA,qA,tA,eA,D.pure?,ZC,ZD,cB,iop,vC,tt,mA,Zh] <;> exact rfl) ?_) | (first | (refine eC rfl rfl rfl (by simp only [St.put,Za,Zb] <;> exact rfl) ?_) | (refine fC rfl rfl rfl (by simp only [St.put,Za,Zb] <;> exact rfl) ?_))))
   iterate 2 (all_goals refine kA rfl (by simp (disch := omega) only [iA,aA,qop,fop,St.ev,St.put,cd,zd,Value.oneCell',lA,TypeDesc.aggB,Z0,fA,oA,Z1,pA,qA,tA,eA,D.pure?,ZC,ZD,cB,iop,vC,tt,mA,Zh] <;> exact rfl) ?_)
   iterate 7 (all_goals first | (refine lC rfl rfl rfl (by simp (disch := omega) only [iA,aA,qop,fop,St.ev,St.put,cd,zd,Value.oneCell',lA,TypeDesc.aggB,Z0,fA,oA,Z1,pA,qA,tA,eA,D.pure?,ZC,ZD,cB,iop,vC,tt,mA,Zh] <;> exact rfl) ?_) | (first | (refine eC rfl rfl rfl (by simp only [St.put,Za,Zb] <;> exact rfl) ?_) | (refine fC rfl rfl rfl (by simp only [St.put,Za,Zb] <;> exact rfl) ?_)) | (refine cC rfl rfl rfl (by simp only [Za,Zb] <;> exact rfl) (by simp only [Za,Zb] <;> exact rfl) (fun hg => ?_) (fun hg => ?_) <;> (try simp only [Zp,Zi,ZJ,ZK,ne_eq,Zn,Zm,Bool.not_eq_true,Zu] at hg) <;> first | (refine lC rfl rfl rfl (by simp (disch := omega) only [iA,aA,qop,fop,St.ev,St.put,cd,zd,Value.oneCell',lA,TypeDesc.aggB,Z0,fA,oA,Z1,pA,qA,tA,eA,D.pure?,ZC,ZD,cB,iop,vC,tt,mA,Zh] <;> exact rfl) ?_) | (first | (refine eC rfl rfl rfl (by simp only [St.put,Za,Zb] <;> exact rfl) ?_) | (refine fC rfl rfl rfl (by simp only [St.put,Za,Zb] <;> exact rfl) ?_))))
   iterate 2 (all_goals refine kA rfl (by simp (disch := omega) only [iA,aA,qop,fop,St.ev,St.put,cd,zd,Value.oneCell',lA,TypeDesc.aggB,Z0,fA,oA,Z1,pA,qA,tA,eA,D.pure?,ZC,ZD,cB,iop,vC,tt,mA,Zh] <;> exact rfl) ?_)
   iterate 3 (all_goals first | (refine lC rfl rfl rfl (by simp (disch := omega) only [iA,aA,qop,fop,St.ev,St.put,cd,zd,Value.oneCell',lA,TypeDesc.aggB,Z0,fA,oA,Z1,pA,qA,tA,eA,D.pure?,ZC,ZD,cB,iop,vC,tt,mA,Zh] <;> exact rfl) ?_) | (first | (refine eC rfl rfl rfl (by simp only [St.put,Za,Zb] <;> exact rfl) ?_) | (refine fC rfl rfl rfl (by simp only [St.put,Za,Zb] <;> exact rfl) ?_)) | (refine cC rfl rfl rfl (by simp only [Za,Zb] <;> exact rfl) (by simp only [Za,Zb] <;> exact rfl) (fun hg => ?_) (fun hg => ?_) <;> (try simp only [Zp,Zi,ZJ,ZK,ne_eq,Zn,Zm,Bool.not_eq_true,Zu] at hg) <;> first | (refine lC rfl rfl rfl (by simp (disch := omega) only [iA,aA,qop,fop,St.ev,St.put,cd,zd,Value.oneCell',lA,TypeDesc.aggB,Z0,fA,oA,Z1,pA,qA,tA,eA,D.pure?,ZC,ZD,cB,iop,vC,tt,mA,Zh] <;> exact rfl) ?_) | (first | (refine eC rfl rfl rfl (by simp only [St.put,Za,Zb] <;> exact rfl) ?_) | (refine fC rfl rfl rfl (by simp only [St.put,Za,Zb] <;> exact rfl) ?_))))
   iterate 2 (all_goals refine kA rfl (by simp (disch := omega) only [iA,aA,qop,fop,St.ev,St.put,cd,zd,Value.oneCell',lA,TypeDesc.aggB,Z0,fA,oA,Z1,pA,qA,tA,eA,D.pure?,ZC,ZD,cB,iop,vC,tt,mA,Zh] <;> exact rfl) ?_)
   iterate 3 (all_goals first | (refine lC rfl rfl rfl (by simp (disch := omega) only [iA,aA,qop,fop,St.ev,St.put,cd,zd,Value.oneCell',lA,TypeDesc.aggB,Z0,fA,oA,Z1,pA,qA,tA,eA,D.pure?,ZC,ZD,cB,iop,vC,tt,mA,Zh] <;> exact rfl) ?_) | (first | (refine eC rfl rfl rfl (by simp only [St.put,Za,Zb] <;> exact rfl) ?_) | (refine fC rfl rfl rfl (by simp only [St.put,Za,Zb] <;> exact rfl) ?_)) | (refine cC rfl rfl rfl (by simp only [Za,Zb] <;> exact rfl) (by simp only [Za,Zb] <;> exact rfl) (fun hg => ?_) (fun hg => ?_) <;> (try simp only [Zp,Zi,ZJ,ZK,ne_eq,Zn,Zm,Bool.not_eq_true,Zu] at hg) <;> first | (refine lC rfl rfl rfl (by simp (disch := omega) only [iA,aA,qop,fop,St.ev,St.put,cd,zd,Value.oneCell',lA,TypeDesc.aggB,Z0,fA,oA,Z1,pA,qA,tA,eA,D.pure?,ZC,ZD,cB,iop,vC,tt,mA,Zh] <;> exact rfl) ?_) | (first | (refine eC rfl rfl rfl (by simp only [St.put,Za,Zb] <;> exact rfl) ?_) | (refine fC rfl rfl rfl (by simp only [St.put,Za,Zb] <;> exact rfl) ?_))))
   (all_goals refine kA rfl (by simp (disch := omega) only [iA,aA,qop,fop,St.ev,St.put,cd,zd,Value.oneCell',lA,TypeDesc.aggB,Z0,fA,oA,Z1,pA,qA,tA,eA,D.pure?,ZC,ZD,cB,iop,vC,tt,mA,Zh] <;> exact rfl) ?_)
   all_goals refine bA ?_
   all_goals refine ⟨rfl,?_,xD _,yD _,rfl,rfl⟩
   all_goals repeat' (first | exact sA | refine mB ?_ | refine vA rfl ?_ | refine vA ?_ ?_)
   all_goals refine jn ?_
   all_goals ((try simp only [Zp,Zi,ZJ,ZK,Bool.not_eq_true,Zm,Zn,ne_eq,Zf,true_iff,false_iff,iff_true,iff_false] at *) <;> first | omega | (simp_all; done) | (simp_all; omega))
  refine jA ?_
  refine oB _ rfl (fun hc1 => ?_) (fun hc1 => ?_)
  ·try simp only [Zp,Zi,ZK,ZJ,ne_eq,Zn,Zm,ZB,ZA,ZI,not_or,not_and,Zu] at hc1
   refine cA ?_
   refine gA hX hb [0] rfl (σ' := ?s6) (fun K hK => ?h6) ?n6
   case h6 =>
    (refine kA rfl (by simp (disch := omega) only [iA,aA,qop,fop,St.ev,St.put,cd,zd,Value.oneCell',lA,TypeDesc.aggB,Z0,t2,ti2,mA,Zh] <;> exact rfl) ?_)
    refine bA ?_
    exact hK
   refine jA ?_
   refine bC ?_
   refine tC ?_
   exact zC rfl (zB rfl (by first | rfl | (first | exact congrArg (fun k => D.p (i64 k)) (qV (w := ⟨⟨s,f,lv⟩,pd,le,fo,se,dn⟩) hc0).symm | exact congrArg (fun k => D.p (i64 k)) (rV (w := ⟨⟨s,f,lv⟩,pd,le,fo,se,dn⟩) hc0 hc1).symm | exact congrArg (fun n => D.p (i64 n)) (sV (w := ⟨⟨s,f,lv⟩,pd,(k : Int),fo,se,dn⟩) hc0 (by unfold eM; dsimp only; simpa using hc1) hc3).symm | exact congrArg (fun n => D.p (i64 n)) (uO (w := ⟨⟨s,f,lv⟩,pd,(k : Int),fo,se,dn⟩) hc0 (by unfold eM; dsimp only; simpa using hc1) hc3).symm)))
  ·try simp only [Zp,Zi,ZK,ZJ,ne_eq,Zn,Zm,ZB,ZA,ZI,not_or,not_and,Zu] at hc1
   have hsm := fH hc0
   dsimp only at hsm
   obtain ⟨k,hk⟩ : ∃ k : Nat,le = k := ⟨le.toNat,by omega⟩
   subst hk
   obtain ⟨S,F,hS,hF,q1,q2,q3,q4,q5,q6⟩ := sF hc0
   dsimp only at hS hF
   have hrl := hsm.2.2 _ (qE lv [] k (by omega))
   refine uB ?_
   refine jA ?_
   refine cA ?_
   refine gA hX hb [0] rfl (σ' := ?s7) (fun K hK => ?h7) ?n7
   case h7 =>
    (refine kA rfl (by simp (disch := omega) only [iA,aA,qop,fop,St.ev,St.put,cd,zd,Value.oneCell',lA,TypeDesc.aggB,Z0,mA,Zh] <;> exact rfl) ?_)
    refine bA ?_
    exact hK
   refine jA ?_
   refine cA ?_
   refine cA ?_
   refine gA hX hb [0,1] rfl (σ' := ?s8) (fun K hK => ?h8) ?n8
   case h8 =>
    iterate 2 (refine kA rfl (by simp (disch := omega) only [iA,aA,qop,fop,St.ev,St.put,cd,zd,Value.oneCell',lA,TypeDesc.aggB,Z0,fA,oA,Z1,pA,qA,tA,eA,D.pure?,ZC,ZD,tt,mA,Zh] <;> exact rfl) ?_)
    refine bA ?_
    exact hK
   refine jA ?_
   refine uU (σ' := ⟨[],[.any,.any,.any,.any,.p (bv (decide (lK ⟨⟨s,f,lv⟩,pd,(k : Int),fo,se,dn⟩))),.any,.any,.any,.any,.any,.any,.any,.any,.any,.any,.any,.any,.any,.any,.any,.any,.any,.any,.any,.any,.any,.any,.any,.any,.any,.any,.any,.any,.any,.any,.any,.any,.any,.any,.any,.any,.any,.any,.any,.any,.any,.any,.any,.any,.any,.any,.any,.any,.any,.any,.any,.any,.any,.any,.any,.any,.any,.any,.any,.any,.any,.any,.any,.any,.any,.any,.any,.any,.any,.any,.any,.any,.any,.any,.any,.any,.any,.any],[⟨75,[.p (i64 s),.p (i64 f),.p (iE lv),.p (gD pd),.p (i64 (k : Int)),.p (gD fo),.p (i64 se),.p (bv dn)]⟩],[]⟩) ?_ ?_
   ·refine oB _ rfl (fun hc2 => ?_) (fun hc2 => ?_)
    ·try simp only [Zp,Zi,ZK,ZJ,ne_eq,Zn,Zm,ZB,ZA,ZI,not_or,not_and,Zu] at hc2
     refine vE hX hb [0,1,2,3,4,5,6,7,8,9,10,11,12,13] rfl (ts := [44,45,46,47,48,49,50,51,52,53,54,55,56]) (t := 4) (d := .p (bv (pd.length = 0 ∧ fJ fo s = 0))) (σ' := ?s9) ?j9 ?h9 ?n9
     case j9 => simp only [St.join,List.foldl,Za,Zb]; exact rfl
     case h9 =>
      iterate 5 (all_goals refine kA rfl (by simp (disch := omega) only [iA,aA,qop,fop,St.ev,St.put,cd,zd,Value.oneCell',lA,TypeDesc.aggB,Z0,fA,oA,Z1,pA,qA,tA,eA,D.pure?,ZC,ZD,vC,cB,iop,uA,D.pv?,tt,mA,Zh] <;> exact rfl) ?_)
      iterate 5 (all_goals first | (refine lC rfl rfl rfl (by simp (disch := omega) only [iA,aA,qop,fop,St.ev,St.put,cd,zd,Value.oneCell',lA,TypeDesc.aggB,Z0,fA,oA,Z1,pA,qA,tA,eA,D.pure?,ZC,ZD,vC,cB,iop,uA,D.pv?,tt,mA,Zh] <;> exact rfl) ?_) | (first | (refine eC rfl rfl rfl (by simp only [St.put,Za,Zb] <;> exact rfl) ?_) | (refine fC rfl rfl rfl (by simp only [St.put,Za,Zb] <;> exact rfl) ?_)) | (refine cC rfl rfl rfl (by simp only [Za,Zb] <;> exact rfl) (by simp only [Za,Zb] <;> exact rfl) (fun hg => ?_) (fun hg => ?_) <;> (try simp only [Zp,Zi,ZJ,ZK,ne_eq,Zn,Zm,Bool.not_eq_true,Zu] at hg) <;> first | (refine lC rfl rfl rfl (by simp (disch := omega) only [iA,aA,qop,fop,St.ev,St.put,cd,zd,Value.oneCell',lA,TypeDesc.aggB,Z0,fA,oA,Z1,pA,qA,tA,eA,D.pure?,ZC,ZD,vC,cB,iop,uA,D.pv?,tt,mA,Zh] <;> exact rfl) ?_) | (first | (refine eC rfl rfl rfl (by simp only [St.put,Za,Zb] <;> exact rfl) ?_) | (refine fC rfl rfl rfl (by simp only [St.put,Za,Zb] <;> exact rfl) ?_))))
      all_goals first | (refine eL rfl rfl rfl (by simp only [aA,St.ev,pB,qB,uA,D.pv?,ZG,ZH,zd,cd,Value.oneCell',Zr] <;> exact rfl) (acK hP (c85 fo s hfi (by omega))) (by simp only [St.put,Za,Zb] <;> exact rfl) ?_) | (first | (refine eC rfl rfl rfl (by simp only [St.put,Za,Zb] <;> exact rfl) ?_) | (refine fC rfl rfl rfl (by simp only [St.put,Za,Zb] <;> exact rfl) ?_)) | (refine cC rfl rfl rfl (by simp only [Za,Zb] <;> exact rfl) (by simp only [Za,Zb] <;> exact rfl) (fun hg => ?_) (fun hg => ?_) <;> (try simp only [Zp,Zi,ZJ,ZK,ne_eq,Zn,Zm,Bool.not_eq_true,Zu] at hg) <;> first | (refine eL rfl rfl rfl (by simp only [aA,St.ev,pB,qB,uA,D.pv?,ZG,ZH,zd,cd,Value.oneCell',Zr] <;> exact rfl) (acK hP (c85 fo s hfi (by omega))) (by simp only [St.put,Za,Zb] <;> exact rfl) ?_) | (first | (refine eC rfl rfl rfl (by simp only [St.put,Za,Zb] <;> exact rfl) ?_) | (refine fC rfl rfl rfl (by simp only [St.put,Za,Zb] <;> exact rfl) ?_)))
      (all_goals first | (refine lC rfl rfl rfl (by simp (disch := omega) only [iA,aA,qop,fop,St.ev,St.put,cd,zd,Value.oneCell',lA,TypeDesc.aggB,Z0,fA,oA,Z1,pA,qA,tA,eA,D.pure?,ZC,ZD,vC,cB,iop,uA,D.pv?,tt,mA,Zh] <;> exact rfl) ?_) | (first | (refine eC rfl rfl rfl (by simp only [St.put,Za,Zb] <;> exact rfl) ?_) | (refine fC rfl rfl rfl (by simp only [St.put,Za,Zb] <;> exact rfl) ?_)) | (refine cC rfl rfl rfl (by simp only [Za,Zb] <;> exact rfl) (by simp only [Za,Zb] <;> exact rfl) (fun hg => ?_) (fun hg => ?_) <;> (try simp only [Zp,Zi,ZJ,ZK,ne_eq,Zn,Zm,Bool.not_eq_true,Zu] at hg) <;> first | (refine lC rfl rfl rfl (by simp (disch := omega) only [iA,aA,qop,fop,St.ev,St.put,cd,zd,Value.oneCell',lA,TypeDesc.aggB,Z0,fA,oA,Z1,pA,qA,tA,eA,D.pure?,ZC,ZD,vC,cB,iop,uA,D.pv?,tt,mA,Zh] <;> exact rfl) ?_) | (first | (refine eC rfl rfl rfl (by simp only [St.put,Za,Zb] <;> exact rfl) ?_) | (refine fC rfl rfl rfl (by simp only [St.put,Za,Zb] <;> exact rfl) ?_))))
      iterate 2 (all_goals refine kA rfl (by simp (disch := omega) only [iA,aA,qop,fop,St.ev,St.put,cd,zd,Value.oneCell',lA,TypeDesc.aggB,Z0,fA,oA,Z1,pA,qA,tA,eA,D.pure?,ZC,ZD,vC,cB,iop,uA,D.pv?,tt,mA,Zh] <;> exact rfl) ?_)
      all_goals refine bA ?_
      all_goals refine ⟨rfl,?_,xD _,yD _,rfl,rfl⟩
      all_goals repeat' (first | exact sA | refine mB ?_ | refine vA rfl ?_ | refine vA ?_ ?_)
      all_goals refine jn ?_
      all_goals ((try simp only [Zp,Zi,ZJ,ZK,Bool.not_eq_true,Zm,Zn,ne_eq,Zf,true_iff,false_iff,iff_true,iff_false] at *) <;> first | omega | (simp_all; done) | (simp_all; omega))
     exact yR (rC ⟨rfl,(by repeat first | exact sA | refine mB ?_ | refine vA (by first | rfl | (refine congrArg (fun b => D.p (bv b)) (decide_eq_decide.2 ?_); unfold lK; first | (rw [if_pos hc2]) | (rw [if_neg (by simp [hc2])]; rfl))) ?_),(pC rfl ((by repeat first | exact sA | refine mB ?_ | refine vA (by first | rfl | (refine congrArg (fun b => D.p (bv b)) (decide_eq_decide.2 ?_); unfold lK; first | (rw [if_pos hc2]) | (rw [if_neg (by simp [hc2])]; rfl))) ?_)) (xB _)),(yB _),rfl,rfl⟩)
    ·try simp only [Zp,Zi,ZK,ZJ,ne_eq,Zn,Zm,ZB,ZA,ZI,not_or,not_and,Zu] at hc2
     refine eN hX hb (jD hP) [(0,true),(1,true),(2,true),(3,true),(4,true),(5,true),(6,true),(7,true),(8,true),(9,true),(10,true),(11,true),(12,true),(13,true),(14,true),(15,true),(16,true),(17,true),(18,true),(19,true),(20,true),(21,false),(22,true),(23,true),(24,true)] (by kernel_rfl) (ts := [57,58,59,60,61,62,63,64,65,66,67,68,69,70,71,72,73,74,75,76,77,78,79,80]) (t := 4) (d := .p (bv (pd.length ≠ 0 ∧ fo.length = 0 ∧ fJ pd ((lv.getD k []).length : Nat) = 0))) (σ' := ?s10) ?j10 ?h10 ?n10
     case j10 => simp only [St.join,List.foldl,Za,Zb]; exact rfl
     case h10 =>
      iterate 5 (all_goals refine eF rfl (by simp (disch := omega) only [qop,fop,St.ev,St.put,cd,zd,Value.oneCell',lA,TypeDesc.aggB,Z0,fA,oA,Z1,pA,qA,tA,eA,D.pure?,ZC,ZD,vC,cB,iop,Int.toNat_zero,Int.toNat_one,xA,yA,wA,ZO,Nat.mul_one,Nat.zero_mul,Zh,uA,D.pv?,tt,mA] <;> exact rfl) (by simp only [St.put,Za,Zb] <;> exact rfl) ?_)
      iterate 4 (all_goals first | (refine fL rfl rfl rfl (by simp (disch := omega) only [qop,fop,St.ev,St.put,cd,zd,Value.oneCell',lA,TypeDesc.aggB,Z0,fA,oA,Z1,pA,qA,tA,eA,D.pure?,ZC,ZD,vC,cB,iop,Int.toNat_zero,Int.toNat_one,xA,yA,wA,ZO,Nat.mul_one,Nat.zero_mul,Zh,uA,D.pv?,tt,mA] <;> exact rfl) rfl (by simp only [St.put,Za,Zb] <;> exact rfl) ?_) | (first | (refine kK rfl rfl rfl (by simp only [St.put,Za,Zb] <;> exact rfl) ?_) | (refine jK rfl rfl rfl (by simp only [St.put,Za,Zb] <;> exact rfl) ?_)) | (refine yJ rfl rfl rfl (by simp only [Za,Zb] <;> exact rfl) (by simp only [Za,Zb] <;> exact rfl) (fun hg => ?_) (fun hg => ?_) <;> (try simp only [Zp,Zi,ZJ,ZK,ne_eq,Zn,Zm,Bool.not_eq_true,Zu] at hg) <;> first | (refine fL rfl rfl rfl (by simp (disch := omega) only [qop,fop,St.ev,St.put,cd,zd,Value.oneCell',lA,TypeDesc.aggB,Z0,fA,oA,Z1,pA,qA,tA,eA,D.pure?,ZC,ZD,vC,cB,iop,Int.toNat_zero,Int.toNat_one,xA,yA,wA,ZO,Nat.mul_one,Nat.zero_mul,Zh,uA,D.pv?,tt,mA] <;> exact rfl) rfl (by simp only [St.put,Za,Zb] <;> exact rfl) ?_) | (first | (refine kK rfl rfl rfl (by simp only [St.put,Za,Zb] <;> exact rfl) ?_) | (refine jK rfl rfl rfl (by simp only [St.put,Za,Zb] <;> exact rfl) ?_))))
      iterate 2 (all_goals refine eF rfl (by simp (disch := omega) only [qop,fop,St.ev,St.put,cd,zd,Value.oneCell',lA,TypeDesc.aggB,Z0,fA,oA,Z1,pA,qA,tA,eA,D.pure?,ZC,ZD,vC,cB,iop,Int.toNat_zero,Int.toNat_one,xA,yA,wA,ZO,Nat.mul_one,Nat.zero_mul,Zh,uA,D.pv?,tt,mA] <;> exact rfl) (by simp only [St.put,Za,Zb] <;> exact rfl) ?_)
      iterate 10 (all_goals first | (refine fL rfl rfl rfl (by simp (disch := omega) only [qop,fop,St.ev,St.put,cd,zd,Value.oneCell',lA,TypeDesc.aggB,Z0,fA,oA,Z1,pA,qA,tA,eA,D.pure?,ZC,ZD,vC,cB,iop,Int.toNat_zero,Int.toNat_one,xA,yA,wA,ZO,Nat.mul_one,Nat.zero_mul,Zh,uA,D.pv?,tt,mA] <;> exact rfl) rfl (by simp only [St.put,Za,Zb] <;> exact rfl) ?_) | (first | (refine kK rfl rfl rfl (by simp only [St.put,Za,Zb] <;> exact rfl) ?_) | (refine jK rfl rfl rfl (by simp only [St.put,Za,Zb] <;> exact rfl) ?_)) | (refine yJ rfl rfl rfl (by simp only [Za,Zb] <;> exact rfl) (by simp only [Za,Zb] <;> exact rfl) (fun hg => ?_) (fun hg => ?_) <;> (try simp only [Zp,Zi,ZJ,ZK,ne_eq,Zn,Zm,Bool.not_eq_true,Zu] at hg) <;> first | (refine fL rfl rfl rfl (by simp (disch := omega) only [qop,fop,St.ev,St.put,cd,zd,Value.oneCell',lA,TypeDesc.aggB,Z0,fA,oA,Z1,pA,qA,tA,eA,D.pure?,ZC,ZD,vC,cB,iop,Int.toNat_zero,Int.toNat_one,xA,yA,wA,ZO,Nat.mul_one,Nat.zero_mul,Zh,uA,D.pv?,tt,mA] <;> exact rfl) rfl (by simp only [St.put,Za,Zb] <;> exact rfl) ?_) | (first | (refine kK rfl rfl rfl (by simp only [St.put,Za,Zb] <;> exact rfl) ?_) | (refine jK rfl rfl rfl (by simp only [St.put,Za,Zb] <;> exact rfl) ?_))))
      all_goals first | (refine qFA rfl rfl rfl (by simp only [aA,St.ev,pB,qB,uA,D.pv?,ZG,ZH,zd,cd,Value.oneCell',Zr] <;> exact rfl) (acK hP (c85 pd ((lv.getD k []).length : Nat) hpi (by omega))) (by simp only [St.put,Za,Zb] <;> exact rfl) ?_) | (first | (refine kK rfl rfl rfl (by simp only [St.put,Za,Zb] <;> exact rfl) ?_) | (refine jK rfl rfl rfl (by simp only [St.put,Za,Zb] <;> exact rfl) ?_)) | (refine yJ rfl rfl rfl (by simp only [Za,Zb] <;> exact rfl) (by simp only [Za,Zb] <;> exact rfl) (fun hg => ?_) (fun hg => ?_) <;> (try simp only [Zp,Zi,ZJ,ZK,ne_eq,Zn,Zm,Bool.not_eq_true,Zu] at hg) <;> first | (refine qFA rfl rfl rfl (by simp only [aA,St.ev,pB,qB,uA,D.pv?,ZG,ZH,zd,cd,Value.oneCell',Zr] <;> exact rfl) (acK hP (c85 pd ((lv.getD k []).length : Nat) hpi (by omega))) (by simp only [St.put,Za,Zb] <;> exact rfl) ?_) | (first | (refine kK rfl rfl rfl (by simp only [St.put,Za,Zb] <;> exact rfl) ?_) | (refine jK rfl rfl rfl (by simp only [St.put,Za,Zb] <;> exact rfl) ?_)))
      (all_goals first | (refine fL rfl rfl rfl (by simp (disch := omega) only [qop,fop,St.ev,St.put,cd,zd,Value.oneCell',lA,TypeDesc.aggB,Z0,fA,oA,Z1,pA,qA,tA,eA,D.pure?,ZC,ZD,vC,cB,iop,Int.toNat_zero,Int.toNat_one,xA,yA,wA,ZO,Nat.mul_one,Nat.zero_mul,Zh,uA,D.pv?,tt,mA] <;> exact rfl) rfl (by simp only [St.put,Za,Zb] <;> exact rfl) ?_) | (first | (refine kK rfl rfl rfl (by simp only [St.put,Za,Zb] <;> exact rfl) ?_) | (refine jK rfl rfl rfl (by simp only [St.put,Za,Zb] <;> exact rfl) ?_)) | (refine yJ rfl rfl rfl (by simp only [Za,Zb] <;> exact rfl) (by simp only [Za,Zb] <;> exact rfl) (fun hg => ?_) (fun hg => ?_) <;> (try simp only [Zp,Zi,ZJ,ZK,ne_eq,Zn,Zm,Bool.not_eq_true,Zu] at hg) <;> first | (refine fL rfl rfl rfl (by simp (disch := omega) only [qop,fop,St.ev,St.put,cd,zd,Value.oneCell',lA,TypeDesc.aggB,Z0,fA,oA,Z1,pA,qA,tA,eA,D.pure?,ZC,ZD,vC,cB,iop,Int.toNat_zero,Int.toNat_one,xA,yA,wA,ZO,Nat.mul_one,Nat.zero_mul,Zh,uA,D.pv?,tt,mA] <;> exact rfl) rfl (by simp only [St.put,Za,Zb] <;> exact rfl) ?_) | (first | (refine kK rfl rfl rfl (by simp only [St.put,Za,Zb] <;> exact rfl) ?_) | (refine jK rfl rfl rfl (by simp only [St.put,Za,Zb] <;> exact rfl) ?_))))
      iterate 2 (all_goals refine eF rfl (by simp (disch := omega) only [qop,fop,St.ev,St.put,cd,zd,Value.oneCell',lA,TypeDesc.aggB,Z0,fA,oA,Z1,pA,qA,tA,eA,D.pure?,ZC,ZD,vC,cB,iop,Int.toNat_zero,Int.toNat_one,xA,yA,wA,ZO,Nat.mul_one,Nat.zero_mul,Zh,uA,D.pv?,tt,mA] <;> exact rfl) (by simp only [St.put,Za,Zb] <;> exact rfl) ?_)
      all_goals refine xC ?_
      all_goals refine ⟨rfl,?_,xD _,yD _,rfl,rfl⟩
      all_goals repeat' (first | exact sA | refine mB ?_ | refine vA rfl ?_ | refine vA ?_ ?_)
      all_goals refine jn ?_
      all_goals ((try simp only [Zp,Zi,ZJ,ZK,Bool.not_eq_true,Zm,Zn,ne_eq,Zf,true_iff,false_iff,iff_true,iff_false] at *) <;> first | omega | (simp_all; done) | (simp_all; omega))
     exact yR (rC ⟨rfl,(by repeat first | exact sA | refine mB ?_ | refine vA (by first | rfl | (refine congrArg (fun b => D.p (bv b)) (decide_eq_decide.2 ?_); unfold lK; first | (rw [if_pos hc2]) | (rw [if_neg (by simp [hc2])]; rfl))) ?_),(pC rfl ((by repeat first | exact sA | refine mB ?_ | refine vA (by first | rfl | (refine congrArg (fun b => D.p (bv b)) (decide_eq_decide.2 ?_); unfold lK; first | (rw [if_pos hc2]) | (rw [if_neg (by simp [hc2])]; rfl))) ?_)) (xB _)),(yB _),rfl,rfl⟩)
   refine jA ?_
   refine cA ?_
   refine cA ?_
   refine gA hX hb [0,1] rfl (σ' := ?s11) (fun K hK => ?h11) ?n11
   case h11 =>
    iterate 2 (refine kA rfl (by simp (disch := omega) only [iA,aA,qop,fop,St.ev,St.put,cd,zd,Value.oneCell',lA,TypeDesc.aggB,Z0,Bool.not_true,Bool.not_false,t4,ti4,mA,Zh] <;> exact rfl) ?_)
    refine bA ?_
    exact hK
   refine jA ?_
   refine oB _ rfl (fun hc3 => ?_) (fun hc3 => ?_)
   ·try simp only [Zp,Zi,ZK,ZJ,ne_eq,Zn,Zm,ZB,ZA,ZI,not_or,not_and,Zu] at hc3
    refine cA ?_
    refine gA hX hb [0] rfl (σ' := ?s12) (fun K hK => ?h12) ?n12
    case h12 =>
     (refine kA rfl (by simp (disch := omega) only [iA,aA,qop,fop,St.ev,St.put,cd,zd,Value.oneCell',lA,TypeDesc.aggB,Z0,t3,ti3,mA,Zh] <;> exact rfl) ?_)
     refine bA ?_
     exact hK
    refine jA ?_
    refine bC ?_
    refine tC ?_
    exact zC rfl (zB rfl (by first | rfl | (first | exact congrArg (fun k => D.p (i64 k)) (qV (w := ⟨⟨s,f,lv⟩,pd,le,fo,se,dn⟩) hc0).symm | exact congrArg (fun k => D.p (i64 k)) (rV (w := ⟨⟨s,f,lv⟩,pd,le,fo,se,dn⟩) hc0 hc1).symm | exact congrArg (fun n => D.p (i64 n)) (sV (w := ⟨⟨s,f,lv⟩,pd,(k : Int),fo,se,dn⟩) hc0 (by unfold eM; dsimp only; simpa using hc1) hc3).symm | exact congrArg (fun n => D.p (i64 n)) (uO (w := ⟨⟨s,f,lv⟩,pd,(k : Int),fo,se,dn⟩) hc0 (by unfold eM; dsimp only; simpa using hc1) hc3).symm)))
   ·try simp only [Zp,Zi,ZK,ZJ,ne_eq,Zn,Zm,ZB,ZA,ZI,not_or,not_and,Zu] at hc3
    refine uB ?_
    refine jA ?_
    refine cA ?_
    refine gA hX hb [0] rfl (σ' := ?s13) (fun K hK => ?h13) ?n13
    case h13 =>
     (refine kA rfl (by simp (disch := omega) only [iA,aA,qop,fop,St.ev,St.put,cd,zd,Value.oneCell',lA,TypeDesc.aggB,Z0,mA,Zh] <;> exact rfl) ?_)
     refine bA ?_
     exact hK
    refine jA ?_
    refine bC ?_
    exact zC rfl (zB rfl (by first | rfl | (first | exact congrArg (fun k => D.p (i64 k)) (qV (w := ⟨⟨s,f,lv⟩,pd,le,fo,se,dn⟩) hc0).symm | exact congrArg (fun k => D.p (i64 k)) (rV (w := ⟨⟨s,f,lv⟩,pd,le,fo,se,dn⟩) hc0 hc1).symm | exact congrArg (fun n => D.p (i64 n)) (sV (w := ⟨⟨s,f,lv⟩,pd,(k : Int),fo,se,dn⟩) hc0 (by unfold eM; dsimp only; simpa using hc1) hc3).symm | exact congrArg (fun n => D.p (i64 n)) (uO (w := ⟨⟨s,f,lv⟩,pd,(k : Int),fo,se,dn⟩) hc0 (by unfold eM; dsimp only; simpa using hc1) hc3).symm)))
end Go.Proofs.Ytldcoekbgfaomaa
end
section
namespace Go.Proofs.Ytldcoekbgfaomaa
open Go.RowKit
theorem uJ : ∀ (l : List Int),(iD l).length = l.length / 2
 | [] => rfl
 | [a] => by simp [iD]
 | a :: b :: r => by simp only [iD,Zl,uJ r]; omega
theorem iQ : ∀ (l : List Int) (j : Nat),2 * j + 1 < l.length → (iD l).getD j (0,0) = (l.getD (2 * j) 0,l.getD (2 * j + 1) 0)
 | [],j,h => by simp at h
 | [a],j,h => by simp at h
 | a :: b :: r,0,h => by simp [iD]
 | a :: b :: r,j + 1,h => by
  have := iQ r j (by simp only [Zl] at h; omega)
  rw [show 2 * (j + 1) = 2 * j + 1 + 1 by omega]
  simp only [iD,List.getD_cons_succ]
  exact this
theorem jQ (l : List Int) (a j : Nat) : (l.drop a).getD j 0 = l.getD (a + j) 0 := by
 simp [List.getD_eq_getElem?_getD]
theorem wF {l : List Int} {j : Nat} (h : 2 * j + 1 < l.length) : (iD l).take (j + 1) = (iD l).take j ++ [(l.getD (2 * j) 0,l.getD (2 * j + 1) 0)] := by
 rw [uF _ j (by rw [uJ]; omega),iQ l j h]
theorem lX {l : List Int} (h : ∀ v ∈ l,uP v) : mS (iD l) := by
 intro e he
 obtain ⟨j,hj,rfl⟩ := List.getElem_of_mem he
 rw [uJ] at hj
 have h1 := iQ l j (by omega)
 rw [List.getD_eq_getElem?_getD,List.getElem?_eq_getElem (by rw [uJ]; omega)] at h1
 simp only [Option.getD_some] at h1
 rw [h1]
 exact ⟨h _ (qE l 0 _ (by omega)),h _ (qE l 0 _ (by omega))⟩
theorem nC (row : List Int) (X : List Nat) (i : Nat) (h : i < X.length) : bF row (X.take (i + 1)) = bF row (X.take i) ++ yC (row.getD (X.getD i 0) 0) := by
 rw [bF,bF,List.take_succ_eq_append_getElem h,List.flatMap_append]
 simp [h]
theorem eD (d : Int) : (yC d).length = 8 := by simp [yC]
theorem wO (row : List Int) (X : List Nat) : (bF row X).length = 8 * X.length := by
 induction X with
 | nil => rfl
 | cons x X ih =>
  have : bF row (x :: X) = yC (row.getD x 0) ++ bF row X := rfl
  rw [this,List.length_append,eD,ih,List.length_cons]
  omega
theorem mNA {s x : Int} (hs : 0 ≤ s ∧ s < 256) (hx : 0 ≤ x ∧ x ≤ 255) : (s + x % 18446744073709551616 * 256 % 18446744073709551616) % 18446744073709551616 = s + 256 * x ∧ 0 ≤ s + 256 * x ∧ s + 256 * x < 65536 := by omega
theorem nNA {s x : Int} (hs : 0 ≤ s ∧ s < 65536) (hx : 0 ≤ x ∧ x ≤ 255) : (s + x % 18446744073709551616 * 65536 % 18446744073709551616) % 18446744073709551616 = s + 65536 * x ∧ 0 ≤ s + 65536 * x ∧ s + 65536 * x < 16777216 := by omega
theorem oNA {s x : Int} (hs : 0 ≤ s ∧ s < 16777216) (hx : 0 ≤ x ∧ x ≤ 255) : (s + x % 18446744073709551616 * 16777216 % 18446744073709551616) % 18446744073709551616 = s + 16777216 * x ∧ 0 ≤ s + 16777216 * x ∧ s + 16777216 * x < 4294967296 := by omega
theorem pNA {s x : Int} (hs : 0 ≤ s ∧ s < 4294967296) (hx : 0 ≤ x ∧ x ≤ 255) : (s + x % 18446744073709551616 * 4294967296 % 18446744073709551616) % 18446744073709551616 = s + 4294967296 * x ∧ 0 ≤ s + 4294967296 * x ∧ s + 4294967296 * x < 1099511627776 := by omega
theorem qNA {s x : Int} (hs : 0 ≤ s ∧ s < 1099511627776) (hx : 0 ≤ x ∧ x ≤ 255) : (s + x % 18446744073709551616 * 1099511627776 % 18446744073709551616) % 18446744073709551616 = s + 1099511627776 * x ∧ 0 ≤ s + 1099511627776 * x ∧ s + 1099511627776 * x < 281474976710656 := by omega
theorem rNA {s x : Int} (hs : 0 ≤ s ∧ s < 281474976710656) (hx : 0 ≤ x ∧ x ≤ 255) : (s + x % 18446744073709551616 * 281474976710656 % 18446744073709551616) % 18446744073709551616 = s + 281474976710656 * x ∧ 0 ≤ s + 281474976710656 * x ∧ s + 281474976710656 * x < 72057594037927936 := by omega
theorem sNA {s x : Int} (hs : 0 ≤ s ∧ s < 72057594037927936) (hx : 0 ≤ x ∧ x ≤ 255) : (s + x % 18446744073709551616 * 72057594037927936 % 18446744073709551616) % 18446744073709551616 = s + 72057594037927936 * x ∧ 0 ≤ s + 72057594037927936 * x ∧ s + 72057594037927936 * x < 18446744073709551616 := by omega
theorem tNA {x : Int} (hx : 0 ≤ x ∧ x ≤ 255) : ((0 : Int) + x % 18446744073709551616 * 1 % 18446744073709551616) % 18446744073709551616 = x ∧ 0 ≤ x ∧ x < 256 := by omega
theorem uNA {v s r : Int} (h : v = s + 256 * r) (hs : 0 ≤ s ∧ s < 256) : v / 256 = r := by omega
theorem vNA {v s r : Int} (h : v = s + 65536 * r) (hs : 0 ≤ s ∧ s < 65536) : v / 65536 = r := by omega
theorem wNA {v s r : Int} (h : v = s + 16777216 * r) (hs : 0 ≤ s ∧ s < 16777216) : v / 16777216 = r := by omega
theorem xNA {v s r : Int} (h : v = s + 4294967296 * r) (hs : 0 ≤ s ∧ s < 4294967296) : v / 4294967296 = r := by omega
theorem yNA {v s r : Int} (h : v = s + 1099511627776 * r) (hs : 0 ≤ s ∧ s < 1099511627776) : v / 1099511627776 = r := by omega
theorem zNA {v s r : Int} (h : v = s + 281474976710656 * r) (hs : 0 ≤ s ∧ s < 281474976710656) : v / 281474976710656 = r := by omega
theorem aOA {v s r : Int} (h : v = s + 72057594037927936 * r) (hs : 0 ≤ s ∧ s < 72057594037927936) : v / 72057594037927936 = r := by omega
theorem dgd {r x y : Int} (h : r = x + 256 * y) (hx : 0 ≤ x ∧ x ≤ 255) : r % 256 = x := by omega
theorem bOA {r : Int} (hx : 0 ≤ r ∧ r ≤ 255) : r % 256 = r := by omega
theorem cOA {v s s' x r r' : Int} (h : v = s' + 65536 * r') (h1 : s' = s + 256 * x) (h2 : r = x + 256 * r') : v = s + 256 * r := by omega
theorem dOA {v s s' x r r' : Int} (h : v = s' + 16777216 * r') (h1 : s' = s + 65536 * x) (h2 : r = x + 256 * r') : v = s + 65536 * r := by omega
theorem eOA {v s s' x r r' : Int} (h : v = s' + 4294967296 * r') (h1 : s' = s + 16777216 * x) (h2 : r = x + 256 * r') : v = s + 16777216 * r := by omega
theorem fOA {v s s' x r r' : Int} (h : v = s' + 1099511627776 * r') (h1 : s' = s + 4294967296 * x) (h2 : r = x + 256 * r') : v = s + 4294967296 * r := by omega
theorem gOA {v s s' x r r' : Int} (h : v = s' + 281474976710656 * r') (h1 : s' = s + 1099511627776 * x) (h2 : r = x + 256 * r') : v = s + 1099511627776 * r := by omega
theorem hOA {v s s' x r r' : Int} (h : v = s' + 72057594037927936 * r') (h1 : s' = s + 281474976710656 * x) (h2 : r = x + 256 * r') : v = s + 281474976710656 * r := by omega
theorem iOA {d p p' : Int} (h : d / 256 = p) (h2 : p' = p / 256) : d / 65536 = p' := by omega
theorem jOA {d p p' : Int} (h : d / 65536 = p) (h2 : p' = p / 256) : d / 16777216 = p' := by omega
theorem kOA {d p p' : Int} (h : d / 16777216 = p) (h2 : p' = p / 256) : d / 4294967296 = p' := by omega
theorem lOA {d p p' : Int} (h : d / 4294967296 = p) (h2 : p' = p / 256) : d / 1099511627776 = p' := by omega
theorem mOA {d p p' : Int} (h : d / 1099511627776 = p) (h2 : p' = p / 256) : d / 281474976710656 = p' := by omega
theorem nOA {d p p' : Int} (h : d / 281474976710656 = p) (h2 : p' = p / 256) : d / 72057594037927936 = p' := by omega
theorem oOA {d x p : Int} (h : x = d % 256) (h2 : p = d / 256) : d = x + 256 * p := by omega
theorem pOA {d s s' x p p' : Int} (h : d = s + 256 * p) (h1 : x = p % 256) (h2 : p' = p / 256) (h3 : s' = s + 256 * x) : d = s' + 65536 * p' := by omega
theorem qOA {d s s' x p p' : Int} (h : d = s + 65536 * p) (h1 : x = p % 256) (h2 : p' = p / 256) (h3 : s' = s + 65536 * x) : d = s' + 16777216 * p' := by omega
theorem rOA {d s s' x p p' : Int} (h : d = s + 16777216 * p) (h1 : x = p % 256) (h2 : p' = p / 256) (h3 : s' = s + 16777216 * x) : d = s' + 4294967296 * p' := by omega
theorem sOA {d s s' x p p' : Int} (h : d = s + 4294967296 * p) (h1 : x = p % 256) (h2 : p' = p / 256) (h3 : s' = s + 4294967296 * x) : d = s' + 1099511627776 * p' := by omega
theorem tOA {d s s' x p p' : Int} (h : d = s + 1099511627776 * p) (h1 : x = p % 256) (h2 : p' = p / 256) (h3 : s' = s + 1099511627776 * x) : d = s' + 281474976710656 * p' := by omega
theorem uOA {d s s' x p p' : Int} (h : d = s + 281474976710656 * p) (h1 : x = p % 256) (h2 : p' = p / 256) (h3 : s' = s + 281474976710656 * x) : d = s' + 72057594037927936 * p' := by omega
theorem vOA {d s s' x p : Int} (h : d = s + 72057594037927936 * p) (hs : 0 ≤ s ∧ s < 72057594037927936) (hd : 0 ≤ d ∧ d ≤ 18446744073709551615) (h1 : x = p % 256) (h3 : s' = s + 72057594037927936 * x) : s' = d := by omega
/-- A pO,put together out of bytes,is d exactly if these are d's bytes. -/
theorem gFA {b : List Int} (hb : tV b) {i : Nat} (hi : 8 * i + 8 ≤ b.length) {d : Int} (hd : 0 ≤ d ∧ d ≤ 18446744073709551615) : vHA b i = d ↔ (b.drop (8 * i)).take 8 = yC d := by
 have hx : ∀ k,0 ≤ b.getD (8 * i + k) 0 ∧ b.getD (8 * i + k) 0 ≤ 255 := fun k => vZ hb ⟨by decide,by decide⟩ _
 rw [hKA _ (by rw [List.length_drop]; omega),cEA d hd]
 simp only [jQ,ZD]
 have h0 := hx 0
 have h1 := hx 1
 have h2 := hx 2
 have h3 := hx 3
 have h4 := hx 4
 have h5 := hx 5
 have h6 := hx 6
 have h7 := hx 7
 rw [Nat.add_zero] at h0
 unfold vHA
 rw [uZ]
 simp only [List.foldl_cons,List.foldl_nil,tZ,ZD]
 generalize b.getD (8 * i) 0 = x0 at *
 generalize b.getD (8 * i + 1) 0 = x1 at *
 generalize b.getD (8 * i + 2) 0 = x2 at *
 generalize b.getD (8 * i + 3) 0 = x3 at *
 generalize b.getD (8 * i + 4) 0 = x4 at *
 generalize b.getD (8 * i + 5) 0 = x5 at *
 generalize b.getD (8 * i + 6) 0 = x6 at *
 generalize b.getD (8 * i + 7) 0 = x7 at *
 have u : ∀ x : Int,IntKind.u64.wrap x = x % 18446744073709551616 := fun x => rfl
 have e0 : (2 : Int) ^ min (8 * ((0 : Nat) : Int)).toNat IntKind.u64.bits = 1 := rfl
 have e1 : (2 : Int) ^ min (8 * ((1 : Nat) : Int)).toNat IntKind.u64.bits = 256 := rfl
 have e2 : (2 : Int) ^ min (8 * ((2 : Nat) : Int)).toNat IntKind.u64.bits = 65536 := rfl
 have e3 : (2 : Int) ^ min (8 * ((3 : Nat) : Int)).toNat IntKind.u64.bits = 16777216 := rfl
 have e4 : (2 : Int) ^ min (8 * ((4 : Nat) : Int)).toNat IntKind.u64.bits = 4294967296 := rfl
 have e5 : (2 : Int) ^ min (8 * ((5 : Nat) : Int)).toNat IntKind.u64.bits = 1099511627776 := rfl
 have e6 : (2 : Int) ^ min (8 * ((6 : Nat) : Int)).toNat IntKind.u64.bits = 281474976710656 := rfl
 have e7 : (2 : Int) ^ min (8 * ((7 : Nat) : Int)).toNat IntKind.u64.bits = 72057594037927936 := rfl
 rw [e0,e1,e2,e3,e4,e5,e6,e7]
 simp only [u]
 clear u e0 e1 e2 e3 e4 e5 e6 e7 hx hb hi
 obtain ⟨t0,b1⟩ := tNA h0
 rw [t0]
 clear t0
 obtain ⟨s1,hs1⟩ : ∃ s1,s1 = x0 := ⟨_,rfl⟩
 rw [← hs1] at b1 ⊢
 obtain ⟨t1,b2⟩ := mNA b1 h1
 rw [t1]
 clear t1
 obtain ⟨s2,hs2⟩ : ∃ s2,s2 = s1 + 256 * x1 := ⟨_,rfl⟩
 rw [← hs2] at b2 ⊢
 obtain ⟨t2,b3⟩ := nNA b2 h2
 rw [t2]
 clear t2
 obtain ⟨s3,hs3⟩ : ∃ s3,s3 = s2 + 65536 * x2 := ⟨_,rfl⟩
 rw [← hs3] at b3 ⊢
 obtain ⟨t3,b4⟩ := oNA b3 h3
 rw [t3]
 clear t3
 obtain ⟨s4,hs4⟩ : ∃ s4,s4 = s3 + 16777216 * x3 := ⟨_,rfl⟩
 rw [← hs4] at b4 ⊢
 obtain ⟨t4,b5⟩ := pNA b4 h4
 rw [t4]
 clear t4
 obtain ⟨s5,hs5⟩ : ∃ s5,s5 = s4 + 4294967296 * x4 := ⟨_,rfl⟩
 rw [← hs5] at b5 ⊢
 obtain ⟨t5,b6⟩ := qNA b5 h5
 rw [t5]
 clear t5
 obtain ⟨s6,hs6⟩ : ∃ s6,s6 = s5 + 1099511627776 * x5 := ⟨_,rfl⟩
 rw [← hs6] at b6 ⊢
 obtain ⟨t6,b7⟩ := rNA b6 h6
 rw [t6]
 clear t6
 obtain ⟨s7,hs7⟩ : ∃ s7,s7 = s6 + 281474976710656 * x6 := ⟨_,rfl⟩
 rw [← hs7] at b7 ⊢
 obtain ⟨t7,b8⟩ := sNA b7 h7
 rw [t7]
 clear t7
 obtain ⟨s8,hs8⟩ : ∃ s8,s8 = s7 + 72057594037927936 * x7 := ⟨_,rfl⟩
 rw [← hs8] at b8 ⊢
 simp only [List.cons.injEq,Zs]
 constructor
 ·intro h
  subst h
  have w7 := hs8
  obtain ⟨r6,g6⟩ : ∃ r6,r6 = x6 + 256 * x7 := ⟨_,rfl⟩
  have w6 := hOA w7 hs7 g6
  obtain ⟨r5,g5⟩ : ∃ r5,r5 = x5 + 256 * r6 := ⟨_,rfl⟩
  have w5 := gOA w6 hs6 g5
  obtain ⟨r4,g4⟩ : ∃ r4,r4 = x4 + 256 * r5 := ⟨_,rfl⟩
  have w4 := fOA w5 hs5 g4
  obtain ⟨r3,g3⟩ : ∃ r3,r3 = x3 + 256 * r4 := ⟨_,rfl⟩
  have w3 := eOA w4 hs4 g3
  obtain ⟨r2,g2⟩ : ∃ r2,r2 = x2 + 256 * r3 := ⟨_,rfl⟩
  have w2 := dOA w3 hs3 g2
  obtain ⟨r1,g1⟩ : ∃ r1,r1 = x1 + 256 * r2 := ⟨_,rfl⟩
  have w1 := cOA w2 hs2 g1
  have w0 : s8 = x0 + 256 * r1 := by rw [← hs1]; exact w1
  refine ⟨hs1.trans (dgd w0 h0).symm,?_,?_,?_,?_,?_,?_,?_⟩
  ·rw [uNA w1 b1]; exact (dgd g1 h1).symm
  ·rw [vNA w2 b2]; exact (dgd g2 h2).symm
  ·rw [wNA w3 b3]; exact (dgd g3 h3).symm
  ·rw [xNA w4 b4]; exact (dgd g4 h4).symm
  ·rw [yNA w5 b5]; exact (dgd g5 h5).symm
  ·rw [zNA w6 b6]; exact (dgd g6 h6).symm
  ·rw [aOA w7 b7]; exact (bOA h7).symm
 ·rintro ⟨a0,a1,a2,a3,a4,a5,a6,a7⟩
  obtain ⟨p1,f1⟩ : ∃ p1,p1 = d / 256 := ⟨_,rfl⟩
  rw [← f1] at a1
  have j1 := f1.symm
  obtain ⟨p2,f2⟩ : ∃ p2,p2 = p1 / 256 := ⟨_,rfl⟩
  have j2 := iOA j1 f2
  rw [j2] at a2
  obtain ⟨p3,f3⟩ : ∃ p3,p3 = p2 / 256 := ⟨_,rfl⟩
  have j3 := jOA j2 f3
  rw [j3] at a3
  obtain ⟨p4,f4⟩ : ∃ p4,p4 = p3 / 256 := ⟨_,rfl⟩
  have j4 := kOA j3 f4
  rw [j4] at a4
  obtain ⟨p5,f5⟩ : ∃ p5,p5 = p4 / 256 := ⟨_,rfl⟩
  have j5 := lOA j4 f5
  rw [j5] at a5
  obtain ⟨p6,f6⟩ : ∃ p6,p6 = p5 / 256 := ⟨_,rfl⟩
  have j6 := mOA j5 f6
  rw [j6] at a6
  obtain ⟨p7,f7⟩ : ∃ p7,p7 = p6 / 256 := ⟨_,rfl⟩
  have j7 := nOA j6 f7
  rw [j7] at a7
  have i0 := oOA a0 f1
  have i1 := pOA i0 a1 f2 hs2
  have i2 := qOA i1 a2 f3 hs3
  have i3 := rOA i2 a3 f4 hs4
  have i4 := sOA i3 a4 f5 hs5
  have i5 := tOA i4 a5 f6 hs6
  have i6 := uOA i5 a6 f7 hs7
  exact vOA i6 b7 hd a7 hs8
end Go.Proofs.Ytldcoekbgfaomaa
end
section
namespace Go.Proofs.Ytldcoekbgfaomaa
open Go.RowKit
set_option maxRecDepth 20000
set_option maxHeartbeats 4000000
attribute [local irreducible] kE sD AW
/-- A message whose numbers are machine words,whose bytes are bytes. -/
def uV (m : Ms) : Prop := (∀ v ∈ m.vs,uP v) ∧ tV m.body
theorem iJ {t : Tr} {m : Ms} (h : ¬ sC t = 0) : cH t m = (.zero,sC t) := if_pos h
theorem jJ {t : Tr} {m : Ms} (h : sC t = 0) (h1 : m.kind ≠ 13) : cH t m = (.zero,1) := by rw [cH,if_neg (not_not_intro h),if_pos h1]
theorem kJ {t : Tr} {m : Ms} (h : sC t = 0) (h1 : m.kind = 13) (h2 : m.vs.length < 2 ∨ m.vs.length % 2 = 1) : cH t m = (.zero,3) := by rw [cH,if_neg (not_not_intro h),if_neg (not_not_intro h1),if_pos h2]
theorem qH {t : Tr} {m : Ms} (h : sC t = 0) (h1 : m.kind = 13) (h2 : ¬ (m.vs.length < 2 ∨ m.vs.length % 2 = 1)) (h3 : m.vs.getD 0 0 ≠ t.size ∨ m.vs.getD 1 0 ≠ t.leaf) : cH t m = (.zero,22) := by rw [cH,if_neg (not_not_intro h),if_neg (not_not_intro h1),if_neg h2,if_pos h3]
theorem lJ {t : Tr} {m : Ms} (h : sC t = 0) (h1 : m.kind = 13) (h2 : ¬ (m.vs.length < 2 ∨ m.vs.length % 2 = 1)) (h3 : ¬ (m.vs.getD 0 0 ≠ t.size ∨ m.vs.getD 1 0 ≠ t.leaf)) (h4 : m.num < 0 ∨ (t.lv.length : Int) ≤ m.num) : cH t m = (.zero,2) := by
 rw [cH,if_neg (not_not_intro h),if_neg (not_not_intro h1),if_neg h2,if_neg h3,if_pos h4]
theorem rH {t : Tr} {m : Ms} (h : sC t = 0) (h1 : m.kind = 13) (h2 : ¬ (m.vs.length < 2 ∨ m.vs.length % 2 = 1)) (h3 : ¬ (m.vs.getD 0 0 ≠ t.size ∨ m.vs.getD 1 0 ≠ t.leaf)) (h4 : ¬ (m.num < 0 ∨ (t.lv.length : Int) ≤ m.num))
  (h5 : ¬ fJ (iD (m.vs.drop 2)) ((t.lv.getD m.num.toNat []).length : Nat) = 0) : cH t m = (.zero,3) := by
 rw [cH,if_neg (not_not_intro h),if_neg (not_not_intro h1),if_neg h2,if_neg h3,if_neg h4,if_pos h5]
theorem uI {t : Tr} {m : Ms} (h : sC t = 0) (h1 : m.kind = 13) (h2 : ¬ (m.vs.length < 2 ∨ m.vs.length % 2 = 1)) (h3 : ¬ (m.vs.getD 0 0 ≠ t.size ∨ m.vs.getD 1 0 ≠ t.leaf)) (h4 : ¬ (m.num < 0 ∨ (t.lv.length : Int) ≤ m.num))
  (h5 : fJ (iD (m.vs.drop 2)) ((t.lv.getD m.num.toNat []).length : Nat) = 0) : cH t m = (⟨14,m.dest,m.frm,m.num,0,0,m.vs,bF (t.lv.getD m.num.toNat []) (vB (iD (m.vs.drop 2)))⟩,0) := by
 rw [cH,if_neg (not_not_intro h),if_neg (not_not_intro h1),if_neg h2,if_neg h3,if_neg h4,if_neg (not_not_intro h5)]
theorem wB (i : Nat) : (i : Int).tmod 2 = ((i % 2 : Nat) : Int) := by
 rw [Int.tmod_eq_emod_of_nonneg (by omega)]; omega
theorem cF {l : List Int} {j : Nat} (h : 2 + 2 * j + 1 < l.length) : (iD (l.drop 2)).take (j + 1) = (iD (l.drop 2)).take j ++ [(l.getD (2 + 2 * j) 0,l.getD (2 + 2 * j + 1) 0)] := by
 rw [wF (by rw [List.length_drop]; omega),jQ,jQ]
 rfl
theorem k87 (l : List Int) (x : P1) (hx : x = mF (l.drop 2)) : ACalls Try.prog 87 [.p x,.p (i64 2)] (.p (.clo 113 [mF (l.drop 2),i64 2])) := hx ▸ c87 (l.drop 2) 2 (by omega)
theorem mX (l : List Int) (h : 2 ≤ l.length) : P1.sl (l.length - 2) (((l.map i64).drop 2).take (l.length - 2)) = mF (l.drop 2) := by
 rw [List.take_of_length_le (by simp),← List.map_drop,mF,List.length_drop]
theorem dZ {l : List Int} {k : Nat} (h : 2 * k + 1 < l.length) : (tJ l 2 k).length = 2 := by
 unfold tJ
 rw [List.length_take,List.length_drop]
 omega
theorem yAA {l : List Int} {k : Nat} (h : 2 * k + 1 < l.length) : (tJ l 2 k).getD 0 0 = l.getD (2 * k) 0 ∧ (tJ l 2 k).getD 1 0 = l.getD (2 * k + 1) 0 := by
 unfold tJ
 constructor
 ·rw [List.getD_eq_getElem?_getD,List.getElem?_take,if_pos (by omega),List.getElem?_drop,Nat.mul_comm k 2,List.getD_eq_getElem?_getD]
  rfl
 ·rw [List.getD_eq_getElem?_getD,List.getElem?_take,if_pos (by omega),List.getElem?_drop,Nat.mul_comm k 2,List.getD_eq_getElem?_getD]
theorem vV {n : Nat} (h : n % 2 = 0) : wD n 2 = n / 2 := by unfold wD; omega
theorem wb8 (d : Int) : (yC d).take 8 = yC d := List.take_of_length_le (by rw [eD]; exact Nat.le_refl 8)
theorem zAA : Int.toNat 2 = 2 := rfl
theorem c53 (t : Tr) (m : Ms) (hm : uV m) (hvl : m.vs.length ≤ 1000000) : ACalls Try.prog 53 [trP t,msP m] (.tup [msP (cH t m).1,.p (i64 (cH t m).2)]) := by
 obtain ⟨s,f,lv⟩ := t
 obtain ⟨ki,fr,de,nu,va,ep,vs,bo⟩ := m
 obtain ⟨hvi,hbi⟩ := hm
 dsimp only at hvi hbi hvl
 refine wC oC Try.func53 (c := _) rfl (by kernel_rfl) ?_
 intro X hP hX hro hpl
 have hb : tb.Ok X.P := hP ▸ oC
 change AW X _ _ ⟨[],[.agg [i64 s,i64 f,iE lv],.agg [i64 ki,i64 fr,i64 de,i64 nu,i64 va,i64 ep,mF vs,bytes bo],.any,.any,.any,.any,.any,.any,.any,.any,.any,.any,.any,.any,.any,.any,.any,.any,.any,.any,.any,.any,.any,.any,.any,.any,.any,.any,.any,.any,.any,.any,.any,.any,.any,.any,.any,.any,.any,.any,.any,.any,.any,.any,.any,.any,.any,.any,.any,.any,.any,.any,.any,.any,.any,.any,.any,.any,.any,.any,.any,.any,.any,.any,.any,.any,.any,.any,.any,.any,.any,.any,.any,.any,.any,.any,.any,.any,.any,.any,.any,.any,.any,.any,.any,.any,.any,.any,.any,.any,.any,.any,.any,.any,.any,.any,.any,.any,.any,.any,.any,.any,.any,.any,.any,.any,.any,.any,.any,.any,.any,.any,.any,.any,.any,.any,.any,.any,.any,.any,.any,.any,.any,.any,.any,.any,.any,.any,.any,.any,.any,.any,.any,.any,.any,.any,.any,.any,.any,.any,.any,.any,.any,.any,.any,.any],[],[]⟩
 refine cA ?_
 refine gA hX hb [0,1,2,3] rfl (σ' := ?s1) (fun K hK => ?h1) ?n1
 case h1 =>
  iterate 4 (refine kA rfl (by simp (disch := omega) only [iA,aA,qop,fop,St.ev,St.put,cd,zd,Value.oneCell',lA,TypeDesc.aggB,Z0,ZM,ZL,Zl,Zo,ZG,ZH,St.addBox,D.boxCells,D.live,Value.cells,tt,Z2,mA,nA,eB,Zh,wB,rA,ne_eq,not_false_eq_true] <;> exact rfl) ?_)
  refine bA ?_
  exact hK
 refine jA ?_
 refine cA ?_
 refine cA ?_
 refine gA hX hb [0,1,2] rfl (σ' := ?s2) (fun K hK => ?h2) ?n2
 case h2 =>
  (refine kA rfl (by simp (disch := omega) only [iA,aA,qop,fop,St.ev,St.put,cd,zd,Value.oneCell',lA,TypeDesc.aggB,Z0,Z1,pA,qA,tA,eA,D.pure?,ZC,ZD,uA,D.pv?,tt,Z2,mA,nA,eB,Zh,wB,rA,ne_eq,not_false_eq_true] <;> exact rfl) ?_)
  refine mD rfl (by simp only [aA,St.ev,pB,qB,uA,D.pv?,ZG,ZH,zd,cd,Value.oneCell',Zr] <;> exact rfl) (acK hP (c34 ⟨s,f,lv⟩)) (by simp only [St.put,Za,Zb] <;> exact rfl) ?_
  (refine kA rfl (by simp (disch := omega) only [iA,aA,qop,fop,St.ev,St.put,cd,zd,Value.oneCell',lA,TypeDesc.aggB,Z0,Z1,pA,qA,tA,eA,D.pure?,ZC,ZD,uA,D.pv?,tt,Z2,mA,nA,eB,Zh,wB,rA,ne_eq,not_false_eq_true] <;> exact rfl) ?_)
  refine bA ?_
  exact hK
 refine jA ?_
 refine cA ?_
 refine gA hX hb [0,1] rfl (σ' := ?s3) (fun K hK => ?h3) ?n3
 case h3 =>
  iterate 2 (refine kA rfl (by simp (disch := omega) only [iA,aA,qop,fop,St.ev,St.put,cd,zd,Value.oneCell',lA,TypeDesc.aggB,Z0,cB,iop,t3,ti3,Z2,mA,nA,eB,Zh,wB,rA,ne_eq,not_false_eq_true] <;> exact rfl) ?_)
  refine bA ?_
  exact hK
 refine jA ?_
 refine oB _ rfl (fun hc0 => ?_) (fun hc0 => ?_)
 ·try simp only [Zp,Zi,ZK,ZJ,ne_eq,Zn,Zm,ZB,ZA,ZI,not_or,not_and,Zu] at hc0
  refine cA ?_
  refine gA hX hb [0,1,2,3] rfl (σ' := ?s4) (fun K hK => ?h4) ?n4
  case h4 =>
   iterate 4 (refine kA rfl (by simp (disch := omega) only [iA,aA,qop,fop,St.ev,St.put,cd,zd,Value.oneCell',lA,TypeDesc.aggB,Z0,aE,cD,mC,aC,D.cell1,fB,gB,iB,jB,kB,List.all_cons,List.all_nil,uC,TI.place,TI.zeros,TI.kindOk,D.cells?,D.pure?,zp,Value.cells,ZQ,ZP,Z1,iC,D.boxCells,D.live,ZM,ZL,ZN,ZG,ZH,St.setVec,ZC,tt,Z2,mA,nA,eB,Zh,wB,rA,ne_eq,not_false_eq_true] <;> exact rfl) ?_)
   refine bA ?_
   exact hK
  refine jA ?_
  refine bC ?_
  refine tC ?_
  exact zC rfl (oE (by simp only [mE,pA,qA,lA,TypeDesc.aggB,eA,D.pure?,D.pv?,pB,qB,Zd,Zc,Zw,Zk,Zv,Zj,Zx,Zl,Zo,Zr,reduceIte,Nat.reduceAdd,Nat.reduceLeDiff,Zg,Zf,tt] <;> exact rfl) rfl (by first | rfl | (first | (rw [iJ hc0] <;> rfl) | (rw [jJ hc0 hc1] <;> rfl) | (rw [kJ hc0 hc1 hc2] <;> rfl) | (rw [qH hc0 hc1 hc2x hc3] <;> rfl) | (rw [lJ hc0 hc1 hc2x hc3x hc4] <;> rfl) | (rw [rH hc0 hc1 hc2x hc3x hc4x hc6] <;> rfl) | (rw [uI hc0 hc1 hc2x hc3x hc4x hc6] <;> rfl))))
 ·try simp only [Zp,Zi,ZK,ZJ,ne_eq,Zn,Zm,ZB,ZA,ZI,not_or,not_and,Zu] at hc0
  refine uB ?_
  refine jA ?_
  refine cA ?_
  refine cA ?_
  refine gA hX hb [0,1,2] rfl (σ' := ?s5) (fun K hK => ?h5) ?n5
  case h5 =>
   iterate 3 (refine kA rfl (by simp (disch := omega) only [iA,aA,qop,fop,St.ev,St.put,cd,zd,Value.oneCell',lA,TypeDesc.aggB,Z0,fA,oA,Z1,pA,qA,tA,eA,D.pure?,ZC,ZD,cB,iop,tt,Z2,mA,nA,eB,Zh,wB,rA,ne_eq,not_false_eq_true] <;> exact rfl) ?_)
   refine bA ?_
   exact hK
  refine jA ?_
  refine oB _ rfl (fun hc1 => ?_) (fun hc1 => ?_)
  ·try simp only [Zp,Zi,ZK,ZJ,ne_eq,Zn,Zm,ZB,ZA,ZI,not_or,not_and,Zu] at hc1
   refine cA ?_
   refine gA hX hb [0,1,2] rfl (σ' := ?s6) (fun K hK => ?h6) ?n6
   case h6 =>
    iterate 3 (refine kA rfl (by simp (disch := omega) only [iA,aA,qop,fop,St.ev,St.put,cd,zd,Value.oneCell',lA,TypeDesc.aggB,Z0,aE,cD,mC,aC,D.cell1,fB,gB,iB,jB,kB,List.all_cons,List.all_nil,uC,TI.place,TI.zeros,TI.kindOk,D.cells?,D.pure?,zp,Value.cells,ZQ,ZP,Z1,iC,D.boxCells,D.live,ZM,ZL,ZN,ZG,ZH,St.setVec,ZC,tt,Z2,mA,nA,eB,Zh,wB,rA,ne_eq,not_false_eq_true] <;> exact rfl) ?_)
    refine bA ?_
    exact hK
   refine jA ?_
   refine bC ?_
   refine tC ?_
   exact zC rfl (oE (by simp only [mE,pA,qA,lA,TypeDesc.aggB,eA,D.pure?,D.pv?,pB,qB,Zd,Zc,Zw,Zk,Zv,Zj,Zx,Zl,Zo,Zr,reduceIte,Nat.reduceAdd,Nat.reduceLeDiff,Zg,Zf,tt] <;> exact rfl) rfl (by first | rfl | (first | (rw [iJ hc0] <;> rfl) | (rw [jJ hc0 hc1] <;> rfl) | (rw [kJ hc0 hc1 hc2] <;> rfl) | (rw [qH hc0 hc1 hc2x hc3] <;> rfl) | (rw [lJ hc0 hc1 hc2x hc3x hc4] <;> rfl) | (rw [rH hc0 hc1 hc2x hc3x hc4x hc6] <;> rfl) | (rw [uI hc0 hc1 hc2x hc3x hc4x hc6] <;> rfl))))
  ·try simp only [Zp,Zi,ZK,ZJ,ne_eq,Zn,Zm,ZB,ZA,ZI,not_or,not_and,Zu] at hc1
   refine uB ?_
   refine jA ?_
   refine cA ?_
   refine cA ?_
   refine vE hX hb [0,1,2,3,4,5,6,7,8,9,10] rfl (ts := [24,25,26,27,28,29,30,31,32,33]) (t := 34) (d := .p (bv (vs.length < 2 ∨ vs.length % 2 = 1))) (σ' := ?s7) ?j7 ?h7 ?n7
   case j7 => simp only [St.join,List.foldl,Za,Zb]; exact rfl
   case h7 =>
    iterate 5 (all_goals refine kA rfl (by simp (disch := omega) only [iA,aA,qop,fop,St.ev,St.put,cd,zd,Value.oneCell',lA,TypeDesc.aggB,Z0,fA,oA,Z1,pA,qA,tA,eA,D.pure?,ZC,ZD,vC,cB,iop,tt,Z2,mA,nA,eB,Zh,wB,rA,ne_eq,not_false_eq_true] <;> exact rfl) ?_)
    iterate 5 (all_goals first | (refine lC rfl rfl rfl (by simp (disch := omega) only [iA,aA,qop,fop,St.ev,St.put,cd,zd,Value.oneCell',lA,TypeDesc.aggB,Z0,fA,oA,Z1,pA,qA,tA,eA,D.pure?,ZC,ZD,vC,cB,iop,tt,Z2,mA,nA,eB,Zh,wB,rA,ne_eq,not_false_eq_true] <;> exact rfl) ?_) | (first | (refine eC rfl rfl rfl (by simp only [St.put,Za,Zb] <;> exact rfl) ?_) | (refine fC rfl rfl rfl (by simp only [St.put,Za,Zb] <;> exact rfl) ?_)) | (refine cC rfl rfl rfl (by simp only [Za,Zb] <;> exact rfl) (by simp only [Za,Zb] <;> exact rfl) (fun hg => ?_) (fun hg => ?_) <;> (try simp only [Zp,Zi,ZJ,ZK,ne_eq,Zn,Zm,Bool.not_eq_true,Zu] at hg) <;> first | (refine lC rfl rfl rfl (by simp (disch := omega) only [iA,aA,qop,fop,St.ev,St.put,cd,zd,Value.oneCell',lA,TypeDesc.aggB,Z0,fA,oA,Z1,pA,qA,tA,eA,D.pure?,ZC,ZD,vC,cB,iop,tt,Z2,mA,nA,eB,Zh,wB,rA,ne_eq,not_false_eq_true] <;> exact rfl) ?_) | (first | (refine eC rfl rfl rfl (by simp only [St.put,Za,Zb] <;> exact rfl) ?_) | (refine fC rfl rfl rfl (by simp only [St.put,Za,Zb] <;> exact rfl) ?_))))
    (all_goals refine kA rfl (by simp (disch := omega) only [iA,aA,qop,fop,St.ev,St.put,cd,zd,Value.oneCell',lA,TypeDesc.aggB,Z0,fA,oA,Z1,pA,qA,tA,eA,D.pure?,ZC,ZD,vC,cB,iop,tt,Z2,mA,nA,eB,Zh,wB,rA,ne_eq,not_false_eq_true] <;> exact rfl) ?_)
    all_goals refine bA ?_
    all_goals refine ⟨rfl,?_,xD _,yD _,rfl,rfl⟩
    all_goals repeat' (first | exact sA | refine mB ?_ | refine vA rfl ?_ | refine vA ?_ ?_)
    all_goals refine jn ?_
    all_goals ((try simp only [Zp,Zi,ZJ,ZK,Bool.not_eq_true,Zm,Zn,ne_eq,Zf,true_iff,false_iff,iff_true,iff_false] at *) <;> omega)
   refine jA ?_
   refine oB _ rfl (fun hc2 => ?_) (fun hc2 => ?_)
   ·try simp only [Zp,Zi,ZK,ZJ,ne_eq,Zn,Zm,ZB,ZA,ZI,not_or,not_and,Zu] at hc2
    refine cA ?_
    refine gA hX hb [0,1,2] rfl (σ' := ?s8) (fun K hK => ?h8) ?n8
    case h8 =>
     iterate 3 (refine kA rfl (by simp (disch := omega) only [iA,aA,qop,fop,St.ev,St.put,cd,zd,Value.oneCell',lA,TypeDesc.aggB,Z0,aE,cD,mC,aC,D.cell1,fB,gB,iB,jB,kB,List.all_cons,List.all_nil,uC,TI.place,TI.zeros,TI.kindOk,D.cells?,D.pure?,zp,Value.cells,ZQ,ZP,Z1,iC,D.boxCells,D.live,ZM,ZL,ZN,ZG,ZH,St.setVec,ZC,tt,Z2,mA,nA,eB,Zh,wB,rA,ne_eq,not_false_eq_true] <;> exact rfl) ?_)
     refine bA ?_
     exact hK
    refine jA ?_
    refine bC ?_
    refine tC ?_
    exact zC rfl (oE (by simp only [mE,pA,qA,lA,TypeDesc.aggB,eA,D.pure?,D.pv?,pB,qB,Zd,Zc,Zw,Zk,Zv,Zj,Zx,Zl,Zo,Zr,reduceIte,Nat.reduceAdd,Nat.reduceLeDiff,Zg,Zf,tt] <;> exact rfl) rfl (by first | rfl | (first | (rw [iJ hc0] <;> rfl) | (rw [jJ hc0 hc1] <;> rfl) | (rw [kJ hc0 hc1 hc2] <;> rfl) | (rw [qH hc0 hc1 hc2x hc3] <;> rfl) | (rw [lJ hc0 hc1 hc2x hc3x hc4] <;> rfl) | (rw [rH hc0 hc1 hc2x hc3x hc4x hc6] <;> rfl) | (rw [uI hc0 hc1 hc2x hc3x hc4x hc6] <;> rfl))))
   ·try simp only [Zp,Zi,ZK,ZJ,ne_eq,Zn,Zm,ZB,ZA,ZI,not_or,not_and,Zu] at hc2
    have hc2x : ¬ (vs.length < 2 ∨ vs.length % 2 = 1) := by omega
    refine uB ?_
    refine jA ?_
    refine cA ?_
    refine cA ?_
    refine eN hX hb (jD hP) [(0,true),(1,true),(2,true),(3,true),(4,true),(5,true),(6,true),(7,true),(8,true),(9,true),(10,true),(11,true),(12,true),(13,true),(14,true),(15,true)] (by kernel_rfl) (ts := [36,37,38,39,40,41,42,43,44,45,46,47,48,49,50]) (t := 51) (d := .p (bv (vs.getD 0 0 ≠ s ∨ vs.getD 1 0 ≠ f))) (σ' := ?s9) ?j9 ?h9 ?n9
    case j9 => simp only [St.join,List.foldl,Za,Zb]; exact rfl
    case h9 =>
     iterate 8 (all_goals refine eF rfl (by simp (disch := omega) only [qop,fop,St.ev,St.put,cd,zd,Value.oneCell',lA,TypeDesc.aggB,Z0,fA,oA,Z1,pA,qA,tA,eA,D.pure?,ZC,ZD,Int.toNat_zero,Int.toNat_one,xA,yA,wA,ZO,Nat.mul_one,Nat.zero_mul,Zh,cB,iop,tt,Z2,mA,nA,eB,wB,rA,ne_eq,not_false_eq_true] <;> exact rfl) (by simp only [St.put,Za,Zb] <;> exact rfl) ?_)
     iterate 7 (all_goals first | (refine fL rfl rfl rfl (by simp (disch := omega) only [qop,fop,St.ev,St.put,cd,zd,Value.oneCell',lA,TypeDesc.aggB,Z0,fA,oA,Z1,pA,qA,tA,eA,D.pure?,ZC,ZD,Int.toNat_zero,Int.toNat_one,xA,yA,wA,ZO,Nat.mul_one,Nat.zero_mul,Zh,cB,iop,tt,Z2,mA,nA,eB,wB,rA,ne_eq,not_false_eq_true] <;> exact rfl) rfl (by simp only [St.put,Za,Zb] <;> exact rfl) ?_) | (first | (refine kK rfl rfl rfl (by simp only [St.put,Za,Zb] <;> exact rfl) ?_) | (refine jK rfl rfl rfl (by simp only [St.put,Za,Zb] <;> exact rfl) ?_)) | (refine yJ rfl rfl rfl (by simp only [Za,Zb] <;> exact rfl) (by simp only [Za,Zb] <;> exact rfl) (fun hg => ?_) (fun hg => ?_) <;> (try simp only [Zp,Zi,ZJ,ZK,ne_eq,Zn,Zm,Bool.not_eq_true,Zu] at hg) <;> first | (refine fL rfl rfl rfl (by simp (disch := omega) only [qop,fop,St.ev,St.put,cd,zd,Value.oneCell',lA,TypeDesc.aggB,Z0,fA,oA,Z1,pA,qA,tA,eA,D.pure?,ZC,ZD,Int.toNat_zero,Int.toNat_one,xA,yA,wA,ZO,Nat.mul_one,Nat.zero_mul,Zh,cB,iop,tt,Z2,mA,nA,eB,wB,rA,ne_eq,not_false_eq_true] <;> exact rfl) rfl (by simp only [St.put,Za,Zb] <;> exact rfl) ?_) | (first | (refine kK rfl rfl rfl (by simp only [St.put,Za,Zb] <;> exact rfl) ?_) | (refine jK rfl rfl rfl (by simp only [St.put,Za,Zb] <;> exact rfl) ?_))))
     (all_goals refine eF rfl (by simp (disch := omega) only [qop,fop,St.ev,St.put,cd,zd,Value.oneCell',lA,TypeDesc.aggB,Z0,fA,oA,Z1,pA,qA,tA,eA,D.pure?,ZC,ZD,Int.toNat_zero,Int.toNat_one,xA,yA,wA,ZO,Nat.mul_one,Nat.zero_mul,Zh,cB,iop,tt,Z2,mA,nA,eB,wB,rA,ne_eq,not_false_eq_true] <;> exact rfl) (by simp only [St.put,Za,Zb] <;> exact rfl) ?_)
     all_goals refine xC ?_
     all_goals refine ⟨rfl,?_,xD _,yD _,rfl,rfl⟩
     all_goals repeat' (first | exact sA | refine mB ?_ | refine vA rfl ?_ | refine vA ?_ ?_)
     all_goals refine jn ?_
     all_goals ((try simp only [Zp,Zi,ZJ,ZK,Bool.not_eq_true,Zm,Zn,ne_eq,Zf,true_iff,false_iff,iff_true,iff_false] at *) <;> omega)
    refine jA ?_
    refine oB _ rfl (fun hc3 => ?_) (fun hc3 => ?_)
    ·try simp only [Zp,Zi,ZK,ZJ,ne_eq,Zn,Zm,ZB,ZA,ZI,not_or,not_and,Zu] at hc3
     refine cA ?_
     refine gA hX hb [0,1,2] rfl (σ' := ?s10) (fun K hK => ?h10) ?n10
     case h10 =>
      iterate 3 (refine kA rfl (by simp (disch := omega) only [iA,aA,qop,fop,St.ev,St.put,cd,zd,Value.oneCell',lA,TypeDesc.aggB,Z0,aE,cD,mC,aC,D.cell1,fB,gB,iB,jB,kB,List.all_cons,List.all_nil,uC,TI.place,TI.zeros,TI.kindOk,D.cells?,D.pure?,zp,Value.cells,ZQ,ZP,Z1,iC,D.boxCells,D.live,ZM,ZL,ZN,ZG,ZH,St.setVec,ZC,tt,Z2,mA,nA,eB,Zh,wB,rA,ne_eq,not_false_eq_true] <;> exact rfl) ?_)
      refine bA ?_
      exact hK
     refine jA ?_
     refine bC ?_
     refine tC ?_
     exact zC rfl (oE (by simp only [mE,pA,qA,lA,TypeDesc.aggB,eA,D.pure?,D.pv?,pB,qB,Zd,Zc,Zw,Zk,Zv,Zj,Zx,Zl,Zo,Zr,reduceIte,Nat.reduceAdd,Nat.reduceLeDiff,Zg,Zf,tt] <;> exact rfl) rfl (by first | rfl | (first | (rw [iJ hc0] <;> rfl) | (rw [jJ hc0 hc1] <;> rfl) | (rw [kJ hc0 hc1 hc2] <;> rfl) | (rw [qH hc0 hc1 hc2x hc3] <;> rfl) | (rw [lJ hc0 hc1 hc2x hc3x hc4] <;> rfl) | (rw [rH hc0 hc1 hc2x hc3x hc4x hc6] <;> rfl) | (rw [uI hc0 hc1 hc2x hc3x hc4x hc6] <;> rfl))))
    ·try simp only [Zp,Zi,ZK,ZJ,ne_eq,Zn,Zm,ZB,ZA,ZI,not_or,not_and,Zu] at hc3
     have hc3x : ¬ (vs.getD 0 0 ≠ s ∨ vs.getD 1 0 ≠ f) := by omega
     refine uB ?_
     refine jA ?_
     refine cA ?_
     refine cA ?_
     refine vE hX hb [0,1,2,3,4,5,6,7,8,9,10] rfl (ts := [53,54,55,56,57,58,59,60,61,62]) (t := 63) (d := .p (bv (nu < 0 ∨ (lv.length : Int) ≤ nu))) (σ' := ?s11) ?j11 ?h11 ?n11
     case j11 => simp only [St.join,List.foldl,Za,Zb]; exact rfl
     case h11 =>
      iterate 4 (all_goals refine kA rfl (by simp (disch := omega) only [iA,aA,qop,fop,St.ev,St.put,cd,zd,Value.oneCell',lA,TypeDesc.aggB,Z0,fA,oA,Z1,pA,qA,tA,eA,D.pure?,ZC,ZD,cB,iop,vC,tt,Z2,mA,nA,eB,Zh,wB,rA,ne_eq,not_false_eq_true] <;> exact rfl) ?_)
      iterate 6 (all_goals first | (refine lC rfl rfl rfl (by simp (disch := omega) only [iA,aA,qop,fop,St.ev,St.put,cd,zd,Value.oneCell',lA,TypeDesc.aggB,Z0,fA,oA,Z1,pA,qA,tA,eA,D.pure?,ZC,ZD,cB,iop,vC,tt,Z2,mA,nA,eB,Zh,wB,rA,ne_eq,not_false_eq_true] <;> exact rfl) ?_) | (first | (refine eC rfl rfl rfl (by simp only [St.put,Za,Zb] <;> exact rfl) ?_) | (refine fC rfl rfl rfl (by simp only [St.put,Za,Zb] <;> exact rfl) ?_)) | (refine cC rfl rfl rfl (by simp only [Za,Zb] <;> exact rfl) (by simp only [Za,Zb] <;> exact rfl) (fun hg => ?_) (fun hg => ?_) <;> (try simp only [Zp,Zi,ZJ,ZK,ne_eq,Zn,Zm,Bool.not_eq_true,Zu] at hg) <;> first | (refine lC rfl rfl rfl (by simp (disch := omega) only [iA,aA,qop,fop,St.ev,St.put,cd,zd,Value.oneCell',lA,TypeDesc.aggB,Z0,fA,oA,Z1,pA,qA,tA,eA,D.pure?,ZC,ZD,cB,iop,vC,tt,Z2,mA,nA,eB,Zh,wB,rA,ne_eq,not_false_eq_true] <;> exact rfl) ?_) | (first | (refine eC rfl rfl rfl (by simp only [St.put,Za,Zb] <;> exact rfl) ?_) | (refine fC rfl rfl rfl (by simp only [St.put,Za,Zb] <;> exact rfl) ?_))))
      (all_goals refine kA rfl (by simp (disch := omega) only [iA,aA,qop,fop,St.ev,St.put,cd,zd,Value.oneCell',lA,TypeDesc.aggB,Z0,fA,oA,Z1,pA,qA,tA,eA,D.pure?,ZC,ZD,cB,iop,vC,tt,Z2,mA,nA,eB,Zh,wB,rA,ne_eq,not_false_eq_true] <;> exact rfl) ?_)
      all_goals refine bA ?_
      all_goals refine ⟨rfl,?_,xD _,yD _,rfl,rfl⟩
      all_goals repeat' (first | exact sA | refine mB ?_ | refine vA rfl ?_ | refine vA ?_ ?_)
      all_goals refine jn ?_
      all_goals ((try simp only [Zp,Zi,ZJ,ZK,Bool.not_eq_true,Zm,Zn,ne_eq,Zf,true_iff,false_iff,iff_true,iff_false] at *) <;> omega)
     refine jA ?_
     refine oB _ rfl (fun hc4 => ?_) (fun hc4 => ?_)
     ·try simp only [Zp,Zi,ZK,ZJ,ne_eq,Zn,Zm,ZB,ZA,ZI,not_or,not_and,Zu] at hc4
      refine cA ?_
      refine gA hX hb [0,1,2] rfl (σ' := ?s12) (fun K hK => ?h12) ?n12
      case h12 =>
       iterate 3 (refine kA rfl (by simp (disch := omega) only [iA,aA,qop,fop,St.ev,St.put,cd,zd,Value.oneCell',lA,TypeDesc.aggB,Z0,aE,cD,mC,aC,D.cell1,fB,gB,iB,jB,kB,List.all_cons,List.all_nil,uC,TI.place,TI.zeros,TI.kindOk,D.cells?,D.pure?,zp,Value.cells,ZQ,ZP,Z1,iC,D.boxCells,D.live,ZM,ZL,ZN,ZG,ZH,St.setVec,ZC,tt,Z2,mA,nA,eB,Zh,wB,rA,ne_eq,not_false_eq_true] <;> exact rfl) ?_)
       refine bA ?_
       exact hK
      refine jA ?_
      refine bC ?_
      refine tC ?_
      exact zC rfl (oE (by simp only [mE,pA,qA,lA,TypeDesc.aggB,eA,D.pure?,D.pv?,pB,qB,Zd,Zc,Zw,Zk,Zv,Zj,Zx,Zl,Zo,Zr,reduceIte,Nat.reduceAdd,Nat.reduceLeDiff,Zg,Zf,tt] <;> exact rfl) rfl (by first | rfl | (first | (rw [iJ hc0] <;> rfl) | (rw [jJ hc0 hc1] <;> rfl) | (rw [kJ hc0 hc1 hc2] <;> rfl) | (rw [qH hc0 hc1 hc2x hc3] <;> rfl) | (rw [lJ hc0 hc1 hc2x hc3x hc4] <;> rfl) | (rw [rH hc0 hc1 hc2x hc3x hc4x hc6] <;> rfl) | (rw [uI hc0 hc1 hc2x hc3x hc4x hc6] <;> rfl))))
     ·try simp only [Zp,Zi,ZK,ZJ,ne_eq,Zn,Zm,ZB,ZA,ZI,not_or,not_and,Zu] at hc4
      have hc4x : ¬ (nu < 0 ∨ (lv.length : Int) ≤ nu) := by omega
      have hsm := fH hc0
      dsimp only at hsm
      obtain ⟨k,hk⟩ : ∃ k : Nat,nu = k := ⟨nu.toNat,by omega⟩
      subst hk
      obtain ⟨S,F,hS,hF,q1,q2,q3,q4,q5,q6⟩ := sF hc0
      dsimp only at hS hF
      subst hS
      subst hF
      have hrl := hsm.2.2 _ (qE lv [] k (by omega))
      obtain ⟨P,hP2⟩ : ∃ P,vs.length = 2 + 2 * P := ⟨(vs.length - 2) / 2,by omega⟩
      have hprl : (iD (vs.drop 2)).length = P := by rw [uJ,List.length_drop]; omega
      have hpi := lX (l := vs.drop 2) (fun v hv => hvi v (List.mem_of_mem_drop hv))
      have hpl2 : 2 * P ≤ 1000000 := by omega
      refine uB ?_
      refine jA ?_
      refine cA ?_
      refine gA hX hb [0] rfl (σ' := ?s13) (fun K hK => ?h13) ?n13
      case h13 =>
       (refine kA rfl (by simp (disch := omega) only [iA,aA,qop,fop,St.ev,St.put,cd,zd,Value.oneCell',lA,TypeDesc.aggB,Z0,Z2,mA,nA,eB,Zh,wB,rA,ne_eq,not_false_eq_true] <;> exact rfl) ?_)
       refine bA ?_
       exact hK
      refine jA ?_
      refine nJ 7 35 2 rfl (σ' := ?s14) ?h14 ?n14
      case h14 => simp only [St.nilSlot,St.addVec,Za,Zb,Zl,Zo,ZL,ZM]; exact rfl
      refine cA ?_
      refine cA ?_
      refine gA hX hb [0] rfl (σ' := ?s15) (fun K hK => ?h15) ?n15
      case h15 =>
       (refine kA rfl (by simp (disch := omega) only [iA,aA,qop,fop,St.ev,St.put,cd,zd,Value.oneCell',lA,TypeDesc.aggB,Z0,t2,ti2,Z2,mA,nA,eB,Zh,wB,rA,ne_eq,not_false_eq_true] <;> exact rfl) ?_)
       refine bA ?_
       exact hK
      refine jA ?_
      refine tB ?_
      refine rD (ι := Nat) (fun j => j ≤ P) (fun j => ⟨[],[.any,.any,.ptr 0 0,.ptr 1 0,.ptr 2 0,.any,.any,.vref 0,.p (i64 ((2 + 2 * j : Nat) : Int)),.any,.any,.any,.any,.any,.any,.any,.any,.any,.any,.any,.any,.any,.any,.any,.any,.any,.any,.any,.any,.any,.any,.any,.any,.any,.any,.any,.any,.any,.any,.any,.any,.any,.any,.any,.any,.any,.any,.any,.any,.any,.any,.any,.any,.any,.any,.any,.any,.any,.any,.any,.any,.any,.any,.any,.any,.any,.any,.any,.any,.any,.any,.any,.any,.any,.any,.any,.any,.any,.any,.any,.any,.any,.any,.any,.any,.any,.any,.any,.any,.any,.any,.any,.any,.any,.any,.any,.any,.any,.any,.any,.any,.any,.any,.any,.any,.any,.any,.any,.any,.any,.any,.any,.any,.any,.any,.any,.any,.any,.any,.any,.any,.any,.any,.any,.any,.any,.any,.any,.any,.any,.any,.any,.any,.any,.any,.any,.any,.any,.any,.any,.any,.any,.any,.any,.any,.any],[⟨26,[.p (i64 (S : Int)),.p (i64 (F : Int)),.p (iE lv)]⟩,⟨90,[.p (i64 ki),.p (i64 fr),.p (i64 de),.p (i64 (k : Int)),.p (i64 va),.p (i64 ep),.p (mF vs),.p (bytes bo)]⟩,⟨90,[.p (i64 0),.p (i64 0),.p (i64 0),.p (i64 0),.p (i64 0),.p (i64 0),.nil,.nil]⟩],[some ⟨35,2,((iD (vs.drop 2)).take j).length,dE ((iD (vs.drop 2)).take j)⟩]⟩) (fun j => P - j) 0 (by exact Nat.zero_le _) (rC ⟨rfl,(by repeat first | exact sA | refine mB ?_ | refine vA (by first | rfl | (first | (rw [cF (by omega),← jC]; simp; omega) | (rw [cF (by omega),← jC]; simp) | (refine congrArg (fun n => D.p (i64 n)) ?_; omega))) ?_),(pC rfl ((by repeat first | exact sA | refine mB ?_ | refine vA (by first | rfl | (first | (rw [cF (by omega),← jC]; simp; omega) | (rw [cF (by omega),← jC]; simp) | (refine congrArg (fun n => D.p (i64 n)) ?_; omega))) ?_)) (pC rfl ((by repeat first | exact sA | refine mB ?_ | refine vA (by first | rfl | (first | (rw [cF (by omega),← jC]; simp; omega) | (rw [cF (by omega),← jC]; simp) | (refine congrArg (fun n => D.p (i64 n)) ?_; omega))) ?_)) (pC rfl ((by repeat first | exact sA | refine mB ?_ | refine vA (by first | rfl | (first | (rw [cF (by omega),← jC]; simp; omega) | (rw [cF (by omega),← jC]; simp) | (refine congrArg (fun n => D.p (i64 n)) ?_; omega))) ?_)) (xB _)))),(jE (by first | rfl | (first | (rw [cF (by omega),← jC]; simp; omega) | (rw [cF (by omega),← jC]; simp) | (refine congrArg (fun n => D.p (i64 n)) ?_; omega))) (yB _)),rfl,rfl⟩) ?_
      rintro j hj
      have hjt : ((iD (vs.drop 2)).take j).length = j := by rw [List.length_take]; omega
      have hix : (((2 + 2 * j : Nat) : Int)).toNat = 2 + 2 * j := by omega
      have hix1 : (((2 + 2 * j : Nat) : Int) + 1).toNat = 2 + 2 * j + 1 := by omega
      refine cA ?_
      refine cA ?_
      refine gA hX hb [0,1,2,3,4] rfl (σ' := ?s16) (fun K hK => ?h16) ?n16
      case h16 =>
       iterate 5 (refine kA rfl (by simp (disch := omega) only [iA,aA,qop,fop,St.ev,St.put,cd,zd,Value.oneCell',lA,TypeDesc.aggB,Z0,fA,oA,Z1,pA,qA,tA,eA,D.pure?,ZC,ZD,vC,cB,iop,tt,Z2,mA,nA,eB,Zh,wB,rA,ne_eq,not_false_eq_true] <;> exact rfl) ?_)
       refine bA ?_
       exact hK
      refine jA ?_
      refine oB _ rfl (fun hc5 => ?_) (fun hc5 => ?_)
      ·try simp only [Zp,Zi,ZK,ZJ,ne_eq,Zn,Zm,ZB,ZA,ZI,not_or,not_and,Zu] at hc5
       refine uB ?_
       refine jA ?_
       refine cA ?_
       refine tB ?_
       refine dF hX hb (jD hP) [(0,true),(1,true),(2,true),(3,true),(4,true),(5,true),(6,true),(7,true),(8,true),(9,true),(10,true),(11,true),(12,true),(13,false),(14,false),(15,true)] (by kernel_rfl) (σ' := ?s17) (fun K hK => ?h17) ?n17
       case h17 =>
        iterate 13 (refine eF rfl (by simp (disch := omega) only [qop,fop,St.ev,St.put,cd,zd,Value.oneCell',lA,TypeDesc.aggB,Z0,fA,oA,Z1,pA,qA,tA,eA,D.pure?,ZC,ZD,Int.toNat_zero,Int.toNat_one,xA,yA,wA,ZO,Nat.mul_one,Nat.zero_mul,Zh,cB,iop,aE,cD,mC,aC,D.cell1,fB,gB,iB,jB,kB,List.all_cons,List.all_nil,uC,TI.place,TI.zeros,TI.kindOk,D.cells?,zp,Value.cells,ZQ,ZP,zD,aD,bD,bE,bB,rB,ZG,ZH,ZL,ZM,ZN,aB,Nat.reduceAdd,Nat.reduceMul,nD,cG,St.demote,D.demote,St.setVec,List.length_append,reduceIte,tt,Z2,mA,nA,eB,wB,rA,ne_eq,not_false_eq_true,hix,hix1] <;> exact rfl) (by simp only [St.put,Za,Zb] <;> exact rfl) ?_)
        iterate 2 (refine rG rfl (by simp (disch := omega) only [iA,aA,qop,fop,St.ev,St.put,cd,zd,Value.oneCell',lA,TypeDesc.aggB,Z0,fA,oA,Z1,pA,qA,tA,eA,D.pure?,ZC,ZD,Int.toNat_zero,Int.toNat_one,xA,yA,wA,ZO,Nat.mul_one,Nat.zero_mul,Zh,cB,iop,aE,cD,mC,aC,D.cell1,fB,gB,iB,jB,kB,List.all_cons,List.all_nil,uC,TI.place,TI.zeros,TI.kindOk,D.cells?,zp,Value.cells,ZQ,ZP,zD,aD,bD,bE,bB,rB,ZG,ZH,ZL,ZM,ZN,aB,Nat.reduceAdd,Nat.reduceMul,nD,cG,St.demote,D.demote,St.setVec,List.length_append,reduceIte,tt,Z2,mA,nA,eB,wB,rA,ne_eq,not_false_eq_true,hix,hix1] <;> exact rfl) ?_)
        (refine eF rfl (by simp (disch := omega) only [qop,fop,St.ev,St.put,cd,zd,Value.oneCell',lA,TypeDesc.aggB,Z0,fA,oA,Z1,pA,qA,tA,eA,D.pure?,ZC,ZD,Int.toNat_zero,Int.toNat_one,xA,yA,wA,ZO,Nat.mul_one,Nat.zero_mul,Zh,cB,iop,aE,cD,mC,aC,D.cell1,fB,gB,iB,jB,kB,List.all_cons,List.all_nil,uC,TI.place,TI.zeros,TI.kindOk,D.cells?,zp,Value.cells,ZQ,ZP,zD,aD,bD,bE,bB,rB,ZG,ZH,ZL,ZM,ZN,aB,Nat.reduceAdd,Nat.reduceMul,nD,cG,St.demote,D.demote,St.setVec,List.length_append,reduceIte,tt,Z2,mA,nA,eB,wB,rA,ne_eq,not_false_eq_true,hix,hix1] <;> exact rfl) (by simp only [St.put,Za,Zb] <;> exact rfl) ?_)
        refine xC ?_
        exact hK
       refine cE ?_
       refine jA ?_
       refine gA hX hb [0,1,2] rfl (σ' := ?s18) (fun K hK => ?h18) ?n18
       case h18 =>
        iterate 3 (refine kA rfl (by simp (disch := omega) only [iA,aA,qop,fop,St.ev,St.put,cd,zd,Value.oneCell',lA,TypeDesc.aggB,Z0,cB,iop,tt,Z2,mA,nA,eB,Zh,wB,rA,ne_eq,not_false_eq_true] <;> exact rfl) ?_)
        refine bA ?_
        exact hK
       refine jA ?_
       exact ⟨j + 1,by (try dsimp only); omega,by (try dsimp only); omega,rC ⟨rfl,(by repeat first | exact sA | refine mB ?_ | refine vA (by first | rfl | (first | (rw [cF (by omega),← jC]; simp; omega) | (rw [cF (by omega),← jC]; simp) | (refine congrArg (fun n => D.p (i64 n)) ?_; omega))) ?_),(pC rfl ((by repeat first | exact sA | refine mB ?_ | refine vA (by first | rfl | (first | (rw [cF (by omega),← jC]; simp; omega) | (rw [cF (by omega),← jC]; simp) | (refine congrArg (fun n => D.p (i64 n)) ?_; omega))) ?_)) (pC rfl ((by repeat first | exact sA | refine mB ?_ | refine vA (by first | rfl | (first | (rw [cF (by omega),← jC]; simp; omega) | (rw [cF (by omega),← jC]; simp) | (refine congrArg (fun n => D.p (i64 n)) ?_; omega))) ?_)) (pC rfl ((by repeat first | exact sA | refine mB ?_ | refine vA (by first | rfl | (first | (rw [cF (by omega),← jC]; simp; omega) | (rw [cF (by omega),← jC]; simp) | (refine congrArg (fun n => D.p (i64 n)) ?_; omega))) ?_)) (xB _)))),(jE (by first | rfl | (first | (rw [cF (by omega),← jC]; simp; omega) | (rw [cF (by omega),← jC]; simp) | (refine congrArg (fun n => D.p (i64 n)) ?_; omega))) (yB _)),rfl,rfl⟩⟩
      ·try simp only [Zp,Zi,ZK,ZJ,ne_eq,Zn,Zm,ZB,ZA,ZI,not_or,not_and,Zu] at hc5
       refine oD ?_
       refine fD ?_
       refine fD ?_
       refine zE ?_
       refine jA ?_
       refine cA ?_
       refine cA ?_
       rw [show (iD (vs.drop 2)).take j = (iD (vs.drop 2)) from List.take_of_length_le (by omega)]
       refine nH 0 rfl (σ' := ?s20) ?h20 ?n20
       case h20 => simp only [St.freeze,D.freeze,ZG,ZH,Za,Zb,Zr,reduceIte,Nat.reduceEqDiff]; exact rfl
       refine gA hX hb [0,1,2,3,4,5,6,7,8,9] rfl (σ' := ?s19) (fun K hK => ?h19) ?n19
       case h19 =>
        iterate 8 (refine kA rfl (by simp (disch := omega) only [iA,aA,qop,fop,St.ev,St.put,cd,zd,Value.oneCell',lA,TypeDesc.aggB,Z0,fA,oA,Z1,pA,qA,tA,eA,D.pure?,ZC,ZD,Int.toNat_zero,Int.toNat_one,xA,yA,wA,ZO,Nat.mul_one,Nat.zero_mul,Zh,vC,uA,D.pv?,cB,iop,tt,Z2,mA,nA,eB,wB,rA,ne_eq,not_false_eq_true] <;> exact rfl) ?_)
        refine mD rfl (by simp only [aA,St.ev,pB,qB,uA,D.pv?,ZG,ZH,zd,cd,Value.oneCell',Zr] <;> exact rfl) (acK hP (c86 (iD (vs.drop 2)) ((lv.getD k []).length : Nat) hpi (by omega))) (by simp only [St.put,Za,Zb] <;> exact rfl) ?_
        (refine kA rfl (by simp (disch := omega) only [iA,aA,qop,fop,St.ev,St.put,cd,zd,Value.oneCell',lA,TypeDesc.aggB,Z0,fA,oA,Z1,pA,qA,tA,eA,D.pure?,ZC,ZD,Int.toNat_zero,Int.toNat_one,xA,yA,wA,ZO,Nat.mul_one,Nat.zero_mul,Zh,vC,uA,D.pv?,cB,iop,tt,Z2,mA,nA,eB,wB,rA,ne_eq,not_false_eq_true] <;> exact rfl) ?_)
        refine bA ?_
        exact hK
       refine jA ?_
       refine oB _ rfl (fun hc6 => ?_) (fun hc6 => ?_)
       ·try simp only [Zp,Zi,ZK,ZJ,ne_eq,Zn,Zm,ZB,ZA,ZI,not_or,not_and,Zu] at hc6
        refine cA ?_
        refine gA hX hb [0,1,2] rfl (σ' := ?s21) (fun K hK => ?h21) ?n21
        case h21 =>
         iterate 3 (refine kA rfl (by simp (disch := omega) only [iA,aA,qop,fop,St.ev,St.put,cd,zd,Value.oneCell',lA,TypeDesc.aggB,Z0,aE,cD,mC,aC,D.cell1,fB,gB,iB,jB,kB,List.all_cons,List.all_nil,uC,TI.place,TI.zeros,TI.kindOk,D.cells?,D.pure?,zp,Value.cells,ZQ,ZP,Z1,iC,D.boxCells,D.live,ZM,ZL,ZN,ZG,ZH,St.setVec,ZC,tt,Z2,mA,nA,eB,Zh,wB,rA,ne_eq,not_false_eq_true] <;> exact rfl) ?_)
         refine bA ?_
         exact hK
        refine jA ?_
        refine bC ?_
        refine tC ?_
        exact zC rfl (oE (by simp only [mE,pA,qA,lA,TypeDesc.aggB,eA,D.pure?,D.pv?,pB,qB,Zd,Zc,Zw,Zk,Zv,Zj,Zx,Zl,Zo,Zr,reduceIte,Nat.reduceAdd,Nat.reduceLeDiff,Zg,Zf,tt] <;> exact rfl) rfl (by first | rfl | (first | (rw [iJ hc0] <;> rfl) | (rw [jJ hc0 hc1] <;> rfl) | (rw [kJ hc0 hc1 hc2] <;> rfl) | (rw [qH hc0 hc1 hc2x hc3] <;> rfl) | (rw [lJ hc0 hc1 hc2x hc3x hc4] <;> rfl) | (rw [rH hc0 hc1 hc2x hc3x hc4x hc6] <;> rfl) | (rw [uI hc0 hc1 hc2x hc3x hc4x hc6] <;> rfl))))
       ·try simp only [Zp,Zi,ZK,ZJ,ne_eq,Zn,Zm,ZB,ZA,ZI,not_or,not_and,Zu] at hc6
        have hxf := qK hc6
        have hxe := wJ hc6
        refine uB ?_
        refine jA ?_
        refine cA ?_
        refine gA hX (oY 90 hb) [0,1,2,3,4,5,6,7,8] rfl (σ' := ?s22) (fun K hK => ?h22) ?n22
        case h22 =>
         iterate 9 (refine kA rfl (by simp (disch := omega) only [iA,aA,qop,fop,St.ev,St.put,cd,zd,Value.oneCell',lA,TypeDesc.aggB,Z0,fA,oA,Z1,pA,qA,tA,eA,D.pure?,ZC,ZD,aE,cD,mC,aC,D.cell1,fB,gB,iB,jB,kB,List.all_cons,List.all_nil,uC,TI.place,TI.zeros,TI.kindOk,D.cells?,zp,Value.cells,ZQ,ZP,ZM,ZL,ZG,ZH,St.addBox,iC,D.boxCells,D.live,ZN,St.setVec,tt,Z2,mA,nA,eB,Zh,wB,rA,ne_eq,not_false_eq_true,sQ,iL,lI,wG] <;> exact rfl) ?_)
         refine bA ?_
         exact hK
        refine jA ?_
        refine jM 3 6 _ 3 1 rfl rfl (σ' := ?s23) ?h23 ?n23
        case h23 => simp only [St.nilCell,St.addVec,Za,Zb,Zl,Zo,ZL,ZM]; exact rfl
        refine jM 3 7 _ 5 1 rfl rfl (σ' := ?s24) ?h24 ?n24
        case h24 => simp only [St.nilCell,St.addVec,Za,Zb,Zl,Zo,ZL,ZM]; exact rfl
        refine cA ?_
        refine gA hX hb [0,1,2,3,4,5,6] rfl (σ' := ?s25) (fun K hK => ?h25) ?n25
        case h25 =>
         iterate 7 (refine kA rfl (by simp (disch := omega) only [iA,aA,qop,fop,St.ev,St.put,cd,zd,Value.oneCell',lA,TypeDesc.aggB,Z0,fA,oA,Z1,pA,qA,tA,eA,D.pure?,ZC,ZD,nD,cG,St.demote,D.demote,St.setVec,ZG,ZH,Zh,List.length_append,Nat.mul_one,reduceIte,iC,D.boxCells,D.live,D.cells?,ZM,ZL,ZN,tt,Z2,mA,nA,eB,wB,rA,ne_eq,not_false_eq_true] <;> exact rfl) ?_)
         refine bA ?_
         exact hK
        refine jA ?_
        refine cA ?_
        refine gA hX hb [0,1,2] rfl (σ' := ?s26) (fun K hK => ?h26) ?n26
        case h26 =>
         (refine kA rfl (by simp (disch := omega) only [iA,aA,qop,fop,St.ev,St.put,cd,zd,Value.oneCell',lA,TypeDesc.aggB,Z0,uA,D.pv?,tt,Z2,mA,nA,eB,Zh,wB,rA,ne_eq,not_false_eq_true] <;> exact rfl) ?_)
         refine mD rfl (by simp only [aA,St.ev,pB,qB,uA,D.pv?,ZG,ZH,zd,cd,Value.oneCell',Zr] <;> exact rfl) (acK hP (c91 (iD (vs.drop 2)) _ hc6)) (by simp only [St.put,Za,Zb] <;> exact rfl) ?_
         (refine kA rfl (by simp (disch := omega) only [iA,aA,qop,fop,St.ev,St.put,cd,zd,Value.oneCell',lA,TypeDesc.aggB,Z0,uA,D.pv?,tt,Z2,mA,nA,eB,Zh,wB,rA,ne_eq,not_false_eq_true] <;> exact rfl) ?_)
         refine bA ?_
         exact hK
        refine jA ?_
        refine cA ?_
        refine cA ?_
        refine gA hX hb [0] rfl (σ' := ?s27) (fun K hK => ?h27) ?n27
        case h27 =>
         (refine kA rfl (by simp (disch := omega) only [iA,aA,qop,fop,St.ev,St.put,cd,zd,Value.oneCell',lA,TypeDesc.aggB,Z0,Z2,mA,nA,eB,Zh,wB,rA,ne_eq,not_false_eq_true] <;> exact rfl) ?_)
         refine bA ?_
         exact hK
        refine jA ?_
        refine tB ?_
        refine rD (ι := Nat) (fun i => i ≤ (vB (iD (vs.drop 2))).length) (fun i => ⟨[],[.any,.any,.ptr 0 0,.ptr 1 0,.ptr 2 0,.any,.any,.any,.any,.ptr 3 0,.p (jS (vB (iD (vs.drop 2)))),.p (i64 i),.any,.any,.any,.any,.any,.any,.any,.any,.any,.any,.any,.any,.any,.any,.any,.any,.any,.any,.any,.any,.any,.any,.any,.any,.any,.any,.any,.any,.any,.any,.any,.any,.any,.any,.any,.any,.any,.any,.any,.any,.any,.any,.any,.any,.any,.any,.any,.any,.any,.any,.any,.any,.any,.any,.any,.any,.any,.any,.any,.any,.any,.any,.any,.any,.any,.any,.any,.any,.any,.any,.any,.any,.any,.any,.any,.any,.any,.any,.any,.any,.any,.any,.any,.any,.any,.any,.any,.any,.any,.any,.any,.any,.any,.any,.any,.any,.any,.any,.any,.any,.any,.any,.any,.any,.any,.any,.any,.any,.any,.any,.any,.any,.any,.any,.any,.any,.any,.any,.any,.any,.any,.any,.any,.any,.any,.any,.any,.any,.any,.any,.any,.any,.any,.any],[⟨26,[.p (i64 (S : Int)),.p (i64 (F : Int)),.p (iE lv)]⟩,⟨90,[.p (i64 ki),.p (i64 fr),.p (i64 de),.p (i64 (k : Int)),.p (i64 va),.p (i64 ep),.p (mF vs),.p (bytes bo)]⟩,⟨90,[.p (i64 0),.p (i64 0),.p (i64 0),.p (i64 0),.p (i64 0),.p (i64 0),.nil,.nil]⟩,⟨90,[.p (i64 14),.p (i64 de),.p (i64 fr),.p (i64 (k : Int)),.p (i64 0),.p (i64 0),.vref 1,.vref 2]⟩],[none,some ⟨3,1,vs.length,vs.map i64⟩,some ⟨5,1,(bF (lv.getD k []) ((vB (iD (vs.drop 2))).take i)).length,(bF (lv.getD k []) ((vB (iD (vs.drop 2))).take i)).map u8⟩]⟩) (fun i => (vB (iD (vs.drop 2))).length - i) 0 (by exact Nat.zero_le _) (rC ⟨rfl,(by repeat first | exact sA | refine mB ?_ | refine vA (by first | rfl | (rw [nC _ _ i (by omega),wb8])) ?_),(pC rfl ((by repeat first | exact sA | refine mB ?_ | refine vA (by first | rfl | (rw [nC _ _ i (by omega),wb8])) ?_)) (pC rfl ((by repeat first | exact sA | refine mB ?_ | refine vA (by first | rfl | (rw [nC _ _ i (by omega),wb8])) ?_)) (pC rfl ((by repeat first | exact sA | refine mB ?_ | refine vA (by first | rfl | (rw [nC _ _ i (by omega),wb8])) ?_)) (pC rfl ((by repeat first | exact sA | refine mB ?_ | refine vA (by first | rfl | (rw [nC _ _ i (by omega),wb8])) ?_)) (xB _))))),(xT (jE (by first | rfl | (rw [nC _ _ i (by omega),wb8])) (jE (by first | rfl | (rw [nC _ _ i (by omega),wb8])) (yB _)))),rfl,rfl⟩) ?_
        rintro i hi
        have hbl : (bF (lv.getD k []) ((vB (iD (vs.drop 2))).take i)).length = 8 * i := by rw [wO,List.length_take]; omega
        refine cA ?_
        refine cA ?_
        refine gA hX hb [0,1,2,3] rfl (σ' := ?s28) (fun K hK => ?h28) ?n28
        case h28 =>
         iterate 4 (refine kA rfl (by simp (disch := omega) only [iA,aA,qop,fop,St.ev,St.put,cd,zd,Value.oneCell',lA,TypeDesc.aggB,Z0,vC,cB,iop,tt,Z2,mA,nA,eB,Zh,wB,rA,ne_eq,not_false_eq_true] <;> exact rfl) ?_)
         refine bA ?_
         exact hK
        refine jA ?_
        refine oB _ rfl (fun hc7 => ?_) (fun hc7 => ?_)
        ·try simp only [Zp,Zi,ZK,ZJ,ne_eq,Zn,Zm,ZB,ZA,ZI,not_or,not_and,Zu] at hc7
         have hxi := nS hc6 _ (qE (vB (iD (vs.drop 2))) 0 i (by omega))
         refine uB ?_
         refine jA ?_
         refine cA ?_
         refine tB ?_
         refine cA ?_
         refine dF hX hb (jD hP) [(0,true),(1,true),(2,true),(3,true),(4,true),(5,true),(6,true),(7,true),(8,true),(9,true),(10,true),(11,true),(12,true)] (by kernel_rfl) (σ' := ?s29) (fun K hK => ?h29) ?n29
         case h29 =>
          iterate 13 (refine eF rfl (by simp (disch := omega) only [qop,fop,St.ev,St.put,cd,zd,Value.oneCell',lA,TypeDesc.aggB,Z0,fA,oA,Z1,pA,qA,tA,eA,D.pure?,ZC,ZD,Int.toNat_zero,Int.toNat_one,xA,yA,wA,ZO,Nat.mul_one,Nat.zero_mul,Zh,tt,Z2,mA,nA,eB,wB,rA,ne_eq,not_false_eq_true] <;> exact rfl) (by simp only [St.put,Za,Zb] <;> exact rfl) ?_)
          refine xC ?_
          exact hK
         refine jA ?_
         refine cA ?_
         refine gA hX hb [0] rfl (σ' := ?s30) (fun K hK => ?h30) ?n30
         case h30 =>
          (refine kA rfl (by simp (disch := omega) only [iA,aA,qop,fop,St.ev,St.put,cd,zd,Value.oneCell',lA,TypeDesc.aggB,Z0,Z2,mA,nA,eB,Zh,wB,rA,ne_eq,not_false_eq_true] <;> exact rfl) ?_)
          refine bA ?_
          exact hK
         refine jA ?_
         refine tB ?_
         refine rD (ι := Nat) (fun q => q ≤ 8) (fun q => ⟨[],[.any,.any,.ptr 0 0,.ptr 1 0,.ptr 2 0,.any,.any,.any,.any,.ptr 3 0,.p (jS (vB (iD (vs.drop 2)))),.p (i64 i),.p (u64 ((lv.getD k []).getD ((vB (iD (vs.drop 2))).getD i 0) 0)),.p (i64 q),.any,.any,.any,.any,.any,.any,.any,.any,.any,.any,.any,.any,.any,.any,.any,.any,.any,.any,.any,.any,.any,.any,.any,.any,.any,.any,.any,.any,.any,.any,.any,.any,.any,.any,.any,.any,.any,.any,.any,.any,.any,.any,.any,.any,.any,.any,.any,.any,.any,.any,.any,.any,.any,.any,.any,.any,.any,.any,.any,.any,.any,.any,.any,.any,.any,.any,.any,.any,.any,.any,.any,.any,.any,.any,.any,.any,.any,.any,.any,.any,.any,.any,.any,.any,.any,.any,.any,.any,.any,.any,.any,.any,.any,.any,.any,.any,.any,.any,.any,.any,.any,.any,.any,.any,.any,.any,.any,.any,.any,.any,.any,.any,.any,.any,.any,.any,.any,.any,.any,.any,.any,.any,.any,.any,.any,.any,.any,.any,.any,.any,.any,.any],[⟨26,[.p (i64 (S : Int)),.p (i64 (F : Int)),.p (iE lv)]⟩,⟨90,[.p (i64 ki),.p (i64 fr),.p (i64 de),.p (i64 (k : Int)),.p (i64 va),.p (i64 ep),.p (mF vs),.p (bytes bo)]⟩,⟨90,[.p (i64 0),.p (i64 0),.p (i64 0),.p (i64 0),.p (i64 0),.p (i64 0),.nil,.nil]⟩,⟨90,[.p (i64 14),.p (i64 de),.p (i64 fr),.p (i64 (k : Int)),.p (i64 0),.p (i64 0),.vref 1,.vref 2]⟩],[none,some ⟨3,1,vs.length,vs.map i64⟩,some ⟨5,1,(bF (lv.getD k []) ((vB (iD (vs.drop 2))).take i) ++ (yC ((lv.getD k []).getD ((vB (iD (vs.drop 2))).getD i 0) 0)).take q).length,(bF (lv.getD k []) ((vB (iD (vs.drop 2))).take i) ++ (yC ((lv.getD k []).getD ((vB (iD (vs.drop 2))).getD i 0) 0)).take q).map u8⟩]⟩) (fun q => 8 - q) 0 (by exact Nat.zero_le _) (rC ⟨rfl,(by repeat first | exact sA | refine mB ?_ | refine vA (by first | rfl | (first | (rw [qC _ q (by omega),← List.append_assoc]; simp [shb]; done) | (rw [qC _ q (by omega),← List.append_assoc]; simp [shb]; omega) | simp)) ?_),(pC rfl ((by repeat first | exact sA | refine mB ?_ | refine vA (by first | rfl | (first | (rw [qC _ q (by omega),← List.append_assoc]; simp [shb]; done) | (rw [qC _ q (by omega),← List.append_assoc]; simp [shb]; omega) | simp)) ?_)) (pC rfl ((by repeat first | exact sA | refine mB ?_ | refine vA (by first | rfl | (first | (rw [qC _ q (by omega),← List.append_assoc]; simp [shb]; done) | (rw [qC _ q (by omega),← List.append_assoc]; simp [shb]; omega) | simp)) ?_)) (pC rfl ((by repeat first | exact sA | refine mB ?_ | refine vA (by first | rfl | (first | (rw [qC _ q (by omega),← List.append_assoc]; simp [shb]; done) | (rw [qC _ q (by omega),← List.append_assoc]; simp [shb]; omega) | simp)) ?_)) (pC rfl ((by repeat first | exact sA | refine mB ?_ | refine vA (by first | rfl | (first | (rw [qC _ q (by omega),← List.append_assoc]; simp [shb]; done) | (rw [qC _ q (by omega),← List.append_assoc]; simp [shb]; omega) | simp)) ?_)) (xB _))))),(xT (jE (by first | rfl | (first | (rw [qC _ q (by omega),← List.append_assoc]; simp [shb]; done) | (rw [qC _ q (by omega),← List.append_assoc]; simp [shb]; omega) | simp)) (jE (by first | rfl | (first | (rw [qC _ q (by omega),← List.append_assoc]; simp [shb]; done) | (rw [qC _ q (by omega),← List.append_assoc]; simp [shb]; omega) | simp)) (yB _)))),rfl,rfl⟩) ?_
         rintro q hq
         have hwl : ((yC ((lv.getD k []).getD ((vB (iD (vs.drop 2))).getD i 0) 0)).take q).length = q := by rw [List.length_take,eD]; omega
         refine cA ?_
         refine cA ?_
         refine gA hX hb [0,1] rfl (σ' := ?s31) (fun K hK => ?h31) ?n31
         case h31 =>
          iterate 2 (refine kA rfl (by simp (disch := omega) only [iA,aA,qop,fop,St.ev,St.put,cd,zd,Value.oneCell',lA,TypeDesc.aggB,Z0,cB,iop,t3,ti3,Z2,mA,nA,eB,Zh,wB,rA,ne_eq,not_false_eq_true] <;> exact rfl) ?_)
          refine bA ?_
          exact hK
         refine jA ?_
         refine oB _ rfl (fun hc8 => ?_) (fun hc8 => ?_)
         ·try simp only [Zp,Zi,ZK,ZJ,ne_eq,Zn,Zm,ZB,ZA,ZI,not_or,not_and,Zu] at hc8
          refine uB ?_
          refine jA ?_
          refine cA ?_
          refine tB ?_
          refine dF hX hb (jD hP) [(0,true),(1,true),(2,true),(3,true),(4,true),(5,true),(6,true),(7,false),(8,false),(9,true),(10,false)] (by kernel_rfl) (σ' := ?s32) (fun K hK => ?h32) ?n32
          case h32 =>
           iterate 7 (refine eF rfl (by simp (disch := omega) only [qop,fop,St.ev,St.put,cd,zd,Value.oneCell',lA,TypeDesc.aggB,Z0,fA,oA,Z1,pA,qA,tA,eA,D.pure?,ZC,ZD,cB,iop,iK,zD,aD,bD,bE,bB,rB,D.cells?,fB,gB,iB,jB,kB,ZG,ZH,ZL,ZM,ZN,aB,Nat.reduceAdd,Nat.reduceMul,nD,cG,St.demote,D.demote,St.setVec,Zh,List.length_append,Nat.mul_one,reduceIte,iC,D.boxCells,D.live,tt,Z2,mA,nA,eB,wB,rA,ne_eq,not_false_eq_true] <;> exact rfl) (by simp only [St.put,Za,Zb] <;> exact rfl) ?_)
           iterate 2 (refine rG rfl (by simp (disch := omega) only [iA,aA,qop,fop,St.ev,St.put,cd,zd,Value.oneCell',lA,TypeDesc.aggB,Z0,fA,oA,Z1,pA,qA,tA,eA,D.pure?,ZC,ZD,cB,iop,iK,zD,aD,bD,bE,bB,rB,D.cells?,fB,gB,iB,jB,kB,ZG,ZH,ZL,ZM,ZN,aB,Nat.reduceAdd,Nat.reduceMul,nD,cG,St.demote,D.demote,St.setVec,Zh,List.length_append,Nat.mul_one,reduceIte,iC,D.boxCells,D.live,tt,Z2,mA,nA,eB,wB,rA,ne_eq,not_false_eq_true] <;> exact rfl) ?_)
           (refine eF rfl (by simp (disch := omega) only [qop,fop,St.ev,St.put,cd,zd,Value.oneCell',lA,TypeDesc.aggB,Z0,fA,oA,Z1,pA,qA,tA,eA,D.pure?,ZC,ZD,cB,iop,iK,zD,aD,bD,bE,bB,rB,D.cells?,fB,gB,iB,jB,kB,ZG,ZH,ZL,ZM,ZN,aB,Nat.reduceAdd,Nat.reduceMul,nD,cG,St.demote,D.demote,St.setVec,Zh,List.length_append,Nat.mul_one,reduceIte,iC,D.boxCells,D.live,tt,Z2,mA,nA,eB,wB,rA,ne_eq,not_false_eq_true] <;> exact rfl) (by simp only [St.put,Za,Zb] <;> exact rfl) ?_)
           (refine rG rfl (by simp (disch := omega) only [iA,aA,qop,fop,St.ev,St.put,cd,zd,Value.oneCell',lA,TypeDesc.aggB,Z0,fA,oA,Z1,pA,qA,tA,eA,D.pure?,ZC,ZD,cB,iop,iK,zD,aD,bD,bE,bB,rB,D.cells?,fB,gB,iB,jB,kB,ZG,ZH,ZL,ZM,ZN,aB,Nat.reduceAdd,Nat.reduceMul,nD,cG,St.demote,D.demote,St.setVec,Zh,List.length_append,Nat.mul_one,reduceIte,iC,D.boxCells,D.live,tt,Z2,mA,nA,eB,wB,rA,ne_eq,not_false_eq_true] <;> exact rfl) ?_)
           refine xC ?_
           exact hK
          refine cE ?_
          refine jA ?_
          refine gA hX hb [0,1,2] rfl (σ' := ?s33) (fun K hK => ?h33) ?n33
          case h33 =>
           iterate 3 (refine kA rfl (by simp (disch := omega) only [iA,aA,qop,fop,St.ev,St.put,cd,zd,Value.oneCell',lA,TypeDesc.aggB,Z0,cB,iop,tt,Z2,mA,nA,eB,Zh,wB,rA,ne_eq,not_false_eq_true] <;> exact rfl) ?_)
           refine bA ?_
           exact hK
          refine jA ?_
          exact ⟨q + 1,by (try dsimp only); omega,by (try dsimp only); omega,rC ⟨rfl,(by repeat first | exact sA | refine mB ?_ | refine vA (by first | rfl | (first | (rw [qC _ q (by omega),← List.append_assoc]; simp [shb]; done) | (rw [qC _ q (by omega),← List.append_assoc]; simp [shb]; omega) | simp)) ?_),(pC rfl ((by repeat first | exact sA | refine mB ?_ | refine vA (by first | rfl | (first | (rw [qC _ q (by omega),← List.append_assoc]; simp [shb]; done) | (rw [qC _ q (by omega),← List.append_assoc]; simp [shb]; omega) | simp)) ?_)) (pC rfl ((by repeat first | exact sA | refine mB ?_ | refine vA (by first | rfl | (first | (rw [qC _ q (by omega),← List.append_assoc]; simp [shb]; done) | (rw [qC _ q (by omega),← List.append_assoc]; simp [shb]; omega) | simp)) ?_)) (pC rfl ((by repeat first | exact sA | refine mB ?_ | refine vA (by first | rfl | (first | (rw [qC _ q (by omega),← List.append_assoc]; simp [shb]; done) | (rw [qC _ q (by omega),← List.append_assoc]; simp [shb]; omega) | simp)) ?_)) (pC rfl ((by repeat first | exact sA | refine mB ?_ | refine vA (by first | rfl | (first | (rw [qC _ q (by omega),← List.append_assoc]; simp [shb]; done) | (rw [qC _ q (by omega),← List.append_assoc]; simp [shb]; omega) | simp)) ?_)) (xB _))))),(xT (jE (by first | rfl | (first | (rw [qC _ q (by omega),← List.append_assoc]; simp [shb]; done) | (rw [qC _ q (by omega),← List.append_assoc]; simp [shb]; omega) | simp)) (jE (by first | rfl | (first | (rw [qC _ q (by omega),← List.append_assoc]; simp [shb]; done) | (rw [qC _ q (by omega),← List.append_assoc]; simp [shb]; omega) | simp)) (yB _)))),rfl,rfl⟩⟩
         ·try simp only [Zp,Zi,ZK,ZJ,ne_eq,Zn,Zm,ZB,ZA,ZI,not_or,not_and,Zu] at hc8
          obtain rfl : q = 8 := by omega
          refine oD ?_
          refine fD ?_
          refine fD ?_
          refine zE ?_
          refine cE ?_
          refine jA ?_
          refine gA hX hb [0,1,2] rfl (σ' := ?s34) (fun K hK => ?h34) ?n34
          case h34 =>
           iterate 3 (refine kA rfl (by simp (disch := omega) only [iA,aA,qop,fop,St.ev,St.put,cd,zd,Value.oneCell',lA,TypeDesc.aggB,Z0,cB,iop,tt,Z2,mA,nA,eB,Zh,wB,rA,ne_eq,not_false_eq_true] <;> exact rfl) ?_)
           refine bA ?_
           exact hK
          refine jA ?_
          exact ⟨i + 1,by (try dsimp only); omega,by (try dsimp only); omega,rC ⟨rfl,(by repeat first | exact sA | refine mB ?_ | refine vA (by first | rfl | (rw [nC _ _ i (by omega),wb8])) ?_),(pC rfl ((by repeat first | exact sA | refine mB ?_ | refine vA (by first | rfl | (rw [nC _ _ i (by omega),wb8])) ?_)) (pC rfl ((by repeat first | exact sA | refine mB ?_ | refine vA (by first | rfl | (rw [nC _ _ i (by omega),wb8])) ?_)) (pC rfl ((by repeat first | exact sA | refine mB ?_ | refine vA (by first | rfl | (rw [nC _ _ i (by omega),wb8])) ?_)) (pC rfl ((by repeat first | exact sA | refine mB ?_ | refine vA (by first | rfl | (rw [nC _ _ i (by omega),wb8])) ?_)) (xB _))))),(xT (jE (by first | rfl | (rw [nC _ _ i (by omega),wb8])) (jE (by first | rfl | (rw [nC _ _ i (by omega),wb8])) (yB _)))),rfl,rfl⟩⟩
        ·try simp only [Zp,Zi,ZK,ZJ,ne_eq,Zn,Zm,ZB,ZA,ZI,not_or,not_and,Zu] at hc7
         refine oD ?_
         refine fD ?_
         refine fD ?_
         refine zE ?_
         refine jA ?_
         refine cA ?_
         obtain rfl : i = (vB (iD (vs.drop 2))).length := by omega
         rw [show (vB (iD (vs.drop 2))).take (vB (iD (vs.drop 2))).length = (vB (iD (vs.drop 2))) from List.take_length]
         refine nH 1 rfl (σ' := ?s36) ?h36 ?n36
         case h36 => simp only [St.freeze,D.freeze,ZG,ZH,Za,Zb,Zr,reduceIte,Nat.reduceEqDiff]; exact rfl
         refine nH 2 rfl (σ' := ?s37) ?h37 ?n37
         case h37 => simp only [St.freeze,D.freeze,ZG,ZH,Za,Zb,Zr,reduceIte,Nat.reduceEqDiff]; exact rfl
         refine gA hX hb [0,1,2] rfl (σ' := ?s35) (fun K hK => ?h35) ?n35
         case h35 =>
          iterate 3 (refine kA rfl (by simp (disch := omega) only [iA,aA,qop,fop,St.ev,St.put,cd,zd,Value.oneCell',lA,TypeDesc.aggB,Z0,Z1,pA,qA,tA,eA,D.pure?,ZC,ZD,iC,D.boxCells,D.live,D.cells?,ZM,ZL,ZN,ZG,ZH,St.setVec,tt,Z2,mA,nA,eB,Zh,wB,rA,ne_eq,not_false_eq_true] <;> exact rfl) ?_)
          refine bA ?_
          exact hK
         refine jA ?_
         refine bC ?_
         exact zC rfl (oE (by simp only [mE,pA,qA,lA,TypeDesc.aggB,eA,D.pure?,D.pv?,pB,qB,Zd,Zc,Zw,Zk,Zv,Zj,Zx,Zl,Zo,Zr,reduceIte,Nat.reduceAdd,Nat.reduceLeDiff,Zg,Zf,tt] <;> exact rfl) rfl (by first | rfl | (first | (rw [iJ hc0] <;> rfl) | (rw [jJ hc0 hc1] <;> rfl) | (rw [kJ hc0 hc1 hc2] <;> rfl) | (rw [qH hc0 hc1 hc2x hc3] <;> rfl) | (rw [lJ hc0 hc1 hc2x hc3x hc4] <;> rfl) | (rw [rH hc0 hc1 hc2x hc3x hc4x hc6] <;> rfl) | (rw [uI hc0 hc1 hc2x hc3x hc4x hc6] <;> rfl))))
end Go.Proofs.Ytldcoekbgfaomaa
end
