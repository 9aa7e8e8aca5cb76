/- The walks of the code that the statement reaches, and the plain laws behind them, part Uc. No conditions. -/
import Derived.Test.YtldcoekbgfaomaaProg
import Derived.Shelf.SlSortCmp.NoneTotal
import Derived.Shelf.SlicesG.Cmp
import Derived.Ground.SlsfProg
import Derived.Ground.SlgcProg
import Derived.WalkKit
import Derived.ProofKit
import Derived.OpenShut
import Derived.ShutString
import Derived.ChangeOld
import Derived.SizedLaws
import Derived.Deep.Slices
import Derived.Carry
import Derived.Test.YtldcoekbgfaomaaUb
set_option linter.unusedVariables false
set_option linter.unusedSimpArgs false
section
namespace Go.Proofs.Ytldcoekbgfaomaa
open Go.RowKit
set_option maxRecDepth 20000
set_option maxHeartbeats 4000000
attribute [local irreducible] jE oD AW
def wO (s f : Int) : Int := if s < 1 ∨ 4096 < s then 2 else if f < 1 ∨ 4096 < f then 1 else 0
theorem c64 (s f : Int) : ACalls Try.prog 64 [.p (i64 s),.p (i64 f)] (.p (i64 (wO s f))) := by
 refine oC jC Try.func64 (c := _) rfl (by kernel_rfl) ?_
 intro X hP hX hro hpl
 have hb : tb.Ok X.P := hP ▸ jC
 change AW X _ _ ⟨[],[.p (i64 s),.p (i64 f),.any,.any,.any,.any,.any,.any,.any,.any,.any,.any,.any,.any,.any,.any,.any,.any,.any],[],[]⟩
 refine fA ?_
 refine iA hX hb [0] rfl (σ' := ?s1) (fun K hK => ?h1) ?n1
 case h1 =>
  (refine kA rfl (by simp (disch := omega) only [gA,aA,qop,fop,St.ev,St.put,cd,zd,Value.oneCell',lA,TypeDesc.aggB,Z0] <;> exact rfl) ?_)
  refine bA ?_
  exact hK
 refine jA ?_
 refine fA ?_
 refine uB ?_
 refine fA ?_
 refine nE hX hb [0,1,2,3,4,5,6] rfl (ts := [6,7,8,9,10,11]) (t := 5) (d := .p (bv (s < 1 ∨ 4096 < s))) (σ' := ?s2) ?j2 ?h2 ?n2
 case j2 => simp only [St.join,List.foldl,Za,Zb]; exact rfl
 case h2 =>
  iterate 3 (all_goals refine kA rfl (by simp (disch := omega) only [gA,aA,qop,fop,St.ev,St.put,cd,zd,Value.oneCell',lA,TypeDesc.aggB,Z0,yA,iop,tt] <;> exact rfl) ?_)
  iterate 2 (all_goals first | (refine fC rfl rfl rfl (by simp (disch := omega) only [gA,aA,qop,fop,St.ev,St.put,cd,zd,Value.oneCell',lA,TypeDesc.aggB,Z0,yA,iop,tt] <;> exact rfl) ?_) | (first | (refine zB rfl rfl rfl (by simp only [St.put,Za,Zb] <;> exact rfl) ?_) | (refine aC rfl rfl rfl (by simp only [St.put,Za,Zb] <;> exact rfl) ?_)) | (refine yB rfl rfl rfl (by simp only [Za,Zb] <;> exact rfl) (by simp only [Za,Zb] <;> exact rfl) (fun hg => ?_) (fun hg => ?_) <;> (try simp only [Zp,Zi,ZJ,ZK,ne_eq,Zn,Zm,Bool.not_eq_true,Zu] at hg) <;> first | (refine fC rfl rfl rfl (by simp (disch := omega) only [gA,aA,qop,fop,St.ev,St.put,cd,zd,Value.oneCell',lA,TypeDesc.aggB,Z0,yA,iop,tt] <;> exact rfl) ?_) | (first | (refine zB rfl rfl rfl (by simp only [St.put,Za,Zb] <;> exact rfl) ?_) | (refine aC rfl rfl rfl (by simp only [St.put,Za,Zb] <;> exact rfl) ?_))))
  iterate 2 (all_goals refine kA rfl (by simp (disch := omega) only [gA,aA,qop,fop,St.ev,St.put,cd,zd,Value.oneCell',lA,TypeDesc.aggB,Z0,yA,iop,tt] <;> exact rfl) ?_)
  all_goals refine bA ?_
  all_goals refine ⟨rfl,?_,pD _,qD _,rfl,rfl⟩
  all_goals repeat' (first | exact tA | refine qB ?_ | refine uA rfl ?_ | refine uA ?_ ?_)
  all_goals refine jn ?_
  all_goals ((try simp only [Zp,Zi,ZJ,ZK,Bool.not_eq_true,Zm,Zn,ne_eq,Zf,true_iff,false_iff,iff_true,iff_false] at *) <;> omega)
 refine jA ?_
 refine mB _ rfl (fun hc0 => ?_) (fun hc0 => ?_)
 ·try simp only [Zp,Zi,ZK,ZJ,ne_eq,Zn,Zm,ZB,ZA,ZI,not_or,not_and,Zu] at hc0
  refine fA ?_
  refine iA hX hb [0] rfl (σ' := ?s3) (fun K hK => ?h3) ?n3
  case h3 =>
   (refine kA rfl (by simp (disch := omega) only [gA,aA,qop,fop,St.ev,St.put,cd,zd,Value.oneCell',lA,TypeDesc.aggB,Z0,t2,ti2] <;> exact rfl) ?_)
   refine bA ?_
   exact hK
  refine jA ?_
  refine bC ?_
  refine oE ?_
  refine nC ?_
  exact tC rfl (sB rfl (by first | rfl | (first | (rw [wO,if_pos hc0]; rfl) | (rw [wO,if_neg (not_or.2 hc0),if_pos hc1]; rfl) | (rw [wO,if_neg (not_or.2 hc0),if_neg (not_or.2 hc1)]; rfl))))
 ·try simp only [Zp,Zi,ZK,ZJ,ne_eq,Zn,Zm,ZB,ZA,ZI,not_or,not_and,Zu] at hc0
  refine fA ?_
  refine nE hX hb [0,1,2,3,4,5,6] rfl (ts := [13,14,15,16,17,18]) (t := 12) (d := .p (bv (f < 1 ∨ 4096 < f))) (σ' := ?s4) ?j4 ?h4 ?n4
  case j4 => simp only [St.join,List.foldl,Za,Zb]; exact rfl
  case h4 =>
   iterate 3 (all_goals refine kA rfl (by simp (disch := omega) only [gA,aA,qop,fop,St.ev,St.put,cd,zd,Value.oneCell',lA,TypeDesc.aggB,Z0,yA,iop,tt] <;> exact rfl) ?_)
   iterate 2 (all_goals first | (refine fC rfl rfl rfl (by simp (disch := omega) only [gA,aA,qop,fop,St.ev,St.put,cd,zd,Value.oneCell',lA,TypeDesc.aggB,Z0,yA,iop,tt] <;> exact rfl) ?_) | (first | (refine zB rfl rfl rfl (by simp only [St.put,Za,Zb] <;> exact rfl) ?_) | (refine aC rfl rfl rfl (by simp only [St.put,Za,Zb] <;> exact rfl) ?_)) | (refine yB rfl rfl rfl (by simp only [Za,Zb] <;> exact rfl) (by simp only [Za,Zb] <;> exact rfl) (fun hg => ?_) (fun hg => ?_) <;> (try simp only [Zp,Zi,ZJ,ZK,ne_eq,Zn,Zm,Bool.not_eq_true,Zu] at hg) <;> first | (refine fC rfl rfl rfl (by simp (disch := omega) only [gA,aA,qop,fop,St.ev,St.put,cd,zd,Value.oneCell',lA,TypeDesc.aggB,Z0,yA,iop,tt] <;> exact rfl) ?_) | (first | (refine zB rfl rfl rfl (by simp only [St.put,Za,Zb] <;> exact rfl) ?_) | (refine aC rfl rfl rfl (by simp only [St.put,Za,Zb] <;> exact rfl) ?_))))
   iterate 2 (all_goals refine kA rfl (by simp (disch := omega) only [gA,aA,qop,fop,St.ev,St.put,cd,zd,Value.oneCell',lA,TypeDesc.aggB,Z0,yA,iop,tt] <;> exact rfl) ?_)
   all_goals refine bA ?_
   all_goals refine ⟨rfl,?_,pD _,qD _,rfl,rfl⟩
   all_goals repeat' (first | exact tA | refine qB ?_ | refine uA rfl ?_ | refine uA ?_ ?_)
   all_goals refine jn ?_
   all_goals ((try simp only [Zp,Zi,ZJ,ZK,Bool.not_eq_true,Zm,Zn,ne_eq,Zf,true_iff,false_iff,iff_true,iff_false] at *) <;> omega)
  refine jA ?_
  refine mB _ rfl (fun hc1 => ?_) (fun hc1 => ?_)
  ·try simp only [Zp,Zi,ZK,ZJ,ne_eq,Zn,Zm,ZB,ZA,ZI,not_or,not_and,Zu] at hc1
   refine fA ?_
   refine iA hX hb [0] rfl (σ' := ?s5) (fun K hK => ?h5) ?n5
   case h5 =>
    (refine kA rfl (by simp (disch := omega) only [gA,aA,qop,fop,St.ev,St.put,cd,zd,Value.oneCell',lA,TypeDesc.aggB,Z0,t1,ti1] <;> exact rfl) ?_)
    refine bA ?_
    exact hK
   refine jA ?_
   refine bC ?_
   refine oE ?_
   refine nC ?_
   exact tC rfl (sB rfl (by first | rfl | (first | (rw [wO,if_pos hc0]; rfl) | (rw [wO,if_neg (not_or.2 hc0),if_pos hc1]; rfl) | (rw [wO,if_neg (not_or.2 hc0),if_neg (not_or.2 hc1)]; rfl))))
  ·try simp only [Zp,Zi,ZK,ZJ,ne_eq,Zn,Zm,ZB,ZA,ZI,not_or,not_and,Zu] at hc1
   refine tB ?_
   refine dE ?_
   refine jA ?_
   refine fA ?_
   refine iA hX hb [0] rfl (σ' := ?s6) (fun K hK => ?h6) ?n6
   case h6 =>
    (refine kA rfl (by simp (disch := omega) only [gA,aA,qop,fop,St.ev,St.put,cd,zd,Value.oneCell',lA,TypeDesc.aggB,Z0] <;> exact rfl) ?_)
    refine bA ?_
    exact hK
   refine jA ?_
   refine bC ?_
   exact tC rfl (sB rfl (by first | rfl | (first | (rw [wO,if_pos hc0]; rfl) | (rw [wO,if_neg (not_or.2 hc0),if_pos hc1]; rfl) | (rw [wO,if_neg (not_or.2 hc0),if_neg (not_or.2 hc1)]; rfl))))
theorem c76 (s n : Nat) (hs : 1 ≤ s ∧ s ≤ 4294967296) (hn : 1 ≤ n ∧ n ≤ 4294967296) : ACalls Try.prog 76 [.p (i64 s),.p (i64 n)] (.p (i64 (yD s n))) := by
 refine oC jC Try.func76 (c := _) rfl (by kernel_rfl) ?_
 intro X hP hX hro hpl
 have hb : tb.Ok X.P := hP ▸ jC
 change AW X _ _ ⟨[],[.p (i64 s),.p (i64 n),.any,.any,.any,.any,.any,.any,.any,.any,.any],[],[]⟩
 refine fA ?_
 refine iA hX hb [0] rfl (σ' := ?s1) (fun K hK => ?h1) ?n1
 case h1 =>
  (refine kA rfl (by simp (disch := omega) only [gA,aA,qop,fop,St.ev,St.put,cd,zd,Value.oneCell',lA,TypeDesc.aggB,Z0,kD,ne_eq,not_true_eq_false,not_false_eq_true] <;> exact rfl) ?_)
  refine bA ?_
  exact hK
 refine jA ?_
 refine fA ?_
 refine iA hX hb [0,1,2,3,4,5,6] rfl (σ' := ?s2) (fun K hK => ?h2) ?n2
 case h2 =>
  iterate 7 (refine kA rfl (by simp (disch := omega) only [gA,aA,qop,fop,St.ev,St.put,cd,zd,Value.oneCell',lA,TypeDesc.aggB,Z0,yA,iop,tt,kD,ne_eq,not_true_eq_false,not_false_eq_true] <;> exact rfl) ?_)
  refine bA ?_
  exact hK
 refine jA ?_
 refine bC ?_
 exact tC rfl (sB rfl (by first | rfl | (rw [← oV,show ((s + n - 1 : Nat) : Int) = (s : Int) + n - 1 by omega]; rfl)))
end Go.Proofs.Ytldcoekbgfaomaa
end
section
namespace Go.Proofs.Ytldcoekbgfaomaa
open Go.RowKit
set_option maxRecDepth 20000
set_option maxHeartbeats 4000000
attribute [local irreducible] jE oD AW
theorem c40 (a b : List Int) : ACalls Try.prog 40 [.p (cH a),.p (cH b)] (.p (bv (decide (a = b)))) := by
 refine oC jC Try.func40 (c := _) rfl (by kernel_rfl) ?_
 intro X hP hX hro hpl
 have hb : tb.Ok X.P := hP ▸ jC
 change AW X _ _ ⟨[],[.p (cH a),.p (cH b),.any,.any,.any,.any,.any,.any,.any,.any,.any,.any,.any,.any,.any,.any,.any,.any,.any,.any,.any,.any,.any,.any,.any,.any],[],[]⟩
 refine aI (t := 0) rfl fun hl => ?_
 unfold maxLen at hl
 refine fA ?_
 refine iA hX hb [0] rfl (σ' := ?s1) (fun K hK => ?h1) ?n1
 case h1 =>
  (refine kA rfl (by simp (disch := omega) only [gA,aA,qop,fop,St.ev,St.put,cd,zd,Value.oneCell',lA,TypeDesc.aggB,Z0,rA,Zh] <;> exact rfl) ?_)
  refine bA ?_
  exact hK
 refine jA ?_
 refine fA ?_
 refine fA ?_
 refine iA hX hb [0,1,2,3,4] rfl (σ' := ?s2) (fun K hK => ?h2) ?n2
 case h2 =>
  iterate 5 (refine kA rfl (by simp (disch := omega) only [gA,aA,qop,fop,St.ev,St.put,cd,zd,Value.oneCell',lA,TypeDesc.aggB,Z0,mC,yA,iop,tt,rA,Zh] <;> exact rfl) ?_)
  refine bA ?_
  exact hK
 refine jA ?_
 refine mB _ rfl (fun hc0 => ?_) (fun hc0 => ?_)
 ·try simp only [Zp,Zi,ZK,ZJ,ne_eq,Zn,Zm,ZB,ZA,ZI,not_or,not_and,Zu] at hc0
  refine fA ?_
  refine iA hX hb [0] rfl (σ' := ?s3) (fun K hK => ?h3) ?n3
  case h3 =>
   (refine kA rfl (by simp (disch := omega) only [gA,aA,qop,fop,St.ev,St.put,cd,zd,Value.oneCell',lA,TypeDesc.aggB,Z0,rA,Zh] <;> exact rfl) ?_)
   refine bA ?_
   exact hK
  refine jA ?_
  refine bC ?_
  refine nC ?_
  exact tC rfl (sB rfl (by first | rfl | (first | (refine jf ?_; rintro rfl; exact hc2 rfl) | (refine jf ?_; rintro rfl; exact hc0 rfl) | exact jt (yC hc0 he (by omega)))))
 ·try simp only [Zp,Zi,ZK,ZJ,ne_eq,Zn,Zm,ZB,ZA,ZI,not_or,not_and,Zu] at hc0
  refine tB ?_
  refine jA ?_
  refine fA ?_
  refine fA ?_
  refine iA hX hb [0,1,2] rfl (σ' := ?s4) (fun K hK => ?h4) ?n4
  case h4 =>
   iterate 3 (refine kA rfl (by simp (disch := omega) only [gA,aA,qop,fop,St.ev,St.put,cd,zd,Value.oneCell',lA,TypeDesc.aggB,Z0,mC,tt,rA,Zh] <;> exact rfl) ?_)
   refine bA ?_
   exact hK
  refine jA ?_
  refine uB ?_
  refine vD (ι := Nat) (fun i => i ≤ a.length ∧ a.take i = b.take i) (fun i => ⟨[],[.p (cH a),.p (cH b),.any,.any,.any,.any,.any,.any,.any,.any,.any,.any,.p (i64 (a.length : Int)),.p (i64 i),.any,.any,.any,.any,.any,.any,.any,.any,.any,.any,.any,.any],[],[]⟩) (fun i => a.length - i) 0 (by exact ⟨Nat.zero_le _,rfl⟩) (sC ⟨rfl,(by repeat first | exact tA | refine qB ?_ | refine uA rfl ?_),(wB _),(xB _),rfl,rfl⟩) ?_
  rintro i ⟨hi,he⟩
  refine fA ?_
  refine iA hX hb [0] rfl (σ' := ?s5) (fun K hK => ?h5) ?n5
  case h5 =>
   (refine kA rfl (by simp (disch := omega) only [gA,aA,qop,fop,St.ev,St.put,cd,zd,Value.oneCell',lA,TypeDesc.aggB,Z0,yA,iop,t3,ti3,rA,Zh] <;> exact rfl) ?_)
   refine bA ?_
   exact hK
  refine jA ?_
  refine fA ?_
  refine mB _ rfl (fun hc1 => ?_) (fun hc1 => ?_)
  ·try simp only [Zp,Zi,ZK,ZJ,ne_eq,Zn,Zm,ZB,ZA,ZI,not_or,not_and,Zu] at hc1
   refine tB ?_
   refine jA ?_
   refine fA ?_
   refine uB ?_
   refine fA ?_
   refine iA hX hb [0,1] rfl (σ' := ?s6) (fun K hK => ?h6) ?n6
   case h6 =>
    iterate 2 (refine kA rfl (by simp (disch := omega) only [gA,aA,qop,fop,St.ev,St.put,cd,zd,Value.oneCell',lA,TypeDesc.aggB,Z0,rA,Zh] <;> exact rfl) ?_)
    refine bA ?_
    exact hK
   refine jA ?_
   refine fA ?_
   refine bF hX hb (gD hP) [(0,true),(1,true),(2,true),(3,true),(4,true),(5,true),(6,true),(7,true),(8,true)] (by kernel_rfl) (σ' := ?s7) (fun K hK => ?h7) ?n7
   case h7 =>
    iterate 9 (refine xE rfl (by simp (disch := omega) only [qop,fop,St.ev,St.put,cd,zd,Value.oneCell',lA,TypeDesc.aggB,Z0,Int.toNat_zero,Int.toNat_one,wA,xA,vA,ZO,Nat.mul_one,ZC,Nat.zero_mul,Zh,Z1,oA,pA,qA,eA,D.pure?,ZD,yA,iop,tt,rA] <;> exact rfl) (by simp only [St.put,Za,Zb] <;> exact rfl) ?_)
    refine qC ?_
    exact hK
   refine jA ?_
   refine mB _ rfl (fun hc2 => ?_) (fun hc2 => ?_)
   ·try simp only [Zp,Zi,ZK,ZJ,ne_eq,Zn,Zm,ZB,ZA,ZI,not_or,not_and,Zu] at hc2
    refine fA ?_
    refine iA hX hb [0] rfl (σ' := ?s8) (fun K hK => ?h8) ?n8
    case h8 =>
     (refine kA rfl (by simp (disch := omega) only [gA,aA,qop,fop,St.ev,St.put,cd,zd,Value.oneCell',lA,TypeDesc.aggB,Z0,rA,Zh] <;> exact rfl) ?_)
     refine bA ?_
     exact hK
    refine jA ?_
    refine bC ?_
    refine oE ?_
    refine nC ?_
    refine nC ?_
    refine oE ?_
    refine nC ?_
    exact tC rfl (sB rfl (by first | rfl | (first | (refine jf ?_; rintro rfl; exact hc2 rfl) | (refine jf ?_; rintro rfl; exact hc0 rfl) | exact jt (yC hc0 he (by omega)))))
   ·try simp only [Zp,Zi,ZK,ZJ,ne_eq,Zn,Zm,ZB,ZA,ZI,not_or,not_and,Zu] at hc2
    refine tB ?_
    refine dE ?_
    refine jA ?_
    refine iA hX hb [0,1] rfl (σ' := ?s9) (fun K hK => ?h9) ?n9
    case h9 =>
     iterate 2 (refine kA rfl (by simp (disch := omega) only [gA,aA,qop,fop,St.ev,St.put,cd,zd,Value.oneCell',lA,TypeDesc.aggB,Z0,yA,iop,tt,rA,Zh] <;> exact rfl) ?_)
     refine bA ?_
     exact hK
    refine jA ?_
    exact ⟨i + 1,by exact ⟨by omega,by rw [iE a i (by omega),iE b i (by omega),he,hc2]⟩,by (try dsimp only); omega,sC ⟨rfl,(by repeat first | exact tA | refine qB ?_ | refine uA rfl ?_),(wB _),(xB _),rfl,rfl⟩⟩
  ·try simp only [Zp,Zi,ZK,ZJ,ne_eq,Zn,Zm,ZB,ZA,ZI,not_or,not_and,Zu] at hc1
   refine sD ?_
   refine fD ?_
   refine fD ?_
   refine dF ?_
   refine jA ?_
   refine fA ?_
   refine iA hX hb [0] rfl (σ' := ?s10) (fun K hK => ?h10) ?n10
   case h10 =>
    (refine kA rfl (by simp (disch := omega) only [gA,aA,qop,fop,St.ev,St.put,cd,zd,Value.oneCell',lA,TypeDesc.aggB,Z0,rA,Zh] <;> exact rfl) ?_)
    refine bA ?_
    exact hK
   refine jA ?_
   refine bC ?_
   exact tC rfl (sB rfl (by first | rfl | (first | (refine jf ?_; rintro rfl; exact hc2 rfl) | (refine jf ?_; rintro rfl; exact hc0 rfl) | exact jt (yC hc0 he (by omega)))))
theorem c81 (a b : List Int) : ACalls Try.prog 81 [.p (gG a),.p (gG b)] (.p (bv (decide (a = b)))) := by
 refine oC jC Try.func81 (c := _) rfl (by kernel_rfl) ?_
 intro X hP hX hro hpl
 have hb : tb.Ok X.P := hP ▸ jC
 change AW X _ _ ⟨[],[.p (gG a),.p (gG b),.any,.any,.any,.any,.any,.any,.any,.any,.any,.any,.any,.any,.any,.any,.any,.any,.any,.any,.any,.any,.any,.any,.any,.any],[],[]⟩
 refine aI (t := 0) rfl fun hl => ?_
 unfold maxLen at hl
 refine fA ?_
 refine iA hX hb [0] rfl (σ' := ?s1) (fun K hK => ?h1) ?n1
 case h1 =>
  (refine kA rfl (by simp (disch := omega) only [gA,aA,qop,fop,St.ev,St.put,cd,zd,Value.oneCell',lA,TypeDesc.aggB,Z0,rA,Zh] <;> exact rfl) ?_)
  refine bA ?_
  exact hK
 refine jA ?_
 refine fA ?_
 refine fA ?_
 refine iA hX hb [0,1,2,3,4] rfl (σ' := ?s2) (fun K hK => ?h2) ?n2
 case h2 =>
  iterate 5 (refine kA rfl (by simp (disch := omega) only [gA,aA,qop,fop,St.ev,St.put,cd,zd,Value.oneCell',lA,TypeDesc.aggB,Z0,mC,yA,iop,tt,rA,Zh] <;> exact rfl) ?_)
  refine bA ?_
  exact hK
 refine jA ?_
 refine mB _ rfl (fun hc0 => ?_) (fun hc0 => ?_)
 ·try simp only [Zp,Zi,ZK,ZJ,ne_eq,Zn,Zm,ZB,ZA,ZI,not_or,not_and,Zu] at hc0
  refine fA ?_
  refine iA hX hb [0] rfl (σ' := ?s3) (fun K hK => ?h3) ?n3
  case h3 =>
   (refine kA rfl (by simp (disch := omega) only [gA,aA,qop,fop,St.ev,St.put,cd,zd,Value.oneCell',lA,TypeDesc.aggB,Z0,rA,Zh] <;> exact rfl) ?_)
   refine bA ?_
   exact hK
  refine jA ?_
  refine bC ?_
  refine nC ?_
  exact tC rfl (sB rfl (by first | rfl | (first | (refine jf ?_; rintro rfl; exact hc2 rfl) | (refine jf ?_; rintro rfl; exact hc0 rfl) | exact jt (yC hc0 he (by omega)))))
 ·try simp only [Zp,Zi,ZK,ZJ,ne_eq,Zn,Zm,ZB,ZA,ZI,not_or,not_and,Zu] at hc0
  refine tB ?_
  refine jA ?_
  refine fA ?_
  refine fA ?_
  refine iA hX hb [0,1,2] rfl (σ' := ?s4) (fun K hK => ?h4) ?n4
  case h4 =>
   iterate 3 (refine kA rfl (by simp (disch := omega) only [gA,aA,qop,fop,St.ev,St.put,cd,zd,Value.oneCell',lA,TypeDesc.aggB,Z0,mC,tt,rA,Zh] <;> exact rfl) ?_)
   refine bA ?_
   exact hK
  refine jA ?_
  refine uB ?_
  refine vD (ι := Nat) (fun i => i ≤ a.length ∧ a.take i = b.take i) (fun i => ⟨[],[.p (gG a),.p (gG b),.any,.any,.any,.any,.any,.any,.any,.any,.any,.any,.p (i64 (a.length : Int)),.p (i64 i),.any,.any,.any,.any,.any,.any,.any,.any,.any,.any,.any,.any],[],[]⟩) (fun i => a.length - i) 0 (by exact ⟨Nat.zero_le _,rfl⟩) (sC ⟨rfl,(by repeat first | exact tA | refine qB ?_ | refine uA rfl ?_),(wB _),(xB _),rfl,rfl⟩) ?_
  rintro i ⟨hi,he⟩
  refine fA ?_
  refine iA hX hb [0] rfl (σ' := ?s5) (fun K hK => ?h5) ?n5
  case h5 =>
   (refine kA rfl (by simp (disch := omega) only [gA,aA,qop,fop,St.ev,St.put,cd,zd,Value.oneCell',lA,TypeDesc.aggB,Z0,yA,iop,t3,ti3,rA,Zh] <;> exact rfl) ?_)
   refine bA ?_
   exact hK
  refine jA ?_
  refine fA ?_
  refine mB _ rfl (fun hc1 => ?_) (fun hc1 => ?_)
  ·try simp only [Zp,Zi,ZK,ZJ,ne_eq,Zn,Zm,ZB,ZA,ZI,not_or,not_and,Zu] at hc1
   refine tB ?_
   refine jA ?_
   refine fA ?_
   refine uB ?_
   refine fA ?_
   refine iA hX hb [0,1] rfl (σ' := ?s6) (fun K hK => ?h6) ?n6
   case h6 =>
    iterate 2 (refine kA rfl (by simp (disch := omega) only [gA,aA,qop,fop,St.ev,St.put,cd,zd,Value.oneCell',lA,TypeDesc.aggB,Z0,rA,Zh] <;> exact rfl) ?_)
    refine bA ?_
    exact hK
   refine jA ?_
   refine fA ?_
   refine bF hX hb (gD hP) [(0,true),(1,true),(2,true),(3,true),(4,true),(5,true),(6,true),(7,true),(8,true)] (by kernel_rfl) (σ' := ?s7) (fun K hK => ?h7) ?n7
   case h7 =>
    iterate 9 (refine xE rfl (by simp (disch := omega) only [qop,fop,St.ev,St.put,cd,zd,Value.oneCell',lA,TypeDesc.aggB,Z0,Int.toNat_zero,Int.toNat_one,wA,xA,vA,ZO,Nat.mul_one,ZC,Nat.zero_mul,Zh,Z1,oA,pA,qA,eA,D.pure?,ZD,yA,iop,tt,rA] <;> exact rfl) (by simp only [St.put,Za,Zb] <;> exact rfl) ?_)
    refine qC ?_
    exact hK
   refine jA ?_
   refine mB _ rfl (fun hc2 => ?_) (fun hc2 => ?_)
   ·try simp only [Zp,Zi,ZK,ZJ,ne_eq,Zn,Zm,ZB,ZA,ZI,not_or,not_and,Zu] at hc2
    refine fA ?_
    refine iA hX hb [0] rfl (σ' := ?s8) (fun K hK => ?h8) ?n8
    case h8 =>
     (refine kA rfl (by simp (disch := omega) only [gA,aA,qop,fop,St.ev,St.put,cd,zd,Value.oneCell',lA,TypeDesc.aggB,Z0,rA,Zh] <;> exact rfl) ?_)
     refine bA ?_
     exact hK
    refine jA ?_
    refine bC ?_
    refine oE ?_
    refine nC ?_
    refine nC ?_
    refine oE ?_
    refine nC ?_
    exact tC rfl (sB rfl (by first | rfl | (first | (refine jf ?_; rintro rfl; exact hc2 rfl) | (refine jf ?_; rintro rfl; exact hc0 rfl) | exact jt (yC hc0 he (by omega)))))
   ·try simp only [Zp,Zi,ZK,ZJ,ne_eq,Zn,Zm,ZB,ZA,ZI,not_or,not_and,Zu] at hc2
    refine tB ?_
    refine dE ?_
    refine jA ?_
    refine iA hX hb [0,1] rfl (σ' := ?s9) (fun K hK => ?h9) ?n9
    case h9 =>
     iterate 2 (refine kA rfl (by simp (disch := omega) only [gA,aA,qop,fop,St.ev,St.put,cd,zd,Value.oneCell',lA,TypeDesc.aggB,Z0,yA,iop,tt,rA,Zh] <;> exact rfl) ?_)
     refine bA ?_
     exact hK
    refine jA ?_
    exact ⟨i + 1,by exact ⟨by omega,by rw [iE a i (by omega),iE b i (by omega),he,hc2]⟩,by (try dsimp only); omega,sC ⟨rfl,(by repeat first | exact tA | refine qB ?_ | refine uA rfl ?_),(wB _),(xB _),rfl,rfl⟩⟩
  ·try simp only [Zp,Zi,ZK,ZJ,ne_eq,Zn,Zm,ZB,ZA,ZI,not_or,not_and,Zu] at hc1
   refine sD ?_
   refine fD ?_
   refine fD ?_
   refine dF ?_
   refine jA ?_
   refine fA ?_
   refine iA hX hb [0] rfl (σ' := ?s10) (fun K hK => ?h10) ?n10
   case h10 =>
    (refine kA rfl (by simp (disch := omega) only [gA,aA,qop,fop,St.ev,St.put,cd,zd,Value.oneCell',lA,TypeDesc.aggB,Z0,rA,Zh] <;> exact rfl) ?_)
    refine bA ?_
    exact hK
   refine jA ?_
   refine bC ?_
   exact tC rfl (sB rfl (by first | rfl | (first | (refine jf ?_; rintro rfl; exact hc2 rfl) | (refine jf ?_; rintro rfl; exact hc0 rfl) | exact jt (yC hc0 he (by omega)))))
theorem yMA (a b : List Int) : ACalls Try.prog 115 [.p (bytes a),.p (bytes b)] (.p (bv (decide (a = b)))) := by
 refine oC jC Try.func115 (c := _) rfl (by kernel_rfl) ?_
 intro X hP hX hro hpl
 have hb : tb.Ok X.P := hP ▸ jC
 change AW X _ _ ⟨[],[.p (bytes a),.p (bytes b),.any,.any,.any,.any,.any,.any,.any,.any,.any,.any,.any,.any,.any,.any,.any,.any,.any,.any,.any,.any,.any,.any,.any,.any],[],[]⟩
 refine aI (t := 0) rfl fun hl => ?_
 unfold maxLen at hl
 refine fA ?_
 refine iA hX hb [0] rfl (σ' := ?s1) (fun K hK => ?h1) ?n1
 case h1 =>
  (refine kA rfl (by simp (disch := omega) only [gA,aA,qop,fop,St.ev,St.put,cd,zd,Value.oneCell',lA,TypeDesc.aggB,Z0,rA,Zh] <;> exact rfl) ?_)
  refine bA ?_
  exact hK
 refine jA ?_
 refine fA ?_
 refine fA ?_
 refine iA hX hb [0,1,2,3,4] rfl (σ' := ?s2) (fun K hK => ?h2) ?n2
 case h2 =>
  iterate 5 (refine kA rfl (by simp (disch := omega) only [gA,aA,qop,fop,St.ev,St.put,cd,zd,Value.oneCell',lA,TypeDesc.aggB,Z0,mC,yA,iop,tt,rA,Zh] <;> exact rfl) ?_)
  refine bA ?_
  exact hK
 refine jA ?_
 refine mB _ rfl (fun hc0 => ?_) (fun hc0 => ?_)
 ·try simp only [Zp,Zi,ZK,ZJ,ne_eq,Zn,Zm,ZB,ZA,ZI,not_or,not_and,Zu] at hc0
  refine fA ?_
  refine iA hX hb [0] rfl (σ' := ?s3) (fun K hK => ?h3) ?n3
  case h3 =>
   (refine kA rfl (by simp (disch := omega) only [gA,aA,qop,fop,St.ev,St.put,cd,zd,Value.oneCell',lA,TypeDesc.aggB,Z0,rA,Zh] <;> exact rfl) ?_)
   refine bA ?_
   exact hK
  refine jA ?_
  refine bC ?_
  refine nC ?_
  exact tC rfl (sB rfl (by first | rfl | (first | (refine jf ?_; rintro rfl; exact hc2 rfl) | (refine jf ?_; rintro rfl; exact hc0 rfl) | exact jt (yC hc0 he (by omega)))))
 ·try simp only [Zp,Zi,ZK,ZJ,ne_eq,Zn,Zm,ZB,ZA,ZI,not_or,not_and,Zu] at hc0
  refine tB ?_
  refine jA ?_
  refine fA ?_
  refine fA ?_
  refine iA hX hb [0,1,2] rfl (σ' := ?s4) (fun K hK => ?h4) ?n4
  case h4 =>
   iterate 3 (refine kA rfl (by simp (disch := omega) only [gA,aA,qop,fop,St.ev,St.put,cd,zd,Value.oneCell',lA,TypeDesc.aggB,Z0,mC,tt,rA,Zh] <;> exact rfl) ?_)
   refine bA ?_
   exact hK
  refine jA ?_
  refine uB ?_
  refine vD (ι := Nat) (fun i => i ≤ a.length ∧ a.take i = b.take i) (fun i => ⟨[],[.p (bytes a),.p (bytes b),.any,.any,.any,.any,.any,.any,.any,.any,.any,.any,.p (i64 (a.length : Int)),.p (i64 i),.any,.any,.any,.any,.any,.any,.any,.any,.any,.any,.any,.any],[],[]⟩) (fun i => a.length - i) 0 (by exact ⟨Nat.zero_le _,rfl⟩) (sC ⟨rfl,(by repeat first | exact tA | refine qB ?_ | refine uA rfl ?_),(wB _),(xB _),rfl,rfl⟩) ?_
  rintro i ⟨hi,he⟩
  refine fA ?_
  refine iA hX hb [0] rfl (σ' := ?s5) (fun K hK => ?h5) ?n5
  case h5 =>
   (refine kA rfl (by simp (disch := omega) only [gA,aA,qop,fop,St.ev,St.put,cd,zd,Value.oneCell',lA,TypeDesc.aggB,Z0,yA,iop,t3,ti3,rA,Zh] <;> exact rfl) ?_)
   refine bA ?_
   exact hK
  refine jA ?_
  refine fA ?_
  refine mB _ rfl (fun hc1 => ?_) (fun hc1 => ?_)
  ·try simp only [Zp,Zi,ZK,ZJ,ne_eq,Zn,Zm,ZB,ZA,ZI,not_or,not_and,Zu] at hc1
   refine tB ?_
   refine jA ?_
   refine fA ?_
   refine uB ?_
   refine fA ?_
   refine iA hX hb [0,1] rfl (σ' := ?s6) (fun K hK => ?h6) ?n6
   case h6 =>
    iterate 2 (refine kA rfl (by simp (disch := omega) only [gA,aA,qop,fop,St.ev,St.put,cd,zd,Value.oneCell',lA,TypeDesc.aggB,Z0,rA,Zh] <;> exact rfl) ?_)
    refine bA ?_
    exact hK
   refine jA ?_
   refine fA ?_
   refine bF hX hb (gD hP) [(0,true),(1,true),(2,true),(3,true),(4,true),(5,true),(6,true),(7,true),(8,true)] (by kernel_rfl) (σ' := ?s7) (fun K hK => ?h7) ?n7
   case h7 =>
    iterate 9 (refine xE rfl (by simp (disch := omega) only [qop,fop,St.ev,St.put,cd,zd,Value.oneCell',lA,TypeDesc.aggB,Z0,Int.toNat_zero,Int.toNat_one,wA,xA,vA,ZO,Nat.mul_one,ZC,Nat.zero_mul,Zh,Z1,oA,pA,qA,eA,D.pure?,ZD,yA,iop,tt,rA] <;> exact rfl) (by simp only [St.put,Za,Zb] <;> exact rfl) ?_)
    refine qC ?_
    exact hK
   refine jA ?_
   refine mB _ rfl (fun hc2 => ?_) (fun hc2 => ?_)
   ·try simp only [Zp,Zi,ZK,ZJ,ne_eq,Zn,Zm,ZB,ZA,ZI,not_or,not_and,Zu] at hc2
    refine fA ?_
    refine iA hX hb [0] rfl (σ' := ?s8) (fun K hK => ?h8) ?n8
    case h8 =>
     (refine kA rfl (by simp (disch := omega) only [gA,aA,qop,fop,St.ev,St.put,cd,zd,Value.oneCell',lA,TypeDesc.aggB,Z0,rA,Zh] <;> exact rfl) ?_)
     refine bA ?_
     exact hK
    refine jA ?_
    refine bC ?_
    refine oE ?_
    refine nC ?_
    refine nC ?_
    refine oE ?_
    refine nC ?_
    exact tC rfl (sB rfl (by first | rfl | (first | (refine jf ?_; rintro rfl; exact hc2 rfl) | (refine jf ?_; rintro rfl; exact hc0 rfl) | exact jt (yC hc0 he (by omega)))))
   ·try simp only [Zp,Zi,ZK,ZJ,ne_eq,Zn,Zm,ZB,ZA,ZI,not_or,not_and,Zu] at hc2
    refine tB ?_
    refine dE ?_
    refine jA ?_
    refine iA hX hb [0,1] rfl (σ' := ?s9) (fun K hK => ?h9) ?n9
    case h9 =>
     iterate 2 (refine kA rfl (by simp (disch := omega) only [gA,aA,qop,fop,St.ev,St.put,cd,zd,Value.oneCell',lA,TypeDesc.aggB,Z0,yA,iop,tt,rA,Zh] <;> exact rfl) ?_)
     refine bA ?_
     exact hK
    refine jA ?_
    exact ⟨i + 1,by exact ⟨by omega,by rw [iE a i (by omega),iE b i (by omega),he,hc2]⟩,by (try dsimp only); omega,sC ⟨rfl,(by repeat first | exact tA | refine qB ?_ | refine uA rfl ?_),(wB _),(xB _),rfl,rfl⟩⟩
  ·try simp only [Zp,Zi,ZK,ZJ,ne_eq,Zn,Zm,ZB,ZA,ZI,not_or,not_and,Zu] at hc1
   refine sD ?_
   refine fD ?_
   refine fD ?_
   refine dF ?_
   refine jA ?_
   refine fA ?_
   refine iA hX hb [0] rfl (σ' := ?s10) (fun K hK => ?h10) ?n10
   case h10 =>
    (refine kA rfl (by simp (disch := omega) only [gA,aA,qop,fop,St.ev,St.put,cd,zd,Value.oneCell',lA,TypeDesc.aggB,Z0,rA,Zh] <;> exact rfl) ?_)
    refine bA ?_
    exact hK
   refine jA ?_
   refine bC ?_
   exact tC rfl (sB rfl (by first | rfl | (first | (refine jf ?_; rintro rfl; exact hc2 rfl) | (refine jf ?_; rintro rfl; exact hc0 rfl) | exact jt (yC hc0 he (by omega)))))
end Go.Proofs.Ytldcoekbgfaomaa
end
section
namespace Go.Proofs.Ytldcoekbgfaomaa
open Go.RowKit
set_option maxRecDepth 20000
set_option maxHeartbeats 4000000
attribute [local irreducible] jE oD AW
theorem pC (x y : Int) : IntCells .i64 2 [i64 x,i64 y] = True := eq_true ⟨rfl,by intro z hz; simp at hz; rcases hz with rfl | rfl <;> exact ⟨_,rfl⟩⟩
theorem qQ {e e' : Int × Int} : ([i64 e.1,i64 e.2] : List P1) = [i64 e'.1,i64 e'.2] ↔ e = e' := by
 constructor
 ·intro h
  simp only [List.cons.injEq,P1.v.injEq,Value.int.injEq,Zs,Zt] at h
  exact Prod.ext h.1 h.2
 ·rintro rfl; rfl
theorem c29 (a b : List (Int × Int)) : ACalls Try.prog 29 [.p (uC a),.p (uC b)] (.p (bv (decide (a = b)))) := by
 refine oC jC Try.func29 (c := _) rfl (by kernel_rfl) ?_
 intro X hP hX hro hpl
 have hb : tb.Ok X.P := hP ▸ jC
 change AW X _ _ ⟨[],[.p (uC a),.p (uC b),.any,.any,.any,.any,.any,.any,.any,.any,.any,.any,.any,.any,.any,.any,.any,.any,.any,.any,.any,.any,.any,.any,.any,.any],[],[]⟩
 refine aI (t := 0) rfl fun hl => ?_
 unfold maxLen at hl
 refine fA ?_
 refine iA hX hb [0] rfl (σ' := ?s1) (fun K hK => ?h1) ?n1
 case h1 =>
  (refine kA rfl (by simp (disch := omega) only [gA,aA,qop,fop,St.ev,St.put,cd,zd,Value.oneCell',lA,TypeDesc.aggB,Z0,dD,kF,e35,pC,and_self] <;> exact rfl) ?_)
  refine bA ?_
  exact hK
 refine jA ?_
 refine fA ?_
 refine fA ?_
 refine iA hX hb [0,1,2,3,4] rfl (σ' := ?s2) (fun K hK => ?h2) ?n2
 case h2 =>
  iterate 5 (refine kA rfl (by simp (disch := omega) only [gA,aA,qop,fop,St.ev,St.put,cd,zd,Value.oneCell',lA,TypeDesc.aggB,Z0,mC,yA,iop,tt,dD,kF,e35,pC,and_self] <;> exact rfl) ?_)
  refine bA ?_
  exact hK
 refine jA ?_
 refine mB _ rfl (fun hc0 => ?_) (fun hc0 => ?_)
 ·try simp only [Zp,Zi,ZK,ZJ,ne_eq,Zn,Zm,ZB,ZA,ZI,not_or,not_and,Zu] at hc0
  refine fA ?_
  refine iA hX hb [0] rfl (σ' := ?s3) (fun K hK => ?h3) ?n3
  case h3 =>
   (refine kA rfl (by simp (disch := omega) only [gA,aA,qop,fop,St.ev,St.put,cd,zd,Value.oneCell',lA,TypeDesc.aggB,Z0,dD,kF,e35,pC,and_self] <;> exact rfl) ?_)
   refine bA ?_
   exact hK
  refine jA ?_
  refine bC ?_
  refine nC ?_
  exact tC rfl (sB rfl (by first | rfl | (first | (refine jf ?_; rintro rfl; exact hc2 rfl) | (refine jf ?_; rintro rfl; exact hc0 rfl) | exact jt (yC hc0 he (by omega)))))
 ·try simp only [Zp,Zi,ZK,ZJ,ne_eq,Zn,Zm,ZB,ZA,ZI,not_or,not_and,Zu] at hc0
  refine tB ?_
  refine jA ?_
  refine fA ?_
  refine fA ?_
  refine iA hX hb [0,1,2] rfl (σ' := ?s4) (fun K hK => ?h4) ?n4
  case h4 =>
   iterate 3 (refine kA rfl (by simp (disch := omega) only [gA,aA,qop,fop,St.ev,St.put,cd,zd,Value.oneCell',lA,TypeDesc.aggB,Z0,mC,tt,dD,kF,e35,pC,and_self] <;> exact rfl) ?_)
   refine bA ?_
   exact hK
  refine jA ?_
  refine uB ?_
  refine vD (ι := Nat) (fun i => i ≤ a.length ∧ a.take i = b.take i) (fun i => ⟨[],[.p (uC a),.p (uC b),.any,.any,.any,.any,.any,.any,.any,.any,.any,.any,.p (i64 (a.length : Int)),.p (i64 i),.any,.any,.any,.any,.any,.any,.any,.any,.any,.any,.any,.any],[],[]⟩) (fun i => a.length - i) 0 (by exact ⟨Nat.zero_le _,rfl⟩) (sC ⟨rfl,(by repeat first | exact tA | refine qB ?_ | refine uA rfl ?_),(wB _),(xB _),rfl,rfl⟩) ?_
  rintro i ⟨hi,he⟩
  refine fA ?_
  refine iA hX hb [0] rfl (σ' := ?s5) (fun K hK => ?h5) ?n5
  case h5 =>
   (refine kA rfl (by simp (disch := omega) only [gA,aA,qop,fop,St.ev,St.put,cd,zd,Value.oneCell',lA,TypeDesc.aggB,Z0,yA,iop,t3,ti3,dD,kF,e35,pC,and_self] <;> exact rfl) ?_)
   refine bA ?_
   exact hK
  refine jA ?_
  refine fA ?_
  refine mB _ rfl (fun hc1 => ?_) (fun hc1 => ?_)
  ·try simp only [Zp,Zi,ZK,ZJ,ne_eq,Zn,Zm,ZB,ZA,ZI,not_or,not_and,Zu] at hc1
   refine tB ?_
   refine jA ?_
   refine fA ?_
   refine uB ?_
   refine fA ?_
   refine iA hX hb [0,1] rfl (σ' := ?s6) (fun K hK => ?h6) ?n6
   case h6 =>
    iterate 2 (refine kA rfl (by simp (disch := omega) only [gA,aA,qop,fop,St.ev,St.put,cd,zd,Value.oneCell',lA,TypeDesc.aggB,Z0,dD,kF,e35,pC,and_self] <;> exact rfl) ?_)
    refine bA ?_
    exact hK
   refine jA ?_
   refine fA ?_
   refine bF hX hb (gD hP) [(0,true),(1,true),(2,true),(3,true),(4,true),(5,true),(6,true),(7,true),(8,true)] (by kernel_rfl) (σ' := ?s7) (fun K hK => ?h7) ?n7
   case h7 =>
    iterate 9 (refine xE rfl (by simp (disch := omega) only [qop,fop,St.ev,St.put,cd,zd,Value.oneCell',lA,TypeDesc.aggB,Z0,Int.toNat_zero,Int.toNat_one,wA,xA,vA,ZO,Nat.mul_one,ZC,Nat.zero_mul,Zh,Z1,oA,pA,qA,eA,D.pure?,ZD,yA,iop,tt,dD,kF,e35,pC,and_self] <;> exact rfl) (by simp only [St.put,Za,Zb] <;> exact rfl) ?_)
    refine qC ?_
    exact hK
   refine jA ?_
   refine mB _ rfl (fun hc2 => ?_) (fun hc2 => ?_)
   ·try simp only [Zp,Zi,ZK,ZJ,ne_eq,Zn,Zm,ZB,ZA,ZI,not_or,not_and,Zu,qQ] at hc2
    refine fA ?_
    refine iA hX hb [0] rfl (σ' := ?s8) (fun K hK => ?h8) ?n8
    case h8 =>
     (refine kA rfl (by simp (disch := omega) only [gA,aA,qop,fop,St.ev,St.put,cd,zd,Value.oneCell',lA,TypeDesc.aggB,Z0,dD,kF,e35,pC,and_self] <;> exact rfl) ?_)
     refine bA ?_
     exact hK
    refine jA ?_
    refine bC ?_
    refine oE ?_
    refine nC ?_
    refine nC ?_
    refine oE ?_
    refine nC ?_
    exact tC rfl (sB rfl (by first | rfl | (first | (refine jf ?_; rintro rfl; exact hc2 rfl) | (refine jf ?_; rintro rfl; exact hc0 rfl) | exact jt (yC hc0 he (by omega)))))
   ·try simp only [Zp,Zi,ZK,ZJ,ne_eq,Zn,Zm,ZB,ZA,ZI,not_or,not_and,Zu,qQ] at hc2
    refine tB ?_
    refine dE ?_
    refine jA ?_
    refine iA hX hb [0,1] rfl (σ' := ?s9) (fun K hK => ?h9) ?n9
    case h9 =>
     iterate 2 (refine kA rfl (by simp (disch := omega) only [gA,aA,qop,fop,St.ev,St.put,cd,zd,Value.oneCell',lA,TypeDesc.aggB,Z0,yA,iop,tt,dD,kF,e35,pC,and_self] <;> exact rfl) ?_)
     refine bA ?_
     exact hK
    refine jA ?_
    exact ⟨i + 1,by exact ⟨by omega,by rw [uE a i (by omega),uE b i (by omega),he,hc2]⟩,by (try dsimp only); omega,sC ⟨rfl,(by repeat first | exact tA | refine qB ?_ | refine uA rfl ?_),(wB _),(xB _),rfl,rfl⟩⟩
  ·try simp only [Zp,Zi,ZK,ZJ,ne_eq,Zn,Zm,ZB,ZA,ZI,not_or,not_and,Zu] at hc1
   refine sD ?_
   refine fD ?_
   refine fD ?_
   refine dF ?_
   refine jA ?_
   refine fA ?_
   refine iA hX hb [0] rfl (σ' := ?s10) (fun K hK => ?h10) ?n10
   case h10 =>
    (refine kA rfl (by simp (disch := omega) only [gA,aA,qop,fop,St.ev,St.put,cd,zd,Value.oneCell',lA,TypeDesc.aggB,Z0,dD,kF,e35,pC,and_self] <;> exact rfl) ?_)
    refine bA ?_
    exact hK
   refine jA ?_
   refine bC ?_
   exact tC rfl (sB rfl (by first | rfl | (first | (refine jf ?_; rintro rfl; exact hc2 rfl) | (refine jf ?_; rintro rfl; exact hc0 rfl) | exact jt (yC hc0 he (by omega)))))
end Go.Proofs.Ytldcoekbgfaomaa
end
section
namespace Go.Proofs.Ytldcoekbgfaomaa
open Go.RowKit
set_option maxRecDepth 20000
set_option maxHeartbeats 4000000
attribute [local irreducible] jE oD AW
theorem zMA (h79 : ∀ a b : Int,ACalls Try.prog 79 [.p (u64 a),.p (u64 b)] (.p (u64 (lG a b)))) (l : List Int) (hl : l.length ≤ 4294967296) : ACallsO Try.prog 106 [.p (cH l),.p (.v (.func (.func 79) #[] #[]))] ⟨58,1,(upL l).length,(upL l).map u64⟩ := by
 refine tI Try.func106 (c := _) rfl (by kernel_rfl) (t := 4) rfl ?_
 intro X hP hX hro hpl
 have hb : tb.Ok X.P := hP ▸ jC
 change AW X _ _ ⟨[],[.p (cH l),.p (.v (.func (.func 79) #[] #[])),.any,.any,.any,.any,.any,.any,.any,.any,.any,.any,.any,.any,.any,.any,.any,.any,.any,.any,.any,.any,.any,.any,.any,.any,.any,.any,.any,.any,.any,.any,.any,.any,.any,.any,.any,.any,.any,.any],[],[]⟩
 refine fA ?_
 refine iA hX hb [0] rfl (σ' := ?s1) (fun K hK => ?h1) ?n1
 case h1 =>
  (refine kA rfl (by simp (disch := omega) only [gA,aA,qop,fop,St.ev,St.put,cd,zd,Value.oneCell',lA,TypeDesc.aggB,Z0,rA,Zh] <;> exact rfl) ?_)
  refine bA ?_
  exact hK
 refine jA ?_
 refine fA ?_
 refine iA hX hb [0] rfl (σ' := ?s2) (fun K hK => ?h2) ?n2
 case h2 =>
  (refine kA rfl (by simp (disch := omega) only [gA,aA,qop,fop,St.ev,St.put,cd,zd,Value.oneCell',lA,TypeDesc.aggB,Z0,rA,Zh] <;> exact rfl) ?_)
  refine bA ?_
  exact hK
 refine jA ?_
 refine pK 5 58 1 rfl (σ' := ?s3) ?h3 ?n3
 case h3 => simp only [St.nilSlot,St.addVec,Za,Zb,Zl,Zo,ZL,ZM]; exact rfl
 refine fA ?_
 refine fA ?_
 refine iA hX hb [0] rfl (σ' := ?s4) (fun K hK => ?h4) ?n4
 case h4 =>
  (refine kA rfl (by simp (disch := omega) only [gA,aA,qop,fop,St.ev,St.put,cd,zd,Value.oneCell',lA,TypeDesc.aggB,Z0,rA,Zh] <;> exact rfl) ?_)
  refine bA ?_
  exact hK
 refine jA ?_
 refine uB ?_
 refine vD (ι := Nat × List Int) (fun p => p.1 % 2 = 0 ∧ p.1 ≤ l.length + 1 ∧ p.2 = upL (l.take p.1)) (fun p => ⟨[],[.p (cH l),.p (.v (.func (.func 79) #[] #[])),.any,.any,.any,.vref 0,.p (i64 p.1),.any,.any,.any,.any,.any,.any,.any,.any,.any,.any,.any,.any,.any,.any,.any,.any,.any,.any,.any,.any,.any,.any,.any,.any,.any,.any,.any,.any,.any,.any,.any,.any,.any],[],[some ⟨58,1,p.2.length,p.2.map u64⟩]⟩) (fun p => l.length + 1 - p.1) (0,[]) (by exact ⟨rfl,Nat.zero_le _,rfl⟩) (sC ⟨rfl,(by repeat first | exact tA | refine qB ?_ | refine uA (by first | rfl | ((first | rw [tG l i h2 (by omega),← ho] | rw [uG l i h2 (by omega) (by omega),← ho]) <;> simp)) ?_),(wB _),(zE (by first | rfl | ((first | rw [tG l i h2 (by omega),← ho] | rw [uG l i h2 (by omega) (by omega),← ho]) <;> simp)) (xB _)),rfl,rfl⟩) ?_
 rintro ⟨i,o⟩ ⟨h2,hi,ho⟩
 dsimp only at h2 hi ho ⊢
 have hol : o.length ≤ l.length := by rw [ho,rF,List.length_take]; omega
 have ei : ((i : Int) + 1).toNat = i + 1 := by omega
 refine fA ?_
 refine fA ?_
 refine iA hX hb [0,1,2,3] rfl (σ' := ?s5) (fun K hK => ?h5) ?n5
 case h5 =>
  iterate 4 (refine kA rfl (by simp (disch := omega) only [gA,aA,qop,fop,St.ev,St.put,cd,zd,Value.oneCell',lA,TypeDesc.aggB,Z0,mC,yA,iop,tt,rA,Zh] <;> exact rfl) ?_)
  refine bA ?_
  exact hK
 refine jA ?_
 refine mB _ rfl (fun hc0 => ?_) (fun hc0 => ?_)
 ·try simp only [Zp,Zi,ZK,ZJ,ne_eq,Zn,Zm,ZB,ZA,ZI,not_or,not_and,Zu] at hc0
  refine tB ?_
  refine jA ?_
  refine fA ?_
  refine uB ?_
  refine fA ?_
  refine iA hX hb [0,1,2,3,4] rfl (σ' := ?s6) (fun K hK => ?h6) ?n6
  case h6 =>
   iterate 5 (refine kA rfl (by simp (disch := omega) only [gA,aA,qop,fop,St.ev,St.put,cd,zd,Value.oneCell',lA,TypeDesc.aggB,Z0,yA,iop,mC,tt,rA,Zh] <;> exact rfl) ?_)
   refine bA ?_
   exact hK
  refine jA ?_
  refine mB _ rfl (fun hc1 => ?_) (fun hc1 => ?_)
  ·try simp only [Zp,Zi,ZK,ZJ,ne_eq,Zn,Zm,ZB,ZA,ZI,not_or,not_and,Zu] at hc1
   refine bF hX hb (gD hP) [(0,true),(1,true),(2,true),(3,true),(4,true),(5,true),(6,true),(7,true),(8,true),(9,true),(10,true),(11,false),(12,false),(13,false),(14,true)] (by kernel_rfl) (σ' := ?s7) (fun K hK => ?h7) ?n7
   case h7 =>
    iterate 11 (refine xE rfl (by simp (disch := omega) only [qop,fop,St.ev,St.put,cd,zd,Value.oneCell',lA,TypeDesc.aggB,Z0,Int.toNat_zero,Int.toNat_one,wA,xA,vA,ZO,Nat.mul_one,ZC,Nat.zero_mul,Zh,Z1,oA,pA,qA,eA,D.pure?,ZD,yA,iop,sA,D.pv?,zD,wC,xC,aE,bB,rB,D.cells?,eB,fB,gB,iB,jB,ZG,ZH,ZL,ZM,ZN,zA,Nat.reduceAdd,Nat.reduceMul,cE,qG,St.demote,D.demote,St.setVec,List.length_append,reduceIte,tt,rA,ei] <;> exact rfl) (by simp only [St.put,Za,Zb] <;> exact rfl) ?_)
    refine pG rfl (by simp only [aA,St.ev,nB,oB,sA,D.pv?,ZG,ZH,zd,cd,Value.oneCell',Zr] <;> exact rfl) (acK hP (h79 _ _)) (by simp only [St.put,Za,Zb] <;> exact rfl) ?_
    iterate 2 (refine vG rfl (by simp (disch := omega) only [gA,aA,qop,fop,St.ev,St.put,cd,zd,Value.oneCell',lA,TypeDesc.aggB,Z0,Int.toNat_zero,Int.toNat_one,wA,xA,vA,ZO,Nat.mul_one,ZC,Nat.zero_mul,Zh,Z1,oA,pA,qA,eA,D.pure?,ZD,yA,iop,sA,D.pv?,zD,wC,xC,aE,bB,rB,D.cells?,eB,fB,gB,iB,jB,ZG,ZH,ZL,ZM,ZN,zA,Nat.reduceAdd,Nat.reduceMul,cE,qG,St.demote,D.demote,St.setVec,List.length_append,reduceIte,tt,rA,ei] <;> exact rfl) ?_)
    (refine xE rfl (by simp (disch := omega) only [qop,fop,St.ev,St.put,cd,zd,Value.oneCell',lA,TypeDesc.aggB,Z0,Int.toNat_zero,Int.toNat_one,wA,xA,vA,ZO,Nat.mul_one,ZC,Nat.zero_mul,Zh,Z1,oA,pA,qA,eA,D.pure?,ZD,yA,iop,sA,D.pv?,zD,wC,xC,aE,bB,rB,D.cells?,eB,fB,gB,iB,jB,ZG,ZH,ZL,ZM,ZN,zA,Nat.reduceAdd,Nat.reduceMul,cE,qG,St.demote,D.demote,St.setVec,List.length_append,reduceIte,tt,rA,ei] <;> exact rfl) (by simp only [St.put,Za,Zb] <;> exact rfl) ?_)
    refine qC ?_
    exact hK
   refine dE ?_
   refine jA ?_
   refine iA hX hb [0,1,2] rfl (σ' := ?s8) (fun K hK => ?h8) ?n8
   case h8 =>
    iterate 3 (refine kA rfl (by simp (disch := omega) only [gA,aA,qop,fop,St.ev,St.put,cd,zd,Value.oneCell',lA,TypeDesc.aggB,Z0,yA,iop,tt,rA,Zh] <;> exact rfl) ?_)
    refine bA ?_
    exact hK
   refine jA ?_
   exact ⟨(i + 2,upL (l.take (i + 2))),by exact ⟨by dsimp only; omega,by dsimp only; omega,rfl⟩,by (try dsimp only); omega,sC ⟨rfl,(by repeat first | exact tA | refine qB ?_ | refine uA (by first | rfl | ((first | rw [tG l i h2 (by omega),← ho] | rw [uG l i h2 (by omega) (by omega),← ho]) <;> simp)) ?_),(wB _),(zE (by first | rfl | ((first | rw [tG l i h2 (by omega),← ho] | rw [uG l i h2 (by omega) (by omega),← ho]) <;> simp)) (xB _)),rfl,rfl⟩⟩
  ·try simp only [Zp,Zi,ZK,ZJ,ne_eq,Zn,Zm,ZB,ZA,ZI,not_or,not_and,Zu] at hc1
   refine iA hX hb [0,1,2,3,4,5,6,7] rfl (σ' := ?s9) (fun K hK => ?h9) ?n9
   case h9 =>
    iterate 8 (refine kA rfl (by simp (disch := omega) only [gA,aA,qop,fop,St.ev,St.put,cd,zd,Value.oneCell',lA,TypeDesc.aggB,Z0,Int.toNat_zero,Int.toNat_one,wA,xA,vA,ZO,Nat.mul_one,ZC,Nat.zero_mul,Zh,Z1,oA,pA,qA,eA,D.pure?,ZD,zD,wC,xC,aE,bB,rB,D.cells?,eB,fB,gB,iB,jB,ZG,ZH,ZL,ZM,ZN,zA,Nat.reduceAdd,Nat.reduceMul,cE,qG,St.demote,D.demote,St.setVec,List.length_append,reduceIte,tt,rA] <;> exact rfl) ?_)
    refine bA ?_
    exact hK
   refine dE ?_
   refine jA ?_
   refine iA hX hb [0,1,2] rfl (σ' := ?s10) (fun K hK => ?h10) ?n10
   case h10 =>
    iterate 3 (refine kA rfl (by simp (disch := omega) only [gA,aA,qop,fop,St.ev,St.put,cd,zd,Value.oneCell',lA,TypeDesc.aggB,Z0,yA,iop,tt,rA,Zh] <;> exact rfl) ?_)
    refine bA ?_
    exact hK
   refine jA ?_
   exact ⟨(i + 2,upL (l.take (i + 2))),by exact ⟨by dsimp only; omega,by dsimp only; omega,rfl⟩,by (try dsimp only); omega,sC ⟨rfl,(by repeat first | exact tA | refine qB ?_ | refine uA (by first | rfl | ((first | rw [tG l i h2 (by omega),← ho] | rw [uG l i h2 (by omega) (by omega),← ho]) <;> simp)) ?_),(wB _),(zE (by first | rfl | ((first | rw [tG l i h2 (by omega),← ho] | rw [uG l i h2 (by omega) (by omega),← ho]) <;> simp)) (xB _)),rfl,rfl⟩⟩
 ·try simp only [Zp,Zi,ZK,ZJ,ne_eq,Zn,Zm,ZB,ZA,ZI,not_or,not_and,Zu] at hc0
  refine sD ?_
  refine fD ?_
  refine fD ?_
  refine dF ?_
  refine jA ?_
  refine fA ?_
  refine iA hX hb [0,1] rfl (σ' := ?s11) (fun K hK => ?h11) ?n11
  case h11 =>
   iterate 2 (refine kA rfl (by simp (disch := omega) only [gA,aA,qop,fop,St.ev,St.put,cd,zd,Value.oneCell',lA,TypeDesc.aggB,Z0,t5,ti5,rA,Zh] <;> exact rfl) ?_)
   refine bA ?_
   exact hK
  refine jA ?_
  refine bC ?_
  exact oK 0 rfl rfl (by first | rfl | (rw [ho,List.take_of_length_le (by omega)]; rfl))
end Go.Proofs.Ytldcoekbgfaomaa
end
section
namespace Go.Proofs.Ytldcoekbgfaomaa
open Go.RowKit
set_option maxRecDepth 20000
set_option maxHeartbeats 4000000
attribute [local irreducible] jE oD AW
theorem c77 (a b : List (List Int)) : ACalls Try.prog 77 [.p (xD a),.p (xD b),.p (.v (.func (.func 40) #[] #[]))] (.p (bv (decide (a = b)))) := by
 refine oC jC Try.func77 (c := _) rfl (by kernel_rfl) ?_
 intro X hP hX hro hpl
 have hb : tb.Ok X.P := hP ▸ jC
 change AW X _ _ ⟨[],[.p (xD a),.p (xD b),.p (.v (.func (.func 40) #[] #[])),.any,.any,.any,.any,.any,.any,.any,.any,.any,.any,.any,.any,.any,.any,.any,.any,.any,.any,.any,.any,.any,.any,.any,.any,.any,.any,.any,.any,.any],[],[]⟩
 refine aI (t := 0) rfl fun hl => ?_
 unfold maxLen at hl
 refine fA ?_
 refine iA hX hb [0] rfl (σ' := ?s1) (fun K hK => ?h1) ?n1
 case h1 =>
  (refine kA rfl (by simp (disch := omega) only [gA,aA,qop,fop,St.ev,St.put,cd,zd,Value.oneCell',lA,TypeDesc.aggB,Z0,nA,Zh] <;> exact rfl) ?_)
  refine bA ?_
  exact hK
 refine jA ?_
 refine fA ?_
 refine fA ?_
 refine iA hX hb [0,1,2,3,4] rfl (σ' := ?s2) (fun K hK => ?h2) ?n2
 case h2 =>
  iterate 5 (refine kA rfl (by simp (disch := omega) only [gA,aA,qop,fop,St.ev,St.put,cd,zd,Value.oneCell',lA,TypeDesc.aggB,Z0,mC,yA,iop,tt,nA,Zh] <;> exact rfl) ?_)
  refine bA ?_
  exact hK
 refine jA ?_
 refine mB _ rfl (fun hc0 => ?_) (fun hc0 => ?_)
 ·try simp only [Zp,Zi,ZK,ZJ,ne_eq,Zn,Zm,ZB,ZA,ZI,not_or,not_and,Zu] at hc0
  refine fA ?_
  refine iA hX hb [0] rfl (σ' := ?s3) (fun K hK => ?h3) ?n3
  case h3 =>
   (refine kA rfl (by simp (disch := omega) only [gA,aA,qop,fop,St.ev,St.put,cd,zd,Value.oneCell',lA,TypeDesc.aggB,Z0,nA,Zh] <;> exact rfl) ?_)
   refine bA ?_
   exact hK
  refine jA ?_
  refine bC ?_
  refine nC ?_
  exact tC rfl (sB rfl (by first | rfl | (first | (refine jf ?_; rintro rfl; exact hc2 rfl) | (refine jf ?_; rintro rfl; exact hc0 rfl) | exact jt (yC hc0 he (by omega)))))
 ·try simp only [Zp,Zi,ZK,ZJ,ne_eq,Zn,Zm,ZB,ZA,ZI,not_or,not_and,Zu] at hc0
  refine tB ?_
  refine jA ?_
  refine fA ?_
  refine fA ?_
  refine iA hX hb [0,1,2] rfl (σ' := ?s4) (fun K hK => ?h4) ?n4
  case h4 =>
   iterate 3 (refine kA rfl (by simp (disch := omega) only [gA,aA,qop,fop,St.ev,St.put,cd,zd,Value.oneCell',lA,TypeDesc.aggB,Z0,mC,tt,nA,Zh] <;> exact rfl) ?_)
   refine bA ?_
   exact hK
  refine jA ?_
  refine uB ?_
  refine vD (ι := Nat) (fun i => i ≤ a.length ∧ a.take i = b.take i) (fun i => ⟨[],[.p (xD a),.p (xD b),.p (.v (.func (.func 40) #[] #[])),.any,.any,.any,.any,.any,.any,.any,.any,.any,.any,.any,.any,.p (xD a),.p (i64 (a.length : Int)),.p (i64 i),.any,.any,.any,.any,.any,.any,.any,.any,.any,.any,.any,.any,.any,.any],[],[]⟩) (fun i => a.length - i) 0 (by exact ⟨Nat.zero_le _,rfl⟩) (sC ⟨rfl,(by repeat first | exact tA | refine qB ?_ | refine uA rfl ?_),(wB _),(xB _),rfl,rfl⟩) ?_
  rintro i ⟨hi,he⟩
  refine fA ?_
  refine iA hX hb [0] rfl (σ' := ?s5) (fun K hK => ?h5) ?n5
  case h5 =>
   (refine kA rfl (by simp (disch := omega) only [gA,aA,qop,fop,St.ev,St.put,cd,zd,Value.oneCell',lA,TypeDesc.aggB,Z0,yA,iop,t3,ti3,nA,Zh] <;> exact rfl) ?_)
   refine bA ?_
   exact hK
  refine jA ?_
  refine fA ?_
  refine mB _ rfl (fun hc1 => ?_) (fun hc1 => ?_)
  ·try simp only [Zp,Zi,ZK,ZJ,ne_eq,Zn,Zm,ZB,ZA,ZI,not_or,not_and,Zu] at hc1
   refine tB ?_
   refine jA ?_
   refine fA ?_
   refine uB ?_
   refine fA ?_
   refine iA hX hb [0,1,2,3,4] rfl (σ' := ?s6) (fun K hK => ?h6) ?n6
   case h6 =>
    iterate 5 (refine kA rfl (by simp (disch := omega) only [gA,aA,qop,fop,St.ev,St.put,cd,zd,Value.oneCell',lA,TypeDesc.aggB,Z0,Int.toNat_zero,Int.toNat_one,wA,xA,vA,ZO,Nat.mul_one,ZC,Nat.zero_mul,Zh,Z1,oA,pA,qA,eA,D.pure?,ZD,tt,nA] <;> exact rfl) ?_)
    refine bA ?_
    exact hK
   refine jA ?_
   refine fA ?_
   refine iA hX hb [0,1,2,3,4] rfl (σ' := ?s7) (fun K hK => ?h7) ?n7
   case h7 =>
    iterate 5 (refine kA rfl (by simp (disch := omega) only [gA,aA,qop,fop,St.ev,St.put,cd,zd,Value.oneCell',lA,TypeDesc.aggB,Z0,Int.toNat_zero,Int.toNat_one,wA,xA,vA,ZO,Nat.mul_one,ZC,Nat.zero_mul,Zh,Z1,oA,pA,qA,eA,D.pure?,ZD,tt,nA] <;> exact rfl) ?_)
    refine bA ?_
    exact hK
   refine jA ?_
   refine fA ?_
   refine iA hX hb [0,1,2,3,4] rfl (σ' := ?s8) (fun K hK => ?h8) ?n8
   case h8 =>
    iterate 3 (refine kA rfl (by simp (disch := omega) only [gA,aA,qop,fop,St.ev,St.put,cd,zd,Value.oneCell',lA,TypeDesc.aggB,Z0,sA,D.pv?,Bool.not_true,Bool.not_false,tt,nA,Zh] <;> exact rfl) ?_)
    refine jD rfl (by simp only [aA,St.ev,nB,oB,sA,D.pv?,ZG,ZH,zd,cd,Value.oneCell',Zr] <;> exact rfl) (acK hP (c40 _ _)) (by simp only [St.put,Za,Zb] <;> exact rfl) ?_
    (refine kA rfl (by simp (disch := omega) only [gA,aA,qop,fop,St.ev,St.put,cd,zd,Value.oneCell',lA,TypeDesc.aggB,Z0,sA,D.pv?,Bool.not_true,Bool.not_false,tt,nA,Zh] <;> exact rfl) ?_)
    refine bA ?_
    exact hK
   refine jA ?_
   refine mB _ rfl (fun hc2 => ?_) (fun hc2 => ?_)
   ·try simp only [Zp,Zi,ZK,ZJ,ne_eq,Zn,Zm,ZB,ZA,ZI,not_or,not_and,Zu] at hc2
    refine fA ?_
    refine iA hX hb [0] rfl (σ' := ?s9) (fun K hK => ?h9) ?n9
    case h9 =>
     (refine kA rfl (by simp (disch := omega) only [gA,aA,qop,fop,St.ev,St.put,cd,zd,Value.oneCell',lA,TypeDesc.aggB,Z0,nA,Zh] <;> exact rfl) ?_)
     refine bA ?_
     exact hK
    refine jA ?_
    refine bC ?_
    refine oE ?_
    refine nC ?_
    refine nC ?_
    refine oE ?_
    refine nC ?_
    exact tC rfl (sB rfl (by first | rfl | (first | (refine jf ?_; rintro rfl; exact hc2 rfl) | (refine jf ?_; rintro rfl; exact hc0 rfl) | exact jt (yC hc0 he (by omega)))))
   ·try simp only [Zp,Zi,ZK,ZJ,ne_eq,Zn,Zm,ZB,ZA,ZI,not_or,not_and,Zu] at hc2
    refine tB ?_
    refine dE ?_
    refine jA ?_
    refine iA hX hb [0,1] rfl (σ' := ?s10) (fun K hK => ?h10) ?n10
    case h10 =>
     iterate 2 (refine kA rfl (by simp (disch := omega) only [gA,aA,qop,fop,St.ev,St.put,cd,zd,Value.oneCell',lA,TypeDesc.aggB,Z0,yA,iop,tt,nA,Zh] <;> exact rfl) ?_)
     refine bA ?_
     exact hK
    refine jA ?_
    exact ⟨i + 1,by exact ⟨by omega,by rw [fE a i (by omega),fE b i (by omega),he,hc2]⟩,by (try dsimp only); omega,sC ⟨rfl,(by repeat first | exact tA | refine qB ?_ | refine uA rfl ?_),(wB _),(xB _),rfl,rfl⟩⟩
  ·try simp only [Zp,Zi,ZK,ZJ,ne_eq,Zn,Zm,ZB,ZA,ZI,not_or,not_and,Zu] at hc1
   refine sD ?_
   refine fD ?_
   refine fD ?_
   refine dF ?_
   refine jA ?_
   refine fA ?_
   refine iA hX hb [0] rfl (σ' := ?s11) (fun K hK => ?h11) ?n11
   case h11 =>
    (refine kA rfl (by simp (disch := omega) only [gA,aA,qop,fop,St.ev,St.put,cd,zd,Value.oneCell',lA,TypeDesc.aggB,Z0,nA,Zh] <;> exact rfl) ?_)
    refine bA ?_
    exact hK
   refine jA ?_
   refine bC ?_
   exact tC rfl (sB rfl (by first | rfl | (first | (refine jf ?_; rintro rfl; exact hc2 rfl) | (refine jf ?_; rintro rfl; exact hc0 rfl) | exact jt (yC hc0 he (by omega)))))
end Go.Proofs.Ytldcoekbgfaomaa
end
section
namespace Go.Proofs.Ytldcoekbgfaomaa
open Go.RowKit
set_option maxRecDepth 20000
set_option maxHeartbeats 4000000
attribute [local irreducible] jE oD AW
theorem c67 (h79 : ∀ a b : Int,ACalls Try.prog 79 [.p (u64 a),.p (u64 b)] (.p (u64 (lG a b)))) (s f : Int) (l : List Int) (hl : l.length ≤ 4294967296) (hl1 : 1 ≤ l.length) : ACalls Try.prog 67 [.p (i64 s),.p (i64 f),.p (cH l)] (.agg [i64 s,i64 f,xD (vE l)]) := by
 refine oC jC Try.func67 (c := _) rfl (by kernel_rfl) ?_
 intro X hP hX hro hpl
 have hb : tb.Ok X.P := hP ▸ jC
 change AW X _ _ ⟨[],[.p (i64 s),.p (i64 f),.p (cH l),.any,.any,.any,.any,.any,.any,.any,.any,.any,.any,.any,.any,.any,.any,.any,.any,.any,.any,.any,.any],[],[]⟩
 refine fA ?_
 refine iA hX hb [0] rfl (σ' := ?s1) (fun K hK => ?h1) ?n1
 case h1 =>
  (refine kA rfl (by simp (disch := omega) only [gA,aA,qop,fop,St.ev,St.put,cd,zd,Value.oneCell',lA,TypeDesc.aggB,Z0,ZM,ZL,Zl,Zo,ZG,ZH,St.addBox,Value.cells,tt] <;> exact rfl) ?_)
  refine bA ?_
  exact hK
 refine jA ?_
 refine gCA ?_
 refine fA ?_
 refine iA hX (mDA 26 hb) [0,1,2,3,4] rfl (σ' := ?s2) (fun K hK => ?h2) ?n2
 case h2 =>
  iterate 5 (refine kA rfl (by simp (disch := omega) only [gA,aA,qop,fop,St.ev,St.put,cd,zd,Value.oneCell',lA,TypeDesc.aggB,Z0,eE,aD,lC,eC,D.cell1,eB,fB,gB,iB,jB,List.all_cons,List.all_nil,zC,TI.place,TI.zeros,TI.kindOk,D.cells?,D.pure?,zp,Value.cells,ZQ,ZP,Z1,ZM,ZL,ZG,ZH,St.addBox,iC,D.boxCells,D.live,ZN,St.setVec,ZC,tt,oS,dM,cJ,mH] <;> exact rfl) ?_)
  refine bA ?_
  exact hK
 refine jA ?_
 refine oW (yR 1 2 _ 60 1 rfl rfl) ?_
 change AW X _ _ ⟨[],[.p (i64 s),.p (i64 f),.p (cH l),.any,.any,.any,.ptr 0 0,.ptr 1 0,.p (i64 s),.p (i64 f),.aggd [.p (i64 s),.p (i64 f),.nil],.any,.any,.any,.any,.any,.any,.any,.any,.any,.any,.any,.any],[⟨26,[.p (i64 0),.p (i64 0),.nil]⟩,⟨26,[.p (i64 s),.p (i64 f),.vref 0]⟩],[some ⟨60,1,0,[]⟩]⟩
 refine fA ?_
 refine xBA ?_
 refine jA ?_
 refine fA ?_
 refine uB ?_
 refine vD (ι := List Int × List (List Int)) (fun p => 1 ≤ p.1.length ∧ p.1.length ≤ l.length ∧ p.2 ++ vE p.1 = vE l) (fun p => ⟨[],[.p (i64 s),.p (i64 f),.p (cH p.1),.any,.any,.any,.ptr 0 0,.ptr 1 0,.any,.any,.any,.any,.any,.any,.any,.any,.any,.any,.any,.any,.any,.any,.any],[⟨26,[.p (i64 0),.p (i64 0),.nil]⟩,⟨26,[.p (i64 s),.p (i64 f),.vref 0]⟩],[some ⟨60,1,p.2.length,p.2.map cH⟩]⟩) (fun p => p.1.length) (l,[]) (by exact ⟨hl1,Nat.le_refl _,rfl⟩) (sC ⟨rfl,(by repeat first | exact tA | refine qB ?_ | refine uA (by first | rfl | (simp)) ?_),(vC rfl (uA (by first | rfl | (simp)) (uA (by first | rfl | (simp)) (uA (by first | rfl | (simp)) (tA)))) (vC rfl (uA (by first | rfl | (simp)) (uA (by first | rfl | (simp)) (uA (by first | rfl | (simp)) (tA)))) (wB _))),(zE (by first | rfl | (simp)) (xB _)),rfl,rfl⟩) ?_
 rintro ⟨m,ls⟩ ⟨hm1,hml,hm⟩
 dsimp only at hm1 hml hm ⊢
 have hls : ls.length ≤ l.length + 1 := by
  have h1 := lH l.length l (Nat.le_refl _)
  rw [← hm,List.length_append] at h1
  omega
 refine uB ?_
 refine fA ?_
 refine iA hX hb [0,1,2,3,4,5,6] rfl (σ' := ?s3) (fun K hK => ?h3) ?n3
 case h3 =>
  iterate 7 (refine kA rfl (by simp (disch := omega) only [gA,aA,qop,fop,St.ev,St.put,cd,zd,Value.oneCell',lA,TypeDesc.aggB,Z0,cA,mA,Z1,oA,pA,qA,eA,D.pure?,ZC,ZD,zD,wC,xC,aE,bB,rB,D.cells?,eB,fB,gB,iB,jB,ZG,ZH,ZL,ZM,ZN,zA,Nat.reduceAdd,Nat.reduceMul,cE,qG,St.demote,D.demote,St.setVec,Zh,List.length_append,Nat.mul_one,reduceIte,iC,D.boxCells,D.live,tt] <;> exact rfl) ?_)
  refine bA ?_
  exact hK
 refine jA ?_
 refine fA ?_
 refine fA ?_
 refine iA hX hb [0,1,2] rfl (σ' := ?s4) (fun K hK => ?h4) ?n4
 case h4 =>
  iterate 3 (refine kA rfl (by simp (disch := omega) only [gA,aA,qop,fop,St.ev,St.put,cd,zd,Value.oneCell',lA,TypeDesc.aggB,Z0,mC,yA,iop,tt] <;> exact rfl) ?_)
  refine bA ?_
  exact hK
 refine jA ?_
 refine mB _ rfl (fun hc0 => ?_) (fun hc0 => ?_)
 ·try simp only [Zp,Zi,ZK,ZJ,ne_eq,Zn,Zm,ZB,ZA,ZI,not_or,not_and,Zu] at hc0
  refine sD ?_
  refine fD ?_
  refine pIA (by decide) ?_
  refine fD ?_
  refine dF ?_
  refine jA ?_
  refine fA ?_
  refine mI 0 rfl (σ' := ?s6) ?h6 ?n6
  case h6 => simp only [St.freeze,D.freeze,ZG,ZH,Za,Zb,Zr,reduceIte,Nat.reduceEqDiff]; exact rfl
  refine iA hX hb [0,1] rfl (σ' := ?s5) (fun K hK => ?h5) ?n5
  case h5 =>
   iterate 2 (refine kA rfl (by simp (disch := omega) only [gA,aA,qop,fop,St.ev,St.put,cd,zd,Value.oneCell',lA,TypeDesc.aggB,Z0,Z1,oA,pA,qA,eA,D.pure?,ZC,ZD,iC,D.boxCells,D.live,D.cells?,ZM,ZL,ZN,ZG,ZH,St.setVec,tt] <;> exact rfl) ?_)
   refine bA ?_
   exact hK
  refine jA ?_
  refine bC ?_
  refine oIA ?_
  exact tC rfl (sB (by simp only [qE,oA,pA,lA,TypeDesc.aggB,eA,D.pure?,D.pv?,nB,oB,Zd,Zc,Zw,Zk,Zv,Zj,Zx,Zl,Zo,Zr,reduceIte,Nat.reduceAdd,Nat.reduceLeDiff,Zg,Zf,tt] <;> exact rfl) (by first | rfl | (rw [← hm,yF (l := m) (by omega)]; refine congrArg D.agg ?_; refine congrArg (fun x => [i64 s,i64 f,x]) ?_; simp [xD])))
 ·try simp only [Zp,Zi,ZK,ZJ,ne_eq,Zn,Zm,ZB,ZA,ZI,not_or,not_and,Zu] at hc0
  refine tB ?_
  refine jA ?_
  refine iA hX hb [0,1,2] rfl (σ' := ?s7) (fun K hK => ?h7) ?n7
  case h7 =>
   (refine kA rfl (by simp (disch := omega) only [gA,aA,qop,fop,St.ev,St.put,cd,zd,Value.oneCell',lA,TypeDesc.aggB,Z0,sA,D.pv?,tt] <;> exact rfl) ?_)
   refine jD rfl (by simp only [aA,St.ev,nB,oB,sA,D.pv?,ZG,ZH,zd,cd,Value.oneCell',Zr] <;> exact rfl) (acK hP ((zMA h79 m (by omega)).pure)) (by simp only [St.put,Za,Zb] <;> exact rfl) ?_
   (refine kA rfl (by simp (disch := omega) only [gA,aA,qop,fop,St.ev,St.put,cd,zd,Value.oneCell',lA,TypeDesc.aggB,Z0,sA,D.pv?,tt] <;> exact rfl) ?_)
   refine bA ?_
   exact hK
  refine dE ?_
  refine jA ?_
  exact ⟨(upL m,ls ++ [m]),by have hu := rF m; refine ⟨by dsimp only; omega,by dsimp only; omega,?_⟩; dsimp only; rw [← hm,lF (l := m) (by omega),List.append_assoc]; rfl,by have hu := rF m; dsimp only; omega,sC ⟨rfl,(by repeat first | exact tA | refine qB ?_ | refine uA (by first | rfl | (simp)) ?_),(vC rfl (uA (by first | rfl | (simp)) (uA (by first | rfl | (simp)) (uA (by first | rfl | (simp)) (tA)))) (vC rfl (uA (by first | rfl | (simp)) (uA (by first | rfl | (simp)) (uA (by first | rfl | (simp)) (tA)))) (wB _))),(zE (by first | rfl | (simp)) (xB _)),rfl,rfl⟩⟩
end Go.Proofs.Ytldcoekbgfaomaa
end
section
namespace Go.Proofs.Ytldcoekbgfaomaa
/-- What the check knows eJ level i,with n nodes to come (0: none may come). -/
def ShN (S F : Nat) (lv : List (List Int)) (i n : Nat) : Prop := (n = 0 → i = lv.length ∧ shT S F lv = true) ∧ (n ≠ 0 → shT S F lv = sh false n (lv.drop i))
theorem qAA {S F : Nat} {lv : List (List Int)} (h : 1 ≤ yD S F) : ShN S F lv 0 (yD S F) := ⟨fun h0 => by omega,fun _ => rfl⟩
theorem yP {S F i n : Nat} {lv : List (List Int)} (h : ShN S F lv i n) (hi : i < lv.length) (hb : (lv.getD i []).length ≠ n ∨ (n = 1 ∧ i + 1 < lv.length)) : shT S F lv = false := by
 have hn : n ≠ 0 := fun h0 => by have := (h.1 h0).1; omega
 rw [h.2 hn,xJ lv i hi]
 by_cases h1 : (lv.getD i []).length = n
 ·rcases hb with hb | ⟨rfl,hb⟩
  ·exact absurd h1 hb
  ·rw [xJ lv (i + 1) hb]
   simp only [sh,h1,decide_true,Bool.not_true,Bool.and_false,Bool.false_and]
 ·simp only [sh,decide_eq_false h1,Bool.false_and]
theorem bX {S F i n : Nat} {lv : List (List Int)} (h : ShN S F lv i n) (hi : i < lv.length) (h1 : (lv.getD i []).length = n) (h2 : ¬ (n = 1 ∧ i + 1 < lv.length)) :
  ShN S F lv (i + 1) (((if n = 1 then 0 else n) + 1) / 2) := by
 have hn : n ≠ 0 := fun h0 => by have := (h.1 h0).1; omega
 have hs := h.2 hn
 rw [xJ lv i hi] at hs
 by_cases hn1 : n = 1
 ·subst hn1
  rw [if_pos rfl]
  refine ⟨fun _ => ⟨by omega,?_⟩,fun h0 => by omega⟩
  rw [hs,List.drop_of_length_le (by omega)]
  simp only [sh,h1,decide_true,Bool.not_false,Bool.and_self]
 ·rw [if_neg hn1]
  refine ⟨fun h0 => by omega,fun _ => ?_⟩
  rw [hs]
  simp only [sh,h1,decide_true,Bool.not_false,Bool.and_self,Bool.true_and,decide_eq_false hn1]
theorem bO {S F n : Nat} {lv : List (List Int)} (h : ShN S F lv lv.length n) : shT S F lv = decide (n = 0) := by
 by_cases hn : n = 0
 ·rw [(h.1 hn).2,decide_eq_true hn]
 ·rw [h.2 hn,List.drop_length,decide_eq_false hn]; rfl
end Go.Proofs.Ytldcoekbgfaomaa
end
section
namespace Go.Proofs.Ytldcoekbgfaomaa
open Go.RowKit
set_option maxRecDepth 20000
set_option maxHeartbeats 4000000
attribute [local irreducible] jE oD AW
/-- Items that are bytes. -/
def eH (l : List Int) : List PV := l.map fun b => .p (u8 b)
theorem wL (l : List Int) : (eH l).length = l.length := by simp [eH]
theorem zP (l : List Int) (i : Nat) (h : i < l.length) : (eH l)[i]? = some (.p (u8 (l.getD i 0))) := by simp [eH,h]
theorem rV {l : List Int} {k : Nat} {y : PV} (h : (eH l)[k]? = some y) : k < l.length ∧ y = .p (u8 (l.getD k 0)) := by
 have hk : k < l.length := by have := (List.getElem?_eq_some_iff.1 h).1; simpa [eH] using this
 rw [zP l k hk] at h
 injection h with h
 exact ⟨hk,h.symm⟩
/-- The sixteen bytes of a pair,of which i and i are there. -/
def cX (a b : Int) (i j : Nat) : Int := if j < i then shb a j else if 8 ≤ j ∧ j < 8 + i then shb b ((j - 8 : Nat) : Int) else 0
def bR (a b : Int) (i : Nat) : List D := (List.range 16).map fun j => .p (u8 (cX a b i j))
theorem pE (a b : Int) (i : Nat) : (bR a b i).length = 16 := by simp [bR]
theorem jM (a b : Int) (i : Nat) (h : i < 8) : ((bR a b i).set i (.p (u8 (shb a i)))).set (8 + i) (.p (u8 (shb b i))) = bR a b (i + 1) := by
 apply List.ext_getElem?
 intro j
 simp only [bR,List.getElem?_set,List.length_set,Zh,List.length_range,List.getElem?_map]
 by_cases hj : j < 16
 ·rw [List.getElem?_range hj]
  simp only [Zg]
  by_cases h1 : 8 + i = j
  ·subst h1
   rw [if_pos rfl,if_pos (by omega)]
   simp only [cX]
   rw [if_neg (by omega),if_pos (by omega),show 8 + i - 8 = i by omega]
  ·rw [if_neg h1]
   by_cases h2 : i = j
   ·subst h2
    rw [if_pos rfl,if_pos (by omega)]
    simp only [cX]
    rw [if_pos (by omega)]
   ·rw [if_neg h2]
    congr 3
    simp only [cX]
    by_cases h3 : j < i
    ·rw [if_pos h3,if_pos (show j < i + 1 by omega)]
    ·rw [if_neg h3,if_neg (show ¬ j < i + 1 by omega)]
     by_cases h4 : 8 ≤ j ∧ j < 8 + i
     ·rw [if_pos h4,if_pos (show 8 ≤ j ∧ j < 8 + (i + 1) by omega)]
     ·rw [if_neg h4,if_neg (show ¬ (8 ≤ j ∧ j < 8 + (i + 1)) by omega)]
 ·rw [List.getElem?_eq_none (by simp; omega),if_neg (by omega),if_neg (by omega)]
  rfl
theorem fI (l : List D) (i : Nat) (x : D) (h : i < l.length) : l.take i ++ [x] ++ l.drop (i + 1) = l.set i x := by
 rw [List.set_eq_take_append_cons_drop,if_pos h]
 simp
theorem cR (f : Nat → P1) : ∀ l : List Nat,eA (l.map fun j => D.p (f j)) = some (l.map f)
 | [] => rfl
 | x :: l => by simp only [ZG,eA,D.pure?,cR f l]
theorem xY (a b : Int) : eA (bR a b 8) = some ((eD a ++ eD b).map u8) := by
 rw [bR,cR fun j => u8 (cX a b 8 j)]
 rfl
theorem aNA (l : List Int) : SeqC Try.prog 121 [bytes l] (eH l) := by
 refine fV Try.func121 (c := _) rfl (by kernel_rfl) rfl ?_
 intro X ll hP hX _
 have hb : tb.Ok X.P := hP ▸ jC
 change AW X _ _ ⟨[.yld ll (eH l) 0],[.p (.v (.func (.yield ll) #[] #[])),.ept [bytes l] 0,.any,.any,.any,.any,.any,.any,.any,.any,.any,.any,.any,.any,.any,.any],[],[]⟩
 
 refine fA ?_
 refine iA hX hb [0,1,2] rfl (σ' := ?s1) (fun K hK => ?h1) ?n1
 case h1 =>
  iterate 3 (refine kA rfl (by simp (disch := omega) only [gA,aA,qop,fop,St.ev,St.put,cd,zd,Value.oneCell',lA,TypeDesc.aggB,Z0,Z1,oA,pA,qA,eA,D.pure?,ZC,ZD,mC,tt,rA] <;> exact rfl) ?_)
  refine bA ?_
  exact hK
 refine jA ?_
 refine aI (t := 5) rfl fun hl => ?_
 unfold maxLen at hl
 refine uB ?_
 refine vD (ι := Nat) (fun i => i ≤ l.length) (fun i => ⟨[.yld ll (eH l) i],[.p (.v (.func (.yield ll) #[] #[])),.any,.any,.any,.any,.p (bytes l),.p (i64 l.length),.p (i64 i),.any,.any,.any,.any,.any,.any,.any,.any],[],[]⟩) (fun i => l.length - i) 0 (by exact Nat.zero_le _) (sC ⟨rfl,(by repeat first | exact tA | refine qB ?_ | refine uA rfl ?_),(wB _),(xB _),rfl,rfl⟩) ?_
 rintro i hJ
 refine fA ?_
 refine iA hX hb [0] rfl (σ' := ?s2) (fun K hK => ?h2) ?n2
 case h2 =>
  (refine kA rfl (by simp (disch := omega) only [gA,aA,qop,fop,St.ev,St.put,cd,zd,Value.oneCell',lA,TypeDesc.aggB,Z0,yA,iop,t3,ti3,rA] <;> exact rfl) ?_)
  refine bA ?_
  exact hK
 refine jA ?_
 refine fA ?_
 refine mB _ rfl (fun hc0 => ?_) (fun hc0 => ?_)
 ·try simp only [Zp,Zi,ZK,ZJ,ne_eq,Zn,Zm,ZB,ZA,ZI,not_or,not_and,Zu] at hc0
  refine tB ?_
  refine jA ?_
  refine fA ?_
  refine uB ?_
  refine fA ?_
  refine iA hX hb [0,1,2] rfl (σ' := ?s3) (fun K hK => ?h3) ?n3
  case h3 =>
   iterate 3 (refine kA rfl (by simp (disch := omega) only [gA,aA,qop,fop,St.ev,St.put,cd,zd,Value.oneCell',lA,TypeDesc.aggB,Z0,Int.toNat_zero,Int.toNat_one,wA,xA,vA,ZO,Nat.mul_one,ZC,Nat.zero_mul,Zh,Z1,oA,pA,qA,eA,D.pure?,ZD,tt,rA] <;> exact rfl) ?_)
   refine bA ?_
   exact hK
  refine jA ?_
  refine fA ?_
  refine iA hX hb [0,1,2,3] rfl (σ' := ?s4) (fun K hK => ?h4) ?n4
  case h4 =>
   iterate 2 (refine kA rfl (by simp (disch := omega) only [gA,aA,qop,fop,St.ev,St.put,cd,zd,Value.oneCell',lA,TypeDesc.aggB,Z0,sA,D.pv?,Bool.not_true,Bool.not_false,tt,rA] <;> exact rfl) ?_)
   refine vGA rfl rfl (by simp only [St.ev,nB,oB,zd,cd,Value.oneCell',Zr] <;> exact rfl) (by simp only [sA,nD,D.pvC?,D.pvN?,D.pvL?,eA,D.pv?,D.pure?,St.ev,nB,oB,zd,cd,Value.oneCell',Zr,ZG,ZH,Zd,Zc,Zg] <;> exact rfl) rfl (zP l i (by omega)) (by simp only [St.put,Za,Zb] <;> exact rfl) ?_
   (refine kA rfl (by simp (disch := omega) only [gA,aA,qop,fop,St.ev,St.put,cd,zd,Value.oneCell',lA,TypeDesc.aggB,Z0,sA,D.pv?,Bool.not_true,Bool.not_false,tt,rA] <;> exact rfl) ?_)
   refine bA ?_
   exact hK
  refine jA ?_
  refine mB _ rfl (fun hc1 => ?_) (fun hc1 => ?_)
  ·try simp only [Zp,Zi,ZK,ZJ,ne_eq,Zn,Zm,ZB,ZA,ZI,not_or,not_and,Zu] at hc1
   cases hc1
  ·try simp only [Zp,Zi,ZK,ZJ,ne_eq,Zn,Zm,ZB,ZA,ZI,not_or,not_and,Zu] at hc1
   refine tB ?_
   refine dE ?_
   refine jA ?_
   refine iA hX hb [0,1] rfl (σ' := ?s5) (fun K hK => ?h5) ?n5
   case h5 =>
    iterate 2 (refine kA rfl (by simp (disch := omega) only [gA,aA,qop,fop,St.ev,St.put,cd,zd,Value.oneCell',lA,TypeDesc.aggB,Z0,yA,iop,tt,rA] <;> exact rfl) ?_)
    refine bA ?_
    exact hK
   refine jA ?_
   exact ⟨i + 1,by (try dsimp only); omega,by (try dsimp only); omega,sC ⟨rfl,(by repeat first | exact tA | refine qB ?_ | refine uA rfl ?_),(wB _),(xB _),rfl,rfl⟩⟩
 ·try simp only [Zp,Zi,ZK,ZJ,ne_eq,Zn,Zm,ZB,ZA,ZI,not_or,not_and,Zu] at hc0
  refine sD ?_
  refine fD ?_
  refine fD ?_
  refine dF ?_
  exact eV rfl (by first | rfl | ((have : i = l.length := by omega); subst this; exact (wL l).symm))
theorem bNA (f : FuncId) (xs : List P1) (bs : List Int) (hs : SeqC Try.prog f xs (eH bs)) : ACalls Try.prog 104 [.p (.clo f xs)] (.p (u64 (tO bs))) := by
 refine oC jC Try.func104 (c := _) rfl (by kernel_rfl) ?_
 intro X hP hX hro hpl
 have hb : tb.Ok X.P := hP ▸ jC
 change AW X _ _ ⟨[],[.p (.clo f xs),.any,.any,.any,.any,.any,.any,.any,.any,.any,.any,.any,.any,.any,.any,.any],[],[]⟩
 refine fA ?_
 refine iA hX hb [0] rfl (σ' := ?s1) (fun K hK => ?h1) ?n1
 case h1 =>
  (refine kA rfl (by simp (disch := omega) only [gA,aA,qop,fop,St.ev,St.put,cd,zd,Value.oneCell',lA,TypeDesc.aggB,Z0] <;> exact rfl) ?_)
  refine bA ?_
  exact hK
 refine jA ?_
 refine fA ?_
 refine iA hX hb [0,1] rfl (σ' := ?s2) (fun K hK => ?h2) ?n2
 case h2 =>
  iterate 2 (refine kA rfl (by simp (disch := omega) only [gA,aA,qop,fop,St.ev,St.put,cd,zd,Value.oneCell',lA,TypeDesc.aggB,Z0,ZM,ZL,Z1,ZG,ZH,St.addBox,Value.cells,iC,D.boxCells,D.live,D.cells?,D.pure?,ZN,St.setVec,ZC,tt] <;> exact rfl) ?_)
  refine bA ?_
  exact hK
 refine jA ?_
 refine fA ?_
 refine fA ?_
 refine iA hX hb [0] rfl (σ' := ?s3) (fun K hK => ?h3) ?n3
 case h3 =>
  (refine kA rfl (by simp (disch := omega) only [gA,aA,qop,fop,St.ev,St.put,cd,zd,Value.oneCell',lA,TypeDesc.aggB,Z0] <;> exact rfl) ?_)
  refine bA ?_
  exact hK
 refine jA ?_
 refine uB ?_
 refine tL hX hro hpl.j [] [.p (.clo f xs),.any,.p (u64 0),.ptr 0 0,.any,.p (.clo f xs),.any,.any,.any,.any,.any,.any,.any,.any,.any,.any] 1 (fun (k : Nat) => [⟨58,[.p (u64 (qP (bs.take k)))]⟩]) (fun (k : Nat) => []) [⟨58,[.p (u64 (qP (bs.take ((eH bs).length))))]⟩] [] (sC ⟨rfl,(by repeat first | exact tA | refine qB ?_ | refine uA (by first | rfl | (rw [← oJ bs k (by omega)]; rfl)) ?_),(vC rfl (uA (by first | rfl | (rw [← oJ bs k (by omega)]; rfl)) (tA)) (wB _)),(xB _),rfl,rfl⟩) rfl rfl (hP ▸ (hs)) rfl rfl rfl rfl rfl ?_ ?_
 ·intro k y hy
  obtain ⟨hk,rfl⟩ := rV hy
  unfold zK
  intro X1 hQ hX
  have hP0 := hP; have hP := hQ.trans hP; have hb : tb.Ok X1.P := hP ▸ jC
  change AW X1 _ _ ⟨[.pin 1],[.p (.clo f xs),.any,.p (u64 0),.ptr 0 0,.any,.p (.clo f xs),.p (u8 (bs.getD k 0)),.any,.any,.any,.any,.any,.any,.any,.any,.any],[⟨58,[.p (u64 (qP (bs.take k)))]⟩],[]⟩
  refine iA hX hb [0] rfl (σ' := ?s4) (fun K hK => ?h4) ?n4
  case h4 =>
   (refine kA rfl (by simp (disch := omega) only [gA,aA,qop,fop,St.ev,St.put,cd,zd,Value.oneCell',lA,TypeDesc.aggB,Z0] <;> exact rfl) ?_)
   refine bA ?_
   exact hK
  refine ⟨rfl,rfl,?_⟩
  intro X2 hQ2 hX
  have hP := hQ2.trans hP0; have hb : tb.Ok X2.P := hP ▸ jC
  refine uB ?_
  refine iA hX hb [0,1,2,3,4,5] rfl (σ' := ?s5) (fun K hK => ?h5) ?n5
  case h5 =>
   iterate 6 (refine kA rfl (by simp (disch := omega) only [gA,aA,qop,fop,St.ev,St.put,cd,zd,Value.oneCell',lA,TypeDesc.aggB,Z0,Z1,oA,pA,qA,eA,D.pure?,ZC,ZD,tM,yA,iop,iC,D.boxCells,D.live,D.cells?,ZM,ZL,ZN,ZG,ZH,St.setVec,tt] <;> exact rfl) ?_)
   refine bA ?_
   exact hK
  refine dE ?_
  exact ⟨rfl,sC ⟨(by first | rfl | (rw [← oJ bs k (by omega)]; rfl)),(by repeat first | exact tA | refine qB ?_ | refine uA rfl ?_),(vC rfl (uA (by first | rfl | (rw [← oJ bs k (by omega)]; rfl)) (tA)) (wB _)),(xB _),rfl,rfl⟩⟩
 refine dE ?_
 refine jA ?_
 refine fA ?_
 refine iA hX hb [0,1,2,3,4] rfl (σ' := ?s6) (fun K hK => ?h6) ?n6
 case h6 =>
  iterate 5 (refine kA rfl (by simp (disch := omega) only [gA,aA,qop,fop,St.ev,St.put,cd,zd,Value.oneCell',lA,TypeDesc.aggB,Z0,Z1,oA,pA,qA,eA,D.pure?,ZC,ZD,yA,iop,tt] <;> exact rfl) ?_)
  refine bA ?_
  exact hK
 refine jA ?_
 refine bC ?_
 exact cM (sB rfl (by first | rfl | (rw [wL,List.take_length]; rfl)))
theorem cNA (l : List Int) : ACalls Try.prog 111 [.p (bytes l)] (.p (u64 (tO l))) := by
 refine oC jC Try.func111 (c := _) rfl (by kernel_rfl) ?_
 intro X hP hX hro hpl
 have hb : tb.Ok X.P := hP ▸ jC
 change AW X _ _ ⟨[],[.p (bytes l),.any,.any,.any,.any],[],[]⟩
 refine fA ?_
 refine iA hX hb [0,1] rfl (σ' := ?s1) (fun K hK => ?h1) ?n1
 case h1 =>
  iterate 2 (refine kA rfl (by simp (disch := omega) only [gA,aA,qop,fop,St.ev,St.put,cd,zd,Value.oneCell',lA,TypeDesc.aggB,Z0,ZM,ZL,Zl,Zo,ZG,ZH,St.addBox,D.boxCells,D.live,tt] <;> exact rfl) ?_)
  refine bA ?_
  exact hK
 refine jA ?_
 refine fA ?_
 refine iA hX hb [0,1,2] rfl (σ' := ?s2) (fun K hK => ?h2) ?n2
 case h2 =>
  (refine kA rfl (by simp (disch := omega) only [gA,aA,qop,fop,St.ev,St.put,cd,zd,Value.oneCell',lA,TypeDesc.aggB,Z0,gL,eq_self,Array.toList,sA,D.pv?,tt] <;> exact rfl) ?_)
  refine eCA rfl rfl (by simp only [St.ev,nB,oB,zd,cd,Value.oneCell',Zr] <;> exact rfl) (by simp only [cN,nD,D.pvC?,D.pvN?,D.pvL?,eA,D.pv?,D.pure?,St.ev,nB,oB,zd,cd,Value.oneCell',Zr,ZG,ZH,Zd,Zc,Zg] <;> exact rfl) (acK hP (bNA 121 [bytes l] l (aNA l))) (by simp only [St.put,Za,Zb] <;> exact rfl) ?_
  (refine kA rfl (by simp (disch := omega) only [gA,aA,qop,fop,St.ev,St.put,cd,zd,Value.oneCell',lA,TypeDesc.aggB,Z0,gL,eq_self,Array.toList,sA,D.pv?,tt] <;> exact rfl) ?_)
  refine bA ?_
  exact hK
 refine jA ?_
 refine bC ?_
 exact tC rfl (sB rfl rfl)
theorem gKA (a b : Int) : ACalls Try.prog 111 [.p (.sl 16 ((eD a ++ eD b).map u8))] (.p (u64 (lG a b))) := cNA (eD a ++ eD b)
theorem c79 (a b : Int) : ACalls Try.prog 79 [.p (u64 a),.p (u64 b)] (.p (u64 (lG a b))) := by
 refine oC jC Try.func79 (c := _) rfl (by kernel_rfl) ?_
 intro X hP hX hro hpl
 have hb : tb.Ok X.P := hP ▸ jC
 change AW X _ _ ⟨[],[.p (u64 a),.p (u64 b),.any,.any,.any,.any,.any,.any,.any,.any,.any,.any,.any,.any,.any,.any,.any,.any,.any,.any,.any,.any,.any,.any,.any,.any,.any,.any],[],[]⟩
 refine fA ?_
 refine iA hX hb [0] rfl (σ' := ?s1) (fun K hK => ?h1) ?n1
 case h1 =>
  (refine kA rfl (by simp (disch := omega) only [gA,aA,qop,fop,St.ev,St.put,cd,zd,Value.oneCell',lA,TypeDesc.aggB,Z0,pE,maxLen] <;> exact rfl) ?_)
  refine bA ?_
  exact hK
 refine jA ?_
 refine fA ?_
 refine iA hX hb [0] rfl (σ' := ?s2) (fun K hK => ?h2) ?n2
 case h2 =>
  (refine kA rfl (by simp (disch := omega) only [gA,aA,qop,fop,St.ev,St.put,cd,zd,Value.oneCell',lA,TypeDesc.aggB,Z0,ZM,ZL,Zl,Zo,ZG,ZH,St.addBox,Value.cells,tt,pE,maxLen] <;> exact rfl) ?_)
  refine bA ?_
  exact hK
 refine jA ?_
 refine fA ?_
 refine fA ?_
 refine iA hX hb [0] rfl (σ' := ?s3) (fun K hK => ?h3) ?n3
 case h3 =>
  (refine kA rfl (by simp (disch := omega) only [gA,aA,qop,fop,St.ev,St.put,cd,zd,Value.oneCell',lA,TypeDesc.aggB,Z0,pE,maxLen] <;> exact rfl) ?_)
  refine bA ?_
  exact hK
 refine jA ?_
 refine uB ?_
 refine vD (ι := Nat) (fun i => i ≤ 8) (fun i => ⟨[],[.p (u64 a),.p (u64 b),.any,.any,.any,.ptr 0 0,.any,.p (i64 i),.any,.any,.any,.any,.any,.any,.any,.any,.any,.any,.any,.any,.any,.any,.any,.any,.any,.any,.any,.any],[⟨171,bR a b i⟩],[]⟩) (fun i => 8 - i) 0 (by exact Nat.zero_le _) (sC ⟨rfl,(by repeat first | exact tA | refine qB ?_ | refine uA (by first | rfl | (exact (fI _ _ _ (by rw [List.length_set,pE]; omega)).trans (jM a b i (by omega)))) ?_),(vC rfl (jCA (by first | rfl | (exact (fI _ _ _ (by rw [List.length_set,pE]; omega)).trans (jM a b i (by omega))))) (wB _)),(xB _),rfl,rfl⟩) ?_
 rintro i hJ
 have hpl := pE a b i
 have e8 : ((8 : Int) + (i : Int)).toNat = 8 + i := by omega
 refine fA ?_
 refine iA hX hb [0] rfl (σ' := ?s4) (fun K hK => ?h4) ?n4
 case h4 =>
  (refine kA rfl (by simp (disch := omega) only [gA,aA,qop,fop,St.ev,St.put,cd,zd,Value.oneCell',lA,TypeDesc.aggB,Z0,yA,iop,t3,ti3,pE,maxLen] <;> exact rfl) ?_)
  refine bA ?_
  exact hK
 refine jA ?_
 refine fA ?_
 refine mB _ rfl (fun hc0 => ?_) (fun hc0 => ?_)
 ·try simp only [Zp,Zi,ZK,ZJ,ne_eq,Zn,Zm,ZB,ZA,ZI,not_or,not_and,Zu] at hc0
  refine tB ?_
  refine jA ?_
  refine fA ?_
  refine uB ?_
  refine fA ?_
  refine iA hX hb [0,1] rfl (σ' := ?s5) (fun K hK => ?h5) ?n5
  case h5 =>
   iterate 2 (refine kA rfl (by simp (disch := omega) only [gA,aA,qop,fop,St.ev,St.put,cd,zd,Value.oneCell',lA,TypeDesc.aggB,Z0,pE,maxLen] <;> exact rfl) ?_)
   refine bA ?_
   exact hK
  refine jA ?_
  refine bF hX hb (gD hP) [(0,true),(1,true),(2,true),(3,true),(4,true),(5,true),(6,true),(7,true),(8,true),(9,true),(10,true),(11,true),(12,true),(13,true),(14,false),(15,true),(16,false)] (by kernel_rfl) (σ' := ?s6) (fun K hK => ?h6) ?n6
  case h6 =>
   iterate 14 (refine xE rfl (by simp (disch := omega) only [qop,fop,St.ev,St.put,cd,zd,Value.oneCell',lA,TypeDesc.aggB,Z0,yA,iop,tM,Int.toNat_zero,Int.toNat_one,wA,xA,vA,ZO,Nat.mul_one,ZC,Nat.zero_mul,Zh,iC,D.boxCells,D.live,D.cells?,D.pure?,ZM,ZL,ZN,Z1,ZG,ZH,St.setVec,tt,pE,maxLen,e8,fI,List.length_set] <;> exact rfl) (by simp only [St.put,Za,Zb] <;> exact rfl) ?_)
   (refine vG rfl (by simp (disch := omega) only [gA,aA,qop,fop,St.ev,St.put,cd,zd,Value.oneCell',lA,TypeDesc.aggB,Z0,yA,iop,tM,Int.toNat_zero,Int.toNat_one,wA,xA,vA,ZO,Nat.mul_one,ZC,Nat.zero_mul,Zh,iC,D.boxCells,D.live,D.cells?,D.pure?,ZM,ZL,ZN,Z1,ZG,ZH,St.setVec,tt,pE,maxLen,e8,fI,List.length_set] <;> exact rfl) ?_)
   (refine xE rfl (by simp (disch := omega) only [qop,fop,St.ev,St.put,cd,zd,Value.oneCell',lA,TypeDesc.aggB,Z0,yA,iop,tM,Int.toNat_zero,Int.toNat_one,wA,xA,vA,ZO,Nat.mul_one,ZC,Nat.zero_mul,Zh,iC,D.boxCells,D.live,D.cells?,D.pure?,ZM,ZL,ZN,Z1,ZG,ZH,St.setVec,tt,pE,maxLen,e8,fI,List.length_set] <;> exact rfl) (by simp only [St.put,Za,Zb] <;> exact rfl) ?_)
   (refine vG rfl (by simp (disch := omega) only [gA,aA,qop,fop,St.ev,St.put,cd,zd,Value.oneCell',lA,TypeDesc.aggB,Z0,yA,iop,tM,Int.toNat_zero,Int.toNat_one,wA,xA,vA,ZO,Nat.mul_one,ZC,Nat.zero_mul,Zh,iC,D.boxCells,D.live,D.cells?,D.pure?,ZM,ZL,ZN,Z1,ZG,ZH,St.setVec,tt,pE,maxLen,e8,fI,List.length_set] <;> exact rfl) ?_)
   refine qC ?_
   exact hK
  refine dE ?_
  refine jA ?_
  refine iA hX hb [0,1] rfl (σ' := ?s7) (fun K hK => ?h7) ?n7
  case h7 =>
   iterate 2 (refine kA rfl (by simp (disch := omega) only [gA,aA,qop,fop,St.ev,St.put,cd,zd,Value.oneCell',lA,TypeDesc.aggB,Z0,yA,iop,tt,pE,maxLen] <;> exact rfl) ?_)
   refine bA ?_
   exact hK
  refine jA ?_
  exact ⟨i + 1,by (try dsimp only); omega,by (try dsimp only); omega,sC ⟨rfl,(by repeat first | exact tA | refine qB ?_ | refine uA (by first | rfl | (exact (fI _ _ _ (by rw [List.length_set,pE]; omega)).trans (jM a b i (by omega)))) ?_),(vC rfl (jCA (by first | rfl | (exact (fI _ _ _ (by rw [List.length_set,pE]; omega)).trans (jM a b i (by omega))))) (wB _)),(xB _),rfl,rfl⟩⟩
 ·try simp only [Zp,Zi,ZK,ZJ,ne_eq,Zn,Zm,ZB,ZA,ZI,not_or,not_and,Zu] at hc0
  refine sD ?_
  refine fD ?_
  refine fD ?_
  refine dF ?_
  refine jA ?_
  refine fA ?_
  (have : i = 8 := by omega); subst this
  refine iA hX hb [0,1,2] rfl (σ' := ?s8) (fun K hK => ?h8) ?n8
  case h8 =>
   (refine kA rfl (by simp (disch := omega) only [gA,aA,qop,fop,St.ev,St.put,cd,zd,Value.oneCell',lA,TypeDesc.aggB,Z0,imp_self,Int.toNat_one,Int.toNat_zero,Nat.one_mul,rI,bnd,Option.isSome_none,ZP,Option.map_none,implies_true,forall_const,ZO,Nat.sub_zero,sA,D.pv?,tt,pE,maxLen] <;> exact rfl) ?_)
   refine eCA rfl rfl (by simp only [St.ev,nB,oB,zd,cd,Value.oneCell',Zr] <;> exact rfl) (by simp only [cN,nD,D.pvC?,D.pvN?,D.pvL?,eA,D.pv?,D.pure?,St.ev,nB,oB,zd,cd,Value.oneCell',Zr,ZG,ZH,Zd,Zc,Zg,xY] <;> exact rfl) (acK hP (gKA a b)) (by simp only [St.put,Za,Zb] <;> exact rfl) ?_
   (refine kA rfl (by simp (disch := omega) only [gA,aA,qop,fop,St.ev,St.put,cd,zd,Value.oneCell',lA,TypeDesc.aggB,Z0,imp_self,Int.toNat_one,Int.toNat_zero,Nat.one_mul,rI,bnd,Option.isSome_none,ZP,Option.map_none,implies_true,forall_const,ZO,Nat.sub_zero,sA,D.pv?,tt,pE,maxLen] <;> exact rfl) ?_)
   refine bA ?_
   exact hK
  refine jA ?_
  refine bC ?_
  exact tC rfl (sB rfl rfl)
end Go.Proofs.Ytldcoekbgfaomaa
end
section
namespace Go.Proofs.Ytldcoekbgfaomaa
open Go.RowKit
set_option maxRecDepth 20000
set_option maxHeartbeats 4000000
attribute [local irreducible] jE oD AW
theorem xHA {s f : Int} (h : wO s f = 0) : 1 ≤ s ∧ s ≤ 4096 ∧ 1 ≤ f ∧ f ≤ 4096 := by
 unfold wO at h
 split at h
 ·cases h
 ·split at h
  ·cases h
  ·omega
theorem tK {t : Tr} (h : ¬ wO t.size t.leaf = 0) : rC t = wO t.size t.leaf := by
 unfold wO at h ⊢
 unfold rC
 split
 ·rfl
 ·rename_i h0
  rw [if_neg h0] at h
  split
  ·rfl
  ·rename_i h1
   rw [if_neg h1] at h
   exact absurd rfl h
theorem c31 (t : Tr) : ACalls Try.prog 31 [trP t] (.p (i64 (rC t))) := by
 obtain ⟨s,f,lv⟩ := t
 refine oC jC Try.func31 (c := _) rfl (by kernel_rfl) ?_
 intro X hP hX hro hpl
 have hb : tb.Ok X.P := hP ▸ jC
 change AW X _ _ ⟨[],[.agg [i64 s,i64 f,xD lv],.any,.any,.any,.any,.any,.any,.any,.any,.any,.any,.any,.any,.any,.any,.any,.any,.any,.any,.any,.any,.any,.any,.any,.any,.any,.any,.any,.any,.any,.any,.any,.any,.any,.any,.any,.any,.any,.any,.any,.any,.any,.any,.any,.any,.any,.any,.any,.any,.any,.any,.any,.any,.any,.any,.any,.any,.any,.any,.any,.any,.any,.any,.any,.any,.any,.any,.any],[],[]⟩
 refine fA ?_
 refine iA hX hb [0,1] rfl (σ' := ?s1) (fun K hK => ?h1) ?n1
 case h1 =>
  iterate 2 (refine kA rfl (by simp (disch := omega) only [gA,aA,qop,fop,St.ev,St.put,cd,zd,Value.oneCell',lA,TypeDesc.aggB,Z0,ZM,ZL,Zl,Zo,ZG,ZH,St.addBox,D.boxCells,D.live,tt,nA,Zh,kD,ne_eq,not_true_eq_false,not_false_eq_true,cB] <;> exact rfl) ?_)
  refine bA ?_
  exact hK
 refine jA ?_
 refine fA ?_
 refine fA ?_
 refine iA hX hb [0,1,2,3,4,5] rfl (σ' := ?s2) (fun K hK => ?h2) ?n2
 case h2 =>
  iterate 4 (refine kA rfl (by simp (disch := omega) only [gA,aA,qop,fop,St.ev,St.put,cd,zd,Value.oneCell',lA,TypeDesc.aggB,Z0,cA,mA,Z1,oA,pA,qA,eA,D.pure?,ZC,ZD,sA,D.pv?,tt,nA,Zh,kD,ne_eq,not_true_eq_false,not_false_eq_true,cB] <;> exact rfl) ?_)
  refine jD rfl (by simp only [aA,St.ev,nB,oB,sA,D.pv?,ZG,ZH,zd,cd,Value.oneCell',Zr] <;> exact rfl) (acK hP (c64 s f)) (by simp only [St.put,Za,Zb] <;> exact rfl) ?_
  (refine kA rfl (by simp (disch := omega) only [gA,aA,qop,fop,St.ev,St.put,cd,zd,Value.oneCell',lA,TypeDesc.aggB,Z0,cA,mA,Z1,oA,pA,qA,eA,D.pure?,ZC,ZD,sA,D.pv?,tt,nA,Zh,kD,ne_eq,not_true_eq_false,not_false_eq_true,cB] <;> exact rfl) ?_)
  refine bA ?_
  exact hK
 refine jA ?_
 refine fA ?_
 refine iA hX hb [0,1] rfl (σ' := ?s3) (fun K hK => ?h3) ?n3
 case h3 =>
  iterate 2 (refine kA rfl (by simp (disch := omega) only [gA,aA,qop,fop,St.ev,St.put,cd,zd,Value.oneCell',lA,TypeDesc.aggB,Z0,yA,iop,tt,nA,Zh,kD,ne_eq,not_true_eq_false,not_false_eq_true,cB] <;> exact rfl) ?_)
  refine bA ?_
  exact hK
 refine jA ?_
 refine mB _ rfl (fun hc0 => ?_) (fun hc0 => ?_)
 ·try simp only [Zp,Zi,ZK,ZJ,ne_eq,Zn,Zm,ZB,ZA,ZI,not_or,not_and,Zu] at hc0
  refine fA ?_
  refine iA hX hb [0,1] rfl (σ' := ?s4) (fun K hK => ?h4) ?n4
  case h4 =>
   iterate 2 (refine kA rfl (by simp (disch := omega) only [gA,aA,qop,fop,St.ev,St.put,cd,zd,Value.oneCell',lA,TypeDesc.aggB,Z0,t3,ti3,nA,Zh,kD,ne_eq,not_true_eq_false,not_false_eq_true,cB] <;> exact rfl) ?_)
   refine bA ?_
   exact hK
  refine jA ?_
  refine bC ?_
  refine nC ?_
  exact tC rfl (sB rfl (by first | rfl | (first | exact congrArg (fun n => D.p (i64 n)) (tK (t := ⟨s,f,lv⟩) hc0).symm | exact congrArg (fun n => D.p (i64 n)) (fF (t := ⟨S,F,lv⟩) (by dsimp only; omega) (by dsimp only; omega) (yP hs (show i < lv.length by omega) hc2)).symm | exact congrArg (fun n => D.p (i64 n)) (fF (t := ⟨S,F,lv⟩) (by dsimp only; omega) (by dsimp only; omega) (by show shT S F lv = false; rw [show i = lv.length by omega] at hs; rw [bO hs]; exact decide_eq_false (by omega))).symm | exact congrArg (fun n => D.p (i64 n)) (dH (t := ⟨S,F,lv⟩) (by dsimp only; omega) (by dsimp only; omega) hsh hc5).symm | exact congrArg (fun n => D.p (i64 n)) (oH (t := ⟨S,F,lv⟩) (by dsimp only; omega) (by dsimp only; omega) hsh hc5).symm)))
 ·try simp only [Zp,Zi,ZK,ZJ,ne_eq,Zn,Zm,ZB,ZA,ZI,not_or,not_and,Zu] at hc0
  have hlim := xHA hc0
  obtain ⟨S,hS⟩ : ∃ S : Nat,s = S := ⟨s.toNat,by omega⟩
  subst hS
  obtain ⟨F,hF⟩ : ∃ F : Nat,f = F := ⟨f.toNat,by omega⟩
  subst hF
  have hnl := uI (s := S) (n := F) (by omega)
  refine tB ?_
  refine jA ?_
  refine fA ?_
  refine iA hX hb [0,1,2,3,4,5] rfl (σ' := ?s5) (fun K hK => ?h5) ?n5
  case h5 =>
   iterate 4 (refine kA rfl (by simp (disch := omega) only [gA,aA,qop,fop,St.ev,St.put,cd,zd,Value.oneCell',lA,TypeDesc.aggB,Z0,cA,mA,Z1,oA,pA,qA,eA,D.pure?,ZC,ZD,sA,D.pv?,tt,nA,Zh,kD,ne_eq,not_true_eq_false,not_false_eq_true,cB] <;> exact rfl) ?_)
   refine jD rfl (by simp only [aA,St.ev,nB,oB,sA,D.pv?,ZG,ZH,zd,cd,Value.oneCell',Zr] <;> exact rfl) (acK hP (c76 S F (by omega) (by omega))) (by simp only [St.put,Za,Zb] <;> exact rfl) ?_
   (refine kA rfl (by simp (disch := omega) only [gA,aA,qop,fop,St.ev,St.put,cd,zd,Value.oneCell',lA,TypeDesc.aggB,Z0,cA,mA,Z1,oA,pA,qA,eA,D.pure?,ZC,ZD,sA,D.pv?,tt,nA,Zh,kD,ne_eq,not_true_eq_false,not_false_eq_true,cB] <;> exact rfl) ?_)
   refine bA ?_
   exact hK
  refine jA ?_
  refine fA ?_
  refine fA ?_
  refine iA hX hb [0,1,2,3] rfl (σ' := ?s6) (fun K hK => ?h6) ?n6
  case h6 =>
   iterate 4 (refine kA rfl (by simp (disch := omega) only [gA,aA,qop,fop,St.ev,St.put,cd,zd,Value.oneCell',lA,TypeDesc.aggB,Z0,cA,mA,Z1,oA,pA,qA,eA,D.pure?,ZC,ZD,mC,tt,nA,Zh,kD,ne_eq,not_true_eq_false,not_false_eq_true,cB] <;> exact rfl) ?_)
   refine bA ?_
   exact hK
  refine jA ?_
  refine uB ?_
  refine vD (ι := Nat × Nat) (fun p => p.1 ≤ lv.length ∧ p.2 ≤ 4096 ∧ ShN S F lv p.1 p.2) (fun p => ⟨[],[.any,.ptr 0 0,.any,.any,.p (i64 p.2),.any,.any,.any,.any,.any,.any,.any,.any,.any,.any,.any,.any,.any,.any,.any,.any,.any,.p (xD lv),.p (i64 (lv.length : Int)),.p (i64 p.1),.any,.any,.any,.any,.any,.any,.any,.any,.any,.any,.any,.any,.any,.any,.any,.any,.any,.any,.any,.any,.any,.any,.any,.any,.any,.any,.any,.any,.any,.any,.any,.any,.any,.any,.any,.any,.any,.any,.any,.any,.any,.any,.any],[⟨26,[.p (i64 (S : Int)),.p (i64 (F : Int)),.p (xD lv)]⟩],[]⟩) (fun p => lv.length - p.1) (0,yD S F) (by exact ⟨Nat.zero_le _,by dsimp only; omega,qAA (lN (by omega) (by omega))⟩) (sC ⟨rfl,(by repeat first | exact tA | refine qB ?_ | refine uA (by first | rfl | (refine congrArg (fun k => D.p (i64 k)) ?_; dsimp only; split <;> omega)) ?_),(vC rfl ((by repeat first | exact tA | refine qB ?_ | refine uA (by first | rfl | (refine congrArg (fun k => D.p (i64 k)) ?_; dsimp only; split <;> omega)) ?_)) (wB _)),(xB _),rfl,rfl⟩) ?_
  rintro ⟨i,n⟩ ⟨hi,hn,hs⟩
  dsimp only at hi hn hs ⊢
  refine fA ?_
  refine iA hX hb [0] rfl (σ' := ?s7) (fun K hK => ?h7) ?n7
  case h7 =>
   (refine kA rfl (by simp (disch := omega) only [gA,aA,qop,fop,St.ev,St.put,cd,zd,Value.oneCell',lA,TypeDesc.aggB,Z0,yA,iop,tt,nA,Zh,kD,ne_eq,not_true_eq_false,not_false_eq_true,cB] <;> exact rfl) ?_)
   refine bA ?_
   exact hK
  refine jA ?_
  refine fA ?_
  refine mB _ rfl (fun hc1 => ?_) (fun hc1 => ?_)
  ·try simp only [Zp,Zi,ZK,ZJ,ne_eq,Zn,Zm,ZB,ZA,ZI,not_or,not_and,Zu] at hc1
   refine tB ?_
   refine jA ?_
   refine fA ?_
   refine uB ?_
   refine fA ?_
   refine iA hX hb [0,1,2,3,4] rfl (σ' := ?s8) (fun K hK => ?h8) ?n8
   case h8 =>
    iterate 5 (refine kA rfl (by simp (disch := omega) only [gA,aA,qop,fop,St.ev,St.put,cd,zd,Value.oneCell',lA,TypeDesc.aggB,Z0,Int.toNat_zero,Int.toNat_one,wA,xA,vA,ZO,Nat.mul_one,ZC,Nat.zero_mul,Zh,Z1,oA,pA,qA,eA,D.pure?,ZD,tt,nA,kD,ne_eq,not_true_eq_false,not_false_eq_true,cB] <;> exact rfl) ?_)
    refine bA ?_
    exact hK
   refine jA ?_
   refine fA ?_
   refine fA ?_
   refine aI (t := 22) rfl fun hll => ?_
   unfold maxLen at hll
   refine nE hX hb [0,1,2,3,4,5,6,7,8,9,10,11,12,13,14,15] rfl (ts := [29,30,31,32,33,34,35,36,37,38,39,40,41,42,43]) (t := 44) (d := .p (bv ((lv.getD i []).length ≠ n ∨ (n = 1 ∧ i + 1 < lv.length)))) (σ' := ?s9) ?j9 ?h9 ?n9
   case j9 => simp only [St.join,List.foldl,Za,Zb]; exact rfl
   case h9 =>
    iterate 5 (all_goals refine kA rfl (by simp (disch := omega) only [gA,aA,qop,fop,St.ev,St.put,cd,zd,Value.oneCell',lA,TypeDesc.aggB,Z0,mC,yA,iop,cA,mA,Z1,oA,pA,qA,eA,D.pure?,ZC,ZD,tt,nA,Zh,kD,ne_eq,not_true_eq_false,not_false_eq_true,cB] <;> exact rfl) ?_)
    iterate 10 (all_goals first | (refine fC rfl rfl rfl (by simp (disch := omega) only [gA,aA,qop,fop,St.ev,St.put,cd,zd,Value.oneCell',lA,TypeDesc.aggB,Z0,mC,yA,iop,cA,mA,Z1,oA,pA,qA,eA,D.pure?,ZC,ZD,tt,nA,Zh,kD,ne_eq,not_true_eq_false,not_false_eq_true,cB] <;> exact rfl) ?_) | (first | (refine zB rfl rfl rfl (by simp only [St.put,Za,Zb] <;> exact rfl) ?_) | (refine aC rfl rfl rfl (by simp only [St.put,Za,Zb] <;> exact rfl) ?_)) | (refine yB rfl rfl rfl (by simp only [Za,Zb] <;> exact rfl) (by simp only [Za,Zb] <;> exact rfl) (fun hg => ?_) (fun hg => ?_) <;> (try simp only [Zp,Zi,ZJ,ZK,ne_eq,Zn,Zm,Bool.not_eq_true,Zu] at hg) <;> first | (refine fC rfl rfl rfl (by simp (disch := omega) only [gA,aA,qop,fop,St.ev,St.put,cd,zd,Value.oneCell',lA,TypeDesc.aggB,Z0,mC,yA,iop,cA,mA,Z1,oA,pA,qA,eA,D.pure?,ZC,ZD,tt,nA,Zh,kD,ne_eq,not_true_eq_false,not_false_eq_true,cB] <;> exact rfl) ?_) | (first | (refine zB rfl rfl rfl (by simp only [St.put,Za,Zb] <;> exact rfl) ?_) | (refine aC rfl rfl rfl (by simp only [St.put,Za,Zb] <;> exact rfl) ?_))))
    (all_goals refine kA rfl (by simp (disch := omega) only [gA,aA,qop,fop,St.ev,St.put,cd,zd,Value.oneCell',lA,TypeDesc.aggB,Z0,mC,yA,iop,cA,mA,Z1,oA,pA,qA,eA,D.pure?,ZC,ZD,tt,nA,Zh,kD,ne_eq,not_true_eq_false,not_false_eq_true,cB] <;> exact rfl) ?_)
    all_goals refine bA ?_
    all_goals refine ⟨rfl,?_,pD _,qD _,rfl,rfl⟩
    all_goals repeat' (first | exact tA | refine qB ?_ | refine uA rfl ?_ | refine uA ?_ ?_)
    all_goals refine jn ?_
    all_goals ((try simp only [Zp,Zi,ZJ,ZK,Bool.not_eq_true,Zm,Zn,ne_eq,Zf,true_iff,false_iff,iff_true,iff_false] at *) <;> omega)
   refine jA ?_
   refine mB _ rfl (fun hc2 => ?_) (fun hc2 => ?_)
   ·try simp only [Zp,Zi,ZK,ZJ,ne_eq,Zn,Zm,ZB,ZA,ZI,not_or,not_and,Zu] at hc2
    refine fA ?_
    refine iA hX hb [0] rfl (σ' := ?s10) (fun K hK => ?h10) ?n10
    case h10 =>
     (refine kA rfl (by simp (disch := omega) only [gA,aA,qop,fop,St.ev,St.put,cd,zd,Value.oneCell',lA,TypeDesc.aggB,Z0,t3,ti3,nA,Zh,kD,ne_eq,not_true_eq_false,not_false_eq_true,cB] <;> exact rfl) ?_)
     refine bA ?_
     exact hK
    refine jA ?_
    refine bC ?_
    refine nC ?_
    refine oE ?_
    refine nC ?_
    refine nC ?_
    refine oE ?_
    refine nC ?_
    exact tC rfl (sB rfl (by first | rfl | (first | exact congrArg (fun n => D.p (i64 n)) (tK (t := ⟨s,f,lv⟩) hc0).symm | exact congrArg (fun n => D.p (i64 n)) (fF (t := ⟨S,F,lv⟩) (by dsimp only; omega) (by dsimp only; omega) (yP hs (show i < lv.length by omega) hc2)).symm | exact congrArg (fun n => D.p (i64 n)) (fF (t := ⟨S,F,lv⟩) (by dsimp only; omega) (by dsimp only; omega) (by show shT S F lv = false; rw [show i = lv.length by omega] at hs; rw [bO hs]; exact decide_eq_false (by omega))).symm | exact congrArg (fun n => D.p (i64 n)) (dH (t := ⟨S,F,lv⟩) (by dsimp only; omega) (by dsimp only; omega) hsh hc5).symm | exact congrArg (fun n => D.p (i64 n)) (oH (t := ⟨S,F,lv⟩) (by dsimp only; omega) (by dsimp only; omega) hsh hc5).symm)))
   ·try simp only [Zp,Zi,ZK,ZJ,ne_eq,Zn,Zm,ZB,ZA,ZI,not_or,not_and,Zu] at hc2
    refine tB ?_
    refine jA ?_
    refine fA ?_
    refine fA ?_
    refine iA hX hb [0,1] rfl (σ' := ?s11) (fun K hK => ?h11) ?n11
    case h11 =>
     iterate 2 (refine kA rfl (by simp (disch := omega) only [gA,aA,qop,fop,St.ev,St.put,cd,zd,Value.oneCell',lA,TypeDesc.aggB,Z0,yA,iop,tt,nA,Zh,kD,ne_eq,not_true_eq_false,not_false_eq_true,cB] <;> exact rfl) ?_)
     refine bA ?_
     exact hK
    refine jA ?_
    refine mB _ rfl (fun hc3 => ?_) (fun hc3 => ?_)
    ·try simp only [Zp,Zi,ZK,ZJ,ne_eq,Zn,Zm,ZB,ZA,ZI,not_or,not_and,Zu] at hc3
     refine iA hX hb [0] rfl (σ' := ?s12) (fun K hK => ?h12) ?n12
     case h12 =>
      (refine kA rfl (by simp (disch := omega) only [gA,aA,qop,fop,St.ev,St.put,cd,zd,Value.oneCell',lA,TypeDesc.aggB,Z0,nA,Zh,kD,ne_eq,not_true_eq_false,not_false_eq_true,cB] <;> exact rfl) ?_)
      refine bA ?_
      exact hK
     refine jA ?_
     refine iA hX hb [0,1,2,3] rfl (σ' := ?s13) (fun K hK => ?h13) ?n13
     case h13 =>
      iterate 4 (refine kA rfl (by simp (disch := omega) only [gA,aA,qop,fop,St.ev,St.put,cd,zd,Value.oneCell',lA,TypeDesc.aggB,Z0,yA,iop,tt,nA,Zh,kD,ne_eq,not_true_eq_false,not_false_eq_true,cB] <;> exact rfl) ?_)
      refine bA ?_
      exact hK
     refine dE ?_
     refine jA ?_
     refine iA hX hb [0,1] rfl (σ' := ?s14) (fun K hK => ?h14) ?n14
     case h14 =>
      iterate 2 (refine kA rfl (by simp (disch := omega) only [gA,aA,qop,fop,St.ev,St.put,cd,zd,Value.oneCell',lA,TypeDesc.aggB,Z0,yA,iop,tt,nA,Zh,kD,ne_eq,not_true_eq_false,not_false_eq_true,cB] <;> exact rfl) ?_)
      refine bA ?_
      exact hK
     refine jA ?_
     exact ⟨(i + 1,((if n = 1 then 0 else n) + 1) / 2),by exact ⟨by dsimp only; omega,by dsimp only; split <;> omega,bX hs (by omega) (by omega) (by omega)⟩,by (try dsimp only); omega,sC ⟨rfl,(by repeat first | exact tA | refine qB ?_ | refine uA (by first | rfl | (refine congrArg (fun k => D.p (i64 k)) ?_; dsimp only; split <;> omega)) ?_),(vC rfl ((by repeat first | exact tA | refine qB ?_ | refine uA (by first | rfl | (refine congrArg (fun k => D.p (i64 k)) ?_; dsimp only; split <;> omega)) ?_)) (wB _)),(xB _),rfl,rfl⟩⟩
    ·try simp only [Zp,Zi,ZK,ZJ,ne_eq,Zn,Zm,ZB,ZA,ZI,not_or,not_and,Zu] at hc3
     refine tB ?_
     refine jA ?_
     refine iA hX hb [0,1,2,3] rfl (σ' := ?s15) (fun K hK => ?h15) ?n15
     case h15 =>
      iterate 4 (refine kA rfl (by simp (disch := omega) only [gA,aA,qop,fop,St.ev,St.put,cd,zd,Value.oneCell',lA,TypeDesc.aggB,Z0,yA,iop,tt,nA,Zh,kD,ne_eq,not_true_eq_false,not_false_eq_true,cB] <;> exact rfl) ?_)
      refine bA ?_
      exact hK
     refine dE ?_
     refine jA ?_
     refine iA hX hb [0,1] rfl (σ' := ?s16) (fun K hK => ?h16) ?n16
     case h16 =>
      iterate 2 (refine kA rfl (by simp (disch := omega) only [gA,aA,qop,fop,St.ev,St.put,cd,zd,Value.oneCell',lA,TypeDesc.aggB,Z0,yA,iop,tt,nA,Zh,kD,ne_eq,not_true_eq_false,not_false_eq_true,cB] <;> exact rfl) ?_)
      refine bA ?_
      exact hK
     refine jA ?_
     exact ⟨(i + 1,((if n = 1 then 0 else n) + 1) / 2),by exact ⟨by dsimp only; omega,by dsimp only; split <;> omega,bX hs (by omega) (by omega) (by omega)⟩,by (try dsimp only); omega,sC ⟨rfl,(by repeat first | exact tA | refine qB ?_ | refine uA (by first | rfl | (refine congrArg (fun k => D.p (i64 k)) ?_; dsimp only; split <;> omega)) ?_),(vC rfl ((by repeat first | exact tA | refine qB ?_ | refine uA (by first | rfl | (refine congrArg (fun k => D.p (i64 k)) ?_; dsimp only; split <;> omega)) ?_)) (wB _)),(xB _),rfl,rfl⟩⟩
  ·try simp only [Zp,Zi,ZK,ZJ,ne_eq,Zn,Zm,ZB,ZA,ZI,not_or,not_and,Zu] at hc1
   refine sD ?_
   refine fD ?_
   refine fD ?_
   refine dF ?_
   refine jA ?_
   refine fA ?_
   refine fA ?_
   refine iA hX hb [0,1] rfl (σ' := ?s17) (fun K hK => ?h17) ?n17
   case h17 =>
    iterate 2 (refine kA rfl (by simp (disch := omega) only [gA,aA,qop,fop,St.ev,St.put,cd,zd,Value.oneCell',lA,TypeDesc.aggB,Z0,yA,iop,tt,nA,Zh,kD,ne_eq,not_true_eq_false,not_false_eq_true,cB] <;> exact rfl) ?_)
    refine bA ?_
    exact hK
   refine jA ?_
   refine mB _ rfl (fun hc4 => ?_) (fun hc4 => ?_)
   ·try simp only [Zp,Zi,ZK,ZJ,ne_eq,Zn,Zm,ZB,ZA,ZI,not_or,not_and,Zu] at hc4
    refine fA ?_
    refine iA hX hb [0] rfl (σ' := ?s18) (fun K hK => ?h18) ?n18
    case h18 =>
     (refine kA rfl (by simp (disch := omega) only [gA,aA,qop,fop,St.ev,St.put,cd,zd,Value.oneCell',lA,TypeDesc.aggB,Z0,t3,ti3,nA,Zh,kD,ne_eq,not_true_eq_false,not_false_eq_true,cB] <;> exact rfl) ?_)
     refine bA ?_
     exact hK
    refine jA ?_
    refine bC ?_
    refine nC ?_
    exact tC rfl (sB rfl (by first | rfl | (first | exact congrArg (fun n => D.p (i64 n)) (tK (t := ⟨s,f,lv⟩) hc0).symm | exact congrArg (fun n => D.p (i64 n)) (fF (t := ⟨S,F,lv⟩) (by dsimp only; omega) (by dsimp only; omega) (yP hs (show i < lv.length by omega) hc2)).symm | exact congrArg (fun n => D.p (i64 n)) (fF (t := ⟨S,F,lv⟩) (by dsimp only; omega) (by dsimp only; omega) (by show shT S F lv = false; rw [show i = lv.length by omega] at hs; rw [bO hs]; exact decide_eq_false (by omega))).symm | exact congrArg (fun n => D.p (i64 n)) (dH (t := ⟨S,F,lv⟩) (by dsimp only; omega) (by dsimp only; omega) hsh hc5).symm | exact congrArg (fun n => D.p (i64 n)) (oH (t := ⟨S,F,lv⟩) (by dsimp only; omega) (by dsimp only; omega) hsh hc5).symm)))
   ·try simp only [Zp,Zi,ZK,ZJ,ne_eq,Zn,Zm,ZB,ZA,ZI,not_or,not_and,Zu] at hc4
    refine tB ?_
    refine jA ?_
    refine fA ?_
    have hsh : shT S F lv = true := by
     have e := hs
     rw [show i = lv.length by omega] at e
     rw [bO e]; exact decide_eq_true (by omega)
    have hhd := eM hsh
    refine zN hX hb (gD hP) [(0,true),(1,true),(2,true),(3,true),(4,true),(5,true),(6,true),(7,true)] 8 [(9,false),(10,false)] 9 [(8,false),(10,false)] (by kernel_rfl) (σ' := ?s19) (fun K hK => ?h19) ?n19
    case h19 =>
     iterate 8 (refine xE rfl (by simp (disch := omega) only [qop,fop,St.ev,St.put,cd,zd,Value.oneCell',lA,TypeDesc.aggB,Z0,cA,mA,Z1,oA,pA,qA,eA,D.pure?,ZC,ZD,Int.toNat_zero,Int.toNat_one,wA,xA,vA,ZO,Nat.mul_one,Nat.zero_mul,Zh,sA,D.pv?,ZM,ZL,ZG,ZH,St.addBox,Value.cells,iC,D.boxCells,D.live,D.cells?,ZN,St.setVec,tt,nA,kD,ne_eq,not_true_eq_false,not_false_eq_true,cB] <;> exact rfl) (by simp only [St.put,Za,Zb] <;> exact rfl) ?_)
     refine qC ?_
     refine ⟨?_,?_⟩
     ·refine pG rfl (by simp only [aA,St.ev,nB,oB,sA,D.pv?,ZG,ZH,zd,cd,Value.oneCell',Zr] <;> exact rfl) (acK hP (c67 c79 S F (lv.getD 0 []) (by omega) (by have := lN (s := S) (n := F) (by omega) (by omega); omega))) (by simp only [St.put,Za,Zb] <;> exact rfl) ?_
      iterate 2 (refine vG rfl (by simp (disch := omega) only [gA,aA,qop,fop,St.ev,St.put,cd,zd,Value.oneCell',lA,TypeDesc.aggB,Z0,cA,mA,Z1,oA,pA,qA,eA,D.pure?,ZC,ZD,Int.toNat_zero,Int.toNat_one,wA,xA,vA,ZO,Nat.mul_one,Nat.zero_mul,Zh,sA,D.pv?,ZM,ZL,ZG,ZH,St.addBox,Value.cells,iC,D.boxCells,D.live,D.cells?,ZN,St.setVec,tt,nA,kD,ne_eq,not_true_eq_false,not_false_eq_true,cB] <;> exact rfl) ?_)
      refine qC ?_
      exact hK
     ·(refine vG rfl (by simp (disch := omega) only [gA,aA,qop,fop,St.ev,St.put,cd,zd,Value.oneCell',lA,TypeDesc.aggB,Z0,cA,mA,Z1,oA,pA,qA,eA,D.pure?,ZC,ZD,Int.toNat_zero,Int.toNat_one,wA,xA,vA,ZO,Nat.mul_one,Nat.zero_mul,Zh,sA,D.pv?,ZM,ZL,ZG,ZH,St.addBox,Value.cells,iC,D.boxCells,D.live,D.cells?,ZN,St.setVec,tt,nA,kD,ne_eq,not_true_eq_false,not_false_eq_true,cB] <;> exact rfl) ?_)
      refine pG rfl (by simp only [aA,St.ev,nB,oB,sA,D.pv?,ZG,ZH,zd,cd,Value.oneCell',Zr] <;> exact rfl) (acK hP (c67 c79 S F (lv.getD 0 []) (by omega) (by have := lN (s := S) (n := F) (by omega) (by omega); omega))) (by simp only [St.put,Za,Zb] <;> exact rfl) ?_
      (refine vG rfl (by simp (disch := omega) only [gA,aA,qop,fop,St.ev,St.put,cd,zd,Value.oneCell',lA,TypeDesc.aggB,Z0,cA,mA,Z1,oA,pA,qA,eA,D.pure?,ZC,ZD,Int.toNat_zero,Int.toNat_one,wA,xA,vA,ZO,Nat.mul_one,Nat.zero_mul,Zh,sA,D.pv?,ZM,ZL,ZG,ZH,St.addBox,Value.cells,iC,D.boxCells,D.live,D.cells?,ZN,St.setVec,tt,nA,kD,ne_eq,not_true_eq_false,not_false_eq_true,cB] <;> exact rfl) ?_)
      refine qC ?_
      exact hK
    refine jA ?_
    refine fA ?_
    refine fA ?_
    refine iA hX hb [0,1,2,3,4,5] rfl (σ' := ?s20) (fun K hK => ?h20) ?n20
    case h20 =>
     iterate 4 (refine kA rfl (by simp (disch := omega) only [gA,aA,qop,fop,St.ev,St.put,cd,zd,Value.oneCell',lA,TypeDesc.aggB,Z0,cA,mA,Z1,oA,pA,qA,eA,D.pure?,ZC,ZD,sA,D.pv?,Bool.not_true,Bool.not_false,tt,nA,Zh,kD,ne_eq,not_true_eq_false,not_false_eq_true,cB] <;> exact rfl) ?_)
     refine jD rfl (by simp only [aA,St.ev,nB,oB,sA,D.pv?,ZG,ZH,zd,cd,Value.oneCell',Zr] <;> exact rfl) (acK hP (c77 _ _)) (by simp only [St.put,Za,Zb] <;> exact rfl) ?_
     (refine kA rfl (by simp (disch := omega) only [gA,aA,qop,fop,St.ev,St.put,cd,zd,Value.oneCell',lA,TypeDesc.aggB,Z0,cA,mA,Z1,oA,pA,qA,eA,D.pure?,ZC,ZD,sA,D.pv?,Bool.not_true,Bool.not_false,tt,nA,Zh,kD,ne_eq,not_true_eq_false,not_false_eq_true,cB] <;> exact rfl) ?_)
     refine bA ?_
     exact hK
    refine jA ?_
    refine mB _ rfl (fun hc5 => ?_) (fun hc5 => ?_)
    ·try simp only [Zp,Zi,ZK,ZJ,ne_eq,Zn,Zm,ZB,ZA,ZI,not_or,not_and,Zu] at hc5
     refine fA ?_
     refine iA hX hb [0] rfl (σ' := ?s21) (fun K hK => ?h21) ?n21
     case h21 =>
      (refine kA rfl (by simp (disch := omega) only [gA,aA,qop,fop,St.ev,St.put,cd,zd,Value.oneCell',lA,TypeDesc.aggB,Z0,tt,nA,Zh,kD,ne_eq,not_true_eq_false,not_false_eq_true,cB] <;> exact rfl) ?_)
      refine bA ?_
      exact hK
     refine jA ?_
     refine bC ?_
     refine nC ?_
     exact tC rfl (sB rfl (by first | rfl | (first | exact congrArg (fun n => D.p (i64 n)) (tK (t := ⟨s,f,lv⟩) hc0).symm | exact congrArg (fun n => D.p (i64 n)) (fF (t := ⟨S,F,lv⟩) (by dsimp only; omega) (by dsimp only; omega) (yP hs (show i < lv.length by omega) hc2)).symm | exact congrArg (fun n => D.p (i64 n)) (fF (t := ⟨S,F,lv⟩) (by dsimp only; omega) (by dsimp only; omega) (by show shT S F lv = false; rw [show i = lv.length by omega] at hs; rw [bO hs]; exact decide_eq_false (by omega))).symm | exact congrArg (fun n => D.p (i64 n)) (dH (t := ⟨S,F,lv⟩) (by dsimp only; omega) (by dsimp only; omega) hsh hc5).symm | exact congrArg (fun n => D.p (i64 n)) (oH (t := ⟨S,F,lv⟩) (by dsimp only; omega) (by dsimp only; omega) hsh hc5).symm)))
    ·try simp only [Zp,Zi,ZK,ZJ,ne_eq,Zn,Zm,ZB,ZA,ZI,not_or,not_and,Zu] at hc5
     refine tB ?_
     refine jA ?_
     refine fA ?_
     refine iA hX hb [0] rfl (σ' := ?s22) (fun K hK => ?h22) ?n22
     case h22 =>
      (refine kA rfl (by simp (disch := omega) only [gA,aA,qop,fop,St.ev,St.put,cd,zd,Value.oneCell',lA,TypeDesc.aggB,Z0,nA,Zh,kD,ne_eq,not_true_eq_false,not_false_eq_true,cB] <;> exact rfl) ?_)
      refine bA ?_
      exact hK
     refine jA ?_
     refine bC ?_
     exact tC rfl (sB rfl (by first | rfl | (first | exact congrArg (fun n => D.p (i64 n)) (tK (t := ⟨s,f,lv⟩) hc0).symm | exact congrArg (fun n => D.p (i64 n)) (fF (t := ⟨S,F,lv⟩) (by dsimp only; omega) (by dsimp only; omega) (yP hs (show i < lv.length by omega) hc2)).symm | exact congrArg (fun n => D.p (i64 n)) (fF (t := ⟨S,F,lv⟩) (by dsimp only; omega) (by dsimp only; omega) (by show shT S F lv = false; rw [show i = lv.length by omega] at hs; rw [bO hs]; exact decide_eq_false (by omega))).symm | exact congrArg (fun n => D.p (i64 n)) (dH (t := ⟨S,F,lv⟩) (by dsimp only; omega) (by dsimp only; omega) hsh hc5).symm | exact congrArg (fun n => D.p (i64 n)) (oH (t := ⟨S,F,lv⟩) (by dsimp only; omega) (by dsimp only; omega) hsh hc5).symm)))
end Go.Proofs.Ytldcoekbgfaomaa
end
section
namespace Go.Proofs.Ytldcoekbgfaomaa
open Go.RowKit
set_option maxRecDepth 20000
set_option maxHeartbeats 4000000
attribute [local irreducible] jE oD AW
theorem c35 (t : Tr) : ACalls Try.prog 35 [trP t] (.p (u64 (rP t))) := by
 obtain ⟨s,f,lv⟩ := t
 refine oC jC Try.func35 (c := _) rfl (by kernel_rfl) ?_
 intro X hP hX hro hpl
 have hb : tb.Ok X.P := hP ▸ jC
 change AW X _ _ ⟨[],[.agg [i64 s,i64 f,xD lv],.any,.any,.any,.any,.any,.any,.any,.any,.any,.any,.any,.any,.any,.any,.any],[],[]⟩
 refine fA ?_
 refine iA hX hb [0,1] rfl (σ' := ?s1) (fun K hK => ?h1) ?n1
 case h1 =>
  iterate 2 (refine kA rfl (by simp (disch := omega) only [gA,aA,qop,fop,St.ev,St.put,cd,zd,Value.oneCell',lA,TypeDesc.aggB,Z0,ZM,ZL,Zl,Zo,ZG,ZH,St.addBox,D.boxCells,D.live,tt,nA,rA,Zh,Int.toNat_zero] <;> exact rfl) ?_)
  refine bA ?_
  exact hK
 refine jA ?_
 refine fA ?_
 refine fA ?_
 refine iA hX hb [0,1,2] rfl (σ' := ?s2) (fun K hK => ?h2) ?n2
 case h2 =>
  (refine kA rfl (by simp (disch := omega) only [gA,aA,qop,fop,St.ev,St.put,cd,zd,Value.oneCell',lA,TypeDesc.aggB,Z0,Z1,oA,pA,qA,eA,D.pure?,ZC,ZD,sA,D.pv?,yA,iop,tt,nA,rA,Zh,Int.toNat_zero] <;> exact rfl) ?_)
  refine jD rfl (by simp only [aA,St.ev,nB,oB,sA,D.pv?,ZG,ZH,zd,cd,Value.oneCell',Zr] <;> exact rfl) (acK hP (c31 ⟨s,f,lv⟩)) (by simp only [St.put,Za,Zb] <;> exact rfl) ?_
  (refine kA rfl (by simp (disch := omega) only [gA,aA,qop,fop,St.ev,St.put,cd,zd,Value.oneCell',lA,TypeDesc.aggB,Z0,Z1,oA,pA,qA,eA,D.pure?,ZC,ZD,sA,D.pv?,yA,iop,tt,nA,rA,Zh,Int.toNat_zero] <;> exact rfl) ?_)
  refine bA ?_
  exact hK
 refine jA ?_
 refine mB _ rfl (fun hc0 => ?_) (fun hc0 => ?_)
 ·try simp only [Zp,Zi,ZK,ZJ,ne_eq,Zn,Zm,ZB,ZA,ZI,not_or,not_and,Zu] at hc0
  refine fA ?_
  refine iA hX hb [0] rfl (σ' := ?s3) (fun K hK => ?h3) ?n3
  case h3 =>
   (refine kA rfl (by simp (disch := omega) only [gA,aA,qop,fop,St.ev,St.put,cd,zd,Value.oneCell',lA,TypeDesc.aggB,Z0,nA,rA,Zh,Int.toNat_zero] <;> exact rfl) ?_)
   refine bA ?_
   exact hK
  refine jA ?_
  refine bC ?_
  refine nC ?_
  exact tC rfl (sB rfl (by first | rfl | (first | (rw [rP,if_pos hc0]; rfl) | (rw [rP,if_neg (not_not_intro hc0)]; rfl))))
 ·try simp only [Zp,Zi,ZK,ZJ,ne_eq,Zn,Zm,ZB,ZA,ZI,not_or,not_and,Zu] at hc0
  obtain ⟨S,F,hS,hF,q1,q2,q3,q4,q5,q6⟩ := nF hc0
  dsimp only at hS hF q5 q6
  have hne := (eM q5).1
  have hla := pV q5 (by intro h; rw [h] at hne; exact hne rfl)
  have hll : lv.length ≤ 4097 := by
   rw [← q6]
   refine lH 4096 _ ?_
   rw [(eM q5).2]
   exact Nat.le_trans (uI q3) q2
  refine tB ?_
  refine jA ?_
  refine fA ?_
  refine iA hX hb [0,1,2,3,4,5,6,7,8,9,10] rfl (σ' := ?s4) (fun K hK => ?h4) ?n4
  case h4 =>
   iterate 11 (refine kA rfl (by simp (disch := omega) only [gA,aA,qop,fop,St.ev,St.put,cd,zd,Value.oneCell',lA,TypeDesc.aggB,Z0,cA,mA,Z1,oA,pA,qA,eA,D.pure?,ZC,ZD,mC,yA,iop,Int.toNat_zero,Int.toNat_one,wA,xA,vA,ZO,Nat.mul_one,Nat.zero_mul,Zh,tt,nA,rA] <;> exact rfl) ?_)
   
   refine bA ?_
   exact hK
  refine jA ?_
  refine bC ?_
  exact tC rfl (sB rfl (by first | rfl | (first | (rw [rP,if_pos hc0]; rfl) | (rw [rP,if_neg (not_not_intro hc0)]; rfl))))
end Go.Proofs.Ytldcoekbgfaomaa
end
section
namespace Go.Proofs.Ytldcoekbgfaomaa
open Go.RowKit
set_option maxRecDepth 20000
set_option maxHeartbeats 4000000
attribute [local irreducible] jE oD AW
theorem dR {P : Program} {f : FuncId} {V : Vc} (h : ∀ (A : Option Addr) (c : Nat),ACallsO P f [.p (.v (.slice A 0 c))] V) : ACallsO P f [.p (.sl 0 [])] V :=
 ⟨(h none 0).en,fun F n C w vs hF hro hC hv => by
  obtain ⟨h1,h2⟩ := hv
  match vs,h1 with
  | [u],_ =>
  have hu := h2 0 _ u rfl rfl
  cases hu with | p _ _ hu =>
  obtain ⟨A,c,rfl⟩ := hu.sl_form
  refine (h A c).h F n C w [.slice A 0 c] hF hro hC ⟨rfl,fun j d u hd hu => ?_⟩
  cases j with
  | zero => simp at hd hu; subst hd; subst hu; exact .p _ _ (.v _ rfl)
  | succ j => simp at hd⟩
theorem dNA (l : List Int) (h : 0 < l.length) (h2 : l.length ≤ 4294967296) : ACallsO Try.prog 72 [.p (cH l)] ⟨58,1,l.length,l.map u64⟩ := by
 refine tI Try.func72 (c := _) rfl (by kernel_rfl) (t := 2) rfl ?_
 intro X hP hX hro hpl
 have hb : tb.Ok X.P := hP ▸ jC
 change AW X _ _ ⟨[],[.p (cH l),.any,.any,.any,.any,.any,.any,.any],[],[]⟩
 refine fA ?_
 refine iA hX hb [0] rfl (σ' := ?s1) (fun K hK => ?h1) ?n1
 case h1 =>
  (refine kA rfl (by simp (disch := omega) only [gA,aA,qop,fop,St.ev,St.put,cd,zd,Value.oneCell',lA,TypeDesc.aggB,Z0,Zh,tD,dD] <;> exact rfl) ?_)
  refine bA ?_
  exact hK
 refine jA ?_
 refine fA ?_
 refine fA ?_
 refine iA hX hb [0,1] rfl (σ' := ?s2) (fun K hK => ?h2) ?n2
 case h2 =>
  iterate 2 (refine kA rfl (by simp (disch := omega) only [gA,aA,qop,fop,St.ev,St.put,cd,zd,Value.oneCell',lA,TypeDesc.aggB,Z0,yA,iop,tt,Zh,tD,dD] <;> exact rfl) ?_)
  refine bA ?_
  exact hK
 refine jA ?_
 refine mB _ rfl (fun hc0 => ?_) (fun hc0 => ?_)
 ·try simp only [Zp,Zi,ZK,ZJ,ne_eq,Zn,Zm,ZB,ZA,ZI,not_or,not_and,Zu] at hc0
  cases hc0
 ·try simp only [Zp,Zi,ZK,ZJ,ne_eq,Zn,Zm,ZB,ZA,ZI,not_or,not_and,Zu] at hc0
  refine tB ?_
  refine jA ?_
  refine fA ?_
  refine iA hX (jN [5] hb) [0,1,2,3] rfl (σ' := ?s3) (fun K hK => ?h3) ?n3
  case h3 =>
   iterate 4 (refine kA rfl (by simp (disch := omega) only [gA,aA,qop,fop,St.ev,St.put,cd,zd,Value.oneCell',lA,TypeDesc.aggB,Z0,zD,wC,xC,aE,bB,rB,D.cells?,D.pure?,eB,fB,gB,iB,jB,ZG,ZH,ZL,ZM,ZN,Zl,Zo,zA,Nat.reduceAdd,Nat.reduceMul,cE,qG,St.demote,D.demote,St.setVec,Zh,List.length_append,ZC,Nat.mul_one,reduceIte,tt,tD,dD,xM,qI,nH,St.addVec] <;> exact rfl) ?_)
   refine bA ?_
   exact hK
  refine jA ?_
  refine bC ?_
  exact oK 0 rfl rfl rfl
theorem eNA (A : Option Addr) (c : Nat) : ACallsO Try.prog 72 [.p (.v (.slice A 0 c))] ⟨58,1,0,[]⟩ := by
 refine tI Try.func72 (c := _) rfl (by kernel_rfl) (t := 2) rfl ?_
 intro X hP hX hro hpl
 have hb : tb.Ok X.P := hP ▸ jC
 change AW X _ _ ⟨[],[.p (.v (.slice A 0 c)),.any,.any,.any,.any,.any,.any,.any],[],[]⟩
 refine fA ?_
 refine iA hX hb [0] rfl (σ' := ?s1) (fun K hK => ?h1) ?n1
 case h1 =>
  (refine kA rfl (by simp (disch := omega) only [gA,aA,qop,fop,St.ev,St.put,cd,zd,Value.oneCell',lA,TypeDesc.aggB,Z0] <;> exact rfl) ?_)
  refine bA ?_
  exact hK
 refine jA ?_
 refine fA ?_
 refine fA ?_
 refine iA hX hb [0,1] rfl (σ' := ?s2) (fun K hK => ?h2) ?n2
 case h2 =>
  iterate 2 (refine kA rfl (by simp (disch := omega) only [gA,aA,qop,fop,St.ev,St.put,cd,zd,Value.oneCell',lA,TypeDesc.aggB,Z0,yA,iop,tt] <;> exact rfl) ?_)
  refine bA ?_
  exact hK
 refine jA ?_
 refine mB _ rfl (fun hc0 => ?_) (fun hc0 => ?_)
 ·try simp only [Zp,Zi,ZK,ZJ,ne_eq,Zn,Zm,ZB,ZA,ZI,not_or,not_and,Zu] at hc0
  refine fA ?_
  refine iA hX hb [0] rfl (σ' := ?s3) (fun K hK => ?h3) ?n3
  case h3 =>
   (refine kA rfl (by simp (disch := omega) only [gA,aA,qop,fop,St.ev,St.put,cd,zd,Value.oneCell',lA,TypeDesc.aggB,Z0] <;> exact rfl) ?_)
   refine bA ?_
   exact hK
  refine jA ?_
  refine pK 2 58 1 rfl (σ' := ?s4) ?h4 ?n4
  case h4 => simp only [St.nilSlot,St.addVec,Za,Zb,Zl,Zo,ZL,ZM]; exact rfl
  refine bC ?_
  refine nC ?_
  exact oK 0 rfl rfl rfl
 ·try simp only [Zp,Zi,ZK,ZJ,ne_eq,Zn,Zm,ZB,ZA,ZI,not_or,not_and,Zu] at hc0
  refine tB ?_
  refine jA ?_
  refine fA ?_
  refine iCA 0 rfl (σ' := ?s99) ?h99 ?n99
  case h99 => simp only [Za]; exact rfl
  refine iA hX (jN [5] hb) [0,1,2,3] rfl (σ' := ?s5) (fun K hK => ?h5) ?n5
  case h5 =>
   iterate 4 (refine kA rfl (by simp (disch := omega) only [gA,aA,qop,fop,St.ev,St.put,cd,zd,Value.oneCell',lA,TypeDesc.aggB,Z0,zD,wC,xC,aE,bB,rB,D.cells?,D.pure?,eB,fB,gB,iB,jB,ZG,ZH,ZL,ZM,ZN,Zl,Zo,zA,Nat.reduceAdd,Nat.reduceMul,cE,qG,St.demote,D.demote,St.setVec,Zh,List.length_append,ZC,Nat.mul_one,reduceIte,tt,xM,qI,nH,St.addVec] <;> exact rfl) ?_)
   refine bA ?_
   exact hK
  refine jA ?_
  refine bC ?_
  exact oK 0 rfl rfl rfl
theorem o72 (l : List Int) (h2 : l.length ≤ 4294967296) : ACallsO Try.prog 72 [.p (cH l)] ⟨58,1,l.length,l.map u64⟩ := by
 rcases Nat.eq_zero_or_pos l.length with h | h
 ·rw [List.length_eq_zero_iff] at h
  subst h
  exact dR eNA
 ·exact dNA l h h2
theorem fNA (l : List Int) (h : 0 < l.length) (h2 : l.length ≤ 4294967296) : ACallsO Try.prog 88 [.p (gG l)] ⟨3,1,l.length,l.map i64⟩ := by
 refine tI Try.func88 (c := _) rfl (by kernel_rfl) (t := 2) rfl ?_
 intro X hP hX hro hpl
 have hb : tb.Ok X.P := hP ▸ jC
 change AW X _ _ ⟨[],[.p (gG l),.any,.any,.any,.any,.any,.any,.any],[],[]⟩
 refine fA ?_
 refine iA hX hb [0] rfl (σ' := ?s1) (fun K hK => ?h1) ?n1
 case h1 =>
  (refine kA rfl (by simp (disch := omega) only [gA,aA,qop,fop,St.ev,St.put,cd,zd,Value.oneCell',lA,TypeDesc.aggB,Z0,Zh,tD,dD] <;> exact rfl) ?_)
  refine bA ?_
  exact hK
 refine jA ?_
 refine fA ?_
 refine fA ?_
 refine iA hX hb [0,1] rfl (σ' := ?s2) (fun K hK => ?h2) ?n2
 case h2 =>
  iterate 2 (refine kA rfl (by simp (disch := omega) only [gA,aA,qop,fop,St.ev,St.put,cd,zd,Value.oneCell',lA,TypeDesc.aggB,Z0,yA,iop,tt,Zh,tD,dD] <;> exact rfl) ?_)
  refine bA ?_
  exact hK
 refine jA ?_
 refine mB _ rfl (fun hc0 => ?_) (fun hc0 => ?_)
 ·try simp only [Zp,Zi,ZK,ZJ,ne_eq,Zn,Zm,ZB,ZA,ZI,not_or,not_and,Zu] at hc0
  cases hc0
 ·try simp only [Zp,Zi,ZK,ZJ,ne_eq,Zn,Zm,ZB,ZA,ZI,not_or,not_and,Zu] at hc0
  refine tB ?_
  refine jA ?_
  refine fA ?_
  refine iA hX (jN [5] hb) [0,1,2,3] rfl (σ' := ?s3) (fun K hK => ?h3) ?n3
  case h3 =>
   iterate 4 (refine kA rfl (by simp (disch := omega) only [gA,aA,qop,fop,St.ev,St.put,cd,zd,Value.oneCell',lA,TypeDesc.aggB,Z0,zD,wC,xC,aE,bB,rB,D.cells?,D.pure?,eB,fB,gB,iB,jB,ZG,ZH,ZL,ZM,ZN,Zl,Zo,zA,Nat.reduceAdd,Nat.reduceMul,cE,qG,St.demote,D.demote,St.setVec,Zh,List.length_append,ZC,Nat.mul_one,reduceIte,tt,tD,dD,xM,qI,nH,St.addVec] <;> exact rfl) ?_)
   refine bA ?_
   exact hK
  refine jA ?_
  refine bC ?_
  exact oK 0 rfl rfl rfl
theorem gNA (A : Option Addr) (c : Nat) : ACallsO Try.prog 88 [.p (.v (.slice A 0 c))] ⟨3,1,0,[]⟩ := by
 refine tI Try.func88 (c := _) rfl (by kernel_rfl) (t := 2) rfl ?_
 intro X hP hX hro hpl
 have hb : tb.Ok X.P := hP ▸ jC
 change AW X _ _ ⟨[],[.p (.v (.slice A 0 c)),.any,.any,.any,.any,.any,.any,.any],[],[]⟩
 refine fA ?_
 refine iA hX hb [0] rfl (σ' := ?s1) (fun K hK => ?h1) ?n1
 case h1 =>
  (refine kA rfl (by simp (disch := omega) only [gA,aA,qop,fop,St.ev,St.put,cd,zd,Value.oneCell',lA,TypeDesc.aggB,Z0] <;> exact rfl) ?_)
  refine bA ?_
  exact hK
 refine jA ?_
 refine fA ?_
 refine fA ?_
 refine iA hX hb [0,1] rfl (σ' := ?s2) (fun K hK => ?h2) ?n2
 case h2 =>
  iterate 2 (refine kA rfl (by simp (disch := omega) only [gA,aA,qop,fop,St.ev,St.put,cd,zd,Value.oneCell',lA,TypeDesc.aggB,Z0,yA,iop,tt] <;> exact rfl) ?_)
  refine bA ?_
  exact hK
 refine jA ?_
 refine mB _ rfl (fun hc0 => ?_) (fun hc0 => ?_)
 ·try simp only [Zp,Zi,ZK,ZJ,ne_eq,Zn,Zm,ZB,ZA,ZI,not_or,not_and,Zu] at hc0
  refine fA ?_
  refine iA hX hb [0] rfl (σ' := ?s3) (fun K hK => ?h3) ?n3
  case h3 =>
   (refine kA rfl (by simp (disch := omega) only [gA,aA,qop,fop,St.ev,St.put,cd,zd,Value.oneCell',lA,TypeDesc.aggB,Z0] <;> exact rfl) ?_)
   refine bA ?_
   exact hK
  refine jA ?_
  refine pK 2 3 1 rfl (σ' := ?s4) ?h4 ?n4
  case h4 => simp only [St.nilSlot,St.addVec,Za,Zb,Zl,Zo,ZL,ZM]; exact rfl
  refine bC ?_
  refine nC ?_
  exact oK 0 rfl rfl rfl
 ·try simp only [Zp,Zi,ZK,ZJ,ne_eq,Zn,Zm,ZB,ZA,ZI,not_or,not_and,Zu] at hc0
  refine tB ?_
  refine jA ?_
  refine fA ?_
  refine iCA 0 rfl (σ' := ?s99) ?h99 ?n99
  case h99 => simp only [Za]; exact rfl
  refine iA hX (jN [5] hb) [0,1,2,3] rfl (σ' := ?s5) (fun K hK => ?h5) ?n5
  case h5 =>
   iterate 4 (refine kA rfl (by simp (disch := omega) only [gA,aA,qop,fop,St.ev,St.put,cd,zd,Value.oneCell',lA,TypeDesc.aggB,Z0,zD,wC,xC,aE,bB,rB,D.cells?,D.pure?,eB,fB,gB,iB,jB,ZG,ZH,ZL,ZM,ZN,Zl,Zo,zA,Nat.reduceAdd,Nat.reduceMul,cE,qG,St.demote,D.demote,St.setVec,Zh,List.length_append,ZC,Nat.mul_one,reduceIte,tt,xM,qI,nH,St.addVec] <;> exact rfl) ?_)
   refine bA ?_
   exact hK
  refine jA ?_
  refine bC ?_
  exact oK 0 rfl rfl rfl
theorem o88 (l : List Int) (h2 : l.length ≤ 4294967296) : ACallsO Try.prog 88 [.p (gG l)] ⟨3,1,l.length,l.map i64⟩ := by
 rcases Nat.eq_zero_or_pos l.length with h | h
 ·rw [List.length_eq_zero_iff] at h
  subst h
  exact dR gNA
 ·exact fNA l h h2
end Go.Proofs.Ytldcoekbgfaomaa
end
section
namespace Go.Proofs.Ytldcoekbgfaomaa
open Go.RowKit
set_option maxRecDepth 20000
set_option maxHeartbeats 4000000
attribute [local irreducible] jE oD AW
/-- Items that are extents. -/
def nG (l : List (Int × Int)) : List PV := l.map fun e => .agg [i64 e.1,i64 e.2]
theorem bK (l : List (Int × Int)) : (nG l).length = l.length := by simp [nG]
theorem dX (l : List (Int × Int)) (i : Nat) (h : i < l.length) : (nG l)[i]? = some (.agg [i64 (l.getD i (0,0)).1,i64 (l.getD i (0,0)).2]) := by simp [nG,h]
theorem eX {l : List (Int × Int)} {k : Nat} {y : PV} (h : (nG l)[k]? = some y) : k < l.length ∧ y = .agg [i64 (l.getD k (0,0)).1,i64 (l.getD k (0,0)).2] := by
 have hk : k < l.length := by have := (List.getElem?_eq_some_iff.1 h).1; simpa [nG] using this
 rw [dX l k hk] at h
 injection h with h
 exact ⟨hk,h.symm⟩
theorem sH (l : List (Int × Int)) (k : Nat) (h : k < l.length) : bE (l.take (k + 1)) = bE (l.take k) ++ [i64 (l.getD k (0,0)).1,i64 (l.getD k (0,0)).2] := by
 rw [uE l k h]; simp [bE]
theorem hNA (p q : Bool) : ACalls Try.prog 110 [.p (bv p),.p (bv q)] (.p (bv (p || q))) := by
 refine oC jC Try.func110 (c := _) rfl (by kernel_rfl) ?_
 intro X hP hX hro hpl
 have hb : tb.Ok X.P := hP ▸ jC
 change AW X _ _ ⟨[],[.p (bv p),.p (bv q),.any,.any,.any,.any,.any,.any,.any],[],[]⟩
 refine fA ?_
 refine iA hX hb [0] rfl (σ' := ?s1) (fun K hK => ?h1) ?n1
 case h1 =>
  (refine kA rfl (by simp (disch := omega) only [gA,aA,qop,fop,St.ev,St.put,cd,zd,Value.oneCell',lA,TypeDesc.aggB,Z0] <;> exact rfl) ?_)
  refine bA ?_
  exact hK
 refine jA ?_
 refine fA ?_
 refine nE hX hb [0,1,2,3,4] rfl (ts := [5,6,7,8]) (t := 4) (d := .p (bv (p = true ∨ q = true))) (σ' := ?s2) ?j2 ?h2 ?n2
 case j2 => simp only [St.join,List.foldl,Za,Zb]; exact rfl
 case h2 =>
  iterate 2 (all_goals refine kA rfl (by simp (disch := omega) only [gA,aA,qop,fop,St.ev,St.put,cd,zd,Value.oneCell',lA,TypeDesc.aggB,Z0,tt] <;> exact rfl) ?_)
  (all_goals first | (refine fC rfl rfl rfl (by simp (disch := omega) only [gA,aA,qop,fop,St.ev,St.put,cd,zd,Value.oneCell',lA,TypeDesc.aggB,Z0,tt] <;> exact rfl) ?_) | (first | (refine zB rfl rfl rfl (by simp only [St.put,Za,Zb] <;> exact rfl) ?_) | (refine aC rfl rfl rfl (by simp only [St.put,Za,Zb] <;> exact rfl) ?_)) | (refine yB rfl rfl rfl (by simp only [Za,Zb] <;> exact rfl) (by simp only [Za,Zb] <;> exact rfl) (fun hg => ?_) (fun hg => ?_) <;> (try simp only [Zp,Zi,ZJ,ZK,ne_eq,Zn,Zm,Bool.not_eq_true,Zu] at hg) <;> first | (refine fC rfl rfl rfl (by simp (disch := omega) only [gA,aA,qop,fop,St.ev,St.put,cd,zd,Value.oneCell',lA,TypeDesc.aggB,Z0,tt] <;> exact rfl) ?_) | (first | (refine zB rfl rfl rfl (by simp only [St.put,Za,Zb] <;> exact rfl) ?_) | (refine aC rfl rfl rfl (by simp only [St.put,Za,Zb] <;> exact rfl) ?_))))
  iterate 2 (all_goals refine kA rfl (by simp (disch := omega) only [gA,aA,qop,fop,St.ev,St.put,cd,zd,Value.oneCell',lA,TypeDesc.aggB,Z0,tt] <;> exact rfl) ?_)
  all_goals refine bA ?_
  all_goals refine ⟨rfl,?_,pD _,qD _,rfl,rfl⟩
  all_goals repeat' (first | exact tA | refine qB ?_ | refine uA rfl ?_ | refine uA ?_ ?_)
  all_goals refine jn ?_
  all_goals (cases p <;> cases q <;> simp_all)
 refine jA ?_
 refine bC ?_
 exact tC rfl (sB rfl (by first | rfl | (cases p <;> cases q <;> rfl)))
theorem iNA (s c : Nat) (h1 : 1 ≤ c) (h2 : s + c ≤ 4096) : ACalls Try.prog 122 [.agg [i64 s,i64 c]] (.tup [.p (i64 s),.p (i64 (s + c : Nat)),.p (bv true)]) := by
 refine oC jC Try.func122 (c := _) rfl (by kernel_rfl) ?_
 intro X hP hX hro hpl
 have hb : tb.Ok X.P := hP ▸ jC
 change AW X _ _ ⟨[],[.agg [i64 s,i64 c],.any,.any,.any,.any,.any,.any,.any,.any,.any,.any,.any,.any,.any,.any,.any,.any,.any,.any,.any,.any,.any,.any,.any,.any,.any,.any,.any,.any,.any,.any,.any,.any,.any,.any],[],[]⟩
 refine fA ?_
 refine iA hX hb [0,1,2,3] rfl (σ' := ?s1) (fun K hK => ?h1) ?n1
 case h1 =>
  iterate 4 (refine kA rfl (by simp (disch := omega) only [gA,aA,qop,fop,St.ev,St.put,cd,zd,Value.oneCell',lA,TypeDesc.aggB,Z0,ZM,ZL,Zl,Zo,ZG,ZH,St.addBox,D.boxCells,D.live,tt] <;> exact rfl) ?_)
  refine bA ?_
  exact hK
 refine jA ?_
 refine fA ?_
 refine fA ?_
 refine iA hX hb [0,1,2] rfl (σ' := ?s2) (fun K hK => ?h2) ?n2
 case h2 =>
  iterate 3 (refine kA rfl (by simp (disch := omega) only [gA,aA,qop,fop,St.ev,St.put,cd,zd,Value.oneCell',lA,TypeDesc.aggB,Z0,cA,mA,Z1,oA,pA,qA,eA,D.pure?,ZC,ZD,yA,iop,tt] <;> exact rfl) ?_)
  refine bA ?_
  exact hK
 refine jA ?_
 refine mB _ rfl (fun hc0 => ?_) (fun hc0 => ?_)
 ·try simp only [Zp,Zi,ZK,ZJ,ne_eq,Zn,Zm,ZB,ZA,ZI,not_or,not_and,Zu] at hc0
  omega
 ·try simp only [Zp,Zi,ZK,ZJ,ne_eq,Zn,Zm,ZB,ZA,ZI,not_or,not_and,Zu] at hc0
  refine tB ?_
  refine jA ?_
  refine fA ?_
  refine iA hX hb [0,1,2,3,4] rfl (σ' := ?s3) (fun K hK => ?h3) ?n3
  case h3 =>
   iterate 5 (refine kA rfl (by simp (disch := omega) only [gA,aA,qop,fop,St.ev,St.put,cd,zd,Value.oneCell',lA,TypeDesc.aggB,Z0,cA,mA,Z1,oA,pA,qA,eA,D.pure?,ZC,ZD,fFA,tt] <;> exact rfl) ?_)
   refine bA ?_
   exact hK
  refine jA ?_
  refine fA ?_
  refine fA ?_
  refine nE hX hb [0,1,2,3,4,5,6,7,8,9,10] rfl (ts := [13,14,15,16,17,18,19,20,21,22]) (t := 23) (d := .p (bv (c + s < 4096))) (σ' := ?s4) ?j4 ?h4 ?n4
  case j4 => simp only [St.join,List.foldl,Za,Zb]; exact rfl
  case h4 =>
   iterate 4 (all_goals refine kA rfl (by simp (disch := omega) only [gA,aA,qop,fop,St.ev,St.put,cd,zd,Value.oneCell',lA,TypeDesc.aggB,Z0,cA,mA,Z1,oA,pA,qA,eA,D.pure?,ZC,ZD,yA,iop,tt] <;> exact rfl) ?_)
   iterate 6 (all_goals first | (refine fC rfl rfl rfl (by simp (disch := omega) only [gA,aA,qop,fop,St.ev,St.put,cd,zd,Value.oneCell',lA,TypeDesc.aggB,Z0,cA,mA,Z1,oA,pA,qA,eA,D.pure?,ZC,ZD,yA,iop,tt] <;> exact rfl) ?_) | (first | (refine zB rfl rfl rfl (by simp only [St.put,Za,Zb] <;> exact rfl) ?_) | (refine aC rfl rfl rfl (by simp only [St.put,Za,Zb] <;> exact rfl) ?_)) | (refine yB rfl rfl rfl (by simp only [Za,Zb] <;> exact rfl) (by simp only [Za,Zb] <;> exact rfl) (fun hg => ?_) (fun hg => ?_) <;> (try simp only [Zp,Zi,ZJ,ZK,ne_eq,Zn,Zm,Bool.not_eq_true,Zu] at hg) <;> first | (refine fC rfl rfl rfl (by simp (disch := omega) only [gA,aA,qop,fop,St.ev,St.put,cd,zd,Value.oneCell',lA,TypeDesc.aggB,Z0,cA,mA,Z1,oA,pA,qA,eA,D.pure?,ZC,ZD,yA,iop,tt] <;> exact rfl) ?_) | (first | (refine zB rfl rfl rfl (by simp only [St.put,Za,Zb] <;> exact rfl) ?_) | (refine aC rfl rfl rfl (by simp only [St.put,Za,Zb] <;> exact rfl) ?_))))
   (all_goals refine kA rfl (by simp (disch := omega) only [gA,aA,qop,fop,St.ev,St.put,cd,zd,Value.oneCell',lA,TypeDesc.aggB,Z0,cA,mA,Z1,oA,pA,qA,eA,D.pure?,ZC,ZD,yA,iop,tt] <;> exact rfl) ?_)
   all_goals refine bA ?_
   all_goals refine ⟨rfl,?_,pD _,qD _,rfl,rfl⟩
   all_goals repeat' (first | exact tA | refine qB ?_ | refine uA rfl ?_ | refine uA ?_ ?_)
   all_goals refine jn ?_
   all_goals ((try simp only [Zp,Zi,ZJ,ZK,Bool.not_eq_true,Zm,Zn,ne_eq,Zf,true_iff,false_iff,iff_true,iff_false] at *) <;> omega)
  refine jA ?_
  refine mB _ rfl (fun hc1 => ?_) (fun hc1 => ?_)
  ·try simp only [Zp,Zi,ZK,ZJ,ne_eq,Zn,Zm,ZB,ZA,ZI,not_or,not_and,Zu] at hc1
   refine iA hX hb [0,1,2,3,4,5,6] rfl (σ' := ?s5) (fun K hK => ?h5) ?n5
   case h5 =>
    iterate 7 (refine kA rfl (by simp (disch := omega) only [gA,aA,qop,fop,St.ev,St.put,cd,zd,Value.oneCell',lA,TypeDesc.aggB,Z0,cA,mA,Z1,oA,pA,qA,eA,D.pure?,ZC,ZD,yA,iop,eF,tt] <;> exact rfl) ?_)
    refine bA ?_
    exact hK
   refine jA ?_
   refine fA ?_
   refine iA hX hb [0,1,2,3,4,5,6,7] rfl (σ' := ?s6) (fun K hK => ?h6) ?n6
   case h6 =>
    iterate 8 (refine kA rfl (by simp (disch := omega) only [gA,aA,qop,fop,St.ev,St.put,cd,zd,Value.oneCell',lA,TypeDesc.aggB,Z0,yA,iop,tt] <;> exact rfl) ?_)
    refine bA ?_
    exact hK
   refine jA ?_
   refine bC ?_
   exact tC rfl (cF rfl rfl rfl (by first | rfl | (first | (refine congrArg D.tup ?_; refine congr (congrArg _ (congrArg (fun n => PV.p (i64 n)) (by omega))) (congr (congrArg _ (congrArg (fun n => PV.p (i64 n)) (by omega))) (congrArg (fun b => [PV.p (bv b)]) (decide_eq_true (by omega))))))))
  ·try simp only [Zp,Zi,ZK,ZJ,ne_eq,Zn,Zm,ZB,ZA,ZI,not_or,not_and,Zu] at hc1
   refine tB ?_
   refine jA ?_
   refine fA ?_
   refine iA hX hb [0,1,2,3,4,5,6,7] rfl (σ' := ?s7) (fun K hK => ?h7) ?n7
   case h7 =>
    iterate 8 (refine kA rfl (by simp (disch := omega) only [gA,aA,qop,fop,St.ev,St.put,cd,zd,Value.oneCell',lA,TypeDesc.aggB,Z0,yA,iop,tt] <;> exact rfl) ?_)
    refine bA ?_
    exact hK
   refine jA ?_
   refine bC ?_
   exact tC rfl (cF rfl rfl rfl (by first | rfl | (first | (refine congrArg D.tup ?_; refine congr (congrArg _ (congrArg (fun n => PV.p (i64 n)) (by omega))) (congr (congrArg _ (congrArg (fun n => PV.p (i64 n)) (by omega))) (congrArg (fun b => [PV.p (bv b)]) (decide_eq_true (by omega))))))))
theorem jNA (f : FuncId) (xs : List P1) (l : List (Int × Int)) (hs : SeqC Try.prog f xs (nG l)) (hl : l.length ≤ 4294967296) : ACalls Try.prog 118 [.p (.v (.slice none 0 0)),.p (.clo f xs)] (.p (uC l)) := by
 refine oC jC Try.func118 (c := _) rfl (by kernel_rfl) ?_
 intro X hP hX hro hpl
 have hb : tb.Ok X.P := hP ▸ jC
 change AW X _ _ ⟨[],[.p (.v (.slice none 0 0)),.p (.clo f xs),.any,.any,.any,.any,.any,.any,.any,.any,.any,.any,.any],[],[]⟩
 refine dFA 0 rfl (σ' := ?s1) ?h1 ?n1
 case h1 => simp only [Za,Zb]; exact rfl
 refine fA ?_
 refine iA hX hb [0,1] rfl (σ' := ?s2) (fun K hK => ?h2) ?n2
 case h2 =>
  iterate 2 (refine kA rfl (by simp (disch := omega) only [gA,aA,qop,fop,St.ev,St.put,cd,zd,Value.oneCell',lA,TypeDesc.aggB,Z0,ZM,ZL,Zl,Zo,ZG,ZH,St.addBox,D.boxCells,D.live,tt,dD] <;> exact rfl) ?_)
  refine bA ?_
  exact hK
 refine jA ?_
 refine oP 0 0 _ 35 2 rfl rfl (σ' := ?s3) ?h3 ?n3
 case h3 => simp only [St.nilCell,St.addVec,Za,Zb,Zl,Zo,ZL,ZM]; exact rfl
 refine fA ?_
 refine fA ?_
 refine iA hX hb [0] rfl (σ' := ?s4) (fun K hK => ?h4) ?n4
 case h4 =>
  (refine kA rfl (by simp (disch := omega) only [gA,aA,qop,fop,St.ev,St.put,cd,zd,Value.oneCell',lA,TypeDesc.aggB,Z0,t1,ti1,dD] <;> exact rfl) ?_)
  refine bA ?_
  exact hK
 refine jA ?_
 refine uB ?_
 refine tL hX hro hpl.j [] [.any,.p (.clo f xs),.ptr 0 0,.any,.any,.any,.p (.clo f xs),.any,.any,.any,.any,.any,.any] 1 (fun (k : Nat) => [⟨40,[.vref 0]⟩]) (fun (k : Nat) => [some ⟨35,2,(l.take k).length,bE (l.take k)⟩]) [⟨40,[.vref 0]⟩] [some ⟨35,2,l.length,bE l⟩] (sC ⟨rfl,(by repeat first | exact tA | refine qB ?_ | refine uA (by first | rfl | (rw [sH l k hk]; simp <;> omega)) ?_),(vC rfl (uA (by first | rfl | (rw [sH l k hk]; simp <;> omega)) (tA)) (wB _)),(zE (by first | rfl | (rw [sH l k hk]; simp <;> omega)) (xB _)),rfl,rfl⟩) rfl rfl (hP ▸ (hs)) rfl rfl rfl (by first | rfl | (rw [bK,List.take_length])) (by first | rfl | (rw [bK,List.take_length])) ?_ ?_
 ·intro k y hy
  obtain ⟨hk,rfl⟩ := eX hy
  have hkl : (l.take k).length = k := by rw [List.length_take]; omega
  unfold zK
  intro X1 hQ hX
  have hP0 := hP; have hP := hQ.trans hP; have hb : tb.Ok X1.P := hP ▸ jC
  change AW X1 _ _ ⟨[.pin 1],[.any,.p (.clo f xs),.ptr 0 0,.any,.any,.any,.p (.clo f xs),.agg [i64 (l.getD k (0,0)).1,i64 (l.getD k (0,0)).2],.any,.any,.any,.any,.any],[⟨40,[.vref 0]⟩],[some ⟨35,2,(l.take k).length,bE (l.take k)⟩]⟩
  refine iA hX hb [0,1] rfl (σ' := ?s5) (fun K hK => ?h5) ?n5
  case h5 =>
   iterate 2 (refine kA rfl (by simp (disch := omega) only [gA,aA,qop,fop,St.ev,St.put,cd,zd,Value.oneCell',lA,TypeDesc.aggB,Z0,ZM,ZL,Z1,ZG,ZH,St.addBox,Value.cells,iC,D.boxCells,D.live,D.cells?,D.pure?,ZN,St.setVec,ZC,tt,dD] <;> exact rfl) ?_)
   refine bA ?_
   exact hK
  refine ⟨rfl,rfl,?_⟩
  intro X2 hQ2 hX
  have hP := hQ2.trans hP0; have hb : tb.Ok X2.P := hP ▸ jC
  refine uB ?_
  refine iA hX hb [0,1,2,3,4] rfl (σ' := ?s6) (fun K hK => ?h6) ?n6
  case h6 =>
   iterate 5 (refine kA rfl (by simp (disch := omega) only [gA,aA,qop,fop,St.ev,St.put,cd,zd,Value.oneCell',lA,TypeDesc.aggB,Z0,Z1,oA,pA,qA,eA,D.pure?,ZC,ZD,zD,wC,xC,aE,bB,rB,D.cells?,eB,fB,gB,iB,jB,ZG,ZH,ZL,ZM,ZN,zA,Nat.reduceAdd,Nat.reduceMul,cE,qG,St.demote,D.demote,St.setVec,Zh,List.length_append,Nat.mul_one,reduceIte,iC,D.boxCells,D.live,tt,dD] <;> exact rfl) ?_)
   refine bA ?_
   exact hK
  refine dE ?_
  exact ⟨rfl,sC ⟨(by first | rfl | (rw [sH l k hk]; simp <;> omega)),qB (qB (qB (qB (qB (qB (qB (qB (qB (qB (qB (qB (qB (tA))))))))))))),(vC rfl (uA (by first | rfl | (rw [sH l k hk]; simp <;> omega)) (tA)) (wB _)),(zE (by first | rfl | (rw [sH l k hk]; simp <;> omega)) (xB _)),rfl,rfl⟩⟩
 refine dE ?_
 refine jA ?_
 refine fA ?_
 refine mI 0 rfl (σ' := ?s8) ?h8 ?n8
 case h8 => simp only [St.freeze,D.freeze,ZG,ZH,Za,Zb,Zr,reduceIte,Nat.reduceEqDiff]; exact rfl
 refine iA hX hb [0,1] rfl (σ' := ?s7) (fun K hK => ?h7) ?n7
 case h7 =>
  iterate 2 (refine kA rfl (by simp (disch := omega) only [gA,aA,qop,fop,St.ev,St.put,cd,zd,Value.oneCell',lA,TypeDesc.aggB,Z0,Z1,oA,pA,qA,eA,D.pure?,ZC,ZD,tt,dD] <;> exact rfl) ?_)
  refine bA ?_
  exact hK
 refine jA ?_
 refine bC ?_
 exact cM (sB rfl rfl)
theorem kNA (f : FuncId) (xs : List P1) (l : List (Int × Int)) (hs : SeqC Try.prog f xs (nG l)) (hl : l.length ≤ 4294967296) : ACalls Try.prog 108 [.p (.clo f xs)] (.p (uC l)) := by
 refine oC jC Try.func108 (c := _) rfl (by kernel_rfl) ?_
 intro X hP hX hro hpl
 have hb : tb.Ok X.P := hP ▸ jC
 change AW X _ _ ⟨[],[.p (.clo f xs),.any,.any,.any,.any],[],[]⟩
 refine fA ?_
 refine iA hX hb [0] rfl (σ' := ?s1) (fun K hK => ?h1) ?n1
 case h1 =>
  (refine kA rfl (by simp (disch := omega) only [gA,aA,qop,fop,St.ev,St.put,cd,zd,Value.oneCell',lA,TypeDesc.aggB,Z0] <;> exact rfl) ?_)
  refine bA ?_
  exact hK
 refine jA ?_
 refine fA ?_
 refine iA hX hb [0,1,2] rfl (σ' := ?s2) (fun K hK => ?h2) ?n2
 case h2 =>
  (refine kA rfl (by simp (disch := omega) only [gA,aA,qop,fop,St.ev,St.put,cd,zd,Value.oneCell',lA,TypeDesc.aggB,Z0,sA,D.pv?,tt] <;> exact rfl) ?_)
  refine xGA rfl rfl (by simp only [St.ev,nB,oB,zd,cd,Value.oneCell',Zr] <;> exact rfl) (by simp only [dN,nD,D.pvC?,D.pvN?,D.pvL?,eA,D.pv?,D.pure?,St.ev,nB,oB,zd,cd,Value.oneCell',Zr,ZG,ZH,Zd,Zc,Zg] <;> exact rfl) (acK hP (jNA f xs l hs hl)) (by simp only [St.put,Za,Zb] <;> exact rfl) ?_
  (refine kA rfl (by simp (disch := omega) only [gA,aA,qop,fop,St.ev,St.put,cd,zd,Value.oneCell',lA,TypeDesc.aggB,Z0,sA,D.pv?,tt] <;> exact rfl) ?_)
  refine bA ?_
  exact hK
 refine jA ?_
 refine bC ?_
 exact tC rfl (sB rfl rfl)
theorem lNA (a b : List (Int × Int)) (g : FuncId) : ACalls Try.prog 109 [.p (uC a),.p (uC b),.p (.v (.func (.func g) #[] #[]))] (.p (.clo 119 [uC a,uC b,.v (.func (.func g) #[] #[])])) := by
 refine sO Try.func109 (c := _) rfl (by kernel_rfl) (t := 6) rfl ?_
 intro X hP hX hro hpl
 have hb : tb.Ok X.P := hP ▸ jC
 change AW X _ _ ⟨[],[.p (uC a),.p (uC b),.p (.v (.func (.func g) #[] #[])),.any,.any,.any,.any,.any],[],[]⟩
 refine fA ?_
 refine iA hX hb [0,1,2,3] rfl (σ' := ?s1) (fun K hK => ?h1) ?n1
 case h1 =>
  iterate 4 (refine kA rfl (by simp (disch := omega) only [gA,aA,qop,fop,St.ev,St.put,cd,zd,Value.oneCell',lA,TypeDesc.aggB,Z0,ZM,ZL,Zl,Zo,ZG,ZH,St.addBox,D.boxCells,D.live,tt] <;> exact rfl) ?_)
  refine bA ?_
  exact hK
 refine jA ?_
 refine fA ?_
 refine iA hX hb [0,1] rfl (σ' := ?s2) (fun K hK => ?h2) ?n2
 case h2 =>
  iterate 2 (refine kA rfl (by simp (disch := omega) only [gA,aA,qop,fop,St.ev,St.put,cd,zd,Value.oneCell',lA,TypeDesc.aggB,Z0,gL,eq_self,Array.toList,tt] <;> exact rfl) ?_)
  refine bA ?_
  exact hK
 refine jA ?_
 refine bC ?_
 exact rY [0,1,2] rfl (by simp only [nD,D.pure?,Zd,Zc] <;> exact rfl)
end Go.Proofs.Ytldcoekbgfaomaa
end
section
namespace Go.Proofs.Ytldcoekbgfaomaa
open Go.Shelf
def rAA : Go.Shelf.Ren := ⟨fun | 6 => 123 | 15 => 127 | 14 => 126 | 28 => 137 | 29 => 138 | 20 => 129 | 21 => 130 | 22 => 131 | 23 => 132 | 24 => 133 | 25 => 134 | 26 => 135 | 27 => 136 | 46 => 139 | 47 => 140 | 48 => 141 | 49 => 142 | 50 => 143 | 57 => 144 | n => n,fun | 22 => 181 | 24 => 185 | 25 => 190 | 3 => 3 | 39 => 177 | 0 => 0 | 53 => 201 | 55 => 58 | 4 => 4 | 46 => 195 | 45 => 194 | 50 => 131 | 5 => 5 | 9 => 9 | 66 => 203 | 70 => 207 | 76 => 209 | 77 => 108 | n => n,fun | n => n⟩
theorem mGA : Go.Proofs.SlLaysF0.n6 Try.prog rAA := {
 mixed := by kernel_rfl
 f6 := ⟨Try.f123.name,by decide,Try.func123.trans (congrArg some (by kernel_rfl))⟩
 f14 := ⟨Try.f126.name,by decide,Try.func126.trans (congrArg some (by kernel_rfl))⟩
 f15 := Try.func127.trans (congrArg some (by kernel_rfl))
 f20 := ⟨Try.f129.name,by decide,Try.func129.trans (congrArg some (by kernel_rfl))⟩
 f21 := ⟨Try.f130.name,by decide,Try.func130.trans (congrArg some (by kernel_rfl))⟩
 f22 := ⟨Try.f131.name,by decide,Try.func131.trans (congrArg some (by kernel_rfl))⟩
 f23 := ⟨Try.f132.name,by decide,Try.func132.trans (congrArg some (by kernel_rfl))⟩
 f24 := ⟨Try.f133.name,by decide,Try.func133.trans (congrArg some (by kernel_rfl))⟩
 f25 := ⟨Try.f134.name,by decide,Try.func134.trans (congrArg some (by kernel_rfl))⟩
 f26 := ⟨Try.f135.name,by decide,Try.func135.trans (congrArg some (by kernel_rfl))⟩
 f27 := ⟨Try.f136.name,by decide,Try.func136.trans (congrArg some (by kernel_rfl))⟩
 f28 := Try.func137.trans (congrArg some (by kernel_rfl))
 f29 := Try.func138.trans (congrArg some (by kernel_rfl))
 f46 := ⟨Try.f139.name,by decide,Try.func139.trans (congrArg some (by kernel_rfl))⟩
 f47 := Try.func140.trans (congrArg some (by kernel_rfl))
 f48 := Try.func141.trans (congrArg some (by kernel_rfl))
 f49 := ⟨Try.f142.name,by decide,Try.func142.trans (congrArg some (by kernel_rfl))⟩
 f50 := ⟨Try.f143.name,by decide,Try.func143.trans (congrArg some (by kernel_rfl))⟩
 f57 := ⟨Try.f144.name,by decide,Try.func144.trans (congrArg some (by kernel_rfl))⟩
 t0 := Try.underlying0
 a0 := Try.isAgg0
 z0 := Try.sizeOf0
 v0 := Try.zeroValue0
 t3 := Try.underlying3
 a3 := Try.isAgg3
 z3 := Try.sizeOf3
 v3 := Try.zeroValue3
 t4 := Try.underlying4
 a4 := Try.isAgg4
 z4 := Try.sizeOf4
 v4 := Try.zeroValue4
 t5 := Try.underlying5
 a5 := Try.isAgg5
 z5 := Try.sizeOf5
 v5 := Try.zeroValue5
 t9 := Try.underlying9
 a9 := Try.isAgg9
 z9 := Try.sizeOf9
 v9 := Try.zeroValue9
 t22 := Try.underlying181
 a22 := Try.isAgg181
 z22 := Try.sizeOf181
 v22 := Try.zeroValue181
 t25 := Try.underlying190
 a25 := Try.isAgg190
 z25 := Try.sizeOf190
 v25 := Try.zeroValue190
 t39 := Try.underlying177
 a39 := Try.isAgg177
 z39 := Try.sizeOf177
 v39 := Try.zeroValue177
 t45 := Try.underlying194
 a45 := Try.isAgg194
 z45 := Try.sizeOf194
 v45 := Try.zeroValue194
 t46 := Try.underlying195
 a46 := Try.isAgg195
 z46 := Try.sizeOf195
 v46 := Try.zeroValue195
 t50 := Try.underlying131
 a50 := Try.isAgg131
 z50 := Try.sizeOf131
 v50 := Try.zeroValue131
 t53 := Try.underlying201
 a53 := Try.isAgg201
 z53 := Try.sizeOf201
 v53 := Try.zeroValue201
 t55 := Try.underlying58
 a55 := Try.isAgg58
 z55 := Try.sizeOf58
 v55 := Try.zeroValue58
 t66 := Try.underlying203
 a66 := Try.isAgg203
 z66 := Try.sizeOf203
 v66 := Try.zeroValue203
 t70 := Try.underlying207
 a70 := Try.isAgg207
 z70 := Try.sizeOf207
 v70 := Try.zeroValue207
 t76 := Try.underlying209
 a76 := Try.isAgg209
 z76 := Try.sizeOf209
 v76 := Try.zeroValue209
 t77 := Try.underlying108
 a77 := Try.isAgg108
 z77 := Try.sizeOf108
 v77 := Try.zeroValue108 }
def oDA : Go.Shelf.Ren := ⟨fun | 5 => 125 | 7 => 128 | n => n,fun | 22 => 3 | 3 => 3 | 4 => 4 | n => n,fun | n => n⟩
theorem mNA : Go.Proofs.SlLaysC2.n5 Try.prog oDA := {
 mixed := by kernel_rfl
 f5 := ⟨Try.f125.name,by decide,Try.func125.trans (congrArg some (by kernel_rfl))⟩
 f7 := ⟨Try.f128.name,by decide,Try.func128.trans (congrArg some (by kernel_rfl))⟩
 t3 := Try.underlying3
 a3 := Try.isAgg3
 z3 := Try.sizeOf3
 v3 := Try.zeroValue3
 t4 := Try.underlying4
 a4 := Try.isAgg4
 z4 := Try.sizeOf4
 v4 := Try.zeroValue4
 t22 := Try.underlying3
 a22 := Try.isAgg3
 z22 := Try.sizeOf3
 v22 := Try.zeroValue3 }
end Go.Proofs.Ytldcoekbgfaomaa
end
section
namespace Go.Proofs.Ytldcoekbgfaomaa
open Go.RowKit Go.Shelf Go.Lib Go.Sort
theorem yY {F : Fence} (hF : Wide F) {n : Nat} {P : Program} {f : FuncId} {args : Array Value} {w : World} {R : Ending → World → Prop} (h : Calls P f args w R) : CallsIn F n P f args w R := by
 obtain ⟨fn,depth,alive,round⟩ := F
 obtain ⟨h1,h2,h3⟩ := hF
 simp only at h1 h2 h3
 subst h2
 subst h3
 have e : fn = fun _ => True := by funext x; exact eq_true (h1 x)
 subst e
 exact (callsIn_wide (n := n)).2 h
@[reducible] def rG : Type := Int × Int × Int
def fJ (x : rG) : List Value := [.int .i64 x.1,.int .i64 x.2.1,.int .i64 x.2.2]
def lR (x y : rG) : Int := Lib.compareInt x.1 y.1
theorem ltE (x y : rG) : ltOf lR x y = decide (x.1 < y.1) := by
 unfold ltOf lR Lib.compareInt
 by_cases h1 : x.1 < y.1
 ·simp [h1]
 ·by_cases h2 : y.1 < x.1 <;> simp [h1,h2]
theorem yHA : SWO (ltOf lR) where
 irrefl x := by rw [ltE]; simp
 trans x y z h1 h2 := by rw [ltE] at *; simp at *; omega
 ntrans x y z h1 h2 := by rw [ltE] at *; simp at *; omega
set_option maxHeartbeats 1000000 in
theorem zY (x y : rG) (W : World) : Calls Try.prog 124 #[.agg (fJ x).toArray,.agg (fJ y).toArray] W fun e w' => e = .returned (.int .i64 (lR x y)) ∧ ∃ q os',w' = grow (W.drewN q) os' := by
 have hcon := fun W' => AnyG.cmp_Compare_int mNA x.1 y.1 W'
 change ∀ W',Calls Try.prog 125 _ _ _ at hcon
 unfold lR
 generalize Lib.compareInt x.1 y.1 = r at hcon ⊢
 unfold fJ
 go_enter Try.func124,Try.ntmps124
 go_wp2_with (go_at_call 125; refine (hcon _).mono ?_; rintro e w' ⟨rfl,rfl⟩)
 go_ret
 exact ⟨rfl,0,_,by rw [alloc_eq_grow,alloc_eq_grow,grow_grow]; rfl⟩
def fH (es : List rG) : List P1 := es.flatMap fun e => [i64 e.1,i64 e.2.1,i64 e.2.2]
theorem aB (es : List rG) : (fH es).length = es.length * 3 := bI _ 3 (fun _ => rfl) es
/-- What the sort leaves. -/
def gH (es : List rG) : List rG := if es.length = 0 then [] else (pdq (ltOf lR) es.toArray 0 es.length (Lib.bitLen es.length) true true).toList
theorem eR {α : Type} (A : Array α) (n : Nat) (h : A.size = n) : A.extract 0 n = A := by
 subst h
 exact Array.extract_size
theorem fR {α : Type} [Inhabited α] {A : Array α} {i : Nat} {x : α} (h : A.toList[i]? = some x) : A[i]! = x := by
 rw [Array.getElem?_toList] at h
 rw [Array.getElem!_eq_getD,Array.getD_eq_getD_getElem?,h]
 rfl
theorem uK (es : List rG) : (gH es).Perm es := by
 unfold gH
 split
 ·rename_i h
  rw [List.length_eq_zero_iff] at h
  subst h
  exact List.Perm.refl _
 ·have h := (pdq_sorts (ltOf lR) yHA es.toArray 0 es.length (Lib.bitLen es.length) true true (Nat.zero_le _) (by simp) (Or.inl rfl)).1
  have h1 := h.1
  have h2 := h.2.2
  have e1 : es.toArray.extract 0 es.length = es.toArray := eR _ _ (by simp)
  have e2 : (pdq (ltOf lR) es.toArray 0 es.length (Lib.bitLen es.length) true true).extract 0 es.length = pdq (ltOf lR) es.toArray 0 es.length (Lib.bitLen es.length) true true := eR _ _ (by rw [h1]; simp)
  rw [e1,e2] at h2
  exact h2
theorem sV (es : List rG) (i j : Nat) (x y : rG) (hij : i < j) (hi : (gH es)[i]? = some x) (hj : (gH es)[j]? = some y) : x.1 ≤ y.1 := by
 have hl := (uK es).length_eq
 have hjl := (List.getElem?_eq_some_iff.1 hj).1
 rw [hl] at hjl
 clear hl
 unfold gH at hi hj
 split at hi
 ·simp at hi
 ·rename_i h0
  rw [if_neg h0] at hj
  have h := (pdq_sorts (ltOf lR) yHA es.toArray 0 es.length (Lib.bitLen es.length) true true (Nat.zero_le _) (by simp) (Or.inl rfl)).2 i j (Nat.zero_le _) hij hjl
  rw [fR hi,fR hj,ltE] at h
  simpa using h
theorem aQ {α : Type} (f : α → List Value) (n : Nat) (hf : ∀ a,(f a).length = n) (d : α) : ∀ (l : List α) (i k : Nat),i < l.length → k < n → (l.flatMap f)[i * n + k]? = (f (l.getD i d))[k]?
 | [],i,k,h,_ => by simp at h
 | a :: l,0,k,_,hk => by
  simp only [List.flatMap_cons,Nat.zero_mul,ZC,List.getD_cons_zero]
  rw [List.getElem?_append_left (by rw [hf]; exact hk)]
 | a :: l,i + 1,k,h,hk => by
  simp only [List.flatMap_cons,List.getD_cons_succ]
  have e : (i + 1) * n = i * n + n := Nat.succ_mul ..
  rw [List.getElem?_append_right (by rw [hf]; omega),hf,show (i + 1) * n + k - n = i * n + k by omega]
  exact aQ f n hf d l i k (by simpa using h) hk
theorem gJ {α : Type} (f : α → List Value) (n : Nat) (hf : ∀ a,(f a).length = n) : ∀ (l : List α),(l.flatMap f).length = l.length * n
 | [] => by simp
 | a :: l => by
  simp only [List.flatMap_cons,List.length_append,hf,gJ f n hf l,Zl,Nat.succ_mul]
  omega
theorem rS {α : Type} [Inhabited α] (l : List α) (i : Nat) (h : i < l.length) : l.toArray[i]! = l.getD i default := by
 rw [Array.getElem!_eq_getD,Array.getD_eq_getD_getElem?,List.getD_eq_getElem?_getD]
 simp
theorem kU (es : List rG) : flatK fJ 3 es.toArray = (es.flatMap fJ).toArray := by
 apply Array.ext'
 apply List.ext_getElem?
 intro t
 by_cases ht : t < es.length * 3
 ·have h1 := get_flatK fJ 3 es.toArray t (by simpa using ht)
  have h2 : t < (flatK fJ 3 es.toArray).size := by simpa using ht
  rw [Array.getElem?_toList,Array.getElem?_eq_getElem h2]
  rw [getElem!_pos _ t h2] at h1
  rw [h1]
  have h3 := aQ fJ 3 (fun _ => rfl) default es (t / 3) (t % 3) (by omega) (by omega)
  rw [show t / 3 * 3 + t % 3 = t by omega] at h3
  show _ = (es.flatMap fJ)[t]?
  rw [h3,rS es (t / 3) (by omega)]
  have hm : t % 3 = 0 ∨ t % 3 = 1 ∨ t % 3 = 2 := by omega
  rcases hm with hm | hm | hm <;> rw [hm] <;> rfl
 ·rw [List.getElem?_eq_none (by simp; omega),List.getElem?_eq_none (by show (es.flatMap fJ).length ≤ t; rw [gJ fJ 3 (fun _ => rfl)]; omega)]
theorem nNA (w : World) (g j : Nat) (cur : Array Value) (e : TypeId) (h : w.heap[g]? = some (.cells cur e (0,0))) : w.frozen? ⟨g,j,none⟩ = false := frozen_of_row w g j cur e h
/-- **slices.SortFunc at ends of extents.** -/
theorem oNA (es : List rG) (hl : es.length ≤ 4294967296) : ACallsS Try.prog 123 124 185 3 es.length (fH es) (fH (gH es)) := by
 refine ⟨⟨_,Try.func123,by kernel_rfl,by kernel_rfl⟩,fun F k C w v us hF hown hul hR => yY hF ?_⟩
 have hus : us = es.flatMap fJ := by
  apply List.ext_getElem?
  intro t
  rw [aB] at hul
  by_cases ht : t < es.length * 3
  ·have h3 := aQ fJ 3 (fun _ => rfl) default es (t / 3) (t % 3) (by omega) (by omega)
   have h4 := aL (fun e : rG => [i64 e.1,i64 e.2.1,i64 e.2.2]) 3 (fun _ => rfl) default es (t / 3) (t % 3) (by omega) (by omega)
   rw [show t / 3 * 3 + t % 3 = t by omega] at h3 h4
   have hu : us[t]? = some (us[t]'(by omega)) := List.getElem?_eq_getElem _
   have hm : t % 3 = 0 ∨ t % 3 = 1 ∨ t % 3 = 2 := by omega
   rw [h3,hu]
   rcases hm with hm | hm | hm <;> rw [hm] at h4 ⊢ <;>
   ·have hr := hR t _ _ h4 hu
    generalize us[t]'(by omega) = u at hr ⊢
    cases hr
    rfl
  ·rw [List.getElem?_eq_none (by omega),List.getElem?_eq_none (by rw [gJ fJ 3 (fun _ => rfl)]; omega)]
 subst hus
 rcases Nat.eq_zero_or_pos es.length with h0 | h0
 ·have hs : gH es = es := by rw [gH,if_pos h0,List.length_eq_zero_iff.1 h0]
  rw [hs,h0]
  rw [h0] at hown
  obtain ⟨p,cap,rfl⟩ : ∃ p cap,v = .slice p 0 cap := by
   rcases hown.2 with ⟨rfl,_⟩ | ⟨g,cap,cur,rfl,_⟩
   ·exact ⟨_,_,rfl⟩
   ·exact ⟨_,_,rfl⟩
  have hcon := AnyF.slices_SortFunc_none mGA p cap (.func (.func 124) #[] #[]) w
  change Calls Try.prog 123 _ _ _ at hcon
  refine hcon.mono ?_
  rintro e w' ⟨rfl,rfl⟩
  exact ⟨⟨_,rfl⟩,⟨rfl,rfl,rfl,Nat.le_refl _,fun _ _ _ => rfl⟩,_,hown,hul,hR⟩
 ·rcases hown.2 with ⟨_,h⟩ | ⟨g,cap,cur,rfl,hbg,hheap,hnc,hcm,hcs,htake⟩
  ·omega
  ·have eg : ∀ args w,(callFunc 124 args).run Try.prog w = .ok (.enter 124 args) w := enters_of Try.func124 (by kernel_rfl) rfl
   have hlen : (es.flatMap fJ).length = es.length * 3 := gJ fJ 3 (fun _ => rfl) es
   have hH : HoldsK fJ 3 w g 0 es.toArray := by
    unfold HoldsK
    rw [kU]
    intro j hj
    simp only [List.size_toArray] at hj
    refine ⟨?_,nNA w g _ cur 185 hheap⟩
    rw [cell_of_row w g _ cur 185 (0,0) hheap,rS _ j hj,Nat.zero_add]
    have h1 : (cur.toList.take (es.length * 3))[j]? = (es.flatMap fJ)[j]? := by rw [htake]
    rw [List.getElem?_take,if_pos (by omega)] at h1
    rw [← Array.getElem?_toList,h1,List.getElem?_eq_getElem hj,List.getD_eq_getElem?_getD,List.getElem?_eq_getElem hj]
    rfl
   have hcon := AnyQ.slices_SortFunc_eq mGA 3 Try.isAgg185 Try.sizeOf185 fJ (fun _ => rfl) (fun x v hv => by simp [fJ] at hv; rcases hv with rfl | rfl | rfl <;> rfl) lR yHA 124 #[] g 0 cap es.toArray w eg
    (fun _ _ _ _ x y => zY x y _) hH (Array.getElem?_eq_some_iff.1 hheap).1 (by simp; omega)
   change Calls Try.prog 123 _ _ _ at hcon
   simp only [List.size_toArray] at hcon
   refine hcon.mono ?_
   rintro e w' ⟨rfl,n,os,rfl⟩
   have hsE : pdq (ltOf lR) es.toArray 0 es.length (Lib.bitLen es.length) true true = (gH es).toArray := by
    rw [gH,if_neg (by omega)]
   rw [hsE]
   have hsl : (gH es).length = es.length := (uK es).length_eq
   have hlen' : ((gH es).flatMap fJ).length = es.length * 3 := by rw [gJ fJ 3 (fun _ => rfl),hsl]
   have hlt := (Array.getElem?_eq_some_iff.1 hheap).1
   let cur' : Array Value := putCells id 0 (((gH es).flatMap fJ).toArray) cur
   have hheap' : ∀ k,k < w.heap.size → (sortWorldK fJ 3 w g 0 n (gH es).toArray os).heap[k]? = if k = g then some (.cells cur' 185 (0,0)) else w.heap[k]? := by
    intro k hk
    unfold sortWorldK putRowK
    rw [kU]
    show ((w.heap.modify g (onCells (putCells id 0 (((gH es).flatMap fJ).toArray)))) ++ os)[k]? = _
    rw [Array.getElem?_append_left (by rw [Array.size_modify]; exact hk),Array.getElem?_modify]
    by_cases hkg : g = k
    ·subst hkg
     rw [if_pos rfl,if_pos rfl,hheap]
     rfl
    ·rw [if_neg hkg,if_neg (fun h => hkg h.symm)]
   refine ⟨⟨_,rfl⟩,⟨rfl,rfl,rfl,?_,fun k hk hne => ?_⟩,(gH es).flatMap fJ,⟨hlen',.inr ⟨g,cap,cur',rfl,hbg,?_,hnc,hcm,?_,?_⟩⟩,?_,?_⟩
   ·show w.heap.size ≤ ((w.heap.modify g _) ++ os).size
    rw [Array.size_append,Array.size_modify]
    omega
   ·rw [hheap' k hk,if_neg (fun h => hne (by subst h; rfl))]
   ·rw [hheap' g hlt,if_pos rfl]
   ·show (putCells id 0 _ cur).size = _
    rw [putCells,Array.size_mapIdx]
    exact hcs
   ·apply List.ext_getElem?
    intro t
    rw [List.getElem?_take]
    by_cases ht : t < es.length * 3
    ·rw [if_pos ht]
     show (putCells id 0 (((gH es).flatMap fJ).toArray) cur).toList[t]? = _
     have htc : t < cur.size := by
      have := Nat.mul_le_mul_right 3 hnc
      omega
     rw [Array.getElem?_toList,putCells,Array.getElem?_mapIdx,Array.getElem?_eq_getElem htc,Option.map_some,if_pos ⟨Nat.zero_le _,by rw [List.size_toArray,hlen']; omega⟩,Nat.sub_zero,rS _ t (by omega)]
     rw [List.getD_eq_getElem?_getD,List.getElem?_eq_getElem (show t < ((gH es).flatMap fJ).length by omega)]
     rfl
    ·rw [if_neg ht,List.getElem?_eq_none (by omega)]
   ·rw [hlen',aB,hsl]
   ·intro t x u hx hu
    have ht : t < es.length * 3 := by have := (List.getElem?_eq_some_iff.1 hu).1; omega
    have h3 := aQ fJ 3 (fun _ => rfl) default (gH es) (t / 3) (t % 3) (by omega) (by omega)
    have h4 := aL (fun e : rG => [i64 e.1,i64 e.2.1,i64 e.2.2]) 3 (fun _ => rfl) default (gH es) (t / 3) (t % 3) (by omega) (by omega)
    rw [show t / 3 * 3 + t % 3 = t by omega] at h3 h4
    change (fH (gH es))[t]? = _ at h4
    rw [hx] at h4
    rw [hu] at h3
    have hm : t % 3 = 0 ∨ t % 3 = 1 ∨ t % 3 = 2 := by omega
    rcases hm with hm | hm | hm <;> rw [hm] at h3 h4 <;>
    ·injection h3 with h3
     injection h4 with h4
     subst h3
     subst h4
     exact .v _ rfl
end Go.Proofs.Ytldcoekbgfaomaa
end
section
namespace Go.Proofs.Ytldcoekbgfaomaa
open Go.RowKit
set_option maxRecDepth 20000
set_option maxHeartbeats 4000000
attribute [local irreducible] jE oD AW
/-- The ends of some extents of list i. -/
def sF (i : Nat) (l : List (Int × Int)) : List rG := l.flatMap fun e => [(e.1,(i : Int),1),(e.1 + e.2,(i : Int),-1)]
def wI (ls : List (List (Int × Int))) : List rG := ls.zipIdx.flatMap fun p => sF p.2 p.1
theorem tT (i : Nat) (l : List (Int × Int)) : (sF i l).length = 2 * l.length := by
 induction l with
 | nil => rfl
 | cons x l ih =>
  simp only [sF,List.flatMap_cons,List.length_append,Zl,Zo] at ih ⊢
  omega
theorem fX (i : Nat) (l : List (Int × Int)) (k : Nat) (h : k < l.length) : sF i (l.take (k + 1)) = sF i (l.take k) ++ [((l.getD k (0,0)).1,(i : Int),1),((l.getD k (0,0)).1 + (l.getD k (0,0)).2,(i : Int),-1)] := by
 rw [uE l k h]; simp [sF]
theorem gX (ls : List (List (Int × Int))) (i : Nat) (h : i < ls.length) : wI (ls.take (i + 1)) = wI (ls.take i) ++ sF i (ls.getD i []) := by
 have e : ls.take (i + 1) = ls.take i ++ [ls.getD i []] := by rw [List.take_add_one]; simp [h]
 rw [e,wI,wI,List.zipIdx_append]
 simp [h,Nat.min_eq_left (Nat.le_of_lt h)]
@[reducible] def rZ (es : List rG) : P1 := .sl es.length (fH es)
theorem iJ (es : List rG) (a b c a' b' c' : Int) : fH es ++ [i64 a,i64 b,i64 c,i64 a',i64 b',i64 c'] = fH (es ++ [(a,b,c),(a',b',c')]) := by simp [fH]
theorem kB (l : List rG) (i : Nat) (h : i < l.length) : ((fH l).drop (i * 3)).take 3 = [i64 (l.getD i default).1,i64 (l.getD i default).2.1,i64 (l.getD i default).2.2] :=
 oQ (fun e : rG => [i64 e.1,i64 e.2.1,i64 e.2.2]) 3 (fun _ => rfl) default l i h
theorem pB (l : List rG) (i : Nat) (h : i < l.length) : (fH l)[i * 3]? = some (i64 (l.getD i default).1) := aL (fun e : rG => [i64 e.1,i64 e.2.1,i64 e.2.2]) 3 (fun _ => rfl) default l i 0 h (by omega)
/-- An extent within the sectors. -/
def lU (e : Int × Int) : Prop := ∃ s c : Nat,e = ((s : Int),(c : Int)) ∧ 1 ≤ c ∧ s + c ≤ 4096
theorem hG (f : List (Int × Int) → P1) (l : List (List (Int × Int))) (i : Nat) (h : i < l.length) : (l.map f)[i]? = some (f (l.getD i [])) := by
 simp [h]
theorem pNA (ls : List (List (Int × Int))) (h2 : ls.length ≤ 2) (hs : ∀ l ∈ ls,l.length ≤ 8192) (hg : ∀ l ∈ ls,∀ e ∈ l,lU e) : ACalls Try.prog 120 [.p (.sl ls.length (ls.map uC))] (.p (rZ (gH (wI ls)))) := by
 refine oC jC Try.func120 (c := _) rfl (by kernel_rfl) ?_
 intro X hP hX hro hpl
 have hb : tb.Ok X.P := hP ▸ jC
 change AW X _ _ ⟨[],[.p (.sl ls.length (ls.map uC)),.any,.any,.any,.any,.any,.any,.any,.any,.any,.any,.any,.any,.any,.any,.any,.any,.any,.any,.any,.any,.any,.any,.any,.any,.any,.any,.any,.any,.any,.any,.any,.any,.any,.any,.any,.any,.any,.any,.any,.any,.any,.any,.any,.any],[],[]⟩
 refine fA ?_
 refine iA hX hb [0] rfl (σ' := ?s1) (fun K hK => ?h1) ?n1
 case h1 =>
  (refine kA rfl (by simp (disch := omega) only [gA,aA,qop,fop,St.ev,St.put,cd,zd,Value.oneCell',lA,TypeDesc.aggB,Z0,hG,Zh,Z2] <;> exact rfl) ?_)
  refine bA ?_
  exact hK
 refine jA ?_
 refine fA ?_
 refine iA hX hb [0] rfl (σ' := ?s2) (fun K hK => ?h2) ?n2
 case h2 =>
  (refine kA rfl (by simp (disch := omega) only [gA,aA,qop,fop,St.ev,St.put,cd,zd,Value.oneCell',lA,TypeDesc.aggB,Z0,hG,Zh,Z2] <;> exact rfl) ?_)
  refine bA ?_
  exact hK
 refine jA ?_
 refine pK 3 185 3 rfl (σ' := ?s3) ?h3 ?n3
 case h3 => simp only [St.nilSlot,St.addVec,Za,Zb,Zl,Zo,ZL,ZM]; exact rfl
 refine fA ?_
 refine fA ?_
 refine iA hX hb [0,1,2] rfl (σ' := ?s4) (fun K hK => ?h4) ?n4
 case h4 =>
  iterate 3 (refine kA rfl (by simp (disch := omega) only [gA,aA,qop,fop,St.ev,St.put,cd,zd,Value.oneCell',lA,TypeDesc.aggB,Z0,mC,tt,hG,Zh,Z2] <;> exact rfl) ?_)
  refine bA ?_
  exact hK
 refine jA ?_
 refine uB ?_
 refine vD (ι := Nat × List rG) (fun p => p.1 ≤ ls.length ∧ p.2 = wI (ls.take p.1) ∧ p.2.length ≤ 16384 * p.1) (fun p => ⟨[],[.any,.any,.any,.vref 0,.any,.any,.any,.any,.any,.any,.any,.p (.sl ls.length (ls.map uC)),.p (i64 ls.length),.p (i64 p.1),.any,.any,.any,.any,.any,.any,.any,.any,.any,.any,.any,.any,.any,.any,.any,.any,.any,.any,.any,.any,.any,.any,.any,.any,.any,.any,.any,.any,.any,.any,.any],[],[some ⟨185,3,p.2.length,fH p.2⟩]⟩) (fun p => ls.length - p.1) (0,[]) (by exact ⟨Nat.zero_le _,rfl,Nat.le_refl _⟩) (sC ⟨rfl,(by repeat first | exact tA | refine qB ?_ | refine uA rfl ?_),(wB _),(zE rfl (xB _)),rfl,rfl⟩) ?_
 rintro ⟨i,out⟩ ⟨hi,ho,hol⟩
 dsimp only at hi ho hol ⊢
 refine fA ?_
 refine iA hX hb [0] rfl (σ' := ?s5) (fun K hK => ?h5) ?n5
 case h5 =>
  (refine kA rfl (by simp (disch := omega) only [gA,aA,qop,fop,St.ev,St.put,cd,zd,Value.oneCell',lA,TypeDesc.aggB,Z0,yA,iop,t3,ti3,hG,Zh,Z2] <;> exact rfl) ?_)
  refine bA ?_
  exact hK
 refine jA ?_
 refine fA ?_
 refine mB _ rfl (fun hc0 => ?_) (fun hc0 => ?_)
 ·try simp only [Zp,Zi,ZK,ZJ,ne_eq,Zn,Zm,ZB,ZA,ZI,not_or,not_and,Zu] at hc0
  refine tB ?_
  refine jA ?_
  refine fA ?_
  refine uB ?_
  refine fA ?_
  refine iA hX hb [0,1,2,3,4] rfl (σ' := ?s6) (fun K hK => ?h6) ?n6
  case h6 =>
   iterate 5 (refine kA rfl (by simp (disch := omega) only [gA,aA,qop,fop,St.ev,St.put,cd,zd,Value.oneCell',lA,TypeDesc.aggB,Z0,Int.toNat_zero,Int.toNat_one,wA,xA,vA,ZO,Nat.mul_one,ZC,Nat.zero_mul,Zh,Z1,oA,pA,qA,eA,D.pure?,ZD,tt,hG,Z2] <;> exact rfl) ?_)
   refine bA ?_
   exact hK
  refine jA ?_
  refine fA ?_
  refine iA hX hb [0,1,2] rfl (σ' := ?s7) (fun K hK => ?h7) ?n7
  case h7 =>
   iterate 3 (refine kA rfl (by simp (disch := omega) only [gA,aA,qop,fop,St.ev,St.put,cd,zd,Value.oneCell',lA,TypeDesc.aggB,Z0,mC,tt,hG,Zh,Z2] <;> exact rfl) ?_)
   refine bA ?_
   exact hK
  refine jA ?_
  refine uB ?_
  refine vD (ι := Nat × List rG) (fun p => p.1 ≤ (ls.getD i []).length ∧ p.2 = wI (ls.take i) ++ sF i ((ls.getD i []).take p.1) ∧ p.2.length = out.length + 2 * p.1) (fun p => ⟨[],[.any,.any,.any,.vref 0,.p (i64 i),.any,.any,.any,.any,.any,.any,.p (.sl ls.length (ls.map uC)),.p (i64 ls.length),.p (i64 i),.any,.any,.any,.any,.p (uC (ls.getD i [])),.p (i64 (ls.getD i []).length),.p (i64 p.1),.any,.any,.any,.any,.any,.any,.any,.any,.any,.any,.any,.any,.any,.any,.any,.any,.any,.any,.any,.any,.any,.any,.any,.any],[],[some ⟨185,3,p.2.length,fH p.2⟩]⟩) (fun p => (ls.getD i []).length - p.1) (0,out) (by exact ⟨Nat.zero_le _,by dsimp only; rw [ho]; simp [sF],by simp⟩) (sC ⟨rfl,(by repeat first | exact tA | refine qB ?_ | refine uA (by first | rfl | (rw [← iJ]; simp)) ?_),(wB _),(zE (by first | rfl | (rw [← iJ]; simp)) (xB _)),rfl,rfl⟩) ?_
  rintro ⟨k,out2⟩ ⟨hk,ho2,hol2⟩
  dsimp only at hk ho2 hol2 ⊢
  have hli : ls.getD i [] ∈ ls := tE ls [] i (by omega)
  have hll := hs _ hli
  refine fA ?_
  refine iA hX hb [0] rfl (σ' := ?s8) (fun K hK => ?h8) ?n8
  case h8 =>
   (refine kA rfl (by simp (disch := omega) only [gA,aA,qop,fop,St.ev,St.put,cd,zd,Value.oneCell',lA,TypeDesc.aggB,Z0,yA,iop,t3,ti3,hG,Zh,Z2] <;> exact rfl) ?_)
   refine bA ?_
   exact hK
  refine jA ?_
  refine fA ?_
  refine mB _ rfl (fun hc1 => ?_) (fun hc1 => ?_)
  ·try simp only [Zp,Zi,ZK,ZJ,ne_eq,Zn,Zm,ZB,ZA,ZI,not_or,not_and,Zu] at hc1
   obtain ⟨s,c,he,hc1,hc2⟩ := hg _ hli _ (tE (ls.getD i []) (0,0) k (by omega))
   refine tB ?_
   refine jA ?_
   refine fA ?_
   refine uB ?_
   refine fA ?_
   refine iA hX hb [0,1,2,3] rfl (σ' := ?s9) (fun K hK => ?h9) ?n9
   case h9 =>
    iterate 4 (refine kA rfl (by simp (disch := omega) only [gA,aA,qop,fop,St.ev,St.put,cd,zd,Value.oneCell',lA,TypeDesc.aggB,Z0,Int.toNat_zero,Int.toNat_one,wA,xA,vA,ZO,Nat.mul_one,ZC,Nat.zero_mul,Zh,Z1,oA,pA,qA,eA,D.pure?,ZD,ZM,ZL,ZG,ZH,St.addBox,Value.cells,iC,D.boxCells,D.live,D.cells?,ZN,St.setVec,tt,hG,Z2] <;> exact rfl) ?_)
    refine bA ?_
    exact hK
   refine jA ?_
   refine fA ?_
   refine iA hX hb [0,1,2,3,4,5,6,7,8] rfl (σ' := ?s10) (fun K hK => ?h10) ?n10
   case h10 =>
    (refine kA rfl (by simp (disch := omega) only [gA,aA,qop,fop,St.ev,St.put,cd,zd,Value.oneCell',lA,TypeDesc.aggB,Z0,Z1,oA,pA,qA,eA,D.pure?,ZC,ZD,sA,D.pv?,nJ,PV.d,tt,hG,Zh,Z2,he] <;> exact rfl) ?_)
    refine jD rfl (by simp only [aA,St.ev,nB,oB,sA,D.pv?,ZG,ZH,zd,cd,Value.oneCell',Zr] <;> exact rfl) (acK hP (iNA s c hc1 hc2)) (by simp only [St.put,Za,Zb] <;> exact rfl) ?_
    iterate 7 (refine kA rfl (by simp (disch := omega) only [gA,aA,qop,fop,St.ev,St.put,cd,zd,Value.oneCell',lA,TypeDesc.aggB,Z0,Z1,oA,pA,qA,eA,D.pure?,ZC,ZD,sA,D.pv?,nJ,PV.d,tt,hG,Zh,Z2,he] <;> exact rfl) ?_)
    refine bA ?_
    exact hK
   refine jA ?_
   refine fA ?_
   refine iA hX hb [0] rfl (σ' := ?s11) (fun K hK => ?h11) ?n11
   case h11 =>
    (refine kA rfl (by simp (disch := omega) only [gA,aA,qop,fop,St.ev,St.put,cd,zd,Value.oneCell',lA,TypeDesc.aggB,Z0,hG,Zh,Z2] <;> exact rfl) ?_)
    refine bA ?_
    exact hK
   refine jA ?_
   refine mB _ rfl (fun hc2 => ?_) (fun hc2 => ?_)
   ·try simp only [Zp,Zi,ZK,ZJ,ne_eq,Zn,Zm,ZB,ZA,ZI,not_or,not_and,Zu] at hc2
    refine iA hX hb [0,1,2,3,4,5,6,7,8,9] rfl (σ' := ?s12) (fun K hK => ?h12) ?n12
    case h12 =>
     iterate 10 (refine kA rfl (by simp (disch := omega) only [gA,aA,qop,fop,St.ev,St.put,cd,zd,Value.oneCell',lA,TypeDesc.aggB,Z0,eE,aD,lC,eC,D.cell1,eB,fB,gB,iB,jB,List.all_cons,List.all_nil,zC,TI.place,TI.zeros,TI.kindOk,D.cells?,D.pure?,zp,Value.cells,ZQ,ZP,Z1,zD,wC,xC,aE,bB,rB,ZG,ZH,ZL,ZM,ZN,zA,Nat.reduceAdd,Nat.reduceMul,cE,qG,St.demote,D.demote,St.setVec,Zh,List.length_append,ZC,Nat.mul_one,reduceIte,tt,hG,Z2,aB] <;> exact rfl) ?_)
     refine bA ?_
     exact hK
    refine dE ?_
    refine jA ?_
    refine iA hX hb [0,1] rfl (σ' := ?s13) (fun K hK => ?h13) ?n13
    case h13 =>
     iterate 2 (refine kA rfl (by simp (disch := omega) only [gA,aA,qop,fop,St.ev,St.put,cd,zd,Value.oneCell',lA,TypeDesc.aggB,Z0,yA,iop,tt,hG,Zh,Z2] <;> exact rfl) ?_)
     refine bA ?_
     exact hK
    refine jA ?_
    exact ⟨(k + 1,out2 ++ [((s : Int),(i : Int),1),(((s + c : Nat) : Int),(i : Int),-1)]),by exact ⟨by dsimp only; omega,by dsimp only; rw [ho2,fX i _ k (by omega),he,List.append_assoc]; simp,by dsimp only; simp; omega⟩,by (try dsimp only); omega,sC ⟨rfl,(by repeat first | exact tA | refine qB ?_ | refine uA (by first | rfl | (rw [← iJ]; simp)) ?_),(wB _),(zE (by first | rfl | (rw [← iJ]; simp)) (xB _)),rfl,rfl⟩⟩
   ·try simp only [Zp,Zi,ZK,ZJ,ne_eq,Zn,Zm,ZB,ZA,ZI,not_or,not_and,Zu] at hc2
    cases hc2
  ·try simp only [Zp,Zi,ZK,ZJ,ne_eq,Zn,Zm,ZB,ZA,ZI,not_or,not_and,Zu] at hc1
   refine sD ?_
   refine fD ?_
   refine fD ?_
   refine dF ?_
   refine dE ?_
   refine jA ?_
   refine iA hX hb [0,1] rfl (σ' := ?s14) (fun K hK => ?h14) ?n14
   case h14 =>
    iterate 2 (refine kA rfl (by simp (disch := omega) only [gA,aA,qop,fop,St.ev,St.put,cd,zd,Value.oneCell',lA,TypeDesc.aggB,Z0,yA,iop,tt,hG,Zh,Z2] <;> exact rfl) ?_)
    refine bA ?_
    exact hK
   refine jA ?_
   exact ⟨(i + 1,out2),by exact ⟨by dsimp only; omega,by dsimp only; rw [ho2,gX ls i (by omega),show k = (ls.getD i []).length by omega,List.take_length],by dsimp only; omega⟩,by (try dsimp only); omega,sC ⟨rfl,(by repeat first | exact tA | refine qB ?_ | refine uA rfl ?_),(wB _),(zE rfl (xB _)),rfl,rfl⟩⟩
 ·try simp only [Zp,Zi,ZK,ZJ,ne_eq,Zn,Zm,ZB,ZA,ZI,not_or,not_and,Zu] at hc0
  refine sD ?_
  refine fD ?_
  refine fD ?_
  refine dF ?_
  refine jA ?_
  refine fA ?_
  refine iA hX hb [0,1] rfl (σ' := ?s15) (fun K hK => ?h15) ?n15
  case h15 =>
   (refine kA rfl (by simp (disch := omega) only [gA,aA,qop,fop,St.ev,St.put,cd,zd,Value.oneCell',lA,TypeDesc.aggB,Z0,sA,D.pv?,tt,hG,Zh,Z2] <;> exact rfl) ?_)
   refine wGA rfl rfl (by simp only [St.ev,nB,oB,zd,cd,Value.oneCell',Zr] <;> exact rfl) (by simp only [St.ev,nB,oB,ZG,ZH] <;> exact rfl) rfl (bLA hP (oNA out (by omega))) (by simp only [St.setVec,St.put,Za,Zb] <;> exact rfl) ?_
   refine bA ?_
   exact hK
  refine jA ?_
  refine fA ?_
  refine mI 0 rfl (σ' := ?s17) ?h17 ?n17
  case h17 => simp only [St.freeze,D.freeze,ZG,ZH,Za,Zb,Zr,reduceIte,Nat.reduceEqDiff]; exact rfl
  refine iA hX hb [0,1] rfl (σ' := ?s16) (fun K hK => ?h16) ?n16
  case h16 =>
   iterate 2 (refine kA rfl (by simp (disch := omega) only [gA,aA,qop,fop,St.ev,St.put,cd,zd,Value.oneCell',lA,TypeDesc.aggB,Z0,t3,ti3,hG,Zh,Z2] <;> exact rfl) ?_)
   refine bA ?_
   exact hK
  refine jA ?_
  refine bC ?_
  exact tC rfl (sB rfl (by first | rfl | (rw [ho,List.take_of_length_le (by omega)]; exact congrArg D.p (congrArg (fun n => P1.sl n _) (uK _).length_eq.symm))))
end Go.Proofs.Ytldcoekbgfaomaa
end
section
namespace Go.Proofs.Ytldcoekbgfaomaa
open Go.RowKit
set_option maxRecDepth 20000
set_option maxHeartbeats 4000000
attribute [local irreducible] jE oD AW
def wG (x : rG) : List rG → Bool
 | [] => false
 | y :: _ => decide (y.1 = x.1)
/-- The maximal extents,out of the ends in order: d extents are open,the present one began at st. -/
def aG : List rG → Int → Int → Bool → List (Int × Int)
 | [],_,_,_ => []
 | x :: r,d,st,ins =>
  if wG x r = true then aG r (d + x.2.2) st ins
  else if d + x.2.2 > 0 then aG r (d + x.2.2) (if ins then st else x.1) true
  else (if ins then [(st,x.1 - st)] else []) ++ aG r (d + x.2.2) st false
/-- Ends of one list's extents. -/
def pDA (L : List rG) : Prop := L.length ≤ 32768 ∧ ∀ x ∈ L,0 ≤ x.1 ∧ x.1 ≤ 4096 ∧ x.2.1 = 0 ∧ (x.2.2 = 1 ∨ x.2.2 = -1)
structure SwI (L : List rG) (i : Nat) (d st : Int) (ins : Bool) (k : Nat) : Prop where
 le : i ≤ L.length
 d1 : -(i : Int) ≤ d
 d2 : d ≤ i
 s1 : 0 ≤ st
 s2 : st ≤ 4096
 kk : k ≤ (aG L 0 0 false).length
 r : (aG L 0 0 false).drop k = aG (L.drop i) d st ins
theorem sS (L : List rG) (i : Nat) (h : i < L.length) : L.drop i = L.getD i default :: L.drop (i + 1) := by
 rw [List.drop_eq_getElem_cons h]; simp [h]
theorem uT (L : List rG) (i : Nat) (x : rG) : wG x (L.drop (i + 1)) = decide (i + 1 < L.length ∧ (L.getD (i + 1) default).1 = x.1) := by
 by_cases h : i + 1 < L.length
 ·rw [sS L (i + 1) h]
  simp [wG,h]
 ·rw [List.drop_eq_nil_of_le (by omega)]
  simp [wG,h]
theorem sAA (L : List rG) : SwI L 0 0 0 false 0 := ⟨Nat.zero_le _,by omega,by omega,by omega,by omega,Nat.zero_le _,rfl⟩
section
variable {L : List rG} {i k : Nat} {d st at' sp : Int} {ins : Bool}
theorem kM (h : SwI L i d st ins k) (hi : i < L.length) (hx : L.getD i default = (at',0,sp)) : (aG L 0 0 false).drop k =
  (if (i + 1 < L.length ∧ (L.getD (i + 1) default).1 = at') then aG (L.drop (i + 1)) (d + sp) st ins
  else if d + sp > 0 then aG (L.drop (i + 1)) (d + sp) (if ins then st else at') true
  else (if ins then [(st,at' - st)] else []) ++ aG (L.drop (i + 1)) (d + sp) st false) := by
 rw [h.r,sS L i hi,hx,aG,uT]
 simp only [Zp]
theorem qDA (hg : pDA L) (hi : i < L.length) : ∃ at' sp,L.getD i default = (at',0,sp) ∧ 0 ≤ at' ∧ at' ≤ 4096 ∧ (sp = 1 ∨ sp = -1) := by
 have hm : L.getD i default ∈ L := tE L default i hi
 obtain ⟨h1,h2,h3,h4⟩ := hg.2 _ hm
 exact ⟨_,_,Prod.ext rfl (Prod.ext h3 rfl),h1,h2,h4⟩
theorem rDA (h : SwI L i d st ins k) (hi : i < L.length) (hx : L.getD i default = (at',0,sp)) (hs : sp = 1 ∨ sp = -1) (hc : i + 1 < L.length ∧ (L.getD (i + 1) default).1 = at') : SwI L (i + 1) (d + sp) st ins k := by
 have hu := kM h hi hx
 rw [if_pos hc] at hu
 have h1 := h.d1
 have h2 := h.d2
 exact ⟨hi,by omega,by omega,h.s1,h.s2,h.kk,hu⟩
theorem sDA (h : SwI L i d st ins k) (hi : i < L.length) (hx : L.getD i default = (at',0,sp)) (hs : sp = 1 ∨ sp = -1) (ha : 0 ≤ at' ∧ at' ≤ 4096) (hc : ¬ (i + 1 < L.length ∧ (L.getD (i + 1) default).1 = at')) (hn : (decide (d + sp > 0) || decide ((0 : Int) > 0)) = true) :
  SwI L (i + 1) (d + sp) (if ins then st else at') true k := by
 have hu := kM h hi hx
 have hd : d + sp > 0 := by simpa using hn
 rw [if_neg hc,if_pos hd] at hu
 have h1 := h.d1
 have h2 := h.d2
 have h3 := h.s1
 have h4 := h.s2
 exact ⟨hi,by omega,by omega,by split <;> omega,by split <;> omega,h.kk,hu⟩
theorem hFA (h : SwI L i d st false k) (hi : i < L.length) (hx : L.getD i default = (at',0,sp)) (hs : sp = 1 ∨ sp = -1) (hc : ¬ (i + 1 < L.length ∧ (L.getD (i + 1) default).1 = at')) (hn : (decide (d + sp > 0) || decide ((0 : Int) > 0)) = false) :
  SwI L (i + 1) (d + sp) st false k := by
 have hu := kM h hi hx
 have hd : ¬ d + sp > 0 := by simpa using hn
 rw [if_neg hc,if_neg hd] at hu
 have h1 := h.d1
 have h2 := h.d2
 exact ⟨hi,by omega,by omega,h.s1,h.s2,h.kk,hu⟩
theorem iI (h : SwI L i d st true k) (hi : i < L.length) (hx : L.getD i default = (at',0,sp)) (hs : sp = 1 ∨ sp = -1) (hc : ¬ (i + 1 < L.length ∧ (L.getD (i + 1) default).1 = at')) (hn : (decide (d + sp > 0) || decide ((0 : Int) > 0)) = false) :
  (aG L 0 0 false)[k]? = some (st,at' - st) ∧ SwI L (i + 1) (d + sp) st false (k + 1) := by
 have hu := kM h hi hx
 have hd : ¬ d + sp > 0 := by simpa using hn
 rw [if_neg hc,if_neg hd] at hu
 have h1 := h.d1
 have h2 := h.d2
 have hk : (aG L 0 0 false)[k]? = some (st,at' - st) := by
  have := congrArg (fun l => l[0]?) hu
  simpa using this
 refine ⟨hk,hi,by omega,by omega,h.s1,h.s2,(List.getElem?_eq_some_iff.1 hk).1,?_⟩
 have := congrArg (List.drop 1) hu
 rw [List.drop_drop] at this
 simpa using this
theorem iFA (h : SwI L L.length d st ins k) : k = (nG (aG L 0 0 false)).length := by
 have h1 := h.r
 rw [List.drop_length] at h1
 have h2 : (aG L 0 0 false).length ≤ k := by
  have := congrArg List.length h1
  simp [aG] at this
  omega
 rw [bK]
 have := h.kk
 omega
theorem bL {l : List (Int × Int)} {k : Nat} {a b : Int} (h : l[k]? = some (a,b)) : (nG l)[k]? = some (.agg [i64 a,i64 b]) := by simp [nG,h]
end
theorem gK (l : List rG) (i : Nat) (h : i + 1 < l.length) : (fH l)[i * 3 + 3]? = some (i64 (l.getD (i + 1) default).1) := by
 have := pB l (i + 1) h
 rwa [Nat.succ_mul] at this
theorem hKA (p q now : Bool) (h : (p || q) = now) : ACalls Try.prog 110 [.p (bv p),.p (bv q)] (.p (bv now)) := h ▸ hNA p q
theorem iX {l : List (Int × Int)} (h : ∀ e ∈ l,lU e) (hl : l.length ≤ 8192) : pDA (gH (wI [l,[]])) := by
 have hp := uK (wI [l,[]])
 have e : wI [l,[]] = sF 0 l := by simp [wI,sF]
 rw [e] at hp ⊢
 refine ⟨by rw [hp.length_eq,tT]; omega,fun x hx => ?_⟩
 have hm := hp.mem_iff.1 hx
 simp only [sF,List.mem_flatMap] at hm
 obtain ⟨y,hy,hxy⟩ := hm
 obtain ⟨s,c,rfl,h1,h2⟩ := h y hy
 simp only [List.mem_cons,List.not_mem_nil,or_false] at hxy
 rcases hxy with rfl | rfl
 ·exact ⟨by simp,by simp; omega,rfl,.inl rfl⟩
 ·exact ⟨by simp; omega,by simp; omega,rfl,.inr rfl⟩
theorem iKA (l : List (Int × Int)) (hl : l.length ≤ 8192) (hg : ∀ e ∈ l,lU e) (L : List rG) (hL : gH (wI [l,[]]) = L) : SeqC Try.prog 119 [uC l,.sl 0 [],.v (.func (.func 110) #[] #[])] (nG (aG L 0 0 false)) := by
 have hgl : pDA L := hL ▸ iX hg hl
 have hLl := hgl.1
 have h120 : ACalls Try.prog 120 [.p (.sl 2 [uC l,.sl 0 []])] (.p (rZ L)) := hL ▸ pNA [l,[]] (by simp) (by simpa using hl) (by simpa using hg)
 refine fV Try.func119 (c := _) rfl (by kernel_rfl) rfl ?_
 intro X ll hP hX _
 have hb : tb.Ok X.P := hP ▸ jC
 change AW X _ _ ⟨[.yld ll (nG (aG L 0 0 false)) 0],[.p (.v (.func (.yield ll) #[] #[])),.ept [uC l] 0,.ept [.sl 0 []] 0,.ept [.v (.func (.func 110) #[] #[])] 0,.any,.any,.any,.any,.any,.any,.any,.any,.any,.any,.any,.any,.any,.any,.any,.any,.any,.any,.any,.any,.any,.any,.any,.any,.any,.any,.any,.any,.any,.any,.any,.any,.any,.any,.any,.any,.any,.any,.any,.any,.any,.any,.any,.any,.any,.any,.any,.any,.any,.any,.any,.any,.any,.any,.any,.any,.any,.any,.any,.any,.any,.any,.any,.any,.any,.any,.any,.any,.any,.any,.any,.any,.any,.any,.any,.any],[],[]⟩
 refine fA ?_
 refine iA hX hb [0,1,2,3,4] rfl (σ' := ?s1) (fun K hK => ?h1) ?n1
 case h1 =>
  iterate 3 (refine kA rfl (by simp (disch := omega) only [gA,aA,qop,fop,St.ev,St.put,cd,zd,Value.oneCell',lA,TypeDesc.aggB,Z0,Z1,oA,pA,qA,eA,D.pure?,ZC,ZD,zD,wC,xC,aE,bB,rB,D.cells?,eB,fB,gB,iB,jB,ZG,ZH,ZL,ZM,ZN,zA,Nat.reduceAdd,Nat.reduceMul,sA,D.pv?,tt,kB,aB,pB,Zh] <;> exact rfl) ?_)
  refine jD rfl (by simp only [aA,St.ev,nB,oB,sA,D.pv?,ZG,ZH,zd,cd,Value.oneCell',Zr] <;> exact rfl) (acK hP (h120)) (by simp only [St.put,Za,Zb] <;> exact rfl) ?_
  (refine kA rfl (by simp (disch := omega) only [gA,aA,qop,fop,St.ev,St.put,cd,zd,Value.oneCell',lA,TypeDesc.aggB,Z0,Z1,oA,pA,qA,eA,D.pure?,ZC,ZD,zD,wC,xC,aE,bB,rB,D.cells?,eB,fB,gB,iB,jB,ZG,ZH,ZL,ZM,ZN,zA,Nat.reduceAdd,Nat.reduceMul,sA,D.pv?,tt,kB,aB,pB,Zh] <;> exact rfl) ?_)
  refine bA ?_
  exact hK
 refine jA ?_
 refine fA ?_
 refine iA hX hb [0] rfl (σ' := ?s2) (fun K hK => ?h2) ?n2
 case h2 =>
  (refine kA rfl (by simp (disch := omega) only [gA,aA,qop,fop,St.ev,St.put,cd,zd,Value.oneCell',lA,TypeDesc.aggB,Z0,ZM,ZL,Zl,Zo,ZG,ZH,St.addBox,Value.cells,tt,kB,aB,pB,Zh] <;> exact rfl) ?_)
  refine bA ?_
  exact hK
 refine jA ?_
 refine fA ?_
 refine iA hX hb [0,1] rfl (σ' := ?s3) (fun K hK => ?h3) ?n3
 case h3 =>
  iterate 2 (refine kA rfl (by simp (disch := omega) only [gA,aA,qop,fop,St.ev,St.put,cd,zd,Value.oneCell',lA,TypeDesc.aggB,Z0,kB,aB,pB,Zh] <;> exact rfl) ?_)
  refine bA ?_
  exact hK
 refine jA ?_
 refine fA ?_
 refine iA hX hb [0,1,2] rfl (σ' := ?s4) (fun K hK => ?h4) ?n4
 case h4 =>
  iterate 3 (refine kA rfl (by simp (disch := omega) only [gA,aA,qop,fop,St.ev,St.put,cd,zd,Value.oneCell',lA,TypeDesc.aggB,Z0,mC,tt,kB,aB,pB,Zh] <;> exact rfl) ?_)
  refine bA ?_
  exact hK
 refine jA ?_
 refine uB ?_
 refine vD (ι := Nat × Int × Int × Bool × Nat) (fun p => SwI L p.1 p.2.1 p.2.2.1 p.2.2.2.1 p.2.2.2.2) (fun p => ⟨[.yld ll (nG (aG L 0 0 false)) p.2.2.2.2],[.p (.v (.func (.yield ll) #[] #[])),.any,.any,.ept [.v (.func (.func 110) #[] #[])] 0,.any,.p (rZ L),.ptr 0 0,.p (i64 p.2.2.1),.p (bv p.2.2.2.1),.any,.any,.any,.any,.any,.any,.any,.p (rZ L),.p (i64 L.length),.p (i64 p.1),.any,.any,.any,.any,.any,.any,.any,.any,.any,.any,.any,.any,.any,.any,.any,.any,.any,.any,.any,.any,.any,.any,.any,.any,.any,.any,.any,.any,.any,.any,.any,.any,.any,.any,.any,.any,.any,.any,.any,.any,.any,.any,.any,.any,.any,.any,.any,.any,.any,.any,.any,.any,.any,.any,.any,.any,.any,.any,.any,.any,.any],[⟨183,[.p (i64 p.2.1),.p (i64 0)]⟩],[]⟩) (fun p => L.length - p.1) (0,0,0,false,0) (by exact sAA L) (sC ⟨rfl,(by repeat first | exact tA | refine qB ?_ | refine uA rfl ?_),(vC rfl (uA rfl (uA rfl (tA))) (wB _)),(xB _),rfl,rfl⟩) ?_
 rintro ⟨i,d,st,ins,k⟩ hI
 dsimp only at hI ⊢
 have hI1 := hI.d1
 have hI2 := hI.d2
 have hI3 := hI.s1
 have hI4 := hI.s2
 have hI5 := hI.le
 have i3 : (i + 1) * 3 = i * 3 + 3 := Nat.succ_mul i 3
 have i31 : ((i : Int) + 1).toNat = i + 1 := by omega
 refine fA ?_
 refine iA hX hb [0] rfl (σ' := ?s5) (fun K hK => ?h5) ?n5
 case h5 =>
  (refine kA rfl (by simp (disch := omega) only [gA,aA,qop,fop,St.ev,St.put,cd,zd,Value.oneCell',lA,TypeDesc.aggB,Z0,yA,iop,t3,ti3,kB,aB,pB,Zh] <;> exact rfl) ?_)
  refine bA ?_
  exact hK
 refine jA ?_
 refine fA ?_
 refine mB _ rfl (fun hc0 => ?_) (fun hc0 => ?_)
 ·try simp only [Zp,Zi,ZK,ZJ,ne_eq,Zn,Zm,ZB,ZA,ZI,not_or,not_and,Zu] at hc0
  have hil : i < L.length := by omega
  obtain ⟨at2,sp,hx,ha1,ha2,hsp⟩ := qDA hgl hil
  refine tB ?_
  refine jA ?_
  refine fA ?_
  refine uB ?_
  refine fA ?_
  refine iA hX hb [0,1,2,3,4,5] rfl (σ' := ?s6) (fun K hK => ?h6) ?n6
  case h6 =>
   iterate 6 (refine kA rfl (by simp (disch := omega) only [gA,aA,qop,fop,St.ev,St.put,cd,zd,Value.oneCell',lA,TypeDesc.aggB,Z0,Int.toNat_zero,Int.toNat_one,wA,xA,vA,ZO,Nat.mul_one,ZC,Nat.zero_mul,Zh,Z1,oA,pA,qA,eA,D.pure?,ZD,ZM,ZL,ZG,ZH,St.addBox,Value.cells,iC,D.boxCells,D.live,D.cells?,ZN,St.setVec,tt,kB,aB,pB] <;> exact rfl) ?_)
   refine bA ?_
   exact hK
  refine jA ?_
  refine fA ?_
  refine bF hX hb (gD hP) [(0,true),(1,true),(2,true),(3,true),(4,true),(5,true),(6,true),(7,true),(8,false)] (by kernel_rfl) (σ' := ?s7) (fun K hK => ?h7) ?n7
  case h7 =>
   iterate 8 (refine xE rfl (by simp (disch := omega) only [qop,fop,St.ev,St.put,cd,zd,Value.oneCell',lA,TypeDesc.aggB,Z0,cA,mA,Z1,oA,pA,qA,eA,D.pure?,ZC,ZD,Int.toNat_zero,Int.toNat_one,wA,xA,vA,ZO,Nat.mul_one,Nat.zero_mul,Zh,yA,iop,iC,D.boxCells,D.live,D.cells?,ZM,ZL,ZN,ZG,ZH,St.setVec,tt,kB,aB,pB,hx] <;> exact rfl) (by simp only [St.put,Za,Zb] <;> exact rfl) ?_)
   (refine vG rfl (by simp (disch := omega) only [gA,aA,qop,fop,St.ev,St.put,cd,zd,Value.oneCell',lA,TypeDesc.aggB,Z0,cA,mA,Z1,oA,pA,qA,eA,D.pure?,ZC,ZD,Int.toNat_zero,Int.toNat_one,wA,xA,vA,ZO,Nat.mul_one,Nat.zero_mul,Zh,yA,iop,iC,D.boxCells,D.live,D.cells?,ZM,ZL,ZN,ZG,ZH,St.setVec,tt,kB,aB,pB,hx] <;> exact rfl) ?_)
   refine qC ?_
   exact hK
  refine jA ?_
  refine fA ?_
  refine fA ?_
  refine iN hX hb (gD hP) [(0,true),(1,true),(2,true),(3,true),(4,true),(5,true),(6,true),(7,true),(8,true),(9,true),(10,true),(11,true),(12,true),(13,true),(14,true),(15,true)] (by kernel_rfl) (ts := [31,32,33,34,35,36,37,38,39,40,41,42,43,44,45]) (t := 46) (d := .p (bv (i + 1 < L.length ∧ (L.getD (i + 1) default).1 = at2))) (σ' := ?s8) ?j8 ?h8 ?n8
  case j8 => simp only [St.join,List.foldl,Za,Zb]; exact rfl
  case h8 =>
   iterate 6 (all_goals refine xE rfl (by simp (disch := omega) only [qop,fop,St.ev,St.put,cd,zd,Value.oneCell',lA,TypeDesc.aggB,Z0,yA,iop,mC,Int.toNat_zero,Int.toNat_one,wA,xA,vA,ZO,Nat.mul_one,ZC,Nat.zero_mul,Zh,cA,mA,Z1,oA,pA,qA,eA,D.pure?,ZD,tt,kB,aB,pB,hx,i31,gK,i3] <;> exact rfl) (by simp only [St.put,Za,Zb] <;> exact rfl) ?_)
   iterate 9 (all_goals first | (refine jH rfl rfl rfl (by simp (disch := omega) only [qop,fop,St.ev,St.put,cd,zd,Value.oneCell',lA,TypeDesc.aggB,Z0,yA,iop,mC,Int.toNat_zero,Int.toNat_one,wA,xA,vA,ZO,Nat.mul_one,ZC,Nat.zero_mul,Zh,cA,mA,Z1,oA,pA,qA,eA,D.pure?,ZD,tt,kB,aB,pB,hx,i31,gK,i3] <;> exact rfl) rfl (by simp only [St.put,Za,Zb] <;> exact rfl) ?_) | (first | (refine vF rfl rfl rfl (by simp only [St.put,Za,Zb] <;> exact rfl) ?_) | (refine uF rfl rfl rfl (by simp only [St.put,Za,Zb] <;> exact rfl) ?_)) | (refine pF rfl rfl rfl (by simp only [Za,Zb] <;> exact rfl) (by simp only [Za,Zb] <;> exact rfl) (fun hg => ?_) (fun hg => ?_) <;> (try simp only [Zp,Zi,ZJ,ZK,ne_eq,Zn,Zm,Bool.not_eq_true,Zu] at hg) <;> first | (refine jH rfl rfl rfl (by simp (disch := omega) only [qop,fop,St.ev,St.put,cd,zd,Value.oneCell',lA,TypeDesc.aggB,Z0,yA,iop,mC,Int.toNat_zero,Int.toNat_one,wA,xA,vA,ZO,Nat.mul_one,ZC,Nat.zero_mul,Zh,cA,mA,Z1,oA,pA,qA,eA,D.pure?,ZD,tt,kB,aB,pB,hx,i31,gK,i3] <;> exact rfl) rfl (by simp only [St.put,Za,Zb] <;> exact rfl) ?_) | (first | (refine vF rfl rfl rfl (by simp only [St.put,Za,Zb] <;> exact rfl) ?_) | (refine uF rfl rfl rfl (by simp only [St.put,Za,Zb] <;> exact rfl) ?_))))
   (all_goals refine xE rfl (by simp (disch := omega) only [qop,fop,St.ev,St.put,cd,zd,Value.oneCell',lA,TypeDesc.aggB,Z0,yA,iop,mC,Int.toNat_zero,Int.toNat_one,wA,xA,vA,ZO,Nat.mul_one,ZC,Nat.zero_mul,Zh,cA,mA,Z1,oA,pA,qA,eA,D.pure?,ZD,tt,kB,aB,pB,hx,i31,gK,i3] <;> exact rfl) (by simp only [St.put,Za,Zb] <;> exact rfl) ?_)
   all_goals refine qC ?_
   all_goals refine ⟨rfl,?_,pD _,qD _,rfl,rfl⟩
   all_goals repeat' (first | exact tA | refine qB ?_ | refine uA rfl ?_ | refine uA ?_ ?_)
   all_goals refine jn ?_
   all_goals ((try simp only [Zp,Zi,ZJ,ZK,Bool.not_eq_true,Zm,Zn,ne_eq,Zf,true_iff,false_iff,iff_true,iff_false] at *) <;> omega)
  refine jA ?_
  refine mB _ rfl (fun hc1 => ?_) (fun hc1 => ?_)
  ·try simp only [Zp,Zi,ZK,ZJ,ne_eq,Zn,Zm,ZB,ZA,ZI,not_or,not_and,Zu] at hc1
   refine sD ?_
   refine fD ?_
   refine dF ?_
   refine jA ?_
   refine iA hX hb [0,1] rfl (σ' := ?s9) (fun K hK => ?h9) ?n9
   case h9 =>
    iterate 2 (refine kA rfl (by simp (disch := omega) only [gA,aA,qop,fop,St.ev,St.put,cd,zd,Value.oneCell',lA,TypeDesc.aggB,Z0,yA,iop,tt,kB,aB,pB,Zh] <;> exact rfl) ?_)
    refine bA ?_
    exact hK
   refine jA ?_
   exact ⟨(i + 1,d + sp,st,ins,k),by exact rDA hI hil hx hsp hc1,by (try dsimp only); omega,sC ⟨rfl,(by repeat first | exact tA | refine qB ?_ | refine uA rfl ?_),(vC rfl (uA rfl (uA rfl (tA))) (wB _)),(xB _),rfl,rfl⟩⟩
  ·try simp only [Zp,Zi,ZK,ZJ,ne_eq,Zn,Zm,ZB,ZA,ZI,not_or,not_and,Zu] at hc1
   rw [← not_and] at hc1
   refine tB ?_
   refine jA ?_
   refine fA ?_
   obtain ⟨now,hnow⟩ : ∃ now,(decide (d + sp > 0) || decide ((0 : Int) > 0)) = now := ⟨_,rfl⟩
   refine iA hX hb [0,1,2,3,4,5,6,7,8] rfl (σ' := ?s10) (fun K hK => ?h10) ?n10
   case h10 =>
    iterate 7 (refine kA rfl (by simp (disch := omega) only [gA,aA,qop,fop,St.ev,St.put,cd,zd,Value.oneCell',lA,TypeDesc.aggB,Z0,Z1,oA,pA,qA,eA,D.pure?,ZC,ZD,Int.toNat_zero,Int.toNat_one,wA,xA,vA,ZO,Nat.mul_one,Nat.zero_mul,Zh,yA,iop,sA,D.pv?,tt,kB,aB,pB,hx] <;> exact rfl) ?_)
    refine jD rfl (by simp only [aA,St.ev,nB,oB,sA,D.pv?,ZG,ZH,zd,cd,Value.oneCell',Zr] <;> exact rfl) (acK hP (hKA _ _ now hnow)) (by simp only [St.put,Za,Zb] <;> exact rfl) ?_
    (refine kA rfl (by simp (disch := omega) only [gA,aA,qop,fop,St.ev,St.put,cd,zd,Value.oneCell',lA,TypeDesc.aggB,Z0,Z1,oA,pA,qA,eA,D.pure?,ZC,ZD,Int.toNat_zero,Int.toNat_one,wA,xA,vA,ZO,Nat.mul_one,Nat.zero_mul,Zh,yA,iop,sA,D.pv?,tt,kB,aB,pB,hx] <;> exact rfl) ?_)
    refine bA ?_
    exact hK
   refine jA ?_
   refine fA ?_
   refine fA ?_
   cases now <;> cases ins
   ·refine iA hX hb [0,1,2,3,4] rfl (σ' := ?s11) (fun K hK => ?h11) ?n11
    case h11 =>
     iterate 2 (refine kA rfl (by simp (disch := omega) only [gA,aA,qop,fop,St.ev,St.put,cd,zd,Value.oneCell',lA,TypeDesc.aggB,Z0,Bool.not_true,Bool.not_false,tt,kB,aB,pB,Zh] <;> exact rfl) ?_)
     iterate 2 (all_goals first | (refine fC rfl rfl rfl (by simp (disch := omega) only [gA,aA,qop,fop,St.ev,St.put,cd,zd,Value.oneCell',lA,TypeDesc.aggB,Z0,Bool.not_true,Bool.not_false,tt,kB,aB,pB,Zh] <;> exact rfl) ?_) | (first | (refine zB rfl rfl rfl (by simp only [St.put,Za,Zb] <;> exact rfl) ?_) | (refine aC rfl rfl rfl (by simp only [St.put,Za,Zb] <;> exact rfl) ?_)) | (refine yB rfl rfl rfl (by simp only [Za,Zb] <;> exact rfl) (by simp only [Za,Zb] <;> exact rfl) (fun hg => ?_) (fun hg => ?_) <;> (try simp only [Zp,Zi,ZJ,ZK,ne_eq,Zn,Zm,Bool.not_eq_true,Zu] at hg) <;> first | (refine fC rfl rfl rfl (by simp (disch := omega) only [gA,aA,qop,fop,St.ev,St.put,cd,zd,Value.oneCell',lA,TypeDesc.aggB,Z0,Bool.not_true,Bool.not_false,tt,kB,aB,pB,Zh] <;> exact rfl) ?_) | (first | (refine zB rfl rfl rfl (by simp only [St.put,Za,Zb] <;> exact rfl) ?_) | (refine aC rfl rfl rfl (by simp only [St.put,Za,Zb] <;> exact rfl) ?_))))
     (refine kA rfl (by simp (disch := omega) only [gA,aA,qop,fop,St.ev,St.put,cd,zd,Value.oneCell',lA,TypeDesc.aggB,Z0,Bool.not_true,Bool.not_false,tt,kB,aB,pB,Zh] <;> exact rfl) ?_)
     refine bA ?_
     exact hK
    refine jA ?_
    refine mB false rfl (fun h => by cases h) (fun _ => ?_)
    refine tB ?_
    refine jA ?_
    refine fA ?_
    refine fA ?_
    refine iA hX hb [0,1,2,3,4,5,6,7,8,9,10,11,12,13,14,15] rfl (σ' := ?s12) (fun K hK => ?h12) ?n12
    case h12 =>
     iterate 3 (refine kA rfl (by simp (disch := omega) only [gA,aA,qop,fop,St.ev,St.put,cd,zd,Value.oneCell',lA,TypeDesc.aggB,Z0,Bool.not_true,Bool.not_false,cA,mA,Z1,oA,pA,qA,eA,D.pure?,ZC,ZD,yA,iop,eE,aD,lC,eC,D.cell1,eB,fB,gB,iB,jB,List.all_cons,List.all_nil,zC,TI.place,TI.zeros,TI.kindOk,D.cells?,zp,Value.cells,ZQ,ZP,sA,D.pv?,tt,kB,aB,pB,Zh,hx] <;> exact rfl) ?_)
     (all_goals first | (refine fC rfl rfl rfl (by simp (disch := omega) only [gA,aA,qop,fop,St.ev,St.put,cd,zd,Value.oneCell',lA,TypeDesc.aggB,Z0,Bool.not_true,Bool.not_false,cA,mA,Z1,oA,pA,qA,eA,D.pure?,ZC,ZD,yA,iop,eE,aD,lC,eC,D.cell1,eB,fB,gB,iB,jB,List.all_cons,List.all_nil,zC,TI.place,TI.zeros,TI.kindOk,D.cells?,zp,Value.cells,ZQ,ZP,sA,D.pv?,tt,kB,aB,pB,Zh,hx] <;> exact rfl) ?_) | (first | (refine zB rfl rfl rfl (by simp only [St.put,Za,Zb] <;> exact rfl) ?_) | (refine aC rfl rfl rfl (by simp only [St.put,Za,Zb] <;> exact rfl) ?_)) | (refine yB rfl rfl rfl (by simp only [Za,Zb] <;> exact rfl) (by simp only [Za,Zb] <;> exact rfl) (fun hg => ?_) (fun hg => ?_) <;> (try simp only [Zp,Zi,ZJ,ZK,ne_eq,Zn,Zm,Bool.not_eq_true,Zu] at hg) <;> first | (refine fC rfl rfl rfl (by simp (disch := omega) only [gA,aA,qop,fop,St.ev,St.put,cd,zd,Value.oneCell',lA,TypeDesc.aggB,Z0,Bool.not_true,Bool.not_false,cA,mA,Z1,oA,pA,qA,eA,D.pure?,ZC,ZD,yA,iop,eE,aD,lC,eC,D.cell1,eB,fB,gB,iB,jB,List.all_cons,List.all_nil,zC,TI.place,TI.zeros,TI.kindOk,D.cells?,zp,Value.cells,ZQ,ZP,sA,D.pv?,tt,kB,aB,pB,Zh,hx] <;> exact rfl) ?_) | (first | (refine zB rfl rfl rfl (by simp only [St.put,Za,Zb] <;> exact rfl) ?_) | (refine aC rfl rfl rfl (by simp only [St.put,Za,Zb] <;> exact rfl) ?_))))
     iterate 2 (refine kA rfl (by simp (disch := omega) only [gA,aA,qop,fop,St.ev,St.put,cd,zd,Value.oneCell',lA,TypeDesc.aggB,Z0,Bool.not_true,Bool.not_false,cA,mA,Z1,oA,pA,qA,eA,D.pure?,ZC,ZD,yA,iop,eE,aD,lC,eC,D.cell1,eB,fB,gB,iB,jB,List.all_cons,List.all_nil,zC,TI.place,TI.zeros,TI.kindOk,D.cells?,zp,Value.cells,ZQ,ZP,sA,D.pv?,tt,kB,aB,pB,Zh,hx] <;> exact rfl) ?_)
     iterate 7 (all_goals first | (refine fC rfl rfl rfl (by simp (disch := omega) only [gA,aA,qop,fop,St.ev,St.put,cd,zd,Value.oneCell',lA,TypeDesc.aggB,Z0,Bool.not_true,Bool.not_false,cA,mA,Z1,oA,pA,qA,eA,D.pure?,ZC,ZD,yA,iop,eE,aD,lC,eC,D.cell1,eB,fB,gB,iB,jB,List.all_cons,List.all_nil,zC,TI.place,TI.zeros,TI.kindOk,D.cells?,zp,Value.cells,ZQ,ZP,sA,D.pv?,tt,kB,aB,pB,Zh,hx] <;> exact rfl) ?_) | (first | (refine zB rfl rfl rfl (by simp only [St.put,Za,Zb] <;> exact rfl) ?_) | (refine aC rfl rfl rfl (by simp only [St.put,Za,Zb] <;> exact rfl) ?_)) | (refine yB rfl rfl rfl (by simp only [Za,Zb] <;> exact rfl) (by simp only [Za,Zb] <;> exact rfl) (fun hg => ?_) (fun hg => ?_) <;> (try simp only [Zp,Zi,ZJ,ZK,ne_eq,Zn,Zm,Bool.not_eq_true,Zu] at hg) <;> first | (refine fC rfl rfl rfl (by simp (disch := omega) only [gA,aA,qop,fop,St.ev,St.put,cd,zd,Value.oneCell',lA,TypeDesc.aggB,Z0,Bool.not_true,Bool.not_false,cA,mA,Z1,oA,pA,qA,eA,D.pure?,ZC,ZD,yA,iop,eE,aD,lC,eC,D.cell1,eB,fB,gB,iB,jB,List.all_cons,List.all_nil,zC,TI.place,TI.zeros,TI.kindOk,D.cells?,zp,Value.cells,ZQ,ZP,sA,D.pv?,tt,kB,aB,pB,Zh,hx] <;> exact rfl) ?_) | (first | (refine zB rfl rfl rfl (by simp only [St.put,Za,Zb] <;> exact rfl) ?_) | (refine aC rfl rfl rfl (by simp only [St.put,Za,Zb] <;> exact rfl) ?_))))
     all_goals first | (first | (refine zB rfl rfl rfl (by simp only [St.put,Za,Zb] <;> exact rfl) ?_) | (refine aC rfl rfl rfl (by simp only [St.put,Za,Zb] <;> exact rfl) ?_)) | (refine zQ rfl rfl rfl rfl (by simp only [St.ev,nB,oB,zd,cd,Value.oneCell',Zr] <;> exact rfl) (by simp only [sA,nD,D.pvC?,D.pvN?,D.pvL?,eA,D.pv?,D.pure?,St.ev,nB,oB,zd,cd,Value.oneCell',Zr,ZG,ZH,Zd,Zc,Zg] <;> exact rfl) rfl ((bL (iI hI hil hx hsp hc1 hnow).1)) (by simp only [St.put,Za,Zb] <;> exact rfl) ?_) | (refine yB rfl rfl rfl (by simp only [Za,Zb] <;> exact rfl) (by simp only [Za,Zb] <;> exact rfl) (fun hg => ?_) (fun hg => ?_) <;> (try simp only [Zp,Zi,ZJ,ZK,ne_eq,Zn,Zm,Bool.not_eq_true,Zu] at hg) <;> first | (first | (refine zB rfl rfl rfl (by simp only [St.put,Za,Zb] <;> exact rfl) ?_) | (refine aC rfl rfl rfl (by simp only [St.put,Za,Zb] <;> exact rfl) ?_)) | (refine zQ rfl rfl rfl rfl (by simp only [St.ev,nB,oB,zd,cd,Value.oneCell',Zr] <;> exact rfl) (by simp only [sA,nD,D.pvC?,D.pvN?,D.pvL?,eA,D.pv?,D.pure?,St.ev,nB,oB,zd,cd,Value.oneCell',Zr,ZG,ZH,Zd,Zc,Zg] <;> exact rfl) rfl ((bL (iI hI hil hx hsp hc1 hnow).1)) (by simp only [St.put,Za,Zb] <;> exact rfl) ?_))
     (all_goals first | (refine fC rfl rfl rfl (by simp (disch := omega) only [gA,aA,qop,fop,St.ev,St.put,cd,zd,Value.oneCell',lA,TypeDesc.aggB,Z0,Bool.not_true,Bool.not_false,cA,mA,Z1,oA,pA,qA,eA,D.pure?,ZC,ZD,yA,iop,eE,aD,lC,eC,D.cell1,eB,fB,gB,iB,jB,List.all_cons,List.all_nil,zC,TI.place,TI.zeros,TI.kindOk,D.cells?,zp,Value.cells,ZQ,ZP,sA,D.pv?,tt,kB,aB,pB,Zh,hx] <;> exact rfl) ?_) | (first | (refine zB rfl rfl rfl (by simp only [St.put,Za,Zb] <;> exact rfl) ?_) | (refine aC rfl rfl rfl (by simp only [St.put,Za,Zb] <;> exact rfl) ?_)) | (refine yB rfl rfl rfl (by simp only [Za,Zb] <;> exact rfl) (by simp only [Za,Zb] <;> exact rfl) (fun hg => ?_) (fun hg => ?_) <;> (try simp only [Zp,Zi,ZJ,ZK,ne_eq,Zn,Zm,Bool.not_eq_true,Zu] at hg) <;> first | (refine fC rfl rfl rfl (by simp (disch := omega) only [gA,aA,qop,fop,St.ev,St.put,cd,zd,Value.oneCell',lA,TypeDesc.aggB,Z0,Bool.not_true,Bool.not_false,cA,mA,Z1,oA,pA,qA,eA,D.pure?,ZC,ZD,yA,iop,eE,aD,lC,eC,D.cell1,eB,fB,gB,iB,jB,List.all_cons,List.all_nil,zC,TI.place,TI.zeros,TI.kindOk,D.cells?,zp,Value.cells,ZQ,ZP,sA,D.pv?,tt,kB,aB,pB,Zh,hx] <;> exact rfl) ?_) | (first | (refine zB rfl rfl rfl (by simp only [St.put,Za,Zb] <;> exact rfl) ?_) | (refine aC rfl rfl rfl (by simp only [St.put,Za,Zb] <;> exact rfl) ?_))))
     (refine kA rfl (by simp (disch := omega) only [gA,aA,qop,fop,St.ev,St.put,cd,zd,Value.oneCell',lA,TypeDesc.aggB,Z0,Bool.not_true,Bool.not_false,cA,mA,Z1,oA,pA,qA,eA,D.pure?,ZC,ZD,yA,iop,eE,aD,lC,eC,D.cell1,eB,fB,gB,iB,jB,List.all_cons,List.all_nil,zC,TI.place,TI.zeros,TI.kindOk,D.cells?,zp,Value.cells,ZQ,ZP,sA,D.pv?,tt,kB,aB,pB,Zh,hx] <;> exact rfl) ?_)
     refine bA ?_
     exact hK
    refine jA ?_
    refine mB false rfl (fun h => by cases h) (fun _ => ?_)
    refine tB ?_
    refine jA ?_
    refine iA hX hb [0,1] rfl (σ' := ?s13) (fun K hK => ?h13) ?n13
    case h13 =>
     iterate 2 (refine kA rfl (by simp (disch := omega) only [gA,aA,qop,fop,St.ev,St.put,cd,zd,Value.oneCell',lA,TypeDesc.aggB,Z0,kB,aB,pB,Zh] <;> exact rfl) ?_)
     refine bA ?_
     exact hK
    refine dE ?_
    refine jA ?_
    refine iA hX hb [0,1] rfl (σ' := ?s14) (fun K hK => ?h14) ?n14
    case h14 =>
     iterate 2 (refine kA rfl (by simp (disch := omega) only [gA,aA,qop,fop,St.ev,St.put,cd,zd,Value.oneCell',lA,TypeDesc.aggB,Z0,yA,iop,tt,kB,aB,pB,Zh] <;> exact rfl) ?_)
     refine bA ?_
     exact hK
    refine jA ?_
    exact ⟨(i + 1,d + sp,st,false,k),by exact hFA hI hil hx hsp hc1 hnow,by (try dsimp only); omega,sC ⟨rfl,(by repeat first | exact tA | refine qB ?_ | refine uA rfl ?_),(vC rfl (uA rfl (uA rfl (tA))) (wB _)),(xB _),rfl,rfl⟩⟩
   ·refine iA hX hb [0,1,2,3,4] rfl (σ' := ?s15) (fun K hK => ?h15) ?n15
    case h15 =>
     iterate 2 (refine kA rfl (by simp (disch := omega) only [gA,aA,qop,fop,St.ev,St.put,cd,zd,Value.oneCell',lA,TypeDesc.aggB,Z0,Bool.not_true,Bool.not_false,tt,kB,aB,pB,Zh] <;> exact rfl) ?_)
     iterate 2 (all_goals first | (refine fC rfl rfl rfl (by simp (disch := omega) only [gA,aA,qop,fop,St.ev,St.put,cd,zd,Value.oneCell',lA,TypeDesc.aggB,Z0,Bool.not_true,Bool.not_false,tt,kB,aB,pB,Zh] <;> exact rfl) ?_) | (first | (refine zB rfl rfl rfl (by simp only [St.put,Za,Zb] <;> exact rfl) ?_) | (refine aC rfl rfl rfl (by simp only [St.put,Za,Zb] <;> exact rfl) ?_)) | (refine yB rfl rfl rfl (by simp only [Za,Zb] <;> exact rfl) (by simp only [Za,Zb] <;> exact rfl) (fun hg => ?_) (fun hg => ?_) <;> (try simp only [Zp,Zi,ZJ,ZK,ne_eq,Zn,Zm,Bool.not_eq_true,Zu] at hg) <;> first | (refine fC rfl rfl rfl (by simp (disch := omega) only [gA,aA,qop,fop,St.ev,St.put,cd,zd,Value.oneCell',lA,TypeDesc.aggB,Z0,Bool.not_true,Bool.not_false,tt,kB,aB,pB,Zh] <;> exact rfl) ?_) | (first | (refine zB rfl rfl rfl (by simp only [St.put,Za,Zb] <;> exact rfl) ?_) | (refine aC rfl rfl rfl (by simp only [St.put,Za,Zb] <;> exact rfl) ?_))))
     (refine kA rfl (by simp (disch := omega) only [gA,aA,qop,fop,St.ev,St.put,cd,zd,Value.oneCell',lA,TypeDesc.aggB,Z0,Bool.not_true,Bool.not_false,tt,kB,aB,pB,Zh] <;> exact rfl) ?_)
     refine bA ?_
     exact hK
    refine jA ?_
    refine mB false rfl (fun h => by cases h) (fun _ => ?_)
    refine tB ?_
    refine jA ?_
    refine fA ?_
    refine fA ?_
    refine iA hX hb [0,1,2,3,4,5,6,7,8,9,10,11,12,13,14,15] rfl (σ' := ?s16) (fun K hK => ?h16) ?n16
    case h16 =>
     iterate 3 (refine kA rfl (by simp (disch := omega) only [gA,aA,qop,fop,St.ev,St.put,cd,zd,Value.oneCell',lA,TypeDesc.aggB,Z0,Bool.not_true,Bool.not_false,cA,mA,Z1,oA,pA,qA,eA,D.pure?,ZC,ZD,yA,iop,eE,aD,lC,eC,D.cell1,eB,fB,gB,iB,jB,List.all_cons,List.all_nil,zC,TI.place,TI.zeros,TI.kindOk,D.cells?,zp,Value.cells,ZQ,ZP,sA,D.pv?,tt,kB,aB,pB,Zh,hx] <;> exact rfl) ?_)
     (all_goals first | (refine fC rfl rfl rfl (by simp (disch := omega) only [gA,aA,qop,fop,St.ev,St.put,cd,zd,Value.oneCell',lA,TypeDesc.aggB,Z0,Bool.not_true,Bool.not_false,cA,mA,Z1,oA,pA,qA,eA,D.pure?,ZC,ZD,yA,iop,eE,aD,lC,eC,D.cell1,eB,fB,gB,iB,jB,List.all_cons,List.all_nil,zC,TI.place,TI.zeros,TI.kindOk,D.cells?,zp,Value.cells,ZQ,ZP,sA,D.pv?,tt,kB,aB,pB,Zh,hx] <;> exact rfl) ?_) | (first | (refine zB rfl rfl rfl (by simp only [St.put,Za,Zb] <;> exact rfl) ?_) | (refine aC rfl rfl rfl (by simp only [St.put,Za,Zb] <;> exact rfl) ?_)) | (refine yB rfl rfl rfl (by simp only [Za,Zb] <;> exact rfl) (by simp only [Za,Zb] <;> exact rfl) (fun hg => ?_) (fun hg => ?_) <;> (try simp only [Zp,Zi,ZJ,ZK,ne_eq,Zn,Zm,Bool.not_eq_true,Zu] at hg) <;> first | (refine fC rfl rfl rfl (by simp (disch := omega) only [gA,aA,qop,fop,St.ev,St.put,cd,zd,Value.oneCell',lA,TypeDesc.aggB,Z0,Bool.not_true,Bool.not_false,cA,mA,Z1,oA,pA,qA,eA,D.pure?,ZC,ZD,yA,iop,eE,aD,lC,eC,D.cell1,eB,fB,gB,iB,jB,List.all_cons,List.all_nil,zC,TI.place,TI.zeros,TI.kindOk,D.cells?,zp,Value.cells,ZQ,ZP,sA,D.pv?,tt,kB,aB,pB,Zh,hx] <;> exact rfl) ?_) | (first | (refine zB rfl rfl rfl (by simp only [St.put,Za,Zb] <;> exact rfl) ?_) | (refine aC rfl rfl rfl (by simp only [St.put,Za,Zb] <;> exact rfl) ?_))))
     iterate 2 (refine kA rfl (by simp (disch := omega) only [gA,aA,qop,fop,St.ev,St.put,cd,zd,Value.oneCell',lA,TypeDesc.aggB,Z0,Bool.not_true,Bool.not_false,cA,mA,Z1,oA,pA,qA,eA,D.pure?,ZC,ZD,yA,iop,eE,aD,lC,eC,D.cell1,eB,fB,gB,iB,jB,List.all_cons,List.all_nil,zC,TI.place,TI.zeros,TI.kindOk,D.cells?,zp,Value.cells,ZQ,ZP,sA,D.pv?,tt,kB,aB,pB,Zh,hx] <;> exact rfl) ?_)
     iterate 7 (all_goals first | (refine fC rfl rfl rfl (by simp (disch := omega) only [gA,aA,qop,fop,St.ev,St.put,cd,zd,Value.oneCell',lA,TypeDesc.aggB,Z0,Bool.not_true,Bool.not_false,cA,mA,Z1,oA,pA,qA,eA,D.pure?,ZC,ZD,yA,iop,eE,aD,lC,eC,D.cell1,eB,fB,gB,iB,jB,List.all_cons,List.all_nil,zC,TI.place,TI.zeros,TI.kindOk,D.cells?,zp,Value.cells,ZQ,ZP,sA,D.pv?,tt,kB,aB,pB,Zh,hx] <;> exact rfl) ?_) | (first | (refine zB rfl rfl rfl (by simp only [St.put,Za,Zb] <;> exact rfl) ?_) | (refine aC rfl rfl rfl (by simp only [St.put,Za,Zb] <;> exact rfl) ?_)) | (refine yB rfl rfl rfl (by simp only [Za,Zb] <;> exact rfl) (by simp only [Za,Zb] <;> exact rfl) (fun hg => ?_) (fun hg => ?_) <;> (try simp only [Zp,Zi,ZJ,ZK,ne_eq,Zn,Zm,Bool.not_eq_true,Zu] at hg) <;> first | (refine fC rfl rfl rfl (by simp (disch := omega) only [gA,aA,qop,fop,St.ev,St.put,cd,zd,Value.oneCell',lA,TypeDesc.aggB,Z0,Bool.not_true,Bool.not_false,cA,mA,Z1,oA,pA,qA,eA,D.pure?,ZC,ZD,yA,iop,eE,aD,lC,eC,D.cell1,eB,fB,gB,iB,jB,List.all_cons,List.all_nil,zC,TI.place,TI.zeros,TI.kindOk,D.cells?,zp,Value.cells,ZQ,ZP,sA,D.pv?,tt,kB,aB,pB,Zh,hx] <;> exact rfl) ?_) | (first | (refine zB rfl rfl rfl (by simp only [St.put,Za,Zb] <;> exact rfl) ?_) | (refine aC rfl rfl rfl (by simp only [St.put,Za,Zb] <;> exact rfl) ?_))))
     all_goals first | (first | (refine zB rfl rfl rfl (by simp only [St.put,Za,Zb] <;> exact rfl) ?_) | (refine aC rfl rfl rfl (by simp only [St.put,Za,Zb] <;> exact rfl) ?_)) | (refine zQ rfl rfl rfl rfl (by simp only [St.ev,nB,oB,zd,cd,Value.oneCell',Zr] <;> exact rfl) (by simp only [sA,nD,D.pvC?,D.pvN?,D.pvL?,eA,D.pv?,D.pure?,St.ev,nB,oB,zd,cd,Value.oneCell',Zr,ZG,ZH,Zd,Zc,Zg] <;> exact rfl) rfl ((bL (iI hI hil hx hsp hc1 hnow).1)) (by simp only [St.put,Za,Zb] <;> exact rfl) ?_) | (refine yB rfl rfl rfl (by simp only [Za,Zb] <;> exact rfl) (by simp only [Za,Zb] <;> exact rfl) (fun hg => ?_) (fun hg => ?_) <;> (try simp only [Zp,Zi,ZJ,ZK,ne_eq,Zn,Zm,Bool.not_eq_true,Zu] at hg) <;> first | (first | (refine zB rfl rfl rfl (by simp only [St.put,Za,Zb] <;> exact rfl) ?_) | (refine aC rfl rfl rfl (by simp only [St.put,Za,Zb] <;> exact rfl) ?_)) | (refine zQ rfl rfl rfl rfl (by simp only [St.ev,nB,oB,zd,cd,Value.oneCell',Zr] <;> exact rfl) (by simp only [sA,nD,D.pvC?,D.pvN?,D.pvL?,eA,D.pv?,D.pure?,St.ev,nB,oB,zd,cd,Value.oneCell',Zr,ZG,ZH,Zd,Zc,Zg] <;> exact rfl) rfl ((bL (iI hI hil hx hsp hc1 hnow).1)) (by simp only [St.put,Za,Zb] <;> exact rfl) ?_))
     (all_goals first | (refine fC rfl rfl rfl (by simp (disch := omega) only [gA,aA,qop,fop,St.ev,St.put,cd,zd,Value.oneCell',lA,TypeDesc.aggB,Z0,Bool.not_true,Bool.not_false,cA,mA,Z1,oA,pA,qA,eA,D.pure?,ZC,ZD,yA,iop,eE,aD,lC,eC,D.cell1,eB,fB,gB,iB,jB,List.all_cons,List.all_nil,zC,TI.place,TI.zeros,TI.kindOk,D.cells?,zp,Value.cells,ZQ,ZP,sA,D.pv?,tt,kB,aB,pB,Zh,hx] <;> exact rfl) ?_) | (first | (refine zB rfl rfl rfl (by simp only [St.put,Za,Zb] <;> exact rfl) ?_) | (refine aC rfl rfl rfl (by simp only [St.put,Za,Zb] <;> exact rfl) ?_)) | (refine yB rfl rfl rfl (by simp only [Za,Zb] <;> exact rfl) (by simp only [Za,Zb] <;> exact rfl) (fun hg => ?_) (fun hg => ?_) <;> (try simp only [Zp,Zi,ZJ,ZK,ne_eq,Zn,Zm,Bool.not_eq_true,Zu] at hg) <;> first | (refine fC rfl rfl rfl (by simp (disch := omega) only [gA,aA,qop,fop,St.ev,St.put,cd,zd,Value.oneCell',lA,TypeDesc.aggB,Z0,Bool.not_true,Bool.not_false,cA,mA,Z1,oA,pA,qA,eA,D.pure?,ZC,ZD,yA,iop,eE,aD,lC,eC,D.cell1,eB,fB,gB,iB,jB,List.all_cons,List.all_nil,zC,TI.place,TI.zeros,TI.kindOk,D.cells?,zp,Value.cells,ZQ,ZP,sA,D.pv?,tt,kB,aB,pB,Zh,hx] <;> exact rfl) ?_) | (first | (refine zB rfl rfl rfl (by simp only [St.put,Za,Zb] <;> exact rfl) ?_) | (refine aC rfl rfl rfl (by simp only [St.put,Za,Zb] <;> exact rfl) ?_))))
     (refine kA rfl (by simp (disch := omega) only [gA,aA,qop,fop,St.ev,St.put,cd,zd,Value.oneCell',lA,TypeDesc.aggB,Z0,Bool.not_true,Bool.not_false,cA,mA,Z1,oA,pA,qA,eA,D.pure?,ZC,ZD,yA,iop,eE,aD,lC,eC,D.cell1,eB,fB,gB,iB,jB,List.all_cons,List.all_nil,zC,TI.place,TI.zeros,TI.kindOk,D.cells?,zp,Value.cells,ZQ,ZP,sA,D.pv?,tt,kB,aB,pB,Zh,hx] <;> exact rfl) ?_)
     refine bA ?_
     exact hK
    refine jA ?_
    refine mB false rfl (fun h => by cases h) (fun _ => ?_)
    refine tB ?_
    refine jA ?_
    refine iA hX hb [0,1] rfl (σ' := ?s17) (fun K hK => ?h17) ?n17
    case h17 =>
     iterate 2 (refine kA rfl (by simp (disch := omega) only [gA,aA,qop,fop,St.ev,St.put,cd,zd,Value.oneCell',lA,TypeDesc.aggB,Z0,kB,aB,pB,Zh] <;> exact rfl) ?_)
     refine bA ?_
     exact hK
    refine dE ?_
    refine jA ?_
    refine iA hX hb [0,1] rfl (σ' := ?s18) (fun K hK => ?h18) ?n18
    case h18 =>
     iterate 2 (refine kA rfl (by simp (disch := omega) only [gA,aA,qop,fop,St.ev,St.put,cd,zd,Value.oneCell',lA,TypeDesc.aggB,Z0,yA,iop,tt,kB,aB,pB,Zh] <;> exact rfl) ?_)
     refine bA ?_
     exact hK
    refine jA ?_
    exact ⟨(i + 1,d + sp,st,false,k + 1),by exact (iI hI hil hx hsp hc1 hnow).2,by (try dsimp only); omega,sC ⟨rfl,(by repeat first | exact tA | refine qB ?_ | refine uA rfl ?_),(vC rfl (uA rfl (uA rfl (tA))) (wB _)),(xB _),rfl,rfl⟩⟩
   ·refine iA hX hb [0,1,2,3,4] rfl (σ' := ?s19) (fun K hK => ?h19) ?n19
    case h19 =>
     iterate 2 (refine kA rfl (by simp (disch := omega) only [gA,aA,qop,fop,St.ev,St.put,cd,zd,Value.oneCell',lA,TypeDesc.aggB,Z0,Bool.not_true,Bool.not_false,tt,kB,aB,pB,Zh] <;> exact rfl) ?_)
     iterate 2 (all_goals first | (refine fC rfl rfl rfl (by simp (disch := omega) only [gA,aA,qop,fop,St.ev,St.put,cd,zd,Value.oneCell',lA,TypeDesc.aggB,Z0,Bool.not_true,Bool.not_false,tt,kB,aB,pB,Zh] <;> exact rfl) ?_) | (first | (refine zB rfl rfl rfl (by simp only [St.put,Za,Zb] <;> exact rfl) ?_) | (refine aC rfl rfl rfl (by simp only [St.put,Za,Zb] <;> exact rfl) ?_)) | (refine yB rfl rfl rfl (by simp only [Za,Zb] <;> exact rfl) (by simp only [Za,Zb] <;> exact rfl) (fun hg => ?_) (fun hg => ?_) <;> (try simp only [Zp,Zi,ZJ,ZK,ne_eq,Zn,Zm,Bool.not_eq_true,Zu] at hg) <;> first | (refine fC rfl rfl rfl (by simp (disch := omega) only [gA,aA,qop,fop,St.ev,St.put,cd,zd,Value.oneCell',lA,TypeDesc.aggB,Z0,Bool.not_true,Bool.not_false,tt,kB,aB,pB,Zh] <;> exact rfl) ?_) | (first | (refine zB rfl rfl rfl (by simp only [St.put,Za,Zb] <;> exact rfl) ?_) | (refine aC rfl rfl rfl (by simp only [St.put,Za,Zb] <;> exact rfl) ?_))))
     (refine kA rfl (by simp (disch := omega) only [gA,aA,qop,fop,St.ev,St.put,cd,zd,Value.oneCell',lA,TypeDesc.aggB,Z0,Bool.not_true,Bool.not_false,tt,kB,aB,pB,Zh] <;> exact rfl) ?_)
     refine bA ?_
     exact hK
    refine jA ?_
    refine mB true rfl (fun _ => ?_) (fun h => by cases h)
    refine iA hX hb [0,1,2] rfl (σ' := ?s20) (fun K hK => ?h20) ?n20
    case h20 =>
     iterate 3 (refine kA rfl (by simp (disch := omega) only [gA,aA,qop,fop,St.ev,St.put,cd,zd,Value.oneCell',lA,TypeDesc.aggB,Z0,cA,mA,Z1,oA,pA,qA,eA,D.pure?,ZC,ZD,tt,kB,aB,pB,Zh,hx] <;> exact rfl) ?_)
     refine bA ?_
     exact hK
    refine jA ?_
    refine fA ?_
    refine fA ?_
    refine iA hX hb [0,1,2,3,4,5,6,7,8,9,10,11,12,13,14,15] rfl (σ' := ?s21) (fun K hK => ?h21) ?n21
    case h21 =>
     iterate 3 (refine kA rfl (by simp (disch := omega) only [gA,aA,qop,fop,St.ev,St.put,cd,zd,Value.oneCell',lA,TypeDesc.aggB,Z0,Bool.not_true,Bool.not_false,cA,mA,Z1,oA,pA,qA,eA,D.pure?,ZC,ZD,yA,iop,eE,aD,lC,eC,D.cell1,eB,fB,gB,iB,jB,List.all_cons,List.all_nil,zC,TI.place,TI.zeros,TI.kindOk,D.cells?,zp,Value.cells,ZQ,ZP,sA,D.pv?,tt,kB,aB,pB,Zh,hx] <;> exact rfl) ?_)
     (all_goals first | (refine fC rfl rfl rfl (by simp (disch := omega) only [gA,aA,qop,fop,St.ev,St.put,cd,zd,Value.oneCell',lA,TypeDesc.aggB,Z0,Bool.not_true,Bool.not_false,cA,mA,Z1,oA,pA,qA,eA,D.pure?,ZC,ZD,yA,iop,eE,aD,lC,eC,D.cell1,eB,fB,gB,iB,jB,List.all_cons,List.all_nil,zC,TI.place,TI.zeros,TI.kindOk,D.cells?,zp,Value.cells,ZQ,ZP,sA,D.pv?,tt,kB,aB,pB,Zh,hx] <;> exact rfl) ?_) | (first | (refine zB rfl rfl rfl (by simp only [St.put,Za,Zb] <;> exact rfl) ?_) | (refine aC rfl rfl rfl (by simp only [St.put,Za,Zb] <;> exact rfl) ?_)) | (refine yB rfl rfl rfl (by simp only [Za,Zb] <;> exact rfl) (by simp only [Za,Zb] <;> exact rfl) (fun hg => ?_) (fun hg => ?_) <;> (try simp only [Zp,Zi,ZJ,ZK,ne_eq,Zn,Zm,Bool.not_eq_true,Zu] at hg) <;> first | (refine fC rfl rfl rfl (by simp (disch := omega) only [gA,aA,qop,fop,St.ev,St.put,cd,zd,Value.oneCell',lA,TypeDesc.aggB,Z0,Bool.not_true,Bool.not_false,cA,mA,Z1,oA,pA,qA,eA,D.pure?,ZC,ZD,yA,iop,eE,aD,lC,eC,D.cell1,eB,fB,gB,iB,jB,List.all_cons,List.all_nil,zC,TI.place,TI.zeros,TI.kindOk,D.cells?,zp,Value.cells,ZQ,ZP,sA,D.pv?,tt,kB,aB,pB,Zh,hx] <;> exact rfl) ?_) | (first | (refine zB rfl rfl rfl (by simp only [St.put,Za,Zb] <;> exact rfl) ?_) | (refine aC rfl rfl rfl (by simp only [St.put,Za,Zb] <;> exact rfl) ?_))))
     iterate 2 (refine kA rfl (by simp (disch := omega) only [gA,aA,qop,fop,St.ev,St.put,cd,zd,Value.oneCell',lA,TypeDesc.aggB,Z0,Bool.not_true,Bool.not_false,cA,mA,Z1,oA,pA,qA,eA,D.pure?,ZC,ZD,yA,iop,eE,aD,lC,eC,D.cell1,eB,fB,gB,iB,jB,List.all_cons,List.all_nil,zC,TI.place,TI.zeros,TI.kindOk,D.cells?,zp,Value.cells,ZQ,ZP,sA,D.pv?,tt,kB,aB,pB,Zh,hx] <;> exact rfl) ?_)
     iterate 7 (all_goals first | (refine fC rfl rfl rfl (by simp (disch := omega) only [gA,aA,qop,fop,St.ev,St.put,cd,zd,Value.oneCell',lA,TypeDesc.aggB,Z0,Bool.not_true,Bool.not_false,cA,mA,Z1,oA,pA,qA,eA,D.pure?,ZC,ZD,yA,iop,eE,aD,lC,eC,D.cell1,eB,fB,gB,iB,jB,List.all_cons,List.all_nil,zC,TI.place,TI.zeros,TI.kindOk,D.cells?,zp,Value.cells,ZQ,ZP,sA,D.pv?,tt,kB,aB,pB,Zh,hx] <;> exact rfl) ?_) | (first | (refine zB rfl rfl rfl (by simp only [St.put,Za,Zb] <;> exact rfl) ?_) | (refine aC rfl rfl rfl (by simp only [St.put,Za,Zb] <;> exact rfl) ?_)) | (refine yB rfl rfl rfl (by simp only [Za,Zb] <;> exact rfl) (by simp only [Za,Zb] <;> exact rfl) (fun hg => ?_) (fun hg => ?_) <;> (try simp only [Zp,Zi,ZJ,ZK,ne_eq,Zn,Zm,Bool.not_eq_true,Zu] at hg) <;> first | (refine fC rfl rfl rfl (by simp (disch := omega) only [gA,aA,qop,fop,St.ev,St.put,cd,zd,Value.oneCell',lA,TypeDesc.aggB,Z0,Bool.not_true,Bool.not_false,cA,mA,Z1,oA,pA,qA,eA,D.pure?,ZC,ZD,yA,iop,eE,aD,lC,eC,D.cell1,eB,fB,gB,iB,jB,List.all_cons,List.all_nil,zC,TI.place,TI.zeros,TI.kindOk,D.cells?,zp,Value.cells,ZQ,ZP,sA,D.pv?,tt,kB,aB,pB,Zh,hx] <;> exact rfl) ?_) | (first | (refine zB rfl rfl rfl (by simp only [St.put,Za,Zb] <;> exact rfl) ?_) | (refine aC rfl rfl rfl (by simp only [St.put,Za,Zb] <;> exact rfl) ?_))))
     all_goals first | (first | (refine zB rfl rfl rfl (by simp only [St.put,Za,Zb] <;> exact rfl) ?_) | (refine aC rfl rfl rfl (by simp only [St.put,Za,Zb] <;> exact rfl) ?_)) | (refine zQ rfl rfl rfl rfl (by simp only [St.ev,nB,oB,zd,cd,Value.oneCell',Zr] <;> exact rfl) (by simp only [sA,nD,D.pvC?,D.pvN?,D.pvL?,eA,D.pv?,D.pure?,St.ev,nB,oB,zd,cd,Value.oneCell',Zr,ZG,ZH,Zd,Zc,Zg] <;> exact rfl) rfl ((bL (iI hI hil hx hsp hc1 hnow).1)) (by simp only [St.put,Za,Zb] <;> exact rfl) ?_) | (refine yB rfl rfl rfl (by simp only [Za,Zb] <;> exact rfl) (by simp only [Za,Zb] <;> exact rfl) (fun hg => ?_) (fun hg => ?_) <;> (try simp only [Zp,Zi,ZJ,ZK,ne_eq,Zn,Zm,Bool.not_eq_true,Zu] at hg) <;> first | (first | (refine zB rfl rfl rfl (by simp only [St.put,Za,Zb] <;> exact rfl) ?_) | (refine aC rfl rfl rfl (by simp only [St.put,Za,Zb] <;> exact rfl) ?_)) | (refine zQ rfl rfl rfl rfl (by simp only [St.ev,nB,oB,zd,cd,Value.oneCell',Zr] <;> exact rfl) (by simp only [sA,nD,D.pvC?,D.pvN?,D.pvL?,eA,D.pv?,D.pure?,St.ev,nB,oB,zd,cd,Value.oneCell',Zr,ZG,ZH,Zd,Zc,Zg] <;> exact rfl) rfl ((bL (iI hI hil hx hsp hc1 hnow).1)) (by simp only [St.put,Za,Zb] <;> exact rfl) ?_))
     (all_goals first | (refine fC rfl rfl rfl (by simp (disch := omega) only [gA,aA,qop,fop,St.ev,St.put,cd,zd,Value.oneCell',lA,TypeDesc.aggB,Z0,Bool.not_true,Bool.not_false,cA,mA,Z1,oA,pA,qA,eA,D.pure?,ZC,ZD,yA,iop,eE,aD,lC,eC,D.cell1,eB,fB,gB,iB,jB,List.all_cons,List.all_nil,zC,TI.place,TI.zeros,TI.kindOk,D.cells?,zp,Value.cells,ZQ,ZP,sA,D.pv?,tt,kB,aB,pB,Zh,hx] <;> exact rfl) ?_) | (first | (refine zB rfl rfl rfl (by simp only [St.put,Za,Zb] <;> exact rfl) ?_) | (refine aC rfl rfl rfl (by simp only [St.put,Za,Zb] <;> exact rfl) ?_)) | (refine yB rfl rfl rfl (by simp only [Za,Zb] <;> exact rfl) (by simp only [Za,Zb] <;> exact rfl) (fun hg => ?_) (fun hg => ?_) <;> (try simp only [Zp,Zi,ZJ,ZK,ne_eq,Zn,Zm,Bool.not_eq_true,Zu] at hg) <;> first | (refine fC rfl rfl rfl (by simp (disch := omega) only [gA,aA,qop,fop,St.ev,St.put,cd,zd,Value.oneCell',lA,TypeDesc.aggB,Z0,Bool.not_true,Bool.not_false,cA,mA,Z1,oA,pA,qA,eA,D.pure?,ZC,ZD,yA,iop,eE,aD,lC,eC,D.cell1,eB,fB,gB,iB,jB,List.all_cons,List.all_nil,zC,TI.place,TI.zeros,TI.kindOk,D.cells?,zp,Value.cells,ZQ,ZP,sA,D.pv?,tt,kB,aB,pB,Zh,hx] <;> exact rfl) ?_) | (first | (refine zB rfl rfl rfl (by simp only [St.put,Za,Zb] <;> exact rfl) ?_) | (refine aC rfl rfl rfl (by simp only [St.put,Za,Zb] <;> exact rfl) ?_))))
     (refine kA rfl (by simp (disch := omega) only [gA,aA,qop,fop,St.ev,St.put,cd,zd,Value.oneCell',lA,TypeDesc.aggB,Z0,Bool.not_true,Bool.not_false,cA,mA,Z1,oA,pA,qA,eA,D.pure?,ZC,ZD,yA,iop,eE,aD,lC,eC,D.cell1,eB,fB,gB,iB,jB,List.all_cons,List.all_nil,zC,TI.place,TI.zeros,TI.kindOk,D.cells?,zp,Value.cells,ZQ,ZP,sA,D.pv?,tt,kB,aB,pB,Zh,hx] <;> exact rfl) ?_)
     refine bA ?_
     exact hK
    refine jA ?_
    refine mB false rfl (fun h => by cases h) (fun _ => ?_)
    refine tB ?_
    refine jA ?_
    refine iA hX hb [0,1] rfl (σ' := ?s22) (fun K hK => ?h22) ?n22
    case h22 =>
     iterate 2 (refine kA rfl (by simp (disch := omega) only [gA,aA,qop,fop,St.ev,St.put,cd,zd,Value.oneCell',lA,TypeDesc.aggB,Z0,kB,aB,pB,Zh] <;> exact rfl) ?_)
     refine bA ?_
     exact hK
    refine dE ?_
    refine jA ?_
    refine iA hX hb [0,1] rfl (σ' := ?s23) (fun K hK => ?h23) ?n23
    case h23 =>
     iterate 2 (refine kA rfl (by simp (disch := omega) only [gA,aA,qop,fop,St.ev,St.put,cd,zd,Value.oneCell',lA,TypeDesc.aggB,Z0,yA,iop,tt,kB,aB,pB,Zh] <;> exact rfl) ?_)
     refine bA ?_
     exact hK
    refine jA ?_
    exact ⟨(i + 1,d + sp,at2,true,k),by exact sDA hI hil hx hsp ⟨ha1,ha2⟩ hc1 hnow,by (try dsimp only); omega,sC ⟨rfl,(by repeat first | exact tA | refine qB ?_ | refine uA rfl ?_),(vC rfl (uA rfl (uA rfl (tA))) (wB _)),(xB _),rfl,rfl⟩⟩
   ·refine iA hX hb [0,1,2,3,4] rfl (σ' := ?s24) (fun K hK => ?h24) ?n24
    case h24 =>
     iterate 2 (refine kA rfl (by simp (disch := omega) only [gA,aA,qop,fop,St.ev,St.put,cd,zd,Value.oneCell',lA,TypeDesc.aggB,Z0,Bool.not_true,Bool.not_false,tt,kB,aB,pB,Zh] <;> exact rfl) ?_)
     iterate 2 (all_goals first | (refine fC rfl rfl rfl (by simp (disch := omega) only [gA,aA,qop,fop,St.ev,St.put,cd,zd,Value.oneCell',lA,TypeDesc.aggB,Z0,Bool.not_true,Bool.not_false,tt,kB,aB,pB,Zh] <;> exact rfl) ?_) | (first | (refine zB rfl rfl rfl (by simp only [St.put,Za,Zb] <;> exact rfl) ?_) | (refine aC rfl rfl rfl (by simp only [St.put,Za,Zb] <;> exact rfl) ?_)) | (refine yB rfl rfl rfl (by simp only [Za,Zb] <;> exact rfl) (by simp only [Za,Zb] <;> exact rfl) (fun hg => ?_) (fun hg => ?_) <;> (try simp only [Zp,Zi,ZJ,ZK,ne_eq,Zn,Zm,Bool.not_eq_true,Zu] at hg) <;> first | (refine fC rfl rfl rfl (by simp (disch := omega) only [gA,aA,qop,fop,St.ev,St.put,cd,zd,Value.oneCell',lA,TypeDesc.aggB,Z0,Bool.not_true,Bool.not_false,tt,kB,aB,pB,Zh] <;> exact rfl) ?_) | (first | (refine zB rfl rfl rfl (by simp only [St.put,Za,Zb] <;> exact rfl) ?_) | (refine aC rfl rfl rfl (by simp only [St.put,Za,Zb] <;> exact rfl) ?_))))
     (refine kA rfl (by simp (disch := omega) only [gA,aA,qop,fop,St.ev,St.put,cd,zd,Value.oneCell',lA,TypeDesc.aggB,Z0,Bool.not_true,Bool.not_false,tt,kB,aB,pB,Zh] <;> exact rfl) ?_)
     refine bA ?_
     exact hK
    refine jA ?_
    refine mB false rfl (fun h => by cases h) (fun _ => ?_)
    refine tB ?_
    refine jA ?_
    refine fA ?_
    refine fA ?_
    refine iA hX hb [0,1,2,3,4,5,6,7,8,9,10,11,12,13,14,15] rfl (σ' := ?s25) (fun K hK => ?h25) ?n25
    case h25 =>
     iterate 3 (refine kA rfl (by simp (disch := omega) only [gA,aA,qop,fop,St.ev,St.put,cd,zd,Value.oneCell',lA,TypeDesc.aggB,Z0,Bool.not_true,Bool.not_false,cA,mA,Z1,oA,pA,qA,eA,D.pure?,ZC,ZD,yA,iop,eE,aD,lC,eC,D.cell1,eB,fB,gB,iB,jB,List.all_cons,List.all_nil,zC,TI.place,TI.zeros,TI.kindOk,D.cells?,zp,Value.cells,ZQ,ZP,sA,D.pv?,tt,kB,aB,pB,Zh,hx] <;> exact rfl) ?_)
     (all_goals first | (refine fC rfl rfl rfl (by simp (disch := omega) only [gA,aA,qop,fop,St.ev,St.put,cd,zd,Value.oneCell',lA,TypeDesc.aggB,Z0,Bool.not_true,Bool.not_false,cA,mA,Z1,oA,pA,qA,eA,D.pure?,ZC,ZD,yA,iop,eE,aD,lC,eC,D.cell1,eB,fB,gB,iB,jB,List.all_cons,List.all_nil,zC,TI.place,TI.zeros,TI.kindOk,D.cells?,zp,Value.cells,ZQ,ZP,sA,D.pv?,tt,kB,aB,pB,Zh,hx] <;> exact rfl) ?_) | (first | (refine zB rfl rfl rfl (by simp only [St.put,Za,Zb] <;> exact rfl) ?_) | (refine aC rfl rfl rfl (by simp only [St.put,Za,Zb] <;> exact rfl) ?_)) | (refine yB rfl rfl rfl (by simp only [Za,Zb] <;> exact rfl) (by simp only [Za,Zb] <;> exact rfl) (fun hg => ?_) (fun hg => ?_) <;> (try simp only [Zp,Zi,ZJ,ZK,ne_eq,Zn,Zm,Bool.not_eq_true,Zu] at hg) <;> first | (refine fC rfl rfl rfl (by simp (disch := omega) only [gA,aA,qop,fop,St.ev,St.put,cd,zd,Value.oneCell',lA,TypeDesc.aggB,Z0,Bool.not_true,Bool.not_false,cA,mA,Z1,oA,pA,qA,eA,D.pure?,ZC,ZD,yA,iop,eE,aD,lC,eC,D.cell1,eB,fB,gB,iB,jB,List.all_cons,List.all_nil,zC,TI.place,TI.zeros,TI.kindOk,D.cells?,zp,Value.cells,ZQ,ZP,sA,D.pv?,tt,kB,aB,pB,Zh,hx] <;> exact rfl) ?_) | (first | (refine zB rfl rfl rfl (by simp only [St.put,Za,Zb] <;> exact rfl) ?_) | (refine aC rfl rfl rfl (by simp only [St.put,Za,Zb] <;> exact rfl) ?_))))
     iterate 2 (refine kA rfl (by simp (disch := omega) only [gA,aA,qop,fop,St.ev,St.put,cd,zd,Value.oneCell',lA,TypeDesc.aggB,Z0,Bool.not_true,Bool.not_false,cA,mA,Z1,oA,pA,qA,eA,D.pure?,ZC,ZD,yA,iop,eE,aD,lC,eC,D.cell1,eB,fB,gB,iB,jB,List.all_cons,List.all_nil,zC,TI.place,TI.zeros,TI.kindOk,D.cells?,zp,Value.cells,ZQ,ZP,sA,D.pv?,tt,kB,aB,pB,Zh,hx] <;> exact rfl) ?_)
     iterate 7 (all_goals first | (refine fC rfl rfl rfl (by simp (disch := omega) only [gA,aA,qop,fop,St.ev,St.put,cd,zd,Value.oneCell',lA,TypeDesc.aggB,Z0,Bool.not_true,Bool.not_false,cA,mA,Z1,oA,pA,qA,eA,D.pure?,ZC,ZD,yA,iop,eE,aD,lC,eC,D.cell1,eB,fB,gB,iB,jB,List.all_cons,List.all_nil,zC,TI.place,TI.zeros,TI.kindOk,D.cells?,zp,Value.cells,ZQ,ZP,sA,D.pv?,tt,kB,aB,pB,Zh,hx] <;> exact rfl) ?_) | (first | (refine zB rfl rfl rfl (by simp only [St.put,Za,Zb] <;> exact rfl) ?_) | (refine aC rfl rfl rfl (by simp only [St.put,Za,Zb] <;> exact rfl) ?_)) | (refine yB rfl rfl rfl (by simp only [Za,Zb] <;> exact rfl) (by simp only [Za,Zb] <;> exact rfl) (fun hg => ?_) (fun hg => ?_) <;> (try simp only [Zp,Zi,ZJ,ZK,ne_eq,Zn,Zm,Bool.not_eq_true,Zu] at hg) <;> first | (refine fC rfl rfl rfl (by simp (disch := omega) only [gA,aA,qop,fop,St.ev,St.put,cd,zd,Value.oneCell',lA,TypeDesc.aggB,Z0,Bool.not_true,Bool.not_false,cA,mA,Z1,oA,pA,qA,eA,D.pure?,ZC,ZD,yA,iop,eE,aD,lC,eC,D.cell1,eB,fB,gB,iB,jB,List.all_cons,List.all_nil,zC,TI.place,TI.zeros,TI.kindOk,D.cells?,zp,Value.cells,ZQ,ZP,sA,D.pv?,tt,kB,aB,pB,Zh,hx] <;> exact rfl) ?_) | (first | (refine zB rfl rfl rfl (by simp only [St.put,Za,Zb] <;> exact rfl) ?_) | (refine aC rfl rfl rfl (by simp only [St.put,Za,Zb] <;> exact rfl) ?_))))
     all_goals first | (first | (refine zB rfl rfl rfl (by simp only [St.put,Za,Zb] <;> exact rfl) ?_) | (refine aC rfl rfl rfl (by simp only [St.put,Za,Zb] <;> exact rfl) ?_)) | (refine zQ rfl rfl rfl rfl (by simp only [St.ev,nB,oB,zd,cd,Value.oneCell',Zr] <;> exact rfl) (by simp only [sA,nD,D.pvC?,D.pvN?,D.pvL?,eA,D.pv?,D.pure?,St.ev,nB,oB,zd,cd,Value.oneCell',Zr,ZG,ZH,Zd,Zc,Zg] <;> exact rfl) rfl ((bL (iI hI hil hx hsp hc1 hnow).1)) (by simp only [St.put,Za,Zb] <;> exact rfl) ?_) | (refine yB rfl rfl rfl (by simp only [Za,Zb] <;> exact rfl) (by simp only [Za,Zb] <;> exact rfl) (fun hg => ?_) (fun hg => ?_) <;> (try simp only [Zp,Zi,ZJ,ZK,ne_eq,Zn,Zm,Bool.not_eq_true,Zu] at hg) <;> first | (first | (refine zB rfl rfl rfl (by simp only [St.put,Za,Zb] <;> exact rfl) ?_) | (refine aC rfl rfl rfl (by simp only [St.put,Za,Zb] <;> exact rfl) ?_)) | (refine zQ rfl rfl rfl rfl (by simp only [St.ev,nB,oB,zd,cd,Value.oneCell',Zr] <;> exact rfl) (by simp only [sA,nD,D.pvC?,D.pvN?,D.pvL?,eA,D.pv?,D.pure?,St.ev,nB,oB,zd,cd,Value.oneCell',Zr,ZG,ZH,Zd,Zc,Zg] <;> exact rfl) rfl ((bL (iI hI hil hx hsp hc1 hnow).1)) (by simp only [St.put,Za,Zb] <;> exact rfl) ?_))
     (all_goals first | (refine fC rfl rfl rfl (by simp (disch := omega) only [gA,aA,qop,fop,St.ev,St.put,cd,zd,Value.oneCell',lA,TypeDesc.aggB,Z0,Bool.not_true,Bool.not_false,cA,mA,Z1,oA,pA,qA,eA,D.pure?,ZC,ZD,yA,iop,eE,aD,lC,eC,D.cell1,eB,fB,gB,iB,jB,List.all_cons,List.all_nil,zC,TI.place,TI.zeros,TI.kindOk,D.cells?,zp,Value.cells,ZQ,ZP,sA,D.pv?,tt,kB,aB,pB,Zh,hx] <;> exact rfl) ?_) | (first | (refine zB rfl rfl rfl (by simp only [St.put,Za,Zb] <;> exact rfl) ?_) | (refine aC rfl rfl rfl (by simp only [St.put,Za,Zb] <;> exact rfl) ?_)) | (refine yB rfl rfl rfl (by simp only [Za,Zb] <;> exact rfl) (by simp only [Za,Zb] <;> exact rfl) (fun hg => ?_) (fun hg => ?_) <;> (try simp only [Zp,Zi,ZJ,ZK,ne_eq,Zn,Zm,Bool.not_eq_true,Zu] at hg) <;> first | (refine fC rfl rfl rfl (by simp (disch := omega) only [gA,aA,qop,fop,St.ev,St.put,cd,zd,Value.oneCell',lA,TypeDesc.aggB,Z0,Bool.not_true,Bool.not_false,cA,mA,Z1,oA,pA,qA,eA,D.pure?,ZC,ZD,yA,iop,eE,aD,lC,eC,D.cell1,eB,fB,gB,iB,jB,List.all_cons,List.all_nil,zC,TI.place,TI.zeros,TI.kindOk,D.cells?,zp,Value.cells,ZQ,ZP,sA,D.pv?,tt,kB,aB,pB,Zh,hx] <;> exact rfl) ?_) | (first | (refine zB rfl rfl rfl (by simp only [St.put,Za,Zb] <;> exact rfl) ?_) | (refine aC rfl rfl rfl (by simp only [St.put,Za,Zb] <;> exact rfl) ?_))))
     (refine kA rfl (by simp (disch := omega) only [gA,aA,qop,fop,St.ev,St.put,cd,zd,Value.oneCell',lA,TypeDesc.aggB,Z0,Bool.not_true,Bool.not_false,cA,mA,Z1,oA,pA,qA,eA,D.pure?,ZC,ZD,yA,iop,eE,aD,lC,eC,D.cell1,eB,fB,gB,iB,jB,List.all_cons,List.all_nil,zC,TI.place,TI.zeros,TI.kindOk,D.cells?,zp,Value.cells,ZQ,ZP,sA,D.pv?,tt,kB,aB,pB,Zh,hx] <;> exact rfl) ?_)
     refine bA ?_
     exact hK
    refine jA ?_
    refine mB false rfl (fun h => by cases h) (fun _ => ?_)
    refine tB ?_
    refine jA ?_
    refine iA hX hb [0,1] rfl (σ' := ?s26) (fun K hK => ?h26) ?n26
    case h26 =>
     iterate 2 (refine kA rfl (by simp (disch := omega) only [gA,aA,qop,fop,St.ev,St.put,cd,zd,Value.oneCell',lA,TypeDesc.aggB,Z0,kB,aB,pB,Zh] <;> exact rfl) ?_)
     refine bA ?_
     exact hK
    refine dE ?_
    refine jA ?_
    refine iA hX hb [0,1] rfl (σ' := ?s27) (fun K hK => ?h27) ?n27
    case h27 =>
     iterate 2 (refine kA rfl (by simp (disch := omega) only [gA,aA,qop,fop,St.ev,St.put,cd,zd,Value.oneCell',lA,TypeDesc.aggB,Z0,yA,iop,tt,kB,aB,pB,Zh] <;> exact rfl) ?_)
     refine bA ?_
     exact hK
    refine jA ?_
    exact ⟨(i + 1,d + sp,st,true,k),by exact sDA hI hil hx hsp ⟨ha1,ha2⟩ hc1 hnow,by (try dsimp only); omega,sC ⟨rfl,(by repeat first | exact tA | refine qB ?_ | refine uA rfl ?_),(vC rfl (uA rfl (uA rfl (tA))) (wB _)),(xB _),rfl,rfl⟩⟩
 ·try simp only [Zp,Zi,ZK,ZJ,ne_eq,Zn,Zm,ZB,ZA,ZI,not_or,not_and,Zu] at hc0
  refine sD ?_
  refine fD ?_
  refine fD ?_
  refine dF ?_
  exact eV rfl (by first | rfl | ((obtain rfl : i = L.length := by omega); exact iFA hI))
end Go.Proofs.Ytldcoekbgfaomaa
end
section
namespace Go.Proofs.Ytldcoekbgfaomaa
@[reducible] def jX (X : List Nat) : P1 := .sl X.length (X.map fun n : Nat => i64 (n : Int))
def lM (a b : List (List Int)) (k i : Nat) : Bool := decide (¬ (a.getD k []).getD i 0 = (b.getD k []).getD i 0)
/-- Rows halve. -/
def aZ (a : List (List Int)) : Prop := ∀ k,k + 1 < a.length → (a.getD (k + 1) []).length = ((a.getD k []).length + 1) / 2
theorem rQ : ∀ (n : Nat) (row : List Int),row.length ≤ n → aZ (vE row)
 | n,row,h => by
  intro k hk
  by_cases h1 : row.length ≤ 1
  ·rw [yF h1] at hk
   simp at hk
  ·rw [lF h1] at hk ⊢
   have hu := rF row
   cases k with
   | zero =>
    obtain ⟨r,hr⟩ := jL (upL row)
    rw [hr]
    exact hu
   | succ k =>
    match n,h with
    | 0,h => omega
    | n + 1,h =>
     have := rQ n (upL row) (by omega) k (by simpa using hk)
     simpa using this
end Go.Proofs.Ytldcoekbgfaomaa
end
section
namespace Go.Proofs.Ytldcoekbgfaomaa
def mM (L : List rG) : Prop := L.Pairwise fun x y => x.1 ≤ y.1
theorem tV (es : List rG) : mM (gH es) := by
 rw [mM,List.pairwise_iff_getElem]
 intro i j hi hj hij
 exact sV es i j _ _ hij (List.getElem?_eq_getElem hi) (List.getElem?_eq_getElem hj)
/-- The least comes first. -/
theorem vK {L M : List rG} {x : rG} (hs : mM L) (hp : L.Perm (x :: M)) (hx : ∀ y ∈ M,x.1 < y.1) : ∃ L',L = x :: L' ∧ mM L' ∧ L'.Perm M := by
 cases L with
 | nil => exact absurd hp.length_eq (by simp)
 | cons h t =>
  have hh : h = x ∨ h ∈ M := List.mem_cons.1 (hp.mem_iff.1 (by simp))
  have hst := List.pairwise_cons.1 hs
  rcases hh with rfl | hh
  ·exact ⟨t,rfl,hst.2,hp.cons_inv⟩
  ·have hxm : x ∈ h :: t := hp.mem_iff.2 (by simp)
   rcases List.mem_cons.1 hxm with e | e
   ·subst e
    have := hx _ hh
    omega
   ·have h1 := hst.1 x e
    have h2 := hx h hh
    omega
/-- Two at one place come first,in either order. -/
theorem tDA {L M : List rG} {x y : rG} (hs : mM L) (hp : L.Perm (x :: y :: M)) (he : x.1 = y.1) (hx : ∀ z ∈ M,x.1 < z.1) : ∃ L',(L = x :: y :: L' ∨ L = y :: x :: L') ∧ mM L' ∧ L'.Perm M := by
 cases L with
 | nil => exact absurd hp.length_eq (by simp)
 | cons h t =>
  have hst := List.pairwise_cons.1 hs
  have hh : h = x ∨ h = y ∨ h ∈ M := by
   rcases List.mem_cons.1 (hp.mem_iff.1 (show h ∈ h :: t by simp)) with e | e
   ·exact .inl e
   ·exact .inr (List.mem_cons.1 e)
  rcases hh with rfl | rfl | hh
  ·obtain ⟨L',rfl,h1,h2⟩ := vK hst.2 hp.cons_inv (fun z hz => by rw [← he]; exact hx z hz)
   exact ⟨L',.inl rfl,h1,h2⟩
  ·have hp' := hp.trans (List.Perm.swap _ _ _)
   obtain ⟨L',rfl,h1,h2⟩ := vK hst.2 hp'.cons_inv hx
   exact ⟨L',.inr rfl,h1,h2⟩
  ·have hxm : x ∈ h :: t := hp.mem_iff.2 (by simp)
   have h2 := hx h hh
   rcases List.mem_cons.1 hxm with e | e
   ·subst e
    omega
   ·have h1 := hst.1 x e
    omega
/-- Extents in ascending order,from b on. -/
def AscE (b : Int) : List (Int × Int) → Prop
 | [] => True
 | e :: r => b ≤ e.1 ∧ 0 < e.2 ∧ AscE (e.1 + e.2) r
theorem AscE.ge : ∀ {l : List (Int × Int)} {b : Int},AscE b l → ∀ x ∈ sF 0 l,b ≤ x.1
 | [],b,_,x,hx => by simp [sF] at hx
 | e :: r,b,⟨h1,h2,h3⟩,x,hx => by
  simp only [sF,List.flatMap_cons,List.mem_append,List.mem_cons,List.not_mem_nil,or_false] at hx
  rcases hx with (rfl | rfl) | hx
  ·exact h1
  ·show b ≤ e.1 + e.2
   omega
  ·have := AscE.ge h3 x hx
   omega
def dG (st b : Int) : List (Int × Int) → List (Int × Int)
 | [] => [(st,b - st)]
 | e :: r => if b = e.1 then dG st (e.1 + e.2) r else (st,b - st) :: dG e.1 (e.1 + e.2) r
def oG : List (Int × Int) → List (Int × Int)
 | [] => []
 | e :: r => dG e.1 (e.1 + e.2) r
theorem mN {x : rG} {L : List rG} (h : ∀ y ∈ L,x.1 < y.1) : wG x L = false := by
 cases L with
 | nil => rfl
 | cons y r =>
  have := h y (by simp)
  simp only [wG,Zi]
  omega
theorem xO : ∀ (l : List (Int × Int)) (st b : Int) (L : List rG),AscE b l → mM L → L.Perm ((b,0,-1) :: sF 0 l) → aG L 1 st true = dG st b l
 | [],st,b,L,_,hs,hp => by
  have : L = [(b,0,-1)] := List.perm_singleton.1 hp
  subst this
  simp [aG,wG,dG]
 | e :: r,st,b,L,⟨h1,h2,h3⟩,hs,hp => by
  have hge := AscE.ge h3
  have hM : sF 0 (e :: r) = (e.1,0,1) :: (e.1 + e.2,0,-1) :: sF 0 r := by simp [sF]
  rw [hM] at hp
  have hgt : ∀ z ∈ (e.1 + e.2,(0 : Int),(-1 : Int)) :: sF 0 r,e.1 < z.1 := by
   intro z hz
   rcases List.mem_cons.1 hz with rfl | hz
   ·show e.1 < e.1 + e.2
    omega
   ·have := hge z hz
    omega
  by_cases hb : b = e.1
  ·subst hb
   obtain ⟨L',hL,hs',hp'⟩ := tDA hs hp rfl hgt
   have hgt' : ∀ z ∈ L',e.1 < z.1 := fun z hz => hgt z (hp'.mem_iff.1 hz)
   have ih := xO r st (e.1 + e.2) L' h3 hs' hp'
   rw [dG,if_pos rfl,← ih]
   have hsn : ∀ s : Int,wG (e.1,0,s) L' = false := fun s => mN hgt'
   rcases hL with rfl | rfl
   ·simp [aG,wG,hsn]
   ·simp [aG,wG,hsn]
  ·have hlt : b < e.1 := by omega
   obtain ⟨L1,rfl,hs1,hp1⟩ := vK hs hp (fun z hz => by
    rcases List.mem_cons.1 hz with rfl | hz
    ·exact hlt
    ·have := hgt z hz
     show b < z.1
     omega)
   obtain ⟨L2,rfl,hs2,hp2⟩ := vK hs1 hp1 hgt
   have hgt' : ∀ z ∈ L2,e.1 < z.1 := fun z hz => hgt z (hp2.mem_iff.1 hz)
   have ih := xO r e.1 (e.1 + e.2) L2 h3 hs2 hp2
   rw [dG,if_neg hb,← ih]
   have hsn : ∀ s : Int,wG (e.1,0,s) L2 = false := fun s => mN hgt'
   have hne : ¬ e.1 = b := fun h => hb h.symm
   have hs0 : wG (b,0,-1) ((e.1,0,1) :: L2) = false := by simp [wG,hne]
   simp [aG,hsn,hs0]
theorem tAA {l : List (Int × Int)} {b : Int} (h : AscE b l) : aG (gH (wI [l,[]])) 0 0 false = oG l := by
 have e0 : wI [l,[]] = sF 0 l := by simp [wI,sF]
 rw [e0]
 have hp := uK (sF 0 l)
 have hs := tV (sF 0 l)
 generalize gH (sF 0 l) = L at *
 cases l with
 | nil =>
  have : L = [] := List.perm_nil.1 hp
  subst this
  rfl
 | cons e r =>
  obtain ⟨h1,h2,h3⟩ := h
  have hge := AscE.ge h3
  have hM : sF 0 (e :: r) = (e.1,0,1) :: (e.1 + e.2,0,-1) :: sF 0 r := by simp [sF]
  rw [hM] at hp
  have hgt : ∀ z ∈ (e.1 + e.2,(0 : Int),(-1 : Int)) :: sF 0 r,e.1 < z.1 := by
   intro z hz
   rcases List.mem_cons.1 hz with rfl | hz
   ·show e.1 < e.1 + e.2
    omega
   ·have := hge z hz
    omega
  obtain ⟨L1,rfl,hs1,hp1⟩ := vK hs hp hgt
  have hgt' : ∀ z ∈ L1,e.1 < z.1 := fun z hz => hgt z (hp1.mem_iff.1 hz)
  have hsn : ∀ s : Int,wG (e.1,0,s) L1 = false := fun s => mN hgt'
  rw [oG,← xO r e.1 (e.1 + e.2) L1 h3 hs1 hp1]
  simp [aG,hsn]
/-- The extents of some leaves. -/
def jJ (S F : Nat) (X : List Nat) : List (Int × Int) := X.map fun x => (((x * F : Nat) : Int),min (F : Int) ((S : Int) - ((x * F : Nat) : Int)))
theorem tS {S F : Nat} (hF : 1 ≤ F) : ∀ (X : List Nat) (b : Int),X.Pairwise (· < ·) → (∀ x ∈ X,x * F < S) → (∀ x ∈ X,b ≤ ((x * F : Nat) : Int)) → AscE b (jJ S F X)
 | [],b,_,_,_ => trivial
 | x :: X,b,hp,hS,hb => by
  have hx := hS x (by simp)
  have hpc := List.pairwise_cons.1 hp
  refine ⟨hb x (by simp),?_,tS hF X _ hpc.2 (fun y hy => hS y (by simp [hy])) fun y hy => ?_⟩
  ·show 0 < min (F : Int) ((S : Int) - ((x * F : Nat) : Int))
   omega
  ·have h1 : (x + 1) * F ≤ y * F := Nat.mul_le_mul_right _ (hpc.1 y hy)
   rw [Nat.succ_mul] at h1
   show ((x * F : Nat) : Int) + min (F : Int) ((S : Int) - ((x * F : Nat) : Int)) ≤ ((y * F : Nat) : Int)
   omega
theorem uAA {S F : Nat} (hF : 1 ≤ F) (hS : S ≤ 4096) {X : List Nat} (hx : ∀ x ∈ X,x * F < S) : ∀ e ∈ jJ S F X,lU e := by
 intro e he
 obtain ⟨x,hxm,rfl⟩ := List.mem_map.1 he
 have := hx x hxm
 exact ⟨x * F,min F (S - x * F),by ext <;> simp <;> omega,by omega,by omega⟩
/-- **extent.Union of extents in ascending order,with nothing.** -/
theorem qNA (l : List (Int × Int)) (b : Int) (hl : l.length ≤ 8192) (hg : ∀ e ∈ l,lU e) (ha : AscE b l) : SeqC Try.prog 119 [uC l,.sl 0 [],.v (.func (.func 110) #[] #[])] (nG (oG l)) := by
 rw [← tAA ha]
 exact iKA l hl hg _ rfl
theorem pJ : ∀ (l : List (Int × Int)) (st b : Int),(dG st b l).length ≤ l.length + 1
 | [],st,b => by simp [dG]
 | e :: r,st,b => by
  rw [dG]
  split
  ·have := pJ r st (e.1 + e.2)
   simp only [Zl]
   omega
  ·have := pJ r e.1 (e.1 + e.2)
   simp only [Zl]
   omega
theorem mR (l : List (Int × Int)) : (oG l).length ≤ l.length := by
 cases l with
 | nil => simp [oG]
 | cons e r =>
  have := pJ r e.1 (e.1 + e.2)
  simp only [oG,Zl]
  omega
end Go.Proofs.Ytldcoekbgfaomaa
end
section
namespace Go.Proofs.Ytldcoekbgfaomaa
open Go.RowKit
set_option maxRecDepth 20000
set_option maxHeartbeats 4000000
attribute [local irreducible] jE oD AW
theorem c73 (l : List (Int × Int)) (b : Int) (hl : l.length ≤ 8192) (hg : ∀ e ∈ l,lU e) (ha : AscE b l) : ACalls Try.prog 73 [.p (uC l),.p (.sl 0 [])] (.p (uC (oG l))) := by
 refine oC jC Try.func73 (c := _) rfl (by kernel_rfl) ?_
 intro X hP hX hro hpl
 have hb : tb.Ok X.P := hP ▸ jC
 change AW X _ _ ⟨[],[.p (uC l),.p (.sl 0 []),.any,.any,.any,.any,.any,.any,.any],[],[]⟩
 refine fA ?_
 refine iA hX hb [0] rfl (σ' := ?s1) (fun K hK => ?h1) ?n1
 case h1 =>
  (refine kA rfl (by simp (disch := omega) only [gA,aA,qop,fop,St.ev,St.put,cd,zd,Value.oneCell',lA,TypeDesc.aggB,Z0] <;> exact rfl) ?_)
  refine bA ?_
  exact hK
 refine jA ?_
 refine fA ?_
 refine iA hX hb [0,1,2,3,4] rfl (σ' := ?s2) (fun K hK => ?h2) ?n2
 case h2 =>
  iterate 2 (refine kA rfl (by simp (disch := omega) only [gA,aA,qop,fop,St.ev,St.put,cd,zd,Value.oneCell',lA,TypeDesc.aggB,Z0,sA,D.pv?,tt] <;> exact rfl) ?_)
  refine jD rfl (by simp only [aA,St.ev,nB,oB,sA,D.pv?,ZG,ZH,zd,cd,Value.oneCell',Zr] <;> exact rfl) (acK hP (lNA l [] 110)) (by simp only [St.put,Za,Zb] <;> exact rfl) ?_
  refine jD rfl (by simp only [aA,St.ev,nB,oB,sA,D.pv?,ZG,ZH,zd,cd,Value.oneCell',Zr] <;> exact rfl) (acK hP (kNA _ _ (oG l) (qNA l b hl hg ha) (by have := mR l; omega))) (by simp only [St.put,Za,Zb] <;> exact rfl) ?_
  (refine kA rfl (by simp (disch := omega) only [gA,aA,qop,fop,St.ev,St.put,cd,zd,Value.oneCell',lA,TypeDesc.aggB,Z0,sA,D.pv?,tt] <;> exact rfl) ?_)
  refine bA ?_
  exact hK
 refine jA ?_
 refine bC ?_
 exact tC rfl (sB rfl rfl)
end Go.Proofs.Ytldcoekbgfaomaa
end
section
namespace Go.Proofs.Ytldcoekbgfaomaa
open Go.RowKit
set_option maxRecDepth 20000
set_option maxHeartbeats 4000000
attribute [local irreducible] jE oD AW
theorem vB (f : Nat → P1) (l : List Nat) (i : Nat) (h : i < l.length) : (l.map f)[i]? = some (f (l.getD i 0)) := by
 simp [h]
theorem kH (S F : Nat) (X : List Nat) (j : Nat) (h : j < X.length) : jJ S F (X.take (j + 1)) = jJ S F (X.take j) ++ [(((X.getD j 0 * F : Nat) : Int),min (F : Int) ((S : Int) - ((X.getD j 0 * F : Nat) : Int)))] := by
 rw [List.take_succ_eq_append_getElem h]
 unfold jJ
 rw [List.map_append]
 congr 1
 simp [h]
theorem kO (S F : Nat) (X : List Nat) : (jJ S F X).length = X.length := by simp [jJ]
end Go.Proofs.Ytldcoekbgfaomaa
end
section
namespace Go.Proofs.Ytldcoekbgfaomaa
open Go.RowKit
set_option maxRecDepth 20000
set_option maxHeartbeats 4000000
attribute [local irreducible] jE oD AW
def zHA : D → Bool
 | .p (.v (.int .u8 _)) => true
 | _ => false
theorem jFA {d : D} (h : zHA d = true) : ∃ n,d = .p (.v (.int .u8 n)) := by
 unfold zHA at h
 split at h
 ·exact ⟨_,rfl⟩
 ·cases h
theorem bo1 {σ : St} {l : List Nat} {b : Nat} {x : Bx} (hl : l = [b]) (hx : σ.boxes[b]? = some x) (h : x.cells.all zHA = true) : gQ σ l := by
 subst hl
 intro c hc
 simp only [List.mem_singleton] at hc
 subst hc
 exact ⟨x,hx,fun d hd => jFA (List.all_eq_true.1 h d hd)⟩
theorem kFA (n : Int) : NoU8 (u64 n) := .v _ (fun k h => by cases h)
theorem uV (n : Int) : NoU8 (i64 n) := .v _ (fun k h => by cases h)
theorem uDA (l : List Int) : NoU8 (cH l) := .sl _ _ (fun x hx => by obtain ⟨n,_,rfl⟩ := List.mem_map.1 hx; exact kFA n) (fun h => by have := congrArg List.length h; simpa using this)
theorem vDA (l : List (List Int)) : NoU8 (xD l) := .sl _ _ (fun x hx => by obtain ⟨n,_,rfl⟩ := List.mem_map.1 hx; exact uDA n) (fun h => by have := congrArg List.length h; simpa using this)
theorem sZ (a b c : Int) (lv : List (List Int)) : D.No (.tup [.agg [i64 a,i64 b,xD lv],.p (i64 c)]) := .tup _ (fun d hd => by
 simp only [List.mem_cons,List.not_mem_nil,or_false] at hd
 rcases hd with rfl | rfl
 ·refine .agg _ (fun x hx => ?_)
  simp only [List.mem_cons,List.not_mem_nil,or_false] at hx
  rcases hx with rfl | rfl | rfl
  ·exact uV a
  ·exact uV b
  ·exact vDA lv
 ·exact .p _ (uV c))
def LA : List (List Int) := [[1,0,0,0,0,0,0,0],[2,0,0,0,0,0,0,0],[3,0,0,0,0,0,0,0],[4,0,0,0,0,0,0,0],[5,0,0,0,0,0,0,0]]
def dA : Int := 8581494753980282981
def dB : Int := 6571624168811679103
def dC : Int := 1000385178391007780
theorem wDA : vH [[1,0,0,0,0,0,0,0],[2,0,0,0,0,0,0,0]] = dA := by kernel_rfl
theorem xDA : vH [[3,0,0,0,0,0,0,0],[4,0,0,0,0,0,0,0]] = dB := by kernel_rfl
theorem aIA : vH [[5,0,0,0,0,0,0,0]] = dC := by kernel_rfl
theorem yDA : lG dA dB = 10795361854929481022 := by kernel_rfl
theorem zDA : lG (lG dA dB) dC = 6302506858429732562 := by kernel_rfl
def lv3 (x y z : Int) : List (List Int) := [[x,y,z],[lG x y,z],[lG (lG x y) z]]
theorem vV (x y z : Int) : vE [x,y,z] = lv3 x y z := by
 rw [lF (by simp),show upL [x,y,z] = [lG x y,z] from rfl,lF (by simp),show upL [lG x y,z] = [lG (lG x y) z] from rfl,yF (by simp)]
 rfl
theorem sh3 (x y z : Int) : shT (5 : Int).toNat (2 : Int).toNat (lv3 x y z) = true := by
 show sh false (yD 5 2) (lv3 x y z) = true
 rw [show yD 5 2 = 3 by decide]
 rfl
theorem vAA (x y z : Int) : rC ⟨5,2,lv3 x y z⟩ = 0 := oH (show ¬ ((5 : Int) < 1 ∨ 4096 < (5 : Int)) by decide) (show ¬ ((2 : Int) < 1 ∨ 4096 < (2 : Int)) by decide) (sh3 x y z) (vV x y z)
theorem bIA : mG LA 2 = (⟨5,2,lv3 dA dB dC⟩,0) := by
 rw [mG,if_neg (by decide),if_neg (by decide)]
 have h : jU LA ((2 : Int)).toNat = [dA,dB,dC] := by
  rw [← wDA,← xDA,← aIA]
  rfl
 rw [h,qS,vV]
 rfl
@[reducible] def tP (x y z : Int) : PV := .agg [i64 5,i64 2,xD (lv3 x y z)]
theorem k29 : ACalls Try.prog 29 [.p (uC [(4,1)]),.p (uC [(4,1)])] (.p (bv true)) := by
 have := c29 [(4,1)] [(4,1)]
 rwa [show decide _ = true from decide_eq_true rfl] at this
end Go.Proofs.Ytldcoekbgfaomaa
end
section
namespace Go.Proofs.Ytldcoekbgfaomaa
open Go.RowKit Go.ChangeShapes Go.WideShapes
section
variable {H : Type} {enc : TypeId × Value → H} {W : World}
/-- All that is there. -/
def eO (W : World) (g : Nat) : Prop := g < W.heap.size
theorem jKA {α : Type} : ∀ {l : List α},l.length = 2 → ∃ a b,l = [a,b]
 | [a,b],_ => ⟨a,b,rfl⟩
theorem kKA {α : Type} : ∀ {l : List α},l.length = 3 → ∃ a b c,l = [a,b,c]
 | [a,b,c],_ => ⟨a,b,c,rfl⟩
theorem uS {α : Type} (F : α → List P1) (k : Nat) (hF : ∀ a,(F a).length = k) (hk0 : 0 < k) {t e : TypeId} (ht : Try.prog.underlying t = some (.slice e)) (hk : Try.prog.cellsOf e = k)
  (hE : ∀ (n : Nat) (cs : List Value) (x : DataW H × List MemPlace),DataW.trod enc Try.prog W 0 (fun _ => true) true n e cs = some x → cs.length = k → ∃ a : α,∀ (j : Nat) (y : P1) (u : Value),(F a)[j]? = some y → cs[j]? = some u → R1 W (eO W) y u)
  {n : Nat} {v : Value} {x : DataW H × List MemPlace} (h : DataW.trod enc Try.prog W 0 (fun _ => true) true n t [v] = some x) : ∃ l : List α,R1 W (eO W) (.sl l.length (l.flatMap F)) v := by
 rcases Go.Deep.open_slice ht h with ⟨hv,_⟩ | ⟨a,len,cap,m,fu,D,Pl,hv,_,hl,hm,hmm,_,hel⟩
 ·simp only [List.cons.injEq,Zs] at hv
  subst hv
  exact ⟨[],.nil _ _⟩
 ·simp only [List.cons.injEq,Zs] at hv
  subst hv
  simp only [Zr] at hmm
  subst hmm
  have key : ∀ q,q ≤ len → ∃ (l : List α) (us : List Value),l.length = q ∧ us.length = q * k ∧ (∀ (j : Nat) (u : Value),us[j]? = some u → W.cell? (a.add j) = some u) ∧
    ∀ (j : Nat) (y : P1) (u : Value),(l.flatMap F)[j]? = some y → us[j]? = some u → R1 W (eO W) y u := by
   intro q
   induction q with
   | zero => exact fun _ => ⟨[],[],rfl,by simp,fun j u h => by simp at h,fun j y u h => by simp at h⟩
   | succ q ih =>
    intro hq
    obtain ⟨l,us,h1,h2,h3,h4⟩ := ih (by omega)
    obtain ⟨cs,c1,c2⟩ := hel q (by omega)
    rw [hk] at c1
    obtain ⟨_,c3,c4⟩ := World.cells?_some c1
    obtain ⟨al,ha⟩ := hE fu cs _ c2 c3
    have hfl : (l.flatMap F).length = q * k := by rw [bI F k hF,h1]
    refine ⟨l ++ [al],us ++ cs,by simp [h1],by rw [List.length_append,h2,c3,Nat.succ_mul],fun j u hu => ?_,fun j y u hy hu => ?_⟩
    ·rw [List.getElem?_append] at hu
     split at hu
     ·exact h3 j u hu
     ·rename_i hj
      have hlt := (List.getElem?_eq_some_iff.1 hu).1
      have := c4 (j - us.length) (by omega)
      rw [hu,Go.Deep.add_add,show q * k + (j - us.length) = j from by omega] at this
      exact this
    ·rw [List.flatMap_append,List.getElem?_append,hfl] at hy
     rw [List.getElem?_append,h2] at hu
     split at hy
     ·rename_i hj
      rw [if_pos hj] at hu
      exact h4 j y u hy hu
     ·rename_i hj
      rw [if_neg hj] at hu
      exact ha _ y u (by simpa using hy) hu
  obtain ⟨l,us,h1,h2,h3,h4⟩ := key len (Nat.le_refl _)
  refine ⟨l,?_⟩
  rw [h1]
  rcases Nat.eq_zero_or_pos len with h0 | h0
  ·subst h0
   rw [List.length_eq_zero_iff.1 h1]
   exact .nil _ _
  ·have hp : 0 < us.length := by rw [h2]; exact Nat.mul_pos h0 hk0
   have hc := h3 0 us[0] (List.getElem?_eq_getElem hp)
   have hspot : a.spot = none := by
    have e : a.add 0 = a := by unfold Addr.add; simp
    rw [e] at hc
    unfold World.cell? at hc
    split at hc
    ·split at hc
     ·cases hc
     ·rename_i hs
      cases hsp : a.spot with
      | none => rfl
      | some s => rw [hsp] at hs; simp at hs
    ·cases hc
   obtain ⟨g,o,sp⟩ := a
   simp only at hspot
   subst hspot
   refine .sl len g o _ _ us hl hm ?_ (by rw [h2,bI F k hF,h1]) (fun j u hu => by have := h3 j u hu; rwa [uH] at this) h4
   exact World.block_lt_of_cell? W _ hc
theorem nM {t : TypeId} {k : IntKind} (ht : Try.prog.underlying t = some (.int k)) {n : Nat} {cs : List Value} {x : DataW H × List MemPlace} (h : DataW.trod enc Try.prog W 0 (fun _ => true) true n t cs = some x) : ∃ m,cs = [.int k m] := by
 obtain ⟨m,hm,_⟩ := DataW.trod_int ht h
 exact ⟨m,hm⟩
theorem aEA {t e : TypeId} {k : IntKind} (ht : Try.prog.underlying t = some (.slice e)) (he : Try.prog.underlying e = some (.int k)) (hc : Try.prog.cellsOf e = 1) {n : Nat} {v : Value} {x : DataW H × List MemPlace} (h : DataW.trod enc Try.prog W 0 (fun _ => true) true n t [v] = some x) :
  ∃ l : List Int,R1 W (eO W) (.sl l.length (l.map fun a => .v (.int k a))) v := by
 obtain ⟨l,hl⟩ := uS (fun a : Int => [P1.v (.int k a)]) 1 (fun _ => rfl) (by omega) ht hc (fun n cs x hx _ => by
  obtain ⟨m,rfl⟩ := nM he hx
  refine ⟨m,fun j y u hy hu => ?_⟩
  cases j with
  | zero => simp at hy hu; subst hy; subst hu; exact .v _ rfl
  | succ j => simp at hy) h
 refine ⟨l,?_⟩
 have e : l.flatMap (fun a : Int => [P1.v (.int k a)]) = l.map fun a => .v (.int k a) := by
  clear hl
  induction l with
  | nil => rfl
  | cons a l ih => exact congrArg (P1.v (.int k a) :: ·) ih
 rwa [e] at hl
theorem bEA {n : Nat} {v : Value} {x : DataW H × List MemPlace} (h : DataW.trod enc Try.prog W 0 (fun _ => true) true n 24 [v] = some x) : ∃ l : List (List Int),R1 W (eO W) (xD l) v := by
 obtain ⟨l,hl⟩ := uS (fun a : List Int => [cH a]) 1 (fun _ => rfl) (by omega) Try.underlying24 (by kernel_rfl) (fun n cs x hx hc => by
  match cs,hc with
  | [u],_ =>
  obtain ⟨r,hr⟩ := aEA Try.underlying60 Try.underlying58 (by kernel_rfl) hx
  refine ⟨r,fun j y u' hy hu => ?_⟩
  cases j with
  | zero => simp at hy hu; subst hy; subst hu; exact hr
  | succ j => simp at hy) h
 refine ⟨l,?_⟩
 have e : ∀ l : List (List Int),l.flatMap (fun a : List Int => [cH a]) = l.map cH := by
  intro l
  induction l with
  | nil => rfl
  | cons a l ih => simp only [List.flatMap_cons,ZG,ZL,ZM,ih]
 rwa [e] at hl
theorem cEA {n : Nat} {cs : List Value} {x : DataW H × List MemPlace} (h : DataW.trod enc Try.prog W 0 (fun _ => true) true n 26 cs = some x) : ∃ t : Tr,RV W (eO W) (trP t) (.agg cs.toArray) := by
 obtain ⟨xs,m,_,_,hl,hxl,hel⟩ := DataW.trod_struct Try.underlying26 h
 have c3 : Try.prog.cellsOf 3 = 1 := by kernel_rfl
 have c24 : Try.prog.cellsOf 24 = 1 := by kernel_rfl
 have c26 : Try.prog.cellsOf 26 = 3 := by kernel_rfl
 rw [c26] at hl
 obtain ⟨u0,u1,u2,rfl⟩ := kKA hl
 have h0 : DataW.trod enc Try.prog W 0 (fun _ => true) true m 3 (([u0,u1,u2].drop 0).take (Try.prog.cellsOf 3)) = xs[0]? := hel 0 _ rfl
 have h1 : DataW.trod enc Try.prog W 0 (fun _ => true) true m 3 (([u0,u1,u2].drop 1).take (Try.prog.cellsOf 3)) = xs[1]? := hel 1 _ rfl
 have h2 : DataW.trod enc Try.prog W 0 (fun _ => true) true m 24 (([u0,u1,u2].drop 2).take (Try.prog.cellsOf 24)) = xs[2]? := hel 2 _ rfl
 have hx2 : xs.length = 3 := hxl
 rw [List.getElem?_eq_getElem (by omega)] at h0 h1 h2
 rw [c3] at h0 h1
 rw [c24] at h2
 obtain ⟨z0,e0⟩ := nM Try.underlying3 h0
 obtain ⟨z1,e1⟩ := nM Try.underlying3 h1
 obtain ⟨l,hlv⟩ := bEA (show DataW.trod enc Try.prog W 0 (fun _ => true) true m 24 [u2] = some _ from h2)
 simp at e0 e1
 subst e0
 subst e1
 refine ⟨⟨z0,z1,l⟩,.agg _ [.int .i64 z0,.int .i64 z1,u2] rfl fun j y u hy hu => ?_⟩
 match j with
 | 0 => simp at hy hu; subst hy; subst hu; exact .v _ rfl
 | 1 => simp at hy hu; subst hy; subst hu; exact .v _ rfl
 | 2 => simp at hy hu; subst hy; subst hu; exact hlv
 | j + 3 => simp at hy
end
theorem lFA {W : World} {C : Nat → Prop} : RVs W C [] [] := ⟨rfl,fun j d u h => by simp at h⟩
theorem kX {W : World} {C : Nat → Prop} {d : PV} {v : Value} {ds : List PV} {vs : List Value} (h : RV W C d v) (hs : RVs W C ds vs) : RVs W C (d :: ds) (v :: vs) := by
 refine ⟨by simp [hs.1],fun j x u hx hu => ?_⟩
 cases j with
 | zero => simp at hx hu; subst hx; subst hu; exact h
 | succ j => exact hs.2 j x u (by simpa using hx) (by simpa using hu)
theorem mFA {H : Type} {enc : TypeId × Value → H} {W : World} {cs : Array Value} {d : DataW H} {p : List MemPlace} (h : DataW.Trod enc Try.prog W 0 (fun _ => true) true 26 (.agg cs) d p) : ∃ t : Tr,RV W (eO W) (trP t) (.agg cs) := by
 obtain ⟨m,hm⟩ := h
 exact cEA (show DataW.trod enc Try.prog W 0 (fun _ => true) true m 26 cs.toList = some _ from hm)
/-- From a contract to the row's call. -/
theorem dEA {f : FuncId} {ds : List PV} (h : ACalls Try.prog f ds (.p (bv true))) {W : World} {vs : List Value} (hv : RVs W (eO W) ds vs) :
  Calls Try.prog f vs.toArray W fun e W' => e = .returned (.bool true) ∧ Below W.heap.size W W' := by
 refine ((callsIn_wide (n := 0)).1 (h.h Fence.wide 0 (eO W) W vs ⟨fun _ => trivial,rfl,rfl⟩ rfl (fun _ hg => hg) hv)).mono ?_
 rintro e W' ⟨v,rfl,hr,hg⟩
 exact ⟨by rw [eY hr],hg.os,hg.tape,hg.output,hg.size,fun k hk => hg.block k hk (by simp)⟩
theorem eEA {H : Type} {enc : TypeId × Value → H} {W : World} {t : TypeId} {v : Value} {d : DataW H} {p : List MemPlace} (h : DataW.Trod enc Try.prog W 0 (fun _ => true) true t v d p) : ∀ x ∈ p,x.block < W.heap.size := by
 obtain ⟨m,hm⟩ := h
 exact DataW.trod_lt m _ _ _ hm
end Go.Proofs.Ytldcoekbgfaomaa
end
section
namespace Go.Proofs.Ytldcoekbgfaomaa
open Go.RowKit
/-- Is the tree small enough for the law? -/
def bZ (t : Tr) : Bool := decide (t.lv.length ≤ 12 ∧ t.size ≤ 100 ∧ ∀ r ∈ t.lv,r.length ≤ 100)
theorem lKA (t : Tr) : ACalls Try.prog 24 [trP t] (.p (bv (bZ t))) := c24 t
end Go.Proofs.Ytldcoekbgfaomaa
end
section
namespace Go.Proofs.Ytldcoekbgfaomaa
open Go.RowKit Go.ChangeShapes Go.WideShapes
theorem fEA {n : Int} (h : (Lit.int .i64 n).wf = true) : -9223372036854775808 ≤ n ∧ n ≤ 9223372036854775807 := by
 simp [Lit.wf,IntKind.min,IntKind.max,IntKind.signed,IntKind.bits] at h
 omega
theorem vS {H : Type} {enc : TypeId × Value → H} {W : World} {t : TypeId} {k : IntKind} (ht : Try.prog.underlying t = some (.int k)) {n : Nat} {cs : List Value} {x : DataW H × List MemPlace} (h : DataW.trod enc Try.prog W 0 (fun _ => true) true n t cs = some x) : ∃ m,cs = [.int k m] ∧ (Lit.int k m).wf = true := by
 obtain ⟨m,hm,_,hw⟩ := DataW.trod_int ht h
 exact ⟨m,hm,hw⟩
end Go.Proofs.Ytldcoekbgfaomaa
end
section
namespace Go.Proofs.Ytldcoekbgfaomaa
open Go.RowKit
set_option maxRecDepth 20000
set_option maxHeartbeats 4000000
attribute [local irreducible] jE oD AW
/-- Numbers that a machine word holds. -/
@[reducible] def xL (n : Int) : Prop := -9223372036854775808 ≤ n ∧ n ≤ 9223372036854775807
def gR (es : List (Int × Int)) : Prop := ∀ e ∈ es,xL e.1 ∧ xL e.2
/-- A walk of a comparison. -/
structure Wa where
 tree : Tr
 pend : List (Int × Int)
 level : Int
 found : List (Int × Int)
 sent : Int
 done : Bool
@[reducible] def waC (w : Wa) : List P1 := [i64 w.tree.size,i64 w.tree.leaf,xD w.tree.lv,uC w.pend,i64 w.level,uC w.found,i64 w.sent,bv w.done]
@[reducible] def waP (w : Wa) : PV := .agg (waC w)
def Wa.zero : Wa := ⟨.zero,[],0,[],0,false⟩
/-- A message. -/
structure Ms where
 kind : Int
 frm : Int
 dest : Int
 num : Int
 val : Int
 epoch : Int
 vs : List Int
 body : List Int
@[reducible] def msC (m : Ms) : List P1 := [i64 m.kind,i64 m.frm,i64 m.dest,i64 m.num,i64 m.val,i64 m.epoch,gG m.vs,bytes m.body]
@[reducible] def msP (m : Ms) : PV := .agg (msC m)
def Ms.zero : Ms := ⟨0,0,0,0,0,0,[],[]⟩
def bQ (l : List Ms) : List P1 := l.flatMap msC
@[reducible] def zM (l : List Ms) : P1 := .sl l.length (bQ l)
theorem tZ (m : Ms) : (msC m).length = 8 := rfl
theorem lB (l : List Ms) : (bQ l).length = l.length * 8 := bI msC 8 tZ l
theorem zF (l : List Ms) (i : Nat) (h : i < l.length) : ((bQ l).drop (i * 8)).take 8 = msC (l.getD i .zero) := oQ msC 8 tZ .zero l i h
theorem lX {es : List (Int × Int)} (h : gR es) {i : Nat} (hi : i < es.length) : xL (es.getD i (0,0)).1 ∧ xL (es.getD i (0,0)).2 := h _ (tE es (0,0) i hi)
theorem cL (l : List (Int × Int)) (i : Nat) (h : i < l.length) : l.drop i = l.getD i (0,0) :: l.drop (i + 1) := by
 rw [List.drop_eq_getElem_cons h,List.getD_eq_getElem?_getD,List.getElem?_eq_getElem h]; rfl
/-- The error of extents within n places. -/
def xGo (n : Int) : Int → List (Int × Int) → Int
 | _,[] => 0
 | a,e :: r => if e.2 ≤ 0 then 1 else if e.1 < 0 ∨ n - e.1 < e.2 then 2 else if e.1 < a then 3 else xGo n (e.1 + e.2 + 1) r
def kJ (es : List (Int × Int)) (n : Int) : Int := if n < 0 ∨ 4096 < n then 2 else xGo n 0 es
theorem kL {es : List (Int × Int)} {n : Int} (h : n < 0 ∨ 4096 < n) : kJ es n = 2 := if_pos h
theorem gE {es : List (Int × Int)} {n : Int} (h : ¬ (n < 0 ∨ 4096 < n)) : kJ es n = xGo n 0 es := if_neg h
theorem lO {es : List (Int × Int)} {n a : Int} {i : Nat} (hi : i < es.length) (h : (es.getD i (0,0)).2 ≤ 0) : xGo n a (es.drop i) = 1 := by rw [cL es i hi,xGo,if_pos h]
theorem mO {es : List (Int × Int)} {n a : Int} {i : Nat} (hi : i < es.length) (h : ¬ (es.getD i (0,0)).2 ≤ 0) (h2 : (es.getD i (0,0)).1 < 0 ∨ n - (es.getD i (0,0)).1 < (es.getD i (0,0)).2) : xGo n a (es.drop i) = 2 := by rw [cL es i hi,xGo,if_neg h,if_pos h2]
theorem nO {es : List (Int × Int)} {n a : Int} {i : Nat} (hi : i < es.length) (h : ¬ (es.getD i (0,0)).2 ≤ 0) (h2 : ¬ ((es.getD i (0,0)).1 < 0 ∨ n - (es.getD i (0,0)).1 < (es.getD i (0,0)).2)) (h3 : (es.getD i (0,0)).1 < a) : xGo n a (es.drop i) = 3 := by rw [cL es i hi,xGo,if_neg h,if_neg h2,if_pos h3]
theorem nGA {es : List (Int × Int)} {n a : Int} {i : Nat} (hi : i < es.length) (h : ¬ (es.getD i (0,0)).2 ≤ 0) (h2 : ¬ ((es.getD i (0,0)).1 < 0 ∨ n - (es.getD i (0,0)).1 < (es.getD i (0,0)).2)) (h3 : ¬ (es.getD i (0,0)).1 < a) : xGo n a (es.drop i) = xGo n ((es.getD i (0,0)).1 + (es.getD i (0,0)).2 + 1) (es.drop (i + 1)) := by rw [cL es i hi,xGo,if_neg h,if_neg h2,if_neg h3]
theorem oO {es : List (Int × Int)} {n a : Int} {i : Nat} (hi : es.length ≤ i) : xGo n a (es.drop i) = 0 := by rw [List.drop_of_length_le hi]; rfl
def inE (e : Int × Int) (n : Int) : Prop := 0 ≤ e.1 ∧ e.2 ≤ n ∧ e.1 ≤ n - e.2
instance (e : Int × Int) (n : Int) : Decidable (inE e n) := by unfold inE; infer_instance
theorem c92 (a b : List Int) : ACalls Try.prog 92 [.p (bytes a),.p (bytes b)] (.p (bv (decide (a = b)))) := by
 refine oC jC Try.func92 (c := _) rfl (by kernel_rfl) ?_
 intro X hP hX hro hpl
 have hb : tb.Ok X.P := hP ▸ jC
 change AW X _ _ ⟨[],[.p (bytes a),.p (bytes b),.any,.any,.any,.any,.any,.any,.any,.any,.any,.any,.any,.any,.any,.any,.any,.any,.any,.any,.any,.any,.any,.any,.any,.any],[],[]⟩
 refine aI (t := 0) rfl fun hl => ?_
 unfold maxLen at hl
 refine fA ?_
 refine iA hX hb [0] rfl (σ' := ?s1) (fun K hK => ?h1) ?n1
 case h1 =>
  (refine kA rfl (by simp (disch := omega) only [gA,aA,qop,fop,St.ev,St.put,cd,zd,Value.oneCell',lA,TypeDesc.aggB,Z0,rA,Zh] <;> exact rfl) ?_)
  refine bA ?_
  exact hK
 refine jA ?_
 refine fA ?_
 refine fA ?_
 refine iA hX hb [0,1,2,3,4] rfl (σ' := ?s2) (fun K hK => ?h2) ?n2
 case h2 =>
  iterate 5 (refine kA rfl (by simp (disch := omega) only [gA,aA,qop,fop,St.ev,St.put,cd,zd,Value.oneCell',lA,TypeDesc.aggB,Z0,mC,yA,iop,tt,rA,Zh] <;> exact rfl) ?_)
  refine bA ?_
  exact hK
 refine jA ?_
 refine mB _ rfl (fun hc0 => ?_) (fun hc0 => ?_)
 ·try simp only [Zp,Zi,ZK,ZJ,ne_eq,Zn,Zm,ZB,ZA,ZI,not_or,not_and,Zu] at hc0
  refine fA ?_
  refine iA hX hb [0] rfl (σ' := ?s3) (fun K hK => ?h3) ?n3
  case h3 =>
   (refine kA rfl (by simp (disch := omega) only [gA,aA,qop,fop,St.ev,St.put,cd,zd,Value.oneCell',lA,TypeDesc.aggB,Z0,rA,Zh] <;> exact rfl) ?_)
   refine bA ?_
   exact hK
  refine jA ?_
  refine bC ?_
  refine nC ?_
  exact tC rfl (sB rfl (by first | rfl | (first | (refine jf ?_; rintro rfl; exact hc2 rfl) | (refine jf ?_; rintro rfl; exact hc0 rfl) | exact jt (yC hc0 he (by omega)))))
 ·try simp only [Zp,Zi,ZK,ZJ,ne_eq,Zn,Zm,ZB,ZA,ZI,not_or,not_and,Zu] at hc0
  refine tB ?_
  refine jA ?_
  refine fA ?_
  refine fA ?_
  refine iA hX hb [0] rfl (σ' := ?s4) (fun K hK => ?h4) ?n4
  case h4 =>
   (refine kA rfl (by simp (disch := omega) only [gA,aA,qop,fop,St.ev,St.put,cd,zd,Value.oneCell',lA,TypeDesc.aggB,Z0,rA,Zh] <;> exact rfl) ?_)
   refine bA ?_
   exact hK
  refine jA ?_
  refine uB ?_
  refine vD (ι := Nat) (fun i => i ≤ a.length ∧ a.take i = b.take i) (fun i => ⟨[],[.p (bytes a),.p (bytes b),.any,.any,.any,.p (i64 i),.any,.any,.any,.any,.any,.any,.any,.any,.any,.any,.any,.any,.any,.any,.any,.any,.any,.any,.any,.any],[],[]⟩) (fun i => a.length - i) 0 (by exact ⟨Nat.zero_le _,rfl⟩) (sC ⟨rfl,(by repeat first | exact tA | refine qB ?_ | refine uA rfl ?_),(wB _),(xB _),rfl,rfl⟩) ?_
  rintro i ⟨hi,he⟩
  refine fA ?_
  refine fA ?_
  refine iA hX hb [0,1,2,3] rfl (σ' := ?s5) (fun K hK => ?h5) ?n5
  case h5 =>
   iterate 4 (refine kA rfl (by simp (disch := omega) only [gA,aA,qop,fop,St.ev,St.put,cd,zd,Value.oneCell',lA,TypeDesc.aggB,Z0,mC,yA,iop,tt,rA,Zh] <;> exact rfl) ?_)
   refine bA ?_
   exact hK
  refine jA ?_
  refine mB _ rfl (fun hc1 => ?_) (fun hc1 => ?_)
  ·try simp only [Zp,Zi,ZK,ZJ,ne_eq,Zn,Zm,ZB,ZA,ZI,not_or,not_and,Zu] at hc1
   refine tB ?_
   refine jA ?_
   refine fA ?_
   refine uB ?_
   refine fA ?_
   refine bF hX hb (gD hP) [(0,true),(1,true),(2,true),(3,true),(4,true),(5,true),(6,true),(7,true),(8,true)] (by kernel_rfl) (σ' := ?s6) (fun K hK => ?h6) ?n6
   case h6 =>
    iterate 9 (refine xE rfl (by simp (disch := omega) only [qop,fop,St.ev,St.put,cd,zd,Value.oneCell',lA,TypeDesc.aggB,Z0,Int.toNat_zero,Int.toNat_one,wA,xA,vA,ZO,Nat.mul_one,ZC,Nat.zero_mul,Zh,Z1,oA,pA,qA,eA,D.pure?,ZD,yA,iop,tt,rA] <;> exact rfl) (by simp only [St.put,Za,Zb] <;> exact rfl) ?_)
    refine qC ?_
    exact hK
   refine jA ?_
   refine mB _ rfl (fun hc2 => ?_) (fun hc2 => ?_)
   ·try simp only [Zp,Zi,ZK,ZJ,ne_eq,Zn,Zm,ZB,ZA,ZI,not_or,not_and,Zu] at hc2
    refine fA ?_
    refine iA hX hb [0] rfl (σ' := ?s7) (fun K hK => ?h7) ?n7
    case h7 =>
     (refine kA rfl (by simp (disch := omega) only [gA,aA,qop,fop,St.ev,St.put,cd,zd,Value.oneCell',lA,TypeDesc.aggB,Z0,rA,Zh] <;> exact rfl) ?_)
     refine bA ?_
     exact hK
    refine jA ?_
    refine bC ?_
    refine oE ?_
    refine nC ?_
    refine nC ?_
    refine oE ?_
    refine nC ?_
    exact tC rfl (sB rfl (by first | rfl | (first | (refine jf ?_; rintro rfl; exact hc2 rfl) | (refine jf ?_; rintro rfl; exact hc0 rfl) | exact jt (yC hc0 he (by omega)))))
   ·try simp only [Zp,Zi,ZK,ZJ,ne_eq,Zn,Zm,ZB,ZA,ZI,not_or,not_and,Zu] at hc2
    refine tB ?_
    refine dE ?_
    refine jA ?_
    refine iA hX hb [0,1,2] rfl (σ' := ?s8) (fun K hK => ?h8) ?n8
    case h8 =>
     iterate 3 (refine kA rfl (by simp (disch := omega) only [gA,aA,qop,fop,St.ev,St.put,cd,zd,Value.oneCell',lA,TypeDesc.aggB,Z0,yA,iop,tt,rA,Zh] <;> exact rfl) ?_)
     refine bA ?_
     exact hK
    refine jA ?_
    exact ⟨i + 1,by exact ⟨by omega,by rw [iE a i (by omega),iE b i (by omega),he,hc2]⟩,by (try dsimp only); omega,sC ⟨rfl,(by repeat first | exact tA | refine qB ?_ | refine uA rfl ?_),(wB _),(xB _),rfl,rfl⟩⟩
  ·try simp only [Zp,Zi,ZK,ZJ,ne_eq,Zn,Zm,ZB,ZA,ZI,not_or,not_and,Zu] at hc1
   refine sD ?_
   refine fD ?_
   refine fD ?_
   refine dF ?_
   refine jA ?_
   refine fA ?_
   refine iA hX hb [0] rfl (σ' := ?s9) (fun K hK => ?h9) ?n9
   case h9 =>
    (refine kA rfl (by simp (disch := omega) only [gA,aA,qop,fop,St.ev,St.put,cd,zd,Value.oneCell',lA,TypeDesc.aggB,Z0,rA,Zh] <;> exact rfl) ?_)
    refine bA ?_
    exact hK
   refine jA ?_
   refine bC ?_
   exact tC rfl (sB rfl (by first | rfl | (first | (refine jf ?_; rintro rfl; exact hc2 rfl) | (refine jf ?_; rintro rfl; exact hc0 rfl) | exact jt (yC hc0 he (by omega)))))
theorem c43 (w : Wa) : ACalls Try.prog 43 [waP w] (.p (bv (decide (bZ w.tree = true ∧ w.pend.length ≤ 60 ∧ w.found.length ≤ 60)))) := by
 obtain ⟨⟨s,f,lv⟩,pd,le,fo,se,dn⟩ := w
 refine oC jC Try.func43 (c := _) rfl (by kernel_rfl) ?_
 intro X hP hX hro hpl
 have hb : tb.Ok X.P := hP ▸ jC
 change AW X _ _ ⟨[],[.agg [i64 s,i64 f,xD lv,uC pd,i64 le,uC fo,i64 se,bv dn],.any,.any,.any,.any,.any,.any,.any,.any,.any,.any,.any,.any,.any,.any,.any,.any,.any],[],[]⟩
 refine fA ?_
 refine iA hX hb [0,1] rfl (σ' := ?s1) (fun K hK => ?h1) ?n1
 case h1 =>
  iterate 2 (refine kA rfl (by simp (disch := omega) only [gA,aA,qop,fop,St.ev,St.put,cd,zd,Value.oneCell',lA,TypeDesc.aggB,Z0,ZM,ZL,Zl,Zo,ZG,ZH,St.addBox,D.boxCells,D.live,tt] <;> exact rfl) ?_)
  refine bA ?_
  exact hK
 refine jA ?_
 refine fA ?_
 refine nE hX hb [0,1,2,3,4,5,6,7,8,9,10,11,12,13,14,15] rfl (ts := [3,4,5,6,7,8,9,10,11,12,13,14,15,16,17]) (t := 2) (d := .p (bv (bZ ⟨s,f,lv⟩ = true ∧ pd.length ≤ 60 ∧ fo.length ≤ 60))) (σ' := ?s2) ?j2 ?h2 ?n2
 case j2 => simp only [St.join,List.foldl,Za,Zb]; exact rfl
 case h2 =>
  iterate 2 (all_goals refine kA rfl (by simp (disch := omega) only [gA,aA,qop,fop,St.ev,St.put,cd,zd,Value.oneCell',lA,TypeDesc.aggB,Z0,cA,mA,Z1,oA,pA,qA,eA,D.pure?,ZC,ZD,sA,D.pv?,mC,yA,iop,tt] <;> exact rfl) ?_)
  refine jD rfl (by simp only [aA,St.ev,nB,oB,sA,D.pv?,ZG,ZH,zd,cd,Value.oneCell',Zr] <;> exact rfl) (acK hP (lKA ⟨s,f,lv⟩)) (by simp only [St.put,Za,Zb] <;> exact rfl) ?_
  (all_goals refine kA rfl (by simp (disch := omega) only [gA,aA,qop,fop,St.ev,St.put,cd,zd,Value.oneCell',lA,TypeDesc.aggB,Z0,cA,mA,Z1,oA,pA,qA,eA,D.pure?,ZC,ZD,sA,D.pv?,mC,yA,iop,tt] <;> exact rfl) ?_)
  iterate 4 (all_goals first | (refine fC rfl rfl rfl (by simp (disch := omega) only [gA,aA,qop,fop,St.ev,St.put,cd,zd,Value.oneCell',lA,TypeDesc.aggB,Z0,cA,mA,Z1,oA,pA,qA,eA,D.pure?,ZC,ZD,sA,D.pv?,mC,yA,iop,tt] <;> exact rfl) ?_) | (first | (refine zB rfl rfl rfl (by simp only [St.put,Za,Zb] <;> exact rfl) ?_) | (refine aC rfl rfl rfl (by simp only [St.put,Za,Zb] <;> exact rfl) ?_)) | (refine yB rfl rfl rfl (by simp only [Za,Zb] <;> exact rfl) (by simp only [Za,Zb] <;> exact rfl) (fun hg => ?_) (fun hg => ?_) <;> (try simp only [Zp,Zi,ZJ,ZK,ne_eq,Zn,Zm,Bool.not_eq_true,Zu] at hg) <;> first | (refine fC rfl rfl rfl (by simp (disch := omega) only [gA,aA,qop,fop,St.ev,St.put,cd,zd,Value.oneCell',lA,TypeDesc.aggB,Z0,cA,mA,Z1,oA,pA,qA,eA,D.pure?,ZC,ZD,sA,D.pv?,mC,yA,iop,tt] <;> exact rfl) ?_) | (first | (refine zB rfl rfl rfl (by simp only [St.put,Za,Zb] <;> exact rfl) ?_) | (refine aC rfl rfl rfl (by simp only [St.put,Za,Zb] <;> exact rfl) ?_))))
  iterate 2 (all_goals refine kA rfl (by simp (disch := omega) only [gA,aA,qop,fop,St.ev,St.put,cd,zd,Value.oneCell',lA,TypeDesc.aggB,Z0,cA,mA,Z1,oA,pA,qA,eA,D.pure?,ZC,ZD,sA,D.pv?,mC,yA,iop,tt] <;> exact rfl) ?_)
  iterate 4 (all_goals first | (refine fC rfl rfl rfl (by simp (disch := omega) only [gA,aA,qop,fop,St.ev,St.put,cd,zd,Value.oneCell',lA,TypeDesc.aggB,Z0,cA,mA,Z1,oA,pA,qA,eA,D.pure?,ZC,ZD,sA,D.pv?,mC,yA,iop,tt] <;> exact rfl) ?_) | (first | (refine zB rfl rfl rfl (by simp only [St.put,Za,Zb] <;> exact rfl) ?_) | (refine aC rfl rfl rfl (by simp only [St.put,Za,Zb] <;> exact rfl) ?_)) | (refine yB rfl rfl rfl (by simp only [Za,Zb] <;> exact rfl) (by simp only [Za,Zb] <;> exact rfl) (fun hg => ?_) (fun hg => ?_) <;> (try simp only [Zp,Zi,ZJ,ZK,ne_eq,Zn,Zm,Bool.not_eq_true,Zu] at hg) <;> first | (refine fC rfl rfl rfl (by simp (disch := omega) only [gA,aA,qop,fop,St.ev,St.put,cd,zd,Value.oneCell',lA,TypeDesc.aggB,Z0,cA,mA,Z1,oA,pA,qA,eA,D.pure?,ZC,ZD,sA,D.pv?,mC,yA,iop,tt] <;> exact rfl) ?_) | (first | (refine zB rfl rfl rfl (by simp only [St.put,Za,Zb] <;> exact rfl) ?_) | (refine aC rfl rfl rfl (by simp only [St.put,Za,Zb] <;> exact rfl) ?_))))
  iterate 2 (all_goals refine kA rfl (by simp (disch := omega) only [gA,aA,qop,fop,St.ev,St.put,cd,zd,Value.oneCell',lA,TypeDesc.aggB,Z0,cA,mA,Z1,oA,pA,qA,eA,D.pure?,ZC,ZD,sA,D.pv?,mC,yA,iop,tt] <;> exact rfl) ?_)
  all_goals refine bA ?_
  all_goals refine ⟨rfl,?_,pD _,qD _,rfl,rfl⟩
  all_goals repeat' (first | exact tA | refine qB ?_ | refine uA rfl ?_ | refine uA ?_ ?_)
  all_goals refine jn ?_
  all_goals (cases hfw : bZ ⟨s,f,lv⟩ <;> simp_all <;> omega)
 refine jA ?_
 refine bC ?_
 exact tC rfl (sB rfl rfl)
theorem rNA (e : Int × Int) (n : Int) (hn : xL n) (h : 0 < e.2 ∧ xL e.2) (h2 : 0 ≤ n) : ACalls Try.prog 112 [.agg [i64 e.1,i64 e.2],.p (i64 n)] (.p (bv (decide (inE e n)))) := by
 refine oC jC Try.func112 (c := _) rfl (by kernel_rfl) ?_
 intro X hP hX hro hpl
 have hb : tb.Ok X.P := hP ▸ jC
 change AW X _ _ ⟨[],[.agg [i64 e.1,i64 e.2],.p (i64 n),.any,.any,.any,.any,.any,.any,.any,.any,.any,.any,.any,.any,.any,.any,.any,.any,.any,.any,.any,.any,.any],[],[]⟩
 refine fA ?_
 refine iA hX hb [0,1] rfl (σ' := ?s1) (fun K hK => ?h1) ?n1
 case h1 =>
  iterate 2 (refine kA rfl (by simp (disch := omega) only [gA,aA,qop,fop,St.ev,St.put,cd,zd,Value.oneCell',lA,TypeDesc.aggB,Z0,ZM,ZL,Zl,Zo,ZG,ZH,St.addBox,D.boxCells,D.live,tt] <;> exact rfl) ?_)
  refine bA ?_
  exact hK
 refine jA ?_
 refine fA ?_
 refine nE hX hb [0,1,2,3,4,5,6,7,8,9,10,11,12,13,14,15,16,17,18] rfl (ts := [5,6,7,8,9,10,11,12,13,14,15,16,17,18,19,20,21,22]) (t := 4) (d := .p (bv (inE e n))) (σ' := ?s2) ?j2 ?h2 ?n2
 case j2 => simp only [St.join,List.foldl,Za,Zb]; exact rfl
 case h2 =>
  iterate 4 (all_goals refine kA rfl (by simp (disch := omega) only [gA,aA,qop,fop,St.ev,St.put,cd,zd,Value.oneCell',lA,TypeDesc.aggB,Z0,cA,mA,Z1,oA,pA,qA,eA,D.pure?,ZC,ZD,yA,iop,tt] <;> exact rfl) ?_)
  iterate 4 (all_goals first | (refine fC rfl rfl rfl (by simp (disch := omega) only [gA,aA,qop,fop,St.ev,St.put,cd,zd,Value.oneCell',lA,TypeDesc.aggB,Z0,cA,mA,Z1,oA,pA,qA,eA,D.pure?,ZC,ZD,yA,iop,tt] <;> exact rfl) ?_) | (first | (refine zB rfl rfl rfl (by simp only [St.put,Za,Zb] <;> exact rfl) ?_) | (refine aC rfl rfl rfl (by simp only [St.put,Za,Zb] <;> exact rfl) ?_)) | (refine yB rfl rfl rfl (by simp only [Za,Zb] <;> exact rfl) (by simp only [Za,Zb] <;> exact rfl) (fun hg => ?_) (fun hg => ?_) <;> (try simp only [Zp,Zi,ZJ,ZK,ne_eq,Zn,Zm,Bool.not_eq_true,Zu] at hg) <;> first | (refine fC rfl rfl rfl (by simp (disch := omega) only [gA,aA,qop,fop,St.ev,St.put,cd,zd,Value.oneCell',lA,TypeDesc.aggB,Z0,cA,mA,Z1,oA,pA,qA,eA,D.pure?,ZC,ZD,yA,iop,tt] <;> exact rfl) ?_) | (first | (refine zB rfl rfl rfl (by simp only [St.put,Za,Zb] <;> exact rfl) ?_) | (refine aC rfl rfl rfl (by simp only [St.put,Za,Zb] <;> exact rfl) ?_))))
  iterate 2 (all_goals refine kA rfl (by simp (disch := omega) only [gA,aA,qop,fop,St.ev,St.put,cd,zd,Value.oneCell',lA,TypeDesc.aggB,Z0,cA,mA,Z1,oA,pA,qA,eA,D.pure?,ZC,ZD,yA,iop,tt] <;> exact rfl) ?_)
  iterate 7 (all_goals first | (refine fC rfl rfl rfl (by simp (disch := omega) only [gA,aA,qop,fop,St.ev,St.put,cd,zd,Value.oneCell',lA,TypeDesc.aggB,Z0,cA,mA,Z1,oA,pA,qA,eA,D.pure?,ZC,ZD,yA,iop,tt] <;> exact rfl) ?_) | (first | (refine zB rfl rfl rfl (by simp only [St.put,Za,Zb] <;> exact rfl) ?_) | (refine aC rfl rfl rfl (by simp only [St.put,Za,Zb] <;> exact rfl) ?_)) | (refine yB rfl rfl rfl (by simp only [Za,Zb] <;> exact rfl) (by simp only [Za,Zb] <;> exact rfl) (fun hg => ?_) (fun hg => ?_) <;> (try simp only [Zp,Zi,ZJ,ZK,ne_eq,Zn,Zm,Bool.not_eq_true,Zu] at hg) <;> first | (refine fC rfl rfl rfl (by simp (disch := omega) only [gA,aA,qop,fop,St.ev,St.put,cd,zd,Value.oneCell',lA,TypeDesc.aggB,Z0,cA,mA,Z1,oA,pA,qA,eA,D.pure?,ZC,ZD,yA,iop,tt] <;> exact rfl) ?_) | (first | (refine zB rfl rfl rfl (by simp only [St.put,Za,Zb] <;> exact rfl) ?_) | (refine aC rfl rfl rfl (by simp only [St.put,Za,Zb] <;> exact rfl) ?_))))
  iterate 2 (all_goals refine kA rfl (by simp (disch := omega) only [gA,aA,qop,fop,St.ev,St.put,cd,zd,Value.oneCell',lA,TypeDesc.aggB,Z0,cA,mA,Z1,oA,pA,qA,eA,D.pure?,ZC,ZD,yA,iop,tt] <;> exact rfl) ?_)
  all_goals refine bA ?_
  all_goals refine ⟨rfl,?_,pD _,qD _,rfl,rfl⟩
  all_goals repeat' (first | exact tA | refine qB ?_ | refine uA rfl ?_ | refine uA ?_ ?_)
  all_goals refine jn ?_
  all_goals ((simp only [inE] at *) <;> (try simp only [Zp,Zi,ZJ,ZK,Bool.not_eq_true,Zm,Zn,ne_eq,Zf,true_iff,false_iff,iff_true,iff_false] at *) <;> omega)
 refine jA ?_
 refine bC ?_
 exact tC rfl (sB rfl rfl)
theorem c86 (es : List (Int × Int)) (n : Int) (hin : gR es) (hn64 : xL n) : ACalls Try.prog 86 [.p (uC es),.p (i64 n)] (.p (i64 (kJ es n))) := by
 refine oC jC Try.func86 (c := _) rfl (by kernel_rfl) ?_
 intro X hP hX hro hpl
 have hb : tb.Ok X.P := hP ▸ jC
 change AW X _ _ ⟨[],[.p (uC es),.p (i64 n),.any,.any,.any,.any,.any,.any,.any,.any,.any,.any,.any,.any,.any,.any,.any,.any,.any,.any,.any,.any,.any,.any,.any,.any,.any,.any,.any,.any,.any,.any,.any,.any,.any,.any,.any,.any,.any,.any,.any,.any,.any,.any,.any,.any,.any,.any,.any,.any,.any,.any],[],[]⟩
 refine aI (t := 0) rfl fun hl => ?_
 unfold maxLen at hl
 refine fA ?_
 refine iA hX hb [0] rfl (σ' := ?s1) (fun K hK => ?h1) ?n1
 case h1 =>
  (refine kA rfl (by simp (disch := omega) only [gA,aA,qop,fop,St.ev,St.put,cd,zd,Value.oneCell',lA,TypeDesc.aggB,Z0,Z2] <;> exact rfl) ?_)
  refine bA ?_
  exact hK
 refine jA ?_
 refine fA ?_
 refine fA ?_
 refine nE hX hb [0,1,2,3,4,5] rfl (ts := [7,8,9,10,11]) (t := 12) (d := .p (bv (n < 0 ∨ 4096 < n))) (σ' := ?s2) ?j2 ?h2 ?n2
 case j2 => simp only [St.join,List.foldl,Za,Zb]; exact rfl
 case h2 =>
  iterate 3 (all_goals refine kA rfl (by simp (disch := omega) only [gA,aA,qop,fop,St.ev,St.put,cd,zd,Value.oneCell',lA,TypeDesc.aggB,Z0,yA,iop,tt,Z2] <;> exact rfl) ?_)
  iterate 2 (all_goals first | (refine fC rfl rfl rfl (by simp (disch := omega) only [gA,aA,qop,fop,St.ev,St.put,cd,zd,Value.oneCell',lA,TypeDesc.aggB,Z0,yA,iop,tt,Z2] <;> exact rfl) ?_) | (first | (refine zB rfl rfl rfl (by simp only [St.put,Za,Zb] <;> exact rfl) ?_) | (refine aC rfl rfl rfl (by simp only [St.put,Za,Zb] <;> exact rfl) ?_)) | (refine yB rfl rfl rfl (by simp only [Za,Zb] <;> exact rfl) (by simp only [Za,Zb] <;> exact rfl) (fun hg => ?_) (fun hg => ?_) <;> (try simp only [Zp,Zi,ZJ,ZK,ne_eq,Zn,Zm,Bool.not_eq_true,Zu] at hg) <;> first | (refine fC rfl rfl rfl (by simp (disch := omega) only [gA,aA,qop,fop,St.ev,St.put,cd,zd,Value.oneCell',lA,TypeDesc.aggB,Z0,yA,iop,tt,Z2] <;> exact rfl) ?_) | (first | (refine zB rfl rfl rfl (by simp only [St.put,Za,Zb] <;> exact rfl) ?_) | (refine aC rfl rfl rfl (by simp only [St.put,Za,Zb] <;> exact rfl) ?_))))
  (all_goals refine kA rfl (by simp (disch := omega) only [gA,aA,qop,fop,St.ev,St.put,cd,zd,Value.oneCell',lA,TypeDesc.aggB,Z0,yA,iop,tt,Z2] <;> exact rfl) ?_)
  all_goals refine bA ?_
  all_goals refine ⟨rfl,?_,pD _,qD _,rfl,rfl⟩
  all_goals repeat' (first | exact tA | refine qB ?_ | refine uA rfl ?_ | refine uA ?_ ?_)
  all_goals refine jn ?_
  all_goals ((try simp only [Zp,Zi,ZJ,ZK,Bool.not_eq_true,Zm,Zn,ne_eq,Zf,true_iff,false_iff,iff_true,iff_false] at *) <;> omega)
 refine jA ?_
 refine mB _ rfl (fun hc0 => ?_) (fun hc0 => ?_)
 ·try simp only [Zp,Zi,ZK,ZJ,ne_eq,Zn,Zm,ZB,ZA,ZI,not_or,not_and,Zu] at hc0
  refine fA ?_
  refine iA hX hb [0] rfl (σ' := ?s3) (fun K hK => ?h3) ?n3
  case h3 =>
   (refine kA rfl (by simp (disch := omega) only [gA,aA,qop,fop,St.ev,St.put,cd,zd,Value.oneCell',lA,TypeDesc.aggB,Z0,t2,ti2,Z2] <;> exact rfl) ?_)
   refine bA ?_
   exact hK
  refine jA ?_
  refine bC ?_
  refine nC ?_
  exact tC rfl (sB rfl (by first | rfl | (first | exact congrArg (fun k => D.p (i64 k)) (kL hc0).symm | exact congrArg (fun k => D.p (i64 k)) ((gE (by omega)).trans (hg.trans (lO (by omega) hc2))).symm | exact congrArg (fun k => D.p (i64 k)) ((gE (by omega)).trans (hg.trans (mO (by omega) hc2 (by omega)))).symm | exact congrArg (fun k => D.p (i64 k)) ((gE (by omega)).trans (hg.trans (nO (by omega) hc2 (by omega) hc4))).symm | exact congrArg (fun k => D.p (i64 k)) ((gE (by omega)).trans (hg.trans (oO (by omega)))).symm)))
 ·try simp only [Zp,Zi,ZK,ZJ,ne_eq,Zn,Zm,ZB,ZA,ZI,not_or,not_and,Zu] at hc0
  refine tB ?_
  refine jA ?_
  refine fA ?_
  refine iA hX hb [0] rfl (σ' := ?s4) (fun K hK => ?h4) ?n4
  case h4 =>
   (refine kA rfl (by simp (disch := omega) only [gA,aA,qop,fop,St.ev,St.put,cd,zd,Value.oneCell',lA,TypeDesc.aggB,Z0,Z2] <;> exact rfl) ?_)
   refine bA ?_
   exact hK
  refine jA ?_
  refine fA ?_
  refine fA ?_
  refine iA hX hb [0] rfl (σ' := ?s5) (fun K hK => ?h5) ?n5
  case h5 =>
   (refine kA rfl (by simp (disch := omega) only [gA,aA,qop,fop,St.ev,St.put,cd,zd,Value.oneCell',lA,TypeDesc.aggB,Z0,Z2] <;> exact rfl) ?_)
   refine bA ?_
   exact hK
  refine jA ?_
  refine uB ?_
  refine vD (ι := Nat × Int) (fun p => p.1 ≤ es.length ∧ -2 ≤ p.2 ∧ p.2 ≤ 4096 ∧ xGo n 0 es = xGo n (p.2 + 2) (es.drop p.1)) (fun p => ⟨[],[.p (uC es),.p (i64 n),.any,.any,.any,.p (i64 p.2),.p (i64 p.1),.any,.any,.any,.any,.any,.any,.any,.any,.any,.any,.any,.any,.any,.any,.any,.any,.any,.any,.any,.any,.any,.any,.any,.any,.any,.any,.any,.any,.any,.any,.any,.any,.any,.any,.any,.any,.any,.any,.any,.any,.any,.any,.any,.any,.any],[],[]⟩) (fun p => es.length - p.1) (0,-2) (by exact ⟨Nat.zero_le _,by decide,by decide,rfl⟩) (sC ⟨rfl,(by repeat first | exact tA | refine qB ?_ | refine uA rfl ?_),(wB _),(xB _),rfl,rfl⟩) ?_
  rintro ⟨i,b⟩ ⟨hi,hb1,hb2,hg⟩
  dsimp only at hi hb1 hb2 hg ⊢
  refine fA ?_
  refine fA ?_
  refine iA hX hb [0,1,2,3] rfl (σ' := ?s6) (fun K hK => ?h6) ?n6
  case h6 =>
   iterate 4 (refine kA rfl (by simp (disch := omega) only [gA,aA,qop,fop,St.ev,St.put,cd,zd,Value.oneCell',lA,TypeDesc.aggB,Z0,mC,yA,iop,tt,Z2] <;> exact rfl) ?_)
   refine bA ?_
   exact hK
  refine jA ?_
  refine mB _ rfl (fun hc1 => ?_) (fun hc1 => ?_)
  ·try simp only [Zp,Zi,ZK,ZJ,ne_eq,Zn,Zm,ZB,ZA,ZI,not_or,not_and,Zu] at hc1
   have hei := lX hin (show i < es.length by omega)
   refine tB ?_
   refine jA ?_
   refine fA ?_
   refine uB ?_
   refine fA ?_
   refine fA ?_
   refine iA hX hb [0,1,2,3,4,5] rfl (σ' := ?s7) (fun K hK => ?h7) ?n7
   case h7 =>
    iterate 6 (refine kA rfl (by simp (disch := omega) only [gA,aA,qop,fop,St.ev,St.put,cd,zd,Value.oneCell',lA,TypeDesc.aggB,Z0,Int.toNat_zero,Int.toNat_one,wA,xA,vA,ZO,Nat.mul_one,ZC,Nat.zero_mul,Zh,cA,mA,Z1,oA,pA,qA,eA,D.pure?,ZD,yA,iop,tt,Z2] <;> exact rfl) ?_)
    refine bA ?_
    exact hK
   refine jA ?_
   refine mB _ rfl (fun hc2 => ?_) (fun hc2 => ?_)
   ·try simp only [Zp,Zi,ZK,ZJ,ne_eq,Zn,Zm,ZB,ZA,ZI,not_or,not_and,Zu] at hc2
    refine fA ?_
    refine iA hX hb [0] rfl (σ' := ?s8) (fun K hK => ?h8) ?n8
    case h8 =>
     (refine kA rfl (by simp (disch := omega) only [gA,aA,qop,fop,St.ev,St.put,cd,zd,Value.oneCell',lA,TypeDesc.aggB,Z0,t1,ti1,Z2] <;> exact rfl) ?_)
     refine bA ?_
     exact hK
    refine jA ?_
    refine bC ?_
    refine nC ?_
    refine oE ?_
    refine nC ?_
    refine nC ?_
    refine oE ?_
    refine nC ?_
    exact tC rfl (sB rfl (by first | rfl | (first | exact congrArg (fun k => D.p (i64 k)) (kL hc0).symm | exact congrArg (fun k => D.p (i64 k)) ((gE (by omega)).trans (hg.trans (lO (by omega) hc2))).symm | exact congrArg (fun k => D.p (i64 k)) ((gE (by omega)).trans (hg.trans (mO (by omega) hc2 (by omega)))).symm | exact congrArg (fun k => D.p (i64 k)) ((gE (by omega)).trans (hg.trans (nO (by omega) hc2 (by omega) hc4))).symm | exact congrArg (fun k => D.p (i64 k)) ((gE (by omega)).trans (hg.trans (oO (by omega)))).symm)))
   ·try simp only [Zp,Zi,ZK,ZJ,ne_eq,Zn,Zm,ZB,ZA,ZI,not_or,not_and,Zu] at hc2
    refine tB ?_
    refine jA ?_
    refine fA ?_
    refine fA ?_
    refine iA hX hb [0,1,2,3,4,5,6] rfl (σ' := ?s9) (fun K hK => ?h9) ?n9
    case h9 =>
     iterate 5 (refine kA rfl (by simp (disch := omega) only [gA,aA,qop,fop,St.ev,St.put,cd,zd,Value.oneCell',lA,TypeDesc.aggB,Z0,Int.toNat_zero,Int.toNat_one,wA,xA,vA,ZO,Nat.mul_one,ZC,Nat.zero_mul,Zh,Z1,oA,pA,qA,eA,D.pure?,ZD,sA,D.pv?,Bool.not_true,Bool.not_false,tt,Z2] <;> exact rfl) ?_)
     refine jD rfl (by simp only [aA,St.ev,nB,oB,sA,D.pv?,ZG,ZH,zd,cd,Value.oneCell',Zr] <;> exact rfl) (acK hP (rNA (es.getD i (0,0)) n (by omega) (by omega) (by omega))) (by simp only [St.put,Za,Zb] <;> exact rfl) ?_
     (refine kA rfl (by simp (disch := omega) only [gA,aA,qop,fop,St.ev,St.put,cd,zd,Value.oneCell',lA,TypeDesc.aggB,Z0,Int.toNat_zero,Int.toNat_one,wA,xA,vA,ZO,Nat.mul_one,ZC,Nat.zero_mul,Zh,Z1,oA,pA,qA,eA,D.pure?,ZD,sA,D.pv?,Bool.not_true,Bool.not_false,tt,Z2] <;> exact rfl) ?_)
     refine bA ?_
     exact hK
    refine jA ?_
    refine mB _ rfl (fun hc3 => ?_) (fun hc3 => ?_)
    ·try simp only [Zp,Zi,ZK,ZJ,ne_eq,Zn,Zm,ZB,ZA,ZI,not_or,not_and,Zu] at hc3
     unfold inE at hc3
     refine fA ?_
     refine iA hX hb [0] rfl (σ' := ?s10) (fun K hK => ?h10) ?n10
     case h10 =>
      (refine kA rfl (by simp (disch := omega) only [gA,aA,qop,fop,St.ev,St.put,cd,zd,Value.oneCell',lA,TypeDesc.aggB,Z0,t2,ti2,Z2] <;> exact rfl) ?_)
      refine bA ?_
      exact hK
     refine jA ?_
     refine bC ?_
     refine nC ?_
     refine oE ?_
     refine nC ?_
     refine nC ?_
     refine oE ?_
     refine nC ?_
     exact tC rfl (sB rfl (by first | rfl | (first | exact congrArg (fun k => D.p (i64 k)) (kL hc0).symm | exact congrArg (fun k => D.p (i64 k)) ((gE (by omega)).trans (hg.trans (lO (by omega) hc2))).symm | exact congrArg (fun k => D.p (i64 k)) ((gE (by omega)).trans (hg.trans (mO (by omega) hc2 (by omega)))).symm | exact congrArg (fun k => D.p (i64 k)) ((gE (by omega)).trans (hg.trans (nO (by omega) hc2 (by omega) hc4))).symm | exact congrArg (fun k => D.p (i64 k)) ((gE (by omega)).trans (hg.trans (oO (by omega)))).symm)))
    ·try simp only [Zp,Zi,ZK,ZJ,ne_eq,Zn,Zm,ZB,ZA,ZI,not_or,not_and,Zu] at hc3
     unfold inE at hc3
     refine tB ?_
     refine jA ?_
     refine fA ?_
     refine fA ?_
     refine iA hX hb [0,1,2,3,4,5,6,7] rfl (σ' := ?s11) (fun K hK => ?h11) ?n11
     case h11 =>
      iterate 8 (refine kA rfl (by simp (disch := omega) only [gA,aA,qop,fop,St.ev,St.put,cd,zd,Value.oneCell',lA,TypeDesc.aggB,Z0,Int.toNat_zero,Int.toNat_one,wA,xA,vA,ZO,Nat.mul_one,ZC,Nat.zero_mul,Zh,cA,mA,Z1,oA,pA,qA,eA,D.pure?,ZD,yA,iop,tt,Z2] <;> exact rfl) ?_)
      refine bA ?_
      exact hK
     refine jA ?_
     refine mB _ rfl (fun hc4 => ?_) (fun hc4 => ?_)
     ·try simp only [Zp,Zi,ZK,ZJ,ne_eq,Zn,Zm,ZB,ZA,ZI,not_or,not_and,Zu] at hc4
      refine fA ?_
      refine iA hX hb [0] rfl (σ' := ?s12) (fun K hK => ?h12) ?n12
      case h12 =>
       (refine kA rfl (by simp (disch := omega) only [gA,aA,qop,fop,St.ev,St.put,cd,zd,Value.oneCell',lA,TypeDesc.aggB,Z0,t3,ti3,Z2] <;> exact rfl) ?_)
       refine bA ?_
       exact hK
      refine jA ?_
      refine bC ?_
      refine nC ?_
      refine oE ?_
      refine nC ?_
      refine nC ?_
      refine oE ?_
      refine nC ?_
      exact tC rfl (sB rfl (by first | rfl | (first | exact congrArg (fun k => D.p (i64 k)) (kL hc0).symm | exact congrArg (fun k => D.p (i64 k)) ((gE (by omega)).trans (hg.trans (lO (by omega) hc2))).symm | exact congrArg (fun k => D.p (i64 k)) ((gE (by omega)).trans (hg.trans (mO (by omega) hc2 (by omega)))).symm | exact congrArg (fun k => D.p (i64 k)) ((gE (by omega)).trans (hg.trans (nO (by omega) hc2 (by omega) hc4))).symm | exact congrArg (fun k => D.p (i64 k)) ((gE (by omega)).trans (hg.trans (oO (by omega)))).symm)))
     ·try simp only [Zp,Zi,ZK,ZJ,ne_eq,Zn,Zm,ZB,ZA,ZI,not_or,not_and,Zu] at hc4
      refine tB ?_
      refine jA ?_
      refine bF hX hb (gD hP) [(0,true),(1,true),(2,true),(3,true),(4,true),(5,true),(6,true),(7,true),(8,true),(9,true),(10,true),(11,true),(12,true)] (by kernel_rfl) (σ' := ?s13) (fun K hK => ?h13) ?n13
      case h13 =>
       iterate 13 (refine xE rfl (by simp (disch := omega) only [qop,fop,St.ev,St.put,cd,zd,Value.oneCell',lA,TypeDesc.aggB,Z0,Int.toNat_zero,Int.toNat_one,wA,xA,vA,ZO,Nat.mul_one,ZC,Nat.zero_mul,Zh,cA,mA,Z1,oA,pA,qA,eA,D.pure?,ZD,yA,iop,tt,Z2] <;> exact rfl) (by simp only [St.put,Za,Zb] <;> exact rfl) ?_)
       refine qC ?_
       exact hK
      refine dE ?_
      refine jA ?_
      refine iA hX hb [0,1,2] rfl (σ' := ?s14) (fun K hK => ?h14) ?n14
      case h14 =>
       iterate 3 (refine kA rfl (by simp (disch := omega) only [gA,aA,qop,fop,St.ev,St.put,cd,zd,Value.oneCell',lA,TypeDesc.aggB,Z0,yA,iop,tt,Z2] <;> exact rfl) ?_)
       refine bA ?_
       exact hK
      refine jA ?_
      exact ⟨(i + 1,(es.getD i (0,0)).1 + (es.getD i (0,0)).2 - 1),by refine ⟨by dsimp only; omega,by dsimp only; omega,by dsimp only; omega,?_⟩; dsimp only; rw [hg,nGA (by omega) hc2 (by omega) hc4]; congr 1; omega,by (try dsimp only); omega,sC ⟨rfl,(by repeat first | exact tA | refine qB ?_ | refine uA rfl ?_),(wB _),(xB _),rfl,rfl⟩⟩
  ·try simp only [Zp,Zi,ZK,ZJ,ne_eq,Zn,Zm,ZB,ZA,ZI,not_or,not_and,Zu] at hc1
   refine sD ?_
   refine fD ?_
   refine fD ?_
   refine dF ?_
   refine jA ?_
   refine fA ?_
   refine iA hX hb [0] rfl (σ' := ?s15) (fun K hK => ?h15) ?n15
   case h15 =>
    (refine kA rfl (by simp (disch := omega) only [gA,aA,qop,fop,St.ev,St.put,cd,zd,Value.oneCell',lA,TypeDesc.aggB,Z0,Z2] <;> exact rfl) ?_)
    refine bA ?_
    exact hK
   refine jA ?_
   refine bC ?_
   exact tC rfl (sB rfl (by first | rfl | (first | exact congrArg (fun k => D.p (i64 k)) (kL hc0).symm | exact congrArg (fun k => D.p (i64 k)) ((gE (by omega)).trans (hg.trans (lO (by omega) hc2))).symm | exact congrArg (fun k => D.p (i64 k)) ((gE (by omega)).trans (hg.trans (mO (by omega) hc2 (by omega)))).symm | exact congrArg (fun k => D.p (i64 k)) ((gE (by omega)).trans (hg.trans (nO (by omega) hc2 (by omega) hc4))).symm | exact congrArg (fun k => D.p (i64 k)) ((gE (by omega)).trans (hg.trans (oO (by omega)))).symm)))
end Go.Proofs.Ytldcoekbgfaomaa
end
section
namespace Go.Proofs.Ytldcoekbgfaomaa
open Go.RowKit
/-- The numbers in extents. -/
def cC (es : List (Int × Int)) : List Nat := es.flatMap fun e => List.range' e.1.toNat e.2.toNat
theorem yJ (es : List (Int × Int)) (e : Int × Int) : cC (es ++ [e]) = cC es ++ List.range' e.1.toNat e.2.toNat := by simp [cC]
theorem mX (a k : Nat) : List.range' a (k + 1) = List.range' a k ++ [a + k] := by
 rw [List.range'_1_concat]
/-- Extents that stand in order within n places,from a on. -/
def AscX (n : Nat) : Nat → List (Int × Int) → Prop
 | _,[] => True
 | a,e :: r => (a : Int) ≤ e.1 ∧ 1 ≤ e.2 ∧ e.1 + e.2 ≤ n ∧ AscX n (e.1.toNat + e.2.toNat + 1) r
theorem uZ {n : Nat} : ∀ {es : List (Int × Int)} {a : Nat},xGo n a es = 0 → AscX n a es
 | [],_,_ => trivial
 | e :: r,a,h => by
  rw [xGo] at h
  split at h
  ·cases h
  ·split at h
   ·cases h
   ·split at h
    ·cases h
    ·refine ⟨by omega,by omega,by omega,uZ ?_⟩
     rw [← h]
     congr 1
     omega
theorem iH {es : List (Int × Int)} {n : Nat} (h : kJ es n = 0) : n ≤ 4096 ∧ AscX n 0 es := by
 unfold kJ at h
 split at h
 ·cases h
 ·exact ⟨by omega,uZ h⟩
theorem AscX.nodes {n : Nat} : ∀ {es : List (Int × Int)} {a : Nat},AscX n a es → (cC es).Pairwise (· < ·) ∧ ∀ x ∈ cC es,a ≤ x ∧ x < n
 | [],a,_ => ⟨List.Pairwise.nil,fun x h => by cases h⟩
 | e :: r,a,⟨h1,h2,h3,h4⟩ => by
  obtain ⟨i1,i2⟩ := h4.nodes
  have hn : cC (e :: r) = List.range' e.1.toNat e.2.toNat ++ cC r := by simp [cC]
  rw [hn]
  refine ⟨List.pairwise_append.2 ⟨List.pairwise_lt_range',i1,fun x hx y hy => ?_⟩,fun x hx => ?_⟩
  ·have := List.mem_range'_1.1 hx
   have := (i2 y hy).1
   omega
  ·rcases List.mem_append.1 hx with hx | hx
   ·have := List.mem_range'_1.1 hx
    omega
   ·have := i2 x hx
    omega
theorem vZ {n : Nat} {X : List Nat} (h : X.Pairwise (· < ·)) (hn : ∀ x ∈ X,x < n) : X.length ≤ n := by
 have hnd : X.Nodup := h.imp (fun h => Nat.ne_of_lt h)
 have := hnd.length_le_of_subset (l₂ := List.range n) (fun x hx => List.mem_range.2 (hn x hx))
 simpa using this
theorem oM {es : List (Int × Int)} {n : Nat} (h : kJ es n = 0) : (cC es).length ≤ n := vZ (iH h).2.nodes.1 fun x hx => ((iH h).2.nodes.2 x hx).2
theorem wV {es : List (Int × Int)} {n : Nat} (h : kJ es n = 0) : ∀ x ∈ cC es,x < n := fun x hx => ((iH h).2.nodes.2 x hx).2
theorem AscX.at {n : Nat} : ∀ {es : List (Int × Int)} {a : Nat},AscX n a es → ∀ e ∈ es,∃ u v : Nat,e = ((u : Int),(v : Int)) ∧ 1 ≤ v ∧ u + v ≤ n
 | e :: r,a,⟨h1,h2,h3,h4⟩,x,hx => by
  rcases List.mem_cons.1 hx with rfl | hx
  ·obtain ⟨u,v⟩ := x
   dsimp only at h1 h2 h3
   exact ⟨u.toNat,v.toNat,by rw [Int.toNat_of_nonneg (by omega),Int.toNat_of_nonneg (by omega)],by omega,by omega⟩
  ·exact h4.at x hx
theorem gEA {es : List (Int × Int)} {n : Nat} (h : kJ es n = 0) {i : Nat} (hi : i < es.length) : ∃ u v : Nat,es.getD i (0,0) = ((u : Int),(v : Int)) ∧ 1 ≤ v ∧ u + v ≤ n := (iH h).2.at _ (tE es (0,0) i hi)
theorem AscX.few {n : Nat} : ∀ {es : List (Int × Int)} {a : Nat},AscX n a es → es.length ≤ (cC es).length
 | [],_,_ => Nat.zero_le _
 | e :: r,a,⟨h1,h2,h3,h4⟩ => by
  have := h4.few
  have hn : cC (e :: r) = List.range' e.1.toNat e.2.toNat ++ cC r := by simp [cC]
  rw [hn,List.length_append,List.length_range',List.length_cons]
  omega
theorem dL {es : List (Int × Int)} {n : Nat} (h : kJ es n = 0) : es.length ≤ n ∧ n ≤ 4096 := ⟨Nat.le_trans (iH h).2.few (oM h),(iH h).1⟩
theorem nN {es : List (Int × Int)} {i u v : Nat} (hi : i < es.length) (h : es.getD i (0,0) = ((u : Int),(v : Int))) : cC (es.take (i + 1)) = cC (es.take i) ++ List.range' u v := by
 rw [uE es i hi,yJ,h]
 simp
theorem cQ (es : List (Int × Int)) (i : Nat) : cC es = cC (es.take i) ++ cC (es.drop i) := by
 unfold cC
 rw [← List.flatMap_append,List.take_append_drop]
theorem wAA {es : List (Int × Int)} {i u v k : Nat} (hi : i < es.length) (h : es.getD i (0,0) = ((u : Int),(v : Int))) (hk : k < v) : (cC es)[(cC (es.take i)).length + k]? = some (u + k) := by
 rw [cQ es (i + 1),nN hi h,List.append_assoc,List.getElem?_append_right (Nat.le_add_right _ _),Nat.add_sub_cancel_left,List.getElem?_append_left (by simpa using hk),List.getElem?_range' hk]
 simp
/-- One number more in extents. -/
def nR (out : List (Int × Int)) (x : Int) : List (Int × Int) :=
 if 0 < out.length ∧ (out.getD (out.length - 1) (0,0)).1 + (out.getD (out.length - 1) (0,0)).2 = x then
  out.take (out.length - 1) ++ [((out.getD (out.length - 1) (0,0)).1,(out.getD (out.length - 1) (0,0)).2 + 1)]
 else out ++ [(x,1)]
def kI (X : List Nat) : List (Int × Int) := (X.map fun n : Nat => (n : Int)).foldl nR []
theorem xV {out : List (Int × Int)} {x : Int} (h : 0 < out.length ∧ (out.getD (out.length - 1) (0,0)).1 + (out.getD (out.length - 1) (0,0)).2 = x) :
  nR out x = out.take (out.length - 1) ++ [((out.getD (out.length - 1) (0,0)).1,(out.getD (out.length - 1) (0,0)).2 + 1)] := if_pos h
theorem wS {out : List (Int × Int)} {x : Int} (h : ¬ (0 < out.length ∧ (out.getD (out.length - 1) (0,0)).1 + (out.getD (out.length - 1) (0,0)).2 = x)) : nR out x = out ++ [(x,1)] := if_neg h
/-- What extents under way may be. -/
def AddS (n : Nat) (out : List (Int × Int)) : Prop := out.length ≤ n ∧ ∀ e ∈ out,0 ≤ e.1 ∧ e.1 ≤ 4294967296 ∧ 0 ≤ e.2 ∧ e.2 ≤ n
theorem AddS.nil : AddS 0 [] := ⟨Nat.le_refl _,fun e h => by cases h⟩
theorem AddS.step {n : Nat} {out : List (Int × Int)} {x : Int} (h : AddS n out) (h0 : 0 ≤ x) (h1 : x ≤ 4294967296) : AddS (n + 1) (nR out x) := by
 obtain ⟨q1,q2⟩ := h
 by_cases hc : 0 < out.length ∧ (out.getD (out.length - 1) (0,0)).1 + (out.getD (out.length - 1) (0,0)).2 = x
 ·rw [xV hc]
  have hl := q2 _ (tE out (0,0) (out.length - 1) (by omega))
  refine ⟨by simp; omega,fun e he => ?_⟩
  rcases List.mem_append.1 he with he | he
  ·have := q2 e (List.mem_of_mem_take he)
   omega
  ·simp only [List.mem_singleton] at he
   subst he
   dsimp only
   omega
 ·rw [wS hc]
  refine ⟨by simp; omega,fun e he => ?_⟩
  rcases List.mem_append.1 he with he | he
  ·have := q2 e he
   omega
  ·simp only [List.mem_singleton] at he
   subst he
   dsimp only
   omega
theorem AddS.last {n : Nat} {out : List (Int × Int)} (h : AddS n out) : out.length = 0 ∨ (0 ≤ (out.getD (out.length - 1) (0,0)).1 ∧ (out.getD (out.length - 1) (0,0)).1 ≤ 4294967296 ∧ 0 ≤ (out.getD (out.length - 1) (0,0)).2 ∧ (out.getD (out.length - 1) (0,0)).2 ≤ n) := by
 by_cases h0 : out.length = 0
 ·exact .inl h0
 ·exact .inr (h.2 _ (tE out (0,0) _ (by omega)))
theorem cZ (l : List (Int × Int)) : ∀ y ∈ bE l,∃ u,y = .v u := by
 intro y hy
 obtain ⟨e,_,he⟩ := List.mem_flatMap.1 hy
 simp only [List.mem_cons,List.not_mem_nil,or_false] at he
 rcases he with rfl | rfl <;> exact ⟨_,rfl⟩
/-! ### The bound -/
def yM (d N : Nat) : Nat := if h : N ≤ 1 then 0 else min N (2 * min d ((N + 1) / 2)) + yM d ((N + 1) / 2)
 termination_by N
 decreasing_by omega
theorem qJ {d N : Nat} (h : N ≤ 1) : yM d N = 0 := by rw [yM,dif_pos h]
theorem rJ {d N : Nat} (h : ¬ N ≤ 1) : yM d N = min N (2 * min d ((N + 1) / 2)) + yM d ((N + 1) / 2) := by rw [yM,dif_neg h]
theorem nX (d : Nat) : ∀ (k N : Nat),N ≤ k → yM d N ≤ 3 * N
 | k,N,hk => by
  by_cases h : N ≤ 1
  ·rw [qJ h]; omega
  ·match k,hk with
   | 0,hk => omega
   | k + 1,hk =>
    rw [rJ h]
    have := nX d k ((N + 1) / 2) (by omega)
    omega
def lI (s f d : Int) : Int × Int :=
 if s < 1 ∨ 4096 < s then (0,2) else if f < 1 ∨ 4096 < f then (0,1) else if d < 0 ∨ (yD s.toNat f.toNat : Int) < d then (0,2) else ((1 + yM d.toNat (yD s.toNat f.toNat) : Nat),0)
/-! ### Digests in bytes -/
def wZ (b : List Int) (i : Nat) (d : Int) (k : Nat) : Int := IntKind.u64.wrap (d + IntKind.u64.wrap (IntKind.u64.wrap (b.getD (8 * i + k) 0) * 2 ^ min (8 * (k : Int)).toNat IntKind.u64.bits))
def cIA (b : List Int) (i : Nat) : Int := (List.range 8).foldl (wZ b i) 0
end Go.Proofs.Ytldcoekbgfaomaa
end
