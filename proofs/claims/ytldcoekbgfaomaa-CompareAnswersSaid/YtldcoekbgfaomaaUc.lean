/- The walks of the code that the statement reaches, and the plain laws behind them, part Uc. No conditions. -/
import Derived.Test.YtldcoekbgfaomaaProg
import Derived.Shelf.SlSortCmp.NoneTotal
import Derived.Shelf.SlicesG.Cmp
import Derived.Ground.SlsfProg
import Derived.Ground.SlgcProg
import Derived.WalkKit
import Derived.ProofKit
import Derived.OpenShut
import Derived.ShutString
import Derived.ChangeOld
import Derived.SizedLaws
import Derived.Deep.Slices
import Derived.Carry
import Derived.Test.YtldcoekbgfaomaaUb
set_option linter.unusedVariables false
set_option linter.unusedSimpArgs false
section
namespace Go.Proofs.Ytldcoekbgfaomaa
open Go.RowKit
set_option maxRecDepth 20000
set_option maxHeartbeats 4000000
attribute [local irreducible] kE sD AW
def sO (s f : Int) : Int := if s < 1 ∨ 4096 < s then 2 else if f < 1 ∨ 4096 < f then 1 else 0
theorem c64 (s f : Int) : ACalls Try.prog 64 [.p (i64 s),.p (i64 f)] (.p (i64 (sO s f))) := by
 refine wC oC Try.func64 (c := _) rfl (by kernel_rfl) ?_
 intro X hP hX hro hpl
 have hb : tb.Ok X.P := hP ▸ oC
 change AW X _ _ ⟨[],[.p (i64 s),.p (i64 f),.any,.any,.any,.any,.any,.any,.any,.any,.any,.any,.any,.any,.any,.any,.any,.any,.any],[],[]⟩
 refine cA ?_
 refine gA hX hb [0] rfl (σ' := ?s1) (fun K hK => ?h1) ?n1
 case h1 =>
  (refine kA rfl (by simp (disch := omega) only [iA,aA,qop,fop,St.ev,St.put,cd,zd,Value.oneCell',lA,TypeDesc.aggB,Z0] <;> exact rfl) ?_)
  refine bA ?_
  exact hK
 refine jA ?_
 refine cA ?_
 refine tB ?_
 refine cA ?_
 refine vE hX hb [0,1,2,3,4,5,6] rfl (ts := [6,7,8,9,10,11]) (t := 5) (d := .p (bv (s < 1 ∨ 4096 < s))) (σ' := ?s2) ?j2 ?h2 ?n2
 case j2 => simp only [St.join,List.foldl,Za,Zb]; exact rfl
 case h2 =>
  iterate 3 (all_goals refine kA rfl (by simp (disch := omega) only [iA,aA,qop,fop,St.ev,St.put,cd,zd,Value.oneCell',lA,TypeDesc.aggB,Z0,cB,iop,tt] <;> exact rfl) ?_)
  iterate 2 (all_goals first | (refine lC rfl rfl rfl (by simp (disch := omega) only [iA,aA,qop,fop,St.ev,St.put,cd,zd,Value.oneCell',lA,TypeDesc.aggB,Z0,cB,iop,tt] <;> exact rfl) ?_) | (first | (refine eC rfl rfl rfl (by simp only [St.put,Za,Zb] <;> exact rfl) ?_) | (refine fC rfl rfl rfl (by simp only [St.put,Za,Zb] <;> exact rfl) ?_)) | (refine cC rfl rfl rfl (by simp only [Za,Zb] <;> exact rfl) (by simp only [Za,Zb] <;> exact rfl) (fun hg => ?_) (fun hg => ?_) <;> (try simp only [Zp,Zi,ZJ,ZK,ne_eq,Zn,Zm,Bool.not_eq_true,Zu] at hg) <;> first | (refine lC rfl rfl rfl (by simp (disch := omega) only [iA,aA,qop,fop,St.ev,St.put,cd,zd,Value.oneCell',lA,TypeDesc.aggB,Z0,cB,iop,tt] <;> exact rfl) ?_) | (first | (refine eC rfl rfl rfl (by simp only [St.put,Za,Zb] <;> exact rfl) ?_) | (refine fC rfl rfl rfl (by simp only [St.put,Za,Zb] <;> exact rfl) ?_))))
  iterate 2 (all_goals refine kA rfl (by simp (disch := omega) only [iA,aA,qop,fop,St.ev,St.put,cd,zd,Value.oneCell',lA,TypeDesc.aggB,Z0,cB,iop,tt] <;> exact rfl) ?_)
  all_goals refine bA ?_
  all_goals refine ⟨rfl,?_,xD _,yD _,rfl,rfl⟩
  all_goals repeat' (first | exact sA | refine mB ?_ | refine vA rfl ?_ | refine vA ?_ ?_)
  all_goals refine jn ?_
  all_goals ((try simp only [Zp,Zi,ZJ,ZK,Bool.not_eq_true,Zm,Zn,ne_eq,Zf,true_iff,false_iff,iff_true,iff_false] at *) <;> omega)
 refine jA ?_
 refine oB _ rfl (fun hc0 => ?_) (fun hc0 => ?_)
 ·try simp only [Zp,Zi,ZK,ZJ,ne_eq,Zn,Zm,ZB,ZA,ZI,not_or,not_and,Zu] at hc0
  refine cA ?_
  refine gA hX hb [0] rfl (σ' := ?s3) (fun K hK => ?h3) ?n3
  case h3 =>
   (refine kA rfl (by simp (disch := omega) only [iA,aA,qop,fop,St.ev,St.put,cd,zd,Value.oneCell',lA,TypeDesc.aggB,Z0,t2,ti2] <;> exact rfl) ?_)
   refine bA ?_
   exact hK
  refine jA ?_
  refine bC ?_
  refine xE ?_
  refine tC ?_
  exact zC rfl (zB rfl (by first | rfl | (first | (rw [sO,if_pos hc0]; rfl) | (rw [sO,if_neg (not_or.2 hc0),if_pos hc1]; rfl) | (rw [sO,if_neg (not_or.2 hc0),if_neg (not_or.2 hc1)]; rfl))))
 ·try simp only [Zp,Zi,ZK,ZJ,ne_eq,Zn,Zm,ZB,ZA,ZI,not_or,not_and,Zu] at hc0
  refine cA ?_
  refine vE hX hb [0,1,2,3,4,5,6] rfl (ts := [13,14,15,16,17,18]) (t := 12) (d := .p (bv (f < 1 ∨ 4096 < f))) (σ' := ?s4) ?j4 ?h4 ?n4
  case j4 => simp only [St.join,List.foldl,Za,Zb]; exact rfl
  case h4 =>
   iterate 3 (all_goals refine kA rfl (by simp (disch := omega) only [iA,aA,qop,fop,St.ev,St.put,cd,zd,Value.oneCell',lA,TypeDesc.aggB,Z0,cB,iop,tt] <;> exact rfl) ?_)
   iterate 2 (all_goals first | (refine lC rfl rfl rfl (by simp (disch := omega) only [iA,aA,qop,fop,St.ev,St.put,cd,zd,Value.oneCell',lA,TypeDesc.aggB,Z0,cB,iop,tt] <;> exact rfl) ?_) | (first | (refine eC rfl rfl rfl (by simp only [St.put,Za,Zb] <;> exact rfl) ?_) | (refine fC rfl rfl rfl (by simp only [St.put,Za,Zb] <;> exact rfl) ?_)) | (refine cC rfl rfl rfl (by simp only [Za,Zb] <;> exact rfl) (by simp only [Za,Zb] <;> exact rfl) (fun hg => ?_) (fun hg => ?_) <;> (try simp only [Zp,Zi,ZJ,ZK,ne_eq,Zn,Zm,Bool.not_eq_true,Zu] at hg) <;> first | (refine lC rfl rfl rfl (by simp (disch := omega) only [iA,aA,qop,fop,St.ev,St.put,cd,zd,Value.oneCell',lA,TypeDesc.aggB,Z0,cB,iop,tt] <;> exact rfl) ?_) | (first | (refine eC rfl rfl rfl (by simp only [St.put,Za,Zb] <;> exact rfl) ?_) | (refine fC rfl rfl rfl (by simp only [St.put,Za,Zb] <;> exact rfl) ?_))))
   iterate 2 (all_goals refine kA rfl (by simp (disch := omega) only [iA,aA,qop,fop,St.ev,St.put,cd,zd,Value.oneCell',lA,TypeDesc.aggB,Z0,cB,iop,tt] <;> exact rfl) ?_)
   all_goals refine bA ?_
   all_goals refine ⟨rfl,?_,xD _,yD _,rfl,rfl⟩
   all_goals repeat' (first | exact sA | refine mB ?_ | refine vA rfl ?_ | refine vA ?_ ?_)
   all_goals refine jn ?_
   all_goals ((try simp only [Zp,Zi,ZJ,ZK,Bool.not_eq_true,Zm,Zn,ne_eq,Zf,true_iff,false_iff,iff_true,iff_false] at *) <;> omega)
  refine jA ?_
  refine oB _ rfl (fun hc1 => ?_) (fun hc1 => ?_)
  ·try simp only [Zp,Zi,ZK,ZJ,ne_eq,Zn,Zm,ZB,ZA,ZI,not_or,not_and,Zu] at hc1
   refine cA ?_
   refine gA hX hb [0] rfl (σ' := ?s5) (fun K hK => ?h5) ?n5
   case h5 =>
    (refine kA rfl (by simp (disch := omega) only [iA,aA,qop,fop,St.ev,St.put,cd,zd,Value.oneCell',lA,TypeDesc.aggB,Z0,t1,ti1] <;> exact rfl) ?_)
    refine bA ?_
    exact hK
   refine jA ?_
   refine bC ?_
   refine xE ?_
   refine tC ?_
   exact zC rfl (zB rfl (by first | rfl | (first | (rw [sO,if_pos hc0]; rfl) | (rw [sO,if_neg (not_or.2 hc0),if_pos hc1]; rfl) | (rw [sO,if_neg (not_or.2 hc0),if_neg (not_or.2 hc1)]; rfl))))
  ·try simp only [Zp,Zi,ZK,ZJ,ne_eq,Zn,Zm,ZB,ZA,ZI,not_or,not_and,Zu] at hc1
   refine uB ?_
   refine cE ?_
   refine jA ?_
   refine cA ?_
   refine gA hX hb [0] rfl (σ' := ?s6) (fun K hK => ?h6) ?n6
   case h6 =>
    (refine kA rfl (by simp (disch := omega) only [iA,aA,qop,fop,St.ev,St.put,cd,zd,Value.oneCell',lA,TypeDesc.aggB,Z0] <;> exact rfl) ?_)
    refine bA ?_
    exact hK
   refine jA ?_
   refine bC ?_
   exact zC rfl (zB rfl (by first | rfl | (first | (rw [sO,if_pos hc0]; rfl) | (rw [sO,if_neg (not_or.2 hc0),if_pos hc1]; rfl) | (rw [sO,if_neg (not_or.2 hc0),if_neg (not_or.2 hc1)]; rfl))))
theorem c76 (s n : Nat) (hs : 1 ≤ s ∧ s ≤ 4294967296) (hn : 1 ≤ n ∧ n ≤ 4294967296) : ACalls Try.prog 76 [.p (i64 s),.p (i64 n)] (.p (i64 (wD s n))) := by
 refine wC oC Try.func76 (c := _) rfl (by kernel_rfl) ?_
 intro X hP hX hro hpl
 have hb : tb.Ok X.P := hP ▸ oC
 change AW X _ _ ⟨[],[.p (i64 s),.p (i64 n),.any,.any,.any,.any,.any,.any,.any,.any,.any],[],[]⟩
 refine cA ?_
 refine gA hX hb [0] rfl (σ' := ?s1) (fun K hK => ?h1) ?n1
 case h1 =>
  (refine kA rfl (by simp (disch := omega) only [iA,aA,qop,fop,St.ev,St.put,cd,zd,Value.oneCell',lA,TypeDesc.aggB,Z0,kD,ne_eq,not_true_eq_false,not_false_eq_true] <;> exact rfl) ?_)
  refine bA ?_
  exact hK
 refine jA ?_
 refine cA ?_
 refine gA hX hb [0,1,2,3,4,5,6] rfl (σ' := ?s2) (fun K hK => ?h2) ?n2
 case h2 =>
  iterate 7 (refine kA rfl (by simp (disch := omega) only [iA,aA,qop,fop,St.ev,St.put,cd,zd,Value.oneCell',lA,TypeDesc.aggB,Z0,cB,iop,tt,kD,ne_eq,not_true_eq_false,not_false_eq_true] <;> exact rfl) ?_)
  refine bA ?_
  exact hK
 refine jA ?_
 refine bC ?_
 exact zC rfl (zB rfl (by first | rfl | (rw [← fV,show ((s + n - 1 : Nat) : Int) = (s : Int) + n - 1 by omega]; rfl)))
end Go.Proofs.Ytldcoekbgfaomaa
end
section
namespace Go.Proofs.Ytldcoekbgfaomaa
open Go.RowKit
set_option maxRecDepth 20000
set_option maxHeartbeats 4000000
attribute [local irreducible] kE sD AW
theorem c40 (a b : List Int) : ACalls Try.prog 40 [.p (gH a),.p (gH b)] (.p (bv (decide (a = b)))) := by
 refine wC oC Try.func40 (c := _) rfl (by kernel_rfl) ?_
 intro X hP hX hro hpl
 have hb : tb.Ok X.P := hP ▸ oC
 change AW X _ _ ⟨[],[.p (gH a),.p (gH b),.any,.any,.any,.any,.any,.any,.any,.any,.any,.any,.any,.any,.any,.any,.any,.any,.any,.any,.any,.any,.any,.any,.any,.any],[],[]⟩
 refine jI (t := 0) rfl fun hl => ?_
 unfold maxLen at hl
 refine cA ?_
 refine gA hX hb [0] rfl (σ' := ?s1) (fun K hK => ?h1) ?n1
 case h1 =>
  (refine kA rfl (by simp (disch := omega) only [iA,aA,qop,fop,St.ev,St.put,cd,zd,Value.oneCell',lA,TypeDesc.aggB,Z0,nA,Zh] <;> exact rfl) ?_)
  refine bA ?_
  exact hK
 refine jA ?_
 refine cA ?_
 refine cA ?_
 refine gA hX hb [0,1,2,3,4] rfl (σ' := ?s2) (fun K hK => ?h2) ?n2
 case h2 =>
  iterate 5 (refine kA rfl (by simp (disch := omega) only [iA,aA,qop,fop,St.ev,St.put,cd,zd,Value.oneCell',lA,TypeDesc.aggB,Z0,vC,cB,iop,tt,nA,Zh] <;> exact rfl) ?_)
  refine bA ?_
  exact hK
 refine jA ?_
 refine oB _ rfl (fun hc0 => ?_) (fun hc0 => ?_)
 ·try simp only [Zp,Zi,ZK,ZJ,ne_eq,Zn,Zm,ZB,ZA,ZI,not_or,not_and,Zu] at hc0
  refine cA ?_
  refine gA hX hb [0] rfl (σ' := ?s3) (fun K hK => ?h3) ?n3
  case h3 =>
   (refine kA rfl (by simp (disch := omega) only [iA,aA,qop,fop,St.ev,St.put,cd,zd,Value.oneCell',lA,TypeDesc.aggB,Z0,nA,Zh] <;> exact rfl) ?_)
   refine bA ?_
   exact hK
  refine jA ?_
  refine bC ?_
  refine tC ?_
  exact zC rfl (zB rfl (by first | rfl | (first | (refine jf ?_; rintro rfl; exact hc2 rfl) | (refine jf ?_; rintro rfl; exact hc0 rfl) | exact jt (vD hc0 he (by omega)))))
 ·try simp only [Zp,Zi,ZK,ZJ,ne_eq,Zn,Zm,ZB,ZA,ZI,not_or,not_and,Zu] at hc0
  refine uB ?_
  refine jA ?_
  refine cA ?_
  refine cA ?_
  refine gA hX hb [0,1,2] rfl (σ' := ?s4) (fun K hK => ?h4) ?n4
  case h4 =>
   iterate 3 (refine kA rfl (by simp (disch := omega) only [iA,aA,qop,fop,St.ev,St.put,cd,zd,Value.oneCell',lA,TypeDesc.aggB,Z0,vC,tt,nA,Zh] <;> exact rfl) ?_)
   refine bA ?_
   exact hK
  refine jA ?_
  refine tB ?_
  refine rD (ι := Nat) (fun i => i ≤ a.length ∧ a.take i = b.take i) (fun i => ⟨[],[.p (gH a),.p (gH b),.any,.any,.any,.any,.any,.any,.any,.any,.any,.any,.p (i64 (a.length : Int)),.p (i64 i),.any,.any,.any,.any,.any,.any,.any,.any,.any,.any,.any,.any],[],[]⟩) (fun i => a.length - i) 0 (by exact ⟨Nat.zero_le _,rfl⟩) (rC ⟨rfl,(by repeat first | exact sA | refine mB ?_ | refine vA rfl ?_),(xB _),(yB _),rfl,rfl⟩) ?_
  rintro i ⟨hi,he⟩
  refine cA ?_
  refine gA hX hb [0] rfl (σ' := ?s5) (fun K hK => ?h5) ?n5
  case h5 =>
   (refine kA rfl (by simp (disch := omega) only [iA,aA,qop,fop,St.ev,St.put,cd,zd,Value.oneCell',lA,TypeDesc.aggB,Z0,cB,iop,t3,ti3,nA,Zh] <;> exact rfl) ?_)
   refine bA ?_
   exact hK
  refine jA ?_
  refine cA ?_
  refine oB _ rfl (fun hc1 => ?_) (fun hc1 => ?_)
  ·try simp only [Zp,Zi,ZK,ZJ,ne_eq,Zn,Zm,ZB,ZA,ZI,not_or,not_and,Zu] at hc1
   refine uB ?_
   refine jA ?_
   refine cA ?_
   refine tB ?_
   refine cA ?_
   refine gA hX hb [0,1] rfl (σ' := ?s6) (fun K hK => ?h6) ?n6
   case h6 =>
    iterate 2 (refine kA rfl (by simp (disch := omega) only [iA,aA,qop,fop,St.ev,St.put,cd,zd,Value.oneCell',lA,TypeDesc.aggB,Z0,nA,Zh] <;> exact rfl) ?_)
    refine bA ?_
    exact hK
   refine jA ?_
   refine cA ?_
   refine dF hX hb (jD hP) [(0,true),(1,true),(2,true),(3,true),(4,true),(5,true),(6,true),(7,true),(8,true)] (by kernel_rfl) (σ' := ?s7) (fun K hK => ?h7) ?n7
   case h7 =>
    iterate 9 (refine eF rfl (by simp (disch := omega) only [qop,fop,St.ev,St.put,cd,zd,Value.oneCell',lA,TypeDesc.aggB,Z0,Int.toNat_zero,Int.toNat_one,xA,yA,wA,ZO,Nat.mul_one,ZC,Nat.zero_mul,Zh,Z1,pA,qA,tA,eA,D.pure?,ZD,cB,iop,tt,nA] <;> exact rfl) (by simp only [St.put,Za,Zb] <;> exact rfl) ?_)
    refine xC ?_
    exact hK
   refine jA ?_
   refine oB _ rfl (fun hc2 => ?_) (fun hc2 => ?_)
   ·try simp only [Zp,Zi,ZK,ZJ,ne_eq,Zn,Zm,ZB,ZA,ZI,not_or,not_and,Zu] at hc2
    refine cA ?_
    refine gA hX hb [0] rfl (σ' := ?s8) (fun K hK => ?h8) ?n8
    case h8 =>
     (refine kA rfl (by simp (disch := omega) only [iA,aA,qop,fop,St.ev,St.put,cd,zd,Value.oneCell',lA,TypeDesc.aggB,Z0,nA,Zh] <;> exact rfl) ?_)
     refine bA ?_
     exact hK
    refine jA ?_
    refine bC ?_
    refine xE ?_
    refine tC ?_
    refine tC ?_
    refine xE ?_
    refine tC ?_
    exact zC rfl (zB rfl (by first | rfl | (first | (refine jf ?_; rintro rfl; exact hc2 rfl) | (refine jf ?_; rintro rfl; exact hc0 rfl) | exact jt (vD hc0 he (by omega)))))
   ·try simp only [Zp,Zi,ZK,ZJ,ne_eq,Zn,Zm,ZB,ZA,ZI,not_or,not_and,Zu] at hc2
    refine uB ?_
    refine cE ?_
    refine jA ?_
    refine gA hX hb [0,1] rfl (σ' := ?s9) (fun K hK => ?h9) ?n9
    case h9 =>
     iterate 2 (refine kA rfl (by simp (disch := omega) only [iA,aA,qop,fop,St.ev,St.put,cd,zd,Value.oneCell',lA,TypeDesc.aggB,Z0,cB,iop,tt,nA,Zh] <;> exact rfl) ?_)
     refine bA ?_
     exact hK
    refine jA ?_
    exact ⟨i + 1,by exact ⟨by omega,by rw [gE a i (by omega),gE b i (by omega),he,hc2]⟩,by (try dsimp only); omega,rC ⟨rfl,(by repeat first | exact sA | refine mB ?_ | refine vA rfl ?_),(xB _),(yB _),rfl,rfl⟩⟩
  ·try simp only [Zp,Zi,ZK,ZJ,ne_eq,Zn,Zm,ZB,ZA,ZI,not_or,not_and,Zu] at hc1
   refine oD ?_
   refine fD ?_
   refine fD ?_
   refine zE ?_
   refine jA ?_
   refine cA ?_
   refine gA hX hb [0] rfl (σ' := ?s10) (fun K hK => ?h10) ?n10
   case h10 =>
    (refine kA rfl (by simp (disch := omega) only [iA,aA,qop,fop,St.ev,St.put,cd,zd,Value.oneCell',lA,TypeDesc.aggB,Z0,nA,Zh] <;> exact rfl) ?_)
    refine bA ?_
    exact hK
   refine jA ?_
   refine bC ?_
   exact zC rfl (zB rfl (by first | rfl | (first | (refine jf ?_; rintro rfl; exact hc2 rfl) | (refine jf ?_; rintro rfl; exact hc0 rfl) | exact jt (vD hc0 he (by omega)))))
theorem c81 (a b : List Int) : ACalls Try.prog 81 [.p (mF a),.p (mF b)] (.p (bv (decide (a = b)))) := by
 refine wC oC Try.func81 (c := _) rfl (by kernel_rfl) ?_
 intro X hP hX hro hpl
 have hb : tb.Ok X.P := hP ▸ oC
 change AW X _ _ ⟨[],[.p (mF a),.p (mF b),.any,.any,.any,.any,.any,.any,.any,.any,.any,.any,.any,.any,.any,.any,.any,.any,.any,.any,.any,.any,.any,.any,.any,.any],[],[]⟩
 refine jI (t := 0) rfl fun hl => ?_
 unfold maxLen at hl
 refine cA ?_
 refine gA hX hb [0] rfl (σ' := ?s1) (fun K hK => ?h1) ?n1
 case h1 =>
  (refine kA rfl (by simp (disch := omega) only [iA,aA,qop,fop,St.ev,St.put,cd,zd,Value.oneCell',lA,TypeDesc.aggB,Z0,nA,Zh] <;> exact rfl) ?_)
  refine bA ?_
  exact hK
 refine jA ?_
 refine cA ?_
 refine cA ?_
 refine gA hX hb [0,1,2,3,4] rfl (σ' := ?s2) (fun K hK => ?h2) ?n2
 case h2 =>
  iterate 5 (refine kA rfl (by simp (disch := omega) only [iA,aA,qop,fop,St.ev,St.put,cd,zd,Value.oneCell',lA,TypeDesc.aggB,Z0,vC,cB,iop,tt,nA,Zh] <;> exact rfl) ?_)
  refine bA ?_
  exact hK
 refine jA ?_
 refine oB _ rfl (fun hc0 => ?_) (fun hc0 => ?_)
 ·try simp only [Zp,Zi,ZK,ZJ,ne_eq,Zn,Zm,ZB,ZA,ZI,not_or,not_and,Zu] at hc0
  refine cA ?_
  refine gA hX hb [0] rfl (σ' := ?s3) (fun K hK => ?h3) ?n3
  case h3 =>
   (refine kA rfl (by simp (disch := omega) only [iA,aA,qop,fop,St.ev,St.put,cd,zd,Value.oneCell',lA,TypeDesc.aggB,Z0,nA,Zh] <;> exact rfl) ?_)
   refine bA ?_
   exact hK
  refine jA ?_
  refine bC ?_
  refine tC ?_
  exact zC rfl (zB rfl (by first | rfl | (first | (refine jf ?_; rintro rfl; exact hc2 rfl) | (refine jf ?_; rintro rfl; exact hc0 rfl) | exact jt (vD hc0 he (by omega)))))
 ·try simp only [Zp,Zi,ZK,ZJ,ne_eq,Zn,Zm,ZB,ZA,ZI,not_or,not_and,Zu] at hc0
  refine uB ?_
  refine jA ?_
  refine cA ?_
  refine cA ?_
  refine gA hX hb [0,1,2] rfl (σ' := ?s4) (fun K hK => ?h4) ?n4
  case h4 =>
   iterate 3 (refine kA rfl (by simp (disch := omega) only [iA,aA,qop,fop,St.ev,St.put,cd,zd,Value.oneCell',lA,TypeDesc.aggB,Z0,vC,tt,nA,Zh] <;> exact rfl) ?_)
   refine bA ?_
   exact hK
  refine jA ?_
  refine tB ?_
  refine rD (ι := Nat) (fun i => i ≤ a.length ∧ a.take i = b.take i) (fun i => ⟨[],[.p (mF a),.p (mF b),.any,.any,.any,.any,.any,.any,.any,.any,.any,.any,.p (i64 (a.length : Int)),.p (i64 i),.any,.any,.any,.any,.any,.any,.any,.any,.any,.any,.any,.any],[],[]⟩) (fun i => a.length - i) 0 (by exact ⟨Nat.zero_le _,rfl⟩) (rC ⟨rfl,(by repeat first | exact sA | refine mB ?_ | refine vA rfl ?_),(xB _),(yB _),rfl,rfl⟩) ?_
  rintro i ⟨hi,he⟩
  refine cA ?_
  refine gA hX hb [0] rfl (σ' := ?s5) (fun K hK => ?h5) ?n5
  case h5 =>
   (refine kA rfl (by simp (disch := omega) only [iA,aA,qop,fop,St.ev,St.put,cd,zd,Value.oneCell',lA,TypeDesc.aggB,Z0,cB,iop,t3,ti3,nA,Zh] <;> exact rfl) ?_)
   refine bA ?_
   exact hK
  refine jA ?_
  refine cA ?_
  refine oB _ rfl (fun hc1 => ?_) (fun hc1 => ?_)
  ·try simp only [Zp,Zi,ZK,ZJ,ne_eq,Zn,Zm,ZB,ZA,ZI,not_or,not_and,Zu] at hc1
   refine uB ?_
   refine jA ?_
   refine cA ?_
   refine tB ?_
   refine cA ?_
   refine gA hX hb [0,1] rfl (σ' := ?s6) (fun K hK => ?h6) ?n6
   case h6 =>
    iterate 2 (refine kA rfl (by simp (disch := omega) only [iA,aA,qop,fop,St.ev,St.put,cd,zd,Value.oneCell',lA,TypeDesc.aggB,Z0,nA,Zh] <;> exact rfl) ?_)
    refine bA ?_
    exact hK
   refine jA ?_
   refine cA ?_
   refine dF hX hb (jD hP) [(0,true),(1,true),(2,true),(3,true),(4,true),(5,true),(6,true),(7,true),(8,true)] (by kernel_rfl) (σ' := ?s7) (fun K hK => ?h7) ?n7
   case h7 =>
    iterate 9 (refine eF rfl (by simp (disch := omega) only [qop,fop,St.ev,St.put,cd,zd,Value.oneCell',lA,TypeDesc.aggB,Z0,Int.toNat_zero,Int.toNat_one,xA,yA,wA,ZO,Nat.mul_one,ZC,Nat.zero_mul,Zh,Z1,pA,qA,tA,eA,D.pure?,ZD,cB,iop,tt,nA] <;> exact rfl) (by simp only [St.put,Za,Zb] <;> exact rfl) ?_)
    refine xC ?_
    exact hK
   refine jA ?_
   refine oB _ rfl (fun hc2 => ?_) (fun hc2 => ?_)
   ·try simp only [Zp,Zi,ZK,ZJ,ne_eq,Zn,Zm,ZB,ZA,ZI,not_or,not_and,Zu] at hc2
    refine cA ?_
    refine gA hX hb [0] rfl (σ' := ?s8) (fun K hK => ?h8) ?n8
    case h8 =>
     (refine kA rfl (by simp (disch := omega) only [iA,aA,qop,fop,St.ev,St.put,cd,zd,Value.oneCell',lA,TypeDesc.aggB,Z0,nA,Zh] <;> exact rfl) ?_)
     refine bA ?_
     exact hK
    refine jA ?_
    refine bC ?_
    refine xE ?_
    refine tC ?_
    refine tC ?_
    refine xE ?_
    refine tC ?_
    exact zC rfl (zB rfl (by first | rfl | (first | (refine jf ?_; rintro rfl; exact hc2 rfl) | (refine jf ?_; rintro rfl; exact hc0 rfl) | exact jt (vD hc0 he (by omega)))))
   ·try simp only [Zp,Zi,ZK,ZJ,ne_eq,Zn,Zm,ZB,ZA,ZI,not_or,not_and,Zu] at hc2
    refine uB ?_
    refine cE ?_
    refine jA ?_
    refine gA hX hb [0,1] rfl (σ' := ?s9) (fun K hK => ?h9) ?n9
    case h9 =>
     iterate 2 (refine kA rfl (by simp (disch := omega) only [iA,aA,qop,fop,St.ev,St.put,cd,zd,Value.oneCell',lA,TypeDesc.aggB,Z0,cB,iop,tt,nA,Zh] <;> exact rfl) ?_)
     refine bA ?_
     exact hK
    refine jA ?_
    exact ⟨i + 1,by exact ⟨by omega,by rw [gE a i (by omega),gE b i (by omega),he,hc2]⟩,by (try dsimp only); omega,rC ⟨rfl,(by repeat first | exact sA | refine mB ?_ | refine vA rfl ?_),(xB _),(yB _),rfl,rfl⟩⟩
  ·try simp only [Zp,Zi,ZK,ZJ,ne_eq,Zn,Zm,ZB,ZA,ZI,not_or,not_and,Zu] at hc1
   refine oD ?_
   refine fD ?_
   refine fD ?_
   refine zE ?_
   refine jA ?_
   refine cA ?_
   refine gA hX hb [0] rfl (σ' := ?s10) (fun K hK => ?h10) ?n10
   case h10 =>
    (refine kA rfl (by simp (disch := omega) only [iA,aA,qop,fop,St.ev,St.put,cd,zd,Value.oneCell',lA,TypeDesc.aggB,Z0,nA,Zh] <;> exact rfl) ?_)
    refine bA ?_
    exact hK
   refine jA ?_
   refine bC ?_
   exact zC rfl (zB rfl (by first | rfl | (first | (refine jf ?_; rintro rfl; exact hc2 rfl) | (refine jf ?_; rintro rfl; exact hc0 rfl) | exact jt (vD hc0 he (by omega)))))
theorem nMA (a b : List Int) : ACalls Try.prog 115 [.p (bytes a),.p (bytes b)] (.p (bv (decide (a = b)))) := by
 refine wC oC Try.func115 (c := _) rfl (by kernel_rfl) ?_
 intro X hP hX hro hpl
 have hb : tb.Ok X.P := hP ▸ oC
 change AW X _ _ ⟨[],[.p (bytes a),.p (bytes b),.any,.any,.any,.any,.any,.any,.any,.any,.any,.any,.any,.any,.any,.any,.any,.any,.any,.any,.any,.any,.any,.any,.any,.any],[],[]⟩
 refine jI (t := 0) rfl fun hl => ?_
 unfold maxLen at hl
 refine cA ?_
 refine gA hX hb [0] rfl (σ' := ?s1) (fun K hK => ?h1) ?n1
 case h1 =>
  (refine kA rfl (by simp (disch := omega) only [iA,aA,qop,fop,St.ev,St.put,cd,zd,Value.oneCell',lA,TypeDesc.aggB,Z0,nA,Zh] <;> exact rfl) ?_)
  refine bA ?_
  exact hK
 refine jA ?_
 refine cA ?_
 refine cA ?_
 refine gA hX hb [0,1,2,3,4] rfl (σ' := ?s2) (fun K hK => ?h2) ?n2
 case h2 =>
  iterate 5 (refine kA rfl (by simp (disch := omega) only [iA,aA,qop,fop,St.ev,St.put,cd,zd,Value.oneCell',lA,TypeDesc.aggB,Z0,vC,cB,iop,tt,nA,Zh] <;> exact rfl) ?_)
  refine bA ?_
  exact hK
 refine jA ?_
 refine oB _ rfl (fun hc0 => ?_) (fun hc0 => ?_)
 ·try simp only [Zp,Zi,ZK,ZJ,ne_eq,Zn,Zm,ZB,ZA,ZI,not_or,not_and,Zu] at hc0
  refine cA ?_
  refine gA hX hb [0] rfl (σ' := ?s3) (fun K hK => ?h3) ?n3
  case h3 =>
   (refine kA rfl (by simp (disch := omega) only [iA,aA,qop,fop,St.ev,St.put,cd,zd,Value.oneCell',lA,TypeDesc.aggB,Z0,nA,Zh] <;> exact rfl) ?_)
   refine bA ?_
   exact hK
  refine jA ?_
  refine bC ?_
  refine tC ?_
  exact zC rfl (zB rfl (by first | rfl | (first | (refine jf ?_; rintro rfl; exact hc2 rfl) | (refine jf ?_; rintro rfl; exact hc0 rfl) | exact jt (vD hc0 he (by omega)))))
 ·try simp only [Zp,Zi,ZK,ZJ,ne_eq,Zn,Zm,ZB,ZA,ZI,not_or,not_and,Zu] at hc0
  refine uB ?_
  refine jA ?_
  refine cA ?_
  refine cA ?_
  refine gA hX hb [0,1,2] rfl (σ' := ?s4) (fun K hK => ?h4) ?n4
  case h4 =>
   iterate 3 (refine kA rfl (by simp (disch := omega) only [iA,aA,qop,fop,St.ev,St.put,cd,zd,Value.oneCell',lA,TypeDesc.aggB,Z0,vC,tt,nA,Zh] <;> exact rfl) ?_)
   refine bA ?_
   exact hK
  refine jA ?_
  refine tB ?_
  refine rD (ι := Nat) (fun i => i ≤ a.length ∧ a.take i = b.take i) (fun i => ⟨[],[.p (bytes a),.p (bytes b),.any,.any,.any,.any,.any,.any,.any,.any,.any,.any,.p (i64 (a.length : Int)),.p (i64 i),.any,.any,.any,.any,.any,.any,.any,.any,.any,.any,.any,.any],[],[]⟩) (fun i => a.length - i) 0 (by exact ⟨Nat.zero_le _,rfl⟩) (rC ⟨rfl,(by repeat first | exact sA | refine mB ?_ | refine vA rfl ?_),(xB _),(yB _),rfl,rfl⟩) ?_
  rintro i ⟨hi,he⟩
  refine cA ?_
  refine gA hX hb [0] rfl (σ' := ?s5) (fun K hK => ?h5) ?n5
  case h5 =>
   (refine kA rfl (by simp (disch := omega) only [iA,aA,qop,fop,St.ev,St.put,cd,zd,Value.oneCell',lA,TypeDesc.aggB,Z0,cB,iop,t3,ti3,nA,Zh] <;> exact rfl) ?_)
   refine bA ?_
   exact hK
  refine jA ?_
  refine cA ?_
  refine oB _ rfl (fun hc1 => ?_) (fun hc1 => ?_)
  ·try simp only [Zp,Zi,ZK,ZJ,ne_eq,Zn,Zm,ZB,ZA,ZI,not_or,not_and,Zu] at hc1
   refine uB ?_
   refine jA ?_
   refine cA ?_
   refine tB ?_
   refine cA ?_
   refine gA hX hb [0,1] rfl (σ' := ?s6) (fun K hK => ?h6) ?n6
   case h6 =>
    iterate 2 (refine kA rfl (by simp (disch := omega) only [iA,aA,qop,fop,St.ev,St.put,cd,zd,Value.oneCell',lA,TypeDesc.aggB,Z0,nA,Zh] <;> exact rfl) ?_)
    refine bA ?_
    exact hK
   refine jA ?_
   refine cA ?_
   refine dF hX hb (jD hP) [(0,true),(1,true),(2,true),(3,true),(4,true),(5,true),(6,true),(7,true),(8,true)] (by kernel_rfl) (σ' := ?s7) (fun K hK => ?h7) ?n7
   case h7 =>
    iterate 9 (refine eF rfl (by simp (disch := omega) only [qop,fop,St.ev,St.put,cd,zd,Value.oneCell',lA,TypeDesc.aggB,Z0,Int.toNat_zero,Int.toNat_one,xA,yA,wA,ZO,Nat.mul_one,ZC,Nat.zero_mul,Zh,Z1,pA,qA,tA,eA,D.pure?,ZD,cB,iop,tt,nA] <;> exact rfl) (by simp only [St.put,Za,Zb] <;> exact rfl) ?_)
    refine xC ?_
    exact hK
   refine jA ?_
   refine oB _ rfl (fun hc2 => ?_) (fun hc2 => ?_)
   ·try simp only [Zp,Zi,ZK,ZJ,ne_eq,Zn,Zm,ZB,ZA,ZI,not_or,not_and,Zu] at hc2
    refine cA ?_
    refine gA hX hb [0] rfl (σ' := ?s8) (fun K hK => ?h8) ?n8
    case h8 =>
     (refine kA rfl (by simp (disch := omega) only [iA,aA,qop,fop,St.ev,St.put,cd,zd,Value.oneCell',lA,TypeDesc.aggB,Z0,nA,Zh] <;> exact rfl) ?_)
     refine bA ?_
     exact hK
    refine jA ?_
    refine bC ?_
    refine xE ?_
    refine tC ?_
    refine tC ?_
    refine xE ?_
    refine tC ?_
    exact zC rfl (zB rfl (by first | rfl | (first | (refine jf ?_; rintro rfl; exact hc2 rfl) | (refine jf ?_; rintro rfl; exact hc0 rfl) | exact jt (vD hc0 he (by omega)))))
   ·try simp only [Zp,Zi,ZK,ZJ,ne_eq,Zn,Zm,ZB,ZA,ZI,not_or,not_and,Zu] at hc2
    refine uB ?_
    refine cE ?_
    refine jA ?_
    refine gA hX hb [0,1] rfl (σ' := ?s9) (fun K hK => ?h9) ?n9
    case h9 =>
     iterate 2 (refine kA rfl (by simp (disch := omega) only [iA,aA,qop,fop,St.ev,St.put,cd,zd,Value.oneCell',lA,TypeDesc.aggB,Z0,cB,iop,tt,nA,Zh] <;> exact rfl) ?_)
     refine bA ?_
     exact hK
    refine jA ?_
    exact ⟨i + 1,by exact ⟨by omega,by rw [gE a i (by omega),gE b i (by omega),he,hc2]⟩,by (try dsimp only); omega,rC ⟨rfl,(by repeat first | exact sA | refine mB ?_ | refine vA rfl ?_),(xB _),(yB _),rfl,rfl⟩⟩
  ·try simp only [Zp,Zi,ZK,ZJ,ne_eq,Zn,Zm,ZB,ZA,ZI,not_or,not_and,Zu] at hc1
   refine oD ?_
   refine fD ?_
   refine fD ?_
   refine zE ?_
   refine jA ?_
   refine cA ?_
   refine gA hX hb [0] rfl (σ' := ?s10) (fun K hK => ?h10) ?n10
   case h10 =>
    (refine kA rfl (by simp (disch := omega) only [iA,aA,qop,fop,St.ev,St.put,cd,zd,Value.oneCell',lA,TypeDesc.aggB,Z0,nA,Zh] <;> exact rfl) ?_)
    refine bA ?_
    exact hK
   refine jA ?_
   refine bC ?_
   exact zC rfl (zB rfl (by first | rfl | (first | (refine jf ?_; rintro rfl; exact hc2 rfl) | (refine jf ?_; rintro rfl; exact hc0 rfl) | exact jt (vD hc0 he (by omega)))))
end Go.Proofs.Ytldcoekbgfaomaa
end
section
namespace Go.Proofs.Ytldcoekbgfaomaa
open Go.RowKit
set_option maxRecDepth 20000
set_option maxHeartbeats 4000000
attribute [local irreducible] kE sD AW
theorem yF (x y : Int) : IntCells .i64 2 [i64 x,i64 y] = True := eq_true ⟨rfl,by intro z hz; simp at hz; rcases hz with rfl | rfl <;> exact ⟨_,rfl⟩⟩
theorem hDA {e e' : Int × Int} : ([i64 e.1,i64 e.2] : List P1) = [i64 e'.1,i64 e'.2] ↔ e = e' := by
 constructor
 ·intro h
  simp only [List.cons.injEq,P1.v.injEq,Value.int.injEq,Zs,Zt] at h
  exact Prod.ext h.1 h.2
 ·rintro rfl; rfl
theorem c29 (a b : List (Int × Int)) : ACalls Try.prog 29 [.p (gD a),.p (gD b)] (.p (bv (decide (a = b)))) := by
 refine wC oC Try.func29 (c := _) rfl (by kernel_rfl) ?_
 intro X hP hX hro hpl
 have hb : tb.Ok X.P := hP ▸ oC
 change AW X _ _ ⟨[],[.p (gD a),.p (gD b),.any,.any,.any,.any,.any,.any,.any,.any,.any,.any,.any,.any,.any,.any,.any,.any,.any,.any,.any,.any,.any,.any,.any,.any],[],[]⟩
 refine jI (t := 0) rfl fun hl => ?_
 unfold maxLen at hl
 refine cA ?_
 refine gA hX hb [0] rfl (σ' := ?s1) (fun K hK => ?h1) ?n1
 case h1 =>
  (refine kA rfl (by simp (disch := omega) only [iA,aA,qop,fop,St.ev,St.put,cd,zd,Value.oneCell',lA,TypeDesc.aggB,Z0,dD,kF,e35,yF,and_self] <;> exact rfl) ?_)
  refine bA ?_
  exact hK
 refine jA ?_
 refine cA ?_
 refine cA ?_
 refine gA hX hb [0,1,2,3,4] rfl (σ' := ?s2) (fun K hK => ?h2) ?n2
 case h2 =>
  iterate 5 (refine kA rfl (by simp (disch := omega) only [iA,aA,qop,fop,St.ev,St.put,cd,zd,Value.oneCell',lA,TypeDesc.aggB,Z0,vC,cB,iop,tt,dD,kF,e35,yF,and_self] <;> exact rfl) ?_)
  refine bA ?_
  exact hK
 refine jA ?_
 refine oB _ rfl (fun hc0 => ?_) (fun hc0 => ?_)
 ·try simp only [Zp,Zi,ZK,ZJ,ne_eq,Zn,Zm,ZB,ZA,ZI,not_or,not_and,Zu] at hc0
  refine cA ?_
  refine gA hX hb [0] rfl (σ' := ?s3) (fun K hK => ?h3) ?n3
  case h3 =>
   (refine kA rfl (by simp (disch := omega) only [iA,aA,qop,fop,St.ev,St.put,cd,zd,Value.oneCell',lA,TypeDesc.aggB,Z0,dD,kF,e35,yF,and_self] <;> exact rfl) ?_)
   refine bA ?_
   exact hK
  refine jA ?_
  refine bC ?_
  refine tC ?_
  exact zC rfl (zB rfl (by first | rfl | (first | (refine jf ?_; rintro rfl; exact hc2 rfl) | (refine jf ?_; rintro rfl; exact hc0 rfl) | exact jt (vD hc0 he (by omega)))))
 ·try simp only [Zp,Zi,ZK,ZJ,ne_eq,Zn,Zm,ZB,ZA,ZI,not_or,not_and,Zu] at hc0
  refine uB ?_
  refine jA ?_
  refine cA ?_
  refine cA ?_
  refine gA hX hb [0,1,2] rfl (σ' := ?s4) (fun K hK => ?h4) ?n4
  case h4 =>
   iterate 3 (refine kA rfl (by simp (disch := omega) only [iA,aA,qop,fop,St.ev,St.put,cd,zd,Value.oneCell',lA,TypeDesc.aggB,Z0,vC,tt,dD,kF,e35,yF,and_self] <;> exact rfl) ?_)
   refine bA ?_
   exact hK
  refine jA ?_
  refine tB ?_
  refine rD (ι := Nat) (fun i => i ≤ a.length ∧ a.take i = b.take i) (fun i => ⟨[],[.p (gD a),.p (gD b),.any,.any,.any,.any,.any,.any,.any,.any,.any,.any,.p (i64 (a.length : Int)),.p (i64 i),.any,.any,.any,.any,.any,.any,.any,.any,.any,.any,.any,.any],[],[]⟩) (fun i => a.length - i) 0 (by exact ⟨Nat.zero_le _,rfl⟩) (rC ⟨rfl,(by repeat first | exact sA | refine mB ?_ | refine vA rfl ?_),(xB _),(yB _),rfl,rfl⟩) ?_
  rintro i ⟨hi,he⟩
  refine cA ?_
  refine gA hX hb [0] rfl (σ' := ?s5) (fun K hK => ?h5) ?n5
  case h5 =>
   (refine kA rfl (by simp (disch := omega) only [iA,aA,qop,fop,St.ev,St.put,cd,zd,Value.oneCell',lA,TypeDesc.aggB,Z0,cB,iop,t3,ti3,dD,kF,e35,yF,and_self] <;> exact rfl) ?_)
   refine bA ?_
   exact hK
  refine jA ?_
  refine cA ?_
  refine oB _ rfl (fun hc1 => ?_) (fun hc1 => ?_)
  ·try simp only [Zp,Zi,ZK,ZJ,ne_eq,Zn,Zm,ZB,ZA,ZI,not_or,not_and,Zu] at hc1
   refine uB ?_
   refine jA ?_
   refine cA ?_
   refine tB ?_
   refine cA ?_
   refine gA hX hb [0,1] rfl (σ' := ?s6) (fun K hK => ?h6) ?n6
   case h6 =>
    iterate 2 (refine kA rfl (by simp (disch := omega) only [iA,aA,qop,fop,St.ev,St.put,cd,zd,Value.oneCell',lA,TypeDesc.aggB,Z0,dD,kF,e35,yF,and_self] <;> exact rfl) ?_)
    refine bA ?_
    exact hK
   refine jA ?_
   refine cA ?_
   refine dF hX hb (jD hP) [(0,true),(1,true),(2,true),(3,true),(4,true),(5,true),(6,true),(7,true),(8,true)] (by kernel_rfl) (σ' := ?s7) (fun K hK => ?h7) ?n7
   case h7 =>
    iterate 9 (refine eF rfl (by simp (disch := omega) only [qop,fop,St.ev,St.put,cd,zd,Value.oneCell',lA,TypeDesc.aggB,Z0,Int.toNat_zero,Int.toNat_one,xA,yA,wA,ZO,Nat.mul_one,ZC,Nat.zero_mul,Zh,Z1,pA,qA,tA,eA,D.pure?,ZD,cB,iop,tt,dD,kF,e35,yF,and_self] <;> exact rfl) (by simp only [St.put,Za,Zb] <;> exact rfl) ?_)
    refine xC ?_
    exact hK
   refine jA ?_
   refine oB _ rfl (fun hc2 => ?_) (fun hc2 => ?_)
   ·try simp only [Zp,Zi,ZK,ZJ,ne_eq,Zn,Zm,ZB,ZA,ZI,not_or,not_and,Zu,hDA] at hc2
    refine cA ?_
    refine gA hX hb [0] rfl (σ' := ?s8) (fun K hK => ?h8) ?n8
    case h8 =>
     (refine kA rfl (by simp (disch := omega) only [iA,aA,qop,fop,St.ev,St.put,cd,zd,Value.oneCell',lA,TypeDesc.aggB,Z0,dD,kF,e35,yF,and_self] <;> exact rfl) ?_)
     refine bA ?_
     exact hK
    refine jA ?_
    refine bC ?_
    refine xE ?_
    refine tC ?_
    refine tC ?_
    refine xE ?_
    refine tC ?_
    exact zC rfl (zB rfl (by first | rfl | (first | (refine jf ?_; rintro rfl; exact hc2 rfl) | (refine jf ?_; rintro rfl; exact hc0 rfl) | exact jt (vD hc0 he (by omega)))))
   ·try simp only [Zp,Zi,ZK,ZJ,ne_eq,Zn,Zm,ZB,ZA,ZI,not_or,not_and,Zu,hDA] at hc2
    refine uB ?_
    refine cE ?_
    refine jA ?_
    refine gA hX hb [0,1] rfl (σ' := ?s9) (fun K hK => ?h9) ?n9
    case h9 =>
     iterate 2 (refine kA rfl (by simp (disch := omega) only [iA,aA,qop,fop,St.ev,St.put,cd,zd,Value.oneCell',lA,TypeDesc.aggB,Z0,cB,iop,tt,dD,kF,e35,yF,and_self] <;> exact rfl) ?_)
     refine bA ?_
     exact hK
    refine jA ?_
    exact ⟨i + 1,by exact ⟨by omega,by rw [uF a i (by omega),uF b i (by omega),he,hc2]⟩,by (try dsimp only); omega,rC ⟨rfl,(by repeat first | exact sA | refine mB ?_ | refine vA rfl ?_),(xB _),(yB _),rfl,rfl⟩⟩
  ·try simp only [Zp,Zi,ZK,ZJ,ne_eq,Zn,Zm,ZB,ZA,ZI,not_or,not_and,Zu] at hc1
   refine oD ?_
   refine fD ?_
   refine fD ?_
   refine zE ?_
   refine jA ?_
   refine cA ?_
   refine gA hX hb [0] rfl (σ' := ?s10) (fun K hK => ?h10) ?n10
   case h10 =>
    (refine kA rfl (by simp (disch := omega) only [iA,aA,qop,fop,St.ev,St.put,cd,zd,Value.oneCell',lA,TypeDesc.aggB,Z0,dD,kF,e35,yF,and_self] <;> exact rfl) ?_)
    refine bA ?_
    exact hK
   refine jA ?_
   refine bC ?_
   exact zC rfl (zB rfl (by first | rfl | (first | (refine jf ?_; rintro rfl; exact hc2 rfl) | (refine jf ?_; rintro rfl; exact hc0 rfl) | exact jt (vD hc0 he (by omega)))))
end Go.Proofs.Ytldcoekbgfaomaa
end
section
namespace Go.Proofs.Ytldcoekbgfaomaa
open Go.RowKit
set_option maxRecDepth 20000
set_option maxHeartbeats 4000000
attribute [local irreducible] kE sD AW
theorem oMA (h79 : ∀ a b : Int,ACalls Try.prog 79 [.p (u64 a),.p (u64 b)] (.p (u64 (jG a b)))) (l : List Int) (hl : l.length ≤ 4294967296) : ACallsO Try.prog 106 [.p (gH l),.p (.v (.func (.func 79) #[] #[]))] ⟨58,1,(upL l).length,(upL l).map u64⟩ := by
 refine wH Try.func106 (c := _) rfl (by kernel_rfl) (t := 4) rfl ?_
 intro X hP hX hro hpl
 have hb : tb.Ok X.P := hP ▸ oC
 change AW X _ _ ⟨[],[.p (gH l),.p (.v (.func (.func 79) #[] #[])),.any,.any,.any,.any,.any,.any,.any,.any,.any,.any,.any,.any,.any,.any,.any,.any,.any,.any,.any,.any,.any,.any,.any,.any,.any,.any,.any,.any,.any,.any,.any,.any,.any,.any,.any,.any,.any,.any],[],[]⟩
 refine cA ?_
 refine gA hX hb [0] rfl (σ' := ?s1) (fun K hK => ?h1) ?n1
 case h1 =>
  (refine kA rfl (by simp (disch := omega) only [iA,aA,qop,fop,St.ev,St.put,cd,zd,Value.oneCell',lA,TypeDesc.aggB,Z0,nA,Zh] <;> exact rfl) ?_)
  refine bA ?_
  exact hK
 refine jA ?_
 refine cA ?_
 refine gA hX hb [0] rfl (σ' := ?s2) (fun K hK => ?h2) ?n2
 case h2 =>
  (refine kA rfl (by simp (disch := omega) only [iA,aA,qop,fop,St.ev,St.put,cd,zd,Value.oneCell',lA,TypeDesc.aggB,Z0,nA,Zh] <;> exact rfl) ?_)
  refine bA ?_
  exact hK
 refine jA ?_
 refine nJ 5 58 1 rfl (σ' := ?s3) ?h3 ?n3
 case h3 => simp only [St.nilSlot,St.addVec,Za,Zb,Zl,Zo,ZL,ZM]; exact rfl
 refine cA ?_
 refine cA ?_
 refine gA hX hb [0] rfl (σ' := ?s4) (fun K hK => ?h4) ?n4
 case h4 =>
  (refine kA rfl (by simp (disch := omega) only [iA,aA,qop,fop,St.ev,St.put,cd,zd,Value.oneCell',lA,TypeDesc.aggB,Z0,nA,Zh] <;> exact rfl) ?_)
  refine bA ?_
  exact hK
 refine jA ?_
 refine tB ?_
 refine rD (ι := Nat × List Int) (fun p => p.1 % 2 = 0 ∧ p.1 ≤ l.length + 1 ∧ p.2 = upL (l.take p.1)) (fun p => ⟨[],[.p (gH l),.p (.v (.func (.func 79) #[] #[])),.any,.any,.any,.vref 0,.p (i64 p.1),.any,.any,.any,.any,.any,.any,.any,.any,.any,.any,.any,.any,.any,.any,.any,.any,.any,.any,.any,.any,.any,.any,.any,.any,.any,.any,.any,.any,.any,.any,.any,.any,.any],[],[some ⟨58,1,p.2.length,p.2.map u64⟩]⟩) (fun p => l.length + 1 - p.1) (0,[]) (by exact ⟨rfl,Nat.zero_le _,rfl⟩) (rC ⟨rfl,(by repeat first | exact sA | refine mB ?_ | refine vA (by first | rfl | ((first | rw [pG l i h2 (by omega),← ho] | rw [qG l i h2 (by omega) (by omega),← ho]) <;> simp)) ?_),(xB _),(jE (by first | rfl | ((first | rw [pG l i h2 (by omega),← ho] | rw [qG l i h2 (by omega) (by omega),← ho]) <;> simp)) (yB _)),rfl,rfl⟩) ?_
 rintro ⟨i,o⟩ ⟨h2,hi,ho⟩
 dsimp only at h2 hi ho ⊢
 have hol : o.length ≤ l.length := by rw [ho,pF,List.length_take]; omega
 have ei : ((i : Int) + 1).toNat = i + 1 := by omega
 refine cA ?_
 refine cA ?_
 refine gA hX hb [0,1,2,3] rfl (σ' := ?s5) (fun K hK => ?h5) ?n5
 case h5 =>
  iterate 4 (refine kA rfl (by simp (disch := omega) only [iA,aA,qop,fop,St.ev,St.put,cd,zd,Value.oneCell',lA,TypeDesc.aggB,Z0,vC,cB,iop,tt,nA,Zh] <;> exact rfl) ?_)
  refine bA ?_
  exact hK
 refine jA ?_
 refine oB _ rfl (fun hc0 => ?_) (fun hc0 => ?_)
 ·try simp only [Zp,Zi,ZK,ZJ,ne_eq,Zn,Zm,ZB,ZA,ZI,not_or,not_and,Zu] at hc0
  refine uB ?_
  refine jA ?_
  refine cA ?_
  refine tB ?_
  refine cA ?_
  refine gA hX hb [0,1,2,3,4] rfl (σ' := ?s6) (fun K hK => ?h6) ?n6
  case h6 =>
   iterate 5 (refine kA rfl (by simp (disch := omega) only [iA,aA,qop,fop,St.ev,St.put,cd,zd,Value.oneCell',lA,TypeDesc.aggB,Z0,cB,iop,vC,tt,nA,Zh] <;> exact rfl) ?_)
   refine bA ?_
   exact hK
  refine jA ?_
  refine oB _ rfl (fun hc1 => ?_) (fun hc1 => ?_)
  ·try simp only [Zp,Zi,ZK,ZJ,ne_eq,Zn,Zm,ZB,ZA,ZI,not_or,not_and,Zu] at hc1
   refine dF hX hb (jD hP) [(0,true),(1,true),(2,true),(3,true),(4,true),(5,true),(6,true),(7,true),(8,true),(9,true),(10,true),(11,false),(12,false),(13,false),(14,true)] (by kernel_rfl) (σ' := ?s7) (fun K hK => ?h7) ?n7
   case h7 =>
    iterate 11 (refine eF rfl (by simp (disch := omega) only [qop,fop,St.ev,St.put,cd,zd,Value.oneCell',lA,TypeDesc.aggB,Z0,Int.toNat_zero,Int.toNat_one,xA,yA,wA,ZO,Nat.mul_one,ZC,Nat.zero_mul,Zh,Z1,pA,qA,tA,eA,D.pure?,ZD,cB,iop,uA,D.pv?,zD,aD,bD,bE,bB,rB,D.cells?,fB,gB,iB,jB,kB,ZG,ZH,ZL,ZM,ZN,aB,Nat.reduceAdd,Nat.reduceMul,nD,cG,St.demote,D.demote,St.setVec,List.length_append,reduceIte,tt,nA,ei] <;> exact rfl) (by simp only [St.put,Za,Zb] <;> exact rfl) ?_)
    refine eH rfl (by simp only [aA,St.ev,pB,qB,uA,D.pv?,ZG,ZH,zd,cd,Value.oneCell',Zr] <;> exact rfl) (acK hP (h79 _ _)) (by simp only [St.put,Za,Zb] <;> exact rfl) ?_
    iterate 2 (refine rG rfl (by simp (disch := omega) only [iA,aA,qop,fop,St.ev,St.put,cd,zd,Value.oneCell',lA,TypeDesc.aggB,Z0,Int.toNat_zero,Int.toNat_one,xA,yA,wA,ZO,Nat.mul_one,ZC,Nat.zero_mul,Zh,Z1,pA,qA,tA,eA,D.pure?,ZD,cB,iop,uA,D.pv?,zD,aD,bD,bE,bB,rB,D.cells?,fB,gB,iB,jB,kB,ZG,ZH,ZL,ZM,ZN,aB,Nat.reduceAdd,Nat.reduceMul,nD,cG,St.demote,D.demote,St.setVec,List.length_append,reduceIte,tt,nA,ei] <;> exact rfl) ?_)
    (refine eF rfl (by simp (disch := omega) only [qop,fop,St.ev,St.put,cd,zd,Value.oneCell',lA,TypeDesc.aggB,Z0,Int.toNat_zero,Int.toNat_one,xA,yA,wA,ZO,Nat.mul_one,ZC,Nat.zero_mul,Zh,Z1,pA,qA,tA,eA,D.pure?,ZD,cB,iop,uA,D.pv?,zD,aD,bD,bE,bB,rB,D.cells?,fB,gB,iB,jB,kB,ZG,ZH,ZL,ZM,ZN,aB,Nat.reduceAdd,Nat.reduceMul,nD,cG,St.demote,D.demote,St.setVec,List.length_append,reduceIte,tt,nA,ei] <;> exact rfl) (by simp only [St.put,Za,Zb] <;> exact rfl) ?_)
    refine xC ?_
    exact hK
   refine cE ?_
   refine jA ?_
   refine gA hX hb [0,1,2] rfl (σ' := ?s8) (fun K hK => ?h8) ?n8
   case h8 =>
    iterate 3 (refine kA rfl (by simp (disch := omega) only [iA,aA,qop,fop,St.ev,St.put,cd,zd,Value.oneCell',lA,TypeDesc.aggB,Z0,cB,iop,tt,nA,Zh] <;> exact rfl) ?_)
    refine bA ?_
    exact hK
   refine jA ?_
   exact ⟨(i + 2,upL (l.take (i + 2))),by exact ⟨by dsimp only; omega,by dsimp only; omega,rfl⟩,by (try dsimp only); omega,rC ⟨rfl,(by repeat first | exact sA | refine mB ?_ | refine vA (by first | rfl | ((first | rw [pG l i h2 (by omega),← ho] | rw [qG l i h2 (by omega) (by omega),← ho]) <;> simp)) ?_),(xB _),(jE (by first | rfl | ((first | rw [pG l i h2 (by omega),← ho] | rw [qG l i h2 (by omega) (by omega),← ho]) <;> simp)) (yB _)),rfl,rfl⟩⟩
  ·try simp only [Zp,Zi,ZK,ZJ,ne_eq,Zn,Zm,ZB,ZA,ZI,not_or,not_and,Zu] at hc1
   refine gA hX hb [0,1,2,3,4,5,6,7] rfl (σ' := ?s9) (fun K hK => ?h9) ?n9
   case h9 =>
    iterate 8 (refine kA rfl (by simp (disch := omega) only [iA,aA,qop,fop,St.ev,St.put,cd,zd,Value.oneCell',lA,TypeDesc.aggB,Z0,Int.toNat_zero,Int.toNat_one,xA,yA,wA,ZO,Nat.mul_one,ZC,Nat.zero_mul,Zh,Z1,pA,qA,tA,eA,D.pure?,ZD,zD,aD,bD,bE,bB,rB,D.cells?,fB,gB,iB,jB,kB,ZG,ZH,ZL,ZM,ZN,aB,Nat.reduceAdd,Nat.reduceMul,nD,cG,St.demote,D.demote,St.setVec,List.length_append,reduceIte,tt,nA] <;> exact rfl) ?_)
    refine bA ?_
    exact hK
   refine cE ?_
   refine jA ?_
   refine gA hX hb [0,1,2] rfl (σ' := ?s10) (fun K hK => ?h10) ?n10
   case h10 =>
    iterate 3 (refine kA rfl (by simp (disch := omega) only [iA,aA,qop,fop,St.ev,St.put,cd,zd,Value.oneCell',lA,TypeDesc.aggB,Z0,cB,iop,tt,nA,Zh] <;> exact rfl) ?_)
    refine bA ?_
    exact hK
   refine jA ?_
   exact ⟨(i + 2,upL (l.take (i + 2))),by exact ⟨by dsimp only; omega,by dsimp only; omega,rfl⟩,by (try dsimp only); omega,rC ⟨rfl,(by repeat first | exact sA | refine mB ?_ | refine vA (by first | rfl | ((first | rw [pG l i h2 (by omega),← ho] | rw [qG l i h2 (by omega) (by omega),← ho]) <;> simp)) ?_),(xB _),(jE (by first | rfl | ((first | rw [pG l i h2 (by omega),← ho] | rw [qG l i h2 (by omega) (by omega),← ho]) <;> simp)) (yB _)),rfl,rfl⟩⟩
 ·try simp only [Zp,Zi,ZK,ZJ,ne_eq,Zn,Zm,ZB,ZA,ZI,not_or,not_and,Zu] at hc0
  refine oD ?_
  refine fD ?_
  refine fD ?_
  refine zE ?_
  refine jA ?_
  refine cA ?_
  refine gA hX hb [0,1] rfl (σ' := ?s11) (fun K hK => ?h11) ?n11
  case h11 =>
   iterate 2 (refine kA rfl (by simp (disch := omega) only [iA,aA,qop,fop,St.ev,St.put,cd,zd,Value.oneCell',lA,TypeDesc.aggB,Z0,t5,ti5,nA,Zh] <;> exact rfl) ?_)
   refine bA ?_
   exact hK
  refine jA ?_
  refine bC ?_
  exact eK 0 rfl rfl (by first | rfl | (rw [ho,List.take_of_length_le (by omega)]; rfl))
end Go.Proofs.Ytldcoekbgfaomaa
end
section
namespace Go.Proofs.Ytldcoekbgfaomaa
open Go.RowKit
set_option maxRecDepth 20000
set_option maxHeartbeats 4000000
attribute [local irreducible] kE sD AW
theorem c77 (a b : List (List Int)) : ACalls Try.prog 77 [.p (iE a),.p (iE b),.p (.v (.func (.func 40) #[] #[]))] (.p (bv (decide (a = b)))) := by
 refine wC oC Try.func77 (c := _) rfl (by kernel_rfl) ?_
 intro X hP hX hro hpl
 have hb : tb.Ok X.P := hP ▸ oC
 change AW X _ _ ⟨[],[.p (iE a),.p (iE b),.p (.v (.func (.func 40) #[] #[])),.any,.any,.any,.any,.any,.any,.any,.any,.any,.any,.any,.any,.any,.any,.any,.any,.any,.any,.any,.any,.any,.any,.any,.any,.any,.any,.any,.any,.any],[],[]⟩
 refine jI (t := 0) rfl fun hl => ?_
 unfold maxLen at hl
 refine cA ?_
 refine gA hX hb [0] rfl (σ' := ?s1) (fun K hK => ?h1) ?n1
 case h1 =>
  (refine kA rfl (by simp (disch := omega) only [iA,aA,qop,fop,St.ev,St.put,cd,zd,Value.oneCell',lA,TypeDesc.aggB,Z0,mA,Zh] <;> exact rfl) ?_)
  refine bA ?_
  exact hK
 refine jA ?_
 refine cA ?_
 refine cA ?_
 refine gA hX hb [0,1,2,3,4] rfl (σ' := ?s2) (fun K hK => ?h2) ?n2
 case h2 =>
  iterate 5 (refine kA rfl (by simp (disch := omega) only [iA,aA,qop,fop,St.ev,St.put,cd,zd,Value.oneCell',lA,TypeDesc.aggB,Z0,vC,cB,iop,tt,mA,Zh] <;> exact rfl) ?_)
  refine bA ?_
  exact hK
 refine jA ?_
 refine oB _ rfl (fun hc0 => ?_) (fun hc0 => ?_)
 ·try simp only [Zp,Zi,ZK,ZJ,ne_eq,Zn,Zm,ZB,ZA,ZI,not_or,not_and,Zu] at hc0
  refine cA ?_
  refine gA hX hb [0] rfl (σ' := ?s3) (fun K hK => ?h3) ?n3
  case h3 =>
   (refine kA rfl (by simp (disch := omega) only [iA,aA,qop,fop,St.ev,St.put,cd,zd,Value.oneCell',lA,TypeDesc.aggB,Z0,mA,Zh] <;> exact rfl) ?_)
   refine bA ?_
   exact hK
  refine jA ?_
  refine bC ?_
  refine tC ?_
  exact zC rfl (zB rfl (by first | rfl | (first | (refine jf ?_; rintro rfl; exact hc2 rfl) | (refine jf ?_; rintro rfl; exact hc0 rfl) | exact jt (vD hc0 he (by omega)))))
 ·try simp only [Zp,Zi,ZK,ZJ,ne_eq,Zn,Zm,ZB,ZA,ZI,not_or,not_and,Zu] at hc0
  refine uB ?_
  refine jA ?_
  refine cA ?_
  refine cA ?_
  refine gA hX hb [0,1,2] rfl (σ' := ?s4) (fun K hK => ?h4) ?n4
  case h4 =>
   iterate 3 (refine kA rfl (by simp (disch := omega) only [iA,aA,qop,fop,St.ev,St.put,cd,zd,Value.oneCell',lA,TypeDesc.aggB,Z0,vC,tt,mA,Zh] <;> exact rfl) ?_)
   refine bA ?_
   exact hK
  refine jA ?_
  refine tB ?_
  refine rD (ι := Nat) (fun i => i ≤ a.length ∧ a.take i = b.take i) (fun i => ⟨[],[.p (iE a),.p (iE b),.p (.v (.func (.func 40) #[] #[])),.any,.any,.any,.any,.any,.any,.any,.any,.any,.any,.any,.any,.p (iE a),.p (i64 (a.length : Int)),.p (i64 i),.any,.any,.any,.any,.any,.any,.any,.any,.any,.any,.any,.any,.any,.any],[],[]⟩) (fun i => a.length - i) 0 (by exact ⟨Nat.zero_le _,rfl⟩) (rC ⟨rfl,(by repeat first | exact sA | refine mB ?_ | refine vA rfl ?_),(xB _),(yB _),rfl,rfl⟩) ?_
  rintro i ⟨hi,he⟩
  refine cA ?_
  refine gA hX hb [0] rfl (σ' := ?s5) (fun K hK => ?h5) ?n5
  case h5 =>
   (refine kA rfl (by simp (disch := omega) only [iA,aA,qop,fop,St.ev,St.put,cd,zd,Value.oneCell',lA,TypeDesc.aggB,Z0,cB,iop,t3,ti3,mA,Zh] <;> exact rfl) ?_)
   refine bA ?_
   exact hK
  refine jA ?_
  refine cA ?_
  refine oB _ rfl (fun hc1 => ?_) (fun hc1 => ?_)
  ·try simp only [Zp,Zi,ZK,ZJ,ne_eq,Zn,Zm,ZB,ZA,ZI,not_or,not_and,Zu] at hc1
   refine uB ?_
   refine jA ?_
   refine cA ?_
   refine tB ?_
   refine cA ?_
   refine gA hX hb [0,1,2,3,4] rfl (σ' := ?s6) (fun K hK => ?h6) ?n6
   case h6 =>
    iterate 5 (refine kA rfl (by simp (disch := omega) only [iA,aA,qop,fop,St.ev,St.put,cd,zd,Value.oneCell',lA,TypeDesc.aggB,Z0,Int.toNat_zero,Int.toNat_one,xA,yA,wA,ZO,Nat.mul_one,ZC,Nat.zero_mul,Zh,Z1,pA,qA,tA,eA,D.pure?,ZD,tt,mA] <;> exact rfl) ?_)
    refine bA ?_
    exact hK
   refine jA ?_
   refine cA ?_
   refine gA hX hb [0,1,2,3,4] rfl (σ' := ?s7) (fun K hK => ?h7) ?n7
   case h7 =>
    iterate 5 (refine kA rfl (by simp (disch := omega) only [iA,aA,qop,fop,St.ev,St.put,cd,zd,Value.oneCell',lA,TypeDesc.aggB,Z0,Int.toNat_zero,Int.toNat_one,xA,yA,wA,ZO,Nat.mul_one,ZC,Nat.zero_mul,Zh,Z1,pA,qA,tA,eA,D.pure?,ZD,tt,mA] <;> exact rfl) ?_)
    refine bA ?_
    exact hK
   refine jA ?_
   refine cA ?_
   refine gA hX hb [0,1,2,3,4] rfl (σ' := ?s8) (fun K hK => ?h8) ?n8
   case h8 =>
    iterate 3 (refine kA rfl (by simp (disch := omega) only [iA,aA,qop,fop,St.ev,St.put,cd,zd,Value.oneCell',lA,TypeDesc.aggB,Z0,uA,D.pv?,Bool.not_true,Bool.not_false,tt,mA,Zh] <;> exact rfl) ?_)
    refine mD rfl (by simp only [aA,St.ev,pB,qB,uA,D.pv?,ZG,ZH,zd,cd,Value.oneCell',Zr] <;> exact rfl) (acK hP (c40 _ _)) (by simp only [St.put,Za,Zb] <;> exact rfl) ?_
    (refine kA rfl (by simp (disch := omega) only [iA,aA,qop,fop,St.ev,St.put,cd,zd,Value.oneCell',lA,TypeDesc.aggB,Z0,uA,D.pv?,Bool.not_true,Bool.not_false,tt,mA,Zh] <;> exact rfl) ?_)
    refine bA ?_
    exact hK
   refine jA ?_
   refine oB _ rfl (fun hc2 => ?_) (fun hc2 => ?_)
   ·try simp only [Zp,Zi,ZK,ZJ,ne_eq,Zn,Zm,ZB,ZA,ZI,not_or,not_and,Zu] at hc2
    refine cA ?_
    refine gA hX hb [0] rfl (σ' := ?s9) (fun K hK => ?h9) ?n9
    case h9 =>
     (refine kA rfl (by simp (disch := omega) only [iA,aA,qop,fop,St.ev,St.put,cd,zd,Value.oneCell',lA,TypeDesc.aggB,Z0,mA,Zh] <;> exact rfl) ?_)
     refine bA ?_
     exact hK
    refine jA ?_
    refine bC ?_
    refine xE ?_
    refine tC ?_
    refine tC ?_
    refine xE ?_
    refine tC ?_
    exact zC rfl (zB rfl (by first | rfl | (first | (refine jf ?_; rintro rfl; exact hc2 rfl) | (refine jf ?_; rintro rfl; exact hc0 rfl) | exact jt (vD hc0 he (by omega)))))
   ·try simp only [Zp,Zi,ZK,ZJ,ne_eq,Zn,Zm,ZB,ZA,ZI,not_or,not_and,Zu] at hc2
    refine uB ?_
    refine cE ?_
    refine jA ?_
    refine gA hX hb [0,1] rfl (σ' := ?s10) (fun K hK => ?h10) ?n10
    case h10 =>
     iterate 2 (refine kA rfl (by simp (disch := omega) only [iA,aA,qop,fop,St.ev,St.put,cd,zd,Value.oneCell',lA,TypeDesc.aggB,Z0,cB,iop,tt,mA,Zh] <;> exact rfl) ?_)
     refine bA ?_
     exact hK
    refine jA ?_
    exact ⟨i + 1,by exact ⟨by omega,by rw [eE a i (by omega),eE b i (by omega),he,hc2]⟩,by (try dsimp only); omega,rC ⟨rfl,(by repeat first | exact sA | refine mB ?_ | refine vA rfl ?_),(xB _),(yB _),rfl,rfl⟩⟩
  ·try simp only [Zp,Zi,ZK,ZJ,ne_eq,Zn,Zm,ZB,ZA,ZI,not_or,not_and,Zu] at hc1
   refine oD ?_
   refine fD ?_
   refine fD ?_
   refine zE ?_
   refine jA ?_
   refine cA ?_
   refine gA hX hb [0] rfl (σ' := ?s11) (fun K hK => ?h11) ?n11
   case h11 =>
    (refine kA rfl (by simp (disch := omega) only [iA,aA,qop,fop,St.ev,St.put,cd,zd,Value.oneCell',lA,TypeDesc.aggB,Z0,mA,Zh] <;> exact rfl) ?_)
    refine bA ?_
    exact hK
   refine jA ?_
   refine bC ?_
   exact zC rfl (zB rfl (by first | rfl | (first | (refine jf ?_; rintro rfl; exact hc2 rfl) | (refine jf ?_; rintro rfl; exact hc0 rfl) | exact jt (vD hc0 he (by omega)))))
end Go.Proofs.Ytldcoekbgfaomaa
end
section
namespace Go.Proofs.Ytldcoekbgfaomaa
open Go.RowKit
set_option maxRecDepth 20000
set_option maxHeartbeats 4000000
attribute [local irreducible] kE sD AW
theorem c67 (h79 : ∀ a b : Int,ACalls Try.prog 79 [.p (u64 a),.p (u64 b)] (.p (u64 (jG a b)))) (s f : Int) (l : List Int) (hl : l.length ≤ 4294967296) (hl1 : 1 ≤ l.length) : ACalls Try.prog 67 [.p (i64 s),.p (i64 f),.p (gH l)] (.agg [i64 s,i64 f,iE (sE l)]) := by
 refine wC oC Try.func67 (c := _) rfl (by kernel_rfl) ?_
 intro X hP hX hro hpl
 have hb : tb.Ok X.P := hP ▸ oC
 change AW X _ _ ⟨[],[.p (i64 s),.p (i64 f),.p (gH l),.any,.any,.any,.any,.any,.any,.any,.any,.any,.any,.any,.any,.any,.any,.any,.any,.any,.any,.any,.any],[],[]⟩
 refine cA ?_
 refine gA hX hb [0] rfl (σ' := ?s1) (fun K hK => ?h1) ?n1
 case h1 =>
  (refine kA rfl (by simp (disch := omega) only [iA,aA,qop,fop,St.ev,St.put,cd,zd,Value.oneCell',lA,TypeDesc.aggB,Z0,ZM,ZL,Zl,Zo,ZG,ZH,St.addBox,Value.cells,tt] <;> exact rfl) ?_)
  refine bA ?_
  exact hK
 refine jA ?_
 refine aCA ?_
 refine cA ?_
 refine gA hX (oY 26 hb) [0,1,2,3,4] rfl (σ' := ?s2) (fun K hK => ?h2) ?n2
 case h2 =>
  iterate 5 (refine kA rfl (by simp (disch := omega) only [iA,aA,qop,fop,St.ev,St.put,cd,zd,Value.oneCell',lA,TypeDesc.aggB,Z0,aE,cD,mC,aC,D.cell1,fB,gB,iB,jB,kB,List.all_cons,List.all_nil,uC,TI.place,TI.zeros,TI.kindOk,D.cells?,D.pure?,zp,Value.cells,ZQ,ZP,Z1,ZM,ZL,ZG,ZH,St.addBox,iC,D.boxCells,D.live,ZN,St.setVec,ZC,tt,sQ,iL,lI,wG] <;> exact rfl) ?_)
  refine bA ?_
  exact hK
 refine jA ?_
 refine iW (pR 1 2 _ 60 1 rfl rfl) ?_
 change AW X _ _ ⟨[],[.p (i64 s),.p (i64 f),.p (gH l),.any,.any,.any,.ptr 0 0,.ptr 1 0,.p (i64 s),.p (i64 f),.aggd [.p (i64 s),.p (i64 f),.nil],.any,.any,.any,.any,.any,.any,.any,.any,.any,.any,.any,.any],[⟨26,[.p (i64 0),.p (i64 0),.nil]⟩,⟨26,[.p (i64 s),.p (i64 f),.vref 0]⟩],[some ⟨60,1,0,[]⟩]⟩
 refine cA ?_
 refine rBA ?_
 refine jA ?_
 refine cA ?_
 refine tB ?_
 refine rD (ι := List Int × List (List Int)) (fun p => 1 ≤ p.1.length ∧ p.1.length ≤ l.length ∧ p.2 ++ sE p.1 = sE l) (fun p => ⟨[],[.p (i64 s),.p (i64 f),.p (gH p.1),.any,.any,.any,.ptr 0 0,.ptr 1 0,.any,.any,.any,.any,.any,.any,.any,.any,.any,.any,.any,.any,.any,.any,.any],[⟨26,[.p (i64 0),.p (i64 0),.nil]⟩,⟨26,[.p (i64 s),.p (i64 f),.vref 0]⟩],[some ⟨60,1,p.2.length,p.2.map gH⟩]⟩) (fun p => p.1.length) (l,[]) (by exact ⟨hl1,Nat.le_refl _,rfl⟩) (rC ⟨rfl,(by repeat first | exact sA | refine mB ?_ | refine vA (by first | rfl | (simp)) ?_),(pC rfl (vA (by first | rfl | (simp)) (vA (by first | rfl | (simp)) (vA (by first | rfl | (simp)) (sA)))) (pC rfl (vA (by first | rfl | (simp)) (vA (by first | rfl | (simp)) (vA (by first | rfl | (simp)) (sA)))) (xB _))),(jE (by first | rfl | (simp)) (yB _)),rfl,rfl⟩) ?_
 rintro ⟨m,ls⟩ ⟨hm1,hml,hm⟩
 dsimp only at hm1 hml hm ⊢
 have hls : ls.length ≤ l.length + 1 := by
  have h1 := pI l.length l (Nat.le_refl _)
  rw [← hm,List.length_append] at h1
  omega
 refine tB ?_
 refine cA ?_
 refine gA hX hb [0,1,2,3,4,5,6] rfl (σ' := ?s3) (fun K hK => ?h3) ?n3
 case h3 =>
  iterate 7 (refine kA rfl (by simp (disch := omega) only [iA,aA,qop,fop,St.ev,St.put,cd,zd,Value.oneCell',lA,TypeDesc.aggB,Z0,fA,oA,Z1,pA,qA,tA,eA,D.pure?,ZC,ZD,zD,aD,bD,bE,bB,rB,D.cells?,fB,gB,iB,jB,kB,ZG,ZH,ZL,ZM,ZN,aB,Nat.reduceAdd,Nat.reduceMul,nD,cG,St.demote,D.demote,St.setVec,Zh,List.length_append,Nat.mul_one,reduceIte,iC,D.boxCells,D.live,tt] <;> exact rfl) ?_)
  refine bA ?_
  exact hK
 refine jA ?_
 refine cA ?_
 refine cA ?_
 refine gA hX hb [0,1,2] rfl (σ' := ?s4) (fun K hK => ?h4) ?n4
 case h4 =>
  iterate 3 (refine kA rfl (by simp (disch := omega) only [iA,aA,qop,fop,St.ev,St.put,cd,zd,Value.oneCell',lA,TypeDesc.aggB,Z0,vC,cB,iop,tt] <;> exact rfl) ?_)
  refine bA ?_
  exact hK
 refine jA ?_
 refine oB _ rfl (fun hc0 => ?_) (fun hc0 => ?_)
 ·try simp only [Zp,Zi,ZK,ZJ,ne_eq,Zn,Zm,ZB,ZA,ZI,not_or,not_and,Zu] at hc0
  refine oD ?_
  refine fD ?_
  refine iIA (by decide) ?_
  refine fD ?_
  refine zE ?_
  refine jA ?_
  refine cA ?_
  refine nH 0 rfl (σ' := ?s6) ?h6 ?n6
  case h6 => simp only [St.freeze,D.freeze,ZG,ZH,Za,Zb,Zr,reduceIte,Nat.reduceEqDiff]; exact rfl
  refine gA hX hb [0,1] rfl (σ' := ?s5) (fun K hK => ?h5) ?n5
  case h5 =>
   iterate 2 (refine kA rfl (by simp (disch := omega) only [iA,aA,qop,fop,St.ev,St.put,cd,zd,Value.oneCell',lA,TypeDesc.aggB,Z0,Z1,pA,qA,tA,eA,D.pure?,ZC,ZD,iC,D.boxCells,D.live,D.cells?,ZM,ZL,ZN,ZG,ZH,St.setVec,tt] <;> exact rfl) ?_)
   refine bA ?_
   exact hK
  refine jA ?_
  refine bC ?_
  refine hIA ?_
  exact zC rfl (zB (by simp only [mE,pA,qA,lA,TypeDesc.aggB,eA,D.pure?,D.pv?,pB,qB,Zd,Zc,Zw,Zk,Zv,Zj,Zx,Zl,Zo,Zr,reduceIte,Nat.reduceAdd,Nat.reduceLeDiff,Zg,Zf,tt] <;> exact rfl) (by first | rfl | (rw [← hm,xF (l := m) (by omega)]; refine congrArg D.agg ?_; refine congrArg (fun x => [i64 s,i64 f,x]) ?_; simp [iE])))
 ·try simp only [Zp,Zi,ZK,ZJ,ne_eq,Zn,Zm,ZB,ZA,ZI,not_or,not_and,Zu] at hc0
  refine uB ?_
  refine jA ?_
  refine gA hX hb [0,1,2] rfl (σ' := ?s7) (fun K hK => ?h7) ?n7
  case h7 =>
   (refine kA rfl (by simp (disch := omega) only [iA,aA,qop,fop,St.ev,St.put,cd,zd,Value.oneCell',lA,TypeDesc.aggB,Z0,uA,D.pv?,tt] <;> exact rfl) ?_)
   refine mD rfl (by simp only [aA,St.ev,pB,qB,uA,D.pv?,ZG,ZH,zd,cd,Value.oneCell',Zr] <;> exact rfl) (acK hP ((oMA h79 m (by omega)).pure)) (by simp only [St.put,Za,Zb] <;> exact rfl) ?_
   (refine kA rfl (by simp (disch := omega) only [iA,aA,qop,fop,St.ev,St.put,cd,zd,Value.oneCell',lA,TypeDesc.aggB,Z0,uA,D.pv?,tt] <;> exact rfl) ?_)
   refine bA ?_
   exact hK
  refine cE ?_
  refine jA ?_
  exact ⟨(upL m,ls ++ [m]),by have hu := pF m; refine ⟨by dsimp only; omega,by dsimp only; omega,?_⟩; dsimp only; rw [← hm,lF (l := m) (by omega),List.append_assoc]; rfl,by have hu := pF m; dsimp only; omega,rC ⟨rfl,(by repeat first | exact sA | refine mB ?_ | refine vA (by first | rfl | (simp)) ?_),(pC rfl (vA (by first | rfl | (simp)) (vA (by first | rfl | (simp)) (vA (by first | rfl | (simp)) (sA)))) (pC rfl (vA (by first | rfl | (simp)) (vA (by first | rfl | (simp)) (vA (by first | rfl | (simp)) (sA)))) (xB _))),(jE (by first | rfl | (simp)) (yB _)),rfl,rfl⟩⟩
end Go.Proofs.Ytldcoekbgfaomaa
end
section
namespace Go.Proofs.Ytldcoekbgfaomaa
/-- What the check knows aJ level i,with n nodes to come (0: none may come). -/
def ShN (S F : Nat) (lv : List (List Int)) (i n : Nat) : Prop := (n = 0 → i = lv.length ∧ shT S F lv = true) ∧ (n ≠ 0 → shT S F lv = sh false n (lv.drop i))
theorem nAA {S F : Nat} {lv : List (List Int)} (h : 1 ≤ wD S F) : ShN S F lv 0 (wD S F) := ⟨fun h0 => by omega,fun _ => rfl⟩
theorem qP {S F i n : Nat} {lv : List (List Int)} (h : ShN S F lv i n) (hi : i < lv.length) (hb : (lv.getD i []).length ≠ n ∨ (n = 1 ∧ i + 1 < lv.length)) : shT S F lv = false := by
 have hn : n ≠ 0 := fun h0 => by have := (h.1 h0).1; omega
 rw [h.2 hn,aK lv i hi]
 by_cases h1 : (lv.getD i []).length = n
 ·rcases hb with hb | ⟨rfl,hb⟩
  ·exact absurd h1 hb
  ·rw [aK lv (i + 1) hb]
   simp only [sh,h1,decide_true,Bool.not_true,Bool.and_false,Bool.false_and]
 ·simp only [sh,decide_eq_false h1,Bool.false_and]
theorem wW {S F i n : Nat} {lv : List (List Int)} (h : ShN S F lv i n) (hi : i < lv.length) (h1 : (lv.getD i []).length = n) (h2 : ¬ (n = 1 ∧ i + 1 < lv.length)) :
  ShN S F lv (i + 1) (((if n = 1 then 0 else n) + 1) / 2) := by
 have hn : n ≠ 0 := fun h0 => by have := (h.1 h0).1; omega
 have hs := h.2 hn
 rw [aK lv i hi] at hs
 by_cases hn1 : n = 1
 ·subst hn1
  rw [if_pos rfl]
  refine ⟨fun _ => ⟨by omega,?_⟩,fun h0 => by omega⟩
  rw [hs,List.drop_of_length_le (by omega)]
  simp only [sh,h1,decide_true,Bool.not_false,Bool.and_self]
 ·rw [if_neg hn1]
  refine ⟨fun h0 => by omega,fun _ => ?_⟩
  rw [hs]
  simp only [sh,h1,decide_true,Bool.not_false,Bool.and_self,Bool.true_and,decide_eq_false hn1]
theorem wN {S F n : Nat} {lv : List (List Int)} (h : ShN S F lv lv.length n) : shT S F lv = decide (n = 0) := by
 by_cases hn : n = 0
 ·rw [(h.1 hn).2,decide_eq_true hn]
 ·rw [h.2 hn,List.drop_length,decide_eq_false hn]; rfl
end Go.Proofs.Ytldcoekbgfaomaa
end
section
namespace Go.Proofs.Ytldcoekbgfaomaa
open Go.RowKit
set_option maxRecDepth 20000
set_option maxHeartbeats 4000000
attribute [local irreducible] kE sD AW
/-- Items that are bytes. -/
def yG (l : List Int) : List PV := l.map fun b => .p (u8 b)
theorem dM (l : List Int) : (yG l).length = l.length := by simp [yG]
theorem rP (l : List Int) (i : Nat) (h : i < l.length) : (yG l)[i]? = some (.p (u8 (l.getD i 0))) := by simp [yG,h]
theorem iV {l : List Int} {k : Nat} {y : PV} (h : (yG l)[k]? = some y) : k < l.length ∧ y = .p (u8 (l.getD k 0)) := by
 have hk : k < l.length := by have := (List.getElem?_eq_some_iff.1 h).1; simpa [yG] using this
 rw [rP l k hk] at h
 injection h with h
 exact ⟨hk,h.symm⟩
/-- The sixteen bytes of a pair,of which i and i are there. -/
def xW (a b : Int) (i j : Nat) : Int := if j < i then shb a j else if 8 ≤ j ∧ j < 8 + i then shb b ((j - 8 : Nat) : Int) else 0
def tQ (a b : Int) (i : Nat) : List D := (List.range 16).map fun j => .p (u8 (xW a b i j))
theorem rE (a b : Int) (i : Nat) : (tQ a b i).length = 16 := by simp [tQ]
theorem oM (a b : Int) (i : Nat) (h : i < 8) : ((tQ a b i).set i (.p (u8 (shb a i)))).set (8 + i) (.p (u8 (shb b i))) = tQ a b (i + 1) := by
 apply List.ext_getElem?
 intro j
 simp only [tQ,List.getElem?_set,List.length_set,Zh,List.length_range,List.getElem?_map]
 by_cases hj : j < 16
 ·rw [List.getElem?_range hj]
  simp only [Zg]
  by_cases h1 : 8 + i = j
  ·subst h1
   rw [if_pos rfl,if_pos (by omega)]
   simp only [xW]
   rw [if_neg (by omega),if_pos (by omega),show 8 + i - 8 = i by omega]
  ·rw [if_neg h1]
   by_cases h2 : i = j
   ·subst h2
    rw [if_pos rfl,if_pos (by omega)]
    simp only [xW]
    rw [if_pos (by omega)]
   ·rw [if_neg h2]
    congr 3
    simp only [xW]
    by_cases h3 : j < i
    ·rw [if_pos h3,if_pos (show j < i + 1 by omega)]
    ·rw [if_neg h3,if_neg (show ¬ j < i + 1 by omega)]
     by_cases h4 : 8 ≤ j ∧ j < 8 + i
     ·rw [if_pos h4,if_pos (show 8 ≤ j ∧ j < 8 + (i + 1) by omega)]
     ·rw [if_neg h4,if_neg (show ¬ (8 ≤ j ∧ j < 8 + (i + 1)) by omega)]
 ·rw [List.getElem?_eq_none (by simp; omega),if_neg (by omega),if_neg (by omega)]
  rfl
theorem cI (l : List D) (i : Nat) (x : D) (h : i < l.length) : l.take i ++ [x] ++ l.drop (i + 1) = l.set i x := by
 rw [List.set_eq_take_append_cons_drop,if_pos h]
 simp
theorem uQ (f : Nat → P1) : ∀ l : List Nat,eA (l.map fun j => D.p (f j)) = some (l.map f)
 | [] => rfl
 | x :: l => by simp only [ZG,eA,D.pure?,uQ f l]
theorem qY (a b : Int) : eA (tQ a b 8) = some ((yC a ++ yC b).map u8) := by
 rw [tQ,uQ fun j => u8 (xW a b 8 j)]
 rfl
theorem pMA (l : List Int) : SeqC Try.prog 121 [bytes l] (yG l) := by
 refine yU Try.func121 (c := _) rfl (by kernel_rfl) rfl ?_
 intro X ll hP hX _
 have hb : tb.Ok X.P := hP ▸ oC
 change AW X _ _ ⟨[.yld ll (yG l) 0],[.p (.v (.func (.yield ll) #[] #[])),.ept [bytes l] 0,.any,.any,.any,.any,.any,.any,.any,.any,.any,.any,.any,.any,.any,.any],[],[]⟩
 
 refine cA ?_
 refine gA hX hb [0,1,2] rfl (σ' := ?s1) (fun K hK => ?h1) ?n1
 case h1 =>
  iterate 3 (refine kA rfl (by simp (disch := omega) only [iA,aA,qop,fop,St.ev,St.put,cd,zd,Value.oneCell',lA,TypeDesc.aggB,Z0,Z1,pA,qA,tA,eA,D.pure?,ZC,ZD,vC,tt,nA] <;> exact rfl) ?_)
  refine bA ?_
  exact hK
 refine jA ?_
 refine jI (t := 5) rfl fun hl => ?_
 unfold maxLen at hl
 refine tB ?_
 refine rD (ι := Nat) (fun i => i ≤ l.length) (fun i => ⟨[.yld ll (yG l) i],[.p (.v (.func (.yield ll) #[] #[])),.any,.any,.any,.any,.p (bytes l),.p (i64 l.length),.p (i64 i),.any,.any,.any,.any,.any,.any,.any,.any],[],[]⟩) (fun i => l.length - i) 0 (by exact Nat.zero_le _) (rC ⟨rfl,(by repeat first | exact sA | refine mB ?_ | refine vA rfl ?_),(xB _),(yB _),rfl,rfl⟩) ?_
 rintro i hJ
 refine cA ?_
 refine gA hX hb [0] rfl (σ' := ?s2) (fun K hK => ?h2) ?n2
 case h2 =>
  (refine kA rfl (by simp (disch := omega) only [iA,aA,qop,fop,St.ev,St.put,cd,zd,Value.oneCell',lA,TypeDesc.aggB,Z0,cB,iop,t3,ti3,nA] <;> exact rfl) ?_)
  refine bA ?_
  exact hK
 refine jA ?_
 refine cA ?_
 refine oB _ rfl (fun hc0 => ?_) (fun hc0 => ?_)
 ·try simp only [Zp,Zi,ZK,ZJ,ne_eq,Zn,Zm,ZB,ZA,ZI,not_or,not_and,Zu] at hc0
  refine uB ?_
  refine jA ?_
  refine cA ?_
  refine tB ?_
  refine cA ?_
  refine gA hX hb [0,1,2] rfl (σ' := ?s3) (fun K hK => ?h3) ?n3
  case h3 =>
   iterate 3 (refine kA rfl (by simp (disch := omega) only [iA,aA,qop,fop,St.ev,St.put,cd,zd,Value.oneCell',lA,TypeDesc.aggB,Z0,Int.toNat_zero,Int.toNat_one,xA,yA,wA,ZO,Nat.mul_one,ZC,Nat.zero_mul,Zh,Z1,pA,qA,tA,eA,D.pure?,ZD,tt,nA] <;> exact rfl) ?_)
   refine bA ?_
   exact hK
  refine jA ?_
  refine cA ?_
  refine gA hX hb [0,1,2,3] rfl (σ' := ?s4) (fun K hK => ?h4) ?n4
  case h4 =>
   iterate 2 (refine kA rfl (by simp (disch := omega) only [iA,aA,qop,fop,St.ev,St.put,cd,zd,Value.oneCell',lA,TypeDesc.aggB,Z0,uA,D.pv?,Bool.not_true,Bool.not_false,tt,nA] <;> exact rfl) ?_)
   refine mGA rfl rfl (by simp only [St.ev,pB,qB,zd,cd,Value.oneCell',Zr] <;> exact rfl) (by simp only [uA,pD,D.pvC?,D.pvN?,D.pvL?,eA,D.pv?,D.pure?,St.ev,pB,qB,zd,cd,Value.oneCell',Zr,ZG,ZH,Zd,Zc,Zg] <;> exact rfl) rfl (rP l i (by omega)) (by simp only [St.put,Za,Zb] <;> exact rfl) ?_
   (refine kA rfl (by simp (disch := omega) only [iA,aA,qop,fop,St.ev,St.put,cd,zd,Value.oneCell',lA,TypeDesc.aggB,Z0,uA,D.pv?,Bool.not_true,Bool.not_false,tt,nA] <;> exact rfl) ?_)
   refine bA ?_
   exact hK
  refine jA ?_
  refine oB _ rfl (fun hc1 => ?_) (fun hc1 => ?_)
  ·try simp only [Zp,Zi,ZK,ZJ,ne_eq,Zn,Zm,ZB,ZA,ZI,not_or,not_and,Zu] at hc1
   cases hc1
  ·try simp only [Zp,Zi,ZK,ZJ,ne_eq,Zn,Zm,ZB,ZA,ZI,not_or,not_and,Zu] at hc1
   refine uB ?_
   refine cE ?_
   refine jA ?_
   refine gA hX hb [0,1] rfl (σ' := ?s5) (fun K hK => ?h5) ?n5
   case h5 =>
    iterate 2 (refine kA rfl (by simp (disch := omega) only [iA,aA,qop,fop,St.ev,St.put,cd,zd,Value.oneCell',lA,TypeDesc.aggB,Z0,cB,iop,tt,nA] <;> exact rfl) ?_)
    refine bA ?_
    exact hK
   refine jA ?_
   exact ⟨i + 1,by (try dsimp only); omega,by (try dsimp only); omega,rC ⟨rfl,(by repeat first | exact sA | refine mB ?_ | refine vA rfl ?_),(xB _),(yB _),rfl,rfl⟩⟩
 ·try simp only [Zp,Zi,ZK,ZJ,ne_eq,Zn,Zm,ZB,ZA,ZI,not_or,not_and,Zu] at hc0
  refine oD ?_
  refine fD ?_
  refine fD ?_
  refine zE ?_
  exact xU rfl (by first | rfl | ((have : i = l.length := by omega); subst this; exact (dM l).symm))
theorem qMA (f : FuncId) (xs : List P1) (bs : List Int) (hs : SeqC Try.prog f xs (yG bs)) : ACalls Try.prog 104 [.p (.clo f xs)] (.p (u64 (pO bs))) := by
 refine wC oC Try.func104 (c := _) rfl (by kernel_rfl) ?_
 intro X hP hX hro hpl
 have hb : tb.Ok X.P := hP ▸ oC
 change AW X _ _ ⟨[],[.p (.clo f xs),.any,.any,.any,.any,.any,.any,.any,.any,.any,.any,.any,.any,.any,.any,.any],[],[]⟩
 refine cA ?_
 refine gA hX hb [0] rfl (σ' := ?s1) (fun K hK => ?h1) ?n1
 case h1 =>
  (refine kA rfl (by simp (disch := omega) only [iA,aA,qop,fop,St.ev,St.put,cd,zd,Value.oneCell',lA,TypeDesc.aggB,Z0] <;> exact rfl) ?_)
  refine bA ?_
  exact hK
 refine jA ?_
 refine cA ?_
 refine gA hX hb [0,1] rfl (σ' := ?s2) (fun K hK => ?h2) ?n2
 case h2 =>
  iterate 2 (refine kA rfl (by simp (disch := omega) only [iA,aA,qop,fop,St.ev,St.put,cd,zd,Value.oneCell',lA,TypeDesc.aggB,Z0,ZM,ZL,Z1,ZG,ZH,St.addBox,Value.cells,iC,D.boxCells,D.live,D.cells?,D.pure?,ZN,St.setVec,ZC,tt] <;> exact rfl) ?_)
  refine bA ?_
  exact hK
 refine jA ?_
 refine cA ?_
 refine cA ?_
 refine gA hX hb [0] rfl (σ' := ?s3) (fun K hK => ?h3) ?n3
 case h3 =>
  (refine kA rfl (by simp (disch := omega) only [iA,aA,qop,fop,St.ev,St.put,cd,zd,Value.oneCell',lA,TypeDesc.aggB,Z0] <;> exact rfl) ?_)
  refine bA ?_
  exact hK
 refine jA ?_
 refine tB ?_
 refine aM hX hro hpl.j [] [.p (.clo f xs),.any,.p (u64 0),.ptr 0 0,.any,.p (.clo f xs),.any,.any,.any,.any,.any,.any,.any,.any,.any,.any] 1 (fun (k : Nat) => [⟨58,[.p (u64 (jP (bs.take k)))]⟩]) (fun (k : Nat) => []) [⟨58,[.p (u64 (jP (bs.take ((yG bs).length))))]⟩] [] (rC ⟨rfl,(by repeat first | exact sA | refine mB ?_ | refine vA (by first | rfl | (rw [← oJ bs k (by omega)]; rfl)) ?_),(pC rfl (vA (by first | rfl | (rw [← oJ bs k (by omega)]; rfl)) (sA)) (xB _)),(yB _),rfl,rfl⟩) rfl rfl (hP ▸ (hs)) rfl rfl rfl rfl rfl ?_ ?_
 ·intro k y hy
  obtain ⟨hk,rfl⟩ := iV hy
  unfold gL
  intro X1 hQ hX
  have hP0 := hP; have hP := hQ.trans hP; have hb : tb.Ok X1.P := hP ▸ oC
  change AW X1 _ _ ⟨[.pin 1],[.p (.clo f xs),.any,.p (u64 0),.ptr 0 0,.any,.p (.clo f xs),.p (u8 (bs.getD k 0)),.any,.any,.any,.any,.any,.any,.any,.any,.any],[⟨58,[.p (u64 (jP (bs.take k)))]⟩],[]⟩
  refine gA hX hb [0] rfl (σ' := ?s4) (fun K hK => ?h4) ?n4
  case h4 =>
   (refine kA rfl (by simp (disch := omega) only [iA,aA,qop,fop,St.ev,St.put,cd,zd,Value.oneCell',lA,TypeDesc.aggB,Z0] <;> exact rfl) ?_)
   refine bA ?_
   exact hK
  refine ⟨rfl,rfl,?_⟩
  intro X2 hQ2 hX
  have hP := hQ2.trans hP0; have hb : tb.Ok X2.P := hP ▸ oC
  refine tB ?_
  refine gA hX hb [0,1,2,3,4,5] rfl (σ' := ?s5) (fun K hK => ?h5) ?n5
  case h5 =>
   iterate 6 (refine kA rfl (by simp (disch := omega) only [iA,aA,qop,fop,St.ev,St.put,cd,zd,Value.oneCell',lA,TypeDesc.aggB,Z0,Z1,pA,qA,tA,eA,D.pure?,ZC,ZD,iK,cB,iop,iC,D.boxCells,D.live,D.cells?,ZM,ZL,ZN,ZG,ZH,St.setVec,tt] <;> exact rfl) ?_)
   refine bA ?_
   exact hK
  refine cE ?_
  exact ⟨rfl,rC ⟨(by first | rfl | (rw [← oJ bs k (by omega)]; rfl)),(by repeat first | exact sA | refine mB ?_ | refine vA rfl ?_),(pC rfl (vA (by first | rfl | (rw [← oJ bs k (by omega)]; rfl)) (sA)) (xB _)),(yB _),rfl,rfl⟩⟩
 refine cE ?_
 refine jA ?_
 refine cA ?_
 refine gA hX hb [0,1,2,3,4] rfl (σ' := ?s6) (fun K hK => ?h6) ?n6
 case h6 =>
  iterate 5 (refine kA rfl (by simp (disch := omega) only [iA,aA,qop,fop,St.ev,St.put,cd,zd,Value.oneCell',lA,TypeDesc.aggB,Z0,Z1,pA,qA,tA,eA,D.pure?,ZC,ZD,cB,iop,tt] <;> exact rfl) ?_)
  refine bA ?_
  exact hK
 refine jA ?_
 refine bC ?_
 exact kM (zB rfl (by first | rfl | (rw [dM,List.take_length]; rfl)))
theorem rMA (l : List Int) : ACalls Try.prog 111 [.p (bytes l)] (.p (u64 (pO l))) := by
 refine wC oC Try.func111 (c := _) rfl (by kernel_rfl) ?_
 intro X hP hX hro hpl
 have hb : tb.Ok X.P := hP ▸ oC
 change AW X _ _ ⟨[],[.p (bytes l),.any,.any,.any,.any],[],[]⟩
 refine cA ?_
 refine gA hX hb [0,1] rfl (σ' := ?s1) (fun K hK => ?h1) ?n1
 case h1 =>
  iterate 2 (refine kA rfl (by simp (disch := omega) only [iA,aA,qop,fop,St.ev,St.put,cd,zd,Value.oneCell',lA,TypeDesc.aggB,Z0,ZM,ZL,Zl,Zo,ZG,ZH,St.addBox,D.boxCells,D.live,tt] <;> exact rfl) ?_)
  refine bA ?_
  exact hK
 refine jA ?_
 refine cA ?_
 refine gA hX hb [0,1,2] rfl (σ' := ?s2) (fun K hK => ?h2) ?n2
 case h2 =>
  (refine kA rfl (by simp (disch := omega) only [iA,aA,qop,fop,St.ev,St.put,cd,zd,Value.oneCell',lA,TypeDesc.aggB,Z0,pL,eq_self,Array.toList,uA,D.pv?,tt] <;> exact rfl) ?_)
  refine yBA rfl rfl (by simp only [St.ev,pB,qB,zd,cd,Value.oneCell',Zr] <;> exact rfl) (by simp only [zM,pD,D.pvC?,D.pvN?,D.pvL?,eA,D.pv?,D.pure?,St.ev,pB,qB,zd,cd,Value.oneCell',Zr,ZG,ZH,Zd,Zc,Zg] <;> exact rfl) (acK hP (qMA 121 [bytes l] l (pMA l))) (by simp only [St.put,Za,Zb] <;> exact rfl) ?_
  (refine kA rfl (by simp (disch := omega) only [iA,aA,qop,fop,St.ev,St.put,cd,zd,Value.oneCell',lA,TypeDesc.aggB,Z0,pL,eq_self,Array.toList,uA,D.pv?,tt] <;> exact rfl) ?_)
  refine bA ?_
  exact hK
 refine jA ?_
 refine bC ?_
 exact zC rfl (zB rfl rfl)
theorem zJA (a b : Int) : ACalls Try.prog 111 [.p (.sl 16 ((yC a ++ yC b).map u8))] (.p (u64 (jG a b))) := rMA (yC a ++ yC b)
theorem c79 (a b : Int) : ACalls Try.prog 79 [.p (u64 a),.p (u64 b)] (.p (u64 (jG a b))) := by
 refine wC oC Try.func79 (c := _) rfl (by kernel_rfl) ?_
 intro X hP hX hro hpl
 have hb : tb.Ok X.P := hP ▸ oC
 change AW X _ _ ⟨[],[.p (u64 a),.p (u64 b),.any,.any,.any,.any,.any,.any,.any,.any,.any,.any,.any,.any,.any,.any,.any,.any,.any,.any,.any,.any,.any,.any,.any,.any,.any,.any],[],[]⟩
 refine cA ?_
 refine gA hX hb [0] rfl (σ' := ?s1) (fun K hK => ?h1) ?n1
 case h1 =>
  (refine kA rfl (by simp (disch := omega) only [iA,aA,qop,fop,St.ev,St.put,cd,zd,Value.oneCell',lA,TypeDesc.aggB,Z0,rE,maxLen] <;> exact rfl) ?_)
  refine bA ?_
  exact hK
 refine jA ?_
 refine cA ?_
 refine gA hX hb [0] rfl (σ' := ?s2) (fun K hK => ?h2) ?n2
 case h2 =>
  (refine kA rfl (by simp (disch := omega) only [iA,aA,qop,fop,St.ev,St.put,cd,zd,Value.oneCell',lA,TypeDesc.aggB,Z0,ZM,ZL,Zl,Zo,ZG,ZH,St.addBox,Value.cells,tt,rE,maxLen] <;> exact rfl) ?_)
  refine bA ?_
  exact hK
 refine jA ?_
 refine cA ?_
 refine cA ?_
 refine gA hX hb [0] rfl (σ' := ?s3) (fun K hK => ?h3) ?n3
 case h3 =>
  (refine kA rfl (by simp (disch := omega) only [iA,aA,qop,fop,St.ev,St.put,cd,zd,Value.oneCell',lA,TypeDesc.aggB,Z0,rE,maxLen] <;> exact rfl) ?_)
  refine bA ?_
  exact hK
 refine jA ?_
 refine tB ?_
 refine rD (ι := Nat) (fun i => i ≤ 8) (fun i => ⟨[],[.p (u64 a),.p (u64 b),.any,.any,.any,.ptr 0 0,.any,.p (i64 i),.any,.any,.any,.any,.any,.any,.any,.any,.any,.any,.any,.any,.any,.any,.any,.any,.any,.any,.any,.any],[⟨171,tQ a b i⟩],[]⟩) (fun i => 8 - i) 0 (by exact Nat.zero_le _) (rC ⟨rfl,(by repeat first | exact sA | refine mB ?_ | refine vA (by first | rfl | (exact (cI _ _ _ (by rw [List.length_set,rE]; omega)).trans (oM a b i (by omega)))) ?_),(pC rfl (dCA (by first | rfl | (exact (cI _ _ _ (by rw [List.length_set,rE]; omega)).trans (oM a b i (by omega))))) (xB _)),(yB _),rfl,rfl⟩) ?_
 rintro i hJ
 have hpl := rE a b i
 have e8 : ((8 : Int) + (i : Int)).toNat = 8 + i := by omega
 refine cA ?_
 refine gA hX hb [0] rfl (σ' := ?s4) (fun K hK => ?h4) ?n4
 case h4 =>
  (refine kA rfl (by simp (disch := omega) only [iA,aA,qop,fop,St.ev,St.put,cd,zd,Value.oneCell',lA,TypeDesc.aggB,Z0,cB,iop,t3,ti3,rE,maxLen] <;> exact rfl) ?_)
  refine bA ?_
  exact hK
 refine jA ?_
 refine cA ?_
 refine oB _ rfl (fun hc0 => ?_) (fun hc0 => ?_)
 ·try simp only [Zp,Zi,ZK,ZJ,ne_eq,Zn,Zm,ZB,ZA,ZI,not_or,not_and,Zu] at hc0
  refine uB ?_
  refine jA ?_
  refine cA ?_
  refine tB ?_
  refine cA ?_
  refine gA hX hb [0,1] rfl (σ' := ?s5) (fun K hK => ?h5) ?n5
  case h5 =>
   iterate 2 (refine kA rfl (by simp (disch := omega) only [iA,aA,qop,fop,St.ev,St.put,cd,zd,Value.oneCell',lA,TypeDesc.aggB,Z0,rE,maxLen] <;> exact rfl) ?_)
   refine bA ?_
   exact hK
  refine jA ?_
  refine dF hX hb (jD hP) [(0,true),(1,true),(2,true),(3,true),(4,true),(5,true),(6,true),(7,true),(8,true),(9,true),(10,true),(11,true),(12,true),(13,true),(14,false),(15,true),(16,false)] (by kernel_rfl) (σ' := ?s6) (fun K hK => ?h6) ?n6
  case h6 =>
   iterate 14 (refine eF rfl (by simp (disch := omega) only [qop,fop,St.ev,St.put,cd,zd,Value.oneCell',lA,TypeDesc.aggB,Z0,cB,iop,iK,Int.toNat_zero,Int.toNat_one,xA,yA,wA,ZO,Nat.mul_one,ZC,Nat.zero_mul,Zh,iC,D.boxCells,D.live,D.cells?,D.pure?,ZM,ZL,ZN,Z1,ZG,ZH,St.setVec,tt,rE,maxLen,e8,cI,List.length_set] <;> exact rfl) (by simp only [St.put,Za,Zb] <;> exact rfl) ?_)
   (refine rG rfl (by simp (disch := omega) only [iA,aA,qop,fop,St.ev,St.put,cd,zd,Value.oneCell',lA,TypeDesc.aggB,Z0,cB,iop,iK,Int.toNat_zero,Int.toNat_one,xA,yA,wA,ZO,Nat.mul_one,ZC,Nat.zero_mul,Zh,iC,D.boxCells,D.live,D.cells?,D.pure?,ZM,ZL,ZN,Z1,ZG,ZH,St.setVec,tt,rE,maxLen,e8,cI,List.length_set] <;> exact rfl) ?_)
   (refine eF rfl (by simp (disch := omega) only [qop,fop,St.ev,St.put,cd,zd,Value.oneCell',lA,TypeDesc.aggB,Z0,cB,iop,iK,Int.toNat_zero,Int.toNat_one,xA,yA,wA,ZO,Nat.mul_one,ZC,Nat.zero_mul,Zh,iC,D.boxCells,D.live,D.cells?,D.pure?,ZM,ZL,ZN,Z1,ZG,ZH,St.setVec,tt,rE,maxLen,e8,cI,List.length_set] <;> exact rfl) (by simp only [St.put,Za,Zb] <;> exact rfl) ?_)
   (refine rG rfl (by simp (disch := omega) only [iA,aA,qop,fop,St.ev,St.put,cd,zd,Value.oneCell',lA,TypeDesc.aggB,Z0,cB,iop,iK,Int.toNat_zero,Int.toNat_one,xA,yA,wA,ZO,Nat.mul_one,ZC,Nat.zero_mul,Zh,iC,D.boxCells,D.live,D.cells?,D.pure?,ZM,ZL,ZN,Z1,ZG,ZH,St.setVec,tt,rE,maxLen,e8,cI,List.length_set] <;> exact rfl) ?_)
   refine xC ?_
   exact hK
  refine cE ?_
  refine jA ?_
  refine gA hX hb [0,1] rfl (σ' := ?s7) (fun K hK => ?h7) ?n7
  case h7 =>
   iterate 2 (refine kA rfl (by simp (disch := omega) only [iA,aA,qop,fop,St.ev,St.put,cd,zd,Value.oneCell',lA,TypeDesc.aggB,Z0,cB,iop,tt,rE,maxLen] <;> exact rfl) ?_)
   refine bA ?_
   exact hK
  refine jA ?_
  exact ⟨i + 1,by (try dsimp only); omega,by (try dsimp only); omega,rC ⟨rfl,(by repeat first | exact sA | refine mB ?_ | refine vA (by first | rfl | (exact (cI _ _ _ (by rw [List.length_set,rE]; omega)).trans (oM a b i (by omega)))) ?_),(pC rfl (dCA (by first | rfl | (exact (cI _ _ _ (by rw [List.length_set,rE]; omega)).trans (oM a b i (by omega))))) (xB _)),(yB _),rfl,rfl⟩⟩
 ·try simp only [Zp,Zi,ZK,ZJ,ne_eq,Zn,Zm,ZB,ZA,ZI,not_or,not_and,Zu] at hc0
  refine oD ?_
  refine fD ?_
  refine fD ?_
  refine zE ?_
  refine jA ?_
  refine cA ?_
  (have : i = 8 := by omega); subst this
  refine gA hX hb [0,1,2] rfl (σ' := ?s8) (fun K hK => ?h8) ?n8
  case h8 =>
   (refine kA rfl (by simp (disch := omega) only [iA,aA,qop,fop,St.ev,St.put,cd,zd,Value.oneCell',lA,TypeDesc.aggB,Z0,imp_self,Int.toNat_one,Int.toNat_zero,Nat.one_mul,nI,bnd,Option.isSome_none,ZP,Option.map_none,implies_true,forall_const,ZO,Nat.sub_zero,uA,D.pv?,tt,rE,maxLen] <;> exact rfl) ?_)
   refine yBA rfl rfl (by simp only [St.ev,pB,qB,zd,cd,Value.oneCell',Zr] <;> exact rfl) (by simp only [zM,pD,D.pvC?,D.pvN?,D.pvL?,eA,D.pv?,D.pure?,St.ev,pB,qB,zd,cd,Value.oneCell',Zr,ZG,ZH,Zd,Zc,Zg,qY] <;> exact rfl) (acK hP (zJA a b)) (by simp only [St.put,Za,Zb] <;> exact rfl) ?_
   (refine kA rfl (by simp (disch := omega) only [iA,aA,qop,fop,St.ev,St.put,cd,zd,Value.oneCell',lA,TypeDesc.aggB,Z0,imp_self,Int.toNat_one,Int.toNat_zero,Nat.one_mul,nI,bnd,Option.isSome_none,ZP,Option.map_none,implies_true,forall_const,ZO,Nat.sub_zero,uA,D.pv?,tt,rE,maxLen] <;> exact rfl) ?_)
   refine bA ?_
   exact hK
  refine jA ?_
  refine bC ?_
  exact zC rfl (zB rfl rfl)
end Go.Proofs.Ytldcoekbgfaomaa
end
section
namespace Go.Proofs.Ytldcoekbgfaomaa
open Go.RowKit
set_option maxRecDepth 20000
set_option maxHeartbeats 4000000
attribute [local irreducible] kE sD AW
theorem oHA {s f : Int} (h : sO s f = 0) : 1 ≤ s ∧ s ≤ 4096 ∧ 1 ≤ f ∧ f ≤ 4096 := by
 unfold sO at h
 split at h
 ·cases h
 ·split at h
  ·cases h
  ·omega
theorem zK {t : Tr} (h : ¬ sO t.size t.leaf = 0) : sC t = sO t.size t.leaf := by
 unfold sO at h ⊢
 unfold sC
 split
 ·rfl
 ·rename_i h0
  rw [if_neg h0] at h
  split
  ·rfl
  ·rename_i h1
   rw [if_neg h1] at h
   exact absurd rfl h
theorem c31 (t : Tr) : ACalls Try.prog 31 [trP t] (.p (i64 (sC t))) := by
 obtain ⟨s,f,lv⟩ := t
 refine wC oC Try.func31 (c := _) rfl (by kernel_rfl) ?_
 intro X hP hX hro hpl
 have hb : tb.Ok X.P := hP ▸ oC
 change AW X _ _ ⟨[],[.agg [i64 s,i64 f,iE lv],.any,.any,.any,.any,.any,.any,.any,.any,.any,.any,.any,.any,.any,.any,.any,.any,.any,.any,.any,.any,.any,.any,.any,.any,.any,.any,.any,.any,.any,.any,.any,.any,.any,.any,.any,.any,.any,.any,.any,.any,.any,.any,.any,.any,.any,.any,.any,.any,.any,.any,.any,.any,.any,.any,.any,.any,.any,.any,.any,.any,.any,.any,.any,.any,.any,.any,.any],[],[]⟩
 refine cA ?_
 refine gA hX hb [0,1] rfl (σ' := ?s1) (fun K hK => ?h1) ?n1
 case h1 =>
  iterate 2 (refine kA rfl (by simp (disch := omega) only [iA,aA,qop,fop,St.ev,St.put,cd,zd,Value.oneCell',lA,TypeDesc.aggB,Z0,ZM,ZL,Zl,Zo,ZG,ZH,St.addBox,D.boxCells,D.live,tt,mA,Zh,kD,ne_eq,not_true_eq_false,not_false_eq_true,rA] <;> exact rfl) ?_)
  refine bA ?_
  exact hK
 refine jA ?_
 refine cA ?_
 refine cA ?_
 refine gA hX hb [0,1,2,3,4,5] rfl (σ' := ?s2) (fun K hK => ?h2) ?n2
 case h2 =>
  iterate 4 (refine kA rfl (by simp (disch := omega) only [iA,aA,qop,fop,St.ev,St.put,cd,zd,Value.oneCell',lA,TypeDesc.aggB,Z0,fA,oA,Z1,pA,qA,tA,eA,D.pure?,ZC,ZD,uA,D.pv?,tt,mA,Zh,kD,ne_eq,not_true_eq_false,not_false_eq_true,rA] <;> exact rfl) ?_)
  refine mD rfl (by simp only [aA,St.ev,pB,qB,uA,D.pv?,ZG,ZH,zd,cd,Value.oneCell',Zr] <;> exact rfl) (acK hP (c64 s f)) (by simp only [St.put,Za,Zb] <;> exact rfl) ?_
  (refine kA rfl (by simp (disch := omega) only [iA,aA,qop,fop,St.ev,St.put,cd,zd,Value.oneCell',lA,TypeDesc.aggB,Z0,fA,oA,Z1,pA,qA,tA,eA,D.pure?,ZC,ZD,uA,D.pv?,tt,mA,Zh,kD,ne_eq,not_true_eq_false,not_false_eq_true,rA] <;> exact rfl) ?_)
  refine bA ?_
  exact hK
 refine jA ?_
 refine cA ?_
 refine gA hX hb [0,1] rfl (σ' := ?s3) (fun K hK => ?h3) ?n3
 case h3 =>
  iterate 2 (refine kA rfl (by simp (disch := omega) only [iA,aA,qop,fop,St.ev,St.put,cd,zd,Value.oneCell',lA,TypeDesc.aggB,Z0,cB,iop,tt,mA,Zh,kD,ne_eq,not_true_eq_false,not_false_eq_true,rA] <;> exact rfl) ?_)
  refine bA ?_
  exact hK
 refine jA ?_
 refine oB _ rfl (fun hc0 => ?_) (fun hc0 => ?_)
 ·try simp only [Zp,Zi,ZK,ZJ,ne_eq,Zn,Zm,ZB,ZA,ZI,not_or,not_and,Zu] at hc0
  refine cA ?_
  refine gA hX hb [0,1] rfl (σ' := ?s4) (fun K hK => ?h4) ?n4
  case h4 =>
   iterate 2 (refine kA rfl (by simp (disch := omega) only [iA,aA,qop,fop,St.ev,St.put,cd,zd,Value.oneCell',lA,TypeDesc.aggB,Z0,t3,ti3,mA,Zh,kD,ne_eq,not_true_eq_false,not_false_eq_true,rA] <;> exact rfl) ?_)
   refine bA ?_
   exact hK
  refine jA ?_
  refine bC ?_
  refine tC ?_
  exact zC rfl (zB rfl (by first | rfl | (first | exact congrArg (fun n => D.p (i64 n)) (zK (t := ⟨s,f,lv⟩) hc0).symm | exact congrArg (fun n => D.p (i64 n)) (fF (t := ⟨S,F,lv⟩) (by dsimp only; omega) (by dsimp only; omega) (qP hs (show i < lv.length by omega) hc2)).symm | exact congrArg (fun n => D.p (i64 n)) (fF (t := ⟨S,F,lv⟩) (by dsimp only; omega) (by dsimp only; omega) (by show shT S F lv = false; rw [show i = lv.length by omega] at hs; rw [wN hs]; exact decide_eq_false (by omega))).symm | exact congrArg (fun n => D.p (i64 n)) (xG (t := ⟨S,F,lv⟩) (by dsimp only; omega) (by dsimp only; omega) hsh hc5).symm | exact congrArg (fun n => D.p (i64 n)) (iH (t := ⟨S,F,lv⟩) (by dsimp only; omega) (by dsimp only; omega) hsh hc5).symm)))
 ·try simp only [Zp,Zi,ZK,ZJ,ne_eq,Zn,Zm,ZB,ZA,ZI,not_or,not_and,Zu] at hc0
  have hlim := oHA hc0
  obtain ⟨S,hS⟩ : ∃ S : Nat,s = S := ⟨s.toNat,by omega⟩
  subst hS
  obtain ⟨F,hF⟩ : ∃ F : Nat,f = F := ⟨f.toNat,by omega⟩
  subst hF
  have hnl := pJ (s := S) (n := F) (by omega)
  refine uB ?_
  refine jA ?_
  refine cA ?_
  refine gA hX hb [0,1,2,3,4,5] rfl (σ' := ?s5) (fun K hK => ?h5) ?n5
  case h5 =>
   iterate 4 (refine kA rfl (by simp (disch := omega) only [iA,aA,qop,fop,St.ev,St.put,cd,zd,Value.oneCell',lA,TypeDesc.aggB,Z0,fA,oA,Z1,pA,qA,tA,eA,D.pure?,ZC,ZD,uA,D.pv?,tt,mA,Zh,kD,ne_eq,not_true_eq_false,not_false_eq_true,rA] <;> exact rfl) ?_)
   refine mD rfl (by simp only [aA,St.ev,pB,qB,uA,D.pv?,ZG,ZH,zd,cd,Value.oneCell',Zr] <;> exact rfl) (acK hP (c76 S F (by omega) (by omega))) (by simp only [St.put,Za,Zb] <;> exact rfl) ?_
   (refine kA rfl (by simp (disch := omega) only [iA,aA,qop,fop,St.ev,St.put,cd,zd,Value.oneCell',lA,TypeDesc.aggB,Z0,fA,oA,Z1,pA,qA,tA,eA,D.pure?,ZC,ZD,uA,D.pv?,tt,mA,Zh,kD,ne_eq,not_true_eq_false,not_false_eq_true,rA] <;> exact rfl) ?_)
   refine bA ?_
   exact hK
  refine jA ?_
  refine cA ?_
  refine cA ?_
  refine gA hX hb [0,1,2,3] rfl (σ' := ?s6) (fun K hK => ?h6) ?n6
  case h6 =>
   iterate 4 (refine kA rfl (by simp (disch := omega) only [iA,aA,qop,fop,St.ev,St.put,cd,zd,Value.oneCell',lA,TypeDesc.aggB,Z0,fA,oA,Z1,pA,qA,tA,eA,D.pure?,ZC,ZD,vC,tt,mA,Zh,kD,ne_eq,not_true_eq_false,not_false_eq_true,rA] <;> exact rfl) ?_)
   refine bA ?_
   exact hK
  refine jA ?_
  refine tB ?_
  refine rD (ι := Nat × Nat) (fun p => p.1 ≤ lv.length ∧ p.2 ≤ 4096 ∧ ShN S F lv p.1 p.2) (fun p => ⟨[],[.any,.ptr 0 0,.any,.any,.p (i64 p.2),.any,.any,.any,.any,.any,.any,.any,.any,.any,.any,.any,.any,.any,.any,.any,.any,.any,.p (iE lv),.p (i64 (lv.length : Int)),.p (i64 p.1),.any,.any,.any,.any,.any,.any,.any,.any,.any,.any,.any,.any,.any,.any,.any,.any,.any,.any,.any,.any,.any,.any,.any,.any,.any,.any,.any,.any,.any,.any,.any,.any,.any,.any,.any,.any,.any,.any,.any,.any,.any,.any,.any],[⟨26,[.p (i64 (S : Int)),.p (i64 (F : Int)),.p (iE lv)]⟩],[]⟩) (fun p => lv.length - p.1) (0,wD S F) (by exact ⟨Nat.zero_le _,by dsimp only; omega,nAA (iN (by omega) (by omega))⟩) (rC ⟨rfl,(by repeat first | exact sA | refine mB ?_ | refine vA (by first | rfl | (refine congrArg (fun k => D.p (i64 k)) ?_; dsimp only; split <;> omega)) ?_),(pC rfl ((by repeat first | exact sA | refine mB ?_ | refine vA (by first | rfl | (refine congrArg (fun k => D.p (i64 k)) ?_; dsimp only; split <;> omega)) ?_)) (xB _)),(yB _),rfl,rfl⟩) ?_
  rintro ⟨i,n⟩ ⟨hi,hn,hs⟩
  dsimp only at hi hn hs ⊢
  refine cA ?_
  refine gA hX hb [0] rfl (σ' := ?s7) (fun K hK => ?h7) ?n7
  case h7 =>
   (refine kA rfl (by simp (disch := omega) only [iA,aA,qop,fop,St.ev,St.put,cd,zd,Value.oneCell',lA,TypeDesc.aggB,Z0,cB,iop,tt,mA,Zh,kD,ne_eq,not_true_eq_false,not_false_eq_true,rA] <;> exact rfl) ?_)
   refine bA ?_
   exact hK
  refine jA ?_
  refine cA ?_
  refine oB _ rfl (fun hc1 => ?_) (fun hc1 => ?_)
  ·try simp only [Zp,Zi,ZK,ZJ,ne_eq,Zn,Zm,ZB,ZA,ZI,not_or,not_and,Zu] at hc1
   refine uB ?_
   refine jA ?_
   refine cA ?_
   refine tB ?_
   refine cA ?_
   refine gA hX hb [0,1,2,3,4] rfl (σ' := ?s8) (fun K hK => ?h8) ?n8
   case h8 =>
    iterate 5 (refine kA rfl (by simp (disch := omega) only [iA,aA,qop,fop,St.ev,St.put,cd,zd,Value.oneCell',lA,TypeDesc.aggB,Z0,Int.toNat_zero,Int.toNat_one,xA,yA,wA,ZO,Nat.mul_one,ZC,Nat.zero_mul,Zh,Z1,pA,qA,tA,eA,D.pure?,ZD,tt,mA,kD,ne_eq,not_true_eq_false,not_false_eq_true,rA] <;> exact rfl) ?_)
    refine bA ?_
    exact hK
   refine jA ?_
   refine cA ?_
   refine cA ?_
   refine jI (t := 22) rfl fun hll => ?_
   unfold maxLen at hll
   refine vE hX hb [0,1,2,3,4,5,6,7,8,9,10,11,12,13,14,15] rfl (ts := [29,30,31,32,33,34,35,36,37,38,39,40,41,42,43]) (t := 44) (d := .p (bv ((lv.getD i []).length ≠ n ∨ (n = 1 ∧ i + 1 < lv.length)))) (σ' := ?s9) ?j9 ?h9 ?n9
   case j9 => simp only [St.join,List.foldl,Za,Zb]; exact rfl
   case h9 =>
    iterate 5 (all_goals refine kA rfl (by simp (disch := omega) only [iA,aA,qop,fop,St.ev,St.put,cd,zd,Value.oneCell',lA,TypeDesc.aggB,Z0,vC,cB,iop,fA,oA,Z1,pA,qA,tA,eA,D.pure?,ZC,ZD,tt,mA,Zh,kD,ne_eq,not_true_eq_false,not_false_eq_true,rA] <;> exact rfl) ?_)
    iterate 10 (all_goals first | (refine lC rfl rfl rfl (by simp (disch := omega) only [iA,aA,qop,fop,St.ev,St.put,cd,zd,Value.oneCell',lA,TypeDesc.aggB,Z0,vC,cB,iop,fA,oA,Z1,pA,qA,tA,eA,D.pure?,ZC,ZD,tt,mA,Zh,kD,ne_eq,not_true_eq_false,not_false_eq_true,rA] <;> exact rfl) ?_) | (first | (refine eC rfl rfl rfl (by simp only [St.put,Za,Zb] <;> exact rfl) ?_) | (refine fC rfl rfl rfl (by simp only [St.put,Za,Zb] <;> exact rfl) ?_)) | (refine cC rfl rfl rfl (by simp only [Za,Zb] <;> exact rfl) (by simp only [Za,Zb] <;> exact rfl) (fun hg => ?_) (fun hg => ?_) <;> (try simp only [Zp,Zi,ZJ,ZK,ne_eq,Zn,Zm,Bool.not_eq_true,Zu] at hg) <;> first | (refine lC rfl rfl rfl (by simp (disch := omega) only [iA,aA,qop,fop,St.ev,St.put,cd,zd,Value.oneCell',lA,TypeDesc.aggB,Z0,vC,cB,iop,fA,oA,Z1,pA,qA,tA,eA,D.pure?,ZC,ZD,tt,mA,Zh,kD,ne_eq,not_true_eq_false,not_false_eq_true,rA] <;> exact rfl) ?_) | (first | (refine eC rfl rfl rfl (by simp only [St.put,Za,Zb] <;> exact rfl) ?_) | (refine fC rfl rfl rfl (by simp only [St.put,Za,Zb] <;> exact rfl) ?_))))
    (all_goals refine kA rfl (by simp (disch := omega) only [iA,aA,qop,fop,St.ev,St.put,cd,zd,Value.oneCell',lA,TypeDesc.aggB,Z0,vC,cB,iop,fA,oA,Z1,pA,qA,tA,eA,D.pure?,ZC,ZD,tt,mA,Zh,kD,ne_eq,not_true_eq_false,not_false_eq_true,rA] <;> exact rfl) ?_)
    all_goals refine bA ?_
    all_goals refine ⟨rfl,?_,xD _,yD _,rfl,rfl⟩
    all_goals repeat' (first | exact sA | refine mB ?_ | refine vA rfl ?_ | refine vA ?_ ?_)
    all_goals refine jn ?_
    all_goals ((try simp only [Zp,Zi,ZJ,ZK,Bool.not_eq_true,Zm,Zn,ne_eq,Zf,true_iff,false_iff,iff_true,iff_false] at *) <;> omega)
   refine jA ?_
   refine oB _ rfl (fun hc2 => ?_) (fun hc2 => ?_)
   ·try simp only [Zp,Zi,ZK,ZJ,ne_eq,Zn,Zm,ZB,ZA,ZI,not_or,not_and,Zu] at hc2
    refine cA ?_
    refine gA hX hb [0] rfl (σ' := ?s10) (fun K hK => ?h10) ?n10
    case h10 =>
     (refine kA rfl (by simp (disch := omega) only [iA,aA,qop,fop,St.ev,St.put,cd,zd,Value.oneCell',lA,TypeDesc.aggB,Z0,t3,ti3,mA,Zh,kD,ne_eq,not_true_eq_false,not_false_eq_true,rA] <;> exact rfl) ?_)
     refine bA ?_
     exact hK
    refine jA ?_
    refine bC ?_
    refine tC ?_
    refine xE ?_
    refine tC ?_
    refine tC ?_
    refine xE ?_
    refine tC ?_
    exact zC rfl (zB rfl (by first | rfl | (first | exact congrArg (fun n => D.p (i64 n)) (zK (t := ⟨s,f,lv⟩) hc0).symm | exact congrArg (fun n => D.p (i64 n)) (fF (t := ⟨S,F,lv⟩) (by dsimp only; omega) (by dsimp only; omega) (qP hs (show i < lv.length by omega) hc2)).symm | exact congrArg (fun n => D.p (i64 n)) (fF (t := ⟨S,F,lv⟩) (by dsimp only; omega) (by dsimp only; omega) (by show shT S F lv = false; rw [show i = lv.length by omega] at hs; rw [wN hs]; exact decide_eq_false (by omega))).symm | exact congrArg (fun n => D.p (i64 n)) (xG (t := ⟨S,F,lv⟩) (by dsimp only; omega) (by dsimp only; omega) hsh hc5).symm | exact congrArg (fun n => D.p (i64 n)) (iH (t := ⟨S,F,lv⟩) (by dsimp only; omega) (by dsimp only; omega) hsh hc5).symm)))
   ·try simp only [Zp,Zi,ZK,ZJ,ne_eq,Zn,Zm,ZB,ZA,ZI,not_or,not_and,Zu] at hc2
    refine uB ?_
    refine jA ?_
    refine cA ?_
    refine cA ?_
    refine gA hX hb [0,1] rfl (σ' := ?s11) (fun K hK => ?h11) ?n11
    case h11 =>
     iterate 2 (refine kA rfl (by simp (disch := omega) only [iA,aA,qop,fop,St.ev,St.put,cd,zd,Value.oneCell',lA,TypeDesc.aggB,Z0,cB,iop,tt,mA,Zh,kD,ne_eq,not_true_eq_false,not_false_eq_true,rA] <;> exact rfl) ?_)
     refine bA ?_
     exact hK
    refine jA ?_
    refine oB _ rfl (fun hc3 => ?_) (fun hc3 => ?_)
    ·try simp only [Zp,Zi,ZK,ZJ,ne_eq,Zn,Zm,ZB,ZA,ZI,not_or,not_and,Zu] at hc3
     refine gA hX hb [0] rfl (σ' := ?s12) (fun K hK => ?h12) ?n12
     case h12 =>
      (refine kA rfl (by simp (disch := omega) only [iA,aA,qop,fop,St.ev,St.put,cd,zd,Value.oneCell',lA,TypeDesc.aggB,Z0,mA,Zh,kD,ne_eq,not_true_eq_false,not_false_eq_true,rA] <;> exact rfl) ?_)
      refine bA ?_
      exact hK
     refine jA ?_
     refine gA hX hb [0,1,2,3] rfl (σ' := ?s13) (fun K hK => ?h13) ?n13
     case h13 =>
      iterate 4 (refine kA rfl (by simp (disch := omega) only [iA,aA,qop,fop,St.ev,St.put,cd,zd,Value.oneCell',lA,TypeDesc.aggB,Z0,cB,iop,tt,mA,Zh,kD,ne_eq,not_true_eq_false,not_false_eq_true,rA] <;> exact rfl) ?_)
      refine bA ?_
      exact hK
     refine cE ?_
     refine jA ?_
     refine gA hX hb [0,1] rfl (σ' := ?s14) (fun K hK => ?h14) ?n14
     case h14 =>
      iterate 2 (refine kA rfl (by simp (disch := omega) only [iA,aA,qop,fop,St.ev,St.put,cd,zd,Value.oneCell',lA,TypeDesc.aggB,Z0,cB,iop,tt,mA,Zh,kD,ne_eq,not_true_eq_false,not_false_eq_true,rA] <;> exact rfl) ?_)
      refine bA ?_
      exact hK
     refine jA ?_
     exact ⟨(i + 1,((if n = 1 then 0 else n) + 1) / 2),by exact ⟨by dsimp only; omega,by dsimp only; split <;> omega,wW hs (by omega) (by omega) (by omega)⟩,by (try dsimp only); omega,rC ⟨rfl,(by repeat first | exact sA | refine mB ?_ | refine vA (by first | rfl | (refine congrArg (fun k => D.p (i64 k)) ?_; dsimp only; split <;> omega)) ?_),(pC rfl ((by repeat first | exact sA | refine mB ?_ | refine vA (by first | rfl | (refine congrArg (fun k => D.p (i64 k)) ?_; dsimp only; split <;> omega)) ?_)) (xB _)),(yB _),rfl,rfl⟩⟩
    ·try simp only [Zp,Zi,ZK,ZJ,ne_eq,Zn,Zm,ZB,ZA,ZI,not_or,not_and,Zu] at hc3
     refine uB ?_
     refine jA ?_
     refine gA hX hb [0,1,2,3] rfl (σ' := ?s15) (fun K hK => ?h15) ?n15
     case h15 =>
      iterate 4 (refine kA rfl (by simp (disch := omega) only [iA,aA,qop,fop,St.ev,St.put,cd,zd,Value.oneCell',lA,TypeDesc.aggB,Z0,cB,iop,tt,mA,Zh,kD,ne_eq,not_true_eq_false,not_false_eq_true,rA] <;> exact rfl) ?_)
      refine bA ?_
      exact hK
     refine cE ?_
     refine jA ?_
     refine gA hX hb [0,1] rfl (σ' := ?s16) (fun K hK => ?h16) ?n16
     case h16 =>
      iterate 2 (refine kA rfl (by simp (disch := omega) only [iA,aA,qop,fop,St.ev,St.put,cd,zd,Value.oneCell',lA,TypeDesc.aggB,Z0,cB,iop,tt,mA,Zh,kD,ne_eq,not_true_eq_false,not_false_eq_true,rA] <;> exact rfl) ?_)
      refine bA ?_
      exact hK
     refine jA ?_
     exact ⟨(i + 1,((if n = 1 then 0 else n) + 1) / 2),by exact ⟨by dsimp only; omega,by dsimp only; split <;> omega,wW hs (by omega) (by omega) (by omega)⟩,by (try dsimp only); omega,rC ⟨rfl,(by repeat first | exact sA | refine mB ?_ | refine vA (by first | rfl | (refine congrArg (fun k => D.p (i64 k)) ?_; dsimp only; split <;> omega)) ?_),(pC rfl ((by repeat first | exact sA | refine mB ?_ | refine vA (by first | rfl | (refine congrArg (fun k => D.p (i64 k)) ?_; dsimp only; split <;> omega)) ?_)) (xB _)),(yB _),rfl,rfl⟩⟩
  ·try simp only [Zp,Zi,ZK,ZJ,ne_eq,Zn,Zm,ZB,ZA,ZI,not_or,not_and,Zu] at hc1
   refine oD ?_
   refine fD ?_
   refine fD ?_
   refine zE ?_
   refine jA ?_
   refine cA ?_
   refine cA ?_
   refine gA hX hb [0,1] rfl (σ' := ?s17) (fun K hK => ?h17) ?n17
   case h17 =>
    iterate 2 (refine kA rfl (by simp (disch := omega) only [iA,aA,qop,fop,St.ev,St.put,cd,zd,Value.oneCell',lA,TypeDesc.aggB,Z0,cB,iop,tt,mA,Zh,kD,ne_eq,not_true_eq_false,not_false_eq_true,rA] <;> exact rfl) ?_)
    refine bA ?_
    exact hK
   refine jA ?_
   refine oB _ rfl (fun hc4 => ?_) (fun hc4 => ?_)
   ·try simp only [Zp,Zi,ZK,ZJ,ne_eq,Zn,Zm,ZB,ZA,ZI,not_or,not_and,Zu] at hc4
    refine cA ?_
    refine gA hX hb [0] rfl (σ' := ?s18) (fun K hK => ?h18) ?n18
    case h18 =>
     (refine kA rfl (by simp (disch := omega) only [iA,aA,qop,fop,St.ev,St.put,cd,zd,Value.oneCell',lA,TypeDesc.aggB,Z0,t3,ti3,mA,Zh,kD,ne_eq,not_true_eq_false,not_false_eq_true,rA] <;> exact rfl) ?_)
     refine bA ?_
     exact hK
    refine jA ?_
    refine bC ?_
    refine tC ?_
    exact zC rfl (zB rfl (by first | rfl | (first | exact congrArg (fun n => D.p (i64 n)) (zK (t := ⟨s,f,lv⟩) hc0).symm | exact congrArg (fun n => D.p (i64 n)) (fF (t := ⟨S,F,lv⟩) (by dsimp only; omega) (by dsimp only; omega) (qP hs (show i < lv.length by omega) hc2)).symm | exact congrArg (fun n => D.p (i64 n)) (fF (t := ⟨S,F,lv⟩) (by dsimp only; omega) (by dsimp only; omega) (by show shT S F lv = false; rw [show i = lv.length by omega] at hs; rw [wN hs]; exact decide_eq_false (by omega))).symm | exact congrArg (fun n => D.p (i64 n)) (xG (t := ⟨S,F,lv⟩) (by dsimp only; omega) (by dsimp only; omega) hsh hc5).symm | exact congrArg (fun n => D.p (i64 n)) (iH (t := ⟨S,F,lv⟩) (by dsimp only; omega) (by dsimp only; omega) hsh hc5).symm)))
   ·try simp only [Zp,Zi,ZK,ZJ,ne_eq,Zn,Zm,ZB,ZA,ZI,not_or,not_and,Zu] at hc4
    refine uB ?_
    refine jA ?_
    refine cA ?_
    have hsh : shT S F lv = true := by
     have e := hs
     rw [show i = lv.length by omega] at e
     rw [wN e]; exact decide_eq_true (by omega)
    have hhd := kP hsh
    refine gP hX hb (jD hP) [(0,true),(1,true),(2,true),(3,true),(4,true),(5,true),(6,true),(7,true)] 8 [(9,false),(10,false)] 9 [(8,false),(10,false)] (by kernel_rfl) (σ' := ?s19) (fun K hK => ?h19) ?n19
    case h19 =>
     iterate 8 (refine eF rfl (by simp (disch := omega) only [qop,fop,St.ev,St.put,cd,zd,Value.oneCell',lA,TypeDesc.aggB,Z0,fA,oA,Z1,pA,qA,tA,eA,D.pure?,ZC,ZD,Int.toNat_zero,Int.toNat_one,xA,yA,wA,ZO,Nat.mul_one,Nat.zero_mul,Zh,uA,D.pv?,ZM,ZL,ZG,ZH,St.addBox,Value.cells,iC,D.boxCells,D.live,D.cells?,ZN,St.setVec,tt,mA,kD,ne_eq,not_true_eq_false,not_false_eq_true,rA] <;> exact rfl) (by simp only [St.put,Za,Zb] <;> exact rfl) ?_)
     refine xC ?_
     refine ⟨?_,?_⟩
     ·refine eH rfl (by simp only [aA,St.ev,pB,qB,uA,D.pv?,ZG,ZH,zd,cd,Value.oneCell',Zr] <;> exact rfl) (acK hP (c67 c79 S F (lv.getD 0 []) (by omega) (by have := iN (s := S) (n := F) (by omega) (by omega); omega))) (by simp only [St.put,Za,Zb] <;> exact rfl) ?_
      iterate 2 (refine rG rfl (by simp (disch := omega) only [iA,aA,qop,fop,St.ev,St.put,cd,zd,Value.oneCell',lA,TypeDesc.aggB,Z0,fA,oA,Z1,pA,qA,tA,eA,D.pure?,ZC,ZD,Int.toNat_zero,Int.toNat_one,xA,yA,wA,ZO,Nat.mul_one,Nat.zero_mul,Zh,uA,D.pv?,ZM,ZL,ZG,ZH,St.addBox,Value.cells,iC,D.boxCells,D.live,D.cells?,ZN,St.setVec,tt,mA,kD,ne_eq,not_true_eq_false,not_false_eq_true,rA] <;> exact rfl) ?_)
      refine xC ?_
      exact hK
     ·(refine rG rfl (by simp (disch := omega) only [iA,aA,qop,fop,St.ev,St.put,cd,zd,Value.oneCell',lA,TypeDesc.aggB,Z0,fA,oA,Z1,pA,qA,tA,eA,D.pure?,ZC,ZD,Int.toNat_zero,Int.toNat_one,xA,yA,wA,ZO,Nat.mul_one,Nat.zero_mul,Zh,uA,D.pv?,ZM,ZL,ZG,ZH,St.addBox,Value.cells,iC,D.boxCells,D.live,D.cells?,ZN,St.setVec,tt,mA,kD,ne_eq,not_true_eq_false,not_false_eq_true,rA] <;> exact rfl) ?_)
      refine eH rfl (by simp only [aA,St.ev,pB,qB,uA,D.pv?,ZG,ZH,zd,cd,Value.oneCell',Zr] <;> exact rfl) (acK hP (c67 c79 S F (lv.getD 0 []) (by omega) (by have := iN (s := S) (n := F) (by omega) (by omega); omega))) (by simp only [St.put,Za,Zb] <;> exact rfl) ?_
      (refine rG rfl (by simp (disch := omega) only [iA,aA,qop,fop,St.ev,St.put,cd,zd,Value.oneCell',lA,TypeDesc.aggB,Z0,fA,oA,Z1,pA,qA,tA,eA,D.pure?,ZC,ZD,Int.toNat_zero,Int.toNat_one,xA,yA,wA,ZO,Nat.mul_one,Nat.zero_mul,Zh,uA,D.pv?,ZM,ZL,ZG,ZH,St.addBox,Value.cells,iC,D.boxCells,D.live,D.cells?,ZN,St.setVec,tt,mA,kD,ne_eq,not_true_eq_false,not_false_eq_true,rA] <;> exact rfl) ?_)
      refine xC ?_
      exact hK
    refine jA ?_
    refine cA ?_
    refine cA ?_
    refine gA hX hb [0,1,2,3,4,5] rfl (σ' := ?s20) (fun K hK => ?h20) ?n20
    case h20 =>
     iterate 4 (refine kA rfl (by simp (disch := omega) only [iA,aA,qop,fop,St.ev,St.put,cd,zd,Value.oneCell',lA,TypeDesc.aggB,Z0,fA,oA,Z1,pA,qA,tA,eA,D.pure?,ZC,ZD,uA,D.pv?,Bool.not_true,Bool.not_false,tt,mA,Zh,kD,ne_eq,not_true_eq_false,not_false_eq_true,rA] <;> exact rfl) ?_)
     refine mD rfl (by simp only [aA,St.ev,pB,qB,uA,D.pv?,ZG,ZH,zd,cd,Value.oneCell',Zr] <;> exact rfl) (acK hP (c77 _ _)) (by simp only [St.put,Za,Zb] <;> exact rfl) ?_
     (refine kA rfl (by simp (disch := omega) only [iA,aA,qop,fop,St.ev,St.put,cd,zd,Value.oneCell',lA,TypeDesc.aggB,Z0,fA,oA,Z1,pA,qA,tA,eA,D.pure?,ZC,ZD,uA,D.pv?,Bool.not_true,Bool.not_false,tt,mA,Zh,kD,ne_eq,not_true_eq_false,not_false_eq_true,rA] <;> exact rfl) ?_)
     refine bA ?_
     exact hK
    refine jA ?_
    refine oB _ rfl (fun hc5 => ?_) (fun hc5 => ?_)
    ·try simp only [Zp,Zi,ZK,ZJ,ne_eq,Zn,Zm,ZB,ZA,ZI,not_or,not_and,Zu] at hc5
     refine cA ?_
     refine gA hX hb [0] rfl (σ' := ?s21) (fun K hK => ?h21) ?n21
     case h21 =>
      (refine kA rfl (by simp (disch := omega) only [iA,aA,qop,fop,St.ev,St.put,cd,zd,Value.oneCell',lA,TypeDesc.aggB,Z0,tt,mA,Zh,kD,ne_eq,not_true_eq_false,not_false_eq_true,rA] <;> exact rfl) ?_)
      refine bA ?_
      exact hK
     refine jA ?_
     refine bC ?_
     refine tC ?_
     exact zC rfl (zB rfl (by first | rfl | (first | exact congrArg (fun n => D.p (i64 n)) (zK (t := ⟨s,f,lv⟩) hc0).symm | exact congrArg (fun n => D.p (i64 n)) (fF (t := ⟨S,F,lv⟩) (by dsimp only; omega) (by dsimp only; omega) (qP hs (show i < lv.length by omega) hc2)).symm | exact congrArg (fun n => D.p (i64 n)) (fF (t := ⟨S,F,lv⟩) (by dsimp only; omega) (by dsimp only; omega) (by show shT S F lv = false; rw [show i = lv.length by omega] at hs; rw [wN hs]; exact decide_eq_false (by omega))).symm | exact congrArg (fun n => D.p (i64 n)) (xG (t := ⟨S,F,lv⟩) (by dsimp only; omega) (by dsimp only; omega) hsh hc5).symm | exact congrArg (fun n => D.p (i64 n)) (iH (t := ⟨S,F,lv⟩) (by dsimp only; omega) (by dsimp only; omega) hsh hc5).symm)))
    ·try simp only [Zp,Zi,ZK,ZJ,ne_eq,Zn,Zm,ZB,ZA,ZI,not_or,not_and,Zu] at hc5
     refine uB ?_
     refine jA ?_
     refine cA ?_
     refine gA hX hb [0] rfl (σ' := ?s22) (fun K hK => ?h22) ?n22
     case h22 =>
      (refine kA rfl (by simp (disch := omega) only [iA,aA,qop,fop,St.ev,St.put,cd,zd,Value.oneCell',lA,TypeDesc.aggB,Z0,mA,Zh,kD,ne_eq,not_true_eq_false,not_false_eq_true,rA] <;> exact rfl) ?_)
      refine bA ?_
      exact hK
     refine jA ?_
     refine bC ?_
     exact zC rfl (zB rfl (by first | rfl | (first | exact congrArg (fun n => D.p (i64 n)) (zK (t := ⟨s,f,lv⟩) hc0).symm | exact congrArg (fun n => D.p (i64 n)) (fF (t := ⟨S,F,lv⟩) (by dsimp only; omega) (by dsimp only; omega) (qP hs (show i < lv.length by omega) hc2)).symm | exact congrArg (fun n => D.p (i64 n)) (fF (t := ⟨S,F,lv⟩) (by dsimp only; omega) (by dsimp only; omega) (by show shT S F lv = false; rw [show i = lv.length by omega] at hs; rw [wN hs]; exact decide_eq_false (by omega))).symm | exact congrArg (fun n => D.p (i64 n)) (xG (t := ⟨S,F,lv⟩) (by dsimp only; omega) (by dsimp only; omega) hsh hc5).symm | exact congrArg (fun n => D.p (i64 n)) (iH (t := ⟨S,F,lv⟩) (by dsimp only; omega) (by dsimp only; omega) hsh hc5).symm)))
end Go.Proofs.Ytldcoekbgfaomaa
end
section
namespace Go.Proofs.Ytldcoekbgfaomaa
open Go.RowKit
set_option maxRecDepth 20000
set_option maxHeartbeats 4000000
attribute [local irreducible] kE sD AW
theorem vQ {P : Program} {f : FuncId} {V : Vc} (h : ∀ (A : Option Addr) (c : Nat),ACallsO P f [.p (.v (.slice A 0 c))] V) : ACallsO P f [.p (.sl 0 [])] V :=
 ⟨(h none 0).en,fun F n C w vs hF hro hC hv => by
  obtain ⟨h1,h2⟩ := hv
  match vs,h1 with
  | [u],_ =>
  have hu := h2 0 _ u rfl rfl
  cases hu with | p _ _ hu =>
  obtain ⟨A,c,rfl⟩ := hu.sl_form
  refine (h A c).h F n C w [.slice A 0 c] hF hro hC ⟨rfl,fun j d u hd hu => ?_⟩
  cases j with
  | zero => simp at hd hu; subst hd; subst hu; exact .p _ _ (.v _ rfl)
  | succ j => simp at hd⟩
theorem sMA (l : List Int) (h : 0 < l.length) (h2 : l.length ≤ 4294967296) : ACallsO Try.prog 72 [.p (gH l)] ⟨58,1,l.length,l.map u64⟩ := by
 refine wH Try.func72 (c := _) rfl (by kernel_rfl) (t := 2) rfl ?_
 intro X hP hX hro hpl
 have hb : tb.Ok X.P := hP ▸ oC
 change AW X _ _ ⟨[],[.p (gH l),.any,.any,.any,.any,.any,.any,.any],[],[]⟩
 refine cA ?_
 refine gA hX hb [0] rfl (σ' := ?s1) (fun K hK => ?h1) ?n1
 case h1 =>
  (refine kA rfl (by simp (disch := omega) only [iA,aA,qop,fop,St.ev,St.put,cd,zd,Value.oneCell',lA,TypeDesc.aggB,Z0,Zh,tD,dD] <;> exact rfl) ?_)
  refine bA ?_
  exact hK
 refine jA ?_
 refine cA ?_
 refine cA ?_
 refine gA hX hb [0,1] rfl (σ' := ?s2) (fun K hK => ?h2) ?n2
 case h2 =>
  iterate 2 (refine kA rfl (by simp (disch := omega) only [iA,aA,qop,fop,St.ev,St.put,cd,zd,Value.oneCell',lA,TypeDesc.aggB,Z0,cB,iop,tt,Zh,tD,dD] <;> exact rfl) ?_)
  refine bA ?_
  exact hK
 refine jA ?_
 refine oB _ rfl (fun hc0 => ?_) (fun hc0 => ?_)
 ·try simp only [Zp,Zi,ZK,ZJ,ne_eq,Zn,Zm,ZB,ZA,ZI,not_or,not_and,Zu] at hc0
  cases hc0
 ·try simp only [Zp,Zi,ZK,ZJ,ne_eq,Zn,Zm,ZB,ZA,ZI,not_or,not_and,Zu] at hc0
  refine uB ?_
  refine jA ?_
  refine cA ?_
  refine gA hX (oO [5] hb) [0,1,2,3] rfl (σ' := ?s3) (fun K hK => ?h3) ?n3
  case h3 =>
   iterate 4 (refine kA rfl (by simp (disch := omega) only [iA,aA,qop,fop,St.ev,St.put,cd,zd,Value.oneCell',lA,TypeDesc.aggB,Z0,zD,aD,bD,bE,bB,rB,D.cells?,D.pure?,fB,gB,iB,jB,kB,ZG,ZH,ZL,ZM,ZN,Zl,Zo,aB,Nat.reduceAdd,Nat.reduceMul,nD,cG,St.demote,D.demote,St.setVec,Zh,List.length_append,ZC,Nat.mul_one,reduceIte,tt,tD,dD,fN,yI,xH,St.addVec] <;> exact rfl) ?_)
   refine bA ?_
   exact hK
  refine jA ?_
  refine bC ?_
  exact eK 0 rfl rfl rfl
theorem tMA (A : Option Addr) (c : Nat) : ACallsO Try.prog 72 [.p (.v (.slice A 0 c))] ⟨58,1,0,[]⟩ := by
 refine wH Try.func72 (c := _) rfl (by kernel_rfl) (t := 2) rfl ?_
 intro X hP hX hro hpl
 have hb : tb.Ok X.P := hP ▸ oC
 change AW X _ _ ⟨[],[.p (.v (.slice A 0 c)),.any,.any,.any,.any,.any,.any,.any],[],[]⟩
 refine cA ?_
 refine gA hX hb [0] rfl (σ' := ?s1) (fun K hK => ?h1) ?n1
 case h1 =>
  (refine kA rfl (by simp (disch := omega) only [iA,aA,qop,fop,St.ev,St.put,cd,zd,Value.oneCell',lA,TypeDesc.aggB,Z0] <;> exact rfl) ?_)
  refine bA ?_
  exact hK
 refine jA ?_
 refine cA ?_
 refine cA ?_
 refine gA hX hb [0,1] rfl (σ' := ?s2) (fun K hK => ?h2) ?n2
 case h2 =>
  iterate 2 (refine kA rfl (by simp (disch := omega) only [iA,aA,qop,fop,St.ev,St.put,cd,zd,Value.oneCell',lA,TypeDesc.aggB,Z0,cB,iop,tt] <;> exact rfl) ?_)
  refine bA ?_
  exact hK
 refine jA ?_
 refine oB _ rfl (fun hc0 => ?_) (fun hc0 => ?_)
 ·try simp only [Zp,Zi,ZK,ZJ,ne_eq,Zn,Zm,ZB,ZA,ZI,not_or,not_and,Zu] at hc0
  refine cA ?_
  refine gA hX hb [0] rfl (σ' := ?s3) (fun K hK => ?h3) ?n3
  case h3 =>
   (refine kA rfl (by simp (disch := omega) only [iA,aA,qop,fop,St.ev,St.put,cd,zd,Value.oneCell',lA,TypeDesc.aggB,Z0] <;> exact rfl) ?_)
   refine bA ?_
   exact hK
  refine jA ?_
  refine nJ 2 58 1 rfl (σ' := ?s4) ?h4 ?n4
  case h4 => simp only [St.nilSlot,St.addVec,Za,Zb,Zl,Zo,ZL,ZM]; exact rfl
  refine bC ?_
  refine tC ?_
  exact eK 0 rfl rfl rfl
 ·try simp only [Zp,Zi,ZK,ZJ,ne_eq,Zn,Zm,ZB,ZA,ZI,not_or,not_and,Zu] at hc0
  refine uB ?_
  refine jA ?_
  refine cA ?_
  refine cCA 0 rfl (σ' := ?s99) ?h99 ?n99
  case h99 => simp only [Za]; exact rfl
  refine gA hX (oO [5] hb) [0,1,2,3] rfl (σ' := ?s5) (fun K hK => ?h5) ?n5
  case h5 =>
   iterate 4 (refine kA rfl (by simp (disch := omega) only [iA,aA,qop,fop,St.ev,St.put,cd,zd,Value.oneCell',lA,TypeDesc.aggB,Z0,zD,aD,bD,bE,bB,rB,D.cells?,D.pure?,fB,gB,iB,jB,kB,ZG,ZH,ZL,ZM,ZN,Zl,Zo,aB,Nat.reduceAdd,Nat.reduceMul,nD,cG,St.demote,D.demote,St.setVec,Zh,List.length_append,ZC,Nat.mul_one,reduceIte,tt,fN,yI,xH,St.addVec] <;> exact rfl) ?_)
   refine bA ?_
   exact hK
  refine jA ?_
  refine bC ?_
  exact eK 0 rfl rfl rfl
theorem o72 (l : List Int) (h2 : l.length ≤ 4294967296) : ACallsO Try.prog 72 [.p (gH l)] ⟨58,1,l.length,l.map u64⟩ := by
 rcases Nat.eq_zero_or_pos l.length with h | h
 ·rw [List.length_eq_zero_iff] at h
  subst h
  exact vQ tMA
 ·exact sMA l h h2
theorem uMA (l : List Int) (h : 0 < l.length) (h2 : l.length ≤ 4294967296) : ACallsO Try.prog 88 [.p (mF l)] ⟨3,1,l.length,l.map i64⟩ := by
 refine wH Try.func88 (c := _) rfl (by kernel_rfl) (t := 2) rfl ?_
 intro X hP hX hro hpl
 have hb : tb.Ok X.P := hP ▸ oC
 change AW X _ _ ⟨[],[.p (mF l),.any,.any,.any,.any,.any,.any,.any],[],[]⟩
 refine cA ?_
 refine gA hX hb [0] rfl (σ' := ?s1) (fun K hK => ?h1) ?n1
 case h1 =>
  (refine kA rfl (by simp (disch := omega) only [iA,aA,qop,fop,St.ev,St.put,cd,zd,Value.oneCell',lA,TypeDesc.aggB,Z0,Zh,tD,dD] <;> exact rfl) ?_)
  refine bA ?_
  exact hK
 refine jA ?_
 refine cA ?_
 refine cA ?_
 refine gA hX hb [0,1] rfl (σ' := ?s2) (fun K hK => ?h2) ?n2
 case h2 =>
  iterate 2 (refine kA rfl (by simp (disch := omega) only [iA,aA,qop,fop,St.ev,St.put,cd,zd,Value.oneCell',lA,TypeDesc.aggB,Z0,cB,iop,tt,Zh,tD,dD] <;> exact rfl) ?_)
  refine bA ?_
  exact hK
 refine jA ?_
 refine oB _ rfl (fun hc0 => ?_) (fun hc0 => ?_)
 ·try simp only [Zp,Zi,ZK,ZJ,ne_eq,Zn,Zm,ZB,ZA,ZI,not_or,not_and,Zu] at hc0
  cases hc0
 ·try simp only [Zp,Zi,ZK,ZJ,ne_eq,Zn,Zm,ZB,ZA,ZI,not_or,not_and,Zu] at hc0
  refine uB ?_
  refine jA ?_
  refine cA ?_
  refine gA hX (oO [5] hb) [0,1,2,3] rfl (σ' := ?s3) (fun K hK => ?h3) ?n3
  case h3 =>
   iterate 4 (refine kA rfl (by simp (disch := omega) only [iA,aA,qop,fop,St.ev,St.put,cd,zd,Value.oneCell',lA,TypeDesc.aggB,Z0,zD,aD,bD,bE,bB,rB,D.cells?,D.pure?,fB,gB,iB,jB,kB,ZG,ZH,ZL,ZM,ZN,Zl,Zo,aB,Nat.reduceAdd,Nat.reduceMul,nD,cG,St.demote,D.demote,St.setVec,Zh,List.length_append,ZC,Nat.mul_one,reduceIte,tt,tD,dD,fN,yI,xH,St.addVec] <;> exact rfl) ?_)
   refine bA ?_
   exact hK
  refine jA ?_
  refine bC ?_
  exact eK 0 rfl rfl rfl
theorem vMA (A : Option Addr) (c : Nat) : ACallsO Try.prog 88 [.p (.v (.slice A 0 c))] ⟨3,1,0,[]⟩ := by
 refine wH Try.func88 (c := _) rfl (by kernel_rfl) (t := 2) rfl ?_
 intro X hP hX hro hpl
 have hb : tb.Ok X.P := hP ▸ oC
 change AW X _ _ ⟨[],[.p (.v (.slice A 0 c)),.any,.any,.any,.any,.any,.any,.any],[],[]⟩
 refine cA ?_
 refine gA hX hb [0] rfl (σ' := ?s1) (fun K hK => ?h1) ?n1
 case h1 =>
  (refine kA rfl (by simp (disch := omega) only [iA,aA,qop,fop,St.ev,St.put,cd,zd,Value.oneCell',lA,TypeDesc.aggB,Z0] <;> exact rfl) ?_)
  refine bA ?_
  exact hK
 refine jA ?_
 refine cA ?_
 refine cA ?_
 refine gA hX hb [0,1] rfl (σ' := ?s2) (fun K hK => ?h2) ?n2
 case h2 =>
  iterate 2 (refine kA rfl (by simp (disch := omega) only [iA,aA,qop,fop,St.ev,St.put,cd,zd,Value.oneCell',lA,TypeDesc.aggB,Z0,cB,iop,tt] <;> exact rfl) ?_)
  refine bA ?_
  exact hK
 refine jA ?_
 refine oB _ rfl (fun hc0 => ?_) (fun hc0 => ?_)
 ·try simp only [Zp,Zi,ZK,ZJ,ne_eq,Zn,Zm,ZB,ZA,ZI,not_or,not_and,Zu] at hc0
  refine cA ?_
  refine gA hX hb [0] rfl (σ' := ?s3) (fun K hK => ?h3) ?n3
  case h3 =>
   (refine kA rfl (by simp (disch := omega) only [iA,aA,qop,fop,St.ev,St.put,cd,zd,Value.oneCell',lA,TypeDesc.aggB,Z0] <;> exact rfl) ?_)
   refine bA ?_
   exact hK
  refine jA ?_
  refine nJ 2 3 1 rfl (σ' := ?s4) ?h4 ?n4
  case h4 => simp only [St.nilSlot,St.addVec,Za,Zb,Zl,Zo,ZL,ZM]; exact rfl
  refine bC ?_
  refine tC ?_
  exact eK 0 rfl rfl rfl
 ·try simp only [Zp,Zi,ZK,ZJ,ne_eq,Zn,Zm,ZB,ZA,ZI,not_or,not_and,Zu] at hc0
  refine uB ?_
  refine jA ?_
  refine cA ?_
  refine cCA 0 rfl (σ' := ?s99) ?h99 ?n99
  case h99 => simp only [Za]; exact rfl
  refine gA hX (oO [5] hb) [0,1,2,3] rfl (σ' := ?s5) (fun K hK => ?h5) ?n5
  case h5 =>
   iterate 4 (refine kA rfl (by simp (disch := omega) only [iA,aA,qop,fop,St.ev,St.put,cd,zd,Value.oneCell',lA,TypeDesc.aggB,Z0,zD,aD,bD,bE,bB,rB,D.cells?,D.pure?,fB,gB,iB,jB,kB,ZG,ZH,ZL,ZM,ZN,Zl,Zo,aB,Nat.reduceAdd,Nat.reduceMul,nD,cG,St.demote,D.demote,St.setVec,Zh,List.length_append,ZC,Nat.mul_one,reduceIte,tt,fN,yI,xH,St.addVec] <;> exact rfl) ?_)
   refine bA ?_
   exact hK
  refine jA ?_
  refine bC ?_
  exact eK 0 rfl rfl rfl
theorem o88 (l : List Int) (h2 : l.length ≤ 4294967296) : ACallsO Try.prog 88 [.p (mF l)] ⟨3,1,l.length,l.map i64⟩ := by
 rcases Nat.eq_zero_or_pos l.length with h | h
 ·rw [List.length_eq_zero_iff] at h
  subst h
  exact vQ vMA
 ·exact uMA l h h2
end Go.Proofs.Ytldcoekbgfaomaa
end
section
namespace Go.Proofs.Ytldcoekbgfaomaa
open Go.RowKit
set_option maxRecDepth 20000
set_option maxHeartbeats 4000000
attribute [local irreducible] kE sD AW
/-- Items that are extents. -/
def lG (l : List (Int × Int)) : List PV := l.map fun e => .agg [i64 e.1,i64 e.2]
theorem gK (l : List (Int × Int)) : (lG l).length = l.length := by simp [lG]
theorem yW (l : List (Int × Int)) (i : Nat) (h : i < l.length) : (lG l)[i]? = some (.agg [i64 (l.getD i (0,0)).1,i64 (l.getD i (0,0)).2]) := by simp [lG,h]
theorem zW {l : List (Int × Int)} {k : Nat} {y : PV} (h : (lG l)[k]? = some y) : k < l.length ∧ y = .agg [i64 (l.getD k (0,0)).1,i64 (l.getD k (0,0)).2] := by
 have hk : k < l.length := by have := (List.getElem?_eq_some_iff.1 h).1; simpa [lG] using this
 rw [yW l k hk] at h
 injection h with h
 exact ⟨hk,h.symm⟩
theorem lH (l : List (Int × Int)) (k : Nat) (h : k < l.length) : dE (l.take (k + 1)) = dE (l.take k) ++ [i64 (l.getD k (0,0)).1,i64 (l.getD k (0,0)).2] := by
 rw [uF l k h]; simp [dE]
theorem wMA (p q : Bool) : ACalls Try.prog 110 [.p (bv p),.p (bv q)] (.p (bv (p || q))) := by
 refine wC oC Try.func110 (c := _) rfl (by kernel_rfl) ?_
 intro X hP hX hro hpl
 have hb : tb.Ok X.P := hP ▸ oC
 change AW X _ _ ⟨[],[.p (bv p),.p (bv q),.any,.any,.any,.any,.any,.any,.any],[],[]⟩
 refine cA ?_
 refine gA hX hb [0] rfl (σ' := ?s1) (fun K hK => ?h1) ?n1
 case h1 =>
  (refine kA rfl (by simp (disch := omega) only [iA,aA,qop,fop,St.ev,St.put,cd,zd,Value.oneCell',lA,TypeDesc.aggB,Z0] <;> exact rfl) ?_)
  refine bA ?_
  exact hK
 refine jA ?_
 refine cA ?_
 refine vE hX hb [0,1,2,3,4] rfl (ts := [5,6,7,8]) (t := 4) (d := .p (bv (p = true ∨ q = true))) (σ' := ?s2) ?j2 ?h2 ?n2
 case j2 => simp only [St.join,List.foldl,Za,Zb]; exact rfl
 case h2 =>
  iterate 2 (all_goals refine kA rfl (by simp (disch := omega) only [iA,aA,qop,fop,St.ev,St.put,cd,zd,Value.oneCell',lA,TypeDesc.aggB,Z0,tt] <;> exact rfl) ?_)
  (all_goals first | (refine lC rfl rfl rfl (by simp (disch := omega) only [iA,aA,qop,fop,St.ev,St.put,cd,zd,Value.oneCell',lA,TypeDesc.aggB,Z0,tt] <;> exact rfl) ?_) | (first | (refine eC rfl rfl rfl (by simp only [St.put,Za,Zb] <;> exact rfl) ?_) | (refine fC rfl rfl rfl (by simp only [St.put,Za,Zb] <;> exact rfl) ?_)) | (refine cC rfl rfl rfl (by simp only [Za,Zb] <;> exact rfl) (by simp only [Za,Zb] <;> exact rfl) (fun hg => ?_) (fun hg => ?_) <;> (try simp only [Zp,Zi,ZJ,ZK,ne_eq,Zn,Zm,Bool.not_eq_true,Zu] at hg) <;> first | (refine lC rfl rfl rfl (by simp (disch := omega) only [iA,aA,qop,fop,St.ev,St.put,cd,zd,Value.oneCell',lA,TypeDesc.aggB,Z0,tt] <;> exact rfl) ?_) | (first | (refine eC rfl rfl rfl (by simp only [St.put,Za,Zb] <;> exact rfl) ?_) | (refine fC rfl rfl rfl (by simp only [St.put,Za,Zb] <;> exact rfl) ?_))))
  iterate 2 (all_goals refine kA rfl (by simp (disch := omega) only [iA,aA,qop,fop,St.ev,St.put,cd,zd,Value.oneCell',lA,TypeDesc.aggB,Z0,tt] <;> exact rfl) ?_)
  all_goals refine bA ?_
  all_goals refine ⟨rfl,?_,xD _,yD _,rfl,rfl⟩
  all_goals repeat' (first | exact sA | refine mB ?_ | refine vA rfl ?_ | refine vA ?_ ?_)
  all_goals refine jn ?_
  all_goals (cases p <;> cases q <;> simp_all)
 refine jA ?_
 refine bC ?_
 exact zC rfl (zB rfl (by first | rfl | (cases p <;> cases q <;> rfl)))
theorem xMA (s c : Nat) (h1 : 1 ≤ c) (h2 : s + c ≤ 4096) : ACalls Try.prog 122 [.agg [i64 s,i64 c]] (.tup [.p (i64 s),.p (i64 (s + c : Nat)),.p (bv true)]) := by
 refine wC oC Try.func122 (c := _) rfl (by kernel_rfl) ?_
 intro X hP hX hro hpl
 have hb : tb.Ok X.P := hP ▸ oC
 change AW X _ _ ⟨[],[.agg [i64 s,i64 c],.any,.any,.any,.any,.any,.any,.any,.any,.any,.any,.any,.any,.any,.any,.any,.any,.any,.any,.any,.any,.any,.any,.any,.any,.any,.any,.any,.any,.any,.any,.any,.any,.any,.any],[],[]⟩
 refine cA ?_
 refine gA hX hb [0,1,2,3] rfl (σ' := ?s1) (fun K hK => ?h1) ?n1
 case h1 =>
  iterate 4 (refine kA rfl (by simp (disch := omega) only [iA,aA,qop,fop,St.ev,St.put,cd,zd,Value.oneCell',lA,TypeDesc.aggB,Z0,ZM,ZL,Zl,Zo,ZG,ZH,St.addBox,D.boxCells,D.live,tt] <;> exact rfl) ?_)
  refine bA ?_
  exact hK
 refine jA ?_
 refine cA ?_
 refine cA ?_
 refine gA hX hb [0,1,2] rfl (σ' := ?s2) (fun K hK => ?h2) ?n2
 case h2 =>
  iterate 3 (refine kA rfl (by simp (disch := omega) only [iA,aA,qop,fop,St.ev,St.put,cd,zd,Value.oneCell',lA,TypeDesc.aggB,Z0,fA,oA,Z1,pA,qA,tA,eA,D.pure?,ZC,ZD,cB,iop,tt] <;> exact rfl) ?_)
  refine bA ?_
  exact hK
 refine jA ?_
 refine oB _ rfl (fun hc0 => ?_) (fun hc0 => ?_)
 ·try simp only [Zp,Zi,ZK,ZJ,ne_eq,Zn,Zm,ZB,ZA,ZI,not_or,not_and,Zu] at hc0
  omega
 ·try simp only [Zp,Zi,ZK,ZJ,ne_eq,Zn,Zm,ZB,ZA,ZI,not_or,not_and,Zu] at hc0
  refine uB ?_
  refine jA ?_
  refine cA ?_
  refine gA hX hb [0,1,2,3,4] rfl (σ' := ?s3) (fun K hK => ?h3) ?n3
  case h3 =>
   iterate 5 (refine kA rfl (by simp (disch := omega) only [iA,aA,qop,fop,St.ev,St.put,cd,zd,Value.oneCell',lA,TypeDesc.aggB,Z0,fA,oA,Z1,pA,qA,tA,eA,D.pure?,ZC,ZD,xEA,tt] <;> exact rfl) ?_)
   refine bA ?_
   exact hK
  refine jA ?_
  refine cA ?_
  refine cA ?_
  refine vE hX hb [0,1,2,3,4,5,6,7,8,9,10] rfl (ts := [13,14,15,16,17,18,19,20,21,22]) (t := 23) (d := .p (bv (c + s < 4096))) (σ' := ?s4) ?j4 ?h4 ?n4
  case j4 => simp only [St.join,List.foldl,Za,Zb]; exact rfl
  case h4 =>
   iterate 4 (all_goals refine kA rfl (by simp (disch := omega) only [iA,aA,qop,fop,St.ev,St.put,cd,zd,Value.oneCell',lA,TypeDesc.aggB,Z0,fA,oA,Z1,pA,qA,tA,eA,D.pure?,ZC,ZD,cB,iop,tt] <;> exact rfl) ?_)
   iterate 6 (all_goals first | (refine lC rfl rfl rfl (by simp (disch := omega) only [iA,aA,qop,fop,St.ev,St.put,cd,zd,Value.oneCell',lA,TypeDesc.aggB,Z0,fA,oA,Z1,pA,qA,tA,eA,D.pure?,ZC,ZD,cB,iop,tt] <;> exact rfl) ?_) | (first | (refine eC rfl rfl rfl (by simp only [St.put,Za,Zb] <;> exact rfl) ?_) | (refine fC rfl rfl rfl (by simp only [St.put,Za,Zb] <;> exact rfl) ?_)) | (refine cC rfl rfl rfl (by simp only [Za,Zb] <;> exact rfl) (by simp only [Za,Zb] <;> exact rfl) (fun hg => ?_) (fun hg => ?_) <;> (try simp only [Zp,Zi,ZJ,ZK,ne_eq,Zn,Zm,Bool.not_eq_true,Zu] at hg) <;> first | (refine lC rfl rfl rfl (by simp (disch := omega) only [iA,aA,qop,fop,St.ev,St.put,cd,zd,Value.oneCell',lA,TypeDesc.aggB,Z0,fA,oA,Z1,pA,qA,tA,eA,D.pure?,ZC,ZD,cB,iop,tt] <;> exact rfl) ?_) | (first | (refine eC rfl rfl rfl (by simp only [St.put,Za,Zb] <;> exact rfl) ?_) | (refine fC rfl rfl rfl (by simp only [St.put,Za,Zb] <;> exact rfl) ?_))))
   (all_goals refine kA rfl (by simp (disch := omega) only [iA,aA,qop,fop,St.ev,St.put,cd,zd,Value.oneCell',lA,TypeDesc.aggB,Z0,fA,oA,Z1,pA,qA,tA,eA,D.pure?,ZC,ZD,cB,iop,tt] <;> exact rfl) ?_)
   all_goals refine bA ?_
   all_goals refine ⟨rfl,?_,xD _,yD _,rfl,rfl⟩
   all_goals repeat' (first | exact sA | refine mB ?_ | refine vA rfl ?_ | refine vA ?_ ?_)
   all_goals refine jn ?_
   all_goals ((try simp only [Zp,Zi,ZJ,ZK,Bool.not_eq_true,Zm,Zn,ne_eq,Zf,true_iff,false_iff,iff_true,iff_false] at *) <;> omega)
  refine jA ?_
  refine oB _ rfl (fun hc1 => ?_) (fun hc1 => ?_)
  ·try simp only [Zp,Zi,ZK,ZJ,ne_eq,Zn,Zm,ZB,ZA,ZI,not_or,not_and,Zu] at hc1
   refine gA hX hb [0,1,2,3,4,5,6] rfl (σ' := ?s5) (fun K hK => ?h5) ?n5
   case h5 =>
    iterate 7 (refine kA rfl (by simp (disch := omega) only [iA,aA,qop,fop,St.ev,St.put,cd,zd,Value.oneCell',lA,TypeDesc.aggB,Z0,fA,oA,Z1,pA,qA,tA,eA,D.pure?,ZC,ZD,cB,iop,aF,tt] <;> exact rfl) ?_)
    refine bA ?_
    exact hK
   refine jA ?_
   refine cA ?_
   refine gA hX hb [0,1,2,3,4,5,6,7] rfl (σ' := ?s6) (fun K hK => ?h6) ?n6
   case h6 =>
    iterate 8 (refine kA rfl (by simp (disch := omega) only [iA,aA,qop,fop,St.ev,St.put,cd,zd,Value.oneCell',lA,TypeDesc.aggB,Z0,cB,iop,tt] <;> exact rfl) ?_)
    refine bA ?_
    exact hK
   refine jA ?_
   refine bC ?_
   exact zC rfl (iF rfl rfl rfl (by first | rfl | (first | (refine congrArg D.tup ?_; refine congr (congrArg _ (congrArg (fun n => PV.p (i64 n)) (by omega))) (congr (congrArg _ (congrArg (fun n => PV.p (i64 n)) (by omega))) (congrArg (fun b => [PV.p (bv b)]) (decide_eq_true (by omega))))))))
  ·try simp only [Zp,Zi,ZK,ZJ,ne_eq,Zn,Zm,ZB,ZA,ZI,not_or,not_and,Zu] at hc1
   refine uB ?_
   refine jA ?_
   refine cA ?_
   refine gA hX hb [0,1,2,3,4,5,6,7] rfl (σ' := ?s7) (fun K hK => ?h7) ?n7
   case h7 =>
    iterate 8 (refine kA rfl (by simp (disch := omega) only [iA,aA,qop,fop,St.ev,St.put,cd,zd,Value.oneCell',lA,TypeDesc.aggB,Z0,cB,iop,tt] <;> exact rfl) ?_)
    refine bA ?_
    exact hK
   refine jA ?_
   refine bC ?_
   exact zC rfl (iF rfl rfl rfl (by first | rfl | (first | (refine congrArg D.tup ?_; refine congr (congrArg _ (congrArg (fun n => PV.p (i64 n)) (by omega))) (congr (congrArg _ (congrArg (fun n => PV.p (i64 n)) (by omega))) (congrArg (fun b => [PV.p (bv b)]) (decide_eq_true (by omega))))))))
theorem yMA (f : FuncId) (xs : List P1) (l : List (Int × Int)) (hs : SeqC Try.prog f xs (lG l)) (hl : l.length ≤ 4294967296) : ACalls Try.prog 118 [.p (.v (.slice none 0 0)),.p (.clo f xs)] (.p (gD l)) := by
 refine wC oC Try.func118 (c := _) rfl (by kernel_rfl) ?_
 intro X hP hX hro hpl
 have hb : tb.Ok X.P := hP ▸ oC
 change AW X _ _ ⟨[],[.p (.v (.slice none 0 0)),.p (.clo f xs),.any,.any,.any,.any,.any,.any,.any,.any,.any,.any,.any],[],[]⟩
 refine uEA 0 rfl (σ' := ?s1) ?h1 ?n1
 case h1 => simp only [Za,Zb]; exact rfl
 refine cA ?_
 refine gA hX hb [0,1] rfl (σ' := ?s2) (fun K hK => ?h2) ?n2
 case h2 =>
  iterate 2 (refine kA rfl (by simp (disch := omega) only [iA,aA,qop,fop,St.ev,St.put,cd,zd,Value.oneCell',lA,TypeDesc.aggB,Z0,ZM,ZL,Zl,Zo,ZG,ZH,St.addBox,D.boxCells,D.live,tt,dD] <;> exact rfl) ?_)
  refine bA ?_
  exact hK
 refine jA ?_
 refine jM 0 0 _ 35 2 rfl rfl (σ' := ?s3) ?h3 ?n3
 case h3 => simp only [St.nilCell,St.addVec,Za,Zb,Zl,Zo,ZL,ZM]; exact rfl
 refine cA ?_
 refine cA ?_
 refine gA hX hb [0] rfl (σ' := ?s4) (fun K hK => ?h4) ?n4
 case h4 =>
  (refine kA rfl (by simp (disch := omega) only [iA,aA,qop,fop,St.ev,St.put,cd,zd,Value.oneCell',lA,TypeDesc.aggB,Z0,t1,ti1,dD] <;> exact rfl) ?_)
  refine bA ?_
  exact hK
 refine jA ?_
 refine tB ?_
 refine aM hX hro hpl.j [] [.any,.p (.clo f xs),.ptr 0 0,.any,.any,.any,.p (.clo f xs),.any,.any,.any,.any,.any,.any] 1 (fun (k : Nat) => [⟨40,[.vref 0]⟩]) (fun (k : Nat) => [some ⟨35,2,(l.take k).length,dE (l.take k)⟩]) [⟨40,[.vref 0]⟩] [some ⟨35,2,l.length,dE l⟩] (rC ⟨rfl,(by repeat first | exact sA | refine mB ?_ | refine vA (by first | rfl | (rw [lH l k hk]; simp <;> omega)) ?_),(pC rfl (vA (by first | rfl | (rw [lH l k hk]; simp <;> omega)) (sA)) (xB _)),(jE (by first | rfl | (rw [lH l k hk]; simp <;> omega)) (yB _)),rfl,rfl⟩) rfl rfl (hP ▸ (hs)) rfl rfl rfl (by first | rfl | (rw [gK,List.take_length])) (by first | rfl | (rw [gK,List.take_length])) ?_ ?_
 ·intro k y hy
  obtain ⟨hk,rfl⟩ := zW hy
  have hkl : (l.take k).length = k := by rw [List.length_take]; omega
  unfold gL
  intro X1 hQ hX
  have hP0 := hP; have hP := hQ.trans hP; have hb : tb.Ok X1.P := hP ▸ oC
  change AW X1 _ _ ⟨[.pin 1],[.any,.p (.clo f xs),.ptr 0 0,.any,.any,.any,.p (.clo f xs),.agg [i64 (l.getD k (0,0)).1,i64 (l.getD k (0,0)).2],.any,.any,.any,.any,.any],[⟨40,[.vref 0]⟩],[some ⟨35,2,(l.take k).length,dE (l.take k)⟩]⟩
  refine gA hX hb [0,1] rfl (σ' := ?s5) (fun K hK => ?h5) ?n5
  case h5 =>
   iterate 2 (refine kA rfl (by simp (disch := omega) only [iA,aA,qop,fop,St.ev,St.put,cd,zd,Value.oneCell',lA,TypeDesc.aggB,Z0,ZM,ZL,Z1,ZG,ZH,St.addBox,Value.cells,iC,D.boxCells,D.live,D.cells?,D.pure?,ZN,St.setVec,ZC,tt,dD] <;> exact rfl) ?_)
   refine bA ?_
   exact hK
  refine ⟨rfl,rfl,?_⟩
  intro X2 hQ2 hX
  have hP := hQ2.trans hP0; have hb : tb.Ok X2.P := hP ▸ oC
  refine tB ?_
  refine gA hX hb [0,1,2,3,4] rfl (σ' := ?s6) (fun K hK => ?h6) ?n6
  case h6 =>
   iterate 5 (refine kA rfl (by simp (disch := omega) only [iA,aA,qop,fop,St.ev,St.put,cd,zd,Value.oneCell',lA,TypeDesc.aggB,Z0,Z1,pA,qA,tA,eA,D.pure?,ZC,ZD,zD,aD,bD,bE,bB,rB,D.cells?,fB,gB,iB,jB,kB,ZG,ZH,ZL,ZM,ZN,aB,Nat.reduceAdd,Nat.reduceMul,nD,cG,St.demote,D.demote,St.setVec,Zh,List.length_append,Nat.mul_one,reduceIte,iC,D.boxCells,D.live,tt,dD] <;> exact rfl) ?_)
   refine bA ?_
   exact hK
  refine cE ?_
  exact ⟨rfl,rC ⟨(by first | rfl | (rw [lH l k hk]; simp <;> omega)),mB (mB (mB (mB (mB (mB (mB (mB (mB (mB (mB (mB (mB (sA))))))))))))),(pC rfl (vA (by first | rfl | (rw [lH l k hk]; simp <;> omega)) (sA)) (xB _)),(jE (by first | rfl | (rw [lH l k hk]; simp <;> omega)) (yB _)),rfl,rfl⟩⟩
 refine cE ?_
 refine jA ?_
 refine cA ?_
 refine nH 0 rfl (σ' := ?s8) ?h8 ?n8
 case h8 => simp only [St.freeze,D.freeze,ZG,ZH,Za,Zb,Zr,reduceIte,Nat.reduceEqDiff]; exact rfl
 refine gA hX hb [0,1] rfl (σ' := ?s7) (fun K hK => ?h7) ?n7
 case h7 =>
  iterate 2 (refine kA rfl (by simp (disch := omega) only [iA,aA,qop,fop,St.ev,St.put,cd,zd,Value.oneCell',lA,TypeDesc.aggB,Z0,Z1,pA,qA,tA,eA,D.pure?,ZC,ZD,tt,dD] <;> exact rfl) ?_)
  refine bA ?_
  exact hK
 refine jA ?_
 refine bC ?_
 exact kM (zB rfl rfl)
theorem zMA (f : FuncId) (xs : List P1) (l : List (Int × Int)) (hs : SeqC Try.prog f xs (lG l)) (hl : l.length ≤ 4294967296) : ACalls Try.prog 108 [.p (.clo f xs)] (.p (gD l)) := by
 refine wC oC Try.func108 (c := _) rfl (by kernel_rfl) ?_
 intro X hP hX hro hpl
 have hb : tb.Ok X.P := hP ▸ oC
 change AW X _ _ ⟨[],[.p (.clo f xs),.any,.any,.any,.any],[],[]⟩
 refine cA ?_
 refine gA hX hb [0] rfl (σ' := ?s1) (fun K hK => ?h1) ?n1
 case h1 =>
  (refine kA rfl (by simp (disch := omega) only [iA,aA,qop,fop,St.ev,St.put,cd,zd,Value.oneCell',lA,TypeDesc.aggB,Z0] <;> exact rfl) ?_)
  refine bA ?_
  exact hK
 refine jA ?_
 refine cA ?_
 refine gA hX hb [0,1,2] rfl (σ' := ?s2) (fun K hK => ?h2) ?n2
 case h2 =>
  (refine kA rfl (by simp (disch := omega) only [iA,aA,qop,fop,St.ev,St.put,cd,zd,Value.oneCell',lA,TypeDesc.aggB,Z0,uA,D.pv?,tt] <;> exact rfl) ?_)
  refine oGA rfl rfl (by simp only [St.ev,pB,qB,zd,cd,Value.oneCell',Zr] <;> exact rfl) (by simp only [aN,pD,D.pvC?,D.pvN?,D.pvL?,eA,D.pv?,D.pure?,St.ev,pB,qB,zd,cd,Value.oneCell',Zr,ZG,ZH,Zd,Zc,Zg] <;> exact rfl) (acK hP (yMA f xs l hs hl)) (by simp only [St.put,Za,Zb] <;> exact rfl) ?_
  (refine kA rfl (by simp (disch := omega) only [iA,aA,qop,fop,St.ev,St.put,cd,zd,Value.oneCell',lA,TypeDesc.aggB,Z0,uA,D.pv?,tt] <;> exact rfl) ?_)
  refine bA ?_
  exact hK
 refine jA ?_
 refine bC ?_
 exact zC rfl (zB rfl rfl)
theorem aNA (a b : List (Int × Int)) (g : FuncId) : ACalls Try.prog 109 [.p (gD a),.p (gD b),.p (.v (.func (.func g) #[] #[]))] (.p (.clo 119 [gD a,gD b,.v (.func (.func g) #[] #[])])) := by
 refine nO Try.func109 (c := _) rfl (by kernel_rfl) (t := 6) rfl ?_
 intro X hP hX hro hpl
 have hb : tb.Ok X.P := hP ▸ oC
 change AW X _ _ ⟨[],[.p (gD a),.p (gD b),.p (.v (.func (.func g) #[] #[])),.any,.any,.any,.any,.any],[],[]⟩
 refine cA ?_
 refine gA hX hb [0,1,2,3] rfl (σ' := ?s1) (fun K hK => ?h1) ?n1
 case h1 =>
  iterate 4 (refine kA rfl (by simp (disch := omega) only [iA,aA,qop,fop,St.ev,St.put,cd,zd,Value.oneCell',lA,TypeDesc.aggB,Z0,ZM,ZL,Zl,Zo,ZG,ZH,St.addBox,D.boxCells,D.live,tt] <;> exact rfl) ?_)
  refine bA ?_
  exact hK
 refine jA ?_
 refine cA ?_
 refine gA hX hb [0,1] rfl (σ' := ?s2) (fun K hK => ?h2) ?n2
 case h2 =>
  iterate 2 (refine kA rfl (by simp (disch := omega) only [iA,aA,qop,fop,St.ev,St.put,cd,zd,Value.oneCell',lA,TypeDesc.aggB,Z0,pL,eq_self,Array.toList,tt] <;> exact rfl) ?_)
  refine bA ?_
  exact hK
 refine jA ?_
 refine bC ?_
 exact kY [0,1,2] rfl (by simp only [pD,D.pure?,Zd,Zc] <;> exact rfl)
end Go.Proofs.Ytldcoekbgfaomaa
end
section
namespace Go.Proofs.Ytldcoekbgfaomaa
open Go.Shelf
def oAA : Go.Shelf.Ren := ⟨fun | 6 => 123 | 15 => 127 | 14 => 126 | 28 => 137 | 29 => 138 | 20 => 129 | 21 => 130 | 22 => 131 | 23 => 132 | 24 => 133 | 25 => 134 | 26 => 135 | 27 => 136 | 46 => 139 | 47 => 140 | 48 => 141 | 49 => 142 | 50 => 143 | 57 => 144 | n => n,fun | 22 => 181 | 24 => 185 | 25 => 190 | 3 => 3 | 39 => 177 | 0 => 0 | 53 => 201 | 55 => 58 | 4 => 4 | 46 => 195 | 45 => 194 | 50 => 131 | 5 => 5 | 9 => 9 | 66 => 203 | 70 => 207 | 76 => 209 | 77 => 108 | n => n,fun | n => n⟩
theorem dGA : Go.Proofs.SlLaysF0.n6 Try.prog oAA := {
 mixed := by kernel_rfl
 f6 := ⟨Try.f123.name,by decide,Try.func123.trans (congrArg some (by kernel_rfl))⟩
 f14 := ⟨Try.f126.name,by decide,Try.func126.trans (congrArg some (by kernel_rfl))⟩
 f15 := Try.func127.trans (congrArg some (by kernel_rfl))
 f20 := ⟨Try.f129.name,by decide,Try.func129.trans (congrArg some (by kernel_rfl))⟩
 f21 := ⟨Try.f130.name,by decide,Try.func130.trans (congrArg some (by kernel_rfl))⟩
 f22 := ⟨Try.f131.name,by decide,Try.func131.trans (congrArg some (by kernel_rfl))⟩
 f23 := ⟨Try.f132.name,by decide,Try.func132.trans (congrArg some (by kernel_rfl))⟩
 f24 := ⟨Try.f133.name,by decide,Try.func133.trans (congrArg some (by kernel_rfl))⟩
 f25 := ⟨Try.f134.name,by decide,Try.func134.trans (congrArg some (by kernel_rfl))⟩
 f26 := ⟨Try.f135.name,by decide,Try.func135.trans (congrArg some (by kernel_rfl))⟩
 f27 := ⟨Try.f136.name,by decide,Try.func136.trans (congrArg some (by kernel_rfl))⟩
 f28 := Try.func137.trans (congrArg some (by kernel_rfl))
 f29 := Try.func138.trans (congrArg some (by kernel_rfl))
 f46 := ⟨Try.f139.name,by decide,Try.func139.trans (congrArg some (by kernel_rfl))⟩
 f47 := Try.func140.trans (congrArg some (by kernel_rfl))
 f48 := Try.func141.trans (congrArg some (by kernel_rfl))
 f49 := ⟨Try.f142.name,by decide,Try.func142.trans (congrArg some (by kernel_rfl))⟩
 f50 := ⟨Try.f143.name,by decide,Try.func143.trans (congrArg some (by kernel_rfl))⟩
 f57 := ⟨Try.f144.name,by decide,Try.func144.trans (congrArg some (by kernel_rfl))⟩
 t0 := Try.underlying0
 a0 := Try.isAgg0
 z0 := Try.sizeOf0
 v0 := Try.zeroValue0
 t3 := Try.underlying3
 a3 := Try.isAgg3
 z3 := Try.sizeOf3
 v3 := Try.zeroValue3
 t4 := Try.underlying4
 a4 := Try.isAgg4
 z4 := Try.sizeOf4
 v4 := Try.zeroValue4
 t5 := Try.underlying5
 a5 := Try.isAgg5
 z5 := Try.sizeOf5
 v5 := Try.zeroValue5
 t9 := Try.underlying9
 a9 := Try.isAgg9
 z9 := Try.sizeOf9
 v9 := Try.zeroValue9
 t22 := Try.underlying181
 a22 := Try.isAgg181
 z22 := Try.sizeOf181
 v22 := Try.zeroValue181
 t25 := Try.underlying190
 a25 := Try.isAgg190
 z25 := Try.sizeOf190
 v25 := Try.zeroValue190
 t39 := Try.underlying177
 a39 := Try.isAgg177
 z39 := Try.sizeOf177
 v39 := Try.zeroValue177
 t45 := Try.underlying194
 a45 := Try.isAgg194
 z45 := Try.sizeOf194
 v45 := Try.zeroValue194
 t46 := Try.underlying195
 a46 := Try.isAgg195
 z46 := Try.sizeOf195
 v46 := Try.zeroValue195
 t50 := Try.underlying131
 a50 := Try.isAgg131
 z50 := Try.sizeOf131
 v50 := Try.zeroValue131
 t53 := Try.underlying201
 a53 := Try.isAgg201
 z53 := Try.sizeOf201
 v53 := Try.zeroValue201
 t55 := Try.underlying58
 a55 := Try.isAgg58
 z55 := Try.sizeOf58
 v55 := Try.zeroValue58
 t66 := Try.underlying203
 a66 := Try.isAgg203
 z66 := Try.sizeOf203
 v66 := Try.zeroValue203
 t70 := Try.underlying207
 a70 := Try.isAgg207
 z70 := Try.sizeOf207
 v70 := Try.zeroValue207
 t76 := Try.underlying209
 a76 := Try.isAgg209
 z76 := Try.sizeOf209
 v76 := Try.zeroValue209
 t77 := Try.underlying108
 a77 := Try.isAgg108
 z77 := Try.sizeOf108
 v77 := Try.zeroValue108 }
def iDA : Go.Shelf.Ren := ⟨fun | 5 => 125 | 7 => 128 | n => n,fun | 22 => 3 | 3 => 3 | 4 => 4 | n => n,fun | n => n⟩
theorem bNA : Go.Proofs.SlLaysC2.n5 Try.prog iDA := {
 mixed := by kernel_rfl
 f5 := ⟨Try.f125.name,by decide,Try.func125.trans (congrArg some (by kernel_rfl))⟩
 f7 := ⟨Try.f128.name,by decide,Try.func128.trans (congrArg some (by kernel_rfl))⟩
 t3 := Try.underlying3
 a3 := Try.isAgg3
 z3 := Try.sizeOf3
 v3 := Try.zeroValue3
 t4 := Try.underlying4
 a4 := Try.isAgg4
 z4 := Try.sizeOf4
 v4 := Try.zeroValue4
 t22 := Try.underlying3
 a22 := Try.isAgg3
 z22 := Try.sizeOf3
 v22 := Try.zeroValue3 }
end Go.Proofs.Ytldcoekbgfaomaa
end
section
namespace Go.Proofs.Ytldcoekbgfaomaa
open Go.RowKit Go.Shelf Go.Lib Go.Sort
theorem rY {F : Fence} (hF : Wide F) {n : Nat} {P : Program} {f : FuncId} {args : Array Value} {w : World} {R : Ending → World → Prop} (h : Calls P f args w R) : CallsIn F n P f args w R := by
 obtain ⟨fn,depth,alive,round⟩ := F
 obtain ⟨h1,h2,h3⟩ := hF
 simp only at h1 h2 h3
 subst h2
 subst h3
 have e : fn = fun _ => True := by funext x; exact eq_true (h1 x)
 subst e
 exact (callsIn_wide (n := n)).2 h
@[reducible] def nG : Type := Int × Int × Int
def bJ (x : nG) : List Value := [.int .i64 x.1,.int .i64 x.2.1,.int .i64 x.2.2]
def bR (x y : nG) : Int := Lib.compareInt x.1 y.1
theorem ltE (x y : nG) : ltOf bR x y = decide (x.1 < y.1) := by
 unfold ltOf bR Lib.compareInt
 by_cases h1 : x.1 < y.1
 ·simp [h1]
 ·by_cases h2 : y.1 < x.1 <;> simp [h1,h2]
theorem pHA : SWO (ltOf bR) where
 irrefl x := by rw [ltE]; simp
 trans x y z h1 h2 := by rw [ltE] at *; simp at *; omega
 ntrans x y z h1 h2 := by rw [ltE] at *; simp at *; omega
set_option maxHeartbeats 1000000 in
theorem sY (x y : nG) (W : World) : Calls Try.prog 124 #[.agg (bJ x).toArray,.agg (bJ y).toArray] W fun e w' => e = .returned (.int .i64 (bR x y)) ∧ ∃ q os',w' = grow (W.drewN q) os' := by
 have hcon := fun W' => AnyG.cmp_Compare_int bNA x.1 y.1 W'
 change ∀ W',Calls Try.prog 125 _ _ _ at hcon
 unfold bR
 generalize Lib.compareInt x.1 y.1 = r at hcon ⊢
 unfold bJ
 go_enter Try.func124,Try.ntmps124
 go_wp2_with (go_at_call 125; refine (hcon _).mono ?_; rintro e w' ⟨rfl,rfl⟩)
 go_ret
 exact ⟨rfl,0,_,by rw [alloc_eq_grow,alloc_eq_grow,grow_grow]; rfl⟩
def zG (es : List nG) : List P1 := es.flatMap fun e => [i64 e.1,i64 e.2.1,i64 e.2.2]
theorem zA (es : List nG) : (zG es).length = es.length * 3 := yH _ 3 (fun _ => rfl) es
/-- What the sort leaves. -/
def aH (es : List nG) : List nG := if es.length = 0 then [] else (pdq (ltOf bR) es.toArray 0 es.length (Lib.bitLen es.length) true true).toList
theorem wQ {α : Type} (A : Array α) (n : Nat) (h : A.size = n) : A.extract 0 n = A := by
 subst h
 exact Array.extract_size
theorem xQ {α : Type} [Inhabited α] {A : Array α} {i : Nat} {x : α} (h : A.toList[i]? = some x) : A[i]! = x := by
 rw [Array.getElem?_toList] at h
 rw [Array.getElem!_eq_getD,Array.getD_eq_getD_getElem?,h]
 rfl
theorem aL (es : List nG) : (aH es).Perm es := by
 unfold aH
 split
 ·rename_i h
  rw [List.length_eq_zero_iff] at h
  subst h
  exact List.Perm.refl _
 ·have h := (pdq_sorts (ltOf bR) pHA es.toArray 0 es.length (Lib.bitLen es.length) true true (Nat.zero_le _) (by simp) (Or.inl rfl)).1
  have h1 := h.1
  have h2 := h.2.2
  have e1 : es.toArray.extract 0 es.length = es.toArray := wQ _ _ (by simp)
  have e2 : (pdq (ltOf bR) es.toArray 0 es.length (Lib.bitLen es.length) true true).extract 0 es.length = pdq (ltOf bR) es.toArray 0 es.length (Lib.bitLen es.length) true true := wQ _ _ (by rw [h1]; simp)
  rw [e1,e2] at h2
  exact h2
theorem jV (es : List nG) (i j : Nat) (x y : nG) (hij : i < j) (hi : (aH es)[i]? = some x) (hj : (aH es)[j]? = some y) : x.1 ≤ y.1 := by
 have hl := (aL es).length_eq
 have hjl := (List.getElem?_eq_some_iff.1 hj).1
 rw [hl] at hjl
 clear hl
 unfold aH at hi hj
 split at hi
 ·simp at hi
 ·rename_i h0
  rw [if_neg h0] at hj
  have h := (pdq_sorts (ltOf bR) pHA es.toArray 0 es.length (Lib.bitLen es.length) true true (Nat.zero_le _) (by simp) (Or.inl rfl)).2 i j (Nat.zero_le _) hij hjl
  rw [xQ hi,xQ hj,ltE] at h
  simpa using h
theorem sP {α : Type} (f : α → List Value) (n : Nat) (hf : ∀ a,(f a).length = n) (d : α) : ∀ (l : List α) (i k : Nat),i < l.length → k < n → (l.flatMap f)[i * n + k]? = (f (l.getD i d))[k]?
 | [],i,k,h,_ => by simp at h
 | a :: l,0,k,_,hk => by
  simp only [List.flatMap_cons,Nat.zero_mul,ZC,List.getD_cons_zero]
  rw [List.getElem?_append_left (by rw [hf]; exact hk)]
 | a :: l,i + 1,k,h,hk => by
  simp only [List.flatMap_cons,List.getD_cons_succ]
  have e : (i + 1) * n = i * n + n := Nat.succ_mul ..
  rw [List.getElem?_append_right (by rw [hf]; omega),hf,show (i + 1) * n + k - n = i * n + k by omega]
  exact sP f n hf d l i k (by simpa using h) hk
theorem cJ {α : Type} (f : α → List Value) (n : Nat) (hf : ∀ a,(f a).length = n) : ∀ (l : List α),(l.flatMap f).length = l.length * n
 | [] => by simp
 | a :: l => by
  simp only [List.flatMap_cons,List.length_append,hf,cJ f n hf l,Zl,Nat.succ_mul]
  omega
theorem gS {α : Type} [Inhabited α] (l : List α) (i : Nat) (h : i < l.length) : l.toArray[i]! = l.getD i default := by
 rw [Array.getElem!_eq_getD,Array.getD_eq_getD_getElem?,List.getD_eq_getElem?_getD]
 simp
theorem cU (es : List nG) : flatK bJ 3 es.toArray = (es.flatMap bJ).toArray := by
 apply Array.ext'
 apply List.ext_getElem?
 intro t
 by_cases ht : t < es.length * 3
 ·have h1 := get_flatK bJ 3 es.toArray t (by simpa using ht)
  have h2 : t < (flatK bJ 3 es.toArray).size := by simpa using ht
  rw [Array.getElem?_toList,Array.getElem?_eq_getElem h2]
  rw [getElem!_pos _ t h2] at h1
  rw [h1]
  have h3 := sP bJ 3 (fun _ => rfl) default es (t / 3) (t % 3) (by omega) (by omega)
  rw [show t / 3 * 3 + t % 3 = t by omega] at h3
  show _ = (es.flatMap bJ)[t]?
  rw [h3,gS es (t / 3) (by omega)]
  have hm : t % 3 = 0 ∨ t % 3 = 1 ∨ t % 3 = 2 := by omega
  rcases hm with hm | hm | hm <;> rw [hm] <;> rfl
 ·rw [List.getElem?_eq_none (by simp; omega),List.getElem?_eq_none (by show (es.flatMap bJ).length ≤ t; rw [cJ bJ 3 (fun _ => rfl)]; omega)]
theorem cNA (w : World) (g j : Nat) (cur : Array Value) (e : TypeId) (h : w.heap[g]? = some (.cells cur e (0,0))) : w.frozen? ⟨g,j,none⟩ = false := frozen_of_row w g j cur e h
/-- **slices.SortFunc at ends of extents.** -/
theorem dNA (es : List nG) (hl : es.length ≤ 4294967296) : ACallsS Try.prog 123 124 185 3 es.length (zG es) (zG (aH es)) := by
 refine ⟨⟨_,Try.func123,by kernel_rfl,by kernel_rfl⟩,fun F k C w v us hF hown hul hR => rY hF ?_⟩
 have hus : us = es.flatMap bJ := by
  apply List.ext_getElem?
  intro t
  rw [zA] at hul
  by_cases ht : t < es.length * 3
  ·have h3 := sP bJ 3 (fun _ => rfl) default es (t / 3) (t % 3) (by omega) (by omega)
   have h4 := jL (fun e : nG => [i64 e.1,i64 e.2.1,i64 e.2.2]) 3 (fun _ => rfl) default es (t / 3) (t % 3) (by omega) (by omega)
   rw [show t / 3 * 3 + t % 3 = t by omega] at h3 h4
   have hu : us[t]? = some (us[t]'(by omega)) := List.getElem?_eq_getElem _
   have hm : t % 3 = 0 ∨ t % 3 = 1 ∨ t % 3 = 2 := by omega
   rw [h3,hu]
   rcases hm with hm | hm | hm <;> rw [hm] at h4 ⊢ <;>
   ·have hr := hR t _ _ h4 hu
    generalize us[t]'(by omega) = u at hr ⊢
    cases hr
    rfl
  ·rw [List.getElem?_eq_none (by omega),List.getElem?_eq_none (by rw [cJ bJ 3 (fun _ => rfl)]; omega)]
 subst hus
 rcases Nat.eq_zero_or_pos es.length with h0 | h0
 ·have hs : aH es = es := by rw [aH,if_pos h0,List.length_eq_zero_iff.1 h0]
  rw [hs,h0]
  rw [h0] at hown
  obtain ⟨p,cap,rfl⟩ : ∃ p cap,v = .slice p 0 cap := by
   rcases hown.2 with ⟨rfl,_⟩ | ⟨g,cap,cur,rfl,_⟩
   ·exact ⟨_,_,rfl⟩
   ·exact ⟨_,_,rfl⟩
  have hcon := AnyF.slices_SortFunc_none dGA p cap (.func (.func 124) #[] #[]) w
  change Calls Try.prog 123 _ _ _ at hcon
  refine hcon.mono ?_
  rintro e w' ⟨rfl,rfl⟩
  exact ⟨⟨_,rfl⟩,⟨rfl,rfl,rfl,Nat.le_refl _,fun _ _ _ => rfl⟩,_,hown,hul,hR⟩
 ·rcases hown.2 with ⟨_,h⟩ | ⟨g,cap,cur,rfl,hbg,hheap,hnc,hcm,hcs,htake⟩
  ·omega
  ·have eg : ∀ args w,(callFunc 124 args).run Try.prog w = .ok (.enter 124 args) w := enters_of Try.func124 (by kernel_rfl) rfl
   have hlen : (es.flatMap bJ).length = es.length * 3 := cJ bJ 3 (fun _ => rfl) es
   have hH : HoldsK bJ 3 w g 0 es.toArray := by
    unfold HoldsK
    rw [cU]
    intro j hj
    simp only [List.size_toArray] at hj
    refine ⟨?_,cNA w g _ cur 185 hheap⟩
    rw [cell_of_row w g _ cur 185 (0,0) hheap,gS _ j hj,Nat.zero_add]
    have h1 : (cur.toList.take (es.length * 3))[j]? = (es.flatMap bJ)[j]? := by rw [htake]
    rw [List.getElem?_take,if_pos (by omega)] at h1
    rw [← Array.getElem?_toList,h1,List.getElem?_eq_getElem hj,List.getD_eq_getElem?_getD,List.getElem?_eq_getElem hj]
    rfl
   have hcon := AnyQ.slices_SortFunc_eq dGA 3 Try.isAgg185 Try.sizeOf185 bJ (fun _ => rfl) (fun x v hv => by simp [bJ] at hv; rcases hv with rfl | rfl | rfl <;> rfl) bR pHA 124 #[] g 0 cap es.toArray w eg
    (fun _ _ _ _ x y => sY x y _) hH (Array.getElem?_eq_some_iff.1 hheap).1 (by simp; omega)
   change Calls Try.prog 123 _ _ _ at hcon
   simp only [List.size_toArray] at hcon
   refine hcon.mono ?_
   rintro e w' ⟨rfl,n,os,rfl⟩
   have hsE : pdq (ltOf bR) es.toArray 0 es.length (Lib.bitLen es.length) true true = (aH es).toArray := by
    rw [aH,if_neg (by omega)]
   rw [hsE]
   have hsl : (aH es).length = es.length := (aL es).length_eq
   have hlen' : ((aH es).flatMap bJ).length = es.length * 3 := by rw [cJ bJ 3 (fun _ => rfl),hsl]
   have hlt := (Array.getElem?_eq_some_iff.1 hheap).1
   let cur' : Array Value := putCells id 0 (((aH es).flatMap bJ).toArray) cur
   have hheap' : ∀ k,k < w.heap.size → (sortWorldK bJ 3 w g 0 n (aH es).toArray os).heap[k]? = if k = g then some (.cells cur' 185 (0,0)) else w.heap[k]? := by
    intro k hk
    unfold sortWorldK putRowK
    rw [cU]
    show ((w.heap.modify g (onCells (putCells id 0 (((aH es).flatMap bJ).toArray)))) ++ os)[k]? = _
    rw [Array.getElem?_append_left (by rw [Array.size_modify]; exact hk),Array.getElem?_modify]
    by_cases hkg : g = k
    ·subst hkg
     rw [if_pos rfl,if_pos rfl,hheap]
     rfl
    ·rw [if_neg hkg,if_neg (fun h => hkg h.symm)]
   refine ⟨⟨_,rfl⟩,⟨rfl,rfl,rfl,?_,fun k hk hne => ?_⟩,(aH es).flatMap bJ,⟨hlen',.inr ⟨g,cap,cur',rfl,hbg,?_,hnc,hcm,?_,?_⟩⟩,?_,?_⟩
   ·show w.heap.size ≤ ((w.heap.modify g _) ++ os).size
    rw [Array.size_append,Array.size_modify]
    omega
   ·rw [hheap' k hk,if_neg (fun h => hne (by subst h; rfl))]
   ·rw [hheap' g hlt,if_pos rfl]
   ·show (putCells id 0 _ cur).size = _
    rw [putCells,Array.size_mapIdx]
    exact hcs
   ·apply List.ext_getElem?
    intro t
    rw [List.getElem?_take]
    by_cases ht : t < es.length * 3
    ·rw [if_pos ht]
     show (putCells id 0 (((aH es).flatMap bJ).toArray) cur).toList[t]? = _
     have htc : t < cur.size := by
      have := Nat.mul_le_mul_right 3 hnc
      omega
     rw [Array.getElem?_toList,putCells,Array.getElem?_mapIdx,Array.getElem?_eq_getElem htc,Option.map_some,if_pos ⟨Nat.zero_le _,by rw [List.size_toArray,hlen']; omega⟩,Nat.sub_zero,gS _ t (by omega)]
     rw [List.getD_eq_getElem?_getD,List.getElem?_eq_getElem (show t < ((aH es).flatMap bJ).length by omega)]
     rfl
    ·rw [if_neg ht,List.getElem?_eq_none (by omega)]
   ·rw [hlen',zA,hsl]
   ·intro t x u hx hu
    have ht : t < es.length * 3 := by have := (List.getElem?_eq_some_iff.1 hu).1; omega
    have h3 := sP bJ 3 (fun _ => rfl) default (aH es) (t / 3) (t % 3) (by omega) (by omega)
    have h4 := jL (fun e : nG => [i64 e.1,i64 e.2.1,i64 e.2.2]) 3 (fun _ => rfl) default (aH es) (t / 3) (t % 3) (by omega) (by omega)
    rw [show t / 3 * 3 + t % 3 = t by omega] at h3 h4
    change (zG (aH es))[t]? = _ at h4
    rw [hx] at h4
    rw [hu] at h3
    have hm : t % 3 = 0 ∨ t % 3 = 1 ∨ t % 3 = 2 := by omega
    rcases hm with hm | hm | hm <;> rw [hm] at h3 h4 <;>
    ·injection h3 with h3
     injection h4 with h4
     subst h3
     subst h4
     exact .v _ rfl
end Go.Proofs.Ytldcoekbgfaomaa
end
section
namespace Go.Proofs.Ytldcoekbgfaomaa
open Go.RowKit
set_option maxRecDepth 20000
set_option maxHeartbeats 4000000
attribute [local irreducible] kE sD AW
/-- The ends of some extents of list i. -/
def qF (i : Nat) (l : List (Int × Int)) : List nG := l.flatMap fun e => [(e.1,(i : Int),1),(e.1 + e.2,(i : Int),-1)]
def rI (ls : List (List (Int × Int))) : List nG := ls.zipIdx.flatMap fun p => qF p.2 p.1
theorem kT (i : Nat) (l : List (Int × Int)) : (qF i l).length = 2 * l.length := by
 induction l with
 | nil => rfl
 | cons x l ih =>
  simp only [qF,List.flatMap_cons,List.length_append,Zl,Zo] at ih ⊢
  omega
theorem aX (i : Nat) (l : List (Int × Int)) (k : Nat) (h : k < l.length) : qF i (l.take (k + 1)) = qF i (l.take k) ++ [((l.getD k (0,0)).1,(i : Int),1),((l.getD k (0,0)).1 + (l.getD k (0,0)).2,(i : Int),-1)] := by
 rw [uF l k h]; simp [qF]
theorem bX (ls : List (List (Int × Int))) (i : Nat) (h : i < ls.length) : rI (ls.take (i + 1)) = rI (ls.take i) ++ qF i (ls.getD i []) := by
 have e : ls.take (i + 1) = ls.take i ++ [ls.getD i []] := by rw [List.take_add_one]; simp [h]
 rw [e,rI,rI,List.zipIdx_append]
 simp [h,Nat.min_eq_left (Nat.le_of_lt h)]
@[reducible] def pZ (es : List nG) : P1 := .sl es.length (zG es)
theorem dJ (es : List nG) (a b c a' b' c' : Int) : zG es ++ [i64 a,i64 b,i64 c,i64 a',i64 b',i64 c'] = zG (es ++ [(a,b,c),(a',b',c')]) := by simp [zG]
theorem lB (l : List nG) (i : Nat) (h : i < l.length) : ((zG l).drop (i * 3)).take 3 = [i64 (l.getD i default).1,i64 (l.getD i default).2.1,i64 (l.getD i default).2.2] :=
 yT (fun e : nG => [i64 e.1,i64 e.2.1,i64 e.2.2]) 3 (fun _ => rfl) default l i h
theorem nB (l : List nG) (i : Nat) (h : i < l.length) : (zG l)[i * 3]? = some (i64 (l.getD i default).1) := jL (fun e : nG => [i64 e.1,i64 e.2.1,i64 e.2.2]) 3 (fun _ => rfl) default l i 0 h (by omega)
/-- An extent within the sectors. -/
def dU (e : Int × Int) : Prop := ∃ s c : Nat,e = ((s : Int),(c : Int)) ∧ 1 ≤ c ∧ s + c ≤ 4096
theorem eG (f : List (Int × Int) → P1) (l : List (List (Int × Int))) (i : Nat) (h : i < l.length) : (l.map f)[i]? = some (f (l.getD i [])) := by
 simp [h]
theorem eNA (ls : List (List (Int × Int))) (h2 : ls.length ≤ 2) (hs : ∀ l ∈ ls,l.length ≤ 8192) (hg : ∀ l ∈ ls,∀ e ∈ l,dU e) : ACalls Try.prog 120 [.p (.sl ls.length (ls.map gD))] (.p (pZ (aH (rI ls)))) := by
 refine wC oC Try.func120 (c := _) rfl (by kernel_rfl) ?_
 intro X hP hX hro hpl
 have hb : tb.Ok X.P := hP ▸ oC
 change AW X _ _ ⟨[],[.p (.sl ls.length (ls.map gD)),.any,.any,.any,.any,.any,.any,.any,.any,.any,.any,.any,.any,.any,.any,.any,.any,.any,.any,.any,.any,.any,.any,.any,.any,.any,.any,.any,.any,.any,.any,.any,.any,.any,.any,.any,.any,.any,.any,.any,.any,.any,.any,.any,.any],[],[]⟩
 refine cA ?_
 refine gA hX hb [0] rfl (σ' := ?s1) (fun K hK => ?h1) ?n1
 case h1 =>
  (refine kA rfl (by simp (disch := omega) only [iA,aA,qop,fop,St.ev,St.put,cd,zd,Value.oneCell',lA,TypeDesc.aggB,Z0,eG,Zh,Z2] <;> exact rfl) ?_)
  refine bA ?_
  exact hK
 refine jA ?_
 refine cA ?_
 refine gA hX hb [0] rfl (σ' := ?s2) (fun K hK => ?h2) ?n2
 case h2 =>
  (refine kA rfl (by simp (disch := omega) only [iA,aA,qop,fop,St.ev,St.put,cd,zd,Value.oneCell',lA,TypeDesc.aggB,Z0,eG,Zh,Z2] <;> exact rfl) ?_)
  refine bA ?_
  exact hK
 refine jA ?_
 refine nJ 3 185 3 rfl (σ' := ?s3) ?h3 ?n3
 case h3 => simp only [St.nilSlot,St.addVec,Za,Zb,Zl,Zo,ZL,ZM]; exact rfl
 refine cA ?_
 refine cA ?_
 refine gA hX hb [0,1,2] rfl (σ' := ?s4) (fun K hK => ?h4) ?n4
 case h4 =>
  iterate 3 (refine kA rfl (by simp (disch := omega) only [iA,aA,qop,fop,St.ev,St.put,cd,zd,Value.oneCell',lA,TypeDesc.aggB,Z0,vC,tt,eG,Zh,Z2] <;> exact rfl) ?_)
  refine bA ?_
  exact hK
 refine jA ?_
 refine tB ?_
 refine rD (ι := Nat × List nG) (fun p => p.1 ≤ ls.length ∧ p.2 = rI (ls.take p.1) ∧ p.2.length ≤ 16384 * p.1) (fun p => ⟨[],[.any,.any,.any,.vref 0,.any,.any,.any,.any,.any,.any,.any,.p (.sl ls.length (ls.map gD)),.p (i64 ls.length),.p (i64 p.1),.any,.any,.any,.any,.any,.any,.any,.any,.any,.any,.any,.any,.any,.any,.any,.any,.any,.any,.any,.any,.any,.any,.any,.any,.any,.any,.any,.any,.any,.any,.any],[],[some ⟨185,3,p.2.length,zG p.2⟩]⟩) (fun p => ls.length - p.1) (0,[]) (by exact ⟨Nat.zero_le _,rfl,Nat.le_refl _⟩) (rC ⟨rfl,(by repeat first | exact sA | refine mB ?_ | refine vA rfl ?_),(xB _),(jE rfl (yB _)),rfl,rfl⟩) ?_
 rintro ⟨i,out⟩ ⟨hi,ho,hol⟩
 dsimp only at hi ho hol ⊢
 refine cA ?_
 refine gA hX hb [0] rfl (σ' := ?s5) (fun K hK => ?h5) ?n5
 case h5 =>
  (refine kA rfl (by simp (disch := omega) only [iA,aA,qop,fop,St.ev,St.put,cd,zd,Value.oneCell',lA,TypeDesc.aggB,Z0,cB,iop,t3,ti3,eG,Zh,Z2] <;> exact rfl) ?_)
  refine bA ?_
  exact hK
 refine jA ?_
 refine cA ?_
 refine oB _ rfl (fun hc0 => ?_) (fun hc0 => ?_)
 ·try simp only [Zp,Zi,ZK,ZJ,ne_eq,Zn,Zm,ZB,ZA,ZI,not_or,not_and,Zu] at hc0
  refine uB ?_
  refine jA ?_
  refine cA ?_
  refine tB ?_
  refine cA ?_
  refine gA hX hb [0,1,2,3,4] rfl (σ' := ?s6) (fun K hK => ?h6) ?n6
  case h6 =>
   iterate 5 (refine kA rfl (by simp (disch := omega) only [iA,aA,qop,fop,St.ev,St.put,cd,zd,Value.oneCell',lA,TypeDesc.aggB,Z0,Int.toNat_zero,Int.toNat_one,xA,yA,wA,ZO,Nat.mul_one,ZC,Nat.zero_mul,Zh,Z1,pA,qA,tA,eA,D.pure?,ZD,tt,eG,Z2] <;> exact rfl) ?_)
   refine bA ?_
   exact hK
  refine jA ?_
  refine cA ?_
  refine gA hX hb [0,1,2] rfl (σ' := ?s7) (fun K hK => ?h7) ?n7
  case h7 =>
   iterate 3 (refine kA rfl (by simp (disch := omega) only [iA,aA,qop,fop,St.ev,St.put,cd,zd,Value.oneCell',lA,TypeDesc.aggB,Z0,vC,tt,eG,Zh,Z2] <;> exact rfl) ?_)
   refine bA ?_
   exact hK
  refine jA ?_
  refine tB ?_
  refine rD (ι := Nat × List nG) (fun p => p.1 ≤ (ls.getD i []).length ∧ p.2 = rI (ls.take i) ++ qF i ((ls.getD i []).take p.1) ∧ p.2.length = out.length + 2 * p.1) (fun p => ⟨[],[.any,.any,.any,.vref 0,.p (i64 i),.any,.any,.any,.any,.any,.any,.p (.sl ls.length (ls.map gD)),.p (i64 ls.length),.p (i64 i),.any,.any,.any,.any,.p (gD (ls.getD i [])),.p (i64 (ls.getD i []).length),.p (i64 p.1),.any,.any,.any,.any,.any,.any,.any,.any,.any,.any,.any,.any,.any,.any,.any,.any,.any,.any,.any,.any,.any,.any,.any,.any],[],[some ⟨185,3,p.2.length,zG p.2⟩]⟩) (fun p => (ls.getD i []).length - p.1) (0,out) (by exact ⟨Nat.zero_le _,by dsimp only; rw [ho]; simp [qF],by simp⟩) (rC ⟨rfl,(by repeat first | exact sA | refine mB ?_ | refine vA (by first | rfl | (rw [← dJ]; simp)) ?_),(xB _),(jE (by first | rfl | (rw [← dJ]; simp)) (yB _)),rfl,rfl⟩) ?_
  rintro ⟨k,out2⟩ ⟨hk,ho2,hol2⟩
  dsimp only at hk ho2 hol2 ⊢
  have hli : ls.getD i [] ∈ ls := qE ls [] i (by omega)
  have hll := hs _ hli
  refine cA ?_
  refine gA hX hb [0] rfl (σ' := ?s8) (fun K hK => ?h8) ?n8
  case h8 =>
   (refine kA rfl (by simp (disch := omega) only [iA,aA,qop,fop,St.ev,St.put,cd,zd,Value.oneCell',lA,TypeDesc.aggB,Z0,cB,iop,t3,ti3,eG,Zh,Z2] <;> exact rfl) ?_)
   refine bA ?_
   exact hK
  refine jA ?_
  refine cA ?_
  refine oB _ rfl (fun hc1 => ?_) (fun hc1 => ?_)
  ·try simp only [Zp,Zi,ZK,ZJ,ne_eq,Zn,Zm,ZB,ZA,ZI,not_or,not_and,Zu] at hc1
   obtain ⟨s,c,he,hc1,hc2⟩ := hg _ hli _ (qE (ls.getD i []) (0,0) k (by omega))
   refine uB ?_
   refine jA ?_
   refine cA ?_
   refine tB ?_
   refine cA ?_
   refine gA hX hb [0,1,2,3] rfl (σ' := ?s9) (fun K hK => ?h9) ?n9
   case h9 =>
    iterate 4 (refine kA rfl (by simp (disch := omega) only [iA,aA,qop,fop,St.ev,St.put,cd,zd,Value.oneCell',lA,TypeDesc.aggB,Z0,Int.toNat_zero,Int.toNat_one,xA,yA,wA,ZO,Nat.mul_one,ZC,Nat.zero_mul,Zh,Z1,pA,qA,tA,eA,D.pure?,ZD,ZM,ZL,ZG,ZH,St.addBox,Value.cells,iC,D.boxCells,D.live,D.cells?,ZN,St.setVec,tt,eG,Z2] <;> exact rfl) ?_)
    refine bA ?_
    exact hK
   refine jA ?_
   refine cA ?_
   refine gA hX hb [0,1,2,3,4,5,6,7,8] rfl (σ' := ?s10) (fun K hK => ?h10) ?n10
   case h10 =>
    (refine kA rfl (by simp (disch := omega) only [iA,aA,qop,fop,St.ev,St.put,cd,zd,Value.oneCell',lA,TypeDesc.aggB,Z0,Z1,pA,qA,tA,eA,D.pure?,ZC,ZD,uA,D.pv?,mJ,PV.d,tt,eG,Zh,Z2,he] <;> exact rfl) ?_)
    refine mD rfl (by simp only [aA,St.ev,pB,qB,uA,D.pv?,ZG,ZH,zd,cd,Value.oneCell',Zr] <;> exact rfl) (acK hP (xMA s c hc1 hc2)) (by simp only [St.put,Za,Zb] <;> exact rfl) ?_
    iterate 7 (refine kA rfl (by simp (disch := omega) only [iA,aA,qop,fop,St.ev,St.put,cd,zd,Value.oneCell',lA,TypeDesc.aggB,Z0,Z1,pA,qA,tA,eA,D.pure?,ZC,ZD,uA,D.pv?,mJ,PV.d,tt,eG,Zh,Z2,he] <;> exact rfl) ?_)
    refine bA ?_
    exact hK
   refine jA ?_
   refine cA ?_
   refine gA hX hb [0] rfl (σ' := ?s11) (fun K hK => ?h11) ?n11
   case h11 =>
    (refine kA rfl (by simp (disch := omega) only [iA,aA,qop,fop,St.ev,St.put,cd,zd,Value.oneCell',lA,TypeDesc.aggB,Z0,eG,Zh,Z2] <;> exact rfl) ?_)
    refine bA ?_
    exact hK
   refine jA ?_
   refine oB _ rfl (fun hc2 => ?_) (fun hc2 => ?_)
   ·try simp only [Zp,Zi,ZK,ZJ,ne_eq,Zn,Zm,ZB,ZA,ZI,not_or,not_and,Zu] at hc2
    refine gA hX hb [0,1,2,3,4,5,6,7,8,9] rfl (σ' := ?s12) (fun K hK => ?h12) ?n12
    case h12 =>
     iterate 10 (refine kA rfl (by simp (disch := omega) only [iA,aA,qop,fop,St.ev,St.put,cd,zd,Value.oneCell',lA,TypeDesc.aggB,Z0,aE,cD,mC,aC,D.cell1,fB,gB,iB,jB,kB,List.all_cons,List.all_nil,uC,TI.place,TI.zeros,TI.kindOk,D.cells?,D.pure?,zp,Value.cells,ZQ,ZP,Z1,zD,aD,bD,bE,bB,rB,ZG,ZH,ZL,ZM,ZN,aB,Nat.reduceAdd,Nat.reduceMul,nD,cG,St.demote,D.demote,St.setVec,Zh,List.length_append,ZC,Nat.mul_one,reduceIte,tt,eG,Z2,zA] <;> exact rfl) ?_)
     refine bA ?_
     exact hK
    refine cE ?_
    refine jA ?_
    refine gA hX hb [0,1] rfl (σ' := ?s13) (fun K hK => ?h13) ?n13
    case h13 =>
     iterate 2 (refine kA rfl (by simp (disch := omega) only [iA,aA,qop,fop,St.ev,St.put,cd,zd,Value.oneCell',lA,TypeDesc.aggB,Z0,cB,iop,tt,eG,Zh,Z2] <;> exact rfl) ?_)
     refine bA ?_
     exact hK
    refine jA ?_
    exact ⟨(k + 1,out2 ++ [((s : Int),(i : Int),1),(((s + c : Nat) : Int),(i : Int),-1)]),by exact ⟨by dsimp only; omega,by dsimp only; rw [ho2,aX i _ k (by omega),he,List.append_assoc]; simp,by dsimp only; simp; omega⟩,by (try dsimp only); omega,rC ⟨rfl,(by repeat first | exact sA | refine mB ?_ | refine vA (by first | rfl | (rw [← dJ]; simp)) ?_),(xB _),(jE (by first | rfl | (rw [← dJ]; simp)) (yB _)),rfl,rfl⟩⟩
   ·try simp only [Zp,Zi,ZK,ZJ,ne_eq,Zn,Zm,ZB,ZA,ZI,not_or,not_and,Zu] at hc2
    cases hc2
  ·try simp only [Zp,Zi,ZK,ZJ,ne_eq,Zn,Zm,ZB,ZA,ZI,not_or,not_and,Zu] at hc1
   refine oD ?_
   refine fD ?_
   refine fD ?_
   refine zE ?_
   refine cE ?_
   refine jA ?_
   refine gA hX hb [0,1] rfl (σ' := ?s14) (fun K hK => ?h14) ?n14
   case h14 =>
    iterate 2 (refine kA rfl (by simp (disch := omega) only [iA,aA,qop,fop,St.ev,St.put,cd,zd,Value.oneCell',lA,TypeDesc.aggB,Z0,cB,iop,tt,eG,Zh,Z2] <;> exact rfl) ?_)
    refine bA ?_
    exact hK
   refine jA ?_
   exact ⟨(i + 1,out2),by exact ⟨by dsimp only; omega,by dsimp only; rw [ho2,bX ls i (by omega),show k = (ls.getD i []).length by omega,List.take_length],by dsimp only; omega⟩,by (try dsimp only); omega,rC ⟨rfl,(by repeat first | exact sA | refine mB ?_ | refine vA rfl ?_),(xB _),(jE rfl (yB _)),rfl,rfl⟩⟩
 ·try simp only [Zp,Zi,ZK,ZJ,ne_eq,Zn,Zm,ZB,ZA,ZI,not_or,not_and,Zu] at hc0
  refine oD ?_
  refine fD ?_
  refine fD ?_
  refine zE ?_
  refine jA ?_
  refine cA ?_
  refine gA hX hb [0,1] rfl (σ' := ?s15) (fun K hK => ?h15) ?n15
  case h15 =>
   (refine kA rfl (by simp (disch := omega) only [iA,aA,qop,fop,St.ev,St.put,cd,zd,Value.oneCell',lA,TypeDesc.aggB,Z0,uA,D.pv?,tt,eG,Zh,Z2] <;> exact rfl) ?_)
   refine nGA rfl rfl (by simp only [St.ev,pB,qB,zd,cd,Value.oneCell',Zr] <;> exact rfl) (by simp only [St.ev,pB,qB,ZG,ZH] <;> exact rfl) rfl (qKA hP (dNA out (by omega))) (by simp only [St.setVec,St.put,Za,Zb] <;> exact rfl) ?_
   refine bA ?_
   exact hK
  refine jA ?_
  refine cA ?_
  refine nH 0 rfl (σ' := ?s17) ?h17 ?n17
  case h17 => simp only [St.freeze,D.freeze,ZG,ZH,Za,Zb,Zr,reduceIte,Nat.reduceEqDiff]; exact rfl
  refine gA hX hb [0,1] rfl (σ' := ?s16) (fun K hK => ?h16) ?n16
  case h16 =>
   iterate 2 (refine kA rfl (by simp (disch := omega) only [iA,aA,qop,fop,St.ev,St.put,cd,zd,Value.oneCell',lA,TypeDesc.aggB,Z0,t3,ti3,eG,Zh,Z2] <;> exact rfl) ?_)
   refine bA ?_
   exact hK
  refine jA ?_
  refine bC ?_
  exact zC rfl (zB rfl (by first | rfl | (rw [ho,List.take_of_length_le (by omega)]; exact congrArg D.p (congrArg (fun n => P1.sl n _) (aL _).length_eq.symm))))
end Go.Proofs.Ytldcoekbgfaomaa
end
section
namespace Go.Proofs.Ytldcoekbgfaomaa
open Go.RowKit
set_option maxRecDepth 20000
set_option maxHeartbeats 4000000
attribute [local irreducible] kE sD AW
def sG (x : nG) : List nG → Bool
 | [] => false
 | y :: _ => decide (y.1 = x.1)
/-- The maximal extents,out of the ends in order: d extents are open,the present one began at st. -/
def zF : List nG → Int → Int → Bool → List (Int × Int)
 | [],_,_,_ => []
 | x :: r,d,st,ins =>
  if sG x r = true then zF r (d + x.2.2) st ins
  else if d + x.2.2 > 0 then zF r (d + x.2.2) (if ins then st else x.1) true
  else (if ins then [(st,x.1 - st)] else []) ++ zF r (d + x.2.2) st false
/-- Ends of one list's extents. -/
def jDA (L : List nG) : Prop := L.length ≤ 32768 ∧ ∀ x ∈ L,0 ≤ x.1 ∧ x.1 ≤ 4096 ∧ x.2.1 = 0 ∧ (x.2.2 = 1 ∨ x.2.2 = -1)
structure SwI (L : List nG) (i : Nat) (d st : Int) (ins : Bool) (k : Nat) : Prop where
 le : i ≤ L.length
 d1 : -(i : Int) ≤ d
 d2 : d ≤ i
 s1 : 0 ≤ st
 s2 : st ≤ 4096
 kk : k ≤ (zF L 0 0 false).length
 r : (zF L 0 0 false).drop k = zF (L.drop i) d st ins
theorem iS (L : List nG) (i : Nat) (h : i < L.length) : L.drop i = L.getD i default :: L.drop (i + 1) := by
 rw [List.drop_eq_getElem_cons h]; simp [h]
theorem lT (L : List nG) (i : Nat) (x : nG) : sG x (L.drop (i + 1)) = decide (i + 1 < L.length ∧ (L.getD (i + 1) default).1 = x.1) := by
 by_cases h : i + 1 < L.length
 ·rw [iS L (i + 1) h]
  simp [sG,h]
 ·rw [List.drop_eq_nil_of_le (by omega)]
  simp [sG,h]
theorem pAA (L : List nG) : SwI L 0 0 0 false 0 := ⟨Nat.zero_le _,by omega,by omega,by omega,by omega,Nat.zero_le _,rfl⟩
section
variable {L : List nG} {i k : Nat} {d st at' sp : Int} {ins : Bool}
theorem pM (h : SwI L i d st ins k) (hi : i < L.length) (hx : L.getD i default = (at',0,sp)) : (zF L 0 0 false).drop k =
  (if (i + 1 < L.length ∧ (L.getD (i + 1) default).1 = at') then zF (L.drop (i + 1)) (d + sp) st ins
  else if d + sp > 0 then zF (L.drop (i + 1)) (d + sp) (if ins then st else at') true
  else (if ins then [(st,at' - st)] else []) ++ zF (L.drop (i + 1)) (d + sp) st false) := by
 rw [h.r,iS L i hi,hx,zF,lT]
 simp only [Zp]
theorem kDA (hg : jDA L) (hi : i < L.length) : ∃ at' sp,L.getD i default = (at',0,sp) ∧ 0 ≤ at' ∧ at' ≤ 4096 ∧ (sp = 1 ∨ sp = -1) := by
 have hm : L.getD i default ∈ L := qE L default i hi
 obtain ⟨h1,h2,h3,h4⟩ := hg.2 _ hm
 exact ⟨_,_,Prod.ext rfl (Prod.ext h3 rfl),h1,h2,h4⟩
theorem lDA (h : SwI L i d st ins k) (hi : i < L.length) (hx : L.getD i default = (at',0,sp)) (hs : sp = 1 ∨ sp = -1) (hc : i + 1 < L.length ∧ (L.getD (i + 1) default).1 = at') : SwI L (i + 1) (d + sp) st ins k := by
 have hu := pM h hi hx
 rw [if_pos hc] at hu
 have h1 := h.d1
 have h2 := h.d2
 exact ⟨hi,by omega,by omega,h.s1,h.s2,h.kk,hu⟩
theorem mDA (h : SwI L i d st ins k) (hi : i < L.length) (hx : L.getD i default = (at',0,sp)) (hs : sp = 1 ∨ sp = -1) (ha : 0 ≤ at' ∧ at' ≤ 4096) (hc : ¬ (i + 1 < L.length ∧ (L.getD (i + 1) default).1 = at')) (hn : (decide (d + sp > 0) || decide ((0 : Int) > 0)) = true) :
  SwI L (i + 1) (d + sp) (if ins then st else at') true k := by
 have hu := pM h hi hx
 have hd : d + sp > 0 := by simpa using hn
 rw [if_neg hc,if_pos hd] at hu
 have h1 := h.d1
 have h2 := h.d2
 have h3 := h.s1
 have h4 := h.s2
 exact ⟨hi,by omega,by omega,by split <;> omega,by split <;> omega,h.kk,hu⟩
theorem zEA (h : SwI L i d st false k) (hi : i < L.length) (hx : L.getD i default = (at',0,sp)) (hs : sp = 1 ∨ sp = -1) (hc : ¬ (i + 1 < L.length ∧ (L.getD (i + 1) default).1 = at')) (hn : (decide (d + sp > 0) || decide ((0 : Int) > 0)) = false) :
  SwI L (i + 1) (d + sp) st false k := by
 have hu := pM h hi hx
 have hd : ¬ d + sp > 0 := by simpa using hn
 rw [if_neg hc,if_neg hd] at hu
 have h1 := h.d1
 have h2 := h.d2
 exact ⟨hi,by omega,by omega,h.s1,h.s2,h.kk,hu⟩
theorem eI (h : SwI L i d st true k) (hi : i < L.length) (hx : L.getD i default = (at',0,sp)) (hs : sp = 1 ∨ sp = -1) (hc : ¬ (i + 1 < L.length ∧ (L.getD (i + 1) default).1 = at')) (hn : (decide (d + sp > 0) || decide ((0 : Int) > 0)) = false) :
  (zF L 0 0 false)[k]? = some (st,at' - st) ∧ SwI L (i + 1) (d + sp) st false (k + 1) := by
 have hu := pM h hi hx
 have hd : ¬ d + sp > 0 := by simpa using hn
 rw [if_neg hc,if_neg hd] at hu
 have h1 := h.d1
 have h2 := h.d2
 have hk : (zF L 0 0 false)[k]? = some (st,at' - st) := by
  have := congrArg (fun l => l[0]?) hu
  simpa using this
 refine ⟨hk,hi,by omega,by omega,h.s1,h.s2,(List.getElem?_eq_some_iff.1 hk).1,?_⟩
 have := congrArg (List.drop 1) hu
 rw [List.drop_drop] at this
 simpa using this
theorem aFA (h : SwI L L.length d st ins k) : k = (lG (zF L 0 0 false)).length := by
 have h1 := h.r
 rw [List.drop_length] at h1
 have h2 : (zF L 0 0 false).length ≤ k := by
  have := congrArg List.length h1
  simp [zF] at this
  omega
 rw [gK]
 have := h.kk
 omega
theorem kL {l : List (Int × Int)} {k : Nat} {a b : Int} (h : l[k]? = some (a,b)) : (lG l)[k]? = some (.agg [i64 a,i64 b]) := by simp [lG,h]
end
theorem oK (l : List nG) (i : Nat) (h : i + 1 < l.length) : (zG l)[i * 3 + 3]? = some (i64 (l.getD (i + 1) default).1) := by
 have := nB l (i + 1) h
 rwa [Nat.succ_mul] at this
theorem aKA (p q now : Bool) (h : (p || q) = now) : ACalls Try.prog 110 [.p (bv p),.p (bv q)] (.p (bv now)) := h ▸ wMA p q
theorem cX {l : List (Int × Int)} (h : ∀ e ∈ l,dU e) (hl : l.length ≤ 8192) : jDA (aH (rI [l,[]])) := by
 have hp := aL (rI [l,[]])
 have e : rI [l,[]] = qF 0 l := by simp [rI,qF]
 rw [e] at hp ⊢
 refine ⟨by rw [hp.length_eq,kT]; omega,fun x hx => ?_⟩
 have hm := hp.mem_iff.1 hx
 simp only [qF,List.mem_flatMap] at hm
 obtain ⟨y,hy,hxy⟩ := hm
 obtain ⟨s,c,rfl,h1,h2⟩ := h y hy
 simp only [List.mem_cons,List.not_mem_nil,or_false] at hxy
 rcases hxy with rfl | rfl
 ·exact ⟨by simp,by simp; omega,rfl,.inl rfl⟩
 ·exact ⟨by simp; omega,by simp; omega,rfl,.inr rfl⟩
theorem bKA (l : List (Int × Int)) (hl : l.length ≤ 8192) (hg : ∀ e ∈ l,dU e) (L : List nG) (hL : aH (rI [l,[]]) = L) : SeqC Try.prog 119 [gD l,.sl 0 [],.v (.func (.func 110) #[] #[])] (lG (zF L 0 0 false)) := by
 have hgl : jDA L := hL ▸ cX hg hl
 have hLl := hgl.1
 have h120 : ACalls Try.prog 120 [.p (.sl 2 [gD l,.sl 0 []])] (.p (pZ L)) := hL ▸ eNA [l,[]] (by simp) (by simpa using hl) (by simpa using hg)
 refine yU Try.func119 (c := _) rfl (by kernel_rfl) rfl ?_
 intro X ll hP hX _
 have hb : tb.Ok X.P := hP ▸ oC
 change AW X _ _ ⟨[.yld ll (lG (zF L 0 0 false)) 0],[.p (.v (.func (.yield ll) #[] #[])),.ept [gD l] 0,.ept [.sl 0 []] 0,.ept [.v (.func (.func 110) #[] #[])] 0,.any,.any,.any,.any,.any,.any,.any,.any,.any,.any,.any,.any,.any,.any,.any,.any,.any,.any,.any,.any,.any,.any,.any,.any,.any,.any,.any,.any,.any,.any,.any,.any,.any,.any,.any,.any,.any,.any,.any,.any,.any,.any,.any,.any,.any,.any,.any,.any,.any,.any,.any,.any,.any,.any,.any,.any,.any,.any,.any,.any,.any,.any,.any,.any,.any,.any,.any,.any,.any,.any,.any,.any,.any,.any,.any,.any],[],[]⟩
 refine cA ?_
 refine gA hX hb [0,1,2,3,4] rfl (σ' := ?s1) (fun K hK => ?h1) ?n1
 case h1 =>
  iterate 3 (refine kA rfl (by simp (disch := omega) only [iA,aA,qop,fop,St.ev,St.put,cd,zd,Value.oneCell',lA,TypeDesc.aggB,Z0,Z1,pA,qA,tA,eA,D.pure?,ZC,ZD,zD,aD,bD,bE,bB,rB,D.cells?,fB,gB,iB,jB,kB,ZG,ZH,ZL,ZM,ZN,aB,Nat.reduceAdd,Nat.reduceMul,uA,D.pv?,tt,lB,zA,nB,Zh] <;> exact rfl) ?_)
  refine mD rfl (by simp only [aA,St.ev,pB,qB,uA,D.pv?,ZG,ZH,zd,cd,Value.oneCell',Zr] <;> exact rfl) (acK hP (h120)) (by simp only [St.put,Za,Zb] <;> exact rfl) ?_
  (refine kA rfl (by simp (disch := omega) only [iA,aA,qop,fop,St.ev,St.put,cd,zd,Value.oneCell',lA,TypeDesc.aggB,Z0,Z1,pA,qA,tA,eA,D.pure?,ZC,ZD,zD,aD,bD,bE,bB,rB,D.cells?,fB,gB,iB,jB,kB,ZG,ZH,ZL,ZM,ZN,aB,Nat.reduceAdd,Nat.reduceMul,uA,D.pv?,tt,lB,zA,nB,Zh] <;> exact rfl) ?_)
  refine bA ?_
  exact hK
 refine jA ?_
 refine cA ?_
 refine gA hX hb [0] rfl (σ' := ?s2) (fun K hK => ?h2) ?n2
 case h2 =>
  (refine kA rfl (by simp (disch := omega) only [iA,aA,qop,fop,St.ev,St.put,cd,zd,Value.oneCell',lA,TypeDesc.aggB,Z0,ZM,ZL,Zl,Zo,ZG,ZH,St.addBox,Value.cells,tt,lB,zA,nB,Zh] <;> exact rfl) ?_)
  refine bA ?_
  exact hK
 refine jA ?_
 refine cA ?_
 refine gA hX hb [0,1] rfl (σ' := ?s3) (fun K hK => ?h3) ?n3
 case h3 =>
  iterate 2 (refine kA rfl (by simp (disch := omega) only [iA,aA,qop,fop,St.ev,St.put,cd,zd,Value.oneCell',lA,TypeDesc.aggB,Z0,lB,zA,nB,Zh] <;> exact rfl) ?_)
  refine bA ?_
  exact hK
 refine jA ?_
 refine cA ?_
 refine gA hX hb [0,1,2] rfl (σ' := ?s4) (fun K hK => ?h4) ?n4
 case h4 =>
  iterate 3 (refine kA rfl (by simp (disch := omega) only [iA,aA,qop,fop,St.ev,St.put,cd,zd,Value.oneCell',lA,TypeDesc.aggB,Z0,vC,tt,lB,zA,nB,Zh] <;> exact rfl) ?_)
  refine bA ?_
  exact hK
 refine jA ?_
 refine tB ?_
 refine rD (ι := Nat × Int × Int × Bool × Nat) (fun p => SwI L p.1 p.2.1 p.2.2.1 p.2.2.2.1 p.2.2.2.2) (fun p => ⟨[.yld ll (lG (zF L 0 0 false)) p.2.2.2.2],[.p (.v (.func (.yield ll) #[] #[])),.any,.any,.ept [.v (.func (.func 110) #[] #[])] 0,.any,.p (pZ L),.ptr 0 0,.p (i64 p.2.2.1),.p (bv p.2.2.2.1),.any,.any,.any,.any,.any,.any,.any,.p (pZ L),.p (i64 L.length),.p (i64 p.1),.any,.any,.any,.any,.any,.any,.any,.any,.any,.any,.any,.any,.any,.any,.any,.any,.any,.any,.any,.any,.any,.any,.any,.any,.any,.any,.any,.any,.any,.any,.any,.any,.any,.any,.any,.any,.any,.any,.any,.any,.any,.any,.any,.any,.any,.any,.any,.any,.any,.any,.any,.any,.any,.any,.any,.any,.any,.any,.any,.any,.any],[⟨183,[.p (i64 p.2.1),.p (i64 0)]⟩],[]⟩) (fun p => L.length - p.1) (0,0,0,false,0) (by exact pAA L) (rC ⟨rfl,(by repeat first | exact sA | refine mB ?_ | refine vA rfl ?_),(pC rfl (vA rfl (vA rfl (sA))) (xB _)),(yB _),rfl,rfl⟩) ?_
 rintro ⟨i,d,st,ins,k⟩ hI
 dsimp only at hI ⊢
 have hI1 := hI.d1
 have hI2 := hI.d2
 have hI3 := hI.s1
 have hI4 := hI.s2
 have hI5 := hI.le
 have i3 : (i + 1) * 3 = i * 3 + 3 := Nat.succ_mul i 3
 have i31 : ((i : Int) + 1).toNat = i + 1 := by omega
 refine cA ?_
 refine gA hX hb [0] rfl (σ' := ?s5) (fun K hK => ?h5) ?n5
 case h5 =>
  (refine kA rfl (by simp (disch := omega) only [iA,aA,qop,fop,St.ev,St.put,cd,zd,Value.oneCell',lA,TypeDesc.aggB,Z0,cB,iop,t3,ti3,lB,zA,nB,Zh] <;> exact rfl) ?_)
  refine bA ?_
  exact hK
 refine jA ?_
 refine cA ?_
 refine oB _ rfl (fun hc0 => ?_) (fun hc0 => ?_)
 ·try simp only [Zp,Zi,ZK,ZJ,ne_eq,Zn,Zm,ZB,ZA,ZI,not_or,not_and,Zu] at hc0
  have hil : i < L.length := by omega
  obtain ⟨at2,sp,hx,ha1,ha2,hsp⟩ := kDA hgl hil
  refine uB ?_
  refine jA ?_
  refine cA ?_
  refine tB ?_
  refine cA ?_
  refine gA hX hb [0,1,2,3,4,5] rfl (σ' := ?s6) (fun K hK => ?h6) ?n6
  case h6 =>
   iterate 6 (refine kA rfl (by simp (disch := omega) only [iA,aA,qop,fop,St.ev,St.put,cd,zd,Value.oneCell',lA,TypeDesc.aggB,Z0,Int.toNat_zero,Int.toNat_one,xA,yA,wA,ZO,Nat.mul_one,ZC,Nat.zero_mul,Zh,Z1,pA,qA,tA,eA,D.pure?,ZD,ZM,ZL,ZG,ZH,St.addBox,Value.cells,iC,D.boxCells,D.live,D.cells?,ZN,St.setVec,tt,lB,zA,nB] <;> exact rfl) ?_)
   refine bA ?_
   exact hK
  refine jA ?_
  refine cA ?_
  refine dF hX hb (jD hP) [(0,true),(1,true),(2,true),(3,true),(4,true),(5,true),(6,true),(7,true),(8,false)] (by kernel_rfl) (σ' := ?s7) (fun K hK => ?h7) ?n7
  case h7 =>
   iterate 8 (refine eF rfl (by simp (disch := omega) only [qop,fop,St.ev,St.put,cd,zd,Value.oneCell',lA,TypeDesc.aggB,Z0,fA,oA,Z1,pA,qA,tA,eA,D.pure?,ZC,ZD,Int.toNat_zero,Int.toNat_one,xA,yA,wA,ZO,Nat.mul_one,Nat.zero_mul,Zh,cB,iop,iC,D.boxCells,D.live,D.cells?,ZM,ZL,ZN,ZG,ZH,St.setVec,tt,lB,zA,nB,hx] <;> exact rfl) (by simp only [St.put,Za,Zb] <;> exact rfl) ?_)
   (refine rG rfl (by simp (disch := omega) only [iA,aA,qop,fop,St.ev,St.put,cd,zd,Value.oneCell',lA,TypeDesc.aggB,Z0,fA,oA,Z1,pA,qA,tA,eA,D.pure?,ZC,ZD,Int.toNat_zero,Int.toNat_one,xA,yA,wA,ZO,Nat.mul_one,Nat.zero_mul,Zh,cB,iop,iC,D.boxCells,D.live,D.cells?,ZM,ZL,ZN,ZG,ZH,St.setVec,tt,lB,zA,nB,hx] <;> exact rfl) ?_)
   refine xC ?_
   exact hK
  refine jA ?_
  refine cA ?_
  refine cA ?_
  refine eN hX hb (jD hP) [(0,true),(1,true),(2,true),(3,true),(4,true),(5,true),(6,true),(7,true),(8,true),(9,true),(10,true),(11,true),(12,true),(13,true),(14,true),(15,true)] (by kernel_rfl) (ts := [31,32,33,34,35,36,37,38,39,40,41,42,43,44,45]) (t := 46) (d := .p (bv (i + 1 < L.length ∧ (L.getD (i + 1) default).1 = at2))) (σ' := ?s8) ?j8 ?h8 ?n8
  case j8 => simp only [St.join,List.foldl,Za,Zb]; exact rfl
  case h8 =>
   iterate 6 (all_goals refine eF rfl (by simp (disch := omega) only [qop,fop,St.ev,St.put,cd,zd,Value.oneCell',lA,TypeDesc.aggB,Z0,cB,iop,vC,Int.toNat_zero,Int.toNat_one,xA,yA,wA,ZO,Nat.mul_one,ZC,Nat.zero_mul,Zh,fA,oA,Z1,pA,qA,tA,eA,D.pure?,ZD,tt,lB,zA,nB,hx,i31,oK,i3] <;> exact rfl) (by simp only [St.put,Za,Zb] <;> exact rfl) ?_)
   iterate 9 (all_goals first | (refine fL rfl rfl rfl (by simp (disch := omega) only [qop,fop,St.ev,St.put,cd,zd,Value.oneCell',lA,TypeDesc.aggB,Z0,cB,iop,vC,Int.toNat_zero,Int.toNat_one,xA,yA,wA,ZO,Nat.mul_one,ZC,Nat.zero_mul,Zh,fA,oA,Z1,pA,qA,tA,eA,D.pure?,ZD,tt,lB,zA,nB,hx,i31,oK,i3] <;> exact rfl) rfl (by simp only [St.put,Za,Zb] <;> exact rfl) ?_) | (first | (refine kK rfl rfl rfl (by simp only [St.put,Za,Zb] <;> exact rfl) ?_) | (refine jK rfl rfl rfl (by simp only [St.put,Za,Zb] <;> exact rfl) ?_)) | (refine yJ rfl rfl rfl (by simp only [Za,Zb] <;> exact rfl) (by simp only [Za,Zb] <;> exact rfl) (fun hg => ?_) (fun hg => ?_) <;> (try simp only [Zp,Zi,ZJ,ZK,ne_eq,Zn,Zm,Bool.not_eq_true,Zu] at hg) <;> first | (refine fL rfl rfl rfl (by simp (disch := omega) only [qop,fop,St.ev,St.put,cd,zd,Value.oneCell',lA,TypeDesc.aggB,Z0,cB,iop,vC,Int.toNat_zero,Int.toNat_one,xA,yA,wA,ZO,Nat.mul_one,ZC,Nat.zero_mul,Zh,fA,oA,Z1,pA,qA,tA,eA,D.pure?,ZD,tt,lB,zA,nB,hx,i31,oK,i3] <;> exact rfl) rfl (by simp only [St.put,Za,Zb] <;> exact rfl) ?_) | (first | (refine kK rfl rfl rfl (by simp only [St.put,Za,Zb] <;> exact rfl) ?_) | (refine jK rfl rfl rfl (by simp only [St.put,Za,Zb] <;> exact rfl) ?_))))
   (all_goals refine eF rfl (by simp (disch := omega) only [qop,fop,St.ev,St.put,cd,zd,Value.oneCell',lA,TypeDesc.aggB,Z0,cB,iop,vC,Int.toNat_zero,Int.toNat_one,xA,yA,wA,ZO,Nat.mul_one,ZC,Nat.zero_mul,Zh,fA,oA,Z1,pA,qA,tA,eA,D.pure?,ZD,tt,lB,zA,nB,hx,i31,oK,i3] <;> exact rfl) (by simp only [St.put,Za,Zb] <;> exact rfl) ?_)
   all_goals refine xC ?_
   all_goals refine ⟨rfl,?_,xD _,yD _,rfl,rfl⟩
   all_goals repeat' (first | exact sA | refine mB ?_ | refine vA rfl ?_ | refine vA ?_ ?_)
   all_goals refine jn ?_
   all_goals ((try simp only [Zp,Zi,ZJ,ZK,Bool.not_eq_true,Zm,Zn,ne_eq,Zf,true_iff,false_iff,iff_true,iff_false] at *) <;> omega)
  refine jA ?_
  refine oB _ rfl (fun hc1 => ?_) (fun hc1 => ?_)
  ·try simp only [Zp,Zi,ZK,ZJ,ne_eq,Zn,Zm,ZB,ZA,ZI,not_or,not_and,Zu] at hc1
   refine oD ?_
   refine fD ?_
   refine zE ?_
   refine jA ?_
   refine gA hX hb [0,1] rfl (σ' := ?s9) (fun K hK => ?h9) ?n9
   case h9 =>
    iterate 2 (refine kA rfl (by simp (disch := omega) only [iA,aA,qop,fop,St.ev,St.put,cd,zd,Value.oneCell',lA,TypeDesc.aggB,Z0,cB,iop,tt,lB,zA,nB,Zh] <;> exact rfl) ?_)
    refine bA ?_
    exact hK
   refine jA ?_
   exact ⟨(i + 1,d + sp,st,ins,k),by exact lDA hI hil hx hsp hc1,by (try dsimp only); omega,rC ⟨rfl,(by repeat first | exact sA | refine mB ?_ | refine vA rfl ?_),(pC rfl (vA rfl (vA rfl (sA))) (xB _)),(yB _),rfl,rfl⟩⟩
  ·try simp only [Zp,Zi,ZK,ZJ,ne_eq,Zn,Zm,ZB,ZA,ZI,not_or,not_and,Zu] at hc1
   rw [← not_and] at hc1
   refine uB ?_
   refine jA ?_
   refine cA ?_
   obtain ⟨now,hnow⟩ : ∃ now,(decide (d + sp > 0) || decide ((0 : Int) > 0)) = now := ⟨_,rfl⟩
   refine gA hX hb [0,1,2,3,4,5,6,7,8] rfl (σ' := ?s10) (fun K hK => ?h10) ?n10
   case h10 =>
    iterate 7 (refine kA rfl (by simp (disch := omega) only [iA,aA,qop,fop,St.ev,St.put,cd,zd,Value.oneCell',lA,TypeDesc.aggB,Z0,Z1,pA,qA,tA,eA,D.pure?,ZC,ZD,Int.toNat_zero,Int.toNat_one,xA,yA,wA,ZO,Nat.mul_one,Nat.zero_mul,Zh,cB,iop,uA,D.pv?,tt,lB,zA,nB,hx] <;> exact rfl) ?_)
    refine mD rfl (by simp only [aA,St.ev,pB,qB,uA,D.pv?,ZG,ZH,zd,cd,Value.oneCell',Zr] <;> exact rfl) (acK hP (aKA _ _ now hnow)) (by simp only [St.put,Za,Zb] <;> exact rfl) ?_
    (refine kA rfl (by simp (disch := omega) only [iA,aA,qop,fop,St.ev,St.put,cd,zd,Value.oneCell',lA,TypeDesc.aggB,Z0,Z1,pA,qA,tA,eA,D.pure?,ZC,ZD,Int.toNat_zero,Int.toNat_one,xA,yA,wA,ZO,Nat.mul_one,Nat.zero_mul,Zh,cB,iop,uA,D.pv?,tt,lB,zA,nB,hx] <;> exact rfl) ?_)
    refine bA ?_
    exact hK
   refine jA ?_
   refine cA ?_
   refine cA ?_
   cases now <;> cases ins
   ·refine gA hX hb [0,1,2,3,4] rfl (σ' := ?s11) (fun K hK => ?h11) ?n11
    case h11 =>
     iterate 2 (refine kA rfl (by simp (disch := omega) only [iA,aA,qop,fop,St.ev,St.put,cd,zd,Value.oneCell',lA,TypeDesc.aggB,Z0,Bool.not_true,Bool.not_false,tt,lB,zA,nB,Zh] <;> exact rfl) ?_)
     iterate 2 (all_goals first | (refine lC rfl rfl rfl (by simp (disch := omega) only [iA,aA,qop,fop,St.ev,St.put,cd,zd,Value.oneCell',lA,TypeDesc.aggB,Z0,Bool.not_true,Bool.not_false,tt,lB,zA,nB,Zh] <;> exact rfl) ?_) | (first | (refine eC rfl rfl rfl (by simp only [St.put,Za,Zb] <;> exact rfl) ?_) | (refine fC rfl rfl rfl (by simp only [St.put,Za,Zb] <;> exact rfl) ?_)) | (refine cC rfl rfl rfl (by simp only [Za,Zb] <;> exact rfl) (by simp only [Za,Zb] <;> exact rfl) (fun hg => ?_) (fun hg => ?_) <;> (try simp only [Zp,Zi,ZJ,ZK,ne_eq,Zn,Zm,Bool.not_eq_true,Zu] at hg) <;> first | (refine lC rfl rfl rfl (by simp (disch := omega) only [iA,aA,qop,fop,St.ev,St.put,cd,zd,Value.oneCell',lA,TypeDesc.aggB,Z0,Bool.not_true,Bool.not_false,tt,lB,zA,nB,Zh] <;> exact rfl) ?_) | (first | (refine eC rfl rfl rfl (by simp only [St.put,Za,Zb] <;> exact rfl) ?_) | (refine fC rfl rfl rfl (by simp only [St.put,Za,Zb] <;> exact rfl) ?_))))
     (refine kA rfl (by simp (disch := omega) only [iA,aA,qop,fop,St.ev,St.put,cd,zd,Value.oneCell',lA,TypeDesc.aggB,Z0,Bool.not_true,Bool.not_false,tt,lB,zA,nB,Zh] <;> exact rfl) ?_)
     refine bA ?_
     exact hK
    refine jA ?_
    refine oB false rfl (fun h => by cases h) (fun _ => ?_)
    refine uB ?_
    refine jA ?_
    refine cA ?_
    refine cA ?_
    refine gA hX hb [0,1,2,3,4,5,6,7,8,9,10,11,12,13,14,15] rfl (σ' := ?s12) (fun K hK => ?h12) ?n12
    case h12 =>
     iterate 3 (refine kA rfl (by simp (disch := omega) only [iA,aA,qop,fop,St.ev,St.put,cd,zd,Value.oneCell',lA,TypeDesc.aggB,Z0,Bool.not_true,Bool.not_false,fA,oA,Z1,pA,qA,tA,eA,D.pure?,ZC,ZD,cB,iop,aE,cD,mC,aC,D.cell1,fB,gB,iB,jB,kB,List.all_cons,List.all_nil,uC,TI.place,TI.zeros,TI.kindOk,D.cells?,zp,Value.cells,ZQ,ZP,uA,D.pv?,tt,lB,zA,nB,Zh,hx] <;> exact rfl) ?_)
     (all_goals first | (refine lC rfl rfl rfl (by simp (disch := omega) only [iA,aA,qop,fop,St.ev,St.put,cd,zd,Value.oneCell',lA,TypeDesc.aggB,Z0,Bool.not_true,Bool.not_false,fA,oA,Z1,pA,qA,tA,eA,D.pure?,ZC,ZD,cB,iop,aE,cD,mC,aC,D.cell1,fB,gB,iB,jB,kB,List.all_cons,List.all_nil,uC,TI.place,TI.zeros,TI.kindOk,D.cells?,zp,Value.cells,ZQ,ZP,uA,D.pv?,tt,lB,zA,nB,Zh,hx] <;> exact rfl) ?_) | (first | (refine eC rfl rfl rfl (by simp only [St.put,Za,Zb] <;> exact rfl) ?_) | (refine fC rfl rfl rfl (by simp only [St.put,Za,Zb] <;> exact rfl) ?_)) | (refine cC rfl rfl rfl (by simp only [Za,Zb] <;> exact rfl) (by simp only [Za,Zb] <;> exact rfl) (fun hg => ?_) (fun hg => ?_) <;> (try simp only [Zp,Zi,ZJ,ZK,ne_eq,Zn,Zm,Bool.not_eq_true,Zu] at hg) <;> first | (refine lC rfl rfl rfl (by simp (disch := omega) only [iA,aA,qop,fop,St.ev,St.put,cd,zd,Value.oneCell',lA,TypeDesc.aggB,Z0,Bool.not_true,Bool.not_false,fA,oA,Z1,pA,qA,tA,eA,D.pure?,ZC,ZD,cB,iop,aE,cD,mC,aC,D.cell1,fB,gB,iB,jB,kB,List.all_cons,List.all_nil,uC,TI.place,TI.zeros,TI.kindOk,D.cells?,zp,Value.cells,ZQ,ZP,uA,D.pv?,tt,lB,zA,nB,Zh,hx] <;> exact rfl) ?_) | (first | (refine eC rfl rfl rfl (by simp only [St.put,Za,Zb] <;> exact rfl) ?_) | (refine fC rfl rfl rfl (by simp only [St.put,Za,Zb] <;> exact rfl) ?_))))
     iterate 2 (refine kA rfl (by simp (disch := omega) only [iA,aA,qop,fop,St.ev,St.put,cd,zd,Value.oneCell',lA,TypeDesc.aggB,Z0,Bool.not_true,Bool.not_false,fA,oA,Z1,pA,qA,tA,eA,D.pure?,ZC,ZD,cB,iop,aE,cD,mC,aC,D.cell1,fB,gB,iB,jB,kB,List.all_cons,List.all_nil,uC,TI.place,TI.zeros,TI.kindOk,D.cells?,zp,Value.cells,ZQ,ZP,uA,D.pv?,tt,lB,zA,nB,Zh,hx] <;> exact rfl) ?_)
     iterate 7 (all_goals first | (refine lC rfl rfl rfl (by simp (disch := omega) only [iA,aA,qop,fop,St.ev,St.put,cd,zd,Value.oneCell',lA,TypeDesc.aggB,Z0,Bool.not_true,Bool.not_false,fA,oA,Z1,pA,qA,tA,eA,D.pure?,ZC,ZD,cB,iop,aE,cD,mC,aC,D.cell1,fB,gB,iB,jB,kB,List.all_cons,List.all_nil,uC,TI.place,TI.zeros,TI.kindOk,D.cells?,zp,Value.cells,ZQ,ZP,uA,D.pv?,tt,lB,zA,nB,Zh,hx] <;> exact rfl) ?_) | (first | (refine eC rfl rfl rfl (by simp only [St.put,Za,Zb] <;> exact rfl) ?_) | (refine fC rfl rfl rfl (by simp only [St.put,Za,Zb] <;> exact rfl) ?_)) | (refine cC rfl rfl rfl (by simp only [Za,Zb] <;> exact rfl) (by simp only [Za,Zb] <;> exact rfl) (fun hg => ?_) (fun hg => ?_) <;> (try simp only [Zp,Zi,ZJ,ZK,ne_eq,Zn,Zm,Bool.not_eq_true,Zu] at hg) <;> first | (refine lC rfl rfl rfl (by simp (disch := omega) only [iA,aA,qop,fop,St.ev,St.put,cd,zd,Value.oneCell',lA,TypeDesc.aggB,Z0,Bool.not_true,Bool.not_false,fA,oA,Z1,pA,qA,tA,eA,D.pure?,ZC,ZD,cB,iop,aE,cD,mC,aC,D.cell1,fB,gB,iB,jB,kB,List.all_cons,List.all_nil,uC,TI.place,TI.zeros,TI.kindOk,D.cells?,zp,Value.cells,ZQ,ZP,uA,D.pv?,tt,lB,zA,nB,Zh,hx] <;> exact rfl) ?_) | (first | (refine eC rfl rfl rfl (by simp only [St.put,Za,Zb] <;> exact rfl) ?_) | (refine fC rfl rfl rfl (by simp only [St.put,Za,Zb] <;> exact rfl) ?_))))
     all_goals first | (first | (refine eC rfl rfl rfl (by simp only [St.put,Za,Zb] <;> exact rfl) ?_) | (refine fC rfl rfl rfl (by simp only [St.put,Za,Zb] <;> exact rfl) ?_)) | (refine qQ rfl rfl rfl rfl (by simp only [St.ev,pB,qB,zd,cd,Value.oneCell',Zr] <;> exact rfl) (by simp only [uA,pD,D.pvC?,D.pvN?,D.pvL?,eA,D.pv?,D.pure?,St.ev,pB,qB,zd,cd,Value.oneCell',Zr,ZG,ZH,Zd,Zc,Zg] <;> exact rfl) rfl ((kL (eI hI hil hx hsp hc1 hnow).1)) (by simp only [St.put,Za,Zb] <;> exact rfl) ?_) | (refine cC rfl rfl rfl (by simp only [Za,Zb] <;> exact rfl) (by simp only [Za,Zb] <;> exact rfl) (fun hg => ?_) (fun hg => ?_) <;> (try simp only [Zp,Zi,ZJ,ZK,ne_eq,Zn,Zm,Bool.not_eq_true,Zu] at hg) <;> first | (first | (refine eC rfl rfl rfl (by simp only [St.put,Za,Zb] <;> exact rfl) ?_) | (refine fC rfl rfl rfl (by simp only [St.put,Za,Zb] <;> exact rfl) ?_)) | (refine qQ rfl rfl rfl rfl (by simp only [St.ev,pB,qB,zd,cd,Value.oneCell',Zr] <;> exact rfl) (by simp only [uA,pD,D.pvC?,D.pvN?,D.pvL?,eA,D.pv?,D.pure?,St.ev,pB,qB,zd,cd,Value.oneCell',Zr,ZG,ZH,Zd,Zc,Zg] <;> exact rfl) rfl ((kL (eI hI hil hx hsp hc1 hnow).1)) (by simp only [St.put,Za,Zb] <;> exact rfl) ?_))
     (all_goals first | (refine lC rfl rfl rfl (by simp (disch := omega) only [iA,aA,qop,fop,St.ev,St.put,cd,zd,Value.oneCell',lA,TypeDesc.aggB,Z0,Bool.not_true,Bool.not_false,fA,oA,Z1,pA,qA,tA,eA,D.pure?,ZC,ZD,cB,iop,aE,cD,mC,aC,D.cell1,fB,gB,iB,jB,kB,List.all_cons,List.all_nil,uC,TI.place,TI.zeros,TI.kindOk,D.cells?,zp,Value.cells,ZQ,ZP,uA,D.pv?,tt,lB,zA,nB,Zh,hx] <;> exact rfl) ?_) | (first | (refine eC rfl rfl rfl (by simp only [St.put,Za,Zb] <;> exact rfl) ?_) | (refine fC rfl rfl rfl (by simp only [St.put,Za,Zb] <;> exact rfl) ?_)) | (refine cC rfl rfl rfl (by simp only [Za,Zb] <;> exact rfl) (by simp only [Za,Zb] <;> exact rfl) (fun hg => ?_) (fun hg => ?_) <;> (try simp only [Zp,Zi,ZJ,ZK,ne_eq,Zn,Zm,Bool.not_eq_true,Zu] at hg) <;> first | (refine lC rfl rfl rfl (by simp (disch := omega) only [iA,aA,qop,fop,St.ev,St.put,cd,zd,Value.oneCell',lA,TypeDesc.aggB,Z0,Bool.not_true,Bool.not_false,fA,oA,Z1,pA,qA,tA,eA,D.pure?,ZC,ZD,cB,iop,aE,cD,mC,aC,D.cell1,fB,gB,iB,jB,kB,List.all_cons,List.all_nil,uC,TI.place,TI.zeros,TI.kindOk,D.cells?,zp,Value.cells,ZQ,ZP,uA,D.pv?,tt,lB,zA,nB,Zh,hx] <;> exact rfl) ?_) | (first | (refine eC rfl rfl rfl (by simp only [St.put,Za,Zb] <;> exact rfl) ?_) | (refine fC rfl rfl rfl (by simp only [St.put,Za,Zb] <;> exact rfl) ?_))))
     (refine kA rfl (by simp (disch := omega) only [iA,aA,qop,fop,St.ev,St.put,cd,zd,Value.oneCell',lA,TypeDesc.aggB,Z0,Bool.not_true,Bool.not_false,fA,oA,Z1,pA,qA,tA,eA,D.pure?,ZC,ZD,cB,iop,aE,cD,mC,aC,D.cell1,fB,gB,iB,jB,kB,List.all_cons,List.all_nil,uC,TI.place,TI.zeros,TI.kindOk,D.cells?,zp,Value.cells,ZQ,ZP,uA,D.pv?,tt,lB,zA,nB,Zh,hx] <;> exact rfl) ?_)
     refine bA ?_
     exact hK
    refine jA ?_
    refine oB false rfl (fun h => by cases h) (fun _ => ?_)
    refine uB ?_
    refine jA ?_
    refine gA hX hb [0,1] rfl (σ' := ?s13) (fun K hK => ?h13) ?n13
    case h13 =>
     iterate 2 (refine kA rfl (by simp (disch := omega) only [iA,aA,qop,fop,St.ev,St.put,cd,zd,Value.oneCell',lA,TypeDesc.aggB,Z0,lB,zA,nB,Zh] <;> exact rfl) ?_)
     refine bA ?_
     exact hK
    refine cE ?_
    refine jA ?_
    refine gA hX hb [0,1] rfl (σ' := ?s14) (fun K hK => ?h14) ?n14
    case h14 =>
     iterate 2 (refine kA rfl (by simp (disch := omega) only [iA,aA,qop,fop,St.ev,St.put,cd,zd,Value.oneCell',lA,TypeDesc.aggB,Z0,cB,iop,tt,lB,zA,nB,Zh] <;> exact rfl) ?_)
     refine bA ?_
     exact hK
    refine jA ?_
    exact ⟨(i + 1,d + sp,st,false,k),by exact zEA hI hil hx hsp hc1 hnow,by (try dsimp only); omega,rC ⟨rfl,(by repeat first | exact sA | refine mB ?_ | refine vA rfl ?_),(pC rfl (vA rfl (vA rfl (sA))) (xB _)),(yB _),rfl,rfl⟩⟩
   ·refine gA hX hb [0,1,2,3,4] rfl (σ' := ?s15) (fun K hK => ?h15) ?n15
    case h15 =>
     iterate 2 (refine kA rfl (by simp (disch := omega) only [iA,aA,qop,fop,St.ev,St.put,cd,zd,Value.oneCell',lA,TypeDesc.aggB,Z0,Bool.not_true,Bool.not_false,tt,lB,zA,nB,Zh] <;> exact rfl) ?_)
     iterate 2 (all_goals first | (refine lC rfl rfl rfl (by simp (disch := omega) only [iA,aA,qop,fop,St.ev,St.put,cd,zd,Value.oneCell',lA,TypeDesc.aggB,Z0,Bool.not_true,Bool.not_false,tt,lB,zA,nB,Zh] <;> exact rfl) ?_) | (first | (refine eC rfl rfl rfl (by simp only [St.put,Za,Zb] <;> exact rfl) ?_) | (refine fC rfl rfl rfl (by simp only [St.put,Za,Zb] <;> exact rfl) ?_)) | (refine cC rfl rfl rfl (by simp only [Za,Zb] <;> exact rfl) (by simp only [Za,Zb] <;> exact rfl) (fun hg => ?_) (fun hg => ?_) <;> (try simp only [Zp,Zi,ZJ,ZK,ne_eq,Zn,Zm,Bool.not_eq_true,Zu] at hg) <;> first | (refine lC rfl rfl rfl (by simp (disch := omega) only [iA,aA,qop,fop,St.ev,St.put,cd,zd,Value.oneCell',lA,TypeDesc.aggB,Z0,Bool.not_true,Bool.not_false,tt,lB,zA,nB,Zh] <;> exact rfl) ?_) | (first | (refine eC rfl rfl rfl (by simp only [St.put,Za,Zb] <;> exact rfl) ?_) | (refine fC rfl rfl rfl (by simp only [St.put,Za,Zb] <;> exact rfl) ?_))))
     (refine kA rfl (by simp (disch := omega) only [iA,aA,qop,fop,St.ev,St.put,cd,zd,Value.oneCell',lA,TypeDesc.aggB,Z0,Bool.not_true,Bool.not_false,tt,lB,zA,nB,Zh] <;> exact rfl) ?_)
     refine bA ?_
     exact hK
    refine jA ?_
    refine oB false rfl (fun h => by cases h) (fun _ => ?_)
    refine uB ?_
    refine jA ?_
    refine cA ?_
    refine cA ?_
    refine gA hX hb [0,1,2,3,4,5,6,7,8,9,10,11,12,13,14,15] rfl (σ' := ?s16) (fun K hK => ?h16) ?n16
    case h16 =>
     iterate 3 (refine kA rfl (by simp (disch := omega) only [iA,aA,qop,fop,St.ev,St.put,cd,zd,Value.oneCell',lA,TypeDesc.aggB,Z0,Bool.not_true,Bool.not_false,fA,oA,Z1,pA,qA,tA,eA,D.pure?,ZC,ZD,cB,iop,aE,cD,mC,aC,D.cell1,fB,gB,iB,jB,kB,List.all_cons,List.all_nil,uC,TI.place,TI.zeros,TI.kindOk,D.cells?,zp,Value.cells,ZQ,ZP,uA,D.pv?,tt,lB,zA,nB,Zh,hx] <;> exact rfl) ?_)
     (all_goals first | (refine lC rfl rfl rfl (by simp (disch := omega) only [iA,aA,qop,fop,St.ev,St.put,cd,zd,Value.oneCell',lA,TypeDesc.aggB,Z0,Bool.not_true,Bool.not_false,fA,oA,Z1,pA,qA,tA,eA,D.pure?,ZC,ZD,cB,iop,aE,cD,mC,aC,D.cell1,fB,gB,iB,jB,kB,List.all_cons,List.all_nil,uC,TI.place,TI.zeros,TI.kindOk,D.cells?,zp,Value.cells,ZQ,ZP,uA,D.pv?,tt,lB,zA,nB,Zh,hx] <;> exact rfl) ?_) | (first | (refine eC rfl rfl rfl (by simp only [St.put,Za,Zb] <;> exact rfl) ?_) | (refine fC rfl rfl rfl (by simp only [St.put,Za,Zb] <;> exact rfl) ?_)) | (refine cC rfl rfl rfl (by simp only [Za,Zb] <;> exact rfl) (by simp only [Za,Zb] <;> exact rfl) (fun hg => ?_) (fun hg => ?_) <;> (try simp only [Zp,Zi,ZJ,ZK,ne_eq,Zn,Zm,Bool.not_eq_true,Zu] at hg) <;> first | (refine lC rfl rfl rfl (by simp (disch := omega) only [iA,aA,qop,fop,St.ev,St.put,cd,zd,Value.oneCell',lA,TypeDesc.aggB,Z0,Bool.not_true,Bool.not_false,fA,oA,Z1,pA,qA,tA,eA,D.pure?,ZC,ZD,cB,iop,aE,cD,mC,aC,D.cell1,fB,gB,iB,jB,kB,List.all_cons,List.all_nil,uC,TI.place,TI.zeros,TI.kindOk,D.cells?,zp,Value.cells,ZQ,ZP,uA,D.pv?,tt,lB,zA,nB,Zh,hx] <;> exact rfl) ?_) | (first | (refine eC rfl rfl rfl (by simp only [St.put,Za,Zb] <;> exact rfl) ?_) | (refine fC rfl rfl rfl (by simp only [St.put,Za,Zb] <;> exact rfl) ?_))))
     iterate 2 (refine kA rfl (by simp (disch := omega) only [iA,aA,qop,fop,St.ev,St.put,cd,zd,Value.oneCell',lA,TypeDesc.aggB,Z0,Bool.not_true,Bool.not_false,fA,oA,Z1,pA,qA,tA,eA,D.pure?,ZC,ZD,cB,iop,aE,cD,mC,aC,D.cell1,fB,gB,iB,jB,kB,List.all_cons,List.all_nil,uC,TI.place,TI.zeros,TI.kindOk,D.cells?,zp,Value.cells,ZQ,ZP,uA,D.pv?,tt,lB,zA,nB,Zh,hx] <;> exact rfl) ?_)
     iterate 7 (all_goals first | (refine lC rfl rfl rfl (by simp (disch := omega) only [iA,aA,qop,fop,St.ev,St.put,cd,zd,Value.oneCell',lA,TypeDesc.aggB,Z0,Bool.not_true,Bool.not_false,fA,oA,Z1,pA,qA,tA,eA,D.pure?,ZC,ZD,cB,iop,aE,cD,mC,aC,D.cell1,fB,gB,iB,jB,kB,List.all_cons,List.all_nil,uC,TI.place,TI.zeros,TI.kindOk,D.cells?,zp,Value.cells,ZQ,ZP,uA,D.pv?,tt,lB,zA,nB,Zh,hx] <;> exact rfl) ?_) | (first | (refine eC rfl rfl rfl (by simp only [St.put,Za,Zb] <;> exact rfl) ?_) | (refine fC rfl rfl rfl (by simp only [St.put,Za,Zb] <;> exact rfl) ?_)) | (refine cC rfl rfl rfl (by simp only [Za,Zb] <;> exact rfl) (by simp only [Za,Zb] <;> exact rfl) (fun hg => ?_) (fun hg => ?_) <;> (try simp only [Zp,Zi,ZJ,ZK,ne_eq,Zn,Zm,Bool.not_eq_true,Zu] at hg) <;> first | (refine lC rfl rfl rfl (by simp (disch := omega) only [iA,aA,qop,fop,St.ev,St.put,cd,zd,Value.oneCell',lA,TypeDesc.aggB,Z0,Bool.not_true,Bool.not_false,fA,oA,Z1,pA,qA,tA,eA,D.pure?,ZC,ZD,cB,iop,aE,cD,mC,aC,D.cell1,fB,gB,iB,jB,kB,List.all_cons,List.all_nil,uC,TI.place,TI.zeros,TI.kindOk,D.cells?,zp,Value.cells,ZQ,ZP,uA,D.pv?,tt,lB,zA,nB,Zh,hx] <;> exact rfl) ?_) | (first | (refine eC rfl rfl rfl (by simp only [St.put,Za,Zb] <;> exact rfl) ?_) | (refine fC rfl rfl rfl (by simp only [St.put,Za,Zb] <;> exact rfl) ?_))))
     all_goals first | (first | (refine eC rfl rfl rfl (by simp only [St.put,Za,Zb] <;> exact rfl) ?_) | (refine fC rfl rfl rfl (by simp only [St.put,Za,Zb] <;> exact rfl) ?_)) | (refine qQ rfl rfl rfl rfl (by simp only [St.ev,pB,qB,zd,cd,Value.oneCell',Zr] <;> exact rfl) (by simp only [uA,pD,D.pvC?,D.pvN?,D.pvL?,eA,D.pv?,D.pure?,St.ev,pB,qB,zd,cd,Value.oneCell',Zr,ZG,ZH,Zd,Zc,Zg] <;> exact rfl) rfl ((kL (eI hI hil hx hsp hc1 hnow).1)) (by simp only [St.put,Za,Zb] <;> exact rfl) ?_) | (refine cC rfl rfl rfl (by simp only [Za,Zb] <;> exact rfl) (by simp only [Za,Zb] <;> exact rfl) (fun hg => ?_) (fun hg => ?_) <;> (try simp only [Zp,Zi,ZJ,ZK,ne_eq,Zn,Zm,Bool.not_eq_true,Zu] at hg) <;> first | (first | (refine eC rfl rfl rfl (by simp only [St.put,Za,Zb] <;> exact rfl) ?_) | (refine fC rfl rfl rfl (by simp only [St.put,Za,Zb] <;> exact rfl) ?_)) | (refine qQ rfl rfl rfl rfl (by simp only [St.ev,pB,qB,zd,cd,Value.oneCell',Zr] <;> exact rfl) (by simp only [uA,pD,D.pvC?,D.pvN?,D.pvL?,eA,D.pv?,D.pure?,St.ev,pB,qB,zd,cd,Value.oneCell',Zr,ZG,ZH,Zd,Zc,Zg] <;> exact rfl) rfl ((kL (eI hI hil hx hsp hc1 hnow).1)) (by simp only [St.put,Za,Zb] <;> exact rfl) ?_))
     (all_goals first | (refine lC rfl rfl rfl (by simp (disch := omega) only [iA,aA,qop,fop,St.ev,St.put,cd,zd,Value.oneCell',lA,TypeDesc.aggB,Z0,Bool.not_true,Bool.not_false,fA,oA,Z1,pA,qA,tA,eA,D.pure?,ZC,ZD,cB,iop,aE,cD,mC,aC,D.cell1,fB,gB,iB,jB,kB,List.all_cons,List.all_nil,uC,TI.place,TI.zeros,TI.kindOk,D.cells?,zp,Value.cells,ZQ,ZP,uA,D.pv?,tt,lB,zA,nB,Zh,hx] <;> exact rfl) ?_) | (first | (refine eC rfl rfl rfl (by simp only [St.put,Za,Zb] <;> exact rfl) ?_) | (refine fC rfl rfl rfl (by simp only [St.put,Za,Zb] <;> exact rfl) ?_)) | (refine cC rfl rfl rfl (by simp only [Za,Zb] <;> exact rfl) (by simp only [Za,Zb] <;> exact rfl) (fun hg => ?_) (fun hg => ?_) <;> (try simp only [Zp,Zi,ZJ,ZK,ne_eq,Zn,Zm,Bool.not_eq_true,Zu] at hg) <;> first | (refine lC rfl rfl rfl (by simp (disch := omega) only [iA,aA,qop,fop,St.ev,St.put,cd,zd,Value.oneCell',lA,TypeDesc.aggB,Z0,Bool.not_true,Bool.not_false,fA,oA,Z1,pA,qA,tA,eA,D.pure?,ZC,ZD,cB,iop,aE,cD,mC,aC,D.cell1,fB,gB,iB,jB,kB,List.all_cons,List.all_nil,uC,TI.place,TI.zeros,TI.kindOk,D.cells?,zp,Value.cells,ZQ,ZP,uA,D.pv?,tt,lB,zA,nB,Zh,hx] <;> exact rfl) ?_) | (first | (refine eC rfl rfl rfl (by simp only [St.put,Za,Zb] <;> exact rfl) ?_) | (refine fC rfl rfl rfl (by simp only [St.put,Za,Zb] <;> exact rfl) ?_))))
     (refine kA rfl (by simp (disch := omega) only [iA,aA,qop,fop,St.ev,St.put,cd,zd,Value.oneCell',lA,TypeDesc.aggB,Z0,Bool.not_true,Bool.not_false,fA,oA,Z1,pA,qA,tA,eA,D.pure?,ZC,ZD,cB,iop,aE,cD,mC,aC,D.cell1,fB,gB,iB,jB,kB,List.all_cons,List.all_nil,uC,TI.place,TI.zeros,TI.kindOk,D.cells?,zp,Value.cells,ZQ,ZP,uA,D.pv?,tt,lB,zA,nB,Zh,hx] <;> exact rfl) ?_)
     refine bA ?_
     exact hK
    refine jA ?_
    refine oB false rfl (fun h => by cases h) (fun _ => ?_)
    refine uB ?_
    refine jA ?_
    refine gA hX hb [0,1] rfl (σ' := ?s17) (fun K hK => ?h17) ?n17
    case h17 =>
     iterate 2 (refine kA rfl (by simp (disch := omega) only [iA,aA,qop,fop,St.ev,St.put,cd,zd,Value.oneCell',lA,TypeDesc.aggB,Z0,lB,zA,nB,Zh] <;> exact rfl) ?_)
     refine bA ?_
     exact hK
    refine cE ?_
    refine jA ?_
    refine gA hX hb [0,1] rfl (σ' := ?s18) (fun K hK => ?h18) ?n18
    case h18 =>
     iterate 2 (refine kA rfl (by simp (disch := omega) only [iA,aA,qop,fop,St.ev,St.put,cd,zd,Value.oneCell',lA,TypeDesc.aggB,Z0,cB,iop,tt,lB,zA,nB,Zh] <;> exact rfl) ?_)
     refine bA ?_
     exact hK
    refine jA ?_
    exact ⟨(i + 1,d + sp,st,false,k + 1),by exact (eI hI hil hx hsp hc1 hnow).2,by (try dsimp only); omega,rC ⟨rfl,(by repeat first | exact sA | refine mB ?_ | refine vA rfl ?_),(pC rfl (vA rfl (vA rfl (sA))) (xB _)),(yB _),rfl,rfl⟩⟩
   ·refine gA hX hb [0,1,2,3,4] rfl (σ' := ?s19) (fun K hK => ?h19) ?n19
    case h19 =>
     iterate 2 (refine kA rfl (by simp (disch := omega) only [iA,aA,qop,fop,St.ev,St.put,cd,zd,Value.oneCell',lA,TypeDesc.aggB,Z0,Bool.not_true,Bool.not_false,tt,lB,zA,nB,Zh] <;> exact rfl) ?_)
     iterate 2 (all_goals first | (refine lC rfl rfl rfl (by simp (disch := omega) only [iA,aA,qop,fop,St.ev,St.put,cd,zd,Value.oneCell',lA,TypeDesc.aggB,Z0,Bool.not_true,Bool.not_false,tt,lB,zA,nB,Zh] <;> exact rfl) ?_) | (first | (refine eC rfl rfl rfl (by simp only [St.put,Za,Zb] <;> exact rfl) ?_) | (refine fC rfl rfl rfl (by simp only [St.put,Za,Zb] <;> exact rfl) ?_)) | (refine cC rfl rfl rfl (by simp only [Za,Zb] <;> exact rfl) (by simp only [Za,Zb] <;> exact rfl) (fun hg => ?_) (fun hg => ?_) <;> (try simp only [Zp,Zi,ZJ,ZK,ne_eq,Zn,Zm,Bool.not_eq_true,Zu] at hg) <;> first | (refine lC rfl rfl rfl (by simp (disch := omega) only [iA,aA,qop,fop,St.ev,St.put,cd,zd,Value.oneCell',lA,TypeDesc.aggB,Z0,Bool.not_true,Bool.not_false,tt,lB,zA,nB,Zh] <;> exact rfl) ?_) | (first | (refine eC rfl rfl rfl (by simp only [St.put,Za,Zb] <;> exact rfl) ?_) | (refine fC rfl rfl rfl (by simp only [St.put,Za,Zb] <;> exact rfl) ?_))))
     (refine kA rfl (by simp (disch := omega) only [iA,aA,qop,fop,St.ev,St.put,cd,zd,Value.oneCell',lA,TypeDesc.aggB,Z0,Bool.not_true,Bool.not_false,tt,lB,zA,nB,Zh] <;> exact rfl) ?_)
     refine bA ?_
     exact hK
    refine jA ?_
    refine oB true rfl (fun _ => ?_) (fun h => by cases h)
    refine gA hX hb [0,1,2] rfl (σ' := ?s20) (fun K hK => ?h20) ?n20
    case h20 =>
     iterate 3 (refine kA rfl (by simp (disch := omega) only [iA,aA,qop,fop,St.ev,St.put,cd,zd,Value.oneCell',lA,TypeDesc.aggB,Z0,fA,oA,Z1,pA,qA,tA,eA,D.pure?,ZC,ZD,tt,lB,zA,nB,Zh,hx] <;> exact rfl) ?_)
     refine bA ?_
     exact hK
    refine jA ?_
    refine cA ?_
    refine cA ?_
    refine gA hX hb [0,1,2,3,4,5,6,7,8,9,10,11,12,13,14,15] rfl (σ' := ?s21) (fun K hK => ?h21) ?n21
    case h21 =>
     iterate 3 (refine kA rfl (by simp (disch := omega) only [iA,aA,qop,fop,St.ev,St.put,cd,zd,Value.oneCell',lA,TypeDesc.aggB,Z0,Bool.not_true,Bool.not_false,fA,oA,Z1,pA,qA,tA,eA,D.pure?,ZC,ZD,cB,iop,aE,cD,mC,aC,D.cell1,fB,gB,iB,jB,kB,List.all_cons,List.all_nil,uC,TI.place,TI.zeros,TI.kindOk,D.cells?,zp,Value.cells,ZQ,ZP,uA,D.pv?,tt,lB,zA,nB,Zh,hx] <;> exact rfl) ?_)
     (all_goals first | (refine lC rfl rfl rfl (by simp (disch := omega) only [iA,aA,qop,fop,St.ev,St.put,cd,zd,Value.oneCell',lA,TypeDesc.aggB,Z0,Bool.not_true,Bool.not_false,fA,oA,Z1,pA,qA,tA,eA,D.pure?,ZC,ZD,cB,iop,aE,cD,mC,aC,D.cell1,fB,gB,iB,jB,kB,List.all_cons,List.all_nil,uC,TI.place,TI.zeros,TI.kindOk,D.cells?,zp,Value.cells,ZQ,ZP,uA,D.pv?,tt,lB,zA,nB,Zh,hx] <;> exact rfl) ?_) | (first | (refine eC rfl rfl rfl (by simp only [St.put,Za,Zb] <;> exact rfl) ?_) | (refine fC rfl rfl rfl (by simp only [St.put,Za,Zb] <;> exact rfl) ?_)) | (refine cC rfl rfl rfl (by simp only [Za,Zb] <;> exact rfl) (by simp only [Za,Zb] <;> exact rfl) (fun hg => ?_) (fun hg => ?_) <;> (try simp only [Zp,Zi,ZJ,ZK,ne_eq,Zn,Zm,Bool.not_eq_true,Zu] at hg) <;> first | (refine lC rfl rfl rfl (by simp (disch := omega) only [iA,aA,qop,fop,St.ev,St.put,cd,zd,Value.oneCell',lA,TypeDesc.aggB,Z0,Bool.not_true,Bool.not_false,fA,oA,Z1,pA,qA,tA,eA,D.pure?,ZC,ZD,cB,iop,aE,cD,mC,aC,D.cell1,fB,gB,iB,jB,kB,List.all_cons,List.all_nil,uC,TI.place,TI.zeros,TI.kindOk,D.cells?,zp,Value.cells,ZQ,ZP,uA,D.pv?,tt,lB,zA,nB,Zh,hx] <;> exact rfl) ?_) | (first | (refine eC rfl rfl rfl (by simp only [St.put,Za,Zb] <;> exact rfl) ?_) | (refine fC rfl rfl rfl (by simp only [St.put,Za,Zb] <;> exact rfl) ?_))))
     iterate 2 (refine kA rfl (by simp (disch := omega) only [iA,aA,qop,fop,St.ev,St.put,cd,zd,Value.oneCell',lA,TypeDesc.aggB,Z0,Bool.not_true,Bool.not_false,fA,oA,Z1,pA,qA,tA,eA,D.pure?,ZC,ZD,cB,iop,aE,cD,mC,aC,D.cell1,fB,gB,iB,jB,kB,List.all_cons,List.all_nil,uC,TI.place,TI.zeros,TI.kindOk,D.cells?,zp,Value.cells,ZQ,ZP,uA,D.pv?,tt,lB,zA,nB,Zh,hx] <;> exact rfl) ?_)
     iterate 7 (all_goals first | (refine lC rfl rfl rfl (by simp (disch := omega) only [iA,aA,qop,fop,St.ev,St.put,cd,zd,Value.oneCell',lA,TypeDesc.aggB,Z0,Bool.not_true,Bool.not_false,fA,oA,Z1,pA,qA,tA,eA,D.pure?,ZC,ZD,cB,iop,aE,cD,mC,aC,D.cell1,fB,gB,iB,jB,kB,List.all_cons,List.all_nil,uC,TI.place,TI.zeros,TI.kindOk,D.cells?,zp,Value.cells,ZQ,ZP,uA,D.pv?,tt,lB,zA,nB,Zh,hx] <;> exact rfl) ?_) | (first | (refine eC rfl rfl rfl (by simp only [St.put,Za,Zb] <;> exact rfl) ?_) | (refine fC rfl rfl rfl (by simp only [St.put,Za,Zb] <;> exact rfl) ?_)) | (refine cC rfl rfl rfl (by simp only [Za,Zb] <;> exact rfl) (by simp only [Za,Zb] <;> exact rfl) (fun hg => ?_) (fun hg => ?_) <;> (try simp only [Zp,Zi,ZJ,ZK,ne_eq,Zn,Zm,Bool.not_eq_true,Zu] at hg) <;> first | (refine lC rfl rfl rfl (by simp (disch := omega) only [iA,aA,qop,fop,St.ev,St.put,cd,zd,Value.oneCell',lA,TypeDesc.aggB,Z0,Bool.not_true,Bool.not_false,fA,oA,Z1,pA,qA,tA,eA,D.pure?,ZC,ZD,cB,iop,aE,cD,mC,aC,D.cell1,fB,gB,iB,jB,kB,List.all_cons,List.all_nil,uC,TI.place,TI.zeros,TI.kindOk,D.cells?,zp,Value.cells,ZQ,ZP,uA,D.pv?,tt,lB,zA,nB,Zh,hx] <;> exact rfl) ?_) | (first | (refine eC rfl rfl rfl (by simp only [St.put,Za,Zb] <;> exact rfl) ?_) | (refine fC rfl rfl rfl (by simp only [St.put,Za,Zb] <;> exact rfl) ?_))))
     all_goals first | (first | (refine eC rfl rfl rfl (by simp only [St.put,Za,Zb] <;> exact rfl) ?_) | (refine fC rfl rfl rfl (by simp only [St.put,Za,Zb] <;> exact rfl) ?_)) | (refine qQ rfl rfl rfl rfl (by simp only [St.ev,pB,qB,zd,cd,Value.oneCell',Zr] <;> exact rfl) (by simp only [uA,pD,D.pvC?,D.pvN?,D.pvL?,eA,D.pv?,D.pure?,St.ev,pB,qB,zd,cd,Value.oneCell',Zr,ZG,ZH,Zd,Zc,Zg] <;> exact rfl) rfl ((kL (eI hI hil hx hsp hc1 hnow).1)) (by simp only [St.put,Za,Zb] <;> exact rfl) ?_) | (refine cC rfl rfl rfl (by simp only [Za,Zb] <;> exact rfl) (by simp only [Za,Zb] <;> exact rfl) (fun hg => ?_) (fun hg => ?_) <;> (try simp only [Zp,Zi,ZJ,ZK,ne_eq,Zn,Zm,Bool.not_eq_true,Zu] at hg) <;> first | (first | (refine eC rfl rfl rfl (by simp only [St.put,Za,Zb] <;> exact rfl) ?_) | (refine fC rfl rfl rfl (by simp only [St.put,Za,Zb] <;> exact rfl) ?_)) | (refine qQ rfl rfl rfl rfl (by simp only [St.ev,pB,qB,zd,cd,Value.oneCell',Zr] <;> exact rfl) (by simp only [uA,pD,D.pvC?,D.pvN?,D.pvL?,eA,D.pv?,D.pure?,St.ev,pB,qB,zd,cd,Value.oneCell',Zr,ZG,ZH,Zd,Zc,Zg] <;> exact rfl) rfl ((kL (eI hI hil hx hsp hc1 hnow).1)) (by simp only [St.put,Za,Zb] <;> exact rfl) ?_))
     (all_goals first | (refine lC rfl rfl rfl (by simp (disch := omega) only [iA,aA,qop,fop,St.ev,St.put,cd,zd,Value.oneCell',lA,TypeDesc.aggB,Z0,Bool.not_true,Bool.not_false,fA,oA,Z1,pA,qA,tA,eA,D.pure?,ZC,ZD,cB,iop,aE,cD,mC,aC,D.cell1,fB,gB,iB,jB,kB,List.all_cons,List.all_nil,uC,TI.place,TI.zeros,TI.kindOk,D.cells?,zp,Value.cells,ZQ,ZP,uA,D.pv?,tt,lB,zA,nB,Zh,hx] <;> exact rfl) ?_) | (first | (refine eC rfl rfl rfl (by simp only [St.put,Za,Zb] <;> exact rfl) ?_) | (refine fC rfl rfl rfl (by simp only [St.put,Za,Zb] <;> exact rfl) ?_)) | (refine cC rfl rfl rfl (by simp only [Za,Zb] <;> exact rfl) (by simp only [Za,Zb] <;> exact rfl) (fun hg => ?_) (fun hg => ?_) <;> (try simp only [Zp,Zi,ZJ,ZK,ne_eq,Zn,Zm,Bool.not_eq_true,Zu] at hg) <;> first | (refine lC rfl rfl rfl (by simp (disch := omega) only [iA,aA,qop,fop,St.ev,St.put,cd,zd,Value.oneCell',lA,TypeDesc.aggB,Z0,Bool.not_true,Bool.not_false,fA,oA,Z1,pA,qA,tA,eA,D.pure?,ZC,ZD,cB,iop,aE,cD,mC,aC,D.cell1,fB,gB,iB,jB,kB,List.all_cons,List.all_nil,uC,TI.place,TI.zeros,TI.kindOk,D.cells?,zp,Value.cells,ZQ,ZP,uA,D.pv?,tt,lB,zA,nB,Zh,hx] <;> exact rfl) ?_) | (first | (refine eC rfl rfl rfl (by simp only [St.put,Za,Zb] <;> exact rfl) ?_) | (refine fC rfl rfl rfl (by simp only [St.put,Za,Zb] <;> exact rfl) ?_))))
     (refine kA rfl (by simp (disch := omega) only [iA,aA,qop,fop,St.ev,St.put,cd,zd,Value.oneCell',lA,TypeDesc.aggB,Z0,Bool.not_true,Bool.not_false,fA,oA,Z1,pA,qA,tA,eA,D.pure?,ZC,ZD,cB,iop,aE,cD,mC,aC,D.cell1,fB,gB,iB,jB,kB,List.all_cons,List.all_nil,uC,TI.place,TI.zeros,TI.kindOk,D.cells?,zp,Value.cells,ZQ,ZP,uA,D.pv?,tt,lB,zA,nB,Zh,hx] <;> exact rfl) ?_)
     refine bA ?_
     exact hK
    refine jA ?_
    refine oB false rfl (fun h => by cases h) (fun _ => ?_)
    refine uB ?_
    refine jA ?_
    refine gA hX hb [0,1] rfl (σ' := ?s22) (fun K hK => ?h22) ?n22
    case h22 =>
     iterate 2 (refine kA rfl (by simp (disch := omega) only [iA,aA,qop,fop,St.ev,St.put,cd,zd,Value.oneCell',lA,TypeDesc.aggB,Z0,lB,zA,nB,Zh] <;> exact rfl) ?_)
     refine bA ?_
     exact hK
    refine cE ?_
    refine jA ?_
    refine gA hX hb [0,1] rfl (σ' := ?s23) (fun K hK => ?h23) ?n23
    case h23 =>
     iterate 2 (refine kA rfl (by simp (disch := omega) only [iA,aA,qop,fop,St.ev,St.put,cd,zd,Value.oneCell',lA,TypeDesc.aggB,Z0,cB,iop,tt,lB,zA,nB,Zh] <;> exact rfl) ?_)
     refine bA ?_
     exact hK
    refine jA ?_
    exact ⟨(i + 1,d + sp,at2,true,k),by exact mDA hI hil hx hsp ⟨ha1,ha2⟩ hc1 hnow,by (try dsimp only); omega,rC ⟨rfl,(by repeat first | exact sA | refine mB ?_ | refine vA rfl ?_),(pC rfl (vA rfl (vA rfl (sA))) (xB _)),(yB _),rfl,rfl⟩⟩
   ·refine gA hX hb [0,1,2,3,4] rfl (σ' := ?s24) (fun K hK => ?h24) ?n24
    case h24 =>
     iterate 2 (refine kA rfl (by simp (disch := omega) only [iA,aA,qop,fop,St.ev,St.put,cd,zd,Value.oneCell',lA,TypeDesc.aggB,Z0,Bool.not_true,Bool.not_false,tt,lB,zA,nB,Zh] <;> exact rfl) ?_)
     iterate 2 (all_goals first | (refine lC rfl rfl rfl (by simp (disch := omega) only [iA,aA,qop,fop,St.ev,St.put,cd,zd,Value.oneCell',lA,TypeDesc.aggB,Z0,Bool.not_true,Bool.not_false,tt,lB,zA,nB,Zh] <;> exact rfl) ?_) | (first | (refine eC rfl rfl rfl (by simp only [St.put,Za,Zb] <;> exact rfl) ?_) | (refine fC rfl rfl rfl (by simp only [St.put,Za,Zb] <;> exact rfl) ?_)) | (refine cC rfl rfl rfl (by simp only [Za,Zb] <;> exact rfl) (by simp only [Za,Zb] <;> exact rfl) (fun hg => ?_) (fun hg => ?_) <;> (try simp only [Zp,Zi,ZJ,ZK,ne_eq,Zn,Zm,Bool.not_eq_true,Zu] at hg) <;> first | (refine lC rfl rfl rfl (by simp (disch := omega) only [iA,aA,qop,fop,St.ev,St.put,cd,zd,Value.oneCell',lA,TypeDesc.aggB,Z0,Bool.not_true,Bool.not_false,tt,lB,zA,nB,Zh] <;> exact rfl) ?_) | (first | (refine eC rfl rfl rfl (by simp only [St.put,Za,Zb] <;> exact rfl) ?_) | (refine fC rfl rfl rfl (by simp only [St.put,Za,Zb] <;> exact rfl) ?_))))
     (refine kA rfl (by simp (disch := omega) only [iA,aA,qop,fop,St.ev,St.put,cd,zd,Value.oneCell',lA,TypeDesc.aggB,Z0,Bool.not_true,Bool.not_false,tt,lB,zA,nB,Zh] <;> exact rfl) ?_)
     refine bA ?_
     exact hK
    refine jA ?_
    refine oB false rfl (fun h => by cases h) (fun _ => ?_)
    refine uB ?_
    refine jA ?_
    refine cA ?_
    refine cA ?_
    refine gA hX hb [0,1,2,3,4,5,6,7,8,9,10,11,12,13,14,15] rfl (σ' := ?s25) (fun K hK => ?h25) ?n25
    case h25 =>
     iterate 3 (refine kA rfl (by simp (disch := omega) only [iA,aA,qop,fop,St.ev,St.put,cd,zd,Value.oneCell',lA,TypeDesc.aggB,Z0,Bool.not_true,Bool.not_false,fA,oA,Z1,pA,qA,tA,eA,D.pure?,ZC,ZD,cB,iop,aE,cD,mC,aC,D.cell1,fB,gB,iB,jB,kB,List.all_cons,List.all_nil,uC,TI.place,TI.zeros,TI.kindOk,D.cells?,zp,Value.cells,ZQ,ZP,uA,D.pv?,tt,lB,zA,nB,Zh,hx] <;> exact rfl) ?_)
     (all_goals first | (refine lC rfl rfl rfl (by simp (disch := omega) only [iA,aA,qop,fop,St.ev,St.put,cd,zd,Value.oneCell',lA,TypeDesc.aggB,Z0,Bool.not_true,Bool.not_false,fA,oA,Z1,pA,qA,tA,eA,D.pure?,ZC,ZD,cB,iop,aE,cD,mC,aC,D.cell1,fB,gB,iB,jB,kB,List.all_cons,List.all_nil,uC,TI.place,TI.zeros,TI.kindOk,D.cells?,zp,Value.cells,ZQ,ZP,uA,D.pv?,tt,lB,zA,nB,Zh,hx] <;> exact rfl) ?_) | (first | (refine eC rfl rfl rfl (by simp only [St.put,Za,Zb] <;> exact rfl) ?_) | (refine fC rfl rfl rfl (by simp only [St.put,Za,Zb] <;> exact rfl) ?_)) | (refine cC rfl rfl rfl (by simp only [Za,Zb] <;> exact rfl) (by simp only [Za,Zb] <;> exact rfl) (fun hg => ?_) (fun hg => ?_) <;> (try simp only [Zp,Zi,ZJ,ZK,ne_eq,Zn,Zm,Bool.not_eq_true,Zu] at hg) <;> first | (refine lC rfl rfl rfl (by simp (disch := omega) only [iA,aA,qop,fop,St.ev,St.put,cd,zd,Value.oneCell',lA,TypeDesc.aggB,Z0,Bool.not_true,Bool.not_false,fA,oA,Z1,pA,qA,tA,eA,D.pure?,ZC,ZD,cB,iop,aE,cD,mC,aC,D.cell1,fB,gB,iB,jB,kB,List.all_cons,List.all_nil,uC,TI.place,TI.zeros,TI.kindOk,D.cells?,zp,Value.cells,ZQ,ZP,uA,D.pv?,tt,lB,zA,nB,Zh,hx] <;> exact rfl) ?_) | (first | (refine eC rfl rfl rfl (by simp only [St.put,Za,Zb] <;> exact rfl) ?_) | (refine fC rfl rfl rfl (by simp only [St.put,Za,Zb] <;> exact rfl) ?_))))
     iterate 2 (refine kA rfl (by simp (disch := omega) only [iA,aA,qop,fop,St.ev,St.put,cd,zd,Value.oneCell',lA,TypeDesc.aggB,Z0,Bool.not_true,Bool.not_false,fA,oA,Z1,pA,qA,tA,eA,D.pure?,ZC,ZD,cB,iop,aE,cD,mC,aC,D.cell1,fB,gB,iB,jB,kB,List.all_cons,List.all_nil,uC,TI.place,TI.zeros,TI.kindOk,D.cells?,zp,Value.cells,ZQ,ZP,uA,D.pv?,tt,lB,zA,nB,Zh,hx] <;> exact rfl) ?_)
     iterate 7 (all_goals first | (refine lC rfl rfl rfl (by simp (disch := omega) only [iA,aA,qop,fop,St.ev,St.put,cd,zd,Value.oneCell',lA,TypeDesc.aggB,Z0,Bool.not_true,Bool.not_false,fA,oA,Z1,pA,qA,tA,eA,D.pure?,ZC,ZD,cB,iop,aE,cD,mC,aC,D.cell1,fB,gB,iB,jB,kB,List.all_cons,List.all_nil,uC,TI.place,TI.zeros,TI.kindOk,D.cells?,zp,Value.cells,ZQ,ZP,uA,D.pv?,tt,lB,zA,nB,Zh,hx] <;> exact rfl) ?_) | (first | (refine eC rfl rfl rfl (by simp only [St.put,Za,Zb] <;> exact rfl) ?_) | (refine fC rfl rfl rfl (by simp only [St.put,Za,Zb] <;> exact rfl) ?_)) | (refine cC rfl rfl rfl (by simp only [Za,Zb] <;> exact rfl) (by simp only [Za,Zb] <;> exact rfl) (fun hg => ?_) (fun hg => ?_) <;> (try simp only [Zp,Zi,ZJ,ZK,ne_eq,Zn,Zm,Bool.not_eq_true,Zu] at hg) <;> first | (refine lC rfl rfl rfl (by simp (disch := omega) only [iA,aA,qop,fop,St.ev,St.put,cd,zd,Value.oneCell',lA,TypeDesc.aggB,Z0,Bool.not_true,Bool.not_false,fA,oA,Z1,pA,qA,tA,eA,D.pure?,ZC,ZD,cB,iop,aE,cD,mC,aC,D.cell1,fB,gB,iB,jB,kB,List.all_cons,List.all_nil,uC,TI.place,TI.zeros,TI.kindOk,D.cells?,zp,Value.cells,ZQ,ZP,uA,D.pv?,tt,lB,zA,nB,Zh,hx] <;> exact rfl) ?_) | (first | (refine eC rfl rfl rfl (by simp only [St.put,Za,Zb] <;> exact rfl) ?_) | (refine fC rfl rfl rfl (by simp only [St.put,Za,Zb] <;> exact rfl) ?_))))
     all_goals first | (first | (refine eC rfl rfl rfl (by simp only [St.put,Za,Zb] <;> exact rfl) ?_) | (refine fC rfl rfl rfl (by simp only [St.put,Za,Zb] <;> exact rfl) ?_)) | (refine qQ rfl rfl rfl rfl (by simp only [St.ev,pB,qB,zd,cd,Value.oneCell',Zr] <;> exact rfl) (by simp only [uA,pD,D.pvC?,D.pvN?,D.pvL?,eA,D.pv?,D.pure?,St.ev,pB,qB,zd,cd,Value.oneCell',Zr,ZG,ZH,Zd,Zc,Zg] <;> exact rfl) rfl ((kL (eI hI hil hx hsp hc1 hnow).1)) (by simp only [St.put,Za,Zb] <;> exact rfl) ?_) | (refine cC rfl rfl rfl (by simp only [Za,Zb] <;> exact rfl) (by simp only [Za,Zb] <;> exact rfl) (fun hg => ?_) (fun hg => ?_) <;> (try simp only [Zp,Zi,ZJ,ZK,ne_eq,Zn,Zm,Bool.not_eq_true,Zu] at hg) <;> first | (first | (refine eC rfl rfl rfl (by simp only [St.put,Za,Zb] <;> exact rfl) ?_) | (refine fC rfl rfl rfl (by simp only [St.put,Za,Zb] <;> exact rfl) ?_)) | (refine qQ rfl rfl rfl rfl (by simp only [St.ev,pB,qB,zd,cd,Value.oneCell',Zr] <;> exact rfl) (by simp only [uA,pD,D.pvC?,D.pvN?,D.pvL?,eA,D.pv?,D.pure?,St.ev,pB,qB,zd,cd,Value.oneCell',Zr,ZG,ZH,Zd,Zc,Zg] <;> exact rfl) rfl ((kL (eI hI hil hx hsp hc1 hnow).1)) (by simp only [St.put,Za,Zb] <;> exact rfl) ?_))
     (all_goals first | (refine lC rfl rfl rfl (by simp (disch := omega) only [iA,aA,qop,fop,St.ev,St.put,cd,zd,Value.oneCell',lA,TypeDesc.aggB,Z0,Bool.not_true,Bool.not_false,fA,oA,Z1,pA,qA,tA,eA,D.pure?,ZC,ZD,cB,iop,aE,cD,mC,aC,D.cell1,fB,gB,iB,jB,kB,List.all_cons,List.all_nil,uC,TI.place,TI.zeros,TI.kindOk,D.cells?,zp,Value.cells,ZQ,ZP,uA,D.pv?,tt,lB,zA,nB,Zh,hx] <;> exact rfl) ?_) | (first | (refine eC rfl rfl rfl (by simp only [St.put,Za,Zb] <;> exact rfl) ?_) | (refine fC rfl rfl rfl (by simp only [St.put,Za,Zb] <;> exact rfl) ?_)) | (refine cC rfl rfl rfl (by simp only [Za,Zb] <;> exact rfl) (by simp only [Za,Zb] <;> exact rfl) (fun hg => ?_) (fun hg => ?_) <;> (try simp only [Zp,Zi,ZJ,ZK,ne_eq,Zn,Zm,Bool.not_eq_true,Zu] at hg) <;> first | (refine lC rfl rfl rfl (by simp (disch := omega) only [iA,aA,qop,fop,St.ev,St.put,cd,zd,Value.oneCell',lA,TypeDesc.aggB,Z0,Bool.not_true,Bool.not_false,fA,oA,Z1,pA,qA,tA,eA,D.pure?,ZC,ZD,cB,iop,aE,cD,mC,aC,D.cell1,fB,gB,iB,jB,kB,List.all_cons,List.all_nil,uC,TI.place,TI.zeros,TI.kindOk,D.cells?,zp,Value.cells,ZQ,ZP,uA,D.pv?,tt,lB,zA,nB,Zh,hx] <;> exact rfl) ?_) | (first | (refine eC rfl rfl rfl (by simp only [St.put,Za,Zb] <;> exact rfl) ?_) | (refine fC rfl rfl rfl (by simp only [St.put,Za,Zb] <;> exact rfl) ?_))))
     (refine kA rfl (by simp (disch := omega) only [iA,aA,qop,fop,St.ev,St.put,cd,zd,Value.oneCell',lA,TypeDesc.aggB,Z0,Bool.not_true,Bool.not_false,fA,oA,Z1,pA,qA,tA,eA,D.pure?,ZC,ZD,cB,iop,aE,cD,mC,aC,D.cell1,fB,gB,iB,jB,kB,List.all_cons,List.all_nil,uC,TI.place,TI.zeros,TI.kindOk,D.cells?,zp,Value.cells,ZQ,ZP,uA,D.pv?,tt,lB,zA,nB,Zh,hx] <;> exact rfl) ?_)
     refine bA ?_
     exact hK
    refine jA ?_
    refine oB false rfl (fun h => by cases h) (fun _ => ?_)
    refine uB ?_
    refine jA ?_
    refine gA hX hb [0,1] rfl (σ' := ?s26) (fun K hK => ?h26) ?n26
    case h26 =>
     iterate 2 (refine kA rfl (by simp (disch := omega) only [iA,aA,qop,fop,St.ev,St.put,cd,zd,Value.oneCell',lA,TypeDesc.aggB,Z0,lB,zA,nB,Zh] <;> exact rfl) ?_)
     refine bA ?_
     exact hK
    refine cE ?_
    refine jA ?_
    refine gA hX hb [0,1] rfl (σ' := ?s27) (fun K hK => ?h27) ?n27
    case h27 =>
     iterate 2 (refine kA rfl (by simp (disch := omega) only [iA,aA,qop,fop,St.ev,St.put,cd,zd,Value.oneCell',lA,TypeDesc.aggB,Z0,cB,iop,tt,lB,zA,nB,Zh] <;> exact rfl) ?_)
     refine bA ?_
     exact hK
    refine jA ?_
    exact ⟨(i + 1,d + sp,st,true,k),by exact mDA hI hil hx hsp ⟨ha1,ha2⟩ hc1 hnow,by (try dsimp only); omega,rC ⟨rfl,(by repeat first | exact sA | refine mB ?_ | refine vA rfl ?_),(pC rfl (vA rfl (vA rfl (sA))) (xB _)),(yB _),rfl,rfl⟩⟩
 ·try simp only [Zp,Zi,ZK,ZJ,ne_eq,Zn,Zm,ZB,ZA,ZI,not_or,not_and,Zu] at hc0
  refine oD ?_
  refine fD ?_
  refine fD ?_
  refine zE ?_
  exact xU rfl (by first | rfl | ((obtain rfl : i = L.length := by omega); exact aFA hI))
end Go.Proofs.Ytldcoekbgfaomaa
end
section
namespace Go.Proofs.Ytldcoekbgfaomaa
@[reducible] def jS (X : List Nat) : P1 := .sl X.length (X.map fun n : Nat => i64 (n : Int))
def qM (a b : List (List Int)) (k i : Nat) : Bool := decide (¬ (a.getD k []).getD i 0 = (b.getD k []).getD i 0)
/-- Rows halve. -/
def uY (a : List (List Int)) : Prop := ∀ k,k + 1 < a.length → (a.getD (k + 1) []).length = ((a.getD k []).length + 1) / 2
theorem gQ : ∀ (n : Nat) (row : List Int),row.length ≤ n → uY (sE row)
 | n,row,h => by
  intro k hk
  by_cases h1 : row.length ≤ 1
  ·rw [xF h1] at hk
   simp at hk
  ·rw [lF h1] at hk ⊢
   have hu := pF row
   cases k with
   | zero =>
    obtain ⟨r,hr⟩ := rL (upL row)
    rw [hr]
    exact hu
   | succ k =>
    match n,h with
    | 0,h => omega
    | n + 1,h =>
     have := gQ n (upL row) (by omega) k (by simpa using hk)
     simpa using this
end Go.Proofs.Ytldcoekbgfaomaa
end
section
namespace Go.Proofs.Ytldcoekbgfaomaa
def rM (L : List nG) : Prop := L.Pairwise fun x y => x.1 ≤ y.1
theorem kV (es : List nG) : rM (aH es) := by
 rw [rM,List.pairwise_iff_getElem]
 intro i j hi hj hij
 exact jV es i j _ _ hij (List.getElem?_eq_getElem hi) (List.getElem?_eq_getElem hj)
/-- The least comes first. -/
theorem bL {L M : List nG} {x : nG} (hs : rM L) (hp : L.Perm (x :: M)) (hx : ∀ y ∈ M,x.1 < y.1) : ∃ L',L = x :: L' ∧ rM L' ∧ L'.Perm M := by
 cases L with
 | nil => exact absurd hp.length_eq (by simp)
 | cons h t =>
  have hh : h = x ∨ h ∈ M := List.mem_cons.1 (hp.mem_iff.1 (by simp))
  have hst := List.pairwise_cons.1 hs
  rcases hh with rfl | hh
  ·exact ⟨t,rfl,hst.2,hp.cons_inv⟩
  ·have hxm : x ∈ h :: t := hp.mem_iff.2 (by simp)
   rcases List.mem_cons.1 hxm with e | e
   ·subst e
    have := hx _ hh
    omega
   ·have h1 := hst.1 x e
    have h2 := hx h hh
    omega
/-- Two at one place come first,in either order. -/
theorem nDA {L M : List nG} {x y : nG} (hs : rM L) (hp : L.Perm (x :: y :: M)) (he : x.1 = y.1) (hx : ∀ z ∈ M,x.1 < z.1) : ∃ L',(L = x :: y :: L' ∨ L = y :: x :: L') ∧ rM L' ∧ L'.Perm M := by
 cases L with
 | nil => exact absurd hp.length_eq (by simp)
 | cons h t =>
  have hst := List.pairwise_cons.1 hs
  have hh : h = x ∨ h = y ∨ h ∈ M := by
   rcases List.mem_cons.1 (hp.mem_iff.1 (show h ∈ h :: t by simp)) with e | e
   ·exact .inl e
   ·exact .inr (List.mem_cons.1 e)
  rcases hh with rfl | rfl | hh
  ·obtain ⟨L',rfl,h1,h2⟩ := bL hst.2 hp.cons_inv (fun z hz => by rw [← he]; exact hx z hz)
   exact ⟨L',.inl rfl,h1,h2⟩
  ·have hp' := hp.trans (List.Perm.swap _ _ _)
   obtain ⟨L',rfl,h1,h2⟩ := bL hst.2 hp'.cons_inv hx
   exact ⟨L',.inr rfl,h1,h2⟩
  ·have hxm : x ∈ h :: t := hp.mem_iff.2 (by simp)
   have h2 := hx h hh
   rcases List.mem_cons.1 hxm with e | e
   ·subst e
    omega
   ·have h1 := hst.1 x e
    omega
/-- Extents in ascending order,from b on. -/
def AscE (b : Int) : List (Int × Int) → Prop
 | [] => True
 | e :: r => b ≤ e.1 ∧ 0 < e.2 ∧ AscE (e.1 + e.2) r
theorem AscE.ge : ∀ {l : List (Int × Int)} {b : Int},AscE b l → ∀ x ∈ qF 0 l,b ≤ x.1
 | [],b,_,x,hx => by simp [qF] at hx
 | e :: r,b,⟨h1,h2,h3⟩,x,hx => by
  simp only [qF,List.flatMap_cons,List.mem_append,List.mem_cons,List.not_mem_nil,or_false] at hx
  rcases hx with (rfl | rfl) | hx
  ·exact h1
  ·show b ≤ e.1 + e.2
   omega
  ·have := AscE.ge h3 x hx
   omega
def dG (st b : Int) : List (Int × Int) → List (Int × Int)
 | [] => [(st,b - st)]
 | e :: r => if b = e.1 then dG st (e.1 + e.2) r else (st,b - st) :: dG e.1 (e.1 + e.2) r
def mG : List (Int × Int) → List (Int × Int)
 | [] => []
 | e :: r => dG e.1 (e.1 + e.2) r
theorem jN {x : nG} {L : List nG} (h : ∀ y ∈ L,x.1 < y.1) : sG x L = false := by
 cases L with
 | nil => rfl
 | cons y r =>
  have := h y (by simp)
  simp only [sG,Zi]
  omega
theorem tO : ∀ (l : List (Int × Int)) (st b : Int) (L : List nG),AscE b l → rM L → L.Perm ((b,0,-1) :: qF 0 l) → zF L 1 st true = dG st b l
 | [],st,b,L,_,hs,hp => by
  have : L = [(b,0,-1)] := List.perm_singleton.1 hp
  subst this
  simp [zF,sG,dG]
 | e :: r,st,b,L,⟨h1,h2,h3⟩,hs,hp => by
  have hge := AscE.ge h3
  have hM : qF 0 (e :: r) = (e.1,0,1) :: (e.1 + e.2,0,-1) :: qF 0 r := by simp [qF]
  rw [hM] at hp
  have hgt : ∀ z ∈ (e.1 + e.2,(0 : Int),(-1 : Int)) :: qF 0 r,e.1 < z.1 := by
   intro z hz
   rcases List.mem_cons.1 hz with rfl | hz
   ·show e.1 < e.1 + e.2
    omega
   ·have := hge z hz
    omega
  by_cases hb : b = e.1
  ·subst hb
   obtain ⟨L',hL,hs',hp'⟩ := nDA hs hp rfl hgt
   have hgt' : ∀ z ∈ L',e.1 < z.1 := fun z hz => hgt z (hp'.mem_iff.1 hz)
   have ih := tO r st (e.1 + e.2) L' h3 hs' hp'
   rw [dG,if_pos rfl,← ih]
   have hsn : ∀ s : Int,sG (e.1,0,s) L' = false := fun s => jN hgt'
   rcases hL with rfl | rfl
   ·simp [zF,sG,hsn]
   ·simp [zF,sG,hsn]
  ·have hlt : b < e.1 := by omega
   obtain ⟨L1,rfl,hs1,hp1⟩ := bL hs hp (fun z hz => by
    rcases List.mem_cons.1 hz with rfl | hz
    ·exact hlt
    ·have := hgt z hz
     show b < z.1
     omega)
   obtain ⟨L2,rfl,hs2,hp2⟩ := bL hs1 hp1 hgt
   have hgt' : ∀ z ∈ L2,e.1 < z.1 := fun z hz => hgt z (hp2.mem_iff.1 hz)
   have ih := tO r e.1 (e.1 + e.2) L2 h3 hs2 hp2
   rw [dG,if_neg hb,← ih]
   have hsn : ∀ s : Int,sG (e.1,0,s) L2 = false := fun s => jN hgt'
   have hne : ¬ e.1 = b := fun h => hb h.symm
   have hs0 : sG (b,0,-1) ((e.1,0,1) :: L2) = false := by simp [sG,hne]
   simp [zF,hsn,hs0]
theorem qAA {l : List (Int × Int)} {b : Int} (h : AscE b l) : zF (aH (rI [l,[]])) 0 0 false = mG l := by
 have e0 : rI [l,[]] = qF 0 l := by simp [rI,qF]
 rw [e0]
 have hp := aL (qF 0 l)
 have hs := kV (qF 0 l)
 generalize aH (qF 0 l) = L at *
 cases l with
 | nil =>
  have : L = [] := List.perm_nil.1 hp
  subst this
  rfl
 | cons e r =>
  obtain ⟨h1,h2,h3⟩ := h
  have hge := AscE.ge h3
  have hM : qF 0 (e :: r) = (e.1,0,1) :: (e.1 + e.2,0,-1) :: qF 0 r := by simp [qF]
  rw [hM] at hp
  have hgt : ∀ z ∈ (e.1 + e.2,(0 : Int),(-1 : Int)) :: qF 0 r,e.1 < z.1 := by
   intro z hz
   rcases List.mem_cons.1 hz with rfl | hz
   ·show e.1 < e.1 + e.2
    omega
   ·have := hge z hz
    omega
  obtain ⟨L1,rfl,hs1,hp1⟩ := bL hs hp hgt
  have hgt' : ∀ z ∈ L1,e.1 < z.1 := fun z hz => hgt z (hp1.mem_iff.1 hz)
  have hsn : ∀ s : Int,sG (e.1,0,s) L1 = false := fun s => jN hgt'
  rw [mG,← tO r e.1 (e.1 + e.2) L1 h3 hs1 hp1]
  simp [zF,hsn]
/-- The extents of some leaves. -/
def eJ (S F : Nat) (X : List Nat) : List (Int × Int) := X.map fun x => (((x * F : Nat) : Int),min (F : Int) ((S : Int) - ((x * F : Nat) : Int)))
theorem kS {S F : Nat} (hF : 1 ≤ F) : ∀ (X : List Nat) (b : Int),X.Pairwise (· < ·) → (∀ x ∈ X,x * F < S) → (∀ x ∈ X,b ≤ ((x * F : Nat) : Int)) → AscE b (eJ S F X)
 | [],b,_,_,_ => trivial
 | x :: X,b,hp,hS,hb => by
  have hx := hS x (by simp)
  have hpc := List.pairwise_cons.1 hp
  refine ⟨hb x (by simp),?_,kS hF X _ hpc.2 (fun y hy => hS y (by simp [hy])) fun y hy => ?_⟩
  ·show 0 < min (F : Int) ((S : Int) - ((x * F : Nat) : Int))
   omega
  ·have h1 : (x + 1) * F ≤ y * F := Nat.mul_le_mul_right _ (hpc.1 y hy)
   rw [Nat.succ_mul] at h1
   show ((x * F : Nat) : Int) + min (F : Int) ((S : Int) - ((x * F : Nat) : Int)) ≤ ((y * F : Nat) : Int)
   omega
theorem rAA {S F : Nat} (hF : 1 ≤ F) (hS : S ≤ 4096) {X : List Nat} (hx : ∀ x ∈ X,x * F < S) : ∀ e ∈ eJ S F X,dU e := by
 intro e he
 obtain ⟨x,hxm,rfl⟩ := List.mem_map.1 he
 have := hx x hxm
 exact ⟨x * F,min F (S - x * F),by ext <;> simp <;> omega,by omega,by omega⟩
/-- **extent.Union of extents in ascending order,with nothing.** -/
theorem fNA (l : List (Int × Int)) (b : Int) (hl : l.length ≤ 8192) (hg : ∀ e ∈ l,dU e) (ha : AscE b l) : SeqC Try.prog 119 [gD l,.sl 0 [],.v (.func (.func 110) #[] #[])] (lG (mG l)) := by
 rw [← qAA ha]
 exact bKA l hl hg _ rfl
theorem qJ : ∀ (l : List (Int × Int)) (st b : Int),(dG st b l).length ≤ l.length + 1
 | [],st,b => by simp [dG]
 | e :: r,st,b => by
  rw [dG]
  split
  ·have := qJ r st (e.1 + e.2)
   simp only [Zl]
   omega
  ·have := qJ r e.1 (e.1 + e.2)
   simp only [Zl]
   omega
theorem cR (l : List (Int × Int)) : (mG l).length ≤ l.length := by
 cases l with
 | nil => simp [mG]
 | cons e r =>
  have := qJ r e.1 (e.1 + e.2)
  simp only [mG,Zl]
  omega
end Go.Proofs.Ytldcoekbgfaomaa
end
section
namespace Go.Proofs.Ytldcoekbgfaomaa
open Go.RowKit
set_option maxRecDepth 20000
set_option maxHeartbeats 4000000
attribute [local irreducible] kE sD AW
theorem c73 (l : List (Int × Int)) (b : Int) (hl : l.length ≤ 8192) (hg : ∀ e ∈ l,dU e) (ha : AscE b l) : ACalls Try.prog 73 [.p (gD l),.p (.sl 0 [])] (.p (gD (mG l))) := by
 refine wC oC Try.func73 (c := _) rfl (by kernel_rfl) ?_
 intro X hP hX hro hpl
 have hb : tb.Ok X.P := hP ▸ oC
 change AW X _ _ ⟨[],[.p (gD l),.p (.sl 0 []),.any,.any,.any,.any,.any,.any,.any],[],[]⟩
 refine cA ?_
 refine gA hX hb [0] rfl (σ' := ?s1) (fun K hK => ?h1) ?n1
 case h1 =>
  (refine kA rfl (by simp (disch := omega) only [iA,aA,qop,fop,St.ev,St.put,cd,zd,Value.oneCell',lA,TypeDesc.aggB,Z0] <;> exact rfl) ?_)
  refine bA ?_
  exact hK
 refine jA ?_
 refine cA ?_
 refine gA hX hb [0,1,2,3,4] rfl (σ' := ?s2) (fun K hK => ?h2) ?n2
 case h2 =>
  iterate 2 (refine kA rfl (by simp (disch := omega) only [iA,aA,qop,fop,St.ev,St.put,cd,zd,Value.oneCell',lA,TypeDesc.aggB,Z0,uA,D.pv?,tt] <;> exact rfl) ?_)
  refine mD rfl (by simp only [aA,St.ev,pB,qB,uA,D.pv?,ZG,ZH,zd,cd,Value.oneCell',Zr] <;> exact rfl) (acK hP (aNA l [] 110)) (by simp only [St.put,Za,Zb] <;> exact rfl) ?_
  refine mD rfl (by simp only [aA,St.ev,pB,qB,uA,D.pv?,ZG,ZH,zd,cd,Value.oneCell',Zr] <;> exact rfl) (acK hP (zMA _ _ (mG l) (fNA l b hl hg ha) (by have := cR l; omega))) (by simp only [St.put,Za,Zb] <;> exact rfl) ?_
  (refine kA rfl (by simp (disch := omega) only [iA,aA,qop,fop,St.ev,St.put,cd,zd,Value.oneCell',lA,TypeDesc.aggB,Z0,uA,D.pv?,tt] <;> exact rfl) ?_)
  refine bA ?_
  exact hK
 refine jA ?_
 refine bC ?_
 exact zC rfl (zB rfl rfl)
end Go.Proofs.Ytldcoekbgfaomaa
end
section
namespace Go.Proofs.Ytldcoekbgfaomaa
open Go.RowKit
set_option maxRecDepth 20000
set_option maxHeartbeats 4000000
attribute [local irreducible] kE sD AW
theorem eB (f : Nat → P1) (l : List Nat) (i : Nat) (h : i < l.length) : (l.map f)[i]? = some (f (l.getD i 0)) := by
 simp [h]
theorem dH (S F : Nat) (X : List Nat) (j : Nat) (h : j < X.length) : eJ S F (X.take (j + 1)) = eJ S F (X.take j) ++ [(((X.getD j 0 * F : Nat) : Int),min (F : Int) ((S : Int) - ((X.getD j 0 * F : Nat) : Int)))] := by
 rw [List.take_succ_eq_append_getElem h]
 unfold eJ
 rw [List.map_append]
 congr 1
 simp [h]
theorem eO (S F : Nat) (X : List Nat) : (eJ S F X).length = X.length := by simp [eJ]
end Go.Proofs.Ytldcoekbgfaomaa
end
section
namespace Go.Proofs.Ytldcoekbgfaomaa
open Go.RowKit
set_option maxRecDepth 20000
set_option maxHeartbeats 4000000
attribute [local irreducible] kE sD AW
def qHA : D → Bool
 | .p (.v (.int .u8 _)) => true
 | _ => false
theorem bFA {d : D} (h : qHA d = true) : ∃ n,d = .p (.v (.int .u8 n)) := by
 unfold qHA at h
 split at h
 ·exact ⟨_,rfl⟩
 ·cases h
theorem bo1 {σ : St} {l : List Nat} {b : Nat} {x : Bx} (hl : l = [b]) (hx : σ.boxes[b]? = some x) (h : x.cells.all qHA = true) : yP σ l := by
 subst hl
 intro c hc
 simp only [List.mem_singleton] at hc
 subst hc
 exact ⟨x,hx,fun d hd => bFA (List.all_eq_true.1 h d hd)⟩
theorem cFA (n : Int) : NoU8 (u64 n) := .v _ (fun k h => by cases h)
theorem lV (n : Int) : NoU8 (i64 n) := .v _ (fun k h => by cases h)
theorem oDA (l : List Int) : NoU8 (gH l) := .sl _ _ (fun x hx => by obtain ⟨n,_,rfl⟩ := List.mem_map.1 hx; exact cFA n) (fun h => by have := congrArg List.length h; simpa using this)
theorem pDA (l : List (List Int)) : NoU8 (iE l) := .sl _ _ (fun x hx => by obtain ⟨n,_,rfl⟩ := List.mem_map.1 hx; exact oDA n) (fun h => by have := congrArg List.length h; simpa using this)
theorem qZ (a b c : Int) (lv : List (List Int)) : D.No (.tup [.agg [i64 a,i64 b,iE lv],.p (i64 c)]) := .tup _ (fun d hd => by
 simp only [List.mem_cons,List.not_mem_nil,or_false] at hd
 rcases hd with rfl | rfl
 ·refine .agg _ (fun x hx => ?_)
  simp only [List.mem_cons,List.not_mem_nil,or_false] at hx
  rcases hx with rfl | rfl | rfl
  ·exact lV a
  ·exact lV b
  ·exact pDA lv
 ·exact .p _ (lV c))
def LA : List (List Int) := [[1,0,0,0,0,0,0,0],[2,0,0,0,0,0,0,0],[3,0,0,0,0,0,0,0],[4,0,0,0,0,0,0,0],[5,0,0,0,0,0,0,0]]
def dA : Int := 8581494753980282981
def dB : Int := 6571624168811679103
def dC : Int := 1000385178391007780
theorem qDA : pH [[1,0,0,0,0,0,0,0],[2,0,0,0,0,0,0,0]] = dA := by kernel_rfl
theorem rDA : pH [[3,0,0,0,0,0,0,0],[4,0,0,0,0,0,0,0]] = dB := by kernel_rfl
theorem rHA : pH [[5,0,0,0,0,0,0,0]] = dC := by kernel_rfl
theorem sDA : jG dA dB = 10795361854929481022 := by kernel_rfl
theorem tDA : jG (jG dA dB) dC = 6302506858429732562 := by kernel_rfl
def lv3 (x y z : Int) : List (List Int) := [[x,y,z],[jG x y,z],[jG (jG x y) z]]
theorem mV (x y z : Int) : sE [x,y,z] = lv3 x y z := by
 rw [lF (by simp),show upL [x,y,z] = [jG x y,z] from rfl,lF (by simp),show upL [jG x y,z] = [jG (jG x y) z] from rfl,xF (by simp)]
 rfl
theorem sh3 (x y z : Int) : shT (5 : Int).toNat (2 : Int).toNat (lv3 x y z) = true := by
 show sh false (wD 5 2) (lv3 x y z) = true
 rw [show wD 5 2 = 3 by decide]
 rfl
theorem sAA (x y z : Int) : sC ⟨5,2,lv3 x y z⟩ = 0 := iH (show ¬ ((5 : Int) < 1 ∨ 4096 < (5 : Int)) by decide) (show ¬ ((2 : Int) < 1 ∨ 4096 < (2 : Int)) by decide) (sh3 x y z) (mV x y z)
theorem sHA : kG LA 2 = (⟨5,2,lv3 dA dB dC⟩,0) := by
 rw [kG,if_neg (by decide),if_neg (by decide)]
 have h : bU LA ((2 : Int)).toNat = [dA,dB,dC] := by
  rw [← qDA,← rDA,← rHA]
  rfl
 rw [h,fS,mV]
 rfl
@[reducible] def tP (x y z : Int) : PV := .agg [i64 5,i64 2,iE (lv3 x y z)]
theorem k29 : ACalls Try.prog 29 [.p (gD [(4,1)]),.p (gD [(4,1)])] (.p (bv true)) := by
 have := c29 [(4,1)] [(4,1)]
 rwa [show decide _ = true from decide_eq_true rfl] at this
end Go.Proofs.Ytldcoekbgfaomaa
end
section
namespace Go.Proofs.Ytldcoekbgfaomaa
open Go.RowKit Go.ChangeShapes Go.WideShapes
section
variable {H : Type} {enc : TypeId × Value → H} {W : World}
/-- All that is there. -/
def lS (W : World) (g : Nat) : Prop := g < W.heap.size
theorem cKA {α : Type} : ∀ {l : List α},l.length = 3 → ∃ a b c,l = [a,b,c]
 | [a,b,c],_ => ⟨a,b,c,rfl⟩
theorem vY {α : Type} (F : α → List P1) (k : Nat) (hF : ∀ a,(F a).length = k) (hk0 : 0 < k) {t e : TypeId} (ht : Try.prog.underlying t = some (.slice e)) (hk : Try.prog.cellsOf e = k)
  (hE : ∀ (n : Nat) (cs : List Value) (x : DataW H × List MemPlace),DataW.trod enc Try.prog W 0 (fun _ => true) true n e cs = some x → cs.length = k → ∃ a : α,∀ (j : Nat) (y : P1) (u : Value),(F a)[j]? = some y → cs[j]? = some u → R1 W (lS W) y u)
  {n : Nat} {v : Value} {x : DataW H × List MemPlace} (h : DataW.trod enc Try.prog W 0 (fun _ => true) true n t [v] = some x) : ∃ l : List α,R1 W (lS W) (.sl l.length (l.flatMap F)) v := by
 rcases Go.Deep.open_slice ht h with ⟨hv,_⟩ | ⟨a,len,cap,m,fu,D,Pl,hv,_,hl,hm,hmm,_,hel⟩
 ·simp only [List.cons.injEq,Zs] at hv
  subst hv
  exact ⟨[],.nil _ _⟩
 ·simp only [List.cons.injEq,Zs] at hv
  subst hv
  simp only [Zr] at hmm
  subst hmm
  have key : ∀ q,q ≤ len → ∃ (l : List α) (us : List Value),l.length = q ∧ us.length = q * k ∧ (∀ (j : Nat) (u : Value),us[j]? = some u → W.cell? (a.add j) = some u) ∧
    ∀ (j : Nat) (y : P1) (u : Value),(l.flatMap F)[j]? = some y → us[j]? = some u → R1 W (lS W) y u := by
   intro q
   induction q with
   | zero => exact fun _ => ⟨[],[],rfl,by simp,fun j u h => by simp at h,fun j y u h => by simp at h⟩
   | succ q ih =>
    intro hq
    obtain ⟨l,us,h1,h2,h3,h4⟩ := ih (by omega)
    obtain ⟨cs,c1,c2⟩ := hel q (by omega)
    rw [hk] at c1
    obtain ⟨_,c3,c4⟩ := World.cells?_some c1
    obtain ⟨al,ha⟩ := hE fu cs _ c2 c3
    have hfl : (l.flatMap F).length = q * k := by rw [yH F k hF,h1]
    refine ⟨l ++ [al],us ++ cs,by simp [h1],by rw [List.length_append,h2,c3,Nat.succ_mul],fun j u hu => ?_,fun j y u hy hu => ?_⟩
    ·rw [List.getElem?_append] at hu
     split at hu
     ·exact h3 j u hu
     ·rename_i hj
      have hlt := (List.getElem?_eq_some_iff.1 hu).1
      have := c4 (j - us.length) (by omega)
      rw [hu,Go.Deep.add_add,show q * k + (j - us.length) = j from by omega] at this
      exact this
    ·rw [List.flatMap_append,List.getElem?_append,hfl] at hy
     rw [List.getElem?_append,h2] at hu
     split at hy
     ·rename_i hj
      rw [if_pos hj] at hu
      exact h4 j y u hy hu
     ·rename_i hj
      rw [if_neg hj] at hu
      exact ha _ y u (by simpa using hy) hu
  obtain ⟨l,us,h1,h2,h3,h4⟩ := key len (Nat.le_refl _)
  refine ⟨l,?_⟩
  rw [h1]
  rcases Nat.eq_zero_or_pos len with h0 | h0
  ·subst h0
   rw [List.length_eq_zero_iff.1 h1]
   exact .nil _ _
  ·have hp : 0 < us.length := by rw [h2]; exact Nat.mul_pos h0 hk0
   have hc := h3 0 us[0] (List.getElem?_eq_getElem hp)
   have hspot : a.spot = none := by
    have e : a.add 0 = a := by unfold Addr.add; simp
    rw [e] at hc
    unfold World.cell? at hc
    split at hc
    ·split at hc
     ·cases hc
     ·rename_i hs
      cases hsp : a.spot with
      | none => rfl
      | some s => rw [hsp] at hs; simp at hs
    ·cases hc
   obtain ⟨g,o,sp⟩ := a
   simp only at hspot
   subst hspot
   refine .sl len g o _ _ us hl hm ?_ (by rw [h2,yH F k hF,h1]) (fun j u hu => by have := h3 j u hu; rwa [oH] at this) h4
   exact World.block_lt_of_cell? W _ hc
theorem pK {t : TypeId} {k : IntKind} (ht : Try.prog.underlying t = some (.int k)) {n : Nat} {cs : List Value} {x : DataW H × List MemPlace} (h : DataW.trod enc Try.prog W 0 (fun _ => true) true n t cs = some x) : ∃ m,cs = [.int k m] := by
 obtain ⟨m,hm,_⟩ := DataW.trod_int ht h
 exact ⟨m,hm⟩
theorem uDA {t e : TypeId} {k : IntKind} (ht : Try.prog.underlying t = some (.slice e)) (he : Try.prog.underlying e = some (.int k)) (hc : Try.prog.cellsOf e = 1) {n : Nat} {v : Value} {x : DataW H × List MemPlace} (h : DataW.trod enc Try.prog W 0 (fun _ => true) true n t [v] = some x) :
  ∃ l : List Int,R1 W (lS W) (.sl l.length (l.map fun a => .v (.int k a))) v := by
 obtain ⟨l,hl⟩ := vY (fun a : Int => [P1.v (.int k a)]) 1 (fun _ => rfl) (by omega) ht hc (fun n cs x hx _ => by
  obtain ⟨m,rfl⟩ := pK he hx
  refine ⟨m,fun j y u hy hu => ?_⟩
  cases j with
  | zero => simp at hy hu; subst hy; subst hu; exact .v _ rfl
  | succ j => simp at hy) h
 refine ⟨l,?_⟩
 have e : l.flatMap (fun a : Int => [P1.v (.int k a)]) = l.map fun a => .v (.int k a) := by
  clear hl
  induction l with
  | nil => rfl
  | cons a l ih => exact congrArg (P1.v (.int k a) :: ·) ih
 rwa [e] at hl
theorem vDA {n : Nat} {v : Value} {x : DataW H × List MemPlace} (h : DataW.trod enc Try.prog W 0 (fun _ => true) true n 24 [v] = some x) : ∃ l : List (List Int),R1 W (lS W) (iE l) v := by
 obtain ⟨l,hl⟩ := vY (fun a : List Int => [gH a]) 1 (fun _ => rfl) (by omega) Try.underlying24 (by kernel_rfl) (fun n cs x hx hc => by
  match cs,hc with
  | [u],_ =>
  obtain ⟨r,hr⟩ := uDA Try.underlying60 Try.underlying58 (by kernel_rfl) hx
  refine ⟨r,fun j y u' hy hu => ?_⟩
  cases j with
  | zero => simp at hy hu; subst hy; subst hu; exact hr
  | succ j => simp at hy) h
 refine ⟨l,?_⟩
 have e : ∀ l : List (List Int),l.flatMap (fun a : List Int => [gH a]) = l.map gH := by
  intro l
  induction l with
  | nil => rfl
  | cons a l ih => simp only [List.flatMap_cons,ZG,ZL,ZM,ih]
 rwa [e] at hl
theorem wDA {n : Nat} {cs : List Value} {x : DataW H × List MemPlace} (h : DataW.trod enc Try.prog W 0 (fun _ => true) true n 26 cs = some x) : ∃ t : Tr,RV W (lS W) (trP t) (.agg cs.toArray) := by
 obtain ⟨xs,m,_,_,hl,hxl,hel⟩ := DataW.trod_struct Try.underlying26 h
 have c3 : Try.prog.cellsOf 3 = 1 := by kernel_rfl
 have c24 : Try.prog.cellsOf 24 = 1 := by kernel_rfl
 have c26 : Try.prog.cellsOf 26 = 3 := by kernel_rfl
 rw [c26] at hl
 obtain ⟨u0,u1,u2,rfl⟩ := cKA hl
 have h0 : DataW.trod enc Try.prog W 0 (fun _ => true) true m 3 (([u0,u1,u2].drop 0).take (Try.prog.cellsOf 3)) = xs[0]? := hel 0 _ rfl
 have h1 : DataW.trod enc Try.prog W 0 (fun _ => true) true m 3 (([u0,u1,u2].drop 1).take (Try.prog.cellsOf 3)) = xs[1]? := hel 1 _ rfl
 have h2 : DataW.trod enc Try.prog W 0 (fun _ => true) true m 24 (([u0,u1,u2].drop 2).take (Try.prog.cellsOf 24)) = xs[2]? := hel 2 _ rfl
 have hx2 : xs.length = 3 := hxl
 rw [List.getElem?_eq_getElem (by omega)] at h0 h1 h2
 rw [c3] at h0 h1
 rw [c24] at h2
 obtain ⟨z0,e0⟩ := pK Try.underlying3 h0
 obtain ⟨z1,e1⟩ := pK Try.underlying3 h1
 obtain ⟨l,hlv⟩ := vDA (show DataW.trod enc Try.prog W 0 (fun _ => true) true m 24 [u2] = some _ from h2)
 simp at e0 e1
 subst e0
 subst e1
 refine ⟨⟨z0,z1,l⟩,.agg _ [.int .i64 z0,.int .i64 z1,u2] rfl fun j y u hy hu => ?_⟩
 match j with
 | 0 => simp at hy hu; subst hy; subst hu; exact .v _ rfl
 | 1 => simp at hy hu; subst hy; subst hu; exact .v _ rfl
 | 2 => simp at hy hu; subst hy; subst hu; exact hlv
 | j + 3 => simp at hy
end
theorem dFA {W : World} {C : Nat → Prop} : RVs W C [] [] := ⟨rfl,fun j d u h => by simp at h⟩
theorem dX {W : World} {C : Nat → Prop} {d : PV} {v : Value} {ds : List PV} {vs : List Value} (h : RV W C d v) (hs : RVs W C ds vs) : RVs W C (d :: ds) (v :: vs) := by
 refine ⟨by simp [hs.1],fun j x u hx hu => ?_⟩
 cases j with
 | zero => simp at hx hu; subst hx; subst hu; exact h
 | succ j => exact hs.2 j x u (by simpa using hx) (by simpa using hu)
theorem eFA {H : Type} {enc : TypeId × Value → H} {W : World} {cs : Array Value} {d : DataW H} {p : List MemPlace} (h : DataW.Trod enc Try.prog W 0 (fun _ => true) true 26 (.agg cs) d p) : ∃ t : Tr,RV W (lS W) (trP t) (.agg cs) := by
 obtain ⟨m,hm⟩ := h
 exact wDA (show DataW.trod enc Try.prog W 0 (fun _ => true) true m 26 cs.toList = some _ from hm)
/-- From a contract to the row's call. -/
theorem xDA {f : FuncId} {ds : List PV} (h : ACalls Try.prog f ds (.p (bv true))) {W : World} {vs : List Value} (hv : RVs W (lS W) ds vs) :
  Calls Try.prog f vs.toArray W fun e W' => e = .returned (.bool true) ∧ Below W.heap.size W W' := by
 refine ((callsIn_wide (n := 0)).1 (h.h Fence.wide 0 (lS W) W vs ⟨fun _ => trivial,rfl,rfl⟩ rfl (fun _ hg => hg) hv)).mono ?_
 rintro e W' ⟨v,rfl,hr,hg⟩
 exact ⟨by rw [xX hr],hg.os,hg.tape,hg.output,hg.size,fun k hk => hg.block k hk (by simp)⟩
theorem yDA {H : Type} {enc : TypeId × Value → H} {W : World} {t : TypeId} {v : Value} {d : DataW H} {p : List MemPlace} (h : DataW.Trod enc Try.prog W 0 (fun _ => true) true t v d p) : ∀ x ∈ p,x.block < W.heap.size := by
 obtain ⟨m,hm⟩ := h
 exact DataW.trod_lt m _ _ _ hm
end Go.Proofs.Ytldcoekbgfaomaa
end
section
namespace Go.Proofs.Ytldcoekbgfaomaa
open Go.RowKit
/-- Is the tree small enough for the law? -/
def tHA (t : Tr) : Bool := decide (t.lv.length ≤ 12 ∧ t.size ≤ 100 ∧ ∀ r ∈ t.lv,r.length ≤ 100)
theorem gNA (t : Tr) : ACalls Try.prog 24 [trP t] (.p (bv (tHA t))) := c24 t
end Go.Proofs.Ytldcoekbgfaomaa
end
section
namespace Go.Proofs.Ytldcoekbgfaomaa
open Go.RowKit Go.ChangeShapes Go.WideShapes
theorem uHA {n : Int} (h : (Lit.int .i64 n).wf = true) : -9223372036854775808 ≤ n ∧ n ≤ 9223372036854775807 := by
 simp [Lit.wf,IntKind.min,IntKind.max,IntKind.signed,IntKind.bits] at h
 omega
theorem dKA {n : Int} (h : (Lit.int .u8 n).wf = true) : 0 ≤ n ∧ n ≤ 255 := by
 simp [Lit.wf,IntKind.min,IntKind.max,IntKind.signed,IntKind.bits] at h
 omega
theorem zDA {H : Type} {enc : TypeId × Value → H} {W : World} {t : TypeId} {k : IntKind} (ht : Try.prog.underlying t = some (.int k)) {n : Nat} {cs : List Value} {x : DataW H × List MemPlace} (h : DataW.trod enc Try.prog W 0 (fun _ => true) true n t cs = some x) : ∃ m,cs = [.int k m] ∧ (Lit.int k m).wf = true := by
 obtain ⟨m,hm,_,hw⟩ := DataW.trod_int ht h
 exact ⟨m,hm,hw⟩
end Go.Proofs.Ytldcoekbgfaomaa
end
section
namespace Go.Proofs.Ytldcoekbgfaomaa
open Go.RowKit
set_option maxRecDepth 20000
set_option maxHeartbeats 4000000
attribute [local irreducible] kE sD AW
/-- Numbers that a machine word holds. -/
@[reducible] def uP (n : Int) : Prop := -9223372036854775808 ≤ n ∧ n ≤ 9223372036854775807
def mS (es : List (Int × Int)) : Prop := ∀ e ∈ es,uP e.1 ∧ uP e.2
/-- A walk of a comparison. -/
structure Wa where
 tree : Tr
 pend : List (Int × Int)
 level : Int
 found : List (Int × Int)
 sent : Int
 done : Bool
@[reducible] def waC (w : Wa) : List P1 := [i64 w.tree.size,i64 w.tree.leaf,iE w.tree.lv,gD w.pend,i64 w.level,gD w.found,i64 w.sent,bv w.done]
@[reducible] def waP (w : Wa) : PV := .agg (waC w)
def Wa.zero : Wa := ⟨.zero,[],0,[],0,false⟩
/-- A message. -/
structure Ms where
 kind : Int
 frm : Int
 dest : Int
 num : Int
 val : Int
 epoch : Int
 vs : List Int
 body : List Int
@[reducible] def msC (m : Ms) : List P1 := [i64 m.kind,i64 m.frm,i64 m.dest,i64 m.num,i64 m.val,i64 m.epoch,mF m.vs,bytes m.body]
@[reducible] def msP (m : Ms) : PV := .agg (msC m)
def Ms.zero : Ms := ⟨0,0,0,0,0,0,[],[]⟩
def fR (l : List Ms) : List P1 := l.flatMap msC
@[reducible] def wY (l : List Ms) : P1 := .sl l.length (fR l)
theorem fFA (m : Ms) : (msC m).length = 8 := rfl
theorem sB (l : List Ms) : (fR l).length = l.length * 8 := yH msC 8 fFA l
theorem eX {es : List (Int × Int)} (h : mS es) {i : Nat} (hi : i < es.length) : uP (es.getD i (0,0)).1 ∧ uP (es.getD i (0,0)).2 := h _ (qE es (0,0) i hi)
theorem lL (l : List (Int × Int)) (i : Nat) (h : i < l.length) : l.drop i = l.getD i (0,0) :: l.drop (i + 1) := by
 rw [List.drop_eq_getElem_cons h,List.getD_eq_getElem?_getD,List.getElem?_eq_getElem h]; rfl
/-- The error of extents within n places. -/
def xGo (n : Int) : Int → List (Int × Int) → Int
 | _,[] => 0
 | a,e :: r => if e.2 ≤ 0 then 1 else if e.1 < 0 ∨ n - e.1 < e.2 then 2 else if e.1 < a then 3 else xGo n (e.1 + e.2 + 1) r
def fJ (es : List (Int × Int)) (n : Int) : Int := if n < 0 ∨ 4096 < n then 2 else xGo n 0 es
theorem sL {es : List (Int × Int)} {n : Int} (h : n < 0 ∨ 4096 < n) : fJ es n = 2 := if_pos h
theorem fE {es : List (Int × Int)} {n : Int} (h : ¬ (n < 0 ∨ 4096 < n)) : fJ es n = xGo n 0 es := if_neg h
theorem fO {es : List (Int × Int)} {n a : Int} {i : Nat} (hi : i < es.length) (h : (es.getD i (0,0)).2 ≤ 0) : xGo n a (es.drop i) = 1 := by rw [lL es i hi,xGo,if_pos h]
theorem gO {es : List (Int × Int)} {n a : Int} {i : Nat} (hi : i < es.length) (h : ¬ (es.getD i (0,0)).2 ≤ 0) (h2 : (es.getD i (0,0)).1 < 0 ∨ n - (es.getD i (0,0)).1 < (es.getD i (0,0)).2) : xGo n a (es.drop i) = 2 := by rw [lL es i hi,xGo,if_neg h,if_pos h2]
theorem iO {es : List (Int × Int)} {n a : Int} {i : Nat} (hi : i < es.length) (h : ¬ (es.getD i (0,0)).2 ≤ 0) (h2 : ¬ ((es.getD i (0,0)).1 < 0 ∨ n - (es.getD i (0,0)).1 < (es.getD i (0,0)).2)) (h3 : (es.getD i (0,0)).1 < a) : xGo n a (es.drop i) = 3 := by rw [lL es i hi,xGo,if_neg h,if_neg h2,if_pos h3]
theorem eGA {es : List (Int × Int)} {n a : Int} {i : Nat} (hi : i < es.length) (h : ¬ (es.getD i (0,0)).2 ≤ 0) (h2 : ¬ ((es.getD i (0,0)).1 < 0 ∨ n - (es.getD i (0,0)).1 < (es.getD i (0,0)).2)) (h3 : ¬ (es.getD i (0,0)).1 < a) : xGo n a (es.drop i) = xGo n ((es.getD i (0,0)).1 + (es.getD i (0,0)).2 + 1) (es.drop (i + 1)) := by rw [lL es i hi,xGo,if_neg h,if_neg h2,if_neg h3]
theorem jO {es : List (Int × Int)} {n a : Int} {i : Nat} (hi : es.length ≤ i) : xGo n a (es.drop i) = 0 := by rw [List.drop_of_length_le hi]; rfl
def inE (e : Int × Int) (n : Int) : Prop := 0 ≤ e.1 ∧ e.2 ≤ n ∧ e.1 ≤ n - e.2
instance (e : Int × Int) (n : Int) : Decidable (inE e n) := by unfold inE; infer_instance
theorem c92 (a b : List Int) : ACalls Try.prog 92 [.p (bytes a),.p (bytes b)] (.p (bv (decide (a = b)))) := by
 refine wC oC Try.func92 (c := _) rfl (by kernel_rfl) ?_
 intro X hP hX hro hpl
 have hb : tb.Ok X.P := hP ▸ oC
 change AW X _ _ ⟨[],[.p (bytes a),.p (bytes b),.any,.any,.any,.any,.any,.any,.any,.any,.any,.any,.any,.any,.any,.any,.any,.any,.any,.any,.any,.any,.any,.any,.any,.any],[],[]⟩
 refine jI (t := 0) rfl fun hl => ?_
 unfold maxLen at hl
 refine cA ?_
 refine gA hX hb [0] rfl (σ' := ?s1) (fun K hK => ?h1) ?n1
 case h1 =>
  (refine kA rfl (by simp (disch := omega) only [iA,aA,qop,fop,St.ev,St.put,cd,zd,Value.oneCell',lA,TypeDesc.aggB,Z0,nA,Zh] <;> exact rfl) ?_)
  refine bA ?_
  exact hK
 refine jA ?_
 refine cA ?_
 refine cA ?_
 refine gA hX hb [0,1,2,3,4] rfl (σ' := ?s2) (fun K hK => ?h2) ?n2
 case h2 =>
  iterate 5 (refine kA rfl (by simp (disch := omega) only [iA,aA,qop,fop,St.ev,St.put,cd,zd,Value.oneCell',lA,TypeDesc.aggB,Z0,vC,cB,iop,tt,nA,Zh] <;> exact rfl) ?_)
  refine bA ?_
  exact hK
 refine jA ?_
 refine oB _ rfl (fun hc0 => ?_) (fun hc0 => ?_)
 ·try simp only [Zp,Zi,ZK,ZJ,ne_eq,Zn,Zm,ZB,ZA,ZI,not_or,not_and,Zu] at hc0
  refine cA ?_
  refine gA hX hb [0] rfl (σ' := ?s3) (fun K hK => ?h3) ?n3
  case h3 =>
   (refine kA rfl (by simp (disch := omega) only [iA,aA,qop,fop,St.ev,St.put,cd,zd,Value.oneCell',lA,TypeDesc.aggB,Z0,nA,Zh] <;> exact rfl) ?_)
   refine bA ?_
   exact hK
  refine jA ?_
  refine bC ?_
  refine tC ?_
  exact zC rfl (zB rfl (by first | rfl | (first | (refine jf ?_; rintro rfl; exact hc2 rfl) | (refine jf ?_; rintro rfl; exact hc0 rfl) | exact jt (vD hc0 he (by omega)))))
 ·try simp only [Zp,Zi,ZK,ZJ,ne_eq,Zn,Zm,ZB,ZA,ZI,not_or,not_and,Zu] at hc0
  refine uB ?_
  refine jA ?_
  refine cA ?_
  refine cA ?_
  refine gA hX hb [0] rfl (σ' := ?s4) (fun K hK => ?h4) ?n4
  case h4 =>
   (refine kA rfl (by simp (disch := omega) only [iA,aA,qop,fop,St.ev,St.put,cd,zd,Value.oneCell',lA,TypeDesc.aggB,Z0,nA,Zh] <;> exact rfl) ?_)
   refine bA ?_
   exact hK
  refine jA ?_
  refine tB ?_
  refine rD (ι := Nat) (fun i => i ≤ a.length ∧ a.take i = b.take i) (fun i => ⟨[],[.p (bytes a),.p (bytes b),.any,.any,.any,.p (i64 i),.any,.any,.any,.any,.any,.any,.any,.any,.any,.any,.any,.any,.any,.any,.any,.any,.any,.any,.any,.any],[],[]⟩) (fun i => a.length - i) 0 (by exact ⟨Nat.zero_le _,rfl⟩) (rC ⟨rfl,(by repeat first | exact sA | refine mB ?_ | refine vA rfl ?_),(xB _),(yB _),rfl,rfl⟩) ?_
  rintro i ⟨hi,he⟩
  refine cA ?_
  refine cA ?_
  refine gA hX hb [0,1,2,3] rfl (σ' := ?s5) (fun K hK => ?h5) ?n5
  case h5 =>
   iterate 4 (refine kA rfl (by simp (disch := omega) only [iA,aA,qop,fop,St.ev,St.put,cd,zd,Value.oneCell',lA,TypeDesc.aggB,Z0,vC,cB,iop,tt,nA,Zh] <;> exact rfl) ?_)
   refine bA ?_
   exact hK
  refine jA ?_
  refine oB _ rfl (fun hc1 => ?_) (fun hc1 => ?_)
  ·try simp only [Zp,Zi,ZK,ZJ,ne_eq,Zn,Zm,ZB,ZA,ZI,not_or,not_and,Zu] at hc1
   refine uB ?_
   refine jA ?_
   refine cA ?_
   refine tB ?_
   refine cA ?_
   refine dF hX hb (jD hP) [(0,true),(1,true),(2,true),(3,true),(4,true),(5,true),(6,true),(7,true),(8,true)] (by kernel_rfl) (σ' := ?s6) (fun K hK => ?h6) ?n6
   case h6 =>
    iterate 9 (refine eF rfl (by simp (disch := omega) only [qop,fop,St.ev,St.put,cd,zd,Value.oneCell',lA,TypeDesc.aggB,Z0,Int.toNat_zero,Int.toNat_one,xA,yA,wA,ZO,Nat.mul_one,ZC,Nat.zero_mul,Zh,Z1,pA,qA,tA,eA,D.pure?,ZD,cB,iop,tt,nA] <;> exact rfl) (by simp only [St.put,Za,Zb] <;> exact rfl) ?_)
    refine xC ?_
    exact hK
   refine jA ?_
   refine oB _ rfl (fun hc2 => ?_) (fun hc2 => ?_)
   ·try simp only [Zp,Zi,ZK,ZJ,ne_eq,Zn,Zm,ZB,ZA,ZI,not_or,not_and,Zu] at hc2
    refine cA ?_
    refine gA hX hb [0] rfl (σ' := ?s7) (fun K hK => ?h7) ?n7
    case h7 =>
     (refine kA rfl (by simp (disch := omega) only [iA,aA,qop,fop,St.ev,St.put,cd,zd,Value.oneCell',lA,TypeDesc.aggB,Z0,nA,Zh] <;> exact rfl) ?_)
     refine bA ?_
     exact hK
    refine jA ?_
    refine bC ?_
    refine xE ?_
    refine tC ?_
    refine tC ?_
    refine xE ?_
    refine tC ?_
    exact zC rfl (zB rfl (by first | rfl | (first | (refine jf ?_; rintro rfl; exact hc2 rfl) | (refine jf ?_; rintro rfl; exact hc0 rfl) | exact jt (vD hc0 he (by omega)))))
   ·try simp only [Zp,Zi,ZK,ZJ,ne_eq,Zn,Zm,ZB,ZA,ZI,not_or,not_and,Zu] at hc2
    refine uB ?_
    refine cE ?_
    refine jA ?_
    refine gA hX hb [0,1,2] rfl (σ' := ?s8) (fun K hK => ?h8) ?n8
    case h8 =>
     iterate 3 (refine kA rfl (by simp (disch := omega) only [iA,aA,qop,fop,St.ev,St.put,cd,zd,Value.oneCell',lA,TypeDesc.aggB,Z0,cB,iop,tt,nA,Zh] <;> exact rfl) ?_)
     refine bA ?_
     exact hK
    refine jA ?_
    exact ⟨i + 1,by exact ⟨by omega,by rw [gE a i (by omega),gE b i (by omega),he,hc2]⟩,by (try dsimp only); omega,rC ⟨rfl,(by repeat first | exact sA | refine mB ?_ | refine vA rfl ?_),(xB _),(yB _),rfl,rfl⟩⟩
  ·try simp only [Zp,Zi,ZK,ZJ,ne_eq,Zn,Zm,ZB,ZA,ZI,not_or,not_and,Zu] at hc1
   refine oD ?_
   refine fD ?_
   refine fD ?_
   refine zE ?_
   refine jA ?_
   refine cA ?_
   refine gA hX hb [0] rfl (σ' := ?s9) (fun K hK => ?h9) ?n9
   case h9 =>
    (refine kA rfl (by simp (disch := omega) only [iA,aA,qop,fop,St.ev,St.put,cd,zd,Value.oneCell',lA,TypeDesc.aggB,Z0,nA,Zh] <;> exact rfl) ?_)
    refine bA ?_
    exact hK
   refine jA ?_
   refine bC ?_
   exact zC rfl (zB rfl (by first | rfl | (first | (refine jf ?_; rintro rfl; exact hc2 rfl) | (refine jf ?_; rintro rfl; exact hc0 rfl) | exact jt (vD hc0 he (by omega)))))
theorem c51 (m : Ms) : ACalls Try.prog 51 [msP m] (.p (bv (decide (m.vs.length ≤ 200 ∧ m.body.length ≤ 2000)))) := by
 obtain ⟨ki,fr,de,nu,va,ep,vs,bo⟩ := m
 refine wC oC Try.func51 (c := _) rfl (by kernel_rfl) ?_
 intro X hP hX hro hpl
 have hb : tb.Ok X.P := hP ▸ oC
 change AW X _ _ ⟨[],[.agg [i64 ki,i64 fr,i64 de,i64 nu,i64 va,i64 ep,mF vs,bytes bo],.any,.any,.any,.any,.any,.any,.any,.any,.any,.any,.any,.any],[],[]⟩
 refine cA ?_
 refine gA hX hb [0,1] rfl (σ' := ?s1) (fun K hK => ?h1) ?n1
 case h1 =>
  iterate 2 (refine kA rfl (by simp (disch := omega) only [iA,aA,qop,fop,St.ev,St.put,cd,zd,Value.oneCell',lA,TypeDesc.aggB,Z0,ZM,ZL,Zl,Zo,ZG,ZH,St.addBox,D.boxCells,D.live,tt,Zh] <;> exact rfl) ?_)
  refine bA ?_
  exact hK
 refine jA ?_
 refine cA ?_
 refine vE hX hb [0,1,2,3,4,5,6,7,8,9,10] rfl (ts := [3,4,5,6,7,8,9,10,11,12]) (t := 2) (d := .p (bv (vs.length ≤ 200 ∧ bo.length ≤ 2000))) (σ' := ?s2) ?j2 ?h2 ?n2
 case j2 => simp only [St.join,List.foldl,Za,Zb]; exact rfl
 case h2 =>
  iterate 5 (all_goals refine kA rfl (by simp (disch := omega) only [iA,aA,qop,fop,St.ev,St.put,cd,zd,Value.oneCell',lA,TypeDesc.aggB,Z0,fA,oA,Z1,pA,qA,tA,eA,D.pure?,ZC,ZD,vC,cB,iop,tt,Zh] <;> exact rfl) ?_)
  iterate 4 (all_goals first | (refine lC rfl rfl rfl (by simp (disch := omega) only [iA,aA,qop,fop,St.ev,St.put,cd,zd,Value.oneCell',lA,TypeDesc.aggB,Z0,fA,oA,Z1,pA,qA,tA,eA,D.pure?,ZC,ZD,vC,cB,iop,tt,Zh] <;> exact rfl) ?_) | (first | (refine eC rfl rfl rfl (by simp only [St.put,Za,Zb] <;> exact rfl) ?_) | (refine fC rfl rfl rfl (by simp only [St.put,Za,Zb] <;> exact rfl) ?_)) | (refine cC rfl rfl rfl (by simp only [Za,Zb] <;> exact rfl) (by simp only [Za,Zb] <;> exact rfl) (fun hg => ?_) (fun hg => ?_) <;> (try simp only [Zp,Zi,ZJ,ZK,ne_eq,Zn,Zm,Bool.not_eq_true,Zu] at hg) <;> first | (refine lC rfl rfl rfl (by simp (disch := omega) only [iA,aA,qop,fop,St.ev,St.put,cd,zd,Value.oneCell',lA,TypeDesc.aggB,Z0,fA,oA,Z1,pA,qA,tA,eA,D.pure?,ZC,ZD,vC,cB,iop,tt,Zh] <;> exact rfl) ?_) | (first | (refine eC rfl rfl rfl (by simp only [St.put,Za,Zb] <;> exact rfl) ?_) | (refine fC rfl rfl rfl (by simp only [St.put,Za,Zb] <;> exact rfl) ?_))))
  iterate 2 (all_goals refine kA rfl (by simp (disch := omega) only [iA,aA,qop,fop,St.ev,St.put,cd,zd,Value.oneCell',lA,TypeDesc.aggB,Z0,fA,oA,Z1,pA,qA,tA,eA,D.pure?,ZC,ZD,vC,cB,iop,tt,Zh] <;> exact rfl) ?_)
  all_goals refine bA ?_
  all_goals refine ⟨rfl,?_,xD _,yD _,rfl,rfl⟩
  all_goals repeat' (first | exact sA | refine mB ?_ | refine vA rfl ?_ | refine vA ?_ ?_)
  all_goals refine jn ?_
  all_goals ((try simp only [Zp,Zi,ZJ,ZK,Bool.not_eq_true,Zm,Zn,ne_eq,Zf,true_iff,false_iff,iff_true,iff_false] at *) <;> omega)
 refine jA ?_
 refine bC ?_
 exact zC rfl (zB rfl rfl)
theorem hNA (e : Int × Int) (n : Int) (hn : uP n) (h : 0 < e.2 ∧ uP e.2) (h2 : 0 ≤ n) : ACalls Try.prog 112 [.agg [i64 e.1,i64 e.2],.p (i64 n)] (.p (bv (decide (inE e n)))) := by
 refine wC oC Try.func112 (c := _) rfl (by kernel_rfl) ?_
 intro X hP hX hro hpl
 have hb : tb.Ok X.P := hP ▸ oC
 change AW X _ _ ⟨[],[.agg [i64 e.1,i64 e.2],.p (i64 n),.any,.any,.any,.any,.any,.any,.any,.any,.any,.any,.any,.any,.any,.any,.any,.any,.any,.any,.any,.any,.any],[],[]⟩
 refine cA ?_
 refine gA hX hb [0,1] rfl (σ' := ?s1) (fun K hK => ?h1) ?n1
 case h1 =>
  iterate 2 (refine kA rfl (by simp (disch := omega) only [iA,aA,qop,fop,St.ev,St.put,cd,zd,Value.oneCell',lA,TypeDesc.aggB,Z0,ZM,ZL,Zl,Zo,ZG,ZH,St.addBox,D.boxCells,D.live,tt] <;> exact rfl) ?_)
  refine bA ?_
  exact hK
 refine jA ?_
 refine cA ?_
 refine vE hX hb [0,1,2,3,4,5,6,7,8,9,10,11,12,13,14,15,16,17,18] rfl (ts := [5,6,7,8,9,10,11,12,13,14,15,16,17,18,19,20,21,22]) (t := 4) (d := .p (bv (inE e n))) (σ' := ?s2) ?j2 ?h2 ?n2
 case j2 => simp only [St.join,List.foldl,Za,Zb]; exact rfl
 case h2 =>
  iterate 4 (all_goals refine kA rfl (by simp (disch := omega) only [iA,aA,qop,fop,St.ev,St.put,cd,zd,Value.oneCell',lA,TypeDesc.aggB,Z0,fA,oA,Z1,pA,qA,tA,eA,D.pure?,ZC,ZD,cB,iop,tt] <;> exact rfl) ?_)
  iterate 4 (all_goals first | (refine lC rfl rfl rfl (by simp (disch := omega) only [iA,aA,qop,fop,St.ev,St.put,cd,zd,Value.oneCell',lA,TypeDesc.aggB,Z0,fA,oA,Z1,pA,qA,tA,eA,D.pure?,ZC,ZD,cB,iop,tt] <;> exact rfl) ?_) | (first | (refine eC rfl rfl rfl (by simp only [St.put,Za,Zb] <;> exact rfl) ?_) | (refine fC rfl rfl rfl (by simp only [St.put,Za,Zb] <;> exact rfl) ?_)) | (refine cC rfl rfl rfl (by simp only [Za,Zb] <;> exact rfl) (by simp only [Za,Zb] <;> exact rfl) (fun hg => ?_) (fun hg => ?_) <;> (try simp only [Zp,Zi,ZJ,ZK,ne_eq,Zn,Zm,Bool.not_eq_true,Zu] at hg) <;> first | (refine lC rfl rfl rfl (by simp (disch := omega) only [iA,aA,qop,fop,St.ev,St.put,cd,zd,Value.oneCell',lA,TypeDesc.aggB,Z0,fA,oA,Z1,pA,qA,tA,eA,D.pure?,ZC,ZD,cB,iop,tt] <;> exact rfl) ?_) | (first | (refine eC rfl rfl rfl (by simp only [St.put,Za,Zb] <;> exact rfl) ?_) | (refine fC rfl rfl rfl (by simp only [St.put,Za,Zb] <;> exact rfl) ?_))))
  iterate 2 (all_goals refine kA rfl (by simp (disch := omega) only [iA,aA,qop,fop,St.ev,St.put,cd,zd,Value.oneCell',lA,TypeDesc.aggB,Z0,fA,oA,Z1,pA,qA,tA,eA,D.pure?,ZC,ZD,cB,iop,tt] <;> exact rfl) ?_)
  iterate 7 (all_goals first | (refine lC rfl rfl rfl (by simp (disch := omega) only [iA,aA,qop,fop,St.ev,St.put,cd,zd,Value.oneCell',lA,TypeDesc.aggB,Z0,fA,oA,Z1,pA,qA,tA,eA,D.pure?,ZC,ZD,cB,iop,tt] <;> exact rfl) ?_) | (first | (refine eC rfl rfl rfl (by simp only [St.put,Za,Zb] <;> exact rfl) ?_) | (refine fC rfl rfl rfl (by simp only [St.put,Za,Zb] <;> exact rfl) ?_)) | (refine cC rfl rfl rfl (by simp only [Za,Zb] <;> exact rfl) (by simp only [Za,Zb] <;> exact rfl) (fun hg => ?_) (fun hg => ?_) <;> (try simp only [Zp,Zi,ZJ,ZK,ne_eq,Zn,Zm,Bool.not_eq_true,Zu] at hg) <;> first | (refine lC rfl rfl rfl (by simp (disch := omega) only [iA,aA,qop,fop,St.ev,St.put,cd,zd,Value.oneCell',lA,TypeDesc.aggB,Z0,fA,oA,Z1,pA,qA,tA,eA,D.pure?,ZC,ZD,cB,iop,tt] <;> exact rfl) ?_) | (first | (refine eC rfl rfl rfl (by simp only [St.put,Za,Zb] <;> exact rfl) ?_) | (refine fC rfl rfl rfl (by simp only [St.put,Za,Zb] <;> exact rfl) ?_))))
  iterate 2 (all_goals refine kA rfl (by simp (disch := omega) only [iA,aA,qop,fop,St.ev,St.put,cd,zd,Value.oneCell',lA,TypeDesc.aggB,Z0,fA,oA,Z1,pA,qA,tA,eA,D.pure?,ZC,ZD,cB,iop,tt] <;> exact rfl) ?_)
  all_goals refine bA ?_
  all_goals refine ⟨rfl,?_,xD _,yD _,rfl,rfl⟩
  all_goals repeat' (first | exact sA | refine mB ?_ | refine vA rfl ?_ | refine vA ?_ ?_)
  all_goals refine jn ?_
  all_goals ((simp only [inE] at *) <;> (try simp only [Zp,Zi,ZJ,ZK,Bool.not_eq_true,Zm,Zn,ne_eq,Zf,true_iff,false_iff,iff_true,iff_false] at *) <;> omega)
 refine jA ?_
 refine bC ?_
 exact zC rfl (zB rfl rfl)
theorem c86 (es : List (Int × Int)) (n : Int) (hin : mS es) (hn64 : uP n) : ACalls Try.prog 86 [.p (gD es),.p (i64 n)] (.p (i64 (fJ es n))) := by
 refine wC oC Try.func86 (c := _) rfl (by kernel_rfl) ?_
 intro X hP hX hro hpl
 have hb : tb.Ok X.P := hP ▸ oC
 change AW X _ _ ⟨[],[.p (gD es),.p (i64 n),.any,.any,.any,.any,.any,.any,.any,.any,.any,.any,.any,.any,.any,.any,.any,.any,.any,.any,.any,.any,.any,.any,.any,.any,.any,.any,.any,.any,.any,.any,.any,.any,.any,.any,.any,.any,.any,.any,.any,.any,.any,.any,.any,.any,.any,.any,.any,.any,.any,.any],[],[]⟩
 refine jI (t := 0) rfl fun hl => ?_
 unfold maxLen at hl
 refine cA ?_
 refine gA hX hb [0] rfl (σ' := ?s1) (fun K hK => ?h1) ?n1
 case h1 =>
  (refine kA rfl (by simp (disch := omega) only [iA,aA,qop,fop,St.ev,St.put,cd,zd,Value.oneCell',lA,TypeDesc.aggB,Z0,Z2] <;> exact rfl) ?_)
  refine bA ?_
  exact hK
 refine jA ?_
 refine cA ?_
 refine cA ?_
 refine vE hX hb [0,1,2,3,4,5] rfl (ts := [7,8,9,10,11]) (t := 12) (d := .p (bv (n < 0 ∨ 4096 < n))) (σ' := ?s2) ?j2 ?h2 ?n2
 case j2 => simp only [St.join,List.foldl,Za,Zb]; exact rfl
 case h2 =>
  iterate 3 (all_goals refine kA rfl (by simp (disch := omega) only [iA,aA,qop,fop,St.ev,St.put,cd,zd,Value.oneCell',lA,TypeDesc.aggB,Z0,cB,iop,tt,Z2] <;> exact rfl) ?_)
  iterate 2 (all_goals first | (refine lC rfl rfl rfl (by simp (disch := omega) only [iA,aA,qop,fop,St.ev,St.put,cd,zd,Value.oneCell',lA,TypeDesc.aggB,Z0,cB,iop,tt,Z2] <;> exact rfl) ?_) | (first | (refine eC rfl rfl rfl (by simp only [St.put,Za,Zb] <;> exact rfl) ?_) | (refine fC rfl rfl rfl (by simp only [St.put,Za,Zb] <;> exact rfl) ?_)) | (refine cC rfl rfl rfl (by simp only [Za,Zb] <;> exact rfl) (by simp only [Za,Zb] <;> exact rfl) (fun hg => ?_) (fun hg => ?_) <;> (try simp only [Zp,Zi,ZJ,ZK,ne_eq,Zn,Zm,Bool.not_eq_true,Zu] at hg) <;> first | (refine lC rfl rfl rfl (by simp (disch := omega) only [iA,aA,qop,fop,St.ev,St.put,cd,zd,Value.oneCell',lA,TypeDesc.aggB,Z0,cB,iop,tt,Z2] <;> exact rfl) ?_) | (first | (refine eC rfl rfl rfl (by simp only [St.put,Za,Zb] <;> exact rfl) ?_) | (refine fC rfl rfl rfl (by simp only [St.put,Za,Zb] <;> exact rfl) ?_))))
  (all_goals refine kA rfl (by simp (disch := omega) only [iA,aA,qop,fop,St.ev,St.put,cd,zd,Value.oneCell',lA,TypeDesc.aggB,Z0,cB,iop,tt,Z2] <;> exact rfl) ?_)
  all_goals refine bA ?_
  all_goals refine ⟨rfl,?_,xD _,yD _,rfl,rfl⟩
  all_goals repeat' (first | exact sA | refine mB ?_ | refine vA rfl ?_ | refine vA ?_ ?_)
  all_goals refine jn ?_
  all_goals ((try simp only [Zp,Zi,ZJ,ZK,Bool.not_eq_true,Zm,Zn,ne_eq,Zf,true_iff,false_iff,iff_true,iff_false] at *) <;> omega)
 refine jA ?_
 refine oB _ rfl (fun hc0 => ?_) (fun hc0 => ?_)
 ·try simp only [Zp,Zi,ZK,ZJ,ne_eq,Zn,Zm,ZB,ZA,ZI,not_or,not_and,Zu] at hc0
  refine cA ?_
  refine gA hX hb [0] rfl (σ' := ?s3) (fun K hK => ?h3) ?n3
  case h3 =>
   (refine kA rfl (by simp (disch := omega) only [iA,aA,qop,fop,St.ev,St.put,cd,zd,Value.oneCell',lA,TypeDesc.aggB,Z0,t2,ti2,Z2] <;> exact rfl) ?_)
   refine bA ?_
   exact hK
  refine jA ?_
  refine bC ?_
  refine tC ?_
  exact zC rfl (zB rfl (by first | rfl | (first | exact congrArg (fun k => D.p (i64 k)) (sL hc0).symm | exact congrArg (fun k => D.p (i64 k)) ((fE (by omega)).trans (hg.trans (fO (by omega) hc2))).symm | exact congrArg (fun k => D.p (i64 k)) ((fE (by omega)).trans (hg.trans (gO (by omega) hc2 (by omega)))).symm | exact congrArg (fun k => D.p (i64 k)) ((fE (by omega)).trans (hg.trans (iO (by omega) hc2 (by omega) hc4))).symm | exact congrArg (fun k => D.p (i64 k)) ((fE (by omega)).trans (hg.trans (jO (by omega)))).symm)))
 ·try simp only [Zp,Zi,ZK,ZJ,ne_eq,Zn,Zm,ZB,ZA,ZI,not_or,not_and,Zu] at hc0
  refine uB ?_
  refine jA ?_
  refine cA ?_
  refine gA hX hb [0] rfl (σ' := ?s4) (fun K hK => ?h4) ?n4
  case h4 =>
   (refine kA rfl (by simp (disch := omega) only [iA,aA,qop,fop,St.ev,St.put,cd,zd,Value.oneCell',lA,TypeDesc.aggB,Z0,Z2] <;> exact rfl) ?_)
   refine bA ?_
   exact hK
  refine jA ?_
  refine cA ?_
  refine cA ?_
  refine gA hX hb [0] rfl (σ' := ?s5) (fun K hK => ?h5) ?n5
  case h5 =>
   (refine kA rfl (by simp (disch := omega) only [iA,aA,qop,fop,St.ev,St.put,cd,zd,Value.oneCell',lA,TypeDesc.aggB,Z0,Z2] <;> exact rfl) ?_)
   refine bA ?_
   exact hK
  refine jA ?_
  refine tB ?_
  refine rD (ι := Nat × Int) (fun p => p.1 ≤ es.length ∧ -2 ≤ p.2 ∧ p.2 ≤ 4096 ∧ xGo n 0 es = xGo n (p.2 + 2) (es.drop p.1)) (fun p => ⟨[],[.p (gD es),.p (i64 n),.any,.any,.any,.p (i64 p.2),.p (i64 p.1),.any,.any,.any,.any,.any,.any,.any,.any,.any,.any,.any,.any,.any,.any,.any,.any,.any,.any,.any,.any,.any,.any,.any,.any,.any,.any,.any,.any,.any,.any,.any,.any,.any,.any,.any,.any,.any,.any,.any,.any,.any,.any,.any,.any,.any],[],[]⟩) (fun p => es.length - p.1) (0,-2) (by exact ⟨Nat.zero_le _,by decide,by decide,rfl⟩) (rC ⟨rfl,(by repeat first | exact sA | refine mB ?_ | refine vA rfl ?_),(xB _),(yB _),rfl,rfl⟩) ?_
  rintro ⟨i,b⟩ ⟨hi,hb1,hb2,hg⟩
  dsimp only at hi hb1 hb2 hg ⊢
  refine cA ?_
  refine cA ?_
  refine gA hX hb [0,1,2,3] rfl (σ' := ?s6) (fun K hK => ?h6) ?n6
  case h6 =>
   iterate 4 (refine kA rfl (by simp (disch := omega) only [iA,aA,qop,fop,St.ev,St.put,cd,zd,Value.oneCell',lA,TypeDesc.aggB,Z0,vC,cB,iop,tt,Z2] <;> exact rfl) ?_)
   refine bA ?_
   exact hK
  refine jA ?_
  refine oB _ rfl (fun hc1 => ?_) (fun hc1 => ?_)
  ·try simp only [Zp,Zi,ZK,ZJ,ne_eq,Zn,Zm,ZB,ZA,ZI,not_or,not_and,Zu] at hc1
   have hei := eX hin (show i < es.length by omega)
   refine uB ?_
   refine jA ?_
   refine cA ?_
   refine tB ?_
   refine cA ?_
   refine cA ?_
   refine gA hX hb [0,1,2,3,4,5] rfl (σ' := ?s7) (fun K hK => ?h7) ?n7
   case h7 =>
    iterate 6 (refine kA rfl (by simp (disch := omega) only [iA,aA,qop,fop,St.ev,St.put,cd,zd,Value.oneCell',lA,TypeDesc.aggB,Z0,Int.toNat_zero,Int.toNat_one,xA,yA,wA,ZO,Nat.mul_one,ZC,Nat.zero_mul,Zh,fA,oA,Z1,pA,qA,tA,eA,D.pure?,ZD,cB,iop,tt,Z2] <;> exact rfl) ?_)
    refine bA ?_
    exact hK
   refine jA ?_
   refine oB _ rfl (fun hc2 => ?_) (fun hc2 => ?_)
   ·try simp only [Zp,Zi,ZK,ZJ,ne_eq,Zn,Zm,ZB,ZA,ZI,not_or,not_and,Zu] at hc2
    refine cA ?_
    refine gA hX hb [0] rfl (σ' := ?s8) (fun K hK => ?h8) ?n8
    case h8 =>
     (refine kA rfl (by simp (disch := omega) only [iA,aA,qop,fop,St.ev,St.put,cd,zd,Value.oneCell',lA,TypeDesc.aggB,Z0,t1,ti1,Z2] <;> exact rfl) ?_)
     refine bA ?_
     exact hK
    refine jA ?_
    refine bC ?_
    refine tC ?_
    refine xE ?_
    refine tC ?_
    refine tC ?_
    refine xE ?_
    refine tC ?_
    exact zC rfl (zB rfl (by first | rfl | (first | exact congrArg (fun k => D.p (i64 k)) (sL hc0).symm | exact congrArg (fun k => D.p (i64 k)) ((fE (by omega)).trans (hg.trans (fO (by omega) hc2))).symm | exact congrArg (fun k => D.p (i64 k)) ((fE (by omega)).trans (hg.trans (gO (by omega) hc2 (by omega)))).symm | exact congrArg (fun k => D.p (i64 k)) ((fE (by omega)).trans (hg.trans (iO (by omega) hc2 (by omega) hc4))).symm | exact congrArg (fun k => D.p (i64 k)) ((fE (by omega)).trans (hg.trans (jO (by omega)))).symm)))
   ·try simp only [Zp,Zi,ZK,ZJ,ne_eq,Zn,Zm,ZB,ZA,ZI,not_or,not_and,Zu] at hc2
    refine uB ?_
    refine jA ?_
    refine cA ?_
    refine cA ?_
    refine gA hX hb [0,1,2,3,4,5,6] rfl (σ' := ?s9) (fun K hK => ?h9) ?n9
    case h9 =>
     iterate 5 (refine kA rfl (by simp (disch := omega) only [iA,aA,qop,fop,St.ev,St.put,cd,zd,Value.oneCell',lA,TypeDesc.aggB,Z0,Int.toNat_zero,Int.toNat_one,xA,yA,wA,ZO,Nat.mul_one,ZC,Nat.zero_mul,Zh,Z1,pA,qA,tA,eA,D.pure?,ZD,uA,D.pv?,Bool.not_true,Bool.not_false,tt,Z2] <;> exact rfl) ?_)
     refine mD rfl (by simp only [aA,St.ev,pB,qB,uA,D.pv?,ZG,ZH,zd,cd,Value.oneCell',Zr] <;> exact rfl) (acK hP (hNA (es.getD i (0,0)) n (by omega) (by omega) (by omega))) (by simp only [St.put,Za,Zb] <;> exact rfl) ?_
     (refine kA rfl (by simp (disch := omega) only [iA,aA,qop,fop,St.ev,St.put,cd,zd,Value.oneCell',lA,TypeDesc.aggB,Z0,Int.toNat_zero,Int.toNat_one,xA,yA,wA,ZO,Nat.mul_one,ZC,Nat.zero_mul,Zh,Z1,pA,qA,tA,eA,D.pure?,ZD,uA,D.pv?,Bool.not_true,Bool.not_false,tt,Z2] <;> exact rfl) ?_)
     refine bA ?_
     exact hK
    refine jA ?_
    refine oB _ rfl (fun hc3 => ?_) (fun hc3 => ?_)
    ·try simp only [Zp,Zi,ZK,ZJ,ne_eq,Zn,Zm,ZB,ZA,ZI,not_or,not_and,Zu] at hc3
     unfold inE at hc3
     refine cA ?_
     refine gA hX hb [0] rfl (σ' := ?s10) (fun K hK => ?h10) ?n10
     case h10 =>
      (refine kA rfl (by simp (disch := omega) only [iA,aA,qop,fop,St.ev,St.put,cd,zd,Value.oneCell',lA,TypeDesc.aggB,Z0,t2,ti2,Z2] <;> exact rfl) ?_)
      refine bA ?_
      exact hK
     refine jA ?_
     refine bC ?_
     refine tC ?_
     refine xE ?_
     refine tC ?_
     refine tC ?_
     refine xE ?_
     refine tC ?_
     exact zC rfl (zB rfl (by first | rfl | (first | exact congrArg (fun k => D.p (i64 k)) (sL hc0).symm | exact congrArg (fun k => D.p (i64 k)) ((fE (by omega)).trans (hg.trans (fO (by omega) hc2))).symm | exact congrArg (fun k => D.p (i64 k)) ((fE (by omega)).trans (hg.trans (gO (by omega) hc2 (by omega)))).symm | exact congrArg (fun k => D.p (i64 k)) ((fE (by omega)).trans (hg.trans (iO (by omega) hc2 (by omega) hc4))).symm | exact congrArg (fun k => D.p (i64 k)) ((fE (by omega)).trans (hg.trans (jO (by omega)))).symm)))
    ·try simp only [Zp,Zi,ZK,ZJ,ne_eq,Zn,Zm,ZB,ZA,ZI,not_or,not_and,Zu] at hc3
     unfold inE at hc3
     refine uB ?_
     refine jA ?_
     refine cA ?_
     refine cA ?_
     refine gA hX hb [0,1,2,3,4,5,6,7] rfl (σ' := ?s11) (fun K hK => ?h11) ?n11
     case h11 =>
      iterate 8 (refine kA rfl (by simp (disch := omega) only [iA,aA,qop,fop,St.ev,St.put,cd,zd,Value.oneCell',lA,TypeDesc.aggB,Z0,Int.toNat_zero,Int.toNat_one,xA,yA,wA,ZO,Nat.mul_one,ZC,Nat.zero_mul,Zh,fA,oA,Z1,pA,qA,tA,eA,D.pure?,ZD,cB,iop,tt,Z2] <;> exact rfl) ?_)
      refine bA ?_
      exact hK
     refine jA ?_
     refine oB _ rfl (fun hc4 => ?_) (fun hc4 => ?_)
     ·try simp only [Zp,Zi,ZK,ZJ,ne_eq,Zn,Zm,ZB,ZA,ZI,not_or,not_and,Zu] at hc4
      refine cA ?_
      refine gA hX hb [0] rfl (σ' := ?s12) (fun K hK => ?h12) ?n12
      case h12 =>
       (refine kA rfl (by simp (disch := omega) only [iA,aA,qop,fop,St.ev,St.put,cd,zd,Value.oneCell',lA,TypeDesc.aggB,Z0,t3,ti3,Z2] <;> exact rfl) ?_)
       refine bA ?_
       exact hK
      refine jA ?_
      refine bC ?_
      refine tC ?_
      refine xE ?_
      refine tC ?_
      refine tC ?_
      refine xE ?_
      refine tC ?_
      exact zC rfl (zB rfl (by first | rfl | (first | exact congrArg (fun k => D.p (i64 k)) (sL hc0).symm | exact congrArg (fun k => D.p (i64 k)) ((fE (by omega)).trans (hg.trans (fO (by omega) hc2))).symm | exact congrArg (fun k => D.p (i64 k)) ((fE (by omega)).trans (hg.trans (gO (by omega) hc2 (by omega)))).symm | exact congrArg (fun k => D.p (i64 k)) ((fE (by omega)).trans (hg.trans (iO (by omega) hc2 (by omega) hc4))).symm | exact congrArg (fun k => D.p (i64 k)) ((fE (by omega)).trans (hg.trans (jO (by omega)))).symm)))
     ·try simp only [Zp,Zi,ZK,ZJ,ne_eq,Zn,Zm,ZB,ZA,ZI,not_or,not_and,Zu] at hc4
      refine uB ?_
      refine jA ?_
      refine dF hX hb (jD hP) [(0,true),(1,true),(2,true),(3,true),(4,true),(5,true),(6,true),(7,true),(8,true),(9,true),(10,true),(11,true),(12,true)] (by kernel_rfl) (σ' := ?s13) (fun K hK => ?h13) ?n13
      case h13 =>
       iterate 13 (refine eF rfl (by simp (disch := omega) only [qop,fop,St.ev,St.put,cd,zd,Value.oneCell',lA,TypeDesc.aggB,Z0,Int.toNat_zero,Int.toNat_one,xA,yA,wA,ZO,Nat.mul_one,ZC,Nat.zero_mul,Zh,fA,oA,Z1,pA,qA,tA,eA,D.pure?,ZD,cB,iop,tt,Z2] <;> exact rfl) (by simp only [St.put,Za,Zb] <;> exact rfl) ?_)
       refine xC ?_
       exact hK
      refine cE ?_
      refine jA ?_
      refine gA hX hb [0,1,2] rfl (σ' := ?s14) (fun K hK => ?h14) ?n14
      case h14 =>
       iterate 3 (refine kA rfl (by simp (disch := omega) only [iA,aA,qop,fop,St.ev,St.put,cd,zd,Value.oneCell',lA,TypeDesc.aggB,Z0,cB,iop,tt,Z2] <;> exact rfl) ?_)
       refine bA ?_
       exact hK
      refine jA ?_
      exact ⟨(i + 1,(es.getD i (0,0)).1 + (es.getD i (0,0)).2 - 1),by refine ⟨by dsimp only; omega,by dsimp only; omega,by dsimp only; omega,?_⟩; dsimp only; rw [hg,eGA (by omega) hc2 (by omega) hc4]; congr 1; omega,by (try dsimp only); omega,rC ⟨rfl,(by repeat first | exact sA | refine mB ?_ | refine vA rfl ?_),(xB _),(yB _),rfl,rfl⟩⟩
  ·try simp only [Zp,Zi,ZK,ZJ,ne_eq,Zn,Zm,ZB,ZA,ZI,not_or,not_and,Zu] at hc1
   refine oD ?_
   refine fD ?_
   refine fD ?_
   refine zE ?_
   refine jA ?_
   refine cA ?_
   refine gA hX hb [0] rfl (σ' := ?s15) (fun K hK => ?h15) ?n15
   case h15 =>
    (refine kA rfl (by simp (disch := omega) only [iA,aA,qop,fop,St.ev,St.put,cd,zd,Value.oneCell',lA,TypeDesc.aggB,Z0,Z2] <;> exact rfl) ?_)
    refine bA ?_
    exact hK
   refine jA ?_
   refine bC ?_
   exact zC rfl (zB rfl (by first | rfl | (first | exact congrArg (fun k => D.p (i64 k)) (sL hc0).symm | exact congrArg (fun k => D.p (i64 k)) ((fE (by omega)).trans (hg.trans (fO (by omega) hc2))).symm | exact congrArg (fun k => D.p (i64 k)) ((fE (by omega)).trans (hg.trans (gO (by omega) hc2 (by omega)))).symm | exact congrArg (fun k => D.p (i64 k)) ((fE (by omega)).trans (hg.trans (iO (by omega) hc2 (by omega) hc4))).symm | exact congrArg (fun k => D.p (i64 k)) ((fE (by omega)).trans (hg.trans (jO (by omega)))).symm)))
end Go.Proofs.Ytldcoekbgfaomaa
end
section
namespace Go.Proofs.Ytldcoekbgfaomaa
open Go.RowKit
/-- The numbers in extents. -/
def vB (es : List (Int × Int)) : List Nat := es.flatMap fun e => List.range' e.1.toNat e.2.toNat
theorem bK (es : List (Int × Int)) (e : Int × Int) : vB (es ++ [e]) = vB es ++ List.range' e.1.toNat e.2.toNat := by simp [vB]
theorem cK (a k : Nat) : List.range' a (k + 1) = List.range' a k ++ [a + k] := by
 rw [List.range'_1_concat]
/-- Extents that stand in order within n places,from a on. -/
def AscX (n : Nat) : Nat → List (Int × Int) → Prop
 | _,[] => True
 | a,e :: r => (a : Int) ≤ e.1 ∧ 1 ≤ e.2 ∧ e.1 + e.2 ≤ n ∧ AscX n (e.1.toNat + e.2.toNat + 1) r
theorem rZ {n : Nat} : ∀ {es : List (Int × Int)} {a : Nat},xGo n a es = 0 → AscX n a es
 | [],_,_ => trivial
 | e :: r,a,h => by
  rw [xGo] at h
  split at h
  ·cases h
  ·split at h
   ·cases h
   ·split at h
    ·cases h
    ·refine ⟨by omega,by omega,by omega,rZ ?_⟩
     rw [← h]
     congr 1
     omega
theorem bH {es : List (Int × Int)} {n : Nat} (h : fJ es n = 0) : n ≤ 4096 ∧ AscX n 0 es := by
 unfold fJ at h
 split at h
 ·cases h
 ·exact ⟨by omega,rZ h⟩
theorem AscX.nodes {n : Nat} : ∀ {es : List (Int × Int)} {a : Nat},AscX n a es → (vB es).Pairwise (· < ·) ∧ ∀ x ∈ vB es,a ≤ x ∧ x < n
 | [],a,_ => ⟨List.Pairwise.nil,fun x h => by cases h⟩
 | e :: r,a,⟨h1,h2,h3,h4⟩ => by
  obtain ⟨i1,i2⟩ := h4.nodes
  have hn : vB (e :: r) = List.range' e.1.toNat e.2.toNat ++ vB r := by simp [vB]
  rw [hn]
  refine ⟨List.pairwise_append.2 ⟨List.pairwise_lt_range',i1,fun x hx y hy => ?_⟩,fun x hx => ?_⟩
  ·have := List.mem_range'_1.1 hx
   have := (i2 y hy).1
   omega
  ·rcases List.mem_append.1 hx with hx | hx
   ·have := List.mem_range'_1.1 hx
    omega
   ·have := i2 x hx
    omega
theorem sZ {n : Nat} {X : List Nat} (h : X.Pairwise (· < ·)) (hn : ∀ x ∈ X,x < n) : X.length ≤ n := by
 have hnd : X.Nodup := h.imp (fun h => Nat.ne_of_lt h)
 have := hnd.length_le_of_subset (l₂ := List.range n) (fun x hx => List.mem_range.2 (hn x hx))
 simpa using this
theorem qK {es : List (Int × Int)} {n : Nat} (h : fJ es n = 0) : (vB es).length ≤ n := sZ (bH h).2.nodes.1 fun x hx => ((bH h).2.nodes.2 x hx).2
theorem nS {es : List (Int × Int)} {n : Nat} (h : fJ es n = 0) : ∀ x ∈ vB es,x < n := fun x hx => ((bH h).2.nodes.2 x hx).2
theorem AscX.at {n : Nat} : ∀ {es : List (Int × Int)} {a : Nat},AscX n a es → ∀ e ∈ es,∃ u v : Nat,e = ((u : Int),(v : Int)) ∧ 1 ≤ v ∧ u + v ≤ n
 | e :: r,a,⟨h1,h2,h3,h4⟩,x,hx => by
  rcases List.mem_cons.1 hx with rfl | hx
  ·obtain ⟨u,v⟩ := x
   dsimp only at h1 h2 h3
   exact ⟨u.toNat,v.toNat,by rw [Int.toNat_of_nonneg (by omega),Int.toNat_of_nonneg (by omega)],by omega,by omega⟩
  ·exact h4.at x hx
theorem xY {es : List (Int × Int)} {n : Nat} (h : fJ es n = 0) {i : Nat} (hi : i < es.length) : ∃ u v : Nat,es.getD i (0,0) = ((u : Int),(v : Int)) ∧ 1 ≤ v ∧ u + v ≤ n := (bH h).2.at _ (qE es (0,0) i hi)
theorem AscX.few {n : Nat} : ∀ {es : List (Int × Int)} {a : Nat},AscX n a es → es.length ≤ (vB es).length
 | [],_,_ => Nat.zero_le _
 | e :: r,a,⟨h1,h2,h3,h4⟩ => by
  have := h4.few
  have hn : vB (e :: r) = List.range' e.1.toNat e.2.toNat ++ vB r := by simp [vB]
  rw [hn,List.length_append,List.length_range',List.length_cons]
  omega
theorem wJ {es : List (Int × Int)} {n : Nat} (h : fJ es n = 0) : es.length ≤ n ∧ n ≤ 4096 := ⟨Nat.le_trans (bH h).2.few (qK h),(bH h).1⟩
theorem mL {es : List (Int × Int)} {i u v : Nat} (hi : i < es.length) (h : es.getD i (0,0) = ((u : Int),(v : Int))) : vB (es.take (i + 1)) = vB (es.take i) ++ List.range' u v := by
 rw [uF es i hi,bK,h]
 simp
theorem sM (es : List (Int × Int)) (i : Nat) : vB es = vB (es.take i) ++ vB (es.drop i) := by
 unfold vB
 rw [← List.flatMap_append,List.take_append_drop]
theorem tAA {es : List (Int × Int)} {i u v k : Nat} (hi : i < es.length) (h : es.getD i (0,0) = ((u : Int),(v : Int))) (hk : k < v) : (vB es)[(vB (es.take i)).length + k]? = some (u + k) := by
 rw [sM es (i + 1),mL hi h,List.append_assoc,List.getElem?_append_right (Nat.le_add_right _ _),Nat.add_sub_cancel_left,List.getElem?_append_left (by simpa using hk),List.getElem?_range' hk]
 simp
/-- One number more in extents. -/
def dR (out : List (Int × Int)) (x : Int) : List (Int × Int) :=
 if 0 < out.length ∧ (out.getD (out.length - 1) (0,0)).1 + (out.getD (out.length - 1) (0,0)).2 = x then
  out.take (out.length - 1) ++ [((out.getD (out.length - 1) (0,0)).1,(out.getD (out.length - 1) (0,0)).2 + 1)]
 else out ++ [(x,1)]
def gI (X : List Nat) : List (Int × Int) := (X.map fun n : Nat => (n : Int)).foldl dR []
theorem nV {out : List (Int × Int)} {x : Int} (h : 0 < out.length ∧ (out.getD (out.length - 1) (0,0)).1 + (out.getD (out.length - 1) (0,0)).2 = x) :
  dR out x = out.take (out.length - 1) ++ [((out.getD (out.length - 1) (0,0)).1,(out.getD (out.length - 1) (0,0)).2 + 1)] := if_pos h
theorem oS {out : List (Int × Int)} {x : Int} (h : ¬ (0 < out.length ∧ (out.getD (out.length - 1) (0,0)).1 + (out.getD (out.length - 1) (0,0)).2 = x)) : dR out x = out ++ [(x,1)] := if_neg h
/-- What extents under way may be. -/
def AddS (n : Nat) (out : List (Int × Int)) : Prop := out.length ≤ n ∧ ∀ e ∈ out,0 ≤ e.1 ∧ e.1 ≤ 4294967296 ∧ 0 ≤ e.2 ∧ e.2 ≤ n
theorem AddS.nil : AddS 0 [] := ⟨Nat.le_refl _,fun e h => by cases h⟩
theorem AddS.step {n : Nat} {out : List (Int × Int)} {x : Int} (h : AddS n out) (h0 : 0 ≤ x) (h1 : x ≤ 4294967296) : AddS (n + 1) (dR out x) := by
 obtain ⟨q1,q2⟩ := h
 by_cases hc : 0 < out.length ∧ (out.getD (out.length - 1) (0,0)).1 + (out.getD (out.length - 1) (0,0)).2 = x
 ·rw [nV hc]
  have hl := q2 _ (qE out (0,0) (out.length - 1) (by omega))
  refine ⟨by simp; omega,fun e he => ?_⟩
  rcases List.mem_append.1 he with he | he
  ·have := q2 e (List.mem_of_mem_take he)
   omega
  ·simp only [List.mem_singleton] at he
   subst he
   dsimp only
   omega
 ·rw [oS hc]
  refine ⟨by simp; omega,fun e he => ?_⟩
  rcases List.mem_append.1 he with he | he
  ·have := q2 e he
   omega
  ·simp only [List.mem_singleton] at he
   subst he
   dsimp only
   omega
theorem AddS.last {n : Nat} {out : List (Int × Int)} (h : AddS n out) : out.length = 0 ∨ (0 ≤ (out.getD (out.length - 1) (0,0)).1 ∧ (out.getD (out.length - 1) (0,0)).1 ≤ 4294967296 ∧ 0 ≤ (out.getD (out.length - 1) (0,0)).2 ∧ (out.getD (out.length - 1) (0,0)).2 ≤ n) := by
 by_cases h0 : out.length = 0
 ·exact .inl h0
 ·exact .inr (h.2 _ (qE out (0,0) _ (by omega)))
theorem yY (l : List (Int × Int)) : ∀ y ∈ dE l,∃ u,y = .v u := by
 intro y hy
 obtain ⟨e,_,he⟩ := List.mem_flatMap.1 hy
 simp only [List.mem_cons,List.not_mem_nil,or_false] at he
 rcases he with rfl | rfl <;> exact ⟨_,rfl⟩
/-! ### The bound -/
def wM (d N : Nat) : Nat := if h : N ≤ 1 then 0 else min N (2 * min d ((N + 1) / 2)) + wM d ((N + 1) / 2)
 termination_by N
 decreasing_by omega
theorem rJ {d N : Nat} (h : N ≤ 1) : wM d N = 0 := by rw [wM,dif_pos h]
theorem sJ {d N : Nat} (h : ¬ N ≤ 1) : wM d N = min N (2 * min d ((N + 1) / 2)) + wM d ((N + 1) / 2) := by rw [wM,dif_neg h]
theorem fX (d : Nat) : ∀ (k N : Nat),N ≤ k → wM d N ≤ 3 * N
 | k,N,hk => by
  by_cases h : N ≤ 1
  ·rw [rJ h]; omega
  ·match k,hk with
   | 0,hk => omega
   | k + 1,hk =>
    rw [sJ h]
    have := fX d k ((N + 1) / 2) (by omega)
    omega
def iI (s f d : Int) : Int × Int :=
 if s < 1 ∨ 4096 < s then (0,2) else if f < 1 ∨ 4096 < f then (0,1) else if d < 0 ∨ (wD s.toNat f.toNat : Int) < d then (0,2) else ((1 + wM d.toNat (wD s.toNat f.toNat) : Nat),0)
/-! ### Digests in bytes -/
def tZ (b : List Int) (i : Nat) (d : Int) (k : Nat) : Int := IntKind.u64.wrap (d + IntKind.u64.wrap (IntKind.u64.wrap (b.getD (8 * i + k) 0) * 2 ^ min (8 * (k : Int)).toNat IntKind.u64.bits))
def vHA (b : List Int) (i : Nat) : Int := (List.range 8).foldl (tZ b i) 0
end Go.Proofs.Ytldcoekbgfaomaa
end
